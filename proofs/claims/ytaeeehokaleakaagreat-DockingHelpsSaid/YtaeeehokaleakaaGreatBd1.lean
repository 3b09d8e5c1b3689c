/- Texts of one hand, gathered: ShelfExtra, DkJ, DkN, DkV, DkO, DkP, DkQ, RaA, FwKa, DkB, DkK, PvLc, DkL, DkM, DkR, DkS, DkTa, DkI, DkT, DkW, DlH, DkX, DlI, DkY, DkZ, DlC, DlB, DlA, DlFa, DlJ, DlQ, DlS, DlU, DlX, DlV, DlW, DlP, DlK, DmD, DnJ, DmA, DmB, DmC, DmE, DpB. -/
import Derived.Test.YtaeeehokaleakaaGreatBa4
import Derived.WalkKit
import Derived.Deep.LoopGhost
import Derived.Deep.RegionLaw
import Derived.Lib.Walk
import Derived.Sort.WalkB12
import Derived.Lib.SliceRun
set_option maxRecDepth 20000
set_option linter.unusedSectionVars false
set_option linter.unusedSimpArgs false
set_option linter.unusedVariables false
set_option linter.unnecessarySimpa false
namespace Go.Proofs
open Go.Shelf
def Tryz.lays125_ren:Go.Shelf.Ren:=⟨fun|125=>181|128=>251|129=>252|n=>n,fun|46=>255|3=>3|51=>307|53=>217|4=>4|5=>5|9=>9|n=>n,fun|n=>n⟩
theorem Tryz.lays125:Go.Proofs.Lays.n125 Tryz.prog Tryz.lays125_ren:={
 mixed:=by kernel_rfl
 f125:=Tryz.func181.trans (congrArg some (by kernel_rfl))
 f128:=Tryz.func251.trans (congrArg some (by kernel_rfl))
 f129:=Tryz.func252.trans (congrArg some (by kernel_rfl))
 t3:=Tryz.underlying3
 a3:=Tryz.isAgg3
 z3:=Tryz.sizeOf3
 v3:=Tryz.zeroValue3
 t4:=Tryz.underlying4
 a4:=Tryz.isAgg4
 z4:=Tryz.sizeOf4
 v4:=Tryz.zeroValue4
 t5:=Tryz.underlying5
 a5:=Tryz.isAgg5
 z5:=Tryz.sizeOf5
 v5:=Tryz.zeroValue5
 t9:=Tryz.underlying9
 a9:=Tryz.isAgg9
 z9:=Tryz.sizeOf9
 v9:=Tryz.zeroValue9
 t46:=Tryz.underlying255
 a46:=Tryz.isAgg255
 z46:=Tryz.sizeOf255
 v46:=Tryz.zeroValue255
 t51:=Tryz.underlying307
 a51:=Tryz.isAgg307
 z51:=Tryz.sizeOf307
 v51:=Tryz.zeroValue307
 t53:=Tryz.underlying217
 a53:=Tryz.isAgg217
 z53:=Tryz.sizeOf217
 v53:=Tryz.zeroValue217 }
theorem Tryz.bits_Len (x:Int)(w:World)(h0:0<=x)(h1:x<=18446744073709551615) :
  Calls Tryz.prog 181 #[.int .u64 x] w fun e w'=>e=.returned (.int .i64 (Lib.bitLen x.toNat))/\w'=w:=Any.bits_Len Tryz.lays125 x w h0 h1
end Go.Proofs
set_option maxHeartbeats 2000000
namespace Go.Pv
attribute [local irreducible] PWP POps PQuiet PSem aE aw aj ak
open Go.Proofs
structure DKR.Bl (d:DKR):Prop where
 st:∀t∈d.s.st,StOk t
 n:d.s.st.length<=40
 b:∀b∈d.bl,BkIn b/\b.st.sz 12
 m:d.bl.length<=40
theorem DI (k:DKR)(hk:k.Bl):aU 143 [.agg (fv k)] (.sl ((df k.s.st k.bl).map eS)):=by
 have hml:(k.bl.map eBk).length=k.bl.length:=ap;obtain⟨hst,hn,hb,hm⟩:=hk;obtain⟨s,den,bl,zn,gm,oh⟩:=k;simp only at *
 refine aD Proofs.Tryz.func143 ?_;refine cV 2 ?_;refine ao (Ghost.nilreg (k:=1003) (t:=3) 196 7 1 O O) ?_;refine H ?_;rw[hml];refine aQ [(1,.ptr 1 1 0 0),(3,.als 1003 1 0 0),(10,.sl (bl.map eBk)),(11,I bl.length),(12,I ((0:Nat):Int))] [(1,1,⟨56,14,[fv ⟨s,den,bl,zn,gm,oh⟩],2⟩),(1003,1,⟨196,7,[],1⟩)] ah ?_;intro s0;refine ai (fun i:Nat=>i<=bl.length) (fun i=>[(1,.ptr 1 1 0 0),(3,.als 1003 (1+i) 0 ((df s.st (bl.take i)).map eS).length),(10,.sl (bl.map eBk)),(11,I bl.length),(12,I (i:Nat))])
  (fun i=>[(1,1,⟨56,14,[fv ⟨s,den,bl,zn,gm,oh⟩],2⟩),(1003,1+i,⟨196,7,(df s.st (bl.take i)).map eS,1⟩)]) (fun i=>bl.length-i) 0 (aP _) ah ?_
 intro i s1 hi;refine D ?_ ?_<;>intro h
 .have hlt:i<bl.length:=cw h;clear h;obtain⟨b,hx⟩:=ay hlt;obtain⟨hin,hsz⟩:=hb b (bC hx);have hrow:=rX (st:=s.st) hx;have e0:=pr s b.x b.z hin.x hst hn;have hbi:=oo hst b;have hht:=hin.ht;rw[show(gl b.x b.z s.st).getD 0=jK s.st b from O]at e0;have hwh:=gp (b.ht-jK s.st b);have z1:Zb 1:=aI Y Y;have z2:Zb 2:=aI Y Y;have e1:=lP 1 ⟨Y,Y⟩;have e2:=iE b.st (ofQ ((1:Int):Rat)) (hx:=hsz.v) Y Y;have e3:=lP 2 ⟨Y,Y⟩;have e4:=iE b.st (ofQ ((2:Int):Rat)) (hx:=hsz.v) Y Y;have e5:=lP (b.ht-jK s.st b) ⟨J,J⟩;have hst1:b.side=false->ofQ (jX b)=ofQ (b.st.val*((1:Int):Rat)):=fun h=>by rw[jX,h,if_neg Y,show((1:Int):Rat)=1 from O,Rat.mul_one]
  have hst2:b.side=true->ofQ (jX b)=ofQ (b.st.val*((2:Int):Rat)):=fun h=>by rw[jX,h,if_pos O];rfl
  have hbS:eS (lw s.st b)=I b.x::(eR (ofQ ((b.ht-jK s.st b:Int):Rat))++[.sl [[I 0]],.sl [eR (ofQ (jX b))]]):=O;have hw:=dN i;have hll:(df s.st (bl.take i)).length<=40:=by rw[df,aF,bc];omega
  generalize lw s.st b=bs,df s.st (bl.take i)=Bl,(gl b.x b.z s.st).isSome=bo at *
  generalize hF:ofQ (jX b)=F at *
  generalize jK s.st b=bt at *
  generalize ofQ ((b.ht-bt:Int):Rat)=C,ofQ (b.st.val*((1:Int):Rat))=F1,ofQ (b.st.val*((2:Int):Rat))=F2,ofQ ((1:Int):Rat)=W1,ofQ ((2:Int):Rat)=W2 at *
  refine aN hx ?_;refine ax e0 ?_;refine cV 6 ?_;refine ao (e_ 8) ?_;refine a_ [(4,8),(5,8)] aH aH ?_;refine G e1 ?_;refine G e2 ?_;refine H ?_;by_cases hsd:b.side=true
  .have hF2:=hst2 hsd;subst hF2;rw[hsd];refine cX 4 [32,33,34,35] ?_;refine G e3 ?_;refine G e4 ?_;refine H ?_;refine bL [49,1003] [13,14,15] aH ?_;refine H ?_;rw[hwh];refine oJ O O O e5 O O ?_;refine H ?_;refine ci O O (fE O O O O O O O O O O ah O) ?_;refine H ?_;refine ci O O (dQ O O O O O O O O O O ah O) ?_;refine H ?_;refine jQ O O O (bb 1 O O O O O O O O O O O ah O ⟨fU O,?_⟩);refine H ?_;refine jQ O O O (bO 1 O O O O O O O O O O O ah (by intro row hr;first|(simp at hr;subst hr;rfl)|(simp at hr;obtain⟨_,_,rfl⟩:=hr;rfl)|simp at hr) O O aS aS ⟨fU O,?_⟩);refine H ?_;have hr2:(df s.st (bl.take (i+1))).map eS=Bl.map eS++[I b.x::(eR C++[.sl [[I 0]],.sl [eR F]])]:=by rw[hrow,bj,<-hbS];rfl
   refine⟨i+1,hlt,J,O,?_,O,O,congrArg I hw,O,?_,bh⟩
   .rw[hr2];rfl
   .rw[hr2];rfl
  .have hsd:b.side=false:=by simpa using hsd
   have hF1:=hst1 hsd;subst hF1;rw[hsd];refine H ?_;refine bL [49,1003] [13,14,15] aH ?_;refine H ?_;rw[hwh];refine oJ O O O e5 O O ?_;refine H ?_;refine ci O O (fE O O O O O O O O O O ah O) ?_;refine H ?_;refine ci O O (dQ O O O O O O O O O O ah O) ?_;refine H ?_;refine jQ O O O (bb 1 O O O O O O O O O O O ah O ⟨fU O,?_⟩);refine H ?_;refine jQ O O O (bO 1 O O O O O O O O O O O ah (by intro row hr;first|(simp at hr;subst hr;rfl)|(simp at hr;obtain⟨_,_,rfl⟩:=hr;rfl)|simp at hr) O O aS aS ⟨fU O,?_⟩);refine H ?_;have hr2:(df s.st (bl.take (i+1))).map eS=Bl.map eS++[I b.x::(eR C++[.sl [[I 0]],.sl [eR F]])]:=by rw[hrow,bj,<-hbS];rfl
   refine⟨i+1,hlt,J,O,?_,O,O,congrArg I hw,O,?_,bh⟩
   .rw[hr2];rfl
   .rw[hr2];rfl
 .have hie:i=bl.length:=co h;clear h;subst hie;rw[bI]
  (repeat ((fail_if_success (with_reducible refine fh ?_));refine wV O ?_))
  refine ao (Ghost.takeD (k:=1003) (t:=2) O O O) ?_;exact cA
theorem u9 {K:St->Prop}{s':St}{d g2 h3:Nat}{c2 c3:Cont}{x:Operand}{tys:Array TypeId}{ty:TypeId}{pos:String}{af:Array Edge}(k:DKR)(hk:k.Bl)(hx:s'.ev x=.agg (fv k))(ho:FitO s' [(2,g2,c2),(3,h3,c3)])
  (hK:∀(s1:St) (g:Nat),K (({ reg:=s'.reg,own:=(s1.over [] [(1003,g,⟨196,7,(df k.s.st k.bl).map eS,1⟩),(2,g2,c2),(3,h3,c3)]).own }:St).putR d (.als 1003 g 0 ((df k.s.st k.bl).map eS).length))) :
  Sm Tryz.prog lay.get s' ⟨some d,.call ⟨.value (.func 143),#[x],tys⟩,ty,pos,af,none⟩ K:=by
 have hml:(k.bl.map eBk).length=k.bl.length:=ap;obtain⟨hst,hn,hb,hm⟩:=hk;obtain⟨s,den,bl,zn,gm,oh⟩:=k;simp only at *
 refine cz layOk O O Tryz.func143 O Y O O ?_;show PWP _ _ _ _ (bB s' (([x]:List Operand).map s'.ev++[]));rw[show(([x]:List Operand).map s'.ev++([]:List PV))=[.agg (fv ⟨s,den,bl,zn,gm,oh⟩)] by simp[hx]];rw[show bB s' [.agg (fv ⟨s,den,bl,zn,gm,oh⟩)]=bB (s'.over [] [(2,g2,c2),(3,h3,c3)]) [.agg (fv ⟨s,den,bl,zn,gm,oh⟩)] by rw[Fit.over (l:=[]) ho]];refine cV 2 ?_;refine ao (Ghost.nilreg (k:=1003) (t:=3) 196 7 1 O O) ?_;refine H ?_;rw[hml];refine aQ [(1,.ptr 1 ((s'.own 1).1+1) 0 0),(3,.als 1003 ((s'.own 1003).1+1) 0 0),(10,.sl (bl.map eBk)),(11,I bl.length),(12,I ((0:Nat):Int))] [(1,((s'.own 1).1+1),⟨56,14,[fv ⟨s,den,bl,zn,gm,oh⟩],2⟩),(1003,((s'.own 1003).1+1),⟨196,7,[],1⟩),(2,g2,c2),(3,h3,c3)] ah ?_;generalize (s'.own 1).1+1=g1;generalize (s'.own 1003).1+1=g3;intro s0;refine ai (fun i:Nat=>i<=bl.length) (fun i=>[(1,.ptr 1 g1 0 0),(3,.als 1003 (g3+i) 0 ((df s.st (bl.take i)).map eS).length),(10,.sl (bl.map eBk)),(11,I bl.length),(12,I (i:Nat))])
  (fun i=>[(1,g1,⟨56,14,[fv ⟨s,den,bl,zn,gm,oh⟩],2⟩),(1003,g3+i,⟨196,7,(df s.st (bl.take i)).map eS,1⟩),(2,g2,c2),(3,h3,c3)]) (fun i=>bl.length-i) 0 (aP _) ah ?_
 intro i s1 hi;refine D ?_ ?_<;>intro h
 .have hlt:i<bl.length:=cw h;clear h;obtain⟨b,hx⟩:=ay hlt;obtain⟨hin,hsz⟩:=hb b (bC hx);have hrow:=rX (st:=s.st) hx;have e0:=pr s b.x b.z hin.x hst hn;have hbi:=oo hst b;have hht:=hin.ht;rw[show(gl b.x b.z s.st).getD 0=jK s.st b from O]at e0;have hwh:=gp (b.ht-jK s.st b);have z1:Zb 1:=aI Y Y;have z2:Zb 2:=aI Y Y;have e1:=lP 1 ⟨Y,Y⟩;have e2:=iE b.st (ofQ ((1:Int):Rat)) (hx:=hsz.v) Y Y;have e3:=lP 2 ⟨Y,Y⟩;have e4:=iE b.st (ofQ ((2:Int):Rat)) (hx:=hsz.v) Y Y;have e5:=lP (b.ht-jK s.st b) ⟨J,J⟩;have hst1:b.side=false->ofQ (jX b)=ofQ (b.st.val*((1:Int):Rat)):=fun h=>by rw[jX,h,if_neg Y,show((1:Int):Rat)=1 from O,Rat.mul_one]
  have hst2:b.side=true->ofQ (jX b)=ofQ (b.st.val*((2:Int):Rat)):=fun h=>by rw[jX,h,if_pos O];rfl
  have hbS:eS (lw s.st b)=I b.x::(eR (ofQ ((b.ht-jK s.st b:Int):Rat))++[.sl [[I 0]],.sl [eR (ofQ (jX b))]]):=O;have hw:=dN i;have hll:(df s.st (bl.take i)).length<=40:=by rw[df,aF,bc];omega
  generalize lw s.st b=bs,df s.st (bl.take i)=Bl,(gl b.x b.z s.st).isSome=bo at *
  generalize hF:ofQ (jX b)=F at *
  generalize jK s.st b=bt at *
  generalize ofQ ((b.ht-bt:Int):Rat)=C,ofQ (b.st.val*((1:Int):Rat))=F1,ofQ (b.st.val*((2:Int):Rat))=F2,ofQ ((1:Int):Rat)=W1,ofQ ((2:Int):Rat)=W2 at *
  refine aN hx ?_;refine ax e0 ?_;refine cV 6 ?_;refine ao (e_ 8) ?_;refine a_ [(4,8),(5,8)] aH aH ?_;refine G e1 ?_;refine G e2 ?_;refine H ?_;by_cases hsd:b.side=true
  .have hF2:=hst2 hsd;subst hF2;rw[hsd];refine cX 4 [32,33,34,35] ?_;refine G e3 ?_;refine G e4 ?_;refine H ?_;refine bL [49,1003] [13,14,15] aH ?_;refine H ?_;rw[hwh];refine oJ O O O e5 O O ?_;refine H ?_;refine ci O O (fE O O O O O O O O O O ah O) ?_;refine H ?_;refine ci O O (dQ O O O O O O O O O O ah O) ?_;refine H ?_;refine jQ O O O (bb 1 O O O O O O O O O O O ah O ⟨fU O,?_⟩);refine H ?_;refine jQ O O O (bO 1 O O O O O O O O O O O ah (by intro row hr;first|(simp at hr;subst hr;rfl)|(simp at hr;obtain⟨_,_,rfl⟩:=hr;rfl)|simp at hr) O O aS aS ⟨fU O,?_⟩);refine H ?_;have hr2:(df s.st (bl.take (i+1))).map eS=Bl.map eS++[I b.x::(eR C++[.sl [[I 0]],.sl [eR F]])]:=by rw[hrow,bj,<-hbS];rfl
   refine⟨i+1,hlt,J,O,?_,O,O,congrArg I hw,O,?_,ah⟩
   .rw[hr2];rfl
   .rw[hr2];rfl
  .have hsd:b.side=false:=by simpa using hsd
   have hF1:=hst1 hsd;subst hF1;rw[hsd];refine H ?_;refine bL [49,1003] [13,14,15] aH ?_;refine H ?_;rw[hwh];refine oJ O O O e5 O O ?_;refine H ?_;refine ci O O (fE O O O O O O O O O O ah O) ?_;refine H ?_;refine ci O O (dQ O O O O O O O O O O ah O) ?_;refine H ?_;refine jQ O O O (bb 1 O O O O O O O O O O O ah O ⟨fU O,?_⟩);refine H ?_;refine jQ O O O (bO 1 O O O O O O O O O O O ah (by intro row hr;first|(simp at hr;subst hr;rfl)|(simp at hr;obtain⟨_,_,rfl⟩:=hr;rfl)|simp at hr) O O aS aS ⟨fU O,?_⟩);refine H ?_;have hr2:(df s.st (bl.take (i+1))).map eS=Bl.map eS++[I b.x::(eR C++[.sl [[I 0]],.sl [eR F]])]:=by rw[hrow,bj,<-hbS];rfl
   refine⟨i+1,hlt,J,O,?_,O,O,congrArg I hw,O,?_,ah⟩
   .rw[hr2];rfl
   .rw[hr2];rfl
 .have hie:i=bl.length:=co h;clear h;subst hie;rw[bI];refine H ?_;exact zr (K:=fun o r=>K (({ reg:=s'.reg,own:=o }:St).putR d r)) [(1003,g3+bl.length,⟨196,7,(df s.st bl).map eS,1⟩),(2,g2,c2),(3,h3,c3)] (.inl O) O O ⟨O,O,O,bh⟩ (fun s1=>hK s1 _)
theorem RE (x:RR){p:Rat}{n:Nat}[hx:Vq x p n](hn:n<=10000000):aU 74 [.agg (eR x),.agg zN] (.agg (eR (ofQ p))):=by
 have hs:=eJ x RR.zero J Y;rw[jI]at hs;exact hs.weak (.cons (.rfl _) (.cons fu.agg .nil)) (.rfl _)
theorem xO {A:List SR}{W:List SR}{q:Rat}{i:Nat}{s:SR}(h:W[i]?=some s):A++(W.take (i+1)).map (ri q)=A++(W.take i).map (ri q)++[ri q s]:=by
 rw[bR h,bj,bg];rfl
theorem l_ {d:DKR}(h:900<=d.d/\d.d<=1100):((fJ d:Nat):Int)=d.d:=Int.toNat_of_nonneg J
theorem lN (d:DKR)(hk:d.Bl)(hd:900<=d.d/\d.d<=1100)(he:ng d.s d.d=0)(hs:d.s.Len)(lv:RR){p:Rat}{n:Nat}[hv:Vq lv p n](hn:n<=10000000):aU 125 [.agg (fv d),.agg (eR lv)] (.sl ((dC d p).map eS)):=by
 have hdn:=l_ hd;have h1:=tB d.s hs (fJ d) (by rw[hdn];exact he) J J hk.st hk.n;rw[hdn]at h1;have h2:=RE lv (hx:=hv) hn;have hmw:((eH (fJ d) d.s.st).map eS).length=d.s.st.length:=by simp[eH]
 have hA:(df d.s.st d.bl).length<=40:=by rw[df,aF];exact hk.m
 have hWl:(eH (fJ d) d.s.st).length<=40:=by rw[eH,aF];exact hk.n
 have hmw2:((eH (fJ d) d.s.st).map eS).length=(eH (fJ d) d.s.st).length:=ap;rw[dC];have hin:=@u9;have hB:=fun K s' d' g2 h3 c2 c3 x tys ty pos af=>@u9 K s' d' g2 h3 c2 c3 x tys ty pos af d hk;generalize df d.s.st d.bl=A,eH (fJ d) d.s.st=W at *
 clear hin he hs hmw;obtain⟨s,den,bl,zn,gm,oh⟩:=d;simp only at *
 refine aD Proofs.Tryz.func125 ?_
 (refine cV 1 ?_;refine aR 1 ?_)
 refine iQ O ?_;refine bJ ?_;refine br O (hB _ _ _ _ _ _ _ _ _ _ _ _ O ⟨O,O,bh⟩ fun s1 g=>?_);refine aT ?_;refine G h1 ?_;refine H ?_;rw[hmw2];refine aQ [(2,.ptr 2 1 0 0),(3,.ptr 3 1 0 0),(5,.als 1003 g 0 (A.map eS).length),(20,.sl (W.map eS)),(21,I W.length),(22,I ((0:Nat):Int))] [(2,1,⟨56,14,[fv ⟨s,den,bl,zn,gm,oh⟩],2⟩),(3,1,⟨41,4,[eR lv],2⟩),(1003,g,⟨196,7,A.map eS,1⟩)] ah ?_;intro s2;refine ai (fun i:Nat=>i<=W.length) (fun i=>[(2,.ptr 2 1 0 0),(3,.ptr 3 1 0 0),(5,.als 1003 (g+i) 0 ((A++(W.take i).map (ri p)).map eS).length),(20,.sl (W.map eS)),(21,I W.length),(22,I (i:Nat))]) (fun i=>[(2,1,⟨56,14,[fv ⟨s,den,bl,zn,gm,oh⟩],2⟩),(3,1,⟨41,4,[eR lv],2⟩),(1003,g+i,⟨196,7,(A++(W.take i).map (ri p)).map eS,1⟩)]) (fun i=>W.length-i) 0 (aP _)
  ⟨O,O,by rw[dK,dp,cu];rfl,O,O,O,O,O,by rw[dK,dp,cu];rfl,bh⟩ ?_
 intro i s3 hi;refine D ?_ ?_<;>intro h
 .have hlt:i<W.length:=cw h;clear h;obtain⟨x,hx⟩:=ay hlt;have hrow:(A++(W.take (i+1)).map (ri p)).map eS=(A++(W.take i).map (ri p)).map eS++[I x.x::(eR (ofQ p)++[.sl (x.k.S.map eN),.sl (x.k.M.map eR)])]:=by rw[xO hx,bj];rfl
  have hw:=dN i;have hll:((A++(W.take i).map (ri p)).map eS).length<=80:=by rw[aF,bQ,aF,bc];omega
  have hb:g+(i+1)=g+i+1:=O;generalize (A++(W.take i).map (ri p)).map eS=R,ofQ p=Q at *
  refine aN hx ?_;refine G h2 ?_;refine H ?_;refine aC (bb 1 O O O O O O O O O O O ah O ?_);refine H ?_;refine aC (bO 1 O O O O O O O O O O O ah fW O O aS aS ?_);refine H ?_;refine⟨i+1,hlt,J,O,O,?_,O,O,congrArg I hw,O,O,?_,bh⟩
  .rw[hrow,hb];rfl
  .rw[hrow,hb];rfl
 have hie:i=W.length:=co h;clear h;subst hie;rw[bI]
 (repeat ((fail_if_success (with_reducible refine fh ?_));refine wV O ?_))
 refine ao (Ghost.takeD (k:=1003) (t:=4) O O O) ?_;exact cA
theorem vU (a:AR)(x:Int)(hx:i64 x){z t:Rat}{n m:Nat}[ha:Va a z t n m](hn:n<=1000000)(hm:m<=1000000):aU 76 [.agg (eA a),I x] (.agg (eR (ofQ (z+t*(x:Rat))))):=by
 have hxz:Zb x:=aI hx.1 hx.2;have hw:=dh x hx;have h1:=iE a.t (ofQ (x:Rat)) (hx:=ha.t) J Y;have v1:Vq (ofQ (t*(x:Rat))) (t*(x:Rat)) (m+1+4):=Vq.ofQ (h:=@HQ.mul _ _ (m+1) 4 ha.t.hq HQ.int);have h2:=eJ a.z (ofQ (t*(x:Rat))) (hx:=ha.z) (hy:=v1) J J;obtain⟨az,at'⟩:=a;simp only at *
 generalize ofQ (z+t*(x:Rat))=X2,ofQ (t*(x:Rat))=X1,ofQ (x:Rat)=X0 at *
 refine aD Proofs.Tryz.func76 ?_;refine cX 8 [5,6,7,8,9,10,11,12] ?_;refine G hw ?_;refine G h1 ?_;refine G h2 ?_;exact cA
theorem DJ (F:List RR)(hl:F.length<=1000000):aU 126 [.sl (F.map eR)] (.sl (F.map eR)):=by
 refine aD Proofs.Tryz.func126 ?_
 (refine cV 1 ?_;refine aR 1 ?_)
 refine iQ O ?_;refine bJ ?_;refine br O (sP layOk O O O (fun h0=>?_) ?_)
 .rw[h0];refine aT ?_
  (repeat ((fail_if_success (with_reducible refine fh ?_));refine wV O ?_))
  refine ao (Ghost.nilfs (t:=2) O) ?_;exact cA
 .refine aT ?_;refine H ?_;refine aC (bb 1 O O O O O O O O O O O ah O ?_);refine H ?_;refine aC (bO 1 O O O O O O O O O O O ah (by intro row hr;obtain⟨p,_,rfl⟩:=aW.1 hr;rfl) O O aS aS ?_)
  (repeat ((fail_if_success (with_reducible refine fh ?_));refine wV O ?_))
  refine ao (Ghost.takeD (k:=5) (t:=2) O O O) ?_;exact cA
def lI (q:Int × Int)(x:Int):Int × Int:=if q.2=0\/x≠q.1 then(x,q.2+1) else q
def ni:List BKR->List Rat->List Int
 |b::l,q::v=>if q≠0 then b.x::ni l v else ni l v
 |_,_=>[]
def pj (l:List Int):Int × Int:=l.foldl lI (0,0)
def kH (bl:List BKR)(v:List Rat)(b:Rat):Int:=if (pj (ni bl v)).2=0 then 0 else if (pj (ni bl v)).2=1 then 1 else if b=0 then 3 else 2
theorem vV:∀ {bl:List BKR} {v:List Rat} {k:Nat} {b:BKR} {q:Rat},bl[k]?=some b->v[k]?=some q->ni (bl.take (k+1)) (v.take (k+1))=ni (bl.take k) (v.take k)++(if q≠0 then [b.x] else [])
 |[],_,k,b,q,h,_=>by simp at h
 |c::bl,[],k,b,q,_,h=>by simp at h
 |c::bl,p::v,0,b,q,h1,h2=>by
  simp at h1 h2;subst h1 h2;simp[ni]
 |c::bl,p::v,k+1,b,q,h1,h2=>by
  have ih:=vV (bl:=bl) (v:=v) (k:=k) (b:=b) (q:=q) (by simpa using h1) (by simpa using h2);rw[kZ,kZ,kZ,kZ,ni,ni,ih];split<;>simp
theorem KE (l:List Int):0<=(pj l).2/\(pj l).2<=l.length:=by
 have key:∀(l:List Int) (q:Int × Int),0<=q.2->0<=(l.foldl lI q).2/\(l.foldl lI q).2<=q.2+l.length:=by
  intro l
  induction l with
  |nil=>intro q h;simp;omega
  |cons x l ih =>
   intro q h;have h1:0<=(lI q x).2/\(lI q x).2<=q.2+1:=by
    rw[lI];split
    .exact⟨show 0<=q.2+1 by omega,oE _⟩
    .exact⟨h,J⟩
   have:=ih (lI q x) h1.1;rw[fB,dl];omega
 have:=key l (0,0) Y;simpa [pj] using this
theorem FM:∀(bl:List BKR) (v:List Rat),(ni bl v).length<=v.length
 |[],v=>by simp[ni]
 |_::_,[]=>by simp[ni]
 |b::bl,q::v=>by
  have:=FM bl v;rw[ni];split<;>simp<;>omega
theorem Cp (l:List Int)(x:Int):pj (l++[x])=lI (pj l) x:=by rw[pj,pj,kA];rfl
theorem HX (d:DKR)(v:List Rat)(hl:v.length<=d.bl.length)(hm:v.length<=1000)(hv:∀q∈v,hq q 7000000)(b:Rat)(hb:hq b 7000000):aU 129 [.agg (fv d),.sl ((v.map ofQ).map eR),.agg (eR (ofQ b))] (I (kH d.bl v b)):=by
 have hml:((v.map ofQ).map eR).length=v.length:=ap;have sb:=CZ (ofQ b) (hx:=Vq.ofQ (h:=⟨hb⟩)) Y;have hbz:=gi b;generalize hf:kH d.bl v b=E;obtain⟨s,den,bl,zn,gm,oh⟩:=d;simp only at *
 refine aD Proofs.Tryz.func129 ?_;refine H ?_;rw[hml];refine ai (fun i:Nat=>i<=v.length) (fun i=>[(1,.sl ((v.map ofQ).map eR)),(3,.ptr 3 1 0 0),(5,.ptr 5 1 0 0),(7,I (pj (ni (bl.take i) (v.take i))).1),(8,I (pj (ni (bl.take i) (v.take i))).2),(11,.sl ((v.map ofQ).map eR)),(12,I v.length),(13,I (i:Nat))])
  (fun _=>[(3,1,⟨56,14,[fv ⟨s,den,bl,zn,gm,oh⟩],2⟩),(5,1,⟨41,4,[eR (ofQ b)],2⟩)]) (fun i=>v.length-i) 0 (aP _) ⟨O,O,O,by rw[dK,dK];rfl,by rw[dK,dK];rfl,ah⟩ ?_
 intro i s1 hi;refine D ?_ ?_<;>intro h
 .have hlt:i<v.length:=cw h;clear h;obtain⟨q,hq⟩:=ay hlt;obtain⟨c,hc⟩:=ay (show i<bl.length by omega);have hx:(v.map ofQ)[i]?=some (ofQ q):=by rw[bw,hq];rfl
  have sq:=CZ (ofQ q) (hx:=Vq.ofQ (h:=⟨hv q (bC hq)⟩)) Y;have hqz:=gi q;have hsn:=vV hc hq;have hple:=KE (ni (bl.take i) (v.take i));have hpl2:=FM (bl.take i) (v.take i);rw[bc]at hpl2;have hw:=dN i;have hwp:=gp ((pj (ni (bl.take i) (v.take i))).2+1);have hph:=Cp (ni (bl.take i) (v.take i)) c.x;rw[lI]at hph;clear hple hpl2;generalize ni (bl.take i) (v.take i)=A at *
  generalize hAn:(pj A).2=P at *
  generalize hAx:(pj A).1=X at *
  generalize sgn q=g,ofQ q=qq at *
  refine aN hx ?_;refine ax sq ?_;refine H ?_;by_cases h0:g=0
  .have hq0:=hqz.1 h0;subst h0;refine H ?_;refine⟨i+1,hlt,J,O,O,O,?_,?_,O,O,congrArg I hw,ah⟩
   .rw[hsn,if_neg (by simpa using hq0),cu,hAx];rfl
   .rw[hsn,if_neg (by simpa using hq0),cu,hAn];rfl
  have hq0:q≠0:=fun e=>h0 (hqz.2 e);rw[if_pos hq0]at hsn;rw[decide_eq_false h0];refine H ?_;by_cases hP:P=0
  .rw[if_pos (.inl hP)]at hph;rw[decide_eq_true hP];refine aN hc ?_;refine H ?_;rw[hwp];refine⟨i+1,hlt,J,O,O,O,?_,?_,O,O,congrArg I hw,ah⟩
   .rw[hsn,hph];rfl
   .rw[hsn,hph];rfl
  rw[decide_eq_false hP];refine aN hc ?_;refine D ?_ ?_<;>intro h
  .have hX:c.x≠X:=by simpa using h
   clear h;rw[if_pos (.inr hX)]at hph;refine aN hc ?_;refine H ?_;rw[hwp];refine⟨i+1,hlt,J,O,O,O,?_,?_,O,O,congrArg I hw,ah⟩
   .rw[hsn,hph];rfl
   .rw[hsn,hph];rfl
  .have hX:c.x=X:=by simpa using h
   clear h;rw[if_neg (fun e=>e.elim hP fun e=>e hX)]at hph;refine H ?_;refine⟨i+1,hlt,J,O,O,O,?_,?_,O,O,congrArg I hw,ah⟩
   .rw[hsn,hph,hAx];rfl
   .rw[hsn,hph,hAn];rfl
 have hie:i=v.length:=co h;clear h;subst hie;have hA:ni (bl.take v.length) (v.take v.length)=ni bl v:=by
  rw[bI];have key:∀(v:List Rat) (bl:List BKR),ni (bl.take v.length) v=ni bl v:=by
   intro v
   induction v with
   |nil=>intro bl;cases bl<;>simp[ni]
   |cons q v ih=>intro bl;cases bl with
    |nil=>simp[ni]
    |cons b bl=>simp only[dl,kZ,ni,ih]
  exact key v bl
 rw[hA];rw[kH]at hf;generalize (pj (ni bl v)).1=X,(pj (ni bl v)).2=P at *
 clear hA;refine H ?_;by_cases h0:P=0
 .rw[if_pos h0]at hf;rw[decide_eq_true h0];subst hf;exact cB
 rw[if_neg h0]at hf;rw[decide_eq_false h0];refine H ?_;by_cases h1:P=1
 .rw[if_pos h1]at hf;rw[decide_eq_true h1];subst hf;exact cB
 rw[if_neg h1]at hf;rw[decide_eq_false h1];refine ax sb ?_;refine H ?_;by_cases h2:b=0
 .rw[if_pos h2]at hf;rw[decide_eq_true (hbz.2 h2)];subst hf;exact cB
 .rw[if_neg h2]at hf;rw[decide_eq_false (fun e=>h2 (hbz.1 e))];subst hf;exact cB
structure STQ where
 km:RR
 kg:RR
 gm:RR
 ot:RR
def FC (x:STQ):List PV:=eR x.km++eR x.kg++eR x.gm++eR x.ot
def Oy:STQ:=⟨RR.zero,RR.zero,RR.zero,RR.zero⟩
structure DQ where
 lv:RR
 a:AR
 F:List RR
 up:RR
 bu:RR
 s:STQ
 held:Bool
 ph:Int
def xq (x:DQ):List PV:=eR x.lv++eA x.a++[.sl (x.F.map eR)]++eR x.up++eR x.bu++FC x.s++[.bool x.held,I x.ph]
def xj:List PV:=zN++zN++zN++zN
def Mi:List PV:=zN++(zN++zN)++[.nil]++zN++zN++xj++[.bool false,I 0]
def dZ:DQ:=⟨RR.zero,zA,[],RR.zero,RR.zero,Oy,false,0⟩
theorem xo:WeakL xj (FC Oy):=((fu.app fu).app fu).app fu
theorem rP:WeakL Mi (xq dZ):=((((((fu.app (fu.app fu)).app (.cons .nil .nil)).app fu).app fu).app xo).app (WeakL.refl _))
def aX (l:List Rat):Rat:=l.foldl (·+·) 0
theorem jy (l:List Rat)(x:Rat):aX (l++[x])=aX l+x:=by rw[aX,kA];rfl
theorem nZ {N:Nat}{l:List Rat}(h:∀q∈l,hq q N):hq (aX l) ((N+1)*l.length+4):=by
 have key:∀(l:List Rat) (a:Rat) (m:Nat),hq a m->(∀q∈l,hq q N)->hq (l.foldl (·+·) a) (m+(N+1)*l.length):=by
  intro l
  induction l with
  |nil=>intro a m ha _;simpa using ha
  |cons x l ih =>
   intro a m ha hl;rw[fB,dl];have:=ih (a+x) (m+N+1) (@HQ.add a x m N ⟨ha⟩ ⟨hl x ez⟩).ok fun q hq=>hl q (ff _ hq);rwa [show m+N+1+(N+1)*l.length=m+(N+1)*(l.length+1) by rw[cy];omega]at this
 have:=key l 0 4 HQ.zero.ok h;rwa [lg]at this
def fa:List BKR->List Rat->Bool
 |b::l,q::v=>(b.side&&decide (q≠0))||fa l v
 |_,_=>false
theorem pJ:∀ {bl:List BKR} {v:List Rat} {k:Nat} {b:BKR} {q:Rat},bl[k]?=some b->v[k]?=some q->fa bl (v.take (k+1))=(fa bl (v.take k)||(b.side&&decide (q≠0)))
 |[],_,k,b,q,h,_=>by simp at h
 |c::bl,[],k,b,q,_,h=>by simp at h
 |c::bl,p::v,0,b,q,h1,h2=>by
  simp at h1 h2;subst h1 h2;cases bl<;>simp[fa]
 |c::bl,p::v,k+1,b,q,h1,h2=>by
  have ih:=pJ (bl:=bl) (v:=v) (k:=k) (b:=b) (q:=q) (by simpa using h1) (by simpa using h2);rw[kZ,kZ,fa,fa,ih,Bool.or_assoc]
theorem ku:∀ {bl:List BKR} {v:List Rat} {k:Nat},bl.length<=k->fa bl (v.take k)=fa bl v
 |[],v,k,_=>by simp[fa]
 |c::bl,[],k,_=>by simp
 |c::bl,p::v,0,h=>by simp at h
 |c::bl,p::v,k+1,h=>by rw[kZ,fa,fa,ku (by simpa using h)]
def Se (p az at':RR)(F:List (List PV))(u b:RR)(h:Bool):List PV:=eR p++(eR az++eR at')++[.sl F]++eR u++eR b++xj++[.bool h,I 0]
def Sf (p a t:RR)(F:List RR)(u b:RR)(T:STQ)(h:Bool)(ph:Int):List PV:=[.bool p.n.neg,.sl (p.n.l.map eU),.bool p.d.neg,.sl (p.d.l.map eU),.bool a.n.neg,.sl (a.n.l.map eU),.bool a.d.neg,.sl (a.d.l.map eU),.bool t.n.neg,.sl (t.n.l.map eU),.bool t.d.neg,.sl (t.d.l.map eU),.sl (F.map eR),.bool u.n.neg,.sl (u.n.l.map eU),.bool u.d.neg,.sl (u.d.l.map eU),.bool b.n.neg,.sl (b.n.l.map eU),.bool b.d.neg,.sl (b.d.l.map eU),.bool T.km.n.neg,.sl (T.km.n.l.map eU),.bool T.km.d.neg,.sl (T.km.d.l.map eU),.bool T.kg.n.neg,.sl (T.kg.n.l.map eU),.bool T.kg.d.neg,.sl (T.kg.d.l.map eU),.bool T.gm.n.neg,.sl (T.gm.n.l.map eU),.bool T.gm.d.neg,.sl (T.gm.d.l.map eU),.bool T.ot.n.neg,.sl (T.ot.n.l.map eU),.bool T.ot.d.neg,.sl (T.ot.d.l.map eU),.bool h,I ph]
def PJ (d:DKR)(p:Rat)(a:AR)(v:List Rat)(s:STQ):DQ :=
 ⟨ofQ p,a,(v.take d.bl.length).map ofQ,ofQ (aX (v.take d.bl.length)),ofQ (aX (v.drop d.bl.length)),s,fa d.bl v,kH d.bl (v.take d.bl.length) (aX (v.drop d.bl.length))⟩
theorem EW (d:DKR)(lv:RR){p:Rat}(hsup:aU 125 [.agg (fv d),.agg (eR lv)] (.sl ((dC d p).map eS)))(B:BR)(e:Int)(he:e≠0)(h95:aU 53 [.agg (fx d.s),.sl ((dC d p).map eS)] (.tup [.agg (eB B),I e])) :
  aU 57 [.agg (fv d),.agg (eR lv)] (.tup [.agg (xq dZ),I e]):=by
 refine Ret.weak (r' := .tup [.agg Mi,I e]) ?_ (WeakL.refl _) (WeakL.tup (.cons rP.agg (WeakL.refl _)));generalize (dC d p).map eS=W at *
 obtain⟨s,den,bl,zn,gm,oh⟩:=d;simp only at *
 refine aD Proofs.Tryz.func57 ?_;refine H ?_;refine ip [(9,6),(10,6)] aH aH ?_;refine G hsup ?_;refine G h95 ?_;refine H ?_;refine I0 O O O O O ?_;refine IP 2 O O O O O O (fun _=>rfl) ah O O O O ?_;refine D ?_ ?_<;>intro h
 .clear h;exact cA
 .simp at h;exact absurd h he
theorem EV (d:DKR)(lv:RR){p:Rat}(hsup:aU 125 [.agg (fv d),.agg (eR lv)] (.sl ((dC d p).map eS)))(B:BR)(h95:aU 53 [.agg (fx d.s),.sl ((dC d p).map eS)] (.tup [.agg (eB B),I 0]))
  (Q:SQ) (he:Q.e≠0) (h78:aU 54 [.agg (eB B)] Q.pv):aU 57 [.agg (fv d),.agg (eR lv)] (.tup [.agg (xq dZ),I Q.e]):=by
 refine Ret.weak (r' := .tup [.agg Mi,I Q.e]) ?_ (WeakL.refl _) (WeakL.tup (.cons rP.agg (WeakL.refl _)));generalize (dC d p).map eS=W at *
 obtain⟨s,den,bl,zn,gm,oh⟩:=d;obtain⟨⟨az,at'⟩,F,⟨rz,rt⟩,e⟩:=Q;simp only[SQ.pv]at *
 refine aD Proofs.Tryz.func57 ?_;refine H ?_;refine ip [(9,6),(10,6)] aH aH ?_;refine G hsup ?_;refine G h95 ?_;refine H ?_;refine I0 O O O O O ?_;refine IP 2 O O O O O O (fun _=>rfl) ah O O O O ?_;refine G h78 ?_;refine D ?_ ?_<;>intro h
 .clear h;exact cA
 .simp at h;exact absurd h he
set_option maxHeartbeats 16000000 in
theorem C9 (d:DKR)(lv:RR){p:Rat}{n:Nat}[hlv:Vq lv p n](hn:n<=1000000)(hsup:aU 125 [.agg (fv d),.agg (eR lv)] (.sl ((dC d p).map eS)))(B:BR)(h95:aU 53 [.agg (fx d.s),.sl ((dC d p).map eS)] (.tup [.agg (eB B),I 0]))
  (az at' rz rt:RR) (v:List Rat) (hv:∀q∈v,hq q 100000) (hvl:d.bl.length<=v.length) (hv64:v.length<=64) (h78:aU 54 [.agg (eB B)] (.tup [.agg (r7 ⟨az,at'⟩ (v.map ofQ)),.agg (eR rz++eR rt),I 0])) (T:STQ)
  {nz:Nat} {z:Rat} [hz:Vq az z nz] (hnz:nz<=1000000)
  (hT:aX (v.drop d.bl.length)≠0->aU 128 [.agg (fx d.s),.agg (eR (ofQ (z+p))++eR at'),.agg ([I d.d]++eR (ofQ (aX (v.take d.bl.length))))] (.tup [.agg (FC T),I 0])) (hT0:aX (v.drop d.bl.length)=0->T=Oy) :
  aU 57 [.agg (fv d),.agg (eR lv)] (.tup [.agg (xq (PJ d p ⟨az,at'⟩ v T)),I 0]):=by
 have e1:=RE lv (hx:=hlv) J;have e2:=DJ ((v.take d.bl.length).map ofQ) (by rw[aF,bc];omega);have e3:=lP 0 ⟨Y,Y⟩;rw[show((0:Int):Rat)=0 from O]at e3;have e4:=eJ az lv (hx:=hz) (hy:=hlv) J J;have hvt:∀i,∀q∈v.take i,hq q 100000:=fun i q hq=>hv q (dD hq);have hs1:∀i,hq (aX ((v.take i).take d.bl.length)) 6500000:=fun i=>by
  have:=nZ (N:=100000) (l:=(v.take i).take d.bl.length) fun q hq=>hvt i q (dD hq);refine(HQ.mono (q:=aX ((v.take i).take d.bl.length)) (h:=⟨this⟩) ?_).ok;rw[bc,bc];have:min d.bl.length (min i v.length)<=64:=J;have:=dE (100000+1) this;omega
 have hs2:∀i,hq (aX ((v.take i).drop d.bl.length)) 6500000:=fun i=>by
  have:=nZ (N:=100000) (l:=(v.take i).drop d.bl.length) fun q hq=>hvt i q (lF hq);refine(HQ.mono (q:=aX ((v.take i).drop d.bl.length)) (h:=⟨this⟩) ?_).ok;rw[gW,bc];have:min i v.length-d.bl.length<=64:=J;have:=dE (100000+1) this;omega
 have hp:=HX d (v.take d.bl.length) (by rw[bc];omega) (by rw[bc];omega) (fun q hq=>(HQ.mono (q:=q) (h:=⟨hvt _ q hq⟩) Y).ok) (aX (v.drop d.bl.length)) (by
  have:=hs2 v.length;rw[bI]at this
  exact(HQ.mono (q:=aX (v.drop d.bl.length)) (h:=⟨this⟩) Y).ok)
 have hsg:=CZ (ofQ (aX (v.drop d.bl.length))) (hx:=Vq.ofQ (h:=⟨by have:=hs2 v.length;rwa [bI]at this⟩)) Y;have hsz:=gi (aX (v.drop d.bl.length));have hml:((v.map ofQ).map eR).length=v.length:=ap;have hmb:(d.bl.map eBk).length=d.bl.length:=ap;have htk:(v.take d.bl.length).map ofQ=(v.map ofQ).take d.bl.length:=j9;rw[PJ];obtain⟨s,den,bl,zn,gm,oh⟩:=d;simp only at *
 obtain⟨R,hR0,hR1,hRw⟩:∃R,(aX (v.drop bl.length)=0->R=xj)/\(aX (v.drop bl.length)≠0->R=FC T)/\WeakL R (FC T):=by
  by_cases h:aX (v.drop bl.length)=0
  .exact⟨xj,fun _=>rfl,fun g=>absurd h g,by rw[hT0 h];exact xo⟩
  .exact⟨FC T,fun g=>absurd g h,fun _=>rfl,WeakL.refl _⟩
 refine Ret.weak (r' := .tup [.agg (eR (ofQ p)++(eR az++eR at')++[.sl (((v.take bl.length).map ofQ).map eR)]++eR (ofQ (aX (v.take bl.length)))++eR (ofQ (aX (v.drop bl.length)))++R++[.bool (fa bl v),I (kH bl (v.take bl.length) (aX (v.drop bl.length)))]),I 0]) ?_ (WeakL.refl _) (WeakL.tup (.cons (((WeakL.refl _).app hRw).app (WeakL.refl _)).agg (WeakL.refl _)));clear hRw hT0;generalize hW:(dC ⟨s,den,bl,zn,gm,oh⟩ p).map eS=W at *
 generalize kH bl (v.take bl.length) (aX (v.drop bl.length))=PH at *
 generalize hQp:ofQ p=Qp at *
 generalize hQz:ofQ (z+p)=Qz at *
 clear hW;refine aD Proofs.Tryz.func57 ?_;refine H ?_;refine ip [(9,6),(10,6)] aH aH ?_;refine G hsup ?_;refine G h95 ?_;refine H ?_;refine I0 O O O O O ?_;refine IP 2 O O O O O O (fun _=>rfl) ah O O O O ?_;refine G h78 ?_;refine H ?_;refine a_ [(13,11),(14,11)] aH aH ?_;refine G e1 ?_;refine H ?_;rw[hmb];refine ci O O (sy (l:=v.map ofQ) (enc:=eR) (n:=((bl.length:Nat):Int)) O O O O O J (by rw[aF];omega) (fun _=>rfl)) ?_;rw[be,<-htk];refine G e2 ?_;refine G e3 ?_;refine G e3 ?_;refine H ?_;rw[hml];have z0:fa bl (v.take 0)=false:=by cases bl<;>rfl
 have z1:aX ((v.take 0).take bl.length)=0:=by rw[dK,List.take_nil];rfl
 have z2:aX ((v.take 0).drop bl.length)=0:=by rw[dK,List.drop_nil];rfl
 refine aQ [(2,.ptr 2 1 0 0),(3,.ptr 3 1 0 0),(4,.ptr 4 1 0 0),(8,.ptr 8 1 0 0),(10,I bl.length),(11,.ptr 11 1 0 0),(55,.sl ((v.map ofQ).map eR)),(56,I v.length),(57,I ((0:Nat):Int))] [(2,1,⟨56,14,[fv ⟨s,den,bl,zn,gm,oh⟩],2⟩),(3,1,⟨41,4,[eR lv],2⟩),(4,1,⟨65,39,[Mi],2⟩),(8,1,⟨46,9,[r7 ⟨az,at'⟩ (v.map ofQ)],2⟩),(11,1,⟨65,39,[Se Qp az at' (((v.take bl.length).map ofQ).map eR) (ofQ 0) (ofQ 0) false],2⟩)] ah ?_;intro s0;refine ai (fun i:Nat=>i<=v.length) (fun i=>[(2,.ptr 2 1 0 0),(3,.ptr 3 1 0 0),(4,.ptr 4 1 0 0),(8,.ptr 8 1 0 0),(10,I bl.length),(11,.ptr 11 1 0 0),(55,.sl ((v.map ofQ).map eR)),(56,I v.length),(57,I (i:Nat))]) (fun i=>[(2,1,⟨56,14,[fv ⟨s,den,bl,zn,gm,oh⟩],2⟩),(3,1,⟨41,4,[eR lv],2⟩),(4,1,⟨65,39,[Mi],2⟩),(8,1,⟨46,9,[r7 ⟨az,at'⟩ (v.map ofQ)],2⟩),(11,1,⟨65,39,[Se Qp az at' (((v.take bl.length).map ofQ).map eR) (ofQ (aX ((v.take i).take bl.length))) (ofQ (aX ((v.take i).drop bl.length))) (fa bl (v.take i))],2⟩)]) (fun i=>v.length-i) 0 (aP _) ⟨O,O,O,O,O,O,O,O,O,O,O,O,O,by rw[z0,z1,z2];rfl,bh⟩ ?_;clear z1 z2;intro i s1 hi;refine D ?_ ?_<;>intro h
 .have hlt:i<v.length:=cw h;clear h;obtain⟨q,hq⟩:=ay hlt;have hx:(v.map ofQ)[i]?=some (ofQ q):=by rw[bw,hq];rfl
  have hqs:=hv q (bC hq);have sq:=CZ (ofQ q) (hx:=Vq.ofQ (h:=⟨hqs⟩)) Y;have hqz:=gi q;have a1:=eJ (ofQ (aX ((v.take i).take bl.length))) (ofQ q) (hx:=Vq.ofQ (h:=⟨hs1 i⟩)) (hy:=Vq.ofQ (h:=⟨hqs⟩)) Y Y;have a2:=eJ (ofQ (aX ((v.take i).drop bl.length))) (ofQ q) (hx:=Vq.ofQ (h:=⟨hs2 i⟩)) (hy:=Vq.ofQ (h:=⟨hqs⟩)) Y Y;have hw:=dN i;have htn:v.take (i+1)=v.take i++[q]:=bR hq;have hil:(v.take i).length=i:=by rw[bc];omega
  refine aN hx ?_;refine D ?_ ?_<;>intro h
  .have hin:i<bl.length:=cw h;clear h;obtain⟨c,hc⟩:=ay hin;have hu:aX ((v.take (i+1)).take bl.length)=aX ((v.take i).take bl.length)+q:=by rw[htn,show(v.take i++[q]).take bl.length=v.take i++[q] from cT (by rw[bQ,hil];exact hin),show(v.take i).take bl.length=v.take i from cT J,jy]
   have hb:aX ((v.take (i+1)).drop bl.length)=aX ((v.take i).drop bl.length):=by rw[htn,show(v.take i++[q]).drop bl.length=[] from pT (by rw[bQ,hil];exact hin),show(v.take i).drop bl.length=[] from pT J]
   have hh:=pJ hc hq;generalize aX ((v.take i).take bl.length)=U,aX ((v.take i).drop bl.length)=Bq,fa bl (v.take i)=H0 at *
   generalize hU2:ofQ (U+q)=U2 at *
   generalize ofQ U=U1 at *
   generalize hB1:ofQ Bq=B1 at *
   generalize sgn q=g1 at *
   refine G a1 ?_;refine H ?_;cases H0
   rotate_left
   .refine H ?_;exact⟨i+1,hlt,J,O,O,O,O,O,O,O,O,congrArg I hw,O,O,O,O,by rw[hu,hb,hh,hU2,hB1];rfl,bh⟩
   refine aN hc ?_;refine H ?_;cases hsd:c.side
   .rw[hsd]at hh;refine H ?_;exact⟨i+1,hlt,J,O,O,O,O,O,O,O,O,congrArg I hw,O,O,O,O,by rw[hu,hb,hh,hU2,hB1];rfl,bh⟩
   rw[hsd]at hh;refine ax sq ?_;refine H ?_;by_cases h0:g1=0
   .rw[decide_eq_false (show ¬q≠0 from fun g=>g (hqz.1 h0))]at hh;subst h0;refine H ?_;exact⟨i+1,hlt,J,O,O,O,O,O,O,O,O,congrArg I hw,O,O,O,O,by rw[hu,hb,hh,hU2,hB1];rfl,bh⟩
   .rw[decide_eq_true (show q≠0 from fun g=>h0 (hqz.2 g))]at hh;rw[decide_eq_false h0];refine H ?_;exact⟨i+1,hlt,J,O,O,O,O,O,O,O,O,congrArg I hw,O,O,O,O,by rw[hu,hb,hh,hU2,hB1];rfl,bh⟩
  .have hin:bl.length<=i:=co h;clear h;have hu:aX ((v.take (i+1)).take bl.length)=aX ((v.take i).take bl.length):=by rw[htn,zD J]
   have hb:aX ((v.take (i+1)).drop bl.length)=aX ((v.take i).drop bl.length)+q:=by rw[htn,tU J,jy]
   have hh:fa bl (v.take (i+1))=fa bl (v.take i):=by rw[ku J,ku hin]
   generalize aX ((v.take i).take bl.length)=U,aX ((v.take i).drop bl.length)=Bq,fa bl (v.take i)=H0 at *
   generalize hB2:ofQ (Bq+q)=B2 at *
   generalize hU1:ofQ U=U1 at *
   generalize ofQ Bq=B1 at *
   refine G a2 ?_;refine H ?_;exact⟨i+1,hlt,J,O,O,O,O,O,O,O,O,congrArg I hw,O,O,O,O,by rw[hu,hb,hh,hU1,hB2];rfl,bh⟩
 have hie:i=v.length:=co h;clear h;subst hie;rw[bI];clear hs1 hs2 hvt hml z0;generalize aX (v.take bl.length)=U at *
 generalize hBq:aX (v.drop bl.length)=Bq at *
 generalize fa bl v=H0,sgn Bq=g1,ofQ U=U1,ofQ Bq=B1 at *
 generalize hFL:(v.take bl.length).map ofQ=FL at *
 refine ax hsg ?_;refine H ?_;by_cases h0:g1=0
 .have hB0:=hsz.1 h0;have hRe:=hR0 hB0;subst hRe;rw[decide_eq_true h0];refine ax hp ?_;exact cA
 .have hB0:Bq≠0:=fun e=>h0 (hsz.2 e);have hRe:=hR1 hB0;have hTr:=hT hB0;clear hT;subst hRe;rw[decide_eq_false h0];refine cV 18 ?_;refine ao (e_ 14) ?_;refine a_ [(9,14),(10,14)] aH aH ?_;refine G e4 ?_;refine G hTr ?_;refine cV 22 ?_;refine aQ [(2,.ptr 2 1 0 0),(4,.ptr 4 1 0 0),(11,.ptr 11 1 0 0)] [(2,1,⟨56,14,[fv ⟨s,den,bl,zn,gm,oh⟩],2⟩),(4,1,⟨65,39,[Mi],2⟩),(11,1,⟨65,39,[Sf Qp az at' FL U1 B1 T H0 0],2⟩)] ah ?_;intro s9;refine ax hp ?_;refine cV 23 ?_;refine aQ [(4,.ptr 4 1 0 0),(11,.ptr 11 1 0 0)] [(4,1,⟨65,39,[Mi],2⟩),(11,1,⟨65,39,[Sf Qp az at' FL U1 B1 T H0 PH],2⟩)] ah ?_;intro s10;exact cA
theorem Ja (d:DKR)(hd:d.Ok)(hE:xB d=0)(lv:RR)(x:DQ)(e:Int)(h74:aU 57 [.agg (fv d),.agg (eR lv)] (.tup [.agg (xq x),I e])):aU 71 [.agg (fv d),.agg (eR lv)] (.tup [.agg (xq x),I e]):=by
 have h1:=pC d hd;rw[hE]at h1;refine aD Proofs.Tryz.func71 ?_;refine ax h1 ?_;refine G h74 ?_;exact cA
def kV:List Rat->Rat
 |[]=>0
 |q::l=>l.foldl (fun m x=>if m<x then x else m) q
theorem HN (l:List Rat)(x:Rat)(h:l≠[]):kV (l++[x])=if kV l<x then x else kV l:=by
 cases l with
 |nil=>exact absurd rfl h
 |cons q l=>rw[uh,kV,kV,kA];rfl
def g_ (z t:Rat)(s:SR):Rat:=s.c.val+(z+t*(s.x:Rat))
def Ez (W:List SR)(z t:Rat)(i:Nat):List PV:=if i=0 then zN else eR (ofQ (kV ((W.take i).map (g_ z t))))
theorem Kg:∀(l:List Rat),l≠[]->kV l∈l
 |[],h=>absurd rfl h
 |q::l,_=>by
  rw[kV];have key:∀(l:List Rat) (a:Rat),l.foldl (fun m x=>if m<x then x else m) a∈a::l:=by
   intro l
   induction l with
   |nil=>intro a;simp
   |cons x l ih =>
    intro a;rw[fB];have:=ih (if a<x then x else a);rcases bV.1 this with h|h
    .rw[h];split<;>simp
    .exact ff _ (ff _ h)
  exact key l q
theorem Ma (d:DKR)(hd:d.Ok)(hE:xB d=0)(hk:d.Bl)(hb:d.bl≠[])(az at' rz rt:RR)(F:List RR){z t:Rat}{n m:Nat}[ha:Va ⟨az,at'⟩ z t n m](hn:n<=1000000)(hm:m<=1000000)
  (h31:aU 14 [.agg (fx d.s),I d.d] (.tup [.agg (r7 ⟨az,at'⟩ F),.agg (eR rz++eR rt),I 0])):aU 69 [.agg (fv d)] (.tup [.agg (eR (ofQ (kV ((df d.s.st d.bl).map (g_ z t))))),I 0]):=by
 have h1:=pC d hd;rw[hE]at h1;have h2:=DI d hk;have hml:(d.bl.map eBk).length=d.bl.length:=ap;have hpos:=oy.2 hb;have hbl:¬((d.bl.map eBk).length:Int)=0:=J;have hwl:(df d.s.st d.bl).length=d.bl.length:=by rw[df,aF]
 have h40:=hk.m;have hC:∀s∈df d.s.st d.bl,i64 s.x/\hq s.c.val 4/\Vq s.c s.c.val 4:=fun s hs=>by
  rw[df]at hs;obtain⟨b,hbm,rfl⟩:=aW.1 hs;obtain⟨hin,-⟩:=hk.b b hbm;have hx:=hin.x;have hh:=hin.ht;have hbi:=oo hk.st b;have zb:Zb (b.ht-jK d.s.st b):=aI J J;refine⟨⟨by show -9223372036854775808<=b.x;omega,by show b.x<=9223372036854775807;omega⟩,?_,?_⟩
  .show hq (ofQ ((b.ht-jK d.s.st b:Int):Rat)).val 4;rw[ofQ_val];exact HQ.int.ok
  .show Vq (ofQ ((b.ht-jK d.s.st b:Int):Rat)) (ofQ ((b.ht-jK d.s.st b:Int):Rat)).val 4;rw[ofQ_val];exact Vq.ofQ (h:=HQ.int)
 have hW0:df d.s.st d.bl≠[]:=fun e=>by rw[e]at hwl;simp at hwl;omega
 have hmw:((df d.s.st d.bl).map eS).length=(df d.s.st d.bl).length:=ap;obtain⟨s,den,bl,zn,gm,oh⟩:=d;simp only at *
 generalize df s.st bl=W at *
 have hvh:∀s∈W,hq (g_ z t s) (n+m+20):=fun s hs=>by
  obtain⟨hx,hc,-⟩:=hC s hs;have zb:Zb s.x:=aI hx.1 hx.2;exact(HQ.mono (h:=@HQ.add _ _ 4 (n+1+(m+1+4)+1) ⟨hc⟩ (@HQ.add _ _ (n+1) (m+1+4) ha.z.hq (@HQ.mul _ _ (m+1) 4 ha.t.hq HQ.int))) J).ok
 refine aD Proofs.Tryz.func69 ?_;refine ax h1 ?_;refine H ?_;rw[decide_eq_false hbl];refine G h31 ?_;refine G h2 ?_;refine H ?_;rw[hmw];refine aQ [(2,.ptr 2 1 0 0),(5,.ptr 5 1 0 0),(8,.ptr 8 1 0 0),(37,.sl (W.map eS)),(38,I W.length),(39,I ((0:Nat):Int))] [(2,1,⟨41,4,[zN],2⟩),(5,1,⟨46,9,[r7 ⟨az,at'⟩ F],2⟩),(8,1,⟨41,4,[zN],2⟩)] ah ?_;intro s0;refine ai (fun i:Nat=>i<=W.length) (fun i=>[(2,.ptr 2 1 0 0),(5,.ptr 5 1 0 0),(8,.ptr 8 1 0 0),(37,.sl (W.map eS)),(38,I W.length),(39,I (i:Nat))]) (fun i=>[(2,1,⟨41,4,[zN],2⟩),(5,1,⟨46,9,[r7 ⟨az,at'⟩ F],2⟩),(8,1,⟨41,4,[Ez W z t i],2⟩)]) (fun i=>W.length-i) 0 (aP _) ah ?_;intro i s1 hi;refine D ?_ ?_<;>intro h
 .have hlt:i<W.length:=cw h;clear h;obtain⟨x,hx⟩:=ay hlt;obtain⟨hxx,hxc,hxv⟩:=hC x (bC hx);have zb:Zb x.x:=aI hxx.1 hxx.2;have hxq:=hvh x (bC hx);have e1:=vU ⟨az,at'⟩ x.x hxx (z:=z) (t:=t) (n:=n) (m:=m) hn hm;have e2:=eJ x.c (ofQ (z+t*(x.x:Rat))) (hx:=hxv) (hy:=Vq.ofQ (h:=@HQ.add _ _ (n+1) (m+1+4) ha.z.hq (@HQ.mul _ _ (m+1) 4 ha.t.hq HQ.int))) J J;rw[show x.c.val+(z+t*(x.x:Rat))=g_ z t x from O]at e2;have hw:=dN i;have hsn:(W.take (i+1)).map (g_ z t)=(W.take i).map (g_ z t)++[g_ z t x]:=by rw[bR hx,bj];rfl
  have hr1:Ez W z t (i+1)=eR (ofQ (kV ((W.take (i+1)).map (g_ z t)))):=by rw[Ez,if_neg J]
  cases i with
  |zero =>
   have hm1:kV ((W.take (0+1)).map (g_ z t))=g_ z t x:=by rw[hsn];rfl
   rw[hm1]at hr1;generalize ofQ (g_ z t x)=X,ofQ (z+t*(x.x:Rat))=Y0 at *
   refine aN hx ?_;refine cV 13 ?_;refine ao (e_ 11) ?_;refine a_ [(8,11),(9,11)] aH aH ?_;refine G e1 ?_;refine G e2 ?_;refine H ?_;exact⟨0+1,hlt,J,O,O,O,O,O,congrArg I hw,O,O,by rw[hr1];rfl,bh⟩
  |succ i =>
   have hr0:Ez W z t (i+1)=eR (ofQ (kV ((W.take (i+1)).map (g_ z t)))):=by rw[Ez,if_neg J]
   have hne:(W.take (i+1)).map (g_ z t)≠[]:=fun e=>by
    have:=congrArg List.length e;rw[aF,bc,j7]at this;omega
   have hmm:=Kg _ hne;have hms:=HN _ (g_ z t x) hne;rw[<-hsn]at hms;have hMq:hq (kV ((W.take (i+1)).map (g_ z t))) (n+m+20):=by
    obtain⟨y,hy,hye⟩:=aW.1 hmm;rw[<-hye];exact hvh y (dD hy)
   have e3:=nf (ofQ (g_ z t x)) (ofQ (kV ((W.take (i+1)).map (g_ z t)))) (hx:=Vq.ofQ (h:=⟨hxq⟩)) (hy:=Vq.ofQ (h:=⟨hMq⟩)) J J;have hsg:=kO (g_ z t x-kV ((W.take (i+1)).map (g_ z t)));have hgt:0<g_ z t x-kV ((W.take (i+1)).map (g_ z t))↔kV ((W.take (i+1)).map (g_ z t))<g_ z t x:=by constructor<;>intro h<;>grind
   rw[hgt]at hsg;rw[hr0];rw[hms]at hr1;clear hms hgt hmm hMq;generalize hM:kV ((W.take (i+1)).map (g_ z t))=M at *
   generalize hX:ofQ (g_ z t x)=X at *
   generalize ofQ (z+t*(x.x:Rat))=Y0,sgn (g_ z t x-M)=g at *
   generalize hMM:ofQ M=MM at *
   refine aN hx ?_;refine cV 13 ?_;refine ao (e_ 11) ?_;refine a_ [(8,11),(9,11)] aH aH ?_;refine G e1 ?_;refine G e2 ?_;refine H ?_;have hi0:¬(((i+1:Nat):Int))=0:=J;rw[decide_eq_false hi0];refine ax e3 ?_;refine D ?_ ?_<;>intro h
   .have hg:=hsg.1 (bk h);clear h;rw[if_pos hg]at hr1;refine H ?_;exact⟨i+1+1,hlt,J,O,O,O,O,O,congrArg I hw,O,O,by rw[hr1,hX];rfl,bh⟩
   .have hg:¬M<g_ z t x:=fun e=>(bS h) (hsg.2 e);clear h;rw[if_neg hg]at hr1;refine H ?_;exact⟨i+1+1,hlt,J,O,O,O,O,O,congrArg I hw,O,O,by rw[hr1,hMM];rfl,bh⟩
 have hie:i=W.length:=co h;clear h;subst hie;have hr:Ez W z t W.length=eR (ofQ (kV (W.map (g_ z t)))):=by rw[Ez,if_neg J,bI]
 rw[hr];generalize ofQ (kV (W.map (g_ z t)))=X at *
 exact cA
def h_ (x:Int):SR:=⟨x,ofQ 0,⟨[0,3000],[ofQ ((80:Int):Rat),ofQ 0]⟩⟩
def ji (x:Int):SR:=⟨x,ofQ ((1500:Int):Rat),⟨[0],[ofQ ((1000:Int):Rat)]⟩⟩
def r1:BR:=⟨320000,ofQ ((10000:Int):Rat),[h_ 5000,h_ 15000]⟩
def r2:BR:=⟨320000,ofQ ((10000:Int):Rat),[ji 5000,ji 15000,h_ 5000,h_ 15000]⟩
theorem OU:(ofQ 0).sz 12:=pN (z:=0) ⟨Y,Y⟩
theorem GS {x:Int}(hx:i64 x):(h_ x).Lim:=by
 refine⟨hx,OU,⟨fun z hz=>?_,fun m hm=>?_,show 2<=1000000000 by decide,show 2<=1000000000 by decide⟩⟩
 .simp[h_]at hz;rcases hz with rfl|rfl<;>exact⟨Y,Y⟩
 .simp only[h_,bV,gx,or_false]at hm;rcases hm with rfl|rfl
  .exact pN ⟨Y,Y⟩
  .exact OU
theorem MG {x:Int}(hx:i64 x):(ji x).Lim:=by
 refine⟨hx,pN ⟨Y,Y⟩,⟨fun z hz=>?_,fun m hm=>?_,show 1<=1000000000 by decide,show 1<=1000000000 by decide⟩⟩
 .simp[ji]at hz;subst hz;exact⟨Y,Y⟩
 .simp only[ji,mC]at hm;subst hm;exact pN ⟨Y,Y⟩
theorem IL (x:Int):fb (h_ x).k=0:=by
 have h:j0 (h_ x).k 0=0:=by
  rw[j0,if_neg,if_neg J];simp only[h_,zV,ofQ_val];decide
 have h1:j0 (h_ x).k 1=0:=by
  rw[j0,if_neg,if_neg]
  .simp[h_]
  .simp only[h_,zV,List.getD_cons_succ,ofQ_val];decide
 rw[fb,if_neg (show ¬40<(h_ x).k.S.length by simp[h_]),if_neg (show ¬(h_ x).k.M.length≠(h_ x).k.S.length by simp[h_])];show iS (h_ x).k 0 2=0;rw[iS,if_pos h,iS,if_pos h1,iS]
theorem Hc (x:Int):fb (ji x).k=0:=by
 have h:j0 (ji x).k 0=0:=by
  rw[j0,if_neg,if_neg J];simp only[ji,zV,ofQ_val];decide
 rw[fb,if_neg (show ¬40<(ji x).k.S.length by simp[ji]),if_neg (show ¬(ji x).k.M.length≠(ji x).k.S.length by simp[ji])];show iS (ji x).k 0 1=0;rw[iS,if_pos h,iS]
theorem GI {s:SR}(hx : -1000000<=s.x/\s.x<=1000000)(hc : -10000000<=s.c.val/\s.c.val<=10000000)(hk:fb s.k=0):rJ s=0:=by
 rw[rJ,if_neg,hk];rw[show((10000000:Int):Rat)=10000000 from O];rintro(h|h)
 .omega
 .grind
theorem uR {x:Int}(hx : -1000000<=x/\x<=1000000):rJ (h_ x)=0:=GI hx (by show -10000000<=(ofQ 0).val/\(ofQ 0).val<=10000000;rw[ofQ_val];decide) (IL x)
theorem Fg {x:Int}(hx : -1000000<=x/\x<=1000000):rJ (ji x)=0:=GI hx (by show -10000000<=(ofQ ((1500:Int):Rat)).val/\(ofQ ((1500:Int):Rat)).val<=10000000;rw[ofQ_val];decide) (Hc x)
theorem KR:dP r1=0:=by
 rw[dP,if_neg]
 .rw[ej,if_neg Y];show fK rJ [h_ 5000,h_ 15000]=0;rw[fK,if_pos (uR ⟨Y,Y⟩),fK,if_pos (uR ⟨Y,Y⟩),fK]
 .simp only[r1,ofQ_val];decide
theorem KS:dP r2=0:=by
 rw[dP,if_neg]
 .rw[ej,if_neg Y];show fK rJ [ji 5000,ji 15000,h_ 5000,h_ 15000]=0;rw[fK,if_pos (Fg ⟨Y,Y⟩),fK,if_pos (Fg ⟨Y,Y⟩),fK,if_pos (uR ⟨Y,Y⟩),fK,if_pos (uR ⟨Y,Y⟩),fK]
 .simp only[r2,ofQ_val];decide
theorem OW:r1.Ok:=by
 refine⟨⟨⟨Y,Y⟩,pN ⟨Y,Y⟩,fun s hs=>?_,Y⟩,KR,Y,fun s hs=>?_⟩
 .simp only[r1,bV,gx,or_false]at hs;rcases hs with rfl|rfl<;>exact GS ⟨Y,Y⟩
 .simp only[r1,bV,gx,or_false]at hs;rcases hs with rfl|rfl<;>decide
theorem OY:r2.Ok:=by
 refine⟨⟨⟨Y,Y⟩,pN ⟨Y,Y⟩,fun s hs=>?_,Y⟩,KS,Y,fun s hs=>?_⟩
 .simp only[r2,bV,gx,or_false]at hs;rcases hs with rfl|rfl|rfl|rfl<;>first|exact GS ⟨Y,Y⟩|exact MG ⟨Y,Y⟩
 .simp only[r2,bV,gx,or_false]at hs;rcases hs with rfl|rfl|rfl|rfl<;>decide
def wf (y:Rat):Rat:=if y<0 then 0 else if y<3000 then 80*y else 240000
def kf (y:Rat):Rat:=if y<0 then 0 else 1000*y
theorem tJ (x:Int)(z t:Rat):fQ (h_ x) z t=wf (z+t*(x:Rat)):=by
 rw[fQ,kR];show aq (fZ (h_ x).k.s (h_ x).k.m (yQ (h_ x) z t)) 2=_;rw[aq,aq,aq,fZ,fZ,yQ,cQ,cQ];show 0+(if (ofQ 0).val+(z+t*(x:Rat))-((0:Int):Rat)<0 then 0 else((ofQ ((80:Int):Rat)).val-0)*((ofQ 0).val+(z+t*(x:Rat))-((0:Int):Rat)))+(if (ofQ 0).val+(z+t*(x:Rat))-((3000:Int):Rat)<0 then 0 else((ofQ 0).val-(ofQ ((80:Int):Rat)).val)*((ofQ 0).val+(z+t*(x:Rat))-((3000:Int):Rat)))=_;simp only[ofQ_val];rw[show((0:Int):Rat)=0 from O,show((80:Int):Rat)=80 from O,show((3000:Int):Rat)=3000 from O,wf];grind
theorem Hd (x:Int)(z t:Rat):fQ (ji x) z t=kf (1500+(z+t*(x:Rat))):=by
 rw[fQ,kR];show aq (fZ (ji x).k.s (ji x).k.m (yQ (ji x) z t)) 1=_;rw[aq,aq,fZ,yQ,cQ];show 0+(if (ofQ ((1500:Int):Rat)).val+(z+t*(x:Rat))-((0:Int):Rat)<0 then 0 else((ofQ ((1000:Int):Rat)).val-0)*((ofQ ((1500:Int):Rat)).val+(z+t*(x:Rat))-((0:Int):Rat)))=_;simp only[ofQ_val];rw[show((0:Int):Rat)=0 from O,show((1000:Int):Rat)=1000 from O,show((1500:Int):Rat)=1500 from O,kf];grind
theorem n5:((5000:Int):Rat)=5000:=rfl
theorem OR:((15000:Int):Rat)=15000:=rfl
theorem CD (z t:Rat):(bd r1).F z t=wf (z+t*5000)+wf (z+t*15000):=by
 have e:(bd r1).F z t=(0+fQ (h_ 5000) z t)+fQ (h_ 15000) z t:=O;rw[e,tJ,tJ,n5,OR];grind
theorem RX (z t:Rat):(bd r1).G0 z t=wf (z+t*5000)*5000+wf (z+t*15000)*15000:=by
 have e:(bd r1).G0 z t=(0+fQ (h_ 5000) z t*((5000:Int):Rat))+fQ (h_ 15000) z t*((15000:Int):Rat):=O;rw[e,tJ,tJ,n5,OR];grind
theorem CF (z t:Rat):(bd r2).F z t=kf (1500+(z+t*5000))+kf (1500+(z+t*15000))+wf (z+t*5000)+wf (z+t*15000):=by
 have e:(bd r2).F z t=(((0+fQ (ji 5000) z t)+fQ (ji 15000) z t)+fQ (h_ 5000) z t)+fQ (h_ 15000) z t:=O;rw[e,tJ,tJ,Hd,Hd,n5,OR];grind
theorem R7 (z t:Rat):(bd r2).G0 z t=kf (1500+(z+t*5000))*5000+kf (1500+(z+t*15000))*15000+wf (z+t*5000)*5000+wf (z+t*15000)*15000:=by
 have e:(bd r2).G0 z t=(((0+fQ (ji 5000) z t*((5000:Int):Rat))+fQ (ji 15000) z t*((15000:Int):Rat))+fQ (h_ 5000) z t*((5000:Int):Rat))+fQ (h_ 15000) z t*((15000:Int):Rat):=O;rw[e,tJ,tJ,Hd,Hd,n5,OR];grind
theorem AH:(bd r1).w=320000:=rfl
theorem AI:(bd r2).w=320000:=rfl
theorem RW:(bd r1).A=10000:=by show(ofQ ((10000:Int):Rat)).val=10000;rw[ofQ_val];rfl
theorem R6:(bd r2).A=10000:=by show(ofQ ((10000:Int):Rat)).val=10000;rw[ofQ_val];rfl
theorem OV:(bd r1).Least 2000 0:=⟨by rw[CD,AH];simp only[wf,kf];grind,fun z' h=>by rw[CD,AH];simp only[wf,kf];grind⟩
theorem R5:(bd r1).Least (-4000) 1:=⟨by rw[CD,AH];simp only[wf,kf];grind,fun z' h=>by rw[CD,AH];simp only[wf,kf];grind⟩
theorem R4:(bd r1).Least 16000 (-1):=⟨by rw[CD,AH];simp only[wf,kf];grind,fun z' h=>by rw[CD,AH];simp only[wf,kf];grind⟩
theorem OX:(bd r2).Least (-1340) 0:=⟨by rw[CF,AI];simp only[wf,kf];grind,fun z' h=>by rw[CF,AI];simp only[wf,kf];grind⟩
theorem Sa:(bd r2).Least (-16180) 1:=⟨by rw[CF,AI];simp only[wf,kf];grind,fun z' h=>by rw[CF,AI];simp only[wf,kf];grind⟩
theorem R_:(bd r2).Least 3820 (-1):=⟨by rw[CF,AI];simp only[wf,kf];grind,fun z' h=>by rw[CF,AI];simp only[wf,kf];grind⟩
theorem Qq {z t:Rat}(h:(bd r1).Least z t):(bd r1).E t=wf (z+t*5000)*5000+wf (z+t*15000)*15000-320000*10000:=by
 rw[Bd.E,Bd.sg_eq h,Bd.e,RX,AH,RW]
theorem Qu {z t:Rat}(h:(bd r2).Least z t):(bd r2).E t=kf (1500+(z+t*5000))*5000+kf (1500+(z+t*15000))*15000+wf (z+t*5000)*5000+wf (z+t*15000)*15000-320000*10000:=by
 rw[Bd.E,Bd.sg_eq h,Bd.e,R7,AI,R6]
theorem Ki {b:Bd}{z:Rat}(hl:b.Least z 0)(h0:b.E 0=0)(hm:b.E (-1)<0)(hp:0<b.E 1):b.eqQ 1=some (z,0):=by
 have d1:b.dbl (-1) 1 1=some 1:=by
  rw[Bd.dbl,if_neg];rw[show(-1:Rat)*1 = -1 by grind];grind
 have d2:b.dbl 1 1 1=some 1:=by
  rw[Bd.dbl,if_neg];rw[show(1:Rat)*1=1 by grind];grind
 have a0:b.at1 0=some (z,0):=by
  rw[Bd.at1,if_pos h0,Bd.sg_eq hl]
 rw[Bd.eqQ,d1,d2];dsimp only;rw[Bd.fst3,a0]
theorem RY:(bd r1).eqQ 1=some (2000,0):=Ki OV (by rw[Qq OV];simp only[wf,kf];grind) (by rw[Qq R4];simp only[wf,kf];grind) (by rw[Qq R5];simp only[wf,kf];grind)
theorem R8:(bd r2).eqQ 1=some (-1340,0):=Ki OX (by rw[Qu OX];simp only[wf,kf];grind) (by rw[Qu R_];simp only[wf,kf];grind) (by rw[Qu Sa];simp only[wf,kf];grind)
theorem Qs:(bd r1).Bal 2000 0:=by
 have e:(bd r1).F 2000 0=(bd r1).w/\(bd r1).G0 2000 0=(bd r1).w*(bd r1).A:=by
  rw[CD,RX,AH,RW];simp only[wf,kf];constructor<;>grind
 exact e
theorem Qv:(bd r2).Bal (-1340) 0:=by
 have e:(bd r2).F (-1340) 0=(bd r2).w/\(bd r2).G0 (-1340) 0=(bd r2).w*(bd r2).A:=by
  rw[CF,R7,AI,R6];simp only[wf,kf];constructor<;>grind
 exact e
theorem Pm (y:Rat):0<=wf y:=by rw[wf];grind
theorem RZ (t:Rat):∃z,(bd r1).w<=(bd r1).F z t:=by
 refine⟨3000+15000*(if t<0 then -t else t),?_⟩;rw[CD,AH];simp only[wf,kf];grind
theorem R9 (t:Rat):∃z,(bd r2).w<=(bd r2).F z t:=by
 refine⟨15000*(if t<0 then -t else t),?_⟩;have h1:=Pm (15000*(if t<0 then -t else t)+t*5000);have h2:=Pm (15000*(if t<0 then -t else t)+t*15000);rw[CF,AI];simp only[wf,kf];grind
theorem CE (t:Rat):(o8 r1.l t).length<=19:=by
 rw[o8];show((ol t (h_ 5000))++((ol t (h_ 15000))++[])).length<=19;rw[ol,ol];simp[h_]
theorem CG (t:Rat):(o8 r2.l t).length<=19:=by
 rw[o8];show((ol t (ji 5000))++((ol t (ji 15000))++((ol t (h_ 5000))++((ol t (h_ 15000))++[])))).length<=19;rw[ol,ol,ol,ol];simp[h_,ji]
theorem Ia:dc r1.l=[5000,15000]:=by
 rw[dc];have:f8 (r1.l.map (·.x))=[5000,15000]:=List.mergeSort_of_pairwise Y;rw[this];decide
theorem Ic:dc r2.l=[5000,15000]:=by
 rw[dc];have:f8 (r2.l.map (·.x))=[5000,5000,15000,15000]:=by
  show List.mergeSort [5000,15000,5000,15000] _=_;simp[List.mergeSort,List.MergeSort.Internal.splitInTwo,List.merge]
 rw[this];decide
theorem yp {s:SR}{z t A B k:Rat}(hr:rV s z t=k)(hl:lV s z t=k)(hk:k≠0)(h:A+B*(s.x:Rat)≠0):yo z t A B s=false:=by
 rw[yo,decide_eq_false];intro hn;apply hn;rw[hr,hl];rcases dL (0<A+B*(s.x:Rat)) with g|g
 .exact .inl ⟨g,hk⟩
 .exact .inr ⟨bP,hk⟩
theorem Mg {x:Int}{A B:Rat}(h:A+B*(x:Rat)≠0):yo 2000 0 A B (h_ x)=false:=by
 have e:yQ (h_ x) 2000 0=2000:=by
  show(ofQ 0).val+(2000+0*(x:Rat))=2000;rw[ofQ_val];grind
 have m:cQ (h_ x).k.m 1=80:=by
  show(ofQ ((80:Int):Rat)).val=80;rw[ofQ_val];rfl
 refine yp (k:=80) ?_ ?_ Y h
 .show cQ (h_ x).k.m (to (h_ x).k.s (yQ (h_ x) 2000 0) 2)=80;rw[e,to,if_neg (by show ¬((3000:Int):Rat)<=2000;decide),to,if_pos (by show((0:Int):Rat)<=2000;decide),m]
 .show cQ (h_ x).k.m (yu (h_ x).k.s (yQ (h_ x) 2000 0) 2)=80;rw[e,yu,if_neg (by show ¬((3000:Int):Rat)<2000;decide),yu,if_pos (by show((0:Int):Rat)<2000;decide),m]
theorem Jc {x:Int}{A B:Rat}(h:A+B*(x:Rat)≠0):yo (-1340) 0 A B (ji x)=false:=by
 have e:yQ (ji x) (-1340) 0=160:=by
  show(ofQ ((1500:Int):Rat)).val+(-1340+0*(x:Rat))=160;rw[ofQ_val,show((1500:Int):Rat)=1500 from O];grind
 have m:cQ (ji x).k.m 1=1000:=by
  show(ofQ ((1000:Int):Rat)).val=1000;rw[ofQ_val];rfl
 refine yp (k:=1000) ?_ ?_ Y h
 .show cQ (ji x).k.m (to (ji x).k.s (yQ (ji x) (-1340) 0) 1)=1000;rw[e,to,if_pos (by show((0:Int):Rat)<=160;decide),m]
 .show cQ (ji x).k.m (yu (ji x).k.s (yQ (ji x) (-1340) 0) 1)=1000;rw[e,yu,if_pos (by show((0:Int):Rat)<160;decide),m]
theorem NC {A B:Rat}(h:A+B*5000≠0\/A+B*15000≠0):m9 r1.l 2000 0 A B=false:=by
 show(yo 2000 0 A B (h_ 5000)&&(yo 2000 0 A B (h_ 15000)&&true))=false;rcases h with h|h
 .rw[Mg (x:=5000) (by rw[n5];exact h),fg]
 .rw[Mg (x:=15000) (by rw[OR];exact h),fg,iV]
theorem ND {A B:Rat}(h:A+B*5000≠0\/A+B*15000≠0):m9 r2.l (-1340) 0 A B=false:=by
 show(yo (-1340) 0 A B (ji 5000)&&(yo (-1340) 0 A B (ji 15000)&&(yo (-1340) 0 A B (h_ 5000)&&(yo (-1340) 0 A B (h_ 15000)&&true))))=false;rcases h with h|h
 .rw[Jc (x:=5000) (by rw[n5];exact h),fg]
 .rw[Jc (x:=15000) (by rw[OR];exact h),fg,iV]
theorem yh {b:BR}{z:Rat}(hp:dc b.l=[5000,15000])(hf:∀A B:Rat,(A+B*5000≠0\/A+B*15000≠0)->m9 b.l z 0 A B=false):nJ b z 0=false:=by
 rw[nJ,Aa];intro d hd;have key:∀A B:Int,(A+B*5000≠0\/A+B*15000≠0)->¬m9 b.l z 0 (ofQ (A:Rat)).val (ofQ (B:Rat)).val=true:=by
  intro A B h;rw[ofQ_val,ofQ_val,hf]
  .decide
  .have e1:(A:Rat)+(B:Rat)*5000=((A+B*5000:Int):Rat):=by push_cast;rfl
   have e2:(A:Rat)+(B:Rat)*15000=((A+B*15000:Int):Rat):=by push_cast;rfl
   rw[e1,e2];rcases h with h|h
   .exact .inl fun hc=>h (mm.1 (show((A+B*5000:Int):Rat)=((0:Int):Rat) from hc))
   .exact .inr fun hc=>h (mm.1 (show((A+B*15000:Int):Rat)=((0:Int):Rat) from hc))
 rw[nE,gj,hp]at hd;simp at hd;rcases hd with rfl|rfl|rfl|rfl|rfl|rfl
 .exact key (-5000) 1 Y
 .exact key (-15000) 1 Y
 .exact key 5000 (-1) Y
 .exact key 15000 (-1) Y
 .exact key 1 0 Y
 .exact key (-1) 0 Y
theorem H_:FL r1.l 2000 0=[ofQ 160000,ofQ 160000]:=by
 show [ofQ (fQ (h_ 5000) 2000 0),ofQ (fQ (h_ 15000) 2000 0)]=_;rw[tJ,tJ,n5,OR,wf,wf];congr 2
 .grind
 .congr 2;grind
theorem Ib:FL r2.l (-1340) 0=[ofQ 160000,ofQ 160000,ofQ 0,ofQ 0]:=by
 show [ofQ (fQ (ji 5000) (-1340) 0),ofQ (fQ (ji 15000) (-1340) 0),ofQ (fQ (h_ 5000) (-1340) 0),ofQ (fQ (h_ 15000) (-1340) 0)]=_;rw[tJ,tJ,Hd,Hd,n5,OR,show kf (1500+(-1340+0*5000))=160000 by rw[kf];grind,show kf (1500+(-1340+0*15000))=160000 by rw[kf];grind,show wf (-1340+0*5000)=0 by rw[wf];grind,show wf (-1340+0*15000)=0 by rw[wf];grind]
theorem Ga (b:BR)(hb:b.Ok){z:Int}(hz:i64 z){F:List RR}(h19:∀t,(o8 b.l t).length<=19)(hex:∀t,∃z,(bd b).w<=(bd b).F z t)(heq:(bd b).eqQ 1=some ((z:Rat),0))(hbal:(bd b).Bal (z:Rat) 0)(ht:nJ b (z:Rat) 0=false)(hF:FL b.l (z:Rat) 0=F) :
  aU 54 [.agg (eB b)] (.tup [.agg (r7 ⟨ofQ (z:Rat),ofQ 0⟩ F),.agg (zN++zN),I 0]):=by
 have hn:=Hb hb hbal;have h93:=tt b hb;rw[nQ,if_neg (by rw[hn.1];decide),z6.2 (fun r hr=>by rw[hn.2 r hr];decide)]at h93;have h120:=x9 b hb (fun t=>bK (h19 t) Y) (fun t=>NU _ (h19 t)) hex (N:=1) Y heq;have va:Va ⟨ofQ (z:Rat),ofQ 0⟩ (z:Rat) 0 4 4:=⟨Vq.ofQ (h:=⟨xD z hz⟩),Vq.ofQ (h:=HQ.zero.mono Y)⟩;have h121:=yf b hb ⟨ofQ (z:Rat),ofQ 0⟩ (ha:=va) Y;rw[ht]at h121;have h23:=pI b.l hb.lim.l hb.chkL ⟨ofQ (z:Rat),ofQ 0⟩ (ha:=va) Y;rw[hF]at h23;exact yO b hb.lim hb.chk h93 _ _ h120 h121 h23
theorem Qt:aU 54 [.agg (eB r1)] (.tup [.agg (r7 ⟨ofQ ((2000:Int):Rat),ofQ 0⟩ [ofQ 160000,ofQ 160000]),.agg (zN++zN),I 0]) :=
 Ga r1 OW ⟨Y,Y⟩ CE RZ RY Qs (yh Ia fun _ _=>NC) H_
theorem Qy:aU 54 [.agg (eB r2)] (.tup [.agg (r7 ⟨ofQ ((-1340:Int):Rat),ofQ 0⟩ [ofQ 160000,ofQ 160000,ofQ 0,ofQ 0]),.agg (zN++zN),I 0]) :=
 Ga r2 OY ⟨Y,Y⟩ CG R9 R8 Qv (yh Ic fun _ _=>ND) Ib
def SN (s:SHP)(d:Nat):BR:=wB s (eH d s.st)
theorem PE (d:Nat)(l:List ST):(eH d l).map xA=eH d l:=by
 rw[eH,dU];refine da fun t _=>?_;show xA (iq d t)=iq d t;rw[xA,iq];show(⟨t.x,qn (ofQ 0),⟨t.L,(qo d t).map qn⟩⟩:SR)=_;rw[nM];have:(qo d t).map qn=qo d t:=by
  rw[qo,bj,dU];congr 1
  .exact da fun h _=>nM _
  .show [qn (ofQ 0)]=_;rw[nM]
 rw[this]
theorem RA (s:SHP)(d:Nat):pB s (eH d s.st)=SN s d:=by rw[pB,PE];rfl
theorem Oz {e:Int}:Weak (.tup [.agg zS,.agg (zN++zN),I e]) (⟨zA,[],zA,e⟩:SQ).pv:=WeakL.tup (.cons rQ.agg (.cons mU.agg (WeakL.refl _)))
theorem JF (s:SHP)(d:Int)(B:BR)(l:List SR)(e:Int)(Q:SQ)(h1:aU 52 [.agg (fx s),I d] (.tup [.sl (l.map eS),I 0]))(h2:aU 53 [.agg (fx s),.sl (l.map eS)] (.tup [.agg (eB B),I e]))
  (h3:e=0->aU 54 [.agg (eB B)] Q.pv) (h4:e≠0->Q=⟨zA,[],zA,e⟩):aU 14 [.agg (fx s),I d] Q.pv:=by
 by_cases he:e=0
 .have g3:=h3 he;clear h3 h4;subst he;obtain⟨⟨az,at'⟩,F,⟨rz,rt⟩,e⟩:=Q;simp only[SQ.pv]at *
  refine aD Proofs.Tryz.func14 ?_;refine G h1 ?_;refine G h2 ?_;refine G g3 ?_;exact cA
 .rw[h4 he];refine Ret.weak ?_ (WeakL.refl _) Oz;clear h3 h4;refine aD Proofs.Tryz.func14 ?_;refine G h1 ?_;refine G h2 ?_;refine D ?_ ?_<;>intro h
  .clear h;exact cA
  .simp at h;exact absurd h he
def yF (x:Int):ST:=⟨x,10000,[0,3000],[4000]⟩
def Ts:LR:=⟨[76,105,103,104,116],320000,10000,2000,0⟩
def xr:SHP:=⟨[82,97,102,116],20000,[yF 5000,yF 15000],Ts,[]⟩
def Ba (x:Int):BKR:=⟨x,0,500,1500,1000,ofQ ((1000:Int):Rat),200000,false⟩
def lL:DKR:=⟨xr,1000,[Ba 5000,Ba 15000],[],150,5000⟩
theorem Eu:f7 xr=0:=by decide +kernel
theorem uI:xr.Len:=⟨Y,Y,fun t ht=>by
 simp only[xr,bV,gx,or_false]at ht
 rcases ht with rfl|rfl<;>exact⟨Y,Y⟩⟩
theorem SO:ng xr 1000=0:=by rw[ng,if_pos Eu];decide
theorem AM {x:Int}(h:aK x (-1000000) 1000000=true):qe (Ba x)=true:=by
 rw[qe,Kr];show(aK x (-1000000) 1000000&&aK 500 1 10000&&aK 1500 0 100000&&aK 1000 1 20000&&aK 200000 0 1000000000&&decide (0<(ofQ ((1000:Int):Rat)).val)&&decide ((0:Int)=0))=true;rw[h,ofQ_val];decide
theorem AL {x:Int}(h:x=5000\/x=15000):gl x 0 [yF 5000,yF 15000]=some 0:=by rcases h with rfl|rfl<;>decide
theorem QB:u7 lL.s.st lL.zn lL.bl=0:=by
 have h0:lu lL.s.st lL.zn lL.bl 0 (Ba 5000)=0:=by
  rw[lu,if_pos (AM Y),if_pos (by show(gl 5000 0 [yF 5000,yF 15000]).isSome=true;rw[AL (.inl O)];rfl)];rfl
 have h1:lu lL.s.st lL.zn lL.bl 1 (Ba 15000)=0:=by
  rw[lu,if_pos (AM Y),if_pos (by show(gl 15000 0 [yF 5000,yF 15000]).isSome=true;rw[AL (.inr O)];rfl),if_neg (by show ¬(false=true);decide),if_neg];show ¬([Ba 5000].any (lA (Ba 15000)))=true;show ¬((decide (kT 15000 5000<500+500)&&decide (2*kT 0 0<1000+1000))||false)=true;decide
 rw[u7,if_neg Y];show jM [Ba 5000,Ba 15000] _=0;rw[jM,if_pos h0,jM,if_pos h1,jM]
theorem K2:xB lL=0:=by
 rw[xB,if_pos (show ng lL.s lL.d=0 from SO),if_pos (show jd lL.zn=0 by decide),if_pos QB,if_pos Y]
theorem Sg:qo 1000 (yF 5000)=[ofQ ((80:Int):Rat),ofQ 0]:=by
 show [ofQ (((2*4000*10000:Int):Rat)*(((1000:Nat):Rat)/1000000000)),ofQ 0]=_;rw[show((2*4000*10000:Int):Rat)*(((1000:Nat):Rat)/1000000000)=((80:Int):Rat) by decide +kernel]
theorem GJ (x:Int):iq 1000 (yF x)=h_ x:=by
 have:qo 1000 (yF x)=qo 1000 (yF 5000):=O;rw[iq,this,Sg];rfl
theorem SV:qX xr=((10000:Int):Rat):=by decide +kernel
theorem Q0 (l:List SR):wB xr l=⟨320000,ofQ ((10000:Int):Rat),l⟩:=by
 rw[wB,SV];rfl
theorem Rz:SN xr 1000=r1:=by
 rw[SN,Q0];show(⟨320000,ofQ ((10000:Int):Rat),[iq 1000 (yF 5000),iq 1000 (yF 15000)]⟩:BR)=_;rw[GJ,GJ];rfl
theorem OJ (x:Int):xA (h_ x)=h_ x:=by
 show(⟨x,qn (ofQ 0),⟨[0,3000],[qn (ofQ ((80:Int):Rat)),qn (ofQ 0)]⟩⟩:SR)=_;rw[nM,nM];rfl
theorem OI (x:Int):xA (ji x)=ji x:=by
 show(⟨x,qn (ofQ ((1500:Int):Rat)),⟨[0],[qn (ofQ ((1000:Int):Rat))]⟩⟩:SR)=_;rw[nM,nM];rfl
theorem SU:pB xr r2.l=r2:=by
 have h:=Q0 (r2.l.map xA);rw[wB]at h;rw[pB,h];show(⟨320000,ofQ ((10000:Int):Rat),[xA (ji 5000),xA (ji 15000),xA (h_ 5000),xA (h_ 15000)]⟩:BR)=_;rw[OJ,OJ,OI,OI];rfl
end Go.Pv
set_option maxHeartbeats 2000000
namespace Go.Pv
attribute [local irreducible] PWP POps PQuiet PSem aE aw aj ak
open Go.Proofs Go.RowKit
theorem zi {p:Prop}[Decidable p]{b:Bool}(h:b=true↔p):b=decide p:=by
 cases b with
 |true=>exact(decide_eq_true (h.1 rfl)).symm
 |false=>exact(decide_eq_false fun g=>by have:=h.2 g;cases this).symm
def EM (t:ST):Bool:=!decide ((8<t.L.length/\t.L.length<=30)\/40<t.L.length\/40<t.H0.length)
def Lu (w:LR):Bool:=decide (w.nm.length<=40)
def Pf (s:SHP):Bool:=!decide (40<s.nm.length\/40<s.light.nm.length\/(6<s.st.length/\s.st.length<=40)\/45<s.st.length\/(8<s.it.length/\s.it.length<=60)\/205<s.it.length)
def NR (s:SHP):Bool:=Pf s&&s.st.all EM&&s.it.all Lu
theorem qs {α:Type}{p:α->Bool}{l:List α}{k:Nat}{x:α}(hx:l[k]?=some x)(h:p x=false):l.all p=false:=List.all_eq_false.2 ⟨x,bC hx,by rw[h];decide⟩
theorem tN {α:Type}{p:α->Bool}{l:List α}(h:∀(j:Nat) x,j<l.length->l[j]?=some x->p x=true):l.all p=true:=ct.2 fun x hx=>by
 obtain⟨j,hj⟩:=i5.1 hx;exact h j x (cb hj).1 hj
theorem qr {α:Type}{p:α->Bool}{l:List α}{k:Nat}{x:α}(h:∀(j:Nat) x,j<k->l[j]?=some x->p x=true)(hx:l[k]?=some x)(hp:p x=true):∀(j:Nat) x,j<k+1->l[j]?=some x->p x=true:=fun j u hj hu=>by
 rcases bG j k with g|g
 .exact h j u g hu
 .rw[show j=k by omega,hx]at hu;cases hu;exact hp
theorem NS (s:SHP):aU 10 [.agg (fx s)] (.bool (NR s)):=by
 have hml:((s.st.map eT).length:Int)=s.st.length:=ap;have hmi:((s.it.map eLd).length:Int)=s.it.length:=ap;generalize hf:NR s=E;rw[NR]at hf;obtain⟨nm,len,st,light,it⟩:=s;simp only at *
 refine aD Proofs.Tryz.func10 ?_;refine H ?_;refine pZ 100 [(1,.ptr 1 1 0 0),(52,.bool (!Pf ⟨nm,len,st,light,it⟩))] [(1,1,⟨27,9,[fx ⟨nm,len,st,light,it⟩],2⟩)] ?_ ?_
 .clear hf
  repeat' (first|refine iQ O ?_|refine fq O O (fun h=>?_) (fun h=>?_)|refine fp O O (fun h=>?_) (fun h=>?_)|refine fm O O (fun h=>?_) (fun h=>?_))
  all_goals refine⟨O,congrArg PV.bool ?_,O,bh⟩
  all_goals (rw[Pf,Bool.not_not];refine zi ?_)
  all_goals (simp only[decide_eq_true_eq,decide_eq_false_iff_not,hml,hmi]at *)
  all_goals (first|omega|(simp only[true_iff];omega)|(simp only[eu,false_iff];omega))
 intro s0;refine H ?_;cases h0:Pf ⟨nm,len,st,light,it⟩
 .rw[h0]at hf;simp only[fg]at hf;subst hf;exact kU
 have h1:st.length<=45/\it.length<=205:=by
  simp only[Pf,kz,decide_eq_false_iff_not]at h0;omega
 rw[h0,iX]at hf;refine H ?_;refine ai (fun k:Nat=>k<=st.length/\∀(j:Nat) t,j<k->st[j]?=some t->EM t=true) (fun k=>[(1,.ptr 1 1 0 0),(3,I (k:Nat))]) (fun _=>[(1,1,⟨27,9,[fx ⟨nm,len,st,light,it⟩],2⟩)]) (fun k=>st.length-k) 0 ⟨aP _,fun j t hj=>absurd hj J⟩ ah ?_;rintro k s1 ⟨hk,hall⟩;refine H ?_;rw[hml];refine aV O ?_ ?_<;>intro h
 .have hlt:k<st.length:=cw h;clear h;obtain⟨t,hx⟩:=ay hlt;have hmL:((t.L.map eN).length:Int)=t.L.length:=ap;have hmH:((t.H0.map eN).length:Int)=t.H0.length:=ap;have hw:=dN k;have bad:EM t=false->E=false:=fun h=>by rw[<-hf,qs hx h,fg]
  have good:=qr hall hx;have hdef:EM t=!decide ((8<t.L.length/\t.L.length<=30)\/40<t.L.length\/40<t.H0.length):=O;generalize EM t=b at *
  refine aN hx ?_;refine cV 7 ?_;refine aQ [(1,.ptr 1 1 0 0),(3,I (k:Nat)),(4,.ptr 4 ((s1.own 4).1+1) 0 0)] [(1,1,⟨27,9,[fx ⟨nm,len,st,light,it⟩],2⟩),(4,(s1.own 4).1+1,⟨115,4,[eT t],2⟩)] ah ?_;generalize (s1.own 4).1+1=g4;intro s2
  ((repeat (first|refine bJ ?_ | refine eg ?_ | refine dO ?_ | refine dH ?_));refine bZ ?_)
  refine pZ 100 [(1,.ptr 1 1 0 0),(3,I (k:Nat)),(86,.bool (!b))] [(1,1,⟨27,9,[fx ⟨nm,len,st,light,it⟩],2⟩)] ?_ ?_
  .clear hf bad good hall
   repeat' (first|refine iQ O ?_|refine fq O O (fun h=>?_) (fun h=>?_)|refine fp O O (fun h=>?_) (fun h=>?_)|refine fm O O (fun h=>?_) (fun h=>?_))
   all_goals refine⟨O,O,congrArg PV.bool ?_,O,bh⟩
   all_goals (rw[hdef,Bool.not_not];refine zi ?_)
   all_goals (simp only[decide_eq_true_eq,decide_eq_false_iff_not,hmL,hmH]at *)
   all_goals (first|omega|(simp only[true_iff];omega)|(simp only[eu,false_iff];omega))
  intro s3;refine H ?_;cases b
  .rw[bad O];exact kU
  .refine H ?_;exact⟨k+1,⟨hlt,good O⟩,J,O,congrArg I hw,O,bh⟩
 have hge:k=st.length:=co h;clear h;subst hge;rw[tN hall,iX]at hf;clear hall;refine H ?_;refine ai (fun k:Nat=>k<=it.length/\∀(j:Nat) t,j<k->it[j]?=some t->Lu t=true) (fun k=>[(1,.ptr 1 1 0 0),(5,I (k:Nat))]) (fun _=>[(1,1,⟨27,9,[fx ⟨nm,len,st,light,it⟩],2⟩)]) (fun k=>it.length-k) 0 ⟨aP _,fun j t hj=>absurd hj J⟩ ah ?_;rintro k s1 ⟨hk,hall⟩;refine H ?_;rw[hmi];refine aV O ?_ ?_<;>intro h
 .have hlt:k<it.length:=cw h;clear h;obtain⟨t,hx⟩:=ay hlt;have hw:=dN k;have bad:Lu t=false->E=false:=fun h=>by rw[<-hf,qs hx h]
  have good:=qr hall hx;have hdef:Lu t=decide (t.nm.length<=40):=O;generalize Lu t=b at *
  refine aN hx ?_;refine D ?_ ?_<;>intro h
  .have h2:40<(t.nm.length:Int):=bk h;clear h;rw[decide_eq_false J]at hdef;rw[bad hdef];exact kU
  .have h2:¬40<(t.nm.length:Int):=bS h;clear h;rw[decide_eq_true J]at hdef;refine H ?_;exact⟨k+1,⟨hlt,good hdef⟩,J,O,congrArg I hw,O,bh⟩
 have hge:k=it.length:=co h;clear h;subst hge;rw[tN hall]at hf;subst hf;exact kU
def Q8 (b:BKR):Bool:=QH b.st 3
def Si (z:ZNR):Bool:=decide (z.nm.length<=40)
def Q9 (d:DKR):Bool:=NR d.s&&!decide ((5<d.bl.length/\d.bl.length<=40)\/65<d.bl.length\/(4<d.zn.length/\d.zn.length<=20)\/25<d.zn.length)
def Mp (d:DKR):Bool:=Q9 d&&d.bl.all Q8&&d.zn.all Si
theorem NQ (d:DKR):aU 18 [.agg (fv d)] (.bool (Mp d)):=by
 have hmb:((d.bl.map eBk).length:Int)=d.bl.length:=ap;have hmz:((d.zn.map lB).length:Int)=d.zn.length:=ap;have hs:=NS d.s;generalize hf:Mp d=E;rw[Mp]at hf;have hM:Q9 d=(NR d.s&&!decide ((5<d.bl.length/\d.bl.length<=40)\/65<d.bl.length\/(4<d.zn.length/\d.zn.length<=20)\/25<d.zn.length)):=O;generalize Q9 d=M,NR d.s=S at *
 obtain⟨s,den,bl,zn,gm,oh⟩:=d;simp only at *
 refine aD Proofs.Tryz.func18 ?_;refine ax hs ?_;refine pZ 100 [(1,.ptr 1 1 0 0),(44,.bool (!M))] [(1,1,⟨56,14,[fv ⟨s,den,bl,zn,gm,oh⟩],2⟩)] ?_ ?_
 .clear hf hs;cases S
  .repeat' (first|refine iQ O ?_|refine fq O O (fun h=>?_) (fun h=>?_)|refine fp O O (fun h=>?_) (fun h=>?_)|refine fm O O (fun h=>?_) (fun h=>?_))
   exact⟨O,congrArg PV.bool (by rw[hM];rfl),O,bh⟩
  .repeat' (first|refine iQ O ?_|refine fq O O (fun h=>?_) (fun h=>?_)|refine fp O O (fun h=>?_) (fun h=>?_)|refine fm O O (fun h=>?_) (fun h=>?_))
   all_goals refine⟨O,congrArg PV.bool ?_,O,bh⟩
   all_goals (rw[hM,iX,Bool.not_not];refine zi ?_)
   all_goals (simp only[decide_eq_true_eq,decide_eq_false_iff_not,hmb,hmz]at *)
   all_goals (first|omega|(simp only[true_iff];omega)|(simp only[eu,false_iff];omega))
 intro s0;refine H ?_;cases M
 .simp only[fg]at hf;subst hf;exact kU
 have h1:bl.length<=65/\zn.length<=25:=by
  have hM:=hM.symm;simp only[cm,kz,decide_eq_false_iff_not]at hM;omega
 rw[iX]at hf;refine H ?_;refine ai (fun k:Nat=>k<=bl.length/\∀(j:Nat) t,j<k->bl[j]?=some t->Q8 t=true) (fun k=>[(1,.ptr 1 1 0 0),(3,I (k:Nat))]) (fun _=>[(1,1,⟨56,14,[fv ⟨s,den,bl,zn,gm,oh⟩],2⟩)]) (fun k=>bl.length-k) 0 ⟨aP _,fun j t hj=>absurd hj J⟩ ah ?_;rintro k s1 ⟨hk,hall⟩;refine H ?_;rw[hmb];refine aV O ?_ ?_<;>intro h
 .have hlt:k<bl.length:=cw h;clear h;obtain⟨t,hx⟩:=ay hlt;have hw:=dN k;have bad:Q8 t=false->E=false:=fun h=>by rw[<-hf,qs hx h,fg]
  have good:=qr hall hx;have hsr:aU 26 [.agg (eR t.st),I (3:Nat)] (.bool (Q8 t)):=wL t.st 3 Y;generalize Q8 t=b at *
  refine aN hx ?_;refine ax hsr ?_;cases b
  .rw[bad O];exact kU
  .refine H ?_;exact⟨k+1,⟨hlt,good O⟩,J,O,congrArg I hw,O,bh⟩
 have hge:k=bl.length:=co h;clear h;subst hge;rw[tN hall,iX]at hf;clear hall;refine H ?_;refine ai (fun k:Nat=>k<=zn.length/\∀(j:Nat) t,j<k->zn[j]?=some t->Si t=true) (fun k=>[(1,.ptr 1 1 0 0),(4,I (k:Nat))]) (fun _=>[(1,1,⟨56,14,[fv ⟨s,den,bl,zn,gm,oh⟩],2⟩)]) (fun k=>zn.length-k) 0 ⟨aP _,fun j t hj=>absurd hj J⟩ ah ?_;rintro k s1 ⟨hk,hall⟩;refine H ?_;rw[hmz];refine aV O ?_ ?_<;>intro h
 .have hlt:k<zn.length:=cw h;clear h;obtain⟨t,hx⟩:=ay hlt;have hw:=dN k;have bad:Si t=false->E=false:=fun h=>by rw[<-hf,qs hx h]
  have good:=qr hall hx;have hdef:Si t=decide (t.nm.length<=40):=O;generalize Si t=b at *
  refine aN hx ?_;refine D ?_ ?_<;>intro h
  .have h2:40<(t.nm.length:Int):=bk h;clear h;rw[decide_eq_false J]at hdef;rw[bad hdef];exact kU
  .have h2:¬40<(t.nm.length:Int):=bS h;clear h;rw[decide_eq_true J]at hdef;refine H ?_;exact⟨k+1,⟨hlt,good hdef⟩,J,O,congrArg I hw,O,bh⟩
 have hge:k=zn.length:=co h;clear h;subst hge;rw[tN hall]at hf;subst hf;exact kU
end Go.Pv
namespace Go.Pv
open Go.RowKit
variable [Globs]
section
variable {P:Program}{L:dj}{s:St}
theorem DX {d:Nat}{c:Cont}:(s.fin d c).own d=((s.own d).1+1,some c):=ar ..
theorem Loc.slit0 {o:Oper}{T e:TypeId}{r re:LRow}{d:Nat}(ho:o.op=.buildSlice T 0 #[])(hd:o.dst=some d)(hr:L T=some r)(hs:r.sh=.sl e)(hre:L e=some re)(hz:re.zero.isSome=true)(hsz:0<re.size) :
  Loc P L s o d ((s.fin d ⟨e,re.size,[],0⟩).putR d (.als d ((s.own d).1+1) 0 0)):=by
 have key:∀u:St,GX P L u o d ((u.fin d ⟨e,re.size,[],0⟩).putR d (.als d ((u.own d).1+1) 0 0)):=fun u=>by
  refine⟨fun k hk=>aO hk,fun t ht=>?_,fun C a w K Q hG h hN hK=>?_⟩
  .show(bif Nat.beq t d then _ else u.reg t)=_;rw[cS (fun e=>ht (by rw[e];exact hd))];rfl
  .have:=Eff.slit (P:=P) (L:=L) (s:=u) (o:=o) (parts:=#[]) (n:=0) (Pr:=True) 0 ho hd hr hs hre hz hsz O ap (fun p hp=>by simp at hp) O trivial O;exact this.sound hG.lay hG.x hG.glob h hN hK
 refine .any (key s) fun u hu _=>⟨_,key u,?_,fun t ht=>?_⟩
 .show(u.fin d _).own d=(s.fin d _).own d;rw[DX,DX,hu]
 .rw[hd]at ht;cases ht;show(bif Nat.beq d d then _ else _)=(bif Nat.beq d d then _ else _);simp[hu]
theorem Loc.appG {o:Oper}{T e:TypeId}{r re:LRow}{x y:Operand}{d k g:Nat}{rows:List (List PV)}(ho:o.op=.call ⟨.builtin .append,#[x,y],#[T,T]⟩)(hd:o.dst=some d)(hr:L T=some r)(hs:r.sh=.sl e)(hre:L e=some re)(hz:re.zero.isSome=true)(hsz:0<re.size)
  (hx:s.ev x=.als k g 0 0) (hown:s.own k=(g,some ⟨e,re.size,[],0⟩)) (hy:s.ev y=.sl rows) (hpl:rows.all (·.all jV)=true) (hlen:∀row∈rows,row.length=re.size) (hb:rows.length*re.bytes<=140737488355328) (h63:rows.length<=9223372036854775807) :
  Loc P L s o k ((s.setOwn k (g+2) none).putR d (.fsl rows)):=by
 have key:∀u:St,u.own k=s.own k->(∀z∈o.op.operands,u.ev z=s.ev z)->GX P L u o k ((u.setOwn k (g+2) none).putR d (.fsl rows)):=fun u hu he=>by
  refine⟨fun k' hk=>aO hk,fun t ht=>?_,fun C a w K Q hG h hN hK=>?_⟩
  .show(bif Nat.beq t d then _ else u.reg t)=_;rw[cS (fun e=>ht (by rw[e];exact hd))];rfl
  .have hx':u.ev x=.als k g 0 0:=by rw[he x (by rw[ho];simp[Op.operands,Call.operands])];exact hx
   have hy':u.ev y=.sl rows:=by rw[he y (by rw[ho];simp[Op.operands,Call.operands])];exact hy
   have:=Eff.app (P:=P) (L:=L) (s:=u) (o:=o) (c:=⟨e,re.size,[],0⟩) (m:=0) (rows2:=rows) (k2:=1) (Cd2:=True) 1 ho hd hr hs hre hz hsz hx' (by rw[hu];exact hown) O O O (by rw[hy'];rfl) trivial hlen (by show(0:Nat)<=1;omega) J (by simpa using hb) (by simpa using h63);refine this.sound hG.lay hG.x hG.glob h hN fun a' w' h'=>hK a' w' ?_;have hg:(u.own k).1=g:=by rw[hu,hown]
   let l:List {r:List PV // r.all jV=true}:=rows.attachWith _ fun row hrow=>ct.1 hpl row hrow;have hl:l.map Subtype.val=rows:=by simp[l]
   have hgh:=Ghost.takeF (s:=(u.fin k ⟨e,re.size,[]++rows,1⟩).putR d (.als k (g+1) 0 ([]++rows).length)) (k:=k) (g:=g+1) (t:=d) (n:=rows.length) (kd:=1) (sz:=re.size) (T:=e) (rows:=rows) (enc:=Subtype.val) l (by show(u.fin k _).own k=_;rw[DX,hg];rfl) (by show(bif Nat.beq d d then _ else _)=_;simp) hl.symm O fun x=>x.2;rw[hl]at hgh;have h2:=hgh C a' w' hG.x h';have hst:((((u.fin k ⟨e,re.size,[]++rows,1⟩).putR d (.als k (g+1) 0 ([]++rows).length)).setOwn k (g+1+1) none).putR d (.fsl rows))=((u.setOwn k (g+2) none).putR d (.fsl rows)):=by
    refine St.ext' (funext fun t=>?_) (funext fun q=>?_)
    .show(bif Nat.beq t d then _ else(bif Nat.beq t d then _ else u.reg t))=(bif Nat.beq t d then _ else u.reg t);cases Nat.beq t d<;>rfl
    .by_cases hq:q=k
     .subst hq;show(St.setOwn _ q (g+1+1) none).own q=(St.setOwn _ q (g+2) none).own q;rw[ar,ar]
     .show(St.setOwn _ k (g+1+1) none).own q=(St.setOwn _ k (g+2) none).own q;rw[aO hq,aO hq];exact aO hq
   rwa [hst]at h2
 refine .any (key s O fun _ _=>rfl) fun u hu he=>⟨_,key u hu he,?_,fun t ht=>?_⟩
 .show(St.setOwn _ k (g+2) none).own k=(St.setOwn _ k (g+2) none).own k;rw[ar,ar]
 .rw[hd]at ht;cases ht;show(bif Nat.beq d d then _ else _)=(bif Nat.beq d d then _ else _);simp
theorem Loc.idx {o:Oper}{T e:TypeId}{r re:LRow}{x ix:Operand}{d k g i m n:Nat}{kk:IntKind}{c:Cont}(ho:o.op=.indexAddr T x ix)(hd:o.dst=some d)(hr:L T=some r)(hs:r.sh=.sl e)(hre:L e=some re)
  (hx:s.ev x=.als k g i m) (hown:s.own k=(g,some c)) (hsz:c.sz=re.size) (hix:s.ev ix=.int kk (n:Int)) (hlt:n<m):Loc P L s o k (s.putR d (.ptr k g (i+n) 0)):=by
 have key:∀u:St,u.own k=s.own k->(∀z∈o.op.operands,u.ev z=s.ev z)->GX P L u o k (u.putR d (.ptr k g (i+n) 0)):=fun u hu he=>by
  refine⟨fun k' hk=>rfl,fun t ht=>?_,fun C a w K Q hG h hN hK=>?_⟩
  .show(bif Nat.beq t d then _ else u.reg t)=_;rw[cS (fun e=>ht (by rw[e];exact hd))];rfl
  .have hx':u.ev x=.als k g i m:=by rw[he x (by rw[ho];simp[Op.operands,Call.operands])];exact hx
   have hy':u.ev ix=.int kk (n:Int):=by rw[he ix (by rw[ho];simp[Op.operands])];exact hix
   have:=QOp.idxA (P:=P) (L:=L) (s:=u) (o:=o) ho hr hs hre hx' (by rw[hu];exact hown) hsz hy' J J;rw[be]at this;refine this.wp hG h hN fun a' w' h'=>hK a' w' ?_;rw[hd]at h';exact h'
 refine .any (key s O fun _ _=>rfl) fun u hu he=>⟨_,key u hu he,hu,fun t ht=>?_⟩;rw[hd]at ht;cases ht;show(bif Nat.beq d d then _ else _)=(bif Nat.beq d d then _ else _);simp
theorem Loc.look {o:Oper}{d k:Nat}{v:PV}(hd:o.dst=some d)(h:∀u:St,u.own k=s.own k->(∀z∈o.op.operands,u.ev z=s.ev z)->QOp P L u o v):Loc P L s o k (s.putR d v):=by
 have key:∀u:St,u.own k=s.own k->(∀z∈o.op.operands,u.ev z=s.ev z)->GX P L u o k (u.putR d v):=fun u hu he=>by
  refine⟨fun k' hk=>rfl,fun t ht=>?_,fun C a w K Q hG hs hN hK=>?_⟩
  .show(bif Nat.beq t d then _ else u.reg t)=_;rw[cS (fun e=>ht (by rw[e];exact hd))];rfl
  .refine(h u hu he).wp hG hs hN fun a' w' h'=>hK a' w' ?_;rw[hd]at h';exact h'
 refine .any (key s O fun _ _=>rfl) fun u hu he=>⟨_,key u hu he,hu,fun t ht=>?_⟩;rw[hd]at ht;cases ht;show(bif Nat.beq d d then _ else _)=(bif Nat.beq d d then _ else _);simp
end
section
variable {P:Program}{L:dj}{ops:Array Oper}{s:St}{K:St->Prop}{rest:List Oper}
theorem Tx {Z:List Nat}{lc:Nat->Option Nat}{i d k gn ii j f off:Nat}{T ft ty:TypeId}{r rf:LRow}{fs:List (Nat × TypeId)}{x:Operand}{c:Cont}{pos:String}{af:Array Edge}{g:Option (Nat × Bool)}(hg:gB ops s g=some true)(hc:lc i=some k)(hr:L T=some r)(hs:r.sh=.st fs)(hf:fs[f]?=some (off,ft))(hrf:L ft=some rf)(hsz:Nat.blt 0 rf.size=true)
  (hx:s.ev x=.ptr k gn ii j) (hown:s.own k=(gn,some c)) (hlt:Nat.blt (j+off) c.sz=true)
  (h:P5 P L ops Z lc K (i+1) rest (s.putR d (.ptr k gn ii (j+off)))):P5 P L ops Z lc K i (⟨some d,.fieldAddr T x f,ty,pos,af,g⟩::rest) s:=by
 refine⟨_,?_,h⟩;rw[hc];refine Step5.loc (o:=⟨some d,.fieldAddr T x f,ty,pos,af,g⟩) (f_ hg) (.look O fun u hu he=>?_);refine .v (Cd:=True) ?_ trivial;have hx':u.ev x=.ptr k gn ii j:=by rw[he x (by simp[Op.operands])];exact hx
 simp only[qv,hr,hs,hf,hrf,hsz,cond_true,hx',hu,hown,hlt]
theorem Tj {Z:List Nat}{lc:Nat->Option Nat}{i d:Nat}{T e ty:TypeId}{r re:LRow}{pos:String}{af:Array Edge}{g:Option (Nat × Bool)}(hg:gB ops s g=some true)(hc:lc i=some d)(hr:L T=some r)(hs:r.sh=.sl e)(hre:L e=some re)(hz:re.zero.isSome=true)(hsz:Nat.blt 0 re.size=true)
  (h:P5 P L ops Z lc K (i+1) rest ((s.fin d ⟨e,re.size,[],0⟩).putR d (.als d ((s.own d).1+1) 0 0))):P5 P L ops Z lc K i (⟨some d,.buildSlice T 0 #[],ty,pos,af,g⟩::rest) s:=by
 refine⟨_,?_,h⟩;rw[hc];exact Step5.loc (o:=⟨some d,.buildSlice T 0 #[],ty,pos,af,g⟩) (f_ hg) (.slit0 O O hr hs hre hz (by simpa using hsz))
theorem Tk {Z:List Nat}{lc:Nat->Option Nat}{i d k gn:Nat}{T e ty:TypeId}{r re:LRow}{x y:Operand}{rows:List (List PV)}{pos:String}{af:Array Edge}{g:Option (Nat × Bool)}(hg:gB ops s g=some true)(hc:lc i=some k)(hr:L T=some r)(hs:r.sh=.sl e)(hre:L e=some re)(hz:re.zero.isSome=true)(hsz:Nat.blt 0 re.size=true)
  (hx:s.ev x=.als k gn 0 0) (hown:s.own k=(gn,some ⟨e,re.size,[],0⟩)) (hy:s.ev y=.sl rows) (hpl:rows.all (·.all jV)=true) (hlen:∀row∈rows,row.length=re.size) (hb:rows.length*re.bytes<=140737488355328) (h63:rows.length<=9223372036854775807)
  (h:P5 P L ops Z lc K (i+1) rest ((s.setOwn k (gn+2) none).putR d (.fsl rows))):P5 P L ops Z lc K i (⟨some d,.call ⟨.builtin .append,#[x,y],#[T,T]⟩,ty,pos,af,g⟩::rest) s:=by
 refine⟨_,?_,h⟩;rw[hc];exact Step5.loc (o:=⟨some d,.call ⟨.builtin .append,#[x,y],#[T,T]⟩,ty,pos,af,g⟩) (f_ hg) (.appG O O hr hs hre hz (by simpa using hsz) hx hown hy hpl hlen hb h63)
theorem Ty {Z:List Nat}{lc:Nat->Option Nat}{i d k gn ii m n:Nat}{kk:IntKind}{T e ty:TypeId}{r re:LRow}{x ix:Operand}{c:Cont}{pos:String}{af:Array Edge}{g:Option (Nat × Bool)}(hg:gB ops s g=some true)(hc:lc i=some k)(hr:L T=some r)(hs:r.sh=.sl e)(hre:L e=some re)
  (hx:s.ev x=.als k gn ii m) (hown:s.own k=(gn,some c)) (hsz:c.sz=re.size) (hix:s.ev ix=.int kk (n:Int)) (hlt:n<m)
  (h:P5 P L ops Z lc K (i+1) rest (s.putR d (.ptr k gn (ii+n) 0))):P5 P L ops Z lc K i (⟨some d,.indexAddr T x ix,ty,pos,af,g⟩::rest) s:=by
 refine⟨_,?_,h⟩;rw[hc];exact Step5.loc (o:=⟨some d,.indexAddr T x ix,ty,pos,af,g⟩) (f_ hg) (.idx O O hr hs hre hx hown hsz hix hlt)
end
end Go.Pv
set_option maxHeartbeats 2000000
namespace Go.Pv
attribute [local irreducible] PWP POps PQuiet PSem aE aw aj ak
open Go.Proofs
theorem Bt (d:DKR)(h1:d.s.st.length<=1000)(h2:d.s.it.length<=1000)(h3:d.bl.length<=1000)(h4:d.zn.length<=1000)(hL:∀t∈d.s.st,t.L.length<=1000/\t.H0.length<=1000)(hS:∀b∈d.bl,b.st.sz 1000):aU 28 [.agg (fv d)] (.agg (fv d)):=by
 have hms:(d.s.st.map eT).length=d.s.st.length:=ap;have hmb:(d.bl.map eBk).length=d.bl.length:=ap;obtain⟨⟨nm,len,st,⟨ln,lm,lx,lz,lf⟩,it⟩,den,bl,zn,gm,oh⟩:=d;simp only at *
 refine aD Proofs.Tryz.func28 ?_;refine H ?_;refine aC (bb 1 O O O O O O O O O O O ah O ?_);refine H ?_;refine aC (bO 1 O O O O O O O O O O O ah (by intro row hr;obtain⟨p,_,rfl⟩:=aW.1 hr;rfl) O O aS aS ?_);refine cV 4 ?_;refine aQ [(1,.ptr 1 1 0 0),(2,.ptr 2 1 0 0),(3,.ptr 3 1 0 0),(4,I ((0:Nat):Int))] [(1,1,⟨56,14,[[.str nm,I len,.sl (st.map eT),.str ln,I lm,I lx,I lz,I lf,.sl (it.map eLd),I den,.sl (bl.map eBk),.sl (zn.map lB),I gm,I oh]],2⟩),(2,1,⟨56,14,[[.str [],I 0,.nil,.str [],I 0,I 0,I 0,I 0,.nil,I 0,.nil,.nil,I 0,I 0]],2⟩),(3,1,⟨56,14,[[.str nm,I len,.nil,.str ln,I lm,I lx,I lz,I lf,.als 9 2 0 (it.map eLd).length,I den,.sl (bl.map eBk),.sl (zn.map lB),I gm,I oh]],2⟩),(9,2,⟨24,5,it.map eLd,1⟩)] ah ?_;intro s0;refine ao (Ghost.freezeD (k:=9) (k0:=3) (i:=0) (j:=8) (row:=[.str nm,I len,.nil,.str ln,I lm,I lx,I lz,I lf,.als 9 2 0 (it.map eLd).length,I den,.sl (bl.map eBk),.sl (zn.map lB),I gm,I oh]) O O O O O O O O) ?_;refine ao (Ghost.nilcell (k:=400) (k0:=3) (i:=0) (j:=2) (row:=[.str nm,I len,.nil,.str ln,I lm,I lx,I lz,I lf,.sl (it.map eLd),I den,.sl (bl.map eBk),.sl (zn.map lB),I gm,I oh]) 115 4 1 O O O O O O O) ?_;have hg4:∃g4,(s0.own 400).1+1=g4:=⟨_,O⟩;obtain⟨g4,hg4⟩:=hg4;refine ai (fun i:Nat=>i<=st.length) (fun i=>[(1,.ptr 1 1 0 0),(2,.ptr 2 1 0 0),(3,.ptr 3 1 0 0),(4,I (i:Nat))]) (fun i=>[(1,1,⟨56,14,[[.str nm,I len,.sl (st.map eT),.str ln,I lm,I lx,I lz,I lf,.sl (it.map eLd),I den,.sl (bl.map eBk),.sl (zn.map lB),I gm,I oh]],2⟩),(2,1,⟨56,14,[[.str [],I 0,.nil,.str [],I 0,I 0,I 0,I 0,.nil,I 0,.nil,.nil,I 0,I 0]],2⟩),(3,1,⟨56,14,[[.str nm,I len,.als 400 (g4+i) 0 ((st.take i).map eT).length,.str ln,I lm,I lx,I lz,I lf,.sl (it.map eLd),I den,.sl (bl.map eBk),.sl (zn.map lB),I gm,I oh]],2⟩),(400,g4+i,⟨115,4,(st.take i).map eT,1⟩)]) (fun i=>st.length-i) 0 (aP _) ⟨O,O,O,O,O,O,by rw[<-hg4];rfl,by rw[<-hg4];rfl,bh⟩ ?_;clear hg4;intro i s1 hi;refine H ?_;rw[hms];refine aV O ?_ ?_<;>intro h
 .have hlt:i<st.length:=cw h;clear h;obtain⟨t,hx⟩:=ay hlt;obtain⟨hl1,hl2⟩:=hL t (bC hx);have e1:=(rZ t.L J).shared_of_fresh;have e2:=(rZ t.H0 J).shared_of_fresh;have hrow:(st.take (i+1)).map eT=(st.take i).map eT++[[I t.x,I t.w,.sl (t.L.map eN),.sl (t.H0.map eN)]]:=by rw[bR hx,bj];rfl
  have hw:=dN i;have htl:((st.take i).map eT).length<=1000:=by rw[aF,bc];omega
  have hb4:g4+(i+1)=g4+i+1:=O;generalize (st.take i).map eT=R at *
  refine aN hx ?_;refine cV 7 ?_;refine bM [46,400] [3] 16 [14,15,16,17,18] aH aH ?_;refine G e1 ?_;refine G e2 ?_;refine H ?_;refine jQ O O O (bb 1 O O O O O O O O O O O ah O ⟨fU O,?_⟩);refine H ?_;refine jQ O O O (bO 1 O O O O O O O O O O O ah (by intro row hr;first|(simp at hr;subst hr;rfl)|(simp at hr;obtain⟨_,_,rfl⟩:=hr;rfl)|simp at hr) O O aS aS ⟨fU O,?_⟩);refine H ?_;refine⟨i+1,hlt,J,O,O,O,congrArg I hw,O,O,?_,?_,bh⟩
  .rw[hrow,hb4];rfl
  .rw[hrow,hb4];rfl
 have hie:i=st.length:=co h;clear h;subst hie;rw[bI];refine ao (Ghost.freezeD (k:=400) (k0:=3) (i:=0) (j:=2) (row:=[.str nm,I len,.als 400 (g4+st.length) 0 (st.map eT).length,.str ln,I lm,I lx,I lz,I lf,.sl (it.map eLd),I den,.sl (bl.map eBk),.sl (zn.map lB),I gm,I oh]) O O O O O O O O) ?_;refine H ?_;refine aC (bb 1 O O O O O O O O O O O ah O ?_);refine H ?_;refine aC (bO 1 O O O O O O O O O O O ah (by intro row hr;obtain⟨p,_,rfl⟩:=aW.1 hr;rfl) O O aS aS ?_);refine cV 10 ?_;refine aQ [(1,.ptr 1 1 0 0),(2,.ptr 2 1 0 0),(3,.ptr 3 1 0 0),(6,I ((0:Nat):Int))] [(1,1,⟨56,14,[[.str nm,I len,.sl (st.map eT),.str ln,I lm,I lx,I lz,I lf,.sl (it.map eLd),I den,.sl (bl.map eBk),.sl (zn.map lB),I gm,I oh]],2⟩),(2,1,⟨56,14,[[.str [],I 0,.nil,.str [],I 0,I 0,I 0,I 0,.nil,I 0,.nil,.nil,I 0,I 0]],2⟩),(3,1,⟨56,14,[[.str nm,I len,.sl (st.map eT),.str ln,I lm,I lx,I lz,I lf,.sl (it.map eLd),I den,.als 50 ((s1.own 50).1+2) 0 (bl.map eBk).length,.sl (zn.map lB),I gm,I oh]],2⟩),(50,(s1.own 50).1+2,⟨136,11,bl.map eBk,1⟩)] ah ?_;generalize (s1.own 50).1+2=g5;intro s2;refine ai (fun i:Nat=>i<=bl.length) (fun i=>[(1,.ptr 1 1 0 0),(2,.ptr 2 1 0 0),(3,.ptr 3 1 0 0),(6,I (i:Nat))]) (fun _=>[(1,1,⟨56,14,[[.str nm,I len,.sl (st.map eT),.str ln,I lm,I lx,I lz,I lf,.sl (it.map eLd),I den,.sl (bl.map eBk),.sl (zn.map lB),I gm,I oh]],2⟩),(2,1,⟨56,14,[[.str [],I 0,.nil,.str [],I 0,I 0,I 0,I 0,.nil,I 0,.nil,.nil,I 0,I 0]],2⟩),(3,1,⟨56,14,[[.str nm,I len,.sl (st.map eT),.str ln,I lm,I lx,I lz,I lf,.sl (it.map eLd),I den,.als 50 g5 0 (bl.map eBk).length,.sl (zn.map lB),I gm,I oh]],2⟩),(50,g5,⟨136,11,bl.map eBk,1⟩)]) (fun i=>bl.length-i) 0 (aP _) ah ?_;intro i s3 hi;refine D ?_ ?_<;>intro h
 .have hlt:i<bl.length:=by have:=bk h;simp only[hmb]at this;omega
  clear h;obtain⟨b,hx⟩:=ay hlt;obtain⟨hb1,hb2⟩:=hS b (bC hx);have hrl:(bl.map eBk)[i]?=some [I b.x,I b.z,I b.hf,I b.ht,I b.wd,.bool b.st.n.neg,.sl (b.st.n.l.map eU),.bool b.st.d.neg,.sl (b.st.d.l.map eU),I b.lim,.bool b.side]:=by rw[bw,hx];rfl
  have hset:(bl.map eBk).set i [I b.x,I b.z,I b.hf,I b.ht,I b.wd,.bool b.st.n.neg,.sl (b.st.n.l.map eU),.bool b.st.d.neg,.sl (b.st.d.l.map eU),I b.lim,.bool b.side]=bl.map eBk:=by
   refine i6 fun j=>?_;rcases Nat.decEq i j with hne|rfl
   .rw[et hne]
   .rw[fA (by rw[aF];exact hlt),hrl]
  have hw:=dN i;have hpl:∀l:List UInt16,(l.map eU).all (·.all jV)=true:=fun l=>ct.2 fun r hr=>by obtain⟨c,_,rfl⟩:=aW.1 hr;rfl
  have hle:∀l:List UInt16,∀r∈l.map eU,r.length=1:=fun l r hr=>by obtain⟨c,_,rfl⟩:=aW.1 hr;rfl
  have hn1:(b.st.n.l.map eU).length=b.st.n.l.length:=ap;have hn2:(b.st.d.l.map eU).length=b.st.d.l.length:=ap;refine aN hx ?_;refine cV 13 ?_;refine ip [(6,74),(10,74),(15,83),(19,83),(22,50),(23,50),(24,50)] aH aH ?_;refine H ?_;refine Tj O O O O O O O ?_;refine H ?_;refine Tk O O O O O O O O O O (hpl _) (hle _) (by rw[hn1];show _*2<=_;omega) (by rw[hn1];omega) ?_;refine H ?_;refine Tj O O O O O O O ?_;refine H ?_;refine Tk O O O O O O O O O O (hpl _) (hle _) (by rw[hn2];show _*2<=_;omega) (by rw[hn2];omega) ?_;refine H ?_;refine Ty (n:=i) O O O O O O O O O (by rw[hmb];exact hlt) ?_;rw[aM i];refine Tx O O O O O O O O O O ?_;refine IP 1 O O O O O hrl (fun _=>rfl) ah O O O O ?_;refine H ?_;refine⟨i+1,hlt,J,O,O,O,congrArg I hw,O,O,O,?_,bh⟩;refine Eq.trans (b:=(g5,some (Cont.mk 136 11 ((bl.map eBk).set i [I b.x,I b.z,I b.hf,I b.ht,I b.wd,.bool b.st.n.neg,.sl (b.st.n.l.map eU),.bool b.st.d.neg,.sl (b.st.d.l.map eU),I b.lim,.bool b.side]) 1))) O ?_;rw[hset]
 have hie:i=bl.length:=by have:=bS h;simp only[hmb]at this;omega
 clear h;subst hie;refine ao (Ghost.freezeD (k:=50) (k0:=3) (i:=0) (j:=10) (row:=[.str nm,I len,.sl (st.map eT),.str ln,I lm,I lx,I lz,I lf,.sl (it.map eLd),I den,.als 50 g5 0 (bl.map eBk).length,.sl (zn.map lB),I gm,I oh]) O O O O O O O O) ?_;refine H ?_;refine aC (bb 1 O O O O O O O O O O O ah O ?_);refine H ?_;refine aC (bO 1 O O O O O O O O O O O ah (by intro row hr;obtain⟨p,_,rfl⟩:=aW.1 hr;rfl) O O aS aS ?_);refine cV 15 ?_;refine aQ [(1,.ptr 1 1 0 0),(2,.ptr 2 1 0 0),(3,.ptr 3 1 0 0)] [(1,1,⟨56,14,[[.str nm,I len,.sl (st.map eT),.str ln,I lm,I lx,I lz,I lf,.sl (it.map eLd),I den,.sl (bl.map eBk),.sl (zn.map lB),I gm,I oh]],2⟩),(2,1,⟨56,14,[[.str [],I 0,.nil,.str [],I 0,I 0,I 0,I 0,.nil,I 0,.nil,.nil,I 0,I 0]],2⟩),(3,1,⟨56,14,[[.str nm,I len,.sl (st.map eT),.str ln,I lm,I lx,I lz,I lf,.sl (it.map eLd),I den,.sl (bl.map eBk),.als 92 ((s3.own 92).1+2) 0 (zn.map lB).length,I gm,I oh]],2⟩),(92,(s3.own 92).1+2,⟨138,4,zn.map lB,1⟩)] ah ?_;generalize (s3.own 92).1+2=g9;intro s4;refine ao (Ghost.freezeD (k:=92) (k0:=3) (i:=0) (j:=11) (row:=[.str nm,I len,.sl (st.map eT),.str ln,I lm,I lx,I lz,I lf,.sl (it.map eLd),I den,.sl (bl.map eBk),.als 92 g9 0 (zn.map lB).length,I gm,I oh]) O O O O O O O O) ?_;exact cA
def xJ:List ST:=[yF 5000,yF 15000]
def AN:List BKR:=[Ba 5000,Ba 15000]
set_option maxHeartbeats 16000000 in
theorem KU:aU 70 [] (.agg (fv lL)):=by
 have w:=cf 1000 ⟨Y,Y⟩;have hB:∀i:Nat,i<2->(AN.take (i+1)).map eBk=(AN.take i).map eBk++[[I (if i=0 then 5000 else 15000),I 0,I 500,I 1500,I 1000]++eR (ofQ ((1000:Int):Rat))++[I 200000,.bool false]]:=fun i hi=>by
  obtain rfl|rfl:i=0\/i=1:=J
  .rfl
  .rfl
 have hT:∀i:Nat,i<2->(xJ.take (i+1)).map eT=(xJ.take i).map eT++[[I (if i=0 then 5000 else 15000),I 10000,.sl [[I 0],[I 3000]],.sl [[I 4000]]]]:=fun i hi=>by
  obtain rfl|rfl:i=0\/i=1:=J
  .rfl
  .rfl
 have hlB:∀i:Nat,((AN.take i).map eBk).length<=2:=fun i=>by rw[aF,bc];exact Af _ _
 have hlT:∀i:Nat,((xJ.take i).map eT).length<=2:=fun i=>by rw[aF,bc];exact Af _ _
 have hend:fv lL=[.str [82,97,102,116],I 20000,.sl ((xJ.take 2).map eT),.str [76,105,103,104,116],I 320000,I 10000,I 2000,I 0,.sl [],I 1000,.sl ((AN.take 2).map eBk),.sl [],I 150,I 5000]:=O;rw[hend];clear hend;generalize ofQ ((1000:Int):Rat)=W at *
 suffices hz:aU 70 [] (.agg [.str [82,97,102,116],I 20000,.sl ((xJ.take 2).map eT),.str [76,105,103,104,116],I 320000,I 10000,I 2000,I 0,.nil,I 1000,.sl ((AN.take 2).map eBk),.nil,I 150,I 5000]) from
  hz.weak .nil (WeakL.agg (.cons (.rfl _) (.cons (.rfl _) (.cons (.rfl _) (.cons (.rfl _) (.cons (.rfl _) (.cons (.rfl _) (.cons (.rfl _) (.cons (.rfl _) (.cons .nil (.cons (.rfl _) (.cons (.rfl _) (.cons .nil (WeakL.refl _))))))))))))))
 refine aD Proofs.Tryz.func70 ?_;refine cV 3 ?_;refine ao (Ghost.nilreg (k:=1002) (t:=2) 136 11 1 O O) ?_;refine ao (Ghost.nilcell (k:=400) (k0:=1) (i:=0) (j:=2) (row:=[.str [82,97,102,116],I 20000,.nil,.str [76,105,103,104,116],I 320000,I 10000,I 2000,I 0,.nil]) 115 4 1 O O O O O O O) ?_;refine H ?_;refine aQ [(0,.ptr 0 1 0 0),(1,.ptr 1 1 0 0),(2,.als 1002 1 0 0),(3,I ((0:Nat):Int))] [(0,1,⟨56,14,[[.str [],I 0,.nil,.str [],I 0,I 0,I 0,I 0,.nil,I 0,.nil,.nil,I 0,I 0]],2⟩),(1,1,⟨27,9,[[.str [82,97,102,116],I 20000,.als 400 1 0 0,.str [76,105,103,104,116],I 320000,I 10000,I 2000,I 0,.nil]],2⟩),(400,1,⟨115,4,[],1⟩),(1002,1,⟨136,11,[],1⟩)] ah ?_;intro s0;generalize ([82,97,102,116]:List UInt8)=S1;generalize ([76,105,103,104,116]:List UInt8)=S2;refine ai (fun i:Nat=>i<=2) (fun i=>[(0,.ptr 0 1 0 0),(1,.ptr 1 1 0 0),(2,.als 1002 (1+i) 0 ((AN.take i).map eBk).length),(3,I (i:Nat))])
  (fun i=>[(0,1,⟨56,14,[[.str [],I 0,.nil,.str [],I 0,I 0,I 0,I 0,.nil,I 0,.nil,.nil,I 0,I 0]],2⟩),(1,1,⟨27,9,[[.str S1,I 20000,.als 400 (1+i) 0 ((xJ.take i).map eT).length,.str S2,I 320000,I 10000,I 2000,I 0,.nil]],2⟩),(400,1+i,⟨115,4,(xJ.take i).map eT,1⟩),(1002,1+i,⟨136,11,(AN.take i).map eBk,1⟩)]) (fun i=>2-i) 0 (aP _)
  ah ?_
 intro i s hi;refine D ?_ ?_<;>intro h
 .have hlt:i<2:=cw h;clear h;have hBi:=hB i hlt;have hTi:=hT i hlt;have hbi:=hlB i;have hti:=hlT i;have hw:=dN i;have hx:IntKind.i64.wrap (5000+IntKind.i64.wrap (10000*((i:Nat):Int)))=if i=0 then 5000 else 15000:=by
   obtain rfl|rfl:i=0\/i=1:=J
   .rfl
   .rfl
  have h1:1+(i+1)=1+i+1:=O;generalize (AN.take i).map eBk=B,(xJ.take i).map eT=T,(if i=0 then(5000:Int) else 15000)=X at *
  refine H ?_;rw[hx];refine H ?_;refine ci O O (fE O O O O O O O O O O ah O) ?_;refine H ?_;refine ci O O (fE O O O O O O O O O O ah O) ?_;refine H ?_;refine aC (bb 1 O O O O O O O O O O O ah O ?_);refine H ?_;refine aC (bO 1 O O O O O O O O O O O ah fW O O aS aS ?_);refine G w ?_;refine H ?_;refine aC (bb 1 O O O O O O O O O O O ah O ?_);refine H ?_;refine aC (bO 1 O O O O O O O O O O O ah fW O O aS aS ?_);refine H ?_;refine⟨i+1,hlt,J,O,O,?_,congrArg I hw,O,?_,?_,?_,bh⟩
  .rw[hBi];rfl
  .rw[hTi];rfl
  .rw[hTi];rfl
  .rw[hBi];rfl
 have hie:i=2:=co h;clear h;subst hie;refine ao (Ghost.freezeD (k:=400) (k0:=1) (i:=0) (j:=2) (row:=[.str S1,I 20000,.als 400 (1+2) 0 ((xJ.take 2).map eT).length,.str S2,I 320000,I 10000,I 2000,I 0,.nil]) O O O O O O O O) ?_;refine ao (Ghost.takeD (k:=1002) (t:=2) O O O) ?_;generalize (AN.take 2).map eBk=B,(xJ.take 2).map eT=T at *
 exact cA
theorem Sb {x:Int}(h:x=5000\/x=15000):BkIn (Ba x)/\(Ba x).st.sz 12:=by
 refine⟨sI (AM (by rcases h with rfl|rfl<;>decide)),pN ⟨Y,Y⟩⟩
theorem wH:lL.Bl:=by
 obtain⟨h1,h2⟩:=AW (s:=lL.s) Eu;refine⟨h1,h2,fun b hb=>?_,Y⟩;simp only[lL,bV,gx,or_false]at hb;rcases hb with rfl|rfl
 .exact Sb (.inl O)
 .exact Sb (.inr O)
theorem KZ:lL.Ok:=⟨⟨uI,Y,Y⟩,fun b hb=>(wH.b b hb).2⟩
theorem OG {x:Int}(h:x=5000\/x=15000):lw lL.s.st (Ba x)=ji x:=by
 have hb:jK lL.s.st (Ba x)=0:=by
  rw[jK];show(gl x 0 [yF 5000,yF 15000]).getD 0=0;rw[AL h];rfl
 have hs:jX (Ba x)=((1000:Int):Rat):=by
  rw[jX,if_neg (by show ¬false=true;decide)];show(ofQ ((1000:Int):Rat)).val=_;rw[ofQ_val]
 rw[lw,hb,hs];rfl
theorem Jd:df lL.s.st lL.bl=[ji 5000,ji 15000]:=by
 show [lw lL.s.st (Ba 5000),lw lL.s.st (Ba 15000)]=_;rw[OG (.inl O),OG (.inr O)]
theorem E6:eH 1000 xr.st=[h_ 5000,h_ 15000]:=by
 show [iq 1000 (yF 5000),iq 1000 (yF 15000)]=_;rw[GJ,GJ]
theorem y4:dC lL 0=r2.l:=by
 rw[dC,Jd];show [ji 5000,ji 15000]++(eH 1000 xr.st).map (ri 0)=_;rw[E6];rfl
theorem QQ:aU 52 [.agg (fx xr),I 1000] (.tup [.sl ((eH 1000 xr.st).map eS),I 0]) :=
 tB xr uI 1000 SO Y Y wH.st wH.n
theorem GT (l:List SR)(B:BR)(h1:wB xr l=B)(h2:pB xr l=B)(hl:B.Lim)(h0:dP B=0)(h12:l.length<=1000)(hM:∀x∈l,x.k.M.length<=1000):aU 53 [.agg (fx xr),.sl (l.map eS)] (.tup [.agg (eB B),I 0]):=by
 have h:=Do xr uI Eu l (by rw[h1];exact hl) (by rw[h2];exact hl) h12 hM;rw[h2,h0,if_pos O]at h;exact h
theorem M6:aU 14 [.agg (fx xr),I 1000] (.tup [.agg (r7 ⟨ofQ ((2000:Int):Rat),ofQ 0⟩ [ofQ 160000,ofQ 160000]),.agg (eR RR.zero++eR RR.zero),I 0]):=by
 have hw:=GT (eH 1000 xr.st) r1 Rz (by rw[RA];exact Rz) OW.lim KR (by rw[E6];decide) (fun x hx=>by
  rw[E6]at hx;simp only[bV,gx,or_false]at hx
  rcases hx with rfl|rfl<;>(show 2<=1000;decide))
 have h9:=Qt.weak (WeakL.refl _) (WeakL.tup (.cons (.rfl _) (.cons mU.agg (WeakL.refl _))));exact JF xr 1000 r1 (eH 1000 xr.st) 0 ⟨⟨ofQ ((2000:Int):Rat),ofQ 0⟩,[ofQ 160000,ofQ 160000],zA,0⟩ QQ hw (fun _=>h9) (fun h=>absurd O h)
theorem Ta {z:Int}(h:i64 z):Va ⟨ofQ (z:Rat),ofQ 0⟩ (z:Rat) 0 4 4:=⟨Vq.ofQ (h:=⟨xD z h⟩),Vq.ofQ (h:=HQ.zero.mono Y)⟩
theorem Of:aU 69 [.agg (fv lL)] (.tup [.agg (eR (ofQ ((3500:Int):Rat))),I 0]):=by
 have h:=Ma lL KZ K2 wH Y (ofQ ((2000:Int):Rat)) (ofQ 0) RR.zero RR.zero [ofQ 160000,ofQ 160000] (ha:=Ta ⟨Y,Y⟩) Y Y M6;rw[Jd]at h;have hv:∀x:Int,g_ ((2000:Int):Rat) 0 (ji x)=((3500:Int):Rat):=fun x=>by
  show(ofQ ((1500:Int):Rat)).val+(((2000:Int):Rat)+0*(x:Rat))=_;rw[ofQ_val,Rat.zero_mul,jI];decide +kernel
 have hm:kV ([ji 5000,ji 15000].map (g_ ((2000:Int):Rat) 0))=((3500:Int):Rat):=by
  show kV [g_ ((2000:Int):Rat) 0 (ji 5000),g_ ((2000:Int):Rat) 0 (ji 15000)]=_;rw[hv,hv];decide +kernel
 rw[hm]at h;exact h
def NE:List Rat:=[160000,160000,0,0]
def rfX:DQ:=⟨ofQ 0,⟨ofQ ((-1340:Int):Rat),ofQ 0⟩,[ofQ 160000,ofQ 160000],ofQ 320000,ofQ 0,Oy,false,3⟩
theorem QC:∀q∈NE,hq q 100000:=fun q hm=>by
 have h4:hq q 4:=by
  simp only[NE,bV,gx,or_false]at hm;rcases hm with rfl|rfl|rfl|rfl
  .exact xD 160000 ⟨Y,Y⟩
  .exact xD 160000 ⟨Y,Y⟩
  .exact xD 0 ⟨Y,Y⟩
  .exact xD 0 ⟨Y,Y⟩
 exact(HQ.mono (h:=⟨h4⟩) Y).ok
theorem Rr:PJ lL 0 ⟨ofQ ((-1340:Int):Rat),ofQ 0⟩ NE Oy=rfX:=by
 have h1:aX (NE.take lL.bl.length)=320000:=by decide +kernel
 have h2:aX (NE.drop lL.bl.length)=0:=by decide +kernel
 have h3:fa lL.bl NE=false:=O;have h4:kH lL.bl (NE.take lL.bl.length) 0=3:=by decide +kernel
 rw[PJ,h1,h2,h3,h4];rfl
theorem SI:aU 71 [.agg (fv lL),.agg (eR (ofQ ((0:Int):Rat)))] (.tup [.agg (xq rfX),I 0]):=by
 have v0:Vq (ofQ ((0:Int):Rat)) 0 4:=Vq.ofQ (h:=HQ.zero);have hs:=lN lL wH ⟨Y,Y⟩ (show ng lL.s lL.d=0 from SO) uI (ofQ ((0:Int):Rat)) (hv:=v0) Y;have hw:=GT (dC lL 0) r2 (by rw[y4,Q0];rfl) (by rw[y4];exact SU) OY.lim KS (by rw[y4];decide) (fun x hx=>by
  rw[y4]at hx;simp only[r2,bV,gx,or_false]at hx;rcases hx with rfl|rfl|rfl|rfl
  .show 1<=1000;decide
  .show 1<=1000;decide
  .show 2<=1000;decide
  .show 2<=1000;decide)
 have h78:=Qy.weak (WeakL.refl _) (WeakL.tup (.cons (.rfl _) (.cons mU.agg (WeakL.refl _))));have h2:aX (NE.drop lL.bl.length)=0:=by decide +kernel
 have h74:=C9 lL (ofQ ((0:Int):Rat)) (hlv:=v0) Y hs r2 hw (ofQ ((-1340:Int):Rat)) (ofQ 0) RR.zero RR.zero NE QC Y Y h78 Oy (z:=((-1340:Int):Rat)) (nz:=4) (hz:=Vq.ofQ (h:=⟨xD (-1340) ⟨Y,Y⟩⟩)) Y (fun h=>absurd h2 h) (fun _=>rfl);rw[Rr]at h74;exact Ja lL KZ K2 _ rfX 0 h74
theorem DC:aU 25 [] (.bool true):=by
 have w0:=cf 0 ⟨Y,Y⟩;have w1:=cf 3500 ⟨Y,Y⟩;have ws:=Mz [160000,160000] ap (fun z hz=>by
  simp only[bV,gx,or_false]at hz
  rcases hz with rfl|rfl<;>exact⟨Y,Y⟩)
 have e1:=Li (p:=((3500:Int):Rat)) ⟨xD 3500 ⟨Y,Y⟩⟩ Y;have e2:=EK [ofQ 160000,ofQ 160000] Y (fun x hx=>by
  simp only[bV,gx,or_false,or_self]at hx;subst hx;have:=gS (xD 160000 ⟨Y,Y⟩)
  exact⟨bK this.1 Y,bK this.2 Y⟩)
 have r:=KU;have t:=Of;have a:=SI;rw[show Oo [160000,160000]=[ofQ 160000,ofQ 160000] from O]at ws;have hX:xq rfX=eR (ofQ 0)++(eR (ofQ ((-1340:Int):Rat))++eR (ofQ 0))++[.sl ([ofQ 160000,ofQ 160000].map eR)]++eR (ofQ 320000)++eR (ofQ 0)++FC Oy++[.bool false,I 3]:=O;rw[hX]at a;clear hX;generalize lL=D0,ofQ ((0:Int):Rat)=W0,ofQ ((3500:Int):Rat)=W1,ofQ ((-1340:Int):Rat)=W2,ofQ 320000=W3,ofQ 0=W4,[ofQ (160000:Rat),ofQ (160000:Rat)]=WF at *
 refine aD Proofs.Tryz.func25 ?_;refine G r ?_;refine G t ?_;refine G r ?_;refine G w0 ?_;refine G a ?_;refine cX 23 [16,17,18,19,20,21,22,23,24,25,26,27,28,29,30,31,32,33,34,35,36,37,38] ?_;refine G w1 ?_;refine ax e1 ?_;refine H ?_;refine ci O O (fE O O O O O O O O O O ah O) ?_;refine G ws ?_;refine ax e2 ?_;exact kU
theorem To {n:Nat}{cs:List PV}(h:o0 lay.get (n+3) 115 cs):∃t:ST,cs=eT t/\t.L.length<=9223372036854775807/\t.H0.length<=9223372036854775807:=by
 obtain⟨parts,rfl,hl,hp⟩:=n8 h O
 match parts,hl,hp with
 |[p0,p1,p2,p3],_,hp =>
  obtain⟨x,rfl,-⟩:=tS (hp 0 _ p0 O O);obtain⟨w,rfl,-⟩:=tS (hp 1 _ p1 O O);obtain⟨L,rfl,h1,-⟩:=Bw (hp 2 _ p2 O O);obtain⟨H0,rfl,h2,-⟩:=Bw (hp 3 _ p3 O O);exact⟨⟨x,w,L,H0⟩,O,h1,h2⟩
theorem Td {n:Nat}{cs:List PV}(h:o0 lay.get (n+2) 24 cs):∃w:LR,cs=eLd w:=by
 obtain⟨parts,rfl,hl,hp⟩:=n8 h O
 match parts,hl,hp with
 |[p0,p1,p2,p3,p4],_,hp =>
  obtain⟨a0,rfl⟩:=A7 (hp 0 _ p0 O O) O;obtain⟨a1,rfl⟩:=fy (hp 1 _ p1 O O) O;obtain⟨a2,rfl⟩:=fy (hp 2 _ p2 O O) O;obtain⟨a3,rfl⟩:=fy (hp 3 _ p3 O O) O;obtain⟨a4,rfl⟩:=fy (hp 4 _ p4 O O) O;exact⟨⟨a0,a1,a2,a3,a4⟩,O⟩
theorem SL {n:Nat}{cs:List PV}(h:o0 lay.get (n+5) 27 cs):∃s:SHP,cs=fx s/\s.Len:=by
 obtain⟨parts,rfl,hl,hp⟩:=n8 h O
 match parts,hl,hp with
 |[p0,p1,p2,p3,p4],_,hp =>
  obtain⟨nm,rfl⟩:=A7 (hp 0 _ p0 O O) O;obtain⟨len,rfl,-⟩:=tS (hp 1 _ p1 O O);obtain⟨r1,rfl,hl1,hr1⟩:=oO (hp 2 _ p2 O O) O;obtain⟨w,rfl⟩:=Td (hp 3 _ p3 O O);obtain⟨r2,rfl,hl2,hr2⟩:=oO (hp 4 _ p4 O O) O;obtain⟨st,rfl,hz⟩:=jw (f:=eT) (p:=fun t=>t.L.length<=9223372036854775807/\t.H0.length<=9223372036854775807) fun row hrow=>To (hr1 row hrow);obtain⟨it,rfl,-⟩:=jw (f:=eLd) (p:=fun _=>True) fun row hrow=>by
   obtain⟨a,rfl⟩:=Td (hr2 row hrow);exact⟨a,O,bh⟩
  rw[aF]at hl1 hl2;exact⟨⟨nm,len,st,w,it⟩,by simp[fx,eN],B9 hl1,B9 hl2,hz⟩
theorem Tn {n:Nat}{cs:List PV}(h:o0 lay.get (n+5) 136 cs):∃b:BKR,cs=eBk b:=by
 obtain⟨parts,rfl,hl,hp⟩:=n8 h O
 match parts,hl,hp with
 |[p0,p1,p2,p3,p4,p5,p6,p7],_,hp =>
  obtain⟨a0,rfl⟩:=fy (hp 0 _ p0 O O) O;obtain⟨a1,rfl⟩:=fy (hp 1 _ p1 O O) O;obtain⟨a2,rfl⟩:=fy (hp 2 _ p2 O O) O;obtain⟨a3,rfl⟩:=fy (hp 3 _ p3 O O) O;obtain⟨a4,rfl⟩:=fy (hp 4 _ p4 O O) O;obtain⟨a5,rfl⟩:=OM (hp 5 _ p5 O O);obtain⟨a6,rfl⟩:=fy (hp 6 _ p6 O O) O;obtain⟨a7,rfl⟩:=Dl (hp 7 _ p7 O O) O;exact⟨⟨a0,a1,a2,a3,a4,a5,a6,a7⟩,by simp[eBk,eR]⟩
theorem Tp {n:Nat}{cs:List PV}(h:o0 lay.get (n+2) 138 cs):∃z:ZNR,cs=lB z:=by
 obtain⟨parts,rfl,hl,hp⟩:=n8 h O
 match parts,hl,hp with
 |[p0,p1,p2,p3],_,hp =>
  obtain⟨a0,rfl⟩:=A7 (hp 0 _ p0 O O) O;obtain⟨a1,rfl⟩:=fy (hp 1 _ p1 O O) O;obtain⟨a2,rfl⟩:=fy (hp 2 _ p2 O O) O;obtain⟨a3,rfl⟩:=fy (hp 3 _ p3 O O) O;exact⟨⟨a0,a1,a2,a3⟩,O⟩
theorem dkD0 {c:PV}(h:argW lay.get 56 c):∃d:DKR,c=.agg (fv d)/\d.Len:=by
 obtain⟨cs,rfl,h⟩:∃cs,c=.agg cs/\o0 lay.get 12 56 cs:=h;obtain⟨parts,rfl,hl,hp⟩:=n8 h O
 match parts,hl,hp with
 |[p0,p1,p2,p3,p4,p5],_,hp =>
  obtain⟨s,rfl,hs⟩:=SL (n:=6) (hp 0 _ p0 O O);obtain⟨a1,rfl⟩:=fy (hp 1 _ p1 O O) O;obtain⟨r2,rfl,hl2,hr2⟩:=oO (hp 2 _ p2 O O) O;obtain⟨r3,rfl,hl3,hr3⟩:=oO (hp 3 _ p3 O O) O;obtain⟨a4,rfl⟩:=fy (hp 4 _ p4 O O) O;obtain⟨a5,rfl⟩:=fy (hp 5 _ p5 O O) O;obtain⟨bl,rfl,-⟩:=jw (f:=eBk) (p:=fun _=>True) fun row hrow=>by
   obtain⟨a,rfl⟩:=Tn (hr2 row hrow);exact⟨a,O,bh⟩
  obtain⟨zn,rfl,-⟩:=jw (f:=lB) (p:=fun _=>True) fun row hrow=>by
   obtain⟨a,rfl⟩:=Tp (hr3 row hrow);exact⟨a,O,bh⟩
  rw[aF]at hl2 hl3;exact⟨⟨s,a1,bl,zn,a4,a5⟩,by simp[fv],hs,B9 hl2,B9 hl3⟩
structure SmD (d:DKR):Prop where
 st:d.s.st.length<=45
 it:d.s.it.length<=205
 bl:d.bl.length<=65
 zn:d.zn.length<=25
 L:∀t∈d.s.st,t.L.length<=40/\t.H0.length<=40
 b:∀b∈d.bl,b.st.sz 3
theorem Pe {d:DKR}(h:Mp d=true):SmD d:=by
 simp only[Mp,Q9,NR,Pf,cm,kz,decide_eq_false_iff_not,ct]at h;obtain⟨⟨⟨⟨⟨h1,h2⟩,-⟩,h3⟩,h4⟩,-⟩:=h;refine⟨J,J,J,J,fun t ht=>?_,fun b hb=>?_⟩
 .have:=h2 t ht;simp only[EM,kz,decide_eq_false_iff_not]at this;omega
 .have:=h4 b hb;simp only[Q8,QH,cm,decide_eq_true_eq]at this;exact this
theorem yV {x:RR}{n m:Nat}(h:x.sz n)(hm:n<=m):x.sz m:=⟨bK h.1 hm,bK h.2 hm⟩
theorem SmD.ok {d:DKR}(h:SmD d)(hl:d.Len):d.Ok:=⟨hl,fun b hb=>yV (h.b b hb) Y⟩
theorem Hf (d:DKR)(h:SmD d):aU 28 [.agg (fv d)] (.agg (fv d)) :=
 Bt d (bK h.st Y) (bK h.it Y) (bK h.bl Y) (bK h.zn Y) (fun t ht=>⟨bK (h.L t ht).1 Y,bK (h.L t ht).2 Y⟩) (fun b hb=>yV (h.b b hb) Y)
theorem CM (d:DKR)(hd:d.Ok):aU 29 [.agg (fv d)] (I (xB d)):=by
 have h1:=CL d.s hd.len.s;have h2:=AJ d.d;have h4:=dw d.gm (-100000) 100000;have h5:=dw d.oh 0 1000000;have hmb:(d.bl.map eBk).length=d.bl.length:=ap;have hmz:(d.zn.map lB).length=d.zn.length:=ap;have hsz:=hd.st;have hlb:=hd.len.bl;have hlz:=hd.len.zn;generalize hf:xB d=E;rw[xB,ng]at hf;by_cases hE:f7 d.s=0
 rotate_left
 .rw[if_neg hE,if_neg hE]at hf;obtain⟨s,den,bl,zn,gm,oh⟩:=d;simp only at *
  generalize f7 s=e at *
  subst hf;refine aD Proofs.Tryz.func29 ?_;refine ax h1 ?_;refine D ?_ ?_<;>intro h
  .clear h;exact cB
  .simp at h;exact absurd h hE
 obtain⟨hst,h40⟩:=AW hE;rw[hE]at h1;rw[if_pos hE]at hf;have hbr:=fun i b hb hpr hz hb40=>Eh d hst h40 hz hb40 i b hb (hsz b (bC hb)) hpr;clear hE;obtain⟨s,den,bl,zn,gm,oh⟩:=d;simp only at *
 refine aD Proofs.Tryz.func29 ?_;refine ax h1 ?_;refine ax h2 ?_;cases hi:aK den 900 1100 with
 |false =>
  rw[hi]at hf;subst hf;exact cB
 |true =>
 rw[hi,if_pos O,if_pos O,jd]at hf;refine H ?_;rw[hmz];refine aV O ?_ ?_<;>intro h
 .rw[if_pos (show 20<zn.length by have:=bk h;omega),if_neg Y]at hf;subst hf;exact cB
 have h20:¬20<zn.length:=co h;clear h h1 h2;have hz0:jM zn (tK zn)=0->jd zn=0:=fun h=>by rw[jd,if_neg h20];exact h
 rw[if_neg h20]at hf;refine H ?_;refine ai (ClearE zn (tK zn)) (fun k=>[(1,.ptr 1 1 0 0),(5,I (k:Nat))]) (fun _=>[(1,1,⟨56,14,[fv ⟨s,den,bl,zn,gm,oh⟩],2⟩)]) (fun k=>zn.length-k) 0 .zero' ah ?_;intro k s1 hk;have hkl:=hk.1;refine H ?_;rw[hmz];refine aV O ?_ ?_<;>intro h
 .have hlt:k<zn.length:=cw h;clear h;obtain⟨z,hx⟩:=ay hlt;have n0:=pO z.nm;have o1:=dw z.a (-1000000) 1000000;have o2:=dw z.b (-1000000) 1000000;have o3:=dw z.h 0 100000;have hw:=dN k;have hfl:∀e,tK zn k z=e->e≠0->E=e:=fun e h he=>by
   rw[hk.found hx h he,if_neg he]at hf;exact hf.symm
  have hsu:=fun(h:tK zn k z=0)=>hk.succ hx h;rw[tK]at hfl hsu;generalize dT z.nm=b0,aK z.a (-1000000) 1000000=b2,aK z.b (-1000000) 1000000=b3,aK z.h 0 100000=b4 at *
  clear hk hf;refine aN hx ?_;refine ax n0 ?_;cases b0
  .have:=hfl 4 (by rfl) Y;subst this;exact cB
  refine H ?_;refine aQ [(1,.ptr 1 1 0 0),(5,I (k:Nat)),(6,.ptr 6 ((s1.own 6).1+1) 0 0),(7,I ((0:Nat):Int))] [(1,1,⟨56,14,[fv ⟨s,den,bl,zn,gm,oh⟩],2⟩),(6,(s1.own 6).1+1,⟨138,4,[lB z],2⟩)] ah ?_;generalize (s1.own 6).1+1=g6;intro s2;refine ai (fun j:Nat=>j<=k/\∀i u,i<j->zn[i]?=some u->u.nm≠z.nm) (fun j=>[(1,.ptr 1 1 0 0),(5,I (k:Nat)),(6,.ptr 6 g6 0 0),(7,I (j:Nat))]) (fun _=>[(1,1,⟨56,14,[fv ⟨s,den,bl,zn,gm,oh⟩],2⟩),(6,g6,⟨138,4,[lB z],2⟩)]) (fun j=>k-j) 0 ⟨aP _,fun i u hi=>absurd hi J⟩ ah ?_;rintro j s3 ⟨hj,hall⟩;refine D ?_ ?_<;>intro h
  .have hlj:j<k:=cw h;clear h;obtain⟨u,hu⟩:=ay (show j<zn.length by omega);have hwj:=dN j;refine cX 9 [47,48,49,50,51,52,53,54,55] ?_;refine aN hu ?_;refine D ?_ ?_<;>intro h
   .have he:u.nm=z.nm:=by simpa using h
    clear h;have hA:(zn.take k).any (fun y=>decide (y.nm=z.nm))=true:=uX hlj hu (by rw[he];simp);rw[hA]at hfl;have:=hfl 5 (by rfl) Y;subst this;exact cB
   .have he:u.nm≠z.nm:=by simpa using h
    clear h;refine H ?_;refine⟨j+1,⟨hlj,fun i v hi hv=>?_⟩,J,O,O,O,congrArg I hwj,ah⟩;rcases bG i j with g|g
    .exact hall i v g hv
    .rw[show i=j by omega,hu]at hv;cases hv;exact he
  have hje:j=k:=co h;clear h;subst hje;have hA:(zn.take j).any (fun y=>decide (y.nm=z.nm))=false:=by
   rw[Aa];intro v hv;obtain⟨i,hi⟩:=i5.1 hv;have hij:i<j:=by have:=(cb hi).1;rw[bc]at this;omega
   rw[tW hij]at hi;simpa using hall i v hij hi
  rw[hA]at hfl hsu;refine ax o1 ?_;cases b2
  .have:=hfl 2 (by rfl) Y;subst this;exact cB
  refine ax o2 ?_;cases b3
  .have:=hfl 2 (by rfl) Y;subst this;exact cB
  refine fi ?_ ?_<;>intro h
  .have hab:=bk h;clear h;have:=hfl 2 aS Y;subst this;exact cB
  have hab:=bS h;clear h;refine ax o3 ?_;cases b4
  .have:=hfl 2 ap Y;subst this;exact cB
  refine H ?_;exact⟨j+1,hsu aS,J,O,congrArg I hw,O,bh⟩
 have hge:¬k<zn.length:=co h;clear h;have hz:jd zn=0:=hz0 (hk.none hge);have hzi:=Du hz;rw[hk.none hge,if_pos O,u7]at hf;clear hz0 hz hk;refine H ?_;rw[hmb];refine aV O ?_ ?_<;>intro h
 .rw[if_pos (show 40<bl.length by have:=bk h;omega),if_neg Y]at hf;subst hf;exact cB
 have hb40:¬40<bl.length:=co h;clear h;rw[if_neg hb40]at hf;refine H ?_;refine ai (ClearE bl (lu s.st zn bl)) (fun k=>[(1,.ptr 1 1 0 0),(8,I (k:Nat))]) (fun _=>[(1,1,⟨56,14,[fv ⟨s,den,bl,zn,gm,oh⟩],2⟩)]) (fun k=>bl.length-k) 0 .zero' ah ?_;clear hkl;intro k s1 hk;have hkl:=hk.1;refine H ?_;rw[hmb];refine aV O ?_ ?_<;>intro h
 .have hlt:k<bl.length:=cw h;clear h;obtain⟨b,hx⟩:=ay hlt;have c1:=hbr k b hx (fun j c hj hc=>DH (hk.2 j c hj hc)) hzi J;have hw:=dN k;have hfl:=fun e (h:lu s.st zn bl k b=e) (he:e≠0)=>hk.found hx h he;have hsu:=fun(h:lu s.st zn bl k b=0)=>hk.succ hx h;generalize lu s.st zn bl k b=e at *
  refine ax c1 ?_;refine D ?_ ?_<;>intro h
  .have he:e≠0:=by simpa using h
   clear h;have:=hfl e O he;rw[this,if_neg he]at hf;subst hf;exact cB
  .have he:e=0:=by simpa using h
   clear h;refine H ?_;exact⟨k+1,hsu he,J,O,congrArg I hw,O,bh⟩
 have hge:¬k<bl.length:=co h;clear h;rw[hk.none hge,if_pos O]at hf;refine ax h4 ?_;cases h4b:aK gm (-100000) 100000 with
 |false =>
  rw[h4b]at hf;subst hf;exact cB
 |true =>
 rw[h4b]at hf;refine ax h5 ?_;cases h5b:aK oh 0 1000000;all_goals
  rw[h5b]at hf;subst hf;exact cB
theorem MX {d:Nat}(hd:d<=1100){w h:Int}(hh:0<=h/\h<=100000)(hw:1<=w/\w<=100000):hq (((2*h*w:Int):Rat)*((d:Rat)/1000000000)) 4:=by
 obtain⟨v1,v2⟩:=A9 hh hw;generalize 2*h*w=v at *
 have e:(v:Rat)*((d:Rat)/1000000000)=((v*(d:Int):Int):Rat)/((1000000000:Int):Rat):=by
  rw[gd,show((d:Int):Rat)=(d:Rat) from O,show((1000000000:Int):Rat)=1000000000 from O];grind
 rw[e];have h1:v*(d:Int)<=20000000000*(d:Int):=FR v2 J;have h2:0<=v*(d:Int):=iU v1 J;refine lD Y ?_ Y;rw[show 65536^4=18446744073709551616 by decide];omega
theorem Jx {d:Nat}(hd:d<=1100){t:ST}(ok:StOk t):∀x∈qo d t,∃q,x=ofQ q/\hq q 4:=fun x hx=>by
 rcases dJ.1 hx with hx|hx
 .obtain⟨h,hh,rfl⟩:=aW.1 hx;exact⟨_,O,MX hd (ok.H0 h hh) ok.w⟩
 .rw[mC.1 hx];exact⟨0,O,(HQ.zero.mono (show 4<=4 by decide)).ok⟩
structure LeS (s:SR):Prop where
 c:s.c.le 1000000000
 S:s.k.S.length<=1000000
 M:s.k.M.length<=1000000
 m:∀m∈s.k.M,m.le 1000000000
theorem Jv {d:DKR}(hd:d.Ok)(h:xB d=0):d.Bl/\(900<=d.d/\d.d<=1100)/\ng d.s d.d=0:=by
 rw[xB]at h;split at h
 .rename_i h1;split at h
  .split at h
   .rename_i h2 h3;have hE:f7 d.s=0:=by rw[ng]at h1;split at h1<;>omega
    obtain⟨a,b⟩:=AW hE;rw[u7]at h3;split at h3
    .omega
    .refine⟨⟨a,b,fun x hx=>?_,J⟩,?_,h1⟩
     .obtain⟨j,hj⟩:=i5.1 hx;exact⟨DH (lU h3 j x hj),hd.st x hx⟩
     .rw[ng,if_pos hE]at h1;split at h1
      .rename_i h4;exact iA h4
      .omega
   .contradiction
  .contradiction
 .contradiction
namespace Bd
structure Sd (b:Bd):Prop where
 N:b.N<=11
 n:∀i,i<b.N->b.n i<=8
 X:∀i,i<b.N->hq (b.X i) 2
 C:∀i,i<b.N->hq (b.C i) 4
 S:∀i,i<b.N->∀k,k<b.n i->hq (b.S i k) 2
 M:∀i,i<b.N->∀k,k<b.n i->hq (b.M i k) 4
 w:hq b.w 4
 A:hq b.A 4
variable {b:Bd}
theorem Sd.k (h:b.Sd){p:Nat->Nat}(hp:∀i,i<b.N->p i<=b.n i){i:Nat}(hi:i<b.N):HQ (b.k p i) 4:=by
 rw[Bd.k];have h1:=hp i hi;cases hpi:p i with
 |zero=>rw[cQ];exact HQ.zero
 |succ m=>exact⟨h.M i hi m J⟩
theorem Sd.bef (h:b.Sd){i:Nat}(hi:i<b.N){k:Nat}(hk:k<b.n i):HQ (cQ (b.M i) k) 4:=by
 cases k with
 |zero=>rw[cQ];exact HQ.zero
 |succ m=>exact⟨h.M i hi m J⟩
theorem Sd.o (h:b.Sd){p:Nat->Nat}(hp:∀i,i<b.N->p i<=b.n i){i:Nat}(hi:i<b.N):HQ (b.o p i) 100:=by
 rw[Bd.o,oW];have h1:=hp i hi;have h2:=h.n i hi;refine(cd (m:=11) (p i) fun k hk=>?_).mono J;have:=h.bef hi (k:=k) J;have:HQ (b.M i k) 4:=⟨h.M i hi k J⟩;have:HQ (b.S i k) 2:=⟨h.S i hi k J⟩;show HQ ((b.M i k-cQ (b.M i) k)*b.S i k) 11;exact inferInstanceAs (HQ ((b.M i k-cQ (b.M i) k)*b.S i k) (4+4+1+2))
theorem Sd.Kh (h:b.Sd){p:Nat->Nat}(hp:∀i,i<b.N->p i<=b.n i):HQ (b.Kh p) 59:=by
 have:=h.N;exact(cd (m:=4) b.N fun i hi=>h.k hp hi).mono J
theorem Sd.Kc (h:b.Sd){p:Nat->Nat}(hp:∀i,i<b.N->p i<=b.n i):HQ (b.Kc p) 81:=by
 have:=h.N;refine(cd (m:=6) b.N fun i hi=>?_).mono J;have:=h.k hp hi;have:HQ (b.X i) 2:=⟨h.X i hi⟩;exact inferInstanceAs (HQ (b.k p i*b.X i) (4+2))
theorem Sd.Kp (h:b.Sd){p:Nat->Nat}(hp:∀i,i<b.N->p i<=b.n i):HQ (b.Kp p) 103:=by
 have:=h.N;refine(cd (m:=8) b.N fun i hi=>?_).mono J;have:=h.k hp hi;have:HQ (b.X i) 2:=⟨h.X i hi⟩;exact inferInstanceAs (HQ (b.k p i*b.X i*b.X i) (4+2+2))
theorem Sd.Fo (h:b.Sd){p:Nat->Nat}(hp:∀i,i<b.N->p i<=b.n i):HQ (b.Fo p) 1214:=by
 have:=h.N;refine(cd (m:=109) b.N fun i hi=>?_).mono J;have:=h.k hp hi;have:=h.o hp hi;have:HQ (b.C i) 4:=⟨h.C i hi⟩;exact inferInstanceAs (HQ (b.k p i*b.C i-b.o p i) (4+4+100+1))
theorem Sd.Go (h:b.Sd){p:Nat->Nat}(hp:∀i,i<b.N->p i<=b.n i):HQ (b.Go p) 1236:=by
 have:=h.N;refine(cd (m:=111) b.N fun i hi=>?_).mono J;have:=h.k hp hi;have:=h.o hp hi;have:HQ (b.C i) 4:=⟨h.C i hi⟩;have:HQ (b.X i) 2:=⟨h.X i hi⟩;exact inferInstanceAs (HQ ((b.k p i*b.C i-b.o p i)*b.X i) (4+4+100+1+2))
theorem Sd.T (h:b.Sd):b.SzT:=fun t ht=>by
 obtain⟨p,hp,hK,ht⟩:=ht;have h1:=h.Kh hp;have h2:=h.Kc hp;have h3:=h.Kp hp;have h4:=h.Fo hp;have h5:=h.Go hp;have hw:HQ b.w 4:=⟨h.w⟩;have hA:HQ b.A 4:=⟨h.A⟩;rcases ht with⟨i,hi,k,hk,g1,g2⟩|⟨g1,g2⟩
 .have hX:HQ (b.X i) 2:=⟨h.X i hi⟩;have hC:HQ (b.C i) 4:=⟨h.C i hi⟩;have hS:HQ (b.S i k) 2:=⟨h.S i hi k hk⟩;have:t=(b.S i k-b.C i-(b.w-b.Fo p)/b.Kh p)/(b.X i-b.Kc p/b.Kh p):=by
   rw[Bd.y,Bd.ln]at g1;rw[Bd.gr]at g2;grind
  rw[this];have e:HQ ((b.S i k-b.C i-(b.w-b.Fo p)/b.Kh p)/(b.X i-b.Kc p/b.Kh p)) _:=inferInstance;exact cx e.ok Y
 .have:t=(b.w*b.A-b.Go p-b.Kc p*((b.w-b.Fo p)/b.Kh p))/((b.Kh p*b.Kp p-b.Kc p*b.Kc p)/b.Kh p):=by
   rw[Bd.eln,Bd.ln]at g1;rw[Bd.det]at g2;grind
  rw[this];have e:HQ ((b.w*b.A-b.Go p-b.Kc p*((b.w-b.Fo p)/b.Kh p))/((b.Kh p*b.Kp p-b.Kc p*b.Kc p)/b.Kh p)) _:=inferInstance;exact cx e.ok Y
end Bd
theorem iT {s:SHP}{d:Int}(h:ng s d=0):f7 s=0:=by
 rw[ng]at h;split at h
 .assumption
 .contradiction
def dB (d:DKR)(p:Rat):BR:=wB d.s (dC d p)
theorem Sv (p:Rat):qn (ofQ p)=ofQ p:=by rw[qn,ofQ_val]
theorem lQ {d:DKR}{p:Rat}{x:SR}(h:x∈dC d p):(∃b∈d.bl,x=lw d.s.st b)\/∃t∈d.s.st,x=ri p (iq (fJ d) t):=by
 rw[dC]at h;rcases dJ.1 h with h|h
 .obtain⟨b,hb,e⟩:=aW.1 (show x∈d.bl.map (lw d.s.st) from h);exact .inl ⟨b,hb,e.symm⟩
 .obtain⟨w,hw,rfl⟩:=aW.1 h;obtain⟨t,ht,rfl⟩:=aW.1 (show w∈d.s.st.map (iq (fJ d)) from hw);exact .inr ⟨t,ht,O⟩
theorem oe (d:DKR)(p:Rat):(dC d p).length=d.bl.length+d.s.st.length:=by rw[dC,bQ,df,aF,aF,eH,aF]
theorem PD (d:DKR)(p:Rat):(dC d p).map xA=dC d p:=by
 refine(da fun x hx=>?_).trans (List.map_id _);rcases lQ hx with⟨b,-,rfl⟩|⟨t,-,rfl⟩
 .simp[xA,lw,Sv]
 .have hm:(qo (fJ d) t).map qn=qo (fJ d) t:=by
   refine(da fun x hx=>?_).trans (List.map_id _);rcases dJ.1 hx with hx|hx
   .obtain⟨h,-,rfl⟩:=aW.1 hx;exact Sv _
   .rw[mC.1 hx];exact Sv 0
  simp[xA,ri,iq,Sv,hm]
theorem KD (d:DKR)(p:Rat):pB d.s (dC d p)=dB d p:=by rw[pB,PD];rfl
structure Slim (d:DKR) (p:Rat):Prop where
 ok:d.Ok
 e:xB d=0
 st:d.s.st.length<=6
 bl:d.bl.length<=5
 L:∀t∈d.s.st,t.L.length<=8
 S:∀b∈d.bl,b.st.sz 3
 p:hq p 4
theorem Mf {x:RR}{n:Nat}(h:x.sz n)(hn:1<=n):∃a b:Int,x.val=(a:Rat)/(b:Rat)/\b≠0/\a.natAbs<65536^n/\b.natAbs<65536^n :=
 ⟨x.n.val,x.d.den,O,x.d.den_ne,x.n.val_lt h.1,x.d.den_lt h.2 hn⟩
theorem JE {α β:Type}(f:α->List β)(n:Nat):∀(l:List α),(∀x∈l,(f x).length<=n)->(l.flatMap f).length<=l.length*n
 |[],_=>by simp
 |x::l,h=>by
  have h1:=h x ap;have h2:=JE f n l fun y hy=>h y (by simp[hy]);rw[j5,bQ,dl,cg];omega
theorem LO {b:BKR}(h:b.st.sz 3):hq (jX b) 4:=by
 obtain⟨x,y,e,h0,h1,h2⟩:=Mf h Y;have k3:(65536:Nat)^3=281474976710656:=Y;have k4:(65536:Nat)^4=18446744073709551616:=Y;rw[k3]at h1 h2;rw[jX];split
 .rw[e,show(x:Rat)/(y:Rat)*2=((x*2:Int):Rat)/(y:Rat) by rw[Rat.intCast_mul,show((2:Int):Rat)=2 from O];grind];exact lD h0 J J
 .rw[e];exact lD h0 J J
theorem Slim.bd {d:DKR}{p:Rat}(h:Slim d p):d.Bl/\(900<=d.d/\d.d<=1100)/\ng d.s d.d=0:=Jv h.ok h.e
theorem vO {q:Rat}{n m:Nat}(h:hq q n)(hm:n<=m):(ofQ q).sz m:=⟨bK (gS h).1 hm,bK (gS h).2 hm⟩
theorem HA {z:Int}(h : -1000000<=z/\z<=1000000):hq (z:Rat) 2:=ma (by rw[show(65536:Nat)^2=4294967296 by decide];omega) Y
theorem dB_lim {d:DKR}{p:Rat}(h:Slim d p):(dB d p).Lim:=by
 obtain⟨hk,hd,hf⟩:=h.bd;have ok:=lk (iT hf);obtain⟨m1,m2,mq⟩:=B8 ok;refine⟨⟨by show -9223372036854775808<=sM (d.s.light::d.s.it);omega,by show sM (d.s.light::d.s.it)<=9223372036854775807;omega⟩,vO mq Y,fun x hx=>?_,by have:=oe d p;have:=h.st;have:=h.bl;show(dC d p).length<=_;omega⟩;rcases lQ hx with⟨b,hb,rfl⟩|⟨t,ht,rfl⟩
 .obtain⟨hin,-⟩:=hk.b b hb;have hx:=hin.x;have hz:=hin.ht;have hbi:=oo hk.st b;refine⟨⟨by show -9223372036854775808<=b.x;omega,by show b.x<=9223372036854775807;omega⟩,vO (HA (z:=b.ht-jK d.s.st b) J) Y,fun z hz=>?_,fun m hm=>?_,by show 1<=_;decide,by show 1<=_;decide⟩
  .rw[mC.1 hz];exact⟨Y,Y⟩
  .rw[mC.1 hm];exact vO (LO (h.S b hb)) Y
 .have o:=hk.st t ht;refine⟨⟨by show -9223372036854775808<=t.x;have:=o.x;omega,by show t.x<=9223372036854775807;have:=o.x;omega⟩,vO h.p Y,fun z hz=>?_,fun y hy=>?_,?_,?_⟩
  .have:=o.L z hz;exact⟨J,J⟩
  .obtain⟨q,rfl,hq⟩:=Jx (d:=fJ d) (by have:=l_ hd;omega) o y hy;exact vO hq Y
  .show t.L.length<=1000000000;have:=o.n;omega
  .show(qo (fJ d) t).length<=1000000000;rw[EL];have:=o.n;have:=o.h;omega
theorem DO {d:DKR}{p:Rat}(h:Slim d p):∀x∈dC d p,x.k.S.length<=8:=fun x hx=>by
 rcases lQ hx with⟨b,-,rfl⟩|⟨t,ht,rfl⟩
 .show 1<=8;decide
 .exact h.L t ht
theorem dB_bn {d:DKR}{p:Rat}(h:Slim d p)(t:Rat):(o8 (dC d p) t).length<=53:=by
 rw[o8,dC,ue,bQ];have h1:=JE (ol t) 1 (df d.s.st d.bl) fun x hx=>by
  rw[tR];obtain⟨b,-,rfl⟩:=aW.1 (show x∈d.bl.map (lw d.s.st) from hx);exact j_ 1
 have h2:=JE (ol t) 8 ((eH (fJ d) d.s.st).map (ri p)) fun x hx=>by
  rw[tR];exact DO h x (by rw[dC];exact jo _ hx)
 rw[df,aF]at h1;rw[aF,eH,aF]at h2;have:=h.st;have:=h.bl;simp only[df,eH]at *
 omega
theorem Rn {d:DKR}{p:Rat}(h:Slim d p):(bd (dB d p)).Sd:=by
 obtain⟨hk,hd,hf⟩:=h.bd;have ok:=lk (iT hf);obtain⟨m1,m2,mq⟩:=B8 ok;have hg:∀i,i<(bd (dB d p)).N->(∃b∈d.bl,(dB d p).l.getD i dS=lw d.s.st b)\/∃t∈d.s.st,(dB d p).l.getD i dS=ri p (iq (fJ d) t):=fun i hi=>lQ (bU hi);refine⟨?_,fun i hi=>DO h _ (bU hi),fun i hi=>?_,fun i hi=>?_,fun i hi k hk'=>?_,fun i hi k hk'=>?_,?_,?_⟩
 .show(dC d p).length<=11;rw[oe];have:=h.st;have:=h.bl;omega
 .show hq (((dB d p).l.getD i dS).x:Rat) 2;rcases hg i hi with⟨b,hb,e⟩|⟨t,ht,e⟩
  .rw[e];exact HA (hk.b b hb).1.x
  .rw[e];exact HA (hk.st t ht).x
 .show hq ((dB d p).l.getD i dS).c.val 4;rcases hg i hi with⟨b,hb,e⟩|⟨t,ht,e⟩
  .rw[e];show hq (ofQ _).val 4;rw[ofQ_val];have hz:=(hk.b b hb).1.ht;have hbi:=oo hk.st b;exact cx (HA J) Y
  .rw[e];show hq (ofQ p).val 4;rw[ofQ_val];exact h.p
 .show hq (((dB d p).l.getD i dS).k.s k) 2;rcases hg i hi with⟨b,hb,e⟩|⟨t,ht,e⟩
  .rw[e];show hq ((([0]:List Int).getD k 0:Int):Rat) 2;refine HA ?_
   match k with
   |0=>decide
   |k+1=>simp
  .rw[e];show hq ((t.L.getD k 0:Int):Rat) 2;refine HA ?_;have:0<=t.L.getD k 0/\t.L.getD k 0<=100000:=by
    rw[cN];cases hl:t.L[k]? with
    |none=>simp
    |some l=>exact(hk.st t ht).L l (bC hl)
   omega
 .show hq (((dB d p).l.getD i dS).k.m k) 4;have z0:hq RR.zero.val 4:=by
   have:RR.zero.val=0:=by decide +kernel
   rw[this];exact(HQ.zero.mono (show 4<=4 by decide)).ok
  rcases hg i hi with⟨b,hb,e⟩|⟨t,ht,e⟩
  .rw[e];show hq (([ofQ (jX b)]:List RR).getD k RR.zero).val 4
   match k with
   |0=>show hq (ofQ (jX b)).val 4;rw[ofQ_val];exact LO (h.S b hb)
   |k+1=>exact z0
  .rw[e];show hq ((qo (fJ d) t).getD k RR.zero).val 4;rw[cN];cases hl:(qo (fJ d) t)[k]? with
   |none=>exact z0
   |some x =>
    obtain⟨q,rfl,g⟩:=Jx (d:=fJ d) (by have:=l_ hd;omega) (hk.st t ht) x (bC hl);show hq (ofQ q).val 4;rw[ofQ_val];exact g
 .exact xD _ ⟨by show -9223372036854775808<=sM (d.s.light::d.s.it);omega,by show sM (d.s.light::d.s.it)<=9223372036854775807;omega⟩
 .show hq (ofQ (qX d.s)).val 4;rw[ofQ_val];exact mq
theorem jB {d:DKR}{p:Rat}(h:Slim d p):(dB d p).Good/\∀t,SortC (o8 (dB d p).l t) :=
 ⟨⟨dB_lim h,fun hc=>⟨⟨dB_lim h,hc,by show(dC d p).length<=12;rw[oe];have:=h.st;have:=h.bl;omega,DO h⟩,(Rn h).T,fun t=>bK (dB_bn h t) Y⟩⟩,fun t=>NV _ (bK (dB_bn h t) Y)⟩
end Go.Pv
namespace Go.Pv
open Go.Proofs
def d9 (t:ST)(k:Nat):Rat:=((t.L.getD k 0:Int):Rat)
def eM (t:ST)(y:Rat)(k:Nat):Rat:=if y<=d9 t k then 0 else if y<d9 t (k+1) then y-d9 t k else d9 t (k+1)-d9 t k
def oV (t:ST)(k:Nat):Rat:=((2*t.H0.getD k 0:Int):Rat)
def qt (t:ST)(y:Rat):Nat->Rat
 |0=>0
 |k+1=>qt t y k+oV t k*eM t y k
def Gd (t:ST)(y:Rat)(k:Nat):Rat:=oV t k*eM t y k*(d9 t k+(d9 t k+eM t y k))/2
def tj (t:ST)(y:Rat):Nat->Rat
 |0=>0
 |k+1=>tj t y k+Gd t y k
def nw (t:ST)(y:Rat):Rat:=qt t y t.H0.length
def Ed (t:ST)(y:Rat):Rat:=tj t y t.H0.length
theorem uA {t:ST}(ok:StOk t){k:Nat}(h:k+1<t.L.length):d9 t k<d9 t (k+1):=by
 have h0:t.L[k]?=some (t.L.getD k 0):=bF (d:=0) J;have h1:t.L[k+1]?=some (t.L.getD (k+1) 0):=bF (d:=0) h;have:=ok.asc k _ _ h0 h1;rw[d9,d9];exact tY.2 this
theorem RF {t:ST}(ok:StOk t){j k:Nat}(hjk:k<=j):j<t.L.length->d9 t k<=d9 t j:=by
 induction j with
 |zero=>intro _;rw[show k=0 by omega];exact eP
 |succ j ih =>
  intro h;rcases bG j k with g|g
  .rw[show k=j+1 by omega];exact eP
  .have:=ih g J;have:=uA ok h;grind
theorem Hm {t:ST}(ok:StOk t){y:Rat}{k:Nat}(hk:k<t.H0.length)(h:y<=d9 t k):∀j,k<=j->j<=t.H0.length->qt t y j=qt t y k/\tj t y j=tj t y k:=by
 intro j hkj
 induction j with
 |zero=>intro _;rw[show k=0 by omega];exact⟨rfl,rfl⟩
 |succ j ih =>
  intro hj;rcases bG j k with g|g
  .rw[show k=j+1 by omega];exact⟨O,O⟩
  .obtain⟨i1,i2⟩:=ih g J;have hL:=ok.h;have hle:=RF ok g J;have h0:eM t y j=0:=by rw[eM,if_pos bP]
   rw[qt,tj,Gd,h0,i1,i2];constructor<;>grind
def Ml (t:ST)(y:Rat):Nat->Nat->Int
 |0,_=>0
 |n+1,k=>if d9 t k<=y/\y<d9 t (k+1) then t.H0.getD k 0 else Ml t y n (k+1)
def eZ (t:ST)(y:Rat):Int:=Ml t y t.H0.length 0
def am (f:ST->Rat):List ST->Rat:=fun l=>l.foldl (fun a t=>a+f t) 0
theorem dM (f:ST->Rat){l:List ST}{k:Nat}{t:ST}(h:l[k]?=some t):am f (l.take (k+1))=am f (l.take k)+f t:=by
 rw[am,am,bR h,kA];rfl
def aZ (z s:Rat)(t:ST):Rat:=z+s*(t.x:Rat)
def wQ (t:ST):Rat:=(t.w:Rat)
def xQ (t:ST):Rat:=(t.x:Rat)
structure HYQ where
 vol:Rat
 disp:Rat
 x:Rat
 z:Rat
 area:Rat
 flo:Rat
 cross:Rat
 long:Rat
 mtc:Rat
def bT (z s:Rat)(t:ST):Rat:=2*(eZ t (aZ z s t):Rat)*wQ t
def pK (st:List ST)(d:Nat)(z s:Rat):HYQ :=
 let v:=am (fun t=>wQ t*nw t (aZ z s t)) st;let sx:=am (fun t=>wQ t*nw t (aZ z s t)*xQ t) st;let sz:=am (fun t=>wQ t*Ed t (aZ z s t)) st;let a:=am (bT z s) st;let f:=am (fun t=>bT z s t*xQ t) st;let c:=am (fun t=>2*(eZ t (aZ z s t):Rat)*(eZ t (aZ z s t):Rat)*(eZ t (aZ z s t):Rat)*wQ t/3) st;let l:=am (fun t=>bT z s t*xQ t*xQ t) st;let fl:=if a=0 then 0 else f/a
 ⟨v,v*((d:Rat)/1000000000),sx/v,sz/v,a,fl,c,if a=0 then 0 else l-a*fl*fl,sz/v+c/v⟩
end Go.Pv
set_option maxHeartbeats 2000000
namespace Go.Pv
attribute [local irreducible] PWP POps PQuiet PSem aE aw aj ak
open Go.Proofs
structure Stood (d:DKR) (p z t:Rat):Prop where
 e:dP (dB d p)=0
 bal:(bd (dB d p)).Bal z t
 hz:HQ z 24000
 ht:HQ t 20000
 s:fX (dB d p)=⟨⟨ofQ z,ofQ t⟩,FL (dC d p) z t,zA,0⟩
theorem Sj {d:DKR}{p:Rat}(h:Slim d p)(he:(fX (dB d p)).e=0):∃z t,Stood d p z t:=by
 rw[fX]at he;split at he
 .rename_i h0;split at he
  .contradiction
  .rename_i h1;split at he
   .exact absurd (show(13:Int)=0 from he) Y
   .rename_i h2;split at he
    .exact absurd (show(14:Int)=0 from he) Y
    .rename_i h3;obtain⟨hb,hs,-⟩:=(jB h).1.2 h0;have hn:qp (dB d p):=⟨by simpa using h1,fun r hr=>by
      have:=z6.1 h2 r hr
      simpa using this⟩
     obtain⟨-,hbal,hz,ht⟩:=vz hb hs hn;refine⟨_,_,h0,hbal,hz,ht,?_⟩;rw[fX,if_pos h0,if_neg h1,h2];simp only;rw[if_neg h3];rfl
 .rename_i h0;exact absurd he h0
def vQ (d:DKR)(p z t:Rat):List Rat:=(dC d p).map fun s=>fQ s z t
theorem OA (d:DKR)(p z t:Rat):FL (dC d p) z t=(vQ d p z t).map ofQ:=by rw[FL,vQ,dU];rfl
theorem xg (d:DKR)(p z t:Rat):(vQ d p z t).length=d.bl.length+d.s.st.length:=by rw[vQ,aF,oe]
theorem Dc {l:List SR}{g:SR->Rat}:∀n,n<=l.length->aX ((l.map g).take n)=aq (fun i=>g (l.getD i dS)) n:=by
 intro n
 induction n with
 |zero=>intro _;rfl
 |succ n ih =>
  intro hn;have hx:(l.map g)[n]?=some (g (l.getD n dS)):=by rw[bw,bF (d:=dS) J];rfl
  rw[bR hx,jy,ih J,aq]
theorem Db (a b:List Rat):aX (a++b)=aX a+aX b:=by
 have key:∀(l:List Rat) (x:Rat),l.foldl (·+·) x=x+l.foldl (·+·) 0:=by
  intro l
  induction l with
  |nil=>intro x;simp only[List.foldl_nil];grind
  |cons y l ih=>intro x;rw[List.foldl_cons,List.foldl_cons,ih (x+y),ih (0+y)];grind
 rw[aX,aX,aX,kA,key]
theorem E5 (v:List Rat)(n:Nat):aX (v.take n)+aX (v.drop n)=aX v:=by rw[<-Db,ef]
theorem Mv {d:DKR}{p z t:Rat}(h:(bd (dB d p)).Bal z t):aX (vQ d p z t)=(dB d p).w:=by
 have h1:=Dc (l:=dC d p) (g:=fun s=>fQ s z t) (dC d p).length (aY);rw[cT (by rw[aF];exact aY)]at h1;exact h1.trans h.1
theorem Stood.okB {d:DKR}{p z t:Rat}(h:Slim d p)(hs:Stood d p z t):(dB d p).Ok:=((jB h).1.2 hs.e).1
theorem yX {d:DKR}{p z t:Rat}(h:Slim d p)(hs:Stood d p z t):∀q∈vQ d p z t,hq q 50000:=by
 have hb:=hs.okB h;intro q hq;obtain⟨i,hi⟩:=i5.1 hq;have hil:i<(dB d p).l.length:=by
  have:=(cb hi).1;rw[vQ,aF]at this;exact this
 have hq:q=(bd (dB d p)).f z t i:=by
  rw[vQ,bw,bF (l:=dC d p) (d:=dS) hil]at hi;exact(cK hi).symm
 have hp:=JS hb z t;rw[hq,Bd.f_at (mV hb) hp hil,Bd.y];have e:(bd (dB d p)).k ((bd (dB d p)).pR z t) i*((bd (dB d p)).C i+(z+t*(bd (dB d p)).X i))-(bd (dB d p)).o ((bd (dB d p)).pR z t) i=(bd (dB d p)).k ((bd (dB d p)).pR z t) i*(z+t*(bd (dB d p)).X i)+((bd (dB d p)).k ((bd (dB d p)).pR z t) i*(bd (dB d p)).C i-(bd (dB d p)).o ((bd (dB d p)).pR z t) i):=bP;rw[e];have k1:=HB hb ((bd (dB d p)).pR z t) hil;have k2:=Mh hb hil;have k3:=JZ hb (p:=(bd (dB d p)).pR z t) (fun i hi=>(hp i hi).1) hil;have hz:=hs.hz;have ht:=hs.ht;exact((@HQ.add _ _ _ _ (@HQ.mul _ _ _ _ k1 (@HQ.add _ _ _ _ hz (@HQ.mul _ _ _ _ ht k2))) k3).mono Y).ok
theorem Pj {d:DKR}{p z t:Rat}(h:Slim d p)(hs:Stood d p z t):∀q∈vQ d p z t,0<=q:=by
 have hb:=hs.okB h;intro q hq;obtain⟨i,hi⟩:=i5.1 hq;have hil:i<(dB d p).l.length:=by
  have:=(cb hi).1;rw[vQ,aF]at this;exact this
 have hq:q=(bd (dB d p)).f z t i:=by
  rw[vQ,bw,bF (l:=dC d p) (d:=dS) hil]at hi;exact(cK hi).symm
 rw[hq];exact Bd.f_nn (mV hb) hil
theorem GH {l:List Rat}(h:∀q∈l,0<=q):0<=aX l:=by
 induction l with
 |nil=>exact eP
 |cons x l ih =>
  rw[show x::l=[x]++l from O,Db];have h1:=h x ap;have h2:=ih fun q hq=>h q (by simp[hq]);have h3:aX [x]=x:=by show 0+x=x;grind
  grind
theorem Pk {d:Nat}{t:ST}(ok:StOk t):(∀k,k<t.H0.length->(iq d t).k.m k=wQ t*((d:Rat)/1000000000)*oV t k)/\(iq d t).k.m t.H0.length=0:=by
 have hl:(t.H0.map (Dw d t.w)).length=t.H0.length:=aF _;refine⟨fun k hk=>?_,?_⟩
 .show((qo d t).getD k RR.zero).val=_;have hx:(qo d t)[k]?=some (Dw d t.w (t.H0.getD k 0)):=by rw[qo,fN J,bw,bF (d:=0) hk];rfl
  rw[cN,hx];show(ofQ _).val=_;rw[ofQ_val,oV,wQ,gd,gd];grind
 .show((qo d t).getD t.H0.length RR.zero).val=_;have hx:(qo d t)[t.H0.length]?=some (ofQ 0):=by rw[qo,fc J,hl,iD];rfl
  rw[cN,hx];show(ofQ 0).val=0;rw[ofQ_val]
theorem IM {d:Nat}{t:ST}(ok:StOk t)(y:Rat):∀j,j<=t.H0.length->aq (dq (iq d t).k.s (iq d t).k.m t.L.length y) j=wQ t*((d:Rat)/1000000000)*qt t y j:=by
 intro j
 induction j with
 |zero=>intro _;rw[aq,qt];grind
 |succ j ih =>
  intro hj;have hL:=ok.h;rw[aq,ih J,qt,dq,(Pk (d:=d) ok).1 j J,je,if_pos J];have hs:∀k,(iq d t).k.s k=d9 t k:=fun k=>rfl;rw[hs,hs];have hlt:=uA ok (k:=j) J;have e:gA (v_ y (d9 t (j+1))-d9 t j)=eM t y j:=by
   simp only[gA,v_,eM];grind
  rw[e];grind
theorem On {d:Nat}{t:ST}(ok:StOk t)(y:Rat):kR t.L.length (iq d t).k.s (iq d t).k.m y=wQ t*((d:Rat)/1000000000)*nw t y:=by
 have ha:∀i,i+1<t.L.length->(iq d t).k.s i<(iq d t).k.s (i+1):=fun i hi=>uA ok hi;rw[kR,kK ha,show t.L.length=t.H0.length+1 from ok.h.symm,aq,dq,(Pk (d:=d) ok).2,nw,<-IM (d:=d) ok y _ (aY),show t.H0.length+1=t.L.length from ok.h];grind
theorem s_ {d:Nat}{t:ST}(ok:StOk t)(p z u:Rat):fQ (ri p (iq d t)) z u=wQ t*nw t (aZ (z+p) u t)*((d:Rat)/1000000000):=by
 have e:yQ (ri p (iq d t)) z u=aZ (z+p) u t:=by
  show(ofQ p).val+(z+u*(t.x:Rat))=_;rw[ofQ_val,aZ];grind
 show kR t.L.length (iq d t).k.s (iq d t).k.m (yQ (ri p (iq d t)) z u)=_;rw[e,On ok];grind
theorem LX (f:ST->Rat)(c:Rat)(l:List ST):am (fun t=>f t*c) l=am f l*c:=by
 have key:∀(l:List ST) (a b:Rat),a=b*c->l.foldl (fun a t=>a+f t*c) a=l.foldl (fun a t=>a+f t) b*c:=by
  intro l
  induction l with
  |nil=>intro a b h;exact h
  |cons t l ih=>intro a b h;rw[List.foldl_cons,List.foldl_cons];exact ih _ _ (by rw[h];grind)
 exact key l 0 0 bP
theorem Jk {d:DKR}(hst:∀t∈d.s.st,StOk t)(p z u:Rat):aX ((vQ d p z u).drop d.bl.length)=am (fun t=>wQ t*nw t (aZ (z+p) u t)) d.s.st*((fJ d:Rat)/1000000000):=by
 have h1:(vQ d p z u).drop d.bl.length=d.s.st.map fun t=>wQ t*nw t (aZ (z+p) u t)*((fJ d:Rat)/1000000000):=by
  rw[vQ,dC,bj,tU (by rw[aF,df,aF];exact aY),jn (by rw[aF,df,aF];exact aY),k9,eH,dU,dU];exact da fun t ht=>s_ (hst t ht) p z u
 rw[h1,aX,List.foldl_map,<-LX];rfl
def jN (l:List Rat):Rat:=l.foldl (·*·) 1
theorem El (l:List Rat)(x:Rat):jN (l++[x])=jN l*x:=by rw[jN,kA];rfl
theorem Nt {N:Nat}{l:List Rat}(h:∀q∈l,hq q N):hq (jN l) (N*l.length+4):=by
 have key:∀(l:List Rat) (a:Rat) (m:Nat),hq a m->(∀q∈l,hq q N)->hq (l.foldl (·*·) a) (m+N*l.length):=by
  intro l
  induction l with
  |nil=>intro a m ha _;simpa using ha
  |cons x l ih =>
   intro a m ha hl;rw[fB,dl];have:=ih (a*x) (m+N) (@HQ.mul a x m N ⟨ha⟩ ⟨hl x ez⟩).ok fun q hq=>hl q (ff _ hq);rwa [show m+N+N*l.length=m+N*(l.length+1) by rw[cy];omega]at this
 have:=key l 1 4 HQ.one.ok h;rwa [lg]at this
theorem qi (v:List Rat)(N:Nat)(hv:∀q∈v,hq q N)(h5:v.length<=5)(hN:N<=3000000):aU 105 [.sl ((v.map ofQ).map eR)] (.agg (eR (ofQ (jN v)))):=by
 have w1:=dh 1 ⟨Y,Y⟩;rw[show((1:Int):Rat)=1 from O]at w1;have hml:((v.map ofQ).map eR).length=v.length:=ap;have hs:∀i,hq (jN (v.take i)) 15000004:=fun i=>by
  have:=Nt (N:=N) (l:=v.take i) fun q hq=>hv q (dD hq);refine(HQ.mono (q:=jN (v.take i)) (h:=⟨this⟩) ?_).ok;have h1:(v.take i).length<=5:=by rw[bc];omega
  have:=eO hN h1;omega
 refine aD Proofs.Tryz.func105 ?_;refine G w1 ?_;refine H ?_;rw[hml];refine aQ [(2,.ptr 2 1 0 0),(3,.ptr 3 1 0 0),(7,.sl ((v.map ofQ).map eR)),(8,I v.length),(9,I ((0:Nat):Int))] [(2,1,⟨41,4,[zN],2⟩),(3,1,⟨41,4,[eR (ofQ 1)],2⟩)] ah ?_;intro s0;refine ai (fun k:Nat=>k<=v.length) (fun k=>[(2,.ptr 2 1 0 0),(3,.ptr 3 1 0 0),(7,.sl ((v.map ofQ).map eR)),(8,I v.length),(9,I (k:Nat))]) (fun k=>[(2,1,⟨41,4,[zN],2⟩),(3,1,⟨41,4,[eR (ofQ (jN (v.take k)))],2⟩)]) (fun k=>v.length-k) 0 (aP _) ah ?_;intro k s hk;refine D ?_ ?_<;>intro h
 .have hlt:k<v.length:=cw h;clear h;obtain⟨q,hq⟩:=ay hlt;have hx:(v.map ofQ)[k]?=some (ofQ q):=by rw[bw,hq];rfl
  have e1:=iE (ofQ (jN (v.take k))) (ofQ q) (hx:=Vq.ofQ (h:=⟨hs k⟩)) (hy:=Vq.ofQ (h:=⟨hv q (bC hq)⟩)) Y J;have hsn:jN (v.take (k+1))=jN (v.take k)*q:=by rw[bR hq,El]
  rw[<-hsn]at e1;have hw:=dN k;generalize ofQ (jN (v.take k))=P at *
  generalize hP2:ofQ (jN (v.take (k+1)))=P2 at *
  refine aN hx ?_;refine G e1 ?_;refine H ?_;exact⟨k+1,hlt,J,O,O,O,O,congrArg I hw,O,by rw[hP2];rfl,bh⟩
 .have hge:k=v.length:=co h;clear h;subst hge;rw[bI];generalize ofQ (jN v)=P at *
  exact cA
theorem n6 (p q:Rat)(N:Nat)(hp:hq p N)(hq':hq q N)(hN:N<=3000000):aU 105 [.sl [eR (ofQ p),eR (ofQ q)]] (.agg (eR (ofQ (p*q)))):=by
 have h:=qi [p,q] N (fun x hx=>by
  simp only[bV,gx,or_false]at hx;rcases hx with rfl|rfl
  .exact hp
  .exact hq') ap hN
 rw[show jN [p,q]=p*q by show 1*p*q=_;rw[uz]]at h;exact h
theorem A6 (p q r:Rat)(N:Nat)(hp:hq p N)(hq':hq q N)(hr:hq r N)(hN:N<=3000000):aU 105 [.sl [eR (ofQ p),eR (ofQ q),eR (ofQ r)]] (.agg (eR (ofQ (p*q*r)))):=by
 have h:=qi [p,q,r] N (fun x hx=>by
  simp only[bV,gx,or_false]at hx;rcases hx with rfl|rfl|rfl
  .exact hp
  .exact hq'
  .exact hr) ap hN
 rw[show jN [p,q,r]=p*q*r by show 1*p*q*r=_;rw[uz]]at h;exact h
theorem QT (p q r s t:Rat)(N:Nat)(hp:hq p N)(hq':hq q N)(hr:hq r N)(hs:hq s N)(ht:hq t N)(hN:N<=3000000):aU 105 [.sl [eR (ofQ p),eR (ofQ q),eR (ofQ r),eR (ofQ s),eR (ofQ t)]] (.agg (eR (ofQ (p*q*r*s*t)))):=by
 have h:=qi [p,q,r,s,t] N (fun x hx=>by
  simp only[bV,gx,or_false]at hx;rcases hx with rfl|rfl|rfl|rfl|rfl
  .exact hp
  .exact hq'
  .exact hr
  .exact hs
  .exact ht) ap hN
 rw[show jN [p,q,r,s,t]=p*q*r*s*t by show 1*p*q*r*s*t=_;rw[uz]]at h;exact h
theorem nL {t:ST}(ok:StOk t)(k:Nat):HQ (d9 t k) 4:=by
 have:0<=t.L.getD k 0/\t.L.getD k 0<=100000:=by
  rcases bG k t.L.length with h|h
  .exact ok.L _ (bC (bF (d:=0) h))
  .rw[cN,fe h];decide
 have z:Zb (t.L.getD k 0):=aI J J;exact HQ.int
theorem vL {t:ST}(ok:StOk t)(k:Nat):0<=t.H0.getD k 0/\t.H0.getD k 0<=100000:=by
 rcases bG k t.H0.length with h|h
 .exact ok.H0 _ (bC (bF (d:=0) h))
 .rw[cN,fe h];decide
theorem BJ {t:ST}(ok:StOk t)(k:Nat):HQ (oV t k) 4:=by
 have:=vL ok k;have z:Zb (2*t.H0.getD k 0):=aI J J;exact HQ.int
theorem vW {t:ST}(ok:StOk t){y:Rat}{N:Nat}(hy:hq y N)(k:Nat):HQ (eM t y k) (N+9):=by
 have a:=nL ok k;have b:=nL ok (k+1);rw[eM];split
 .exact HQ.zero.mono J
 .split
  .exact(@HQ.sub _ _ N 4 ⟨hy⟩ a).mono J
  .exact(@HQ.sub _ _ 4 4 b a).mono J
theorem xR {t:ST}(ok:StOk t){y:Rat}{N:Nat}(hy:hq y N):∀k,HQ (qt t y k) (k*(N+14)+4)
 |0=>HQ.zero.mono J
 |k+1=>by
  rw[qt];exact(@HQ.add _ _ _ _ (xR ok hy k) (@HQ.mul _ _ 4 _ (BJ ok k) (vW ok hy k))).mono (by rw[cg];omega)
theorem Ee {t:ST}(ok:StOk t){y:Rat}{N:Nat}(hy:hq y N)(k:Nat):HQ (Gd t y k) (2*N+40):=by
 have z:Zb 2:=aI Y Y;have l:=nL ok k;have e:=vW ok hy k;rw[Gd,show(2:Rat)=((2:Int):Rat) from O];exact(@HQ.div _ _ _ 4 (@HQ.mul _ _ _ _ (@HQ.mul _ _ 4 _ (BJ ok k) e) (@HQ.add _ _ 4 _ l (@HQ.add _ _ 4 _ l e))) HQ.int).mono J
theorem Ge {t:ST}(ok:StOk t){y:Rat}{N:Nat}(hy:hq y N):∀k,HQ (tj t y k) (k*(2*N+41)+4)
 |0=>HQ.zero.mono J
 |k+1=>by
  rw[tj];exact(@HQ.add _ _ _ _ (Ge ok hy k) (Ee ok hy k)).mono (by rw[cg];omega)
theorem qN (t:ST)(ok:StOk t)(h8:t.L.length<=8){y:Rat}{N:Nat}(hy:hq y N)(hN:N<=100000):aU 107 [.agg (eT t),.agg (eR (ofQ y))] (.agg (eR (ofQ (nw t y))++eR (ofQ (Ed t y)))):=by
 have w0:=dh 0 ⟨Y,Y⟩;rw[show((0:Int):Rat)=0 from O]at w0;have w2:=dh 2 ⟨Y,Y⟩;have hLH:=ok.h;have hmh:(t.H0.map eN).length=t.H0.length:=ap;have hHl:t.H0.length<=7:=J;have hlv:=nL ok;have hfi:=vL ok;have hfh:=BJ ok;have hlen:=fun k=>vW ok hy k;have har:=fun k=>xR ok hy k;have hmo:=fun k=>Ge ok hy k;have hmt:=fun k=>Ee ok hy k;have hdry:=fun k (hk:k<t.H0.length) (h:y<=d9 t k)=>Hm ok hk h t.H0.length (mr hk) (aY);have hlvi:∀k,k<t.L.length->∃n,t.L[k]?=some n/\d9 t k=((n:Int):Rat)/\i64 n:=fun k hk=>by
  have h0:t.L[k]?=some (t.L.getD k 0):=bF (d:=0) hk;have:=ok.L _ (bC h0);exact⟨_,h0,O,⟨J,J⟩⟩
 have hhi:∀k,k<t.H0.length->t.H0[k]?=some (t.H0.getD k 0):=fun k hk=>bF (d:=0) hk;have z2:Zb 2:=aI Y Y;rw[nw,Ed];refine aD Proofs.Tryz.func107 ?_;refine G w0 ?_;refine G w0 ?_;refine H ?_;rw[hmh];refine aQ [(2,.ptr 2 1 0 0),(3,.ptr 3 1 0 0),(4,.ptr 4 1 0 0),(5,.ptr 5 1 0 0),(15,.sl (t.H0.map eN)),(16,I t.H0.length),(17,I ((0:Nat):Int))] [(2,1,⟨115,4,[eT t],2⟩),(3,1,⟨41,4,[eR (ofQ y)],2⟩),(4,1,⟨184,8,[zN++zN],2⟩),(5,1,⟨184,8,[eR (ofQ 0)++eR (ofQ 0)],2⟩)] ah ?_;intro s0;refine ai (fun k:Nat=>k<=t.H0.length) (fun k=>[(2,.ptr 2 1 0 0),(3,.ptr 3 1 0 0),(4,.ptr 4 1 0 0),(5,.ptr 5 1 0 0),(15,.sl (t.H0.map eN)),(16,I t.H0.length),(17,I (k:Nat))]) (fun k=>[(2,1,⟨115,4,[eT t],2⟩),(3,1,⟨41,4,[eR (ofQ y)],2⟩),(4,1,⟨184,8,[zN++zN],2⟩),(5,1,⟨184,8,[eR (ofQ (qt t y k))++eR (ofQ (tj t y k))],2⟩)]) (fun k=>t.H0.length-k) 0 (aP _) ah ?_;intro k s hk;refine D ?_ ?_<;>intro h
 .have hlt:k<t.H0.length:=cw h;clear h;have hx:=hhi k hlt;obtain⟨lo,hlo,hloq,hloi⟩:=hlvi k J;obtain⟨hi,hhii,hhiq,hhi64⟩:=hlvi (k+1) J;have hdr:=hdry k hlt;have q1:=dN k;have hfi:=hfi k;have q2:=gp (2*t.H0.getD k 0);have a1:=dh lo hloi;have a2:=dh hi hhi64;rw[<-hloq]at a1;rw[<-hhiq]at a2;have c1:=nf (ofQ y) (ofQ (d9 t k)) (hx:=Vq.ofQ (h:=⟨hy⟩)) (hy:=Vq.ofQ (h:=hlv k)) J Y;have c2:=nf (ofQ y) (ofQ (d9 t (k+1))) (hx:=Vq.ofQ (h:=⟨hy⟩)) (hy:=Vq.ofQ (h:=hlv (k+1))) J Y;have s1:=nT (y-d9 t k);have s2:=eW (y-d9 t (k+1));have a3:=dh (2*t.H0.getD k 0) ⟨J,J⟩;rw[show((2*t.H0.getD k 0:Int):Rat)=oV t k from O]at a3;refine aN hx ?_;refine cV 5 ?_;refine ip [(13,8),(14,9),(15,8),(16,9)] aH aH ?_;refine aN hlo ?_;refine G a1 ?_;refine H ?_;rw[q1];refine ci O O (lK (n:=((((k+1:Nat):Int)):Int)) O O O O O J hhii O) ?_;refine G a2 ?_;refine H ?_;refine I0 O O O O O ?_;refine I0 O O O O O ?_;refine IP 2 O O O O O O (fun _=>rfl) ah O O O O ?_;refine IP 2 O O O O O O (fun _=>rfl) ah O O O O ?_;refine ax c1 ?_;refine D ?_ ?_<;>intro h
  .have hd:=hdr (by have:=s1.1 (bk h);grind);clear h;rw[<-hd.1,<-hd.2];generalize ofQ (qt t y t.H0.length)=E1,ofQ (tj t y t.H0.length)=E2 at *
   exact cA
  have hy1:¬y<=d9 t k:=fun e=>(bS h) (s1.2 bP);clear h hdr;have main:∀T:Rat,T=(if y<d9 t (k+1) then y else d9 t (k+1))->(hq T (N+5)/\T-d9 t k=eM t y k/\Gd t y k=oV t k*eM t y k*(d9 t k+T)/2):=fun T hT=>by
   have e1:T-d9 t k=eM t y k:=by rw[hT,eM,if_neg hy1];split<;>rfl
   refine⟨?_,e1,?_⟩
   .rw[hT];split
    .exact(HQ.mono (q:=y) (h:=⟨hy⟩) J).ok
    .exact(HQ.mono (h:=hlv (k+1)) J).ok
   .rw[Gd,show d9 t k+eM t y k=T by rw[<-e1];grind]
  obtain⟨T,hT⟩:∃T,T=if y<d9 t (k+1) then y else d9 t (k+1):=⟨_,O⟩
  obtain⟨hTq,hTl,hTm⟩:=main T hT;clear main;have hlk:=hlen k;have hhl:HQ (oV t k*eM t y k) (N+13):=(@HQ.mul _ _ 4 _ (hfh k) hlk).mono J;have hlt':HQ (d9 t k+T) (N+10):=(@HQ.add _ _ 4 (N+5) (hlv k) ⟨hTq⟩).mono J;have hpr:HQ (oV t k*eM t y k*(d9 t k+T)) (2*N+24):=(@HQ.mul _ _ _ _ hhl hlt').mono J;have a4:=nk (ofQ T) (ofQ (d9 t k)) (hx:=Vq.ofQ (h:=⟨hTq⟩)) (hy:=Vq.ofQ (h:=hlv k)) J Y;rw[hTl]at a4;have a5:=n6 (oV t k) (eM t y k) (N+9) ((hfh k).mono J).ok hlk.ok J;have hark:k*(N+14)<=7*(N+14):=cE _ J;have hmok:k*(2*N+41)<=7*(2*N+41):=cE _ J;have a6:=eJ (ofQ (qt t y k)) (ofQ (oV t k*eM t y k)) (hx:=Vq.ofQ (h:=har k)) (hy:=Vq.ofQ (h:=hhl)) J J;rw[show qt t y k+oV t k*eM t y k=qt t y (k+1) from O]at a6;have a7:=eJ (ofQ (d9 t k)) (ofQ T) (hx:=Vq.ofQ (h:=hlv k)) (hy:=Vq.ofQ (h:=⟨hTq⟩)) Y J;have a8:=n6 (oV t k*eM t y k) (d9 t k+T) (N+13) hhl.ok (hlt'.mono J).ok J;have a9:=nc (ofQ (oV t k*eM t y k*(d9 t k+T))) (ofQ ((2:Int):Rat)) (hx:=Vq.ofQ (h:=hpr)) (hy:=Vq.ofQ (h:=HQ.int)) J Y aH;have hmd:HQ (oV t k*eM t y k*(d9 t k+T)/2) (2*N+40):=by rw[<-hTm];exact hmt k
  rw[show((2:Int):Rat)=2 from O]at a9 w2;have a10:=eJ (ofQ (tj t y k)) (ofQ (oV t k*eM t y k*(d9 t k+T)/2)) (hx:=Vq.ofQ (h:=hmo k)) (hy:=Vq.ofQ (h:=hmd)) J J;rw[<-hTm,show tj t y k+Gd t y k=tj t y (k+1) from O]at a10;rw[hTm]at a10;clear hhl hlt' hpr hmd hlk hTq hTm hTl hark hmok;by_cases hyy:y<d9 t (k+1)
  .rw[if_pos hyy]at hT;have hT:=hT.symm;subst hT;have hgy:sgn (y-d9 t (k+1))<0:=s2.2 bP;generalize eM t y k=ln,oV t k=hf,d9 t k=lq at *
   generalize hAR:ofQ (qt t y (k+1))=AR at *
   generalize hMO:ofQ (tj t y (k+1))=MO at *
   generalize ofQ (qt t y k)=AR0,ofQ (tj t y k)=MO0,ofQ y=TT,ofQ ln=LN,ofQ hf=HF,ofQ lq=LQ,ofQ (hf*ln)=HL,ofQ (lq+y)=LT,ofQ (hf*ln*(lq+y))=HLT,ofQ (hf*ln*(lq+y)/2)=HLD,ofQ 2=W2 at *
   refine ax c2 ?_;refine H ?_;rw[decide_eq_true hgy];refine H ?_;refine cV 9 ?_;refine ao (e_ 10) ?_;refine a_ [(8,10),(9,10)] aH aH ?_;refine H ?_;rw[q2];refine oJ O O O a3 O O ?_;refine G a4 ?_;refine H ?_;refine ci O O (dQ O O O O O O O O O O ah O) ?_;refine G a5 ?_;refine G a6 ?_;refine H ?_;refine bM [] [5] 11 [11,12] aH aH ?_;refine G a7 ?_;refine H ?_;refine ci O O (dQ O O O O O O O O O O ah O) ?_;refine G a8 ?_;refine G w2 ?_;refine G a9 ?_;refine G a10 ?_;refine H ?_;exact⟨k+1,hlt,J,O,O,O,O,O,O,congrArg I q1,O,O,O,by rw[hAR,hMO];rfl,bh⟩
  .rw[if_neg hyy]at hT;have hT:=hT.symm;subst hT;have hgy:¬sgn (y-d9 t (k+1))<0:=fun e=>hyy (by have:=s2.1 e;grind);generalize d9 t (k+1)=T,eM t y k=ln,oV t k=hf,d9 t k=lq at *
   generalize hAR:ofQ (qt t y (k+1))=AR at *
   generalize hMO:ofQ (tj t y (k+1))=MO at *
   generalize ofQ (qt t y k)=AR0,ofQ (tj t y k)=MO0,ofQ T=TT,ofQ ln=LN,ofQ hf=HF,ofQ lq=LQ,ofQ (hf*ln)=HL,ofQ (lq+T)=LT,ofQ (hf*ln*(lq+T))=HLT,ofQ (hf*ln*(lq+T)/2)=HLD,ofQ 2=W2 at *
   refine ax c2 ?_;refine H ?_;rw[decide_eq_false hgy];refine H ?_;refine cV 9 ?_;refine ao (e_ 10) ?_;refine a_ [(8,10),(9,10)] aH aH ?_;refine H ?_;rw[q2];refine oJ O O O a3 O O ?_;refine G a4 ?_;refine H ?_;refine ci O O (dQ O O O O O O O O O O ah O) ?_;refine G a5 ?_;refine G a6 ?_;refine H ?_;refine bM [] [5] 11 [11,12] aH aH ?_;refine G a7 ?_;refine H ?_;refine ci O O (dQ O O O O O O O O O O ah O) ?_;refine G a8 ?_;refine G w2 ?_;refine G a9 ?_;refine G a10 ?_;refine H ?_;exact⟨k+1,hlt,J,O,O,O,O,O,O,congrArg I q1,O,O,O,by rw[hAR,hMO];rfl,bh⟩
 .have hge:k=t.H0.length:=co h;clear h;subst hge;generalize ofQ (qt t y t.H0.length)=E1,ofQ (tj t y t.H0.length)=E2 at *
  exact cA
theorem vH {t:ST}{y:Rat}{n k:Nat}:Ml t y (n+1) k=if d9 t k<=y/\y<d9 t (k+1) then t.H0.getD k 0 else Ml t y n (k+1):=rfl
theorem vJ {t:ST}(ok:StOk t)(y:Rat):0<=eZ t y/\eZ t y<=100000:=by
 have key:∀n k,0<=Ml t y n k/\Ml t y n k<=100000:=by
  intro n
  induction n with
  |zero=>intro k;exact⟨oE _,by show(0:Int)<=100000;decide⟩
  |succ n ih =>
   intro k;rw[vH];split
   .exact vL ok k
   .exact ih (k+1)
 exact key _ _
theorem FJ (x:RR){p:Rat}{n:Nat}[hx:Vq x p n](hn:n<=8000000):aU 177 [.agg (eR x)] (.bool (decide (p=0))):=by
 have w:=dh 0 ⟨Y,Y⟩;rw[show((0:Int):Rat)=0 from O]at w;have c:=nf x (ofQ 0) (hy:=Vq.ofQ (h:=HQ.zero)) hn Y;rw[mA,uv,jI]at c;have hd:decide (p=0)=decide (sgn p=0):=decide_eq_decide.2 (gi p).symm;rw[hd];generalize ofQ 0=Z,sgn p=g at *
 refine aD Proofs.Tryz.func177 ?_;refine cX 5 [3,4,5,6,2] ?_;refine G w ?_;refine ax c ?_;exact kU
theorem Bj (t:ST)(ok:StOk t){y:Rat}{N:Nat}(hy:hq y N)(hN:N<=7000000):aU 175 [.agg (eT t),.agg (eR (ofQ y))] (I (eZ t y)):=by
 have hLH:=ok.h;have hLn:=ok.n;have hmh:(t.H0.map eN).length=t.H0.length:=ap;have hlv:=nL ok;have hlvi:∀k,k<t.L.length->∃n,t.L[k]?=some n/\d9 t k=((n:Int):Rat)/\i64 n:=fun k hk=>by
  have h0:t.L[k]?=some (t.L.getD k 0):=bF (d:=0) hk;have:=ok.L _ (bC h0);exact⟨_,h0,O,⟨J,J⟩⟩
 have hhi:∀k,k<t.H0.length->t.H0[k]?=some (t.H0.getD k 0):=fun k hk=>bF (d:=0) hk;generalize hR:eZ t y=R;rw[eZ]at hR;refine aD Proofs.Tryz.func175 ?_;refine H ?_;rw[hmh];refine ai (fun k:Nat=>k<=t.H0.length/\Ml t y (t.H0.length-k) k=R) (fun k=>[(2,.ptr 2 1 0 0),(3,.ptr 3 1 0 0),(8,.sl (t.H0.map eN)),(9,I t.H0.length),(10,I (k:Nat))]) (fun k=>[(2,1,⟨115,4,[eT t],2⟩),(3,1,⟨41,4,[eR (ofQ y)],2⟩)]) (fun k=>t.H0.length-k) 0 ⟨aP _,hR⟩ ah ?_;rintro k s ⟨hk,hall⟩;refine D ?_ ?_<;>intro h
 .have hlt:k<t.H0.length:=cw h;clear h;have hx:=hhi k hlt;obtain⟨lo,hlo,hloq,hloi⟩:=hlvi k J;obtain⟨hi,hhii,hhiq,hhi64⟩:=hlvi (k+1) J;have q1:=dN k;have a1:=dh lo hloi;have a2:=dh hi hhi64;rw[<-hloq]at a1;rw[<-hhiq]at a2;have c1:=nf (ofQ y) (ofQ (d9 t k)) (hx:=Vq.ofQ (h:=⟨hy⟩)) (hy:=Vq.ofQ (h:=hlv k)) J Y;have c2:=nf (ofQ y) (ofQ (d9 t (k+1))) (hx:=Vq.ofQ (h:=⟨hy⟩)) (hy:=Vq.ofQ (h:=hlv (k+1))) J Y;have s1:=Lk (y-d9 t k);have s2:=eW (y-d9 t (k+1));have e1:0<=y-d9 t k↔d9 t k<=y:=by constructor<;>intro h<;>grind
  have e2:y-d9 t (k+1)<0↔y<d9 t (k+1):=by constructor<;>intro h<;>grind
  rw[e1]at s1;rw[e2]at s2;rw[show t.H0.length-k=(t.H0.length-(k+1))+1 by omega,vH]at hall;generalize sgn (y-d9 t k)=g1,sgn (y-d9 t (k+1))=g2,ofQ (d9 t k)=A1,ofQ (d9 t (k+1))=A2,t.H0.getD k 0=h0 at *
  refine aN hx ?_;refine cX 21 [15,16,17,18,19,20,21,22,23,24,25,26,27,28,29,30,31,32,33,34,35] ?_;refine aN hlo ?_;refine G a1 ?_;refine ax c1 ?_;refine H ?_;by_cases d1:0<=g1
  rotate_left
  .rw[if_neg (fun e=>d1 (s1.2 e.1))]at hall;rw[decide_eq_false d1];refine H ?_;exact⟨k+1,⟨hlt,hall⟩,J,O,O,O,O,congrArg I q1,ah⟩
  rw[decide_eq_true d1];refine H ?_;rw[q1];refine ci O O (lK (n:=((((k+1:Nat):Int)):Int)) O O O O O J hhii O) ?_;refine G a2 ?_;refine ax c2 ?_;refine H ?_;by_cases d2:g2<0
  .rw[if_pos ⟨s1.1 d1,s2.1 d2⟩]at hall;rw[decide_eq_true d2];subst hall;exact cB
  .rw[if_neg (fun e=>d2 (s2.2 e.2))]at hall;rw[decide_eq_false d2];refine H ?_;exact⟨k+1,⟨hlt,hall⟩,J,O,O,O,O,congrArg I q1,ah⟩
 .have hge:k=t.H0.length:=co h;clear h;subst hge;rw[iD,Ml]at hall;subst hall;exact cB
def AQ (M:Nat)(y q:Rat):Prop:=∃a b:Int,a.natAbs<=M/\b.natAbs<=M/\q=(a:Rat)+(b:Rat)*y
def PQ (M:Nat)(y q:Rat):Prop:=∃a b c:Int,a.natAbs<=M/\b.natAbs<=M/\c.natAbs<=M/\q=(a:Rat)+(b:Rat)*y+(c:Rat)*(y*y)
def AZ (M:Nat)(z u q:Rat):Prop:=∃a b c:Int,a.natAbs<=M/\b.natAbs<=M/\c.natAbs<=M/\q=(a:Rat)+(b:Rat)*z+(c:Rat)*u
def PZ (M:Nat)(z u q:Rat):Prop:=∃a b c d e f:Int,a.natAbs<=M/\b.natAbs<=M/\c.natAbs<=M/\d.natAbs<=M/\e.natAbs<=M/\f.natAbs<=M/\q=(a:Rat)+(b:Rat)*z+(c:Rat)*u+(d:Rat)*(z*z)+(e:Rat)*(z*u)+(f:Rat)*(u*u)
theorem wj {a b:Int}{M K:Nat}(ha:a.natAbs<=M)(hb:b.natAbs<=K):(a*b).natAbs<=M*K:=by
 rw[js];exact eO ha hb
theorem rj {a b:Int}{M K:Nat}(ha:a.natAbs<=M)(hb:b.natAbs<=K):(a+b).natAbs<=M+K:=bK (Int.natAbs_add_le a b) (Nat.add_le_add ha hb)
theorem AQ.add {M K:Nat}{y p q:Rat}(h1:AQ M y p)(h2:AQ K y q):AQ (M+K) y (p+q):=by
 obtain⟨a,b,ha,hb,rfl⟩:=h1;obtain⟨c,d,hc,hd,rfl⟩:=h2;refine⟨a+c,b+d,rj ha hc,rj hb hd,?_⟩;rw[Rat.intCast_add,Rat.intCast_add];grind
theorem PQ.add {M K:Nat}{y p q:Rat}(h1:PQ M y p)(h2:PQ K y q):PQ (M+K) y (p+q):=by
 obtain⟨a,b,c,ha,hb,hc,rfl⟩:=h1;obtain⟨d,e,f,hd,he,hf,rfl⟩:=h2;refine⟨a+d,b+e,c+f,rj ha hd,rj hb he,rj hc hf,?_⟩;rw[Rat.intCast_add,Rat.intCast_add,Rat.intCast_add];grind
theorem AZ.add {M K:Nat}{z u p q:Rat}(h1:AZ M z u p)(h2:AZ K z u q):AZ (M+K) z u (p+q):=by
 obtain⟨a,b,c,ha,hb,hc,rfl⟩:=h1;obtain⟨d,e,f,hd,he,hf,rfl⟩:=h2;refine⟨a+d,b+e,c+f,rj ha hd,rj hb he,rj hc hf,?_⟩;rw[Rat.intCast_add,Rat.intCast_add,Rat.intCast_add];grind
theorem PZ.add {M K:Nat}{z u p q:Rat}(h1:PZ M z u p)(h2:PZ K z u q):PZ (M+K) z u (p+q):=by
 obtain⟨a,b,c,d,e,f,ha,hb,hc,hd,he,hf,rfl⟩:=h1;obtain⟨a',b',c',d',e',f',ha',hb',hc',hd',he',hf',rfl⟩:=h2;refine⟨a+a',b+b',c+c',d+d',e+e',f+f',rj ha ha',rj hb hb',rj hc hc',rj hd hd',rj he he',rj hf hf',?_⟩;rw[Rat.intCast_add,Rat.intCast_add,Rat.intCast_add,Rat.intCast_add,Rat.intCast_add,Rat.intCast_add];grind
theorem F8 {t:ST}(ok:StOk t)(k:Nat):0<=t.L.getD k 0/\t.L.getD k 0<=100000:=by
 rcases bG k t.L.length with h|h
 .exact ok.L _ (bC (bF (d:=0) h))
 .rw[cN,fe h];decide
theorem Mw {t:ST}(ok:StOk t)(y:Rat)(k:Nat):AQ 20000000000 y (oV t k*eM t y k):=by
 have hf:=vL ok k;have l0:=F8 ok k;have l1:=F8 ok (k+1);rw[eM,oV,d9,d9];generalize t.H0.getD k 0=h,t.L.getD k 0=a,t.L.getD (k+1) 0=b at *
 have z2:((2:Int):Rat)=2:=O;have z0:((0:Int):Rat)=0:=O;split
 .exact⟨0,0,Y,Y,by rw[z0];grind⟩
 split
 .refine⟨-(2*h*a),2*h,?_,J,?_⟩
  .rw[uo];exact wj (M:=200000) (K:=100000) J J
  .rw[Rat.intCast_neg,Rat.intCast_mul,Rat.intCast_mul,z2];grind
 .refine⟨2*h*(b-a),0,wj (M:=200000) (K:=100000) J J,Y,?_⟩;rw[Rat.intCast_mul,Rat.intCast_mul,Rat.intCast_sub,z2,z0];grind
theorem Ng {t:ST}(ok:StOk t)(y:Rat)(k:Nat):PQ 2000000000000000 y (Gd t y k):=by
 have hf:=vL ok k;have l0:=F8 ok k;have l1:=F8 ok (k+1);rw[Gd,eM,oV,d9,d9];generalize t.H0.getD k 0=h,t.L.getD k 0=a,t.L.getD (k+1) 0=b at *
 have z2:((2:Int):Rat)=2:=O;have z0:((0:Int):Rat)=0:=O;split
 .exact⟨0,0,0,Y,Y,Y,by rw[z0];grind⟩
 split
 .refine⟨-(h*(a*a)),0,h,?_,Y,J,?_⟩
  .rw[uo];exact bK (wj (M:=100000) (K:=10000000000) J (wj (M:=100000) (K:=100000) J J)) Y
  .rw[Rat.intCast_neg,Rat.intCast_mul,Rat.intCast_mul,Rat.intCast_mul,z2,z0];grind
 .refine⟨h*((b-a)*(b+a)),0,0,?_,Y,Y,?_⟩
  .exact wj (M:=100000) (K:=20000000000) J (wj (M:=100000) (K:=200000) J J)
  .rw[Rat.intCast_mul,Rat.intCast_mul,Rat.intCast_mul,Rat.intCast_sub,Rat.intCast_add,z2,z0];grind
theorem I8 {t:ST}(ok:StOk t)(y:Rat):∀k,AQ (k*20000000000) y (qt t y k)
 |0=>⟨0,0,Y,Y,by show(0:Rat)=((0:Int):Rat)+((0:Int):Rat)*y;rw[show((0:Int):Rat)=0 from rfl];grind⟩
 |k+1=>by rw[qt,cg,fR];exact(I8 ok y k).add (Mw ok y k)
theorem Kk {t:ST}(ok:StOk t)(y:Rat):∀k,PQ (k*2000000000000000) y (tj t y k)
 |0=>⟨0,0,0,Y,Y,Y,by show(0:Rat)=((0:Int):Rat)+((0:Int):Rat)*y+((0:Int):Rat)*(y*y);rw[show((0:Int):Rat)=0 from rfl];grind⟩
 |k+1=>by rw[tj,cg,fR];exact(Kk ok y k).add (Ng ok y k)
theorem AQ.mono {M K:Nat}{y q:Rat}(h:AQ M y q)(hm:M<=K):AQ K y q:=by
 obtain⟨a,b,ha,hb,e⟩:=h;exact⟨a,b,J,J,e⟩
theorem PQ.mono {M K:Nat}{y q:Rat}(h:PQ M y q)(hm:M<=K):PQ K y q:=by
 obtain⟨a,b,c,ha,hb,hc,e⟩:=h;exact⟨a,b,c,J,J,J,e⟩
def bE (z s:Rat)(t:ST):Rat:=wQ t*nw t (aZ z s t)
def nq (z s:Rat)(t:ST):Rat:=wQ t*nw t (aZ z s t)*xQ t
def kn (z s:Rat)(t:ST):Rat:=wQ t*Ed t (aZ z s t)
def fY (z s:Rat)(t:ST):Rat:=bT z s t*xQ t
def ek (z s:Rat)(t:ST):Rat:=2*(eZ t (aZ z s t):Rat)*(eZ t (aZ z s t):Rat)*(eZ t (aZ z s t):Rat)*wQ t/3
def mH (z s:Rat)(t:ST):Rat:=bT z s t*xQ t*xQ t
theorem GR {t:ST}(ok:StOk t)(h8:t.L.length<=8)(z u:Rat):AZ 14000000000000000000000 z u (bE z u t):=by
 have hw:=ok.w;have hx:=ok.x;have hH:=ok.h;obtain⟨a,b,ha,hb,e⟩:=(I8 ok (aZ z u t) t.H0.length).mono (K:=140000000000) J;refine⟨t.w*a,t.w*b,t.w*(b*t.x),?_,?_,?_,?_⟩
 .exact bK (wj (M:=100000) J ha) Y
 .exact bK (wj (M:=100000) J hb) Y
 .exact bK (wj (M:=100000) J (wj (K:=1000000) hb J)) Y
 .rw[bE,nw,e,aZ,wQ,Rat.intCast_mul,Rat.intCast_mul,Rat.intCast_mul,Rat.intCast_mul];grind
theorem QR {t:ST}(ok:StOk t)(h8:t.L.length<=8)(z u:Rat):AZ 14000000000000000000000000000 z u (nq z u t):=by
 have hx:=ok.x;obtain⟨a,b,c,ha,hb,hc,e⟩:=GR ok h8 z u;refine⟨a*t.x,b*t.x,c*t.x,?_,?_,?_,?_⟩
 .exact wj (K:=1000000) ha J
 .exact wj (K:=1000000) hb J
 .exact wj (K:=1000000) hc J
 .rw[show nq z u t=bE z u t*xQ t from O,e,xQ,Rat.intCast_mul,Rat.intCast_mul,Rat.intCast_mul];grind
theorem QS {t:ST}(ok:StOk t)(h8:t.L.length<=8)(z u:Rat):PZ 2800000000000000000000000000000000 z u (kn z u t):=by
 have hw:=ok.w;have hx:=ok.x;have hH:=ok.h;obtain⟨a,b,c,ha,hb,hc,e⟩:=(Kk ok (aZ z u t) t.H0.length).mono (K:=14000000000000000) J;refine⟨t.w*a,t.w*b,t.w*(b*t.x),t.w*c,t.w*(c*(2*t.x)),t.w*(c*(t.x*t.x)),?_,?_,?_,?_,?_,?_,?_⟩
 .exact bK (wj (M:=100000) J ha) Y
 .exact bK (wj (M:=100000) J hb) Y
 .exact bK (wj (M:=100000) J (wj (K:=1000000) hb J)) Y
 .exact bK (wj (M:=100000) J hc) Y
 .exact bK (wj (M:=100000) J (wj (K:=2000000) hc J)) Y
 .exact bK (wj (M:=100000) J (wj (K:=1000000000000) hc (wj (M:=1000000) (K:=1000000) J J))) Y
 .rw[kn,Ed,e,aZ,wQ];simp only[gd];rw[show((2:Int):Rat)=2 from O];grind
theorem sT {P:Nat->Rat->Prop}{f:ST->Rat}{M:Nat}(h0:P 0 0)(ha:∀n p q,P n p->P M q->P (n+M) (p+q)){l:List ST}(h:∀t∈l,P M (f t))(i:Nat):P ((l.take i).length*M) (am f (l.take i)):=by
 have key:∀(l:List ST) (a:Rat) (m:Nat),P m a->(∀t∈l,P M (f t))->P (m+l.length*M) (l.foldl (fun a t=>a+f t) a):=by
  intro l
  induction l with
  |nil=>intro a m ha _;simpa using ha
  |cons x l ih =>
   intro a m h1 hl;rw[fB,dl];have:=ih (a+f x) (m+M) (ha _ _ _ h1 (hl x ez)) fun q hq=>hl q (ff _ hq);rwa [show m+M+l.length*M=m+(l.length+1)*M by rw[cg];omega]at this
 have:=key (l.take i) 0 0 h0 fun t ht=>h t (dD ht);rwa [aM]at this
theorem AZ.zero (z u:Rat):AZ 0 z u 0:=⟨0,0,0,Y,Y,Y,by rw[show((0:Int):Rat)=0 from O];grind⟩
theorem PZ.zero (z u:Rat):PZ 0 z u 0:=⟨0,0,0,0,0,0,Y,Y,Y,Y,Y,Y,by rw[show((0:Int):Rat)=0 from O];grind⟩
theorem M8 {a:Int}{M:Nat}(h:a.natAbs<=M)(hM:M<65536^8):HQ (a:Rat) 8:=⟨ma (mz h hM) Y⟩
theorem AZ.hq {M:Nat}{z u q:Rat}{n m:Nat}(h:AZ M z u q)(hM:M<65536^8)(hz:hq z n)(hu:hq u m):HQ q (n+m+26):=by
 obtain⟨a,b,c,ha,hb,hc,rfl⟩:=h;exact(@HQ.add _ _ _ _ (@HQ.add _ _ 8 (8+n) (M8 ha hM) (@HQ.mul _ _ 8 n (M8 hb hM) ⟨hz⟩)) (@HQ.mul _ _ 8 m (M8 hc hM) ⟨hu⟩)).mono J
theorem PZ.hq {M:Nat}{z u q:Rat}{n m:Nat}(h:PZ M z u q)(hM:M<65536^8)(hz:hq z n)(hu:hq u m):HQ q (4*(n+m)+53):=by
 obtain⟨a,b,c,d,e,f,ha,hb,hc,hd,he,hf,rfl⟩:=h;exact(@HQ.add _ _ _ _ (@HQ.add _ _ _ _ (@HQ.add _ _ _ _ (@HQ.add _ _ _ _ (@HQ.add _ _ 8 (8+n) (M8 ha hM) (@HQ.mul _ _ 8 n (M8 hb hM) ⟨hz⟩)) (@HQ.mul _ _ 8 m (M8 hc hM) ⟨hu⟩)) (@HQ.mul _ _ 8 _ (M8 hd hM) (@HQ.mul _ _ n n ⟨hz⟩ ⟨hz⟩))) (@HQ.mul _ _ 8 _ (M8 he hM) (@HQ.mul _ _ n m ⟨hz⟩ ⟨hu⟩))) (@HQ.mul _ _ 8 _ (M8 hf hM) (@HQ.mul _ _ m m ⟨hu⟩ ⟨hu⟩))).mono J
theorem uN {l:List ST}(hs:∀t∈l,StOk t)(h8:∀t∈l,t.L.length<=8)(h6:l.length<=6){z u:Rat}{n m:Nat}(hz:hq z n)(hu:hq u m)(i:Nat):HQ (am (bE z u) (l.take i)) (n+m+26)/\HQ (am (nq z u) (l.take i)) (n+m+26)/\HQ (am (kn z u) (l.take i)) (4*(n+m)+53):=by
 have hl:(l.take i).length<=6:=by rw[bc];omega
 refine⟨?_,?_,?_⟩
 .refine(sT (P:=fun M q=>AZ M z u q) (AZ.zero z u) (fun n p q h1 h2=>h1.add h2) (fun t ht=>GR (hs t ht) (h8 t ht) z u) i).hq ?_ hz hu;exact mz (cE _ hl) Y
 .refine(sT (P:=fun M q=>AZ M z u q) (AZ.zero z u) (fun n p q h1 h2=>h1.add h2) (fun t ht=>QR (hs t ht) (h8 t ht) z u) i).hq ?_ hz hu;exact mz (cE _ hl) Y
 .refine(sT (P:=fun M q=>PZ M z u q) (PZ.zero z u) (fun n p q h1 h2=>h1.add h2) (fun t ht=>QS (hs t ht) (h8 t ht) z u) i).hq ?_ hz hu;exact mz (cE _ hl) Y
theorem NZ {M:Nat}{f:ST->Rat}{l:List ST}(h:∀t∈l,hq (f t) M):hq (am f l) ((M+1)*l.length+4):=by
 have key:∀(l:List ST) (a:Rat) (m:Nat),hq a m->(∀t∈l,hq (f t) M)->hq (l.foldl (fun a t=>a+f t) a) (m+(M+1)*l.length):=by
  intro l
  induction l with
  |nil=>intro a m ha _;simpa using ha
  |cons x l ih =>
   intro a m ha hl;rw[fB,dl];have:=ih (a+f x) (m+M+1) (@HQ.add a (f x) m M ⟨ha⟩ ⟨hl x ez⟩).ok fun q hq=>hl q (ff _ hq);rwa [show m+M+1+(M+1)*l.length=m+(M+1)*(l.length+1) by rw[cy];omega]at this
 have:=key l 0 4 HQ.zero.ok h;rwa [lg]at this
theorem jc {M:Nat}{f:ST->Rat}{l:List ST}(h:∀t∈l,hq (f t) M)(h6:l.length<=6)(i:Nat):HQ (am f (l.take i)) (6*M+10):=by
 have:=NZ (M:=M) (l:=l.take i) fun t ht=>h t (dD ht);refine HQ.mono (h:=⟨this⟩) ?_;have h1:(l.take i).length<=6:=by rw[bc];omega
 have:=dE (M+1) h1;omega
def K9 (v x z a f c l:RR):List PV:=eR v++zN++eR x++eR z++eR a++eR f++eR c++eR l++zN
def Fz (x:HYQ):List PV:=eR (ofQ x.vol)++eR (ofQ x.disp)++eR (ofQ x.x)++eR (ofQ x.z)++eR (ofQ x.area)++eR (ofQ x.flo)++eR (ofQ x.cross)++eR (ofQ x.long)++eR (ofQ x.mtc)
theorem yd (st:List ST)(d:Nat)(z u:Rat):(am (bT z u) st=0/\Fz (pK st d z u)=eR (ofQ (am (bE z u) st))++eR (ofQ (am (bE z u) st*((d:Rat)/1000000000)))++eR (ofQ (am (nq z u) st/am (bE z u) st))++eR (ofQ (am (kn z u) st/am (bE z u) st))++eR (ofQ (am (bT z u) st))++eR (ofQ 0)++eR (ofQ (am (ek z u) st))++eR (ofQ 0)++eR (ofQ (am (kn z u) st/am (bE z u) st+am (ek z u) st/am (bE z u) st))) \/
  (am (bT z u) st≠0/\∃f l:Rat,f=am (fY z u) st/am (bT z u) st/\l=am (mH z u) st-am (bT z u) st*f*f/\Fz (pK st d z u)=eR (ofQ (am (bE z u) st))++eR (ofQ (am (bE z u) st*((d:Rat)/1000000000)))++eR (ofQ (am (nq z u) st/am (bE z u) st))++eR (ofQ (am (kn z u) st/am (bE z u) st))++eR (ofQ (am (bT z u) st))++eR (ofQ f)++eR (ofQ (am (ek z u) st))++eR (ofQ l)++eR (ofQ (am (kn z u) st/am (bE z u) st+am (ek z u) st/am (bE z u) st))):=by
 by_cases hA:am (bT z u) st=0
 .refine Or.inl ⟨hA,?_⟩;have:pK st d z u=⟨am (bE z u) st,am (bE z u) st*((d:Rat)/1000000000),am (nq z u) st/am (bE z u) st,am (kn z u) st/am (bE z u) st,am (bT z u) st,if am (bT z u) st=0 then 0 else am (fY z u) st/am (bT z u) st,am (ek z u) st,if am (bT z u) st=0 then 0 else am (mH z u) st-am (bT z u) st*(if am (bT z u) st=0 then 0 else am (fY z u) st/am (bT z u) st)*(if am (bT z u) st=0 then 0 else am (fY z u) st/am (bT z u) st),am (kn z u) st/am (bE z u) st+am (ek z u) st/am (bE z u) st⟩:=O;rw[this,if_pos hA,if_pos hA];rfl
 .refine Or.inr ⟨hA,_,_,O,O,?_⟩;have:pK st d z u=⟨am (bE z u) st,am (bE z u) st*((d:Rat)/1000000000),am (nq z u) st/am (bE z u) st,am (kn z u) st/am (bE z u) st,am (bT z u) st,if am (bT z u) st=0 then 0 else am (fY z u) st/am (bT z u) st,am (ek z u) st,if am (bT z u) st=0 then 0 else am (mH z u) st-am (bT z u) st*(if am (bT z u) st=0 then 0 else am (fY z u) st/am (bT z u) st)*(if am (bT z u) st=0 then 0 else am (fY z u) st/am (bT z u) st),am (kn z u) st/am (bE z u) st+am (ek z u) st/am (bE z u) st⟩:=O;rw[this,if_neg hA,if_neg hA];rfl
theorem HM (p:Rat)(n:Nat)(hp:hq p n)(hn:n<=2999000)(d:Nat)(h1:1<=d)(h2:d<=1000000000):aU 104 [.agg (eR (ofQ p)),I (d:Nat)] (.agg (eR (ofQ (p*((d:Rat)/1000000000))))):=by
 have z1:Zb (d:Int):=aI J J;have z2:Zb 1000000000:=aI Y Y;have w1:=dh (d:Int) ⟨J,J⟩;have w2:=dh 1000000000 ⟨Y,Y⟩;have c1:=n6 p ((d:Int):Rat) (n+4) (HQ.mono (h:=⟨hp⟩) J).ok ((HQ.int (z:=(d:Int))).mono J).ok J;have c2:=nc (ofQ (p*((d:Int):Rat))) (ofQ ((1000000000:Int):Rat)) (hx:=Vq.ofQ (h:=@HQ.mul _ _ n 4 ⟨hp⟩ HQ.int)) (hy:=Vq.ofQ (h:=HQ.int)) J Y aH;rw[show p*((d:Int):Rat)/((1000000000:Int):Rat)=p*((d:Rat)/1000000000) by rw[show((d:Int):Rat)=(d:Rat) from O,show((1000000000:Int):Rat)=1000000000 from O];grind]at c2;generalize ofQ (p*((d:Rat)/1000000000))=X3,ofQ (p*((d:Int):Rat))=X2,ofQ ((d:Int):Rat)=X1,ofQ ((1000000000:Int):Rat)=X0,ofQ p=X at *
 refine aD Proofs.Tryz.func104 ?_;refine cX 3 [5,6,7] ?_;refine G w1 ?_;refine H ?_;refine ci O O (dQ O O O O O O O O O O ah O) ?_;refine G c1 ?_;refine G w2 ?_;refine G c2 ?_;exact cA
theorem E4 {t:ST}(ok:StOk t)(h8:t.L.length<=8){z s:Rat}{N:Nat}(hy:hq (aZ z s t) N):HQ (wQ t) 4/\HQ (xQ t) 4/\HQ (eZ t (aZ z s t):Rat) 4/\HQ (nw t (aZ z s t)) (7*N+102)/\HQ (Ed t (aZ z s t)) (14*N+291)/\HQ (bT z s t) 12:=by
 have hw:=ok.w;have hx:=ok.x;have ha:=vJ ok (aZ z s t);have zw:Zb t.w:=aI J J;have zx:Zb t.x:=aI J J;have za:Zb (eZ t (aZ z s t)):=aI J J;have z2:Zb 2:=aI Y Y;have hH:=ok.h;have hk:t.H0.length<=7:=J;have k1:=cE (N+14) hk;have k2:=cE (2*N+41) hk;refine⟨HQ.int,HQ.int,HQ.int,(xR ok hy t.H0.length).mono J,(Ge ok hy t.H0.length).mono J,?_⟩;rw[bT,show(2:Rat)=((2:Int):Rat) from O];exact(@HQ.mul _ _ _ 4 (@HQ.mul _ _ 4 4 HQ.int HQ.int) HQ.int)
theorem DN {t:ST}{z u:Rat}(c3:HQ (eZ t (aZ z u t):Rat) 4)(c1:HQ (wQ t) 4):hq (ek z u t) 24:=by
 have z2:Zb 2:=aI Y Y;have z3:Zb 3:=aI Y Y;have q2:HQ (2:Rat) 4:=by rw[show(2:Rat)=((2:Int):Rat) from O];exact HQ.int
 have q3:HQ (3:Rat) 4:=by rw[show(3:Rat)=((3:Int):Rat) from O];exact HQ.int
 exact(@HQ.div _ _ 20 4 (@HQ.mul _ _ 16 4 (@HQ.mul _ _ 12 4 (@HQ.mul _ _ 8 4 (@HQ.mul _ _ 4 4 q2 c3) c3) c3) c1) q3).ok
set_option maxHeartbeats 16000000 in
theorem Hv (s:SHP)(hst:∀t∈s.st,StOk t)(h6:s.st.length<=6)(h8:∀t∈s.st,t.L.length<=8)(a:AR){z u:Rat}{n m:Nat}[ha:Va a z u n m](hnm:n+m<=49000)(d:Nat)(hd1:1<=d)(hd2:d<=1000000000)(hv0:am (bE z u) s.st≠0) :
  aU 101 [.agg (fx s),.agg (eA a),I (d:Nat)] (.tup [.agg (Fz (pK s.st d z u)),.bool true]):=by
 have w0:=dh 0 ⟨Y,Y⟩;rw[show((0:Int):Rat)=0 from O]at w0;have w2:=dh 2 ⟨Y,Y⟩;rw[show((2:Int):Rat)=2 from O]at w2;have w3:=dh 3 ⟨Y,Y⟩;rw[show((3:Int):Rat)=3 from O]at w3;have z2:Zb 2:=aI Y Y;have z3:Zb 3:=aI Y Y;have q2:HQ (2:Rat) 4:=by rw[show(2:Rat)=((2:Int):Rat) from O];exact HQ.int
 have q3:HQ (3:Rat) 4:=by rw[show(3:Rat)=((3:Int):Rat) from O];exact HQ.int
 have hms:(s.st.map eT).length=s.st.length:=ap;have hyq:∀t∈s.st,hq (aZ z u t) (n+m+12):=fun t ht=>by
  have hx:=(hst t ht).x;have zx:Zb t.x:=aI J J;exact(HQ.mono (h:=@HQ.add _ _ (n+1) (m+1+4) ha.z.hq (@HQ.mul _ _ (m+1) 4 ha.t.hq HQ.int)) J).ok
 have hsum:=fun i=>uN hst h8 h6 ha.z.hq.ok ha.t.hq.ok i;generalize hNN:n+m+12=N at *
 have hN:N<=49012:=J;have hsz:=fun t ht=>E4 (hst t ht) (h8 t ht) (hyq t ht);have b4:∀t∈s.st,hq (bT z u t) 12:=fun t ht=>(hsz t ht).2.2.2.2.2.ok;have b5:∀t∈s.st,hq (fY z u t) 16:=fun t ht=>by
  obtain⟨c1,c2,c3,c4,c5,c6⟩:=hsz t ht;exact(@HQ.mul _ _ 12 4 c6 c2).ok
 have b6:∀t∈s.st,hq (ek z u t) 24:=fun t ht=>by
  obtain⟨c1,c2,c3,c4,c5,c6⟩:=hsz t ht;exact(@HQ.div _ _ 20 4 (@HQ.mul _ _ 16 4 (@HQ.mul _ _ 12 4 (@HQ.mul _ _ 8 4 (@HQ.mul _ _ 4 4 q2 c3) c3) c3) c1) q3).ok
 have b7:∀t∈s.st,hq (mH z u t) 20:=fun t ht=>by
  obtain⟨c1,c2,c3,c4,c5,c6⟩:=hsz t ht;exact(@HQ.mul _ _ 16 4 (@HQ.mul _ _ 12 4 c6 c2) c2).ok
 have s1:∀i,HQ (am (bE z u) (s.st.take i)) (N+16):=fun i=>(hsum i).1.mono J;have s2:∀i,HQ (am (nq z u) (s.st.take i)) (N+16):=fun i=>(hsum i).2.1.mono J;have s3:∀i,HQ (am (kn z u) (s.st.take i)) (4*N+13):=fun i=>(hsum i).2.2.mono J;have s4:=fun i=>jc b4 h6 i;have s5:=fun i=>jc b5 h6 i;have s6:=fun i=>jc b6 h6 i;have s7:=fun i=>jc b7 h6 i;clear b4 b5 b6 b7 hsum;obtain⟨nm,len,st,light,it⟩:=s;obtain⟨az,au⟩:=a;simp only at *
 refine aD Proofs.Tryz.func101 ?_;refine G w0 ?_;refine H ?_;rw[hms];refine aQ [(2,I (d:Nat)),(3,.ptr 3 1 0 0),(4,.ptr 4 1 0 0),(6,.ptr 6 1 0 0),(9,.ptr 9 1 0 0),(28,.sl (st.map eT)),(29,I st.length),(30,I ((0:Nat):Int))] [(3,1,⟨27,9,[fx ⟨nm,len,st,light,it⟩],2⟩),(4,1,⟨43,8,[eA ⟨az,au⟩],2⟩),(6,1,⟨108,36,[zN++zN++zN++zN++zN++zN++zN++zN++zN],2⟩),(9,1,⟨108,36,[K9 (ofQ 0) (ofQ 0) (ofQ 0) (ofQ 0) (ofQ 0) (ofQ 0) (ofQ 0)],2⟩)] ah ?_;intro s0;refine ai (fun i:Nat=>i<=st.length) (fun i=>[(2,I (d:Nat)),(3,.ptr 3 1 0 0),(4,.ptr 4 1 0 0),(6,.ptr 6 1 0 0),(9,.ptr 9 1 0 0),(28,.sl (st.map eT)),(29,I st.length),(30,I (i:Nat))]) (fun i=>[(3,1,⟨27,9,[fx ⟨nm,len,st,light,it⟩],2⟩),(4,1,⟨43,8,[eA ⟨az,au⟩],2⟩),(6,1,⟨108,36,[zN++zN++zN++zN++zN++zN++zN++zN++zN],2⟩),(9,1,⟨108,36,[K9 (ofQ (am (bE z u) (st.take i))) (ofQ (am (nq z u) (st.take i))) (ofQ (am (kn z u) (st.take i))) (ofQ (am (bT z u) (st.take i))) (ofQ (am (fY z u) (st.take i))) (ofQ (am (ek z u) (st.take i))) (ofQ (am (mH z u) (st.take i)))],2⟩)]) (fun i=>st.length-i) 0 (aP _) ah ?_;intro i s1' hi;refine D ?_ ?_<;>intro h
 .have hlt:i<st.length:=cw h;clear h;obtain⟨t,hx⟩:=ay hlt;have htm:=bC hx;have ok:=hst t htm;have hyt:=hyq t htm;obtain⟨c1,c2,c3,c4,c5,c6⟩:=hsz t htm;have i64x:i64 t.x:=by have:=ok.x;exact⟨J,J⟩
  have i64w:i64 t.w:=by have:=ok.w;exact⟨J,J⟩
  have i64h:i64 (eZ t (aZ z u t)):=by have:=vJ ok (aZ z u t);exact⟨J,J⟩
  have e1:=vU ⟨az,au⟩ t.x i64x (ha:=ha) J J;rw[show z+u*(t.x:Rat)=aZ z u t from O]at e1;have e2:=dh t.w i64w;rw[show((t.w:Int):Rat)=wQ t from O]at e2;have e3:=dh t.x i64x;rw[show((t.x:Int):Rat)=xQ t from O]at e3;have e4:=qN t ok (h8 t htm) hyt J;have e5:=Bj t ok hyt J;have e6:=dh (eZ t (aZ z u t)) i64h;have m1:=n6 (wQ t) (nw t (aZ z u t)) (7*N+102) (c1.mono J).ok c4.ok J;have m2:=A6 (wQ t) (nw t (aZ z u t)) (xQ t) (7*N+102) (c1.mono J).ok c4.ok (c2.mono J).ok J;have m3:=n6 (wQ t) (Ed t (aZ z u t)) (14*N+291) (c1.mono J).ok c5.ok J;have m4:=A6 2 (eZ t (aZ z u t):Rat) (wQ t) 4 q2.ok c3.ok c1.ok Y;have m5:=n6 (bT z u t) (xQ t) 12 c6.ok (c2.mono Y).ok Y;have m6:=QT 2 (eZ t (aZ z u t):Rat) (eZ t (aZ z u t):Rat) (eZ t (aZ z u t):Rat) (wQ t) 4 q2.ok c3.ok c3.ok c3.ok c1.ok Y;have m7:=nc (ofQ (2*(eZ t (aZ z u t):Rat)*(eZ t (aZ z u t):Rat)*(eZ t (aZ z u t):Rat)*wQ t)) (ofQ 3) (hx:=Vq.ofQ (h:=@HQ.mul _ _ 16 4 (@HQ.mul _ _ 12 4 (@HQ.mul _ _ 8 4 (@HQ.mul _ _ 4 4 q2 c3) c3) c3) c1)) (hy:=Vq.ofQ (h:=q3)) Y Y Y;have m8:=A6 (bT z u t) (xQ t) (xQ t) 12 c6.ok (c2.mono Y).ok (c2.mono Y).ok Y;have d1:=eJ (ofQ (am (bE z u) (st.take i))) (ofQ (bE z u t)) (hx:=Vq.ofQ (h:=s1 i)) (hy:=Vq.ofQ (h:=@HQ.mul _ _ 4 _ c1 c4)) J J;have d2:=eJ (ofQ (am (nq z u) (st.take i))) (ofQ (nq z u t)) (hx:=Vq.ofQ (h:=s2 i)) (hy:=Vq.ofQ (h:=@HQ.mul _ _ _ 4 (@HQ.mul _ _ 4 _ c1 c4) c2)) J J;have d3:=eJ (ofQ (am (kn z u) (st.take i))) (ofQ (kn z u t)) (hx:=Vq.ofQ (h:=s3 i)) (hy:=Vq.ofQ (h:=@HQ.mul _ _ 4 _ c1 c5)) J J;have d4:=eJ (ofQ (am (bT z u) (st.take i))) (ofQ (bT z u t)) (hx:=Vq.ofQ (h:=s4 i)) (hy:=Vq.ofQ (h:=c6)) J J;have d5:=eJ (ofQ (am (fY z u) (st.take i))) (ofQ (fY z u t)) (hx:=Vq.ofQ (h:=s5 i)) (hy:=Vq.ofQ (h:=@HQ.mul _ _ 12 4 c6 c2)) J J;have d6:=eJ (ofQ (am (ek z u) (st.take i))) (ofQ (ek z u t)) (hx:=Vq.ofQ (h:=s6 i)) (hy:=Vq.ofQ (h:=@HQ.div _ _ 20 4 (@HQ.mul _ _ 16 4 (@HQ.mul _ _ 12 4 (@HQ.mul _ _ 8 4 (@HQ.mul _ _ 4 4 q2 c3) c3) c3) c1) q3)) J J;have d7:=eJ (ofQ (am (mH z u) (st.take i))) (ofQ (mH z u t)) (hx:=Vq.ofQ (h:=s7 i)) (hy:=Vq.ofQ (h:=@HQ.mul _ _ 16 4 (@HQ.mul _ _ 12 4 c6 c2) c2)) J J;rw[<-dM (bE z u) hx]at d1;rw[<-dM (nq z u) hx]at d2;rw[<-dM (kn z u) hx]at d3;rw[<-dM (bT z u) hx]at d4;rw[<-dM (fY z u) hx]at d5;rw[<-dM (ek z u) hx]at d6;rw[<-dM (mH z u) hx]at d7;rw[show wQ t*nw t (aZ z u t)=bE z u t from O]at m1;rw[show wQ t*nw t (aZ z u t)*xQ t=nq z u t from O]at m2;rw[show wQ t*Ed t (aZ z u t)=kn z u t from O]at m3;rw[show 2*(eZ t (aZ z u t):Rat)*wQ t=bT z u t from O]at m4;rw[show bT z u t*xQ t=fY z u t from O]at m5;rw[show 2*(eZ t (aZ z u t):Rat)*(eZ t (aZ z u t):Rat)*(eZ t (aZ z u t):Rat)*wQ t/3=ek z u t from O]at m7;rw[show bT z u t*xQ t*xQ t=mH z u t from O]at m8;clear s1 s2 s3 s4 s5 s6 s7 hsz c1 c2 c3 c4 c5 c6;have hw:=dN i;generalize hN0:ofQ (am (bE z u) (st.take (i+1)))=N0 at *
  generalize ofQ (am (bE z u) (st.take i))=O0zz,ofQ (bE z u t)=F0 at *
  generalize hN1:ofQ (am (nq z u) (st.take (i+1)))=N1 at *
  generalize ofQ (am (nq z u) (st.take i))=O1,ofQ (nq z u t)=F1 at *
  generalize hN2:ofQ (am (kn z u) (st.take (i+1)))=N2 at *
  generalize ofQ (am (kn z u) (st.take i))=O2,ofQ (kn z u t)=F2 at *
  generalize hN3:ofQ (am (bT z u) (st.take (i+1)))=N3 at *
  generalize ofQ (am (bT z u) (st.take i))=O3,ofQ (bT z u t)=F3 at *
  generalize hN4:ofQ (am (fY z u) (st.take (i+1)))=N4 at *
  generalize ofQ (am (fY z u) (st.take i))=O4,ofQ (fY z u t)=F4 at *
  generalize hN5:ofQ (am (ek z u) (st.take (i+1)))=N5 at *
  generalize ofQ (am (ek z u) (st.take i))=O5,ofQ (ek z u t)=F5 at *
  generalize hN6:ofQ (am (mH z u) (st.take (i+1)))=N6 at *
  generalize ofQ (am (mH z u) (st.take i))=O6,ofQ (mH z u t)=F6,ofQ (2*(eZ t (aZ z u t):Rat)*(eZ t (aZ z u t):Rat)*(eZ t (aZ z u t):Rat)*wQ t)=C0,ofQ (nw t (aZ z u t))=A0,ofQ (Ed t (aZ z u t))=M0,ofQ (eZ t (aZ z u t):Rat)=H0zz at *
  generalize eZ t (aZ z u t)=hh,ofQ (aZ z u t)=Y0zz,ofQ (wQ t)=W0,ofQ (xQ t)=X0,ofQ 2=T2,ofQ 3=T3 at *
  refine aN hx ?_;refine cV 6 ?_;refine ip [(10,12),(11,13),(12,14),(13,12),(14,13),(15,14)] aH aH ?_;refine G e1 ?_;refine G e2 ?_;refine G e3 ?_;refine H ?_;refine I0 O O O O O ?_;refine I0 O O O O O ?_;refine I0 O O O O O ?_;refine IP 2 O O O O O O (fun _=>rfl) ah O O O O ?_;refine IP 2 O O O O O O (fun _=>rfl) ah O O O O ?_;refine IP 2 O O O O O O (fun _=>rfl) ah O O O O ?_;refine G e4 ?_;refine H ?_;refine bM [] [9] 8 [8,9] aH aH ?_;refine H ?_;refine ci O O (dQ O O O O O O O O O O ah O) ?_;refine G m1 ?_;refine G d1 ?_;refine H ?_;refine bM [] [9] 9 [9,10] aH aH ?_;refine H ?_;refine ci O O (dQ O O O O O O O O O O ah O) ?_;refine G m2 ?_;refine G d2 ?_;refine H ?_;refine bM [] [9] 8 [8,9] aH aH ?_;refine H ?_;refine ci O O (dQ O O O O O O O O O O ah O) ?_;refine G m3 ?_;refine G d3 ?_;refine cV 11 ?_;refine aQ [(2,I (d:Nat)),(3,.ptr 3 1 0 0),(4,.ptr 4 1 0 0),(6,.ptr 6 1 0 0),(9,.ptr 9 1 0 0),(28,.sl (st.map eT)),(29,I st.length),(30,I (i:Nat)),(11,.ptr 11 ((s1'.own 11).1+1) 0 0),(12,.ptr 12 ((s1'.own 12).1+1) 0 0),(13,.ptr 13 ((s1'.own 13).1+1) 0 0),(14,.ptr 14 ((s1'.own 14).1+1) 0 0)] [(3,1,⟨27,9,[fx ⟨nm,len,st,light,it⟩],2⟩),(4,1,⟨43,8,[eA ⟨az,au⟩],2⟩),(6,1,⟨108,36,[zN++zN++zN++zN++zN++zN++zN++zN++zN],2⟩),(9,1,⟨108,36,[K9 N0 N1 N2 O3 O4 O5 O6],2⟩),(11,((s1'.own 11).1+1),⟨115,4,[eT t],2⟩),(12,((s1'.own 12).1+1),⟨41,4,[eR Y0zz],2⟩),(13,((s1'.own 13).1+1),⟨41,4,[eR W0],2⟩),(14,((s1'.own 14).1+1),⟨41,4,[eR X0],2⟩)] ah ?_;generalize (s1'.own 11).1+1=g11;generalize (s1'.own 12).1+1=g12;generalize (s1'.own 13).1+1=g13;generalize (s1'.own 14).1+1=g14;intro s2';refine ax e5 ?_;refine G e6 ?_;refine cV 12 ?_;refine ao (e_ 17) ?_;refine a_ [(5,17),(6,17)] aH aH ?_;refine G w2 ?_;refine H ?_;refine ci O O (dQ O O O O O O O O O O ah O) ?_;refine G m4 ?_;refine G d4 ?_;refine cV 14 ?_;refine aQ [(2,I (d:Nat)),(3,.ptr 3 1 0 0),(4,.ptr 4 1 0 0),(6,.ptr 6 1 0 0),(9,.ptr 9 1 0 0),(28,.sl (st.map eT)),(29,I st.length),(30,I (i:Nat)),(11,.ptr 11 g11 0 0),(12,.ptr 12 g12 0 0),(13,.ptr 13 g13 0 0),(14,.ptr 14 g14 0 0),(16,.ptr 16 ((s2'.own 16).1+1) 0 0),(17,.ptr 17 ((s2'.own 17).1+3) 0 0)] [(3,1,⟨27,9,[fx ⟨nm,len,st,light,it⟩],2⟩),(4,1,⟨43,8,[eA ⟨az,au⟩],2⟩),(6,1,⟨108,36,[zN++zN++zN++zN++zN++zN++zN++zN++zN],2⟩),(9,1,⟨108,36,[K9 N0 N1 N2 N3 O4 O5 O6],2⟩),(11,g11,⟨115,4,[eT t],2⟩),(12,g12,⟨41,4,[eR Y0zz],2⟩),(13,g13,⟨41,4,[eR W0],2⟩),(14,g14,⟨41,4,[eR X0],2⟩),(16,((s2'.own 16).1+1),⟨41,4,[eR H0zz],2⟩),(17,((s2'.own 17).1+3),⟨41,4,[eR F3],2⟩)] ah ?_;generalize (s2'.own 16).1+1=g16;generalize (s2'.own 17).1+3=g17;intro s3';refine bM [] [9] 7 [7,8] aH aH ?_;refine H ?_;refine ci O O (dQ O O O O O O O O O O ah O) ?_;refine G m5 ?_;refine G d5 ?_;refine H ?_;refine bM [] [9] 12 [12,13] aH aH ?_;refine G w2 ?_;refine H ?_;refine ci O O (dQ O O O O O O O O O O ah O) ?_;refine G m6 ?_;refine G w3 ?_;refine G m7 ?_;refine G d6 ?_;refine cV 16 ?_;refine aQ [(2,I (d:Nat)),(3,.ptr 3 1 0 0),(4,.ptr 4 1 0 0),(6,.ptr 6 1 0 0),(9,.ptr 9 1 0 0),(28,.sl (st.map eT)),(29,I st.length),(30,I (i:Nat)),(11,.ptr 11 g11 0 0),(12,.ptr 12 g12 0 0),(13,.ptr 13 g13 0 0),(14,.ptr 14 g14 0 0),(16,.ptr 16 g16 0 0),(17,.ptr 17 g17 0 0)] [(3,1,⟨27,9,[fx ⟨nm,len,st,light,it⟩],2⟩),(4,1,⟨43,8,[eA ⟨az,au⟩],2⟩),(6,1,⟨108,36,[zN++zN++zN++zN++zN++zN++zN++zN++zN],2⟩),(9,1,⟨108,36,[K9 N0 N1 N2 N3 N4 N5 O6],2⟩),(11,g11,⟨115,4,[eT t],2⟩),(12,g12,⟨41,4,[eR Y0zz],2⟩),(13,g13,⟨41,4,[eR W0],2⟩),(14,g14,⟨41,4,[eR X0],2⟩),(16,g16,⟨41,4,[eR H0zz],2⟩),(17,g17,⟨41,4,[eR F3],2⟩)] ah ?_;intro s4';refine bM [] [9] 8 [8,9] aH aH ?_;refine H ?_;refine ci O O (dQ O O O O O O O O O O ah O) ?_;refine G m8 ?_;refine G d7 ?_;refine H ?_;exact⟨i+1,hlt,J,O,O,O,O,O,O,O,congrArg I hw,O,O,O,by rw[hN0,hN1,hN2,hN3,hN4,hN5,hN6];rfl,bh⟩
 have hie:i=st.length:=co h;clear h;subst hie;rw[bI];have k1:=s1 st.length;have k2:=s2 st.length;have k3:=s3 st.length;have k4:=s4 st.length;have k5:=s5 st.length;have k6:=s6 st.length;have k7:=s7 st.length;rw[bI]at k1 k2 k3 k4 k5 k6 k7;clear s1 s2 s3 s4 s5 s6 s7 hsz hyq;have g0:=FJ (ofQ (am (bE z u) st)) (hx:=Vq.ofQ (h:=k1)) J;rw[decide_eq_false hv0]at g0;have g1:=HM (am (bE z u) st) (N+16) k1.ok J d hd1 hd2;have g2:=nc (ofQ (am (nq z u) st)) (ofQ (am (bE z u) st)) (hx:=Vq.ofQ (h:=k2)) (hy:=Vq.ofQ (h:=k1)) J J hv0;have g3:=nc (ofQ (am (kn z u) st)) (ofQ (am (bE z u) st)) (hx:=Vq.ofQ (h:=k3)) (hy:=Vq.ofQ (h:=k1)) J J hv0;have g4:=FJ (ofQ (am (bT z u) st)) (hx:=Vq.ofQ (h:=k4)) Y;have g5:=nc (ofQ (am (ek z u) st)) (ofQ (am (bE z u) st)) (hx:=Vq.ofQ (h:=k6)) (hy:=Vq.ofQ (h:=k1)) J J hv0;have g6:=eJ (ofQ (am (kn z u) st/am (bE z u) st)) (ofQ (am (ek z u) st/am (bE z u) st)) (hx:=Vq.ofQ (h:=@HQ.div _ _ _ _ k3 k1)) (hy:=Vq.ofQ (h:=@HQ.div _ _ _ _ k6 k1)) J J;have hcases:(am (bT z u) st=0/\Fz (pK st d z u)=eR (ofQ (am (bE z u) st))++eR (ofQ (am (bE z u) st*((d:Rat)/1000000000)))++eR (ofQ (am (nq z u) st/am (bE z u) st))++eR (ofQ (am (kn z u) st/am (bE z u) st))++eR (ofQ (am (bT z u) st))++eR (ofQ 0)++eR (ofQ (am (ek z u) st))++eR (ofQ 0)++eR (ofQ (am (kn z u) st/am (bE z u) st+am (ek z u) st/am (bE z u) st))) \/
  (am (bT z u) st≠0/\∃f l:Rat,f=am (fY z u) st/am (bT z u) st/\l=am (mH z u) st-am (bT z u) st*f*f/\Fz (pK st d z u)=eR (ofQ (am (bE z u) st))++eR (ofQ (am (bE z u) st*((d:Rat)/1000000000)))++eR (ofQ (am (nq z u) st/am (bE z u) st))++eR (ofQ (am (kn z u) st/am (bE z u) st))++eR (ofQ (am (bT z u) st))++eR (ofQ f)++eR (ofQ (am (ek z u) st))++eR (ofQ l)++eR (ofQ (am (kn z u) st/am (bE z u) st+am (ek z u) st/am (bE z u) st))):=yd st d z u
 generalize Fz (pK st d z u)=RES at *
 rcases hcases with⟨hA,hres⟩|⟨hA,f,l,hf,hl,hres⟩
 .subst hres;rw[decide_eq_true hA]at g4;clear k1 k2 k3 k4 k5 k6 k7 hA hv0;generalize ofQ (am (kn z u) st/am (bE z u) st+am (ek z u) st/am (bE z u) st)=G0,ofQ (am (bE z u) st*((d:Rat)/1000000000))=G1,ofQ (am (nq z u) st/am (bE z u) st)=G2,ofQ (am (kn z u) st/am (bE z u) st)=G3,ofQ (am (ek z u) st/am (bE z u) st)=G4,ofQ (am (bE z u) st)=G5,ofQ (am (nq z u) st)=G6,ofQ (am (kn z u) st)=G7,ofQ (am (bT z u) st)=G8,ofQ (am (fY z u) st)=G9,ofQ (am (ek z u) st)=G10,ofQ (am (mH z u) st)=G11,ofQ 0=G12 at *
  refine ax g0 ?_;refine G g1 ?_;refine H ?_;refine bM [] [9] 11 [11,12,13] aH aH ?_;refine G g2 ?_;refine G g3 ?_;refine cV 22 ?_;refine aQ [(6,.ptr 6 1 0 0),(9,.ptr 9 1 0 0)] [(6,1,⟨108,36,[zN++zN++zN++zN++zN++zN++zN++zN++zN],2⟩),(9,1,⟨108,36,[eR G5++eR G1++eR G2++eR G3++eR G8++eR G9++eR G10++eR G11++zN],2⟩)] ah ?_;intro s5;refine ax g4 ?_;refine G w0 ?_;refine G w0 ?_;refine cV 26 ?_;refine aQ [(6,.ptr 6 1 0 0),(9,.ptr 9 1 0 0)] [(6,1,⟨108,36,[zN++zN++zN++zN++zN++zN++zN++zN++zN],2⟩),(9,1,⟨108,36,[eR G5++eR G1++eR G2++eR G3++eR G8++eR G12++eR G10++eR G12++zN],2⟩)] ah ?_;intro s6;refine bM [] [9] 8 [8,9] aH aH ?_;refine G g5 ?_;refine G g6 ?_;exact cA
 .subst hres;rw[decide_eq_false hA]at g4;have g7:=nc (ofQ (am (fY z u) st)) (ofQ (am (bT z u) st)) (hx:=Vq.ofQ (h:=k5)) (hy:=Vq.ofQ (h:=k4)) Y Y hA;rw[<-hf]at g7;have hfq:HQ f 220:=by rw[hf];exact(@HQ.div _ _ _ _ k5 k4).mono Y
  have g8:=A6 (am (bT z u) st) f f 220 (k4.mono Y).ok hfq.ok hfq.ok Y;have g9:=nk (ofQ (am (mH z u) st)) (ofQ (am (bT z u) st*f*f)) (hx:=Vq.ofQ (h:=k7)) (hy:=Vq.ofQ (h:=@HQ.mul _ _ _ _ (@HQ.mul _ _ _ _ k4 hfq) hfq)) Y Y;rw[<-hl]at g9;clear k1 k2 k3 k4 k5 k6 k7 hA hv0 hfq;generalize ofQ (am (kn z u) st/am (bE z u) st+am (ek z u) st/am (bE z u) st)=G0,ofQ (am (bE z u) st*((d:Rat)/1000000000))=G1,ofQ (am (nq z u) st/am (bE z u) st)=G2,ofQ (am (kn z u) st/am (bE z u) st)=G3,ofQ (am (ek z u) st/am (bE z u) st)=G4,ofQ (am (bT z u) st*f*f)=G5,ofQ f=G6,ofQ l=G7,ofQ (am (bE z u) st)=G8,ofQ (am (nq z u) st)=G9,ofQ (am (kn z u) st)=G10,ofQ (am (bT z u) st)=G11,ofQ (am (fY z u) st)=G12,ofQ (am (ek z u) st)=G13,ofQ (am (mH z u) st)=G14,ofQ 0=G15 at *
  refine ax g0 ?_;refine G g1 ?_;refine H ?_;refine bM [] [9] 11 [11,12,13] aH aH ?_;refine G g2 ?_;refine G g3 ?_;refine cV 22 ?_;refine aQ [(6,.ptr 6 1 0 0),(9,.ptr 9 1 0 0)] [(6,1,⟨108,36,[zN++zN++zN++zN++zN++zN++zN++zN++zN],2⟩),(9,1,⟨108,36,[eR G8++eR G1++eR G2++eR G3++eR G11++eR G12++eR G13++eR G14++zN],2⟩)] ah ?_;intro s5;refine ax g4 ?_;refine G g7 ?_;refine H ?_;refine bM [] [9] 11 [11,12] aH aH ?_;refine H ?_;refine ci O O (dQ O O O O O O O O O O ah O) ?_;refine G g8 ?_;refine G g9 ?_;refine cV 26 ?_;refine aQ [(6,.ptr 6 1 0 0),(9,.ptr 9 1 0 0)] [(6,1,⟨108,36,[zN++zN++zN++zN++zN++zN++zN++zN++zN],2⟩),(9,1,⟨108,36,[eR G8++eR G1++eR G2++eR G3++eR G11++eR G6++eR G13++eR G7++zN],2⟩)] ah ?_;intro s6;refine bM [] [9] 8 [8,9] aH aH ?_;refine G g5 ?_;refine G g6 ?_;exact cA
def ky (s:SHP):List LR:=s.light::s.it
def qZ (s:SHP):Rat:=(sZ (ky s):Rat)/(sM (ky s):Rat)
def mQ (s:SHP):Rat:=(sM (ky s):Rat)
def ie (s:SHP)(p:Rat):Rat:=mQ s-p
def IW (s:SHP):Rat:=((1000*sF (ky s):Int):Rat)
def Dv (s:SHP)(p me:Rat):Rat:=ie s p*me-mQ s*qZ s-IW s
def LM (s:SHP)(p me:Rat):STQ:=⟨ofQ me,ofQ (qZ s),ofQ (Dv s p me/mQ s),ofQ (Dv s p me/ie s p)⟩
theorem F9 {st:List ST}(hs:∀t∈st,StOk t)(h8:∀t∈st,t.L.length<=8)(h6:st.length<=6)(d:Nat){z u:Rat}{n m:Nat}(hz:hq z n)(hu:hq u m):HQ (pK st d z u).mtc (6*(n+m)+600):=by
 obtain⟨k1,k2,k3⟩:=uN hs h8 h6 hz hu st.length;have b6:∀t∈st,hq (ek z u t) 24:=fun t ht=>by
  have ok:=hs t ht;have hw:=ok.w;have ha:=vJ ok (aZ z u t);have zw:Zb t.w:=aI J J;have za:Zb (eZ t (aZ z u t)):=aI J J;exact DN HQ.int HQ.int
 have k6:=jc b6 h6 st.length;rw[bI]at k1 k3 k6;have e:(pK st d z u).mtc=am (kn z u) st/am (bE z u) st+am (ek z u) st/am (bE z u) st:=O;rw[e];exact(@HQ.add _ _ _ _ (@HQ.div _ _ _ _ k3 k1) (@HQ.div _ _ _ _ k6 k1)).mono J
structure StbOk (s:SHP) (p me:Rat) (k:Nat):Prop where
 ld:∀w∈ky s,OkW w
 m:1<=sM (ky s)
 n:(ky s).length<=61
 hp:hq p k
 hme:hq me 400000
 hk:k<=1000000
 p0:0<=p
 l0:0<ie s p
set_option maxHeartbeats 4000000 in
theorem LK (s:SHP)(d:Nat)(a:AR)(H0:HYQ)(p:Rat){k:Nat}(ok:StbOk s p H0.mtc k)(h1:aU 100 [.agg (fx s),I (d:Nat)] (I 0))(h3:aU 101 [.agg (fx s),.agg (eA a),I (d:Nat)] (.tup [.agg (Fz H0),.bool true])):aU 128 [.agg (fx s),.agg (eA a),.agg ([I (d:Nat)]++eR (ofQ p))] (.tup [.agg (FC (LM s p H0.mtc)),I 0]):=by
 have h4:=wY s (ky s) O ok.ld ok.m ok.n;have w0:=dh 0 ⟨Y,Y⟩;rw[show((0:Int):Rat)=0 from O]at w0;obtain⟨⟨t1,t2⟩,⟨t3,t4⟩,⟨t5,t6⟩,t7,t8⟩:=kj ok.ld;have hn:=ok.n;have hm:=ok.m;have hk:=ok.hk;have zM:Zb (sM (ky s)):=aI J J;have zZ:Zb (sZ (ky s)):=aI J J;have zF:Zb (1000*sF (ky s)):=aI J J;have qM:HQ (mQ s) 4:=HQ.int;have qG:HQ (qZ s) 8:=@HQ.div _ _ 4 4 (HQ.int (z:=sZ (ky s))) (HQ.int (z:=sM (ky s)));have qF:HQ (IW s) 4:=HQ.int;have qL:HQ (ie s p) (4+k+1):=@HQ.sub _ _ 4 k qM ⟨ok.hp⟩;have qme:HQ H0.mtc 400000:=⟨ok.hme⟩;have v1:=@HQ.mul _ _ _ _ qL qme;have v2:=@HQ.mul _ _ _ _ qM qG;have v3:=@HQ.sub _ _ _ _ v1 v2;have v4:HQ (Dv s p H0.mtc) _:=@HQ.sub _ _ _ _ v3 qF;have r1:=gp (1000*sF (ky s));have wM:=dh (sM (ky s)) ⟨J,J⟩;rw[show((sM (ky s):Int):Rat)=mQ s from O]at wM;have wF:=dh (1000*sF (ky s)) ⟨J,J⟩;rw[show((1000*sF (ky s):Int):Rat)=IW s from O]at wF;have c1:=nk (ofQ (mQ s)) (ofQ p) (hx:=Vq.ofQ (h:=qM)) (hy:=Vq.ofQ (h:=⟨ok.hp⟩)) Y J;rw[show mQ s-p=ie s p from O]at c1;have c2:=nf (ofQ p) (ofQ 0) (hx:=Vq.ofQ (h:=⟨ok.hp⟩)) (hy:=Vq.ofQ (h:=HQ.zero)) J Y;have c3:=nf (ofQ (ie s p)) (ofQ 0) (hx:=Vq.ofQ (h:=qL)) (hy:=Vq.ofQ (h:=HQ.zero)) J Y;have hp0:¬sgn (p-0)<0:=fun e=>by have:=(eW _).1 e;have:=ok.p0;grind
 have hl0:¬sgn (ie s p-0)<=0:=fun e=>by have:=(nT _).1 e;have:=ok.l0;grind
 have m1:=n6 (ie s p) H0.mtc (k+400005) (qL.mono J).ok (qme.mono J).ok J;have m2:=n6 (mQ s) (qZ s) 8 (qM.mono Y).ok qG.ok Y;have c4:=nk (ofQ (ie s p*H0.mtc)) (ofQ (mQ s*qZ s)) (hx:=Vq.ofQ (h:=v1)) (hy:=Vq.ofQ (h:=v2)) J Y;have c5:=nk (ofQ (ie s p*H0.mtc-mQ s*qZ s)) (ofQ (IW s)) (hx:=Vq.ofQ (h:=v3)) (hy:=Vq.ofQ (h:=qF)) J Y;rw[show ie s p*H0.mtc-mQ s*qZ s-IW s=Dv s p H0.mtc from O]at c5;have hMne:mQ s≠0:=by
  have:sM (ky s)≠0:=J;rw[mQ]
  exact_mod_cast this
 have hLne:ie s p≠0:=fun e=>by have:=ok.l0;rw[e]at this;exact absurd this Y
 have c6:=nc (ofQ (Dv s p H0.mtc)) (ofQ (mQ s)) (hx:=Vq.ofQ (h:=v4)) (hy:=Vq.ofQ (h:=qM)) J Y hMne;have c7:=nc (ofQ (Dv s p H0.mtc)) (ofQ (ie s p)) (hx:=Vq.ofQ (h:=v4)) (hy:=Vq.ofQ (h:=qL)) J J hLne;rw[xL,show(sZ (ky s):Rat)/(sM (ky s):Rat)=qZ s from O]at h4;rw[LM];clear v1 v2 v3 v4 qM qG qF qL qme hMne hLne zM zZ zF ok;obtain⟨H1,H2,H3,H4,H5,H6,H7,H8,me⟩:=H0;rw[Fz]at h3;simp only at *
 generalize ofQ (Dv s p me/mQ s)=G1,ofQ (Dv s p me/ie s p)=G2,ofQ (Dv s p me)=G3,ofQ (ie s p*me-mQ s*qZ s)=G4,ofQ (ie s p*me)=G5,ofQ (mQ s*qZ s)=G6,sgn (p-0)=g1,sgn (ie s p-0)=g2,ofQ (ie s p)=G7,ofQ (mQ s)=G8,ofQ (qZ s)=G9,ofQ (IW s)=G10,ofQ p=G11,ofQ me=G12,ofQ ((sX (ky s):Rat)/(sM (ky s):Rat))=G13,ofQ 0=Z at *
 generalize sM (ky s)=im,sF (ky s)=jf,ofQ H1=J1,ofQ H2=J2,ofQ H3=J3,ofQ H4=J4,ofQ H5=J5,ofQ H6=J6,ofQ H7=J7,ofQ H8=J8 at *
 obtain⟨az,au⟩:=a;refine aD Proofs.Tryz.func128 ?_;refine ax h1 ?_;refine G h3 ?_;refine G h4 ?_;refine H ?_;refine a_ [(6,12),(7,12)] aH aH ?_;refine G wM ?_;refine G c1 ?_;refine cX 11 [41,42,43,44,45,46,47,48,49,50,51] ?_;refine G w0 ?_;refine ax c2 ?_;refine H ?_;rw[decide_eq_false hp0];refine G w0 ?_;refine ax c3 ?_;refine H ?_;rw[decide_eq_false hl0];refine H ?_;refine a_ [(18,13),(19,13)] aH aH ?_;refine H ?_;refine ci O O (dQ O O O O O O O O O O ah O) ?_;refine G m1 ?_;refine G wM ?_;refine H ?_;refine ci O O (dQ O O O O O O O O O O ah O) ?_;refine G m2 ?_;refine G c4 ?_;refine H ?_;rw[r1];refine oJ O O O wF O O ?_;refine G c5 ?_;refine H ?_;refine cV 12 ?_;refine aQ [(6,.ptr 6 1 0 0),(9,.ptr 9 1 0 0),(11,.ptr 11 1 0 0),(12,.ptr 12 1 0 0),(13,.ptr 13 1 0 0)] [(6,1,⟨63,16,[xj],2⟩),(9,1,⟨108,36,[[.bool J1.n.neg,.sl (J1.n.l.map eU),.bool J1.d.neg,.sl (J1.d.l.map eU),.bool J2.n.neg,.sl (J2.n.l.map eU),.bool J2.d.neg,.sl (J2.d.l.map eU),.bool J3.n.neg,.sl (J3.n.l.map eU),.bool J3.d.neg,.sl (J3.d.l.map eU),.bool J4.n.neg,.sl (J4.n.l.map eU),.bool J4.d.neg,.sl (J4.d.l.map eU),.bool J5.n.neg,.sl (J5.n.l.map eU),.bool J5.d.neg,.sl (J5.d.l.map eU),.bool J6.n.neg,.sl (J6.n.l.map eU),.bool J6.d.neg,.sl (J6.d.l.map eU),.bool J7.n.neg,.sl (J7.n.l.map eU),.bool J7.d.neg,.sl (J7.d.l.map eU),.bool J8.n.neg,.sl (J8.n.l.map eU),.bool J8.d.neg,.sl (J8.d.l.map eU),.bool G12.n.neg,.sl (G12.n.l.map eU),.bool G12.d.neg,.sl (G12.d.l.map eU)]],2⟩),(11,1,⟨69,10,[[I im,.bool G13.n.neg,.sl (G13.n.l.map eU),.bool G13.d.neg,.sl (G13.d.l.map eU),.bool G9.n.neg,.sl (G9.n.l.map eU),.bool G9.d.neg,.sl (G9.d.l.map eU),I jf]],2⟩),(12,1,⟨41,4,[[.bool G7.n.neg,.sl (G7.n.l.map eU),.bool G7.d.neg,.sl (G7.d.l.map eU)]],2⟩),(13,1,⟨41,4,[[.bool G3.n.neg,.sl (G3.n.l.map eU),.bool G3.d.neg,.sl (G3.d.l.map eU)]],2⟩)] ah ?_;intro s12;refine mN 13 [71,72,73,74,75,76,77,78,79,80,81,82,83] aH ?_;refine G wM ?_;refine G c6 ?_;refine G c7 ?_;exact cA
def tQ (d:DKR)(p z t:Rat):STQ:=if aX ((vQ d p z t).drop d.bl.length)=0 then Oy else LM d.s (aX ((vQ d p z t).take d.bl.length)) (pK d.s.st (fJ d) (z+p) t).mtc
theorem Ph {d:DKR}{p z t:Rat}(h:Slim d p)(hs:Stood d p z t):hq (aX ((vQ d p z t).take d.bl.length)) 600000/\hq (aX ((vQ d p z t).drop d.bl.length)) 600000:=by
 have hl:=xg d p z t;have h5:=h.bl;have h6:=h.st;have h1:=nZ (N:=50000) (l:=(vQ d p z t).take d.bl.length) fun q hq=>yX h hs q (dD hq);have h2:=nZ (N:=50000) (l:=(vQ d p z t).drop d.bl.length) fun q hq=>yX h hs q (lF hq);rw[bc]at h1;rw[gW]at h2;exact⟨cx h1 J,cx h2 J⟩
theorem Jj {d:DKR}{p z t:Rat}(h:Slim d p)(hs:Stood d p z t):0<=aX ((vQ d p z t).take d.bl.length)/\0<=aX ((vQ d p z t).drop d.bl.length) :=
 ⟨GH fun q hq=>Pj h hs q (dD hq),GH fun q hq=>Pj h hs q (lF hq)⟩
theorem pW {d:DKR}{p z t:Rat}(hs:Stood d p z t):aX ((vQ d p z t).take d.bl.length)+aX ((vQ d p z t).drop d.bl.length)=(sM (d.s.light::d.s.it):Rat):=by
 rw[E5,Mv hs.bal];rfl
theorem NX {d:DKR}{p z t:Rat}(hl:d.Len)(h:Slim d p)(hs:Stood d p z t)(hb:aX ((vQ d p z t).drop d.bl.length)≠0):aU 128 [.agg (fx d.s),.agg (eR (ofQ (z+p))++eR (ofQ t)),.agg ([I d.d]++eR (ofQ (aX ((vQ d p z t).take d.bl.length))))] (.tup [.agg (FC (tQ d p z t)),I 0]):=by
 obtain⟨hk,hd,hf⟩:=h.bd;have ok:=lk (iT hf);have hdn:=l_ hd;have hv0:am (bE (z+p) t) d.s.st≠0:=fun e=>hb (by
  rw[Jk hk.st];show am (bE (z+p) t) d.s.st*_=0
  rw[e];grind)
 have hz:=hs.hz;have ht:=hs.ht;have hp:HQ p 4:=⟨h.p⟩;have hzp:HQ (z+p) 24005:=@HQ.add _ _ 24000 4 hz hp;have va:Va ⟨ofQ (z+p),ofQ t⟩ (z+p) t 24005 20000:=⟨Vq.ofQ (h:=hzp),Vq.ofQ (h:=ht)⟩;have h3:=Hv d.s hk.st h.st h.L ⟨ofQ (z+p),ofQ t⟩ (ha:=va) Y (fJ d) J J hv0;have h1:=te d.s hl.s d.d;rw[hf,<-hdn]at h1;have me:=F9 hk.st h.L h.st (fJ d) hzp.ok ht.ok;have hms:=pW hs;have hnn:=Jj h hs;have sok:StbOk d.s (aX ((vQ d p z t).take d.bl.length)) (pK d.s.st (fJ d) (z+p) t).mtc 600000 :=
  ⟨ok.ld,ok.m,by have:=ok.n;show(d.s.light::d.s.it).length<=61;simp;omega,(Ph h hs).1,(me.mono Y).ok,Y,hnn.1,by
   rw[ie,mQ,ky]
   grind⟩
 have:=LK d.s (fJ d) ⟨ofQ (z+p),ofQ t⟩ _ _ sok h1 h3;rw[hdn]at this;rw[tQ,if_neg hb];exact this
def NW (d:DKR)(p z t:Rat):DQ:=PJ d p ⟨ofQ z,ofQ t⟩ (vQ d p z t) (tQ d p z t)
theorem yY {d:DKR}{p:Rat}(hl:d.Len)(h:Slim d p):aU 53 [.agg (fx d.s),.sl ((dC d p).map eS)] (.tup [.agg (eB (if dP (dB d p)=0 then dB d p else Bm)),I (dP (dB d p))]):=by
 obtain⟨hk,hd,hf⟩:=h.bd;have h12:(dC d p).length<=1000:=by rw[oe];have:=h.st;have:=h.bl;omega
 have hM:∀x∈dC d p,x.k.M.length<=1000:=fun x hx=>by
  rcases lQ hx with⟨b,-,rfl⟩|⟨t,ht,rfl⟩
  .show 1<=1000;decide
  .show(qo (fJ d) t).length<=1000;rw[EL];have:=(hk.st t ht).h;have:=h.L t ht;omega
 have:=Do d.s hl.s (iT hf) (dC d p) (dB_lim h) (by rw[KD];exact dB_lim h) h12 hM;rw[KD]at this;exact this
theorem NT {b:BR}(h:dP b≠0):fX b=⟨zA,[],zA,dP b⟩:=by rw[fX,if_neg h]
theorem P4 {d:DKR}{lv:RR}{p z t:Rat}{n:Nat}[hlv:Vq lv p n](hn:n<=1000000)(hl:d.Len)(h:Slim d p)(hs:Stood d p z t):aU 57 [.agg (fv d),.agg (eR lv)] (.tup [.agg (xq (NW d p z t)),I 0]):=by
 obtain⟨hk,hd,hf⟩:=h.bd;have hsup:=lN d hk hd hf hl.s lv (hv:=hlv) J;have h95:=yY hl h;rw[if_pos hs.e,hs.e]at h95;have h78:=mR (dB d p) (jB h).1 fun _=>(jB h).2;rw[hs.s,SQ.pv,OA]at h78;have hll:=xg d p z t;have h5:=h.bl;have h6:=h.st;have hz:=hs.hz;refine C9 d lv (hlv:=hlv) hn hsup (dB d p) h95 (ofQ z) (ofQ t) RR.zero RR.zero (vQ d p z t) (fun q hq=>cx (yX h hs q hq) Y) J J h78 (tQ d p z t) (hz:=Vq.ofQ (h:=hz)) Y (NX hl h hs) fun e=>by rw[tQ,if_pos e]
theorem PY {d:DKR}{lv:RR}{p:Rat}{n:Nat}[hlv:Vq lv p n](hn:n<=1000000)(hl:d.Len)(h:Slim d p)(he:(fX (dB d p)).e≠0):aU 57 [.agg (fv d),.agg (eR lv)] (.tup [.agg (xq dZ),I (fX (dB d p)).e]):=by
 obtain⟨hk,hd,hf⟩:=h.bd;have hsup:=lN d hk hd hf hl.s lv (hv:=hlv) J;have h95:=yY hl h;by_cases hb:dP (dB d p)=0
 .rw[if_pos hb,hb]at h95;exact EV d lv hsup (dB d p) h95 (fX (dB d p)) he (mR (dB d p) (jB h).1 fun _=>(jB h).2)
 .rw[NT hb];exact EW d lv hsup _ _ hb h95
def abA (a b:Int):Int:=if a<b then b else a
def abU (a b:Int):Int:=if b<a then b else a
def aaY (fr tozz:Int)(s:Int × Int × Bool)(b:BKR):Int × Int × Bool :=
 if b.side=true then s else if s.2.2=true then(abU s.1 (b.x-b.hf-fr),abU s.2.1 (tozz-b.x-b.hf),true) else(abU (b.x-b.hf-fr) (b.x-b.hf-fr),abU (tozz-b.x-b.hf) (tozz-b.x-b.hf),true)
def aaH (s:Int × Int × Bool)(b:BKR):Int × Int × Bool :=
 if b.side=true then s else(if s.2.2=true/\¬b.x-b.hf<s.1 then s.1 else b.x-b.hf,if s.2.2=true/\¬s.2.1<b.x+b.hf then s.2.1 else b.x+b.hf,true)
def aaX (l:List BKR):Int × Int × Bool:=l.foldl aaH (0,0,false)
def aao (fr tozz:Int)(l:List BKR):Int × Int × Bool:=l.foldl (aaY fr tozz) (0,0,false)
theorem abs (fr tozz:Int)(l:List BKR)(b:BKR):aao fr tozz (l++[b])=aaY fr tozz (aao fr tozz l) b:=by rw[aao,kA];rfl
theorem abM (fr tozz:Int)(l:List BKR):(aao fr tozz l).2.2=(aaX l).2.2/\((aaX l).2.2=true->(aao fr tozz l).1=(aaX l).1-fr/\(aao fr tozz l).2.1=tozz-(aaX l).2.1)/\((aaX l).2.2=false->(aao fr tozz l).1=0/\(aao fr tozz l).2.1=0):=by
 have key:∀(l:List BKR) (s t:Int × Int × Bool),s.2.2=t.2.2->(t.2.2=true->s.1=t.1-fr/\s.2.1=tozz-t.2.1)->(t.2.2=false->s.1=0/\s.2.1=0)->(l.foldl (aaY fr tozz) s).2.2=(l.foldl aaH t).2.2/\((l.foldl aaH t).2.2=true->(l.foldl (aaY fr tozz) s).1=(l.foldl aaH t).1-fr/\(l.foldl (aaY fr tozz) s).2.1=tozz-(l.foldl aaH t).2.1)/\((l.foldl aaH t).2.2=false->(l.foldl (aaY fr tozz) s).1=0/\(l.foldl (aaY fr tozz) s).2.1=0):=by
  intro l
  induction l with
  |nil=>intro s t h1 h2 h3;exact⟨h1,h2,h3⟩
  |cons b l ih =>
   intro s t h1 h2 h3;rw[fB,fB];obtain⟨a,f,o⟩:=s;obtain⟨le,mo,so⟩:=t;simp only at h1 h2 h3;subst h1;cases hb:b.side with
   |true=>rw[aaY,if_pos hb,aaH,if_pos hb];exact ih _ _ rfl h2 h3
   |false =>
    cases o with
    |true =>
     obtain⟨e1,e2⟩:=h2 O;refine ih _ _ ?_ ?_ ?_
     .simp[aaY,aaH,hb]
     .intro _;simp only[aaY,aaH,hb,abU,eu,if_false,if_true,true_and];constructor
      .split<;>split<;>omega
      .split<;>split<;>omega
     .intro h;simp[aaH,hb]at h
    |false =>
     refine ih _ _ ?_ ?_ ?_
     .simp[aaY,aaH,hb]
     .intro _;simp only[aaY,aaH,hb,abU,eu,if_false,if_true,false_and];constructor
      .split<;>omega
      .split<;>omega
     .intro h;simp[aaH,hb]at h
 exact key l _ _ O (fun h=>by cases h) fun _=>⟨O,O⟩
theorem abI:∀(l:List BKR),(∀b∈l,-1000000<=b.x/\b.x<=1000000/\1<=b.hf/\b.hf<=10000) -> -1010000<=(aaX l).1/\(aaX l).1<=1010000 /\ -1010000<=(aaX l).2.1/\(aaX l).2.1<=1010000:=by
 have key:∀(l:List BKR) (s:Int × Int × Bool),(-1010000<=s.1/\s.1<=1010000 /\ -1010000<=s.2.1/\s.2.1<=1010000)->(∀b∈l,-1000000<=b.x/\b.x<=1000000/\1<=b.hf/\b.hf<=10000) -> -1010000<=(l.foldl aaH s).1/\(l.foldl aaH s).1<=1010000 /\ -1010000<=(l.foldl aaH s).2.1/\(l.foldl aaH s).2.1<=1010000:=by
  intro l
  induction l with
  |nil=>intro s h _;exact h
  |cons b l ih =>
   intro s h hl;obtain⟨b1,b2,b3,b4⟩:=hl b ez;rw[fB];refine ih _ ?_ fun c hc=>hl c (ff _ hc);rw[aaH];split
   .exact h
   .simp only;refine⟨?_,?_,?_,?_⟩<;>split<;>omega
 intro l hl;exact key l _ ⟨Y,Y,Y,Y⟩ hl
def aaa (d:DKR):Int:=(d.s.st.getD 0 ⟨0,0,[],[]⟩).x-((d.s.st.getD 0 ⟨0,0,[],[]⟩).w+1)/2
def aa7 (d:DKR):Int:=(d.s.st.getD (d.s.st.length-1) ⟨0,0,[],[]⟩).x+((d.s.st.getD (d.s.st.length-1) ⟨0,0,[],[]⟩).w+1)/2
def aap (d:DKR):Int × Int × Bool:=(abA 0 ((aaX d.bl).1-aaa d),abA 0 (aa7 d-(aaX d.bl).2.1),(aaX d.bl).2.2)
def abL (d:DKR):Int × Int × Bool:=(abA (aao (aaa d) (aa7 d) d.bl).1 0,abA (aao (aaa d) (aa7 d) d.bl).2.1 0,(aao (aaa d) (aa7 d) d.bl).2.2)
theorem abT (d:DKR):abL d=if (aap d).2.2=true then aap d else(0,0,false):=by
 obtain⟨h1,h2,h3⟩:=abM (aaa d) (aa7 d) d.bl;rw[show(aap d).2.2=(aaX d.bl).2.2 from O];cases h:(aaX d.bl).2.2 with
 |true =>
  obtain⟨e1,e2⟩:=h2 h;rw[if_pos O,abL,aap,h1,h,e1,e2,abA,abA,abA,abA];refine Prod.ext ?_ (Prod.ext ?_ O)
  .simp only;split<;>split<;>omega
  .simp only;split<;>split<;>omega
 |false =>
  obtain⟨e1,e2⟩:=h3 h;rw[if_neg Y,abL,h1,h,e1,e2];rfl
def aal (d:DKR):List (Int × Int):=(if (aap d).2.2=false\/d.oh<(aap d).1 then [(3,0)] else [])++(if (aap d).2.2=false\/d.oh<(aap d).2.1 then [(3,1)] else [])
def aa2 (x:Int × Int):List PV:=[I x.1,I x.2]
def aa5:List BKR->List Rat->Nat->List (Int × Int)
 |b::l,q::v,i=>(if (((if b.side=true then 2*b.lim else b.lim:Int):Rat)<q) then [(1,(i:Int))] else [])++aa5 l v (i+1)
 |_,_,_=>[]
theorem aau:∀ {bl:List BKR} {v:List Rat} {k i:Nat} {b:BKR} {q:Rat},bl[k]?=some b->v[k]?=some q->aa5 (bl.take (k+1)) (v.take (k+1)) i=aa5 (bl.take k) (v.take k) i++(if (((if b.side=true then 2*b.lim else b.lim:Int):Rat)<q) then [(1,((i+k:Nat):Int))] else [])
 |[],_,k,i,b,q,h,_=>by simp at h
 |c::bl,[],k,i,b,q,_,h=>by simp at h
 |c::bl,p::v,0,i,b,q,h1,h2=>by
  simp at h1 h2;subst h1 h2;simp[aa5]
 |c::bl,p::v,k+1,i,b,q,h1,h2=>by
  have ih:=aau (bl:=bl) (v:=v) (k:=k) (i:=i+1) (b:=b) (q:=q) (by simpa using h1) (by simpa using h2);rw[kZ,kZ,kZ,kZ,aa5,aa5,ih,show i+1+k=i+(k+1) by omega,bg]
theorem aaD {α:Type}{p:Prop}[Decidable p](x:α):(if p then [x] else []).length<=1:=by split<;>simp
theorem aai:∀(bl:List BKR) (v:List Rat) (i:Nat),(aa5 bl v i).length<=v.length
 |[],v,i=>by simp[aa5]
 |_::_,[],i=>by simp[aa5]
 |b::bl,q::v,i=>by
  have:=aai bl v (i+1);have h1:=aaD (p:=((if b.side=true then 2*b.lim else b.lim:Int):Rat)<q) ((1:Int),(i:Int));rw[aa5,bQ,dl];omega
theorem aaf (n:Int):aU 234 [I n] (I (n/2)):=by
 refine aD Proofs.Tryz.func234 ?_;exact cB
structure OvOk (d:DKR):Prop where
 st:∀t∈d.s.st,StOk t
 n:d.s.st.length<=1000
 p:1<=d.s.st.length
 b:∀b∈d.bl,-1000000<=b.x/\b.x<=1000000/\1<=b.hf/\b.hf<=10000
 m:d.bl.length<=1000
theorem aan {l:List ST}{i:Nat}{t:ST}(h:l[i]?=some t):l.getD i ⟨0,0,[],[]⟩=t:=by rw[cN,h];rfl
theorem abt {d:DKR}(h:OvOk d) : -1050001<=aaa d/\aaa d<=1050001 /\ -1050001<=aa7 d/\aa7 d<=1050001:=by
 obtain⟨f,hf⟩:=ay (show 0<d.s.st.length from h.p);obtain⟨t,ht⟩:=ay (show d.s.st.length-1<d.s.st.length by have:=h.p;omega);have o1:=h.st f (bC hf);have o2:=h.st t (bC ht);obtain⟨⟨a1,a2⟩,⟨a3,a4⟩,-⟩:=o1;obtain⟨⟨b1,b2⟩,⟨b3,b4⟩,-⟩:=o2;rw[aaa,aa7,aan hf,aan ht];omega
theorem abH {d:DKR}(h:OvOk d)(k:Nat) : -3000000<=(aao (aaa d) (aa7 d) (d.bl.take k)).1/\(aao (aaa d) (aa7 d) (d.bl.take k)).1<=3000000 /\ -3000000<=(aao (aaa d) (aa7 d) (d.bl.take k)).2.1/\(aao (aaa d) (aa7 d) (d.bl.take k)).2.1<=3000000:=by
 have l1:=abI (d.bl.take k) fun b hb=>h.b b (dD hb);have l2:=abt h;obtain⟨h1,h2,h3⟩:=abM (aaa d) (aa7 d) (d.bl.take k);cases e:(aaX (d.bl.take k)).2.2 with
 |true=>obtain⟨e1,e2⟩:=h2 e;omega
 |false=>obtain⟨e1,e2⟩:=h3 e;omega
theorem aaE (d:DKR)(h:OvOk d):aU 168 [.agg (fv d)] (.tup [I (abL d).1,I (abL d).2.1,.bool (abL d).2.2]):=by
 have hml:(d.s.st.map eT).length=d.s.st.length:=ap;have hbl:(d.bl.map eBk).length=d.bl.length:=ap;obtain⟨f,hf⟩:=ay (show 0<d.s.st.length from h.p);obtain⟨t,ht⟩:=ay (show d.s.st.length-1<d.s.st.length by have:=h.p;omega);have o1:=h.st f (bC hf);have o2:=h.st t (bC ht);obtain⟨⟨a1,a2⟩,⟨a3,a4⟩,-⟩:=o1;obtain⟨⟨b1,b2⟩,⟨b3,b4⟩,-⟩:=o2;have hlim:=abt h;have hFl:=abH h;have hp:=h.p;have hn:=h.n;have hm:=h.m;have hb:=h.b;have eA1:(2*f.x-f.w)/2=aaa d:=by rw[aaa,aan hf];omega
 have eA2 : -(-(2*t.x+t.w)/2)=aa7 d:=by rw[aa7,aan ht];omega
 have hO:abL d=(abA (aao (aaa d) (aa7 d) d.bl).1 0,abA (aao (aaa d) (aa7 d) d.bl).2.1 0,(aao (aaa d) (aa7 d) d.bl).2.2):=O;have hsub:IntKind.i64.wrap ((d.s.st.length:Int)-1)=((d.s.st.length-1:Nat):Int):=by rw[wrap_i64 J J];omega
 have q1:=gp (2*f.x);have q2:=gp (2*f.x-f.w);have q3:=gp (2*t.x);have q4:=gp (2*t.x+t.w);have q5:IntKind.i64.wrap (0-(2*t.x+t.w)) = -(2*t.x+t.w):=by rw[wrap_i64 J J];omega
 have q6:IntKind.i64.wrap (0 - -(2*t.x+t.w)/2) = -(-(2*t.x+t.w)/2):=by rw[wrap_i64 J J];omega
 have r1:=aaf (2*f.x-f.w);have r2:=aaf (-(2*t.x+t.w));rw[eA1]at r1;generalize abL d=O0,aaa d=A,aa7 d=Fo at *
 clear h;obtain⟨s,den,bl,zn,gm,oh⟩:=d;simp only at *
 refine aD Proofs.Tryz.func168 ?_;refine cV 1 ?_;refine a_ [(15,5),(16,6),(17,5),(18,6)] aH aH ?_;refine H ?_;refine ci O O (lK (n:=((0):Int)) O O O O O J hf O) ?_;refine H ?_;rw[hml,hsub];refine tp O O O O O O O ht O ?_;refine H ?_;refine bL [] [] aH ?_;refine H ?_;rw[q1];refine H ?_;rw[q2];refine Q6 O O O r1 O O O ?_;refine H ?_;rw[q3];refine H ?_;rw[q4];refine H ?_;rw[q5];refine Q6 O O O r2 O O O ?_;refine H ?_;rw[q6,eA2];refine H ?_;rw[hbl];refine aQ [(1,.ptr 1 1 0 0),(2,I 0),(3,I 0),(4,.bool false),(7,I A),(8,I Fo),(45,.sl (bl.map eBk)),(46,I bl.length),(47,I ((0:Nat):Int))] [(1,1,⟨56,14,[fv ⟨s,den,bl,zn,gm,oh⟩],2⟩)] ah ?_;intro s0;refine ai (fun i:Nat=>i<=bl.length) (fun i=>[(1,.ptr 1 1 0 0),(2,I (aao A Fo (bl.take i)).1),(3,I (aao A Fo (bl.take i)).2.1),(4,.bool (aao A Fo (bl.take i)).2.2),(7,I A),(8,I Fo),(45,.sl (bl.map eBk)),(46,I bl.length),(47,I (i:Nat))])
  (fun _=>[(1,1,⟨56,14,[fv ⟨s,den,bl,zn,gm,oh⟩],2⟩)]) (fun i=>bl.length-i) 0 (aP _) ah ?_
 intro i s1 hi;refine D ?_ ?_<;>intro h
 .have hlt:i<bl.length:=cw h;clear h;obtain⟨b,hx⟩:=ay hlt;obtain⟨c1,c2,c3,c4⟩:=hb b (bC hx);have hsn:aao A Fo (bl.take (i+1))=aaY A Fo (aao A Fo (bl.take i)) b:=by
   obtain⟨hl,rfl⟩:=cb hx;rw[List.take_succ_eq_append_getElem hl,abs]
  have hFi:=hFl i;have hw:=dN i;have w1:=gp (b.x-b.hf);have w2:=gp (b.x-b.hf-A);have w3:=gp (Fo-b.x);have w4:=gp (Fo-b.x-b.hf);clear hFl hFi c1 c2 c3 c4 hb q1 q2 q3 q4 q5 q6;generalize aao A Fo (bl.take i)=Q at *
  obtain⟨qa,qf,qozz⟩:=Q;obtain⟨x,z,hfw,ht,wd,st,lim,side⟩:=b;simp only at *
  refine aN hx ?_;refine H ?_;cases side with
  |true =>
   rw[aaY,if_pos O]at hsn;refine H ?_;refine⟨i+1,hlt,J,O,?_,?_,?_,O,O,O,O,congrArg I hw,O,bh⟩<;>(rw[hsn];rfl)
  |false =>
   simp only[aaY,eu,if_false]at hsn;refine H ?_;refine bL [] [] aH ?_;refine H ?_;rw[w1,w2,w3,w4];cases qozz with
   |true =>
    simp only[if_true]at hsn;refine H ?_;refine⟨i+1,hlt,J,O,?_,?_,?_,O,O,O,O,congrArg I hw,O,bh⟩<;>(rw[hsn];rfl)
   |false =>
    simp only[eu,if_false]at hsn;refine H ?_;refine⟨i+1,hlt,J,O,?_,?_,?_,O,O,O,O,congrArg I hw,O,bh⟩<;>(rw[hsn];rfl)
 .have hie:i=bl.length:=co h;clear h;subst hie;rw[bI];subst hO;exact cA
def aat {α:Type}(p:α->Bool):List α->Nat->Int
 |[],_ => -1
 |d::l,i=>if p d=true then(i:Int) else aat p l (i+1)
theorem aaN {α:Type}(p:α->Bool):∀(l:List α) (i:Nat),decide (0<=aat p l i)=l.any p
 |[],i=>rfl
 |d::l,i=>by
  rw[aat,List.any_cons];cases h:p d
  .rw[if_neg Y,aaN p l (i+1),k_]
  .rw[if_pos O,uu,decide_eq_true];omega
theorem ab_ {α:Type}(p:α->Bool){l:List α}{i:Nat}{x:α}(h:l[i]?=some x):aat p (l.drop i) i=if p x=true then(i:Int) else aat p (l.drop (i+1)) (i+1):=by
 obtain⟨hl,rfl⟩:=cb h;rw[jm hl,aat]
theorem aaV (T:List ST)(hT:T.length<=1000)(f:FuncId)(c1:List PV)(p:ST->Bool)(hg:∀d∈T,aU f [.agg (eT d),.dref c1 0] (.bool (p d))):aU 281 [.sl (T.map eT),.clo f [.dref c1 0]] (I (aat p T 0)):=by
 have hml:(T.map eT).length=T.length:=ap;generalize hF:aat p T 0=F;refine aD Proofs.Tryz.func281 ?_;refine H ?_;refine ai (fun i:Nat=>i<=T.length/\aat p (T.drop i) i=F) (fun i=>[(0,.sl (T.map eT)),(1,.clo f [.dref c1 0]),(7,I T.length),(8,I (i:Nat))])
  (fun _=>[]) (fun i=>T.length-i) 0 ⟨aP _,by rw[fO];exact hF⟩ ⟨O,O,by rw[<-hml];rfl,O,bh⟩ ?_
 intro i s ⟨hi,hall⟩;refine D ?_ ?_<;>intro h
 .have hlt:i<T.length:=cw h;clear h;obtain⟨x,hx⟩:=ay hlt;have hgx:=hg x (bC hx);have hw:=dN i;rw[ab_ p hx]at hall;cases hp:p x with
  |true =>
   rw[hp]at hgx;rw[if_pos hp]at hall;refine aN hx ?_;refine ax hgx ?_;refine H ?_;exact o9 O O (by rw[<-hall])
  |false =>
   rw[hp]at hgx;rw[if_neg (by rw[hp];decide)]at hall;refine aN hx ?_;refine ax hgx ?_;refine H ?_;exact⟨i+1,⟨J,hall⟩,J,O,O,O,congrArg I hw,bh⟩
 .have hie:i=T.length:=co h;clear h;rw[hie,gX,aat]at hall;rw[<-hall];exact cB
theorem aaw (T:List ST)(hT:T.length<=1000)(f:FuncId)(c1:List PV)(p:ST->Bool)(hg:∀d∈T,aU f [.agg (eT d),.dref c1 0] (.bool (p d))):aU 235 [.sl (T.map eT),.clo f [.dref c1 0]] (.bool (T.any p)):=by
 have h1:=aaV T hT f c1 p hg;rw[<-aaN p T 0];generalize aat p T 0=F at *
 refine aD Proofs.Tryz.func235 ?_;refine ax h1 ?_;exact kU
def aaM (z t:Rat)(T:ST):Bool:=decide (((T.L.getD 0 0:Int):Rat)<z+t*(T.x:Rat))
theorem abE (T:ST)(ok:StOk T)(a:AR){z t:Rat}{n m:Nat}[ha:Va a z t n m](hn:n<=1000000)(hm:m<=1000000):aU 236 [.agg (eT T),.dref (eA a) 0] (.bool (aaM z t T)):=by
 obtain⟨⟨x1,x2⟩,-,⟨n1,n2⟩,-,hL,-,-⟩:=ok;obtain⟨l,hl⟩:=ay (show 0<T.L.length by omega);have hl2:=hL l (bC hl);have hg:T.L.getD 0 0=l:=by rw[cN,hl];rfl
 have zl:Zb l:=aI J J;have zx:Zb T.x:=aI J J;have w:=lP l ⟨J,J⟩;have im:=vU a T.x ⟨J,J⟩ (z:=z) (t:=t) hn hm;have v1:Vq (ofQ (z+t*(T.x:Rat))) (z+t*(T.x:Rat)) (n+1+(m+1+4)+1):=Vq.ofQ (h:=@HQ.add _ _ (n+1) (m+1+4) ha.z.hq (@HQ.mul _ _ (m+1) 4 ha.t.hq HQ.int));have c:=nf (ofQ (l:Rat)) (ofQ (z+t*(T.x:Rat))) (hx:=Vq.ofQ (h:=HQ.int)) (hy:=v1) Y J;have hs:decide (sgn ((l:Rat)-(z+t*(T.x:Rat)))<0)=aaM z t T:=by
  rw[aaM,hg];refine decide_eq_decide.2 ⟨fun h=>?_,fun h=>?_⟩
  .have:=(eW _).1 h;grind
  .refine(eW _).2 ?_;grind
 rw[<-hs];generalize sgn ((l:Rat)-(z+t*(T.x:Rat)))=g,ofQ (z+t*(T.x:Rat))=X,ofQ (l:Rat)=W at *
 clear hs v1 ha hL;obtain⟨x,wd,L,H0⟩:=T;obtain⟨az,at'⟩:=a;simp only at *
 refine aD Proofs.Tryz.func236 ?_;refine H ?_;refine bL [] [] aH ?_;refine H ?_;refine ci O O (lK (n:=((0):Int)) O O O O O J hl O) ?_;refine G w ?_;refine G im ?_;refine ax c ?_;exact kU
theorem aaU (d:DKR)(hst:∀t∈d.s.st,StOk t)(hT:d.s.st.length<=1000)(a:AR){z t:Rat}{n m:Nat}[ha:Va a z t n m](hn:n<=1000000)(hm:m<=1000000):aU 169 [.agg (fv d),.agg (eA a)] (.bool (d.s.st.any (aaM z t))):=by
 have hc:=aaw d.s.st hT 236 (eA a) (aaM z t) fun T hT=>abE T (hst T hT) a (z:=z) (t:=t) hn hm;generalize d.s.st.any (aaM z t)=F at *
 clear hst ha;obtain⟨s,den,bl,zn,gm,oh⟩:=d;obtain⟨az,at'⟩:=a;simp only at *
 refine aD Proofs.Tryz.func169 ?_;refine cV 1 ?_;refine ao (Ghost.data (k:=3) (t:=3) O O O O) ?_;refine ax hc ?_;exact kU
theorem QK {d:DKR}{p z t:Rat}(h:Slim d p)(hs:Stood d p z t)(hb:aX ((vQ d p z t).drop d.bl.length)≠0):am (bE (z+p) t) d.s.st≠0/\StbOk d.s (aX ((vQ d p z t).take d.bl.length)) (pK d.s.st (fJ d) (z+p) t).mtc 600000:=by
 obtain⟨hk,hd,hf⟩:=h.bd;have ok:=lk (iT hf);have hz:=hs.hz;have ht:=hs.ht;have hp:HQ p 4:=⟨h.p⟩;have hzp:HQ (z+p) 24005:=@HQ.add _ _ 24000 4 hz hp;have me:=F9 hk.st h.L h.st (fJ d) hzp.ok ht.ok;have hms:=pW hs;have hnn:=Jj h hs;refine⟨fun e=>hb (by
  rw[Jk hk.st];show am (bE (z+p) t) d.s.st*_=0
  rw[e];grind),ok.ld,ok.m,by have:=ok.n;show(d.s.light::d.s.it).length<=61;simp;omega,(Ph h hs).1,(me.mono Y).ok,Y,hnn.1,?_⟩
 rw[ie,mQ,ky];grind
theorem abW {s:SHP}{p me:Rat}{k:Nat}(ok:StbOk s p me k):∃N,N<=4000000/\hq (Dv s p me/mQ s) N:=by
 obtain⟨⟨t1,t2⟩,⟨t3,t4⟩,⟨t5,t6⟩,t7,t8⟩:=kj ok.ld;have hn:=ok.n;have hm:=ok.m;have hk:=ok.hk;have zM:Zb (sM (ky s)):=aI J J;have zZ:Zb (sZ (ky s)):=aI J J;have zF:Zb (1000*sF (ky s)):=aI J J;have qM:HQ (mQ s) 4:=HQ.int;have qG:HQ (qZ s) 8:=@HQ.div _ _ 4 4 (HQ.int (z:=sZ (ky s))) (HQ.int (z:=sM (ky s)));have qF:HQ (IW s) 4:=HQ.int;have qL:HQ (ie s p) (4+k+1):=@HQ.sub _ _ 4 k qM ⟨ok.hp⟩;have qme:HQ me 400000:=⟨ok.hme⟩;have v4:HQ (Dv s p me) _:=@HQ.sub _ _ _ _ (@HQ.sub _ _ _ _ (@HQ.mul _ _ _ _ qL qme) (@HQ.mul _ _ _ _ qM qG)) qF;exact⟨_,J,(@HQ.div _ _ _ _ v4 qM).ok⟩
theorem abX {d:DKR}{p z t:Rat}(h:Slim d p)(hs:Stood d p z t):(tQ d p z t).gm.sz 4000000:=by
 rw[tQ];split
 .exact⟨aP _,aP _⟩
 .rename_i hb;obtain⟨N,h1,h2⟩:=abW (QK h hs hb).2;have:=gS h2;exact⟨bK this.1 h1,bK this.2 h1⟩
theorem NN {s:SHP}(h:f7 s=0):1<=s.st.length:=by
 rw[f7]at h;split at h
 .split at h
  .rename_i q;have:=iA q.2;omega
  .exact absurd h Y
 .exact absurd h Y
theorem abV {d:DKR}(h:xB d=0):(-100000<=d.gm/\d.gm<=100000)/\(0<=d.oh/\d.oh<=1000000):=by
 rw[xB]at h;split at h
 .split at h
  .split at h
   .split at h
    .rename_i q;rw[cm]at q;exact⟨iA q.1,iA q.2⟩
    .exact absurd h Y
   .rename_i q;exact absurd h q
  .rename_i q;exact absurd h q
 .rename_i q;exact absurd h q
theorem RM {d:DKR}(ok:d.Ok)(h:xB d=0):OvOk d:=by
 obtain⟨hk,-,hf⟩:=Jv ok h;have hn:=hk.n;have hm:=hk.m;exact⟨hk.st,J,NN (iT hf),fun b hb=>⟨(hk.b b hb).1.x.1,(hk.b b hb).1.x.2,(hk.b b hb).1.hf.1,(hk.b b hb).1.hf.2⟩,J⟩
def abz (sb:Int)(held:Bool)(sg:Int):Bool:=!decide (sb=0)&&(!held&&decide (sg<0))
def aay (d:DKR)(g:Bool)(m:Bool)(v:List Rat):List (Int × Int):=aal d++(if g=true then [(2,1)] else [])++(if m=true then [(0,0)] else [])++aa5 d.bl v 0
theorem aab (l:List (Int × Int)):(l.map aa2).length=l.length:=aF _
theorem aas (d:DKR):(aal d).length<=2:=by
 rw[aal,bQ];split<;>split<;>simp
theorem aav {d:DKR}(h:OvOk d):∃pa pb,((aap d).2.2=true->pa=(aap d).1/\pb=(aap d).2.1)/\aU 168 [.agg (fv d)] (.tup [I pa,I pb,.bool (aap d).2.2]):=by
 have o:=aaE d h;rw[abT]at o;by_cases hc:(aap d).2.2=true
 .rw[if_pos hc]at o;exact⟨_,_,fun _=>⟨O,O⟩,o⟩
 .rw[if_neg hc]at o;rw[show(aap d).2.2=false by simpa using hc];exact⟨_,_,(fun e=>by cases e),o⟩
set_option maxHeartbeats 4000000 in
theorem abD (d:DKR)(hO:OvOk d)(lv:RR)(x:DQ)(v:List Rat)(hv:v.length=d.bl.length)(hvq:∀q∈v,hq q 1000000)(hF:x.F=v.map ofQ)(g:Bool)(sb sg:Int)(W:RR)(hlm:∀b∈d.bl,0<=b.lim/\b.lim<=1000000000)
  (h74:aU 57 [.agg (fv d),.agg (eR lv)] (.tup [.agg (xq x),I 0])) (hg:aU 169 [.agg (fv d),.agg (eA x.a)] (.bool g)) (hb:aU 127 [.agg (eR x.bu)] (I sb))
  (hw:aU 58 [I d.gm] (.agg (eR W))) (hc:aU 144 [.agg (eR x.s.gm),.agg (eR W)] (I sg)) :
  aU 93 [.agg (fv d),.agg (eR lv)] (.tup [.sl ((aay d g (abz sb x.held sg) v).map aa2),I 0]):=by
 have hbl:(d.bl.map eBk).length=d.bl.length:=ap;have hm:=hO.m;obtain⟨pa,pb,hp,o⟩:=aav hO;have hH:aal d=(if (aap d).2.2=false\/d.oh<(aap d).1 then [(3,0)] else [])++(if (aap d).2.2=false\/d.oh<(aap d).2.1 then [(3,1)] else []):=O;have hH2:=aas d;generalize hR:aay d g (abz sb x.held sg) v=R;rw[aay]at hR;generalize aal d=H0,aap d=O0 at *
 clear hO;obtain⟨a,b,c⟩:=O0;obtain⟨s,den,bl,zn,gm,oh⟩:=d;obtain⟨xlv,⟨az,at'⟩,xF,xup,xbu,⟨x1,x2,x3,x4⟩,xh,xp⟩:=x;simp only at *
 have no:¬(true=false):=fun e=>by cases e
 refine aD Proofs.Tryz.func93 ?_;refine cV 2 ?_;refine ao (Ghost.nilreg (k:=1003) (t:=6) 245 2 1 O O) ?_;refine G o ?_;refine cV 3 ?_;refine aQ [(2,.ptr 2 1 0 0),(3,.ptr 3 1 0 0),(6,.als 1003 1 0 0),(7,I pa),(8,I pb),(9,.bool c)] [(2,1,⟨56,14,[fv ⟨s,den,bl,zn,gm,oh⟩],2⟩),(3,1,⟨41,4,[eR lv],2⟩),(1003,1,⟨245,2,[],1⟩)] ah ?_;intro s0;obtain⟨L0,hL0⟩:∃L0:List (Int × Int),L0=[]:=⟨_,O⟩;generalize hC1:decide (c=false\/oh<a)=C1;generalize hC2:decide (c=false\/oh<b)=C2;obtain⟨L1,hL1⟩:∃L1,L1=L0++(if C1=true then [((3:Int),(0:Int))] else []):=⟨_,O⟩;obtain⟨L2,hL2⟩:∃L2,L2=L1++(if C2=true then [((3:Int),(1:Int))] else []):=⟨_,O⟩;obtain⟨L3,hL3⟩:∃L3,L3=L2++(if g=true then [((2:Int),(1:Int))] else []):=⟨_,O⟩;obtain⟨L4zz,hL4⟩:∃L4zz,L4zz=L3++(if abz sb xh sg=true then [((0:Int),(0:Int))] else []):=⟨_,O⟩;have hHL:H0=L2:=by
  rw[hH,hL2,hL1,hL0,<-hC1,<-hC2,k9];simp only[decide_eq_true_eq]
 have hRL:L4zz++aa5 bl v 0=R:=by rw[<-hR,hL4,hL3,<-hHL]
 have n0:L0.length=0:=by rw[hL0];rfl
 have n1:L1.length<=1:=by rw[hL1,hL0];split<;>simp
 have n2:L2.length<=2:=by rw[hL2,bQ];split<;>simp<;>omega
 have n3:L3.length<=3:=by rw[hL3,bQ];split<;>simp<;>omega
 have n4:L4zz.length<=4:=by rw[hL4,bQ];split<;>simp<;>omega
 clear hR hH hHL hH2;refine aQ [(2,.ptr 2 1 0 0),(3,.ptr 3 1 0 0),(6,.als 1003 (1+L0.length) 0 (L0.map aa2).length),(7,I pa),(8,I pb),(9,.bool c)] [(2,1,⟨56,14,[fv ⟨s,den,bl,zn,gm,oh⟩],2⟩),(3,1,⟨41,4,[eR lv],2⟩),(1003,1+L0.length,⟨245,2,L0.map aa2,1⟩)] ⟨O,O,by rw[hL0];rfl,O,O,O,O,O,by rw[hL0];rfl,bh⟩ ?_;intro s1;refine uD [(2,.ptr 2 1 0 0),(3,.ptr 3 1 0 0),(8,I pb),(9,.bool c),(6,.als 1003 (1+L0.length) 0 (L0.map aa2).length),(28,.bool C1)] [(2,1,⟨56,14,[fv ⟨s,den,bl,zn,gm,oh⟩],2⟩),(3,1,⟨41,4,[eR lv],2⟩),(1003,1+L0.length,⟨245,2,L0.map aa2,1⟩)] ?_ (fun s28=>?_)
 .cases c with
  |false =>
   have e:C1=true:=by rw[<-hC1];simp
   rw[e];refine H ?_;exact ah
  |true =>
   have e:C1=decide (oh<a):=by rw[<-hC1];simp
   rw[e,<-(hp O).1];refine H ?_;exact ah
 refine uD [(2,.ptr 2 1 0 0),(3,.ptr 3 1 0 0),(8,I pb),(9,.bool c),(6,.als 1003 (1+L1.length) 0 (L1.map aa2).length)] [(2,1,⟨56,14,[fv ⟨s,den,bl,zn,gm,oh⟩],2⟩),(3,1,⟨41,4,[eR lv],2⟩),(1003,1+L1.length,⟨245,2,L1.map aa2,1⟩)] ?_ (fun sL1=>?_)
 .refine aV O ?_ ?_<;>intro h
  .rw[if_pos h]at hL1;have e1:1+L1.length=1+L0.length+1:=by rw[hL1,bQ];rfl
   have e2:L1.map aa2=L0.map aa2++[[I 3,I 0]]:=by rw[hL1,bj];rfl
   have hll:(L0.map aa2).length<=100:=by rw[aab];omega
   generalize L0.map aa2=R0 at *
   refine H ?_;refine aC (bb 1 O O O O O O O O O O O ah O ?_);refine H ?_;refine aC (bO 1 O O O O O O O O O O O ah fW O O aS aS ?_);refine H ?_;rw[e1,e2];exact ah
  .rw[if_neg (by rw[h];decide),cu]at hL1;subst hL1;refine H ?_;exact ah
 refine cV 5 ?_;refine uD [(2,.ptr 2 1 0 0),(3,.ptr 3 1 0 0),(6,.als 1003 (1+L1.length) 0 (L1.map aa2).length),(40,.bool C2)] [(2,1,⟨56,14,[fv ⟨s,den,bl,zn,gm,oh⟩],2⟩),(3,1,⟨41,4,[eR lv],2⟩),(1003,1+L1.length,⟨245,2,L1.map aa2,1⟩)] ?_ (fun s40=>?_)
 .cases c with
  |false =>
   have e:C2=true:=by rw[<-hC2];simp
   rw[e];refine H ?_;exact ah
  |true =>
   have e:C2=decide (oh<b):=by rw[<-hC2];simp
   rw[e,<-(hp O).2];refine H ?_;exact ah
 refine uD [(2,.ptr 2 1 0 0),(3,.ptr 3 1 0 0),(6,.als 1003 (1+L2.length) 0 (L2.map aa2).length)] [(2,1,⟨56,14,[fv ⟨s,den,bl,zn,gm,oh⟩],2⟩),(3,1,⟨41,4,[eR lv],2⟩),(1003,1+L2.length,⟨245,2,L2.map aa2,1⟩)] ?_ (fun sL2=>?_)
 .refine aV O ?_ ?_<;>intro h
  .rw[if_pos h]at hL2;have e1:1+L2.length=1+L1.length+1:=by rw[hL2,bQ];rfl
   have e2:L2.map aa2=L1.map aa2++[[I 3,I 1]]:=by rw[hL2,bj];rfl
   have hll:(L1.map aa2).length<=100:=by rw[aab];omega
   generalize L1.map aa2=R0 at *
   refine H ?_;refine aC (bb 1 O O O O O O O O O O O ah O ?_);refine H ?_;refine aC (bO 1 O O O O O O O O O O O ah fW O O aS aS ?_);refine H ?_;rw[e1,e2];exact ah
  .rw[if_neg (by rw[h];decide),cu]at hL2;subst hL2;refine H ?_;exact ah
 refine G h74 ?_;refine cV 12 ?_;refine aQ [(2,.ptr 2 1 0 0),(6,.als 1003 (1+L2.length) 0 (L2.map aa2).length),(10,.ptr 10 ((sL2.own 10).1+1) 0 0)] [(2,1,⟨56,14,[fv ⟨s,den,bl,zn,gm,oh⟩],2⟩),(1003,1+L2.length,⟨245,2,L2.map aa2,1⟩),(10,(sL2.own 10).1+1,⟨65,39,[xq ⟨xlv,⟨az,at'⟩,xF,xup,xbu,⟨x1,x2,x3,x4⟩,xh,xp⟩],2⟩)] ah ?_;generalize (sL2.own 10).1+1=g10;intro s3;refine ax hg ?_;refine H ?_;refine uD [(2,.ptr 2 1 0 0),(10,.ptr 10 g10 0 0),(6,.als 1003 (1+L3.length) 0 (L3.map aa2).length)] [(2,1,⟨56,14,[fv ⟨s,den,bl,zn,gm,oh⟩],2⟩),(10,g10,⟨65,39,[xq ⟨xlv,⟨az,at'⟩,xF,xup,xbu,⟨x1,x2,x3,x4⟩,xh,xp⟩],2⟩),(1003,1+L3.length,⟨245,2,L3.map aa2,1⟩)] ?_ (fun sL3=>?_)
 .refine aV O ?_ ?_<;>intro h
  .rw[if_pos h]at hL3;have e1:1+L3.length=1+L2.length+1:=by rw[hL3,bQ];rfl
   have e2:L3.map aa2=L2.map aa2++[[I 2,I 1]]:=by rw[hL3,bj];rfl
   have hll:(L2.map aa2).length<=100:=by rw[aab];omega
   generalize L2.map aa2=R0 at *
   refine H ?_;refine aC (bb 1 O O O O O O O O O O O ah O ?_);refine H ?_;refine aC (bO 1 O O O O O O O O O O O ah fW O O aS aS ?_);refine H ?_;rw[e1,e2];exact ah
  .rw[if_neg (by rw[h];decide),cu]at hL3;subst hL3;refine H ?_;exact ah
 refine cV 14 ?_;refine uD [(2,.ptr 2 1 0 0),(10,.ptr 10 g10 0 0),(6,.als 1003 (1+L3.length) 0 (L3.map aa2).length),(90,.bool (abz sb xh sg))] [(2,1,⟨56,14,[fv ⟨s,den,bl,zn,gm,oh⟩],2⟩),(1003,1+L3.length,⟨245,2,L3.map aa2,1⟩),(10,g10,⟨65,39,[xq ⟨xlv,⟨az,at'⟩,xF,xup,xbu,⟨x1,x2,x3,x4⟩,xh,xp⟩],2⟩)] ?_ (fun s90=>?_)
 .refine bL [] [] aH ?_;refine ax hb ?_;refine H ?_;by_cases h0:sb=0
  .rw[decide_eq_true h0,show abz sb xh sg=false by rw[abz,decide_eq_true h0];rfl];refine H ?_;exact ah
  .rw[decide_eq_false h0,show abz sb xh sg=(!xh&&decide (sg<0)) by rw[abz,decide_eq_false h0];rfl];cases xh with
   |true =>
    refine H ?_;exact ah
   |false =>
    refine G hw ?_;refine ax hc ?_;refine H ?_;exact ah
 refine uD [(2,.ptr 2 1 0 0),(10,.ptr 10 g10 0 0),(6,.als 1003 (1+L4zz.length) 0 (L4zz.map aa2).length)] [(2,1,⟨56,14,[fv ⟨s,den,bl,zn,gm,oh⟩],2⟩),(10,g10,⟨65,39,[xq ⟨xlv,⟨az,at'⟩,xF,xup,xbu,⟨x1,x2,x3,x4⟩,xh,xp⟩],2⟩),(1003,1+L4zz.length,⟨245,2,L4zz.map aa2,1⟩)] ?_ (fun sL4=>?_)
 .refine aV O ?_ ?_<;>intro h
  .rw[if_pos h]at hL4;have e1:1+L4zz.length=1+L3.length+1:=by rw[hL4,bQ];rfl
   have e2:L4zz.map aa2=L3.map aa2++[[I 0,I 0]]:=by rw[hL4,bj];rfl
   have hll:(L3.map aa2).length<=100:=by rw[aab];omega
   generalize L3.map aa2=R0 at *
   refine H ?_;refine aC (bb 1 O O O O O O O O O O O ah O ?_);refine H ?_;refine aC (bO 1 O O O O O O O O O O O ah fW O O aS aS ?_);refine H ?_;rw[e1,e2];exact ah
  .rw[if_neg (by rw[h];decide),cu]at hL4;subst hL4;refine H ?_;exact ah
 refine H ?_;rw[hbl];have hz0:(L4zz++aa5 (bl.take 0) (v.take 0) 0)=L4zz:=by rw[dK];simp[aa5]
 refine ai (fun i:Nat=>i<=bl.length) (fun i=>[(2,.ptr 2 1 0 0),(6,.als 1003 (1+(L4zz++aa5 (bl.take i) (v.take i) 0).length) 0 ((L4zz++aa5 (bl.take i) (v.take i) 0).map aa2).length),(10,.ptr 10 g10 0 0),(96,.sl (bl.map eBk)),(97,I bl.length),(98,I (i:Nat))])
  (fun i=>[(2,1,⟨56,14,[fv ⟨s,den,bl,zn,gm,oh⟩],2⟩),(1003,1+(L4zz++aa5 (bl.take i) (v.take i) 0).length,⟨245,2,(L4zz++aa5 (bl.take i) (v.take i) 0).map aa2,1⟩),(10,g10,⟨65,39,[xq ⟨xlv,⟨az,at'⟩,xF,xup,xbu,⟨x1,x2,x3,x4⟩,xh,xp⟩],2⟩)]) (fun i=>bl.length-i) 0 (aP _) ⟨O,by rw[hz0];rfl,O,O,O,O,O,by rw[hz0];rfl,O,bh⟩ ?_
 intro i s5 hi;refine D ?_ ?_<;>intro h
 .have hlt:i<bl.length:=cw h;clear h;obtain⟨b,hx⟩:=ay hlt;obtain⟨q,hq⟩:=ay (show i<v.length by omega);have hxq:xF[i]?=some (ofQ q):=by rw[hF,bw,hq];rfl
  obtain⟨m1,m2⟩:=hlm b (bC hx);have hsn:=aau (i:=0) hx hq;rw[aM]at hsn;have hle:=aai (bl.take i) (v.take i) 0;rw[bc]at hle;have hw2:=dN i;have w1:IntKind.i64.wrap (b.lim*2)=2*b.lim:=by rw[wrap_i64 J J];omega
  generalize hLm:(if b.side=true then 2*b.lim else b.lim:Int)=Lm at hsn;have hLb:0<=Lm/\Lm<=2000000000:=by rw[<-hLm];split<;>omega
  have zLzz:Zb Lm:=aI J J;have c1:=lP Lm ⟨J,J⟩;have c2:=nf (ofQ q) (ofQ (Lm:Rat)) (hx:=Vq.ofQ (h:=⟨hvq q (bC hq)⟩)) (hy:=Vq.ofQ (h:=HQ.int)) Y Y;have hcs:decide (0<sgn (q-(Lm:Rat)))=decide ((Lm:Rat)<q):=decide_eq_decide.2 ⟨fun h=>by have:=(kO _).1 h;grind,fun h=>(kO _).2 bP⟩;generalize hsg2:sgn (q-(Lm:Rat))=G0 at *
  generalize ofQ (Lm:Rat)=LR at *
  obtain⟨bx,bz,bhf,bht,bwd,bst,blim,bside⟩:=b;simp only at *
  obtain⟨Lazz,hLa⟩:∃Lazz,Lazz=(L4zz++aa5 (bl.take i) (v.take i) 0):=⟨_,O⟩;obtain⟨Lb,hLB⟩:∃Lb,Lb=Lazz++(if decide ((Lm:Rat)<q)=true then [((1:Int),((i:Nat):Int))] else []):=⟨_,O⟩;have hLB2:(L4zz++aa5 (bl.take (i+1)) (v.take (i+1)) 0)=Lb:=by rw[hLB,hLa,hsn,bg];simp only[decide_eq_true_eq]
  have na:Lazz.length<=1010:=by rw[hLa,bQ];omega
  rw[<-hLa];clear hsn hLa;refine aN hx ?_;refine H ?_;refine uD [(2,.ptr 2 1 0 0),(6,.als 1003 (1+Lazz.length) 0 (Lazz.map aa2).length),(10,.ptr 10 g10 0 0),(12,I (i:Nat)),(14,I Lm),(96,.sl (bl.map eBk)),(97,I bl.length),(98,I (i:Nat))] [(2,1,⟨56,14,[fv ⟨s,den,bl,zn,gm,oh⟩],2⟩),(1003,1+Lazz.length,⟨245,2,Lazz.map aa2,1⟩),(10,g10,⟨65,39,[xq ⟨xlv,⟨az,at'⟩,xF,xup,xbu,⟨x1,x2,x3,x4⟩,xh,xp⟩],2⟩)] ?_ (fun s6=>?_)
  .cases bside with
   |true =>
    rw[if_pos O]at hLm;refine H ?_;rw[w1,hLm];exact ah
   |false =>
    rw[if_neg Y]at hLm;subst hLm;refine H ?_;exact ah
  refine H ?_;refine bL [] [] aH ?_;refine aN hxq ?_;refine G c1 ?_;refine ax c2 ?_;refine H ?_;rw[hcs];refine aV O ?_ ?_<;>intro h
  .rw[if_pos h]at hLB;have e1:1+Lb.length=1+Lazz.length+1:=by rw[hLB,bQ];rfl
   have e2:Lb.map aa2=Lazz.map aa2++[[I 1,I (i:Nat)]]:=by rw[hLB,bj];rfl
   have hll:(Lazz.map aa2).length<=1010:=by rw[aab];exact na
   generalize Lazz.map aa2=R0 at *
   refine H ?_;refine aC (bb 1 O O O O O O O O O O O ah O ?_);refine H ?_;refine aC (bO 1 O O O O O O O O O O O ah fW O O aS aS ?_);refine H ?_;refine⟨i+1,hlt,J,O,?_,O,O,O,congrArg I hw2,O,?_,O,bh⟩
   .rw[hLB2,e1,e2];rfl
   .rw[hLB2,e1,e2];rfl
  .rw[if_neg (by rw[h];decide),cu]at hLB;subst hLB;refine H ?_;refine⟨i+1,hlt,J,O,?_,O,O,O,congrArg I hw2,O,?_,O,bh⟩
   .rw[hLB2];rfl
   .rw[hLB2];rfl
 .have hie:i=bl.length:=co h;clear h;subst hie;rw[bI,<-hv,bI,hRL]
  (repeat ((fail_if_success (with_reducible refine fh ?_));refine wV O ?_))
  refine ao (Ghost.takeD (k:=1003) (t:=4) O O O) ?_;exact cA
theorem ab8 (d:DKR)(g m:Bool)(v:List Rat):(aay d g m v).length<=4+v.length:=by
 have h1:=aas d;have h2:=aai d.bl v 0;have h3:=aaD (p:=g=true) ((2:Int),(1:Int));have h4:=aaD (p:=m=true) ((0:Int),(0:Int));rw[aay,bQ,bQ,bQ];omega
def abg (d:DKR)(e:Int):List (Int × Int) × Int:=if e=12\/e=13 then(aal d++[(2,0)],0) else([],e)
set_option maxHeartbeats 4000000 in
theorem abC (d:DKR)(hO:OvOk d)(lv:RR)(e:Int)(he:e≠0)(h74:aU 57 [.agg (fv d),.agg (eR lv)] (.tup [.agg (xq dZ),I e])) :
  aU 93 [.agg (fv d),.agg (eR lv)] (.tup [.sl ((abg d e).1.map aa2),I (abg d e).2]):=by
 obtain⟨pa,pb,hp,o⟩:=aav hO;have hH:aal d=(if (aap d).2.2=false\/d.oh<(aap d).1 then [(3,0)] else [])++(if (aap d).2.2=false\/d.oh<(aap d).2.1 then [(3,1)] else []):=O;generalize hR:abg d e=R;rw[abg]at hR;generalize aal d=H0,aap d=O0 at *
 clear hO;obtain⟨a,b,c⟩:=O0;obtain⟨s,den,bl,zn,gm,oh⟩:=d;simp only at *
 have no:¬(true=false):=fun e=>by cases e
 refine aD Proofs.Tryz.func93 ?_;refine cV 2 ?_;refine ao (Ghost.nilreg (k:=1003) (t:=6) 245 2 1 O O) ?_;refine G o ?_;refine cV 3 ?_;refine aQ [(2,.ptr 2 1 0 0),(3,.ptr 3 1 0 0),(6,.als 1003 1 0 0),(7,I pa),(8,I pb),(9,.bool c)] [(2,1,⟨56,14,[fv ⟨s,den,bl,zn,gm,oh⟩],2⟩),(3,1,⟨41,4,[eR lv],2⟩),(1003,1,⟨245,2,[],1⟩)] ah ?_;intro s0;obtain⟨L0,hL0⟩:∃L0:List (Int × Int),L0=[]:=⟨_,O⟩;generalize hC1:decide (c=false\/oh<a)=C1;generalize hC2:decide (c=false\/oh<b)=C2;obtain⟨L1,hL1⟩:∃L1,L1=L0++(if C1=true then [((3:Int),(0:Int))] else []):=⟨_,O⟩;obtain⟨L2,hL2⟩:∃L2,L2=L1++(if C2=true then [((3:Int),(1:Int))] else []):=⟨_,O⟩;have hHL:H0=L2:=by
  rw[hH,hL2,hL1,hL0,<-hC1,<-hC2,k9];simp only[decide_eq_true_eq]
 rw[hHL]at hR;have n0:L0.length=0:=by rw[hL0];rfl
 have n1:L1.length<=1:=by rw[hL1,hL0];split<;>simp
 have n2:L2.length<=2:=by rw[hL2,bQ];split<;>simp<;>omega
 clear hH hHL;refine aQ [(2,.ptr 2 1 0 0),(3,.ptr 3 1 0 0),(6,.als 1003 (1+L0.length) 0 (L0.map aa2).length),(7,I pa),(8,I pb),(9,.bool c)] [(2,1,⟨56,14,[fv ⟨s,den,bl,zn,gm,oh⟩],2⟩),(3,1,⟨41,4,[eR lv],2⟩),(1003,1+L0.length,⟨245,2,L0.map aa2,1⟩)] ⟨O,O,by rw[hL0];rfl,O,O,O,O,O,by rw[hL0];rfl,bh⟩ ?_;intro s1;refine uD [(2,.ptr 2 1 0 0),(3,.ptr 3 1 0 0),(8,I pb),(9,.bool c),(6,.als 1003 (1+L0.length) 0 (L0.map aa2).length),(28,.bool C1)] [(2,1,⟨56,14,[fv ⟨s,den,bl,zn,gm,oh⟩],2⟩),(3,1,⟨41,4,[eR lv],2⟩),(1003,1+L0.length,⟨245,2,L0.map aa2,1⟩)] ?_ (fun s28=>?_)
 .cases c with
  |false =>
   have e:C1=true:=by rw[<-hC1];simp
   rw[e];refine H ?_;exact ah
  |true =>
   have e:C1=decide (oh<a):=by rw[<-hC1];simp
   rw[e,<-(hp O).1];refine H ?_;exact ah
 refine uD [(2,.ptr 2 1 0 0),(3,.ptr 3 1 0 0),(8,I pb),(9,.bool c),(6,.als 1003 (1+L1.length) 0 (L1.map aa2).length)] [(2,1,⟨56,14,[fv ⟨s,den,bl,zn,gm,oh⟩],2⟩),(3,1,⟨41,4,[eR lv],2⟩),(1003,1+L1.length,⟨245,2,L1.map aa2,1⟩)] ?_ (fun sL1=>?_)
 .refine aV O ?_ ?_<;>intro h
  .rw[if_pos h]at hL1;have e1:1+L1.length=1+L0.length+1:=by rw[hL1,bQ];rfl
   have e2:L1.map aa2=L0.map aa2++[[I 3,I 0]]:=by rw[hL1,bj];rfl
   have hll:(L0.map aa2).length<=100:=by rw[aab];omega
   generalize L0.map aa2=R0 at *
   refine H ?_;refine aC (bb 1 O O O O O O O O O O O ah O ?_);refine H ?_;refine aC (bO 1 O O O O O O O O O O O ah fW O O aS aS ?_);refine H ?_;rw[e1,e2];exact ah
  .rw[if_neg (by rw[h];decide),cu]at hL1;subst hL1;refine H ?_;exact ah
 refine cV 5 ?_;refine uD [(2,.ptr 2 1 0 0),(3,.ptr 3 1 0 0),(6,.als 1003 (1+L1.length) 0 (L1.map aa2).length),(40,.bool C2)] [(2,1,⟨56,14,[fv ⟨s,den,bl,zn,gm,oh⟩],2⟩),(3,1,⟨41,4,[eR lv],2⟩),(1003,1+L1.length,⟨245,2,L1.map aa2,1⟩)] ?_ (fun s40=>?_)
 .cases c with
  |false =>
   have e:C2=true:=by rw[<-hC2];simp
   rw[e];refine H ?_;exact ah
  |true =>
   have e:C2=decide (oh<b):=by rw[<-hC2];simp
   rw[e,<-(hp O).2];refine H ?_;exact ah
 refine uD [(2,.ptr 2 1 0 0),(3,.ptr 3 1 0 0),(6,.als 1003 (1+L2.length) 0 (L2.map aa2).length)] [(2,1,⟨56,14,[fv ⟨s,den,bl,zn,gm,oh⟩],2⟩),(3,1,⟨41,4,[eR lv],2⟩),(1003,1+L2.length,⟨245,2,L2.map aa2,1⟩)] ?_ (fun sL2=>?_)
 .refine aV O ?_ ?_<;>intro h
  .rw[if_pos h]at hL2;have e1:1+L2.length=1+L1.length+1:=by rw[hL2,bQ];rfl
   have e2:L2.map aa2=L1.map aa2++[[I 3,I 1]]:=by rw[hL2,bj];rfl
   have hll:(L1.map aa2).length<=100:=by rw[aab];omega
   generalize L1.map aa2=R0 at *
   refine H ?_;refine aC (bb 1 O O O O O O O O O O O ah O ?_);refine H ?_;refine aC (bO 1 O O O O O O O O O O O ah fW O O aS aS ?_);refine H ?_;rw[e1,e2];exact ah
  .rw[if_neg (by rw[h];decide),cu]at hL2;subst hL2;refine H ?_;exact ah
 refine G h74 ?_;refine cV 8 ?_;refine aQ [(6,.als 1003 (1+L2.length) 0 (L2.map aa2).length),(11,I e)] [(1003,1+L2.length,⟨245,2,L2.map aa2,1⟩)] ah ?_;intro s3;by_cases h12:e=12\/e=13
 .rw[if_pos h12]at hR;subst hR;refine uD [(6,.als 1003 (1+L2.length) 0 (L2.map aa2).length),(56,.bool true)] [(1003,1+L2.length,⟨245,2,L2.map aa2,1⟩)] ?_ (fun s4=>?_)
  .rcases h12 with h12|h12
   .subst h12;refine H ?_;exact ah
   .subst h12;refine H ?_;exact ah
  have e2:(L2++[(2,0)]).map aa2=L2.map aa2++[[I 2,I 0]]:=by rw[bj];rfl
  have hll:(L2.map aa2).length<=100:=by rw[aab];omega
  rw[e2];generalize L2.map aa2=R0 at *
  refine H ?_;refine aC (bb 1 O O O O O O O O O O O ah O ?_);refine H ?_;refine aC (bO 1 O O O O O O O O O O O ah fW O O aS aS ?_)
  (repeat ((fail_if_success (with_reducible refine fh ?_));refine wV O ?_))
  refine ao (Ghost.takeD (k:=1003) (t:=4) O O O) ?_;exact cA
 .rw[if_neg h12]at hR;subst hR;refine H ?_;rw[decide_eq_false (show ¬e=12 from fun q=>h12 (.inl q))];refine H ?_;rw[decide_eq_false (show ¬e=13 from fun q=>h12 (.inr q))];refine H ?_;rw[decide_eq_false he]
  (repeat ((fail_if_success (with_reducible refine fh ?_));refine wV O ?_))
  refine ao (Ghost.nilfs (t:=4) O) ?_;exact cA
theorem abR {c:List Int}{i:Nat}{w:Int}(h:c[i]?=some w):w∈c:=bC h
theorem abQ {d:DKR}(h:xB d=0):∀c∈d.bl,BkIn c:=by
 intro c hc;rw[xB]at h;split at h
 .split at h
  .split at h
   .rename_i h3;rw[u7]at h3;split at h3
    .omega
    .obtain⟨j,hj⟩:=i5.1 hc;exact DH (lU h3 j c hj)
   .contradiction
  .contradiction
 .contradiction
def eV (V:Bool × Int × List (Int × Int)):List PV:=[.bool V.1,I V.2.1,.sl (V.2.2.map aa2)]
def ac2:List (Int × Int)->PV
 |[] => .nil
 |x::l => .sl ((x::l).map aa2)
def ac3 (V:Bool × Int × List (Int × Int)):List PV:=[.bool V.1,I V.2.1,ac2 V.2.2]
theorem abq:∀l:List (Int × Int),Weak (ac2 l) (.sl (l.map aa2))
 |[] => .nil
 |_::_=>Weak.rfl _
theorem abx (V:Bool × Int × List (Int × Int)):WeakL (ac3 V) (eV V) := .cons (Weak.rfl _) (.cons (Weak.rfl _) (.cons (abq _) .nil))
def abS (F:Int->List (Int × Int) × Int):List Int->Nat->(Bool × Int × List (Int × Int)) × Int
 |[],_=>((true,0,[]),0)
 |w::c,i=>if aK w (-100000) 100000=true then(if (F w).2=0 then(if (F w).1=[] then abS F c (i+1) else((false,i,(F w).1),0)) else((false,0,[]),(F w).2)) else((false,0,[]),2)
def aam (F:Int->List (Int × Int) × Int)(d:DKR)(c:List Int):(Bool × Int × List (Int × Int)) × Int :=
 if xB d=0 then(if c.length<=200 then abS F c 0 else((false,0,[]),8)) else((false,0,[]),xB d)
theorem abn {F:Int->List (Int × Int) × Int}{c:List Int}{i:Nat}{w:Int}(h:c[i]?=some w):abS F (c.drop i) i=if aK w (-100000) 100000=true then(if (F w).2=0 then(if (F w).1=[] then abS F (c.drop (i+1)) (i+1) else((false,i,(F w).1),0)) else((false,0,[]),(F w).2)) else((false,0,[]),2):=by
 obtain⟨hl,rfl⟩:=cb h;rw[jm hl,abS]
theorem aaz (d:DKR)(hk:aU 55 [.agg (fv d)] (I (xB d)))(c:List Int)(hl:c.length<=210)(F:Int->List (Int × Int) × Int)
  (hf:xB d=0->∀w∈c,aK w (-100000) 100000=true->aU 93 [.agg (fv d),.agg (eR (ofQ (w:Rat)))] (.tup [.sl ((F w).1.map aa2),I (F w).2])) :
  aU 33 [.agg (fv d),.sl (c.map eN)] (.tup [.agg (eV (aam F d c).1),I (aam F d c).2]):=by
 have hml:(c.map eN).length=c.length:=ap;refine Ret.weak (r' := .tup [.agg (ac3 (aam F d c).1),I (aam F d c).2]) ?_ (WeakL.refl _) (WeakL.tup (.cons (abx _).agg (WeakL.refl _)));by_cases hE:xB d=0
 .specialize hf hE;by_cases hc:c.length<=200
  .generalize hJ:aam F d c=J0;rw[aam,if_pos hE,if_pos hc]at hJ;rw[hE]at hk;clear hE;obtain⟨s,den,bl,zn,gm,oh⟩:=d;refine aD Proofs.Tryz.func33 ?_;refine ax hk ?_;refine H ?_;rw[hml];rw[decide_eq_false (show ¬(200:Int)<(c.length:Int) by omega)];refine H ?_;rw[hml];refine aQ [(2,.ptr 2 1 0 0),(4,.ptr 4 1 0 0),(21,.sl (c.map eN)),(22,I c.length),(23,I ((0:Nat):Int))] [(2,1,⟨56,14,[fv ⟨s,den,bl,zn,gm,oh⟩],2⟩),(4,1,⟨93,3,[[.bool false,I 0,.nil]],2⟩)] ah ?_;intro s0;refine ai (fun i:Nat=>i<=c.length/\abS F (c.drop i) i=J0) (fun i=>[(2,.ptr 2 1 0 0),(4,.ptr 4 1 0 0),(21,.sl (c.map eN)),(22,I c.length),(23,I (i:Nat))])
    (fun i=>[(2,1,⟨56,14,[fv ⟨s,den,bl,zn,gm,oh⟩],2⟩),(4,1,⟨93,3,[[.bool false,I 0,.nil]],2⟩)]) (fun i=>c.length-i) 0 ⟨aP _,by rw[fO];exact hJ⟩ ah ?_
   clear hJ;rintro i s1 ⟨hi,hJ⟩;refine D ?_ ?_<;>intro h
   .have hlt:i<c.length:=cw h;clear h;obtain⟨w,hx⟩:=ay hlt;have o1:=dA w (-100000) 100000;have hw:=dN i;rw[abn hx]at hJ;refine aN hx ?_;refine ax o1 ?_;refine H ?_;cases hin:aK w (-100000) 100000 with
    |false =>
     rw[if_neg (by rw[hin];decide)]at hJ;subst hJ;exact cA
    |true =>
     rw[if_pos hin]at hJ;have hin2:=iA hin;have hwh:=lP w ⟨J,J⟩;have hst:=hf w (abR hx) hin;generalize ofQ (w:Rat)=W,(F w).1=L,(F w).2=e at *
     refine H ?_;refine bL [] [] aH ?_;refine G hwh ?_;refine G hst ?_;refine H ?_;by_cases h0:e=0
     .subst h0;rw[if_pos O]at hJ;cases L with
      |nil =>
       rw[if_pos O]at hJ;refine H ?_;exact⟨i+1,⟨hlt,hJ⟩,J,O,O,O,O,congrArg I hw,ah⟩
      |cons x L =>
       rw[if_neg (fun e=>by cases e)]at hJ;subst hJ;refine H ?_;rw[decide_eq_true (show(0:Int)<((((x::L).map aa2).length:Nat):Int) by rw[aab,dl];omega)];exact cA
     .rw[if_neg h0]at hJ;subst hJ;rw[decide_eq_false h0];exact cA
   .have hie:i=c.length:=co h;clear h;rw[hie,gX,abS]at hJ;subst hJ;exact cA
  .have e:aam F d c=((false,0,[]),8):=by rw[aam,if_pos hE,if_neg hc]
   rw[e];rw[hE]at hk;clear hf e;obtain⟨s,den,bl,zn,gm,oh⟩:=d;refine aD Proofs.Tryz.func33 ?_;refine ax hk ?_;refine H ?_;rw[hml];rw[decide_eq_true (show(200:Int)<(c.length:Int) by omega)];exact cA
 .have e:aam F d c=((false,0,[]),xB d):=by rw[aam,if_neg hE]
  rw[e];clear hf e;generalize xB d=E at *
  obtain⟨s,den,bl,zn,gm,oh⟩:=d;refine aD Proofs.Tryz.func33 ?_;refine ax hk ?_;refine H ?_;rw[decide_eq_false hE];exact cA
theorem abu {d:DKR}{lv:RR}{p:Rat}{n:Nat}[hlv:Vq lv p n](hn:n<=1000000)(hl:d.Len)(h:Slim d p):∃V:List (Int × Int) × Int,aU 93 [.agg (fv d),.agg (eR lv)] (.tup [.sl (V.1.map aa2),I V.2])/\V.1.length<=10000:=by
 have hE:=h.e;have hO:=RM h.ok hE;obtain⟨g1,-⟩:=abV hE;by_cases he:(fX (dB d p)).e=0
 .obtain⟨z,t,hs⟩:=Sj h he;have hz:=hs.hz;have ht:=hs.ht;have va:Va ⟨ofQ z,ofQ t⟩ z t 24000 20000:=⟨Vq.ofQ (h:=hz),Vq.ofQ (h:=ht)⟩;have hll:=xg d p z t;have h5:=h.bl;have hv:((vQ d p z t).take d.bl.length).length=d.bl.length:=by rw[bc];omega
  have hvq:∀q∈(vQ d p z t).take d.bl.length,hq q 1000000:=fun q hq=>cx (yX h hs q (dD hq)) Y;have hlm:∀b∈d.bl,0<=b.lim/\b.lim<=1000000000:=fun b hb=>(abQ hE b hb).lim;have zg:Zb d.gm:=aI J J;have vb:Vq (ofQ (aX ((vQ d p z t).drop d.bl.length))) (aX ((vQ d p z t).drop d.bl.length)) 600000:=Vq.ofQ (h:=⟨(Ph h hs).2⟩);have vg:Vq (tQ d p z t).gm (tQ d p z t).gm.val 4000000:=(abX h hs).v;have vw:Vq (ofQ (d.gm:Rat)) (d.gm:Rat) 4:=Vq.ofQ (h:=HQ.int);refine⟨(aay d (d.s.st.any (aaM z t)) (abz (sgn (aX ((vQ d p z t).drop d.bl.length))) (NW d p z t).held (sgn ((tQ d p z t).gm.val-(d.gm:Rat)))) ((vQ d p z t).take d.bl.length),0),?_,?_⟩
  .exact abD d hO lv (NW d p z t) _ hv hvq O _ _ _ (ofQ (d.gm:Rat)) hlm (P4 (hlv:=hlv) hn hl h hs) (aaU d hO.st hO.n ⟨ofQ z,ofQ t⟩ (ha:=va) Y Y) (CZ _ (hx:=vb) Y) (lP d.gm ⟨J,J⟩) (nf _ _ (hx:=vg) (hy:=vw) Y Y)
  .have:=ab8 d (d.s.st.any (aaM z t)) (abz (sgn (aX ((vQ d p z t).drop d.bl.length))) (NW d p z t).held (sgn ((tQ d p z t).gm.val-(d.gm:Rat)))) ((vQ d p z t).take d.bl.length);simp only;omega
 .refine⟨abg d (fX (dB d p)).e,abC d hO lv _ he (PY (hlv:=hlv) hn hl h he),?_⟩;have:=aas d;rw[abg];split<;>simp<;>omega
theorem abb {d:DKR}(hl:d.Len)(hsl:∀p:Rat,hq p 4->Slim d p):∃F:Int->List (Int × Int) × Int,∀w:Int,aK w (-100000) 100000=true ->
  aU 93 [.agg (fv d),.agg (eR (ofQ (w:Rat)))] (.tup [.sl ((F w).1.map aa2),I (F w).2])/\(F w).1.length<=10000:=by
 have key:∀w:Int,∃V:List (Int × Int) × Int,aK w (-100000) 100000=true ->
   aU 93 [.agg (fv d),.agg (eR (ofQ (w:Rat)))] (.tup [.sl (V.1.map aa2),I V.2])/\V.1.length<=10000:=by
  intro w;by_cases hin:aK w (-100000) 100000=true
  .obtain⟨ha,hb⟩:=iA hin;have zw:Zb w:=aI J J;have hq4:hq (w:Rat) 4:=HQ.int.ok;obtain⟨V,h⟩:=abu (lv:=ofQ (w:Rat)) (hlv:=Vq.ofQ (h:=⟨hq4⟩)) Y hl (hsl _ hq4);exact⟨V,fun _=>h⟩
  .exact⟨([],0),fun h=>absurd h hin⟩
 exact⟨fun w=>Classical.choose (key w),fun w=>Classical.choose_spec (key w)⟩
theorem aba {d:DKR}(ok:d.Ok)(hsl:xB d=0->∀p:Rat,hq p 4->Slim d p)(c:List Int)(hc:c.length<=210):∃V:(Bool × Int × List (Int × Int)) × Int,aU 33 [.agg (fv d),.sl (c.map eN)] (.tup [.agg (eV V.1),I V.2])/\(V.2=0->xB d=0/\c.length<=200):=by
 have hk:=pC d ok;by_cases hE:xB d=0
 .obtain⟨F,hF⟩:=abb ok.len (hsl hE);refine⟨_,aaz d hk c hc F fun _ w _ hin=>(hF w hin).1,fun h=>⟨hE,?_⟩⟩;by_cases hc2:c.length<=200
  .exact hc2
  .rw[aam,if_pos hE,if_neg hc2]at h;exact absurd (show(8:Int)=0 from h) Y
 .refine⟨_,aaz d hk c hc (fun _=>([],0)) fun h=>absurd h hE,fun h=>?_⟩;rw[aam,if_neg hE]at h;exact absurd h hE
end Go.Pv
set_option maxHeartbeats 2000000
namespace Go.Pv
attribute [local irreducible] PWP POps PQuiet PSem aE aw aj ak
open Go.Proofs Go.RowKit Go.Sort
theorem Chg.trans {w w1 w2:World}{b:Nat}{T:TypeId}{c1 c2:Array Value}(h1:Chg w w1 b T c1)(h2:Chg w1 w2 b T c2):Chg w w2 b T c2 :=
 ⟨h2.os.trans h1.os,h2.tape.trans h1.tape,h2.output.trans h1.output,bK h1.size h2.size,fun b' hne hb=>(h2.other b' hne (gU hb h1.size)).trans (h1.other b' hne hb),h2.at_⟩
variable {s:St}{d k g m:Nat}{ty:TypeId}{pos:String}{af:Array Edge}{x y z:Operand}{tys:Array TypeId}{K:St->Prop}
end Go.Pv
set_option maxHeartbeats 2000000
namespace Go.Pv
attribute [local irreducible] PWP POps PQuiet PSem aE aw aj ak
open Go.Proofs
theorem aaO {L:dj}{fn:Func}{K:(Nat->Nat × Option Cont)->PV->Prop}{s:St}{l:List PV}{Cd:Prop}{r:PV}(owns:List (Nat × Nat × Cont))(h:Lf L s fn.results.toList=some (l,Cd))(hc:Cd)(hl:mT l=r)(ho:FitO s owns)
  (hk:∀s1:St,K (s1.over [] owns).own r):ak L fn (fun s' r=>K s'.own r) .ret s:=by
 have hk:=hk s;rw[Fit.over (l:=[]) ho,<-hl]at hk;unfold ak;exact⟨l,Cd,h,hc,hk⟩
def aa0 (K:Nat->Bool):Nat->List Int
 |0=>[]
 |n+1=>if K n=true then aa0 K n++[((n:Nat):Int)] else aa0 K n
theorem aa8 (K:Nat->Bool):∀n,(aa0 K n).length<=n
 |0=>aY
 |n+1=>by
  have:=aa8 K n;rw[aa0];split
  .rw[bQ,zP];omega
  .omega
end Go.Pv
