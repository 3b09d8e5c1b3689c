/- Texts of one hand, gathered: FcU, FcV, FdV, FcW, FcX, FcY, FcZ, FdA, FdB, FdC, FdD, FdE, FdF, FdG, FdH, FdI, FdK, FdL, FmK, FdN, FmL, FdT, FdO, FdP, FdQ, FdR, FmN, FdSn, FdUn, FdM, FsA, FsB, FsD, PvXw, FsE, FwA, FwB, FcLd, FwC, FwD, Shelg, FwE, FwF, FwG, PvFz, FuE, FwH, FsF, FwI, FuF, FwJ, DkA, DkC, DkE, DkF. -/
import Derived.Test.YtmfjgnchaacgnaaGreatBa3
import Derived.Shelf.Spec.SlicesGrow
import Derived.Test.YtmfjgnchaacgnaaGreatProg
set_option maxRecDepth 20000
set_option linter.unusedSectionVars false
set_option linter.unusedSimpArgs false
set_option linter.unusedVariables false
set_option linter.unnecessarySimpa false
set_option maxHeartbeats 2000000
namespace Go.Pv
attribute [local irreducible] PWP POps PQuiet PSem aF aw ai ak
open Go.Proofs
theorem fS {L:df}{fn:Func}{K:St->PV->Prop}{s:St}(h:fn.results.toList=[])(hk:K s (.tup [])):ak L fn K .normal s:=by
 unfold ak;exact⟨[],True,by rw[h];rfl,trivial,hk⟩
structure BN where
 at':RR
 up:RR
def cA (b:BN):List PV:=eR b.at'++eR b.up
def cw (b:BN):Rat:=b.at'.val
theorem nA {p q:BN}(h1:p.at'.sz 7000000)(h2:q.at'.sz 7000000):aO 279 [.agg (cA p),.agg (cA q)] (I (sgn (cw p-cw q))):=by
 have hc:=kw p.at' q.at' (hx:=h1.v) (hy:=h2.v) Y Y;rw[show p.at'.val-q.at'.val=cw p-cw q from O]at hc;generalize sgn (cw p-cw q)=g at *
 obtain⟨pa,pu⟩:=p;obtain⟨qa,qu⟩:=q;simp only at *
 refine ax Proofs.Tryz.func279 ?_;refine aj hc ?_;exact co
theorem P4 {K:St->Prop}{s:St}{d g:Nat}{x y z c:Operand}{tys:Array TypeId}{ty:TypeId}{pos:String}{af:Array Edge}(l:List BN)(hl:l.length<=1000)
  (hx:s.ev x = .als 5 g 0 (l.map cA).length) (hy:s.ev y=I 0) (hz:s.ev z=I l.length) (hc:s.ev c = .clo 279 [])
  (hd:∀p∈l,p.at'.sz 7000000)
  (ho:FitO s [(5,g,⟨303,8,l.map cA,1⟩)])
  (hK:∀s1:St,K (({ reg:=s.reg,own:=(s1.over [] [(5,g,⟨303,8,(dc cw l).map cA,1⟩)]).own }:St).putR d (.tup []))) :
  Sm Tryz.prog lay.get s ⟨some d,.call ⟨.value (.func 303),#[x,y,z,c],tys⟩,ty,pos,af,none⟩ K:=by
 refine cS layOk O O Tryz.func303 O Y O O ?_;show PWP _ _ _ _ (bO s (([x,y,z,c]:List Operand).map s.ev++[]));rw[show(([x,y,z,c]:List Operand).map s.ev++([]:List PV))=[.als 5 g 0 (l.map cA).length,I 0,I l.length,.clo 279 []] by simp[hx,hy,hz,hc]];rw[show bO s [.als 5 g 0 (l.map cA).length,I 0,I l.length,.clo 279 []]=bO (s.over [] [(5,g,⟨303,8,l.map cA,1⟩)]) [.als 5 g 0 (l.map cA).length,I 0,I l.length,.clo 279 []] by rw[Fit.over (l:=[]) ho]];have hen:(l.map cA).length=l.length:=by rw[aR]
 have h1s:dc cw (l.take 1)++l.drop 1=l:=by
  cases l with
  |nil=>rfl
  |cons x r=>rfl
 refine H ?_;refine ah (fun i=>1<=i/\(i<=l.length\/i=1)) (fun i=>[(0,.als 5 g 0 (l.map cA).length),(1,I 0),(2,I l.length),(3,.clo 279 []),(8,I i)])
  (fun i=>[(5,g,⟨303,8,(dc cw (l.take i)++l.drop i).map cA,1⟩)]) (fun i=>l.length+1-i) 1 ⟨a_,.inr O⟩ ⟨O,O,O,O,O,by rw[h1s];rfl,trivial⟩ ?_
 rintro i s1 ⟨hi1,hi⟩;refine D ?_ ?_<;>intro h
 .have hlt:i<l.length:=by have:=aB h;omega
  clear h;obtain⟨p,hp⟩:=aC hlt;have hx0:=hp;have htk:l.take (i+1)=l.take i++[p]:=bS hx0;have hdr:l.drop i=p::l.drop (i+1):=by
   obtain⟨hl1,h2⟩:=bV hx0;rw[iZ hl1,h2]
  generalize hP:dc cw (l.take i)=P at *
  have hPl:P.length=i:=by rw[<-hP,gM,bw];omega
  have hstart:P++l.drop i=dh P p i++l.drop (i+1):=by
   have hti:P.take i=P:=cV J;have hdi:P.drop i=[]:=lE J;rw[hdr,dh,hti,hdi];simp
  refine H ?_;refine ah (fun j=>j<=i/\∀q y,j<=q->P[q]? = some y->cw p<cw y) (fun j=>[(0,.als 5 g 0 (l.map cA).length),(1,I 0),(2,I l.length),(3,.clo 279 []),(8,I i),(9,I j)])
   (fun j=>[(5,g,⟨303,8,(dh P p j++l.drop (i+1)).map cA,1⟩)]) (fun j=>j) i ⟨a_,fun q y hq hy=>by rw[fi J]at hy;cases hy⟩ ⟨O,O,O,O,O,O,by rw[hstart];rfl,trivial⟩ ?_
  rintro j s2 ⟨hj,hpre⟩;refine cO 17 [18,19,20,21,22,23,24,25,26,27,28,29,30,31,32,33,34] ?_;refine eW ?_ ?_<;>intro h
  .have hj0:0<j:=by have:=aB h;omega
   clear h;obtain⟨k,rfl⟩:∃k,j=k+1:=⟨j-1,J⟩;have hrow:((dh P p (k+1)++l.drop (i+1)).map cA)[k+1]? = some (cA p):=by
    rw[bD,gd (by simp[dh];omega),wu J];rfl
   obtain⟨y,hy1⟩:=aC (show k<P.length by omega);have hrow2:((dh P p (k+1)++l.drop (i+1)).map cA)[k]? = some (cA y):=by
    rw[bD,gd (by simp[dh];omega),ra J J,hy1];rfl
   have hym:y∈l:=d9 ((kO cw _).mem_iff.1 (hP▸bm hy1));have hw1:IntKind.i64.wrap (((k+1:Nat):Int)-1)=(k:Nat):=by rw[wrap_i64 J J];omega
   refine H ?_;refine cf O O (cQ O O O O O O O J (by rw[hen];omega)) ?_;rw[br,aX (k+1)];refine cf O O (dK O O O hrow O) ?_;refine H ?_;rw[hw1];refine cf O O (cQ O O O O O O O J (by rw[hen];omega)) ?_;rw[br,aX k];refine cf O O (dK O O O hrow2 O) ?_;refine aj (nA (hd p (bm hp)) (hd y hym)) ?_;refine D ?_ ?_<;>intro h
   .have hlt2:cw p<cw y:=by have:=(cX _).1 (aB h);grind
    clear h;refine H ?_;refine l5 [] [5] 15 [15,16,17] [2,3,4] aK aK ?_;refine H ?_;rw[hw1];refine cf O O (cQ O O O O O O O J (by rw[hen];omega)) ?_;rw[br,aX k];refine cf O O (dK O O O hrow2 O) ?_;refine H ?_;refine cf O O (cQ O O O O O O O J (by rw[hen];omega)) ?_;rw[br,aX (k+1)];refine cf O O (dK O O O hrow O) ?_;refine H ?_;refine cf O O (cQ O O O O O O O J (by rw[hen];omega)) ?_;rw[br,aX (k+1)];refine H ?_;refine lr O O O (cK (kd':=1) O O O hrow O O aH O O O O ⟨pr O,?_⟩);refine cf O O (cQ O O O O O O O J (by rw[hen];omega)) ?_;rw[br,aX k];refine lr O O O (cK (kd':=1) O O O (row:=cA y) (by
     show(((dh P p (k+1)++l.drop (i+1)).map cA).set (k+1) _)[k]? = _
     rw[eo J];exact hrow2) O O aH O O O O ⟨pr O,?_⟩)
    refine H ?_;refine⟨k,⟨J,fun q z hq hz=>?_⟩,J,O,O,O,O,O,?_,?_,trivial⟩
    .by_cases hqk:q=k
     .subst hqk;rw[hy1]at hz;cases hz;exact hlt2
     .exact hpre q z J hz
    .exact congrArg I hw1
    .refine Eq.trans (b:=(g,some (Cont.mk 303 8 ((((dh P p (k+1)++l.drop (i+1)).map cA).set (k+1) (cA y)).set k (cA p)) 1))) O ?_;rw[<-f8,<-f8,rn _ _ (by simp[dh];omega),rn _ _ (by simp[dh];omega),wv J hy1]
   .have hge2:cw y<=cw p:=by
     have h9:=aE h;rw[cX]at h9;grind
    clear h;have hpos:CL cw P p=k+1:=uV J hpre (.inr ⟨y,hy1,hge2⟩);have hins:dc cw (l.take (i+1))=dh P p (k+1):=by rw[htk,mX,hP,pT,hpos]
    refine H ?_;refine⟨i+1,⟨J,.inl J⟩,J,O,O,O,O,dg J J,?_,trivial⟩;rw[hins];rfl
  .have hj0:j=0:=by have:=aE h;omega
   subst hj0;clear h;have hpos:CL cw P p=0:=uV J hpre (.inl O);have hins:dc cw (l.take (i+1))=dh P p 0:=by rw[htk,mX,hP,pT,hpos]
   refine H ?_;refine⟨i+1,⟨J,.inl J⟩,J,O,O,O,O,dg J J,?_,trivial⟩;rw[hins];rfl
 .have hge:l.length<=i:=by have:=aE h;omega
  have hend:dc cw (l.take i)++l.drop i=dc cw l:=by
   rw[cV hge,lE hge,b8]
  rw[hend];refine H ?_;exact fS O (hK s1)
theorem E3 {K:St->Prop}{s:St}{d g:Nat}{x z c:Operand}{tys:Array TypeId}{ty:TypeId}{pos:String}{af:Array Edge}(l:List BN)(hl:l.length<=19)
  (hx:s.ev x = .als 5 g 0 (l.map cA).length) (hz:s.ev z=I l.length) (hc:s.ev c = .clo 279 [])
  (hd:∀p∈l,p.at'.sz 7000000)
  (ho:FitO s [(5,g,⟨303,8,l.map cA,1⟩)])
  (hK:∀s1:St,K (({ reg:=s.reg,own:=(s1.over [] [(5,g,⟨303,8,(dc cw l).map cA,1⟩)]).own }:St).putR d (.tup []))) :
  Sm Tryz.prog lay.get s ⟨some d,.call ⟨.value (.func 290),#[x,z,c],tys⟩,ty,pos,af,none⟩ K:=by
 refine cS layOk O O Tryz.func290 O Y O O ?_;show PWP _ _ _ _ (bO s (([x,z,c]:List Operand).map s.ev++[]));rw[show(([x,z,c]:List Operand).map s.ev++([]:List PV))=[.als 5 g 0 (l.map cA).length,I l.length,.clo 279 []] by simp[hx,hz,hc]];rw[show bO s [.als 5 g 0 (l.map cA).length,I l.length,.clo 279 []]=bO (s.over [] [(5,g,⟨303,8,l.map cA,1⟩)]) [.als 5 g 0 (l.map cA).length,I l.length,.clo 279 []] by rw[Fit.over (l:=[]) ho]];refine H ?_;refine ah (fun _:Unit=>True) (fun _=>[(0,.als 5 g 0 (l.map cA).length),(1,I l.length),(2,.clo 279 []),(6,I 20),(7,I 0),(8,I 20)])
  (fun _=>[(5,g,⟨303,8,l.map cA,1⟩)]) (fun _=>0) () trivial ⟨O,O,O,O,O,O,O,trivial⟩ ?_
 rintro _ s1 -
 refine D ?_ ?_<;>intro h
 .have:=aB h;omega
 clear h
 (refine cN 6 ?_;refine aU 4 ?_)
 refine H ?_;refine bC O (P4 l J O O O O hd ⟨O,trivial⟩ fun s2=>?_);refine aW ?_;refine H ?_;refine ah (fun _:Unit=>True) (fun _=>[(1,I l.length),(6,I 20)])
  (fun _=>[(5,g,⟨303,8,(dc cw l).map cA,1⟩)]) (fun _=>0) () trivial ⟨O,O,O,trivial⟩ ?_
 rintro _ s3 -
 refine D ?_ ?_<;>intro h
 .have:=aB h;omega
 clear h;refine H ?_;exact fS O (hK s3)
theorem LK {K:St->Prop}{s:St}{d g:Nat}{x c:Operand}{tys:Array TypeId}{ty:TypeId}{pos:String}{af:Array Edge}(l:List BN)(hl:l.length<=19)
  (hx:s.ev x = .als 5 g 0 (l.map cA).length) (hc:s.ev c = .clo 279 [])
  (hd:∀p∈l,p.at'.sz 7000000)
  (ho:FitO s [(5,g,⟨303,8,l.map cA,1⟩)])
  (hK:∀s1:St,K (({ reg:=s.reg,own:=(s1.over [] [(5,g,⟨303,8,(dc cw l).map cA,1⟩)]).own }:St).putR d (.tup []))) :
  Sm Tryz.prog lay.get s ⟨some d,.call ⟨.value (.func 278),#[x,c],tys⟩,ty,pos,af,none⟩ K:=by
 refine cS layOk O O Tryz.func278 O Y O O ?_;show PWP _ _ _ _ (bO s (([x,c]:List Operand).map s.ev++[]));rw[show(([x,c]:List Operand).map s.ev++([]:List PV))=[.als 5 g 0 (l.map cA).length,.clo 279 []] by simp[hx,hc]];rw[show bO s [.als 5 g 0 (l.map cA).length,.clo 279 []]=bO (s.over [] [(5,g,⟨303,8,l.map cA,1⟩)]) [.als 5 g 0 (l.map cA).length,.clo 279 []] by rw[Fit.over (l:=[]) ho]];have hen:(l.map cA).length=l.length:=by rw[aR]
 (refine cN 0 ?_;refine aU 4 ?_)
 refine H ?_;refine bC O (E3 l hl O (congrArg (fun n:Nat=>I n) hen) O hd ⟨O,trivial⟩ fun s2=>?_);refine aW ?_;refine H ?_;exact fS O (hK s2)
def qK (s:SR)(t:Rat):Rat:=s.c.val+t*(s.x:Rat)
def bn (s:SR)(t:Rat)(k:Nat):BN:=⟨ofQ (s.k.s k-qK s t),ofQ (s.k.m k-cE s.k.m k)⟩
def om (t:Rat)(s:SR):List BN:=(List.range s.k.S.length).map (bn s t)
def pl (l:List SR)(t:Rat):List BN:=l.flatMap (om t)
theorem uf (t:Rat)(s:SR):(om t s).length=s.k.S.length:=by simp[om]
theorem Fp {s:SR}(hs:s.Lim){t:Rat}{m:Nat}(ht:HQ t m):HQ (qK s t) (13+(m+4)+1):=by
 have hx:Zb s.x:=aJ hs.x.1 hs.x.2;exact @HQ.add _ _ 13 (m+4) hs.c.v.hq (@HQ.mul _ _ m 4 ht HQ.int)
theorem Fu {s:SR}(hs:s.Lim){t:Rat}{m:Nat}(ht:HQ t m)(k:Nat):HQ (s.k.s k-qK s t) (4+(13+(m+4)+1)+1):=by
 have hb:=rP hs.k k;have hzb:Zb (s.k.S.getD k 0):=aJ hb.1 hb.2;exact @HQ.sub _ _ 4 _ HQ.int (Fp hs ht)
theorem Jm {l:List SR}{t:Rat}{b:BN}(h:b∈pl l t):∃s∈l,∃k,k<s.k.S.length/\b=bn s t k:=by
 obtain⟨s,hs,hb⟩:=List.mem_flatMap.1 h;obtain⟨k,hk,rfl⟩:=bX.1 hb;exact⟨s,hs,k,fJ.1 hk,O⟩
def Jl (l:List SR)(t:Rat):List BN:=dc cw (pl l t)
theorem EA (f:Nat->BN)(k:Nat):(List.range (k+1)).map f=(List.range k).map f++[f k]:=by rw[AC,bc];rfl
structure SortC (l:List BN):Prop where
 run:∀ {K:St->Prop} {s:St} {d g:Nat} {x c:Operand} {tys:Array TypeId} {ty:TypeId} {pos:String} {af:Array Edge},s.ev x = .als 5 g 0 (l.map cA).length->s.ev c = .clo 279 []->(∀p∈l,p.at'.sz 7000000)->FitO s [(5,g,⟨303,8,l.map cA,1⟩)] ->
  (∀s1:St,K (({ reg:=s.reg,own:=(s1.over [] [(5,g,⟨303,8,(dc cw l).map cA,1⟩)]).own }:St).putR d (.tup [])))->Sm Tryz.prog lay.get s ⟨some d,.call ⟨.value (.func 278),#[x,c],tys⟩,ty,pos,af,none⟩ K
theorem NV (l:List BN)(hl:l.length<=19):SortC l:=⟨fun hx hc hd ho hK=>LK l hl hx hc hd ho hK⟩
theorem BF (l:List SR)(hl:ma l)(hck:dV l=0)(h8:∀s∈l,s.k.S.length<=8)(h12:l.length<=12)(tr:RR){t:Rat}{m:Nat}[ht:Vq tr t m](hm:m<=1000000)(h40:(pl l t).length<=54)(hS:SortC (pl l t)) :
  aO 250 [.sl (l.map eS),.agg (eR tr)] (.sl ((Jl l t).map cA)):=by
 have hw0:=cC 0 ⟨Y,Y⟩;have hml:(l.map eS).length=l.length:=ao;have hlen:∀i,i<=l.length->((l.take i).flatMap (om t)).length<=54:=fun i hi=>by
  have:((l.take i).flatMap (om t)).length<=(pl l t).length:=by
   conv=>rhs;rw[pl,<-dR i l,uz,bI]
   omega
  omega
 refine ax Proofs.Tryz.func250 ?_;refine H ?_;refine am (Ghost.nilreg (k:=5) (t:=5) 303 8 1 O O) ?_;refine ah (fun i:Nat=>i<=l.length) (fun i=>[(3,.ptr 3 1 0 0),(5,.als 5 (((l.take i).flatMap (om t)).length+1) 0 (((l.take i).flatMap (om t)).map cA).length),(12,.sl (l.map eS)),(13,I l.length),(14,I (i:Nat))])
  (fun i=>[(3,1,⟨42,4,[eR tr],2⟩),(5,((l.take i).flatMap (om t)).length+1,⟨303,8,((l.take i).flatMap (om t)).map cA,1⟩)]) (fun i=>l.length-i) 0 (aP _) ⟨O,O,O,by rw[<-hml];rfl,O,O,O,trivial⟩ ?_
 intro i s hi;refine D ?_ ?_<;>intro h
 .have hlt:i<l.length:=by have:=aB h;omega
  clear h;obtain⟨x,hx⟩:=aC hlt;have hxm:=bm hx;have hxl:=hl.1 x hxm;have hkc:=eZ hck x hxm;obtain⟨h40,hSM,-,-⟩:=ic hkc;have hk8:=h8 x hxm;have hfl:(l.take (i+1)).flatMap (om t)=(l.take i).flatMap (om t)++om t x:=by rw[bS hx,uz];simp
  have hA:=hlen i hi;have hA1:=hlen (i+1) hlt;rw[hfl,bI,uf]at hA1;generalize (l.take i).flatMap (om t)=A at *
  have hw:=fg i;have hzx:Zb x.x:=aJ hxl.x.1 hxl.x.2;have e1:=cC x.x hxl.x;have e2:=i7 tr (ofQ (x.x:Rat)) J Y;have v2:Vq (ofQ (t*(x.x:Rat))) (t*(x.x:Rat)) (m+1+4):=Vq.ofQ (h:=@HQ.mul _ _ (m+1) 4 ht.hq HQ.int);have e3:=eY x.c (ofQ (t*(x.x:Rat))) (hx:=hxl.c.v) (hy:=v2) Y J;rw[show x.c.val+t*(x.x:Rat)=qK x t from O]at e3;have vb:Vq (ofQ (qK x t)) (qK x t) (13+(m+1+4)+1):=Vq.ofQ (h:=Fp hxl ht.hq);have hMl:(x.k.M.map eR).length=x.k.S.length:=by simp[hSM]
  refine aQ hx ?_;refine cN 5 ?_;refine am (fp 8) ?_;refine be [(8,8),(9,8)] aK aK ?_;refine G e1 ?_;refine G e2 ?_;refine G e3 ?_;refine G hw0 ?_;refine H ?_;refine aT [(3,.ptr 3 1 0 0),(5,.als 5 (A.length+1) 0 (A.map cA).length),(7,.ptr 7 ((s.own 7).1+1) 0 0),(8,.ptr 8 ((s.own 8).1+2+1) 0 0),(9,.ptr 9 ((s.own 9).1+1) 0 0),(12,.sl (l.map eS)),(13,I l.length),(14,I (i:Nat)),(29,.sl (x.k.M.map eR)),(30,I (x.k.M.map eR).length),(31,I ((0:Nat):Int))]
   [(3,1,⟨42,4,[eR tr],2⟩),(5,A.length+1,⟨303,8,A.map cA,1⟩),(7,(s.own 7).1+1,⟨136,7,[eS x],2⟩),(8,(s.own 8).1+2+1,⟨42,4,[eR (ofQ (qK x t))],2⟩),(9,(s.own 9).1+1,⟨42,4,[eR (MG x.k 0)],2⟩)]
   ⟨O,O,O,O,O,O,O,O,O,O,O,O,O,O,O,O,trivial⟩ ?_
  generalize (s.own 7).1+1=g7;generalize (s.own 8).1+2+1=g8;generalize (s.own 9).1+1=g9;rw[hMl];intro s1;refine ah (fun k:Nat=>k<=x.k.S.length) (fun k=>[(3,.ptr 3 1 0 0),(5,.als 5 (A.length+k+1) 0 ((A++(List.range k).map (bn x t)).map cA).length),(7,.ptr 7 g7 0 0),(8,.ptr 8 g8 0 0),(9,.ptr 9 g9 0 0),(12,.sl (l.map eS)),(13,I l.length),(14,I (i:Nat)),(29,.sl (x.k.M.map eR)),(30,I x.k.S.length),(31,I (k:Nat))])
   (fun k=>[(3,1,⟨42,4,[eR tr],2⟩),(5,A.length+k+1,⟨303,8,(A++(List.range k).map (bn x t)).map cA,1⟩),(7,g7,⟨136,7,[eS x],2⟩),(8,g8,⟨42,4,[eR (ofQ (qK x t))],2⟩),(9,g9,⟨42,4,[eR (MG x.k k)],2⟩)]) (fun k=>x.k.S.length-k) 0 (aP _)
   ⟨O,by rw[List.range_zero,gY,b8];rfl,O,O,O,O,O,O,O,O,O,O,by rw[List.range_zero,gY,b8];rfl,O,O,O,trivial⟩ ?_
  intro k s2 hk;refine D ?_ ?_<;>intro h
  .have hlk:k<x.k.S.length:=by have:=aB h;omega
   clear h;have hsx:=bF (d:=0) hlk;have hmx:=bF (l:=x.k.M) (i:=k) (d:=RR.zero) J;have hxb:=rP hxl.k k;have hzb:Zb (x.k.S.getD k 0):=aJ hxb.1 hxb.2;have f1:=cC (x.k.S.getD k 0) hxb;rw[show((x.k.S.getD k 0:Int):Rat)=x.k.s k from O]at f1;have vs:Vq (ofQ (x.k.s k)) (x.k.s k) 4:=Vq.ofQ (h:=HQ.int);have f2:=np (ofQ (x.k.s k)) (ofQ (qK x t)) (hx:=vs) (hy:=vb) Y J;have f3:=np (x.k.M.getD k RR.zero) (MG x.k k) (hx:=Co x.k hxl.k k) (hy:=yg x.k hxl.k k) Y Y;have hwk:IntKind.i64.wrap (((k:Nat):Int)+1)=((k+1:Nat):Int):=by rw[wrap_i64 J J];omega
   have hrow:(A++(List.range (k+1)).map (bn x t)).map cA=(A++(List.range k).map (bn x t)).map cA++[eR (ofQ (x.k.s k-qK x t))++eR (ofQ (x.k.m k-cE x.k.m k))]:=by rw[EA,<-bi,bc];rfl
   have hal:(A++(List.range k).map (bn x t)).length<=54:=by simp;omega
   generalize A++(List.range k).map (bn x t)=Ak,ofQ (x.k.s k-qK x t)=N1,ofQ (x.k.m k-cE x.k.m k)=N2,ofQ (x.k.s k)=N3 at *
   refine aQ hmx ?_;refine H ?_;refine bj [50,5] [14,15,16] aK ?_;refine aQ hsx ?_;refine G f1 ?_;refine G f2 ?_;refine G f3 ?_;refine H ?_;refine lr O O O (aY 1 O O O O O O O O O O O aH O ⟨gZ O,?_⟩);refine H ?_;refine lr O O O (bJ 1 O O O O O O O O O O O aH (by intro row hr;first|(simp at hr;subst hr;rfl)|(simp at hr;obtain⟨_,_,rfl⟩:=hr;rfl)|simp at hr) O O aV aV ⟨gZ O,?_⟩);refine H ?_;refine⟨k+1,hlk,J,O,?_,O,O,O,O,O,O,O,O,congrArg I hwk,O,?_,O,O,O,trivial⟩
   .rw[hrow];rfl
   .rw[hrow];rfl
  .have hke:k=x.k.S.length:=by have:=aE h;omega
   clear h;subst hke;rw[show(List.range x.k.S.length).map (bn x t)=om t x from O];have hgl:A.length+x.k.S.length=((l.take (i+1)).flatMap (om t)).length:=by rw[hfl,bI,uf]
   rw[<-hfl,hgl];refine H ?_;exact⟨i+1,hlt,J,O,O,O,O,congrArg I hw,O,O,trivial⟩
 .have hie:i=l.length:=by have:=aE h;omega
  clear h;subst hie;rw[bb];rw[show l.flatMap (om t)=pl l t from O];have hsz:∀p∈pl l t,p.at'.sz 7000000:=fun p hp=>by
   obtain⟨s,hs,k,hk,rfl⟩:=Jm hp;have:=fF (Fu (hl.1 s hs) ht.hq k).ok;exact⟨by have:=this.1;show(ofQ (s.k.s k-qK s t)).n.l.length<=7000000;omega,by have:=this.2;show(ofQ (s.k.s k-qK s t)).d.l.length<=7000000;omega⟩
  (refine cN 14 ?_;refine aU 1 ?_)
  refine iH O ?_;refine bH ?_;refine bC O (hS.run O O hsz ⟨O,trivial⟩ fun s1=>?_);rw[show dc cw (pl l t)=Jl l t from O];have hol:(Jl l t).length=(pl l t).length:=gM _ _;have hol2:((pl l t).map cA).length=((Jl l t).map cA).length:=by simp[hol]
  rw[hol2];refine aW ?_;refine H ?_;exact lB O O O aH O
def prB (n:BN):Rat × Rat:=(n.at'.val,n.up.val)
def kP (b:BR)(t:Rat):Rat:=I8 (b.w:Rat) ((Jl b.l t).map prB) 0 0 0
theorem MJ {l:List SR}{t:Rat}{n:BN}(h:n∈Jl l t):∃s∈l,∃k,k<s.k.S.length/\n=bn s t k:=Jm ((kO cw _).mem_iff.1 h)
theorem Cw {q:Rat}:ofQ (ofQ q).val=ofQ q:=by rw[ofQ_val]
theorem Db (b:BR)(hb:b.Ok){t:Rat}{m:Nat}(h40:(pl b.l t).length<=54)(hS:SortC (pl b.l t))(tr:RR)[ht:Vq tr t m](hm:m<=60000):aO 204 [.agg (eB b),.agg (eR tr)] (.agg (eA ⟨ofQ (kP b t),ofQ t⟩)):=by
 have hw0:=cC 0 ⟨Y,Y⟩;rw[show(((0:Int):Rat))=0 from O]at hw0;have hww:=cC b.w hb.lim.w;have zw:Zb b.w:=aJ hb.lim.w.1 hb.lim.w.2;have vw:Vq (ofQ (b.w:Rat)) (b.w:Rat) 4:=Vq.ofQ (h:=HQ.int);have hbe:=BF b.l hb.lim.l hb.chkL hb.few.2 (by have:=hb.few.1;omega) tr (m:=m) J h40 hS;have hlow:=Nh tr J;have hol:(Jl b.l t).length=(pl b.l t).length:=gM _ _;have hol40:(Jl b.l t).length<=54:=J;have hat:∀n∈Jl b.l t,n.at'=ofQ n.at'.val/\n.up=ofQ n.up.val/\HQ n.at'.val (m+30)/\HQ n.up.val 27:=fun n hn=>by
  obtain⟨s,hs,k,hk,rfl⟩:=MJ hn;refine⟨Cw.symm,Cw.symm,?_,?_⟩
  .show HQ (ofQ (s.k.s k-qK s t)).val (m+30);rw[ofQ_val];exact(Fu (hb.lim.l.1 s hs) ht.hq k).mono J
  .show HQ (ofQ (s.k.m k-cE s.k.m k)).val 27;rw[ofQ_val];exact wN (hb.lim.l.1 s hs).k k
 generalize hZ:kP b t=Z;rw[kP]at hZ;generalize Jl b.l t=B at *
 have hml:(B.map cA).length=B.length:=ao;obtain⟨w,ba,l⟩:=b;simp only at *
 generalize (w:Rat)=W at *
 refine ax Proofs.Tryz.func204 ?_;refine G hw0 ?_;refine G hw0 ?_;refine G hww ?_;refine G hw0 ?_;refine G hbe ?_;refine H ?_;refine ah (fun q:Nat × Rat × Rat × Rat=>q.1<=B.length/\I8 W ((B.drop q.1).map prB) q.2.1 q.2.2.1 q.2.2.2=Z/\HQ q.2.1 (q.1*(2*m+1700)+4)/\HQ q.2.2.1 (q.1*28+4)/\HQ q.2.2.2 (m+30)) (fun q=>[(3,.ptr 3 1 0 0),(4,.ptr 4 1 0 0),(5,.ptr 5 1 0 0),(6,.ptr 6 1 0 0),(7,.ptr 7 1 0 0),(8,.ptr 8 1 0 0),(21,.sl (B.map cA)),(22,I B.length),(23,I (q.1:Nat))])
  (fun q=>[(3,1,⟨42,4,[eR tr],2⟩),(4,1,⟨45,8,[zN++zN],2⟩),(5,1,⟨42,4,[eR (ofQ q.2.1)],2⟩),(6,1,⟨42,4,[eR (ofQ q.2.2.1)],2⟩),(7,1,⟨42,4,[eR (ofQ W)],2⟩),(8,1,⟨42,4,[eR (ofQ q.2.2.2)],2⟩)]) (fun q=>B.length-q.1) (0,0,0,0)
  ⟨aP _,by rw[ep];exact hZ,HQ.zero.mono J,HQ.zero.mono J,HQ.zero.mono J⟩ ⟨O,O,O,O,O,O,O,by rw[<-hml];rfl,O,O,O,O,O,O,O,trivial⟩ ?_
 rintro⟨i,c,k,a⟩ s ⟨hi,hS,hc,hk,ha⟩;simp only at hi hS hc hk ha;dsimp only;have hcb:i*(2*m+1700)+4<=54*(2*m+1700)+4:=by have:=et (show i<=54 by omega) (ke (2*m+1700));omega
 have vk:Vq (ofQ k) k (i*28+4):=Vq.ofQ (h:=hk);have vc:Vq (ofQ c) c (i*(2*m+1700)+4):=Vq.ofQ (h:=hc);have va:Vq (ofQ a) a (m+30):=Vq.ofQ (h:=ha);have sgk:=xi (ofQ k) (hx:=vk) J;have hsk:=fP k;have t1:=np (ofQ W) (ofQ c) (hx:=vw) (hy:=vc) Y J;have u1:Vq (ofQ (W-c)) (W-c) (4+(i*(2*m+1700)+4)+1):=Vq.ofQ (h:=@HQ.sub _ _ 4 _ (iJ vw) hc);generalize hgk:sgn k=gk at *
 refine D ?_ ?_<;>intro h
 .have hlt:i<B.length:=by have:=aB h;omega
  clear h;obtain⟨x,hx⟩:=aC hlt;obtain⟨x1,x2,x3,x4⟩:=hat x (bm hx);have hdr:(B.drop i).map prB=prB x::(B.drop (i+1)).map prB:=by
   obtain⟨hl1,h2⟩:=bV hx;rw[iZ hl1,h2];rfl
  rw[hdr,I8]at hS;have hw:=fg i;obtain⟨xa,xu⟩:=x;obtain⟨p,rfl⟩:∃p,xa=ofQ p:=⟨_,x1⟩;obtain⟨u,rfl⟩:∃u,xu=ofQ u:=⟨_,x2⟩;clear x1 x2;simp only[prB,ofQ_val]at hS x3 x4;have vp:Vq (ofQ p) p (m+30):=Vq.ofQ (h:=x3);have vu:Vq (ofQ u) u 27:=Vq.ofQ (h:=x4);have e1:=np (ofQ p) (ofQ a) (hx:=vp) (hy:=va) J J;have w1:Vq (ofQ (p-a)) (p-a) (m+30+(m+30)+1):=Vq.ofQ (h:=@HQ.sub _ _ _ _ x3 ha);have e2:=i7 (ofQ k) (ofQ (p-a)) (hx:=vk) (hy:=w1) J J;have w2:Vq (ofQ (k*(p-a))) (k*(p-a)) (i*28+4+(m+30+(m+30)+1)):=Vq.ofQ (h:=@HQ.mul _ _ _ _ hk (iJ w1));have e3:=eY (ofQ c) (ofQ (k*(p-a))) (hx:=vc) (hy:=w2) J J;have h3:HQ (c+k*(p-a)) ((i+1)*(2*m+1700)+4):=(@HQ.add _ _ _ _ hc (iJ w2)).mono (by rw[cb];omega);have w3:Vq (ofQ (c+k*(p-a))) (c+k*(p-a)) ((i+1)*(2*m+1700)+4):=Vq.ofQ (h:=h3);have hcb1:(i+1)*(2*m+1700)+4<=55*(2*m+1700)+4:=by have:=et (show i+1<=55 by omega) (ke (2*m+1700));omega
  have e4:=kw (ofQ (c+k*(p-a))) (ofQ W) (hx:=w3) (hy:=vw) J Y;have hs4:=Lz (c+k*(p-a)-W);have e5:=eY (ofQ k) (ofQ u) (hx:=vk) (hy:=vu) J Y;have h5:HQ (k+u) ((i+1)*28+4):=(@HQ.add _ _ _ _ hk x4).mono J;have h6:HQ c ((i+1)*(2*m+1700)+4):=hc.mono (by rw[cb];omega);by_cases hkp:0<k
  .have hkg:0<gk:=by rw[<-hgk];exact(fP k).2 hkp
   rw[if_pos hkp]at hS;by_cases hr:W<=c+k*(p-a)
   .rw[if_pos hr]at hS;have hr4:0<=sgn (c+k*(p-a)-W):=hs4.2 bM;have t2:=CB (ofQ (W-c)) (ofQ k) (hx:=u1) (hy:=vk) J J bM;have u2:Vq (ofQ ((W-c)/k)) ((W-c)/k) (4+(i*(2*m+1700)+4)+1+(i*28+4)):=Vq.ofQ (h:=@HQ.div _ _ _ _ (iJ u1) hk);have t3:=eY (ofQ a) (ofQ ((W-c)/k)) (hx:=va) (hy:=u2) J J;rw[hS]at t3;generalize sgn (c+k*(p-a)-W)=g4,ofQ (c+k*(p-a))=Y1 at *
    refine aQ hx ?_;refine aj sgk ?_;refine D ?_ ?_<;>intro h
    .clear h;refine cN 8 ?_;refine am (fp 11) ?_;refine be [(8,11),(9,11)] aK aK ?_;refine G e1 ?_;refine G e2 ?_;refine G e3 ?_;refine aj e4 ?_;refine D ?_ ?_<;>intro h
     .clear h;refine aj sgk ?_;refine D ?_ ?_<;>intro h
      .clear h;refine cO 7 [53,54,55,56,57,58,59] ?_;refine G t1 ?_;refine G t2 ?_;refine G t3 ?_;refine cO 4 [60,61,62,63] ?_;refine G hlow ?_;exact bW
      .exact absurd hkg (aE h)
     .exact absurd hr4 (aE h)
    .exact absurd hkg (aE h)
   .rw[if_neg hr]at hS;have hr4:¬0<=sgn (c+k*(p-a)-W):=fun h=>by have:=hs4.1 h;grind
    generalize sgn (c+k*(p-a)-W)=g4 at *
    generalize hY1:ofQ (c+k*(p-a))=Y1 at *
    generalize hY2:ofQ (k+u)=Y2 at *
    refine aQ hx ?_;refine aj sgk ?_;refine D ?_ ?_<;>intro h
    .clear h;refine cN 8 ?_;refine am (fp 11) ?_;refine be [(8,11),(9,11)] aK aK ?_;refine G e1 ?_;refine G e2 ?_;refine G e3 ?_;refine aj e4 ?_;refine D ?_ ?_<;>intro h
     .exact absurd (aB h) hr4
     .clear h;refine G e5 ?_;refine H ?_;refine⟨(i+1,c+k*(p-a),k+u,p),⟨hlt,hS,h3,h5,x3⟩,by simp only;omega,O,O,O,O,O,O,O,O,congrArg I hw,O,O,by rw[<-hY1];rfl,by rw[<-hY2];rfl,O,O,trivial⟩
    .exact absurd hkg (aE h)
  .have hkg:¬0<gk:=fun h=>hkp (by rw[<-hgk]at h;exact(fP k).1 h);rw[if_neg hkp]at hS;generalize hY2:ofQ (k+u)=Y2 at *
   refine aQ hx ?_;refine aj sgk ?_;refine D ?_ ?_<;>intro h
   .exact absurd (aB h) hkg
   .clear h;refine G e5 ?_;refine H ?_;refine⟨(i+1,c,k+u,p),⟨hlt,hS,h6,h5,x3⟩,by simp only;omega,O,O,O,O,O,O,O,O,congrArg I hw,O,O,O,by rw[<-hY2];rfl,O,O,trivial⟩
 .have hie:i=B.length:=by have:=aE h;omega
  clear h;rw[hie,fH,gY,I8]at hS;by_cases hkp:0<k
  .have hkg:0<gk:=by rw[<-hgk];exact(fP k).2 hkp
   rw[if_pos hkp]at hS;have t2:=CB (ofQ (W-c)) (ofQ k) (hx:=u1) (hy:=vk) J J bM;have u2:Vq (ofQ ((W-c)/k)) ((W-c)/k) (4+(i*(2*m+1700)+4)+1+(i*28+4)):=Vq.ofQ (h:=@HQ.div _ _ _ _ (iJ u1) hk);have t3:=eY (ofQ a) (ofQ ((W-c)/k)) (hx:=va) (hy:=u2) J J;rw[hS]at t3;refine aj sgk ?_;refine D ?_ ?_<;>intro h
   .clear h;refine cO 7 [53,54,55,56,57,58,59] ?_;refine G t1 ?_;refine G t2 ?_;refine G t3 ?_;refine cO 4 [60,61,62,63] ?_;refine G hlow ?_;exact bW
   .exact absurd hkg (aE h)
  .have hkg:¬0<gk:=fun h=>hkp (by rw[<-hgk]at h;exact(fP k).1 h);rw[if_neg hkp]at hS;refine aj sgk ?_;refine D ?_ ?_<;>intro h
   .exact absurd (aB h) hkg
   .clear h;refine cO 4 [60,61,62,63] ?_;refine G hlow ?_;refine H ?_;exact DZ O aH O aH (by rw[<-hS];rfl)
theorem m_ {b:BR}(hb:b.Ok):(bd b).Ok:=by
 refine⟨fun i hi=>Hh (eZ hb.chkL _ (bR hi)),?_⟩;have:=(BG hb.chk).1;show(0:Rat)<(b.w:Rat);have h:(0:Int)<b.w:=J
 exact_mod_cast h
theorem Qd {c:CR}(hc:c.Lim){p:Nat}(hp:p<=8):HQ (o_ c.s c.m p) 300:=by
 rw[o_];refine(b9 (m:=31) p fun k _=>?_).mono J;have hb:=rP hc k;have hzb:Zb (c.S.getD k 0):=aJ hb.1 hb.2;exact @HQ.mul _ _ 27 4 (wN hc k) HQ.int
theorem HI {b:BR}(hb:b.Ok)(p:Nat->Nat){i:Nat}(hi:i<b.l.length):HQ ((bd b).k p i) 13:=(yg _ (hb.lim.l.1 _ (bR hi)).k (p i)).hq
theorem Mo {b:BR}(hb:b.Ok){i:Nat}(hi:i<b.l.length):HQ ((bd b).X i) 4:=by
 have hx:=(hb.lim.l.1 _ (bR hi)).x;have hx:Zb (b.l.getD i dS).x:=aJ hx.1 hx.2;exact HQ.int
theorem Jb {b:BR}(hb:b.Ok)(p:Nat->Nat):HQ ((bd b).Kh p) 300:=(b9 (m:=13) b.l.length fun i hi=>HI hb p hi).mono (by have:=hb.few.1;omega)
theorem Ja {b:BR}(hb:b.Ok)(p:Nat->Nat):HQ ((bd b).Kc p) 300:=(b9 (m:=17) b.l.length fun i hi=>@HQ.mul _ _ 13 4 (HI hb p hi) (Mo hb hi)).mono (by have:=hb.few.1;omega)
theorem OB {b:BR}(hb:b.Ok)(p:Nat->Nat):HQ ((bd b).Kp p) 300:=(b9 (m:=21) b.l.length fun i hi=>@HQ.mul _ _ 17 4 (@HQ.mul _ _ 13 4 (HI hb p hi) (Mo hb hi)) (Mo hb hi)).mono (by have:=hb.few.1;omega)
theorem Kg {b:BR}(hb:b.Ok){p:Nat->Nat}(hp:∀i,i<b.l.length->p i<=(bd b).n i){i:Nat}(hi:i<b.l.length):HQ ((bd b).k p i*(bd b).C i-(bd b).o p i) 327:=by
 have h8:=hb.few.2 _ (bR hi);have hpi:=hp i hi;have hc:HQ ((bd b).C i) 13:=(hb.lim.l.1 _ (bR hi)).c.v.hq;exact @HQ.sub _ _ 26 300 (@HQ.mul _ _ 13 13 (HI hb p hi) hc) (Qd (hb.lim.l.1 _ (bR hi)).k (bL hpi h8))
theorem OA {b:BR}(hb:b.Ok){p:Nat->Nat}(hp:∀i,i<b.l.length->p i<=(bd b).n i):HQ ((bd b).Fo p) 4100:=(b9 (m:=327) b.l.length fun i hi=>Kg hb hp hi).mono (by have:=hb.few.1;omega)
theorem Ra {b:BR}(hb:b.Ok){p:Nat->Nat}(hp:∀i,i<b.l.length->p i<=(bd b).n i):HQ ((bd b).Go p) 4100:=(b9 (m:=331) b.l.length fun i hi=>@HQ.mul _ _ 327 4 (Kg hb hp hi) (Mo hb hi)).mono (by have:=hb.few.1;omega)
theorem Fy {z X D0:Rat}(hd:D0≠0):z+(X-z*D0)/D0=X/D0:=by grind
theorem MQ {h c p z t F G0 w M:Rat}(hd:h*p-c*c≠0):z+(p*(w-(h*z+c*t+F))-c*(M-(c*z+p*t+G0)))/(h*p-c*c)=(p*(w-F)-c*(M-G0))/(h*p-c*c):=by
 rw[show p*(w-(h*z+c*t+F))-c*(M-(c*z+p*t+G0))=(p*(w-F)-c*(M-G0))-z*(h*p-c*c) by grind,Fy hd]
theorem MR {h c p z t F G0 w M:Rat}(hd:h*p-c*c≠0):t+(h*(M-(c*z+p*t+G0))-c*(w-(h*z+c*t+F)))/(h*p-c*c)=(h*(M-G0)-c*(w-F))/(h*p-c*c):=by
 rw[show h*(M-(c*z+p*t+G0))-c*(w-(h*z+c*t+F))=(h*(M-G0)-c*(w-F))-t*(h*p-c*c) by grind,Fy hd]
theorem Gn {b:BR}(hb:b.Ok){p:Nat->Nat}{z t:Rat}(hp:(bd b).Inc p z t){d:Rat × Rat}(h:Bd.newt ((bd b).Kh p) ((bd b).Kc p) ((bd b).Kp p) ((bd b).w-(bd b).F z t) (-((bd b).e z t))=some d):HQ (z+d.1) 20000/\HQ (t+d.2) 20000:=by
 have hpn:∀i,i<b.l.length->p i<=(bd b).n i:=fun i hi=>(hp i hi).1;have hw:Zb b.w:=aJ hb.lim.w.1 hb.lim.w.2;have e1:=Bd.F_at (m_ hb) hp;have e2:=Bd.G_at (m_ hb) hp;rw[Bd.newt]at h;split at h
 .cases h
 .rename_i hd;cases h;have hf : -((bd b).e z t)=(bd b).w*(bd b).A-(bd b).G0 z t:=by rw[Bd.e];grind
  simp only;rw[hf,e1,e2,MQ hd,MR hd];have kh:=Jb hb p;have kc:=Ja hb p;have kp:=OB hb p;have fo:=OA hb hpn;have go:=Ra hb hpn;have wq:HQ ((bd b).w) 4:=HQ.int;have wa:HQ ((bd b).w*(bd b).A) 17:=Dw hb;have f1:=@HQ.sub _ _ 4 4100 wq fo;have g1:=@HQ.sub _ _ 17 4100 wa go;have dt:=@HQ.sub _ _ _ _ (@HQ.mul _ _ 300 300 kh kp) (@HQ.mul _ _ 300 300 kc kc);exact⟨(@HQ.div _ _ _ _ (@HQ.sub _ _ _ _ (@HQ.mul _ _ _ _ kp f1) (@HQ.mul _ _ _ _ kc g1)) dt).mono J,(@HQ.div _ _ _ _ (@HQ.sub _ _ _ _ (@HQ.mul _ _ _ _ kh g1) (@HQ.mul _ _ _ _ kc f1)) dt).mono J⟩
def OO (o:Option (Rat × Rat)):PV:=match o with
 |none => .tup [.agg (zN++zN),.bool false]
 |some x => .tup [.agg (eA ⟨ofQ x.1,ofQ x.2⟩),.bool true]
theorem rZ {x:RR}{p:Rat}{n m:Nat}(h:Vq x p n)(hm:n<=m):Vq x p m:=⟨h.val,bL h.sz.1 hm,bL h.sz.2 hm⟩
theorem J_ {b:BR}(hb:b.Ok)(z t:Rat):(bd b).Inc ((bd b).pR z t) z t:=fun i hi=>(Qk (n:=(bd b).n i) (S:=(bd b).S i) (y:=(bd b).y z t i)).c
theorem OP {b:BR}(hb:b.Ok)(z t:Rat):(bd b).Inc ((bd b).pL z t) z t:=fun i hi=>(Et (n:=(bd b).n i) (S:=(bd b).S i) (y:=(bd b).y z t i)).c
def Sq (b:BR)(p:Nat->Nat):PV := .agg (eK (ofQ ((bd b).Kh p)) (ofQ ((bd b).Kc p)) (ofQ ((bd b).Kp p)))
theorem E8 (b:BR)(hb:b.Ok)(a:AR){z t:Rat}{n m:Nat}[ha:Va a z t n m](hn:n+m<=60000):aO 254 [.sl (b.l.map eS),.clo 280 [.dref (eA a) 0]] (Sq b ((bd b).pR z t)) :=
 ze b.l hb.lim.l hb.few 280 (eA a) (fun s=>ofQ (cE s.k.m (tJ s.k.s (yQ s z t) s.k.S.length))) ((bd b).k ((bd b).pR z t)) (fun s hs=>w_ s (hb.lim.l.1 s hs) (eZ hb.chkL s hs) a J)
  (fun i hi=>rZ (Vq.ofQ (h:=HI hb ((bd b).pR z t) hi)) Y)
theorem E7 (b:BR)(hb:b.Ok)(a:AR){z t:Rat}{n m:Nat}[ha:Va a z t n m](hn:n+m<=60000):aO 254 [.sl (b.l.map eS),.clo 282 [.dref (eA a) 0]] (Sq b ((bd b).pL z t)) :=
 ze b.l hb.lim.l hb.few 282 (eA a) (fun s=>HN s.k (yQ s z t) s.k.S.length) ((bd b).k ((bd b).pL z t)) (fun s hs=>yA s (hb.lim.l.1 s hs) (eZ hb.chkL s hs) a J)
  (fun i hi=>rZ (Km (hb.lim.l.1 _ (bR hi)).k _ _) Y)
structure TryC (b:BR) (a:AR) (z t:Rat) (fo mo:RR) (p:Nat->Nat) (d:Option (Rat × Rat)):Prop where
 mv:aO 253 [Sq b p,.agg (eR fo),.agg (eR mo)] (wK d)
 af:∀x,d=some x->aO 256 [.agg (eA a),.agg (eA ⟨ofQ x.1,ofQ x.2⟩)] (.agg (eA ⟨ofQ (z+x.1),ofQ (t+x.2)⟩))
 ba:∀x,d=some x->aO 255 [.agg (eB b),.agg (eA ⟨ofQ (z+x.1),ofQ (t+x.2)⟩)] (.bool (decide ((bd b).Bal (z+x.1) (t+x.2))))
theorem Si (b:BR)(hb:b.Ok)(a:AR){z t:Rat}{n m:Nat}(ha:Va a z t n m)(hn:n+m<=50000){p:Nat->Nat}(hp:(bd b).Inc p z t) :
  TryC b a z t (ofQ ((bd b).w-(bd b).F z t)) (ofQ (-((bd b).e z t))) p (Bd.newt ((bd b).Kh p) ((bd b).Kc p) ((bd b).Kp p) ((bd b).w-(bd b).F z t) (-((bd b).e z t))):=by
 have hw:Zb b.w:=aJ hb.lim.w.1 hb.lim.w.2;have wq:HQ ((bd b).w) 4:=HQ.int;have hF:HQ ((bd b).w-(bd b).F z t) (96*(n+m+62)+400):=(@HQ.sub _ _ 4 (96*((n+1)+(m+1)+60)+200) wq (Mv hb.lim.l hb.few ha.z.hq ha.t.hq)).mono J;have hE:HQ (-((bd b).e z t)) (96*(n+m+62)+400):=(@HQ.neg _ _ (PN hb ha.z.hq ha.t.hq)).mono J;have hd:∀x,Bd.newt ((bd b).Kh p) ((bd b).Kc p) ((bd b).Kp p) ((bd b).w-(bd b).F z t) (-((bd b).e z t))=some x->HQ (z+x.1) 20000/\HQ (t+x.2) 20000:=fun x hx=>Gn hb hp hx;refine⟨HW _ _ _ _ _ (a:=300) (b:=96*(n+m+62)+400) (Vq.ofQ (h:=Jb hb p)) (Vq.ofQ (h:=Ja hb p)) (Vq.ofQ (h:=OB hb p)) (Vq.ofQ (h:=hF)) (Vq.ofQ (h:=hE)) Y J,fun x hx=>?_,fun x hx=>?_⟩
 .obtain⟨h1,h2⟩:=hd x hx;have q1:HQ x.1 (20000+(n+1)+1):=by
   have:=@HQ.sub _ _ 20000 (n+1) h1 ha.z.hq;rwa [show z+x.1-z=x.1 by grind]at this
  have q2:HQ x.2 (20000+(m+1)+1):=by
   have:=@HQ.sub _ _ 20000 (m+1) h2 ha.t.hq;rwa [show t+x.2-t=x.2 by grind]at this
  exact Hb a ⟨ofQ x.1,ofQ x.2⟩ (hd:=⟨Vq.ofQ (h:=q1),Vq.ofQ (h:=q2)⟩) J J J J
 .obtain⟨h1,h2⟩:=hd x hx;exact zu b hb ⟨ofQ (z+x.1),ofQ (t+x.2)⟩ (ha:=⟨Vq.ofQ (h:=h1),Vq.ofQ (h:=h2)⟩) Y
def IP (b:BR)(z t:Rat):Option (Rat × Rat)->Option (Rat × Rat)
 |none=>none
 |some d=>if (bd b).Bal (z+d.1) (t+d.2) then some (z+d.1,t+d.2) else none
def Q0 (b:BR)(z t:Rat)(p:Nat->Nat):Option (Rat × Rat):=Bd.newt ((bd b).Kh p) ((bd b).Kc p) ((bd b).Kp p) ((bd b).w-(bd b).F z t) (-((bd b).e z t))
theorem GN (b:BR)(z t:Rat)(p:Nat->Nat):(bd b).tryP z t p=IP b z t (Q0 b z t p):=by
 rw[Bd.tryP,Q0];cases Bd.newt ((bd b).Kh p) ((bd b).Kc p) ((bd b).Kp p) ((bd b).w-(bd b).F z t) (-((bd b).e z t))<;>rfl
theorem Hx (b:BR)(hb:b.Ok)(a:AR){z t:Rat}{n m:Nat}[ha:Va a z t n m](hn:n+m<=50000):aO 206 [.agg (eB b),.agg (eA a)] (OO ((bd b).guess z t)):=by
 have h1:=qA b.l hb.lim.l hb.chkL hb.few a J;have h2:=cC b.w hb.lim.w;have zw:Zb b.w:=aJ hb.lim.w.1 hb.lim.w.2;have v1:Vq (ofQ (aq (fI b.l z t) b.l.length)) (aq (fI b.l z t) b.l.length) (96*(n+1+(m+1)+60)+200):=Vq.ofQ (h:=Mv hb.lim.l hb.few ha.z.hq ha.t.hq);have h3:=np (ofQ (b.w:Rat)) (ofQ (aq (fI b.l z t) b.l.length)) (hy:=v1) Y J;rw[show(b.w:Rat)-aq (fI b.l z t) b.l.length=(bd b).w-(bd b).F z t from O]at h3;have h4:=vV b hb a J;have v4:Vq (ofQ ((bd b).e z t)) ((bd b).e z t) (96*(n+1+(m+1)+60)+200+17+1):=Vq.ofQ (h:=PN hb ha.z.hq ha.t.hq);have h5:=RD (ofQ ((bd b).e z t)) (hx:=v4) J;have h6:=yX a;have h7:=Ck a;have sR:=E8 b hb a (z:=z) (t:=t) J;have sL:=E7 b hb a (z:=z) (t:=t) J;have cR:=Si b hb a ha hn (J_ hb z t);have cL:=Si b hb a ha hn (OP hb z t);rw[show Bd.newt ((bd b).Kh ((bd b).pR z t)) ((bd b).Kc ((bd b).pR z t)) ((bd b).Kp ((bd b).pR z t)) ((bd b).w-(bd b).F z t) (-((bd b).e z t))=Q0 b z t ((bd b).pR z t) from O]at cR;rw[show Bd.newt ((bd b).Kh ((bd b).pL z t)) ((bd b).Kc ((bd b).pL z t)) ((bd b).Kp ((bd b).pL z t)) ((bd b).w-(bd b).F z t) (-((bd b).e z t))=Q0 b z t ((bd b).pL z t) from O]at cL;generalize hG:(bd b).guess z t=G0;rw[Bd.guess,GN,GN]at hG;generalize hPR:(bd b).pR z t=pR at *
 generalize hPL:(bd b).pL z t=pL at *
 obtain⟨m1,m2,m3⟩:=cR;obtain⟨l1,l2,l3⟩:=cL;generalize Q0 b z t pR=oR,Q0 b z t pL=oL at *
 rw[Sq]at sR sL m1 l1;generalize ofQ ((bd b).Kh pR)=R1,ofQ ((bd b).Kc pR)=R2,ofQ ((bd b).Kp pR)=R3,ofQ ((bd b).Kh pL)=L1,ofQ ((bd b).Kc pL)=L2,ofQ ((bd b).Kp pL)=L3,ofQ ((bd b).w-(bd b).F z t)=FO,ofQ (-((bd b).e z t))=MO,ofQ ((bd b).e z t)=EX,ofQ (aq (fI b.l z t) b.l.length)=TF,ofQ (aq (gI b.l z t) b.l.length)=TG at *
 refine ax Proofs.Tryz.func206 ?_;refine G h1 ?_;refine H ?_;refine be [(6,8),(7,8)] aK aK ?_;refine G h2 ?_;refine G h3 ?_;refine G h4 ?_;refine G h5 ?_;refine H ?_;refine bj [35] [4,5] aK ?_;refine G h6 ?_;refine G h7 ?_;refine H ?_;refine lr O O O (aY 2 O O O O O O O O O O O aH O ⟨gZ O,?_⟩);refine H ?_;refine ah (fun i:Nat=>(i=0/\(match IP b z t oR with|some x=>some x|none=>IP b z t oL)=G0)\/(i=1/\IP b z t oL=G0)\/(i=2/\G0=none)) (fun i=>[(2,.ptr 2 1 0 0),(3,.ptr 3 1 0 0),(4,.ptr 4 1 0 0),(8,.ptr 8 1 0 0),(9,.ptr 9 1 0 0),(35,.als 35 1 0 2),(36,I 2),(37,I (i:Nat))])
  (fun _=>[(2,1,⟨158,6,[eB b],2⟩),(3,1,⟨45,8,[eA a],2⟩),(4,1,⟨45,8,[zN++zN],2⟩),(8,1,⟨42,4,[eR FO],2⟩),(9,1,⟨42,4,[eR MO],2⟩),(35,1,⟨273,1,[[.clo 280 [.dref (eA a) 0]],[.clo 282 [.dref (eA a) 0]]],2⟩)]) (fun i=>2-i) 0 (.inl ⟨O,hG⟩) ⟨O,O,O,O,O,O,O,O,O,O,O,O,O,O,trivial⟩ ?_
 intro i s hi;rcases hi with⟨rfl,hG⟩|⟨rfl,hG⟩|⟨rfl,hG⟩
 .cases oR with
  |none =>
   refine H ?_;refine cf O O (cQ O O O O O O O Y Y) ?_;refine H ?_;refine bj [12] [10,11] aK ?_;refine G sR ?_;refine G m1 ?_;refine cO 8 [51,52,53,54,55,56,57,58] ?_;refine H ?_;exact⟨1,.inr (.inl ⟨O,hG⟩),Y,O,O,O,O,O,O,O,O,O,O,O,O,O,O,trivial⟩
  |some d =>
   have k1:=m2 d O;have k2:=m3 d O;rw[wK]at m1;rw[IP]at hG;by_cases hbal:(bd b).Bal (z+d.1) (t+d.2)
   .rw[decide_eq_true hbal]at k2;rw[if_pos hbal]at hG;try simp only at hG
    subst hG;rw[OO];dsimp only;generalize ofQ (z+d.1)=Y1,ofQ (t+d.2)=Y2,ofQ d.1=Y3,ofQ d.2=Y4 at *
    refine H ?_;refine cf O O (cQ O O O O O O O Y Y) ?_;refine H ?_;refine bj [12] [10,11] aK ?_;refine G sR ?_;refine G m1 ?_;refine cO 8 [51,52,53,54,55,56,57,58] ?_;refine G k1 ?_;refine aj k2 ?_;refine G k1 ?_;exact bW
   .rw[decide_eq_false hbal]at k2;rw[if_neg hbal]at hG;try simp only at hG
    generalize ofQ (z+d.1)=Y1,ofQ (t+d.2)=Y2,ofQ d.1=Y3,ofQ d.2=Y4 at *
    refine H ?_;refine cf O O (cQ O O O O O O O Y Y) ?_;refine H ?_;refine bj [12] [10,11] aK ?_;refine G sR ?_;refine G m1 ?_;refine cO 8 [51,52,53,54,55,56,57,58] ?_;refine G k1 ?_;refine aj k2 ?_;refine H ?_;exact⟨1,.inr (.inl ⟨O,hG⟩),Y,O,O,O,O,O,O,O,O,O,O,O,O,O,O,trivial⟩
 .cases oL with
  |none =>
   refine H ?_;refine cf O O (cQ O O O O O O O Y Y) ?_;refine H ?_;refine bj [12] [10,11] aK ?_;refine G sL ?_;refine G l1 ?_;refine cO 8 [51,52,53,54,55,56,57,58] ?_;refine H ?_;exact⟨2,.inr (.inr ⟨O,hG.symm⟩),Y,O,O,O,O,O,O,O,O,O,O,O,O,O,O,trivial⟩
  |some d =>
   have k1:=l2 d O;have k2:=l3 d O;rw[wK]at l1;rw[IP]at hG;by_cases hbal:(bd b).Bal (z+d.1) (t+d.2)
   .rw[decide_eq_true hbal]at k2;rw[if_pos hbal]at hG;try simp only at hG
    subst hG;rw[OO];dsimp only;generalize ofQ (z+d.1)=Y1,ofQ (t+d.2)=Y2,ofQ d.1=Y3,ofQ d.2=Y4 at *
    refine H ?_;refine cf O O (cQ O O O O O O O Y Y) ?_;refine H ?_;refine bj [12] [10,11] aK ?_;refine G sL ?_;refine G l1 ?_;refine cO 8 [51,52,53,54,55,56,57,58] ?_;refine G k1 ?_;refine aj k2 ?_;refine G k1 ?_;exact bW
   .rw[decide_eq_false hbal]at k2;rw[if_neg hbal]at hG;try simp only at hG
    generalize ofQ (z+d.1)=Y1,ofQ (t+d.2)=Y2,ofQ d.1=Y3,ofQ d.2=Y4 at *
    refine H ?_;refine cf O O (cQ O O O O O O O Y Y) ?_;refine H ?_;refine bj [12] [10,11] aK ?_;refine G sL ?_;refine G l1 ?_;refine cO 8 [51,52,53,54,55,56,57,58] ?_;refine G k1 ?_;refine aj k2 ?_;refine H ?_;exact⟨2,.inr (.inr ⟨O,hG.symm⟩),Y,O,O,O,O,O,O,O,O,O,O,O,O,O,O,trivial⟩
 .subst hG;exact bW
def rV (s:SR)(z t:Rat):Rat:=cE s.k.m (tJ s.k.s (yQ s z t) s.k.S.length)
def lV (s:SR)(z t:Rat):Rat:=cE s.k.m (yL s.k.s (yQ s z t) s.k.S.length)
def yH (z t A B:Rat)(s:SR):Bool:=decide (¬((0<A+B*(s.x:Rat)/\rV s z t≠0)\/(A+B*(s.x:Rat)<0/\lV s z t≠0)))
def ng (l:List SR)(z t A B:Rat):Bool:=l.all (yH z t A B)
theorem GE {p:Rat}(h:0<p):sgn p=1:=by rw[sgn,if_neg bM,if_neg bM]
theorem GD {p:Rat}(h:p<0):sgn p = -1:=by rw[sgn,if_pos h]
theorem xg {p:Rat}(h:p=0):sgn p=0:=(gy p).2 h
theorem LA {p:Rat}(h:p≠0):sgn p=1\/sgn p = -1:=by
 rcases dD (0<p) with h1|h1
 .exact .inl (GE h1)
 .exact .inr (GD bM)
theorem JR (b:BR)(hb:b.Ok)(a:AR){z t:Rat}{n m:Nat}[ha:Va a z t n m](hn:n+m<=50000)(r:AR){A B:Rat}{n' m':Nat}(hr:Va r A B n' m')(h2:n'<=100000)(h3:m'<=100000):aO 210 [.agg (eB b),.agg (eA a),.agg (eA r)] (.bool (ng b.l z t A B)):=by
 have h6:=yX a;have h7:=Ck a;have hck:=hb.chkL;have hl:=hb.lim.l;have h12:=hb.few.1;have hrz:=hr.z;have hrt:=hr.t;generalize hF:ng b.l z t A B=F;rw[ng]at hF;obtain⟨w,ba,l⟩:=b;simp only at *
 have hml:(l.map eS).length=l.length:=ao;obtain⟨rz,rt⟩:=r;simp only at hrz hrt;refine ax Proofs.Tryz.func210 ?_;refine H ?_;refine ah (fun i:Nat=>i<=l.length/\(l.drop i).all (yH z t A B)=l.all (yH z t A B)) (fun i=>[(4,.ptr 4 1 0 0),(5,.ptr 5 1 0 0),(11,.sl (l.map eS)),(12,I l.length),(13,I (i:Nat))])
  (fun i=>[(4,1,⟨45,8,[eA a],2⟩),(5,1,⟨71,8,[eA ⟨rz,rt⟩],2⟩)]) (fun i=>l.length-i) 0 ⟨aP _,by rw[ep]⟩ ⟨O,O,O,by rw[<-hml];rfl,O,O,O,trivial⟩ ?_
 intro i s ⟨hi,hall⟩;refine D ?_ ?_<;>intro h
 .have hlt:i<l.length:=by have:=aB h;omega
  clear h;obtain⟨x,hx⟩:=aC hlt;have hxm:=bm hx;have hxl:=hl.1 x hxm;have hkc:=eZ hck x hxm;have zx:Zb x.x:=aJ hxl.x.1 hxl.x.2;have hw:=fg i;have hdr:(l.drop i).all (yH z t A B)=(yH z t A B x&&(l.drop (i+1)).all (yH z t A B)):=by
   obtain⟨hl1,h2⟩:=bV hx;rw[iZ hl1,h2,rB]
  rw[hdr]at hall;have hbd:yH z t A B x=yH z t A B x:=O
  conv at hbd=>rhs;rw[yH]
  have e1:=cC x.x hxl.x;have e2:=i7 rt (ofQ (x.x:Rat)) (hx:=hrt) J Y;have v2:Vq (ofQ (B*(x.x:Rat))) (B*(x.x:Rat)) (m'+1+4):=Vq.ofQ (h:=@HQ.mul _ _ (m'+1) 4 hrt.hq HQ.int);have e3:=eY rz (ofQ (B*(x.x:Rat))) (hx:=hrz) (hy:=v2) J J;have v3:Vq (ofQ (A+B*(x.x:Rat))) (A+B*(x.x:Rat)) (n'+1+(m'+1+4)+1):=Vq.ofQ (h:=@HQ.add _ _ (n'+1) _ hrz.hq (iJ v2));have e4:=xi (ofQ (A+B*(x.x:Rat))) (hx:=v3) J;have cr:=w_ x hxl hkc a (z:=z) (t:=t) J;have cl:=yA x hxl hkc a (z:=z) (t:=t) J;rw[show cE x.k.m (tJ x.k.s (yQ x z t) x.k.S.length)=rV x z t from O]at cr;have vr:Vq (ofQ (rV x z t)) (rV x z t) 13:=Vq.ofQ (h:=(yg x.k hxl.k _).hq);have vl:Vq (HN x.k (yQ x z t) x.k.S.length) (lV x z t) 12:=Km hxl.k _ _;have sr:=xi (ofQ (rV x z t)) (hx:=vr) Y;have sl:=xi (HN x.k (yQ x z t) x.k.S.length) (hx:=vl) Y;generalize ofQ (rV x z t)=RV,HN x.k (yQ x z t) x.k.S.length=LV,yH z t A B x=ok,ofQ (A+B*(x.x:Rat))=D1,ofQ (B*(x.x:Rat))=D2,ofQ (x.x:Rat)=D3 at *
  rcases dD (0<A+B*(x.x:Rat)) with hd|hd
  .rw[GE hd]at e4;rcases dD (rV x z t=0) with hz|hz
   .rw[xg hz]at sr;have hbad:ok=true:=by rw[hbd,decide_eq_true];rintro(⟨_,h⟩|⟨h,_⟩);exact h hz;grind
    rw[hbad,io]at hall;refine aQ hx ?_;refine cO 11 [17,18,19,20,21,22,23,24,25,26,9] ?_;refine G e1 ?_;refine G e2 ?_;refine G e3 ?_;refine aj e4 ?_;refine cO 22 [27,28,29,30,31,32,33,34,35,36,37,38,39,40,41,42,43,44,45,46,47,48] ?_;refine G h6 ?_;refine G cr ?_;refine aj sr ?_;refine H ?_;exact⟨i+1,⟨J,hall⟩,J,O,O,O,O,congrArg I hw,O,O,trivial⟩
   .have hbad:ok=false:=by rw[hbd,decide_eq_false];exact fun h=>h (.inl ⟨hd,hz⟩)
    rw[hbad,eP]at hall;rcases LA hz with hs|hs
    .rw[hs]at sr;refine aQ hx ?_;refine cO 11 [17,18,19,20,21,22,23,24,25,26,9] ?_;refine G e1 ?_;refine G e2 ?_;refine G e3 ?_;refine aj e4 ?_;refine cO 22 [27,28,29,30,31,32,33,34,35,36,37,38,39,40,41,42,43,44,45,46,47,48] ?_;refine G h6 ?_;refine G cr ?_;refine aj sr ?_;refine H ?_;exact fj O O (by rw[<-hF,<-hall])
    .rw[hs]at sr;refine aQ hx ?_;refine cO 11 [17,18,19,20,21,22,23,24,25,26,9] ?_;refine G e1 ?_;refine G e2 ?_;refine G e3 ?_;refine aj e4 ?_;refine cO 22 [27,28,29,30,31,32,33,34,35,36,37,38,39,40,41,42,43,44,45,46,47,48] ?_;refine G h6 ?_;refine G cr ?_;refine aj sr ?_;refine H ?_;exact fj O O (by rw[<-hF,<-hall])
  .rcases dD (A+B*(x.x:Rat)<0) with hd2|hd2
   .rw[GD hd2]at e4;rcases dD (lV x z t=0) with hz|hz
    .rw[xg hz]at sl;have hbad:ok=true:=by rw[hbd,decide_eq_true];rintro(⟨h,_⟩|⟨_,h⟩);exact hd h;exact h hz
     rw[hbad,io]at hall;refine aQ hx ?_;refine cO 11 [17,18,19,20,21,22,23,24,25,26,9] ?_;refine G e1 ?_;refine G e2 ?_;refine G e3 ?_;refine aj e4 ?_;refine cO 22 [27,28,29,30,31,32,33,34,35,36,37,38,39,40,41,42,43,44,45,46,47,48] ?_;refine G h7 ?_;refine G cl ?_;refine aj sl ?_;refine H ?_;exact⟨i+1,⟨J,hall⟩,J,O,O,O,O,congrArg I hw,O,O,trivial⟩
    .have hbad:ok=false:=by rw[hbd,decide_eq_false];exact fun h=>h (.inr ⟨hd2,hz⟩)
     rw[hbad,eP]at hall;rcases LA hz with hs|hs
     .rw[hs]at sl;refine aQ hx ?_;refine cO 11 [17,18,19,20,21,22,23,24,25,26,9] ?_;refine G e1 ?_;refine G e2 ?_;refine G e3 ?_;refine aj e4 ?_;refine cO 22 [27,28,29,30,31,32,33,34,35,36,37,38,39,40,41,42,43,44,45,46,47,48] ?_;refine G h7 ?_;refine G cl ?_;refine aj sl ?_;refine H ?_;exact fj O O (by rw[<-hF,<-hall])
     .rw[hs]at sl;refine aQ hx ?_;refine cO 11 [17,18,19,20,21,22,23,24,25,26,9] ?_;refine G e1 ?_;refine G e2 ?_;refine G e3 ?_;refine aj e4 ?_;refine cO 22 [27,28,29,30,31,32,33,34,35,36,37,38,39,40,41,42,43,44,45,46,47,48] ?_;refine G h7 ?_;refine G cl ?_;refine aj sl ?_;refine H ?_;exact fj O O (by rw[<-hF,<-hall])
   .rw[xg (show A+B*(x.x:Rat)=0 by grind)]at e4;have hbad:ok=true:=by rw[hbd,decide_eq_true];rintro(⟨h,_⟩|⟨h,_⟩);exact hd h;exact hd2 h
    rw[hbad,io]at hall;refine aQ hx ?_;refine cO 11 [17,18,19,20,21,22,23,24,25,26,9] ?_;refine G e1 ?_;refine G e2 ?_;refine G e3 ?_;refine aj e4 ?_;refine cO 22 [27,28,29,30,31,32,33,34,35,36,37,38,39,40,41,42,43,44,45,46,47,48] ?_;refine H ?_;exact⟨i+1,⟨J,hall⟩,J,O,O,O,O,congrArg I hw,O,O,trivial⟩
 .have hie:i=l.length:=by have:=aE h;omega
  clear h;rw[hie,fH,List.all_nil]at hall;rw[<-hall]at hF;subst hF;exact fC
theorem Ej (b:BR)(hb:b.Ok)(a:AR){z t:Rat}{n m:Nat}[ha:Va a z t n m](hn:n+m<=50000)(r:AR){A B:Rat}{n' m':Nat}(hr:Va r A B n' m')(h2:n'<=100000)(h3:m'<=100000):aO 209 [.agg (eA r),.dref (eB b) 0,.dref (eA a) 0] (.bool (ng b.l z t A B)):=by
 have h1:=JR b hb a (z:=z) (t:=t) hn r hr h2 h3;generalize ng b.l z t A B=F at *
 refine ax Proofs.Tryz.func209 ?_;refine aj h1 ?_;exact fC
def wj (p:AR->Bool):List AR->Nat->Int
 |[],_ => -1
 |d::l,i=>if p d=true then(i:Int) else wj p l (i+1)
theorem B_ (p:AR->Bool):∀(l:List AR) (i:Nat),decide (0<=wj p l i)=l.any p
 |[],i=>rfl
 |d::l,i=>by
  rw[wj,uK];cases h:p d
  .rw[if_neg Y,B_ p l (i+1),jK]
  .rw[if_pos O,ip,decide_eq_true];omega
theorem Hz (p:AR->Bool){l:List AR}{i:Nat}{x:AR}(h:l[i]? = some x):wj p (l.drop i) i=if p x=true then(i:Int) else wj p (l.drop (i+1)) (i+1):=by
 obtain⟨hl,rfl⟩:=bV h;rw[iZ hl,wj]
theorem Eg (T:List AR)(hT:T.length<=1000)(f:FuncId)(c1 c2:List PV)(p:AR->Bool)(hg:∀d∈T,aO f [.agg (eA d),.dref c1 0,.dref c2 0] (.bool (p d))):aO 257 [.sl (T.map eA),.clo f [.dref c1 0,.dref c2 0]] (I (wj p T 0)):=by
 have hml:(T.map eA).length=T.length:=ao;generalize hF:wj p T 0=F;refine ax Proofs.Tryz.func257 ?_;refine H ?_;refine ah (fun i:Nat=>i<=T.length/\wj p (T.drop i) i=F) (fun i=>[(0,.sl (T.map eA)),(1,.clo f [.dref c1 0,.dref c2 0]),(7,I T.length),(8,I (i:Nat))])
  (fun _=>[]) (fun i=>T.length-i) 0 ⟨aP _,by rw[ep];exact hF⟩ ⟨O,O,by rw[<-hml];rfl,O,trivial⟩ ?_
 intro i s ⟨hi,hall⟩;refine D ?_ ?_<;>intro h
 .have hlt:i<T.length:=by have:=aB h;omega
  clear h;obtain⟨x,hx⟩:=aC hlt;have hgx:=hg x (bm hx);have hw:=fg i;rw[Hz p hx]at hall;cases hp:p x with
  |true =>
   rw[hp]at hgx;rw[if_pos hp]at hall;refine aQ hx ?_;refine aj hgx ?_;refine H ?_;exact pm O O (by rw[<-hall])
  |false =>
   rw[hp]at hgx;rw[if_neg (by rw[hp];decide)]at hall;refine aQ hx ?_;refine aj hgx ?_;refine H ?_;exact⟨i+1,⟨J,hall⟩,J,O,O,O,congrArg I hw,trivial⟩
 .have hie:i=T.length:=by have:=aE h;omega
  clear h;rw[hie,fH,wj]at hall;rw[<-hall];exact co
theorem xW (T:List AR)(hT:T.length<=1000)(f:FuncId)(c1 c2:List PV)(p:AR->Bool)(hg:∀d∈T,aO f [.agg (eA d),.dref c1 0,.dref c2 0] (.bool (p d))):aO 208 [.sl (T.map eA),.clo f [.dref c1 0,.dref c2 0]] (.bool (T.any p)):=by
 have h1:=Eg T hT f c1 c2 p hg;rw[<-B_ p T 0];generalize wj p T 0=F at *
 refine ax Proofs.Tryz.func208 ?_;refine aj h1 ?_;exact fC
theorem Fg {K:St->Prop}{s:St}{d g2 g3:Nat}{R2 R3:Cont}{x:Operand}{tys:Array TypeId}{ty:TypeId}{pos:String}{af:Array Edge}(l:List SR)(hl:ma l)(h12:l.length<=1000)(hck:dV l=0)
  (hx:s.ev x = .sl (l.map eS)) (ho:FitO s [(2,g2,R2),(1003,g3,R3)])
  (hK:∀(s1:St) (g:Nat),K (({ reg:=s.reg,own:=(s1.over [] [(2,g2,R2),(1003,g3,R3),(3,g,⟨71,8,(f_ l).map eA,1⟩)]).own }:St).putR d (.als 3 g 0 ((f_ l).map eA).length))) :
  Sm Tryz.prog lay.get s ⟨some d,.call ⟨.value (.func 201),#[x],tys⟩,ty,pos,af,none⟩ K:=by
 have hp:=wS l hl h12;have hrg:∀x∈cZ l,-1000000<=x/\x<=1000000:=fun x hx=>li hck hx;have hpl:=mP l;have w1:=cC 1 ⟨Y,Y⟩;have w2:=cC (-1) ⟨Y,Y⟩;rw[f_]at hK;generalize cZ l=Pl at *
 have hml:(Pl.map eN).length=Pl.length:=ao;have hrows:∀(k:Nat) x,Pl[k]? = some x->((Pl.take (k+1)).map yc).map eA=((Pl.take k).map yc).map eA++[eA (yc x)]:=fun k x hx=>by rw[bS hx,bc,bc];rfl
 have hrows2:∀(k:Nat) x,Pl[k]? = some x->(Pl.map yc++(Pl.take (k+1)).map FC).map eA=(Pl.map yc++(Pl.take k).map FC).map eA++[eA (FC x)]:=fun k x hx=>by rw[bS hx];simp[bc]
 refine cS layOk O O Tryz.func201 O Y O O ?_;show PWP _ _ _ _ (bO s (([x]:List Operand).map s.ev++[]));rw[show(([x]:List Operand).map s.ev++([]:List PV))=[.sl (l.map eS)] by simp[hx]];rw[show bO s [.sl (l.map eS)]=bO (s.over [] [(2,g2,R2),(1003,g3,R3)]) [.sl (l.map eS)] by rw[Fit.over (l:=[]) ho]]
 ((repeat (first|refine bH ?_ | refine dT ?_ | refine dF ?_ | refine dy ?_));refine bZ ?_)
 refine lZ O trivial ?_
 ((repeat (first|refine bH ?_ | refine dT ?_ | refine dF ?_ | refine dy ?_));refine bZ ?_)
 (first|refine ay (kG 71 8 1 O O ?_)|refine ay (kF 71 8 1 O O ?_))
 refine G hp ?_;refine H ?_;refine aT [(0,.sl (l.map eS)),(3,.als 3 ((s.own 3).1+1) 0 0),(9,.sl (Pl.map eN)),(10,I (Pl.map eN).length),(11,I ((0:Nat):Int))] [(2,g2,R2),(1003,g3,R3),(3,(s.own 3).1+1,⟨71,8,[],1⟩)] ⟨O,O,O,O,O,O,O,O,trivial⟩ ?_;generalize (s.own 3).1+1=g;rw[hml];intro s0;refine ah (fun k=>k<=Pl.length) (fun k=>[(0,.sl (l.map eS)),(3,.als 3 (g+k) 0 (((Pl.take k).map yc).map eA).length),(9,.sl (Pl.map eN)),(10,I Pl.length),(11,I k)]) (fun k=>[(2,g2,R2),(1003,g3,R3),(3,g+k,⟨71,8,((Pl.take k).map yc).map eA,1⟩)]) (fun k=>Pl.length-k) 0 (aP _) ⟨O,O,O,O,O,O,O,O,trivial⟩ ?_;intro k s1 hk;refine D ?_ ?_<;>intro h
 .have hlt:k<Pl.length:=by have:=aB h;omega
  clear h;obtain⟨x,hx⟩:=aC hlt;have hr:=hrg x (bm hx);have hnx:=cC (-x) ⟨J,J⟩;have hw:=fg k;have hn:IntKind.i64.wrap (0-x) = -x:=by rw[wrap_i64 J J];omega
  refine aQ hx ?_;refine H ?_;rw[hn];refine sT O O O hnx O O ?_;refine G w1 ?_;refine H ?_;refine ay (aY 1 O O O O O O O O O O O aH O ?_);refine H ?_;refine ay (bJ 1 O O O O O O O O O O O aH (by intro row hr;first|(simp at hr;subst hr;rfl)|simp at hr) O O aV aV ?_);refine H ?_;refine⟨k+1,hlt,J,O,?_,O,O,congrArg I hw,O,O,?_,trivial⟩
  .rw[hrows k x hx];rfl
  .rw[hrows k x hx];rfl
 .have hge:k=Pl.length:=by have:=aE h;omega
  subst hge;clear h;rw[bb];refine G hp ?_;refine H ?_;refine ah (fun k=>k<=Pl.length) (fun k=>[(3,.als 3 (g+Pl.length+k) 0 ((Pl.map yc++(Pl.take k).map FC).map eA).length),(25,.sl (Pl.map eN)),(26,I Pl.length),(27,I k)]) (fun k=>[(2,g2,R2),(1003,g3,R3),(3,g+Pl.length+k,⟨71,8,(Pl.map yc++(Pl.take k).map FC).map eA,1⟩)]) (fun k=>Pl.length-k) 0 (aP _) ⟨by rw[eu,gY,b8];rfl,O,by rw[<-hml];rfl,O,O,O,by rw[eu,gY,b8];rfl,trivial⟩ ?_;intro k s2 hk;refine D ?_ ?_<;>intro h
  .have hlt:k<Pl.length:=by have:=aB h;omega
   clear h;obtain⟨x,hx⟩:=aC hlt;have hr:=hrg x (bm hx);have hnx:=cC x ⟨J,J⟩;have hw:=fg k;refine aQ hx ?_;refine G hnx ?_;refine G w2 ?_;refine H ?_;refine ay (aY 1 O O O O O O O O O O O aH O ?_);refine H ?_;refine ay (bJ 1 O O O O O O O O O O O aH (by intro row hr;first|(simp at hr;subst hr;rfl)|simp at hr) O O aV aV ?_);refine H ?_;refine⟨k+1,hlt,J,?_,O,O,congrArg I hw,O,O,?_,trivial⟩
   .rw[hrows2 k x hx];rfl
   .rw[hrows2 k x hx];rfl
  .have hge:k=Pl.length:=by have:=aE h;omega
   subst hge;clear h;rw[bb];refine H ?_;exact zQ O O (hK s2 (g+Pl.length+Pl.length))
def O9:AR:=⟨ofQ ((-1:Int):Rat),ofQ ((0:Int):Rat)⟩
def nF (l:List SR):List AR:=f_ l++[iK,O9]
def nK (b:BR)(z t:Rat):Bool:=(nF b.l).any fun d=>ng b.l z t d.z.val d.t.val
theorem MX {l:List SR}(hck:dV l=0){r:AR}(h:r∈nF l):Va r r.z.val r.t.val 4 4:=by
 rw[nF,i5]at h;rcases h with h|h
 .exact GO hck h
 .simp at h;rcases h with rfl|rfl
  .exact FE
  .exact⟨vI ⟨Y,Y⟩,vI ⟨Y,Y⟩⟩
theorem Og {r1 r2:List PV}{n:Nat}(h1:r1.length=n)(h2:r2.length=n):∀row∈[r1,r2],row.length=n:=by
 intro row hr;rcases cG.1 hr with rfl|hr
 .exact h1
 .rcases cG.1 hr with rfl|hr
  .exact h2
  .cases hr
theorem yB (b:BR)(hb:b.Ok)(a:AR){z t:Rat}{n m:Nat}[ha:Va a z t n m](hn:n+m<=50000):aO 143 [.agg (eB b),.agg (eA a)] (.bool (nK b z t)):=by
 have hl:=hb.lim.l;have hck:=hb.chkL;have h12:=hb.few.1;have hlen:(nF b.l).length<=1000:=by
  have:=mP b.l;rw[nF,f_];simp;omega
 have hc:=xW (nF b.l) hlen 209 (eB b) (eA a) (fun d=>ng b.l z t d.z.val d.t.val) fun d hd=>Ej b hb a (z:=z) (t:=t) hn d (MX hck hd) Y Y;rw[show(nF b.l).any (fun d=>ng b.l z t d.z.val d.t.val)=nK b z t from O]at hc;have w1:=cC 1 ⟨Y,Y⟩;have w0:=cC 0 ⟨Y,Y⟩;have w2:=cC (-1) ⟨Y,Y⟩;generalize nK b z t=F at *
 have hT:(f_ b.l).length<=1000:=by rw[nF]at hlen;simp at hlen;omega
 have hrow:(f_ b.l).map eA++[eA iK,eA O9]=(nF b.l).map eA:=by rw[nF,bc];rfl
 refine ax Proofs.Tryz.func143 ?_;refine cN 1 ?_;refine am (Ghost.move (k:=3) (k':=1003) (t:=3) O O O O) ?_
 (refine cN 1 ?_;refine aU 2 ?_)
 iterate 2 refine iH O ?_
 refine bH ?_;refine bC O (Fg (g2:=1) (g3:=1) b.l hl J hck O ⟨O,O,trivial⟩ fun s1 g=>?_);refine aW ?_;refine G w1 ?_;refine G w0 ?_;refine G w2 ?_;refine G w0 ?_;refine H ?_;refine ay (aY 1 O O O O O O O O O O O aH O ?_);refine H ?_;refine ay (bJ 1 O O O O O O O O O O O aH (Og O O) O O aV aV ?_);refine cN 2 ?_;refine am (Ghost.data (k:=2) (t:=2) O O O O) ?_;refine am (Ghost.data (k:=1003) (t:=3) O O O O) ?_;refine H ?_;rw[<-hrow]at hc;refine OW O O O hc O O O ?_;exact fC
theorem Re (s:SR)(t:Rat)(k:Nat):prB (bn s t k)=(s.k.s k-(s.c.val+t*(s.x:Rat)),s.k.m k-cE s.k.m k):=by
 rw[prB,bn,ofQ_val,ofQ_val];rfl
theorem PC (b:BR)(t:Rat):(pl b.l t).map prB=(bd b).bnds t:=by
 rw[pl,Bd.bnds,List.map_flatMap];show _=(List.range b.l.length).flatMap ((bd b).bnd1 t);have e:∀s:SR,(om t s).map prB=(List.range s.k.S.length).map fun k=>(s.k.s k-(s.c.val+t*(s.x:Rat)),s.k.m k-cE s.k.m k):=by
  intro s;rw[om,jM];exact dC fun k _=>Re s t k
 have key:∀(l:List SR),(l.flatMap fun s=>(om t s).map prB)=(List.range l.length).flatMap fun i=>(om t (l.getD i dS)).map prB:=by
  intro l
  induction l with
  |nil=>rfl
  |cons x l ih =>
   rw[j7,ih,eO,Ab,j7,List.flatMap_map];rfl
 rw[key];refine congrArg (fun f=>(List.range b.l.length).flatMap f) (funext fun i=>?_);rw[e];rfl
theorem ti {b:BR}(hb:b.Ok){t:Rat}(hex:∃z,(bd b).w<=(bd b).F z t):(bd b).Least (kP b t) t:=by
 refine Bd.settled_least (m_ hb) hex ?_ ?_
 .rw[<-PC];exact(kO cw (pl b.l t)).map prB
 .rw[Jl,List.pairwise_map];exact kn cw (pl b.l t)
theorem nX {b:BR}(hb:b.Ok){t:Rat}(hex:∃z,(bd b).w<=(bd b).F z t):kP b t=(bd b).sg t:=(Bd.sg_eq (ti hb hex)).symm
theorem Ka {b:BR}(z t:Rat):(bd b).Inl ((bd b).pL z t) z t:=fun i hi=>Et
theorem E9 {b:BR}(hb:b.Ok){t:Rat}{m:Nat}(ht:HQ t m)(hex:∃z,(bd b).w<=(bd b).F z t):HQ (kP b t) (m+5000):=by
 have hl:=ti hb hex;have hK:=hl.K (m_ hb) (Ka _ _);have hz:=Bd.ln_at (m_ hb) hl.1 (Ka (b:=b) (kP b t) t).c hK;rw[hz,Bd.ln];have hw:Zb b.w:=aJ hb.lim.w.1 hb.lim.w.2;have wq:HQ ((bd b).w) 4:=HQ.int;have hpn:∀i,i<b.l.length->(bd b).pL (kP b t) t i<=(bd b).n i:=fun i hi=>(Ka (b:=b) (kP b t) t i hi).1;have fo:=OA hb hpn;have kc:=Ja hb ((bd b).pL (kP b t) t);have kh:=Jb hb ((bd b).pL (kP b t) t);exact(@HQ.div _ _ _ 300 (@HQ.sub _ _ _ _ (@HQ.sub _ _ 4 4100 wq fo) (@HQ.mul _ _ 300 m kc ht)) kh).mono J
theorem LZ {b:BR}(hb:b.Ok){t:Rat}{m:Nat}(ht:HQ t m)(hex:∃z,(bd b).w<=(bd b).F z t):Va ⟨ofQ (kP b t),ofQ t⟩ (kP b t) t (m+5000) m:=⟨Vq.ofQ (h:=E9 hb ht hex),Vq.ofQ (h:=ht)⟩
theorem BY {b:BR}(hb:b.Ok){t:Rat}{m:Nat}(ht:HQ t m)(hm:m<=20000)(hex:∃z,(bd b).w<=(bd b).F z t):aO 203 [.agg (eB b),.agg (eA ⟨ofQ (kP b t),ofQ t⟩)] (.agg (eR (ofQ ((bd b).E t)))):=by
 have:=vV b hb ⟨ofQ (kP b t),ofQ t⟩ (ha:=LZ hb ht hex) J;rwa [show(bd b).e (kP b t) t=(bd b).E t by rw[Bd.E,nX hb hex]]at this
theorem Iz {b:BR}(hb:b.Ok){t:Rat}{m:Nat}(ht:HQ t m)(hm:m<=20000)(hex:∃z,(bd b).w<=(bd b).F z t):aO 202 [.agg (eR (ofQ ((bd b).E t)))] (I (sgn ((bd b).E t))):=by
 have h1:=PN hb (E9 hb ht hex) ht;rw[show(bd b).e (kP b t) t=(bd b).E t by rw[Bd.E,nX hb hex]]at h1;exact xi (ofQ ((bd b).E t)) (hx:=Vq.ofQ (h:=h1)) J
theorem vZ {b:BR}(hb:b.Ok){t:Rat}{m:Nat}(ht:HQ t m)(hm:m<=20000)(hex:∃z,(bd b).w<=(bd b).F z t):aO 206 [.agg (eB b),.agg (eA ⟨ofQ (kP b t),ofQ t⟩)] (OO ((bd b).guess ((bd b).sg t) t)):=by
 have:=Hx b hb ⟨ofQ (kP b t),ofQ t⟩ (ha:=LZ hb ht hex) J;rwa [<-nX hb hex]
def p2 (k:Nat):Rat:=((2^k:Nat):Int)
theorem rH (k:Nat):p2 (k+1)=p2 k+p2 k:=by
 rw[p2,p2,cW,show((2^k*2:Nat):Int)=((2^k:Nat):Int)+((2^k:Nat):Int) by omega]
 push_cast
 rfl
theorem CE {k:Nat}:HQ (p2 k) (k/16+1):=by
 refine⟨mf ?_ J⟩;rw[gT,show(65536:Nat)=2^16 by decide,<-Nat.pow_mul];exact Ah Y J
theorem MS {b:Bd}{n:Nat}{w:Rat}:b.dbl (-1) (n+1) w=if 0<b.E (-w) then b.dbl (-1) n (w+w) else some w:=by
 rw[Bd.dbl];have e:(-1:Rat)*w = -w:=bM;rw[e];by_cases h:0<b.E (-w)
 .rw[if_pos h,if_pos bM]
 .rw[if_neg h,if_neg bM]
theorem MU {b:Bd}{n:Nat}{w:Rat}:b.dbl 1 (n+1) w=if b.E w<0 then b.dbl 1 n (w+w) else some w:=by
 rw[Bd.dbl];have e:(1:Rat)*w=w:=bM;rw[e];by_cases h:b.E w<0
 .rw[if_pos h,if_pos bM]
 .rw[if_neg h,if_neg bM]
def Dy (N j:Nat)(t:Rat):Prop:=∃a:Int,t=(a:Rat)/((2^j:Nat):Int)/\a.natAbs<=2^(j+N)
theorem Mk (j:Nat):(((2^j:Nat):Int))≠0:=by have:=Nat.two_pow_pos j;omega
theorem Dy.hq {N j:Nat}{t:Rat}(h:Dy N j t):HQ t ((j+N)/16+1):=by
 obtain⟨a,rfl,ha⟩:=h;have key:2^(j+N)<65536^((j+N)/16+1):=by
  rw[show(65536:Nat)=2^16 by decide,<-Nat.pow_mul];exact Ah Y J
 have h2:2^j<=2^(j+N):=gh Y J;exact⟨kz (Mk j) J (by rw[gT];omega)⟩
theorem Dy.mid {N j:Nat}{lo hi:Rat}(h1:Dy N j lo)(h2:Dy N j hi):Dy N (j+1) ((lo+hi)/2):=by
 obtain⟨a,rfl,ha⟩:=h1;obtain⟨c,rfl,hc⟩:=h2;refine⟨a+c,?_,?_⟩
 .have e:(((2^(j+1):Nat):Int):Rat)=2*(((2^j:Nat):Int):Rat):=by
   rw[cW,show((2^j*2:Nat):Int)=2*((2^j:Nat):Int) by omega];push_cast;rfl
  have hn:(((2^j:Nat):Int):Rat)≠0:=by have:=Mk j;exact_mod_cast this
  rw[e]
  push_cast
  generalize (((2^j:Nat):Int):Rat)=D0 at *
  grind
 .rw[show j+1+N=(j+N)+1 by omega,cW];omega
theorem Dy.up {N j:Nat}{t:Rat}(h:Dy N j t):Dy N (j+1) t:=by
 have:=Dy.mid h h;rwa [show(t+t)/2=t by grind]at this
noncomputable def f3 (b:Bd):List Rat->Option (Rat × Rat)
 |[]=>none
 |t::r=>match b.at1 t with
  |some x=>some x
  |none=>f3 b r
theorem M_ (b:Bd)(lo hi:Rat):b.fst3 lo hi=f3 b [0,lo,hi]:=by
 rw[Bd.fst3,f3,f3,f3,f3];cases b.at1 0<;>cases b.at1 lo<;>cases b.at1 hi<;>rfl
theorem yt (b:BR)(hb:b.Ok)(h40:∀t,(pl b.l t).length<=54)(hS:∀t,SortC (pl b.l t))(hex:∀t,∃z,(bd b).w<=(bd b).F z t){N:Nat}(hN:N<=150000){x:Rat × Rat}(hx:(bd b).eqQ N=some x):aO 142 [.agg (eB b)] (.agg (eA ⟨ofQ x.1,ofQ x.2⟩)):=by
 have w1:=cC 1 ⟨Y,Y⟩;have wm:=cC (-1) ⟨Y,Y⟩;rw[show(((1:Int):Int):Rat)=p2 0 from O]at w1;rw[show(((-1:Int):Int):Rat) = -p2 0 by rw[show p2 0=1 from O];rfl]at wm;rw[Bd.eqQ]at hx;obtain⟨Wl,hWl⟩:∃W,(bd b).dbl (-1) N 1=some W:=by
  cases h:(bd b).dbl (-1) N 1 with
  |none=>rw[h]at hx;cases hx
  |some W=>exact⟨W,rfl⟩
 obtain⟨Wh,hWh⟩:∃W,(bd b).dbl 1 N 1=some W:=by
  cases h:(bd b).dbl 1 N 1 with
  |none=>rw[hWl,h]at hx;cases hx
  |some W=>exact⟨W,rfl⟩
 rw[hWl,hWh]at hx;simp only at hx;have row:∀(t:Rat) (m:Nat),HQ t m->m<=20000->aO 204 [.agg (eB b),.agg (eR (ofQ t))] (.agg (eA ⟨ofQ (kP b t),ofQ t⟩))/\aO 203 [.agg (eB b),.agg (eA ⟨ofQ (kP b t),ofQ t⟩)] (.agg (eR (ofQ ((bd b).E t))))/\aO 202 [.agg (eR (ofQ ((bd b).E t)))] (I (sgn ((bd b).E t))):=fun t m ht hm =>
  ⟨Db b hb (h40 t) (hS t) (ofQ t) (ht:=Vq.ofQ (h:=ht)) J,BY hb ht hm (hex t),Iz hb ht hm (hex t)⟩
 refine ax Proofs.Tryz.func142 ?_;refine G w1 ?_;refine G wm ?_;refine G w1 ?_;refine H ?_;refine ah (fun k:Nat=>k<N/\(bd b).dbl (-1) (N-k) (p2 k)=some Wl) (fun k=>[(1,.ptr 1 1 0 0),(2,.ptr 2 1 0 0),(3,.ptr 3 1 0 0),(4,.ptr 4 1 0 0),(5,.ptr 5 1 0 0)])
  (fun k=>[(1,1,⟨158,6,[eB b],2⟩),(2,1,⟨45,8,[zN++zN],2⟩),(3,1,⟨42,4,[eR (ofQ (p2 k))],2⟩),(4,1,⟨42,4,[eR (ofQ (-p2 k))],2⟩),(5,1,⟨42,4,[eR (ofQ (p2 0))],2⟩)]) (fun k=>N-k) 0
  ⟨by
   rcases fY N with h|h;· subst h;cases hWl
   exact h,hWl⟩ ⟨O,O,O,O,O,O,O,O,O,O,trivial⟩ ?_
 intro k s ⟨hk,hd⟩;obtain⟨j,hj⟩:∃j,N-k=j+1:=⟨N-k-1,J⟩;rw[hj,MS]at hd;have hq:HQ (p2 k) 10000:=CE.mono J;have hqn:HQ (-p2 k) 10000:=@HQ.neg _ _ hq;obtain⟨r1,r2,r3⟩:=row (-p2 k) 10000 hqn Y;have hsg:=fP ((bd b).E (-p2 k));have n1:=eY (ofQ (p2 k)) (ofQ (p2 k)) (hx:=Vq.ofQ (h:=hq)) (hy:=Vq.ofQ (h:=hq)) Y Y;rw[<-rH]at n1;have hq1:HQ (p2 (k+1)) 10000:=CE.mono J;have n2:=RD (ofQ (p2 (k+1))) (hx:=Vq.ofQ (h:=hq1)) Y;rw[<-rH]at hd;refine cO 7 [19,20,21,22,23,24,25] ?_;refine G r1 ?_;refine G r2 ?_;refine aj r3 ?_;refine D ?_ ?_<;>intro h
 .have h1:=hsg.1 (aB h);clear h;rw[if_pos h1]at hd;refine G n1 ?_;refine G n2 ?_;refine H ?_;have hk1:k+1<N:=by
   rcases bG (k+1) N with h|h
   .exact h
   .rw[show j=0 by omega]at hd;cases hd
  have hd1:(bd b).dbl (-1) (N-(k+1)) (p2 (k+1))=some Wl:=by rw[show N-(k+1)=j by omega];exact hd
  exact⟨k+1,⟨hk1,hd1⟩,J,O,O,O,O,O,O,O,O,O,O,trivial⟩
 .have h1:¬0<(bd b).E (-p2 k):=fun h2=>(aE h) (hsg.2 h2);clear h;rw[if_neg h1]at hd;cases hd;clear hWl hj r1 r2 r3 hsg n1 n2 hq1;refine G w1 ?_;refine H ?_;refine ah (fun k':Nat=>k'<N/\(bd b).dbl 1 (N-k') (p2 k')=some Wh) (fun k'=>[(1,.ptr 1 1 0 0),(2,.ptr 2 1 0 0),(3,.ptr 3 1 0 0),(4,.ptr 4 1 0 0),(5,.ptr 5 1 0 0)])
   (fun k'=>[(1,1,⟨158,6,[eB b],2⟩),(2,1,⟨45,8,[zN++zN],2⟩),(3,1,⟨42,4,[eR (ofQ (p2 k'))],2⟩),(4,1,⟨42,4,[eR (ofQ (-p2 k))],2⟩),(5,1,⟨42,4,[eR (ofQ (p2 k'))],2⟩)]) (fun k'=>N-k') 0
   ⟨J,hWh⟩ ⟨O,O,O,O,O,O,O,O,O,O,trivial⟩ ?_
  intro q s2 ⟨hk',hd⟩;obtain⟨j,hj⟩:∃j,N-q=j+1:=⟨N-q-1,J⟩;rw[hj,MU]at hd;have hqq:HQ (p2 q) 10000:=CE.mono J;obtain⟨r1,r2,r3⟩:=row (p2 q) 10000 hqq Y;have hsg:=cX ((bd b).E (p2 q));have n1:=eY (ofQ (p2 q)) (ofQ (p2 q)) (hx:=Vq.ofQ (h:=hqq)) (hy:=Vq.ofQ (h:=hqq)) Y Y;rw[<-rH]at n1;rw[<-rH]at hd;refine cO 7 [32,33,34,35,36,37,38] ?_;refine G r1 ?_;refine G r2 ?_;refine aj r3 ?_;refine D ?_ ?_<;>intro h
  .have h1:=hsg.1 (aB h);clear h;rw[if_pos h1]at hd;refine G n1 ?_;refine H ?_;have hk1:q+1<N:=by
    rcases bG (q+1) N with h|h
    .exact h
    .rw[show j=0 by omega]at hd;cases hd
   have hd1:(bd b).dbl 1 (N-(q+1)) (p2 (q+1))=some Wh:=by rw[show N-(q+1)=j by omega];exact hd
   exact⟨q+1,⟨hk1,hd1⟩,J,O,O,O,O,O,O,O,O,O,O,trivial⟩
  .have h1:¬(bd b).E (p2 q)<0:=fun h2=>(aE h) (hsg.2 h2);clear h;rw[if_neg h1]at hd;cases hd;clear hWh hj r1 r2 r3 hsg n1;have w0:=cC 0 ⟨Y,Y⟩;rw[show(((0:Int)):Rat)=0 from O]at w0;rw[M_]at hx;have hL:∀t∈[0,-p2 k,p2 q],HQ t 10000:=by
    intro t ht;simp at ht;rcases ht with rfl|rfl|rfl
    .exact HQ.zero.mono Y
    .exact hqn
    .exact hqq
   refine H ?_;refine bj [46] [3,4] aK ?_;refine G w0 ?_;refine H ?_;refine lr O O O (aY 1 O O O O O O O O O O O aH O ⟨gZ O,?_⟩);refine H ?_;have hrows:([0,-p2 k,p2 q]:List Rat).map (fun t=>eR (ofQ t))=[eR (ofQ 0),eR (ofQ (-p2 k)),eR (ofQ (p2 q))]:=O;refine aT [(1,.ptr 1 1 0 0),(2,.ptr 2 1 0 0),(4,.ptr 4 1 0 0),(5,.ptr 5 1 0 0),(46,.als 46 ((s2.own 46).1+1) 0 3),(47,I 3),(48,I ((0:Nat):Int))]
    [(1,1,⟨158,6,[eB b],2⟩),(2,1,⟨45,8,[zN++zN],2⟩),(4,1,⟨42,4,[eR (ofQ (-p2 k))],2⟩),(5,1,⟨42,4,[eR (ofQ (p2 q))],2⟩),(46,(s2.own 46).1+1,⟨42,4,[eR (ofQ 0),eR (ofQ (-p2 k)),eR (ofQ (p2 q))],1⟩)]
    ⟨O,O,O,O,O,O,O,O,O,O,O,O,trivial⟩ ?_
   generalize (s2.own 46).1+1=g;rw[<-hrows];intro s3;generalize hLL:([0,-p2 k,p2 q]:List Rat)=T3 at *
   have hT3:T3.length=3:=by rw[<-hLL];rfl
   refine ah (fun i:Nat=>i<=3/\(match f3 (bd b) (T3.drop i) with|some x=>some x|none=>(bd b).bis N (-p2 k) (p2 q))=some x) (fun i=>[(1,.ptr 1 1 0 0),(2,.ptr 2 1 0 0),(4,.ptr 4 1 0 0),(5,.ptr 5 1 0 0),(46,.als 46 g 0 3),(47,I 3),(48,I (i:Nat))])
    (fun i=>[(1,1,⟨158,6,[eB b],2⟩),(2,1,⟨45,8,[zN++zN],2⟩),(4,1,⟨42,4,[eR (ofQ (-p2 k))],2⟩),(5,1,⟨42,4,[eR (ofQ (p2 q))],2⟩),(46,g,⟨42,4,T3.map (fun t=>eR (ofQ t)),1⟩)]) (fun i=>3-i) 0
    ⟨aP _,hx⟩ ⟨O,O,O,O,O,O,O,O,O,O,O,O,trivial⟩ ?_
   intro i s4 ⟨hi,hF⟩;refine D ?_ ?_<;>intro h
   .have hlt:i<3:=by have:=aB h;omega
    clear h;obtain⟨t,ht⟩:=aC (show i<T3.length by omega);have hrow:(T3.map (fun t=>eR (ofQ t)))[i]? = some (eR (ofQ t)):=by rw[bD,ht];rfl
    have htq:=hL t (bm ht);have hw:=fg i;obtain⟨r1,r2,r3⟩:=row t 10000 htq Y;have hgs:=vZ hb htq Y (hex t);have hdr:f3 (bd b) (T3.drop i)=match (bd b).at1 t with|some x=>some x|none=>f3 (bd b) (T3.drop (i+1)):=by
     obtain⟨hl1,h2⟩:=bV ht;rw[iZ hl1,h2,f3]
    rw[hdr,Bd.at1,<-nX hb (hex t)]at hF;rw[<-nX hb (hex t)]at hgs;refine H ?_;refine nr O O O O O O O O O ?_;rw[br,aX i];refine cf O O (dK O O O hrow O) ?_;refine G r1 ?_;refine G r2 ?_;refine aj r3 ?_;refine H ?_;have hs0:=gy ((bd b).E t);refine aS O ?_ ?_<;>intro h
    .have h1:=hs0.1 (aB h);clear h;rw[if_pos h1]at hF;simp only[bg]at hF;subst hF;exact bW
    .have h1:¬(bd b).E t=0:=fun h2=>(aE h) (hs0.2 h2);clear h;rw[if_neg h1]at hF;cases hgg:(bd b).guess (kP b t) t with
     |none =>
      rw[hgg]at hgs hF;simp only at hF;rw[OO]at hgs;refine G hgs ?_;refine H ?_;exact⟨i+1,⟨J,hF⟩,J,O,O,O,O,O,O,congrArg I hw,O,O,O,O,O,trivial⟩
     |some y =>
      rw[hgg]at hgs hF;simp only[bg]at hF;subst hF;rw[OO]at hgs;refine G hgs ?_;exact bW
   .have hie:i=3:=by have:=aE h;omega
    clear h;rw[hie,lE J,f3]at hF;simp only at hF;have hd0:Dy N 0 (-p2 k):=⟨-((2^k:Nat):Int),by rw[p2];push_cast;grind,by rw[Int.natAbs_neg,Int.natAbs_natCast];exact Nat.pow_le_pow_right Y J⟩;have hd1:Dy N 0 (p2 q):=⟨((2^q:Nat):Int),by rw[p2];push_cast;grind,by rw[Int.natAbs_natCast];exact Nat.pow_le_pow_right Y J⟩;have w2:=cC 2 ⟨Y,Y⟩;rw[show(((2:Int)):Rat)=2 from O]at w2;have v2:Vq (ofQ 2) 2 4:=Vq.ofQ (h:=HQ.two);refine H ?_;refine ah (fun u:Nat × Rat × Rat=>u.1<=N/\(bd b).bis (N-u.1) u.2.1 u.2.2=some x/\Dy N u.1 u.2.1/\Dy N u.1 u.2.2) (fun u=>[(1,.ptr 1 1 0 0),(2,.ptr 2 1 0 0),(4,.ptr 4 1 0 0),(5,.ptr 5 1 0 0)])
     (fun u=>[(1,1,⟨158,6,[eB b],2⟩),(2,1,⟨45,8,[zN++zN],2⟩),(4,1,⟨42,4,[eR (ofQ u.2.1)],2⟩),(5,1,⟨42,4,[eR (ofQ u.2.2)],2⟩)]) (fun u=>N-u.1) (0,-p2 k,p2 q)
     ⟨aP _,hF,hd0,hd1⟩ ⟨O,O,O,O,O,O,O,O,trivial⟩ ?_
    rintro⟨j,lo,hi⟩ s5 ⟨hj,hB,hlo,hhi⟩;simp only at hj hB hlo hhi;dsimp only;obtain⟨n,hn⟩:∃n,N-j=n+1:=by
     rcases fY (N-j) with h|h
     .rw[h]at hB;cases hB
     .exact⟨N-j-1,J⟩
    rw[hn,Bd.bis]at hB;have hm:=hlo.mid hhi;have hl2:=hlo.up;have hh2:=hhi.up;have ql:=hlo.hq;have qh:=hhi.hq;have qm:=hm.hq;have a1:=eY (ofQ lo) (ofQ hi) (hx:=Vq.ofQ (h:=ql)) (hy:=Vq.ofQ (h:=qh)) J J;have vs:Vq (ofQ (lo+hi)) (lo+hi) ((j+N)/16+1+((j+N)/16+1)+1):=Vq.ofQ (h:=@HQ.add _ _ _ _ ql qh);have a2:=CB (ofQ (lo+hi)) (ofQ 2) (hx:=vs) (hy:=v2) J Y Y;obtain⟨r1,r2,r3⟩:=row ((lo+hi)/2) _ qm J;have hgs:=vZ hb qm J (hex ((lo+hi)/2));rw[Bd.at1,<-nX hb (hex ((lo+hi)/2))]at hB;rw[<-nX hb (hex ((lo+hi)/2))]at hgs;generalize (lo+hi)/2=t at *
    have hs0:=gy ((bd b).E t);have hs1:=cX ((bd b).E t);refine G a1 ?_;refine G w2 ?_;refine G a2 ?_;refine G r1 ?_;refine G r2 ?_;refine aj r3 ?_;refine D ?_ ?_<;>intro h
    .have h1:=hs0.1 (aB h);clear h;rw[if_pos h1]at hB;simp only[bg]at hB;subst hB;exact bW
    .have h1:¬(bd b).E t=0:=fun h2=>(aE h) (hs0.2 h2);clear h;rw[if_neg h1]at hB;cases hgg:(bd b).guess (kP b t) t with
     |none =>
      rw[hgg]at hgs hB;simp only at hB;rw[OO]at hgs;refine G hgs ?_;refine D ?_ ?_<;>intro h
      .have h2:=hs1.1 (aB h);clear h;rw[if_pos h2]at hB;refine H ?_;exact⟨(j+1,t,hi),⟨by simp only;omega,by simp only;rw[show N-(j+1)=n by omega];exact hB,hm,hh2⟩,by simp only;omega,O,O,O,O,O,O,O,O,trivial⟩
      .have h2:¬(bd b).E t<0:=fun h3=>(aE h) (hs1.2 h3);clear h;rw[if_neg h2]at hB;refine H ?_;exact⟨(j+1,lo,t),⟨by simp only;omega,by simp only;rw[show N-(j+1)=n by omega];exact hB,hl2,hm⟩,by simp only;omega,O,O,O,O,O,O,O,O,trivial⟩
     |some y =>
      rw[hgg]at hgs hB;simp only[bg]at hB;subst hB;rw[OO]at hgs;refine G hgs ?_;exact bW
theorem BJ {l:List Int}{x:Int}(h:x∈l):x∈Lib.compact l:=by
 have key:∀n (hn:n<l.length),∃m,∃hm:m<l.length,l[m]=l[n]/\Lib.keeps l.toArray m=true:=by
  intro n
  induction n with
  |zero=>intro hn;exact⟨0,hn,rfl,by simp[Lib.keeps]⟩
  |succ n ih =>
   intro hn;by_cases he:l[n+1]=l[n]
   .obtain⟨m,hm,h1,h2⟩:=ih J;exact⟨m,hm,h1.trans he.symm,h2⟩
   .refine⟨n+1,hn,O,?_⟩;rw[Lib.keeps,decide_eq_true_eq];right;simp only[List.getElem!_toArray,jt];rw[getElem!_pos l (n+1) hn,getElem!_pos l n J];exact he
 obtain⟨n,hn,hx⟩:=List.mem_iff_getElem.1 h;obtain⟨m,hm,h1,h2⟩:=key n hn;rw[Lib.compact,Lib.compactUpTo];refine bX.2 ⟨m,AD.2 ⟨fJ.2 hm,h2⟩,?_⟩;simp only[List.getElem!_toArray];rw[getElem!_pos l m hm,h1,hx]
theorem Em {l:List SR}{s:SR}(h:s∈l):s.x∈cZ l:=by
 rw[cZ];refine BJ ?_;have:s.x∈l.map (·.x):=bX.2 ⟨s,h,O⟩;exact(List.mergeSort_perm _ _).mem_iff.2 this
def qE (b:BR):Prop:=qj b iK=false/\∀r∈f_ b.l,qj b r=false
theorem w7 {b:BR}{A B:Rat}:sV b A B=true↔nt b.l A B b.l.length/\aq (yT b.l A B) b.l.length<(b.w:Rat)*(A+B*b.a.val):=by
 rw[sV,@decide_eq_true_iff _ (Classical.propDecidable _)]
theorem EC {b:BR}{A B:Rat}(h:sV b A B=false):¬(nt b.l A B b.l.length/\aq (yT b.l A B) b.l.length<(b.w:Rat)*(A+B*b.a.val)):=by
 intro h1;rw[w7.2 h1]at h;cases h
theorem Ns:(ofQ ((1:Int):Rat)).val=1:=by rw[ofQ_val];rfl
theorem zero_val:(ofQ ((0:Int):Rat)).val=0:=by rw[ofQ_val];rfl
theorem qb {b:BR}(h:qE b):¬((∀i,i<(bd b).N->(bd b).lim i)/\aq (bd b).cap (bd b).N<(bd b).w):=by
 have h1:=EC h.1;rw[show iK.z.val=1 from Ns,show iK.t.val=0 from zero_val]at h1;intro⟨h2,h3⟩;refine h1 ⟨fun i hi _=>h2 i hi,?_⟩;have e:aq (yT b.l 1 0) b.l.length=aq (bd b).cap (bd b).N:=eF fun i hi=>by
  rw[yT,if_pos bM];show cI b.l i*(1+0*xI b.l i)=cI b.l i;grind
 rw[e];have h4:aq (bd b).cap (bd b).N<(b.w:Rat):=h3;grind
theorem Ct {b:BR}(hb:b.Ok)(h:qE b)(t:Rat):∃z,(bd b).Least z t :=
 ⟨_,ti hb (Bd.enough (m_ hb) t (qb h))⟩
theorem Ia {b:BR}(h:qE b):(bd b).NoTip:=by
 intro s hs i0 hi0 hl hlt;have hx:=Em (bR (l:=b.l) hi0);have key:∀A B:Rat,(∀X:Rat,A+B*X=s*(X-(bd b).X i0))->sV b A B=true:=by
  intro A B hAB;refine w7.2 ⟨fun i hi hp=>hl i hi (by rw[hAB]at hp;exact hp),?_⟩;have e:aq (yT b.l A B) b.l.length=aq (fun i=>if 0<s*((bd b).X i-(bd b).X i0) then(bd b).cap i*(s*((bd b).X i-(bd b).X i0)) else 0) (bd b).N:=eF fun i hi=>by
   rw[yT,hAB];rfl
  rw[e,hAB];exact hlt
 rcases hs with rfl|rfl
 .have hm:FC (b.l.getD i0 dS).x∈f_ b.l/\yc (b.l.getD i0 dS).x∈f_ b.l:=⟨kB _ (bX.2 ⟨_,hx,O⟩),lF _ (bX.2 ⟨_,hx,O⟩)⟩;have h1:=h.2 _ hm.2;rw[qj,yc]at h1;simp only[ofQ_val]at h1;rw[key _ _ (fun X=>by
   show((-(b.l.getD i0 dS).x:Int):Rat)+((1:Int):Rat)*X=1*(X-((b.l.getD i0 dS).x:Rat))
   push_cast;grind)]at h1
  cases h1
 .have hm:FC (b.l.getD i0 dS).x∈f_ b.l:=kB _ (bX.2 ⟨_,hx,O⟩);have h1:=h.2 _ hm;rw[qj,FC]at h1;simp only[ofQ_val]at h1;rw[key _ _ (fun X=>by
   show((b.l.getD i0 dS).x:Rat)+((-1:Int):Rat)*X = -1*(X-((b.l.getD i0 dS).x:Rat))
   push_cast;grind)]at h1
  cases h1
theorem JU {b:BR}(hb:b.Ok){z t:Rat}{x:Rat × Rat}(h:(bd b).guess z t=some x):HQ x.1 20000/\HQ x.2 20000:=by
 have key:∀p,(bd b).Inc p z t->(bd b).tryP z t p=some x->HQ x.1 20000/\HQ x.2 20000:=by
  intro p hp h;rw[Bd.tryP]at h;split at h
  .cases h
  .rename_i d hd;split at h
   .cases h;exact Gn hb hp hd
   .cases h
 rw[Bd.guess]at h;split at h
 .rename_i y hy;cases h;exact key _ (J_ hb z t) hy
 .exact key _ (OP hb z t) h
theorem zt {b:BR}(hb:b.Ok){t:Rat}{m:Nat}(ht:HQ t m)(hm:m<=19000)(hex:∃z,(bd b).w<=(bd b).F z t){x:Rat × Rat}(h:(bd b).at1 t=some x):HQ x.1 24000/\HQ x.2 20000:=by
 rw[Bd.at1]at h;split at h
 .cases h;rw[<-nX hb hex];exact⟨(E9 hb ht hex).mono J,ht.mono J⟩
 .have:=JU hb h;exact⟨this.1.mono J,this.2⟩
theorem PA {b:BR}(hb:b.Ok)(hex:∀t,∃z,(bd b).w<=(bd b).F z t){N:Nat}(hN:N<=150000){x:Rat × Rat}:∀(n j:Nat) (lo hi:Rat),n+j<=N->Dy N j lo->Dy N j hi->(bd b).bis n lo hi=some x->HQ x.1 24000/\HQ x.2 20000:=by
 intro n
 induction n with
 |zero=>intro j lo hi _ _ _ h;cases h
 |succ n ih =>
  intro j lo hi hj hlo hhi h;have hm:=hlo.mid hhi;rw[Bd.bis]at h;split at h
  .rename_i y hy;cases h;exact zt hb hm.hq J (hex _) hy
  .split at h
   .exact ih (j+1) _ _ J hm hhi.up h
   .exact ih (j+1) _ _ J hlo.up hm h
theorem Fz (b:Bd)(s:Rat):∀(n k:Nat) (W:Rat),b.dbl s n (p2 k)=some W->∃m,m<n+k/\W=p2 m:=by
 intro n
 induction n with
 |zero=>intro k W h;cases h
 |succ n ih =>
  intro k W h;rw[Bd.dbl]at h;split at h
  .rw[<-rH]at h;obtain⟨m,h1,h2⟩:=ih (k+1) W h;exact⟨m,J,h2⟩
  .cases h;exact⟨k,J,O⟩
theorem Rq {b:BR}(hb:b.Ok)(hex:∀t,∃z,(bd b).w<=(bd b).F z t){x:Rat × Rat}(h:(bd b).eqQ 150000=some x):HQ x.1 24000/\HQ x.2 20000:=by
 generalize hN:(150000:Nat)=N at h;rw[Bd.eqQ]at h;split at h
 .rename_i wl wh h1 h2;obtain⟨k,hk,rfl⟩:=Fz _ _ _ 0 _ (show(bd b).dbl (-1) N (p2 0)=some wl from h1);obtain⟨q,hq,rfl⟩:=Fz _ _ _ 0 _ (show(bd b).dbl 1 N (p2 0)=some wh from h2);have hqk:HQ (p2 k) 10000:=CE.mono J;have hqq:HQ (p2 q) 10000:=CE.mono J;have hqn:HQ (-p2 k) 10000:=@HQ.neg _ _ hqk;split at h
  .rename_i y hy;cases h;rw[Bd.fst3]at hy;split at hy
   .rename_i z hz;cases hy;exact zt hb HQ.zero Y (hex _) hz
   .split at hy
    .rename_i z hz;cases hy;exact zt hb hqn Y (hex _) hz
    .exact zt hb hqq Y (hex _) hy
  .refine PA hb hex (N:=N) (show N<=150000 by omega) N 0 _ _ J ?_ ?_ h
   .exact⟨-((2^k:Nat):Int),by rw[p2];push_cast;grind,by rw[Int.natAbs_neg,Int.natAbs_natCast];exact Nat.pow_le_pow_right Y J⟩
   .exact⟨((2^q:Nat):Int),by rw[p2];push_cast;grind,by rw[Int.natAbs_natCast];exact Nat.pow_le_pow_right Y J⟩
 .cases h
theorem OU (n:Nat):65536^n=2^(16*n):=by rw[show(65536:Nat)=2^16 by decide,<-Nat.pow_mul]
theorem Rp {b:BR}(hb:b.Ok)(hs:(bd b).SzT)(h:qE b):∃x,(bd b).eqQ 150000=some x/\(bd b).Bal x.1 x.2/\HQ x.1 24000/\HQ x.2 20000:=by
 have hex:∀t,∃z,(bd b).w<=(bd b).F z t:=fun t=>Bd.enough (m_ hb) t (qb h);obtain⟨m,hm⟩:∃m,m=3000:=⟨_,O⟩;have hK:65536^3000=2^(16*m):=by rw[<-hm];exact OU m
 have hL:65536^(3000+3000+1)=2^(16*(m+m+1)):=by rw[<-hm];exact OU (m+m+1)
 obtain⟨x,h1,h2⟩:=Bd.eq_some (m_ hb) hs (Ct hb h) (Ia h) (n:=150000) hK hL J J;exact⟨x,h1,h2,Rq hb hex h1⟩
theorem Fs {b:BR}(hb:b.Ok){z t:Rat}(h:(bd b).Bal z t)(A B:Rat):sV b A B=false:=by
 cases hr:sV b A B with
 |false=>rfl
 |true =>
  obtain⟨h1,h2⟩:=w7.1 hr;have h3:=Bd.exclude (m_ hb) h (A:=A) (B:=B) h1;have e:aq (yT b.l A B) b.l.length=aq (fun i=>if 0<A+B*(bd b).X i then(bd b).cap i*(A+B*(bd b).X i) else 0) (bd b).N:=O;rw[<-e]at h3;have h4:(b.w:Rat)*(A+B*b.a.val)<=aq (yT b.l A B) b.l.length:=h3;grind
theorem Hd {b:BR}(hb:b.Ok){z t:Rat}(h:(bd b).Bal z t):qE b:=⟨Fs hb h _ _,fun _ _=>Fs hb h _ _⟩
def Tc (x:Int):SR:=⟨x,RR.zero,⟨[0],[ofQ ((2:Int):Rat)]⟩⟩
def Ta (x:Int):SR:=⟨x,RR.zero,⟨[0,10],[ofQ ((5:Int):Rat),ofQ ((0:Int):Rat)]⟩⟩
def b1:BR:=⟨40,ofQ ((25:Int):Rat),[Tc 0,Tc 100]⟩
def b2:BR:=⟨80,ofQ ((75:Int):Rat),[Ta 0,Ta 100]⟩
theorem pU {z:Int}(h:i64 z):(ofQ (z:Rat)).sz 12:=⟨bL (vI h).sz.1 Y,bL (vI h).sz.2 Y⟩
theorem x5 (z:Int)(h:i64 z):hq (z:Rat) 4:=(@HQ.int z (aJ h.1 h.2)).ok
def Q8 (s:SR):Prop:=i64 s.x/\∀z∈s.k.S,i64 z
def Q7 (l:List SR):Prop:=∀s∈l,Q8 s
theorem RR.sz.mono {x:RR}{n m:Nat}(h:x.sz n)(hm:n<=m):x.sz m:=⟨bL h.1 hm,bL h.2 hm⟩
section
variable {α:Type}
theorem Bn (P M S:List α)(x y:α):((P++x::(M++y::S)).set P.length y).set (P.length+1+M.length) x=P++y::(M++x::S):=by
 rw[rm _ _ (a_),iE,List.set_cons_zero,rm _ _ J,show P.length+1+M.length-P.length=M.length+1 by omega,List.set_cons_succ,rm _ _ (a_),iE,List.set_cons_zero]
theorem AG (P M S:List α)(x y:α):(P++x::(M++y::S))[P.length]? = some x:=by
 rw[eM (a_),iE];rfl
theorem AH (P M S:List α)(x y:α):(P++x::(M++y::S))[P.length+1+M.length]? = some y:=by
 rw[eM J,show P.length+1+M.length-P.length=M.length+1 by omega,uo,eM (a_),iE];rfl
def Do (P X M Y0 S:List α)(k:Nat):List α:=P++Y0.take k++X.drop k++M++X.take k++Y0.drop k++S
theorem mY {l:List α}{k:Nat}{x:α}(hx:l[k]? = some x):l.take (k+1)=l.take k++[x]:=by rw[rq,hx];rfl
theorem jr {l:List α}{k:Nat}{x:α}(hx:l[k]? = some x):l.drop k=x::l.drop (k+1):=by
 obtain⟨hl,e⟩:=bV hx;rw[iZ hl,e]
theorem Fc {P X M Y0 S:List α}{k:Nat}{x y:α}(hx:X[k]? = some x)(hy:Y0[k]? = some y):Do P X M Y0 S k=(P++Y0.take k)++x::((X.drop (k+1)++M++X.take k)++y::(Y0.drop (k+1)++S)):=by
 rw[Do,jr hx,jr hy];simp[bi]
theorem Ma {P X M Y0 S:List α}{k:Nat}{x y:α}(hx:X[k]? = some x)(hy:Y0[k]? = some y):Do P X M Y0 S (k+1)=(P++Y0.take k)++y::((X.drop (k+1)++M++X.take k)++x::(Y0.drop (k+1)++S)):=by
 rw[Do,mY hx,mY hy];simp[bi]
theorem Mb (P X M Y0 S:List α):Do P X M Y0 S 0=P++X++M++Y0++S:=by simp[Do]
theorem N7 {P X M Y0 S:List α}(h:X.length=Y0.length):Do P X M Y0 S X.length=P++Y0++M++X++S:=by
 rw[Do,bb,fH,h,bb,fH];simp[bi]
theorem N8 {P X M Y0 S:List α}{k:Nat}{x y:α}(hx:X[k]? = some x)(hy:Y0[k]? = some y):(Do P X M Y0 S k)[P.length+k]? = some x:=by
 have hk:k<Y0.length:=(bV hy).1;have h:=AG (P++Y0.take k) (X.drop (k+1)++M++X.take k) (Y0.drop (k+1)++S) x y;rw[Fc hx hy];rwa [show(P++Y0.take k).length=P.length+k by simp;omega]at h
theorem Sc {P X M Y0:List α}{k:Nat}(hx:k<X.length)(hy:k<Y0.length):(P++Y0.take k).length+1+(X.drop (k+1)++M++X.take k).length=P.length+X.length+M.length+k:=by simp;omega
theorem N_ {P X M Y0 S:List α}{k:Nat}{x y:α}(hx:X[k]? = some x)(hy:Y0[k]? = some y):(Do P X M Y0 S k)[P.length+X.length+M.length+k]? = some y:=by
 have h:=AH (P++Y0.take k) (X.drop (k+1)++M++X.take k) (Y0.drop (k+1)++S) x y;rw[Fc hx hy];rwa [Sc (bV hx).1 (bV hy).1]at h
theorem N9 {P X M Y0 S:List α}{k:Nat}{x y:α}(hx:X[k]? = some x)(hy:Y0[k]? = some y):((Do P X M Y0 S k).set (P.length+k) y).set (P.length+X.length+M.length+k) x=Do P X M Y0 S (k+1):=by
 have hk:k<Y0.length:=(bV hy).1;have h:=Bn (P++Y0.take k) (X.drop (k+1)++M++X.take k) (Y0.drop (k+1)++S) x y;rw[Ma hx hy,<-h,Fc hx hy,Sc (bV hx).1 hk,show(P++Y0.take k).length=P.length+k by simp;omega]
variable {key:α->Rat}
def jU (key:α->Rat)(l:List α):Prop:=l.Pairwise fun x y=>key x<=key y
theorem rR {l:List α}{t:Nat}{v:α}(h:jU key l)(hv:l[t]? = some v):∀y∈l.drop t,key v<=key y:=by
 have h2:jU key (l.drop t):=List.Pairwise.sublist (At t l) h;rw[jr hv]at h2 ⊢;intro y hy;rcases cG.1 hy with rfl|hy
 .exact ez
 .exact(oE.1 h2).1 y hy
theorem rS {l:List α}{t:Nat}{v:α}(h:jU key l)(hv:l[t]? = some v):∀y∈l.take (t+1),key y<=key v:=by
 have h2:jU key (l.take (t+1)):=List.Pairwise.sublist (uB (t+1) l) h;rw[mY hv]at h2 ⊢;intro y hy;rcases i5.1 hy with hy|hy
 .exact(mj.1 h2).2.2 y hy v (List.mem_singleton_self _)
 .rw[kX.1 hy];exact ez
def Mu (key:α->Rat)(A B:List α):Prop:=∀x∈A,∀y∈B,key x<=key y
theorem MD {U V:List α}(hU:jU key U)(hV:jU key V){s t:Nat}(h:s=0\/t=V.length\/∃s' u v,s=s'+1/\U[s']? = some u/\V[t]? = some v/\key u<=key v):Mu key (U.take s) (V.drop t):=by
 intro x hx y hy;rcases h with rfl|rfl|⟨s',u,v,rfl,hu,hv,huv⟩
 .simp at hx
 .simp at hy
 .have h1:=rS hU hu x hx;have h2:=rR hV hv y hy;grind
theorem u9 {A B:List α}(hA:jU key A)(hB:jU key B)(h:Mu key A B):jU key (A++B):=mj.2 ⟨hA,hB,h⟩
theorem nW {l:List α}(h:jU key l)(n:Nat):jU key (l.take n):=List.Pairwise.sublist (uB n l) h
theorem nV {l:List α}(h:jU key l)(n:Nat):jU key (l.drop n):=List.Pairwise.sublist (At n l) h
theorem AF {U V W1 W2:List α}(hU:jU key U)(hV:jU key V){s t:Nat}(c1:Mu key (U.take s) (V.drop t))(c2:Mu key (V.take t) (U.drop s))(p1:W1.Perm (U.take s++V.take t))(p2:W2.Perm (U.drop s++V.drop t))(s1:jU key W1)(s2:jU key W2) :
  jU key (W1++W2)/\(W1++W2).Perm (U++V):=by
 have b1:Mu key (U.take s) (U.drop s):=by
  have h:=hU;rw[<-dR s U]at h;exact(mj.1 h).2.2
 have b2:Mu key (V.take t) (V.drop t):=by
  have h:=hV;rw[<-dR t V]at h;exact(mj.1 h).2.2
 refine⟨u9 s1 s2 fun x hx y hy=>?_,?_⟩
 .have hx:=i5.1 (p1.mem_iff.1 hx);have hy:=i5.1 (p2.mem_iff.1 hy);rcases hx with hx|hx<;>rcases hy with hy|hy
  .exact b1 x hx y hy
  .exact c1 x hx y hy
  .exact c2 x hx y hy
  .exact b2 x hx y hy
 .refine(p1.append p2).trans ?_;have e:U++V=U.take s++(U.drop s++V):=by rw[<-bi,dR]
  rw[e,bi];refine List.Perm.append_left _ ?_;have e2:U.drop s++V=U.drop s++(V.take t++V.drop t):=by rw[dR]
  rw[e2,<-bi,<-bi];exact List.Perm.append_right _ List.perm_append_comm
theorem yC {V:List α}(hV:jU key V){u:α}{t:Nat}(c1:∀y∈V.take t,key y<=key u)(c2:∀y∈V.drop t,key u<=key y):jU key (V.take t++u::V.drop t):=by
 have b2:Mu key (V.take t) (V.drop t):=by
  have h:=hV;rw[<-dR t V]at h;exact(mj.1 h).2.2
 refine u9 (nW hV t) (oE.2 ⟨c2,nV hV t⟩) fun x hx y hy=>?_;rcases cG.1 hy with rfl|hy
 .exact c1 x hx
 .exact b2 x hx y hy
theorem CA (V:List α)(u:α)(t:Nat):(V.take t++u::V.drop t).Perm (u::V):=by
 refine AA.trans ?_;rw[dR]
end
theorem Fd {K:St->Prop}{s:St}{d g N Q:Nat}{x y z n c:Operand}{tys:Array TypeId}{ty:TypeId}{pos:String}{af:Array Edge}(P X M Y0 S:List BN)(hXY:X.length=Y0.length)(hN:N=(P++X++M++Y0++S).length)(hN1:N<=1000)(hQ:Q=P.length+X.length+M.length)
  (hx:s.ev x = .als 5 g 0 N) (hy:s.ev y=I P.length) (hz:s.ev z=I Q) (hn:s.ev n=I X.length) (hc:s.ev c = .clo 279 [])
  (ho:FitO s [(5,g,⟨303,8,(P++X++M++Y0++S).map cA,1⟩)])
  (hK:∀s1:St,K (({ reg:=s.reg,own:=(s1.over [] [(5,g,⟨303,8,(P++Y0++M++X++S).map cA,1⟩)]).own }:St).putR d (.tup []))) :
  Sm Tryz.prog lay.get s ⟨some d,.call ⟨.value (.func 313),#[x,y,z,n,c],tys⟩,ty,pos,af,none⟩ K:=by
 refine cS layOk O O Tryz.func313 O Y O O ?_;show PWP _ _ _ _ (bO s (([x,y,z,n,c]:List Operand).map s.ev++[]));rw[show(([x,y,z,n,c]:List Operand).map s.ev++([]:List PV))=[.als 5 g 0 N,I P.length,I Q,I X.length,.clo 279 []] by simp[hx,hy,hz,hn,hc]];rw[show bO s [.als 5 g 0 N,I P.length,I Q,I X.length,.clo 279 []]=bO (s.over [] [(5,g,⟨303,8,(P++X++M++Y0++S).map cA,1⟩)]) [.als 5 g 0 N,I P.length,I Q,I X.length,.clo 279 []] by rw[Fit.over (l:=[]) ho]];have hlen:N=P.length+X.length+M.length+Y0.length+S.length:=by rw[hN];simp;omega
 refine H ?_;refine ah (fun k=>k<=X.length) (fun k=>[(0,.als 5 g 0 N),(1,I P.length),(2,I Q),(3,I X.length),(10,I (k:Nat))])
  (fun k=>[(5,g,⟨303,8,(Do P X M Y0 S k).map cA,1⟩)]) (fun k=>X.length-k) 0 (aP _) ⟨O,O,O,O,O,by rw[Mb];rfl,trivial⟩ ?_
 intro k s1 hk;refine D ?_ ?_<;>intro h
 .have hlt:k<X.length:=by have:=aB h;omega
  clear h;obtain⟨p,hp⟩:=aC hlt;obtain⟨q,hq⟩:=aC (show k<Y0.length by omega);have hw1:IntKind.i64.wrap (((P.length:Nat):Int)+(k:Nat))=((P.length+k:Nat):Int):=by rw[wrap_i64 J J];omega
  have hw2:IntKind.i64.wrap (((Q:Nat):Int)+(k:Nat))=((Q+k:Nat):Int):=by rw[wrap_i64 J J];omega
  have hw:=fg k;have hr1:((Do P X M Y0 S k).map cA)[P.length+k]? = some (cA p):=by rw[bD,N8 hp hq];rfl
  have hr2:((Do P X M Y0 S k).map cA)[Q+k]? = some (cA q):=by rw[bD,hQ,N_ hp hq];rfl
  refine H ?_;refine l5 [] [5] 21 [21,22,23] [4,5,6,7] aK aK ?_;refine H ?_;rw[hw1,hw2];refine nr O O O O O O O O O ?_;rw[br,aX (Q+k)];refine cf O O (dK O O O hr2 O) ?_;refine H ?_;rw[hw1];refine nr O O O O O O O O O ?_;rw[br,aX (P.length+k)];refine cf O O (dK O O O hr1 O) ?_;refine H ?_;refine nr O O O O O O O O O ?_;rw[br,aX (P.length+k)];refine H ?_;refine lr O O O (cK (kd':=1) O O O hr1 O O aH O O O O ⟨pr O,?_⟩);refine nr O O O O O O O O O ?_;rw[br,aX (Q+k)];refine lr O O O (cK (kd':=1) O O O (row:=cA q) (by
   show(((Do P X M Y0 S k).map cA).set (P.length+k) _)[Q+k]? = _
   rw[eo J];exact hr2) O O aH O O O O ⟨pr O,?_⟩)
  refine H ?_;refine⟨k+1,hlt,J,O,O,O,O,congrArg I hw,?_,trivial⟩;refine Eq.trans (b:=(g,some (Cont.mk 303 8 ((((Do P X M Y0 S k).map cA).set (P.length+k) (cA q)).set (Q+k) (cA p)) 1))) O ?_;rw[<-f8,<-f8,hQ,N9 hp hq]
 .have hge:k=X.length:=by have:=aE h;omega
  clear h;rw[hge,N7 hXY];refine H ?_;exact fS O (hK s1)
def OD (P U V S:List BN)(q:List BN × List BN × List BN × List BN):Prop:=q.2.1≠[]/\q.2.2.1≠[]/\q.1.length+q.2.1.length=P.length+U.length/\q.1++q.2.2.1++q.2.1++q.2.2.2=P++V++U++S
def In (q:List BN × List BN × List BN × List BN):List BN:=q.1++q.2.1++q.2.2.1++q.2.2.2
theorem Ll {P U V S:List BN}{q:List BN × List BN × List BN × List BN}(h:OD P U V S q):(In q).length=(P++U++V++S).length:=by
 have:=congrArg List.length h.2.2.2;simp only[In,bI]at *
 omega
theorem QA {K:St->Prop}{s:St}{d g N:Nat}{x y z n c:Operand}{tys:Array TypeId}{ty:TypeId}{pos:String}{af:Array Edge}(P U V S:List BN)(hU:U≠[])(hV:V≠[])(hN:N=(P++U++V++S).length)(hN1:N<=1000)
  (hx:s.ev x = .als 5 g 0 N) (hy:s.ev y=I P.length) (hz:s.ev z=I (P.length+U.length:Nat)) (hn:s.ev n=I (P.length+U.length+V.length:Nat)) (hc:s.ev c = .clo 279 [])
  (ho:FitO s [(5,g,⟨303,8,(P++U++V++S).map cA,1⟩)])
  (hK:∀s1:St,K (({ reg:=s.reg,own:=(s1.over [] [(5,g,⟨303,8,(P++V++U++S).map cA,1⟩)]).own }:St).putR d (.tup []))) :
  Sm Tryz.prog lay.get s ⟨some d,.call ⟨.value (.func 311),#[x,y,z,n,c],tys⟩,ty,pos,af,none⟩ K:=by
 have hlen:N=P.length+U.length+V.length+S.length:=by rw[hN];simp;omega
 generalize hm:P.length+U.length=m at *
 refine cS layOk O O Tryz.func311 O Y O O ?_;show PWP _ _ _ _ (bO s (([x,y,z,n,c]:List Operand).map s.ev++[]));rw[show(([x,y,z,n,c]:List Operand).map s.ev++([]:List PV))=[.als 5 g 0 N,I P.length,I m,I (m+V.length:Nat),.clo 279 []] by simp[hx,hy,hz,hn,hc]];rw[show bO s [.als 5 g 0 N,I P.length,I m,I (m+V.length:Nat),.clo 279 []]=bO (s.over [] [(5,g,⟨303,8,(P++U++V++S).map cA,1⟩)]) [.als 5 g 0 N,I P.length,I m,I (m+V.length:Nat),.clo 279 []] by rw[Fit.over (l:=[]) ho]];have hwa:IntKind.i64.wrap (((m:Nat):Int)-(P.length:Nat))=(U.length:Nat):=by rw[wrap_i64 J J];omega
 have hwb:IntKind.i64.wrap (((m+V.length:Nat):Int)-(m:Nat))=(V.length:Nat):=by rw[wrap_i64 J J];omega
 refine H ?_;rw[hwa];refine H ?_;rw[hwb];refine ah (OD P U V S) (fun q=>[(0,.als 5 g 0 N),(2,I m),(4,.clo 279 []),(10,I q.2.1.length),(11,I q.2.2.1.length)])
  (fun q=>[(5,g,⟨303,8,(In q).map cA,1⟩)]) (fun q=>q.2.1.length+q.2.2.1.length) (P,U,V,S) ⟨hU,hV,O,O⟩ ⟨O,O,O,O,O,O,trivial⟩ ?_
 rintro⟨A,X,Y0,B⟩ s1 hq;have hql:=Ll hq;obtain⟨hX,hY,hAm,heq⟩:=hq;simp only at hX hY hAm heq;have hX0:0<X.length:=oD.2 hX;have hY0:0<Y0.length:=oD.2 hY;rw[hm]at hAm;simp only[In]at hql;rw[<-hN]at hql;have hql2:N=A.length+X.length+Y0.length+B.length:=by rw[<-hql];simp;omega
 dsimp only[In];refine D ?_ ?_<;>intro h
 .have hne:X.length≠Y0.length:=by
   intro e;simp[e]at h
  clear h;refine D ?_ ?_<;>intro h
  .have hgt:Y0.length<X.length:=by have:=aB h;omega
   clear h;have hw1:IntKind.i64.wrap (((m:Nat):Int)-(X.length:Nat))=(A.length:Nat):=by rw[wrap_i64 J J];omega
   have hw2:IntKind.i64.wrap (((X.length:Nat):Int)-(Y0.length:Nat))=((X.drop Y0.length).length:Nat):=by rw[wrap_i64 J J,gV];omega
   have htl:(X.take Y0.length).length=Y0.length:=by rw[bw];omega
   have hsp:A++X++Y0++B=A++X.take Y0.length++X.drop Y0.length++Y0++B:=by
    rw[bi A (X.take _),dR]
   have hmQ:m=A.length+(X.take Y0.length).length+(X.drop Y0.length).length:=by rw[htl,gV];omega
   rw[hsp]
   (refine cN 4 ?_;refine aU 7 ?_)
   refine H ?_;refine bC O (Fd (N:=N) (Q:=m) A (X.take Y0.length) (X.drop Y0.length) Y0 B htl (by rw[<-hsp];exact hql.symm) hN1 hmQ O (congrArg I hw1) O (by rw[htl];rfl) O ⟨O,trivial⟩ fun s2=>?_);refine aW ?_;refine H ?_;refine⟨(A++Y0,X.drop Y0.length,X.take Y0.length,B),⟨?_,?_,?_,?_⟩,?_,O,O,O,congrArg I hw2,by rw[htl];rfl,O,trivial⟩
   .intro e;have:=congrArg List.length e;rw[gV]at this;simp at this;omega
   .intro e;have e2:(X.take Y0.length).length=0:=by rw[show X.take Y0.length=[] from e];rfl
    omega
   .have hd:(X.drop Y0.length).length=X.length-Y0.length:=gV;show(A++Y0).length+(X.drop Y0.length).length=P.length+U.length;rw[bI,hd,hm];omega
   .simp only;rw[<-heq];have e:X.take Y0.length++X.drop Y0.length=X:=dR _ _
    calc A++Y0++X.take Y0.length++X.drop Y0.length++B=A++Y0++(X.take Y0.length++X.drop Y0.length)++B:=by simp[bi]
     _=A++Y0++X++B:=by rw[e]
   .have hd:(X.drop Y0.length).length=X.length-Y0.length:=gV;show(X.drop Y0.length).length+(X.take Y0.length).length<X.length+Y0.length;omega
  .have hlt:X.length<Y0.length:=by have:=aE h;omega
   clear h;obtain⟨w,hw⟩:∃w,w=Y0.length-X.length:=⟨_,O⟩;have hw1:IntKind.i64.wrap (((m:Nat):Int)-(X.length:Nat))=(A.length:Nat):=by rw[wrap_i64 J J];omega
   have hw3:IntKind.i64.wrap (((m:Nat):Int)+(Y0.length:Nat))=((m+Y0.length:Nat):Int):=by rw[wrap_i64 J J];omega
   have hw4:IntKind.i64.wrap (((m+Y0.length:Nat):Int)-(X.length:Nat))=((m+w:Nat):Int):=by rw[wrap_i64 J J];omega
   have htl:(Y0.take w).length=w:=by rw[bw];omega
   have hdl:(Y0.drop w).length=X.length:=by rw[gV];omega
   have hw2:IntKind.i64.wrap (((Y0.length:Nat):Int)-(X.length:Nat))=((Y0.take w).length:Nat):=by rw[wrap_i64 J J,htl];omega
   have hsp:A++X++Y0++B=A++X++Y0.take w++Y0.drop w++B:=by
    rw[bi (A++X) (Y0.take _),dR]
   rw[hsp]
   (refine cN 6 ?_;refine aU 11 ?_)
   refine H ?_;rw[hw3];refine H ?_;refine bC O (Fd (N:=N) (Q:=m+w) A X (Y0.take w) (Y0.drop w) B hdl.symm (by rw[<-hsp];exact hql.symm) hN1 (by rw[htl];omega) O (congrArg I hw1) (congrArg I hw4) O O ⟨O,trivial⟩ fun s2=>?_);refine aW ?_;refine H ?_;refine⟨(A,Y0.drop w,Y0.take w,X++B),⟨?_,?_,?_,?_⟩,?_,O,O,O,by rw[hdl];rfl,congrArg I hw2,?_,trivial⟩
   .intro e;have e2:(Y0.drop w).length=0:=by rw[show Y0.drop w=[] from e];rfl
    omega
   .intro e;have e2:(Y0.take w).length=0:=by rw[show Y0.take w=[] from e];rfl
    omega
   .show A.length+(Y0.drop w).length=P.length+U.length;rw[hdl,hm];omega
   .simp only;rw[<-heq];have e:Y0.take w++Y0.drop w=Y0:=dR _ _
    calc A++Y0.take w++Y0.drop w++(X++B)=A++(Y0.take w++Y0.drop w)++X++B:=by simp[bi]
     _=A++Y0++X++B:=by rw[e]
   .show(Y0.drop w).length+(Y0.take w).length<X.length+Y0.length;omega
   .dsimp only[In];rw[show A++Y0.drop w++Y0.take w++(X++B)=A++Y0.drop w++Y0.take w++X++B by simp[bi]];rfl
 .have he:X.length=Y0.length:=by
   have h2:((X.length:Nat):Int)=((Y0.length:Nat):Int):=by simpa using h
   omega
  clear h;have hw1:IntKind.i64.wrap (((m:Nat):Int)-(X.length:Nat))=(A.length:Nat):=by rw[wrap_i64 J J];omega
  have hsp:A++X++Y0++B=A++X++[]++Y0++B:=ao;rw[hsp]
  (refine cN 8 ?_;refine aU 7 ?_)
  refine H ?_;refine bC O (Fd (N:=N) (Q:=m) A X [] Y0 B he (by rw[<-hsp];exact hql.symm) hN1 aV O (congrArg I hw1) O O O ⟨O,trivial⟩ fun s2=>?_);refine aW ?_;refine H ?_;rw[show A++Y0++[]++X++B=P++V++U++S by rw[b8];exact heq];exact fS O (hK s2)
section
variable {α:Type}{key:α->Rat}
def fA (key:α->Rat)(c:Rat)(l:List α):List α:=l.filter fun x=>decide (key x=c)
theorem bT (c:Rat)(A B:List α):fA key c (A++B)=fA key c A++fA key c B:=List.filter_append ..
theorem iL {c:Rat}{a:α}(l:List α)(h:key a=c):fA key c (a::l)=a::fA key c l:=List.filter_cons_of_pos (by simpa using h)
theorem kW {c:Rat}{a:α}(l:List α)(h:key a≠c):fA key c (a::l)=fA key c l:=List.filter_cons_of_neg (by simpa using h)
theorem il {c:Rat}{a:α}{l:List α}:a∈fA key c l↔a∈l/\key a=c:=by rw[fA,AD,decide_eq_true_eq]
theorem JJ:∀ {A B:List α},jU key A->jU key B->(∀c,fA key c A=fA key c B)->A=B
 |[],[],_,_,_=>rfl
 |[],b::B,_,_,h=>by
  have:b∈fA key (key b) ([]:List α):=by rw[h];exact il.2 ⟨gU ..,O⟩
  cases this
 |a::A,[],_,_,h=>by
  have:a∈fA key (key a) ([]:List α):=by rw[<-h];exact il.2 ⟨gU ..,O⟩
  cases this
 |a::A,b::B,hA,hB,h=>by
  obtain⟨a1,a2⟩:=oE.1 hA;obtain⟨b1,b2⟩:=oE.1 hB;have ha:a∈b::B:=(il.1 (by rw[<-h];exact il.2 ⟨gU ..,O⟩:a∈fA key (key a) (b::B))).1;have hb:b∈a::A:=(il.1 (by rw[h];exact il.2 ⟨gU ..,O⟩:b∈fA key (key b) (a::A))).1;have k1:key b<=key a:=by
   rcases cG.1 ha with e|e
   .rw[e];exact ez
   .exact b1 a e
  have k2:key a<=key b:=by
   rcases cG.1 hb with e|e
   .rw[e];exact ez
   .exact a1 b e
  have hk:key b=key a:=Rat.le_antisymm k1 k2;have h0:=h (key a);rw[iL _ O,iL _ hk]at h0;have hab:a=b:=(List.cons.inj h0).1;subst hab;congr 1;refine JJ a2 b2 fun c=>?_;have hc:=h c;by_cases e:key a=c
  .rw[iL _ e,iL _ e]at hc;exact(List.cons.inj hc).2
  .rwa [kW _ e,kW _ e]at hc
def Q5 (key:α->Rat)(A B:List α):Prop:=∀x∈A,∀y∈B,key x<key y
theorem M7 {A B:List α}(h:Q5 key A B)(c:Rat):fA key c A=[]\/fA key c B=[]:=by
 rcases dD (fA key c A=[]) with e|e
 .exact .inl e
 .refine .inr (FV.2 fun y hy=>?_);obtain⟨x,hx⟩:=List.exists_mem_of_ne_nil _ e;obtain⟨hx1,hx2⟩:=il.1 hx;obtain⟨hy1,hy2⟩:=il.1 hy;have:=h x hx1 y hy1;rw[hx2,hy2]at this;exact absurd this (Rat.lt_irrefl)
theorem vW {A B:List α}(h:Q5 key A B)(c:Rat):fA key c (A++B)=fA key c (B++A):=by
 rw[bT,bT];rcases M7 h c with e|e<;>rw[e]<;>simp
theorem D9 {U V W1 W2:List α}{s t:Nat}(c2:Q5 key (V.take t) (U.drop s))(p1:∀c,fA key c W1=fA key c (U.take s++V.take t))(p2:∀c,fA key c W2=fA key c (U.drop s++V.drop t))(c:Rat):fA key c (W1++W2)=fA key c (U++V):=by
 have h:=vW c2 c;rw[bT,bT]at h;have eU:fA key c U=fA key c (U.take s)++fA key c (U.drop s):=by rw[<-bT,dR]
 have eV:fA key c V=fA key c (V.take t)++fA key c (V.drop t):=by rw[<-bT,dR]
 rw[bT,p1,p2,bT,bT,bT,eU,eV,bi,<-bi (fA key c (V.take t)),h];simp only[bi]
end
variable {α:Type}{key:α->Rat}
theorem JL {c:Rat}{l:List α}(h:∀x∈l,key x≠c):fA key c l=[]:=FV.2 fun x hx=>h x (il.1 hx).1 (il.1 hx).2
theorem Kb (l:List α)(x:α)(c:Rat):fA key c (pT key l x)=fA key c (l++[x]):=by
 obtain⟨h1,h2⟩:=sO key l x l.length (a_);rw[pT,dh,CL];generalize tZ key l x l.length=k at *
 have e:fA key c l=fA key c (l.take k)++fA key c (l.drop k):=by rw[<-bT,dR]
 rw[bT,bT,e];by_cases hx:key x=c
 .have hd:fA key c (l.drop k)=[]:=JL fun y hy hyc=>by
   obtain⟨q,hq⟩:=iA.1 hy;rw[dx]at hq;have:=h2 (k+q) y J (bV hq).1 hq;rw[hx,hyc]at this;exact absurd this Rat.lt_irrefl
  rw[iL _ hx,hd,iL _ hx];simp[fA]
 .rw[kW _ hx,kW _ hx];simp[fA]
theorem th (l:List α)(c:Rat):fA key c (dc key l)=fA key c l:=by
 have:∀(l acc:List α),fA key c (l.foldl (pT key) acc)=fA key c (acc++l):=by
  intro l
  induction l with
  |nil=>intro acc;rw[b8];rfl
  |cons x l ih =>
   intro acc;rw[gX,ih,bT,Kb,bT,bT,show x::l=[x]++l from O,bT];simp only[bi]
 have h:=this l [];rwa [jF]at h
theorem II {W l:List α}(hs:jU key W)(hf:∀c,fA key c W=fA key c l):W=dc key l :=
 JJ hs (kn key l) fun c=>by rw[hf,th]
end Go.Pv
set_option maxHeartbeats 2000000
namespace Go.Pv
attribute [local irreducible] PWP POps PQuiet PSem aF aw ai ak
open Go.Proofs
theorem Sy {P U V S:List BN}{i:Nat}{u:BN}(h:U[i]? = some u):((P++U++V++S).map cA)[P.length+i]? = some (cA u):=by
 have hi:=(bV h).1;rw[bD,bi,bi,eM J,show P.length+i-P.length=i by omega,gd J,h];rfl
theorem SA {P U V S:List BN}{i:Nat}{v:BN}(h:V[i]? = some v):((P++U++V++S).map cA)[P.length+U.length+i]? = some (cA v):=by
 have hi:=(bV h).1;rw[bD,bi,eM (by rw[bI];omega),show P.length+U.length+i-(P++U).length=i by rw[bI];omega,gd J,h];rfl
theorem Gf (X Y0:Nat)(h:X+Y0<=4000):IntKind.i64.wrap (IntKind.u64.wrap (IntKind.i64.wrap (((X:Nat):Int)+((Y0:Nat):Int)))/2^Int.toNat 1)=(((X+Y0)/2:Nat):Int):=by
 rw[wrap_i64 (n:=((X:Nat):Int)+((Y0:Nat):Int)) J J,wrap_u64 J J,show((2:Int)^Int.toNat 1)=2 by decide,wrap_i64 J J];omega
theorem KI {V:List BN}{u:BN}{t:Nat}(h:∀y∈V.take t,cw y<cw u)(c:Rat):fA cw c (V.take t++u::V.drop t)=fA cw c ([u]++V):=by
 have e:V.take t++u::V.drop t=(V.take t++[u])++V.drop t:=ao;rw[e,bT,vW (fun x hx y hy=>by rw[kX.1 hy];exact h x hx),<-bT,bi,dR]
theorem KJ {U:List BN}{v:BN}{t:Nat}(h:∀y∈U.drop t,cw v<cw y)(c:Rat):fA cw c (U.take t++v::U.drop t)=fA cw c (U++[v]):=by
 have e:U.take t++v::U.drop t=U.take t++([v]++U.drop t):=ao;rw[e,bT,vW (fun x hx y hy=>by rw[kX.1 hx];exact h y hy),<-bT,<-bi,dR]
def kj (P V:List BN)(u:BN)(S:List BN)(r:Nat):List BN:=P++(V.take r++u::V.drop r)++S
theorem u5 {P V S:List BN}{u v:BN}{r:Nat}(h:V[r]? = some v):kj P V u S r=(P++V.take r)++u::([]++v::(V.drop (r+1)++S)):=by
 rw[kj,jr h];simp[bi]
theorem oS {P V S:List BN}{u v:BN}{r:Nat}(h:V[r]? = some v):kj P V u S (r+1)=(P++V.take r)++v::([]++u::(V.drop (r+1)++S)):=by
 rw[kj,mY h];simp[bi]
theorem CZ {P V S:List BN}{u v:BN}{r:Nat}(h:V[r]? = some v):((kj P V u S r).map cA)[P.length+r]? = some (cA u):=by
 have hr:=(bV h).1;have e:=AG (P++V.take r) [] (V.drop (r+1)++S) u v;rw[show(P++V.take r).length=P.length+r by simp;omega,<-u5 h]at e;rw[bD,e];rfl
theorem C5 {P V S:List BN}{u v:BN}{r:Nat}(h:V[r]? = some v):((kj P V u S r).map cA)[P.length+r+1]? = some (cA v):=by
 have hr:=(bV h).1;have e:=AH (P++V.take r) [] (V.drop (r+1)++S) u v;rw[show(P++V.take r).length=P.length+r by simp;omega,<-u5 h]at e;rw[bD,show P.length+r+1=P.length+r+1+([]:List BN).length from O,e];rfl
theorem Lp {P V S:List BN}{u v:BN}{r:Nat}(h:V[r]? = some v):((kj P V u S r).set (P.length+r) v).set (P.length+r+1) u=kj P V u S (r+1):=by
 have hr:=(bV h).1;have e:=Bn (P++V.take r) [] (V.drop (r+1)++S) u v;rw[show(P++V.take r).length=P.length+r by simp;omega,<-u5 h,<-oS h]at e;exact e
theorem EK {P V S:List BN}{u v:BN}{r:Nat}(h:V[r]? = some v):((kj P V u S (r+1)).set (P.length+r+1) v).set (P.length+r) u=kj P V u S r:=by
 have hr:=(bV h).1;have e:=Bn (P++V.take r) [] (V.drop (r+1)++S) v u;rw[show(P++V.take r).length=P.length+r by simp;omega,<-u5 h,<-oS h]at e;rw[List.set_comm _ _ J];exact e
theorem y2 {P V S:List BN}{u v:BN}{r:Nat}(h:V[r]? = some v):((kj P V u S (r+1)).map cA)[P.length+r]? = some (cA v):=by
 have hr:=(bV h).1;have e:=AG (P++V.take r) [] (V.drop (r+1)++S) v u;rw[show(P++V.take r).length=P.length+r by simp;omega,<-oS h]at e;rw[bD,e];rfl
theorem y3 {P V S:List BN}{u v:BN}{r:Nat}(h:V[r]? = some v):((kj P V u S (r+1)).map cA)[P.length+r+1]? = some (cA u):=by
 have hr:=(bV h).1;have e:=AH (P++V.take r) [] (V.drop (r+1)++S) v u;rw[show(P++V.take r).length=P.length+r by simp;omega,<-oS h]at e;rw[bD,show P.length+r+1=P.length+r+1+([]:List BN).length from O,e];rfl
theorem Cc {L:df}{fn:Func}{K:St->PV->Prop}{s:St}(h:fn.results.toList=[])(hk:K s (.tup [])):ak L fn K .ret s:=by
 unfold ak;exact⟨[],True,by rw[h];rfl,trivial,hk⟩
theorem Oa {K:St->Prop}{s:St}{d g N:Nat}{x y z n c:Operand}{tys:Array TypeId}{ty:TypeId}{pos:String}{af:Array Edge}(P:List BN)(u:BN)(V S:List BN)(hV:jU cw V)(hs:∀p∈u::V,p.at'.sz 7000000)(hN:N=(P++[u]++V++S).length)(hN1:N<=1000)
  (hx:s.ev x = .als 5 g 0 N) (hy:s.ev y=I P.length) (hz:s.ev z=I (P.length+1:Nat)) (hn:s.ev n=I (P.length+1+V.length:Nat)) (hc:s.ev c = .clo 279 [])
  (ho:FitO s [(5,g,⟨303,8,(P++[u]++V++S).map cA,1⟩)])
  (hK:∀(s1:St) (W:List BN),W.Perm ([u]++V)->(∀c,fA cw c W=fA cw c ([u]++V))->jU cw W->K (({ reg:=s.reg,own:=(s1.over [] [(5,g,⟨303,8,(P++W++S).map cA,1⟩)]).own }:St).putR d (.tup []))) :
  Sm Tryz.prog lay.get s ⟨some d,.call ⟨.value (.func 304),#[x,y,z,n,c],tys⟩,ty,pos,af,none⟩ K:=by
 have hlen:N=P.length+1+V.length+S.length:=by rw[hN];simp;omega
 generalize hm:P.length+1=m at *
 refine cS layOk O O Tryz.func304 O Y O O ?_;show PWP _ _ _ _ (bO s (([x,y,z,n,c]:List Operand).map s.ev++[]));rw[show(([x,y,z,n,c]:List Operand).map s.ev++([]:List PV))=[.als 5 g 0 N,I P.length,I m,I (m+V.length:Nat),.clo 279 []] by simp[hx,hy,hz,hn,hc]];rw[show bO s [.als 5 g 0 N,I P.length,I m,I (m+V.length:Nat),.clo 279 []]=bO (s.over [] [(5,g,⟨303,8,(P++[u]++V++S).map cA,1⟩)]) [.als 5 g 0 N,I P.length,I m,I (m+V.length:Nat),.clo 279 []] by rw[Fit.over (l:=[]) ho]];have hwa:IntKind.i64.wrap (((m:Nat):Int)-(P.length:Nat))=1:=by rw[wrap_i64 J J];omega
 refine H ?_;rw[hwa];refine H ?_;refine ah (fun q:Nat × Nat=>q.1<=q.2/\q.2<=V.length/\(∀v∈V.take q.1,cw v<cw u)/\(∀v∈V.drop q.2,cw u<=cw v)) (fun q=>[(0,.als 5 g 0 N),(1,I P.length),(4,.clo 279 []),(10,I (m+q.1:Nat)),(11,I (m+q.2:Nat))])
  (fun q=>[(5,g,⟨303,8,(P++[u]++V++S).map cA,1⟩)]) (fun q=>q.2-q.1) (0,V.length) ⟨aP _,a_,ao,ao⟩ ⟨O,O,O,O,O,O,trivial⟩ ?_
 rintro⟨p,q⟩ s1 ⟨hpq,hqV,h1,h2⟩;simp only at hpq hqV h1 h2;dsimp only;refine D ?_ ?_<;>intro h
 .have hlt:p<q:=by have:=aB h;omega
  clear h;obtain⟨f,hf⟩:∃f,f=(p+q)/2:=⟨_,O⟩;obtain⟨v,hv⟩:=aC (show f<V.length by omega);have hmid:IntKind.i64.wrap (IntKind.u64.wrap (IntKind.i64.wrap (((m+p:Nat):Int)+((m+q:Nat):Int)))/2^Int.toNat 1)=((m+f:Nat):Int):=by
   rw[Gf _ _ J];omega
  have hr1:((P++[u]++V++S).map cA)[m+f]? = some (cA v):=by rw[<-hm];exact SA (U:=[u]) hv
  have hr2:((P++[u]++V++S).map cA)[P.length]? = some (cA u):=Sy (U:=[u]) (i:=0) O;have hw:IntKind.i64.wrap (((m+f:Nat):Int)+1)=((m+(f+1):Nat):Int):=by rw[wrap_i64 J J];omega
  refine H ?_;rw[hmid];refine mS 11 [40,41,42,43,44,45,46,47,48,49,50] aK ?_;refine H ?_;refine nr O O O O O O O O O ?_;rw[br,aX (m+f)];refine cf O O (dK O O O hr1 O) ?_;refine H ?_;refine nr O O O O O O O O O ?_;rw[br,aX P.length];refine cf O O (dK O O O hr2 O) ?_;refine H ?_;refine cf O O (uW O (nA (hs v (iB _ (bm hv))) (hs u (gU ..))) O aH O O) ?_;refine D ?_ ?_<;>intro h
  .have hb:=h;have hlt2:cw v<cw u:=by have:=(cX _).1 (aB hb);grind
   clear hb h;refine H ?_;refine⟨(f+1,q),⟨by simp only;omega,hqV,fun y hy=>?_,h2⟩,by simp only;omega,O,O,O,congrArg I hw,O,O,trivial⟩;have:=rS hV hv y hy;grind
  .have hb:=h;have hge2:cw u<=cw v:=by
    have h9:=aE hb;rw[cX]at h9;grind
   clear hb h;refine H ?_;refine⟨(p,f),⟨by simp only;omega,by simp only;omega,h1,fun y hy=>?_⟩,by simp only;omega,O,O,O,O,O,O,trivial⟩;have:=rR hV hv y hy;grind
 .have he:p=q:=by have:=aE h;omega
  clear h;subst he;have hwp:IntKind.i64.wrap (((m+p:Nat):Int)-1)=((P.length+p:Nat):Int):=by rw[wrap_i64 J J];omega
  have hr0:P++[u]++V++S=kj P V u S 0:=by rw[kj];simp
  refine H ?_;refine ah (fun r=>r<=p) (fun r=>[(0,.als 5 g 0 N),(10,I (m+p:Nat)),(13,I (P.length+r:Nat))]) (fun r=>[(5,g,⟨303,8,(kj P V u S r).map cA,1⟩)]) (fun r=>p-r) 0 (aP _) ⟨O,O,O,by rw[<-hr0];rfl,trivial⟩ ?_;intro r s2 hr;refine H ?_;rw[hwp];refine aS O ?_ ?_<;>intro h
  .have hrp:r<p:=by have:=aB h;omega
   clear h;obtain⟨v,hv⟩:=aC (show r<V.length by omega);have hw:IntKind.i64.wrap (((P.length+r:Nat):Int)+1)=((P.length+r+1:Nat):Int):=by rw[wrap_i64 J J];omega
   refine H ?_;refine l5 [] [5] 15 [15,16,17] [2,3,4] aK aK ?_;refine H ?_;rw[hw];refine nr O O O O O O O O O ?_;rw[br,aX (P.length+r+1)];refine cf O O (dK O O O (C5 hv) O) ?_;refine H ?_;refine nr O O O O O O O O O ?_;rw[br,aX (P.length+r)];refine cf O O (dK O O O (CZ hv) O) ?_;refine H ?_;refine nr O O O O O O O O O ?_;rw[br,aX (P.length+r)];refine H ?_;refine lr O O O (cK (kd':=1) O O O (CZ hv) O O aH O O O O ⟨pr O,?_⟩);refine nr O O O O O O O O O ?_;rw[br,aX (P.length+r+1)];refine lr O O O (cK (kd':=1) O O O (row:=cA v) (by
    show(((kj P V u S r).map cA).set (P.length+r) _)[P.length+r+1]? = _
    rw[eo J];exact C5 hv) O O aH O O O O ⟨pr O,?_⟩)
   refine H ?_;refine⟨r+1,hrp,J,O,O,congrArg I hw,?_,trivial⟩;refine Eq.trans (b:=(g,some (Cont.mk 303 8 ((((kj P V u S r).map cA).set (P.length+r) (cA v)).set (P.length+r+1) (cA u)) 1))) O ?_;rw[<-f8,<-f8,Lp hv]
  .have hrp:r=p:=by have:=aE h;omega
   clear h;subst hrp;have hm2:=yC hV (fun y hy=>iq (h1 y hy)) h2;have hp2:=CA V u r;rw[kj];refine H ?_;exact Cc O (hK s2 _ hp2 (KI h1) hm2)
theorem Ob {K:St->Prop}{s:St}{d g N:Nat}{x y z n c:Operand}{tys:Array TypeId}{ty:TypeId}{pos:String}{af:Array Edge}(P U:List BN)(v:BN)(S:List BN)(hU1:U.length≠1)(hU:jU cw U)(hs:∀p∈v::U,p.at'.sz 7000000)(hN:N=(P++U++[v]++S).length)(hN1:N<=1000)
  (hx:s.ev x = .als 5 g 0 N) (hy:s.ev y=I P.length) (hz:s.ev z=I (P.length+U.length:Nat)) (hn:s.ev n=I (P.length+U.length+1:Nat)) (hc:s.ev c = .clo 279 [])
  (ho:FitO s [(5,g,⟨303,8,(P++U++[v]++S).map cA,1⟩)])
  (hK:∀(s1:St) (W:List BN),W.Perm (U++[v])->(∀c,fA cw c W=fA cw c (U++[v]))->jU cw W->K (({ reg:=s.reg,own:=(s1.over [] [(5,g,⟨303,8,(P++W++S).map cA,1⟩)]).own }:St).putR d (.tup []))) :
  Sm Tryz.prog lay.get s ⟨some d,.call ⟨.value (.func 304),#[x,y,z,n,c],tys⟩,ty,pos,af,none⟩ K:=by
 have hlen:N=P.length+U.length+1+S.length:=by rw[hN];simp;omega
 obtain⟨m,hm⟩:∃m,m=P.length+U.length:=⟨_,O⟩;rw[<-hm]at hz hn hlen;refine cS layOk O O Tryz.func304 O Y O O ?_;show PWP _ _ _ _ (bO s (([x,y,z,n,c]:List Operand).map s.ev++[]));rw[show(([x,y,z,n,c]:List Operand).map s.ev++([]:List PV))=[.als 5 g 0 N,I P.length,I m,I (m+1:Nat),.clo 279 []] by simp[hx,hy,hz,hn,hc]];rw[show bO s [.als 5 g 0 N,I P.length,I m,I (m+1:Nat),.clo 279 []]=bO (s.over [] [(5,g,⟨303,8,(P++U++[v]++S).map cA,1⟩)]) [.als 5 g 0 N,I P.length,I m,I (m+1:Nat),.clo 279 []] by rw[Fit.over (l:=[]) ho]];have hwa:IntKind.i64.wrap (((m:Nat):Int)-(P.length:Nat))=(U.length:Nat):=by rw[wrap_i64 J J];omega
 have hwb:IntKind.i64.wrap (((m+1:Nat):Int)-(m:Nat))=1:=by rw[wrap_i64 J J];omega
 refine H ?_;rw[hwa];refine aS O ?_ ?_<;>intro h
 .have:=aB h;omega
 clear h;refine H ?_;rw[hwb];refine H ?_;refine ah (fun q:Nat × Nat=>q.1<=q.2/\q.2<=U.length/\(∀y∈U.take q.1,cw y<=cw v)/\(∀y∈U.drop q.2,cw v<cw y)) (fun q=>[(0,.als 5 g 0 N),(2,I m),(4,.clo 279 []),(14,I (P.length+q.1:Nat)),(15,I (P.length+q.2:Nat))])
  (fun q=>[(5,g,⟨303,8,(P++U++[v]++S).map cA,1⟩)]) (fun q=>q.2-q.1) (0,U.length) ⟨aP _,a_,ao,ao⟩ ⟨O,O,O,O,by rw[hm];rfl,O,trivial⟩ ?_
 rintro⟨p,q⟩ s1 ⟨hpq,hqV,h1,h2⟩;simp only at hpq hqV h1 h2;dsimp only;refine D ?_ ?_<;>intro h
 .have hlt:p<q:=by have:=aB h;omega
  clear h;obtain⟨f,hf⟩:∃f,f=(p+q)/2:=⟨_,O⟩;obtain⟨u,hu⟩:=aC (show f<U.length by omega);have hmid:IntKind.i64.wrap (IntKind.u64.wrap (IntKind.i64.wrap (((P.length+p:Nat):Int)+((P.length+q:Nat):Int)))/2^Int.toNat 1)=((P.length+f:Nat):Int):=by
   rw[Gf _ _ J];omega
  have hr1:((P++U++[v]++S).map cA)[P.length+f]? = some (cA u):=Sy hu;have hr2:((P++U++[v]++S).map cA)[m]? = some (cA v):=by rw[hm];exact SA (V:=[v]) (i:=0) O
  have hw:IntKind.i64.wrap (((P.length+f:Nat):Int)+1)=((P.length+(f+1):Nat):Int):=by rw[wrap_i64 J J];omega
  refine H ?_;rw[hmid];refine mS 12 [92,93,94,95,96,97,98,99,100,101,102,103] aK ?_;refine H ?_;refine nr O O O O O O O O O ?_;rw[br,aX m];refine cf O O (dK O O O hr2 O) ?_;refine H ?_;refine nr O O O O O O O O O ?_;rw[br,aX (P.length+f)];refine cf O O (dK O O O hr1 O) ?_;refine H ?_;refine cf O O (uW O (nA (hs v (gU ..)) (hs u (iB _ (bm hu)))) O aH O O) ?_;refine D ?_ ?_<;>intro h
  .have hge2:cw u<=cw v:=by
    have h9:¬sgn (cw v-cw u)<0:=by simpa using h
    rw[cX]at h9;grind
   clear h;refine H ?_;refine⟨(f+1,q),⟨by simp only;omega,hqV,fun y hy=>?_,h2⟩,by simp only;omega,O,O,O,congrArg I hw,O,O,trivial⟩;have:=rS hU hu y hy;grind
  .have hlt2:cw v<cw u:=by
    have h9:sgn (cw v-cw u)<0:=by simpa using h
    have:=(cX _).1 h9;grind
   clear h;refine H ?_;refine⟨(p,f),⟨by simp only;omega,by simp only;omega,h1,fun y hy=>?_⟩,by simp only;omega,O,O,O,O,O,O,trivial⟩;have:=rR hU hu y hy;grind
 .have he:p=q:=by have:=aE h;omega
  clear h;subst he;have hr0:P++U++[v]++S=kj P U v S U.length:=by rw[kj,bb,fH];simp
  refine H ?_;refine ah (fun r=>p<=r/\r<=U.length) (fun r=>[(0,.als 5 g 0 N),(14,I (P.length+p:Nat)),(17,I (P.length+r:Nat))]) (fun r=>[(5,g,⟨303,8,(kj P U v S r).map cA,1⟩)]) (fun r=>r) U.length ⟨hqV,a_⟩ ⟨O,O,by rw[<-hm];rfl,by rw[<-hr0];rfl,trivial⟩ ?_;intro r' s2 ⟨hr,hrU⟩;refine D ?_ ?_<;>intro h
  .have hrp:p<r':=by have:=aB h;omega
   clear h;obtain⟨r,rfl⟩:∃r,r'=r+1:=⟨r'-1,J⟩;obtain⟨u,hu⟩:=aC (show r<U.length by omega);have hw:IntKind.i64.wrap (((P.length+(r+1):Nat):Int)-1)=((P.length+r:Nat):Int):=by rw[wrap_i64 J J];omega
   refine H ?_;refine l5 [] [5] 15 [15,16,17] [2,3,4] aK aK ?_;refine H ?_;rw[hw];refine nr O O O O O O O O O ?_;rw[br,aX (P.length+r)];refine cf O O (dK O O O (y2 hu) O) ?_;refine H ?_;refine nr O O O O O O O O O ?_;rw[br,aX (P.length+(r+1))];refine cf O O (dK O O O (y3 hu) O) ?_;refine H ?_;refine nr O O O O O O O O O ?_;rw[br,aX (P.length+(r+1))];refine H ?_;refine lr O O O (cK (kd':=1) O O O (y3 hu) O O aH O O O O ⟨pr O,?_⟩);refine nr O O O O O O O O O ?_;rw[br,aX (P.length+r)];refine lr O O O (cK (kd':=1) O O O (row:=cA u) (by
    show(((kj P U v S (r+1)).map cA).set (P.length+(r+1)) _)[P.length+r]? = _
    rw[eo J];exact y2 hu) O O aH O O O O ⟨pr O,?_⟩)
   refine H ?_;refine⟨r,⟨J,J⟩,J,O,O,congrArg I hw,?_,trivial⟩;refine Eq.trans (b:=(g,some (Cont.mk 303 8 ((((kj P U v S (r+1)).map cA).set (P.length+r+1) (cA u)).set (P.length+r) (cA v)) 1))) O ?_;rw[<-f8,<-f8,EK hu]
  .have hrp:r'=p:=by have:=aE h;omega
   clear h;subst hrp;have hm2:=yC hU h1 (fun y hy=>iq (h2 y hy));have hp2:=(CA U v r').trans (List.perm_append_comm (l₁:=[v]) (l₂:=U));rw[kj];refine H ?_;exact Cc O (hK s2 _ hp2 (KJ h2) hm2)
theorem CO {P:Program}{L:df}{Q:Exit->St->Prop}{s:St}{ι:Type}{x y:Code}(X:ι->Prop)(regs:ι->List (Nat × PV))(owns:ι->List (Nat × Nat × Cont))(h1:PWP P L x (aF (fun s'=>∃i,X i/\Fit s' (regs i) (owns i)) Q) s)(h2:∀i,X i->∀s:St,PWP P L y Q (s.over (regs i) (owns i))):PWP P L x (aF (fun s'=>PWP P L y Q s') Q) s:=by
 refine PWP.mono ?_ _ h1;intro e s' h;unfold aF at h ⊢;cases e
 case normal =>
  obtain⟨i,hX,hF⟩:∃i,X i/\Fit s' (regs i) (owns i):=h;have:=h2 i hX s';rwa [Fit.over hF]at this
 all_goals exact h
theorem Ot {F:St->Prop}{Q:Exit->St->Prop}{s:St}:aF F Q .normal s=F s:=by unfold aF;rfl
theorem r5 {F:St->Prop}{Q:Exit->St->Prop}{e:Exit}{s:St}(h:e ≠ .normal):aF F Q e s=Q e s:=by
 unfold aF;cases e<;>first|rfl|exact absurd O h
theorem AX {P:Program}{L:df}{Q:Exit->St->Prop}{s:St}{ι:Type}{x1 x2 y:Code}(X:ι->Prop)(regs:ι->List (Nat × PV))(owns:ι->List (Nat × Nat × Cont))(h1:PWP P L x1 (aF (fun s'=>PWP P L x2 (aF (fun s'=>∃i,X i/\Fit s' (regs i) (owns i)) Q) s') (aF (fun s'=>∃i,X i/\Fit s' (regs i) (owns i)) Q)) s)(h2:∀i,X i->∀s:St,PWP P L y Q (s.over (regs i) (owns i))):PWP P L x1 (aF (fun s'=>PWP P L x2 (aF (fun s'=>PWP P L y Q s') Q) s') (aF (fun s'=>PWP P L y Q s') Q)) s:=by
 refine PWP.mono (fun e s' h=>?_) _ h1;by_cases he:e = .normal
 .subst he;rw[Ot]at h ⊢;exact CO X regs owns h h2
 .rw[r5 he,r5 he]at h;rw[r5 he,r5 he];exact h
def Sr (U V:List BN)(a m n lo c:Nat):Prop:=c=lo\/∃s' u v,c=a+s'+1/\U[s']? = some u/\V[n-c-m]? = some v/\cw u<=cw v
def Ss (U V:List BN)(a m n hi c:Nat):Prop:=c=hi\/∃t' v u,n=c+m+t'+1/\V[t']? = some v/\U[c-a]? = some u/\cw v<cw u
theorem MF {U V:List BN}(hU:jU cw U)(hV:jU cw V){s t:Nat}(h:s=0\/t=V.length\/∃s' u v,s=s'+1/\U[s']? = some u/\V[t]? = some v/\cw u<cw v):Q5 cw (U.take s) (V.drop t):=by
 intro x hx y hy;rcases h with rfl|rfl|⟨s',u,v,rfl,hu,hv,huv⟩
 .simp at hx
 .simp at hy
 .have h1:=rS hU hu x hx;have h2:=rR hV hv y hy;grind
theorem Oc {w:Nat} (ih:∀ {K:St->Prop} {s:St} {d g N:Nat} {x y z n c:Operand} {tys:Array TypeId} {ty:TypeId} {pos:String} {af:Array Edge} (P U V S:List BN),U.length+V.length<=w->U≠[]->V≠[]->jU cw U->jU cw V->(∀p∈U++V,p.at'.sz 7000000)->N=(P++U++V++S).length->N<=1000 ->
  s.ev x = .als 5 g 0 N->s.ev y=I P.length->s.ev z=I (P.length+U.length:Nat)->s.ev n=I (P.length+U.length+V.length:Nat)->s.ev c = .clo 279 []->FitO s [(5,g,⟨303,8,(P++U++V++S).map cA,1⟩)] ->
  (∀(s1:St) (W:List BN),W.Perm (U++V)->(∀c,fA cw c W=fA cw c (U++V))->jU cw W->K (({ reg:=s.reg,own:=(s1.over [] [(5,g,⟨303,8,(P++W++S).map cA,1⟩)]).own }:St).putR d (.tup []))) ->
  Sm Tryz.prog lay.get s ⟨some d,.call ⟨.value (.func 304),#[x,y,z,n,c],tys⟩,ty,pos,af,none⟩ K)
  {K:St->Prop} {s:St} {d g N:Nat} {x y z n c:Operand} {tys:Array TypeId} {ty:TypeId} {pos:String} {af:Array Edge} (P U V S:List BN) (hw:U.length+V.length<=w+1) (hU2:2<=U.length) (hV2:2<=V.length) (hU:jU cw U) (hV:jU cw V) (hs:∀p∈U++V,p.at'.sz 7000000) (hN:N=(P++U++V++S).length) (hN1:N<=1000)
  (hx:s.ev x = .als 5 g 0 N) (hy:s.ev y=I P.length) (hz:s.ev z=I (P.length+U.length:Nat)) (hn:s.ev n=I (P.length+U.length+V.length:Nat)) (hc:s.ev c = .clo 279 [])
  (ho:FitO s [(5,g,⟨303,8,(P++U++V++S).map cA,1⟩)])
  (hK:∀(s1:St) (W:List BN),W.Perm (U++V)->(∀c,fA cw c W=fA cw c (U++V))->jU cw W->K (({ reg:=s.reg,own:=(s1.over [] [(5,g,⟨303,8,(P++W++S).map cA,1⟩)]).own }:St).putR d (.tup []))) :
  Sm Tryz.prog lay.get s ⟨some d,.call ⟨.value (.func 304),#[x,y,z,n,c],tys⟩,ty,pos,af,none⟩ K:=by
 have hlen:N=P.length+U.length+V.length+S.length:=by rw[hN];simp;omega
 obtain⟨m,hm⟩:∃m,m=P.length+U.length:=⟨_,O⟩;obtain⟨b,hb⟩:∃b,b=m+V.length:=⟨_,O⟩;rw[<-hm]at hz hn hlen;rw[<-hb]at hn;refine cS layOk O O Tryz.func304 O Y O O ?_;show PWP _ _ _ _ (bO s (([x,y,z,n,c]:List Operand).map s.ev++[]));rw[show(([x,y,z,n,c]:List Operand).map s.ev++([]:List PV))=[.als 5 g 0 N,I P.length,I m,I b,.clo 279 []] by simp[hx,hy,hz,hn,hc]];rw[show bO s [.als 5 g 0 N,I P.length,I m,I b,.clo 279 []]=bO (s.over [] [(5,g,⟨303,8,(P++U++V++S).map cA,1⟩)]) [.als 5 g 0 N,I P.length,I m,I b,.clo 279 []] by rw[Fit.over (l:=[]) ho]];have hwa:IntKind.i64.wrap (((m:Nat):Int)-(P.length:Nat))=(U.length:Nat):=by rw[wrap_i64 J J];omega
 have hwb:IntKind.i64.wrap (((b:Nat):Int)-(m:Nat))=(V.length:Nat):=by rw[wrap_i64 J J];omega
 obtain⟨D0,hD⟩:∃D0,D0=(P.length+b)/2:=⟨_,O⟩;have hmid:IntKind.i64.wrap (IntKind.u64.wrap (IntKind.i64.wrap (((P.length:Nat):Int)+((b:Nat):Int)))/2^Int.toNat 1)=((D0:Nat):Int):=by rw[Gf _ _ J,hD]
 have hnn:IntKind.i64.wrap (((D0:Nat):Int)+(m:Nat))=((D0+m:Nat):Int):=by rw[wrap_i64 J J];omega
 have hpp:IntKind.i64.wrap (((D0+m:Nat):Int)-1)=((D0+m-1:Nat):Int):=by rw[wrap_i64 J J];omega
 refine H ?_;rw[hwa];refine aS O ?_ ?_<;>intro h
 .have:=aB h;omega
 clear h;refine H ?_;rw[hwb];refine aS O ?_ ?_<;>intro h
 .have:=aB h;omega
 clear h;refine H ?_;rw[hmid];refine H ?_;rw[hnn];refine CO (fun q:Nat × Nat=>P.length<=q.1/\q.1<=q.2/\q.2<=m/\q.2<=D0/\D0+m<=q.1+b/\(q.1=P.length\/q.1+b=D0+m)/\(q.2=D0\/q.2=m)) (fun q=>[(0,.als 5 g 0 N),(1,I P.length),(2,I m),(3,I b),(4,.clo 279 []),(18,I D0),(19,I (D0+m:Nat)),(20,I (q.1:Nat)),(21,I (q.2:Nat))]) (fun _=>[(5,g,⟨303,8,(P++U++V++S).map cA,1⟩)]) ?_ ?_
 .refine aS O ?_ ?_<;>intro h
  .have hgt:D0<m:=by have:=aB h;omega
   clear h;have hnb:IntKind.i64.wrap (((D0+m:Nat):Int)-(b:Nat))=((D0+m-b:Nat):Int):=by rw[wrap_i64 J J];omega
   refine H ?_;exact⟨(D0+m-b,D0),⟨by simp only;omega,by simp only;omega,by simp only;omega,by simp only;omega,by simp only;omega,.inr (by simp only;omega),.inl O⟩,O,O,O,O,O,O,O,congrArg I hnb,O,O,trivial⟩
  .have hle:m<=D0:=by have:=aE h;omega
   clear h;refine H ?_;exact⟨(P.length,m),⟨by simp only;omega,by simp only;omega,by simp only;omega,by simp only;omega,by simp only;omega,.inl O,.inr O⟩,O,O,O,O,O,O,O,O,O,O,trivial⟩
 rintro⟨lo,hi⟩ ⟨q1,q2,q3,q4,q5,q6,q7⟩ s1;simp only at q1 q2 q3 q4 q5 q6 q7;dsimp only;refine H ?_;rw[hpp];refine ah (fun q:Nat × Nat=>lo<=q.1/\q.1<=q.2/\q.2<=hi/\Sr U V P.length m (D0+m) lo q.1/\Ss U V P.length m (D0+m) hi q.2) (fun q=>[(0,.als 5 g 0 N),(1,I P.length),(2,I m),(3,I b),(4,.clo 279 []),(18,I D0),(19,I (D0+m:Nat)),(20,I (q.1:Nat)),(21,I (q.2:Nat)),(22,I (D0+m-1:Nat))])
  (fun _=>[(5,g,⟨303,8,(P++U++V++S).map cA,1⟩)]) (fun q=>q.2-q.1) (lo,hi) ⟨a_,q2,a_,.inl O,.inl O⟩ ⟨O,O,O,O,O,O,O,O,O,O,O,trivial⟩ ?_
 rintro⟨st,rr⟩ s2 ⟨l1,l2,l3,hA,hB⟩;simp only at l1 l2 l3 hA hB;dsimp only;refine D ?_ ?_<;>intro h
 .have hlt:st<rr:=by have:=aB h;omega
  clear h;obtain⟨f,hf⟩:∃f,f=(st+rr)/2:=⟨_,O⟩;obtain⟨u,hu⟩:=aC (show f-P.length<U.length by omega);obtain⟨v,hv⟩:=aC (show D0-1-f<V.length by omega);have hmf:IntKind.i64.wrap (IntKind.u64.wrap (IntKind.i64.wrap (((st:Nat):Int)+((rr:Nat):Int)))/2^Int.toNat 1)=((f:Nat):Int):=by rw[Gf _ _ J,hf]
  have hpf:IntKind.i64.wrap (((D0+m-1:Nat):Int)-(f:Nat))=((m+(D0-1-f):Nat):Int):=by rw[wrap_i64 J J];omega
  have hr1:((P++U++V++S).map cA)[m+(D0-1-f)]? = some (cA v):=by rw[hm];exact SA hv
  have hr2:((P++U++V++S).map cA)[f]? = some (cA u):=by rw[show f=P.length+(f-P.length) by omega];exact Sy hu
  have hw1:IntKind.i64.wrap (((f:Nat):Int)+1)=((f+1:Nat):Int):=by rw[wrap_i64 J J];omega
  refine H ?_;rw[hmf];refine mS 14 [158,159,160,161,162,163,164,165,166,167,168,169,170,171] aK ?_;refine H ?_;rw[hpf];refine nr O O O O O O O O O ?_;rw[br,aX (m+(D0-1-f))];refine cf O O (dK O O O hr1 O) ?_;refine H ?_;refine nr O O O O O O O O O ?_;rw[br,aX f];refine cf O O (dK O O O hr2 O) ?_;refine H ?_;refine cf O O (uW O (nA (hs v (kB _ (bm hv))) (hs u (lF _ (bm hu)))) O aH O O) ?_;refine D ?_ ?_<;>intro h
  .have hge2:cw u<=cw v:=by
    have h9:¬sgn (cw v-cw u)<0:=by simpa using h
    rw[cX]at h9;grind
   clear h;refine H ?_;exact⟨(f+1,rr),⟨by simp only;omega,by simp only;omega,l3,.inr ⟨f-P.length,u,v,J,hu,by rw[show D0+m-(f+1)-m=D0-1-f by omega];exact hv,hge2⟩,hB⟩,by simp only;omega,O,O,O,O,O,O,O,congrArg I hw1,O,O,O,trivial⟩
  .have hlt2:cw v<cw u:=by
    have h9:sgn (cw v-cw u)<0:=by simpa using h
    have:=(cX _).1 h9;grind
   clear h;refine H ?_;exact⟨(st,f),⟨l1,by simp only;omega,by simp only;omega,hA,.inr ⟨D0-1-f,v,u,J,hv,hu,hlt2⟩⟩,by simp only;omega,O,O,O,O,O,O,O,O,O,O,O,trivial⟩
 .have he:st=rr:=by have:=aE h;omega
  clear h;subst he;obtain⟨k,hk⟩:∃k,k=st-P.length:=⟨_,O⟩;obtain⟨j,hj⟩:∃j,j=D0-st:=⟨_,O⟩;have c1:Mu cw (U.take k) (V.drop j):=by
   refine MD hU hV ?_;rcases hA with e|⟨s',u,v,e,hu,hv,huv⟩
   .rcases q6 with e2|e2
    .exact .inl J
    .exact .inr (.inl J)
   .exact .inr (.inr ⟨s',u,v,J,hu,by rw[show j=D0+m-st-m by omega];exact hv,huv⟩)
  have c2s:Q5 cw (V.take j) (U.drop k):=by
   refine MF hV hU ?_;rcases hB with e|⟨t',v,u,e,hv,hu,huv⟩
   .rcases q7 with e2|e2
    .exact .inl J
    .exact .inr (.inl J)
   .exact .inr (.inr ⟨t',v,u,J,hv,by rw[hk];exact hu,huv⟩)
  have c2:Mu cw (V.take j) (U.drop k):=fun x hx y hy=>iq (c2s x hx y hy);have hend:IntKind.i64.wrap (((D0+m:Nat):Int)-(st:Nat))=((m+j:Nat):Int):=by rw[wrap_i64 J J];omega
  have hkl:(U.take k).length=k:=by rw[bw];omega
  have hjl:(V.take j).length=j:=by rw[bw];omega
  have hkd:(U.drop k).length=U.length-k:=gV;have hjd:(V.drop j).length=V.length-j:=gV;have eU:U.take k++U.drop k=U:=dR _ _;have eV:V.take j++V.drop j=V:=dR _ _;have hR0:P++U++V++S=P++U.take k++U.drop k++V.take j++(V.drop j++S):=by
   have e1:P++U++V++S=P++(U.take k++U.drop k)++(V.take j++V.drop j)++S:=by rw[eU,eV]
   rw[e1];simp only[bi]
  refine cN 39 ?_;rw[hend];have hR1:j=0\/k=U.length->P++U++V++S=P++U.take k++V.take j++(U.drop k++V.drop j++S):=by
   rintro(h|h)
   .rw[hR0,h,eu,b8,b8];try simp only[bi]
   .rw[hR0,h,fH,b8,jF];try simp only[bi]
  have hW1:j=0\/k=0->jU cw (U.take k++V.take j):=fun h=>u9 (nW hU k) (nW hV j) fun x hx y hy=>by
   rcases h with h|h
   .rw[h]at hy;simp at hy
   .rw[h]at hx;simp at hx
  have hW2:j=V.length\/k=U.length->jU cw (U.drop k++V.drop j):=fun h=>u9 (nV hU k) (nV hV j) fun x hx y hy=>by
   rcases h with h|h
   .rw[h]at hy;simp at hy
   .rw[h]at hx;simp at hx
  have hsT:∀p∈U.take k++V.take j,p.at'.sz 7000000:=fun p hp=>by
   rcases i5.1 hp with h|h
   .exact hs p (lF _ (d9 h))
   .exact hs p (kB _ (d9 h))
  have hsD:∀p∈U.drop k++V.drop j,p.at'.sz 7000000:=fun p hp=>by
   rcases i5.1 hp with h|h
   .exact hs p (lF _ (my h))
   .exact hs p (kB _ (my h))
  refine AX (fun _:Unit=>True) (fun _=>[(0,.als 5 g 0 N),(1,I P.length),(3,I b),(4,.clo 279 []),(18,I D0),(20,I (st:Nat)),(24,I (m+j:Nat))]) (fun _=>[(5,g,⟨303,8,(P++U.take k++V.take j++(U.drop k++V.drop j++S)).map cA,1⟩)]) ?_ ?_
  .refine eW ?_ ?_<;>intro h
   .have hlt:st<m:=by have:=aB h;omega
    clear h;refine D ?_ ?_<;>intro h
    .have hj0:0<j:=by have:=aB h;omega
     clear h;rw[hR0]
     (refine cN 40 ?_;refine aU 5 ?_)
     refine H ?_;refine bC O (QA (N:=N) (P++U.take k) (U.drop k) (V.take j) (V.drop j++S) (by intro e;have:=congrArg List.length e;rw[hkd]at this;have:U.length-k=0:=this;omega) (by intro e;have:=congrArg List.length e;rw[hjl]at this;have:j=0:=this;omega) (by rw[<-hR0];exact hN) hN1 O (congrArg (fun n:Nat=>I n) (show st=(P++U.take k).length by rw[bI];omega)) (congrArg (fun n:Nat=>I n) (show m=(P++U.take k).length+(U.drop k).length by rw[bI];omega)) (congrArg (fun n:Nat=>I n) (show m+j=(P++U.take k).length+(U.drop k).length+(V.take j).length by rw[bI];omega)) O ⟨O,trivial⟩ fun s4=>?_);refine aW ?_;refine H ?_;refine⟨(),trivial,O,O,O,O,O,O,O,?_,trivial⟩;rw[show P++U.take k++V.take j++(U.drop k++V.drop j++S)=P++U.take k++V.take j++U.drop k++(V.drop j++S) by simp only[bi]];rfl
    .have hj0:j=0:=by have:=aE h;omega
     clear h;refine H ?_;exact⟨(),trivial,O,O,O,O,O,O,O,by rw[<-hR1 (.inl hj0)];rfl,trivial⟩
   .have hge:k=U.length:=by have:=aE h;omega
    clear h;refine H ?_;exact⟨(),trivial,O,O,O,O,O,O,O,by rw[<-hR1 (.inr hge)];rfl,trivial⟩
  intro _ _ s3;refine cN 41 ?_;refine AX (fun W:List BN=>W.Perm (U.take k++V.take j)/\(∀c,fA cw c W=fA cw c (U.take k++V.take j))/\jU cw W) (fun _=>[(0,.als 5 g 0 N),(3,I b),(4,.clo 279 []),(18,I D0),(24,I (m+j:Nat))]) (fun W=>[(5,g,⟨303,8,(P++W++(U.drop k++V.drop j++S)).map cA,1⟩)]) ?_ ?_
  .have hE:P++U.take k++V.take j++(U.drop k++V.drop j++S)=P++(U.take k++V.take j)++(U.drop k++V.drop j++S):=by simp only[bi]
   refine eW ?_ ?_<;>intro h
   .have hk0:0<k:=by have:=aB h;omega
    clear h;refine D ?_ ?_<;>intro h
    .have hj0:0<j:=by have:=aB h;omega
     clear h
     (refine cN 42 ?_;refine aU 5 ?_)
     refine H ?_;refine bC O (ih (N:=N) P (U.take k) (V.take j) (U.drop k++V.drop j++S) J (by intro e;have:=congrArg List.length e;rw[hkl]at this;have:k=0:=this;omega) (by intro e;have:=congrArg List.length e;rw[hjl]at this;have:j=0:=this;omega) (nW hU k) (nW hV j) hsT (by rw[hlen];simp only[bI];omega) hN1 O O (congrArg (fun n:Nat=>I n) (show st=P.length+(U.take k).length by omega)) (congrArg (fun n:Nat=>I n) (show D0=P.length+(U.take k).length+(V.take j).length by omega)) O ⟨O,trivial⟩ fun s4 W hp hf hs4=>?_);refine aW ?_;refine H ?_;exact⟨W,⟨hp,hf,hs4⟩,O,O,O,O,O,O,trivial⟩
    .have hj0:j=0:=by have:=aE h;omega
     clear h;refine H ?_;exact⟨U.take k++V.take j,⟨.refl _,fun _=>rfl,hW1 (.inl hj0)⟩,O,O,O,O,O,by rw[<-hE];rfl,trivial⟩
   .have hk0:k=0:=by have:=aE h;omega
    clear h;refine H ?_;exact⟨U.take k++V.take j,⟨.refl _,fun _=>rfl,hW1 (.inr hk0)⟩,O,O,O,O,O,by rw[<-hE];rfl,trivial⟩
  rintro W1 ⟨p1,f1,s1W⟩ s5;have hWl:W1.length=k+j:=by rw[p1.length_eq,bI];omega
  have fin:∀(W2:List BN),W2.Perm (U.drop k++V.drop j)->(∀c,fA cw c W2=fA cw c (U.drop k++V.drop j))->jU cw W2->∀s6:St,K (({ reg:=s.reg,own:=(s6.over [] [(5,g,⟨303,8,(P++W1++W2++S).map cA,1⟩)]).own }:St).putR d (.tup [])):=fun W2 p2 f2 s2W s6=>by
   obtain⟨r1,r2⟩:=AF hU hV c1 c2 p1 p2 s1W s2W;have:=hK s6 (W1++W2) r2 (D9 c2s f1 f2) r1;rwa [show P++(W1++W2)++S=P++W1++W2++S by simp only[bi]]at this
  have hE2:P++W1++(U.drop k++V.drop j++S)=P++W1++(U.drop k++V.drop j)++S:=by simp only[bi]
  refine eW ?_ ?_<;>intro h
  .have hk1:k<U.length:=by have:=aB h;omega
   clear h;refine D ?_ ?_<;>intro h
   .have hj1:j<V.length:=by have:=aB h;omega
    clear h;rw[show P++W1++(U.drop k++V.drop j++S)=P++W1++U.drop k++V.drop j++S by simp only[bi]]
    (refine cN 44 ?_;refine aU 5 ?_)
    refine H ?_;refine bC O (ih (N:=N) (P++W1) (U.drop k) (V.drop j) S J (by intro e;have:=congrArg List.length e;rw[hkd]at this;have:U.length-k=0:=this;omega) (by intro e;have:=congrArg List.length e;rw[hjd]at this;have:V.length-j=0:=this;omega) (nV hU k) (nV hV j) hsD (by rw[hlen];simp only[bI];omega) hN1 O (congrArg (fun n:Nat=>I n) (show D0=(P++W1).length by rw[bI];omega)) (congrArg (fun n:Nat=>I n) (show m+j=(P++W1).length+(U.drop k).length by rw[bI];omega)) (congrArg (fun n:Nat=>I n) (show b=(P++W1).length+(U.drop k).length+(V.drop j).length by rw[bI];omega)) O ⟨O,trivial⟩ fun s6 W2 p2 f2 s2W=>?_);refine aW ?_;refine H ?_;exact fS O (fin W2 p2 f2 s2W s6)
   .have hj1:j=V.length:=by have:=aE h;omega
    clear h;rw[hE2];refine H ?_;exact fS O (fin _ (.refl _) (fun _=>rfl) (hW2 (.inl hj1)) s5)
  .have hk1:k=U.length:=by have:=aE h;omega
   clear h;rw[hE2];refine H ?_;exact fS O (fin _ (.refl _) (fun _=>rfl) (hW2 (.inr hk1)) s5)
theorem Mc (w:Nat):∀ {K:St->Prop} {s:St} {d g N:Nat} {x y z n c:Operand} {tys:Array TypeId} {ty:TypeId} {pos:String} {af:Array Edge} (P U V S:List BN),U.length+V.length<=w->U≠[]->V≠[]->jU cw U->jU cw V->(∀p∈U++V,p.at'.sz 7000000)->N=(P++U++V++S).length->N<=1000 ->
  s.ev x = .als 5 g 0 N->s.ev y=I P.length->s.ev z=I (P.length+U.length:Nat)->s.ev n=I (P.length+U.length+V.length:Nat)->s.ev c = .clo 279 []->FitO s [(5,g,⟨303,8,(P++U++V++S).map cA,1⟩)] ->
  (∀(s1:St) (W:List BN),W.Perm (U++V)->(∀c,fA cw c W=fA cw c (U++V))->jU cw W->K (({ reg:=s.reg,own:=(s1.over [] [(5,g,⟨303,8,(P++W++S).map cA,1⟩)]).own }:St).putR d (.tup []))) ->
  Sm Tryz.prog lay.get s ⟨some d,.call ⟨.value (.func 304),#[x,y,z,n,c],tys⟩,ty,pos,af,none⟩ K:=by
 induction w with
 |zero =>
  intro K s d g N x y z n c tys ty pos af P U V S hw hU;have:U.length=0:=J;exact absurd (oB.1 this) hU
 |succ w ih =>
  intro K s d g N x y z n c tys ty pos af P U V S hw hU0 hV0 hU hV hs hN hN1 hx hy hz hn hc ho hK;by_cases h1:U.length=1
  .obtain⟨u,rfl⟩:=Ad.1 h1;exact Oa P u V S hV (fun p hp=>hs p hp) hN hN1 hx hy hz hn hc ho hK
  by_cases h2:V.length=1
  .obtain⟨v,rfl⟩:=Ad.1 h2;exact Ob P U v S h1 hU (fun p hp=>hs p (by
    rcases cG.1 hp with rfl|hp
    .exact kB _ (List.mem_singleton_self _)
    .exact lF _ hp)) hN hN1 hx hy hz hn hc ho hK
  have p1:0<U.length:=oD.2 hU0;have p2:0<V.length:=oD.2 hV0;exact Oc ih P U V S hw J J hU hV hs hN hN1 hx hy hz hn hc ho hK
theorem Gc {A B S:List BN}{q:Nat}{x:BN}(h:B[q]? = some x):((A++B++S).map cA)[A.length+q]? = some (cA x):=by
 have hq:=(bV h).1;rw[bD,bi,eM J,show A.length+q-A.length=q by omega,gd hq,h];rfl
theorem Ge {A B S:List BN}{q:Nat}{y:BN}(h:q<B.length):(A++B++S).set (A.length+q) y=A++B.set q y++S:=by
 rw[bi,rm _ _ J,show A.length+q-A.length=q by omega,rn _ _ h,bi]
theorem FP {K:St->Prop}{s:St}{d g N:Nat}{x y z c:Operand}{tys:Array TypeId}{ty:TypeId}{pos:String}{af:Array Edge}(A l S:List BN)(hN:N=(A++l++S).length)(hN1:N<=1000)
  (hx:s.ev x = .als 5 g 0 N) (hy:s.ev y=I A.length) (hz:s.ev z=I (A.length+l.length:Nat)) (hc:s.ev c = .clo 279 [])
  (hd:∀p∈l,p.at'.sz 7000000)
  (ho:FitO s [(5,g,⟨303,8,(A++l++S).map cA,1⟩)])
  (hK:∀s1:St,K (({ reg:=s.reg,own:=(s1.over [] [(5,g,⟨303,8,(A++dc cw l++S).map cA,1⟩)]).own }:St).putR d (.tup []))) :
  Sm Tryz.prog lay.get s ⟨some d,.call ⟨.value (.func 303),#[x,y,z,c],tys⟩,ty,pos,af,none⟩ K:=by
 refine cS layOk O O Tryz.func303 O Y O O ?_;show PWP _ _ _ _ (bO s (([x,y,z,c]:List Operand).map s.ev++[]));rw[show(([x,y,z,c]:List Operand).map s.ev++([]:List PV))=[.als 5 g 0 N,I A.length,I (A.length+l.length:Nat),.clo 279 []] by simp[hx,hy,hz,hc]];rw[show bO s [.als 5 g 0 N,I A.length,I (A.length+l.length:Nat),.clo 279 []]=bO (s.over [] [(5,g,⟨303,8,(A++l++S).map cA,1⟩)]) [.als 5 g 0 N,I A.length,I (A.length+l.length:Nat),.clo 279 []] by rw[Fit.over (l:=[]) ho]];have hlen:N=A.length+l.length+S.length:=by rw[hN];simp;omega
 have h1s:dc cw (l.take 1)++l.drop 1=l:=by
  cases l with
  |nil=>rfl
  |cons x r=>rfl
 have hw0:IntKind.i64.wrap (((A.length:Nat):Int)+1)=((A.length+1:Nat):Int):=by rw[wrap_i64 J J];omega
 refine H ?_;rw[hw0];refine ah (fun i=>1<=i/\(i<=l.length\/i=1)) (fun i=>[(0,.als 5 g 0 N),(1,I A.length),(2,I (A.length+l.length:Nat)),(3,.clo 279 []),(8,I (A.length+i:Nat))])
  (fun i=>[(5,g,⟨303,8,(A++(dc cw (l.take i)++l.drop i)++S).map cA,1⟩)]) (fun i=>l.length+1-i) 1 ⟨a_,.inr O⟩ ⟨O,O,O,O,O,by rw[h1s];rfl,trivial⟩ ?_
 rintro i s1 ⟨hi1,hi⟩;refine D ?_ ?_<;>intro h
 .have hlt:i<l.length:=by have:=aB h;omega
  clear h;obtain⟨p,hp⟩:=aC hlt;have htk:l.take (i+1)=l.take i++[p]:=bS hp;have hdr:l.drop i=p::l.drop (i+1):=jr hp;have hnx:IntKind.i64.wrap (((A.length+i:Nat):Int)+1)=((A.length+(i+1):Nat):Int):=by rw[wrap_i64 J J];omega
  generalize hP:dc cw (l.take i)=P at *
  have hPl:P.length=i:=by rw[<-hP,gM,bw];omega
  have hstart:P++l.drop i=dh P p i++l.drop (i+1):=by
   have hti:P.take i=P:=cV J;have hdi:P.drop i=[]:=lE J;rw[hdr,dh,hti,hdi];simp
  refine H ?_;refine ah (fun j=>j<=i/\∀q y,j<=q->P[q]? = some y->cw p<cw y) (fun j=>[(0,.als 5 g 0 N),(1,I A.length),(2,I (A.length+l.length:Nat)),(3,.clo 279 []),(8,I (A.length+i:Nat)),(9,I (A.length+j:Nat))])
   (fun j=>[(5,g,⟨303,8,(A++(dh P p j++l.drop (i+1))++S).map cA,1⟩)]) (fun j=>j) i ⟨a_,fun q y hq hy=>by rw[fi J]at hy;cases hy⟩ ⟨O,O,O,O,O,O,by rw[hstart];rfl,trivial⟩ ?_
  rintro j s2 ⟨hj,hpre⟩;refine cO 17 [18,19,20,21,22,23,24,25,26,27,28,29,30,31,32,33,34] ?_;refine eW ?_ ?_<;>intro h
  .have hj0:0<j:=by have:=aB h;omega
   clear h;obtain⟨k,rfl⟩:∃k,j=k+1:=⟨j-1,J⟩;have hIl:(dh P p (k+1)).length=i+1:=by simp[dh];omega
   have hB1:(dh P p (k+1)++l.drop (i+1))[k+1]? = some p:=by
    rw[gd J,wu J]
   obtain⟨y,hy1⟩:=aC (show k<P.length by omega);have hB2:(dh P p (k+1)++l.drop (i+1))[k]? = some y:=by
    rw[gd J,ra J J,hy1]
   have hrow:=Gc (A:=A) (S:=S) hB1;have hrow2:=Gc (A:=A) (S:=S) hB2;have hym:y∈l:=d9 ((kO cw _).mem_iff.1 (hP▸bm hy1));have hw1:IntKind.i64.wrap (((A.length+(k+1):Nat):Int)-1)=((A.length+k:Nat):Int):=by rw[wrap_i64 J J];omega
   refine H ?_;refine nr O O O O O O O O O ?_;rw[br,aX (A.length+(k+1))];refine cf O O (dK O O O hrow O) ?_;refine H ?_;rw[hw1];refine nr O O O O O O O O O ?_;rw[br,aX (A.length+k)];refine cf O O (dK O O O hrow2 O) ?_;refine aj (nA (hd p (bm hp)) (hd y hym)) ?_;refine D ?_ ?_<;>intro h
   .have hlt2:cw p<cw y:=by have:=(cX _).1 (aB h);grind
    clear h;refine H ?_;refine l5 [] [5] 15 [15,16,17] [2,3,4] aK aK ?_;refine H ?_;rw[hw1];refine nr O O O O O O O O O ?_;rw[br,aX (A.length+k)];refine cf O O (dK O O O hrow2 O) ?_;refine H ?_;refine nr O O O O O O O O O ?_;rw[br,aX (A.length+(k+1))];refine cf O O (dK O O O hrow O) ?_;refine H ?_;refine nr O O O O O O O O O ?_;rw[br,aX (A.length+(k+1))];refine H ?_;refine lr O O O (cK (kd':=1) O O O hrow O O aH O O O O ⟨pr O,?_⟩);refine nr O O O O O O O O O ?_;rw[br,aX (A.length+k)];refine lr O O O (cK (kd':=1) O O O (row:=cA y) (by
     show(((A++(dh P p (k+1)++l.drop (i+1))++S).map cA).set (A.length+(k+1)) _)[A.length+k]? = _
     rw[eo J];exact hrow2) O O aH O O O O ⟨pr O,?_⟩)
    refine H ?_;refine⟨k,⟨J,fun q z hq hz=>?_⟩,J,O,O,O,O,O,congrArg I hw1,?_,trivial⟩
    .by_cases hqk:q=k
     .subst hqk;rw[hy1]at hz;cases hz;exact hlt2
     .exact hpre q z J hz
    .refine Eq.trans (b:=(g,some (Cont.mk 303 8 ((((A++(dh P p (k+1)++l.drop (i+1))++S).map cA).set (A.length+(k+1)) (cA y)).set (A.length+k) (cA p)) 1))) O ?_;rw[<-f8,<-f8,Ge (by rw[bI];omega),Ge (by rw[jH,bI];omega),rn _ _ J,rn _ _ (by rw[jH];omega),wv J hy1]
   .have hge2:cw y<=cw p:=by
     have h9:=aE h;rw[cX]at h9;grind
    clear h;have hpos:CL cw P p=k+1:=uV J hpre (.inr ⟨y,hy1,hge2⟩);have hins:dc cw (l.take (i+1))=dh P p (k+1):=by rw[htk,mX,hP,pT,hpos]
    refine H ?_;refine⟨i+1,⟨J,.inl J⟩,J,O,O,O,O,congrArg I hnx,?_,trivial⟩;rw[hins];rfl
  .have hj0:j=0:=by have:=aE h;omega
   subst hj0;clear h;have hpos:CL cw P p=0:=uV J hpre (.inl O);have hins:dc cw (l.take (i+1))=dh P p 0:=by rw[htk,mX,hP,pT,hpos]
   refine H ?_;refine⟨i+1,⟨J,.inl J⟩,J,O,O,O,O,congrArg I hnx,?_,trivial⟩;rw[hins];rfl
 .have hge:l.length<=i:=by have:=aE h;omega
  have hend:dc cw (l.take i)++l.drop i=dc cw l:=by
   rw[cV hge,lE hge,b8]
  rw[hend];refine H ?_;exact fS O (hK s1)
section
variable {α:Type}{key:α->Rat}
inductive Bk (key:α->Rat) (n:Nat):List α->Prop
 |last {l:List α}:l.length<=n->jU key l->Bk key n l
 |cons {x l:List α}:x.length=n->jU key x->Bk key n l->Bk key n (x++l)
inductive Fk (key:α->Rat) (n:Nat):List α->Prop
 |nil:Fk key n []
 |snoc {p x:List α}:Fk key n p->x.length=n->jU key x->Fk key n (p++x)
theorem JM {n:Nat}{p:List α}(h:Fk key n p):∀ {t:List α},Bk key n t->Bk key n (p++t):=by
 induction h with
 |nil=>intro t ht;exact ht
 |snoc _ hx hs ih=>intro t ht;rw[bi];exact ih (.cons hx hs ht)
theorem vG {n:Nat}{t:List α}(h:Bk key n t)(hl:t.length<=n):jU key t:=by
 cases h with
 |last _ hs=>exact hs
 |cons hx hs hb =>
  rename_i x l;have:l=[]:=oB.1 (by rw[bI]at hl;omega);subst this;rw[b8];exact hs
theorem PB {n:Nat}{t:List α}(hn:0<n)(h:Bk key n t)(hl:2*n<=t.length):∃x y l,t=x++y++l/\x.length=n/\y.length=n/\jU key x/\jU key y/\Bk key n l:=by
 cases h with
 |last h1 _=>omega
 |cons hx hs hb =>
  rename_i x l;cases hb with
  |last h1 hs2=>exact⟨x,l,[],(b8 _).symm,hx,by rw[bI]at hl;omega,hs,hs2,.last (aP _) List.Pairwise.nil⟩
  |cons hy hs2 hb2 =>
   rename_i y l;exact⟨x,y,l,(bi ..).symm,hx,hy,hs,hs2,hb2⟩
theorem MH {n:Nat}{t:List α}(h:Bk key n t)(h1:n<t.length)(h2:t.length<2*n):∃x y,t=x++y/\x.length=n/\y.length<n/\y≠[]/\jU key x/\jU key y:=by
 cases h with
 |last h3 _=>omega
 |cons hx hs hb =>
  rename_i x l;rw[bI]at h1 h2;refine⟨x,l,O,hx,J,?_,hs,vG hb J⟩;rintro rfl;simp at h1;omega
end
theorem JK {W l:List BN}(h:∀c,fA cw c W=fA cw c l){p:BN}(hp:p∈W):p∈l:=by
 have:p∈fA cw (cw p) W:=il.2 ⟨hp,O⟩;rw[h]at this;exact(il.1 this).1
theorem PF {α:Type}{t:List α}{n:Nat}(h:n<=t.length):∃a s,t=a++s/\a.length=n:=⟨t.take n,t.drop n,(dR n t).symm,by rw[bw];omega⟩
theorem E4 {K:St->Prop}{s:St}{d g:Nat}{x z c:Operand}{tys:Array TypeId}{ty:TypeId}{pos:String}{af:Array Edge}(l:List BN)(hl:l.length<=400)
  (hx:s.ev x = .als 5 g 0 (l.map cA).length) (hz:s.ev z=I l.length) (hc:s.ev c = .clo 279 [])
  (hd:∀p∈l,p.at'.sz 7000000)
  (ho:FitO s [(5,g,⟨303,8,l.map cA,1⟩)])
  (hK:∀s1:St,K (({ reg:=s.reg,own:=(s1.over [] [(5,g,⟨303,8,(dc cw l).map cA,1⟩)]).own }:St).putR d (.tup []))) :
  Sm Tryz.prog lay.get s ⟨some d,.call ⟨.value (.func 290),#[x,z,c],tys⟩,ty,pos,af,none⟩ K:=by
 have hK2:∀(s1:St) (W:List BN),jU cw W->(∀c,fA cw c W=fA cw c l)->K (({ reg:=s.reg,own:=(s1.over [] [(5,g,⟨303,8,W.map cA,1⟩)]).own }:St).putR d (.tup [])):=fun s1 W hs hf=>by rw[II hs hf];exact hK s1
 clear hK;rw[aR]at hx;have hds:∀ {W:List BN},(∀c,fA cw c W=fA cw c l)->∀p∈W,p.at'.sz 7000000:=fun hf p hp=>hd p (JK hf hp);obtain⟨N,hN⟩:∃N,N=l.length:=⟨_,O⟩;rw[<-hN]at hx hz hl;refine cS layOk O O Tryz.func290 O Y O O ?_;show PWP _ _ _ _ (bO s (([x,z,c]:List Operand).map s.ev++[]));rw[show(([x,z,c]:List Operand).map s.ev++([]:List PV))=[.als 5 g 0 N,I (N:Nat),.clo 279 []] by simp[hx,hz,hc]];rw[show bO s [.als 5 g 0 N,I (N:Nat),.clo 279 []]=bO (s.over [] [(5,g,⟨303,8,l.map cA,1⟩)]) [.als 5 g 0 N,I (N:Nat),.clo 279 []] by rw[Fit.over (l:=[]) ho]];clear ho hx hz hc;refine H ?_;refine ah (fun q:List BN × List BN=>Fk cw 20 q.1/\(q.1++q.2).length=N/\∀c,fA cw c (q.1++q.2)=fA cw c l) (fun q=>[(0,.als 5 g 0 N),(1,I (N:Nat)),(2,.clo 279 []),(6,I 20),(7,I (q.1.length:Nat)),(8,I (q.1.length+20:Nat))])
  (fun q=>[(5,g,⟨303,8,(q.1++q.2).map cA,1⟩)]) (fun q=>q.2.length) ([],l) ⟨.nil,hN.symm,fun c=>rfl⟩ ⟨O,O,O,O,O,O,O,trivial⟩ ?_
 rintro⟨P,T⟩ s1 ⟨hP,hPT,hF⟩;dsimp only at hP hPT hF ⊢;rw[bI]at hPT;refine D ?_ ?_<;>intro h
 .have hlt:P.length+20<=N:=by have:=aB h;omega
  clear h;obtain⟨A,S,rfl,hA⟩:=PF (show 20<=T.length by omega);rw[bI]at hPT;rw[<-bi]at hF ⊢;have hw:IntKind.i64.wrap (((P.length+20:Nat):Int)+20)=((P.length+20+20:Nat):Int):=by rw[wrap_i64 J J];omega
  have hPA:P.length+20=(P++dc cw A).length:=by rw[bI,gM,hA]
  (refine cN 3 ?_;refine aU 4 ?_)
  refine H ?_;refine bC O (FP (N:=N) P A S aV J O O (congrArg (fun n:Nat=>I n) (show P.length+20=P.length+A.length by rw[hA])) O (fun p hp=>hds hF p (lF _ (kB _ hp))) ⟨O,trivial⟩ fun s2=>?_);refine aW ?_;refine H ?_;refine⟨(P++dc cw A,S),⟨.snoc hP (by rw[gM,hA]) (kn cw A),by simp[gM];omega,fun c=>by rw[<-hF c,bT,bT,th,<-bT,<-bT]⟩,by simp;omega,O,O,O,O,congrArg (fun n:Nat=>I n) hPA,?_,O,trivial⟩;dsimp only;rw[<-hPA];exact congrArg I hw
 have hge:¬P.length+20<=N:=by have:=aE h;omega
 clear h;rw[show P++T=P++T++[] from(b8 _).symm]
 (refine cN 6 ?_;refine aU 4 ?_)
 refine H ?_;refine bC O (FP (N:=N) P T [] aV J O O (congrArg (fun n:Nat=>I n) (show N=P.length+T.length by omega)) O (fun p hp=>hds hF p (kB _ hp)) ⟨O,trivial⟩ fun s2=>?_);refine aW ?_;have hF2:∀c,fA cw c (P++dc cw T)=fA cw c l:=fun c=>by rw[<-hF c,bT,bT,th]
 have hB2:Bk cw 20 (P++dc cw T):=JM hP (.last (by rw[gM];omega) (kn cw T));have hR2:(P++dc cw T).length=N:=by rw[bI,gM];exact hPT
 rw[show P++dc cw T++[]=P++dc cw T from b8 _];generalize P++dc cw T=R at *
 clear hP hF hge hPT;refine H ?_;refine ah (fun q:Nat × List BN=>0<q.1/\q.1<=800/\Bk cw q.1 q.2/\q.2.length=N/\∀c,fA cw c q.2=fA cw c l) (fun q=>[(0,.als 5 g 0 N),(1,I (N:Nat)),(2,.clo 279 []),(6,I (q.1:Nat))])
  (fun q=>[(5,g,⟨303,8,q.2.map cA,1⟩)]) (fun q=>N-q.1) (20,R) ⟨by show 0<20;omega,by show 20<=800;omega,hB2,hR2,hF2⟩ ⟨O,O,O,O,O,trivial⟩ ?_
 clear hB2 hR2 hF2;rintro⟨b,R⟩ s3 ⟨hb0,hb8,hB,hR,hF⟩;dsimp only at hb0 hb8 hB hR hF ⊢;refine D ?_ ?_<;>intro h
 .have hbN:b<N:=by have:=aB h;omega
  clear h;have hw2:IntKind.i64.wrap (2*((b:Nat):Int))=((2*b:Nat):Int):=by rw[wrap_i64 J J];omega
  have hw3:IntKind.i64.wrap (((b:Nat):Int)*2)=((2*b:Nat):Int):=by rw[wrap_i64 J J];omega
  refine H ?_;rw[hw2];refine ah (fun q:List BN × List BN=>Fk cw (2*b) q.1/\Bk cw b q.2/\(q.1++q.2).length=N/\∀c,fA cw c (q.1++q.2)=fA cw c l) (fun q=>[(0,.als 5 g 0 N),(1,I (N:Nat)),(2,.clo 279 []),(6,I (b:Nat)),(7,I (q.1.length:Nat)),(8,I (q.1.length+2*b:Nat))])
   (fun q=>[(5,g,⟨303,8,(q.1++q.2).map cA,1⟩)]) (fun q=>q.2.length) ([],R) ⟨.nil,hB,hR,hF⟩ ⟨O,O,O,O,O,(congrArg (fun n:Nat=>I n) (show 2*b=([]:List BN).length+2*b by simp)),O,trivial⟩ ?_
  clear hB hR hF;rintro⟨P,T⟩ s4 ⟨hP,hB,hR,hF⟩;dsimp only at hP hB hR hF ⊢;rw[bI]at hR;have hw1:IntKind.i64.wrap (((P.length:Nat):Int)+((b:Nat):Int))=((P.length+b:Nat):Int):=by rw[wrap_i64 J J];omega
  refine D ?_ ?_<;>intro h
  .have hlt:P.length+2*b<=N:=by have:=aB h;omega
   clear h;have hw4:IntKind.i64.wrap (((P.length+2*b:Nat):Int)+((2*b:Nat):Int))=((P.length+2*b+2*b:Nat):Int):=by rw[wrap_i64 J J];omega
   obtain⟨U,V,S,rfl,hU,hV,hsU,hsV,hBS⟩:=PB hb0 hB J;rw[bI,bI]at hR;have e0:P++(U++V++S)=P++U++V++S:=by simp[bi]
   rw[e0]at hF ⊢
   (refine cN 10 ?_;refine aU 7 ?_)
   refine H ?_;rw[hw1];refine bC O (Mc (U.length+V.length) (N:=N) P U V S (a_) (by intro e;rw[e]at hU;simp at hU;omega) (by intro e;rw[e]at hV;simp at hV;omega) hsU hsV (fun p hp=>hds hF p (lF _ (by rw[bi];exact kB _ hp))) aV J O O (congrArg (fun n:Nat=>I n) (show P.length+b=P.length+U.length by rw[hU])) (congrArg (fun n:Nat=>I n) (show P.length+2*b=P.length+U.length+V.length by omega)) O ⟨O,trivial⟩ fun s5 W hpW hfW hsW=>?_);refine aW ?_;refine H ?_;have hWl:W.length=2*b:=by rw[hpW.length_eq,bI];omega
   have hPW:P.length+2*b=(P++W).length:=by rw[bI,hWl]
   refine⟨(P++W,S),⟨.snoc hP hWl hsW,hBS,by simp;omega,fun c=>by rw[<-hF c,bT,bT,hfW,bT,bT,bT,bT];simp[bi]⟩,by simp;omega,O,O,O,O,congrArg (fun n:Nat=>I n) hPW,?_,O,trivial⟩;refine Eq.trans (b:=I (IntKind.i64.wrap (((P.length+2*b:Nat):Int)+IntKind.i64.wrap (2*((b:Nat):Int))))) O ?_;rw[hw2,hw4,hPW]
  have hge:¬P.length+2*b<=N:=by have:=aE h;omega
  clear h;refine H ?_;rw[hw1];refine aS O ?_ ?_<;>intro h
  .have hlt:P.length+b<N:=by have:=aB h;omega
   clear h;obtain⟨U,V,rfl,hU,hV,hV0,hsU,hsV⟩:=MH hB J J;rw[bI]at hR;have e0:P++(U++V)=P++U++V++[]:=by simp[bi]
   rw[e0]at hF ⊢
   (refine cN 15 ?_;refine aU 5 ?_)
   refine H ?_;refine bC O (Mc (U.length+V.length) (N:=N) P U V [] (a_) (by intro e;rw[e]at hU;simp at hU;omega) hV0 hsU hsV (fun p hp=>hds hF p (lF _ (by rw[bi];exact kB _ hp))) aV J O O (congrArg (fun n:Nat=>I n) (show P.length+b=P.length+U.length by rw[hU])) (congrArg (fun n:Nat=>I n) (show N=P.length+U.length+V.length by omega)) O ⟨O,trivial⟩ fun s5 W hpW hfW hsW=>?_);refine aW ?_;refine H ?_;have hWl:W.length=U.length+V.length:=by rw[hpW.length_eq,bI]
   rw[show P++W++[]=P++W from b8 _];refine⟨(2*b,P++W),⟨J,J,JM hP (.last J hsW),by simp;omega,fun c=>by rw[<-hF c,bT,hfW,bT,bT,bT,bT,bi];simp[fA]⟩,by simp only;omega,O,O,O,congrArg I hw3,O,trivial⟩
  .have hge2:¬P.length+b<N:=by have:=aE h;omega
   clear h;refine H ?_;refine⟨(2*b,P++T),⟨J,J,JM hP (.last J (vG hB J)),by simp;omega,hF⟩,by simp only;omega,O,O,O,congrArg I hw3,O,trivial⟩
 .have hge:¬b<N:=by have:=aE h;omega
  clear h;refine H ?_;exact fS O (hK2 s3 R (vG hB J) hF)
theorem LO {K:St->Prop}{s:St}{d g:Nat}{x c:Operand}{tys:Array TypeId}{ty:TypeId}{pos:String}{af:Array Edge}(l:List BN)(hl:l.length<=400)
  (hx:s.ev x = .als 5 g 0 (l.map cA).length) (hc:s.ev c = .clo 279 [])
  (hd:∀p∈l,p.at'.sz 7000000)
  (ho:FitO s [(5,g,⟨303,8,l.map cA,1⟩)])
  (hK:∀s1:St,K (({ reg:=s.reg,own:=(s1.over [] [(5,g,⟨303,8,(dc cw l).map cA,1⟩)]).own }:St).putR d (.tup []))) :
  Sm Tryz.prog lay.get s ⟨some d,.call ⟨.value (.func 278),#[x,c],tys⟩,ty,pos,af,none⟩ K:=by
 refine cS layOk O O Tryz.func278 O Y O O ?_;show PWP _ _ _ _ (bO s (([x,c]:List Operand).map s.ev++[]));rw[show(([x,c]:List Operand).map s.ev++([]:List PV))=[.als 5 g 0 (l.map cA).length,.clo 279 []] by simp[hx,hc]];rw[show bO s [.als 5 g 0 (l.map cA).length,.clo 279 []]=bO (s.over [] [(5,g,⟨303,8,l.map cA,1⟩)]) [.als 5 g 0 (l.map cA).length,.clo 279 []] by rw[Fit.over (l:=[]) ho]];have hen:(l.map cA).length=l.length:=by rw[aR]
 (refine cN 0 ?_;refine aU 4 ?_)
 refine H ?_;refine bC O (E4 l hl O (congrArg (fun n:Nat=>I n) hen) O hd ⟨O,trivial⟩ fun s2=>?_);refine aW ?_;refine H ?_;exact fS O (hK s2)
def zA:AR:=⟨RR.zero,RR.zero⟩
def su (a:AR)(F:List RR):List PV:=eA a++[.sl (F.map eR)]
def zS:List PV:=zN++zN++[.nil]
theorem WeakL.append {a b c d:List PV}(h1:WeakL a b)(h2:WeakL c d):WeakL (a++c) (b++d):=by
 induction h1 with
 |nil=>exact h2
 |cons h _ ih=>exact .cons h ih
theorem m9:WeakL (zN++zN) (eA zA):=ff.append ff
theorem r6:WeakL zS (su zA []):=m9.append (.cons .nil .nil)
structure SQ where
 a:AR
 F:List RR
 r:AR
 e:Int
def SQ.pv (q:SQ):PV := .tup [.agg (su q.a q.F),.agg (eA q.r),I q.e]
noncomputable def tX (b:BR):Rat × Rat:=((bd b).eqQ 150000).getD (0,0)
noncomputable def eQ (b:BR):SQ :=
 if dG b=0 then
  if qj b iK=true then⟨zA,[],iK,12⟩
  else match (f_ b.l).find? (qj b) with
   |some r=>⟨zA,[],r,13⟩
   |none=>if nK b (tX b).1 (tX b).2=true then⟨zA,[],zA,14⟩ else⟨⟨ofQ (tX b).1,ofQ (tX b).2⟩,FL b.l (tX b).1 (tX b).2,zA,0⟩
 else⟨zA,[],zA,dG b⟩
def BR.Good (b:BR):Prop:=b.Lim/\(dG b=0->b.Ok/\(bd b).SzT/\∀t,(pl b.l t).length<=54)
theorem vU {b:BR}(hb:b.Ok)(hs:(bd b).SzT)(h:qE b):(bd b).eqQ 150000=some (tX b)/\(bd b).Bal (tX b).1 (tX b).2/\HQ (tX b).1 24000/\HQ (tX b).2 20000:=by
 obtain⟨x,h1,h2,h3⟩:=Rp hb hs h;have e:tX b=x:=by rw[tX,h1];rfl
 rw[e];exact⟨h1,h2,h3⟩
theorem Hr {b:BR}(h1:¬qj b iK=true)(h2:(f_ b.l).find? (qj b)=none):qE b:=by
 refine⟨by simpa using h1,fun r hr=>?_⟩;have:=Ap.1 h2 r hr;simpa using this
theorem IG (b:BR)(hb:b.Lim)(he:dG b≠0):aO 78 [.agg (eB b)] (.tup [.agg zS,.agg (zN++zN),I (dG b)]):=by
 have h1:=ia b hb;generalize dG b=e at *
 refine ax Proofs.Tryz.func78 ?_;refine aj h1 ?_;refine D ?_ ?_<;>intro h
 .clear h;exact bW
 .exfalso;simp at h;exact he h
theorem xw (b:BR)(hb:b.Lim)(h0:dG b=0)(r:AR)(e:Int)(he:e≠0)(h93:aO 141 [.agg (eB b)] (.tup [.agg (eA r),I e])):aO 78 [.agg (eB b)] (.tup [.agg zS,.agg (eA r),I e]):=by
 have h1:=ia b hb;rw[h0]at h1;clear h0 hb;refine ax Proofs.Tryz.func78 ?_;refine aj h1 ?_;refine G h93 ?_;refine D ?_ ?_<;>intro h
 .clear h;refine H ?_;refine bj [2,3] [3,4] aK ?_;refine H ?_;exact bW
 .exfalso;simp at h;exact he h
theorem Dg (b:BR)(hb:b.Lim)(h0:dG b=0)(h93:aO 141 [.agg (eB b)] (.tup [.agg (zN++zN),I 0]))(a:AR)(h120:aO 142 [.agg (eB b)] (.agg (eA a)))
  (h121:aO 143 [.agg (eB b),.agg (eA a)] (.bool true)):aO 78 [.agg (eB b)] (.tup [.agg zS,.agg (zN++zN),I 14]):=by
 have h1:=ia b hb;rw[h0]at h1;clear h0 hb;refine ax Proofs.Tryz.func78 ?_;refine aj h1 ?_;refine G h93 ?_;refine G h120 ?_;refine aj h121 ?_;exact bW
theorem y9 (b:BR)(hb:b.Lim)(h0:dG b=0)(h93:aO 141 [.agg (eB b)] (.tup [.agg (zN++zN),I 0]))(a:AR)(F:List RR)(h120:aO 142 [.agg (eB b)] (.agg (eA a)))
  (h121:aO 143 [.agg (eB b),.agg (eA a)] (.bool false)) (h23:aO 144 [.sl (b.l.map eS),.agg (eA a)] (.tup [.sl (F.map eR),I 0])):aO 78 [.agg (eB b)] (.tup [.agg (su a F),.agg (zN++zN),I 0]):=by
 have h1:=ia b hb;rw[h0]at h1;clear h0 hb;refine ax Proofs.Tryz.func78 ?_;refine aj h1 ?_;refine G h93 ?_;refine G h120 ?_;refine aj h121 ?_;refine G h23 ?_;exact bW
theorem NW (l:List BN)(hl:l.length<=54):SortC l:=⟨fun hx hc hd ho hK=>LO l J hx hc hd ho hK⟩
theorem PP {b:BR}(hb:b.Ok)(hs:(bd b).SzT)(h40:∀t,(pl b.l t).length<=54)(hS:∀t,SortC (pl b.l t))(h:qE b):aO 142 [.agg (eB b)] (.agg (eA ⟨ofQ (tX b).1,ofQ (tX b).2⟩)) :=
 yt b hb h40 hS (fun t=>Bd.enough (m_ hb) t (qb h)) Y (vU hb hs h).1
theorem mW (b:BR)(hg:b.Good)(hS:dG b=0->∀t,SortC (pl b.l t)):aO 78 [.agg (eB b)] (eQ b).pv:=by
 rw[eQ];by_cases h0:dG b=0
 .rw[if_pos h0];obtain⟨hb,hs,h40⟩:=hg.2 h0;have h93:=tN b hb;rw[nR]at h93;by_cases h1:qj b iK=true
  .rw[if_pos h1]at h93 ⊢;exact(xw b hg.1 h0 iK 12 Y h93).weak (WeakL.refl _) (WeakL.tup (.cons r6.agg (WeakL.refl _)))
  .rw[if_neg h1]at h93 ⊢;cases h2:(f_ b.l).find? (qj b) with
   |some r =>
    rw[h2]at h93;exact(xw b hg.1 h0 r 13 Y h93).weak (WeakL.refl _) (WeakL.tup (.cons r6.agg (WeakL.refl _)))
   |none =>
    rw[h2]at h93;have hn:=Hr h1 h2;have h120:=PP hb hs h40 (hS h0) hn;obtain⟨_,hbal,hz,ht⟩:=vU hb hs hn;have va:Va ⟨ofQ (tX b).1,ofQ (tX b).2⟩ (tX b).1 (tX b).2 24000 20000:=⟨Vq.ofQ (h:=hz),Vq.ofQ (h:=ht)⟩;have h121:=yB b hb ⟨ofQ (tX b).1,ofQ (tX b).2⟩ (ha:=va) Y;dsimp only;cases hl:nK b (tX b).1 (tX b).2 with
    |true =>
     rw[hl]at h121;exact(Dg b hg.1 h0 h93 _ h120 h121).weak (WeakL.refl _) (WeakL.tup (.cons r6.agg (.cons m9.agg (WeakL.refl _))))
    |false =>
     rw[hl]at h121;have h23:=pP b.l hb.lim.l hb.chkL ⟨ofQ (tX b).1,ofQ (tX b).2⟩ (ha:=va) Y;exact(y9 b hg.1 h0 h93 _ _ h120 h121 h23).weak (WeakL.refl _) (WeakL.tup (.cons (.rfl _) (.cons m9.agg (WeakL.refl _))))
 .rw[if_neg h0];exact(IG b hg.1 h0).weak (WeakL.refl _) (WeakL.tup (.cons r6.agg (.cons m9.agg (WeakL.refl _))))
theorem DL (n:Nat)(hn:n<18446744073709551616):aO 151 [.int .u64 (n:Nat)] (.sl ((aM n).map eU)):=by
 refine ax Proofs.Tryz.func151 ?_
 ((repeat (first|refine bH ?_ | refine dT ?_ | refine dF ?_ | refine dy ?_));refine bZ ?_)
 refine lZ O trivial ?_
 ((repeat (first|refine bH ?_ | refine dT ?_ | refine dF ?_ | refine dy ?_));refine bZ ?_)
 (first|refine ay (kG 57 1 0 O O ?_)|refine ay (kF 57 1 0 O O ?_))
 refine H ?_;refine ah (fun q:Nat × List UInt16=>(aM n=q.2++aM q.1/\q.1<18446744073709551616)/\q.1*65536^q.2.length<=n) (fun q=>[(0,.int .u64 (q.1:Nat)),(3,.als 3 (1+q.2.length) 0 (q.2.map eU).length)]) (fun q=>[(3,1+q.2.length,⟨57,1,q.2.map eU,0⟩)]) (fun q=>q.1) (n,[]) ⟨⟨O,hn⟩,ao⟩ ⟨O,O,O,trivial⟩ ?_;rintro⟨m,L⟩ s ⟨⟨hL,hmn⟩,hb⟩;simp only at hL hb hmn;dsimp only;refine D ?_ ?_<;>intro h
 .have hm:0<m:=by have:=aB h;omega
  clear h;have hLl:L.length<4:=by
   rcases bG L.length 4 with h|h
   .exact h
   .exfalso;have h1:65536^4<=65536^L.length:=gh Y h;have h2:=et (show 1<=m by omega) h1;have:1*65536^4=18446744073709551616:=Y;omega
  have hL2:=wD hL hm;have hb2:m/65536*65536^(L++[UInt16.ofNat m]).length<=n:=by
   rw[bI,Ag,cW,c_ (65536^_),<-cP];exact bL (cu _ (uy _ _)) hb
  have ha:=OE m hmn;have hcv:IntKind.u16.wrap ((m-m/65536*65536:Nat):Int)=((UInt16.ofNat m).toNat:Int):=by rw[wrap_u16,bY,bY];omega
  refine H ?_;rw[ha,hcv];refine cf O O (fw O O O O O O O O O O aH O) ?_;refine ay (bJ 0 O O O O O O O O O O O aH (by intro row hr;first|(simp at hr;subst hr;rfl)|simp at hr) O O aV aV ?_);refine H ?_;refine⟨(m/65536,L++[UInt16.ofNat m]),⟨⟨hL2,by simp only;omega⟩,hb2⟩,by simp only;omega,?_,?_,?_,trivial⟩
  .show PV.int .u64 ((m:Int)/2^(16:Int).toNat)=PV.int .u64 ((m/65536:Nat):Int);rw[show((2:Int)^(16:Int).toNat)=65536 by decide];congr 1
  .exact ud eU 3 1 L (UInt16.ofNat m)
  .exact qP eU 1 57 1 0 L (UInt16.ofNat m)
 .have hm:m=0:=by have:=aE h;omega
  subst hm;clear h;rw[cM,b8]at hL;rw[hL];refine H ?_;exact lB O O O ⟨O,O,O⟩ O
theorem sa (z:Int)(hz:i64 z):aO 82 [I z] (.agg (eI (du z))):=by
 obtain⟨h0,h1⟩:=hz;have hn:=DL z.natAbs J;by_cases hz:z<0
 .rw[du,decide_eq_true hz];have w1:IntKind.i64.wrap (z+1)=z+1:=wrap_i64 J J;have w2:IntKind.i64.wrap (0-(z+1))=0-(z+1):=wrap_i64 J J;have w3:IntKind.u64.wrap (0-(z+1))=0-(z+1):=wrap_u64 J J;have w4:IntKind.u64.wrap (0-(z+1)+1)=((z.natAbs:Nat):Int):=by rw[wrap_u64 J J];omega
  generalize aM z.natAbs=A,((z.natAbs:Nat):Int)=na at *
  refine ax Proofs.Tryz.func82 ?_;refine D ?_ ?_<;>intro h
  .clear h;refine H ?_;rw[w1];refine H ?_;rw[w2];refine H ?_;rw[w3];refine H ?_;rw[w4];refine G hn ?_;exact bW
  .exact absurd hz (aE h)
 .rw[du,decide_eq_false hz];have w:IntKind.u64.wrap z=((z.natAbs:Nat):Int):=by rw[wrap_u64 J J];omega
  generalize aM z.natAbs=A at *
  refine ax Proofs.Tryz.func82 ?_;refine D ?_ ?_<;>intro h
  .exact absurd (aB h) hz
  .clear h;refine H ?_;rw[w];refine sT O O O hn O O ?_;exact bW
theorem b_ (z:Int)(hz:i64 z):aO 25 [I z] (.agg (eR (ofQ (z:Rat)))):=by
 have h1:=sa z hz;have h2:=sa 1 ⟨Y,Y⟩;rw[Cu];generalize du z=X,du 1=Y0 at *
 refine ax Proofs.Tryz.func25 ?_;refine G h1 ?_;refine G h2 ?_;exact bW
theorem y5 (a:RI)(ha:a.l.length<=1000000000):aO 85 [.agg (eI a),.agg (eI a)] (.bool true):=by
 obtain⟨n,l⟩:=a;simp only at ha;have hml:(l.map eU).length=l.length:=ao;have hnn:(n != n)=false:=by cases n<;>rfl
 have main:∀nn:Bool,nn=n->aO 85 [.agg [.bool nn,.sl (l.map eU)],.agg [.bool nn,.sl (l.map eU)]] (.bool true):=by
  intro nn _;cases nn <;>
  .refine ax Proofs.Tryz.func85 ?_;refine D ?_ ?_<;>intro h
   .simp at h
   clear h;refine H ?_;refine ah (fun k=>k<=l.length) (fun k=>[(2,.ptr 2 1 0 0),(3,.ptr 3 1 0 0),(5,I (k:Nat))]) (fun _=>[(2,1,⟨40,2,[eI ⟨_,l⟩],2⟩),(3,1,⟨40,2,[eI ⟨_,l⟩],2⟩)]) (fun k=>l.length-k) 0 (aP _) ⟨O,O,O,O,O,trivial⟩ ?_;intro k s hk;refine D ?_ ?_<;>intro h
   .have hlt:k<l.length:=by have:=aB h;simp only[aR]at this;omega
    clear h;obtain⟨x,hx⟩:=aC hlt;have hw:=fg k;refine cO 11 [27,28,29,30,31,32,33,34,35,36,37] ?_;refine aQ hx ?_;refine aQ hx ?_;refine D ?_ ?_<;>intro h
    .simp at h
    clear h;refine H ?_;exact⟨k+1,hlt,J,O,O,congrArg I hw,O,O,trivial⟩
   .exact fC
 exact main n O
def RR.le (x:RR)(n:Nat):Prop:=x.n.l.length<=n/\x.d.l.length<=n
theorem fx (x:RR)(hx:x.le 1000000000):aO 27 [.agg (eR x),.agg (eR x)] (.bool true):=by
 have h1:=y5 x.n hx.1;have h2:=y5 x.d hx.2;obtain⟨xn,xd⟩:=x;refine ax Proofs.Tryz.func27 ?_;refine aj h1 ?_;refine aj h2 ?_;exact fC
theorem Lx {p:Rat}{n:Nat}(h:HQ p n)(hn:n<=100000000):aO 27 [.agg (eR (ofQ p)),.agg (eR (ofQ p))] (.bool true):=by
 have:=fF h.ok;exact fx _ ⟨J,J⟩
theorem xf (l:List RR)(hl:l.length<=1000000)(hs:∀x∈l,x.le 1000000000):aO 64 [.sl (l.map eR),.sl (l.map eR)] (.bool true):=by
 have hml:(l.map eR).length=l.length:=ao;refine ax Proofs.Tryz.func64 ?_;refine D ?_ ?_<;>intro h
 .simp at h
 clear h;refine H ?_;refine ah (fun k=>k<=l.length) (fun k=>[(0,.sl (l.map eR)),(1,.sl (l.map eR)),(5,I (k:Nat))]) (fun _=>[]) (fun k=>l.length-k) 0 (aP _) ⟨O,O,O,trivial⟩ ?_;intro k s hk;refine D ?_ ?_<;>intro h
 .have hlt:k<l.length:=by have:=aB h;omega
  clear h;obtain⟨x,hx⟩:=aC hlt;have hxr:=fx x (hs x (bm hx));have hw:=fg k;refine cO 10 [17,18,19,20,21,22,23,24,25,26] ?_;refine aQ hx ?_;refine aQ hx ?_;refine aj hxr ?_;refine H ?_;exact⟨k+1,hlt,J,O,O,congrArg I hw,trivial⟩
 .exact fC
theorem Ix (a:AR)(hz:a.z.le 1000000000)(ht:a.t.le 1000000000):aO 75 [.agg (eA a),.agg (eA a)] (.bool true):=by
 have h1:=fx a.z hz;have h2:=fx a.t ht;obtain⟨z,t⟩:=a;refine ax Proofs.Tryz.func75 ?_;refine aj h1 ?_;refine aj h2 ?_;exact fC
def Ms (x:RR)(n:Nat):Bool:=decide (x.n.l.length<=n)&&decide (x.d.l.length<=n)
theorem qt (x:RR)(n:Nat)(hn:n<=1000000):aO 20 [.agg (eR x),I (n:Nat)] (.bool (Ms x n)):=by
 have e1:decide ((((x.n.l.map eU).length:Nat):Int)<=(n:Int))=decide (x.n.l.length<=n):=by rw[decide_eq_decide,aR];omega
 have e2:decide ((((x.d.l.map eU).length:Nat):Int)<=(n:Int))=decide (x.d.l.length<=n):=by rw[decide_eq_decide,aR];omega
 rw[Ms,<-e1,<-e2];obtain⟨⟨xn,xl⟩,⟨yn,yl⟩⟩:=x;refine ax Proofs.Tryz.func20 ?_;refine eW ?_ ?_<;>intro h
 .rw[h];clear h;exact fC
 .rw[h];clear h;exact fC
def Su (l:List SR):Prop:=l.length<=9223372036854775807/\∀s∈l,s.k.S.length<=9223372036854775807/\s.k.M.length<=9223372036854775807
open Go.Proofs Go.RowKit
theorem Ghost.takeD {s:St}{k g t n sz:Nat}{T:TypeId}{rows:List (List PV)}(ho:s.own k=(g,some ⟨T,sz,rows,1⟩))(hr:s.reg t = .als k g 0 n)(hn:n=rows.length) :
  Ghost s ((s.setOwn k (g+1) none).putR t (.sl rows)):=by
 intro C a w hX ⟨γ,h⟩;subst hn;obtain⟨h1,hle,_⟩:=h.drop hX ho;refine⟨γ,h1.defers,h1.size,fun r=>?_,h1.sites,h1.inj,h1.base,h1.below,h1.top,h1.kept⟩;show Rep _ (bif Nat.beq r t then _ else(s.setOwn k (g+1) none).reg r) _;by_cases hrt:r=t
 .subst hrt;have hp:=h.regs r;rw[hr]at hp;simp only[k9,cond_true];refine .d ?_;rcases h.als_at hp ho with⟨q1,_,q3,q4⟩|⟨b,cap,cur,q1,q2,q3,q4,q5,q6,q7⟩
  .have:rows=[]:=(h.sites k _ (by rw[ho])).emp q1;rw[this,q4];exact .sl0 _ _
  .obtain⟨cur',g1,g2,g3,g4,g5⟩:=h.site_at ho q1 (h.cells_sz ho q1 q3 q6);have hb:(aD C γ (s.setOwn k (g+1) none) w).ok b:=by
    have hbase:=h.base k _ b (by rw[ho]) q1;refine⟨hbase.2,fun hx=>?_,fun k' c' hc' hb'=>?_⟩
    .have:=hX b hx;omega
    .by_cases hk':k'=k
     .subst hk';rw[ar]at hc';cases hc'
     .rw[aN hk']at hc';exact hk' (h.inj k' k c' _ b hc' (by rw[ho]) hb' q1)
   rw[q2];simp only[f7];refine .sl rows b 0 cap sz (fun i j=>cur'.getD (i*sz+j) undef) hb g2 q4 g4 (fun i j row pv e1 e2=>?_) (fun i j row pv e1 e2=>?_)
   .obtain⟨u,f1,f2,_⟩:=g5 i j row pv e1 e2;have g1:w.heap[b]? = some (.cells cur' T (0,0)):=g1;show w.cell? _=_/\_;rw[bQ g1,aX,f1];simp[f1,f2]
   .obtain⟨u,f1,_,f3⟩:=g5 i j row pv e1 e2;have hu:cur'.getD (i*sz+j) undef=u:=by simp[f1]
    simp only[hu];exact hle.drep f3
 .rw[cD hrt];exact h1.regs r
def On (l:List Int):List RR:=l.map fun z:Int=>ofQ (z:Rat)
theorem MC (l:List Int)(hl:l.length<=1000000)(hz:∀z∈l,i64 z):aO 65 [.sl (l.map eN)] (.sl ((On l).map eR)):=by
 have hml:(l.map eN).length=l.length:=ao;refine ax Proofs.Tryz.func65 ?_
 ((repeat (first|refine bH ?_ | refine dT ?_ | refine dF ?_ | refine dy ?_));refine bZ ?_)
 refine lZ O trivial ?_
 ((repeat (first|refine bH ?_ | refine dT ?_ | refine dF ?_ | refine dy ?_));refine bZ ?_)
 (first|refine ay (kG 42 4 1 O O ?_)|refine ay (kF 42 4 1 O O ?_))
 refine H ?_;refine ah (fun k=>k<=l.length) (fun k=>[(0,.sl (l.map eN)),(3,.als 3 (k+1) 0 ((On (l.take k)).map eR).length),(4,I (k:Nat))]) (fun k=>[(3,k+1,⟨42,4,(On (l.take k)).map eR,1⟩)]) (fun k=>l.length-k) 0 (aP _) ⟨O,O,O,O,trivial⟩ ?_;intro k s hk;refine D ?_ ?_<;>intro h
 .have hlt:k<l.length:=by have:=aB h;omega
  clear h;obtain⟨x,hx⟩:=aC hlt;have hxr:=b_ x (hz x (bm hx));have hw:=fg k;have hwl:(On (l.take k)).length=k:=by rw[On,aR,bw];omega
  have hrows:(On (l.take (k+1))).map eR=(On (l.take k)).map eR++[eR (ofQ (x:Rat))]:=by rw[gC hx,On,bc,bc];rfl
  refine aQ hx ?_;refine G hxr ?_;refine H ?_;refine ay (aY 1 O O O O O O O O O O O aH O ?_);refine H ?_;refine ay (bJ 1 O O O O O O O O O O O aH (by intro row hr;first|(simp at hr;subst hr;rfl)|simp at hr) O O aV aV ?_);refine H ?_;refine⟨k+1,hlt,J,O,?_,congrArg I hw,?_,trivial⟩
  .rw[hrows];rfl
  .rw[hrows];rfl
 .have hge:k=l.length:=by have:=aE h;omega
  subst hge;clear h;rw[bb];refine H ?_;exact lB O O O ⟨O,O,O⟩ O
end Go.Pv
namespace Go.Pv
open Go.RowKit Go.ChangeShapes Go.WideShapes Go.ChangeAt
section
variable {H0:Type}{enc:TypeId × Value->H0}{P:Program}{L:df}{w:World}{sp:Nat->Bool}{held:Bool}
def argW (L:df)(T:TypeId)(c:PV):Prop:=match L T with
 |some r=>bif r.sh.agg then ∃cs,c = .agg cs/\oU L 12 T cs else oU L 12 T [c]
 |none=>False
theorem Jg (hL:nu P L){base:Nat}{T:TypeId}{v:Value}{d:DataW H0}{ps:List MemPlace}(hp:kI L 12 T=true)(h:DataW.Trod enc P w 0 sp held T v d ps)(hok:Value.okWide P w .any base T v):∃c,DRep w (fun b=>b<w.heap.size) c v/\argW L T c:=by
 obtain⟨fuel,h⟩:=h;obtain⟨pvs,h1,h2⟩:=xB hL 12 T _ fuel _ hp h;have hp':=hp;simp only[kI]at hp;split at hp
 .rename_i r hr;have hfit:=hL T r hr;have leaf:r.sh.agg=false->(∃c,pvs=[c])->(v.cells.toList.length=1->v.cells=#[v])->∃c,DRep w (fun b=>b<w.heap.size) c v/\argW L T c:=by
   rintro ha ⟨c,rfl⟩ hv;have hc:=hv (by rw[<-h1.1];rfl);have hd:=h1.2 0 c v O (by rw[hc];rfl);refine⟨c,hd.1,?_⟩;unfold argW;rw[hr];simp only[ha,cond_false];exact h2
  have nagg:(∀cs,v ≠ .agg cs)->v.cells=#[v]:=by
   intro h;cases v<;>first|rfl|exact absurd O (h _)
  have hty:∃r',L T=some r'/\_:=h2;obtain⟨r',hr',hty⟩:=hty;rw[hr]at hr';have hr':=cB hr';subst hr';split at hp
  .rename_i hs;rw[hs]at hty;obtain⟨b,rfl⟩:=hty;obtain⟨b',rfl⟩:∃b',v = .bool b':=by
    have:=okWide_bool (xG hfit hs) hok;exact this
   exact leaf (by rw[hs];rfl) ⟨_,O⟩ (fun _=>rfl)
  .rename_i k hs;rw[hs]at hty;obtain⟨m,rfl,_⟩:=hty;obtain⟨m',rfl⟩:=okWide_int (rX hfit hs) hok;exact leaf (by rw[hs];rfl) ⟨_,O⟩ (fun _=>rfl)
  .rename_i hs;rw[hs]at hty;obtain⟨s,rfl,_⟩:=hty;obtain⟨s',rfl⟩:=okWide_string (oX hfit hs) hok;exact leaf (by rw[hs];rfl) ⟨_,O⟩ (fun _=>rfl)
  .rename_i e hs;rw[hs]at hty;obtain⟨rows,rfl,_⟩:=hty;obtain⟨a,l,c,rfl⟩:=okWide_slice (kQ hfit hs) hok;exact leaf (by rw[hs];rfl) ⟨_,O⟩ (fun _=>rfl)
  .rename_i fs hs;obtain⟨fs',hu,_⟩:=xH hfit hs;obtain⟨cs,rfl,_⟩:=okWide_struct hu hok;refine⟨.agg pvs,?_,?_⟩
   .have:=DRep.agg (w:=w) (ok:=fun b=>b<w.heap.size) pvs cs.toList h1.1 (fun i c v e1 e2=>(h1.2 i c v e1 e2).1);simpa using this
   .unfold argW;rw[hr];simp only[hs,Sh.agg,cond_true];exact⟨pvs,O,h2⟩
  .cases hp
 .cases hp
theorem yf (hL:nu P L){base:Nat}:∀(ts:List TypeId) (vs:List Value) (ds:List (DataW H0)) (ps:List MemPlace),ts.all (kI L 12)=true->DataW.TrodAll enc P w 0 sp held ts vs ds ps ->
  (∀(j:Nat) t v,ts[j]? = some t->vs[j]? = some v->Value.okWide P w .any base t v) ->
  ∃pargs:List PV,pargs.length=vs.length/\ts.length=vs.length/\ds.length=vs.length/\(∀(i:Nat) (c:PV) (v:Value),pargs[i]? = some c->vs[i]? = some v->DRep w (fun b=>b<w.heap.size) c v)/\∀(i:Nat) t c,ts[i]? = some t->pargs[i]? = some c->argW L t c
 |[],vs,ds,ps,_,h,_=>by
  obtain⟨rfl,rfl,_⟩:=trodAll_nil h;exact⟨[],O,O,O,fun i c v e=>by simp at e,fun i t c e=>by simp at e⟩
 |t::ts,vs,ds,ps,hp,h,hok=>by
  obtain⟨v,vs',d,ds',p,q,rfl,rfl,rfl,h1,h2⟩:=trodAll_cons h;simp only[rB,ca]at hp;obtain⟨c,g1,g2⟩:=Jg hL hp.1 h1 (hok 0 t v O O);obtain⟨pargs,e1,e2,e3,e4,e5⟩:=yf hL ts vs' ds' q hp.2 h2 (fun j t v a b=>hok (j+1) t v (by simpa using a) (by simpa using b));refine⟨c::pargs,by simp[e1],by simp[e2],by simp[e3],fun i c' v' a b=>?_,fun i t' c' a b=>?_⟩
  .cases i with
   |zero=>simp at a b;subst a;subst b;exact g1
   |succ i=>exact e4 i c' v' (by simpa using a) (by simpa using b)
  .cases i with
   |zero=>simp at a b;subst a;subst b;exact g2
   |succ i=>exact e5 i t' c' (by simpa using a) (by simpa using b)
theorem law_stepW [Globs](hL:nu P L)(hl:laidOutB P=true){f:FuncId}{fn:Func}{s:ChangeSpec}{ts:List TypeId}{T:TypeId}(hvars:s.vars=[])(hts:fn.params.toList=ts)(hplain:ts.all (kI L 12)=true)
  (hread:ts.all (fun t=>P.readableRec t&&decide (t<P.types.size))=true) (hres:fn.resultTypes=#[T]) (hT:P.underlying T=some .bool)
  (hspec:∀ds:List (DataW H0),ds.length=ts.length->(s.fn H0 ds).results=[.lit (.bool true)]/\(s.fn H0 ds).args=ds/\(s.fn H0 ds).vars=[])
  (law:∀pargs:List PV,pargs.length=ts.length->(∀(i:Nat) t c,ts[i]? = some t->pargs[i]? = some c->argW L t c)->Ret P .shared f pargs (.bool true))
  {W:World} {base:Nat} {args:Array Value} {ds gs:List (DataW H0)} {before:List MemPlace} (hval:∀(j:Nat) t v,fn.params[j]? = some t->args[j]? = some v->Value.okWide P W .any base t v)
  (hglob:Globs.glob W) (hW:DataW.Whole enc P fn.params.toList s.vars false W args.toList ds gs before) :
  Calls P f args W fun e W'=>∃v,e = .returned v/\s.post enc P fn false true false false W args v W':=by
 have hW':=hW;obtain⟨p,q,hA,hV,hpq,hfz,hnd⟩:=hW;rw[hvars]at hV;obtain⟨rfl,rfl⟩:=trodVars_none hV;rw[hts]at hA;obtain⟨pargs,e1,e2,e3,e4,e5⟩:=yf hL (base:=base) ts _ _ _ hplain hA (fun j t v a b=>hval j t v (by rw[<-hts]at a;simpa using a) (by simpa using b));have hret:=law pargs J e5;have hcall:=hret.2 W (fun _=>False) args.toList hglob (fun b hb=>hb.elim) J (fun i c v a b=>(e4 i c v a b).weaken fun b hb=>⟨hb,fun h=>h⟩);have hargs:args.toList.toArray=args:=ao;rw[hargs]at hcall;refine hcall.mono ?_;rintro e W' ⟨v,rfl,hb,hd⟩;refine⟨v,O,?_⟩;have hv:v = .bool true:=by cases hd;rfl
 subst hv;have hlt:∀x∈p,x.block<W.heap.size:=fun x hx=>by
  have:=hW'.lt x (by rw[hpq];simp[hx]);simpa using this
 obtain⟨s1,s2,s3⟩:=hspec ds J;have hgs:ds++([]:List (DataW H0))=ds:=b8 ds;refine⟨ds,[],before,[],p,[],hW',?_,?_,?_,World.keptBut_mono (fun x hx=>hx.elim) (hb.frame (fun _=>False)),fun h=>by cases h⟩
 .rw[hgs,s1,hres];exact trodAll_mk1 (shut_bool hT true)
 .rw[hgs,s2,hts];exact pC hl hb ts _ _ _ (fun t ht=>by
   have:=cm.1 hread t ht
   simpa using this) hA hlt
 .rw[hgs,s3,hvars];exact O
end
end Go.Pv
set_option maxHeartbeats 2000000
namespace Go.Pv
attribute [local irreducible] PWP POps PQuiet PSem aF aw ai ak
open Go.Proofs
theorem jA {α:Type}{f:α->List PV}{p:α->Prop}:∀ {rows:List (List PV)},(∀row∈rows,∃x,row=f x/\p x)->∃l:List α,rows=l.map f/\∀x∈l,p x
 |[],_=>⟨[],rfl,fun x h=>by cases h⟩
 |row::rows,h=>by
  obtain⟨x,rfl,hx⟩:=h row ao;obtain⟨l,rfl,hl⟩:=jA (rows:=rows) fun r hr=>h r (by simp[hr]);exact⟨x::l,O,fun y hy=>by
   rcases cG.1 hy with rfl|hy
   .exact hx
   .exact hl y hy⟩
theorem Cr {n:Nat}(h:n<=maxLen):n<=9223372036854775807:=by
 have e:maxLen=9223372036854775807:=Y;omega
theorem Jv {n:Nat}{cs:List PV}(h:oU lay.get (n+2) 38 cs):∃l:List UInt16,cs=[.sl (l.map eU)]:=by
 obtain⟨rows,rfl,hr⟩:=QQ h O;obtain⟨l,rfl,-⟩:=jA (f:=eU) (p:=fun _=>True) fun row hrow=>by
  obtain⟨m,rfl,h1,h2⟩:=xC (hr row hrow) O;have h1:(0:Int)<=m:=h1;have h2:m<=(65535:Int):=h2;refine⟨UInt16.ofNat m.toNat,?_,trivial⟩;rw[eU,bY];congr 2;omega
 exact⟨l,O⟩
theorem OK {n:Nat}{cs:List PV}(h:oU lay.get (n+3) 40 cs):∃a:RI,cs=eI a:=by
 obtain⟨parts,rfl,hl,hp⟩:=n7 h O
 match parts,hl,hp with
 |[p0,p1],_,hp =>
  obtain⟨b,rfl⟩:=Ds (hp 0 _ p0 O O) O;obtain⟨l,rfl⟩:=Jv (hp 1 _ p1 O O);exact⟨⟨b,l⟩,O⟩
theorem OL {n:Nat}{cs:List PV}(h:oU lay.get (n+4) 42 cs):∃a:RR,cs=eR a:=by
 obtain⟨parts,rfl,hl,hp⟩:=n7 h O
 match parts,hl,hp with
 |[p0,p1],_,hp =>
  obtain⟨a,rfl⟩:=OK (hp 0 _ p0 O O);obtain⟨b,rfl⟩:=OK (hp 1 _ p1 O O);exact⟨⟨a,b⟩,O⟩
theorem ug {n:Nat}{cs:List PV}(h:oU lay.get (n+1) 3 cs):∃z:Int,cs=eN z/\i64 z:=by
 obtain⟨m,rfl,h1,h2⟩:=xC h O;exact⟨m,O,h1,h2⟩
theorem vN {n:Nat}{cs:List PV}(h:oU lay.get (n+2) 92 cs):∃l:List Int,cs=[.sl (l.map eN)]/\l.length<=9223372036854775807/\∀z∈l,i64 z:=by
 obtain⟨rows,rfl,hlen,hr⟩:=oV h O;obtain⟨l,rfl,hz⟩:=jA (f:=eN) (p:=i64) fun row hrow=>ug (hr row hrow);exact⟨l,O,by rw[aR]at hlen;exact Cr hlen,hz⟩
structure ArgB (b:BR):Prop where
 w:i64 b.w
 len:Su b.l
 data:Q7 b.l
theorem dec_RR {c:PV}(h:argW lay.get 42 c):∃a:RR,c = .agg (eR a):=by
 obtain⟨cs,rfl,h⟩:∃cs,c = .agg cs/\oU lay.get 12 42 cs:=h;obtain⟨a,rfl⟩:=OL h;exact⟨a,O⟩
abbrev I2:=List UInt8
def gQ {α:Type}:List α->(Nat->α->Int)->Int
 |[],_=>0
 |a::l,f=>if f 0 a=0 then gQ l (fun i=>f (i+1)) else f 0 a
theorem vY {α:Type}:∀ {l:List α} {f:Nat->α->Int} {i:Nat} {a:α},l[i]? = some a->f i a≠0->(∀j b,j<i->l[j]? = some b->f j b=0)->gQ l f=f i a
 |[],f,i,a,h,_,_=>by simp at h
 |b::l,f,0,a,h,he,_=>by
  simp at h;subst h;simp[gQ,he]
 |b::l,f,i+1,a,h,he,hn=>by
  have h0:=hn 0 b J O;rw[gQ,if_pos h0];exact vY (f:=fun i=>f (i+1)) (by simpa using h) he fun j c hj hc=>hn (j+1) c J (by simpa using hc)
theorem yy {α:Type}:∀ {l:List α} {f:Nat->α->Int},(∀(j:Nat) b,l[j]? = some b->f j b=0)->gQ l f=0
 |[],f,_=>rfl
 |b::l,f,hn=>by
  rw[gQ,if_pos (hn 0 b O)];exact yy fun j c hc=>hn (j+1) c (by simpa using hc)
theorem kr {α:Type}:∀ {l:List α} {f:Nat->α->Int},gQ l f=0->∀(j:Nat) b,l[j]? = some b->f j b=0
 |[],f,_,j,b,h=>by simp at h
 |a::l,f,h,j,b,hb=>by
  rw[gQ]at h;split at h
  .rename_i hz;cases j with
   |zero=>simp at hb;subst hb;exact hz
   |succ j=>exact kr h j b (by simpa using hb)
  .contradiction
def ClearE {α:Type}(l:List α)(f:Nat->α->Int)(k:Nat):Prop:=k<=l.length/\∀j b,j<k->l[j]? = some b->f j b=0
theorem ClearE.zero' {α:Type}{l:List α}{p:Nat->α->Int}:ClearE l p 0:=⟨aP _,fun j b h=>by omega⟩
theorem ClearE.succ {α:Type}{l:List α}{p:Nat->α->Int}{k:Nat}{x:α}(h:ClearE l p k)(hx:l[k]? = some x)(hp:p k x=0):ClearE l p (k+1):=by
 have:=(bV hx).1;refine⟨this,fun j b hj hb=>?_⟩;rcases bG j k with hlt|hge
 .exact h.2 j b hlt hb
 .have:j=k:=J;subst this;rw[hx]at hb;cases hb;exact hp
theorem ClearE.found {α:Type}{l:List α}{p:Nat->α->Int}{k:Nat}{x:α}{e:Int}(h:ClearE l p k)(hx:l[k]? = some x)(hp:p k x=e)(he:e≠0):gQ l p=e:=by
 subst hp;exact vY hx he h.2
theorem ClearE.none {α:Type}{l:List α}{p:Nat->α->Int}{k:Nat}(h:ClearE l p k)(hk:¬k<l.length):gQ l p=0 :=
 yy fun j b hb=>h.2 j b (by have:=(bV hb).1;have:=h.1;omega) hb
def nH (c:UInt8):Bool:=(decide (97<=(c.toNat:Int))&&decide ((c.toNat:Int)<=122))||(decide (65<=(c.toNat:Int))&&decide ((c.toNat:Int)<=90))
def DK (i:Nat)(c:UInt8):Bool:=!nH c&&(decide ((i:Int)=0)||(!decide ((c.toNat:Int)=45)&&(decide ((c.toNat:Int)<48)||decide (57<(c.toNat:Int)))))
def sd (i:Nat)(c:UInt8):Int:=if DK i c then 1 else 0
def dI (s:I2):Bool:=decide (1<=s.length)&&decide (s.length<=12)&&decide (gQ s sd=0)
def Ro (c:UInt8):List PV:=[.int .u8 c.toNat]
def aG (n lo hi:Int):Bool:=decide (lo<=n)&&decide (n<=hi)
theorem cx (n lo hi:Int):aO 126 [I n,I lo,I hi] (.bool (aG n lo hi)):=by
 refine ax Proofs.Tryz.func126 ?_;refine eW ?_ ?_<;>intro h
 .refine H ?_;exact fj O O (by simp[aG,aB h])
 .refine H ?_;exact fj O O (by simp[aG,h])
theorem dL (n lo hi:Int):aO 102 [I n,I lo,I hi] (.bool (aG n lo hi)):=by
 refine ax Proofs.Tryz.func102 ?_;refine eW ?_ ?_<;>intro h
 .refine H ?_;exact fj O O (by simp[aG,aB h])
 .refine H ?_;exact fj O O (by simp[aG,h])
theorem pW (s:I2):aO 125 [.str s] (.bool (dI s)):=by
 refine ax Proofs.Tryz.func125 ?_
 repeat' (first|refine iH O ?_|refine fe O O (fun h=>?_) (fun h=>?_)|refine fc O O (fun h=>?_) (fun h=>?_)|refine fb O O (fun h=>?_) (fun h=>?_))
 .have:=aB h;exact fj O O (by simp[dI];omega)
 have h1:=aE h;refine aS O ?_ ?_<;>intro h
 .have:=aB h;refine H ?_;exact fj O O (by simp[dI];omega)
 have h2:=aE h;have hll:((s.map Ro).length:Int)=s.length:=ao;have hb:s.length<=12:=J;clear h;refine H ?_;refine cf O O (RJ O O O O O O) ?_;refine H ?_;refine ah (ClearE s sd) (fun k=>[(15,.fsl (s.map Ro)),(16,I (s.map Ro).length),(17,I k)]) (fun _=>[]) (fun k=>s.length-k) 0 .zero' ⟨O,O,O,trivial⟩ ?_;intro k st hk;have hkl:=hk.1;refine D ?_ ?_<;>intro h
 .have hlt:k<s.length:=by simpa using h
  obtain⟨x,hx⟩:=aC hlt;have hkb:k<12:=J;clear h;refine H ?_;refine cf O O (NE O O O O O J hx O) ?_;repeat (refine SY O ?_ ?_;· repeat' constructor)
  refine qe 100 [(3,I k),(4,.int .u8 x.toNat),(5,.bool (nH x)),(15,.fsl (s.map Ro)),(16,I (s.map Ro).length),(17,I k)] [] ?_ ?_
  .clear h1 h2 hll hb
   repeat' (first|refine iH O ?_|refine fe O O (fun h=>?_) (fun h=>?_)|refine fc O O (fun h=>?_) (fun h=>?_)|refine fb O O (fun h=>?_) (fun h=>?_))
   all_goals exact⟨O,O,(congrArg PV.bool (by clear hk hx;simp_all [nH]<;>omega)),O,O,O,trivial⟩
  clear h1 h2 hll hb;intro s
  repeat' (first|refine iH O ?_|refine fe O O (fun h=>?_) (fun h=>?_)|refine fc O O (fun h=>?_) (fun h=>?_)|refine fb O O (fun h=>?_) (fun h=>?_))
  all_goals try (refine aS O (fun hc=>?_) (fun hc=>?_))
  all_goals repeat refine iH O ?_
  all_goals first
   |(
    refine fj O O ?_;have hb:sd k x=1:=by simp_all [sd,DK]<;>omega
    have:=hk.found hx hb J
    simp[dI,this])
   |(
    refine⟨k+1,hk.succ hx (by simp_all [sd,DK]<;>omega),J,O,O,?_,trivial⟩
    exact dg J J)
 .refine H ?_;exact fj O O (by simp only[dI,hk.none (by simpa using h)];simp;omega)
theorem pV (l:I2):aO 71 [.str l] (.bool (dI l)):=by
 refine ax Proofs.Tryz.func71 ?_
 repeat' (first|refine iH O ?_|refine fe O O (fun h=>?_) (fun h=>?_)|refine fc O O (fun h=>?_) (fun h=>?_)|refine fb O O (fun h=>?_) (fun h=>?_))
 .have:=aB h;exact fj O O (by simp[dI];omega)
 have h1:=aE h;refine aS O ?_ ?_<;>intro h
 .have:=aB h;refine H ?_;exact fj O O (by simp[dI];omega)
 have h2:=aE h;refine H ?_;refine ah (ClearE l sd) (fun k=>[(0,.str l),(3,I k)]) (fun _=>[]) (fun k=>l.length-k) 0 .zero' ⟨O,O,trivial⟩ ?_;intro k s hk;refine D ?_ ?_<;>intro h
 .have hlt:k<l.length:=by simpa using h
  obtain⟨x,hx⟩:=aC hlt;have hget:l.getD k 0=x:=by rw[cY,hx];rfl
  refine H ?_;refine lZ O ⟨J,J⟩ ?_;have hn:((l.getD (Int.toNat (k:Int)) 0).toNat:Int)=x.toNat:=by rw[br,hget]
  rw[hn];have hkb:k<12:=J;clear h hn h1 h2;refine lZ O trivial ?_
  ((repeat (first|refine bH ?_ | refine dT ?_ | refine dF ?_ | refine dy ?_));refine bZ ?_)
  refine qe 100 [(0,.str l),(3,I k),(4,.int .u8 x.toNat),(5,.bool (nH x))] [] ?_ ?_
  .repeat' (first|refine iH O ?_|refine fe O O (fun h=>?_) (fun h=>?_)|refine fc O O (fun h=>?_) (fun h=>?_)|refine fb O O (fun h=>?_) (fun h=>?_))
   all_goals exact⟨O,O,O,(congrArg PV.bool (by simp_all [nH]<;>omega)),trivial⟩
  intro s
  repeat' (first|refine iH O ?_|refine fe O O (fun h=>?_) (fun h=>?_)|refine fc O O (fun h=>?_) (fun h=>?_)|refine fb O O (fun h=>?_) (fun h=>?_))
  all_goals try (refine aS O (fun hc=>?_) (fun hc=>?_))
  all_goals repeat refine iH O ?_
  all_goals first
   |(
    refine fj O O ?_;have hb:sd k x=1:=by simp_all [sd,DK]<;>omega
    have:=hk.found hx hb J
    simp[dI,this])
   |(
    refine⟨k+1,hk.succ hx (by simp_all [sd,DK]<;>omega),J,O,?_,trivial⟩
    exact dg J J)
 .refine H ?_;exact fj O O (by simp only[dI,hk.none (by simpa using h)];simp;omega)
structure ST where
 x:Int
 w:Int
 L:List Int
 H0:List Int
def eT (t:ST):List PV:=[I t.x,I t.w,.sl (t.L.map eN),.sl (t.H0.map eN)]
def mR (t:ST):Int:=if (aG t.x (-1000000) 1000000&&aG t.w 1 100000)=true then 0 else 2
def oZ (t u:ST):Int:=if t.x-u.x<=0 then 10 else if 2*(t.x-u.x)<t.w+u.w then 17 else 0
def qB (L:List Int)(i:Nat)(l:Int):Int:=if aG l 0 100000=true then(if 0<i/\l<=L.getD (i-1) 0 then 10 else 0) else 2
def B9 (_:Nat)(h:Int):Int:=if aG h 0 100000=true then 0 else 2
def gO (t:ST):Int:=if aG t.L.length 2 30=true/\(t.H0.length:Int)=(t.L.length:Int)-1 then(if gQ t.L (qB t.L)=0 then gQ t.H0 B9 else gQ t.L (qB t.L)) else 11
def nl (t:ST)(u:Option ST):Int:=if mR t=0 then(match u with
 |none=>gO t
 |some u=>if oZ t u=0 then gO t else oZ t u) else mR t
theorem wU {t:ST}(h:mR t=0):(-1000000<=t.x/\t.x<=1000000)/\(1<=t.w/\t.w<=100000):=by
 rw[mR]at h;split at h
 .rename_i h2;simp[aG]at h2;omega
 .omega
theorem kA {n:Nat}(h:aG (n:Int) 2 30=true):2<=n/\n<=30:=by
 simp[aG]at h;omega
theorem Lq (t:ST):aO 103 [.agg (eT t)] (I (mR t)):=by
 have h1:=dL t.x (-1000000) 1000000;have h2:=dL t.w 1 100000;rw[mR];generalize aG t.x (-1000000) 1000000=p,aG t.w 1 100000=q at *
 obtain⟨x,w,L,H0⟩:=t;simp only at *
 cases p
 .refine ax Proofs.Tryz.func103 ?_;refine aj h1 ?_;exact co
 .cases q;all_goals
   refine ax Proofs.Tryz.func103 ?_;refine aj h1 ?_;refine aj h2 ?_;exact co
theorem Ik (t:ST)(hL:t.L.length<=9223372036854775807)(hH:t.H0.length<=9223372036854775807):aO 104 [.agg (eT t)] (I (gO t)):=by
 generalize hf:gO t=E;have hml:((t.L.map eN).length:Int)=t.L.length:=ao;have hmh:((t.H0.map eN).length:Int)=t.H0.length:=ao;refine ax Proofs.Tryz.func104 ?_;refine H ?_;rw[hml];refine LP O O O ?_ ?_<;>intro h
 .have h1:=aB h;clear h;have hE:11=E:=by rw[<-hf,gO,if_neg (fun g=>by have:=kA g.1;omega)]
  subst hE;exact co
 have h1:=aE h;clear h;refine H ?_;rw[hml];refine LP O O O ?_ ?_<;>intro h
 .have h2:=aB h;clear h;have hE:11=E:=by rw[<-hf,gO,if_neg (fun g=>by have:=kA g.1;omega)]
  subst hE;exact co
 have h2:=aE h;clear h;have hwl:IntKind.i64.wrap ((t.L.length:Int)-1)=(t.L.length:Int)-1:=wrap_i64 J J;refine H ?_;rw[hml,hmh,hwl];refine D ?_ ?_<;>intro h
 .have h3:¬(t.H0.length:Int)=(t.L.length:Int)-1:=by simpa using h
  clear h;have hE:11=E:=by rw[<-hf,gO,if_neg (fun g=>by have:=g.2;omega)]
  subst hE;exact co
 have c2:(t.H0.length:Int)=(t.L.length:Int)-1:=by simpa using h
 clear h;rw[gO,if_pos ⟨by simp[aG];omega,c2⟩]at hf;refine H ?_;refine ah (ClearE t.L (qB t.L)) (fun k=>[(1,.ptr 1 1 0 0),(3,I (k:Nat))]) (fun _=>[(1,1,⟨130,4,[eT t],2⟩)]) (fun k=>t.L.length-k) 0 .zero' ⟨O,O,O,trivial⟩ ?_;intro k s hk;have hkl:=hk.1;refine D ?_ ?_<;>intro h
 .have hlt:k<t.L.length:=by have:=aB h;omega
  clear h;obtain⟨x,hx⟩:=aC hlt;have h1:=dL x 0 100000;have hw:=fg k;refine aQ hx ?_;refine aj h1 ?_;by_cases d1:aG x 0 100000=true
  rotate_left
  .have hv:qB t.L k x=2:=by rw[qB,if_neg d1]
   have hfl:=hk.found hx hv Y;have hE:2=E:=by rw[<-hf,hfl];rfl
   subst hE;rw[j9]at d1;rw[d1];exact co
  rw[d1];refine cO 16 [39,40,41,42,43,44,45,46,47,48,49,50,51,52,53,54] ?_;refine eW ?_ ?_<;>intro h
  rotate_left
  .have h0:k=0:=by have:=aE h;omega
   clear h;have hv:qB t.L k x=0:=by rw[qB,if_pos d1,if_neg J]
   refine H ?_;exact⟨k+1,hk.succ hx hv,J,O,congrArg I hw,O,trivial⟩
  .have h0:0<k:=by have:=aB h;omega
   clear h;obtain⟨j,rfl⟩:∃j,k=j+1:=⟨k-1,J⟩;obtain⟨y,hy⟩:=aC (show j<t.L.length by omega);have hgy:t.L.getD j 0=y:=by rw[cY,hy];rfl
   have hwj:IntKind.i64.wrap (((j+1:Nat):Int)-1)=(j:Nat):=by rw[wrap_i64 J J];omega
   refine aQ hx ?_;refine H ?_;rw[hwj];refine tK O O O O O O O hy O ?_;refine D ?_ ?_<;>intro h
   .have hle:x<=y:=aB h;clear h;have hv:qB t.L (j+1) x=10:=by rw[qB,if_pos d1,if_pos ⟨J,by rw[jt,hgy];exact hle⟩]
    have hfl:=hk.found hx hv Y;have hE:10=E:=by rw[<-hf,hfl];rfl
    subst hE;exact co
   .have hle:¬x<=y:=aE h;clear h;have hv:qB t.L (j+1) x=0:=by rw[qB,if_pos d1,if_neg (fun g=>hle (by have:=g.2;rw[jt,hgy]at this;exact this))]
    refine H ?_;exact⟨j+1+1,hk.succ hx hv,J,O,congrArg I hw,O,trivial⟩
 .have hge:¬k<t.L.length:=by have:=aE h;omega
  clear h;rw[hk.none hge,if_pos O]at hf;refine H ?_;refine ah (ClearE t.H0 B9) (fun k=>[(1,.ptr 1 1 0 0),(4,I (k:Nat))]) (fun _=>[(1,1,⟨130,4,[eT t],2⟩)]) (fun k=>t.H0.length-k) 0 .zero' ⟨O,O,O,trivial⟩ ?_;intro k s hk;have hkl:=hk.1;refine D ?_ ?_<;>intro h
  .have hlt:k<t.H0.length:=by have:=aB h;omega
   clear h;obtain⟨x,hx⟩:=aC hlt;have h1:=dL x 0 100000;have hw:=fg k;refine aQ hx ?_;refine aj h1 ?_;by_cases d1:aG x 0 100000=true
   .have hv:B9 k x=0:=by rw[B9,if_pos d1]
    rw[d1];refine H ?_;exact⟨k+1,hk.succ hx hv,J,O,congrArg I hw,O,trivial⟩
   .have hv:B9 k x=2:=by rw[B9,if_neg d1]
    have hfl:=hk.found hx hv Y;have hE:2=E:=by rw[<-hf,hfl]
    subst hE;rw[j9]at d1;rw[d1];exact co
  .have hge:¬k<t.H0.length:=by have:=aE h;omega
   clear h;rw[hk.none hge]at hf;subst hf;exact co
theorem Bj (t:ST)(hL:t.L.length<=9223372036854775807)(hH:t.H0.length<=9223372036854775807):aO 127 [.agg (eT t),.raw (.pointer none)] (I (nl t none)):=by
 have h1:=cx t.x (-1000000) 1000000;have h2:=cx t.w 1 100000;generalize hf:nl t none=E;cases hp1:aG t.x (-1000000) 1000000 with
 |false =>
  have hE:2=E:=by rw[<-hf,nl,mR,hp1];rfl
  subst hE;rw[hp1]at h1;refine ax Proofs.Tryz.func127 ?_;refine aj h1 ?_;exact co
 |true =>
 cases hp2:aG t.w 1 100000 with
 |false =>
  have hE:2=E:=by rw[<-hf,nl,mR,hp1,hp2];rfl
  subst hE;rw[hp1]at h1;rw[hp2]at h2;refine ax Proofs.Tryz.func127 ?_;refine aj h1 ?_;refine aj h2 ?_;exact co
 |true =>
 have hpt:mR t=0:=by rw[mR,hp1,hp2];rfl
 rw[hp1]at h1;rw[hp2]at h2;rw[nl,if_pos hpt]at hf;refine ax Proofs.Tryz.func127 ?_;refine aj h1 ?_;refine aj h2 ?_;refine H ?_;have hin:=cx t.L.length 2 30;have hml:((t.L.map eN).length:Int)=t.L.length:=ao;have hmh:((t.H0.map eN).length:Int)=t.H0.length:=ao;rw[hml];refine OW O O O hin O O O ?_;by_cases c1:aG t.L.length 2 30=true
 rotate_left
 .rw[j9]at c1;rw[c1];have hE:11=E:=by rw[<-hf,gO,if_neg (by rw[c1];simp)]
  subst hE;exact co
 obtain⟨g1,g2⟩:=kA c1;have hwl:IntKind.i64.wrap ((t.L.length:Int)-1)=(t.L.length:Int)-1:=wrap_i64 J J;rw[c1];refine H ?_;rw[hml,hmh,hwl];refine D ?_ ?_<;>intro h
 .have hE:11=E:=by rw[<-hf,gO,if_neg (fun g=>absurd g.2 (by simpa using h))]
  subst hE;exact co
 have c2:(t.H0.length:Int)=(t.L.length:Int)-1:=by simpa using h
 clear h;rw[gO,if_pos ⟨c1,c2⟩]at hf;refine H ?_;rw[hml];refine ah (ClearE t.L (qB t.L)) (fun k=>[(2,.ptr 2 1 0 0),(59,.sl (t.L.map eN)),(60,I t.L.length),(61,I (k:Nat))]) (fun _=>[(2,1,⟨130,4,[eT t],2⟩)]) (fun k=>t.L.length-k) 0 .zero' ⟨O,O,by rw[<-hml];rfl,O,O,trivial⟩ ?_;intro k s hk;have hkl:=hk.1;refine D ?_ ?_<;>intro h
 .have hlt:k<t.L.length:=by have:=aB h;omega
  clear h;obtain⟨x,hx⟩:=aC hlt;have h1:=cx x 0 100000;have hw:=fg k;refine aQ hx ?_;refine aj h1 ?_;by_cases d1:aG x 0 100000=true
  rotate_left
  .have hv:qB t.L k x=2:=by rw[qB,if_neg d1]
   have hfl:=hk.found hx hv Y;have hE:2=E:=by rw[<-hf,hfl];rfl
   subst hE;rw[j9]at d1;rw[d1];exact co
  rw[d1];refine eW ?_ ?_<;>intro h
  rotate_left
  .have h0:k=0:=by have:=aE h;omega
   clear h;have hv:qB t.L k x=0:=by rw[qB,if_pos d1,if_neg J]
   refine H ?_;exact⟨k+1,hk.succ hx hv,J,O,O,O,congrArg I hw,O,trivial⟩
  .have h0:0<k:=by have:=aB h;omega
   clear h;obtain⟨j,rfl⟩:∃j,k=j+1:=⟨k-1,J⟩;obtain⟨y,hy⟩:=aC (show j<t.L.length by omega);have hgy:t.L.getD j 0=y:=by rw[cY,hy];rfl
   have hwj:IntKind.i64.wrap (((j+1:Nat):Int)-1)=(j:Nat):=by rw[wrap_i64 J J];omega
   refine H ?_;rw[hwj];refine tK O O O O O O O hy O ?_;refine D ?_ ?_<;>intro h
   .have hle:x<=y:=aB h;clear h;have hv:qB t.L (j+1) x=10:=by rw[qB,if_pos d1,if_pos ⟨J,by rw[jt,hgy];exact hle⟩]
    have hfl:=hk.found hx hv Y;have hE:10=E:=by rw[<-hf,hfl];rfl
    subst hE;exact co
   .have hle:¬x<=y:=aE h;clear h;have hv:qB t.L (j+1) x=0:=by rw[qB,if_pos d1,if_neg (fun g=>hle (by have:=g.2;rw[jt,hgy]at this;exact this))]
    refine H ?_;exact⟨j+1+1,hk.succ hx hv,J,O,O,O,congrArg I hw,O,trivial⟩
 .have hge:¬k<t.L.length:=by have:=aE h;omega
  clear h;rw[hk.none hge,if_pos O]at hf;refine H ?_;rw[hmh];refine ah (ClearE t.H0 B9) (fun k=>[(2,.ptr 2 1 0 0),(83,.sl (t.H0.map eN)),(84,I t.H0.length),(85,I (k:Nat))]) (fun _=>[(2,1,⟨130,4,[eT t],2⟩)]) (fun k=>t.H0.length-k) 0 .zero' ⟨O,O,by rw[<-hmh];rfl,O,O,trivial⟩ ?_;intro k s hk;have hkl:=hk.1;refine D ?_ ?_<;>intro h
  .have hlt:k<t.H0.length:=by have:=aB h;omega
   clear h;obtain⟨x,hx⟩:=aC hlt;have h1:=cx x 0 100000;have hw:=fg k;refine aQ hx ?_;refine aj h1 ?_;by_cases d1:aG x 0 100000=true
   .have hv:B9 k x=0:=by rw[B9,if_pos d1]
    rw[d1];refine H ?_;exact⟨k+1,hk.succ hx hv,J,O,O,O,congrArg I hw,O,trivial⟩
   .have hv:B9 k x=2:=by rw[B9,if_neg d1]
    have hfl:=hk.found hx hv Y;have hE:2=E:=by rw[<-hf,hfl]
    subst hE;rw[j9]at d1;rw[d1];exact co
  .have hge:¬k<t.H0.length:=by have:=aE h;omega
   clear h;rw[hk.none hge]at hf;subst hf;exact co
theorem Bm (t u:ST)(hu:mR u=0)(hL:t.L.length<=9223372036854775807)(hH:t.H0.length<=9223372036854775807):aO 127 [.agg (eT t),.dref (eT u) 0] (I (nl t (some u))):=by
 have h1:=cx t.x (-1000000) 1000000;have h2:=cx t.w 1 100000;generalize hf:nl t (some u)=E;cases hp1:aG t.x (-1000000) 1000000 with
 |false =>
  have hE:2=E:=by rw[<-hf,nl,mR,hp1];rfl
  subst hE;rw[hp1]at h1;refine ax Proofs.Tryz.func127 ?_;refine aj h1 ?_;exact co
 |true =>
 cases hp2:aG t.w 1 100000 with
 |false =>
  have hE:2=E:=by rw[<-hf,nl,mR,hp1,hp2];rfl
  subst hE;rw[hp1]at h1;rw[hp2]at h2;refine ax Proofs.Tryz.func127 ?_;refine aj h1 ?_;refine aj h2 ?_;exact co
 |true =>
 have hpt:mR t=0:=by rw[mR,hp1,hp2];rfl
 rw[hp1]at h1;rw[hp2]at h2;rw[nl,if_pos hpt]at hf;obtain⟨⟨a1,a2⟩,a3,a4⟩:=wU hpt;obtain⟨⟨b1,b2⟩,b3,b4⟩:=wU hu;have k1:IntKind.i64.wrap (t.x-u.x)=t.x-u.x:=wrap_i64 J J;have k2:IntKind.i64.wrap (2*(t.x-u.x))=2*(t.x-u.x):=wrap_i64 J J;have k3:IntKind.i64.wrap (t.w+u.w)=t.w+u.w:=wrap_i64 J J;refine ax Proofs.Tryz.func127 ?_;refine aj h1 ?_;refine aj h2 ?_;refine cO 8 [22,23,24,25,26,27,28,5] ?_;refine H ?_;rw[k1];refine D ?_ ?_<;>intro h
 .have d1:t.x-u.x<=0:=aB h;clear h;have hb:oZ t u=10:=by rw[oZ,if_pos d1]
  have hE:10=E:=by rw[<-hf,hb];rfl
  subst hE;exact co
 have d1:¬t.x-u.x<=0:=aE h;clear h;refine cO 11 [33,34,35,36,37,38,39,40,41,42,32] ?_;refine H ?_;rw[k2];refine H ?_;rw[k3];refine D ?_ ?_<;>intro h
 .have d2:2*(t.x-u.x)<t.w+u.w:=aB h;clear h;have hb:oZ t u=17:=by rw[oZ,if_neg d1,if_pos d2]
  have hE:17=E:=by rw[<-hf,hb];rfl
  subst hE;exact co
 have d2:¬2*(t.x-u.x)<t.w+u.w:=aE h;clear h;have hb:oZ t u=0:=by rw[oZ,if_neg d1,if_neg d2]
 rw[if_pos hb]at hf;clear k1 k2 k3 a1 a2 a3 a4 b1 b2 b3 b4 hb d1 d2 hu;refine H ?_;have hin:=cx t.L.length 2 30;have hml:((t.L.map eN).length:Int)=t.L.length:=ao;have hmh:((t.H0.map eN).length:Int)=t.H0.length:=ao;rw[hml];refine OW O O O hin O O O ?_;by_cases c1:aG t.L.length 2 30=true
 rotate_left
 .rw[j9]at c1;rw[c1];have hE:11=E:=by rw[<-hf,gO,if_neg (by rw[c1];simp)]
  subst hE;exact co
 obtain⟨g1,g2⟩:=kA c1;have hwl:IntKind.i64.wrap ((t.L.length:Int)-1)=(t.L.length:Int)-1:=wrap_i64 J J;rw[c1];refine H ?_;rw[hml,hmh,hwl];refine D ?_ ?_<;>intro h
 .have hE:11=E:=by rw[<-hf,gO,if_neg (fun g=>absurd g.2 (by simpa using h))]
  subst hE;exact co
 have c2:(t.H0.length:Int)=(t.L.length:Int)-1:=by simpa using h
 clear h;rw[gO,if_pos ⟨c1,c2⟩]at hf;refine H ?_;rw[hml];refine ah (ClearE t.L (qB t.L)) (fun k=>[(2,.ptr 2 1 0 0),(59,.sl (t.L.map eN)),(60,I t.L.length),(61,I (k:Nat))]) (fun _=>[(2,1,⟨130,4,[eT t],2⟩)]) (fun k=>t.L.length-k) 0 .zero' ⟨O,O,by rw[<-hml];rfl,O,O,trivial⟩ ?_;intro k s hk;have hkl:=hk.1;refine D ?_ ?_<;>intro h
 .have hlt:k<t.L.length:=by have:=aB h;omega
  clear h;obtain⟨x,hx⟩:=aC hlt;have h1:=cx x 0 100000;have hw:=fg k;refine aQ hx ?_;refine aj h1 ?_;by_cases d1:aG x 0 100000=true
  rotate_left
  .have hv:qB t.L k x=2:=by rw[qB,if_neg d1]
   have hfl:=hk.found hx hv Y;have hE:2=E:=by rw[<-hf,hfl];rfl
   subst hE;rw[j9]at d1;rw[d1];exact co
  rw[d1];refine eW ?_ ?_<;>intro h
  rotate_left
  .have h0:k=0:=by have:=aE h;omega
   clear h;have hv:qB t.L k x=0:=by rw[qB,if_pos d1,if_neg J]
   refine H ?_;exact⟨k+1,hk.succ hx hv,J,O,O,O,congrArg I hw,O,trivial⟩
  .have h0:0<k:=by have:=aB h;omega
   clear h;obtain⟨j,rfl⟩:∃j,k=j+1:=⟨k-1,J⟩;obtain⟨y,hy⟩:=aC (show j<t.L.length by omega);have hgy:t.L.getD j 0=y:=by rw[cY,hy];rfl
   have hwj:IntKind.i64.wrap (((j+1:Nat):Int)-1)=(j:Nat):=by rw[wrap_i64 J J];omega
   refine H ?_;rw[hwj];refine tK O O O O O O O hy O ?_;refine D ?_ ?_<;>intro h
   .have hle:x<=y:=aB h;clear h;have hv:qB t.L (j+1) x=10:=by rw[qB,if_pos d1,if_pos ⟨J,by rw[jt,hgy];exact hle⟩]
    have hfl:=hk.found hx hv Y;have hE:10=E:=by rw[<-hf,hfl];rfl
    subst hE;exact co
   .have hle:¬x<=y:=aE h;clear h;have hv:qB t.L (j+1) x=0:=by rw[qB,if_pos d1,if_neg (fun g=>hle (by have:=g.2;rw[jt,hgy]at this;exact this))]
    refine H ?_;exact⟨j+1+1,hk.succ hx hv,J,O,O,O,congrArg I hw,O,trivial⟩
 .have hge:¬k<t.L.length:=by have:=aE h;omega
  clear h;rw[hk.none hge,if_pos O]at hf;refine H ?_;rw[hmh];refine ah (ClearE t.H0 B9) (fun k=>[(2,.ptr 2 1 0 0),(83,.sl (t.H0.map eN)),(84,I t.H0.length),(85,I (k:Nat))]) (fun _=>[(2,1,⟨130,4,[eT t],2⟩)]) (fun k=>t.H0.length-k) 0 .zero' ⟨O,O,by rw[<-hmh];rfl,O,O,trivial⟩ ?_;intro k s hk;have hkl:=hk.1;refine D ?_ ?_<;>intro h
  .have hlt:k<t.H0.length:=by have:=aB h;omega
   clear h;obtain⟨x,hx⟩:=aC hlt;have h1:=cx x 0 100000;have hw:=fg k;refine aQ hx ?_;refine aj h1 ?_;by_cases d1:aG x 0 100000=true
   .have hv:B9 k x=0:=by rw[B9,if_pos d1]
    rw[d1];refine H ?_;exact⟨k+1,hk.succ hx hv,J,O,O,O,congrArg I hw,O,trivial⟩
   .have hv:B9 k x=2:=by rw[B9,if_neg d1]
    have hfl:=hk.found hx hv Y;have hE:2=E:=by rw[<-hf,hfl]
    subst hE;rw[j9]at d1;rw[d1];exact co
  .have hge:¬k<t.H0.length:=by have:=aE h;omega
   clear h;rw[hk.none hge]at hf;subst hf;exact co
structure LR where
 nm:List UInt8
 m:Int
 x:Int
 z:Int
 f:Int
def eLd (w:LR):List PV:=[.str w.nm,I w.m,I w.x,I w.z,I w.f]
def Nl (w:LR)(least:Int):Bool:=aG w.m least 1000000000&&aG w.x (-1000000) 1000000&&aG w.z (-100000) 100000&&aG w.f 0 1000000000
def sJ (w:LR)(least:Int):Int:=if Nl w least=true then 0 else 2
def jm (w:LR)(before:List LR)(least:Int):Int:=if dI w.nm=true then(if w.nm∈before.map (·.nm) then 5 else sJ w least) else 4
theorem tF (w:LR)(least:Int):aO 191 [.agg (eLd w),I least] (I (sJ w least)):=by
 have h1:=cx w.m least 1000000000;have h2:=cx w.x (-1000000) 1000000;have h3:=cx w.z (-100000) 100000;have h4:=cx w.f 0 1000000000;rw[sJ,Nl];generalize aG w.m least 1000000000=p1,aG w.x (-1000000) 1000000=p2,aG w.z (-100000) 100000=p3,aG w.f 0 1000000000=p4 at *
 obtain⟨nm,m,x,z,f⟩:=w;simp only at *
 cases p1
 .refine ax Proofs.Tryz.func191 ?_;refine aj h1 ?_;exact co
 .cases p2
  .refine ax Proofs.Tryz.func191 ?_;refine aj h1 ?_;refine aj h2 ?_;exact co
  .cases p3
   .refine ax Proofs.Tryz.func191 ?_;refine aj h1 ?_;refine aj h2 ?_;refine aj h3 ?_;exact co
   .cases p4;all_goals
     refine ax Proofs.Tryz.func191 ?_;refine aj h1 ?_;refine aj h2 ?_;refine aj h3 ?_;refine aj h4 ?_;exact co
theorem yY (w:LR)(B:List LR)(hB:B.length<=1000000)(least:Int):aO 105 [.agg (eLd w),.sl (B.map eLd),I least] (I (jm w B least)):=by
 have h0:=pV w.nm;have h1:=dL w.m least 1000000000;have h2:=dL w.x (-1000000) 1000000;have h3:=dL w.z (-100000) 100000;have h4:=dL w.f 0 1000000000;have hmB:(B.map eLd).length=B.length:=aR _;generalize hf:jm w B least=E;rw[jm]at hf;obtain⟨nm,m,x,z,f⟩:=w;simp only at *
 refine ax Proofs.Tryz.func105 ?_;refine aj h0 ?_;cases hn:dI nm with
 |false =>
  rw[hn]at hf;subst hf;exact co
 |true =>
  rw[hn,if_pos O]at hf;refine H ?_;refine ah (fun k:Nat=>k<=B.length/\∀j u,j<k->B[j]? = some u->u.nm≠nm) (fun k=>[(1,.sl (B.map eLd)),(2,I least),(3,.ptr 3 1 0 0),(7,I (k:Nat))]) (fun _=>[(3,1,⟨24,5,[eLd ⟨nm,m,x,z,f⟩],2⟩)]) (fun k=>B.length-k) 0 ⟨aP _,fun j u hj=>absurd hj J⟩ ⟨O,O,O,O,O,trivial⟩ ?_;rintro k s ⟨hk,hall⟩;refine D ?_ ?_<;>intro h
  .have hlt:k<B.length:=by have:=aB h;simp only[hmB]at this;omega
   clear h;obtain⟨u,hu⟩:=aC hlt;have hw:=fg k;refine cO 8 [18,19,20,21,22,23,24,25] ?_;refine aQ hu ?_;refine D ?_ ?_<;>intro h
   .have he:u.nm=nm:=by simpa using h
    clear h;rw[if_pos (bX.2 ⟨u,bm hu,he⟩)]at hf;subst hf;exact co
   .have he:u.nm≠nm:=by simpa using h
    clear h;refine H ?_;refine⟨k+1,⟨hlt,fun j v hj hv=>?_⟩,J,O,O,O,congrArg I hw,O,trivial⟩;rcases bG j k with g|g
    .exact hall j v g hv
    .rw[show j=k by omega,hu]at hv;cases hv;exact he
  .have hge:k=B.length:=by have:=aE h;simp only[hmB]at this;omega
   clear h;subst hge;rw[if_neg (fun g=>by
    obtain⟨u,hu,he⟩:=bX.1 g;obtain⟨j,hj⟩:=iA.1 hu
    exact hall j u (bV hj).1 hj he),sJ,Nl]at hf
   generalize aG m least 1000000000=p1,aG x (-1000000) 1000000=p2,aG z (-100000) 100000=p3,aG f 0 1000000000=p4 at *
   subst hf;refine aj h1 ?_;cases p1
   .exact co
   refine aj h2 ?_;cases p2
   .exact co
   refine aj h3 ?_;cases p3
   .exact co
   refine aj h4 ?_;cases p4;all_goals
    exact co
theorem HY (z k:PV)(row:List PV)(rows:List (List PV)):sI z k (row::rows)=bif I3 k row then row.getD 1 z else sI z k rows:=by
 simp only[sI,r8];cases I3 k row
 .simp only[cond_false];cases r8 k rows<;>rfl
 .rfl
theorem HX (key v:PV)(row:List PV)(rows:List (List PV)):wL key v (row::rows)=bif I3 key row then row.set 1 v::rows else row::wL key v rows:=by
 unfold wL;cases h:I3 key row with
 |true=>simp[r8,h]
 |false =>
  simp only[r8,h,cond_false];cases hm:r8 key rows with
  |none=>simp
  |some i =>
   have hi:=AI hm;simp[bU hi]
theorem IC [Globs]{P:Program}{L:df}{s:St}{T:TypeId}{x y v:Operand}{ty:TypeId}{pos:String}{af:Array Edge}{K:St->Prop}(h:POp P L s ⟨none,.mapUpdate T x y v,ty,pos,af,none⟩ K):Sm P L s ⟨none,.insert T x y v,ty,pos,af,none⟩ K:=by
 intro C a w Q hG hs hN;have h2:Oper.wp P ⟨none,.mapUpdate T x y v,ty,pos,af,none⟩ a w (fun a' w'=>∃s',SimE C s' a' w'/\K s') Q:=POp.wp (o:=⟨none,.mapUpdate T x y v,ty,pos,af,none⟩) hG hs hN h fun s' _ _ h' hk=>⟨s',h',hk⟩;exact h2
def OR (n:I2):List PV:=[.str n,.bool true]
theorem Gm (d:I2):∀m:List I2,sI (.bool false) (.str d) (m.map OR) = .bool (decide (d∈m))
 |[]=>by simp;rfl
 |e::m=>by
  rw[iD,HY,Gm d m];have:I3 (.str d) (OR e)=decide (e=d):=O;rw[this];by_cases h:e=d
  .have h2:d∈e::m:=by rw[h];exact gU
   rw[decide_eq_true h,decide_eq_true h2];rfl
  .rw[decide_eq_false h];have:decide (d∈e::m)=decide (d∈m):=by rw[decide_eq_decide,cG];exact⟨fun g=>g.resolve_left fun e'=>h e'.symm,.inr⟩
   rw[this];rfl
theorem Gk (d:I2):∀m:List I2,d∉m->wL (.str d) (.bool true) (m.map OR)=(m++[d]).map OR
 |[],_=>rfl
 |e::m,h=>by
  have h1:¬e=d:=fun g=>h (by simp[g]);have h2:d∉m:=fun g=>h (iB _ g);rw[iD,HX,Gk d m h2];have:I3 (.str d) (OR e)=decide (e=d):=O;rw[this,decide_eq_false h1];rfl
theorem Ch (m:List I2):pp .str (m.map OR)=true:=by
 induction m with
 |nil=>rfl
 |cons e m ih=>rw[iD];exact ih
structure SHP where
 nm:I2
 len:Int
 st:List ST
 light:LR
 it:List LR
def fB (s:SHP):List PV:=[.str s.nm,I s.len,.sl (s.st.map eT)]++eLd s.light++[.sl (s.it.map eLd)]
def P6 (light:LR)(it:List LR)(i:Nat)(w:LR):Int:=jm w (light::it.take i) 0
def p9 (s:SHP):Int:=if jm s.light [] 1=0 then(if 60<s.it.length then 8 else gQ s.it (P6 s.light s.it)) else jm s.light [] 1
theorem vJ (s:SHP)(h1:s.it.length<=9223372036854775807):aO 128 [.agg (fB s)] (I (p9 s)):=by
 have n0:=pW s.light.nm;have n1:=tF s.light 1;have hmi:(s.it.map eLd).length=s.it.length:=aR _;generalize hf:p9 s=E;rw[p9]at hf;have hl:jm s.light [] 1=if dI s.light.nm=true then sJ s.light 1 else 4:=by rw[jm];simp
 rw[hl]at hf;clear hl;obtain⟨nm,len,st,light,it⟩:=s;simp only at *
 refine ax Proofs.Tryz.func128 ?_;refine aj n0 ?_;cases hn:dI light.nm with
 |false =>
  rw[hn]at hf;subst hf;exact co
 |true =>
  rw[hn,if_pos O]at hf;refine aj n1 ?_;by_cases he:sJ light 1=0
  rotate_left
  .rw[if_neg he]at hf;generalize sJ light 1=e at *
   subst hf;refine D ?_ ?_<;>intro h
   .clear h;exact co
   .simp at h;exact absurd h he
  rw[if_pos he]at hf;rw[he];refine H ?_;rw[hmi];refine aS O ?_ ?_<;>intro h
  .rw[if_pos (by have:=aB h;omega)]at hf;subst hf;exact co
  have h60:¬60<it.length:=by have:=aE h;omega
  clear h;rw[if_neg h60]at hf
  (refine cN 8 ?_;refine aU 4 ?_)
  refine ay (Np O ?_);iterate 3 refine iH O ?_
  refine bH ?_;refine bC O (IC (KC 0 O O O O O O O O O O O O ?_));refine aW ?_;refine H ?_;rw[hmi];refine aT [(1,.ptr 1 1 0 0),(4,.mp 23 1),(29,.sl (it.map eLd)),(30,I it.length),(31,I ((0:Nat):Int))] [(1,1,⟨27,9,[fB ⟨nm,len,st,light,it⟩],2⟩),(23,1,⟨257,0,[OR light.nm],0⟩)] ⟨O,O,O,O,O,O,O,trivial⟩ ?_;intro s0;refine ah (ClearE it (P6 light it)) (fun k=>[(1,.ptr 1 1 0 0),(4,.mp 23 1),(29,.sl (it.map eLd)),(30,I it.length),(31,I (k:Nat))]) (fun k=>[(1,1,⟨27,9,[fB ⟨nm,len,st,light,it⟩],2⟩),(23,1,⟨257,0,((light::it.take k).map (·.nm)).map OR,0⟩)]) (fun k=>it.length-k) 0 .zero' ⟨O,O,O,O,O,O,O,trivial⟩ ?_;intro k s1 hk;have hkl:=hk.1;refine D ?_ ?_<;>intro h
  .have hlt:k<it.length:=by have:=aB h;omega
   clear h;obtain⟨w,hx⟩:=aC hlt;have m0:=pW w.nm;have m1:=tF w 0;have hw:=fg k;have hsn:(light::it.take (k+1)).map (·.nm)=(light::it.take k).map (·.nm)++[w.nm]:=by rw[bS hx];simp
   have hv:P6 light it k w=if dI w.nm=true then(if w.nm∈(light::it.take k).map (·.nm) then 5 else sJ w 0) else 4:=O
   generalize (light::it.take k).map (·.nm)=D0 at *
   have hlook:=Gm w.nm D0;obtain⟨wn,wm,wx,wz,wf⟩:=w;simp only at *
   refine aQ hx ?_;refine aj m0 ?_;cases hn2:dI wn with
   |false =>
    rw[hn2,if_neg Y]at hv;have hfl:=hk.found hx hv Y;rw[hfl]at hf;subst hf;exact co
   |true =>
    rw[hn2,if_pos O]at hv;refine H ?_;refine cf O O (Qm O O O O O aK O O O O O (Ch _)) ?_;rw[hlook];by_cases hd:wn∈D0
    .rw[if_pos hd]at hv;rw[decide_eq_true hd];have hfl:=hk.found hx hv Y;rw[hfl]at hf;subst hf;exact co
    .rw[if_neg hd]at hv;rw[decide_eq_false hd];have hput:=Gk wn D0 hd;refine H ?_;refine ec (KC 0 O O O O O O O O O (Ch _) O O ?_);refine aj m1 ?_;by_cases hz:sJ ⟨wn,wm,wx,wz,wf⟩ 0=0
     rotate_left
     .have hfl:=hk.found hx hv hz;rw[hfl]at hf;generalize sJ ⟨wn,wm,wx,wz,wf⟩ 0=e at *
      subst hf;refine D ?_ ?_<;>intro h
      .clear h;exact co
      .simp at h;exact absurd h hz
     rw[hz]at hv;rw[hz];refine H ?_;refine⟨k+1,hk.succ hx hv,J,O,O,O,O,congrArg I hw,O,?_,trivial⟩;rw[hsn,<-hput];rfl
  .have hge:¬k<it.length:=by have:=aE h;omega
   clear h;rw[hk.none hge]at hf;subst hf;exact co
def CN (st:List ST)(i:Nat):Option ST:=if i=0 then none else st[i-1]?
def DG (st:List ST)(i:Nat)(t:ST):Int:=nl t (CN st i)
def gz (s:SHP):Int:=if dI s.nm=true then(if aG s.len 1 1000000=true/\aG s.st.length 1 40=true then(if gQ s.st (DG s.st)=0 then p9 s else gQ s.st (DG s.st)) else 2) else 4
structure SHP.Len (s:SHP):Prop where
 st:s.st.length<=9223372036854775807
 it:s.it.length<=9223372036854775807
 L:∀t∈s.st,t.L.length<=9223372036854775807/\t.H0.length<=9223372036854775807
theorem Bi {t:ST}{u:Option ST}(h:nl t u=0):mR t=0:=by
 unfold nl at h;split at h
 .assumption
 .assumption
theorem sP {st:List ST}{j:Nat}{u:ST}(h:st[j]? = some u):CN st (j+1)=some u:=by rw[CN,if_neg J,jt,h]
def MA (st:List ST)(i:Nat):PV:=match CN st i with
 |none => .raw (.pointer none)
 |some u => .dref (eT u) 0
theorem sC {n:Nat}(h:aG (n:Int) 1 40=true):n<=40:=by
 simp[aG]at h;omega
theorem pI (s:SHP)(hs:s.Len):aO 66 [.agg (fB s)] (I (gz s)):=by
 have n0:=pW s.nm;have n1:=cx s.len 1 1000000;have n2:=cx s.st.length 1 40;have hml:((s.st.map eT).length:Int)=s.st.length:=ao;have hld:=vJ s hs.it;have hL:=hs.L;generalize hf:gz s=E;rw[gz]at hf;generalize p9 s=le at *
 obtain⟨nm,len,st,light,it⟩:=s;simp only at *
 refine ax Proofs.Tryz.func66 ?_;refine aj n0 ?_;cases hn:dI nm with
 |false =>
  rw[hn,if_neg Y]at hf;subst hf;exact co
 |true =>
  rw[hn,if_pos O]at hf;refine aj n1 ?_;cases h1:aG len 1 1000000 with
  |false =>
   rw[h1,if_neg ao]at hf;subst hf;exact co
  |true =>
   refine H ?_;rw[hml];refine OW O O O n2 O O O ?_;cases h2:aG st.length 1 40 with
   |false =>
    rw[h2,if_neg ao]at hf;subst hf;exact co
   |true =>
    have h40:=sC h2;rw[h1,h2,if_pos ⟨O,O⟩]at hf;refine H ?_;rw[hml];refine ah (ClearE st (DG st)) (fun k=>[(1,.ptr 1 1 0 0),(3,MA st k),(23,.sl (st.map eT)),(24,I st.length),(25,I (k:Nat))]) (fun _=>[(1,1,⟨27,9,[fB ⟨nm,len,st,light,it⟩],2⟩)]) (fun k=>st.length-k) 0 .zero' ⟨O,O,O,O,O,O,trivial⟩ ?_;intro k s1 hk;have hkl:=hk.1;refine D ?_ ?_<;>intro h
    .have hlt:k<st.length:=by have:=aB h;omega
     clear h;obtain⟨t,hx⟩:=aC hlt;obtain⟨l1,l2⟩:=hL t (bm hx);have hw:=fg k;have hnb:PV.dref (eT t) 0=MA st (k+1):=by rw[MA,sP hx]
     have hc:aO 127 [.agg (eT t),MA st k] (I (DG st k t)):=by
      cases k with
      |zero=>exact Bj t l1 l2
      |succ j =>
       obtain⟨u,hu⟩:=aC (show j<st.length by omega);rw[DG,MA,sP hu];exact Bm t u (Bi (hk.2 j u J hu)) l1 l2
     have hfb:(MA st k = .raw (.pointer none))\/∃u,MA st k = .dref (eT u) 0:=by
      rw[MA];cases CN st k with
      |none=>exact .inl rfl
      |some u=>exact .inr ⟨u,rfl⟩
     have hfl:=fun e (h:DG st k t=e) (he:e≠0)=>hk.found hx h he;have hsu:=fun(h:DG st k t=0)=>hk.succ hx h;generalize DG st k t=e,MA st k=bp at *
     rcases hfb with rfl|⟨u,rfl⟩
     .refine aQ hx ?_;refine aj hc ?_;refine D ?_ ?_<;>intro h
      .have he:e≠0:=by simpa using h
       clear h;rw[hfl e O he,if_neg he]at hf;subst hf;exact co
      .have he:e=0:=by simpa using h
       clear h;refine aQ hx ?_;refine H ?_;exact⟨k+1,hsu he,J,O,hnb,O,O,congrArg I hw,O,trivial⟩
     .refine aQ hx ?_;refine aj hc ?_;refine D ?_ ?_<;>intro h
      .have he:e≠0:=by simpa using h
       clear h;rw[hfl e O he,if_neg he]at hf;subst hf;exact co
      .have he:e=0:=by simpa using h
       clear h;refine aQ hx ?_;refine H ?_;exact⟨k+1,hsu he,J,O,hnb,O,O,congrArg I hw,O,trivial⟩
    .have hge:¬k<st.length:=by have:=aE h;omega
     clear h;rw[hk.none hge,if_pos O]at hf;subst hf;refine aj hld ?_;exact co
theorem BQ (d:Int):aO 232 [I d] (I (if aG d 900 1100=true then 0 else 2)):=by
 have h1:=cx d 900 1100;generalize aG d 900 1100=p at *
 cases p;all_goals
  refine ax Proofs.Tryz.func232 ?_;refine aj h1 ?_;exact co
theorem A8 (d:Int):aO 70 [I d] (I (if aG d 900 1100=true then 0 else 2)):=by
 have h1:=dL d 900 1100;generalize aG d 900 1100=p at *
 cases p;all_goals
  refine ax Proofs.Tryz.func70 ?_;refine aj h1 ?_;exact co
def nk (s:SHP)(d:Int):Int:=if gz s=0 then(if aG d 900 1100=true then 0 else 2) else gz s
theorem tz (s:SHP)(hs:s.Len)(d:Int):aO 170 [.agg (fB s),I d] (I (nk s d)):=by
 have h1:=pI s hs;have h2:=BQ d;rw[nk];generalize (if aG d 900 1100=true then(0:Int) else 2)=e2,gz s=e at *
 by_cases he:e=0
 .subst he;rw[if_pos O];refine ax Proofs.Tryz.func170 ?_;refine aj h1 ?_;refine aj h2 ?_;exact co
 .rw[if_neg he];refine ax Proofs.Tryz.func170 ?_;refine aj h1 ?_;refine D ?_ ?_<;>intro h
  .clear h;exact co
  .simp at h;exact absurd h he
theorem CY (s:SHP)(hs:s.Len):aO 41 [.agg (fB s)] (I (gz s)):=by
 have n0:=pV s.nm;have n1:=dL s.len 1 1000000;have n2:=dL s.st.length 1 40;have hml:((s.st.map eT).length:Int)=s.st.length:=ao;have hmi:((s.it.map eLd).length:Int)=s.it.length:=ao;have hL:=hs.L;have hld0:=yY s.light [] Y 1;have hld0:aO 105 [.agg (eLd s.light),.nil,I 1] (I (jm s.light [] 1)):=hld0.weak (.cons (.rfl _) (.cons .nil (.cons (.rfl _) .nil))) (.rfl _);generalize hf:gz s=E;rw[gz]at hf;have hle:p9 s=if jm s.light [] 1=0 then(if 60<s.it.length then 8 else gQ s.it (P6 s.light s.it)) else jm s.light [] 1:=O
 obtain⟨nm,len,st,light,it⟩:=s;simp only at *
 refine ax Proofs.Tryz.func41 ?_;refine aj n0 ?_;cases hn:dI nm with
 |false =>
  rw[hn,if_neg Y]at hf;subst hf;exact co
 |true =>
  rw[hn,if_pos O]at hf;refine aj n1 ?_;cases h1:aG len 1 1000000 with
  |false =>
   rw[h1,if_neg ao]at hf;subst hf;exact co
  |true =>
   refine H ?_;rw[hml];refine OW O O O n2 O O O ?_;cases h2:aG st.length 1 40 with
   |false =>
    rw[h2,if_neg ao]at hf;subst hf;exact co
   |true =>
    have h40:=sC h2;rw[h1,h2,if_pos ⟨O,O⟩]at hf;refine H ?_;refine ah (ClearE st (DG st)) (fun k=>[(1,.ptr 1 1 0 0),(3,I (k:Nat))]) (fun _=>[(1,1,⟨27,9,[fB ⟨nm,len,st,light,it⟩],2⟩)]) (fun k=>st.length-k) 0 .zero' ⟨O,O,O,trivial⟩ ?_;intro k s1 hk;have hkl:=hk.1;refine H ?_;rw[hml];refine aS O ?_ ?_<;>intro h
    .have hlt:k<st.length:=by have:=aB h;omega
     clear h;obtain⟨t,hx⟩:=aC hlt;obtain⟨l1,l2⟩:=hL t (bm hx);have hw:=fg k;have c1:=Lq t;have c2:=Ik t l1 l2;refine aQ hx ?_;refine aj c1 ?_;refine D ?_ ?_<;>intro h
     .have he:mR t≠0:=by simpa using h
      clear h;have hfl:=hk.found hx (show DG st k t=mR t by rw[DG,nl.eq_def,if_neg he]) he;rw[hfl,if_neg he]at hf;subst hf;exact co
     have hpt:mR t=0:=by simpa using h
     clear h c1;refine cO 14 [43,44,45,46,47,48,49,50,51,52,53,54,55,56] ?_;refine H ?_;cases k with
     |zero =>
      have hst:DG st 0 t=gO t:=by rw[DG,nl.eq_def,if_pos hpt];rfl
      refine cO 26 [57,58,59,60,61,62,63,64,65,66,67,68,69,70,71,72,73,74,75,76,77,78,79,80,81,82] ?_;refine aj c2 ?_;refine D ?_ ?_<;>intro h
      .have he:gO t≠0:=by simpa using h
       clear h;rw[hk.found hx hst he,if_neg he]at hf;subst hf;exact co
      .have he:gO t=0:=by simpa using h
       clear h;rw[he]at hst;refine H ?_;exact⟨0+1,hk.succ hx hst,J,O,congrArg I hw,O,trivial⟩
     |succ j =>
      obtain⟨u,hu⟩:=aC (show j<st.length by omega);have hpu:=Bi (hk.2 j u J hu);obtain⟨⟨a1,a2⟩,a3,a4⟩:=wU hpt;obtain⟨⟨b1,b2⟩,b3,b4⟩:=wU hpu;have k1:IntKind.i64.wrap (t.x-u.x)=t.x-u.x:=wrap_i64 J J;have k2:IntKind.i64.wrap (2*(t.x-u.x))=2*(t.x-u.x):=wrap_i64 J J;have k3:IntKind.i64.wrap (t.w+u.w)=t.w+u.w:=wrap_i64 J J;have hwj:IntKind.i64.wrap (((j+1:Nat):Int)-1)=(j:Nat):=by rw[wrap_i64 J J];omega
      have hse:DG st (j+1) t=if oZ t u=0 then gO t else oZ t u:=by rw[DG,nl.eq_def,if_pos hpt,sP hu]
      refine LP O O O ?_ ?_<;>intro h
      rotate_left
      .exfalso;have:=aE h;omega
      clear h;refine H ?_;rw[hwj];refine tK O O O O O O O hu O ?_;refine D ?_ ?_<;>intro h
      .have d1:t.x<=u.x:=aB h;clear h;have hb:oZ t u=10:=by rw[oZ,if_pos J]
       rw[hb,if_neg Y]at hse;rw[hk.found hx hse Y,if_neg Y]at hf;subst hf;exact co
      have d1:¬t.x<=u.x:=aE h;clear h;refine cO 26 [57,58,59,60,61,62,63,64,65,66,67,68,69,70,71,72,73,74,75,76,77,78,79,80,81,82] ?_;refine eW ?_ ?_<;>intro h
      rotate_left
      .exfalso;have:=aE h;omega
      clear h;refine H ?_;rw[hwj];refine tK O O O O O O O hu O ?_;refine H ?_;rw[k1];refine H ?_;rw[k2];refine H ?_;rw[hwj];refine tK O O O O O O O hu O ?_;refine H ?_;rw[k3];refine D ?_ ?_<;>intro h
      .have d2:2*(t.x-u.x)<t.w+u.w:=aB h;clear h;have hb:oZ t u=17:=by rw[oZ,if_neg J,if_pos d2]
       rw[hb,if_neg Y]at hse;rw[hk.found hx hse Y,if_neg Y]at hf;subst hf;exact co
      have d2:¬2*(t.x-u.x)<t.w+u.w:=aE h;clear h;have hb:oZ t u=0:=by rw[oZ,if_neg J,if_neg d2]
      rw[if_pos hb]at hse;have hst:=hse;refine aj c2 ?_;refine D ?_ ?_<;>intro h
      .have he:gO t≠0:=by simpa using h
       clear h;rw[hk.found hx hst he,if_neg he]at hf;subst hf;exact co
      .have he:gO t=0:=by simpa using h
       clear h;rw[he]at hst;refine H ?_;exact⟨j+1+1,hk.succ hx hst,J,O,congrArg I hw,O,trivial⟩
    .have hge:¬k<st.length:=by have:=aE h;omega
     clear h;rw[hk.none hge,if_pos O,hle]at hf;refine aj hld0 ?_;refine H ?_;by_cases hz:jm light [] 1=0
     rotate_left
     .rw[if_neg hz]at hf;generalize jm light [] 1=e at *
      subst hf;refine aS O ?_ ?_<;>intro h
      .clear h;exact co
      .simp at h;exact absurd h hz
     rw[if_pos hz]at hf;rw[hz];refine H ?_;rw[hmi];refine aS O ?_ ?_<;>intro h
     .rw[if_pos (by have:=aB h;omega)]at hf;subst hf;exact co
     have h60:¬60<it.length:=by have:=aE h;omega
     clear h;rw[if_neg h60]at hf;refine H ?_;refine ay (aY 1 O O O O O O O O O O O aH O ?_);refine H ?_;refine aT [(1,.ptr 1 1 0 0),(8,.als 100 ((s1.own 100).1+1) 0 ([eLd light]).length),(9,I ((0:Nat):Int))] [(1,1,⟨27,9,[fB ⟨nm,len,st,light,it⟩],2⟩),(100,(s1.own 100).1+1,⟨24,5,[eLd light],1⟩)] ⟨O,O,O,O,O,trivial⟩ ?_;generalize (s1.own 100).1+1=g;intro s2;refine ah (fun q:Nat × Nat=>ClearE it (P6 light it) q.1) (fun q=>[(1,.ptr 1 1 0 0),(8,.als 100 q.2 0 ((light::it.take q.1).map eLd).length),(9,I (q.1:Nat))]) (fun q=>[(1,1,⟨27,9,[fB ⟨nm,len,st,light,it⟩],2⟩),(100,q.2,⟨24,5,(light::it.take q.1).map eLd,1⟩)]) (fun q=>it.length-q.1) (0,g) .zero' ⟨O,O,O,O,O,trivial⟩ ?_;rintro⟨k,g⟩ s3 hk2;dsimp only at hk2 ⊢;have hkl:=hk2.1;refine H ?_;rw[hmi];refine aS O ?_ ?_<;>intro h
     .have hlt:k<it.length:=by have:=aB h;omega
      clear h;obtain⟨w,hx⟩:=aC hlt;have hw:=fg k;have hBl:(light::it.take k).length<=61:=by rw[eO,bw];omega
      have c1:=yY w (light::it.take k) J 0;have hfl:=hk2.found hx (show P6 light it k w=jm w (light::it.take k) 0 from O);have hsu:=fun h=>hk2.succ hx (show P6 light it k w=0 from h);have hsn:(light::it.take (k+1)).map eLd=(light::it.take k).map eLd++[eLd w]:=by rw[bS hx];simp
      have hsu:=fun(h:jm w (light::it.take k) 0=0)=>hsu h;generalize jm w (light::it.take k) 0=e at *
      generalize light::it.take k=D0 at *
      refine aQ hx ?_;refine aj c1 ?_;refine D ?_ ?_<;>intro h
      .have he:e≠0:=by simpa using h
       clear h;rw[hfl he]at hf;subst hf;exact co
      .have he:e=0:=by simpa using h
       clear h;refine aQ hx ?_;refine H ?_;refine ay (aY 1 O O O O O O O O O O O aH O ?_);refine H ?_;refine ay (bJ 1 O O O O O O O O O O O aH (by intro row hr;first|(simp at hr;subst hr;rfl)|simp at hr) O O aV aV ?_);refine H ?_;refine⟨(k+1,g+1),hsu he,by simp only;omega,O,?_,congrArg I hw,O,?_,trivial⟩
       .dsimp only;rw[hsn];rfl
       .dsimp only;rw[hsn];rfl
     .have hge:¬k<it.length:=by have:=aE h;omega
      clear h;rw[hk2.none hge]at hf;subst hf;exact co
end Go.Pv
namespace Go.Proofs
open Go.Shelf
def Tryz.growL_ren:Go.Shelf.Ren:=⟨fun|4=>287|n=>n,fun|22=>25|25=>24|3=>3|4=>4|9=>9|20=>20|0=>0|n=>n,fun|n=>n⟩
theorem Tryz.growL:Go.Proofs.Lays8.n4 Tryz.prog Tryz.growL_ren:={
 mixed:=by kernel_rfl
 f4:=⟨Tryz.f287.name,by decide,Tryz.func287.trans (congrArg some (by kernel_rfl))⟩
 t0:=Tryz.underlying0
 a0:=Tryz.isAgg0
 z0:=Tryz.sizeOf0
 v0:=Tryz.zeroValue0
 t3:=Tryz.underlying3
 a3:=Tryz.isAgg3
 z3:=Tryz.sizeOf3
 v3:=Tryz.zeroValue3
 t4:=Tryz.underlying4
 a4:=Tryz.isAgg4
 z4:=Tryz.sizeOf4
 v4:=Tryz.zeroValue4
 t9:=Tryz.underlying9
 a9:=Tryz.isAgg9
 z9:=Tryz.sizeOf9
 v9:=Tryz.zeroValue9
 t20:=Tryz.underlying20
 a20:=Tryz.isAgg20
 z20:=Tryz.sizeOf20
 v20:=Tryz.zeroValue20
 t22:=Tryz.underlying25
 a22:=Tryz.isAgg25
 z22:=Tryz.sizeOf25
 v22:=Tryz.zeroValue25 }
end Go.Proofs
set_option maxHeartbeats 2000000
namespace Go.Pv
attribute [local irreducible] PWP POps PQuiet PSem aF aw ai ak
open Go.Proofs Go.RowKit
theorem JT (n:Nat)(h0:1<=n)(hn:n<=1000000):RetO Tryz.prog 287 [.nil,I (n:Nat)] 24 5 []:=by
 refine⟨⟨_,Go.Proofs.Tryz.func287,Y,O⟩,fun w X args hg hX hl hargs=>?_⟩
 match args,hl with
 |[v0,v1],_ =>
  have e0:v0 = .slice none 0 0:=by
   have:=hargs 0 .nil v0 O O;cases this;rfl
  have e1:v1 = .int .i64 n:=by
   have:=hargs 1 (I (n:Nat)) v1 O O;cases this;rfl
  subst e0 e1;obtain⟨i0,d,hi,_,hs,hby,_,hz⟩:=LRow.spec (layOk 24 _ O);obtain⟨z,hz0,hzs,_,_⟩:=hz _ O;have hs:i0.size=5:=hs;have hby:i0.bytes=48:=hby;have hzs:z.cells.size=5:=hzs;refine(Any8.slices_Grow_grow Tryz.growL i0 z hi hz0 J none 0 0 n [] w (a_) J (by rw[hby];omega) J ao (fun _=>rfl) (fun a h=>by cases h)).mono ?_;rintro e w' ⟨rfl,rfl⟩;have hge:=grownCap_ge w (0+n) 0 24;have hle:=grownCap_le_maxLen w (0+n) 0 24 (by unfold maxLen;omega);refine⟨_,O,?_,.inr ⟨w.heap.size,grownCap w (0+n) 0 24,_,a_,O,ct _ _,aP _,hle,?_,Y,aP _,fun row hr=>(by cases hr),fun i j row c hr=>(by simp at hr)⟩⟩
  .have hb:Below w.heap.size w w.drew:=Below.drew (Below.refl _ _);exact hb.alloc (a_) _
  .rw[Ar,Ar,size_zeroCells,size_zeroCells,hzs];show 0+(0+n-0)*5+(grownCap w (0+n) 0 24-(0+n))*5=grownCap w (0+n) 0 24*5;omega
def Ry:Nat->Nat
 |0=>0
 |_+1=>1
theorem DP (A B:List LR)(hA:1<=A.length)(hl:A.length+B.length<=1000000):aO 272 [.sl ([A,B].map fun l=>[.sl (l.map eLd)])] (.sl ((A++B).map eLd)):=by
 have hg:=JT (A.length+B.length) J hl;generalize hL:[A,B]=LL;have hLl:LL.length=2:=by rw[<-hL];rfl
 have hml:((LL.map fun l=>[PV.sl (l.map eLd)]).length:Int)=LL.length:=ao;let sm (k:Nat):Nat:=((LL.take k).map List.length).sum;have s0:sm 0=0:=by simp[sm]
 have s2:sm LL.length=A.length+B.length:=by simp only[sm];rw[<-hL];simp
 have hsm:∀k,sm k<=1000000:=fun k=>by
  simp only[sm];rw[<-hL]
  match k with
  |0=>simp
  |1=>simp;omega
  |k+2=>simp;omega
 have hsn:∀k x,LL[k]? = some x->sm (k+1)=sm k+x.length:=fun k x hx=>by
  simp only[sm];rw[bS hx,bc,List.sum_append];simp
 have hrn:∀k x,LL[k]? = some x->((LL.take (k+1)).flatten).map eLd=((LL.take k).flatten).map eLd++x.map eLd:=fun k x hx=>by
  rw[bS hx,List.flatten_append,bc];simp
 have hrl:∀k,(((LL.take k).flatten).map eLd).length=sm k:=fun k=>by simp only[sm];rw[aR,List.length_flatten]
 have hend:LL.flatten=A++B:=by rw[<-hL];simp
 clear_value sm
 refine ax Proofs.Tryz.func272 ?_;refine H ?_;rw[hml];refine ah (fun k:Nat=>k<=LL.length) (fun k=>[(0,.sl (LL.map fun l=>[.sl (l.map eLd)])),(3,I (sm k:Nat)),(9,.sl (LL.map fun l=>[.sl (l.map eLd)])),(10,I LL.length),(11,I (k:Nat))]) (fun _=>[]) (fun k=>LL.length-k) 0 (aP _) ⟨O,by rw[s0];rfl,O,O,O,trivial⟩ ?_;intro k s hk;refine D ?_ ?_<;>intro h
 .have hlt:k<LL.length:=by have:=aB h;omega
  clear h;obtain⟨x,hx⟩:=aC hlt;have hmx:((x.map eLd).length:Int)=x.length:=ao;have hs1:=hsn k x hx;have hs2:=hsm (k+1);have hw:=fg k;have hws:IntKind.i64.wrap (((sm k:Nat):Int)+(x.length:Int))=((sm (k+1):Nat):Int):=by rw[wrap_i64 J J];omega
  refine aQ hx ?_;refine H ?_;rw[hmx,hws];refine H ?_;exact⟨k+1,hlt,J,O,O,O,O,congrArg I hw,trivial⟩
 .have hge:k=LL.length:=by have:=aE h;omega
  clear h;subst hge;rw[s2]
  (refine cN 9 ?_;refine aU 1 ?_)
  refine iH O ?_;refine bH ?_;refine bC O (xq O hg O aH O ?_);refine aW ?_;refine H ?_;rw[hml];refine aT [(6,.als 24 ((s.own 24).1+1) 0 0),(25,.sl (LL.map fun l=>[.sl (l.map eLd)])),(26,I LL.length),(27,I ((0:Nat):Int))] [(24,(s.own 24).1+1,⟨24,5,[],0⟩)] ⟨O,O,O,O,O,trivial⟩ ?_;generalize (s.own 24).1+1=g;intro s0;refine ah (fun k:Nat=>k<=LL.length) (fun k=>[(6,.als 24 (g+k) 0 (((LL.take k).flatten).map eLd).length),(25,.sl (LL.map fun l=>[.sl (l.map eLd)])),(26,I LL.length),(27,I (k:Nat))]) (fun k=>[(24,g+k,⟨24,5,((LL.take k).flatten).map eLd,Ry k⟩)]) (fun k=>LL.length-k) 0 (aP _) ⟨O,O,O,O,O,trivial⟩ ?_;intro k s1 hk;refine D ?_ ?_<;>intro h
  .have hlt:k<LL.length:=by have:=aB h;omega
   clear h;obtain⟨x,hx⟩:=aC hlt;have hs1:=hsn k x hx;have hs2:=hsm (k+1);have hr1:=hrn k x hx;have hr2:=hrl k;have hmx:(x.map eLd).length=x.length:=ao;have hw:=fg k;generalize ((LL.take k).flatten).map eLd=R at *
   refine aQ hx ?_;refine H ?_;refine ay (bJ 1 O O O O O O O O O O O aH (by intro row hr;obtain⟨_,_,rfl⟩:=bX.1 hr;rfl) (by cases k<;>rfl) O (by rw[hr2,hmx];show _*48<=_;omega) (by rw[hr2,hmx];omega) ?_);refine H ?_;refine⟨k+1,hlt,J,?_,O,O,congrArg I hw,?_,trivial⟩
   .rw[hr1];rfl
   .rw[hr1];rfl
  .have hge:k=LL.length:=by have:=aE h;omega
   clear h;subst hge;rw[bb,hend,show Ry LL.length=1 by rw[hLl];rfl]
   (repeat ((fail_if_success (with_reducible refine da ?_));refine qy O ?_))
   refine am (Ghost.takeD (k:=24) (t:=2) O O O) ?_;exact bW
theorem HR (s:SHP)(hl:s.it.length<=100000):aO 242 [.agg (fB s)] (.sl ((s.light::s.it).map eLd)):=by
 have hc:=DP [s.light] s.it ao aV;rw[show [s.light]++s.it=s.light::s.it from O]at hc;obtain⟨nm,len,st,light,it⟩:=s;simp only at *
 refine ax Proofs.Tryz.func242 ?_
 (refine cN 1 ?_;refine aU 5 ?_)
 iterate 2 refine iH O ?_
 refine ay (aY 1 O O O O O O O O O O O aH O ?_);iterate 2 refine iH O ?_
 refine bH ?_;refine bC O (gA (Ghost.takeD (k:=5) (t:=5) O O O) (aY 1 O O O O O O O O O O O aH O ?_));refine bC O (gA (Ghost.takeD (k:=8) (t:=8) O O O) ?_)
 (refine pe (gp O (hc) O ?_ O) ?_;.repeat' constructor)
 refine aW ?_;exact bW
open Go.Proofs
theorem db (z:Int)(h:i64 z):aO 167 [I z] (.agg (eR (ofQ (z:Rat)))):=by
 have ho:=AO z h.1 h.2;have hw:=oY (du z) (by have:=nO (z:=z) (by obtain⟨h1,h2⟩:=h;omega);omega);rw[di]at hw;generalize ofQ (z:Rat)=X,du z=Z at *
 refine ax Proofs.Tryz.func167 ?_;refine G ho ?_;refine G hw ?_;exact bW
theorem nj (x y:RR){p q:Rat}{n m:Nat}[hx:Vq x p n][hy:Vq y q m](hn:n<=20000000)(hm:m<=20000000)(h0:q≠0):aO 196 [.agg (eR x),.agg (eR y)] (.agg (eR (ofQ (p/q)))):=by
 have hq:=CQ x y hn hm;rw[if_neg h0]at hq;generalize ofQ (p/q)=X at *
 refine ax Proofs.Tryz.func196 ?_;refine G hq ?_;exact bW
structure OkW (w:LR):Prop where
 m:0<=w.m/\w.m<=1000000000
 x : -1000000<=w.x/\w.x<=1000000
 z : -100000<=w.z/\w.z<=100000
 f:0<=w.f/\w.f<=1000000000
theorem KA {w:LR}{l:Int}(hl:0<=l)(h:sJ w l=0):OkW w/\l<=w.m:=by
 rw[sJ]at h;split at h
 .rename_i h2;simp[Nl,aG]at h2;exact⟨⟨J,J,J,J⟩,J⟩
 .omega
def sM (l:List LR):Int:=(l.map (·.m)).sum
def sF (l:List LR):Int:=(l.map (·.f)).sum
def sX (l:List LR):Int:=(l.map fun w=>w.m*w.x).sum
def sZ (l:List LR):Int:=(l.map fun w=>w.m*w.z).sum
theorem Kv {m x M X:Int}(hm:0<=m/\m<=M)(hx : -X<=x/\x<=X)(h0:0<=X) : -(M*X)<=m*x/\m*x<=M*X:=by
 have h1:m*x<=m*X:=zY hx.2 hm.1;have h2:m*X<=M*X:=FW hm.2 h0;have h3:m*(-X)<=m*x:=zY hx.1 hm.1;rw[Int.mul_neg]at h3;omega
theorem OkW.mx {w:LR}(h:OkW w):(-1000000000000000<=w.m*w.x/\w.m*w.x<=1000000000000000) /\ -100000000000000<=w.m*w.z/\w.m*w.z<=100000000000000 :=
 ⟨Kv h.m h.x Y,Kv h.m h.z Y⟩
structure SumOk (l:List LR):Prop where
 m:0<=sM l/\sM l<=l.length*1000000000
 f:0<=sF l/\sF l<=l.length*1000000000
 x : -(l.length*1000000000000000:Int)<=sX l/\sX l<=l.length*1000000000000000
 z : -(l.length*100000000000000:Int)<=sZ l/\sZ l<=l.length*100000000000000
theorem jc:∀ {l:List LR},(∀w∈l,OkW w)->SumOk l
 |[],_=>⟨by simp[sM],by simp[sF],by simp[sX],by simp[sZ]⟩
 |w::l,h=>by
  have ih:=jc fun u hu=>h u (iB _ hu);have hw:=h w gU;obtain⟨⟨a1,a2⟩,a3,a4⟩:=hw.mx;obtain⟨⟨b1,b2⟩,_,_,b3,b4⟩:=hw;obtain⟨⟨c1,c2⟩,⟨c3,c4⟩,⟨c5,c6⟩,c7,c8⟩:=ih;have e1:sM (w::l)=w.m+sM l:=O;have e2:sF (w::l)=w.f+sF l:=O;have e3:sX (w::l)=w.m*w.x+sX l:=O;have e4:sZ (w::l)=w.m*w.z+sZ l:=O;have e5:((w::l).length:Int)=l.length+1:=ao;refine⟨?_,?_,?_,?_⟩
  .rw[e1,e5];omega
  .rw[e2,e5];omega
  .rw[e3,e5];omega
  .rw[e4,e5];omega
theorem Dl {l:List LR}{k:Nat}{w:LR}(h:l[k]? = some w):sM (l.take (k+1))=sM (l.take k)+w.m/\sF (l.take (k+1))=sF (l.take k)+w.f/\sX (l.take (k+1))=sX (l.take k)+w.m*w.x/\sZ (l.take (k+1))=sZ (l.take k)+w.m*w.z:=by
 rw[bS h];simp[sM,sF,sX,sZ]
def S9 (m:Int)(x z:RR)(f:Int):List PV:=[I m]++eR x++eR z++[I f]
def yb (l:List LR):List PV:=S9 (sM l) (ofQ ((sX l:Rat)/(sM l:Rat))) (ofQ ((sZ l:Rat)/(sM l:Rat))) (sF l)
theorem xz (s:SHP)(L:List LR)(hLe:L=s.light::s.it)(hL:∀w∈L,OkW w)(h1:1<=sM L)(hl:L.length<=61):aO 194 [.agg (fB s)] (.agg (yb L)):=by
 have hlo:=HR s (by
  have:L.length=s.it.length+1:=by rw[hLe];rfl
  omega)
 rw[<-hLe]at hlo;have w0:=db 0 ⟨Y,Y⟩;have hml:((L.map eLd).length:Int)=L.length:=ao;have hto:=jc hL;have hne:(sM L:Rat)≠0:=by
  have:sM L≠0:=J
  exact_mod_cast this
 obtain⟨⟨t1,t2⟩,⟨t3,t4⟩,⟨t5,t6⟩,t7,t8⟩:=hto;have zM:Zb (sM L):=aJ J J;have zX:Zb (sX L):=aJ J J;have zZ:Zb (sZ L):=aJ J J;have wM:=db (sM L) ⟨J,J⟩;have dX:=nj (ofQ (sX L:Rat)) (ofQ (sM L:Rat)) (hx:=Vq.ofQ (h:=HQ.int)) (hy:=Vq.ofQ (h:=HQ.int)) Y Y hne;have dZ:=nj (ofQ (sZ L:Rat)) (ofQ (sM L:Rat)) (hx:=Vq.ofQ (h:=HQ.int)) (hy:=Vq.ofQ (h:=HQ.int)) Y Y hne;have sk:=fun k=>jc (l:=L.take k) fun w hw=>hL w (d9 hw);refine ax Proofs.Tryz.func194 ?_;refine G w0 ?_;refine G w0 ?_;refine G hlo ?_;refine H ?_;rw[hml];refine ah (fun k:Nat=>k<=L.length) (fun k=>[(2,.ptr 2 1 0 0),(3,.ptr 3 1 0 0),(4,.ptr 4 1 0 0),(5,.ptr 5 1 0 0),(11,.sl (L.map eLd)),(12,I L.length),(13,I (k:Nat))]) (fun k=>[(2,1,⟨61,10,[[I 0]++zN++zN++[I 0]],2⟩),(3,1,⟨61,10,[[I (sM (L.take k))]++zN++zN++[I (sF (L.take k))]],2⟩),(4,1,⟨42,4,[eR (ofQ (sX (L.take k):Rat))],2⟩),(5,1,⟨42,4,[eR (ofQ (sZ (L.take k):Rat))],2⟩)]) (fun k=>L.length-k) 0 (aP _) ⟨O,O,O,O,O,O,O,O,O,O,O,trivial⟩ ?_;intro k s1 hk;refine D ?_ ?_<;>intro h
 .have hlt:k<L.length:=by have:=aB h;omega
  clear h;obtain⟨w,hx⟩:=aC hlt;have ow:=hL w (bm hx);obtain⟨⟨a1,a2⟩,a3,a4⟩:=ow.mx;have hsk:=sk k;have hsk2:=sk (k+1);have hl1:(L.take k).length<=100:=by rw[bw];omega
  have hl2:(L.take (k+1)).length<=100:=by rw[bw];omega
  obtain⟨⟨c1,c2⟩,⟨c3,c4⟩,⟨c5,c6⟩,c7,c8⟩:=hsk;obtain⟨⟨d1,d2⟩,⟨d3,d4⟩,⟨d5,d6⟩,d7,d8⟩:=hsk2;obtain⟨e1,e2,e3,e4⟩:=Dl hx;have hw:=fg k;have v1:IntKind.i64.wrap (sM (L.take k)+w.m)=sM (L.take (k+1)):=by rw[wrap_i64 J J];omega
  have v2:IntKind.i64.wrap (sF (L.take k)+w.f)=sF (L.take (k+1)):=by rw[wrap_i64 J J];omega
  have v3:IntKind.i64.wrap (w.m*w.x)=w.m*w.x:=wrap_i64 J J;have v4:IntKind.i64.wrap (w.m*w.z)=w.m*w.z:=wrap_i64 J J;have z1:Zb (sX (L.take k)):=aJ J J;have z2:Zb (sZ (L.take k)):=aJ J J;have z3:Zb (w.m*w.x):=aJ J J;have z4:Zb (w.m*w.z):=aJ J J;have u1:=db (w.m*w.x) ⟨J,J⟩;have u2:=db (w.m*w.z) ⟨J,J⟩;have g1:=eY (ofQ (sX (L.take k):Rat)) (ofQ ((w.m*w.x:Int):Rat)) (hx:=Vq.ofQ (h:=HQ.int)) (hy:=Vq.ofQ (h:=HQ.int)) Y Y;have g2:=eY (ofQ (sZ (L.take k):Rat)) (ofQ ((w.m*w.z:Int):Rat)) (hx:=Vq.ofQ (h:=HQ.int)) (hy:=Vq.ofQ (h:=HQ.int)) Y Y;rw[<-ry,<-e3]at g1;rw[<-ry,<-e4]at g2;clear c1 c2 c3 c4 c5 c6 c7 c8 d1 d2 d3 d4 d5 d6 d7 d8 e1 e2 e3 e4 z1 z2 z3 z4 a1 a2 a3 a4 hl1 hl2;refine aQ hx ?_;refine H ?_;rw[v1];refine H ?_;rw[v2];refine cO 8 [29,30,31,32,33,34,35,36] ?_;refine H ?_;rw[v3];refine sT O O O u1 O O ?_;refine G g1 ?_;refine cO 8 [37,38,39,40,41,42,43,44] ?_;refine H ?_;rw[v4];refine sT O O O u2 O O ?_;refine G g2 ?_;refine H ?_;exact⟨k+1,hlt,J,O,O,O,O,O,O,congrArg I hw,O,O,O,O,trivial⟩
 .have hge:k=L.length:=by have:=aE h;omega
  clear h;subst hge;rw[bb];clear sk hne zM zX zZ;rw[yb];generalize ofQ ((sX L:Rat)/(sM L:Rat))=QX,ofQ ((sZ L:Rat)/(sM L:Rat))=QZ at *
  refine H ?_;refine cd [] [3] 11 [11,12,13] aK aK ?_;refine G wM ?_;refine G dX ?_;refine G wM ?_;refine G dZ ?_;exact bW
theorem q9 {α:Type}{l:List α}{f:Nat->α->Int}(h:gQ l f=0){i:Nat}{x:α}(hx:l[i]? = some x):f i x=0:=kr h i x hx
structure ShipOk (s:SHP):Prop where
 len:s.st.length<=40
 st:∀i t,s.st[i]? = some t->DG s.st i t=0
 ld:∀w∈s.light::s.it,OkW w
 m:1<=sM (s.light::s.it)
 n:s.it.length<=60
theorem Cm {w:LR}{B:List LR}{l:Int}(h:jm w B l=0):sJ w l=0:=by
 rw[jm]at h;split at h
 .split at h
  .omega
  .exact h
 .omega
theorem mV {s:SHP}(h:gz s=0):ShipOk s:=by
 rw[gz]at h;split at h
 rotate_left
 .omega
 split at h
 rotate_left
 .omega
 rename_i hin;split at h
 rotate_left
 .contradiction
 rename_i hst;rw[p9]at h;split at h
 rotate_left
 .contradiction
 rename_i hl;split at h
 .omega
 rename_i h60;obtain⟨o1,m1⟩:=KA Y (Cm hl);have o2:∀w∈s.it,OkW w:=fun w hw=>by
  obtain⟨i,hi⟩:=iA.1 hw;exact(KA (oM 0) (Cm (q9 h hi))).1
 have hall:∀w∈s.light::s.it,OkW w:=fun w hw=>by
  rcases cG.1 hw with rfl|hw
  .exact o1
  .exact o2 w hw
 refine⟨sC hin.2,fun i t ht=>q9 hst ht,hall,?_,J⟩;have:=(jc o2).m;have e:sM (s.light::s.it)=s.light.m+sM s.it:=O;omega
theorem HP (s:SHP)(hs:s.Len)(h:gz s=0):aO 173 [.agg (fB s)] (.tup [.agg (yb (s.light::s.it)),I 0]):=by
 have h1:=pI s hs;have ok:=mV h;have h2:=xz s _ O ok.ld ok.m (by have:=ok.n;simp;omega);rw[h]at h1;rw[yb]at h2 ⊢;generalize ofQ ((sX (s.light::s.it):Rat)/(sM (s.light::s.it):Rat))=QX,ofQ ((sZ (s.light::s.it):Rat)/(sM (s.light::s.it):Rat))=QZ at *
 clear ok;refine ax Proofs.Tryz.func173 ?_;refine aj h1 ?_;refine G h2 ?_;exact bW
theorem K8 (s:SHP)(hl:s.it.length<=100000):aO 83 [.agg (fB s)] (.sl ((s.light::s.it).map eLd)):=by
 obtain⟨nm,len,st,light,it⟩:=s;simp only at *
 refine ax Proofs.Tryz.func83 ?_;refine H ?_;refine ay (aY 1 O O O O O O O O O O O aH O ?_);refine H ?_;refine ay (bJ 1 O O O O O O O O O O O aH (by intro row hr;obtain⟨_,_,rfl⟩:=bX.1 hr;rfl) O O aV aV ?_)
 (repeat ((fail_if_success (with_reducible refine da ?_));refine qy O ?_))
 refine am (Ghost.takeD (k:=5) (t:=2) O O O) ?_;exact bW
theorem tR (s:SHP)(L:List LR)(hLe:L=s.light::s.it)(hL:∀w∈L,OkW w)(h1:1<=sM L)(hl:L.length<=61):aO 26 [.agg (fB s)] (.agg (yb L)):=by
 have hlo:=K8 s (by
  have:L.length=s.it.length+1:=by rw[hLe];rfl
  omega)
 rw[<-hLe]at hlo;have w0:=b_ 0 ⟨Y,Y⟩;have hml:((L.map eLd).length:Int)=L.length:=ao;have hto:=jc hL;have hne:(sM L:Rat)≠0:=by
  have:sM L≠0:=J
  exact_mod_cast this
 obtain⟨⟨t1,t2⟩,⟨t3,t4⟩,⟨t5,t6⟩,t7,t8⟩:=hto;have zM:Zb (sM L):=aJ J J;have zX:Zb (sX L):=aJ J J;have zZ:Zb (sZ L):=aJ J J;have wM:=b_ (sM L) ⟨J,J⟩;have dX:=iO (ofQ (sX L:Rat)) (ofQ (sM L:Rat)) (hx:=Vq.ofQ (h:=HQ.int)) (hy:=Vq.ofQ (h:=HQ.int)) Y Y hne;have dZ:=iO (ofQ (sZ L:Rat)) (ofQ (sM L:Rat)) (hx:=Vq.ofQ (h:=HQ.int)) (hy:=Vq.ofQ (h:=HQ.int)) Y Y hne;have sk:=fun k=>jc (l:=L.take k) fun w hw=>hL w (d9 hw);refine ax Proofs.Tryz.func26 ?_;refine G hlo ?_;refine G w0 ?_;refine G w0 ?_;refine H ?_;refine ah (fun k:Nat=>k<=L.length) (fun k=>[(2,.ptr 2 1 0 0),(3,.sl (L.map eLd)),(4,.ptr 4 1 0 0),(5,.ptr 5 1 0 0),(6,.ptr 6 1 0 0),(7,I (k:Nat))]) (fun k=>[(2,1,⟨61,10,[[I 0]++zN++zN++[I 0]],2⟩),(4,1,⟨61,10,[[I (sM (L.take k))]++zN++zN++[I (sF (L.take k))]],2⟩),(5,1,⟨42,4,[eR (ofQ (sX (L.take k):Rat))],2⟩),(6,1,⟨42,4,[eR (ofQ (sZ (L.take k):Rat))],2⟩)]) (fun k=>L.length-k) 0 (aP _) ⟨O,O,O,O,O,O,O,O,O,O,trivial⟩ ?_;intro k s1 hk;refine H ?_;rw[hml];refine aS O ?_ ?_<;>intro h
 .have hlt:k<L.length:=by have:=aB h;omega
  clear h;obtain⟨w,hx⟩:=aC hlt;have ow:=hL w (bm hx);obtain⟨⟨a1,a2⟩,a3,a4⟩:=ow.mx;have hsk:=sk k;have hsk2:=sk (k+1);have hl1:(L.take k).length<=100:=by rw[bw];omega
  have hl2:(L.take (k+1)).length<=100:=by rw[bw];omega
  obtain⟨⟨c1,c2⟩,⟨c3,c4⟩,⟨c5,c6⟩,c7,c8⟩:=hsk;obtain⟨⟨d1,d2⟩,⟨d3,d4⟩,⟨d5,d6⟩,d7,d8⟩:=hsk2;obtain⟨e1,e2,e3,e4⟩:=Dl hx;have hw:=fg k;have v1:IntKind.i64.wrap (sM (L.take k)+w.m)=sM (L.take (k+1)):=by rw[wrap_i64 J J];omega
  have v2:IntKind.i64.wrap (sF (L.take k)+w.f)=sF (L.take (k+1)):=by rw[wrap_i64 J J];omega
  have v3:IntKind.i64.wrap (w.m*w.x)=w.m*w.x:=wrap_i64 J J;have v4:IntKind.i64.wrap (w.m*w.z)=w.m*w.z:=wrap_i64 J J;have z1:Zb (sX (L.take k)):=aJ J J;have z2:Zb (sZ (L.take k)):=aJ J J;have z3:Zb (w.m*w.x):=aJ J J;have z4:Zb (w.m*w.z):=aJ J J;have u1:=b_ (w.m*w.x) ⟨J,J⟩;have u2:=b_ (w.m*w.z) ⟨J,J⟩;have g1:=cJ (ofQ (sX (L.take k):Rat)) (ofQ ((w.m*w.x:Int):Rat)) (hx:=Vq.ofQ (h:=HQ.int)) (hy:=Vq.ofQ (h:=HQ.int)) Y Y;have g2:=cJ (ofQ (sZ (L.take k):Rat)) (ofQ ((w.m*w.z:Int):Rat)) (hx:=Vq.ofQ (h:=HQ.int)) (hy:=Vq.ofQ (h:=HQ.int)) Y Y;rw[<-ry,<-e3]at g1;rw[<-ry,<-e4]at g2;clear c1 c2 c3 c4 c5 c6 c7 c8 d1 d2 d3 d4 d5 d6 d7 d8 e1 e2 e3 e4 z1 z2 z3 z4 a1 a2 a3 a4 hl1 hl2;refine cO 9 [19,20,21,22,23,24,25,26,27] ?_;refine aQ hx ?_;refine H ?_;rw[v1];refine cO 9 [28,29,30,31,32,33,34,35,36] ?_;refine aQ hx ?_;refine H ?_;rw[v2];refine cO 14 [37,38,39,40,41,42,43,44,45,46,47,48,49,50] ?_;refine aQ hx ?_;refine aQ hx ?_;refine H ?_;rw[v3];refine sT O O O u1 O O ?_;refine G g1 ?_;refine cO 14 [51,52,53,54,55,56,57,58,59,60,61,62,63,64] ?_;refine aQ hx ?_;refine aQ hx ?_;refine H ?_;rw[v4];refine sT O O O u2 O O ?_;refine G g2 ?_;refine H ?_;exact⟨k+1,hlt,J,O,O,O,O,O,congrArg I hw,O,O,O,O,trivial⟩
 .have hge:k=L.length:=by have:=aE h;omega
  clear h;subst hge;rw[bb];clear sk hne zM zX zZ;rw[yb];generalize ofQ ((sX L:Rat)/(sM L:Rat))=QX,ofQ ((sZ L:Rat)/(sM L:Rat))=QZ at *
  refine H ?_;refine cd [] [4] 11 [11,12,13] aK aK ?_;refine G wM ?_;refine G dX ?_;refine G wM ?_;refine G dZ ?_;exact bW
theorem GM (a b:Nat):Int.tdiv (a:Int) (b:Int)=((a/b:Nat):Int):=by rw[Int.ofNat_tdiv]
theorem RN (a b:Nat)(hb:0<b):ofQ ((a:Rat)/(b:Rat))=⟨du ((a/Nat.gcd a b:Nat):Int),du ((b/Nat.gcd a b:Nat):Int)⟩:=by
 obtain⟨e1,e2,e3⟩:=uY (a:Int) (b:Int) J;have c1:((a:Int):Rat)=(a:Rat):=O;have c2:((b:Int):Rat)=(b:Rat):=O;rw[c1,c2]at e1 e2 e3;have hn:¬((a:Rat)/(b:Rat)).num<0:=fun h=>by
  rcases e3.1 h with h|h<;>omega
 have h1:((a:Rat)/(b:Rat)).num=((a/Nat.gcd a b:Nat):Int):=by
  have:((a:Rat)/(b:Rat)).num.natAbs=a/Nat.gcd a b:=e1;omega
 have h2:((a:Rat)/(b:Rat)).den=b/Nat.gcd a b:=e2;have h3:∀n:Nat,du (n:Int)=⟨false,aM n⟩:=fun n=>by
  rw[du,decide_eq_false J];rfl
 rw[ofQ,h1,h2,h3 (b/_)]
theorem MB (d:Nat)(h1:1<=d)(h2:d<=1000000000):aO 33 [I (d:Nat),I 1000000000] (.agg (eR (ofQ ((d:Rat)/1000000000)))):=by
 have hq:=RN d 1000000000 Y;have e0:((1000000000:Nat):Rat)=1000000000:=by rfl
 rw[e0]at hq;have hgp:0<Nat.gcd d 1000000000:=Nat.gcd_pos_of_pos_left _ J;have hb1:=ju d (Nat.gcd d 1000000000);have hb2:=ju 1000000000 (Nat.gcd d 1000000000);rw[hq];generalize hA:d/Nat.gcd d 1000000000=A at *
 generalize hB:1000000000/Nat.gcd d 1000000000=B at *
 have k1:=sa (A:Int) ⟨J,J⟩;have k2:=sa (B:Int) ⟨J,J⟩;generalize hX:du (A:Int)=X at *
 generalize hY:du (B:Int)=Y0 at *
 generalize hG:Nat.gcd d 1000000000=G0 at *
 refine ax Proofs.Tryz.func33 ?_;refine H ?_;refine ah (fun q:Nat × Nat=>q.1<=1000000000/\q.2<=1000000000/\Nat.gcd q.1 q.2=G0) (fun q=>[(0,I (d:Nat)),(1,I 1000000000),(4,.ptr 4 1 0 0),(5,I (q.1:Nat)),(6,I (q.2:Nat))]) (fun _=>[(4,1,⟨42,4,[zN],2⟩)]) (fun q=>q.2) (d,1000000000) ⟨h2,a_,hG⟩ ⟨O,O,O,O,O,O,trivial⟩ ?_;rintro⟨x,y⟩ s ⟨hx,hy,hg⟩;simp only at hx hy hg;dsimp only;refine D ?_ ?_<;>intro h
 .have hy0:0<y:=by have:=aB h;omega
  clear h;have hm:=fL x hy0;refine H ?_;refine bj [] [] aK ?_;refine H ?_;refine cf O O (QOp.v O (show ¬((y:Nat):Int)=0 by omega)) ?_;rw[n6];refine H ?_;exact⟨(y,x%y),⟨hy,by simp only;omega,by simp only;rw[iW,<-rD,iW];exact hg⟩,hm,O,O,O,O,O,O,trivial⟩
 .have hy0:y=0:=by have:=aE h;omega
  subst hy0;clear h;rw[rp]at hg;subst hg;have q1:IntKind.i64.wrap (Int.tdiv (d:Int) (x:Int))=(A:Int):=by rw[GM,hA,wrap_i64 J J]
  have q2:IntKind.i64.wrap (Int.tdiv 1000000000 (x:Int))=(B:Int):=by
   have:=GM 1000000000 x;rw[show((1000000000:Nat):Int)=1000000000 from O]at this;rw[this,hB,wrap_i64 J J]
  refine cO 9 [25,26,27,28,29,30,31,32,33] ?_;refine H ?_;refine cf O O (QOp.v O (show ¬((x:Nat):Int)=0 by omega)) ?_;rw[q1];refine G k1 ?_;refine H ?_;refine cf O O (QOp.v O (show ¬((x:Nat):Int)=0 by omega)) ?_;rw[q2];refine G k2 ?_;exact bW
theorem Rl (d:Nat)(h2:d<=1000000000):HQ ((d:Rat)/1000000000) 8:=by
 have zd:Zb (d:Int):=aJ J J;have zb:Zb (1000000000:Int):=aJ Y Y;exact @HQ.div _ _ 4 4 (HQ.int (z:=(d:Int))) (HQ.int (z:=1000000000))
theorem yZ (x:RR){p:Rat}{n:Nat}[hx:Vq x p n](hn:n<=1000000)(d:Nat)(h1:1<=d)(h2:d<=1000000000):aO 178 [.agg (eR x),I (d:Nat)] (.agg (eR (ofQ (p*((d:Rat)/1000000000))))):=by
 have c1:=MB d h1 h2;have c2:=cy x (ofQ ((d:Rat)/1000000000)) (hx:=hx) (hy:=Vq.ofQ (h:=Rl d h2)) J Y;generalize ofQ ((d:Rat)/1000000000)=D0,ofQ (p*((d:Rat)/1000000000))=E at *
 obtain⟨⟨xn,xl⟩,⟨yn,yl⟩⟩:=x;refine ax Proofs.Tryz.func178 ?_;refine cO 4 [5,6,7,8] ?_;refine G c1 ?_;refine G c2 ?_;exact bW
theorem Fe (x y:RR){p q:Rat}{n m:Nat}(hx:Vq x p n)(hy:Vq y q m)(hn:n<=1000000)(hm:m<=1000000):aO 195 [.sl ([x,y].map eR)] (.agg (eR (ofQ (p*q)))):=by
 have w1:=db 1 ⟨Y,Y⟩;have z1:Zb 1:=aJ Y Y;have c1:=i7 (ofQ ((1:Int):Rat)) x (hx:=Vq.ofQ (h:=HQ.int)) (hy:=hx) Y J;rw[show((1:Int):Rat)=1 from O,uP]at c1;rw[show((1:Int):Rat)=1 from O]at w1;have c2:=i7 (ofQ p) y (hx:=Vq.ofQ (h:=hx.hq)) (hy:=hy) J J;have g0:([x,y]:List RR)[0]? = some x:=O;have g1:([x,y]:List RR)[1]? = some y:=O;generalize hl:[x,y]=l at *
 have hll:l.length=2:=by rw[<-hl];rfl
 have hml:((l.map eR).length:Int)=2:=by rw[<-hl];rfl
 generalize ofQ (p*q)=E,ofQ p=P,ofQ (1:Rat)=O0 at *
 clear hx hy hl;refine ax Proofs.Tryz.func195 ?_;refine G w1 ?_;refine H ?_;rw[hml];refine ah (fun k:Nat=>k<=2) (fun k=>[(2,.ptr 2 1 0 0),(3,.ptr 3 1 0 0),(7,.sl (l.map eR)),(8,I 2),(9,I (k:Nat))]) (fun k=>[(2,1,⟨42,4,[zN],2⟩),(3,1,⟨42,4,[eR (if k=0 then O0 else if k=1 then P else E)],2⟩)]) (fun k=>2-k) 0 (aP _) ⟨O,O,O,O,O,O,O,trivial⟩ ?_;intro k s hk;refine D ?_ ?_<;>intro h
 .have hlt:k<2:=by have:=aB h;omega
  clear h
  match k,hlt with
  |0,_ =>
   refine H ?_;refine cf O O (i9 (n:=((((0:Nat):Int)):Int)) O O O O O J g0 O) ?_;refine G c1 ?_;refine H ?_;exact⟨1,Y,Y,O,O,O,O,O,O,O,trivial⟩
  |1,_ =>
   refine H ?_;refine cf O O (i9 (n:=((((1:Nat):Int)):Int)) O O O O O J g1 O) ?_;refine G c2 ?_;refine H ?_;exact⟨2,Y,Y,O,O,O,O,O,O,O,trivial⟩
 .have hge:k=2:=by have:=aE h;omega
  clear h;subst hge;exact bW
theorem HT (x:RR){p:Rat}{n:Nat}[hx:Vq x p n](hn:n<=1000)(d:Nat)(h1:1<=d)(h2:d<=1000000000):aO 172 [.agg (eR x),I (d:Nat)] (.agg (eR (ofQ (p*((d:Rat)/1000000000))))):=by
 have zd:Zb (d:Int):=aJ J J;have zb:Zb (1000000000:Int):=aJ Y Y;have w1:=db (d:Int) ⟨J,J⟩;have w2:=db 1000000000 ⟨Y,Y⟩;have c1:=Fe x (ofQ ((d:Int):Rat)) hx (Vq.ofQ (h:=HQ.int)) J Y;have hp:HQ (p*((d:Int):Rat)) (n+1+4):=@HQ.mul _ _ (n+1) 4 hx.hq HQ.int;have c2:=nj (ofQ (p*((d:Int):Rat))) (ofQ ((1000000000:Int):Rat)) (hx:=Vq.ofQ (h:=hp)) (hy:=Vq.ofQ (h:=HQ.int)) J Y aK;have e:p*((d:Int):Rat)/((1000000000:Int):Rat)=p*((d:Rat)/1000000000):=by
  rw[show((d:Int):Rat)=(d:Rat) from O,show((1000000000:Int):Rat)=1000000000 from O];grind
 rw[e]at c2;generalize ofQ (p*((d:Rat)/1000000000))=E,ofQ (p*((d:Int):Rat))=T,ofQ ((d:Int):Rat)=D0,ofQ ((1000000000:Int):Rat)=B at *
 clear hx hp;obtain⟨⟨xn,xl⟩,⟨yn,yl⟩⟩:=x;refine ax Proofs.Tryz.func172 ?_;refine H ?_;refine NC ?_;iterate 3 all_goals ((first
  |refine nP (i:=0) aK rfl ?_
  |refine nP (i:=1) aK rfl ?_
  |refine nP (i:=2) aK rfl ?_
  |refine KT (i:=0) (j:=1) aK rfl rfl ?_ ?_
  |refine KT (i:=0) (j:=2) aK rfl rfl ?_ ?_)<;>(refine aW ?_;(first|refine iH rfl ?_ | (apply cf;exact rfl;exact rfl;exact SL rfl w1 rfl rfl));refine bH ?_))
 all_goals
  refine nP (i:=3) aK O ?_;refine aW ?_;refine ay (aY 1 O O O O O O O O O O O aH O ?_);refine bH ?_;refine nP (i:=4) aK O ?_;refine bC O (gA (Ghost.takeD (k:=8) (t:=8) O O O) ?_)
  (refine pe (gp O (c1) O ?_ O) ?_;.repeat' constructor)
  refine aW ?_;refine bH ?_;refine nP (i:=5) aK O ?_;refine aW ?_;refine sT O O O w2 O O ?_;refine bH ?_;refine nP (i:=6) aK O ?_;refine aW ?_;refine sT O O O c2 O O ?_;refine bH ?_;refine nP (i:=7) aK O ?_;refine aW ?_;refine iH O ?_;refine bH ?_;refine⟨by decide +kernel,dF ?_⟩;exact bW
end Go.Pv
namespace Go.Pv
open Go.RowKit
variable [Globs]
variable {s:St}
theorem Ghost.freezeD {k gk k0 g0 i j n sz:Nat}{T:TypeId}{rows:List (List PV)}{c0:Cont}{row:List PV}(hk:Nat.beq k0 k=false)(ho:s.own k=(gk,some ⟨T,sz,rows,1⟩))(h0:s.own k0=(g0,some c0))(hkind:c0.kind=2)(hrow:c0.rows[i]? = some row)(hj:row[j]? = some (.als k gk 0 n))(hz0:Nat.blt 0 c0.sz=true)(hn:n=rows.length) :
  Ghost s ((s.setOwn k (gk+1) none).setOwn k0 g0 (some ⟨c0.ty,c0.sz,c0.rows.set i (row.set j (.sl rows)),2⟩)):=by
 intro C a w hX ⟨γ,h⟩;subst hn;have hne:k0≠k:=fun e=>by subst e;simp at hk
 obtain⟨h1,hle,-⟩:=h.drop hX ho;have ho1:(s.setOwn k (gk+1) none).own k0=(g0,some c0):=by rw[aN hne];exact h0
 have hsite:=h.sites k0 c0 (by rw[h0]);have hlt:=(bV hrow).1;have hlt2:=(bV hj).1;have hfr:∀v,Rep (aD C γ s w) (.als k gk 0 rows.length) v->Rep (aD C γ (s.setOwn k (gk+1) none) w) (.sl rows) v:=by
  intro v hp;refine .d ?_;rcases h.als_at hp ho with⟨q1,_,q3,q4⟩|⟨b,cap,cur,q1,q2,q3,q4,q5,q6,q7⟩
  .have:rows=[]:=(h.sites k _ (by rw[ho])).emp q1;rw[this,q4];exact .sl0 _ _
  .obtain⟨cur',g1,g2,g3,g4,g5⟩:=h.site_at ho q1 (h.cells_sz ho q1 q3 q6);have hb:(aD C γ (s.setOwn k (gk+1) none) w).ok b:=by
    have hbase:=h.base k _ b (by rw[ho]) q1;refine⟨hbase.2,fun hx=>?_,fun k' c' hc' hb'=>?_⟩
    .have:=hX b hx;omega
    .by_cases hk':k'=k
     .subst hk';rw[ar]at hc';cases hc'
     .rw[aN hk']at hc';exact hk' (h.inj k' k c' _ b hc' (by rw[ho]) hb' q1)
   rw[q2];simp only[f7];refine .sl rows b 0 cap sz (fun i j=>cur'.getD (i*sz+j) undef) hb g2 q4 g4 (fun i j row pv e1 e2=>?_) (fun i j row pv e1 e2=>?_)
   .obtain⟨u,f1,f2,_⟩:=g5 i j row pv e1 e2;have g1:w.heap[b]? = some (.cells cur' T (0,0)):=g1;show w.cell? _=_/\_;rw[bQ g1,aX,f1];simp[f1,f2]
   .obtain⟨u,f1,_,f3⟩:=g5 i j row pv e1 e2;have hu:cur'.getD (i*sz+j) undef=u:=by simp[f1]
    simp only[hu];exact hle.drep f3
 have he:=qT (C:=C) (γ:=γ) (w:=w) (c1:=⟨c0.ty,c0.sz,c0.rows.set i (row.set j (.sl rows)),2⟩) ho1 O O ao;have hother:∀k',k'≠k0->((s.setOwn k (gk+1) none).setOwn k0 g0 (some ⟨c0.ty,c0.sz,c0.rows.set i (row.set j (.sl rows)),2⟩)).own k'=(s.setOwn k (gk+1) none).own k':=fun k' hk'=>aN hk';have hsome:∀k' c',(((s.setOwn k (gk+1) none).setOwn k0 g0 (some ⟨c0.ty,c0.sz,c0.rows.set i (row.set j (.sl rows)),2⟩)).own k').2=some c'->∃c'',((s.setOwn k (gk+1) none).own k').2=some c'':=by
  intro k' c' hc';by_cases hk':k'=k0
  .subst hk';exact⟨c0,by rw[ho1]⟩
  .rw[hother k' hk']at hc';exact⟨c',hc'⟩
 refine⟨γ,h1.defers,h1.size,fun r=>by rw[he];exact h1.regs r,fun k' c' hc'=>?_,fun k1 k2 c1 c2 b e1 e2 e3 e4=>?_,fun k' c' b e1 e2=>?_,h1.below,h1.top,fun c v hk=>by rw[he];exact h1.kept c v hk⟩
 .rw[he];by_cases hk':k'=k0
  .subst hk';rw[ar]at hc';have hc':=cB hc';subst hc';have hz0:0<c0.sz:=by simpa using hz0
   refine⟨fun hb=>?_,(fun b _ hz=>by simp only at hz;omega),(fun b _ hz=>by simp only at hz;omega),fun b hb _=>?_⟩
   .have:=hsite.emp hb;rw[this]at hrow;simp at hrow
   .obtain⟨cur,f1,f2,f3,f4,f5⟩:=hsite.at_ b hb hz0;refine⟨cur,f1,f2,by simpa using f3,fun r hr=>?_,fun i' j' row1 pv1 e1 e2=>?_⟩
    .rcases um hr with hr|rfl
     .exact f4 r hr
     .simpa using f4 row (bm hrow)
    .by_cases hi:i'=i
     .subst hi;rw[fq hlt]at e1;have e1:=cB e1;subst e1;by_cases hjj:j'=j
      .subst hjj;rw[fq hlt2]at e2;have e2:=cB e2;subst e2;obtain⟨v,u1,u2,u3⟩:=f5 i' j' row _ hrow hj;rw[hkind]at u3;exact⟨v,u1,u2,hfr v u3⟩
      .rw[eo (Ne.symm hjj)]at e2;obtain⟨v,u1,u2,u3⟩:=f5 i' j' row pv1 hrow e2;rw[hkind]at u3;exact⟨v,u1,u2,Rep.mono hle u3⟩
     .rw[eo (Ne.symm hi)]at e1;obtain⟨v,u1,u2,u3⟩:=f5 i' j' row1 pv1 e1 e2;rw[hkind]at u3;exact⟨v,u1,u2,Rep.mono hle u3⟩
  .rw[hother k' hk']at hc';exact h1.sites k' c' hc'
 .obtain⟨d,hd⟩:=hsome k1 c1 e1;obtain⟨d',hd'⟩:=hsome k2 c2 e2;exact h1.inj k1 k2 d d' b hd hd' e3 e4
 .obtain⟨d,hd⟩:=hsome k' c' e1;exact h1.base k' d b hd e2
end Go.Pv
set_option maxHeartbeats 2000000
namespace Go.Pv
attribute [local irreducible] PWP POps PQuiet PSem aF aw ai ak
open Go.Proofs
theorem vK (l:List Int)(hl:l.length<=1000000000):Ret Tryz.prog .fresh 171 [.sl (l.map eN)] (.sl (l.map eN)):=by
 refine ax Proofs.Tryz.func171 ?_
 (refine cN 1 ?_;refine aU 1 ?_)
 refine iH O ?_;refine bH ?_;refine bC O (tg layOk O O O (fun h0=>?_) ?_)
 .rw[h0];refine aW ?_
  (repeat ((fail_if_success (with_reducible refine da ?_));refine qy O ?_))
  refine am (Ghost.nilfs (t:=2) O) ?_;refine H ?_;exact yr O O O trivial O
 .refine aW ?_;refine H ?_;refine ay (aY 0 O O O O O O O O O O O aH O ?_);refine H ?_;refine ay (bJ 1 O O O O O O O O O O O aH (by intro row hr;obtain⟨p,_,rfl⟩:=bX.1 hr;rfl) O O aV aV ?_)
  (repeat ((fail_if_success (with_reducible refine da ?_));refine qy O ?_))
  refine am (Ghost.takeF (k:=5) (t:=2) l O O O O (fun _=>rfl)) ?_;refine H ?_;exact yr O O O aH O
def qC (x:RR):RR:=ofQ x.val
def xY (x:SR):SR:=⟨x.x,qC x.c,⟨x.k.S,x.k.M.map qC⟩⟩
def Sk (ch:SR->SR)(b:BR):BR:=⟨b.w,qC b.a,b.l.map fun x=>ch (xY x)⟩
structure ChOk (f:FuncId) (caps:List PV) (ch:SR->SR) (x:SR):Prop where
 run:∀ {K:St->Prop} {s:St} {d g g4 g5 g400:Nat} {c4 c5 c400:Cont} {c a:Operand} {tys:Array TypeId} {ty:TypeId} {pos:String} {af:Array Edge},s.ev c = .clo f caps->s.ev a = .ptr 8 g 0 0 ->
 FitO s [(8,g,⟨136,7,[eS x],2⟩),(4,g4,c4),(5,g5,c5),(400,g400,c400)] ->
 (∀s1:St,K (({ reg:=s.reg,own:=(s1.over [] [(8,g,⟨136,7,[eS (ch x)],2⟩),(4,g4,c4),(5,g5,c5),(400,g400,c400)]).own }:St).putR d (.tup []))) ->
 Sm Tryz.prog lay.get s ⟨some d,.call ⟨.value c,#[a],tys⟩,ty,pos,af,none⟩ K
theorem Nc (x:SR):ChOk 176 [] id x:=by
 constructor;intro K s d g g4 g5 g400 c4 c5 c400 c a tys ty pos af hc ha ho hK;refine cS layOk O hc Tryz.func176 O Y O O ?_;show PWP _ _ _ _ (bO s (([a]:List Operand).map s.ev++[]));have hk:=hK s;simp only[id_eq]at hk;rw[Fit.over (l:=[]) ho]at hk;refine H ?_;exact fS O hk
theorem lI {α β:Type}{f:α->β}{l:List α}{k:Nat}{x:α}(h:l[k]? = some x):(l.take (k+1)).map f=(l.take k).map f++[f x]:=by rw[bS h,bc];rfl
theorem DR (b:BR)(hb:b.Lim)(h12:b.l.length<=1000)(hM:∀s∈b.l,s.k.M.length<=1000)(cl:FuncId)(caps:List PV)(ch:SR->SR)(hch:∀s∈b.l,ChOk cl caps ch (xY s)) :
  aO 175 [.agg (eB b),.clo cl caps] (.agg (eB (Sk ch b))):=by
 have h1:=Nh b.a (hx:=hb.a.v) Y;have hml:(b.l.map eS).length=b.l.length:=ao;obtain⟨w,ba,l⟩:=b;simp only at *
 have hll:=hb.l.1;rw[show ofQ ba.val=qC ba from O]at h1;clear hb;generalize hG:(fun x=>ch (xY x))=G0;rw[Sk,hG];generalize qC ba=A0 at *
 refine ax Proofs.Tryz.func175 ?_;refine H ?_;refine be [(6,5),(7,5)] aK aK ?_;refine G h1 ?_;refine H ?_;refine am (Ghost.nilcell (k:=400) (k0:=5) (i:=0) (j:=5) (row:=I w::(eR A0++[.nil])) 136 7 1 O O O O O O O) ?_;refine ah (fun i:Nat=>i<=l.length) (fun i=>[(1,.clo cl caps),(4,.ptr 4 1 0 0),(5,.ptr 5 1 0 0),(18,.sl (l.map eS)),(19,I l.length),(20,I (i:Nat))])
  (fun i=>[(4,1,⟨158,6,[I 0::(zN++[.nil])],2⟩),(5,1,⟨158,6,[I w::(eR A0++[.als 400 (1+i) 0 (((l.take i).map G0).map eS).length])],2⟩),(400,1+i,⟨136,7,((l.take i).map G0).map eS,1⟩)]) (fun i=>l.length-i) 0 (aP _) ⟨O,O,O,O,by rw[<-hml];rfl,O,O,O,O,trivial⟩ ?_
 intro i s hi;refine D ?_ ?_<;>intro h
 .have hlt:i<l.length:=by have:=aB h;omega
  clear h;obtain⟨x,hx⟩:=aC hlt;have hxm:=bm hx;have hxl:=hll x hxm;have hcx:=hch x hxm;have hMx:=hM x hxm;have hrow:=lI (f:=G0) hx;have hil:((l.take i).map G0).length<=1000:=by rw[aR,bw];omega
  have hw:=fg i;have hGx:G0 x=ch (xY x):=by rw[<-hG]
  generalize G0 x=y,(l.take i).map G0=B at *
  have e1:=Nh x.c (hx:=hxl.c.v) Y;rw[show ofQ x.c.val=qC x.c from O]at e1;have e2:=(vK x.k.S hxl.k.ls).shared_of_fresh;have e3:∀m∈x.k.M,aO 233 [.agg (eR m)] (.agg (eR (qC m))):=fun m hm=>Nh m (hx:=(hxl.k.m m hm).v) Y;have hmm:(x.k.M.map eR).length=x.k.M.length:=ao;obtain⟨xx,xc,xS,xM⟩:=x;simp only[xY]at *
  generalize qC xc=XC at *
  refine aQ hx ?_;refine cN 5 ?_;refine am (fp 8) ?_;refine be [(11,8),(12,8)] aK aK ?_;refine G e1 ?_;refine G e2 ?_;refine H ?_;refine aT [(1,.clo cl caps),(4,.ptr 4 1 0 0),(5,.ptr 5 1 0 0),(8,.ptr 8 ((s.own 8).1+2+1) 0 0),(18,.sl (l.map eS)),(19,I l.length),(20,I (i:Nat)),(37,.sl (xM.map eR)),(38,I (xM.map eR).length),(39,I ((0:Nat):Int))]
   [(4,1,⟨158,6,[I 0::(zN++[.nil])],2⟩),(5,1,⟨158,6,[I w::(eR A0++[.als 400 (1+i) 0 (B.map eS).length])],2⟩),(400,1+i,⟨136,7,B.map eS,1⟩),(8,(s.own 8).1+2+1,⟨136,7,[I xx::(eR XC++[.sl (xS.map eN),.nil])],2⟩)]
   ⟨O,O,O,O,O,O,O,O,O,O,O,O,O,O,trivial⟩ ?_
  generalize (s.own 8).1+2+1=g8;rw[hmm];intro s1;refine am (Ghost.nilcell (k:=300) (k0:=8) (i:=0) (j:=6) (row:=I xx::(eR XC++[.sl (xS.map eN),.nil])) 42 4 1 O O O O O O O) ?_;have hg3:∃g3,(s1.own 300).1+1=g3:=⟨_,O⟩;obtain⟨g3,hg3⟩:=hg3;refine ah (fun k:Nat=>k<=xM.length) (fun k=>[(1,.clo cl caps),(4,.ptr 4 1 0 0),(5,.ptr 5 1 0 0),(8,.ptr 8 g8 0 0),(18,.sl (l.map eS)),(19,I l.length),(20,I (i:Nat)),(37,.sl (xM.map eR)),(38,I xM.length),(39,I (k:Nat))])
   (fun k=>[(4,1,⟨158,6,[I 0::(zN++[.nil])],2⟩),(5,1,⟨158,6,[I w::(eR A0++[.als 400 (1+i) 0 (B.map eS).length])],2⟩),(400,1+i,⟨136,7,B.map eS,1⟩),(8,g8,⟨136,7,[I xx::(eR XC++[.sl (xS.map eN),.als 300 (g3+k) 0 (((xM.take k).map qC).map eR).length])],2⟩),(300,g3+k,⟨42,4,((xM.take k).map qC).map eR,1⟩)]) (fun k=>xM.length-k) 0 (aP _)
   ⟨O,O,O,O,O,O,O,O,O,O,O,O,O,by rw[<-hg3];rfl,by rw[<-hg3];rfl,trivial⟩ ?_
  clear hg3;intro k s2 hk;refine D ?_ ?_<;>intro h
  .have hlk:k<xM.length:=by have:=aB h;omega
   clear h;obtain⟨m,hm⟩:=aC hlk;have e4:=e3 m (bm hm);have hrk:=lI (f:=qC) hm;have hkl:((xM.take k).map qC).length<=1000:=by rw[aR,bw];omega
   have hwk:IntKind.i64.wrap (((k:Nat):Int)+1)=((k+1:Nat):Int):=by rw[wrap_i64 J J];omega
   generalize qC m=n,(xM.take k).map qC=E at *
   refine aQ hm ?_;refine cN 9 ?_;refine cd [48,300] [8] 9 [5,6,9] aK aK ?_;refine G e4 ?_;refine H ?_;refine lr O O O (aY 1 O O O O O O O O O O O aH O ⟨gZ O,?_⟩);refine H ?_;refine lr O O O (bJ 1 O O O O O O O O O O O aH (by intro row hr;first|(simp at hr;subst hr;rfl)|(simp at hr;obtain⟨_,_,rfl⟩:=hr;rfl)|simp at hr) O O aV aV ⟨gZ O,?_⟩);refine H ?_;have hb3:g3+(k+1)=g3+k+1:=O;refine⟨k+1,hlk,J,O,O,O,O,O,O,O,O,O,congrArg I hwk,O,O,O,?_,?_,trivial⟩
   .rw[hrk,hb3];refine Eq.trans (b:=(g8,some (Cont.mk 136 7 [I xx::(eR XC++[.sl (xS.map eN),.als 300 (g3+k+1) 0 (E.map eR++[eR n]).length])] 2))) O ?_;rw[show(E++[n]).map eR=E.map eR++[eR n] by rw[bc];rfl]
   .rw[hrk,hb3,show(E++[n]).map eR=E.map eR++[eR n] by rw[bc];rfl];rfl
  .have hke:k=xM.length:=by have:=aE h;omega
   clear h;subst hke;rw[bb];refine am (Ghost.freezeD (k:=300) (k0:=8) (i:=0) (j:=6) (row:=I xx::(eR XC++[.sl (xS.map eN),.als 300 (g3+xM.length) 0 ((xM.map qC).map eR).length])) O O O O O O O O) ?_
   (refine cN 11 ?_;refine aU 1 ?_)
   refine iH O ?_;refine bH ?_;refine bC O (hcx.run O O ⟨O,O,O,O,trivial⟩ fun s3=>?_);refine aW ?_;refine H ?_;refine ay (aY 1 O O O O O O O O O O O aH O ?_);refine H ?_;refine ay (bJ 1 O O O O O O O O O O O aH (by intro row hr;first|(simp at hr;subst hr;rfl)|simp at hr) O O aV aV ?_);refine H ?_;have hb4:1+(i+1)=1+i+1:=O;refine⟨i+1,hlt,J,O,O,O,O,O,congrArg I hw,O,?_,?_,trivial⟩
   .rw[hrow,hb4];refine Eq.trans (b:=(1,some (Cont.mk 158 6 [I w::(eR A0++[.als 400 (1+i+1) 0 (B.map eS++[eS y]).length])] 2))) ?_ ?_
    .rw[hGx];rfl
    .rw[show(B++[y]).map eS=B.map eS++[eS y] by rw[bc];rfl]
   .rw[hrow,hb4,show(B++[y]).map eS=B.map eS++[eS y] by rw[bc];rfl,hGx];rfl
 .have hie:i=l.length:=by have:=aE h;omega
  clear h;subst hie;rw[bb];refine am (Ghost.freezeD (k:=400) (k0:=5) (i:=0) (j:=5) (row:=I w::(eR A0++[.als 400 (1+l.length) 0 ((l.map G0).map eS).length])) O O O O O O O O) ?_;exact bW
structure StOk (t:ST):Prop where
 x : -1000000<=t.x/\t.x<=1000000
 w:1<=t.w/\t.w<=100000
 n:2<=t.L.length/\t.L.length<=30
 h:t.H0.length+1=t.L.length
 L:∀l∈t.L,0<=l/\l<=100000
 H0:∀h∈t.H0,0<=h/\h<=100000
 asc:∀i a b,t.L[i]? = some a->t.L[i+1]? = some b->a<b
theorem ej {n lo hi:Int}(h:aG n lo hi=true):lo<=n/\n<=hi:=by
 simp[aG]at h;exact h
theorem QJ {t:ST}{u:Option ST}(h:nl t u=0):StOk t:=by
 have hp:=Bi h;have hf:gO t=0:=by
  unfold nl at h;rw[if_pos hp]at h;split at h
  .exact h
  .split at h
   .exact h
   .contradiction
 obtain⟨p1,p2⟩:=wU hp;rw[gO]at hf;split at hf
 rotate_left
 .omega
 rename_i hn;obtain⟨n1,n2⟩:=kA hn.1;split at hf
 rotate_left
 .contradiction
 rename_i hl;have lv:∀i l,t.L[i]? = some l->aG l 0 100000=true/\¬(0<i/\l<=t.L.getD (i-1) 0):=fun i l hi=>by
  have:=q9 hl hi;rw[qB]at this;split at this
  .rename_i g;split at this
   .omega
   .rename_i g2;exact⟨g,g2⟩
  .omega
 refine⟨p1,p2,⟨n1,n2⟩,J,fun l hm=>?_,fun x hm=>?_,fun i a b ha hb=>?_⟩
 .obtain⟨i,hi⟩:=iA.1 hm;exact ej (lv i l hi).1
 .obtain⟨i,hi⟩:=iA.1 hm;have:=q9 hf hi;rw[B9]at this;split at this
  .rename_i g;exact ej g
  .omega
 .have h2:=(lv (i+1) b hb).2;rw[jt,cY,ha]at h2;have h2:¬(0<i+1/\b<=a):=h2;omega
def DF (d:Nat)(w h:Int):RR:=ofQ (((2*h*w:Int):Rat)*((d:Rat)/1000000000))
def qD (d:Nat)(t:ST):List RR:=t.H0.map (DF d t.w)++[ofQ 0]
def iI (d:Nat)(t:ST):SR:=⟨t.x,ofQ 0,⟨t.L,qD d t⟩⟩
def eH (d:Nat)(l:List ST):List SR:=l.map (iI d)
theorem Dn {d:Nat}{l:List ST}{k:Nat}{t:ST}(h:l[k]? = some t):(eH d (l.take (k+1))).map eS=(eH d (l.take k)).map eS++[eS (iI d t)]:=by rw[bS h,eH,eH,bc,bc];rfl
theorem Bt {h w:Int}(a:0<=h/\h<=100000)(b:1<=w/\w<=100000):0<=2*h*w/\2*h*w<=20000000000:=by
 have h1:2*h*w<=2*h*100000:=zY b.2 J;have h2:0<=2*h*w:=j_ J J;omega
theorem lQ (l:List Int)(hl:l.length<=1000000000):Ret Tryz.prog .fresh 44 [.sl (l.map eN)] (.sl (l.map eN)):=by
 refine ax Proofs.Tryz.func44 ?_;refine H ?_;refine ay (aY 0 O O O O O O O O O O O aH O ?_);refine H ?_;refine ay (bJ 1 O O O O O O O O O O O aH (by intro row hr;obtain⟨p,_,rfl⟩:=bX.1 hr;rfl) O O aV aV ?_)
 (repeat ((fail_if_success (with_reducible refine da ?_));refine qy O ?_))
 refine am (Ghost.takeF (k:=3) (t:=2) l O O O O (fun _=>rfl)) ?_;refine H ?_;exact yr O O O aH O
theorem tT (s:SHP)(hs:s.Len)(d:Nat)(he:nk s (d:Int)=0)(hd1:1<=d)(hd2:d<=1000000000)(hk:∀t∈s.st,StOk t)(h40:s.st.length<=40):aO 94 [.agg (fB s),I (d:Nat)] (.tup [.sl ((eH d s.st).map eS),I 0]):=by
 have h1:=tz s hs (d:Int);rw[he]at h1;have w0:=db 0 ⟨Y,Y⟩;rw[show(((0:Int):Rat))=0 from O]at w0;have hml:((s.st.map eT).length:Int)=s.st.length:=ao;obtain⟨nm,len,st,light,it⟩:=s;simp only at *
 clear he hs;refine ax Proofs.Tryz.func94 ?_;refine aj h1 ?_;refine cN 5 ?_;refine am (Ghost.nilreg (k:=1007) (t:=7) 136 7 1 O O) ?_;refine H ?_;rw[hml];refine ah (fun i:Nat=>i<=st.length) (fun i=>[(1,I (d:Nat)),(2,.ptr 2 1 0 0),(7,.als 1007 (1+i) 0 ((eH d (st.take i)).map eS).length),(20,.sl (st.map eT)),(21,I st.length),(22,I (i:Nat))]) (fun i=>[(2,1,⟨27,9,[fB ⟨nm,len,st,light,it⟩],2⟩),(1007,1+i,⟨136,7,(eH d (st.take i)).map eS,1⟩)]) (fun i=>st.length-i) 0 (aP _) ⟨O,O,O,O,O,O,O,O,trivial⟩ ?_;intro i s hi;refine D ?_ ?_<;>intro h
 .have hlt:i<st.length:=by have:=aB h;omega
  clear h;obtain⟨t,hx⟩:=aC hlt;have ok:=hk t (bm hx);have hsn:=Dn (d:=d) hx;have hsl:(eH d (st.take i)).length<=40:=by rw[eH,aR,bw];omega
  have hw:=fg i;have e2:=(vK t.L (by have:=ok.n;omega)).shared_of_fresh;have hmh:((t.H0.map eN).length:Int)=t.H0.length:=ao;have hn:=ok.n;have hh:=ok.h;generalize hS:eH d (st.take i)=S at *
  obtain⟨tx,tw,tL,tH⟩:=t;simp only at *
  refine aQ hx ?_;refine G e2 ?_;refine H ?_;rw[hmh];refine aT [(1,I (d:Nat)),(2,.ptr 2 1 0 0),(7,.als 1007 (1+i) 0 (S.map eS).length),(9,.ptr 9 ((s.own 9).1+1) 0 0),(10,.ptr 10 ((s.own 10).1+1) 0 0),(20,.sl (st.map eT)),(21,I st.length),(22,I (i:Nat)),(31,.sl (tH.map eN)),(32,I tH.length),(33,I ((0:Nat):Int))] [(2,1,⟨27,9,[fB ⟨nm,len,st,light,it⟩],2⟩),(1007,1+i,⟨136,7,S.map eS,1⟩),(9,(s.own 9).1+1,⟨130,4,[eT ⟨tx,tw,tL,tH⟩],2⟩),(10,(s.own 10).1+1,⟨134,2,[[.sl (tL.map eN),.nil]],2⟩)] ⟨O,O,O,O,O,O,O,O,O,O,O,O,O,O,O,trivial⟩ ?_;generalize (s.own 9).1+1=g9;generalize (s.own 10).1+1=g10;intro s1;refine am (Ghost.nilcell (k:=300) (k0:=10) (i:=0) (j:=1) (row:=[.sl (tL.map eN),.nil]) 42 4 1 O O O O O O O) ?_;have hg3:∃g3,(s1.own 300).1+1=g3:=⟨_,O⟩;obtain⟨g3,hg3⟩:=hg3;refine ah (fun k:Nat=>k<=tH.length) (fun k=>[(1,I (d:Nat)),(2,.ptr 2 1 0 0),(7,.als 1007 (1+i) 0 (S.map eS).length),(9,.ptr 9 g9 0 0),(10,.ptr 10 g10 0 0),(20,.sl (st.map eT)),(21,I st.length),(22,I (i:Nat)),(31,.sl (tH.map eN)),(32,I tH.length),(33,I (k:Nat))])
   (fun k=>[(2,1,⟨27,9,[fB ⟨nm,len,st,light,it⟩],2⟩),(1007,1+i,⟨136,7,S.map eS,1⟩),(9,g9,⟨130,4,[eT ⟨tx,tw,tL,tH⟩],2⟩),(10,g10,⟨134,2,[[.sl (tL.map eN),.als 300 (g3+k) 0 (((tH.take k).map (DF d tw)).map eR).length]],2⟩),(300,g3+k,⟨42,4,((tH.take k).map (DF d tw)).map eR,1⟩)]) (fun k=>tH.length-k) 0 (aP _)
   ⟨O,O,O,O,O,O,O,O,O,O,O,O,O,O,by rw[<-hg3];rfl,by rw[<-hg3];rfl,trivial⟩ ?_
  clear hg3;intro k s2 hkl;refine D ?_ ?_<;>intro h
  .have hlk:k<tH.length:=by have:=aB h;omega
   clear h;obtain⟨x,hm⟩:=aC hlk;have hxl:=ok.H0 x (bm hm);have hvl:0<=2*x*tw/\2*x*tw<=20000000000:=Bt hxl ok.w;obtain⟨v1,v2⟩:=hvl;have zv:Zb (2*x*tw):=aJ J J;have u1:=db (2*x*tw) ⟨J,J⟩;have u2:=HT (ofQ ((2*x*tw:Int):Rat)) (hx:=Vq.ofQ (h:=HQ.int)) Y d hd1 hd2;rw[show ofQ (((2*x*tw:Int):Rat)*((d:Rat)/1000000000))=DF d tw x from O]at u2;have q1:IntKind.i64.wrap (2*x)=2*x:=wrap_i64 J J;have q2:IntKind.i64.wrap (2*x*tw)=2*x*tw:=wrap_i64 J J;have hrk:=lI (f:=DF d tw) hm;have hkl2:((tH.take k).map (DF d tw)).length<=1000:=by rw[aR,bw];omega
   have hwk:IntKind.i64.wrap (((k:Nat):Int)+1)=((k+1:Nat):Int):=by rw[wrap_i64 J J];omega
   generalize DF d tw x=n,(tH.take k).map (DF d tw)=E at *
   refine aQ hm ?_;refine cN 12 ?_;refine cd [47,300] [10] 13 [10,11,13] aK aK ?_;refine H ?_;rw[q1];refine H ?_;rw[q2];refine sT O O O u1 O O ?_;refine G u2 ?_;refine H ?_;refine lr O O O (aY 1 O O O O O O O O O O O aH O ⟨gZ O,?_⟩);refine H ?_;refine lr O O O (bJ 1 O O O O O O O O O O O aH (by intro row hr;first|(simp at hr;subst hr;rfl)|(simp at hr;obtain⟨_,_,rfl⟩:=hr;rfl)|simp at hr) O O aV aV ⟨gZ O,?_⟩);refine H ?_;have hb3:g3+(k+1)=g3+k+1:=O;refine⟨k+1,hlk,J,O,O,O,O,O,O,O,O,O,O,congrArg I hwk,O,O,O,?_,?_,trivial⟩
   .rw[hrk,hb3,show(E++[n]).map eR=E.map eR++[eR n] by rw[bc];rfl];rfl
   .rw[hrk,hb3,show(E++[n]).map eR=E.map eR++[eR n] by rw[bc];rfl];rfl
  .have hke:k=tH.length:=by have:=aE h;omega
   clear h;subst hke;rw[bb];have hsr:qD d ⟨tx,tw,tL,tH⟩=tH.map (DF d tw)++[ofQ 0]:=O;have hslen:(tH.map (DF d tw)).length<=1000:=by rw[aR];omega
   generalize tH.map (DF d tw)=E at *
   refine cN 14 ?_;refine cd [54,300] [10] 6 [3,4,6] aK aK ?_;refine G w0 ?_;refine H ?_;refine lr O O O (aY 1 O O O O O O O O O O O aH O ⟨gZ O,?_⟩);refine H ?_;refine lr O O O (bJ 1 O O O O O O O O O O O aH (by intro row hr;first|(simp at hr;subst hr;rfl)|(simp at hr;obtain⟨_,_,rfl⟩:=hr;rfl)|simp at hr) O O aV aV ⟨gZ O,?_⟩);refine cN 15 ?_;refine am (Ghost.freezeD (k:=300) (k0:=10) (i:=0) (j:=1) (row:=[.sl (tL.map eN),.als 300 (g3+tH.length+1) 0 (E.map eR++[eR (ofQ 0)]).length]) O O O O O O O O) ?_;refine bj [63,1007] [6,7,8] aK ?_;refine G w0 ?_;refine H ?_;refine lr O O O (aY 1 O O O O O O O O O O O aH O ⟨gZ O,?_⟩);refine H ?_;refine lr O O O (bJ 1 O O O O O O O O O O O aH (by intro row hr;first|(simp at hr;subst hr;rfl)|(simp at hr;obtain⟨_,_,rfl⟩:=hr;rfl)|simp at hr) O O aV aV ⟨gZ O,?_⟩);refine H ?_;have hrow:(eH d (st.take (i+1))).map eS=S.map eS++[[I tx]++eR (ofQ 0)++[.sl (tL.map eN),.sl (E.map eR++[eR (ofQ 0)])]]:=by
    rw[hsn,iI,hsr,show(eS ⟨tx,ofQ 0,⟨tL,E++[ofQ 0]⟩⟩)=[I tx]++eR (ofQ 0)++[.sl (tL.map eN),.sl ((E++[ofQ 0]).map eR)] from O,bc];rfl
   refine⟨i+1,hlt,J,O,O,?_,O,O,congrArg I hw,O,?_,trivial⟩
   .rw[hrow];rfl
   .rw[hrow];rfl
 .have hie:i=st.length:=by have:=aE h;omega
  clear h;subst hie;rw[bb]
  (repeat ((fail_if_success (with_reducible refine da ?_));refine qy O ?_))
  refine am (Ghost.takeD (k:=1007) (t:=4) O O O) ?_;exact bW
theorem wR (x y:RR){p q:Rat}{n m:Nat}[hx:Vq x p n][hy:Vq y q m](hn:n<=20000000)(hm:m<=20000000):aO 262 [.agg (eR x),.agg (eR y)] (.agg (eR (ofQ (p+q)))):=by
 have h:=cJ x y hn hm;generalize ofQ (p+q)=X at *
 refine ax Proofs.Tryz.func262 ?_;refine G h ?_;exact bW
theorem Bo (x y:RR){p q:Rat}{n m:Nat}[hx:Vq x p n][hy:Vq y q m](hn:n<=20000000)(hm:m<=20000000):aO 149 [.agg (eR x),.agg (eR y)] (.agg (eR (ofQ (p*q)))):=by
 have h:=cy x y hn hm;generalize ofQ (p*q)=X at *
 refine ax Proofs.Tryz.func149 ?_;refine G h ?_;exact bW
theorem Qa (x y:RR){p q:Rat}{n m:Nat}[hx:Vq x p n][hy:Vq y q m](hn:n<=10000000)(hm:m<=10000000):aO 260 [.agg (eR x),.agg (eR y)] (.agg (eR (ofQ (p-q)))):=by
 have h:=iP x y hn hm;generalize ofQ (p-q)=X at *
 refine ax Proofs.Tryz.func260 ?_;refine G h ?_;exact bW
theorem lN:aO 25 [I 0] (.agg (eR (ofQ 0))):=by
 have:=b_ 0 ⟨Y,Y⟩;rwa [show(((0:Int):Rat))=0 from O]at this
theorem QD (x:RR){p:Rat}{n:Nat}[hx:Vq x p n](hn:n<=8000000):aO 261 [.agg (eR x)] (I (sgn p)):=by
 have h0:=lN;have hc:=eX x (ofQ 0) J Y;rw[mD,uM,jN]at hc;generalize sgn p=g,ofQ 0=Z at *
 refine ax Proofs.Tryz.func261 ?_;refine cO 4 [3,4,5,2] ?_;refine G h0 ?_;refine aj hc ?_;exact co
theorem Li (s:SR)(hs:s.Lim)(a:AR){z t:Rat}{n m:Nat}[ha:Va a z t n m](hn:n<=1000000)(hm:m<=1000000):aO 215 [.agg (eS s),.agg (eA a)] (.agg (eR (ofQ (yQ s z t)))):=by
 have hx:Zb s.x:=aJ hs.x.1 hs.x.2;have hw:=b_ s.x hs.x;have e1:=wR s.c a.z (hx:=hs.c.v) (hy:=ha.z) Y J;have v1:Vq (ofQ (s.c.val+z)) (s.c.val+z) (13+(n+1)+1):=Vq.ofQ (h:=@HQ.add _ _ 13 (n+1) hs.c.v.hq ha.z.hq);have e2:=Bo a.t (ofQ (s.x:Rat)) (hx:=ha.t) J Y;have v2:Vq (ofQ (t*(s.x:Rat))) (t*(s.x:Rat)) (m+1+4):=Vq.ofQ (h:=@HQ.mul _ _ (m+1) 4 ha.t.hq HQ.int);have e3:=wR (ofQ (s.c.val+z)) (ofQ (t*(s.x:Rat))) (hx:=v1) (hy:=v2) J J;rw[show s.c.val+z+t*(s.x:Rat)=yQ s z t by rw[yQ];grind]at e3;generalize ofQ (yQ s z t)=X,ofQ (s.c.val+z)=X1,ofQ (t*(s.x:Rat))=X2,ofQ (s.x:Rat)=X3 at *
 obtain⟨x,c,k⟩:=s;obtain⟨az,at'⟩:=a;simp only at *
 refine ax Proofs.Tryz.func215 ?_;refine cO 12 [5,6,7,8,9,10,11,12,13,14,15,16] ?_;refine G e1 ?_;refine G hw ?_;refine G e2 ?_;refine G e3 ?_;exact bW
theorem QC {c:CR}(hc:c.Lim)(k:Nat):HQ (c.s k) 4:=by
 have h:=rP hc k;have z1:Zb (c.S.getD k 0):=aJ h.1 h.2;exact HQ.int
theorem QP {c:CR}(hc:c.Lim){p:Rat}{n N:Nat}(hp:HQ p n)(k:Nat):HQ (jk c.s N p k) (n+4):=by
 rw[jk];split
 .rw[wI];split
  .exact(QC hc (k+1)).mono J
  .exact hp.mono J
 .exact hp.mono J
theorem Rj {c:CR}(hc:c.Lim){p:Rat}{n N:Nat}(hp:HQ p n)(k:Nat):HQ (jk c.s N p k-c.s k) (n+9):=(@HQ.sub _ _ _ _ (QP hc hp k) (QC hc k)).mono J
theorem SH {c:CR}(hc:c.Lim)(k:Nat):HQ (c.m k) 13:=by
 rw[CR.m];by_cases hk:k<c.M.length
 .exact((hc.m _ (bm (bF (d:=RR.zero) hk))).v).hq
 .rw[cY,fi J];show HQ RR.zero.val 13;rw[RR.zero_val];exact HQ.zero.mono Y
theorem Qj {x:Rat}{n:Nat}(h:HQ x n):HQ (gl x) (n+4):=by
 rw[gl];split
 .exact h.mono J
 .exact HQ.zero.mono J
theorem CG {c:CR}(hc:c.Lim){p:Rat}{n N:Nat}(hp:HQ p n)(k:Nat):HQ (dj c.s c.m N p k) (n+30):=(@HQ.mul _ _ 13 (n+9+4) (SH hc k) (Qj (Rj hc hp k))).mono J
noncomputable def Mj (c:CR)(y:RR)(p:Rat)(N i:Nat):RR:=@ite _ (i+1<N/\c.s (i+1)<p) (Classical.propDecidable _) (ofQ (c.s (i+1))) y
theorem Sf {c:CR}(hc:c.Lim){y:RR}{p:Rat}{N i n:Nat}[hy:Vq y p n]:Vq (Mj c y p N i) (jk c.s N p i) (n+8):=by
 rw[Mj,jk];by_cases h1:i+1<N
 .rw[if_pos h1,wI];by_cases h2:c.s (i+1)<p
  .rw[if_pos ⟨h1,h2⟩,if_pos h2];exact rZ (Vq.ofQ (h:=QC hc (i+1))) J
  .rw[if_neg (fun h=>h2 h.2),if_neg h2];exact rZ hy J
 .rw[if_neg (fun h=>h1 h.1),if_neg h1];exact rZ hy J
theorem EF (c:CR)(hc:c.Lim)(h0:eL c=0)(y:RR){p:Rat}{n:Nat}[hy:Vq y p n](hn:n<=100000):aO 214 [.agg (eC c),.agg (eR y)] (.agg (eR (ofQ (kR c.S.length c.s c.m p)))):=by
 obtain⟨h40,hSM,-,hasc⟩:=ic h0;have w0:=lN;have hph:=hy.hq;rw[kR,kJ fun i hi=>hasc i hi];have hSm:(c.S.map eN).length=c.S.length:=ao;have hB:∀i,i<=40->i*(n+1+30+1)+4<=5000000:=fun i hi=>by have:=et hi (ke (n+1+30+1));omega
 have vs:∀i,Vq (ofQ (aq (dj c.s c.m c.S.length p) i)) (aq (dj c.s c.m c.S.length p) i) (i*(n+1+30+1)+4):=fun i=>Vq.ofQ (h:=b9 i fun k _=>CG hc hph k);generalize hN:c.S.length=N at *
 refine ax Proofs.Tryz.func214 ?_;refine G w0 ?_;refine H ?_;refine ah (fun i:Nat=>i<=N) (fun i=>[(2,.ptr 2 1 0 0),(3,.ptr 3 1 0 0),(4,.ptr 4 1 0 0),(5,.ptr 5 1 0 0),(6,I (i:Nat))])
  (fun i=>[(2,1,⟨134,2,[eC c],2⟩),(3,1,⟨42,4,[eR y],2⟩),(4,1,⟨42,4,[zN],2⟩),(5,1,⟨42,4,[eR (ofQ (aq (dj c.s c.m N p) i))],2⟩)]) (fun i=>N-i) 0 (aP _) ⟨O,O,O,O,O,O,O,O,O,trivial⟩ ?_
 intro i s hi;refine D ?_ ?_<;>intro h
 .have hlt:i<N:=by have:=aB h;rw[hSm]at this;omega
  clear h;have hx:=bF (l:=c.S) (i:=i) (d:=0) J;have hmx:=bF (l:=c.M) (i:=i) (d:=RR.zero) J;have hxi:=hc.s _ (bm hx);have hmv:=(hc.m _ (bm hmx)).v;have hw:=b_ _ hxi;have hnx:IntKind.i64.wrap (((i:Nat):Int)+1)=((i+1:Nat):Int):=by rw[wrap_i64 J J];omega
  refine cN 5 ?_;iterate 6 refine iH O ?_
  refine KV [(2,.ptr 2 1 0 0),(3,.ptr 3 1 0 0),(4,.ptr 4 1 0 0),(5,.ptr 5 1 0 0),(6,I (i:Nat)),(7,.ptr 7 ((s.own 7).1+1) 0 0)]
   [(2,1,⟨134,2,[eC c],2⟩),(3,1,⟨42,4,[eR y],2⟩),(4,1,⟨42,4,[zN],2⟩),(5,1,⟨42,4,[eR (ofQ (aq (dj c.s c.m N p) i))],2⟩),(7,(s.own 7).1+1,⟨42,4,[eR (Mj c y p N i)],2⟩)] ?_ (fun s3=>?_)
  .by_cases h1:i+1<N
   .have hx1:=bF (l:=c.S) (i:=i+1) (d:=0) J;have hw1:=b_ _ (hc.s _ (bm hx1));have zb1:Zb (c.S.getD (i+1) 0):=aJ (hc.s _ (bm hx1)).1 (hc.s _ (bm hx1)).2;have hc1:=eX y (ofQ ((c.S.getD (i+1) 0:Int):Rat)) J Y;have hg:=fP (p-((c.S.getD (i+1) 0:Int):Rat));have htp:Mj c y p N i=if 0<sgn (p-((c.S.getD (i+1) 0:Int):Rat)) then ofQ ((c.S.getD (i+1) 0:Int):Rat) else y:=by
     rw[Mj];by_cases hlt1:c.s (i+1)<p
     .rw[if_pos ⟨h1,hlt1⟩,if_pos (hg.2 (by have:((c.S.getD (i+1) 0:Int):Rat)<p:=hlt1;grind))];rfl
     .rw[if_neg (fun h=>hlt1 h.2),if_neg (fun h=>hlt1 (by have:=hg.1 h;show((c.S.getD (i+1) 0:Int):Rat)<p;grind))]
    rw[htp];clear hg htp;generalize sgn (p-((c.S.getD (i+1) 0:Int):Rat))=sg at *
    generalize hW1:ofQ ((c.S.getD (i+1) 0:Int):Rat)=W1 at *
    generalize c.S.getD (i+1) 0=x1 at *
    refine cO 18 [18,19,20,21,22,23,24,25,26,27,28,29,30,31,32,33,34,35] ?_;refine H ?_;rw[hnx];refine eW ?_ ?_<;>intro h
    .clear h;refine H ?_;rw[hnx];refine tK O O O O O O O hx1 O ?_;refine G hw1 ?_;refine aj hc1 ?_;refine D ?_ ?_<;>intro h
     .rw[if_pos (aB h)];clear h;refine H ?_;rw[hnx];refine tK O O O O O O O hx1 O ?_;refine G hw1 ?_;refine H ?_;exact⟨O,O,O,O,O,O,O,O,O,O,O,trivial⟩
     .rw[if_neg (aE h)];clear h;refine H ?_;exact⟨O,O,O,O,O,O,O,O,O,O,O,trivial⟩
    .exfalso;have:=aE h;rw[hSm]at this;omega
   .have htp:Mj c y p N i=y:=by rw[Mj,if_neg (fun h=>h1 h.1)]
    rw[htp];clear htp;refine cO 18 [18,19,20,21,22,23,24,25,26,27,28,29,30,31,32,33,34,35] ?_;refine H ?_;rw[hnx];refine eW ?_ ?_<;>intro h
    .exfalso;have:=aB h;rw[hSm]at this;omega
    .clear h;refine H ?_;exact⟨O,O,O,O,O,O,O,O,O,O,O,trivial⟩
  have vT:Vq (Mj c y p N i) (jk c.s N p i) (n+8):=Sf hc;have zbi:Zb (c.S.getD i 0):=aJ hxi.1 hxi.2;have e1:=Qa (Mj c y p N i) (ofQ ((c.S.getD i 0:Int):Rat)) (hx:=vT) J Y;rw[show jk c.s N p i-((c.S.getD i 0:Int):Rat)=jk c.s N p i-c.s i from O]at e1;have vD:Vq (ofQ (jk c.s N p i-c.s i)) (jk c.s N p i-c.s i) (n+1+9):=Vq.ofQ (h:=Rj hc hph i);have e2:=QD (ofQ (jk c.s N p i-c.s i)) (hx:=vD) J;have e3:=Bo (c.M.getD i RR.zero) (ofQ (jk c.s N p i-c.s i)) (hx:=hmv) (hy:=vD) Y J;have hg:=fP (jk c.s N p i-c.s i);have hP:dj c.s c.m N p i=(c.M.getD i RR.zero).val*gl (jk c.s N p i-c.s i):=O;have hS:aq (dj c.s c.m N p) (i+1)=aq (dj c.s c.m N p) i+dj c.s c.m N p i:=O;by_cases hd:0<jk c.s N p i-c.s i
  .rw[gl,if_pos hd]at hP;rw[<-hP]at e3;have vP:Vq (ofQ (dj c.s c.m N p i)) (dj c.s c.m N p i) (n+1+30):=Vq.ofQ (h:=CG hc hph i);have e4:=wR (ofQ (aq (dj c.s c.m N p) i)) (ofQ (dj c.s c.m N p i)) (hx:=vs i) (hy:=vP) (by have:=hB i J;omega) J;rw[<-hS]at e4;have hgt:=hg.2 hd;generalize hSN:ofQ (aq (dj c.s c.m N p) (i+1))=S1 at *
   generalize ofQ (aq (dj c.s c.m N p) i)=S0,ofQ (dj c.s c.m N p i)=P0,sgn (jk c.s N p i-c.s i)=sg,ofQ (jk c.s N p i-c.s i)=D0,Mj c y p N i=T0,ofQ ((c.S.getD i 0:Int):Rat)=W0 at *
   generalize c.S.getD i 0=x0,c.M.getD i RR.zero=m0 at *
   refine dy ?_;refine am (fp 8) ?_;refine be [(8,8),(9,8)] aK aK ?_;refine aQ hx ?_;refine G hw ?_;refine G e1 ?_;refine aj e2 ?_;refine D ?_ ?_<;>intro h
   .clear h;refine cO 9 [54,55,56,57,58,59,60,61,62] ?_;refine aQ hmx ?_;refine G e3 ?_;refine G e4 ?_;refine H ?_;refine⟨i+1,hlt,J,O,O,O,O,congrArg I hnx,O,O,O,?_,trivial⟩;show(_:Nat × Option Cont)=(1,some (Cont.mk 42 4 [eR (ofQ (aq (dj c.s c.m N p) (i+1)))] 2));rw[hSN];rfl
   .exact absurd hgt (aE h)
  .rw[gl,if_neg hd,Rat.mul_zero]at hP;rw[hP,jN]at hS;have hgt:¬0<sgn (jk c.s N p i-c.s i):=fun h=>hd (hg.1 h);rw[<-hS];generalize hSN:ofQ (aq (dj c.s c.m N p) (i+1))=S0 at *
   generalize sgn (jk c.s N p i-c.s i)=sg,ofQ (jk c.s N p i-c.s i)=D0,Mj c y p N i=T0,ofQ ((c.S.getD i 0:Int):Rat)=W0 at *
   generalize c.S.getD i 0=x0 at *
   refine dy ?_;refine am (fp 8) ?_;refine be [(8,8),(9,8)] aK aK ?_;refine aQ hx ?_;refine G hw ?_;refine G e1 ?_;refine aj e2 ?_;refine D ?_ ?_<;>intro h
   .exact absurd (aB h) hgt
   .clear h;refine H ?_;refine⟨i+1,hlt,J,O,O,O,O,congrArg I hnx,O,O,O,?_,trivial⟩;show(_:Nat × Option Cont)=(1,some (Cont.mk 42 4 [eR (ofQ (aq (dj c.s c.m N p) (i+1)))] 2));rw[hSN];rfl
 .have hie:i=N:=by have:=aE h;rw[hSm]at this;omega
  clear h;subst hie;exact bW
theorem QF {d:Nat}{t:ST}{k:Nat}(hk:k<t.H0.length){x:Int}(hx:t.H0[k]? = some x):(qD d t)[k]? = some (DF d t.w x):=by
 rw[qD,gd (by simpa using hk),bD,hx];rfl
theorem QE {d:Nat}{t:ST}{k:Nat}(hk:k=t.H0.length):(qD d t)[k]? = some (ofQ 0):=by
 rw[qD,eM (by simp[hk])];simp[hk]
theorem EV (d:Nat)(t:ST):(qD d t).length=t.H0.length+1:=by simp[qD]
def zB:List PV:=I 0::(zN++[.nil])
def BE:BR:=⟨0,RR.zero,[]⟩
theorem WeakL.app {a b c d:List PV}(h1:WeakL a b)(h2:WeakL c d):WeakL (a++c) (b++d):=by
 induction h1 with
 |nil=>exact h2
 |cons h _ ih=>exact .cons h ih
theorem Ow:WeakL zB (eB BE) := .cons (.rfl _) (ff.app (.cons .nil .nil))
theorem BH (b:BR)(hb:b.Lim):aO 174 [.agg (eB b)] (.tup [.agg (eB (if dG b=0 then b else BE)),I (dG b)]):=by
 have h1:=ia b hb;by_cases h0:dG b=0
 .rw[if_pos h0,h0];rw[h0]at h1;refine ax Proofs.Tryz.func174 ?_;refine aj h1 ?_;exact bW
 .rw[if_neg h0]
  suffices hz:aO 174 [.agg (eB b)] (.tup [.agg zB,I (dG b)]) from hz.weak (WeakL.refl _) (WeakL.tup (.cons Ow.agg (WeakL.refl _)))
  generalize dG b=e at *
  refine ax Proofs.Tryz.func174 ?_;refine aj h1 ?_;refine D ?_ ?_<;>intro h
  .clear h;exact bW
  .simp at h;exact absurd h h0
def qX (s:SHP):Rat:=(sX (s.light::s.it):Rat)/(sM (s.light::s.it):Rat)
def wB (s:SHP)(l:List SR):BR:=⟨sM (s.light::s.it),ofQ (qX s),l⟩
def pB (s:SHP)(l:List SR):BR:=⟨sM (s.light::s.it),ofQ (qX s),l.map xY⟩
theorem nN (p:Rat):qC (ofQ p)=ofQ p:=by rw[qC,ofQ_val]
theorem Rg (s:SHP)(l:List SR):Sk id (wB s l)=pB s l:=by
 rw[Sk,pB];show(⟨sM (s.light::s.it),qC (ofQ (qX s)),l.map fun x=>id (xY x)⟩:BR)=_;rw[nN];rfl
theorem Cq {s:SHP}(h:ShipOk s):1<=sM (s.light::s.it)/\sM (s.light::s.it)<=61000000000/\hq (qX s) 4:=by
 obtain⟨⟨a1,a2⟩,-,⟨a3,a4⟩,-⟩:=jc h.ld;have hn:((s.light::s.it).length:Int)<=61:=by have:=h.n;simp;omega
 have h1:=h.m;refine⟨h1,J,kz J ?_ ?_⟩
 .rw[show 65536^4=18446744073709551616 by decide];omega
 .rw[show 65536^4=18446744073709551616 by decide];omega
theorem Dx (s:SHP)(hs:s.Len)(he:gz s=0)(l:List SR)(hb:(wB s l).Lim)(hp:(pB s l).Lim)(h12:l.length<=1000)(hM:∀x∈l,x.k.M.length<=1000):aO 95 [.agg (fB s),.sl (l.map eS)] (.tup [.agg (eB (if dG (pB s l)=0 then pB s l else BE)),I (dG (pB s l))]):=by
 have h1:=HP s hs he;have h2:=DR (wB s l) hb h12 hM 176 [] id (fun x _=>Nc (xY x));rw[Rg]at h2;have h3:=BH (pB s l) hp;have ew:eB (wB s l)=I (sM (s.light::s.it))::(eR (ofQ (qX s))++[.sl (l.map eS)]):=O;rw[ew]at h2;rw[yb,show(sX (s.light::s.it):Rat)/(sM (s.light::s.it):Rat)=qX s from O]at h1;generalize ofQ ((sZ (s.light::s.it):Rat)/(sM (s.light::s.it):Rat))=QZ,dG (pB s l)=e at *
 generalize hX:(if e=0 then pB s l else BE)=X at *
 generalize pB s l=c,ofQ (qX s)=QX,sM (s.light::s.it)=m,sF (s.light::s.it)=f at *
 clear hb hp;refine ax Proofs.Tryz.func95 ?_;refine G h1 ?_;refine G h2 ?_;refine G h3 ?_;exact bW
structure BKR where
 x:Int
 z:Int
 hf:Int
 ht:Int
 wd:Int
 st:RR
 lim:Int
 side:Bool
structure ZNR where
 nm:I2
 a:Int
 b:Int
 h:Int
structure DKR where
 s:SHP
 d:Int
 bl:List BKR
 zn:List ZNR
 gm:Int
 oh:Int
def eBk (b:BKR):List PV:=[I b.x,I b.z,I b.hf,I b.ht,I b.wd]++eR b.st++[I b.lim,.bool b.side]
def lA (z:ZNR):List PV:=[.str z.nm,I z.a,I z.b,I z.h]
def cn (d:DKR):List PV:=fB d.s++[I d.d,.sl (d.bl.map eBk),.sl (d.zn.map lA),I d.gm,I d.oh]
structure DKR.Len (d:DKR):Prop where
 s:d.s.Len
 bl:d.bl.length<=9223372036854775807
 zn:d.zn.length<=9223372036854775807
def ua (l:List ZNR)(i:Nat)(z:ZNR):Int:=if dI z.nm=true then(if (l.take i).any (fun y=>decide (y.nm=z.nm))=true then 5 else if (aG z.a (-1000000) 1000000&&aG z.b (-1000000) 1000000&&decide (z.a<=z.b)&&aG z.h 0 100000)=true then 0 else 2) else 4
def jg (l:List ZNR):Int:=if 20<l.length then 8 else gQ l (ua l)
def lU (L:List Int)(z:Int):List Int->Nat->Option Int
 |[],_=>none
 |h::H0,k=>if z<h then some (L.getD k 0) else lU L z H0 (k+1)
def tV (x:Int)(t:ST):Bool:=decide (2*t.x-t.w<=2*x)&&decide (2*x<2*t.x+t.w)
def gc (x z:Int):List ST->Option Int
 |[]=>none
 |t::l=>if tV x t=true then(match lU t.L z t.H0 0 with
  |some n=>some n
  |none=>gc x z l) else gc x z l
def Kz (b:BKR):Bool:=aG b.x (-1000000) 1000000&&aG b.hf 1 10000&&aG b.ht 0 100000&&aG b.wd 1 20000&&aG b.lim 0 1000000000&&decide (0<b.st.val)
def qp (b:BKR):Bool:=Kz b&&(if b.side then aG b.z 1 100000&&decide (b.wd<=2*b.z) else decide (b.z=0))
def kS (b:BKR)(z:ZNR):Bool:=decide (b.x-b.hf<z.b)&&decide (z.a<b.x+b.hf)&&decide (2*b.z-b.wd<2*z.h)
def j6 (a b:Int):Int:=if a-b<b-a then b-a else a-b
def ly (b c:BKR):Bool:=decide (j6 b.x c.x<b.hf+c.hf)&&decide (2*j6 b.z c.z<b.wd+c.wd)
def lu (st:List ST)(zn:List ZNR)(l:List BKR)(i:Nat)(b:BKR):Int :=
 if qp b=true then(if (gc b.x b.z st).isSome=true then(if zn.any (kS b)=true then 15 else if (l.take i).any (ly b)=true then 17 else 0) else 6) else 2
def tu (st:List ST)(zn:List ZNR)(l:List BKR):Int:=if 40<l.length then 8 else gQ l (lu st zn l)
def gF (d:DKR):Int :=
 if nk d.s d.d=0 then(if jg d.zn=0 then(if tu d.s.st d.zn d.bl=0 then(if (aG d.gm (-100000) 100000&&aG d.oh 0 1000000)=true then 0 else 2) else tu d.s.st d.zn d.bl) else jg d.zn) else nk d.s d.d
theorem wb {L:List Int}{z:Int}{H0:List Int}{k:Nat}{h:Int}(hx:H0[k]? = some h):lU L z (H0.drop k) k=if z<h then some (L.getD k 0) else lU L z (H0.drop (k+1)) (k+1):=by
 obtain⟨hl,rfl⟩:=bV hx;rw[iZ hl,lU]
theorem yj {x z:Int}{l:List ST}{k:Nat}{t:ST}(hx:l[k]? = some t):gc x z (l.drop k)=if tV x t=true then(match lU t.L z t.H0 0 with
  |some n=>some n
  |none=>gc x z (l.drop (k+1))) else gc x z (l.drop (k+1)):=by
 obtain⟨hl,rfl⟩:=bV hx;rw[iZ hl,gc]
def other (c:UInt8):Bool:=(decide (48<=(c.toNat:Int))&&decide ((c.toNat:Int)<=57))||decide ((c.toNat:Int)=45)
theorem cU (n lo hi:Int):aO 67 [I n,I lo,I hi] (.bool (!aG n lo hi)):=by
 refine ax Proofs.Tryz.func67 ?_;refine eW ?_ ?_<;>intro h
 .have h1:=aB h;refine H ?_;exact fj O O (by simp[aG];omega)
 .have h1:=aE h;refine H ?_;exact fj O O (by rw[aG,decide_eq_true (show lo<=n by omega),io,<-decide_not];exact congrArg PV.bool (decide_eq_decide.2 J))
theorem dp (n lo hi:Int):aO 72 [I n,I lo,I hi] (.bool (aG n lo hi)):=by
 refine ax Proofs.Tryz.func72 ?_;refine eW ?_ ?_<;>intro h
 .refine H ?_;exact fj O O (by simp[aG,aB h])
 .refine H ?_;exact fj O O (by simp[aG,h])
theorem HZ (l:I2):aO 129 [.str l] (.bool (dI l)):=by
 refine ax Proofs.Tryz.func129 ?_
 repeat' (first|refine iH O ?_|refine fe O O (fun h=>?_) (fun h=>?_)|refine fc O O (fun h=>?_) (fun h=>?_)|refine fb O O (fun h=>?_) (fun h=>?_))
 .have h0:l=[]:=by simpa using h
  subst h0;exact fC
 have h1:1<=l.length:=by
  have h0:l≠[]:=by simpa using h
  have:=oD.2 h0;omega
 refine D ?_ ?_<;>intro h
 .have:=aB h;refine H ?_;exact fj O O (by simp[dI];omega)
 have h2:=aE h;refine H ?_;refine ah (ClearE l sd) (fun k=>[(0,.str l),(15,I l.length),(16,I k)]) (fun _=>[]) (fun k=>l.length-k) 0 .zero' ⟨O,O,O,trivial⟩ ?_;intro k s hk;refine D ?_ ?_<;>intro h
 .have hlt:k<l.length:=by simpa using h
  obtain⟨x,hx⟩:=aC hlt;have hget:l.getD k 0=x:=by rw[cY,hx];rfl
  refine H ?_;refine lZ O ⟨J,J⟩ ?_;have hn:((l.getD (Int.toNat (k:Int)) 0).toNat:Int)=x.toNat:=by rw[br,hget]
  rw[hn];have hkb:k<12:=J;clear h hn h1 h2;refine lZ O trivial ?_
  ((repeat (first|refine bH ?_ | refine dT ?_ | refine dF ?_ | refine dy ?_));refine bZ ?_)
  refine qe 100 [(0,.str l),(3,I k),(4,.int .u8 x.toNat),(5,.bool (nH x)),(15,I l.length),(16,I k)] [] ?_ ?_
  .repeat' (first|refine iH O ?_|refine fe O O (fun h=>?_) (fun h=>?_)|refine fc O O (fun h=>?_) (fun h=>?_)|refine fb O O (fun h=>?_) (fun h=>?_))
   all_goals exact⟨O,O,O,(congrArg PV.bool (by simp_all [nH]<;>omega)),O,O,trivial⟩
  intro s
  ((repeat (first|refine bH ?_ | refine dT ?_ | refine dF ?_ | refine dy ?_));refine bZ ?_)
  refine qe 101 [(0,.str l),(3,I k),(5,.bool (nH x)),(6,.bool (other x)),(15,I l.length),(16,I k)] [] ?_ ?_
  .repeat' (first|refine iH O ?_|refine fe O O (fun h=>?_) (fun h=>?_)|refine fc O O (fun h=>?_) (fun h=>?_)|refine fb O O (fun h=>?_) (fun h=>?_))
   all_goals exact⟨O,O,O,(congrArg PV.bool (by simp_all [other]<;>omega)),O,O,trivial⟩
  intro s
  repeat' (first|refine iH O ?_|refine fe O O (fun h=>?_) (fun h=>?_)|refine fc O O (fun h=>?_) (fun h=>?_)|refine fb O O (fun h=>?_) (fun h=>?_))
  all_goals try (refine aS O (fun hc=>?_) (fun hc=>?_))
  all_goals repeat refine iH O ?_
  all_goals first
   |(
    refine fj O O ?_;have hb:sd k x=1:=by simp_all [sd,DK,other]<;>omega
    have:=hk.found hx hb J
    simp[dI,this])
   |(
    refine⟨k+1,hk.succ hx (by simp_all [sd,DK,other]<;>omega),J,O,O,?_,trivial⟩
    exact dg J J)
 .refine H ?_;exact fj O O (by simp only[dI,hk.none (by simpa using h)];simp;omega)
theorem jd (z:Int)(h:i64 z):aO 106 [I z] (.agg (eR (ofQ (z:Rat)))):=by
 have ho:=AO z h.1 h.2;have hw:=oY (du z) (by have:=nO (z:=z) (by obtain⟨h1,h2⟩:=h;omega);omega);rw[di]at hw;generalize ofQ (z:Rat)=X,du z=Z at *
 refine ax Proofs.Tryz.func106 ?_;refine G ho ?_;refine G hw ?_;exact bW
theorem y7 (x:RR){p:Rat}{n:Nat}[hx:Vq x p n](hn:n<=8000000):aO 137 [.agg (eR x)] (I (sgn p)):=by
 have hc:=kw x RR.zero hn Y;rw[mD,uM,jN]at hc;have hc2:=hc.weak (.cons (.rfl _) (.cons ff.agg .nil)) (.rfl _);generalize sgn p=g at *
 refine ax Proofs.Tryz.func137 ?_;refine aj hc2 ?_;exact co
def wr (p:ZNR->Bool):List ZNR->Nat->Int
 |[],_ => -1
 |d::l,i=>if p d=true then(i:Int) else wr p l (i+1)
theorem Cb (p:ZNR->Bool):∀(l:List ZNR) (i:Nat),decide (0<=wr p l i)=l.any p
 |[],i=>rfl
 |d::l,i=>by
  rw[wr,uK];cases h:p d
  .rw[if_neg Y,Cb p l (i+1),jK]
  .rw[if_pos O,ip,decide_eq_true];omega
theorem HB (p:ZNR->Bool){l:List ZNR}{i:Nat}{x:ZNR}(h:l[i]? = some x):wr p (l.drop i) i=if p x=true then(i:Int) else wr p (l.drop (i+1)) (i+1):=by
 obtain⟨hl,rfl⟩:=bV h;rw[iZ hl,wr]
theorem I1 (y z:ZNR):aO 131 [.agg (lA y),.dref (lA z) 0] (.bool (decide (y.nm=z.nm))):=by
 refine ax Proofs.Tryz.func131 ?_;exact fC
theorem Fj (T:List ZNR)(hT:T.length<=1000)(z:ZNR):aO 192 [.sl (T.map lA),.clo 131 [.dref (lA z) 0]] (I (wr (fun y=>decide (y.nm=z.nm)) T 0)):=by
 have hml:(T.map lA).length=T.length:=ao;generalize hp:(fun y:ZNR=>decide (y.nm=z.nm))=p;have hg:∀d:ZNR,aO 131 [.agg (lA d),.dref (lA z) 0] (.bool (p d)):=fun d=>by rw[<-hp];exact I1 d z
 clear hp;generalize hF:wr p T 0=F;refine ax Proofs.Tryz.func192 ?_;refine H ?_;refine ah (fun i:Nat=>i<=T.length/\wr p (T.drop i) i=F) (fun i=>[(0,.sl (T.map lA)),(1,.clo 131 [.dref (lA z) 0]),(7,I T.length),(8,I (i:Nat))])
  (fun _=>[]) (fun i=>T.length-i) 0 ⟨aP _,by rw[ep];exact hF⟩ ⟨O,O,by rw[<-hml];rfl,O,trivial⟩ ?_
 intro i s ⟨hi,hall⟩;refine D ?_ ?_<;>intro h
 .have hlt:i<T.length:=by have:=aB h;omega
  clear h;obtain⟨x,hx⟩:=aC hlt;have hgx:=hg x;have hw:=fg i;rw[HB p hx]at hall;cases hp:p x with
  |true =>
   rw[hp]at hgx;rw[if_pos hp]at hall;refine aQ hx ?_;refine aj hgx ?_;refine H ?_;exact pm O O (by rw[<-hall])
  |false =>
   rw[hp]at hgx;rw[if_neg (by rw[hp];decide)]at hall;refine aQ hx ?_;refine aj hgx ?_;refine H ?_;exact⟨i+1,⟨J,hall⟩,J,O,O,O,congrArg I hw,trivial⟩
 .have hie:i=T.length:=by have:=aE h;omega
  clear h;rw[hie,fH,wr]at hall;rw[<-hall];exact co
theorem IW (T:List ZNR)(hT:T.length<=1000)(z:ZNR):aO 130 [.sl (T.map lA),.clo 131 [.dref (lA z) 0]] (.bool (T.any fun y=>decide (y.nm=z.nm))):=by
 have h1:=Fj T hT z;rw[<-Cb (fun y=>decide (y.nm=z.nm)) T 0];generalize wr (fun y=>decide (y.nm=z.nm)) T 0=F at *
 refine ax Proofs.Tryz.func130 ?_;refine aj h1 ?_;exact fC
theorem I0 (l:List ZNR)(hl:l.length<=9223372036854775807):aO 68 [.sl (l.map lA)] (I (jg l)):=by
 have hml:(l.map lA).length=l.length:=ao;generalize hf:jg l=E;rw[jg]at hf;refine ax Proofs.Tryz.func68 ?_;refine H ?_;rw[hml];refine aS O ?_ ?_<;>intro h
 .rw[if_pos (by have:=aB h;omega)]at hf;subst hf;exact co
 have h20:¬20<l.length:=by have:=aE h;omega
 clear h;rw[if_neg h20]at hf;refine H ?_;rw[hml];refine ah (ClearE l (ua l)) (fun k=>[(0,.sl (l.map lA)),(8,.sl (l.map lA)),(9,I l.length),(10,I (k:Nat))]) (fun _=>[]) (fun k=>l.length-k) 0 .zero' ⟨O,O,O,O,trivial⟩ ?_;intro k s hk;have hkl:=hk.1;refine D ?_ ?_<;>intro h
 .have hlt:k<l.length:=by have:=aB h;omega
  clear h;obtain⟨z,hx⟩:=aC hlt;have n0:=HZ z.nm;have c0:=IW (l.take k) (by rw[bw];omega) z;have o1:=cU z.a (-1000000) 1000000;have o2:=cU z.b (-1000000) 1000000;have o3:=cU z.h 0 100000;have hw:=fg k;have hfl:=fun e (h:ua l k z=e) (he:e≠0)=>hk.found hx h he;have hsu:=fun(h:ua l k z=0)=>hk.succ hx h;rw[ua]at hfl hsu;generalize dI z.nm=b0 at *
  generalize hA:(l.take k).any (fun y=>decide (y.nm=z.nm))=b1 at *
  generalize aG z.a (-1000000) 1000000=b2,aG z.b (-1000000) 1000000=b3,aG z.h 0 100000=b4 at *
  clear hA hk;refine aQ hx ?_;refine aj n0 ?_;cases b0
  .have:=hfl 4 (by rfl) Y;rw[hf]at this;subst this;exact co
  refine cN 8 ?_;refine am (Ghost.data (k:=4) (t:=4) (row:=lA z) O O O O) ?_;refine H ?_;refine cf O O (sS (n:=((k:Nat):Int)) O O O O O J J (fun _=>rfl)) ?_;rw[br];refine aj c0 ?_;cases b1
  rotate_left
  .have:=hfl 5 (by rfl) Y;rw[hf]at this;subst this;exact co
  refine aj o1 ?_;cases b2
  .have:=hfl 2 (by rfl) Y;rw[hf]at this;subst this;exact co
  refine aj o2 ?_;cases b3
  .have:=hfl 2 (by rfl) Y;rw[hf]at this;subst this;exact co
  by_cases hab:z.a<=z.b
  rotate_left
  .have:=hfl 2 (by simp[hab]) Y;rw[hf]at this;subst this;refine eW ?_ ?_<;>intro h
   rotate_left
   .exact absurd (aE h) J
   clear h;exact co
  refine eW ?_ ?_<;>intro h
  .exact absurd (aB h) J
  clear h;refine aj o3 ?_;cases b4
  .have:=hfl 2 ao Y;rw[hf]at this;subst this;exact co
  refine H ?_;exact⟨k+1,hsu (by simp[hab]),J,O,O,O,congrArg I hw,trivial⟩
 .have hge:¬k<l.length:=by have:=aE h;omega
  clear h;rw[hk.none hge]at hf;subst hf;exact co
theorem pE (s:SHP)(x z:Int)(hx : -1000000<=x/\x<=1000000)(hst:∀t∈s.st,StOk t)(hn:s.st.length<=40):aO 101 [.agg (fB s),I x,I z] (.tup [I ((gc x z s.st).getD 0),.bool (gc x z s.st).isSome]):=by
 have hml:(s.st.map eT).length=s.st.length:=ao;have q1:IntKind.i64.wrap (2*x)=2*x:=wrap_i64 J J;generalize hR:gc x z s.st=R;obtain⟨nm,len,st,light,it⟩:=s;simp only at *
 refine ax Proofs.Tryz.func101 ?_;refine H ?_;rw[hml];refine ah (fun i:Nat=>i<=st.length/\gc x z (st.drop i)=R) (fun i=>[(1,I x),(2,I z),(3,.ptr 3 1 0 0),(13,.sl (st.map eT)),(14,I st.length),(15,I (i:Nat))]) (fun _=>[(3,1,⟨27,9,[fB ⟨nm,len,st,light,it⟩],2⟩)]) (fun i=>st.length-i) 0 ⟨aP _,by rw[ep];exact hR⟩ ⟨O,O,O,O,O,O,O,trivial⟩ ?_;rintro i s ⟨hi,hall⟩;refine D ?_ ?_<;>intro h
 .have hlt:i<st.length:=by have:=aB h;omega
  clear h;obtain⟨t,ht⟩:=aC hlt;have ok:=hst t (bm ht);obtain⟨⟨a1,a2⟩,⟨a3,a4⟩,⟨-,aL⟩,hLH,-,-,-⟩:=ok;rw[yj ht]at hall;have q2:IntKind.i64.wrap (2*t.x)=2*t.x:=wrap_i64 J J;have q3:IntKind.i64.wrap (2*t.x-t.w)=2*t.x-t.w:=wrap_i64 J J;have q4:IntKind.i64.wrap (2*t.x+t.w)=2*t.x+t.w:=wrap_i64 J J;have hw:=fg i;have hmh:(t.H0.map eN).length=t.H0.length:=ao;refine aQ ht ?_;refine H ?_;rw[q1];refine H ?_;rw[q2];refine H ?_;rw[q3];refine LP O O O ?_ ?_<;>intro h
  .have d1:=aB h;clear h;rw[if_neg (by rw[tV,decide_eq_false J,eP];decide)]at hall;refine H ?_;exact⟨i+1,⟨hlt,hall⟩,J,O,O,O,O,O,congrArg I hw,O,trivial⟩
  have d1:=aE h;clear h;refine H ?_;rw[q1];refine H ?_;rw[q2];refine H ?_;rw[q4];refine aS O ?_ ?_<;>intro h
  .have d2:=aB h;clear h;rw[if_neg (by rw[tV,decide_eq_false (show ¬2*x<2*t.x+t.w by omega),iU];decide)]at hall;refine H ?_;exact⟨i+1,⟨hlt,hall⟩,J,O,O,O,O,O,congrArg I hw,O,trivial⟩
  have d2:=aE h;clear h;rw[if_pos (by rw[tV,decide_eq_true J,decide_eq_true J];rfl)]at hall;refine H ?_;rw[hmh];refine aT [(1,I x),(2,I z),(3,.ptr 3 1 0 0),(9,.ptr 9 ((s.own 9).1+1) 0 0),(13,.sl (st.map eT)),(14,I st.length),(15,I (i:Nat)),(40,.sl (t.H0.map eN)),(41,I t.H0.length),(42,I ((0:Nat):Int))] [(3,1,⟨27,9,[fB ⟨nm,len,st,light,it⟩],2⟩),(9,(s.own 9).1+1,⟨130,4,[eT t],2⟩)] ⟨O,O,O,O,O,O,O,O,O,O,O,O,trivial⟩ ?_;generalize (s.own 9).1+1=g9;intro s1;refine ah (fun k:Nat=>k<=t.H0.length/\(match lU t.L z (t.H0.drop k) k with|some n=>some n|none=>gc x z (st.drop (i+1)))=R) (fun k=>[(1,I x),(2,I z),(3,.ptr 3 1 0 0),(9,.ptr 9 g9 0 0),(13,.sl (st.map eT)),(14,I st.length),(15,I (i:Nat)),(40,.sl (t.H0.map eN)),(41,I t.H0.length),(42,I (k:Nat))]) (fun _=>[(3,1,⟨27,9,[fB ⟨nm,len,st,light,it⟩],2⟩),(9,g9,⟨130,4,[eT t],2⟩)]) (fun k=>t.H0.length-k) 0 ⟨aP _,by rw[ep];exact hall⟩ ⟨rfl,rfl,rfl,rfl,rfl,rfl,rfl,rfl,rfl,rfl,rfl,rfl,trivial⟩ ?_;clear hall;rintro k s2 ⟨hk,hall⟩;refine D ?_ ?_<;>intro h
  .have hlk:k<t.H0.length:=by have:=aB h;omega
   clear h;obtain⟨y,hy⟩:=aC hlk;have hlL:k<t.L.length:=J;obtain⟨n,hn⟩:=aC hlL;have hgd:t.L.getD k 0=n:=by rw[cY,hn];rfl
   have hwk:IntKind.i64.wrap (((k:Nat):Int)+1)=((k+1:Nat):Int):=by rw[wrap_i64 J J];omega
   rw[wb hy,hgd]at hall;refine aQ hy ?_;refine D ?_ ?_<;>intro h
   .have d3:z<y:=aB h;clear h;rw[if_pos d3]at hall;subst hall;refine aQ hn ?_;exact bW
   .have d3:¬z<y:=aE h;clear h;rw[if_neg d3]at hall;refine H ?_;exact⟨k+1,⟨hlk,hall⟩,J,O,O,O,O,O,O,O,O,O,congrArg I hwk,O,O,trivial⟩
  .have hke:k=t.H0.length:=by have:=aE h;omega
   clear h;subst hke;rw[fH,lU]at hall;refine H ?_;exact⟨i+1,⟨hlt,hall⟩,J,O,O,O,O,O,congrArg I hw,O,trivial⟩
 .have hge:i=st.length:=by have:=aE h;omega
  clear h;subst hge;rw[fH,gc]at hall;subst hall;exact bW
theorem BS (a b:Int)(h1 : -2000000<=a-b)(h2:a-b<=2000000):aO 133 [I a,I b] (I (j6 a b)):=by
 have q1:IntKind.i64.wrap (a-b)=a-b:=wrap_i64 J J;have q2:IntKind.i64.wrap (b-a)=b-a:=wrap_i64 J J;refine ax Proofs.Tryz.func133 ?_;refine H ?_;rw[q1,q2];exact pm O O O
theorem EB (b:BKR)(hs:b.st.sz 12):aO 132 [.agg (eBk b)] (.bool (qp b)):=by
 have o1:=cU b.x (-1000000) 1000000;have o2:=cU b.hf 1 10000;have o3:=cU b.ht 0 100000;have o4:=cU b.wd 1 20000;have o5:=cU b.lim 0 1000000000;have o6:=y7 b.st (hx:=hs.v) Y;have o7:=cU b.z 1 100000;have hsg:=nU b.st.val;generalize hf:qp b=E;rw[qp,Kz]at hf;have hp:decide (0<b.st.val)=!decide (sgn b.st.val<=0):=by
  by_cases h:sgn b.st.val<=0
  .rw[decide_eq_true h,decide_eq_false (fun g=>absurd g (Rat.not_lt.2 (hsg.1 h)))];rfl
  .rw[decide_eq_false h,decide_eq_true (Rat.not_le.1 fun g=>h (hsg.2 g))];rfl
 rw[hp]at hf;clear hp hsg;have hz:aG b.z 1 100000=true->1<=b.z/\b.z<=100000:=fun h=>ej h;obtain⟨x,z,hfw,ht,wd,st,lim,side⟩:=b;simp only at *
 generalize aG x (-1000000) 1000000=b1,aG hfw 1 10000=b2,aG ht 0 100000=b3,aG wd 1 20000=b4,aG lim 0 1000000000=b5,aG z 1 100000=b7,sgn st.val=sg at *
 refine ax Proofs.Tryz.func132 ?_;refine aj o1 ?_;cases b1
 .subst hf;exact fC
 refine aj o2 ?_;cases b2
 .subst hf;exact fC
 refine aj o3 ?_;cases b3
 .subst hf;exact fC
 refine aj o4 ?_;cases b4
 .subst hf;exact fC
 refine aj o5 ?_;cases b5
 .subst hf;exact fC
 refine aj o6 ?_;refine H ?_;by_cases h6:sg<=0
 .rw[decide_eq_true h6]at hf ⊢;subst hf;exact fC
 rw[decide_eq_false h6]at hf ⊢;refine H ?_;cases side
 .refine H ?_;exact fj O O (by rw[<-hf];rfl)
 .refine aj o7 ?_;cases b7
  .subst hf;exact fC
  have hz:=hz O;have q1:IntKind.i64.wrap (2*z)=2*z:=wrap_i64 J J;refine H ?_;rw[q1];exact fj O O (by rw[<-hf];rfl)
end Go.Pv
