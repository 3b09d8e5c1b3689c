/- Texts of one hand, gathered: ThA, ThB, ThC, ThD, DpE, ThE, ThF, ThG, ThH, ThI. -/
import Derived.Test.YtaeeehokaleakaaGreatBd1
set_option maxRecDepth 20000
set_option linter.unusedSectionVars false
set_option linter.unusedSimpArgs false
set_option linter.unusedVariables false
set_option linter.unnecessarySimpa false
set_option maxHeartbeats 2000000
namespace Go.Pv
attribute [local irreducible] PWP POps PQuiet PSem aE aw aj ak
open Go.Proofs
theorem Weak.qo {l m:List (List PV)}(hl:l.length=m.length)(h:∀(i:Nat) a b,l[i]?=some a->m[i]?=some b->WeakL a b):Weak (.sl l) (.sl m):=fun w ok v hv=>by
 cases hv with
 |sl0 a cap =>
  have:m=[]:=iB hl.symm;subst this;exact .sl0 _ _
 |sl _ b off cap sz vals h1 h2 h3 h4 h5 h6 =>
  rw[hl];have hat:∀(i:Nat) (row:List PV),m[i]?=some row->∃a,l[i]?=some a/\WeakL a row:=fun i row hr=>by
   have hi:=(cb hr).1;obtain⟨a,ha⟩:=ay (l:=l) (k:=i) J;exact⟨a,ha,h i a row ha hr⟩
  refine .sl m b off cap sz vals h1 h2 (by rw[<-hl];exact h3) (fun row hr=>?_) (fun i j row c hr hc=>?_) fun i j row c hr hc=>?_
  .obtain⟨i,hi⟩:=i5.1 hr;obtain⟨a,ha,hw⟩:=hat i row hi;rw[<-hw.spec.1];exact h4 a (bC ha)
  .obtain⟨a,ha,hw⟩:=hat i row hr;obtain⟨p,hp,-⟩:=hw.spec.2 j c hc;exact h5 i j a p ha hp
  .obtain⟨a,ha,hw⟩:=hat i row hr;obtain⟨p,hp,hpw⟩:=hw.spec.2 j c hc;exact hpw _ _ _ (h6 i j a p ha hp)
def aaK (x y:Int):Int:=if x<y then -1 else if y<x then 1 else 0
theorem abi (x y:Int):aU 238 [I x,I y] (I (aaK x y)):=by
 have h1:∀z:Int,aU 290 [I z] (.bool false):=fun z=>by
  refine aD Proofs.Tryz.func290 ?_;refine H ?_;try rw[decide_eq_true (show z=z from O)]
  exact fH O O ap
 refine aD Proofs.Tryz.func238 ?_;refine ax (h1 x) ?_;refine ax (h1 y) ?_;refine D ?_ ?_<;>intro h
 .rw[aaK,if_pos (bk h)];exact cB
 .rw[aaK,if_neg (bS h)];clear h;refine D ?_ ?_<;>intro h
  .rw[if_pos (bk h)];exact cB
  .rw[if_neg (bS h)];exact cB
def aah:List Int->List Int->Int
 |[],[]=>0
 |[],_::_ => -1
 |_::_,[]=>1
 |x::a,y::b=>if aaK x y=0 then aah a b else aaK x y
theorem abp {a b:List Int}{i:Nat}{x y:Int}(h1:a[i]?=some x)(h2:b[i]?=some y):aah (a.drop i) (b.drop i)=if aaK x y=0 then aah (a.drop (i+1)) (b.drop (i+1)) else aaK x y:=by
 obtain⟨l1,rfl⟩:=cb h1;obtain⟨l2,rfl⟩:=cb h2;rw[jm l1,jm l2,aah]
theorem abo (a b:List Int)(ha:a.length<=1000)(hb:b.length<=1000):aU 173 [.sl (a.map eN),.sl (b.map eN)] (I (aah a b)):=by
 have hma:(a.map eN).length=a.length:=ap;have hmb:(b.map eN).length=b.length:=ap;generalize hJ:aah a b=J0;refine aD Proofs.Tryz.func173 ?_;refine H ?_;rw[hma];refine aQ [(0,.sl (a.map eN)),(1,.sl (b.map eN)),(9,.sl (a.map eN)),(10,I a.length),(11,I ((0:Nat):Int))] [] ah ?_;intro s0;refine ai (fun i:Nat=>i<=a.length/\i<=b.length/\aah (a.drop i) (b.drop i)=J0) (fun i=>[(0,.sl (a.map eN)),(1,.sl (b.map eN)),(9,.sl (a.map eN)),(10,I a.length),(11,I (i:Nat))]) (fun _=>[]) (fun i=>a.length-i) 0 ⟨aP _,aP _,by rw[fO,fO];exact hJ⟩ ah ?_;clear hJ;rintro i s1 ⟨hi,hib,hJ⟩;refine D ?_ ?_<;>intro h
 .have hlt:i<a.length:=cw h;clear h;obtain⟨x,hx⟩:=ay hlt;have hw:=dN i;refine aN hx ?_;refine H ?_;rw[hmb];refine aV O ?_ ?_<;>intro h
  .have hge:i=b.length:=cw h;clear h;obtain⟨l1,-⟩:=cb hx;rw[hge,gX,jm J,aah]at hJ;subst hJ;exact cB
  .have hlb:i<b.length:=co h;clear h;obtain⟨y,hy⟩:=ay hlb;have hc:=abi x y;rw[abp hx hy]at hJ;generalize aaK x y=C at *
   refine aN hy ?_;refine ax hc ?_;refine H ?_;by_cases h0:C=0
   .rw[if_pos h0]at hJ;rw[decide_eq_true h0];refine H ?_;exact⟨i+1,⟨hlt,hlb,hJ⟩,J,O,O,O,O,congrArg I hw,bh⟩
   .rw[if_neg h0]at hJ;subst hJ;rw[decide_eq_false h0];exact cB
 .have hie:i=a.length:=co h;clear h;subst hie;refine H ?_;rw[hma,hmb];rw[gX]at hJ;refine aV O ?_ ?_<;>intro h
  .have hlb:a.length<b.length:=cw h;rw[jm hlb,aah]at hJ;subst hJ;exact cB
  .have hlb:a.length=b.length:=co h;rw[hlb,gX,aah]at hJ;subst hJ;exact cB
theorem abG (x y:Int):aU 172 [.sl [[I x],[I y]]] (I (if x=0 then y else x)):=by
 have h0:([[I x],[I y]]:List (List PV))[0]?=some [I x]:=O;have i0:[x,y][0]?=some x:=O;have i1:[x,y][1]?=some y:=O;have hl:([x,y].map eN).length=2:=O
 suffices h:aU 172 [.sl ([x,y].map eN)] (I (if x=0 then y else x)) from h
 generalize hJ:(if x=0 then y else x)=J0;refine aD Proofs.Tryz.func172 ?_;refine H ?_;rw[hl];refine aQ [(3,I 0),(6,.sl ([x,y].map eN)),(7,I ((2:Nat):Int)),(8,I ((0:Nat):Int))] [] ah ?_;intro s0;refine ai (fun i:Nat=>i<=2/\(1<=i->x=0)/\(2<=i->y=0)) (fun i=>[(3,I 0),(6,.sl ([x,y].map eN)),(7,I ((2:Nat):Int)),(8,I (i:Nat))]) (fun _=>[]) (fun i=>2-i) 0 ⟨aP _,fun h=>absurd h Y,fun h=>absurd h Y⟩ ah ?_;rintro i s1 ⟨hi,h1,h2⟩;obtain rfl|rfl|rfl:i=0\/i=1\/i=2:=J
 .refine aN i0 ?_;refine H ?_;by_cases hx:x=0
  .rw[decide_eq_true hx];refine H ?_;exact⟨1,⟨Y,fun _=>hx,fun h=>absurd h Y⟩,Y,ah⟩
  .rw[if_neg hx]at hJ;subst hJ;rw[decide_eq_false hx];exact cB
 .rw[if_pos (h1 (aY))]at hJ;subst hJ;refine aN i1 ?_;refine H ?_;by_cases hy:y=0
  .rw[decide_eq_true hy];refine H ?_;exact⟨2,⟨Y,fun _=>h1 (aY),fun _=>hy⟩,Y,ah⟩
  .rw[decide_eq_false hy];exact cB
 .rw[if_pos (h1 Y),h2 Y]at hJ;subst hJ;exact cB
def abO (a b:List Int):Int:=if (a.length:Int)-(b.length:Int)=0 then aah a b else(a.length:Int)-(b.length:Int)
theorem abB (a b:List Int)(ha:a.length<=1000)(hb:b.length<=1000):aU 171 [.sl (a.map eN),.sl (b.map eN)] (I (abO a b)):=by
 have hma:(a.map eN).length=a.length:=ap;have hmb:(b.map eN).length=b.length:=ap;have h1:=abo a b ha hb;have h2:=abG ((a.length:Int)-(b.length:Int)) (aah a b);have hw:=gp ((a.length:Int)-(b.length:Int));rw[<-abO]at h2;generalize abO a b=C,aah a b=Z at *
 refine aD Proofs.Tryz.func171 ?_;refine H ?_;rw[hma,hmb,hw];refine ax h1 ?_;refine H ?_;refine ci O O (fE O O O O O O O O O O ah O) ?_;refine ax h2 ?_;exact cB
end Go.Pv
set_option maxHeartbeats 2000000
namespace Go.Pv
attribute [local irreducible] PWP POps PQuiet PSem aE aw aj ak
open Go.Proofs Go.RowKit
def aa9 (l:List Int):List PV:=[.sl (l.map eN)]
def abZ (l:List Int):Int:=(l.length:Int)*1000000+l.foldl (fun a x=>10*a+x) 0
def aag (l:List Int):Rat:=(abZ l:Rat)
theorem abF {K:St->Prop}{s:St}{d g:Nat}{x y z c:Operand}{tys:Array TypeId}{ty:TypeId}{pos:String}{af:Array Edge}(l:List (List Int))(hl:l.length<=1000)
  (hx:s.ev x=.als 7 g 0 (l.map aa9).length) (hy:s.ev y=I 0) (hz:s.ev z=I l.length) (hc:s.ev c=.clo 171 [])
  (hd:∀p∈l,p.length<=1000) (hcm:∀p∈l,∀q∈l,(abO p q<0↔aag p<aag q))
  (ho:FitO s [(7,g,⟨57,1,l.map aa9,1⟩)])
  (hK:∀s1:St,K (({ reg:=s.reg,own:=(s1.over [] [(7,g,⟨57,1,(b_ aag l).map aa9,1⟩)]).own }:St).putR d (.tup []))) :
  Sm Tryz.prog lay.get s ⟨some d,.call ⟨.value (.func 282),#[x,y,z,c],tys⟩,ty,pos,af,none⟩ K:=by
 refine cz layOk O O Tryz.func282 O Y O O ?_;show PWP _ _ _ _ (bB s (([x,y,z,c]:List Operand).map s.ev++[]));rw[show(([x,y,z,c]:List Operand).map s.ev++([]:List PV))=[.als 7 g 0 (l.map aa9).length,I 0,I l.length,.clo 171 []] by simp[hx,hy,hz,hc]];rw[show bB s [.als 7 g 0 (l.map aa9).length,I 0,I l.length,.clo 171 []]=bB (s.over [] [(7,g,⟨57,1,l.map aa9,1⟩)]) [.als 7 g 0 (l.map aa9).length,I 0,I l.length,.clo 171 []] by rw[Fit.over (l:=[]) ho]];have hen:(l.map aa9).length=l.length:=by rw[aF]
 have h1s:b_ aag (l.take 1)++l.drop 1=l:=by
  cases l with
  |nil=>rfl
  |cons x r=>rfl
 refine H ?_;refine ai (fun i=>1<=i/\(i<=l.length\/i=1)) (fun i=>[(0,.als 7 g 0 (l.map aa9).length),(1,I 0),(2,I l.length),(3,.clo 171 []),(8,I i)])
  (fun i=>[(7,g,⟨57,1,(b_ aag (l.take i)++l.drop i).map aa9,1⟩)]) (fun i=>l.length+1-i) 1 ⟨aY,.inr O⟩ ⟨O,O,O,O,O,by rw[h1s];rfl,bh⟩ ?_
 rintro i s1 ⟨hi1,hi⟩;refine D ?_ ?_<;>intro h
 .have hlt:i<l.length:=cw h;clear h;obtain⟨p,hp⟩:=ay hlt;have hx0:=hp;have htk:l.take (i+1)=l.take i++[p]:=bR hx0;have hdr:l.drop i=p::l.drop (i+1):=by
   obtain⟨hl1,h2⟩:=cb hx0;rw[jm hl1,h2]
  generalize hP:b_ aag (l.take i)=P at *
  have hPl:P.length=i:=by rw[<-hP,fj,bc];omega
  have hstart:P++l.drop i=cD P p i++l.drop (i+1):=by
   have hti:P.take i=P:=cT J;have hdi:P.drop i=[]:=jn J;rw[hdr,cD,hti,hdi];simp
  refine H ?_;refine ai (fun j=>j<=i/\∀q y,j<=q->P[q]?=some y->aag p<aag y) (fun j=>[(0,.als 7 g 0 (l.map aa9).length),(1,I 0),(2,I l.length),(3,.clo 171 []),(8,I i),(9,I j)])
   (fun j=>[(7,g,⟨57,1,(cD P p j++l.drop (i+1)).map aa9,1⟩)]) (fun j=>j) i ⟨aY,fun q y hq hy=>by rw[fe J]at hy;cases hy⟩ ⟨O,O,O,O,O,O,by rw[hstart];rfl,bh⟩ ?_
  rintro j s2 ⟨hj,hpre⟩;refine cX 17 [18,19,20,21,22,23,24,25,26,27,28,29,30,31,32,33,34] ?_;refine fi ?_ ?_<;>intro h
  .have hj0:0<j:=cw h;clear h;obtain⟨k,rfl⟩:∃k,j=k+1:=⟨j-1,J⟩;have hrow:((cD P p (k+1)++l.drop (i+1)).map aa9)[k+1]?=some (aa9 p):=by
    rw[bw,fN (by simp[cD];omega),qO J];rfl
   obtain⟨y,hy1⟩:=ay (show k<P.length by omega);have hrow2:((cD P p (k+1)++l.drop (i+1)).map aa9)[k]?=some (aa9 y):=by
    rw[bw,fN (by simp[cD];omega),nF J J,hy1];rfl
   have hym:y∈l:=dD ((iG aag _).mem_iff.1 (hP▸bC hy1));have hw1:IntKind.i64.wrap (((k+1:Nat):Int)-1)=(k:Nat):=by rw[wrap_i64 J J];omega
   refine H ?_;refine ci O O (cF O O O O O O O J (by rw[hen];omega)) ?_;rw[be,aM (k+1)];refine ci O O (du O O O hrow O) ?_;refine H ?_;rw[hw1];refine ci O O (cF O O O O O O O J (by rw[hen];omega)) ?_;rw[be,aM k];refine ci O O (du O O O hrow2 O) ?_;refine ax (abB p y (hd p (bC hp)) (hd y hym)) ?_;refine D ?_ ?_<;>intro h
   .have hlt2:aag p<aag y:=(hcm p (bC hp) y hym).1 (bk h);clear h;refine H ?_;refine kq [] [7] 15 [15,16,17] [2,3,4] aH aH ?_;refine H ?_;rw[hw1];refine ci O O (cF O O O O O O O J (by rw[hen];omega)) ?_;rw[be,aM k];refine ci O O (du O O O hrow2 O) ?_;refine H ?_;refine ci O O (cF O O O O O O O J (by rw[hen];omega)) ?_;rw[be,aM (k+1)];refine ci O O (du O O O hrow O) ?_;refine H ?_;refine ci O O (cF O O O O O O O J (by rw[hen];omega)) ?_;rw[be,aM (k+1)];refine H ?_;refine jQ O O O (cP (kd':=1) O O O hrow O O ah O O O O ⟨nb O,?_⟩);refine ci O O (cF O O O O O O O J (by rw[hen];omega)) ?_;rw[be,aM k];refine jQ O O O (cP (kd':=1) O O O (row:=aa9 y) (by
     show(((cD P p (k+1)++l.drop (i+1)).map aa9).set (k+1) _)[k]? = _
     rw[et J];exact hrow2) O O ah O O O O ⟨nb O,?_⟩)
    refine H ?_;refine⟨k,⟨J,fun q z hq hz=>?_⟩,J,O,O,O,O,O,?_,?_,bh⟩
    .by_cases hqk:q=k
     .subst hqk;rw[hy1]at hz;cases hz;exact hlt2
     .exact hpre q z J hz
    .exact congrArg I hw1
    .refine Eq.trans (b:=(g,some (Cont.mk 57 1 ((((cD P p (k+1)++l.drop (i+1)).map aa9).set (k+1) (aa9 y)).set k (aa9 p)) 1))) O ?_;rw[<-gY,<-gY,mf _ _ (by simp[cD];omega),mf _ _ (by simp[cD];omega),pM J hy1]
   .have hge2:aag y<=aag p:=Rat.not_lt.1 fun hc=>bS h ((hcm p (bC hp) y hym).2 hc);clear h;have hpos:tG aag P p=k+1:=oG J hpre (.inr ⟨y,hy1,hge2⟩);have hins:b_ aag (l.take (i+1))=cD P p (k+1):=by rw[htk,jx,hP,kw,hpos]
    refine H ?_;refine⟨i+1,⟨J,.inl J⟩,J,O,O,O,O,c9 J J,?_,bh⟩;rw[hins];rfl
  .have hj0:j=0:=co h;subst hj0;clear h;have hpos:tG aag P p=0:=oG J hpre (.inl O);have hins:b_ aag (l.take (i+1))=cD P p 0:=by rw[htk,jx,hP,kw,hpos]
   refine H ?_;refine⟨i+1,⟨J,.inl J⟩,J,O,O,O,O,c9 J J,?_,bh⟩;rw[hins];rfl
 .have hge:l.length<=i:=co h;have hend:b_ aag (l.take i)++l.drop i=b_ aag l:=by
   rw[cT hge,jn hge,cu]
  rw[hend];refine H ?_;exact dR O (hK s1)
theorem aaI (x:Nat)(hx:x<=1000000):aU 181 [.int .u64 x] (I (Lib.bitLen x)):=by
 refine⟨⟨_,Go.Proofs.Tryz.func181,Y,O⟩,fun w X args hg hX hl hargs=>?_⟩
 match args,hl with
 |[v],_ =>
  have hv:=hargs 0 _ v O O;cases hv;refine(Go.Proofs.Tryz.bits_Len (x:Int) w J J).mono ?_;rintro e w' ⟨rfl,rfl⟩;exact⟨_,O,Below.refl _ _,.int _ _⟩
theorem abJ {K:St->Prop}{s:St}{d g:Nat}{x y z u c:Operand}{tys:Array TypeId}{ty:TypeId}{pos:String}{af:Array Edge}(l:List (List Int))(hl:l.length<=12){lim:Int}
  (hx:s.ev x=.als 7 g 0 (l.map aa9).length) (hy:s.ev y=I 0) (hz:s.ev z=I l.length) (hu:s.ev u=I lim) (hc:s.ev c=.clo 171 [])
  (hd:∀p∈l,p.length<=1000) (hcm:∀p∈l,∀q∈l,(abO p q<0↔aag p<aag q))
  (ho:FitO s [(7,g,⟨57,1,l.map aa9,1⟩)])
  (hK:∀s1:St,K (({ reg:=s.reg,own:=(s1.over [] [(7,g,⟨57,1,(b_ aag l).map aa9,1⟩)]).own }:St).putR d (.tup []))) :
  Sm Tryz.prog lay.get s ⟨some d,.call ⟨.value (.func 237),#[x,y,z,u,c],tys⟩,ty,pos,af,none⟩ K:=by
 refine cz layOk O O Tryz.func237 O Y O O ?_;show PWP _ _ _ _ (bB s (([x,y,z,u,c]:List Operand).map s.ev++[]));rw[show(([x,y,z,u,c]:List Operand).map s.ev++([]:List PV))=[.als 7 g 0 (l.map aa9).length,I 0,I l.length,I lim,.clo 171 []] by simp[hx,hy,hz,hu,hc]];rw[show bB s [.als 7 g 0 (l.map aa9).length,I 0,I l.length,I lim,.clo 171 []]=bB (s.over [] [(7,g,⟨57,1,l.map aa9,1⟩)]) [.als 7 g 0 (l.map aa9).length,I 0,I l.length,I lim,.clo 171 []] by rw[Fit.over (l:=[]) ho]];have hsub:IntKind.i64.wrap ((l.length:Int)-0)=(l.length:Int):=by rw[wrap_i64 J J];omega
 refine H ?_;refine ai (fun _:Unit=>True) (fun _=>[(0,.als 7 g 0 (l.map aa9).length),(1,I 0),(2,I l.length),(4,.clo 171 [])])
  (fun _=>[(7,g,⟨57,1,l.map aa9,1⟩)]) (fun _=>0) () trivial ah ?_
 rintro _ s1 -
 refine H ?_;rw[hsub];refine H ?_;rw[decide_eq_true (show(l.length:Int)<=12 by omega)]
 (refine cV 4 ?_;refine aR 4 ?_)
 refine H ?_;refine br O (abF l J O O O O hd hcm ⟨O,bh⟩ fun s2=>?_);refine aT ?_;refine H ?_;exact aaO (K:=fun o r=>K (({ reg:=s.reg,own:=o }:St).putR d r)) [(7,g,⟨57,1,(b_ aag l).map aa9,1⟩)] O trivial O ⟨O,bh⟩ (fun s1=>hK s1)
theorem aby {K:St->Prop}{s:St}{d g:Nat}{x c:Operand}{tys:Array TypeId}{ty:TypeId}{pos:String}{af:Array Edge}(l:List (List Int))(hl:l.length<=12)
  (hx:s.ev x=.als 7 g 0 (l.map aa9).length) (hc:s.ev c=.clo 171 [])
  (hd:∀p∈l,p.length<=1000) (hcm:∀p∈l,∀q∈l,(abO p q<0↔aag p<aag q))
  (ho:FitO s [(7,g,⟨57,1,l.map aa9,1⟩)])
  (hK:∀s1:St,K (({ reg:=s.reg,own:=(s1.over [] [(7,g,⟨57,1,(b_ aag l).map aa9,1⟩)]).own }:St).putR d (.tup []))) :
  Sm Tryz.prog lay.get s ⟨some d,.call ⟨.value (.func 170),#[x,c],tys⟩,ty,pos,af,none⟩ K:=by
 refine cz layOk O O Tryz.func170 O Y O O ?_;show PWP _ _ _ _ (bB s (([x,c]:List Operand).map s.ev++[]));rw[show(([x,c]:List Operand).map s.ev++([]:List PV))=[.als 7 g 0 (l.map aa9).length,.clo 171 []] by simp[hx,hc]];rw[show bB s [.als 7 g 0 (l.map aa9).length,.clo 171 []]=bB (s.over [] [(7,g,⟨57,1,l.map aa9,1⟩)]) [.als 7 g 0 (l.map aa9).length,.clo 171 []] by rw[Fit.over (l:=[]) ho]];have hen:(l.map aa9).length=l.length:=by rw[aF]
 have hbl:=aaI l.length J;have hcv:IntKind.u64.wrap (l.length:Int)=(l.length:Int):=by rw[IntKind.wrap_u64];omega
 (refine cV 1 ?_;refine aR 6 ?_)
 rw[hen];refine H ?_;rw[hcv];refine Q6 O O O hbl O O O ?_;refine H ?_;refine br O (abJ l hl (congrArg (fun n:Nat=>PV.als 7 g 0 n) hen.symm) O O O O hd hcm ⟨O,bh⟩ fun s2=>?_);refine aT ?_;refine H ?_;exact dR O (hK s2)
end Go.Pv
set_option maxHeartbeats 2000000
namespace Go.Pv
attribute [local irreducible] PWP POps PQuiet PSem aE aw aj ak
open Go.Proofs
theorem Ghost.nilrow {s:St}{k0 g0:Nat}{T:TypeId}(h0:s.own k0=(g0,some ⟨T,1,[[.nil]],1⟩)):Ghost s (s.setOwn k0 g0 (some ⟨T,1,[[.sl []]],1⟩)):=by
 intro C a w hX ⟨γ,h⟩;refine⟨γ,h.recell h0 O O Nat.zero_lt_one O (fun r hr=>by rw[mC.1 hr];rfl) fun i j row1 pv1 e1 e2=>?_⟩
 match i,j,e1,e2 with
 |0,0,e1,e2 =>
  cases e1;cases e2;refine⟨[.nil],.nil,O,O,fun v hv=>?_⟩;have hv:DRep _ _ .nil v:=hv;cases hv;exact DRep.sl0 none 0
 |0,j+1,e1,e2=>cases e1;cases e2
 |i+1,_,e1,_=>cases e1
theorem aae (K:Nat->Bool)(n:Nat):aa0 K (n+1)=if K n=true then aa0 K n++[((n:Nat):Int)] else aa0 K n:=by rw[aa0]
def aa1 (m i:Nat):Bool:=decide (m/2^i%2=1)
theorem aaA {m i:Nat}(hm:m<8)(hi:i<3):bits .and .i64 ((m:Int)/2^((i:Nat):Int).toNat) 1=if aa1 m i=true then 1 else 0:=by
 have key:∀m:Fin 8,∀i:Fin 3,bits .and .i64 ((m.1:Int)/2^((i.1:Nat):Int).toNat) 1=if aa1 m.1 i.1=true then 1 else 0:=by decide +kernel
 exact key ⟨m,hm⟩ ⟨i,hi⟩
def aa4 (n m:Nat):List (List Int):=(List.range m).map fun q=>aa0 (aa1 q) n
def aaG (n:Nat):List (List Int):=b_ aag (aa4 n (2^n))
theorem aaP:∀n,aa4 n 1=[[]]:=by
 have key:∀n,aa0 (aa1 0) n=[]:=by
  intro n
  induction n with
  |zero=>rfl
  |succ n ih=>rw[aa0,if_neg (by simp[aa1]),ih]
 intro n;show [aa0 (aa1 0) n]=_;rw[key]
theorem abc (n m:Nat):aa4 n (m+1)=aa4 n m++[aa0 (aa1 m) n]:=by rw[aa4,aa4,Aj,bj];rfl
theorem abw (n m:Nat):(aa4 n m).length=m:=by rw[aa4,aF,List.length_range]
theorem abv {n:Nat}(hn:n<=3):(∀p∈aa4 n (2^n),p.length<=1000)/\∀p∈aa4 n (2^n),∀q∈aa4 n (2^n),(abO p q<0↔aag p<aag q):=by
 obtain rfl|rfl|rfl|rfl:n=0\/n=1\/n=2\/n=3:=J;all_goals decide +kernel
theorem aaF {n:Nat}(hn:n<=3):2^n<=8/\1<=2^n:=by
 obtain rfl|rfl|rfl|rfl:n=0\/n=1\/n=2\/n=3:=J;all_goals decide
theorem aaJ (n:Nat)(hn:n<=3):aU 94 [I n] (.sl ((aaG n).map aa9)):=by
 obtain⟨h8,h1⟩:=aaF hn;obtain⟨hd,hcm⟩:=abv hn;have hsh:IntKind.i64.wrap (1*2^((n:Nat):Int).toNat)=((2^n:Nat):Int):=by
  rw[be,Int.one_mul,show((2:Int)^n)=((2^n:Nat):Int) by push_cast;rfl,wrap_i64 J J]
 have hchs:b_ aag (aa4 n (2^n))=aaG n:=O;have hrl:=abw n;generalize hN:2^n=N at *
 refine aD Proofs.Tryz.func94 ?_;refine H ?_;refine aC (bb 1 O O O O O O O O O O O ah O ?_);refine cV 2 ?_;refine ao (Ghost.nilrow (k0:=7) O) ?_;refine H ?_;refine aQ [(0,I n),(3,.als 7 1 0 1),(4,I ((1:Nat):Int))] [(7,1,⟨57,1,[[.sl []]],1⟩)] ah ?_;intro s0;refine ai (fun m:Nat=>1<=m/\m<=N) (fun m=>[(0,I n),(3,.als 7 m 0 ((aa4 n m).map aa9).length),(4,I (m:Nat))])
  (fun m=>[(7,m,⟨57,1,(aa4 n m).map aa9,1⟩)]) (fun m=>N-m) 1 ⟨aY,h1⟩ ⟨O,by rw[aaP];rfl,O,by rw[aaP];rfl,bh⟩ ?_
 rintro m s1 ⟨hm1,hm⟩;refine H ?_;refine ci O O (QOp.v O ⟨Int.natCast_nonneg _,show((n:Nat):Int)<=64 by omega⟩) ?_;refine H ?_;rw[hsh];refine aV O ?_ ?_<;>intro h
 .have hlt:m<N:=cw h;clear h;have hw:=dN m;have hrow:(aa4 n (m+1)).map aa9=(aa4 n m).map aa9++[[.sl ((aa0 (aa1 m) n).map eN)]]:=by rw[abc,bj];rfl
  have hll:((aa4 n m).map aa9).length<=8:=by rw[aF,hrl];omega
  generalize (aa4 n m).map aa9=R at *
  refine cV 6 ?_;refine ao (Ghost.nilreg (k:=1005) (t:=5) 3 1 1 O O) ?_;refine H ?_;refine aQ [(0,I n),(3,.als 7 m 0 R.length),(4,I (m:Nat)),(5,.als 1005 ((s1.own 1005).1+1) 0 0),(14,I n),(15,I ((0:Nat):Int))] [(7,m,⟨57,1,R,1⟩),(1005,(s1.own 1005).1+1,⟨3,1,[],1⟩)] ah ?_;generalize (s1.own 1005).1+1=g5;intro s2;refine ai (fun i:Nat=>i<=n) (fun i=>[(0,I n),(3,.als 7 m 0 R.length),(4,I (m:Nat)),(5,.als 1005 (g5+(aa0 (aa1 m) i).length) 0 ((aa0 (aa1 m) i).map eN).length),(14,I n),(15,I (i:Nat))])
   (fun i=>[(7,m,⟨57,1,R,1⟩),(1005,g5+(aa0 (aa1 m) i).length,⟨3,1,(aa0 (aa1 m) i).map eN,1⟩)]) (fun i=>n-i) 0 (aP _) ah ?_
  intro i s3 hi;refine D ?_ ?_<;>intro h
  .have hli:i<n:=cw h;clear h;have hwi:=dN i;have hb:=aaA (m:=m) (i:=i) J J;have hs:=aae (aa1 m) i;have hlen:=aa8 (aa1 m) i;have hil:((aa0 (aa1 m) i).map eN).length<=3:=by rw[aF];omega
   generalize aa0 (aa1 m) i=P0 at *
   refine H ?_;refine ci O O (QOp.v O ⟨Int.natCast_nonneg _,show((i:Nat):Int)<=64 by omega⟩) ?_;refine H ?_;rw[hb];by_cases hK:aa1 m i=true
   .rw[if_pos hK]at hs;rw[if_pos hK];have hr:(aa0 (aa1 m) (i+1)).map eN=P0.map eN++[[I (i:Nat)]]:=by rw[hs,bj];rfl
    have hr2:g5+(aa0 (aa1 m) (i+1)).length=g5+P0.length+1:=by rw[hs,bQ];rfl
    generalize P0.map eN=R0 at *
    refine H ?_;refine aC (bb 1 O O O O O O O O O O O ah O ?_);refine H ?_;refine aC (bO 1 O O O O O O O O O O O ah fW O O aS aS ?_);refine H ?_;refine⟨i+1,hli,J,O,O,O,?_,O,congrArg I hwi,O,?_,bh⟩
    .rw[hr,hr2];rfl
    .rw[hr,hr2];rfl
   .rw[if_neg hK]at hs;rw[if_neg hK];refine H ?_;exact⟨i+1,hli,J,O,O,O,by rw[hs];rfl,O,congrArg I hwi,O,by rw[hs];rfl,bh⟩
  .have hie:i=n:=co h;clear h;subst hie;refine ao (Ghost.takeD (k:=1005) (t:=5) O O O) ?_;generalize (aa0 (aa1 m) i).map eN=R0 at *
   refine H ?_;refine aC (bb 1 O O O O O O O O O O O ah O ?_);refine H ?_;refine aC (bO 1 O O O O O O O O O O O ah fW O O aS aS ?_);refine H ?_;refine⟨m+1,⟨J,hlt⟩,J,O,?_,congrArg I hw,?_,bh⟩
   .rw[hrow];rfl
   .rw[hrow];rfl
 .have hie:m=N:=co h;clear h;subst hie;have hle:(aa4 n m).length<=12:=by rw[hrl];omega
  (refine cV 13 ?_;refine aR 1 ?_)
  refine H ?_;refine br O (aby (aa4 n m) hle O O hd hcm ⟨O,bh⟩ fun s4=>?_);refine aT ?_;rw[hchs]
  (repeat ((fail_if_success (with_reducible refine fh ?_));refine wV O ?_))
  have hsl:(aaG n).length=m:=by rw[<-hchs,fj,hrl]
  have hlz:((aa4 n m).map aa9).length=((aaG n).map aa9).length:=by rw[aF,aF,hrl,hsl]
  rw[hlz];refine ao (Ghost.takeD (k:=7) (t:=2) O O O) ?_;exact cA
def aac (d:DKR)(x:List LR):DKR:={ d with s:={ d.s with it:=d.s.it++x } }
def ac1:LR:=⟨[],0,0,0,0⟩
def pk (o:List LR)(l:List Int):List LR:=l.map fun i=>o.getD i.toNat ac1
theorem ab4 {o:List LR}{l:List Int}{k j:Nat}{u:LR}(h:l[k]?=some ((j:Nat):Int))(hu:o[j]?=some u):pk o (l.take (k+1))=pk o (l.take k)++[u]:=by
 rw[pk,pk,bR h,bj];show _++[o.getD ((j:Nat):Int).toNat ac1]=_;rw[be,cN,hu];rfl
theorem ab7 {K:St->Prop}{s':St}{t:Nat}{x:Operand}{tys:Array TypeId}{ty:TypeId}{pos:String}{af:Array Edge}(bl:List LR)(hl:bl.length<=1000)(hx:s'.ev x=.sl (bl.map eLd))
  (hK:∀g':Nat,K (({ reg:=s'.reg,own:=(s'.setOwn 5 g' (some ⟨24,5,bl.map eLd,1⟩)).own }:St).putR t (.als 5 g' 0 (bl.map eLd).length))) :
  Sm Tryz.prog lay.get s' ⟨some t,.call ⟨.value (.func 112),#[x],tys⟩,ty,pos,af,none⟩ K:=by
 refine cz layOk O O Tryz.func112 O Y O O ?_;show PWP _ _ _ _ (bB s' (([x]:List Operand).map s'.ev++[]));rw[show(([x]:List Operand).map s'.ev++([]:List PV))=[.sl (bl.map eLd)] by simp[hx]]
 (refine cV 1 ?_;refine aR 1 ?_)
 refine iQ O ?_;refine bJ ?_;refine br O (sP layOk O O O (fun h0=>?_) ?_)
 .rw[h0]at hK;rw[h0];refine aT ?_
  (repeat ((fail_if_success (with_reducible refine fh ?_));refine wV O ?_))
  refine ao (Ghost.nilreg (k:=5) (t:=2) 24 5 1 O O) ?_;refine H ?_;unfold ak;exact⟨_,_,O,ah,hK _⟩
 .refine aT ?_;refine H ?_;refine aC (bb 1 O O O O O O O O O O O ah O ?_);refine H ?_;refine aC (bO 1 O O O O O O O O O O O ah (by intro row hr;obtain⟨p,_,rfl⟩:=aW.1 hr;rfl) O O aS aS ?_);refine H ?_;unfold ak;refine⟨_,_,O,ah,?_⟩;refine Eq.mp (congrArg (fun o=>K (St.putR { reg:=s'.reg,own:=o } t _)) ?_) (hK ((s'.own 5).1+1+1));funext k;by_cases hk:k=5
  .subst hk;rfl
  .rw[aO hk];exact((aO hk).trans (aO hk)).symm
theorem Dp (d:DKR)(o:List LR)(l:List Int)(hi:d.s.it.length<=1000)(hll:l.length<=100)(hl:∀i∈l,0<=i/\i<o.length):aU 95 [.agg (fv d),.sl (o.map eLd),.sl (l.map eN)] (.agg (fv (aac d (pk o l)))):=by
 have hml:(l.map eN).length=l.length:=ap;rw[aac];obtain⟨⟨nm,len,st,⟨ln,lm,lx,lz,lf⟩,it⟩,den,bl,zn,gm,oh⟩:=d;simp only at *
 refine aD Proofs.Tryz.func95 ?_
 (refine cV 1 ?_;refine aR 3 ?_)
 iterate 3 refine iQ O ?_
 refine bJ ?_;refine br O (ab7 it J O fun g=>?_);refine aT ?_;refine H ?_;rw[hml];refine aQ [(1,.sl (o.map eLd)),(3,.ptr 3 1 0 0),(6,.ptr 6 1 0 0),(15,.sl (l.map eN)),(16,I l.length),(17,I ((0:Nat):Int))] [(3,1,⟨56,14,[[.str nm,I len,.sl (st.map eT),.str ln,I lm,I lx,I lz,I lf,.als 5 g 0 (it.map eLd).length,I den,.sl (bl.map eBk),.sl (zn.map lB),I gm,I oh]],2⟩),(6,1,⟨56,14,[[.str [],I 0,.nil,.str [],I 0,I 0,I 0,I 0,.nil,I 0,.nil,.nil,I 0,I 0]],2⟩),(5,g,⟨24,5,it.map eLd,1⟩)] ah ?_;intro s0;refine ai (fun k:Nat=>k<=l.length) (fun k=>[(1,.sl (o.map eLd)),(3,.ptr 3 1 0 0),(6,.ptr 6 1 0 0),(15,.sl (l.map eN)),(16,I l.length),(17,I (k:Nat))])
  (fun k=>[(3,1,⟨56,14,[[.str nm,I len,.sl (st.map eT),.str ln,I lm,I lx,I lz,I lf,.als 5 (g+k) 0 ((it++pk o (l.take k)).map eLd).length,I den,.sl (bl.map eBk),.sl (zn.map lB),I gm,I oh]],2⟩),(6,1,⟨56,14,[[.str [],I 0,.nil,.str [],I 0,I 0,I 0,I 0,.nil,I 0,.nil,.nil,I 0,I 0]],2⟩),(5,g+k,⟨24,5,(it++pk o (l.take k)).map eLd,1⟩)]) (fun k=>l.length-k) 0 (aP _) ⟨O,O,O,O,O,O,by rw[dK,pk,dp,cu];rfl,O,by rw[dK,pk,dp,cu];rfl,bh⟩ ?_
 intro k s1 hk;refine D ?_ ?_<;>intro h
 .have hlt:k<l.length:=cw h;clear h;obtain⟨x,hx⟩:=ay hlt;obtain⟨h0,h1⟩:=hl x (bC hx);obtain⟨j,rfl⟩:=Int.eq_ofNat_of_zero_le h0;obtain⟨u,hu⟩:=ay (show j<o.length by omega);have hrow:(it++pk o (l.take (k+1))).map eLd=(it++pk o (l.take k)).map eLd++[[.str u.nm,I u.m,I u.x,I u.z,I u.f]]:=by rw[ab4 hx hu,<-bg,bj];rfl
  have hpl:(pk o (l.take k)).length<=100:=by rw[pk,aF,bc];omega
  have hrl:((it++pk o (l.take k)).map eLd).length<=1100:=by rw[aF,bQ];omega
  have hw:=dN k;have hb:g+(k+1)=g+k+1:=O;generalize (it++pk o (l.take k)).map eLd=R at *
  refine aN hx ?_;refine cV 5 ?_;refine bM [28,5] [3] 9 [7,8,9,10,11] aH aH ?_;refine H ?_;refine ci O O (lK (n:=((j:Nat):Int)) O O O O O J hu O) ?_;refine H ?_;refine jQ O O O (bb 1 O O O O O O O O O O O ah O ⟨fU O,?_⟩);refine H ?_;refine jQ O O O (bO 1 O O O O O O O O O O O ah (by intro row hr;first|(simp at hr;subst hr;rfl)|(simp at hr;obtain⟨_,_,rfl⟩:=hr;rfl)|simp at hr) O O aS aS ⟨fU O,?_⟩);refine H ?_;refine⟨k+1,hlt,J,O,O,O,O,O,congrArg I hw,?_,O,?_,bh⟩
  .rw[hrow,hb];rfl
  .rw[hrow,hb];rfl
 have hie:k=l.length:=co h;clear h;subst hie;rw[bI];refine ao (Ghost.freezeD (k:=5) (k0:=3) (i:=0) (j:=8) (row:=[.str nm,I len,.sl (st.map eT),.str ln,I lm,I lx,I lz,I lf,.als 5 (g+l.length) 0 ((it++pk o l).map eLd).length,I den,.sl (bl.map eBk),.sl (zn.map lB),I gm,I oh]) O O O O O O O O) ?_;exact cA
theorem aaL {K:St->Prop}{s':St}{t g3 g6:Nat}{c3 c6:Cont}{x:Operand}{tys:Array TypeId}{ty:TypeId}{pos:String}{af:Array Edge}(d:DKR)(h1:d.s.st.length<=1000)(h2:d.s.it.length<=1000)(h3:d.bl.length<=1000)(h4:d.zn.length<=1000)(hL:∀t∈d.s.st,t.L.length<=1000/\t.H0.length<=1000)(hS:∀b∈d.bl,b.st.sz 1000)
  (hx:s'.ev x=.agg (fv d)) (ho:FitO s' [(1003,g3,c3),(6,g6,c6)])
  (hK:∀(s1:St) (g:Nat),K (({ reg:=s'.reg,own:=(s1.over [] [(9,g,⟨24,5,d.s.it.map eLd,1⟩),(1003,g3,c3),(6,g6,c6)]).own }:St).putR t (.agg [.str d.s.nm,I d.s.len,.sl (d.s.st.map eT),.str d.s.light.nm,I d.s.light.m,I d.s.light.x,I d.s.light.z,I d.s.light.f,.als 9 g 0 (d.s.it.map eLd).length,I d.d,.sl (d.bl.map eBk),.sl (d.zn.map lB),I d.gm,I d.oh]))) :
  Sm Tryz.prog lay.get s' ⟨some t,.call ⟨.value (.func 28),#[x],tys⟩,ty,pos,af,none⟩ K:=by
 have hms:(d.s.st.map eT).length=d.s.st.length:=ap;have hmb:(d.bl.map eBk).length=d.bl.length:=ap;obtain⟨⟨nm,len,st,⟨ln,lm,lx,lz,lf⟩,it⟩,den,bl,zn,gm,oh⟩:=d;simp only at *
 refine cz layOk O O Tryz.func28 O Y O O ?_;show PWP _ _ _ _ (bB s' (([x]:List Operand).map s'.ev++[]));rw[show(([x]:List Operand).map s'.ev++([]:List PV))=[.agg [.str nm,I len,.sl (st.map eT),.str ln,I lm,I lx,I lz,I lf,.sl (it.map eLd),I den,.sl (bl.map eBk),.sl (zn.map lB),I gm,I oh]] by simp[hx];rfl];rw[show bB s' [.agg [.str nm,I len,.sl (st.map eT),.str ln,I lm,I lx,I lz,I lf,.sl (it.map eLd),I den,.sl (bl.map eBk),.sl (zn.map lB),I gm,I oh]]=bB (s'.over [] [(1003,g3,c3),(6,g6,c6)]) [.agg [.str nm,I len,.sl (st.map eT),.str ln,I lm,I lx,I lz,I lf,.sl (it.map eLd),I den,.sl (bl.map eBk),.sl (zn.map lB),I gm,I oh]] by rw[Fit.over (l:=[]) ho]];refine H ?_;refine aC (bb 1 O O O O O O O O O O O ah O ?_);refine H ?_;refine aC (bO 1 O O O O O O O O O O O ah (by intro row hr;obtain⟨p,_,rfl⟩:=aW.1 hr;rfl) O O aS aS ?_);refine cV 4 ?_;refine aQ [(1,.ptr 1 ((s'.own 1).1+1) 0 0),(2,.ptr 2 ((s'.own 2).1+1) 0 0),(3,.ptr 3 ((s'.own 3).1+1) 0 0),(4,I ((0:Nat):Int))] [(1,((s'.own 1).1+1),⟨56,14,[[.str nm,I len,.sl (st.map eT),.str ln,I lm,I lx,I lz,I lf,.sl (it.map eLd),I den,.sl (bl.map eBk),.sl (zn.map lB),I gm,I oh]],2⟩),(2,((s'.own 2).1+1),⟨56,14,[[.str [],I 0,.nil,.str [],I 0,I 0,I 0,I 0,.nil,I 0,.nil,.nil,I 0,I 0]],2⟩),(3,((s'.own 3).1+1),⟨56,14,[[.str nm,I len,.nil,.str ln,I lm,I lx,I lz,I lf,.als 9 ((s'.own 9).1+2) 0 (it.map eLd).length,I den,.sl (bl.map eBk),.sl (zn.map lB),I gm,I oh]],2⟩),(9,((s'.own 9).1+2),⟨24,5,it.map eLd,1⟩),(1003,g3,c3),(6,g6,c6)] ah ?_;generalize (s'.own 1).1+1=p1;generalize (s'.own 2).1+1=p2;generalize (s'.own 3).1+1=p3;generalize (s'.own 9).1+2=g9;intro s0;refine ao (Ghost.nilcell (k:=400) (k0:=3) (i:=0) (j:=2) (row:=[.str nm,I len,.nil,.str ln,I lm,I lx,I lz,I lf,.als 9 g9 0 (it.map eLd).length,I den,.sl (bl.map eBk),.sl (zn.map lB),I gm,I oh]) 115 4 1 O O O O O O O) ?_;have hg4:∃g4,(s0.own 400).1+1=g4:=⟨_,O⟩;obtain⟨g4,hg4⟩:=hg4;refine ai (fun i:Nat=>i<=st.length) (fun i=>[(1,.ptr 1 p1 0 0),(2,.ptr 2 p2 0 0),(3,.ptr 3 p3 0 0),(4,I (i:Nat))]) (fun i=>[(1,p1,⟨56,14,[[.str nm,I len,.sl (st.map eT),.str ln,I lm,I lx,I lz,I lf,.sl (it.map eLd),I den,.sl (bl.map eBk),.sl (zn.map lB),I gm,I oh]],2⟩),(2,p2,⟨56,14,[[.str [],I 0,.nil,.str [],I 0,I 0,I 0,I 0,.nil,I 0,.nil,.nil,I 0,I 0]],2⟩),(3,p3,⟨56,14,[[.str nm,I len,.als 400 (g4+i) 0 ((st.take i).map eT).length,.str ln,I lm,I lx,I lz,I lf,.als 9 g9 0 (it.map eLd).length,I den,.sl (bl.map eBk),.sl (zn.map lB),I gm,I oh]],2⟩),(9,g9,⟨24,5,it.map eLd,1⟩),(400,g4+i,⟨115,4,(st.take i).map eT,1⟩),(1003,g3,c3),(6,g6,c6)]) (fun i=>st.length-i) 0 (aP _) ⟨O,O,O,O,O,O,by rw[<-hg4];rfl,O,by rw[<-hg4];rfl,ah⟩ ?_;clear hg4;intro i s1 hi;refine H ?_;rw[hms];refine aV O ?_ ?_<;>intro h
 .have hlt:i<st.length:=cw h;clear h;obtain⟨t,hx⟩:=ay hlt;obtain⟨hl1,hl2⟩:=hL t (bC hx);have e1:=(rZ t.L J).shared_of_fresh;have e2:=(rZ t.H0 J).shared_of_fresh;have hrow:(st.take (i+1)).map eT=(st.take i).map eT++[[I t.x,I t.w,.sl (t.L.map eN),.sl (t.H0.map eN)]]:=by rw[bR hx,bj];rfl
  have hw:=dN i;have htl:((st.take i).map eT).length<=1000:=by rw[aF,bc];omega
  have hb4:g4+(i+1)=g4+i+1:=O;generalize (st.take i).map eT=R at *
  refine aN hx ?_;refine cV 7 ?_;refine bM [46,400] [3] 16 [14,15,16,17,18] aH aH ?_;refine G e1 ?_;refine G e2 ?_;refine H ?_;refine jQ O O O (bb 1 O O O O O O O O O O O ah O ⟨fU O,?_⟩);refine H ?_;refine jQ O O O (bO 1 O O O O O O O O O O O ah (by intro row hr;first|(simp at hr;subst hr;rfl)|(simp at hr;obtain⟨_,_,rfl⟩:=hr;rfl)|simp at hr) O O aS aS ⟨fU O,?_⟩);refine H ?_;refine⟨i+1,hlt,J,O,O,O,congrArg I hw,O,O,?_,O,?_,ah⟩
  .rw[hrow,hb4];rfl
  .rw[hrow,hb4];rfl
 have hie:i=st.length:=co h;clear h;subst hie;rw[bI];refine ao (Ghost.freezeD (k:=400) (k0:=3) (i:=0) (j:=2) (row:=[.str nm,I len,.als 400 (g4+st.length) 0 (st.map eT).length,.str ln,I lm,I lx,I lz,I lf,.als 9 g9 0 (it.map eLd).length,I den,.sl (bl.map eBk),.sl (zn.map lB),I gm,I oh]) O O O O O O O O) ?_;refine H ?_;refine aC (bb 1 O O O O O O O O O O O ah O ?_);refine H ?_;refine aC (bO 1 O O O O O O O O O O O ah (by intro row hr;obtain⟨p,_,rfl⟩:=aW.1 hr;rfl) O O aS aS ?_);refine cV 10 ?_;refine aQ [(1,.ptr 1 p1 0 0),(2,.ptr 2 p2 0 0),(3,.ptr 3 p3 0 0),(6,I ((0:Nat):Int))] [(1,p1,⟨56,14,[[.str nm,I len,.sl (st.map eT),.str ln,I lm,I lx,I lz,I lf,.sl (it.map eLd),I den,.sl (bl.map eBk),.sl (zn.map lB),I gm,I oh]],2⟩),(2,p2,⟨56,14,[[.str [],I 0,.nil,.str [],I 0,I 0,I 0,I 0,.nil,I 0,.nil,.nil,I 0,I 0]],2⟩),(3,p3,⟨56,14,[[.str nm,I len,.sl (st.map eT),.str ln,I lm,I lx,I lz,I lf,.als 9 g9 0 (it.map eLd).length,I den,.als 50 ((s1.own 50).1+2) 0 (bl.map eBk).length,.sl (zn.map lB),I gm,I oh]],2⟩),(9,g9,⟨24,5,it.map eLd,1⟩),(50,(s1.own 50).1+2,⟨136,11,bl.map eBk,1⟩),(1003,g3,c3),(6,g6,c6)] ah ?_;generalize (s1.own 50).1+2=g5;intro s2;refine ai (fun i:Nat=>i<=bl.length) (fun i=>[(1,.ptr 1 p1 0 0),(2,.ptr 2 p2 0 0),(3,.ptr 3 p3 0 0),(6,I (i:Nat))]) (fun _=>[(1,p1,⟨56,14,[[.str nm,I len,.sl (st.map eT),.str ln,I lm,I lx,I lz,I lf,.sl (it.map eLd),I den,.sl (bl.map eBk),.sl (zn.map lB),I gm,I oh]],2⟩),(2,p2,⟨56,14,[[.str [],I 0,.nil,.str [],I 0,I 0,I 0,I 0,.nil,I 0,.nil,.nil,I 0,I 0]],2⟩),(3,p3,⟨56,14,[[.str nm,I len,.sl (st.map eT),.str ln,I lm,I lx,I lz,I lf,.als 9 g9 0 (it.map eLd).length,I den,.als 50 g5 0 (bl.map eBk).length,.sl (zn.map lB),I gm,I oh]],2⟩),(9,g9,⟨24,5,it.map eLd,1⟩),(50,g5,⟨136,11,bl.map eBk,1⟩),(1003,g3,c3),(6,g6,c6)]) (fun i=>bl.length-i) 0 (aP _) ah ?_;intro i s3 hi;refine D ?_ ?_<;>intro h
 .have hlt:i<bl.length:=by have:=bk h;simp only[hmb]at this;omega
  clear h;obtain⟨b,hx⟩:=ay hlt;obtain⟨hb1,hb2⟩:=hS b (bC hx);have hrl:(bl.map eBk)[i]?=some [I b.x,I b.z,I b.hf,I b.ht,I b.wd,.bool b.st.n.neg,.sl (b.st.n.l.map eU),.bool b.st.d.neg,.sl (b.st.d.l.map eU),I b.lim,.bool b.side]:=by rw[bw,hx];rfl
  have hset:(bl.map eBk).set i [I b.x,I b.z,I b.hf,I b.ht,I b.wd,.bool b.st.n.neg,.sl (b.st.n.l.map eU),.bool b.st.d.neg,.sl (b.st.d.l.map eU),I b.lim,.bool b.side]=bl.map eBk:=by
   refine i6 fun j=>?_;rcases Nat.decEq i j with hne|rfl
   .rw[et hne]
   .rw[fA (by rw[aF];exact hlt),hrl]
  have hw:=dN i;have hpl:∀l:List UInt16,(l.map eU).all (·.all jV)=true:=fun l=>ct.2 fun r hr=>by obtain⟨c,_,rfl⟩:=aW.1 hr;rfl
  have hle:∀l:List UInt16,∀r∈l.map eU,r.length=1:=fun l r hr=>by obtain⟨c,_,rfl⟩:=aW.1 hr;rfl
  have hn1:(b.st.n.l.map eU).length=b.st.n.l.length:=ap;have hn2:(b.st.d.l.map eU).length=b.st.d.l.length:=ap;refine aN hx ?_;refine cV 13 ?_;refine ip [(6,74),(10,74),(15,83),(19,83),(22,50),(23,50),(24,50)] aH aH ?_;refine H ?_;refine Tj O O O O O O O ?_;refine H ?_;refine Tk O O O O O O O O O O (hpl _) (hle _) (by rw[hn1];show _*2<=_;omega) (by rw[hn1];omega) ?_;refine H ?_;refine Tj O O O O O O O ?_;refine H ?_;refine Tk O O O O O O O O O O (hpl _) (hle _) (by rw[hn2];show _*2<=_;omega) (by rw[hn2];omega) ?_;refine H ?_;refine Ty (n:=i) O O O O O O O O O (by rw[hmb];exact hlt) ?_;rw[aM i];refine Tx O O O O O O O O O O ?_;refine IP 1 O O O O O hrl (fun _=>rfl) ah O O O O ?_;refine H ?_;refine⟨i+1,hlt,J,O,O,O,congrArg I hw,O,O,O,O,?_,ah⟩;refine Eq.trans (b:=(g5,some (Cont.mk 136 11 ((bl.map eBk).set i [I b.x,I b.z,I b.hf,I b.ht,I b.wd,.bool b.st.n.neg,.sl (b.st.n.l.map eU),.bool b.st.d.neg,.sl (b.st.d.l.map eU),I b.lim,.bool b.side]) 1))) O ?_;rw[hset]
 have hie:i=bl.length:=by have:=bS h;simp only[hmb]at this;omega
 clear h;subst hie;refine ao (Ghost.freezeD (k:=50) (k0:=3) (i:=0) (j:=10) (row:=[.str nm,I len,.sl (st.map eT),.str ln,I lm,I lx,I lz,I lf,.als 9 g9 0 (it.map eLd).length,I den,.als 50 g5 0 (bl.map eBk).length,.sl (zn.map lB),I gm,I oh]) O O O O O O O O) ?_;refine H ?_;refine aC (bb 1 O O O O O O O O O O O ah O ?_);refine H ?_;refine aC (bO 1 O O O O O O O O O O O ah (by intro row hr;obtain⟨p,_,rfl⟩:=aW.1 hr;rfl) O O aS aS ?_);refine cV 15 ?_;refine aQ [(1,.ptr 1 p1 0 0),(2,.ptr 2 p2 0 0),(3,.ptr 3 p3 0 0)] [(1,p1,⟨56,14,[[.str nm,I len,.sl (st.map eT),.str ln,I lm,I lx,I lz,I lf,.sl (it.map eLd),I den,.sl (bl.map eBk),.sl (zn.map lB),I gm,I oh]],2⟩),(2,p2,⟨56,14,[[.str [],I 0,.nil,.str [],I 0,I 0,I 0,I 0,.nil,I 0,.nil,.nil,I 0,I 0]],2⟩),(3,p3,⟨56,14,[[.str nm,I len,.sl (st.map eT),.str ln,I lm,I lx,I lz,I lf,.als 9 g9 0 (it.map eLd).length,I den,.sl (bl.map eBk),.als 92 ((s3.own 92).1+2) 0 (zn.map lB).length,I gm,I oh]],2⟩),(9,g9,⟨24,5,it.map eLd,1⟩),(92,(s3.own 92).1+2,⟨138,4,zn.map lB,1⟩),(1003,g3,c3),(6,g6,c6)] ah ?_;generalize (s3.own 92).1+2=gzzz;intro s4;refine ao (Ghost.freezeD (k:=92) (k0:=3) (i:=0) (j:=11) (row:=[.str nm,I len,.sl (st.map eT),.str ln,I lm,I lx,I lz,I lf,.als 9 g9 0 (it.map eLd).length,I den,.sl (bl.map eBk),.als 92 gzzz 0 (zn.map lB).length,I gm,I oh]) O O O O O O O O) ?_;refine H ?_;exact aaO (K:=fun o r=>K (({ reg:=s'.reg,own:=o }:St).putR t r)) [(9,g9,⟨24,5,it.map eLd,1⟩),(1003,g3,c3),(6,g6,c6)] O ah O ⟨O,O,O,bh⟩ (fun s1=>hK s1 _)
theorem ab3 {o:List LR}{K:Nat->Bool}{i:Nat}{u:LR}(hK:K i=true)(hu:o[i]?=some u):pk o (aa0 K (i+1))=pk o (aa0 K i)++[u]:=by
 rw[aae,if_pos hK,pk,pk,bj];show _++[o.getD ((i:Nat):Int).toNat ac1]=_;rw[be,cN,hu];rfl
theorem abd (d:DKR)(o:List LR)(b:Nat)(hb:b<8)(ho:o.length<=3)(h1:d.s.st.length<=1000)(h2:d.s.it.length<=1000)(h3:d.bl.length<=1000)(h4:d.zn.length<=1000)(hL:∀t∈d.s.st,t.L.length<=1000/\t.H0.length<=1000)(hS:∀b∈d.bl,b.st.sz 1000) :
  aU 38 [.agg (fv d),.sl (o.map eLd),I b] (.agg (fv (aac d (pk o (aa0 (aa1 b) o.length))))):=by
 have hml:(o.map eLd).length=o.length:=ap;rw[aac];refine aD Proofs.Tryz.func38 ?_;refine cV 1 ?_;refine ao (Ghost.move (k:=3) (k':=1003) (t:=3) O O O O) ?_
 (refine cV 1 ?_;refine aR 1 ?_)
 refine iQ O ?_;refine bJ ?_;refine br O (aaL d h1 h2 h3 h4 hL hS O ⟨O,O,bh⟩ fun s1 g=>?_);refine aT ?_;obtain⟨⟨nm,len,st,⟨ln,lm,lx,lz,lf⟩,it⟩,den,bl,zn,gm,oh⟩:=d;simp only at *
 refine H ?_;refine aQ [(1,.sl (o.map eLd)),(2,I b),(6,.ptr 6 1 0 0),(7,.ptr 7 ((s1.own 7).1+1) 0 0),(8,I ((0:Nat):Int))] [(6,1,⟨56,14,[[.str [],I 0,.nil,.str [],I 0,I 0,I 0,I 0,.nil,I 0,.nil,.nil,I 0,I 0]],2⟩),(7,(s1.own 7).1+1,⟨56,14,[[.str nm,I len,.sl (st.map eT),.str ln,I lm,I lx,I lz,I lf,.als 9 g 0 (it.map eLd).length,I den,.sl (bl.map eBk),.sl (zn.map lB),I gm,I oh]],2⟩),(9,g,⟨24,5,it.map eLd,1⟩)] ah ?_;generalize (s1.own 7).1+1=p7;intro s0;refine ai (fun i:Nat=>i<=o.length) (fun i=>[(1,.sl (o.map eLd)),(2,I b),(6,.ptr 6 1 0 0),(7,.ptr 7 p7 0 0),(8,I (i:Nat))])
  (fun i=>[(6,1,⟨56,14,[[.str [],I 0,.nil,.str [],I 0,I 0,I 0,I 0,.nil,I 0,.nil,.nil,I 0,I 0]],2⟩),(7,p7,⟨56,14,[[.str nm,I len,.sl (st.map eT),.str ln,I lm,I lx,I lz,I lf,.als 9 (g+(aa0 (aa1 b) i).length) 0 ((it++pk o (aa0 (aa1 b) i)).map eLd).length,I den,.sl (bl.map eBk),.sl (zn.map lB),I gm,I oh]],2⟩),(9,g+(aa0 (aa1 b) i).length,⟨24,5,(it++pk o (aa0 (aa1 b) i)).map eLd,1⟩)]) (fun i=>o.length-i) 0 (aP _) ⟨O,O,O,O,O,O,by rw[aa0,pk,dp,cu];rfl,by rw[aa0,pk,dp,cu];rfl,bh⟩ ?_
 intro i s2 hi;refine H ?_;rw[hml];refine aV O ?_ ?_<;>intro h
 .have hlt:i<o.length:=cw h;clear h;obtain⟨u,hu⟩:=ay hlt;have hw:=dN i;have hbt:=aaA (m:=b) (i:=i) hb J;have hs:=aae (aa1 b) i;have hlen:=aa8 (aa1 b) i;have hrl:((it++pk o (aa0 (aa1 b) i)).map eLd).length<=1100:=by rw[aF,bQ,pk,aF];omega
  refine H ?_;refine ci O O (QOp.v O ⟨Int.natCast_nonneg _,show((i:Nat):Int)<=64 by omega⟩) ?_;refine H ?_;rw[hbt];by_cases hK:aa1 b i=true
  .rw[if_pos hK]at hs;rw[if_pos hK];have hrow:(it++pk o (aa0 (aa1 b) (i+1))).map eLd=(it++pk o (aa0 (aa1 b) i)).map eLd++[[.str u.nm,I u.m,I u.x,I u.z,I u.f]]:=by rw[ab3 hK hu,<-bg,bj];rfl
   have hg:g+(aa0 (aa1 b) (i+1)).length=g+(aa0 (aa1 b) i).length+1:=by rw[hs,bQ];rfl
   generalize (it++pk o (aa0 (aa1 b) i)).map eLd=R,g+(aa0 (aa1 b) i).length=G0 at *
   refine H ?_;refine bM [29,9] [7] 9 [7,8,9,10,11] aH aH ?_;refine aN hu ?_;refine H ?_;refine jQ O O O (bb 1 O O O O O O O O O O O ah O ⟨fU O,?_⟩);refine H ?_;refine jQ O O O (bO 1 O O O O O O O O O O O ah (by intro row hr;first|(simp at hr;subst hr;rfl)|(simp at hr;obtain⟨_,_,rfl⟩:=hr;rfl)|simp at hr) O O aS aS ⟨fU O,?_⟩);refine H ?_;refine⟨i+1,hlt,J,O,O,O,O,congrArg I hw,O,?_,?_,bh⟩
   .rw[hrow,hg];rfl
   .rw[hrow,hg];rfl
  .rw[if_neg hK]at hs;rw[if_neg hK];refine H ?_;exact⟨i+1,hlt,J,O,O,O,O,congrArg I hw,O,by rw[hs];rfl,by rw[hs];rfl,bh⟩
 have hie:i=o.length:=co h;clear h;subst hie;refine ao (Ghost.freezeD (k:=9) (k0:=7) (i:=0) (j:=8) (row:=[.str nm,I len,.sl (st.map eT),.str ln,I lm,I lx,I lz,I lf,.als 9 (g+(aa0 (aa1 b) o.length).length) 0 ((it++pk o (aa0 (aa1 b) o.length)).map eLd).length,I den,.sl (bl.map eBk),.sl (zn.map lB),I gm,I oh]) O O O O O O O O) ?_;exact cA
def aa6 (a:Nat):Nat->Nat
 |0=>0
 |i+1=>aa6 a i+(if aa1 a i=true then 1 else 0)
theorem aaB (a:Nat):∀i,aa6 a i<=i
 |0=>aY
 |i+1=>by
  have:=aaB a i;rw[aa6];split<;>omega
def ac0 (a b:Nat):Int:=bits .and .i64 (bits .and .i64 (bits .xor .i64 (a:Int) (b:Int)) (IntKind.i64.wrap (0-bits .xor .i64 (a:Int) (b:Int)))) (a:Int)
def ab5 (a b:Nat):Bool:=if aa6 a 10=aa6 b 10 then !decide (ac0 a b=0) else decide (aa6 a 10<aa6 b 10)
theorem aaZ {m i:Nat}(hm:m<8)(hi:i<10):bits .and .i64 ((m:Int)/2^((i:Nat):Int).toNat) 1=((if aa1 m i=true then 1 else 0:Nat):Int):=by
 have key:∀m:Fin 8,∀i:Fin 10,bits .and .i64 ((m.1:Int)/2^((i.1:Nat):Int).toNat) 1=((if aa1 m.1 i.1=true then 1 else 0:Nat):Int):=by decide +kernel
 exact key ⟨m,hm⟩ ⟨i,hi⟩
theorem aaQ (a b:Nat)(ha:a<8)(hb:b<8):aU 39 [I a,I b] (.bool (ab5 a b)):=by
 generalize hJ:ab5 a b=J0;rw[ab5]at hJ;refine aD Proofs.Tryz.func39 ?_;refine H ?_;refine aQ [(0,I a),(1,I b),(5,I ((0:Nat):Int)),(6,I ((0:Nat):Int)),(7,I ((0:Nat):Int))] [] ah ?_;intro s0;refine ai (fun i:Nat=>i<=10) (fun i=>[(0,I a),(1,I b),(5,I (aa6 a i:Nat)),(6,I (aa6 b i:Nat)),(7,I (i:Nat))]) (fun _=>[]) (fun i=>10-i) 0 (aP _) ah ?_;intro i s1 hi;refine D ?_ ?_<;>intro h
 .have hlt:i<10:=cw h;clear h;have hw:=dN i;have e1:=aaZ ha hlt;have e2:=aaZ hb hlt;have c1:=aaB a i;have c2:=aaB b i;have s1:aa6 a (i+1)=aa6 a i+(if aa1 a i=true then 1 else 0):=by rw[aa6]
  have s2:aa6 b (i+1)=aa6 b i+(if aa1 b i=true then 1 else 0):=by rw[aa6]
  have b1:(if aa1 a i=true then 1 else 0:Nat)<=1:=by split<;>omega
  have b2:(if aa1 b i=true then 1 else 0:Nat)<=1:=by split<;>omega
  generalize (if aa1 a i=true then 1 else 0:Nat)=x,(if aa1 b i=true then 1 else 0:Nat)=y at *
  have w1:IntKind.i64.wrap (((aa6 a i:Nat):Int)+((x:Nat):Int))=((aa6 a (i+1):Nat):Int):=by rw[s1,wrap_i64 J J];omega
  have w2:IntKind.i64.wrap (((aa6 b i:Nat):Int)+((y:Nat):Int))=((aa6 b (i+1):Nat):Int):=by rw[s2,wrap_i64 J J];omega
  refine cV 5 ?_;refine bL [] [] aH ?_;refine H ?_;refine ci O O (QOp.v O ⟨Int.natCast_nonneg _,show((i:Nat):Int)<=64 by omega⟩) ?_;refine H ?_;rw[e1,w1];refine H ?_;refine ci O O (QOp.v O ⟨Int.natCast_nonneg _,show((i:Nat):Int)<=64 by omega⟩) ?_;refine H ?_;rw[e2,w2];refine H ?_;exact⟨i+1,hlt,J,O,O,O,O,congrArg I hw,bh⟩
 .have hie:i=10:=co h;clear h;subst hie;by_cases hc:aa6 a 10=aa6 b 10
  .rw[if_pos hc]at hJ;have hci:((aa6 a 10:Nat):Int)=((aa6 b 10:Nat):Int):=by exact_mod_cast hc
   refine H ?_;rw[decide_eq_true hci];refine H ?_;subst hJ;exact fH O O O
  .rw[if_neg hc]at hJ;have hci:¬((aa6 a 10:Nat):Int)=((aa6 b 10:Nat):Int):=by exact_mod_cast hc
   have hl:decide (aa6 a 10<aa6 b 10)=decide (((aa6 a 10:Nat):Int)<((aa6 b 10:Nat):Int)):=decide_eq_decide.2 J;rw[hl]at hJ;refine H ?_;rw[decide_eq_false hci];refine H ?_;subst hJ;exact fH O O O
def aa_ (s:List UInt8):List PV:=[.str s]
theorem abY {o:List LR}{K:Nat->Bool}{i:Nat}{u:LR}(hK:K i=true)(hu:o[i]?=some u):(pk o (aa0 K (i+1))).map (·.nm)=(pk o (aa0 K i)).map (·.nm)++[u.nm]:=by rw[ab3 hK hu,bj];rfl
theorem aaS (o:List LR)(b:Nat)(hb:b<8)(ho:o.length<=3):aU 41 [.sl (o.map eLd),I b] (.sl (((pk o (aa0 (aa1 b) o.length)).map (·.nm)).map aa_)):=by
 have hml:(o.map eLd).length=o.length:=ap;refine aD Proofs.Tryz.func41 ?_;refine cV 2 ?_;refine ao (Ghost.nilreg (k:=1003) (t:=5) 9 1 1 O O) ?_;refine H ?_;refine aQ [(0,.sl (o.map eLd)),(1,I b),(5,.als 1003 1 0 0),(6,I ((0:Nat):Int))] [(1003,1,⟨9,1,[],1⟩)] ah ?_;intro s0;refine ai (fun i:Nat=>i<=o.length) (fun i=>[(0,.sl (o.map eLd)),(1,I b),(5,.als 1003 (1+(aa0 (aa1 b) i).length) 0 (((pk o (aa0 (aa1 b) i)).map (·.nm)).map aa_).length),(6,I (i:Nat))])
  (fun i=>[(1003,1+(aa0 (aa1 b) i).length,⟨9,1,((pk o (aa0 (aa1 b) i)).map (·.nm)).map aa_,1⟩)]) (fun i=>o.length-i) 0 (aP _) ah ?_
 intro i s1 hi;refine H ?_;rw[hml];refine aV O ?_ ?_<;>intro h
 .have hlt:i<o.length:=cw h;clear h;obtain⟨u,hu⟩:=ay hlt;have hw:=dN i;have hbt:=aaA (m:=b) (i:=i) hb J;have hs:=aae (aa1 b) i;have hlen:=aa8 (aa1 b) i;have hrl:(((pk o (aa0 (aa1 b) i)).map (·.nm)).map aa_).length<=3:=by rw[aF,aF,pk,aF];omega
  refine H ?_;refine ci O O (QOp.v O ⟨Int.natCast_nonneg _,show((i:Nat):Int)<=64 by omega⟩) ?_;refine H ?_;rw[hbt];by_cases hK:aa1 b i=true
  .rw[if_pos hK]at hs;rw[if_pos hK];have hrow:((pk o (aa0 (aa1 b) (i+1))).map (·.nm)).map aa_=((pk o (aa0 (aa1 b) i)).map (·.nm)).map aa_++[[.str u.nm]]:=by rw[abY hK hu,bj];rfl
   have hg:1+(aa0 (aa1 b) (i+1)).length=1+(aa0 (aa1 b) i).length+1:=by rw[hs,bQ];rfl
   generalize ((pk o (aa0 (aa1 b) i)).map (·.nm)).map aa_=R,1+(aa0 (aa1 b) i).length=G0 at *
   refine aN hu ?_;refine H ?_;refine aC (bb 1 O O O O O O O O O O O ah O ?_);refine H ?_;refine aC (bO 1 O O O O O O O O O O O ah fW O O aS aS ?_);refine H ?_;refine⟨i+1,hlt,J,O,O,?_,congrArg I hw,?_,bh⟩
   .rw[hrow,hg];rfl
   .rw[hrow,hg];rfl
  .rw[if_neg hK]at hs;rw[if_neg hK];refine H ?_;exact⟨i+1,hlt,J,O,O,by rw[hs];rfl,congrArg I hw,by rw[hs];rfl,bh⟩
 have hie:i=o.length:=co h;clear h;subst hie
 (repeat ((fail_if_success (with_reducible refine fh ?_));refine wV O ?_))
 refine ao (Ghost.takeD (k:=1003) (t:=4) O O O) ?_;exact cA
theorem abf (l:List (List UInt8))(hl:l.length<=1000000):aU 40 [.sl (l.map aa_),.sl (l.map aa_)] (.bool true):=by
 have hml:(l.map aa_).length=l.length:=ap;refine aD Proofs.Tryz.func40 ?_;refine H ?_;rw[hml,decide_eq_true (show(l.length:Int)=(l.length:Int) from O)];refine H ?_;refine aQ [(0,.sl (l.map aa_)),(1,.sl (l.map aa_)),(5,I ((0:Nat):Int))] [] ah ?_;intro s0;refine ai (fun i:Nat=>i<=l.length) (fun i=>[(0,.sl (l.map aa_)),(1,.sl (l.map aa_)),(5,I (i:Nat))]) (fun _=>[]) (fun i=>l.length-i) 0 (aP _) ah ?_;intro i s1 hi;refine H ?_;rw[hml];refine aV O ?_ ?_<;>intro h
 .have hlt:i<l.length:=cw h;clear h;obtain⟨u,hu⟩:=ay hlt;have hw:=dN i;refine cV 6 ?_;refine bL [] [] aH ?_;refine aN hu ?_;refine aN hu ?_;refine H ?_;rw[decide_eq_true (show u=u from O)];refine H ?_;exact⟨i+1,hlt,J,O,O,congrArg I hw,bh⟩
 .clear h;exact kU
theorem abP {n:Nat}(hn:n<=3):(∀l∈aaG n,l.length<=3/\∀i∈l,0<=i/\i<(n:Int))/\(aaG n).length=2^n:=by
 obtain rfl|rfl|rfl|rfl:n=0\/n=1\/n=2\/n=3:=J;all_goals decide +kernel
def aak (n:Nat):List Int:=aa0 (aa1 (2^n-1)) n
theorem abh {n:Nat}(hn:n<=3):(aaG n)[2^n-1]?=some (aak n):=by
 obtain rfl|rfl|rfl|rfl:n=0\/n=1\/n=2\/n=3:=J;all_goals decide +kernel
theorem abK {d:DKR}(hl:d.Len){x:List LR}(hx:d.s.it.length+x.length<=9223372036854775807):(aac d x).Len:=by
 obtain⟨h1,h2,h3⟩:=hl;obtain⟨a,b,c⟩:=h1;refine⟨⟨a,?_,c⟩,h2,h3⟩;show(d.s.it++x).length<=_;rw[bQ];exact hx
theorem abe {d:DKR}(hS:Mp d=true){x:List LR}(ok:(aac d x).Ok)(hE:xB (aac d x)=0){p:Rat}(hp:hq p 4):Slim (aac d x) p:=by
 have sm:=Pe hS;obtain⟨hk,-,-⟩:=Jv ok hE;simp only[Mp,Q9,NR,Pf,cm,kz,decide_eq_false_iff_not,ct]at hS;obtain⟨⟨⟨⟨⟨h1,h2⟩,-⟩,h3⟩,h4⟩,-⟩:=hS;have hn:d.s.st.length<=40:=hk.n;have hm:d.bl.length<=40:=hk.m;refine⟨ok,hE,show d.s.st.length<=6 by omega,show d.bl.length<=5 by omega,fun t ht=>?_,sm.b,hp⟩;have:=h2 t ht;simp only[EM,kz,decide_eq_false_iff_not]at this;have:=(hk.st t ht).n;omega
theorem ab2 {d:DKR}(hl:d.Len)(hS:Mp d=true){x:List LR}(hx:x.length<=10):(aac d x).Ok:=by
 have sm:=Pe hS;have hi:=sm.it;exact⟨abK hl J,fun b hb=>yV (sm.b b hb) Y⟩
theorem aaW {d:DKR}(hl:d.Len)(hS:Mp d=true)(o:List LR)(c:List Int)(hc:c.length<=210):∃W:List Int->(Bool × Int × List (Int × Int)) × Int,∀l:List Int,l.length<=10 ->
  aU 33 [.agg (fv (aac d (pk o l))),.sl (c.map eN)] (.tup [.agg (eV (W l).1),I (W l).2]):=by
 have key:∀l:List Int,∃W:(Bool × Int × List (Int × Int)) × Int,l.length<=10->aU 33 [.agg (fv (aac d (pk o l))),.sl (c.map eN)] (.tup [.agg (eV W.1),I W.2]):=fun l=>by
  by_cases h:l.length<=10
  .have ok:=ab2 hl hS (x:=pk o l) (by rw[pk,aF];exact h);obtain⟨W,hW,-⟩:=aba ok (fun hE _ hp=>abe hS ok hE hp) c hc;exact⟨W,fun _=>hW⟩
  .exact⟨((false,0,[]),0),fun g=>absurd g h⟩
 exact⟨fun l=>Classical.choose (key l),fun l=>Classical.choose_spec (key l)⟩
def aaC (W:List Int->(Bool × Int × List (Int × Int)) × Int)(l:List Int):Bool:=decide ((W l).2=0)&&(W l).1.1
def abm (o:List LR):Option (List Int)->List (List UInt8) × Int
 |some l=>((pk o l).map (·.nm),0)
 |none=>([],29)
def ab9 (e:Int)(F:Option (List Int))(o:List LR):List (List UInt8) × Int:=if e=0 then abm o F else([],e)
theorem aaT {α:Type}{K:α->Bool}{l:List α}{k:Nat}{x:α}(h:l[k]?=some x):(l.drop k).find? K=if K x=true then some x else(l.drop (k+1)).find? K:=by
 obtain⟨hl,rfl⟩:=cb h;rw[jm hl,List.find?_cons];cases K l[k]<;>simp
theorem abk (d:DKR)(c:List Int)(o:List LR)(hk:aU 55 [.agg (fv d)] (I (xB d)))(he:xB d≠0):aU 36 [.agg (fv d),.sl (c.map eN),.sl (o.map eLd)] (.tup [.sl [],I (xB d)]):=by
 generalize xB d=E at *
 obtain⟨s,den,bl,zn,gm,oh⟩:=d;refine aD Proofs.Tryz.func36 ?_;refine ax hk ?_;refine H ?_;rw[decide_eq_false he]
 (repeat ((fail_if_success (with_reducible refine fh ?_));refine wV O ?_))
 refine ao (Ghost.nilfs (t:=6) O) ?_;exact cA
theorem abj (d:DKR)(c:List Int)(o:List LR)(hk:aU 55 [.agg (fv d)] (I 0))(hb:200<c.length\/6<o.length):aU 36 [.agg (fv d),.sl (c.map eN),.sl (o.map eLd)] (.tup [.sl [],I 8]):=by
 have hmc:(c.map eN).length=c.length:=ap;have hmo:(o.map eLd).length=o.length:=ap;obtain⟨s,den,bl,zn,gm,oh⟩:=d;by_cases hc:200<c.length
 .refine aD Proofs.Tryz.func36 ?_;refine ax hk ?_;refine H ?_;rw[hmc,decide_eq_true (show(200:Int)<(c.length:Int) by omega)]
  (repeat ((fail_if_success (with_reducible refine fh ?_));refine wV O ?_))
  refine ao (Ghost.nilfs (t:=6) O) ?_;exact cA
 .refine aD Proofs.Tryz.func36 ?_;refine ax hk ?_;refine H ?_;rw[hmc,decide_eq_false (show ¬(200:Int)<(c.length:Int) by omega)];refine H ?_;rw[hmo,decide_eq_true (show(6:Int)<(o.length:Int) by omega)]
  (repeat ((fail_if_success (with_reducible refine fh ?_));refine wV O ?_))
  refine ao (Ghost.nilfs (t:=6) O) ?_;exact cA
set_option maxHeartbeats 4000000 in
theorem abl (d:DKR)(c:List Int)(o:List LR)(hk:aU 55 [.agg (fv d)] (I 0))(hc:c.length<=200)(ho:o.length<=3)(hi:d.s.it.length<=1000)(e:Int)
  (hf:aU 11 [.agg (fx (aac d (pk o (aak o.length))).s)] (I e)) (W:List Int->(Bool × Int × List (Int × Int)) × Int)
  (hW:∀l:List Int,l.length<=10->aU 33 [.agg (fv (aac d (pk o l))),.sl (c.map eN)] (.tup [.agg (eV (W l).1),I (W l).2])) :
  aU 36 [.agg (fv d),.sl (c.map eN),.sl (o.map eLd)] (.tup [.sl ((ab9 e ((aaG o.length).find? (aaC W)) o).1.map aa_),I (ab9 e ((aaG o.length).find? (aaC W)) o).2]):=by
 have hmc:(c.map eN).length=c.length:=ap;have hmo:(o.map eLd).length=o.length:=ap;have h94:=aaJ o.length ho;obtain⟨hin,hcl⟩:=abP ho;have hlast:=abh ho;obtain⟨t8,t1⟩:=aaF ho;have hwith:∀l∈aaG o.length,aU 95 [.agg (fv d),.sl (o.map eLd),.sl (l.map eN)] (.agg (fv (aac d (pk o l)))):=fun l hl =>
  Dp d o l hi (by have:=(hin l hl).1;omega) fun i hi=>(by have:=(hin l hl).2 i hi;omega)
 have hfull:=hwith _ (bC hlast);have hml:((aaG o.length).map aa9).length=2^o.length:=by rw[aF,hcl]
 have hw1:IntKind.i64.wrap (((2^o.length:Nat):Int)-1)=((2^o.length-1:Nat):Int):=by rw[wrap_i64 J J];omega
 obtain⟨V,hV⟩:∃V,V=ab9 e ((aaG o.length).find? (aaC W)) o:=⟨_,O⟩;rw[<-hV];rw[ab9]at hV;generalize aak o.length=fczz at *
 generalize hC:aaG o.length=CSzz at *
 generalize 2^o.length=N at *
 obtain⟨⟨nm,len,st,⟨ln,lm,lx,lz,lf⟩,it⟩,den,bl,zn,gm,oh⟩:=d;simp only[aac]at hwith hfull hf hW;refine aD Proofs.Tryz.func36 ?_;refine ax hk ?_;refine H ?_;rw[hmc,decide_eq_false (show ¬(200:Int)<(c.length:Int) by omega)];refine H ?_;rw[hmo,decide_eq_false (show ¬(6:Int)<(o.length:Int) by omega)];refine H ?_;rw[hmo];refine oJ O O O h94 O O ?_;refine cV 9 ?_;refine bL [] [] aH ?_;refine H ?_;rw[hml,hw1];refine tp O O O O O O O hlast O ?_;refine G hfull ?_;refine ax hf ?_;refine H ?_;by_cases he:e=0
 .subst he;rw[if_pos O]at hV;refine H ?_;rw[hml];refine aQ [(1,.sl (c.map eN)),(2,.sl (o.map eLd)),(3,.ptr 3 1 0 0),(46,.sl (CSzz.map aa9)),(47,I N),(48,I ((0:Nat):Int))] [(3,1,⟨56,14,[fv ⟨⟨nm,len,st,⟨ln,lm,lx,lz,lf⟩,it⟩,den,bl,zn,gm,oh⟩],2⟩)] ah ?_;intro s0;refine ai (fun k:Nat=>k<=N/\(CSzz.drop k).find? (aaC W)=CSzz.find? (aaC W)) (fun k=>[(1,.sl (c.map eN)),(2,.sl (o.map eLd)),(3,.ptr 3 1 0 0),(46,.sl (CSzz.map aa9)),(47,I N),(48,I (k:Nat))])
   (fun _=>[(3,1,⟨56,14,[fv ⟨⟨nm,len,st,⟨ln,lm,lx,lz,lf⟩,it⟩,den,bl,zn,gm,oh⟩],2⟩)]) (fun k=>N-k) 0 ⟨aP _,by rw[fO]⟩ ah ?_
  rintro k s1 ⟨hkN,hfd⟩;refine D ?_ ?_<;>intro h
  .have hlt:k<N:=cw h;clear h;obtain⟨l,hl⟩:=ay (show k<CSzz.length by omega);have hlm:=bC hl;obtain⟨hl3,hli⟩:=hin l hlm;have w1:=hwith l hlm;have j1zz:=hW l J;have hw:=dN k;have hok:aaC W l=(decide ((W l).2=0)&&(W l).1.1):=O;rw[aaT hl]at hfd;generalize aaC W l=B at *
   generalize W l=Y0 at *
   obtain⟨⟨Yo,Yi,Yl⟩,Ye⟩:=Y0;simp only at *
   refine aN hl ?_;refine G w1 ?_;refine G j1zz ?_;refine H ?_;by_cases h1:Ye=0
   .subst h1;cases Yo with
    |false =>
     rw[show B=false by rw[hok];rfl,if_neg Y]at hfd;refine H ?_;exact⟨k+1,⟨hlt,hfd⟩,J,O,O,O,O,O,congrArg I hw,O,bh⟩
    |true =>
     rw[show B=true by rw[hok];rfl,if_pos O]at hfd;rw[<-hfd,abm]at hV;subst hV;have hll:(l.map eN).length=l.length:=ap;have hli2:∀i∈l,0<=i/\i<(o.length:Int):=hli;refine cV 18 ?_;refine ao (Ghost.nilreg (k:=1003) (t:=15) 9 1 1 O O) ?_;refine H ?_;rw[hll];refine aQ [(2,.sl (o.map eLd)),(15,.als 1003 ((s1.own 1003).1+1) 0 0),(67,.sl (l.map eN)),(68,I l.length),(69,I ((0:Nat):Int))] [(1003,(s1.own 1003).1+1,⟨9,1,[],1⟩)] ah ?_;generalize (s1.own 1003).1+1=g3;intro s2;refine ai (fun j:Nat=>j<=l.length) (fun j=>[(2,.sl (o.map eLd)),(15,.als 1003 (g3+j) 0 (((pk o (l.take j)).map (·.nm)).map aa_).length),(67,.sl (l.map eN)),(68,I l.length),(69,I (j:Nat))])
      (fun j=>[(1003,g3+j,⟨9,1,((pk o (l.take j)).map (·.nm)).map aa_,1⟩)]) (fun j=>l.length-j) 0 (aP _) ah ?_
     intro j s3 hj;refine D ?_ ?_<;>intro h
     .have hltj:j<l.length:=cw h;clear h;obtain⟨x,hx⟩:=ay hltj;obtain⟨x0,x1⟩:=hli2 x (bC hx);obtain⟨q,rfl⟩:=Int.eq_ofNat_of_zero_le x0;obtain⟨u,hu⟩:=ay (show q<o.length by omega);have hrow:((pk o (l.take (j+1))).map (·.nm)).map aa_=((pk o (l.take j)).map (·.nm)).map aa_++[[.str u.nm]]:=by rw[ab4 hx hu,bj,bj];rfl
      have hrl:(((pk o (l.take j)).map (·.nm)).map aa_).length<=3:=by rw[aF,aF,pk,aF,bc];omega
      have hwj:=dN j;have hb:g3+(j+1)=g3+j+1:=O;generalize ((pk o (l.take j)).map (·.nm)).map aa_=R at *
      refine aN hx ?_;refine H ?_;refine ci O O (lK (n:=((q:Nat):Int)) O O O O O J hu O) ?_;refine H ?_;refine aC (bb 1 O O O O O O O O O O O ah O ?_);refine H ?_;refine aC (bO 1 O O O O O O O O O O O ah fW O O aS aS ?_);refine H ?_;refine⟨j+1,hltj,J,O,?_,O,O,congrArg I hwj,?_,bh⟩
      .rw[hrow,hb];rfl
      .rw[hrow,hb];rfl
     .have hje:j=l.length:=co h;clear h;subst hje;rw[bI]
      (repeat ((fail_if_success (with_reducible refine fh ?_));refine wV O ?_))
      refine ao (Ghost.takeD (k:=1003) (t:=6) O O O) ?_;exact cA
   .rw[show B=false by rw[hok,decide_eq_false h1];rfl,if_neg Y]at hfd;rw[decide_eq_false h1];refine H ?_;exact⟨k+1,⟨hlt,hfd⟩,J,O,O,O,O,O,congrArg I hw,O,bh⟩
  .have hke:k=N:=co h;clear h;subst hke;rw[show CSzz.drop k=[] from jn J,List.find?_nil]at hfd;rw[<-hfd,abm]at hV;subst hV
   (repeat ((fail_if_success (with_reducible refine fh ?_));refine wV O ?_))
   refine ao (Ghost.nilfs (t:=6) O) ?_;exact cA
 .rw[if_neg he]at hV;subst hV;rw[decide_eq_false he]
  (repeat ((fail_if_success (with_reducible refine fh ?_));refine wV O ?_))
  refine ao (Ghost.nilfs (t:=6) O) ?_;exact cA
def aa3 (K:Nat->Bool):Nat->Int
 |0 => -1
 |m+1=>if K m=true/\(aa3 K m<0\/ab5 m (aa3 K m).toNat=true) then((m:Nat):Int) else aa3 K m
theorem aaq (K:Nat->Bool):∀m,aa3 K m = -1\/∃b:Nat,aa3 K m=(b:Int)/\b<m
 |0 => .inl rfl
 |m+1=>by
  rw[aa3];split
  .exact .inr ⟨m,O,Nat.lt_succ_self m⟩
  .rcases aaq K m with h|⟨b,h,hb⟩
   .exact .inl h
   .exact .inr ⟨b,h,J⟩
theorem aaj {K L:Nat->Bool}:∀ {m:Nat},(∀b,b<m->K b=L b)->aa3 K m=aa3 L m
 |0,_=>rfl
 |m+1,h=>by rw[aa3,aa3,aaj fun b hb=>h b J,h m J]
def abr:Nat->List Nat
 |0=>[0]
 |1=>[0,1]
 |2=>[0,1,2,3]
 |_=>[0,1,2,4,3,5,6,7]
theorem ab1 {n:Nat}(hn:n<=3):aaG n=(abr n).map (fun b=>aa0 (aa1 b) n)/\∀b∈abr n,b<2^n:=by
 obtain rfl|rfl|rfl|rfl:n=0\/n=1\/n=2\/n=3:=J;all_goals decide +kernel
def aax (f0 f1 f2 f3 f4 f5 f6 f7zz:Bool):Nat->Bool
 |0=>f0|1=>f1|2=>f2|3=>f3|4=>f4|5=>f5|6=>f6 | _=>f7zz
def aad (K:Nat->Bool)(n:Nat):Prop:=(aa3 K (2^n)<0/\(abr n).find? K=none)\/(0<=aa3 K (2^n)/\(abr n).find? K=some (aa3 K (2^n)).toNat)
instance (K:Nat->Bool) (n:Nat):Decidable (aad K n):=inferInstanceAs (Decidable (_\/_))
theorem aaR:∀f0 f1 f2 f3 f4 f5 f6 f7zz:Bool,aad (aax f0 f1 f2 f3 f4 f5 f6 f7zz) 0/\aad (aax f0 f1 f2 f3 f4 f5 f6 f7zz) 1/\aad (aax f0 f1 f2 f3 f4 f5 f6 f7zz) 2/\aad (aax f0 f1 f2 f3 f4 f5 f6 f7zz) 3:=by decide +kernel
theorem aar {α:Type}{K L:α->Bool}:∀ {l:List α},(∀x∈l,K x=L x)->l.find? K=l.find? L
 |[],_=>rfl
 |x::l,h=>by rw[List.find?_cons,List.find?_cons,h x ap,aar fun y hy=>h y (ff x hy)]
theorem ab0 (K:Nat->Bool){n:Nat}(hn:n<=3):aad K n:=by
 obtain⟨t8,-⟩:=aaF hn;have he:∀b,b<2^n->K b=aax (K 0) (K 1) (K 2) (K 3) (K 4) (K 5) (K 6) (K 7) b:=fun b hb=>by
  obtain rfl|rfl|rfl|rfl|rfl|rfl|rfl|rfl:b=0\/b=1\/b=2\/b=3\/b=4\/b=5\/b=6\/b=7:=J;all_goals rfl
 have hb:=aaR (K 0) (K 1) (K 2) (K 3) (K 4) (K 5) (K 6) (K 7);have key:aad (aax (K 0) (K 1) (K 2) (K 3) (K 4) (K 5) (K 6) (K 7)) n:=by
  obtain rfl|rfl|rfl|rfl:n=0\/n=1\/n=2\/n=3:=J
  .exact hb.1
  .exact hb.2.1
  .exact hb.2.2.1
  .exact hb.2.2.2
 rw[aad]at key ⊢;rw[aaj he,aar fun b hb=>he b ((ab1 hn).2 b hb)];exact key
theorem ab6 (J0:List Int->Bool){n:Nat}(hn:n<=3):(aa3 (fun b=>J0 (aa0 (aa1 b) n)) (2^n) = -1/\(aaG n).find? J0=none)\/∃b:Nat,aa3 (fun b=>J0 (aa0 (aa1 b) n)) (2^n)=(b:Int)/\b<2^n/\(aaG n).find? J0=some (aa0 (aa1 b) n):=by
 have hf:(aaG n).find? J0=((abr n).find? fun b=>J0 (aa0 (aa1 b) n)).map fun b=>aa0 (aa1 b) n:=by rw[(ab1 hn).1,List.find?_map];rfl
 rcases aaq (fun b=>J0 (aa0 (aa1 b) n)) (2^n) with h|⟨b,h,hb⟩
 .rcases ab0 (fun b=>J0 (aa0 (aa1 b) n)) hn with⟨-,g⟩|⟨g,-⟩
  .exact .inl ⟨h,by rw[hf,g];rfl⟩
  .omega
 .rcases ab0 (fun b=>J0 (aa0 (aa1 b) n)) hn with⟨g,-⟩|⟨-,g⟩
  .omega
  .refine .inr ⟨b,h,hb,?_⟩;rw[hf,g,h];rfl
theorem dec_Cr {c:PV}(h:argW lay.get 57 c):∃l:List Int,c=.sl (l.map eN)/\l.length<=9223372036854775807:=by
 obtain⟨l,e,hl,-⟩:=Bw (n:=10) (show o0 lay.get 12 57 [c] from h);cases e;exact⟨l,O,hl⟩
theorem dec_Ls {c:PV}(h:argW lay.get 25 c):∃o:List LR,c=.sl (o.map eLd)/\o.length<=9223372036854775807:=by
 obtain⟨rows,e,hl,hr⟩:=oO (show o0 lay.get 12 25 [c] from h) O;cases e;obtain⟨o,rfl,-⟩:=jw (f:=eLd) (p:=fun _=>True) fun row hrow=>by
  obtain⟨a,rfl⟩:=Td (n:=9) (hr row hrow);exact⟨a,O,bh⟩
 rw[aF]at hl;exact⟨o,O,B9 hl⟩
def abN (c o:Nat):Bool:=decide ((2<c/\c<=200)\/210<c\/(3<o/\o<=6)\/9<o)
set_option maxHeartbeats 8000000 in
theorem helps_law (d:DKR)(hl:d.Len)(c:List Int)(hcl:c.length<=9223372036854775807)(o:List LR)(hol:o.length<=9223372036854775807):aU 7 [.agg (fv d),.sl (c.map eN),.sl (o.map eLd)] (.bool true):=by
 have a:=DC;have s:=NQ d;have hml:(c.map eN).length=c.length:=ap;have hmo:(o.map eLd).length=o.length:=ap;have sm0:=@Pe d;have hk0:=fun h:Mp d=true=>pC d ((Pe h).ok hl);have r0:=fun h:Mp d=true=>CM d ((Pe h).ok hl);have cp0:=fun h:Mp d=true=>Hf d (Pe h);cases hS:Mp d with
 |false =>
  rw[hS]at s;refine aD Proofs.Tryz.func7 ?_;refine ax a ?_;refine ax s ?_;exact kU
 |true =>
 rw[hS]at s;have sm:=sm0 hS;have hk:=hk0 hS;have r:=r0 hS;have cp:=cp0 hS;clear hk0 r0 cp0 sm0;have ship:∀x:List LR,x.length<=10->(aac d x).s.Len:=fun x hx=>(ab2 hl hS hx).len.s;obtain⟨W,hW⟩:∃W:List Int->(Bool × Int × List (Int × Int)) × Int,c.length<=210->∀l:List Int,l.length<=10->aU 33 [.agg (fv (aac d (pk o l))),.sl (c.map eN)] (.tup [.agg (eV (W l).1),I (W l).2]):=by
  by_cases h:c.length<=210
  .obtain⟨W,hW⟩:=aaW hl hS o c h;exact⟨W,fun _=>hW⟩
  .exact⟨fun _=>((false,0,[]),0),fun g=>absurd g h⟩
 have e1:=abk d c o hk;have e2:=fun h0:xB d=0=>abj d c o (h0▸hk);have e3:=fun h0:xB d=0=>abl d c o (h0▸hk);have rw3:=fun b hb ho=>abd d o b hb ho (bK sm.st Y) (bK sm.it Y) (bK sm.bl Y) (bK sm.zn Y) (fun t ht=>⟨bK (sm.L t ht).1 Y,bK (sm.L t ht).2 Y⟩) (fun b hb=>yV (sm.b b hb) Y);have hit:d.s.it.length<=1000:=bK sm.it Y;obtain⟨s',den,bl,zn,gm,oh⟩:=d;refine aD Proofs.Tryz.func7 ?_;refine ax a ?_;refine ax s ?_;refine H ?_;refine pZ 100 [(1,.sl (c.map eN)),(2,.sl (o.map eLd)),(3,.ptr 3 1 0 0),(49,.bool (abN c.length o.length))] [(3,1,⟨56,14,[fv ⟨s',den,bl,zn,gm,oh⟩],2⟩)] ?_ ?_
 .clear e1 e2 e3 rw3 hW ship hk r cp hit sm
  repeat' (first|refine iQ O ?_|refine fq O O (fun h=>?_) (fun h=>?_)|refine fp O O (fun h=>?_) (fun h=>?_)|refine fm O O (fun h=>?_) (fun h=>?_))
  all_goals refine⟨O,O,O,congrArg PV.bool ?_,O,bh⟩
  all_goals (rw[abN];refine zi ?_)
  all_goals (simp only[decide_eq_true_eq,decide_eq_false_iff_not,hml,hmo]at *)
  all_goals (first|omega|(simp only[true_iff];omega)|(simp only[eu,false_iff];omega))
 intro s0;refine H ?_;cases hbad:abN c.length o.length with
 |true =>
  exact kU
 |false =>
 have hc:=bS hbad;clear hbad;refine H ?_;refine aQ [(1,.sl (c.map eN)),(2,.sl (o.map eLd)),(3,.ptr 3 1 0 0),(7,I ((0:Nat):Int))] [(3,1,⟨56,14,[fv ⟨s',den,bl,zn,gm,oh⟩],2⟩)] ah ?_;intro s1;refine ai (fun i:Nat=>i<=o.length) (fun i=>[(1,.sl (c.map eN)),(2,.sl (o.map eLd)),(3,.ptr 3 1 0 0),(7,I (i:Nat))]) (fun _=>[(3,1,⟨56,14,[fv ⟨s',den,bl,zn,gm,oh⟩],2⟩)]) (fun i=>o.length-i) 0 (aP _) ah ?_;intro i s2 hi;refine H ?_;rw[hmo];refine aV O ?_ ?_<;>intro h
 .have hlt:i<o.length:=cw h;clear h;obtain⟨u,hu⟩:=ay hlt;have hw:=dN i;refine aN hu ?_;refine D ?_ ?_<;>intro h
  .exact kU
  .clear h;refine H ?_;exact⟨i+1,hlt,J,O,O,O,congrArg I hw,O,bh⟩
 clear h;by_cases hE:xB ⟨s',den,bl,zn,gm,oh⟩=0
 .rw[hE]at r;specialize e2 hE;specialize e3 hE;by_cases hbig:200<c.length\/6<o.length
  .have h36:=e2 hbig;clear e1 e3 rw3 hW ship hk
   (refine cV 10 ?_;refine aR 6 ?_)
   refine G cp ?_;refine H ?_;refine aC (bb 1 O O O O O O O O O O O ah O ?_);refine H ?_;refine aC (bO 1 O O O O O O O O O O O ah (by intro row hr;obtain⟨p,_,rfl⟩:=aW.1 hr;rfl) O O aS aS ?_);refine H ?_;refine br O (gF (Ghost.takeD (k:=67) (t:=69) O O O) ?_)
   (refine oX (gC O (h36) O ?_ O) ?_;.repeat' constructor)
   refine aT ?_;refine ax r ?_;refine H ?_;rw[hml];by_cases hb:200<c.length
   .rw[decide_eq_true (show(200:Int)<(c.length:Int) by omega)];exact kU
   .rw[decide_eq_false (show ¬(200:Int)<(c.length:Int) by omega)];refine H ?_;rw[hmo,decide_eq_true (show(6:Int)<(o.length:Int) by omega)];exact kU
  .have hc2:c.length<=2:=J;have ho3:o.length<=3:=J;obtain⟨t8,t1⟩:=aaF ho3;have hW:=hW J;have hlen:∀l:List Int,l.length<=10->(pk o l).length<=10:=fun l h=>by rw[pk,aF];exact h
   have hfl:(aak o.length).length<=10:=by have:=aa8 (aa1 (2^o.length-1)) o.length;rw[aak];omega
   have h11:=pA _ (ship _ (hlen _ hfl));have h37:=CL _ (ship _ (hlen _ hfl));have h36:=e3 J ho3 hit _ h11 W hW;have hbest:=ab6 (aaC W) ho3;have hfull:aa0 (aa1 (2^o.length-1)) o.length=aak o.length:=O;have hsh:IntKind.i64.wrap (1*2^((o.length:Nat):Int).toNat)=((2^o.length:Nat):Int):=by
    rw[be,Int.one_mul,show((2:Int)^o.length)=((2^o.length:Nat):Int) by push_cast;rfl,wrap_i64 J J]
   have hw1:IntKind.i64.wrap (((2^o.length:Nat):Int)-1)=((2^o.length-1:Nat):Int):=by rw[wrap_i64 J J];omega
   have rfull:=rw3 (2^o.length-1) J ho3;have rwb:=fun b (hb:b<2^o.length)=>rw3 b (gU hb t8) ho3;rw[hfull]at rfull;generalize f7 (aac ⟨s',den,bl,zn,gm,oh⟩ (pk o (aak o.length))).s=e at *
   obtain⟨V,hV⟩:∃V,V=ab9 e ((aaG o.length).find? (aaC W)) o:=⟨_,O⟩;rw[<-hV]at h36;rw[ab9]at hV;clear e1 e2 e3 rw3 hk h11 ship hfull;generalize hN:2^o.length=N at *
   generalize aak o.length=fczz at *
   obtain⟨nm,len,st,⟨ln,lm,lx,lz,lf⟩,it⟩:=s';simp only[aac]at hW h37 rfull rwb
   (refine cV 10 ?_;refine aR 6 ?_)
   refine G cp ?_;refine H ?_;refine aC (bb 1 O O O O O O O O O O O ah O ?_);refine H ?_;refine aC (bO 1 O O O O O O O O O O O ah (by intro row hr;obtain⟨p,_,rfl⟩:=aW.1 hr;rfl) O O aS aS ?_);refine H ?_;refine br O (gF (Ghost.takeD (k:=67) (t:=69) O O O) ?_)
   (refine oX (gC O (h36) O ?_ O) ?_;.repeat' constructor)
   refine aT ?_;refine ax r ?_;refine H ?_;rw[hml,decide_eq_false (show ¬(200:Int)<(c.length:Int) by omega)];refine H ?_;rw[hmo,decide_eq_false (show ¬(6:Int)<(o.length:Int) by omega)];refine H ?_;refine cV 15 ?_;refine bL [] [] aH ?_;refine H ?_;rw[hmo];refine ci O O (QOp.v O ⟨Int.natCast_nonneg _,show((o.length:Nat):Int)<=64 by omega⟩) ?_;refine H ?_;rw[hsh];refine H ?_;rw[hw1];refine oJ O O O rfull O O ?_;refine ax h37 ?_;refine H ?_;by_cases he:e=0
   .subst he;rw[if_pos O]at hV;refine H ?_;refine aQ [(1,.sl (c.map eN)),(2,.sl (o.map eLd)),(3,.ptr 3 1 0 0),(8,.sl (V.1.map aa_)),(9,I V.2),(11,I (-1)),(12,I ((0:Nat):Int))] [(3,1,⟨56,14,[fv ⟨⟨nm,len,st,⟨ln,lm,lx,lz,lf⟩,it⟩,den,bl,zn,gm,oh⟩],2⟩)] ah ?_;intro s3;refine ai (fun m:Nat=>m<=N) (fun m=>[(1,.sl (c.map eN)),(2,.sl (o.map eLd)),(3,.ptr 3 1 0 0),(8,.sl (V.1.map aa_)),(9,I V.2),(11,I (aa3 (fun b=>aaC W (aa0 (aa1 b) o.length)) m)),(12,I (m:Nat))])
     (fun _=>[(3,1,⟨56,14,[fv ⟨⟨nm,len,st,⟨ln,lm,lx,lz,lf⟩,it⟩,den,bl,zn,gm,oh⟩],2⟩)]) (fun m=>N-m) 0 (aP _) ah ?_
    intro m s4 hm;refine H ?_;rw[hmo];refine ci O O (QOp.v O ⟨Int.natCast_nonneg _,show((o.length:Nat):Int)<=64 by omega⟩) ?_;refine H ?_;rw[hsh];refine aV O ?_ ?_<;>intro h
    .have hlt:m<N:=cw h;clear h;have w1:=rwb m hlt;have hpl:=aa8 (aa1 m) o.length;have j1zz:=hW (aa0 (aa1 m) o.length) J;have hw:=dN m;have hst:aa3 (fun b=>aaC W (aa0 (aa1 b) o.length)) (m+1)=if aaC W (aa0 (aa1 m) o.length)=true/\(aa3 (fun b=>aaC W (aa0 (aa1 b) o.length)) m<0\/ab5 m (aa3 (fun b=>aaC W (aa0 (aa1 b) o.length)) m).toNat=true) then((m:Nat):Int) else aa3 (fun b=>aaC W (aa0 (aa1 b) o.length)) m:=by rw[aa3]
     have hbi:=aaq (fun b=>aaC W (aa0 (aa1 b) o.length)) m;have hok:aaC W (aa0 (aa1 m) o.length)=(decide ((W (aa0 (aa1 m) o.length)).2=0)&&(W (aa0 (aa1 m) o.length)).1.1):=O;generalize aa3 (fun b=>aaC W (aa0 (aa1 b) o.length)) m=B0,aaC W (aa0 (aa1 m) o.length)=Q at *
     generalize W (aa0 (aa1 m) o.length)=Y0 at *
     obtain⟨⟨Yo,Yi,Yl⟩,Ye⟩:=Y0;simp only at *
     refine G w1 ?_;refine G j1zz ?_;refine H ?_;by_cases h1:Ye=0
     .subst h1;cases Yo with
      |false =>
       rw[show Q=false by rw[hok];rfl,if_neg (fun g=>absurd g.1 Y)]at hst;refine H ?_;exact⟨m+1,hlt,J,O,O,O,O,O,by rw[hst];rfl,congrArg I hw,O,bh⟩
      |true =>
       have hQ:Q=true:=by rw[hok];rfl
       rcases hbi with hbi|⟨b,hbi,hbm⟩
       .subst hbi;rw[if_pos ⟨hQ,.inl Y⟩]at hst;refine H ?_;exact⟨m+1,hlt,J,O,O,O,O,O,by rw[hst];rfl,congrArg I hw,O,bh⟩
       .subst hbi;rw[be]at hst;have hbf:=aaQ m b J J;refine H ?_;try rw[decide_eq_false (show ¬((b:Nat):Int)<0 by omega)]
        refine ax hbf ?_;cases hB:ab5 m b with
        |true =>
         rw[if_pos ⟨hQ,.inr hB⟩]at hst;refine H ?_;exact⟨m+1,hlt,J,O,O,O,O,O,by rw[hst];rfl,congrArg I hw,O,bh⟩
        |false =>
         rw[if_neg (fun g=>by rcases g.2 with g|g;omega;rw[hB]at g;cases g)]at hst;refine H ?_;exact⟨m+1,hlt,J,O,O,O,O,O,by rw[hst];rfl,congrArg I hw,O,bh⟩
     .rw[show Q=false by rw[hok,decide_eq_false h1];rfl,if_neg (fun g=>absurd g.1 Y)]at hst;rw[decide_eq_false h1];refine H ?_;exact⟨m+1,hlt,J,O,O,O,O,O,by rw[hst];rfl,congrArg I hw,O,bh⟩
    .have hme:m=N:=co h;clear h;subst hme;rcases hbest with⟨g1,g2⟩|⟨b,g1,g2,g3⟩
     .rw[g1];rw[g2,abm]at hV;subst hV;exact kU
     .rw[g1];rw[g3,abm]at hV;subst hV;have h41:=aaS o b J ho3;have hpl:=aa8 (aa1 b) o.length;have h40:=abf ((pk o (aa0 (aa1 b) o.length)).map (·.nm)) (by rw[aF,pk,aF];omega);generalize ((pk o (aa0 (aa1 b) o.length)).map (·.nm)).map aa_=T at *
      refine H ?_;try rw[decide_eq_false (show ¬((b:Nat):Int)<0 by omega)]
      refine G h41 ?_;refine ax h40 ?_;exact kU
   .rw[if_neg he]at hV;subst hV;rw[decide_eq_false he];refine H ?_;rw[decide_eq_true (show e=e from O)];exact kU
 .have h36:=e1 hE;clear e1 e2 e3 rw3 hW ship hk;generalize xB ⟨s',den,bl,zn,gm,oh⟩=E at *
  (refine cV 10 ?_;refine aR 6 ?_)
  refine G cp ?_;refine H ?_;refine aC (bb 1 O O O O O O O O O O O ah O ?_);refine H ?_;refine aC (bO 1 O O O O O O O O O O O ah (by intro row hr;obtain⟨p,_,rfl⟩:=aW.1 hr;rfl) O O aS aS ?_);refine H ?_;refine br O (gF (Ghost.takeD (k:=67) (t:=69) O O O) ?_)
  (refine oX (gC O (h36) O ?_ O) ?_;.repeat' constructor)
  refine aT ?_;refine ax r ?_;refine H ?_;rw[decide_eq_false hE];refine H ?_;try rw[decide_eq_false hE]
  refine H ?_;try rw[decide_eq_false hE]
  refine H ?_;rw[decide_eq_true (show E=E from O)];exact kU
end Go.Pv
