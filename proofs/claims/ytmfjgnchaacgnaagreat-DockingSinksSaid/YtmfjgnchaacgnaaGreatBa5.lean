/- Texts of one hand, gathered: FdO, FdP, FdQ, FdR, FmN, FdSn, FdUn, FdM, FsA, FsB, FsD, PvXw, FsE, FwA, FwB, FcLd, FwC, FwD, Shelg, FwE, FwF, FwG, PvFz, FuE, FwH, FsF, FwI, FuF, FwJ, DkA, DkC, DkE, DkF, DkG, DkH, DkD, DkJ, DkN, DkV, DkO, DkP, DkQ, RaA, FwKa, DkB, DkK, PvLc, DkL, DkM, DkR, DkI, DkS, DkT, DkW, DlH, DkX. -/
import Derived.Test.YtmfjgnchaacgnaaGreatBa4
import Derived.Shelf.Spec.SlicesGrow
import Derived.Test.YtmfjgnchaacgnaaGreatProg
set_option maxRecDepth 20000
set_option linter.unusedSectionVars false
set_option linter.unusedSimpArgs false
set_option linter.unusedVariables false
set_option linter.unnecessarySimpa false
set_option maxHeartbeats 2000000
namespace Go.Pv
attribute [local irreducible] PWP POps PQuiet PSem aw aq ai aj
open Go.Proofs
theorem KD {P U V S:List BN}{i:Nat}{u:BN}(h:U[i]? = some u):((P++U++V++S).map bD)[P.length+i]? = some (bD u):=by
 have hi:=(bb h).1;rw[List.getElem?_map,List.append_assoc,List.append_assoc,List.getElem?_append_right J,show P.length+i-P.length=i by omega,List.getElem?_append_left J,h];rfl
theorem KE {P U V S:List BN}{i:Nat}{v:BN}(h:V[i]? = some v):((P++U++V++S).map bD)[P.length+U.length+i]? = some (bD v):=by
 have hi:=(bb h).1;rw[List.getElem?_map,List.append_assoc,List.getElem?_append_right (by rw[List.length_append];omega),show P.length+U.length+i-(P++U).length=i by rw[List.length_append];omega,List.getElem?_append_left J,h];rfl
theorem yI (X Y0:Nat)(h:X+Y0<=4000):IntKind.i64.wrap (IntKind.u64.wrap (IntKind.i64.wrap (((X:Nat):Int)+((Y0:Nat):Int)))/2^Int.toNat 1)=(((X+Y0)/2:Nat):Int):=by
 rw[wrap_i64 (n:=((X:Nat):Int)+((Y0:Nat):Int)) J J,wrap_u64 J J,show((2:Int)^Int.toNat 1)=2 by decide,wrap_i64 J J];omega
theorem Dt {V:List BN}{u:BN}{t:Nat}(h:∀y∈V.take t,bz y<bz u)(c:Rat):cX bz c (V.take t++u::V.drop t)=cX bz c ([u]++V):=by
 have e:V.take t++u::V.drop t=(V.take t++[u])++V.drop t:=ah;rw[e,a_,oW (fun x hx y hy=>by rw[List.mem_singleton.1 hy];exact h x hx),<-a_,List.append_assoc,List.take_append_drop]
theorem Du {U:List BN}{v:BN}{t:Nat}(h:∀y∈U.drop t,bz v<bz y)(c:Rat):cX bz c (U.take t++v::U.drop t)=cX bz c (U++[v]):=by
 have e:U.take t++v::U.drop t=U.take t++([v]++U.drop t):=ah;rw[e,a_,oW (fun x hx y hy=>by rw[List.mem_singleton.1 hx];exact h y hy),<-a_,<-List.append_assoc,List.take_append_drop]
def fU (P V:List BN)(u:BN)(S:List BN)(r:Nat):List BN:=P++(V.take r++u::V.drop r)++S
theorem og {P V S:List BN}{u v:BN}{r:Nat}(h:V[r]? = some v):fU P V u S r=(P++V.take r)++u::([]++v::(V.drop (r+1)++S)):=by
 rw[fU,f9 h];simp[List.append_assoc]
theorem jZ {P V S:List BN}{u v:BN}{r:Nat}(h:V[r]? = some v):fU P V u S (r+1)=(P++V.take r)++v::([]++u::(V.drop (r+1)++S)):=by
 rw[fU,iV h];simp[List.append_assoc]
theorem vA {P V S:List BN}{u v:BN}{r:Nat}(h:V[r]? = some v):((fU P V u S r).map bD)[P.length+r]? = some (bD u):=by
 have hr:=(bb h).1;have e:=sE (P++V.take r) [] (V.drop (r+1)++S) u v;rw[show(P++V.take r).length=P.length+r by simp;omega,<-og h]at e;rw[List.getElem?_map,e];rfl
theorem vB {P V S:List BN}{u v:BN}{r:Nat}(h:V[r]? = some v):((fU P V u S r).map bD)[P.length+r+1]? = some (bD v):=by
 have hr:=(bb h).1;have e:=sG (P++V.take r) [] (V.drop (r+1)++S) u v;rw[show(P++V.take r).length=P.length+r by simp;omega,<-og h]at e;rw[List.getElem?_map,show P.length+r+1=P.length+r+1+([]:List BN).length from O,e];rfl
theorem DY {P V S:List BN}{u v:BN}{r:Nat}(h:V[r]? = some v):((fU P V u S r).set (P.length+r) v).set (P.length+r+1) u=fU P V u S (r+1):=by
 have hr:=(bb h).1;have e:=tt (P++V.take r) [] (V.drop (r+1)++S) u v;rw[show(P++V.take r).length=P.length+r by simp;omega,<-og h,<-jZ h]at e;exact e
theorem xw {P V S:List BN}{u v:BN}{r:Nat}(h:V[r]? = some v):((fU P V u S (r+1)).set (P.length+r+1) v).set (P.length+r) u=fU P V u S r:=by
 have hr:=(bb h).1;have e:=tt (P++V.take r) [] (V.drop (r+1)++S) v u;rw[show(P++V.take r).length=P.length+r by simp;omega,<-og h,<-jZ h]at e;rw[List.set_comm _ _ J];exact e
theorem rK {P V S:List BN}{u v:BN}{r:Nat}(h:V[r]? = some v):((fU P V u S (r+1)).map bD)[P.length+r]? = some (bD v):=by
 have hr:=(bb h).1;have e:=sE (P++V.take r) [] (V.drop (r+1)++S) v u;rw[show(P++V.take r).length=P.length+r by simp;omega,<-jZ h]at e;rw[List.getElem?_map,e];rfl
theorem rL {P V S:List BN}{u v:BN}{r:Nat}(h:V[r]? = some v):((fU P V u S (r+1)).map bD)[P.length+r+1]? = some (bD u):=by
 have hr:=(bb h).1;have e:=sG (P++V.take r) [] (V.drop (r+1)++S) v u;rw[show(P++V.take r).length=P.length+r by simp;omega,<-jZ h]at e;rw[List.getElem?_map,show P.length+r+1=P.length+r+1+([]:List BN).length from O,e];rfl
theorem ut {L:Lay}{fn:Func}{K:St->PV->Prop}{s:St}(h:fn.results.toList=[])(hk:K s (.tup [])):aj L fn K .ret s:=by
 unfold aj;exact⟨[],True,by rw[h];rfl,trivial,hk⟩
set_option maxRecDepth 20000 in
theorem GL {K:St->Prop}{s:St}{d g N:Nat}{x y z n c:Operand}{tys:Array TypeId}{ty:TypeId}{pos:String}{af:Array Edge}(P:List BN)(u:BN)(V S:List BN)(hV:fD bz V)(hs:∀p∈u::V,p.at'.sz 7000000)(hN:N=(P++[u]++V++S).length)(hN1:N<=1000)
  (hx:s.ev x = .als 5 g 0 N) (hy:s.ev y=I P.length) (hz:s.ev z=I (P.length+1:Nat)) (hn:s.ev n=I (P.length+1+V.length:Nat)) (hc:s.ev c = .clo 279 [])
  (ho:FitO s [(5,g,⟨303,8,(P++[u]++V++S).map bD,1⟩)])
  (hK:∀(s1:St) (W:List BN),W.Perm ([u]++V)->(∀c,cX bz c W=cX bz c ([u]++V))->fD bz W->K (({ reg:=s.reg,own:=(s1.over [] [(5,g,⟨303,8,(P++W++S).map bD,1⟩)]).own }:St).putR d (.tup []))) :
  Sm Tryz.prog lay.get s ⟨some d,.call ⟨.value (.func 304),#[x,y,z,n,c],tys⟩,ty,pos,af,none⟩ K:=by
 have hlen:N=P.length+1+V.length+S.length:=by rw[hN];simp;omega
 generalize hm:P.length+1=m at *
 refine bT layOk O O Tryz.func304 O Y O O ?_;show PWP _ _ _ _ (bh s (([x,y,z,n,c]:List Operand).map s.ev++[]));rw[show(([x,y,z,n,c]:List Operand).map s.ev++([]:List PV))=[.als 5 g 0 N,I P.length,I m,I (m+V.length:Nat),.clo 279 []] by simp[hx,hy,hz,hn,hc]];rw[show bh s [.als 5 g 0 N,I P.length,I m,I (m+V.length:Nat),.clo 279 []]=bh (s.over [] [(5,g,⟨303,8,(P++[u]++V++S).map bD,1⟩)]) [.als 5 g 0 N,I P.length,I m,I (m+V.length:Nat),.clo 279 []] by rw[Fit.over (l:=[]) ho]];have hwa:IntKind.i64.wrap (((m:Nat):Int)-(P.length:Nat))=1:=by rw[wrap_i64 J J];omega
 refine H ?_;rw[hwa];refine H ?_;refine ap (fun q:Nat × Nat=>q.1<=q.2/\q.2<=V.length/\(∀v∈V.take q.1,bz v<bz u)/\(∀v∈V.drop q.2,bz u<=bz v)) (fun q=>[(0,.als 5 g 0 N),(1,I P.length),(4,.clo 279 []),(10,I (m+q.1:Nat)),(11,I (m+q.2:Nat))])
  (fun q=>[(5,g,⟨303,8,(P++[u]++V++S).map bD,1⟩)]) (fun q=>q.2-q.1) (0,V.length) ⟨Nat.zero_le _,aP,ah,ah⟩ ⟨O,O,O,O,O,O,trivial⟩ ?_
 rintro⟨p,q⟩ s1 ⟨hpq,hqV,h1,h2⟩;simp only at hpq hqV h1 h2;dsimp only;refine D ?_ ?_<;>intro h
 .have hlt:p<q:=by have:=aC h;omega
  clear h;obtain⟨f,hf⟩:∃f,f=(p+q)/2:=⟨_,O⟩;obtain⟨v,hv⟩:=aJ (show f<V.length by omega);have hmid:IntKind.i64.wrap (IntKind.u64.wrap (IntKind.i64.wrap (((m+p:Nat):Int)+((m+q:Nat):Int)))/2^Int.toNat 1)=((m+f:Nat):Int):=by
   rw[yI _ _ J];omega
  have hr1:((P++[u]++V++S).map bD)[m+f]? = some (bD v):=by rw[<-hm];exact KE (U:=[u]) hv
  have hr2:((P++[u]++V++S).map bD)[P.length]? = some (bD u):=KD (U:=[u]) (i:=0) O;have hw:IntKind.i64.wrap (((m+f:Nat):Int)+1)=((m+(f+1):Nat):Int):=by rw[wrap_i64 J J];omega
  refine H ?_;rw[hmid];refine jX 11 [40,41,42,43,44,45,46,47,48,49,50] aT ?_;refine H ?_;refine jY O O O O O O O O O ?_;rw[Int.toNat_natCast,Nat.zero_add (m+f)];refine bE O O (cu O O O hr1 O) ?_;refine H ?_;refine jY O O O O O O O O O ?_;rw[Int.toNat_natCast,Nat.zero_add P.length];refine bE O O (cu O O O hr2 O) ?_;refine H ?_;refine bE O O (n_ O (jg (hs v (List.mem_cons_of_mem _ (bc hv))) (hs u (List.mem_cons_self ..))) O aI O O) ?_;refine D ?_ ?_<;>intro h
  .have hb:=h;have hlt2:bz v<bz u:=by have:=(cP _).1 (aC hb);grind
   clear hb h;refine H ?_;refine⟨(f+1,q),⟨by simp only;omega,hqV,fun y hy=>?_,h2⟩,by simp only;omega,O,O,O,congrArg I hw,O,O,trivial⟩;have:=mm hV hv y hy;grind
  .have hb:=h;have hge2:bz u<=bz v:=by
    have h9:=aG hb;rw[cP]at h9;grind
   clear hb h;refine H ?_;refine⟨(p,f),⟨by simp only;omega,by simp only;omega,h1,fun y hy=>?_⟩,by simp only;omega,O,O,O,O,O,O,trivial⟩;have:=mj hV hv y hy;grind
 .have he:p=q:=by have:=aG h;omega
  clear h;subst he;have hwp:IntKind.i64.wrap (((m+p:Nat):Int)-1)=((P.length+p:Nat):Int):=by rw[wrap_i64 J J];omega
  have hr0:P++[u]++V++S=fU P V u S 0:=by rw[fU];simp
  refine H ?_;refine ap (fun r=>r<=p) (fun r=>[(0,.als 5 g 0 N),(10,I (m+p:Nat)),(13,I (P.length+r:Nat))]) (fun r=>[(5,g,⟨303,8,(fU P V u S r).map bD,1⟩)]) (fun r=>p-r) 0 (Nat.zero_le _) ⟨O,O,O,by rw[<-hr0];rfl,trivial⟩ ?_;intro r s2 hr;refine H ?_;rw[hwp];refine bP O ?_ ?_<;>intro h
  .have hrp:r<p:=by have:=aC h;omega
   clear h;obtain⟨v,hv⟩:=aJ (show r<V.length by omega);have hw:IntKind.i64.wrap (((P.length+r:Nat):Int)+1)=((P.length+r+1:Nat):Int):=by rw[wrap_i64 J J];omega
   refine H ?_;refine aZ 15 0 [61,62,63,64,65,66,67,68,69,70,71,72,73,74,75] [2,3,4] aT O ?_;refine H ?_;rw[hw];refine jY O O O O O O O O O ?_;rw[Int.toNat_natCast,Nat.zero_add (P.length+r+1)];refine bE O O (cu O O O (vB hv) O) ?_;refine H ?_;refine jY O O O O O O O O O ?_;rw[Int.toNat_natCast,Nat.zero_add (P.length+r)];refine bE O O (cu O O O (vA hv) O) ?_;refine H ?_;refine jY O O O O O O O O O ?_;rw[Int.toNat_natCast,Nat.zero_add (P.length+r)];refine H ?_;refine bL (bN (kd':=1) O O O (vA hv) O O aI O O O O ?_);refine jY O O O O O O O O O ?_;rw[Int.toNat_natCast,Nat.zero_add (P.length+r+1)];refine bL (bN (kd':=1) O O O (row:=bD v) (by
    show(((fU P V u S r).map bD).set (P.length+r) _)[P.length+r+1]? = _
    rw[List.getElem?_set_ne J];exact vB hv) O O aI O O O O ?_)
   refine H ?_;refine⟨r+1,hrp,J,O,O,congrArg I hw,?_,trivial⟩;refine Eq.trans (b:=(g,some (Cont.mk 303 8 ((((fU P V u S r).map bD).set (P.length+r) (bD v)).set (P.length+r+1) (bD u)) 1))) O ?_;rw[<-List.map_set,<-List.map_set,DY hv]
  .have hrp:r=p:=by have:=aG h;omega
   clear h;subst hrp;have hm2:=rg hV (fun y hy=>Rat.le_of_lt (h1 y hy)) h2;have hp2:=uW V u r;rw[fU];refine H ?_;exact ut O (hK s2 _ hp2 (Dt h1) hm2)
set_option maxRecDepth 20000 in
theorem GM {K:St->Prop}{s:St}{d g N:Nat}{x y z n c:Operand}{tys:Array TypeId}{ty:TypeId}{pos:String}{af:Array Edge}(P U:List BN)(v:BN)(S:List BN)(hU1:U.length≠1)(hU:fD bz U)(hs:∀p∈v::U,p.at'.sz 7000000)(hN:N=(P++U++[v]++S).length)(hN1:N<=1000)
  (hx:s.ev x = .als 5 g 0 N) (hy:s.ev y=I P.length) (hz:s.ev z=I (P.length+U.length:Nat)) (hn:s.ev n=I (P.length+U.length+1:Nat)) (hc:s.ev c = .clo 279 [])
  (ho:FitO s [(5,g,⟨303,8,(P++U++[v]++S).map bD,1⟩)])
  (hK:∀(s1:St) (W:List BN),W.Perm (U++[v])->(∀c,cX bz c W=cX bz c (U++[v]))->fD bz W->K (({ reg:=s.reg,own:=(s1.over [] [(5,g,⟨303,8,(P++W++S).map bD,1⟩)]).own }:St).putR d (.tup []))) :
  Sm Tryz.prog lay.get s ⟨some d,.call ⟨.value (.func 304),#[x,y,z,n,c],tys⟩,ty,pos,af,none⟩ K:=by
 have hlen:N=P.length+U.length+1+S.length:=by rw[hN];simp;omega
 obtain⟨m,hm⟩:∃m,m=P.length+U.length:=⟨_,O⟩;rw[<-hm]at hz hn hlen;refine bT layOk O O Tryz.func304 O Y O O ?_;show PWP _ _ _ _ (bh s (([x,y,z,n,c]:List Operand).map s.ev++[]));rw[show(([x,y,z,n,c]:List Operand).map s.ev++([]:List PV))=[.als 5 g 0 N,I P.length,I m,I (m+1:Nat),.clo 279 []] by simp[hx,hy,hz,hn,hc]];rw[show bh s [.als 5 g 0 N,I P.length,I m,I (m+1:Nat),.clo 279 []]=bh (s.over [] [(5,g,⟨303,8,(P++U++[v]++S).map bD,1⟩)]) [.als 5 g 0 N,I P.length,I m,I (m+1:Nat),.clo 279 []] by rw[Fit.over (l:=[]) ho]];have hwa:IntKind.i64.wrap (((m:Nat):Int)-(P.length:Nat))=(U.length:Nat):=by rw[wrap_i64 J J];omega
 have hwb:IntKind.i64.wrap (((m+1:Nat):Int)-(m:Nat))=1:=by rw[wrap_i64 J J];omega
 refine H ?_;rw[hwa];refine bP O ?_ ?_<;>intro h
 .have:=aC h;omega
 clear h;refine H ?_;rw[hwb];refine H ?_;refine ap (fun q:Nat × Nat=>q.1<=q.2/\q.2<=U.length/\(∀y∈U.take q.1,bz y<=bz v)/\(∀y∈U.drop q.2,bz v<bz y)) (fun q=>[(0,.als 5 g 0 N),(2,I m),(4,.clo 279 []),(14,I (P.length+q.1:Nat)),(15,I (P.length+q.2:Nat))])
  (fun q=>[(5,g,⟨303,8,(P++U++[v]++S).map bD,1⟩)]) (fun q=>q.2-q.1) (0,U.length) ⟨Nat.zero_le _,aP,ah,ah⟩ ⟨O,O,O,O,by rw[hm];rfl,O,trivial⟩ ?_
 rintro⟨p,q⟩ s1 ⟨hpq,hqV,h1,h2⟩;simp only at hpq hqV h1 h2;dsimp only;refine D ?_ ?_<;>intro h
 .have hlt:p<q:=by have:=aC h;omega
  clear h;obtain⟨f,hf⟩:∃f,f=(p+q)/2:=⟨_,O⟩;obtain⟨u,hu⟩:=aJ (show f<U.length by omega);have hmid:IntKind.i64.wrap (IntKind.u64.wrap (IntKind.i64.wrap (((P.length+p:Nat):Int)+((P.length+q:Nat):Int)))/2^Int.toNat 1)=((P.length+f:Nat):Int):=by
   rw[yI _ _ J];omega
  have hr1:((P++U++[v]++S).map bD)[P.length+f]? = some (bD u):=KD hu;have hr2:((P++U++[v]++S).map bD)[m]? = some (bD v):=by rw[hm];exact KE (V:=[v]) (i:=0) O
  have hw:IntKind.i64.wrap (((P.length+f:Nat):Int)+1)=((P.length+(f+1):Nat):Int):=by rw[wrap_i64 J J];omega
  refine H ?_;rw[hmid];refine jX 12 [92,93,94,95,96,97,98,99,100,101,102,103] aT ?_;refine H ?_;refine jY O O O O O O O O O ?_;rw[Int.toNat_natCast,Nat.zero_add m];refine bE O O (cu O O O hr2 O) ?_;refine H ?_;refine jY O O O O O O O O O ?_;rw[Int.toNat_natCast,Nat.zero_add (P.length+f)];refine bE O O (cu O O O hr1 O) ?_;refine H ?_;refine bE O O (n_ O (jg (hs v (List.mem_cons_self ..)) (hs u (List.mem_cons_of_mem _ (bc hu)))) O aI O O) ?_;refine D ?_ ?_<;>intro h
  .have hge2:bz u<=bz v:=by
    have h9:¬sgn (bz v-bz u)<0:=by simpa using h
    rw[cP]at h9;grind
   clear h;refine H ?_;refine⟨(f+1,q),⟨by simp only;omega,hqV,fun y hy=>?_,h2⟩,by simp only;omega,O,O,O,congrArg I hw,O,O,trivial⟩;have:=mm hU hu y hy;grind
  .have hlt2:bz v<bz u:=by
    have h9:sgn (bz v-bz u)<0:=by simpa using h
    have:=(cP _).1 h9;grind
   clear h;refine H ?_;refine⟨(p,f),⟨by simp only;omega,by simp only;omega,h1,fun y hy=>?_⟩,by simp only;omega,O,O,O,O,O,O,trivial⟩;have:=mj hU hu y hy;grind
 .have he:p=q:=by have:=aG h;omega
  clear h;subst he;have hr0:P++U++[v]++S=fU P U v S U.length:=by rw[fU,List.take_length,List.drop_length];simp
  refine H ?_;refine ap (fun r=>p<=r/\r<=U.length) (fun r=>[(0,.als 5 g 0 N),(14,I (P.length+p:Nat)),(17,I (P.length+r:Nat))]) (fun r=>[(5,g,⟨303,8,(fU P U v S r).map bD,1⟩)]) (fun r=>r) U.length ⟨hqV,aP⟩ ⟨O,O,by rw[<-hm];rfl,by rw[<-hr0];rfl,trivial⟩ ?_;intro r' s2 ⟨hr,hrU⟩;refine D ?_ ?_<;>intro h
  .have hrp:p<r':=by have:=aC h;omega
   clear h;obtain⟨r,rfl⟩:∃r,r'=r+1:=⟨r'-1,J⟩;obtain⟨u,hu⟩:=aJ (show r<U.length by omega);have hw:IntKind.i64.wrap (((P.length+(r+1):Nat):Int)-1)=((P.length+r:Nat):Int):=by rw[wrap_i64 J J];omega
   refine H ?_;refine aZ 15 0 [113,114,115,116,117,118,119,120,121,122,123,124,125,126,127] [2,3,4] aT O ?_;refine H ?_;rw[hw];refine jY O O O O O O O O O ?_;rw[Int.toNat_natCast,Nat.zero_add (P.length+r)];refine bE O O (cu O O O (rK hu) O) ?_;refine H ?_;refine jY O O O O O O O O O ?_;rw[Int.toNat_natCast,Nat.zero_add (P.length+(r+1))];refine bE O O (cu O O O (rL hu) O) ?_;refine H ?_;refine jY O O O O O O O O O ?_;rw[Int.toNat_natCast,Nat.zero_add (P.length+(r+1))];refine H ?_;refine bL (bN (kd':=1) O O O (rL hu) O O aI O O O O ?_);refine jY O O O O O O O O O ?_;rw[Int.toNat_natCast,Nat.zero_add (P.length+r)];refine bL (bN (kd':=1) O O O (row:=bD u) (by
    show(((fU P U v S (r+1)).map bD).set (P.length+(r+1)) _)[P.length+r]? = _
    rw[List.getElem?_set_ne J];exact rK hu) O O aI O O O O ?_)
   refine H ?_;refine⟨r,⟨J,J⟩,J,O,O,congrArg I hw,?_,trivial⟩;refine Eq.trans (b:=(g,some (Cont.mk 303 8 ((((fU P U v S (r+1)).map bD).set (P.length+r+1) (bD u)).set (P.length+r) (bD v)) 1))) O ?_;rw[<-List.map_set,<-List.map_set,xw hu]
  .have hrp:r'=p:=by have:=aG h;omega
   clear h;subst hrp;have hm2:=rg hU h1 (fun y hy=>Rat.le_of_lt (h2 y hy));have hp2:=(uW U v r').trans (List.perm_append_comm (l₁:=[v]) (l₂:=U));rw[fU];refine H ?_;exact ut O (hK s2 _ hp2 (Du h2) hm2)
theorem vh {P:Program}{L:Lay}{Q:Exit->St->Prop}{s:St}{ι:Type}{x y:Code}(X:ι->Prop)(regs:ι->List (Nat × PV))(owns:ι->List (Nat × Nat × Cont))(h1:PWP P L x (aw (fun s'=>∃i,X i/\Fit s' (regs i) (owns i)) Q) s)(h2:∀i,X i->∀s:St,PWP P L y Q (s.over (regs i) (owns i))):PWP P L x (aw (fun s'=>PWP P L y Q s') Q) s:=by
 refine PWP.mono ?_ _ h1;intro e s' h;unfold aw at h ⊢;cases e
 case normal =>
  obtain⟨i,hX,hF⟩:∃i,X i/\Fit s' (regs i) (owns i):=h;have:=h2 i hX s';rwa [Fit.over hF]at this
 all_goals exact h
theorem G_ {F:St->Prop}{Q:Exit->St->Prop}{s:St}:aw F Q .normal s=F s:=by unfold aw;rfl
theorem mw {F:St->Prop}{Q:Exit->St->Prop}{e:Exit}{s:St}(h:e ≠ .normal):aw F Q e s=Q e s:=by
 unfold aw;cases e<;>first|rfl|exact absurd O h
theorem yW {P:Program}{L:Lay}{Q:Exit->St->Prop}{s:St}{ι:Type}{x1 x2 y:Code}(X:ι->Prop)(regs:ι->List (Nat × PV))(owns:ι->List (Nat × Nat × Cont))(h1:PWP P L x1 (aw (fun s'=>PWP P L x2 (aw (fun s'=>∃i,X i/\Fit s' (regs i) (owns i)) Q) s') (aw (fun s'=>∃i,X i/\Fit s' (regs i) (owns i)) Q)) s)(h2:∀i,X i->∀s:St,PWP P L y Q (s.over (regs i) (owns i))):PWP P L x1 (aw (fun s'=>PWP P L x2 (aw (fun s'=>PWP P L y Q s') Q) s') (aw (fun s'=>PWP P L y Q s') Q)) s:=by
 refine PWP.mono (fun e s' h=>?_) _ h1;by_cases he:e = .normal
 .subst he;rw[G_]at h ⊢;exact vh X regs owns h h2
 .rw[mw he,mw he]at h;rw[mw he,mw he];exact h
def Ky (U V:List BN)(a m n lo c:Nat):Prop:=c=lo\/∃s' u v,c=a+s'+1/\U[s']? = some u/\V[n-c-m]? = some v/\bz u<=bz v
def Kz (U V:List BN)(a m n hi c:Nat):Prop:=c=hi\/∃t' v u,n=c+m+t'+1/\V[t']? = some v/\U[c-a]? = some u/\bz v<bz u
theorem Fb {U V:List BN}(hU:fD bz U)(hV:fD bz V){s t:Nat}(h:s=0\/t=V.length\/∃s' u v,s=s'+1/\U[s']? = some u/\V[t]? = some v/\bz u<bz v):Jf bz (U.take s) (V.drop t):=by
 intro x hx y hy;rcases h with rfl|rfl|⟨s',u,v,rfl,hu,hv,huv⟩
 .simp at hx
 .simp at hy
 .have h1:=mm hU hu x hx;have h2:=mj hV hv y hy;grind
set_option maxRecDepth 20000 in
theorem GN {w:Nat} (ih:∀ {K:St->Prop} {s:St} {d g N:Nat} {x y z n c:Operand} {tys:Array TypeId} {ty:TypeId} {pos:String} {af:Array Edge} (P U V S:List BN),U.length+V.length<=w->U≠[]->V≠[]->fD bz U->fD bz V->(∀p∈U++V,p.at'.sz 7000000)->N=(P++U++V++S).length->N<=1000 ->
  s.ev x = .als 5 g 0 N->s.ev y=I P.length->s.ev z=I (P.length+U.length:Nat)->s.ev n=I (P.length+U.length+V.length:Nat)->s.ev c = .clo 279 []->FitO s [(5,g,⟨303,8,(P++U++V++S).map bD,1⟩)] ->
  (∀(s1:St) (W:List BN),W.Perm (U++V)->(∀c,cX bz c W=cX bz c (U++V))->fD bz W->K (({ reg:=s.reg,own:=(s1.over [] [(5,g,⟨303,8,(P++W++S).map bD,1⟩)]).own }:St).putR d (.tup []))) ->
  Sm Tryz.prog lay.get s ⟨some d,.call ⟨.value (.func 304),#[x,y,z,n,c],tys⟩,ty,pos,af,none⟩ K)
  {K:St->Prop} {s:St} {d g N:Nat} {x y z n c:Operand} {tys:Array TypeId} {ty:TypeId} {pos:String} {af:Array Edge} (P U V S:List BN) (hw:U.length+V.length<=w+1) (hU2:2<=U.length) (hV2:2<=V.length) (hU:fD bz U) (hV:fD bz V) (hs:∀p∈U++V,p.at'.sz 7000000) (hN:N=(P++U++V++S).length) (hN1:N<=1000)
  (hx:s.ev x = .als 5 g 0 N) (hy:s.ev y=I P.length) (hz:s.ev z=I (P.length+U.length:Nat)) (hn:s.ev n=I (P.length+U.length+V.length:Nat)) (hc:s.ev c = .clo 279 [])
  (ho:FitO s [(5,g,⟨303,8,(P++U++V++S).map bD,1⟩)])
  (hK:∀(s1:St) (W:List BN),W.Perm (U++V)->(∀c,cX bz c W=cX bz c (U++V))->fD bz W->K (({ reg:=s.reg,own:=(s1.over [] [(5,g,⟨303,8,(P++W++S).map bD,1⟩)]).own }:St).putR d (.tup []))) :
  Sm Tryz.prog lay.get s ⟨some d,.call ⟨.value (.func 304),#[x,y,z,n,c],tys⟩,ty,pos,af,none⟩ K:=by
 have hlen:N=P.length+U.length+V.length+S.length:=by rw[hN];simp;omega
 obtain⟨m,hm⟩:∃m,m=P.length+U.length:=⟨_,O⟩;obtain⟨b,hb⟩:∃b,b=m+V.length:=⟨_,O⟩;rw[<-hm]at hz hn hlen;rw[<-hb]at hn;refine bT layOk O O Tryz.func304 O Y O O ?_;show PWP _ _ _ _ (bh s (([x,y,z,n,c]:List Operand).map s.ev++[]));rw[show(([x,y,z,n,c]:List Operand).map s.ev++([]:List PV))=[.als 5 g 0 N,I P.length,I m,I b,.clo 279 []] by simp[hx,hy,hz,hn,hc]];rw[show bh s [.als 5 g 0 N,I P.length,I m,I b,.clo 279 []]=bh (s.over [] [(5,g,⟨303,8,(P++U++V++S).map bD,1⟩)]) [.als 5 g 0 N,I P.length,I m,I b,.clo 279 []] by rw[Fit.over (l:=[]) ho]];have hwa:IntKind.i64.wrap (((m:Nat):Int)-(P.length:Nat))=(U.length:Nat):=by rw[wrap_i64 J J];omega
 have hwb:IntKind.i64.wrap (((b:Nat):Int)-(m:Nat))=(V.length:Nat):=by rw[wrap_i64 J J];omega
 obtain⟨D0,hD⟩:∃D0,D0=(P.length+b)/2:=⟨_,O⟩;have hmid:IntKind.i64.wrap (IntKind.u64.wrap (IntKind.i64.wrap (((P.length:Nat):Int)+((b:Nat):Int)))/2^Int.toNat 1)=((D0:Nat):Int):=by rw[yI _ _ J,hD]
 have hnn:IntKind.i64.wrap (((D0:Nat):Int)+(m:Nat))=((D0+m:Nat):Int):=by rw[wrap_i64 J J];omega
 have hpp:IntKind.i64.wrap (((D0+m:Nat):Int)-1)=((D0+m-1:Nat):Int):=by rw[wrap_i64 J J];omega
 refine H ?_;rw[hwa];refine bP O ?_ ?_<;>intro h
 .have:=aC h;omega
 clear h;refine H ?_;rw[hwb];refine bP O ?_ ?_<;>intro h
 .have:=aC h;omega
 clear h;refine H ?_;rw[hmid];refine H ?_;rw[hnn];refine vh (fun q:Nat × Nat=>P.length<=q.1/\q.1<=q.2/\q.2<=m/\q.2<=D0/\D0+m<=q.1+b/\(q.1=P.length\/q.1+b=D0+m)/\(q.2=D0\/q.2=m)) (fun q=>[(0,.als 5 g 0 N),(1,I P.length),(2,I m),(3,I b),(4,.clo 279 []),(18,I D0),(19,I (D0+m:Nat)),(20,I (q.1:Nat)),(21,I (q.2:Nat))]) (fun _=>[(5,g,⟨303,8,(P++U++V++S).map bD,1⟩)]) ?_ ?_
 .refine bP O ?_ ?_<;>intro h
  .have hgt:D0<m:=by have:=aC h;omega
   clear h;have hnb:IntKind.i64.wrap (((D0+m:Nat):Int)-(b:Nat))=((D0+m-b:Nat):Int):=by rw[wrap_i64 J J];omega
   refine H ?_;exact⟨(D0+m-b,D0),⟨by simp only;omega,by simp only;omega,by simp only;omega,by simp only;omega,by simp only;omega,.inr (by simp only;omega),.inl O⟩,O,O,O,O,O,O,O,congrArg I hnb,O,O,trivial⟩
  .have hle:m<=D0:=by have:=aG h;omega
   clear h;refine H ?_;exact⟨(P.length,m),⟨by simp only;omega,by simp only;omega,by simp only;omega,by simp only;omega,by simp only;omega,.inl O,.inr O⟩,O,O,O,O,O,O,O,O,O,O,trivial⟩
 rintro⟨lo,hi⟩ ⟨q1,q2,q3,q4,q5,q6,q7⟩ s1;simp only at q1 q2 q3 q4 q5 q6 q7;dsimp only;refine H ?_;rw[hpp];refine ap (fun q:Nat × Nat=>lo<=q.1/\q.1<=q.2/\q.2<=hi/\Ky U V P.length m (D0+m) lo q.1/\Kz U V P.length m (D0+m) hi q.2) (fun q=>[(0,.als 5 g 0 N),(1,I P.length),(2,I m),(3,I b),(4,.clo 279 []),(18,I D0),(19,I (D0+m:Nat)),(20,I (q.1:Nat)),(21,I (q.2:Nat)),(22,I (D0+m-1:Nat))])
  (fun _=>[(5,g,⟨303,8,(P++U++V++S).map bD,1⟩)]) (fun q=>q.2-q.1) (lo,hi) ⟨aP,q2,aP,.inl O,.inl O⟩ ⟨O,O,O,O,O,O,O,O,O,O,O,trivial⟩ ?_
 rintro⟨st,rr⟩ s2 ⟨l1,l2,l3,hA,hB⟩;simp only at l1 l2 l3 hA hB;dsimp only;refine D ?_ ?_<;>intro h
 .have hlt:st<rr:=by have:=aC h;omega
  clear h;obtain⟨f,hf⟩:∃f,f=(st+rr)/2:=⟨_,O⟩;obtain⟨u,hu⟩:=aJ (show f-P.length<U.length by omega);obtain⟨v,hv⟩:=aJ (show D0-1-f<V.length by omega);have hmf:IntKind.i64.wrap (IntKind.u64.wrap (IntKind.i64.wrap (((st:Nat):Int)+((rr:Nat):Int)))/2^Int.toNat 1)=((f:Nat):Int):=by rw[yI _ _ J,hf]
  have hpf:IntKind.i64.wrap (((D0+m-1:Nat):Int)-(f:Nat))=((m+(D0-1-f):Nat):Int):=by rw[wrap_i64 J J];omega
  have hr1:((P++U++V++S).map bD)[m+(D0-1-f)]? = some (bD v):=by rw[hm];exact KE hv
  have hr2:((P++U++V++S).map bD)[f]? = some (bD u):=by rw[show f=P.length+(f-P.length) by omega];exact KD hu
  have hw1:IntKind.i64.wrap (((f:Nat):Int)+1)=((f+1:Nat):Int):=by rw[wrap_i64 J J];omega
  refine H ?_;rw[hmf];refine jX 14 [158,159,160,161,162,163,164,165,166,167,168,169,170,171] aT ?_;refine H ?_;rw[hpf];refine jY O O O O O O O O O ?_;rw[Int.toNat_natCast,Nat.zero_add (m+(D0-1-f))];refine bE O O (cu O O O hr1 O) ?_;refine H ?_;refine jY O O O O O O O O O ?_;rw[Int.toNat_natCast,Nat.zero_add f];refine bE O O (cu O O O hr2 O) ?_;refine H ?_;refine bE O O (n_ O (jg (hs v (List.mem_append_right _ (bc hv))) (hs u (List.mem_append_left _ (bc hu)))) O aI O O) ?_;refine D ?_ ?_<;>intro h
  .have hge2:bz u<=bz v:=by
    have h9:¬sgn (bz v-bz u)<0:=by simpa using h
    rw[cP]at h9;grind
   clear h;refine H ?_;exact⟨(f+1,rr),⟨by simp only;omega,by simp only;omega,l3,.inr ⟨f-P.length,u,v,J,hu,by rw[show D0+m-(f+1)-m=D0-1-f by omega];exact hv,hge2⟩,hB⟩,by simp only;omega,O,O,O,O,O,O,O,congrArg I hw1,O,O,O,trivial⟩
  .have hlt2:bz v<bz u:=by
    have h9:sgn (bz v-bz u)<0:=by simpa using h
    have:=(cP _).1 h9;grind
   clear h;refine H ?_;exact⟨(st,f),⟨l1,by simp only;omega,by simp only;omega,hA,.inr ⟨D0-1-f,v,u,J,hv,hu,hlt2⟩⟩,by simp only;omega,O,O,O,O,O,O,O,O,O,O,O,trivial⟩
 .have he:st=rr:=by have:=aG h;omega
  clear h;subst he;obtain⟨k,hk⟩:∃k,k=st-P.length:=⟨_,O⟩;obtain⟨j,hj⟩:∃j,j=D0-st:=⟨_,O⟩;have c1:E4 bz (U.take k) (V.drop j):=by
   refine Fa hU hV ?_;rcases hA with e|⟨s',u,v,e,hu,hv,huv⟩
   .rcases q6 with e2|e2
    .exact .inl J
    .exact .inr (.inl J)
   .exact .inr (.inr ⟨s',u,v,J,hu,by rw[show j=D0+m-st-m by omega];exact hv,huv⟩)
  have c2s:Jf bz (V.take j) (U.drop k):=by
   refine Fb hV hU ?_;rcases hB with e|⟨t',v,u,e,hv,hu,huv⟩
   .rcases q7 with e2|e2
    .exact .inl J
    .exact .inr (.inl J)
   .exact .inr (.inr ⟨t',v,u,J,hv,by rw[hk];exact hu,huv⟩)
  have c2:E4 bz (V.take j) (U.drop k):=fun x hx y hy=>Rat.le_of_lt (c2s x hx y hy);have hend:IntKind.i64.wrap (((D0+m:Nat):Int)-(st:Nat))=((m+j:Nat):Int):=by rw[wrap_i64 J J];omega
  have hkl:(U.take k).length=k:=by rw[List.length_take];omega
  have hjl:(V.take j).length=j:=by rw[List.length_take];omega
  have hkd:(U.drop k).length=U.length-k:=List.length_drop;have hjd:(V.drop j).length=V.length-j:=List.length_drop;have eU:U.take k++U.drop k=U:=List.take_append_drop _ _;have eV:V.take j++V.drop j=V:=List.take_append_drop _ _;have hR0:P++U++V++S=P++U.take k++U.drop k++V.take j++(V.drop j++S):=by
   have e1:P++U++V++S=P++(U.take k++U.drop k)++(V.take j++V.drop j)++S:=by rw[eU,eV]
   rw[e1];simp only[List.append_assoc]
  (repeat ((fail_if_success (with_reducible refine aQ 39 ?_));refine cx O ?_))
  rw[hend];have hR1:j=0\/k=U.length->P++U++V++S=P++U.take k++V.take j++(U.drop k++V.drop j++S):=by
   rintro(h|h)
   .rw[hR0,h,List.take_zero,List.append_nil,List.append_nil];try simp only[List.append_assoc]
   .rw[hR0,h,List.drop_length,List.append_nil,List.nil_append];try simp only[List.append_assoc]
  have hW1:j=0\/k=0->fD bz (U.take k++V.take j):=fun h=>om (jE hU k) (jE hV j) fun x hx y hy=>by
   rcases h with h|h
   .rw[h]at hy;simp at hy
   .rw[h]at hx;simp at hx
  have hW2:j=V.length\/k=U.length->fD bz (U.drop k++V.drop j):=fun h=>om (jD hU k) (jD hV j) fun x hx y hy=>by
   rcases h with h|h
   .rw[h]at hy;simp at hy
   .rw[h]at hx;simp at hx
  have hsT:∀p∈U.take k++V.take j,p.at'.sz 7000000:=fun p hp=>by
   rcases List.mem_append.1 hp with h|h
   .exact hs p (List.mem_append_left _ (List.mem_of_mem_take h))
   .exact hs p (List.mem_append_right _ (List.mem_of_mem_take h))
  have hsD:∀p∈U.drop k++V.drop j,p.at'.sz 7000000:=fun p hp=>by
   rcases List.mem_append.1 hp with h|h
   .exact hs p (List.mem_append_left _ (List.mem_of_mem_drop h))
   .exact hs p (List.mem_append_right _ (List.mem_of_mem_drop h))
  refine yW (fun _:Unit=>True) (fun _=>[(0,.als 5 g 0 N),(1,I P.length),(3,I b),(4,.clo 279 []),(18,I D0),(20,I (st:Nat)),(24,I (m+j:Nat))]) (fun _=>[(5,g,⟨303,8,(P++U.take k++V.take j++(U.drop k++V.drop j++S)).map bD,1⟩)]) ?_ ?_
  .refine dE ?_ ?_<;>intro h
   .have hlt:st<m:=by have:=aC h;omega
    clear h;refine D ?_ ?_<;>intro h
    .have hj0:0<j:=by have:=aC h;omega
     clear h;rw[hR0]
     ((repeat ((fail_if_success (with_reducible refine aQ 40 ?_));refine cx O ?_));refine aM 5 ?_)
     refine H ?_;refine aV O (IQ (N:=N) (P++U.take k) (U.drop k) (V.take j) (V.drop j++S) (by intro e;have:=congrArg List.length e;rw[hkd]at this;have:U.length-k=0:=this;omega) (by intro e;have:=congrArg List.length e;rw[hjl]at this;have:j=0:=this;omega) (by rw[<-hR0];exact hN) hN1 O (congrArg (fun n:Nat=>I n) (show st=(P++U.take k).length by rw[List.length_append];omega)) (congrArg (fun n:Nat=>I n) (show m=(P++U.take k).length+(U.drop k).length by rw[List.length_append];omega)) (congrArg (fun n:Nat=>I n) (show m+j=(P++U.take k).length+(U.drop k).length+(V.take j).length by rw[List.length_append];omega)) O ⟨O,trivial⟩ fun s4=>?_);refine aO ?_;refine H ?_;refine⟨(),trivial,O,O,O,O,O,O,O,?_,trivial⟩;rw[show P++U.take k++V.take j++(U.drop k++V.drop j++S)=P++U.take k++V.take j++U.drop k++(V.drop j++S) by simp only[List.append_assoc]];rfl
    .have hj0:j=0:=by have:=aG h;omega
     clear h;refine H ?_;exact⟨(),trivial,O,O,O,O,O,O,O,by rw[<-hR1 (.inl hj0)];rfl,trivial⟩
   .have hge:k=U.length:=by have:=aG h;omega
    clear h;refine H ?_;exact⟨(),trivial,O,O,O,O,O,O,O,by rw[<-hR1 (.inr hge)];rfl,trivial⟩
  intro _ _ s3
  (repeat ((fail_if_success (with_reducible refine aQ 41 ?_));refine cx O ?_))
  refine yW (fun W:List BN=>W.Perm (U.take k++V.take j)/\(∀c,cX bz c W=cX bz c (U.take k++V.take j))/\fD bz W) (fun _=>[(0,.als 5 g 0 N),(3,I b),(4,.clo 279 []),(18,I D0),(24,I (m+j:Nat))]) (fun W=>[(5,g,⟨303,8,(P++W++(U.drop k++V.drop j++S)).map bD,1⟩)]) ?_ ?_
  .have hE:P++U.take k++V.take j++(U.drop k++V.drop j++S)=P++(U.take k++V.take j)++(U.drop k++V.drop j++S):=by simp only[List.append_assoc]
   refine dE ?_ ?_<;>intro h
   .have hk0:0<k:=by have:=aC h;omega
    clear h;refine D ?_ ?_<;>intro h
    .have hj0:0<j:=by have:=aC h;omega
     clear h
     ((repeat ((fail_if_success (with_reducible refine aQ 42 ?_));refine cx O ?_));refine aM 5 ?_)
     refine H ?_;refine aV O (ih (N:=N) P (U.take k) (V.take j) (U.drop k++V.drop j++S) J (by intro e;have:=congrArg List.length e;rw[hkl]at this;have:k=0:=this;omega) (by intro e;have:=congrArg List.length e;rw[hjl]at this;have:j=0:=this;omega) (jE hU k) (jE hV j) hsT (by rw[hlen];simp only[List.length_append];omega) hN1 O O (congrArg (fun n:Nat=>I n) (show st=P.length+(U.take k).length by omega)) (congrArg (fun n:Nat=>I n) (show D0=P.length+(U.take k).length+(V.take j).length by omega)) O ⟨O,trivial⟩ fun s4 W hp hf hs4=>?_);refine aO ?_;refine H ?_;exact⟨W,⟨hp,hf,hs4⟩,O,O,O,O,O,O,trivial⟩
    .have hj0:j=0:=by have:=aG h;omega
     clear h;refine H ?_;exact⟨U.take k++V.take j,⟨.refl _,fun _=>rfl,hW1 (.inl hj0)⟩,O,O,O,O,O,by rw[<-hE];rfl,trivial⟩
   .have hk0:k=0:=by have:=aG h;omega
    clear h;refine H ?_;exact⟨U.take k++V.take j,⟨.refl _,fun _=>rfl,hW1 (.inr hk0)⟩,O,O,O,O,O,by rw[<-hE];rfl,trivial⟩
  rintro W1 ⟨p1,f1,s1W⟩ s5;have hWl:W1.length=k+j:=by rw[p1.length_eq,List.length_append];omega
  have fin:∀(W2:List BN),W2.Perm (U.drop k++V.drop j)->(∀c,cX bz c W2=cX bz c (U.drop k++V.drop j))->fD bz W2->∀s6:St,K (({ reg:=s.reg,own:=(s6.over [] [(5,g,⟨303,8,(P++W1++W2++S).map bD,1⟩)]).own }:St).putR d (.tup [])):=fun W2 p2 f2 s2W s6=>by
   obtain⟨r1,r2⟩:=sD hU hV c1 c2 p1 p2 s1W s2W;have:=hK s6 (W1++W2) r2 (wR c2s f1 f2) r1;rwa [show P++(W1++W2)++S=P++W1++W2++S by simp only[List.append_assoc]]at this
  have hE2:P++W1++(U.drop k++V.drop j++S)=P++W1++(U.drop k++V.drop j)++S:=by simp only[List.append_assoc]
  refine dE ?_ ?_<;>intro h
  .have hk1:k<U.length:=by have:=aC h;omega
   clear h;refine D ?_ ?_<;>intro h
   .have hj1:j<V.length:=by have:=aC h;omega
    clear h;rw[show P++W1++(U.drop k++V.drop j++S)=P++W1++U.drop k++V.drop j++S by simp only[List.append_assoc]]
    ((repeat ((fail_if_success (with_reducible refine aQ 44 ?_));refine cx O ?_));refine aM 5 ?_)
    refine H ?_;refine aV O (ih (N:=N) (P++W1) (U.drop k) (V.drop j) S J (by intro e;have:=congrArg List.length e;rw[hkd]at this;have:U.length-k=0:=this;omega) (by intro e;have:=congrArg List.length e;rw[hjd]at this;have:V.length-j=0:=this;omega) (jD hU k) (jD hV j) hsD (by rw[hlen];simp only[List.length_append];omega) hN1 O (congrArg (fun n:Nat=>I n) (show D0=(P++W1).length by rw[List.length_append];omega)) (congrArg (fun n:Nat=>I n) (show m+j=(P++W1).length+(U.drop k).length by rw[List.length_append];omega)) (congrArg (fun n:Nat=>I n) (show b=(P++W1).length+(U.drop k).length+(V.drop j).length by rw[List.length_append];omega)) O ⟨O,trivial⟩ fun s6 W2 p2 f2 s2W=>?_);refine aO ?_;refine H ?_;exact db O (fin W2 p2 f2 s2W s6)
   .have hj1:j=V.length:=by have:=aG h;omega
    clear h;rw[hE2];refine H ?_;exact db O (fin _ (.refl _) (fun _=>rfl) (hW2 (.inl hj1)) s5)
  .have hk1:k=U.length:=by have:=aG h;omega
   clear h;rw[hE2];refine H ?_;exact db O (fin _ (.refl _) (fun _=>rfl) (hW2 (.inr hk1)) s5)
set_option maxRecDepth 20000 in
theorem EI (w:Nat):∀ {K:St->Prop} {s:St} {d g N:Nat} {x y z n c:Operand} {tys:Array TypeId} {ty:TypeId} {pos:String} {af:Array Edge} (P U V S:List BN),U.length+V.length<=w->U≠[]->V≠[]->fD bz U->fD bz V->(∀p∈U++V,p.at'.sz 7000000)->N=(P++U++V++S).length->N<=1000 ->
  s.ev x = .als 5 g 0 N->s.ev y=I P.length->s.ev z=I (P.length+U.length:Nat)->s.ev n=I (P.length+U.length+V.length:Nat)->s.ev c = .clo 279 []->FitO s [(5,g,⟨303,8,(P++U++V++S).map bD,1⟩)] ->
  (∀(s1:St) (W:List BN),W.Perm (U++V)->(∀c,cX bz c W=cX bz c (U++V))->fD bz W->K (({ reg:=s.reg,own:=(s1.over [] [(5,g,⟨303,8,(P++W++S).map bD,1⟩)]).own }:St).putR d (.tup []))) ->
  Sm Tryz.prog lay.get s ⟨some d,.call ⟨.value (.func 304),#[x,y,z,n,c],tys⟩,ty,pos,af,none⟩ K:=by
 induction w with
 |zero =>
  intro K s d g N x y z n c tys ty pos af P U V S hw hU;have:U.length=0:=J;exact absurd (List.length_eq_zero_iff.1 this) hU
 |succ w ih =>
  intro K s d g N x y z n c tys ty pos af P U V S hw hU0 hV0 hU hV hs hN hN1 hx hy hz hn hc ho hK;by_cases h1:U.length=1
  .obtain⟨u,rfl⟩:=List.length_eq_one_iff.1 h1;exact GL P u V S hV (fun p hp=>hs p hp) hN hN1 hx hy hz hn hc ho hK
  by_cases h2:V.length=1
  .obtain⟨v,rfl⟩:=List.length_eq_one_iff.1 h2;exact GM P U v S h1 hU (fun p hp=>hs p (by
    rcases List.mem_cons.1 hp with rfl|hp
    .exact List.mem_append_right _ (List.mem_singleton_self _)
    .exact List.mem_append_left _ hp)) hN hN1 hx hy hz hn hc ho hK
  have p1:0<U.length:=List.length_pos_iff.2 hU0;have p2:0<V.length:=List.length_pos_iff.2 hV0;exact GN ih P U V S hw J J hU hV hs hN hN1 hx hy hz hn hc ho hK
theorem yE {A B S:List BN}{q:Nat}{x:BN}(h:B[q]? = some x):((A++B++S).map bD)[A.length+q]? = some (bD x):=by
 have hq:=(bb h).1;rw[List.getElem?_map,List.append_assoc,List.getElem?_append_right J,show A.length+q-A.length=q by omega,List.getElem?_append_left hq,h];rfl
theorem yH {A B S:List BN}{q:Nat}{y:BN}(h:q<B.length):(A++B++S).set (A.length+q) y=A++B.set q y++S:=by
 rw[List.append_assoc,List.set_append_right _ _ J,show A.length+q-A.length=q by omega,List.set_append_left _ _ h,List.append_assoc]
set_option maxRecDepth 20000 in
theorem yz {K:St->Prop}{s:St}{d g N:Nat}{x y z c:Operand}{tys:Array TypeId}{ty:TypeId}{pos:String}{af:Array Edge}(A l S:List BN)(hN:N=(A++l++S).length)(hN1:N<=1000)
  (hx:s.ev x = .als 5 g 0 N) (hy:s.ev y=I A.length) (hz:s.ev z=I (A.length+l.length:Nat)) (hc:s.ev c = .clo 279 [])
  (hd:∀p∈l,p.at'.sz 7000000)
  (ho:FitO s [(5,g,⟨303,8,(A++l++S).map bD,1⟩)])
  (hK:∀s1:St,K (({ reg:=s.reg,own:=(s1.over [] [(5,g,⟨303,8,(A++b8 bz l++S).map bD,1⟩)]).own }:St).putR d (.tup []))) :
  Sm Tryz.prog lay.get s ⟨some d,.call ⟨.value (.func 303),#[x,y,z,c],tys⟩,ty,pos,af,none⟩ K:=by
 refine bT layOk O O Tryz.func303 O Y O O ?_;show PWP _ _ _ _ (bh s (([x,y,z,c]:List Operand).map s.ev++[]));rw[show(([x,y,z,c]:List Operand).map s.ev++([]:List PV))=[.als 5 g 0 N,I A.length,I (A.length+l.length:Nat),.clo 279 []] by simp[hx,hy,hz,hc]];rw[show bh s [.als 5 g 0 N,I A.length,I (A.length+l.length:Nat),.clo 279 []]=bh (s.over [] [(5,g,⟨303,8,(A++l++S).map bD,1⟩)]) [.als 5 g 0 N,I A.length,I (A.length+l.length:Nat),.clo 279 []] by rw[Fit.over (l:=[]) ho]];have hlen:N=A.length+l.length+S.length:=by rw[hN];simp;omega
 have h1s:b8 bz (l.take 1)++l.drop 1=l:=by
  cases l with
  |nil=>rfl
  |cons x r=>rfl
 have hw0:IntKind.i64.wrap (((A.length:Nat):Int)+1)=((A.length+1:Nat):Int):=by rw[wrap_i64 J J];omega
 refine H ?_;rw[hw0];refine ap (fun i=>1<=i/\(i<=l.length\/i=1)) (fun i=>[(0,.als 5 g 0 N),(1,I A.length),(2,I (A.length+l.length:Nat)),(3,.clo 279 []),(8,I (A.length+i:Nat))])
  (fun i=>[(5,g,⟨303,8,(A++(b8 bz (l.take i)++l.drop i)++S).map bD,1⟩)]) (fun i=>l.length+1-i) 1 ⟨aP,.inr O⟩ ⟨O,O,O,O,O,by rw[h1s];rfl,trivial⟩ ?_
 rintro i s1 ⟨hi1,hi⟩;refine D ?_ ?_<;>intro h
 .have hlt:i<l.length:=by have:=aC h;omega
  clear h;obtain⟨p,hp⟩:=aJ hlt;have htk:l.take (i+1)=l.take i++[p]:=bC hp;have hdr:l.drop i=p::l.drop (i+1):=f9 hp;have hnx:IntKind.i64.wrap (((A.length+i:Nat):Int)+1)=((A.length+(i+1):Nat):Int):=by rw[wrap_i64 J J];omega
  generalize hP:b8 bz (l.take i)=P at *
  have hPl:P.length=i:=by rw[<-hP,dJ,List.length_take];omega
  have hstart:P++l.drop i=b_ P p i++l.drop (i+1):=by
   have hti:P.take i=P:=List.take_of_length_le J;have hdi:P.drop i=[]:=List.drop_eq_nil_of_le J;rw[hdr,b_,hti,hdi];simp
  refine H ?_;refine ap (fun j=>j<=i/\∀q y,j<=q->P[q]? = some y->bz p<bz y) (fun j=>[(0,.als 5 g 0 N),(1,I A.length),(2,I (A.length+l.length:Nat)),(3,.clo 279 []),(8,I (A.length+i:Nat)),(9,I (A.length+j:Nat))])
   (fun j=>[(5,g,⟨303,8,(A++(b_ P p j++l.drop (i+1))++S).map bD,1⟩)]) (fun j=>j) i ⟨aP,fun q y hq hy=>by rw[List.getElem?_eq_none J]at hy;cases hy⟩ ⟨O,O,O,O,O,O,by rw[hstart];rfl,trivial⟩ ?_
  rintro j s2 ⟨hj,hpre⟩;refine cn 17 [18,19,20,21,22,23,24,25,26,27,28,29,30,31,32,33,34] ?_;refine dE ?_ ?_<;>intro h
  .have hj0:0<j:=by have:=aC h;omega
   clear h;obtain⟨k,rfl⟩:∃k,j=k+1:=⟨j-1,J⟩;have hIl:(b_ P p (k+1)).length=i+1:=by simp[b_];omega
   have hB1:(b_ P p (k+1)++l.drop (i+1))[k+1]? = some p:=by
    rw[List.getElem?_append_left J,pe J]
   obtain⟨y,hy1⟩:=aJ (show k<P.length by omega);have hB2:(b_ P p (k+1)++l.drop (i+1))[k]? = some y:=by
    rw[List.getElem?_append_left J,lR J J,hy1]
   have hrow:=yE (A:=A) (S:=S) hB1;have hrow2:=yE (A:=A) (S:=S) hB2;have hym:y∈l:=List.mem_of_mem_take ((gC bz _).mem_iff.1 (hP▸bc hy1));have hw1:IntKind.i64.wrap (((A.length+(k+1):Nat):Int)-1)=((A.length+k:Nat):Int):=by rw[wrap_i64 J J];omega
   refine H ?_;refine jY O O O O O O O O O ?_;rw[Int.toNat_natCast,Nat.zero_add (A.length+(k+1))];refine bE O O (cu O O O hrow O) ?_;refine H ?_;rw[hw1];refine jY O O O O O O O O O ?_;rw[Int.toNat_natCast,Nat.zero_add (A.length+k)];refine bE O O (cu O O O hrow2 O) ?_;refine ar (jg (hd p (bc hp)) (hd y hym)) ?_;refine D ?_ ?_<;>intro h
   .have hlt2:bz p<bz y:=by have:=(cP _).1 (aC h);grind
    clear h;refine H ?_;refine aZ 15 0 [37,38,39,40,41,42,43,44,45,46,47,48,49,50,51] [2,3,4] aT O ?_;refine H ?_;rw[hw1];refine jY O O O O O O O O O ?_;rw[Int.toNat_natCast,Nat.zero_add (A.length+k)];refine bE O O (cu O O O hrow2 O) ?_;refine H ?_;refine jY O O O O O O O O O ?_;rw[Int.toNat_natCast,Nat.zero_add (A.length+(k+1))];refine bE O O (cu O O O hrow O) ?_;refine H ?_;refine jY O O O O O O O O O ?_;rw[Int.toNat_natCast,Nat.zero_add (A.length+(k+1))];refine H ?_;refine bL (bN (kd':=1) O O O hrow O O aI O O O O ?_);refine jY O O O O O O O O O ?_;rw[Int.toNat_natCast,Nat.zero_add (A.length+k)];refine bL (bN (kd':=1) O O O (row:=bD y) (by
     show(((A++(b_ P p (k+1)++l.drop (i+1))++S).map bD).set (A.length+(k+1)) _)[A.length+k]? = _
     rw[List.getElem?_set_ne J];exact hrow2) O O aI O O O O ?_)
    refine H ?_;refine⟨k,⟨J,fun q z hq hz=>?_⟩,J,O,O,O,O,O,congrArg I hw1,?_,trivial⟩
    .by_cases hqk:q=k
     .subst hqk;rw[hy1]at hz;cases hz;exact hlt2
     .exact hpre q z J hz
    .refine Eq.trans (b:=(g,some (Cont.mk 303 8 ((((A++(b_ P p (k+1)++l.drop (i+1))++S).map bD).set (A.length+(k+1)) (bD y)).set (A.length+k) (bD p)) 1))) O ?_;rw[<-List.map_set,<-List.map_set,yH (by rw[List.length_append];omega),yH (by rw[List.length_set,List.length_append];omega),List.set_append_left _ _ J,List.set_append_left _ _ (by rw[List.length_set];omega),pf J hy1]
   .have hge2:bz y<=bz p:=by
     have h9:=aG h;rw[cP]at h9;grind
    clear h;have hpos:u9 bz P p=k+1:=n9 J hpre (.inr ⟨y,hy1,hge2⟩);have hins:b8 bz (l.take (i+1))=b_ P p (k+1):=by rw[htk,iT,hP,kR,hpos]
    refine H ?_;refine⟨i+1,⟨J,.inl J⟩,J,O,O,O,O,congrArg I hnx,?_,trivial⟩;rw[hins];rfl
  .have hj0:j=0:=by have:=aG h;omega
   subst hj0;clear h;have hpos:u9 bz P p=0:=n9 J hpre (.inl O);have hins:b8 bz (l.take (i+1))=b_ P p 0:=by rw[htk,iT,hP,kR,hpos]
   refine H ?_;refine⟨i+1,⟨J,.inl J⟩,J,O,O,O,O,congrArg I hnx,?_,trivial⟩;rw[hins];rfl
 .have hge:l.length<=i:=by have:=aG h;omega
  have hend:b8 bz (l.take i)++l.drop i=b8 bz l:=by
   rw[List.take_of_length_le hge,List.drop_eq_nil_of_le hge,List.append_nil]
  rw[hend];refine H ?_;exact db O (hK s1)
section
variable {α:Type}{key:α->Rat}
inductive Bk (key:α->Rat) (n:Nat):List α->Prop
 |last {l:List α}:l.length<=n->fD key l->Bk key n l
 |cons {x l:List α}:x.length=n->fD key x->Bk key n l->Bk key n (x++l)
inductive Fk (key:α->Rat) (n:Nat):List α->Prop
 |nil:Fk key n []
 |snoc {p x:List α}:Fk key n p->x.length=n->fD key x->Fk key n (p++x)
theorem CE {n:Nat}{p:List α}(h:Fk key n p):∀ {t:List α},Bk key n t->Bk key n (p++t):=by
 induction h with
 |nil=>intro t ht;exact ht
 |snoc _ hx hs ih=>intro t ht;rw[List.append_assoc];exact ih (.cons hx hs ht)
theorem oI {n:Nat}{t:List α}(h:Bk key n t)(hl:t.length<=n):fD key t:=by
 cases h with
 |last _ hs=>exact hs
 |cons hx hs hb =>
  rename_i x l;have:l=[]:=List.length_eq_zero_iff.1 (by rw[List.length_append]at hl;omega);subst this;rw[List.append_nil];exact hs
theorem Ic {n:Nat}{t:List α}(hn:0<n)(h:Bk key n t)(hl:2*n<=t.length):∃x y l,t=x++y++l/\x.length=n/\y.length=n/\fD key x/\fD key y/\Bk key n l:=by
 cases h with
 |last h1 _=>omega
 |cons hx hs hb =>
  rename_i x l;cases hb with
  |last h1 hs2=>exact⟨x,l,[],(List.append_nil _).symm,hx,by rw[List.length_append]at hl;omega,hs,hs2,.last (Nat.zero_le _) List.Pairwise.nil⟩
  |cons hy hs2 hb2 =>
   rename_i y l;exact⟨x,y,l,(List.append_assoc ..).symm,hx,hy,hs,hs2,hb2⟩
theorem Fd {n:Nat}{t:List α}(h:Bk key n t)(h1:n<t.length)(h2:t.length<2*n):∃x y,t=x++y/\x.length=n/\y.length<n/\y≠[]/\fD key x/\fD key y:=by
 cases h with
 |last h3 _=>omega
 |cons hx hs hb =>
  rename_i x l;rw[List.length_append]at h1 h2;refine⟨x,l,O,hx,J,?_,hs,oI hb J⟩;rintro rfl;simp at h1;omega
end
theorem CC {W l:List BN}(h:∀c,cX bz c W=cX bz c l){p:BN}(hp:p∈W):p∈l:=by
 have:p∈cX bz (bz p) W:=d_.2 ⟨hp,O⟩;rw[h]at this;exact(d_.1 this).1
theorem Ii {α:Type}{t:List α}{n:Nat}(h:n<=t.length):∃a s,t=a++s/\a.length=n:=⟨t.take n,t.drop n,(List.take_append_drop n t).symm,by rw[List.length_take];omega⟩
set_option maxRecDepth 20000 in
theorem xO {K:St->Prop}{s:St}{d g:Nat}{x z c:Operand}{tys:Array TypeId}{ty:TypeId}{pos:String}{af:Array Edge}(l:List BN)(hl:l.length<=400)
  (hx:s.ev x = .als 5 g 0 (l.map bD).length) (hz:s.ev z=I l.length) (hc:s.ev c = .clo 279 [])
  (hd:∀p∈l,p.at'.sz 7000000)
  (ho:FitO s [(5,g,⟨303,8,l.map bD,1⟩)])
  (hK:∀s1:St,K (({ reg:=s.reg,own:=(s1.over [] [(5,g,⟨303,8,(b8 bz l).map bD,1⟩)]).own }:St).putR d (.tup []))) :
  Sm Tryz.prog lay.get s ⟨some d,.call ⟨.value (.func 290),#[x,z,c],tys⟩,ty,pos,af,none⟩ K:=by
 have hK2:∀(s1:St) (W:List BN),fD bz W->(∀c,cX bz c W=cX bz c l)->K (({ reg:=s.reg,own:=(s1.over [] [(5,g,⟨303,8,W.map bD,1⟩)]).own }:St).putR d (.tup [])):=fun s1 W hs hf=>by rw[Bs hs hf];exact hK s1
 clear hK;rw[List.length_map]at hx;have hds:∀ {W:List BN},(∀c,cX bz c W=cX bz c l)->∀p∈W,p.at'.sz 7000000:=fun hf p hp=>hd p (CC hf hp);obtain⟨N,hN⟩:∃N,N=l.length:=⟨_,O⟩;rw[<-hN]at hx hz hl;refine bT layOk O O Tryz.func290 O Y O O ?_;show PWP _ _ _ _ (bh s (([x,z,c]:List Operand).map s.ev++[]));rw[show(([x,z,c]:List Operand).map s.ev++([]:List PV))=[.als 5 g 0 N,I (N:Nat),.clo 279 []] by simp[hx,hz,hc]];rw[show bh s [.als 5 g 0 N,I (N:Nat),.clo 279 []]=bh (s.over [] [(5,g,⟨303,8,l.map bD,1⟩)]) [.als 5 g 0 N,I (N:Nat),.clo 279 []] by rw[Fit.over (l:=[]) ho]];clear ho hx hz hc;refine H ?_;refine ap (fun q:List BN × List BN=>Fk bz 20 q.1/\(q.1++q.2).length=N/\∀c,cX bz c (q.1++q.2)=cX bz c l) (fun q=>[(0,.als 5 g 0 N),(1,I (N:Nat)),(2,.clo 279 []),(6,I 20),(7,I (q.1.length:Nat)),(8,I (q.1.length+20:Nat))])
  (fun q=>[(5,g,⟨303,8,(q.1++q.2).map bD,1⟩)]) (fun q=>q.2.length) ([],l) ⟨.nil,hN.symm,fun c=>rfl⟩ ⟨O,O,O,O,O,O,O,trivial⟩ ?_
 rintro⟨P,T⟩ s1 ⟨hP,hPT,hF⟩;dsimp only at hP hPT hF ⊢;rw[List.length_append]at hPT;refine D ?_ ?_<;>intro h
 .have hlt:P.length+20<=N:=by have:=aC h;omega
  clear h;obtain⟨A,S,rfl,hA⟩:=Ii (show 20<=T.length by omega);rw[List.length_append]at hPT;rw[<-List.append_assoc]at hF ⊢;have hw:IntKind.i64.wrap (((P.length+20:Nat):Int)+20)=((P.length+20+20:Nat):Int):=by rw[wrap_i64 J J];omega
  have hPA:P.length+20=(P++b8 bz A).length:=by rw[List.length_append,dJ,hA]
  ((repeat ((fail_if_success (with_reducible refine aQ 3 ?_));refine cx O ?_));refine aM 4 ?_)
  refine H ?_;refine aV O (yz (N:=N) P A S aU J O O (congrArg (fun n:Nat=>I n) (show P.length+20=P.length+A.length by rw[hA])) O (fun p hp=>hds hF p (List.mem_append_left _ (List.mem_append_right _ hp))) ⟨O,trivial⟩ fun s2=>?_);refine aO ?_;refine H ?_;refine⟨(P++b8 bz A,S),⟨.snoc hP (by rw[dJ,hA]) (fV bz A),by simp[dJ];omega,fun c=>by rw[<-hF c,a_,a_,nf,<-a_,<-a_]⟩,by simp;omega,O,O,O,O,congrArg (fun n:Nat=>I n) hPA,?_,O,trivial⟩;dsimp only;rw[<-hPA];exact congrArg I hw
 have hge:¬P.length+20<=N:=by have:=aG h;omega
 clear h;rw[show P++T=P++T++[] from(List.append_nil _).symm]
 ((repeat ((fail_if_success (with_reducible refine aQ 6 ?_));refine cx O ?_));refine aM 4 ?_)
 refine H ?_;refine aV O (yz (N:=N) P T [] aU J O O (congrArg (fun n:Nat=>I n) (show N=P.length+T.length by omega)) O (fun p hp=>hds hF p (List.mem_append_right _ hp)) ⟨O,trivial⟩ fun s2=>?_);refine aO ?_;have hF2:∀c,cX bz c (P++b8 bz T)=cX bz c l:=fun c=>by rw[<-hF c,a_,a_,nf]
 have hB2:Bk bz 20 (P++b8 bz T):=CE hP (.last (by rw[dJ];omega) (fV bz T));have hR2:(P++b8 bz T).length=N:=by rw[List.length_append,dJ];exact hPT
 rw[show P++b8 bz T++[]=P++b8 bz T from List.append_nil _];generalize P++b8 bz T=R at *
 clear hP hF hge hPT;refine H ?_;refine ap (fun q:Nat × List BN=>0<q.1/\q.1<=800/\Bk bz q.1 q.2/\q.2.length=N/\∀c,cX bz c q.2=cX bz c l) (fun q=>[(0,.als 5 g 0 N),(1,I (N:Nat)),(2,.clo 279 []),(6,I (q.1:Nat))])
  (fun q=>[(5,g,⟨303,8,q.2.map bD,1⟩)]) (fun q=>N-q.1) (20,R) ⟨by show 0<20;omega,by show 20<=800;omega,hB2,hR2,hF2⟩ ⟨O,O,O,O,O,trivial⟩ ?_
 clear hB2 hR2 hF2;rintro⟨b,R⟩ s3 ⟨hb0,hb8,hB,hR,hF⟩;dsimp only at hb0 hb8 hB hR hF ⊢;refine D ?_ ?_<;>intro h
 .have hbN:b<N:=by have:=aC h;omega
  clear h;have hw2:IntKind.i64.wrap (2*((b:Nat):Int))=((2*b:Nat):Int):=by rw[wrap_i64 J J];omega
  have hw3:IntKind.i64.wrap (((b:Nat):Int)*2)=((2*b:Nat):Int):=by rw[wrap_i64 J J];omega
  refine H ?_;rw[hw2];refine ap (fun q:List BN × List BN=>Fk bz (2*b) q.1/\Bk bz b q.2/\(q.1++q.2).length=N/\∀c,cX bz c (q.1++q.2)=cX bz c l) (fun q=>[(0,.als 5 g 0 N),(1,I (N:Nat)),(2,.clo 279 []),(6,I (b:Nat)),(7,I (q.1.length:Nat)),(8,I (q.1.length+2*b:Nat))])
   (fun q=>[(5,g,⟨303,8,(q.1++q.2).map bD,1⟩)]) (fun q=>q.2.length) ([],R) ⟨.nil,hB,hR,hF⟩ ⟨O,O,O,O,O,(congrArg (fun n:Nat=>I n) (show 2*b=([]:List BN).length+2*b by simp)),O,trivial⟩ ?_
  clear hB hR hF;rintro⟨P,T⟩ s4 ⟨hP,hB,hR,hF⟩;dsimp only at hP hB hR hF ⊢;rw[List.length_append]at hR;have hw1:IntKind.i64.wrap (((P.length:Nat):Int)+((b:Nat):Int))=((P.length+b:Nat):Int):=by rw[wrap_i64 J J];omega
  refine D ?_ ?_<;>intro h
  .have hlt:P.length+2*b<=N:=by have:=aC h;omega
   clear h;have hw4:IntKind.i64.wrap (((P.length+2*b:Nat):Int)+((2*b:Nat):Int))=((P.length+2*b+2*b:Nat):Int):=by rw[wrap_i64 J J];omega
   obtain⟨U,V,S,rfl,hU,hV,hsU,hsV,hBS⟩:=Ic hb0 hB J;rw[List.length_append,List.length_append]at hR;have e0:P++(U++V++S)=P++U++V++S:=by simp[List.append_assoc]
   rw[e0]at hF ⊢
   ((repeat ((fail_if_success (with_reducible refine aQ 10 ?_));refine cx O ?_));refine aM 7 ?_)
   refine H ?_;rw[hw1];refine aV O (EI (U.length+V.length) (N:=N) P U V S (aP) (by intro e;rw[e]at hU;simp at hU;omega) (by intro e;rw[e]at hV;simp at hV;omega) hsU hsV (fun p hp=>hds hF p (List.mem_append_left _ (by rw[List.append_assoc];exact List.mem_append_right _ hp))) aU J O O (congrArg (fun n:Nat=>I n) (show P.length+b=P.length+U.length by rw[hU])) (congrArg (fun n:Nat=>I n) (show P.length+2*b=P.length+U.length+V.length by omega)) O ⟨O,trivial⟩ fun s5 W hpW hfW hsW=>?_);refine aO ?_;refine H ?_;have hWl:W.length=2*b:=by rw[hpW.length_eq,List.length_append];omega
   have hPW:P.length+2*b=(P++W).length:=by rw[List.length_append,hWl]
   refine⟨(P++W,S),⟨.snoc hP hWl hsW,hBS,by simp;omega,fun c=>by rw[<-hF c,a_,a_,hfW,a_,a_,a_,a_];simp[List.append_assoc]⟩,by simp;omega,O,O,O,O,congrArg (fun n:Nat=>I n) hPW,?_,O,trivial⟩;refine Eq.trans (b:=I (IntKind.i64.wrap (((P.length+2*b:Nat):Int)+IntKind.i64.wrap (2*((b:Nat):Int))))) O ?_;rw[hw2,hw4,hPW]
  have hge:¬P.length+2*b<=N:=by have:=aG h;omega
  clear h;refine H ?_;rw[hw1];refine bP O ?_ ?_<;>intro h
  .have hlt:P.length+b<N:=by have:=aC h;omega
   clear h;obtain⟨U,V,rfl,hU,hV,hV0,hsU,hsV⟩:=Fd hB J J;rw[List.length_append]at hR;have e0:P++(U++V)=P++U++V++[]:=by simp[List.append_assoc]
   rw[e0]at hF ⊢
   ((repeat ((fail_if_success (with_reducible refine aQ 15 ?_));refine cx O ?_));refine aM 5 ?_)
   refine H ?_;refine aV O (EI (U.length+V.length) (N:=N) P U V [] (aP) (by intro e;rw[e]at hU;simp at hU;omega) hV0 hsU hsV (fun p hp=>hds hF p (List.mem_append_left _ (by rw[List.append_assoc];exact List.mem_append_right _ hp))) aU J O O (congrArg (fun n:Nat=>I n) (show P.length+b=P.length+U.length by rw[hU])) (congrArg (fun n:Nat=>I n) (show N=P.length+U.length+V.length by omega)) O ⟨O,trivial⟩ fun s5 W hpW hfW hsW=>?_);refine aO ?_;refine H ?_;have hWl:W.length=U.length+V.length:=by rw[hpW.length_eq,List.length_append]
   rw[show P++W++[]=P++W from List.append_nil _];refine⟨(2*b,P++W),⟨J,J,CE hP (.last J hsW),by simp;omega,fun c=>by rw[<-hF c,a_,hfW,a_,a_,a_,a_,List.append_assoc];simp[cX]⟩,by simp only;omega,O,O,O,congrArg I hw3,O,trivial⟩
  .have hge2:¬P.length+b<N:=by have:=aG h;omega
   clear h;refine H ?_;refine⟨(2*b,P++T),⟨J,J,CE hP (.last J (oI hB J)),by simp;omega,hF⟩,by simp only;omega,O,O,O,congrArg I hw3,O,trivial⟩
 .have hge:¬b<N:=by have:=aG h;omega
  clear h;refine H ?_;exact db O (hK2 s3 R (oI hB J) hF)
set_option maxRecDepth 20000 in
theorem Eu {K:St->Prop}{s:St}{d g:Nat}{x c:Operand}{tys:Array TypeId}{ty:TypeId}{pos:String}{af:Array Edge}(l:List BN)(hl:l.length<=400)
  (hx:s.ev x = .als 5 g 0 (l.map bD).length) (hc:s.ev c = .clo 279 [])
  (hd:∀p∈l,p.at'.sz 7000000)
  (ho:FitO s [(5,g,⟨303,8,l.map bD,1⟩)])
  (hK:∀s1:St,K (({ reg:=s.reg,own:=(s1.over [] [(5,g,⟨303,8,(b8 bz l).map bD,1⟩)]).own }:St).putR d (.tup []))) :
  Sm Tryz.prog lay.get s ⟨some d,.call ⟨.value (.func 278),#[x,c],tys⟩,ty,pos,af,none⟩ K:=by
 refine bT layOk O O Tryz.func278 O Y O O ?_;show PWP _ _ _ _ (bh s (([x,c]:List Operand).map s.ev++[]));rw[show(([x,c]:List Operand).map s.ev++([]:List PV))=[.als 5 g 0 (l.map bD).length,.clo 279 []] by simp[hx,hc]];rw[show bh s [.als 5 g 0 (l.map bD).length,.clo 279 []]=bh (s.over [] [(5,g,⟨303,8,l.map bD,1⟩)]) [.als 5 g 0 (l.map bD).length,.clo 279 []] by rw[Fit.over (l:=[]) ho]];have hen:(l.map bD).length=l.length:=by rw[List.length_map]
 ((repeat ((fail_if_success (with_reducible refine aQ 0 ?_));refine cx O ?_));refine aM 4 ?_)
 refine H ?_;refine aV O (xO l hl O (congrArg (fun n:Nat=>I n) hen) O hd ⟨O,trivial⟩ fun s2=>?_);refine aO ?_;refine H ?_;exact db O (hK s2)
def zA:AR:=⟨RR.zero,RR.zero⟩
def mG (a:AR)(F:List RR):List PV:=eA a++[.sl (F.map eR)]
def zS:List PV:=zN++zN++[.nil]
theorem WeakL.append {a b c d:List PV}(h1:WeakL a b)(h2:WeakL c d):WeakL (a++c) (b++d):=by
 induction h1 with
 |nil=>exact h2
 |cons h _ ih=>exact .cons h ih
theorem iY:WeakL (zN++zN) (eA zA):=cK.append cK
theorem my:WeakL zS (mG zA []):=iY.append (.cons .nil .nil)
structure SQ where
 a:AR
 F:List RR
 r:AR
 e:Int
def SQ.pv (q:SQ):PV := .tup [.agg (mG q.a q.F),.agg (eA q.r),I q.e]
noncomputable def nN (b:BR):Rat × Rat:=((bd b).eqQ 150000).getD (0,0)
noncomputable def fH (b:BR):SQ :=
 if ci b=0 then
  if lg b ek=true then⟨zA,[],ek,12⟩
  else match (dp b.l).find? (lg b) with
   |some r=>⟨zA,[],r,13⟩
   |none=>if jp b (nN b).1 (nN b).2=true then⟨zA,[],zA,14⟩ else⟨⟨ofQ (nN b).1,ofQ (nN b).2⟩,FL b.l (nN b).1 (nN b).2,zA,0⟩
 else⟨zA,[],zA,ci b⟩
def BR.Good (b:BR):Prop:=b.Lim/\(ci b=0->b.Ok/\(bd b).SzT/\∀t,(ko b.l t).length<=54)
theorem oU {b:BR}(hb:b.Ok)(hs:(bd b).SzT)(h:lz b):(bd b).eqQ 150000=some (nN b)/\(bd b).Bal (nN b).1 (nN b).2/\HQ (nN b).1 24000/\HQ (nN b).2 20000:=by
 obtain⟨x,h1,h2,h3⟩:=JA hb hs h;have e:nN b=x:=by rw[nN,h1];rfl
 rw[e];exact⟨h1,h2,h3⟩
theorem Ae {b:BR}(h1:¬lg b ek=true)(h2:(dp b.l).find? (lg b)=none):lz b:=by
 refine⟨by simpa using h1,fun r hr=>?_⟩;have:=List.find?_eq_none.1 h2 r hr;simpa using this
set_option maxRecDepth 20000 in
theorem Br (b:BR)(hb:b.Lim)(he:ci b≠0):Ret Tryz.prog .shared 78 [.agg (eB b)] (.tup [.agg zS,.agg (zN++zN),I (ci b)]):=by
 have h1:=dP b hb;generalize ci b=e at *
 refine Ret.of_pwp layOk mixed Go.Proofs.Tryz.func78 O Y O O ?_;refine ar h1 ?_;refine D ?_ ?_<;>intro h
 .clear h;exact bV
 .exfalso;simp at h;exact he h
set_option maxRecDepth 20000 in
theorem pS (b:BR)(hb:b.Lim)(h0:ci b=0)(r:AR)(e:Int)(he:e≠0)(h93:Ret Tryz.prog .shared 141 [.agg (eB b)] (.tup [.agg (eA r),I e])):Ret Tryz.prog .shared 78 [.agg (eB b)] (.tup [.agg zS,.agg (eA r),I e]):=by
 have h1:=dP b hb;rw[h0]at h1;clear h0 hb;refine Ret.of_pwp layOk mixed Go.Proofs.Tryz.func78 O Y O O ?_;refine ar h1 ?_;refine G h93 ?_;refine D ?_ ?_<;>intro h
 .clear h;refine H ?_;refine bS [2,3] [3,4] aT ?_;refine H ?_;exact bV
 .exfalso;simp at h;exact he h
set_option maxRecDepth 20000 in
theorem vP (b:BR)(hb:b.Lim)(h0:ci b=0)(h93:Ret Tryz.prog .shared 141 [.agg (eB b)] (.tup [.agg (zN++zN),I 0]))(a:AR)(h120:Ret Tryz.prog .shared 142 [.agg (eB b)] (.agg (eA a)))
  (h121:Ret Tryz.prog .shared 143 [.agg (eB b),.agg (eA a)] (.bool true)):Ret Tryz.prog .shared 78 [.agg (eB b)] (.tup [.agg zS,.agg (zN++zN),I 14]):=by
 have h1:=dP b hb;rw[h0]at h1;clear h0 hb;refine Ret.of_pwp layOk mixed Go.Proofs.Tryz.func78 O Y O O ?_;refine ar h1 ?_;refine G h93 ?_;refine G h120 ?_;refine ar h121 ?_;exact bV
set_option maxRecDepth 20000 in
theorem rQ (b:BR)(hb:b.Lim)(h0:ci b=0)(h93:Ret Tryz.prog .shared 141 [.agg (eB b)] (.tup [.agg (zN++zN),I 0]))(a:AR)(F:List RR)(h120:Ret Tryz.prog .shared 142 [.agg (eB b)] (.agg (eA a)))
  (h121:Ret Tryz.prog .shared 143 [.agg (eB b),.agg (eA a)] (.bool false)) (h23:Ret Tryz.prog .shared 144 [.sl (b.l.map eS),.agg (eA a)] (.tup [.sl (F.map eR),I 0])):Ret Tryz.prog .shared 78 [.agg (eB b)] (.tup [.agg (mG a F),.agg (zN++zN),I 0]):=by
 have h1:=dP b hb;rw[h0]at h1;clear h0 hb;refine Ret.of_pwp layOk mixed Go.Proofs.Tryz.func78 O Y O O ?_;refine ar h1 ?_;refine G h93 ?_;refine G h120 ?_;refine ar h121 ?_;refine G h23 ?_;exact bV
set_option maxRecDepth 20000 in
theorem GD (l:List BN)(hl:l.length<=54):SortC l:=⟨fun hx hc hd ho hK=>Eu l J hx hc hd ho hK⟩
theorem Im {b:BR}(hb:b.Ok)(hs:(bd b).SzT)(h40:∀t,(ko b.l t).length<=54)(hS:∀t,SortC (ko b.l t))(h:lz b):Ret Tryz.prog .shared 142 [.agg (eB b)] (.agg (eA ⟨ofQ (nN b).1,ofQ (nN b).2⟩)) :=
 qU b hb h40 hS (fun t=>Bd.enough (il hb) t (kZ h)) Y (oU hb hs h).1
theorem pT (b:BR)(hg:b.Good)(hS:ci b=0->∀t,SortC (ko b.l t)):Ret Tryz.prog .shared 78 [.agg (eB b)] (fH b).pv:=by
 rw[fH];by_cases h0:ci b=0
 .rw[if_pos h0];obtain⟨hb,hs,h40⟩:=hg.2 h0;have h93:=nG b hb;rw[jA]at h93;by_cases h1:lg b ek=true
  .rw[if_pos h1]at h93 ⊢;exact(pS b hg.1 h0 ek 12 Y h93).weak (WeakL.refl _) (WeakL.tup (.cons my.agg (WeakL.refl _)))
  .rw[if_neg h1]at h93 ⊢;cases h2:(dp b.l).find? (lg b) with
   |some r =>
    rw[h2]at h93;exact(pS b hg.1 h0 r 13 Y h93).weak (WeakL.refl _) (WeakL.tup (.cons my.agg (WeakL.refl _)))
   |none =>
    rw[h2]at h93;have hn:=Ae h1 h2;have h120:=Im hb hs h40 (hS h0) hn;obtain⟨_,hbal,hz,ht⟩:=oU hb hs hn;have va:Va ⟨ofQ (nN b).1,ofQ (nN b).2⟩ (nN b).1 (nN b).2 24000 20000:=⟨Vq.ofQ (h:=hz),Vq.ofQ (h:=ht)⟩;have h121:=rb b hb ⟨ofQ (nN b).1,ofQ (nN b).2⟩ (ha:=va) Y;dsimp only;cases hl:jp b (nN b).1 (nN b).2 with
    |true =>
     rw[hl]at h121;exact(vP b hg.1 h0 h93 _ h120 h121).weak (WeakL.refl _) (WeakL.tup (.cons my.agg (.cons iY.agg (WeakL.refl _))))
    |false =>
     rw[hl]at h121;have h23:=kP b.l hb.lim.l hb.chkL ⟨ofQ (nN b).1,ofQ (nN b).2⟩ (ha:=va) Y;exact(rQ b hg.1 h0 h93 _ _ h120 h121 h23).weak (WeakL.refl _) (WeakL.tup (.cons (.rfl _) (.cons iY.agg (WeakL.refl _))))
 .rw[if_neg h0];exact(Br b hg.1 h0).weak (WeakL.refl _) (WeakL.tup (.cons my.agg (.cons iY.agg (WeakL.refl _))))
set_option maxRecDepth 20000 in
theorem wC (n:Nat)(hn:n<18446744073709551616):Ret Tryz.prog .shared 151 [.int .u64 (n:Nat)] (.sl ((ay n).map eU)):=by
 refine Ret.of_pwp layOk mixed Go.Proofs.Tryz.func151 O Y O O ?_
 ((repeat (first|refine aY ?_ | refine cE ?_ | refine cz ?_ | refine cB ?_));refine bq ?_)
 refine jb O trivial ?_
 ((repeat (first|refine aY ?_ | refine cE ?_ | refine cz ?_ | refine cB ?_));refine bq ?_)
 (first|refine aH (gZ 57 1 0 O O ?_)|refine aH (gY 57 1 0 O O ?_))
 refine H ?_;refine ap (fun q:Nat × List UInt16=>(ay n=q.2++ay q.1/\q.1<18446744073709551616)/\q.1*65536^q.2.length<=n) (fun q=>[(0,.int .u64 (q.1:Nat)),(3,.als 3 (1+q.2.length) 0 (q.2.map eU).length)]) (fun q=>[(3,1+q.2.length,⟨57,1,q.2.map eU,0⟩)]) (fun q=>q.1) (n,[]) ⟨⟨O,hn⟩,ah⟩ ⟨O,O,O,trivial⟩ ?_;rintro⟨m,L⟩ s ⟨⟨hL,hmn⟩,hb⟩;simp only at hL hb hmn;dsimp only;refine D ?_ ?_<;>intro h
 .have hm:0<m:=by have:=aC h;omega
  clear h;have hLl:L.length<4:=by
   rcases Nat.lt_or_ge L.length 4 with h|h
   .exact h
   .exfalso;have h1:65536^4<=65536^L.length:=Nat.pow_le_pow_right Y h;have h2:=Nat.mul_le_mul (show 1<=m by omega) h1;have:1*65536^4=18446744073709551616:=Y;omega
  have hL2:=pl hL hm;have hb2:m/65536*65536^(L++[UInt16.ofNat m]).length<=n:=by
   rw[List.length_append,List.length_singleton,Nat.pow_succ,Nat.mul_comm (65536^_),<-Nat.mul_assoc];exact Nat.le_trans (Nat.mul_le_mul_right _ (Nat.div_mul_le_self _ _)) hb
  have ha:=Hi m hmn;have hcv:IntKind.u16.wrap ((m-m/65536*65536:Nat):Int)=((UInt16.ofNat m).toNat:Int):=by rw[wrap_u16,be,be];omega
  refine H ?_;rw[ha,hcv];refine bE O O (dj O O O O O O O O O O aI O) ?_;refine aH (bQ 0 O O O O O O O O O O O aI (by intro row hr;first|(simp at hr;subst hr;rfl)|simp at hr) O O aU aU ?_);refine H ?_;refine⟨(m/65536,L++[UInt16.ofNat m]),⟨⟨hL2,by simp only;omega⟩,hb2⟩,by simp only;omega,?_,?_,?_,trivial⟩
  .show PV.int .u64 ((m:Int)/2^(16:Int).toNat)=PV.int .u64 ((m/65536:Nat):Int);rw[show((2:Int)^(16:Int).toNat)=65536 by decide];congr 1
  .exact nV eU 3 1 L (UInt16.ofNat m)
  .exact lH eU 1 57 1 0 L (UInt16.ofNat m)
 .have hm:m=0:=by have:=aG h;omega
  subst hm;clear h;rw[bM,List.append_nil]at hL;rw[hL];refine H ?_;exact iq O O O ⟨O,O,O⟩ O
set_option maxRecDepth 20000 in
theorem B8 (z:Int)(hz:i64 z):Ret Tryz.prog .shared 82 [I z] (.agg (eI (cw z))):=by
 obtain⟨h0,h1⟩:=hz;have hn:=wC z.natAbs J;by_cases hz:z<0
 .rw[cw,decide_eq_true hz];have w1:IntKind.i64.wrap (z+1)=z+1:=wrap_i64 J J;have w2:IntKind.i64.wrap (0-(z+1))=0-(z+1):=wrap_i64 J J;have w3:IntKind.u64.wrap (0-(z+1))=0-(z+1):=wrap_u64 J J;have w4:IntKind.u64.wrap (0-(z+1)+1)=((z.natAbs:Nat):Int):=by rw[wrap_u64 J J];omega
  generalize ay z.natAbs=A at *
  generalize ((z.natAbs:Nat):Int)=na at *
  refine Ret.of_pwp layOk mixed Go.Proofs.Tryz.func82 O Y O O ?_;refine D ?_ ?_<;>intro h
  .clear h;refine H ?_;rw[w1];refine H ?_;rw[w2];refine H ?_;rw[w3];refine H ?_;rw[w4];refine G hn ?_;exact bV
  .exact absurd hz (aG h)
 .rw[cw,decide_eq_false hz];have w:IntKind.u64.wrap z=((z.natAbs:Nat):Int):=by rw[wrap_u64 J J];omega
  generalize ay z.natAbs=A at *
  refine Ret.of_pwp layOk mixed Go.Proofs.Tryz.func82 O Y O O ?_;refine D ?_ ?_<;>intro h
  .exact absurd (aC h) hz
  .clear h;refine H ?_;rw[w];refine nR O O O hn O O ?_;exact bV
theorem gT (z:Int)(hz:i64 z):Ret Tryz.prog .shared 25 [I z] (.agg (eR (ofQ (z:Rat)))):=by
 have h1:=B8 z hz;have h2:=B8 1 ⟨Y,Y⟩;rw[uR];generalize cw z=X at *
 generalize cw 1=Y0 at *
 refine Ret.of_pwp layOk mixed Go.Proofs.Tryz.func25 O Y O O ?_;refine G h1 ?_;refine G h2 ?_;exact bV
set_option maxRecDepth 20000 in
theorem rO (a:RI)(ha:a.l.length<=1000000000):Ret Tryz.prog .shared 85 [.agg (eI a),.agg (eI a)] (.bool true):=by
 obtain⟨n,l⟩:=a;simp only at ha;have hml:(l.map eU).length=l.length:=ah;have hnn:(n != n)=false:=by cases n<;>rfl
 have main:∀nn:Bool,nn=n->Ret Tryz.prog .shared 85 [.agg [.bool nn,.sl (l.map eU)],.agg [.bool nn,.sl (l.map eU)]] (.bool true):=by
  intro nn _;cases nn <;>
  .refine Ret.of_pwp layOk mixed Go.Proofs.Tryz.func85 O Y O O ?_;refine D ?_ ?_<;>intro h
   .simp at h
   clear h;refine H ?_;refine ap (fun k=>k<=l.length) (fun k=>[(2,.ptr 2 1 0 0),(3,.ptr 3 1 0 0),(5,I (k:Nat))]) (fun _=>[(2,1,⟨40,2,[eI ⟨_,l⟩],2⟩),(3,1,⟨40,2,[eI ⟨_,l⟩],2⟩)]) (fun k=>l.length-k) 0 (Nat.zero_le _) ⟨O,O,O,O,O,trivial⟩ ?_;intro k s hk;refine D ?_ ?_<;>intro h
   .have hlt:k<l.length:=by have:=aC h;simp only[List.length_map]at this;omega
    clear h;obtain⟨x,hx⟩:=aJ hlt;have hw:=fc k;refine cn 11 [27,28,29,30,31,32,33,34,35,36,37] ?_;refine aS hx ?_;refine aS hx ?_;refine D ?_ ?_<;>intro h
    .simp at h
    clear h;refine H ?_;exact⟨k+1,hlt,J,O,O,congrArg I hw,O,O,trivial⟩
   .exact gV
 exact main n O
def RR.le (x:RR)(n:Nat):Prop:=x.n.l.length<=n/\x.d.l.length<=n
theorem mZ (x:RR)(hx:x.le 1000000000):Ret Tryz.prog .shared 27 [.agg (eR x),.agg (eR x)] (.bool true):=by
 have h1:=rO x.n hx.1;have h2:=rO x.d hx.2;obtain⟨xn,xd⟩:=x;refine Ret.of_pwp layOk mixed Go.Proofs.Tryz.func27 O Y O O ?_;refine ar h1 ?_;refine ar h2 ?_;exact gV
theorem Ec {p:Rat}{n:Nat}(h:HQ p n)(hn:n<=100000000):Ret Tryz.prog .shared 27 [.agg (eR (ofQ p)),.agg (eR (ofQ p))] (.bool true):=by
 have:=eP h.ok;exact mZ _ ⟨J,J⟩
theorem xD (l:List RR)(hl:l.length<=1000000)(hs:∀x∈l,x.le 1000000000):Ret Tryz.prog .shared 64 [.sl (l.map eR),.sl (l.map eR)] (.bool true):=by
 have hml:(l.map eR).length=l.length:=ah;refine Ret.of_pwp layOk mixed Go.Proofs.Tryz.func64 O Y O O ?_;refine D ?_ ?_<;>intro h
 .simp at h
 clear h;refine H ?_;refine ap (fun k=>k<=l.length) (fun k=>[(0,.sl (l.map eR)),(1,.sl (l.map eR)),(5,I (k:Nat))]) (fun _=>[]) (fun k=>l.length-k) 0 (Nat.zero_le _) ⟨O,O,O,trivial⟩ ?_;intro k s hk;refine D ?_ ?_<;>intro h
 .have hlt:k<l.length:=by have:=aC h;omega
  clear h;obtain⟨x,hx⟩:=aJ hlt;have hxr:=mZ x (hs x (bc hx));have hw:=fc k;refine cn 10 [17,18,19,20,21,22,23,24,25,26] ?_;refine aS hx ?_;refine aS hx ?_;refine ar hxr ?_;refine H ?_;exact⟨k+1,hlt,J,O,O,congrArg I hw,trivial⟩
 .exact gV
def IS (x:RR)(n:Nat):Bool:=decide (x.n.l.length<=n)&&decide (x.d.l.length<=n)
theorem pK (x:RR)(n:Nat)(hn:n<=1000000):Ret Tryz.prog .shared 20 [.agg (eR x),I (n:Nat)] (.bool (IS x n)):=by
 have e1:decide ((((x.n.l.map eU).length:Nat):Int)<=(n:Int))=decide (x.n.l.length<=n):=by rw[decide_eq_decide,List.length_map];omega
 have e2:decide ((((x.d.l.map eU).length:Nat):Int)<=(n:Int))=decide (x.d.l.length<=n):=by rw[decide_eq_decide,List.length_map];omega
 rw[IS,<-e1,<-e2];obtain⟨⟨xn,xl⟩,⟨yn,yl⟩⟩:=x;refine Ret.of_pwp layOk mixed Go.Proofs.Tryz.func20 O Y O O ?_;refine dE ?_ ?_<;>intro h
 .rw[h];clear h;exact gV
 .rw[h];clear h;exact gV
def KA (l:List SR):Prop:=l.length<=9223372036854775807/\∀s∈l,s.k.S.length<=9223372036854775807/\s.k.M.length<=9223372036854775807
open Go.Proofs Go.RowKit
theorem Ghost.takeD {s:St}{k g t n sz:Nat}{T:TypeId}{rows:List (List PV)}(ho:s.own k=(g,some ⟨T,sz,rows,1⟩))(hr:s.reg t = .als k g 0 n)(hn:n=rows.length) :
  Ghost s ((s.setOwn k (g+1) none).putR t (.sl rows)):=by
 intro C a w hX ⟨γ,h⟩;subst hn;obtain⟨h1,hle,_⟩:=h.drop hX ho;refine⟨γ,h1.defers,h1.size,fun r=>?_,h1.sites,h1.inj,h1.base,h1.below,h1.top,h1.kept⟩;show Rep _ (bif Nat.beq r t then _ else(s.setOwn k (g+1) none).reg r) _;by_cases hrt:r=t
 .subst hrt;have hp:=h.regs r;rw[hr]at hp;simp only[Nat.beq_refl,cond_true];refine .d ?_;rcases h.als_at hp ho with⟨q1,_,q3,q4⟩|⟨b,cap,cur,q1,q2,q3,q4,q5,q6,q7⟩
  .have:rows=[]:=(h.sites k _ (by rw[ho])).emp q1;rw[this,q4];exact .sl0 _ _
  .obtain⟨cur',g1,g2,g3,g4,g5⟩:=h.site_at ho q1 (h.cells_sz ho q1 q3 q6);have hb:(ao C γ (s.setOwn k (g+1) none) w).ok b:=by
    have hbase:=h.base k _ b (by rw[ho]) q1;refine⟨hbase.2,fun hx=>?_,fun k' c' hc' hb'=>?_⟩
    .have:=hX b hx;omega
    .by_cases hk':k'=k
     .subst hk';rw[ak]at hc';cases hc'
     .rw[aF hk']at hc';exact hk' (h.inj k' k c' _ b hc' (by rw[ho]) hb' q1)
   rw[q2];simp only[Nat.zero_mul];refine .sl rows b 0 cap sz (fun i j=>cur'.getD (i*sz+j) undef) hb g2 q4 g4 (fun i j row pv e1 e2=>?_) (fun i j row pv e1 e2=>?_)
   .obtain⟨u,f1,f2,_⟩:=g5 i j row pv e1 e2;have g1:w.heap[b]? = some (.cells cur' T (0,0)):=g1;show w.cell? _=_/\_;rw[bg g1,Nat.zero_add,f1];simp[f1,f2]
   .obtain⟨u,f1,_,f3⟩:=g5 i j row pv e1 e2;have hu:cur'.getD (i*sz+j) undef=u:=by simp[f1]
    simp only[hu];exact hle.drep f3
 .rw[bm hrt];exact h1.regs r
def GX (l:List Int):List RR:=l.map fun z:Int=>ofQ (z:Rat)
set_option maxRecDepth 20000 in
theorem E_ (l:List Int)(hl:l.length<=1000000)(hz:∀z∈l,i64 z):Ret Tryz.prog .shared 65 [.sl (l.map eN)] (.sl ((GX l).map eR)):=by
 have hml:(l.map eN).length=l.length:=ah;refine Ret.of_pwp layOk mixed Go.Proofs.Tryz.func65 O Y O O ?_
 ((repeat (first|refine aY ?_ | refine cE ?_ | refine cz ?_ | refine cB ?_));refine bq ?_)
 refine jb O trivial ?_
 ((repeat (first|refine aY ?_ | refine cE ?_ | refine cz ?_ | refine cB ?_));refine bq ?_)
 (first|refine aH (gZ 42 4 1 O O ?_)|refine aH (gY 42 4 1 O O ?_))
 refine H ?_;refine ap (fun k=>k<=l.length) (fun k=>[(0,.sl (l.map eN)),(3,.als 3 (k+1) 0 ((GX (l.take k)).map eR).length),(4,I (k:Nat))]) (fun k=>[(3,k+1,⟨42,4,(GX (l.take k)).map eR,1⟩)]) (fun k=>l.length-k) 0 (Nat.zero_le _) ⟨O,O,O,O,trivial⟩ ?_;intro k s hk;refine D ?_ ?_<;>intro h
 .have hlt:k<l.length:=by have:=aC h;omega
  clear h;obtain⟨x,hx⟩:=aJ hlt;have hxr:=gT x (hz x (bc hx));have hw:=fc k;have hwl:(GX (l.take k)).length=k:=by rw[GX,List.length_map,List.length_take];omega
  have hrows:(GX (l.take (k+1))).map eR=(GX (l.take k)).map eR++[eR (ofQ (x:Rat))]:=by rw[eg hx,GX,List.map_append,List.map_append];rfl
  refine aS hx ?_;refine G hxr ?_;refine H ?_;refine aH (bx 1 O O O O O O O O O O O aI O ?_);refine H ?_;refine aH (bQ 1 O O O O O O O O O O O aI (by intro row hr;first|(simp at hr;subst hr;rfl)|simp at hr) O O aU aU ?_);refine H ?_;refine⟨k+1,hlt,J,O,?_,congrArg I hw,?_,trivial⟩
  .rw[hrows];rfl
  .rw[hrows];rfl
 .have hge:k=l.length:=by have:=aG h;omega
  subst hge;clear h;rw[List.take_length];refine H ?_;exact iq O O O ⟨O,O,O⟩ O
end Go.Pv
namespace Go.Pv
open Go.RowKit Go.ChangeShapes Go.WideShapes Go.ChangeAt
section
variable {H0:Type}{enc:TypeId × Value->H0}{P:Program}{L:Lay}{w:World}{sp:Nat->Bool}{held:Bool}
def argW (L:Lay)(T:TypeId)(c:PV):Prop:=match L T with
 |some r=>bif r.sh.agg then ∃cs,c = .agg cs/\j4 L 12 T cs else j4 L 12 T [c]
 |none=>False
theorem B5 (hL:ig P L){base:Nat}{T:TypeId}{v:Value}{d:DataW H0}{ps:List MemPlace}(hp:gv L 12 T=true)(h:DataW.Trod enc P w 0 sp held T v d ps)(hok:Value.okWide P w .any base T v):∃c,DRep w (fun b=>b<w.heap.size) c v/\argW L T c:=by
 obtain⟨fuel,h⟩:=h;obtain⟨pvs,h1,h2⟩:=p8 hL 12 T _ fuel _ hp h;have hp':=hp;simp only[gv]at hp;split at hp
 .rename_i r hr;have hfit:=hL T r hr;have leaf:r.sh.agg=false->(∃c,pvs=[c])->(v.cells.toList.length=1->v.cells=#[v])->∃c,DRep w (fun b=>b<w.heap.size) c v/\argW L T c:=by
   rintro ha ⟨c,rfl⟩ hv;have hc:=hv (by rw[<-h1.1];rfl);have hd:=h1.2 0 c v O (by rw[hc];rfl);refine⟨c,hd.1,?_⟩;unfold argW;rw[hr];simp only[ha,cond_false];exact h2
  have nagg:(∀cs,v ≠ .agg cs)->v.cells=#[v]:=by
   intro h;cases v<;>first|rfl|exact absurd O (h _)
  have hty:∃r',L T=some r'/\_:=h2;obtain⟨r',hr',hty⟩:=hty;rw[hr]at hr';have hr':=Option.some.inj hr';subst hr';split at hp
  .rename_i hs;rw[hs]at hty;obtain⟨b,rfl⟩:=hty;obtain⟨b',rfl⟩:∃b',v = .bool b':=by
    have:=okWide_bool (qb hfit hs) hok;exact this
   exact leaf (by rw[hs];rfl) ⟨_,O⟩ (fun _=>rfl)
  .rename_i k hs;rw[hs]at hty;obtain⟨m,rfl,_⟩:=hty;obtain⟨m',rfl⟩:=okWide_int (mu hfit hs) hok;exact leaf (by rw[hs];rfl) ⟨_,O⟩ (fun _=>rfl)
  .rename_i hs;rw[hs]at hty;obtain⟨s,rfl,_⟩:=hty;obtain⟨s',rfl⟩:=okWide_string (j7 hfit hs) hok;exact leaf (by rw[hs];rfl) ⟨_,O⟩ (fun _=>rfl)
  .rename_i e hs;rw[hs]at hty;obtain⟨rows,rfl,_⟩:=hty;obtain⟨a,l,c,rfl⟩:=okWide_slice (gE hfit hs) hok;exact leaf (by rw[hs];rfl) ⟨_,O⟩ (fun _=>rfl)
  .rename_i fs hs;obtain⟨fs',hu,_⟩:=qc hfit hs;obtain⟨cs,rfl,_⟩:=okWide_struct hu hok;refine⟨.agg pvs,?_,?_⟩
   .have:=DRep.agg (w:=w) (ok:=fun b=>b<w.heap.size) pvs cs.toList h1.1 (fun i c v e1 e2=>(h1.2 i c v e1 e2).1);simpa using this
   .unfold argW;rw[hr];simp only[hs,Sh.agg,cond_true];exact⟨pvs,O,h2⟩
  .cases hp
 .cases hp
theorem qE (hL:ig P L){base:Nat}:∀(ts:List TypeId) (vs:List Value) (ds:List (DataW H0)) (ps:List MemPlace),ts.all (gv L 12)=true->DataW.TrodAll enc P w 0 sp held ts vs ds ps ->
  (∀(j:Nat) t v,ts[j]? = some t->vs[j]? = some v->Value.okWide P w .any base t v) ->
  ∃pargs:List PV,pargs.length=vs.length/\ts.length=vs.length/\ds.length=vs.length/\(∀(i:Nat) (c:PV) (v:Value),pargs[i]? = some c->vs[i]? = some v->DRep w (fun b=>b<w.heap.size) c v)/\∀(i:Nat) t c,ts[i]? = some t->pargs[i]? = some c->argW L t c
 |[],vs,ds,ps,_,h,_=>by
  obtain⟨rfl,rfl,_⟩:=trodAll_nil h;exact⟨[],O,O,O,fun i c v e=>by simp at e,fun i t c e=>by simp at e⟩
 |t::ts,vs,ds,ps,hp,h,hok=>by
  obtain⟨v,vs',d,ds',p,q,rfl,rfl,rfl,h1,h2⟩:=trodAll_cons h;simp only[List.all_cons,Bool.and_eq_true]at hp;obtain⟨c,g1,g2⟩:=B5 hL hp.1 h1 (hok 0 t v O O);obtain⟨pargs,e1,e2,e3,e4,e5⟩:=qE hL ts vs' ds' q hp.2 h2 (fun j t v a b=>hok (j+1) t v (by simpa using a) (by simpa using b));refine⟨c::pargs,by simp[e1],by simp[e2],by simp[e3],fun i c' v' a b=>?_,fun i t' c' a b=>?_⟩
  .cases i with
   |zero=>simp at a b;subst a;subst b;exact g1
   |succ i=>exact e4 i c' v' (by simpa using a) (by simpa using b)
  .cases i with
   |zero=>simp at a b;subst a;subst b;exact g2
   |succ i=>exact e5 i t' c' (by simpa using a) (by simpa using b)
theorem law_stepW [Globs](hL:ig P L)(hl:laidOutB P=true){f:FuncId}{fn:Func}{s:ChangeSpec}{ts:List TypeId}{T:TypeId}(hvars:s.vars=[])(hts:fn.params.toList=ts)(hplain:ts.all (gv L 12)=true)
  (hread:ts.all (fun t=>P.readableRec t&&decide (t<P.types.size))=true) (hres:fn.resultTypes=#[T]) (hT:P.underlying T=some .bool)
  (hspec:∀ds:List (DataW H0),ds.length=ts.length->(s.fn H0 ds).results=[.lit (.bool true)]/\(s.fn H0 ds).args=ds/\(s.fn H0 ds).vars=[])
  (law:∀pargs:List PV,pargs.length=ts.length->(∀(i:Nat) t c,ts[i]? = some t->pargs[i]? = some c->argW L t c)->Ret P .shared f pargs (.bool true))
  {W:World} {base:Nat} {args:Array Value} {ds gs:List (DataW H0)} {before:List MemPlace} (hval:∀(j:Nat) t v,fn.params[j]? = some t->args[j]? = some v->Value.okWide P W .any base t v)
  (hglob:Globs.glob W) (hW:DataW.Whole enc P fn.params.toList s.vars false W args.toList ds gs before) :
  Calls P f args W fun e W'=>∃v,e = .returned v/\s.post enc P fn false true false false W args v W':=by
 have hW':=hW;obtain⟨p,q,hA,hV,hpq,hfz,hnd⟩:=hW;rw[hvars]at hV;obtain⟨rfl,rfl⟩:=trodVars_none hV;rw[hts]at hA;obtain⟨pargs,e1,e2,e3,e4,e5⟩:=qE hL (base:=base) ts _ _ _ hplain hA (fun j t v a b=>hval j t v (by rw[<-hts]at a;simpa using a) (by simpa using b));have hret:=law pargs J e5;have hcall:=hret.2 W (fun _=>False) args.toList hglob (fun b hb=>hb.elim) J (fun i c v a b=>(e4 i c v a b).weaken fun b hb=>⟨hb,fun h=>h⟩);have hargs:args.toList.toArray=args:=ah;rw[hargs]at hcall;refine hcall.mono ?_;rintro e W' ⟨v,rfl,hb,hd⟩;refine⟨v,O,?_⟩;have hv:v = .bool true:=by cases hd;rfl
 subst hv;have hlt:∀x∈p,x.block<W.heap.size:=fun x hx=>by
  have:=hW'.lt x (by rw[hpq];simp[hx]);simpa using this
 obtain⟨s1,s2,s3⟩:=hspec ds J;have hgs:ds++([]:List (DataW H0))=ds:=List.append_nil ds;refine⟨ds,[],before,[],p,[],hW',?_,?_,?_,World.keptBut_mono (fun x hx=>hx.elim) (hb.frame (fun _=>False)),fun h=>by cases h⟩
 .rw[hgs,s1,hres];exact trodAll_mk1 (shut_bool hT true)
 .rw[hgs,s2,hts];exact ky hl hb ts _ _ _ (fun t ht=>by
   have:=List.all_eq_true.1 hread t ht
   simpa using this) hA hlt
 .rw[hgs,s3,hvars];exact O
end
end Go.Pv
set_option maxHeartbeats 2000000
namespace Go.Pv
attribute [local irreducible] PWP POps PQuiet PSem aw aq ai aj
open Go.Proofs
theorem fk {α:Type}{f:α->List PV}{p:α->Prop}:∀ {rows:List (List PV)},(∀row∈rows,∃x,row=f x/\p x)->∃l:List α,rows=l.map f/\∀x∈l,p x
 |[],_=>⟨[],rfl,fun x h=>by cases h⟩
 |row::rows,h=>by
  obtain⟨x,rfl,hx⟩:=h row ah;obtain⟨l,rfl,hl⟩:=fk (rows:=rows) fun r hr=>h r (by simp[hr]);exact⟨x::l,O,fun y hy=>by
   rcases List.mem_cons.1 hy with rfl|hy
   .exact hx
   .exact hl y hy⟩
theorem uM {n:Nat}(h:n<=maxLen):n<=9223372036854775807:=by
 have e:maxLen=9223372036854775807:=Y;omega
theorem Cl {n:Nat}{cs:List PV}(h:j4 lay.get (n+2) 38 cs):∃l:List UInt16,cs=[.sl (l.map eU)]:=by
 obtain⟨rows,rfl,hr⟩:=I3 h O;obtain⟨l,rfl,-⟩:=fk (f:=eU) (p:=fun _=>True) fun row hrow=>by
  obtain⟨m,rfl,h1,h2⟩:=ms (hr row hrow) O;have h1:(0:Int)<=m:=h1;have h2:m<=(65535:Int):=h2;refine⟨UInt16.ofNat m.toNat,?_,trivial⟩;rw[eU,be];congr 2;omega
 exact⟨l,O⟩
theorem Hn {n:Nat}{cs:List PV}(h:j4 lay.get (n+3) 40 cs):∃a:RI,cs=eI a:=by
 obtain⟨parts,rfl,hl,hp⟩:=jJ h O
 match parts,hl,hp with
 |[p0,p1],_,hp =>
  obtain⟨b,rfl⟩:=v_ (hp 0 _ p0 O O) O;obtain⟨l,rfl⟩:=Cl (hp 1 _ p1 O O);exact⟨⟨b,l⟩,O⟩
theorem Ho {n:Nat}{cs:List PV}(h:j4 lay.get (n+4) 42 cs):∃a:RR,cs=eR a:=by
 obtain⟨parts,rfl,hl,hp⟩:=jJ h O
 match parts,hl,hp with
 |[p0,p1],_,hp =>
  obtain⟨a,rfl⟩:=Hn (hp 0 _ p0 O O);obtain⟨b,rfl⟩:=Hn (hp 1 _ p1 O O);exact⟨⟨a,b⟩,O⟩
theorem nY {n:Nat}{cs:List PV}(h:j4 lay.get (n+1) 3 cs):∃z:Int,cs=eN z/\i64 z:=by
 obtain⟨m,rfl,h1,h2⟩:=ms h O;exact⟨m,O,h1,h2⟩
theorem tZ {n:Nat}{cs:List PV}(h:j4 lay.get (n+2) 92 cs):∃l:List Int,cs=[.sl (l.map eN)]/\l.length<=9223372036854775807/\∀z∈l,i64 z:=by
 obtain⟨rows,rfl,hlen,hr⟩:=j5 h O;obtain⟨l,rfl,hz⟩:=fk (f:=eN) (p:=i64) fun row hrow=>nY (hr row hrow);exact⟨l,O,by rw[List.length_map]at hlen;exact uM hlen,hz⟩
structure ArgB (b:BR):Prop where
 w:i64 b.w
 len:KA b.l
 data:Jh b.l
theorem dec_RR {c:PV}(h:argW lay.get 42 c):∃a:RR,c = .agg (eR a):=by
 obtain⟨cs,rfl,h⟩:∃cs,c = .agg cs/\j4 lay.get 12 42 cs:=h;obtain⟨a,rfl⟩:=Ho h;exact⟨a,O⟩
abbrev Str:=List UInt8
def fT {α:Type}:List α->(Nat->α->Int)->Int
 |[],_=>0
 |a::l,f=>if f 0 a=0 then fT l (fun i=>f (i+1)) else f 0 a
theorem oY {α:Type}:∀ {l:List α} {f:Nat->α->Int} {i:Nat} {a:α},l[i]? = some a->f i a≠0->(∀j b,j<i->l[j]? = some b->f j b=0)->fT l f=f i a
 |[],f,i,a,h,_,_=>by simp at h
 |b::l,f,0,a,h,he,_=>by
  simp at h;subst h;simp[fT,he]
 |b::l,f,i+1,a,h,he,hn=>by
  have h0:=hn 0 b J O;rw[fT,if_pos h0];exact oY (f:=fun i=>f (i+1)) (by simpa using h) he fun j c hj hc=>hn (j+1) c J (by simpa using hc)
theorem q8 {α:Type}:∀ {l:List α} {f:Nat->α->Int},(∀(j:Nat) b,l[j]? = some b->f j b=0)->fT l f=0
 |[],f,_=>rfl
 |b::l,f,hn=>by
  rw[fT,if_pos (hn 0 b O)];exact q8 fun j c hc=>hn (j+1) c (by simpa using hc)
theorem jR {α:Type}:∀ {l:List α} {f:Nat->α->Int},fT l f=0->∀(j:Nat) b,l[j]? = some b->f j b=0
 |[],f,_,j,b,h=>by simp at h
 |a::l,f,h,j,b,hb=>by
  rw[fT]at h;split at h
  .rename_i hz;cases j with
   |zero=>simp at hb;subst hb;exact hz
   |succ j=>exact jR h j b (by simpa using hb)
  .contradiction
def ClearE {α:Type}(l:List α)(f:Nat->α->Int)(k:Nat):Prop:=k<=l.length/\∀j b,j<k->l[j]? = some b->f j b=0
theorem ClearE.zero' {α:Type}{l:List α}{p:Nat->α->Int}:ClearE l p 0:=⟨Nat.zero_le _,fun j b h=>by omega⟩
theorem ClearE.succ {α:Type}{l:List α}{p:Nat->α->Int}{k:Nat}{x:α}(h:ClearE l p k)(hx:l[k]? = some x)(hp:p k x=0):ClearE l p (k+1):=by
 have:=(bb hx).1;refine⟨this,fun j b hj hb=>?_⟩;rcases Nat.lt_or_ge j k with hlt|hge
 .exact h.2 j b hlt hb
 .have:j=k:=J;subst this;rw[hx]at hb;cases hb;exact hp
theorem ClearE.found {α:Type}{l:List α}{p:Nat->α->Int}{k:Nat}{x:α}{e:Int}(h:ClearE l p k)(hx:l[k]? = some x)(hp:p k x=e)(he:e≠0):fT l p=e:=by
 subst hp;exact oY hx he h.2
theorem ClearE.none {α:Type}{l:List α}{p:Nat->α->Int}{k:Nat}(h:ClearE l p k)(hk:¬k<l.length):fT l p=0 :=
 q8 fun j b hb=>h.2 j b (by have:=(bb hb).1;have:=h.1;omega) hb
def mK (c:UInt8):Bool:=(decide (97<=(c.toNat:Int))&&decide ((c.toNat:Int)<=122))||(decide (65<=(c.toNat:Int))&&decide ((c.toNat:Int)<=90))
def B9 (i:Nat)(c:UInt8):Bool:=!mK c&&(decide ((i:Int)=0)||(!decide ((c.toNat:Int)=45)&&(decide ((c.toNat:Int)<48)||decide (57<(c.toNat:Int)))))
def r7 (i:Nat)(c:UInt8):Int:=if B9 i c then 1 else 0
def di (s:Str):Bool:=decide (1<=s.length)&&decide (s.length<=12)&&decide (fT s r7=0)
def Jz (c:UInt8):List PV:=[.int .u8 c.toNat]
def aN (n lo hi:Int):Bool:=decide (lo<=n)&&decide (n<=hi)
theorem bB (n lo hi:Int):Ret Tryz.prog .shared 126 [I n,I lo,I hi] (.bool (aN n lo hi)):=by
 refine Ret.of_pwp layOk mixed Go.Proofs.Tryz.func126 O Y O O ?_;refine dE ?_ ?_<;>intro h
 .refine H ?_;exact fe O O (by simp[aN,aC h])
 .refine H ?_;exact fe O O (by simp[aN,h])
theorem kU (s:Str):Ret Tryz.prog .shared 125 [.str s] (.bool (di s)):=by
 refine Ret.of_pwp layOk mixed Go.Proofs.Tryz.func125 O Y O O ?_
 repeat' (first|refine fB O ?_|refine dy O O (fun h=>?_) (fun h=>?_)|refine dx O O (fun h=>?_) (fun h=>?_)|refine dw O O (fun h=>?_) (fun h=>?_))
 .have:=aC h;exact fe O O (by simp[di];omega)
 have h1:=aG h;refine bP O ?_ ?_<;>intro h
 .have:=aC h;refine H ?_;exact fe O O (by simp[di];omega)
 have h2:=aG h;have hll:((s.map Jz).length:Int)=s.length:=ah;have hb:s.length<=12:=J;clear h;refine H ?_;refine bE O O (JP O O O O O O) ?_;refine H ?_;refine ap (ClearE s r7) (fun k=>[(15,.fsl (s.map Jz)),(16,I (s.map Jz).length),(17,I k)]) (fun _=>[]) (fun k=>s.length-k) 0 .zero' ⟨O,O,O,trivial⟩ ?_;intro k st hk;have hkl:=hk.1;refine D ?_ ?_<;>intro h
 .have hlt:k<s.length:=by simpa using h
  obtain⟨x,hx⟩:=aJ hlt;have hkb:k<12:=J;clear h;refine H ?_;refine bE O O (Gg O O O O O J hx O) ?_;repeat (refine KY O ?_ ?_;· repeat' constructor)
  refine mR 100 [(3,I k),(4,.int .u8 x.toNat),(5,.bool (mK x)),(15,.fsl (s.map Jz)),(16,I (s.map Jz).length),(17,I k)] [] ?_ ?_
  .clear h1 h2 hll hb
   repeat' (first|refine fB O ?_|refine dy O O (fun h=>?_) (fun h=>?_)|refine dx O O (fun h=>?_) (fun h=>?_)|refine dw O O (fun h=>?_) (fun h=>?_))
   all_goals exact⟨O,O,(congrArg PV.bool (by clear hk hx;simp_all [mK]<;>omega)),O,O,O,trivial⟩
  clear h1 h2 hll hb;intro s
  repeat' (first|refine fB O ?_|refine dy O O (fun h=>?_) (fun h=>?_)|refine dx O O (fun h=>?_) (fun h=>?_)|refine dw O O (fun h=>?_) (fun h=>?_))
  all_goals try (refine bP O (fun hc=>?_) (fun hc=>?_))
  all_goals repeat refine fB O ?_
  all_goals first
   |(
    refine fe O O ?_;have hb:r7 k x=1:=by simp_all [r7,B9]<;>omega
    have:=hk.found hx hb J
    simp[di,this])
   |(
    refine⟨k+1,hk.succ hx (by simp_all [r7,B9]<;>omega),J,O,O,?_,trivial⟩
    exact cg J J)
 .refine H ?_;exact fe O O (by simp only[di,hk.none (by simpa using h)];simp;omega)
structure ST where
 x:Int
 w:Int
 L:List Int
 H0:List Int
def eT (t:ST):List PV:=[I t.x,I t.w,.sl (t.L.map eN),.sl (t.H0.map eN)]
def l5 (t:ST):Int:=if (aN t.x (-1000000) 1000000&&aN t.w 1 100000)=true then 0 else 2
def tR (t u:ST):Int:=if t.x-u.x<=0 then 10 else if 2*(t.x-u.x)<t.w+u.w then 17 else 0
def qw (L:List Int)(i:Nat)(l:Int):Int:=if aN l 0 100000=true then(if 0<i/\l<=L.getD (i-1) 0 then 10 else 0) else 2
def BP (_:Nat)(h:Int):Int:=if aN h 0 100000=true then 0 else 2
def kq (t:ST):Int:=if aN t.L.length 2 30=true/\(t.H0.length:Int)=(t.L.length:Int)-1 then(if fT t.L (qw t.L)=0 then fT t.H0 BP else fT t.L (qw t.L)) else 11
def lr (t:ST)(u:Option ST):Int:=if l5 t=0 then(match u with
 |none=>kq t
 |some u=>if tR t u=0 then kq t else tR t u) else l5 t
theorem xf {t:ST}(h:l5 t=0):(-1000000<=t.x/\t.x<=1000000)/\(1<=t.w/\t.w<=100000):=by
 rw[l5]at h;split at h
 .rename_i h2;simp[aN]at h2;omega
 .omega
theorem kS {n:Nat}(h:aN (n:Int) 2 30=true):2<=n/\n<=30:=by
 simp[aN]at h;omega
set_option maxRecDepth 20000 in
theorem to (t:ST)(hL:t.L.length<=9223372036854775807)(hH:t.H0.length<=9223372036854775807):Ret Tryz.prog .shared 127 [.agg (eT t),.raw (.pointer none)] (I (lr t none)):=by
 have h1:=bB t.x (-1000000) 1000000;have h2:=bB t.w 1 100000;generalize hf:lr t none=E;cases hp1:aN t.x (-1000000) 1000000 with
 |false =>
  have hE:2=E:=by rw[<-hf,lr,l5,hp1];rfl
  subst hE;rw[hp1]at h1;refine Ret.of_pwp layOk mixed Go.Proofs.Tryz.func127 O Y O O ?_;refine ar h1 ?_;exact cp
 |true =>
 cases hp2:aN t.w 1 100000 with
 |false =>
  have hE:2=E:=by rw[<-hf,lr,l5,hp1,hp2];rfl
  subst hE;rw[hp1]at h1;rw[hp2]at h2;refine Ret.of_pwp layOk mixed Go.Proofs.Tryz.func127 O Y O O ?_;refine ar h1 ?_;refine ar h2 ?_;exact cp
 |true =>
 have hpt:l5 t=0:=by rw[l5,hp1,hp2];rfl
 rw[hp1]at h1;rw[hp2]at h2;rw[lr,if_pos hpt]at hf;refine Ret.of_pwp layOk mixed Go.Proofs.Tryz.func127 O Y O O ?_;refine ar h1 ?_;refine ar h2 ?_;refine H ?_;have hin:=bB t.L.length 2 30;have hml:((t.L.map eN).length:Int)=t.L.length:=ah;have hmh:((t.H0.map eN).length:Int)=t.H0.length:=ah;rw[hml];refine JT O O O hin O O O ?_;by_cases c1:aN t.L.length 2 30=true
 rotate_left
 .rw[Bool.not_eq_true]at c1;rw[c1];have hE:11=E:=by rw[<-hf,kq,if_neg (by rw[c1];simp)]
  subst hE;exact cp
 obtain⟨g1,g2⟩:=kS c1;have hwl:IntKind.i64.wrap ((t.L.length:Int)-1)=(t.L.length:Int)-1:=wrap_i64 J J;rw[c1];refine H ?_;rw[hml,hmh,hwl];refine D ?_ ?_<;>intro h
 .have hE:11=E:=by rw[<-hf,kq,if_neg (fun g=>absurd g.2 (by simpa using h))]
  subst hE;exact cp
 have c2:(t.H0.length:Int)=(t.L.length:Int)-1:=by simpa using h
 clear h;rw[kq,if_pos ⟨c1,c2⟩]at hf;refine H ?_;rw[hml];refine ap (ClearE t.L (qw t.L)) (fun k=>[(2,.ptr 2 1 0 0),(59,.sl (t.L.map eN)),(60,I t.L.length),(61,I (k:Nat))]) (fun _=>[(2,1,⟨130,4,[eT t],2⟩)]) (fun k=>t.L.length-k) 0 .zero' ⟨O,O,by rw[<-hml];rfl,O,O,trivial⟩ ?_;intro k s hk;have hkl:=hk.1;refine D ?_ ?_<;>intro h
 .have hlt:k<t.L.length:=by have:=aC h;omega
  clear h;obtain⟨x,hx⟩:=aJ hlt;have h1:=bB x 0 100000;have hw:=fc k;refine aS hx ?_;refine ar h1 ?_;by_cases d1:aN x 0 100000=true
  rotate_left
  .have hv:qw t.L k x=2:=by rw[qw,if_neg d1]
   have hfl:=hk.found hx hv Y;have hE:2=E:=by rw[<-hf,hfl];rfl
   subst hE;rw[Bool.not_eq_true]at d1;rw[d1];exact cp
  rw[d1];refine dE ?_ ?_<;>intro h
  rotate_left
  .have h0:k=0:=by have:=aG h;omega
   clear h;have hv:qw t.L k x=0:=by rw[qw,if_pos d1,if_neg J]
   refine H ?_;exact⟨k+1,hk.succ hx hv,J,O,O,O,congrArg I hw,O,trivial⟩
  .have h0:0<k:=by have:=aC h;omega
   clear h;obtain⟨j,rfl⟩:∃j,k=j+1:=⟨k-1,J⟩;obtain⟨y,hy⟩:=aJ (show j<t.L.length by omega);have hgy:t.L.getD j 0=y:=by rw[List.getD_eq_getElem?_getD,hy];rfl
   have hwj:IntKind.i64.wrap (((j+1:Nat):Int)-1)=(j:Nat):=by rw[wrap_i64 J J];omega
   refine H ?_;rw[hwj];refine Gj O O O O O O O hy O ?_;refine D ?_ ?_<;>intro h
   .have hle:x<=y:=aC h;clear h;have hv:qw t.L (j+1) x=10:=by rw[qw,if_pos d1,if_pos ⟨J,by rw[Nat.add_sub_cancel,hgy];exact hle⟩]
    have hfl:=hk.found hx hv Y;have hE:10=E:=by rw[<-hf,hfl];rfl
    subst hE;exact cp
   .have hle:¬x<=y:=aG h;clear h;have hv:qw t.L (j+1) x=0:=by rw[qw,if_pos d1,if_neg (fun g=>hle (by have:=g.2;rw[Nat.add_sub_cancel,hgy]at this;exact this))]
    refine H ?_;exact⟨j+1+1,hk.succ hx hv,J,O,O,O,congrArg I hw,O,trivial⟩
 .have hge:¬k<t.L.length:=by have:=aG h;omega
  clear h;rw[hk.none hge,if_pos O]at hf;refine H ?_;rw[hmh];refine ap (ClearE t.H0 BP) (fun k=>[(2,.ptr 2 1 0 0),(83,.sl (t.H0.map eN)),(84,I t.H0.length),(85,I (k:Nat))]) (fun _=>[(2,1,⟨130,4,[eT t],2⟩)]) (fun k=>t.H0.length-k) 0 .zero' ⟨O,O,by rw[<-hmh];rfl,O,O,trivial⟩ ?_;intro k s hk;have hkl:=hk.1;refine D ?_ ?_<;>intro h
  .have hlt:k<t.H0.length:=by have:=aC h;omega
   clear h;obtain⟨x,hx⟩:=aJ hlt;have h1:=bB x 0 100000;have hw:=fc k;refine aS hx ?_;refine ar h1 ?_;by_cases d1:aN x 0 100000=true
   .have hv:BP k x=0:=by rw[BP,if_pos d1]
    rw[d1];refine H ?_;exact⟨k+1,hk.succ hx hv,J,O,O,O,congrArg I hw,O,trivial⟩
   .have hv:BP k x=2:=by rw[BP,if_neg d1]
    have hfl:=hk.found hx hv Y;have hE:2=E:=by rw[<-hf,hfl]
    subst hE;rw[Bool.not_eq_true]at d1;rw[d1];exact cp
  .have hge:¬k<t.H0.length:=by have:=aG h;omega
   clear h;rw[hk.none hge]at hf;subst hf;exact cp
set_option maxRecDepth 20000 in
theorem tp (t u:ST)(hu:l5 u=0)(hL:t.L.length<=9223372036854775807)(hH:t.H0.length<=9223372036854775807):Ret Tryz.prog .shared 127 [.agg (eT t),.dref (eT u) 0] (I (lr t (some u))):=by
 have h1:=bB t.x (-1000000) 1000000;have h2:=bB t.w 1 100000;generalize hf:lr t (some u)=E;cases hp1:aN t.x (-1000000) 1000000 with
 |false =>
  have hE:2=E:=by rw[<-hf,lr,l5,hp1];rfl
  subst hE;rw[hp1]at h1;refine Ret.of_pwp layOk mixed Go.Proofs.Tryz.func127 O Y O O ?_;refine ar h1 ?_;exact cp
 |true =>
 cases hp2:aN t.w 1 100000 with
 |false =>
  have hE:2=E:=by rw[<-hf,lr,l5,hp1,hp2];rfl
  subst hE;rw[hp1]at h1;rw[hp2]at h2;refine Ret.of_pwp layOk mixed Go.Proofs.Tryz.func127 O Y O O ?_;refine ar h1 ?_;refine ar h2 ?_;exact cp
 |true =>
 have hpt:l5 t=0:=by rw[l5,hp1,hp2];rfl
 rw[hp1]at h1;rw[hp2]at h2;rw[lr,if_pos hpt]at hf;obtain⟨⟨a1,a2⟩,a3,a4⟩:=xf hpt;obtain⟨⟨b1,b2⟩,b3,b4⟩:=xf hu;have k1:IntKind.i64.wrap (t.x-u.x)=t.x-u.x:=wrap_i64 J J;have k2:IntKind.i64.wrap (2*(t.x-u.x))=2*(t.x-u.x):=wrap_i64 J J;have k3:IntKind.i64.wrap (t.w+u.w)=t.w+u.w:=wrap_i64 J J;refine Ret.of_pwp layOk mixed Go.Proofs.Tryz.func127 O Y O O ?_;refine ar h1 ?_;refine ar h2 ?_;refine cn 8 [22,23,24,25,26,27,28,5] ?_;refine H ?_;rw[k1];refine D ?_ ?_<;>intro h
 .have d1:t.x-u.x<=0:=aC h;clear h;have hb:tR t u=10:=by rw[tR,if_pos d1]
  have hE:10=E:=by rw[<-hf,hb];rfl
  subst hE;exact cp
 have d1:¬t.x-u.x<=0:=aG h;clear h;refine cn 11 [33,34,35,36,37,38,39,40,41,42,32] ?_;refine H ?_;rw[k2];refine H ?_;rw[k3];refine D ?_ ?_<;>intro h
 .have d2:2*(t.x-u.x)<t.w+u.w:=aC h;clear h;have hb:tR t u=17:=by rw[tR,if_neg d1,if_pos d2]
  have hE:17=E:=by rw[<-hf,hb];rfl
  subst hE;exact cp
 have d2:¬2*(t.x-u.x)<t.w+u.w:=aG h;clear h;have hb:tR t u=0:=by rw[tR,if_neg d1,if_neg d2]
 rw[if_pos hb]at hf;clear k1 k2 k3 a1 a2 a3 a4 b1 b2 b3 b4 hb d1 d2 hu;refine H ?_;have hin:=bB t.L.length 2 30;have hml:((t.L.map eN).length:Int)=t.L.length:=ah;have hmh:((t.H0.map eN).length:Int)=t.H0.length:=ah;rw[hml];refine JT O O O hin O O O ?_;by_cases c1:aN t.L.length 2 30=true
 rotate_left
 .rw[Bool.not_eq_true]at c1;rw[c1];have hE:11=E:=by rw[<-hf,kq,if_neg (by rw[c1];simp)]
  subst hE;exact cp
 obtain⟨g1,g2⟩:=kS c1;have hwl:IntKind.i64.wrap ((t.L.length:Int)-1)=(t.L.length:Int)-1:=wrap_i64 J J;rw[c1];refine H ?_;rw[hml,hmh,hwl];refine D ?_ ?_<;>intro h
 .have hE:11=E:=by rw[<-hf,kq,if_neg (fun g=>absurd g.2 (by simpa using h))]
  subst hE;exact cp
 have c2:(t.H0.length:Int)=(t.L.length:Int)-1:=by simpa using h
 clear h;rw[kq,if_pos ⟨c1,c2⟩]at hf;refine H ?_;rw[hml];refine ap (ClearE t.L (qw t.L)) (fun k=>[(2,.ptr 2 1 0 0),(59,.sl (t.L.map eN)),(60,I t.L.length),(61,I (k:Nat))]) (fun _=>[(2,1,⟨130,4,[eT t],2⟩)]) (fun k=>t.L.length-k) 0 .zero' ⟨O,O,by rw[<-hml];rfl,O,O,trivial⟩ ?_;intro k s hk;have hkl:=hk.1;refine D ?_ ?_<;>intro h
 .have hlt:k<t.L.length:=by have:=aC h;omega
  clear h;obtain⟨x,hx⟩:=aJ hlt;have h1:=bB x 0 100000;have hw:=fc k;refine aS hx ?_;refine ar h1 ?_;by_cases d1:aN x 0 100000=true
  rotate_left
  .have hv:qw t.L k x=2:=by rw[qw,if_neg d1]
   have hfl:=hk.found hx hv Y;have hE:2=E:=by rw[<-hf,hfl];rfl
   subst hE;rw[Bool.not_eq_true]at d1;rw[d1];exact cp
  rw[d1];refine dE ?_ ?_<;>intro h
  rotate_left
  .have h0:k=0:=by have:=aG h;omega
   clear h;have hv:qw t.L k x=0:=by rw[qw,if_pos d1,if_neg J]
   refine H ?_;exact⟨k+1,hk.succ hx hv,J,O,O,O,congrArg I hw,O,trivial⟩
  .have h0:0<k:=by have:=aC h;omega
   clear h;obtain⟨j,rfl⟩:∃j,k=j+1:=⟨k-1,J⟩;obtain⟨y,hy⟩:=aJ (show j<t.L.length by omega);have hgy:t.L.getD j 0=y:=by rw[List.getD_eq_getElem?_getD,hy];rfl
   have hwj:IntKind.i64.wrap (((j+1:Nat):Int)-1)=(j:Nat):=by rw[wrap_i64 J J];omega
   refine H ?_;rw[hwj];refine Gj O O O O O O O hy O ?_;refine D ?_ ?_<;>intro h
   .have hle:x<=y:=aC h;clear h;have hv:qw t.L (j+1) x=10:=by rw[qw,if_pos d1,if_pos ⟨J,by rw[Nat.add_sub_cancel,hgy];exact hle⟩]
    have hfl:=hk.found hx hv Y;have hE:10=E:=by rw[<-hf,hfl];rfl
    subst hE;exact cp
   .have hle:¬x<=y:=aG h;clear h;have hv:qw t.L (j+1) x=0:=by rw[qw,if_pos d1,if_neg (fun g=>hle (by have:=g.2;rw[Nat.add_sub_cancel,hgy]at this;exact this))]
    refine H ?_;exact⟨j+1+1,hk.succ hx hv,J,O,O,O,congrArg I hw,O,trivial⟩
 .have hge:¬k<t.L.length:=by have:=aG h;omega
  clear h;rw[hk.none hge,if_pos O]at hf;refine H ?_;rw[hmh];refine ap (ClearE t.H0 BP) (fun k=>[(2,.ptr 2 1 0 0),(83,.sl (t.H0.map eN)),(84,I t.H0.length),(85,I (k:Nat))]) (fun _=>[(2,1,⟨130,4,[eT t],2⟩)]) (fun k=>t.H0.length-k) 0 .zero' ⟨O,O,by rw[<-hmh];rfl,O,O,trivial⟩ ?_;intro k s hk;have hkl:=hk.1;refine D ?_ ?_<;>intro h
  .have hlt:k<t.H0.length:=by have:=aC h;omega
   clear h;obtain⟨x,hx⟩:=aJ hlt;have h1:=bB x 0 100000;have hw:=fc k;refine aS hx ?_;refine ar h1 ?_;by_cases d1:aN x 0 100000=true
   .have hv:BP k x=0:=by rw[BP,if_pos d1]
    rw[d1];refine H ?_;exact⟨k+1,hk.succ hx hv,J,O,O,O,congrArg I hw,O,trivial⟩
   .have hv:BP k x=2:=by rw[BP,if_neg d1]
    have hfl:=hk.found hx hv Y;have hE:2=E:=by rw[<-hf,hfl]
    subst hE;rw[Bool.not_eq_true]at d1;rw[d1];exact cp
  .have hge:¬k<t.H0.length:=by have:=aG h;omega
   clear h;rw[hk.none hge]at hf;subst hf;exact cp
structure LR where
 nm:List UInt8
 m:Int
 x:Int
 z:Int
 f:Int
def eLd (w:LR):List PV:=[.str w.nm,I w.m,I w.x,I w.z,I w.f]
def Ix (w:LR)(least:Int):Bool:=aN w.m least 1000000000&&aN w.x (-1000000) 1000000&&aN w.z (-100000) 100000&&aN w.f 0 1000000000
def nP (w:LR)(least:Int):Int:=if Ix w least=true then 0 else 2
def pm (w:LR)(before:List LR)(least:Int):Int:=if di w.nm=true then(if w.nm∈before.map (·.nm) then 5 else nP w least) else 4
theorem nD (w:LR)(least:Int):Ret Tryz.prog .shared 191 [.agg (eLd w),I least] (I (nP w least)):=by
 have h1:=bB w.m least 1000000000;have h2:=bB w.x (-1000000) 1000000;have h3:=bB w.z (-100000) 100000;have h4:=bB w.f 0 1000000000;rw[nP,Ix];generalize aN w.m least 1000000000=p1 at *
 generalize aN w.x (-1000000) 1000000=p2 at *
 generalize aN w.z (-100000) 100000=p3 at *
 generalize aN w.f 0 1000000000=p4 at *
 obtain⟨nm,m,x,z,f⟩:=w;simp only at *
 cases p1
 .refine Ret.of_pwp layOk mixed Go.Proofs.Tryz.func191 O Y O O ?_;refine ar h1 ?_;exact cp
 .cases p2
  .refine Ret.of_pwp layOk mixed Go.Proofs.Tryz.func191 O Y O O ?_;refine ar h1 ?_;refine ar h2 ?_;exact cp
  .cases p3
   .refine Ret.of_pwp layOk mixed Go.Proofs.Tryz.func191 O Y O O ?_;refine ar h1 ?_;refine ar h2 ?_;refine ar h3 ?_;exact cp
   .cases p4;all_goals
     refine Ret.of_pwp layOk mixed Go.Proofs.Tryz.func191 O Y O O ?_;refine ar h1 ?_;refine ar h2 ?_;refine ar h3 ?_;refine ar h4 ?_;exact cp
theorem AJ (z k:PV)(row:List PV)(rows:List (List PV)):gX z k (row::rows)=bif wt k row then row.getD 1 z else gX z k rows:=by
 simp only[gX,gj];cases wt k row
 .simp only[cond_false];cases gj k rows<;>rfl
 .rfl
theorem AI (key v:PV)(row:List PV)(rows:List (List PV)):jt key v (row::rows)=bif wt key row then row.set 1 v::rows else row::jt key v rows:=by
 unfold jt;cases h:wt key row with
 |true=>simp[gj,h]
 |false =>
  simp only[gj,h,cond_false];cases hm:gj key rows with
  |none=>simp
  |some i =>
   have hi:=mM hm;simp[List.getElem?_eq_getElem hi]
theorem Bi [Globs]{P:Program}{L:Lay}{s:St}{T:TypeId}{x y v:Operand}{ty:TypeId}{pos:String}{af:Array Edge}{K:St->Prop}(h:POp P L s ⟨none,.mapUpdate T x y v,ty,pos,af,none⟩ K):Sm P L s ⟨none,.insert T x y v,ty,pos,af,none⟩ K:=by
 intro C a w Q hG hs hN;have h2:Oper.wp P ⟨none,.mapUpdate T x y v,ty,pos,af,none⟩ a w (fun a' w'=>∃s',SimE C s' a' w'/\K s') Q:=POp.wp (o:=⟨none,.mapUpdate T x y v,ty,pos,af,none⟩) hG hs hN h fun s' _ _ h' hk=>⟨s',h',hk⟩;exact h2
def Hw (n:Str):List PV:=[.str n,.bool true]
theorem yL (d:Str):∀m:List Str,gX (.bool false) (.str d) (m.map Hw) = .bool (decide (d∈m))
 |[]=>by simp;rfl
 |e::m=>by
  rw[List.map_cons,AJ,yL d m];have:wt (.str d) (Hw e)=decide (e=d):=O;rw[this];by_cases h:e=d
  .have h2:d∈e::m:=by rw[h];exact List.mem_cons_self
   rw[decide_eq_true h,decide_eq_true h2];rfl
  .rw[decide_eq_false h];have:decide (d∈e::m)=decide (d∈m):=by rw[decide_eq_decide,List.mem_cons];exact⟨fun g=>g.resolve_left fun e'=>h e'.symm,.inr⟩
   rw[this];rfl
theorem yJ (d:Str):∀m:List Str,d∉m->jt (.str d) (.bool true) (m.map Hw)=(m++[d]).map Hw
 |[],_=>rfl
 |e::m,h=>by
  have h1:¬e=d:=fun g=>h (by simp[g]);have h2:d∉m:=fun g=>h (List.mem_cons_of_mem _ g);rw[List.map_cons,AI,yJ d m h2];have:wt (.str d) (Hw e)=decide (e=d):=O;rw[this,decide_eq_false h1];rfl
theorem uz (m:List Str):gL .str (m.map Hw)=true:=by
 induction m with
 |nil=>rfl
 |cons e m ih=>rw[List.map_cons];exact ih
structure SHP where
 nm:Str
 len:Int
 st:List ST
 light:LR
 it:List LR
def fF (s:SHP):List PV:=[.str s.nm,I s.len,.sl (s.st.map eT)]++eLd s.light++[.sl (s.it.map eLd)]
def KL (light:LR)(it:List LR)(i:Nat)(w:LR):Int:=pm w (light::it.take i) 0
def mL (s:SHP):Int:=if pm s.light [] 1=0 then(if 60<s.it.length then 8 else fT s.it (KL s.light s.it)) else pm s.light [] 1
set_option maxRecDepth 20000 in
theorem oK (s:SHP)(h1:s.it.length<=9223372036854775807):Ret Tryz.prog .shared 128 [.agg (fF s)] (I (mL s)):=by
 have n0:=kU s.light.nm;have n1:=nD s.light 1;have hmi:(s.it.map eLd).length=s.it.length:=List.length_map _;generalize hf:mL s=E;rw[mL]at hf;have hl:pm s.light [] 1=if di s.light.nm=true then nP s.light 1 else 4:=by rw[pm];simp
 rw[hl]at hf;clear hl;obtain⟨nm,len,st,light,it⟩:=s;simp only at *
 refine Ret.of_pwp layOk mixed Go.Proofs.Tryz.func128 O Y O O ?_;refine ar n0 ?_;cases hn:di light.nm with
 |false =>
  rw[hn]at hf;subst hf;exact cp
 |true =>
  rw[hn,if_pos O]at hf;refine ar n1 ?_;by_cases he:nP light 1=0
  rotate_left
  .rw[if_neg he]at hf;generalize nP light 1=e at *
   subst hf;refine D ?_ ?_<;>intro h
   .clear h;exact cp
   .simp at h;exact absurd h he
  rw[if_pos he]at hf;rw[he];refine H ?_;rw[hmi];refine bP O ?_ ?_<;>intro h
  .rw[if_pos (by have:=aC h;omega)]at hf;subst hf;exact cp
  have h60:¬60<it.length:=by have:=aG h;omega
  clear h;rw[if_neg h60]at hf
  ((repeat ((fail_if_success (with_reducible refine aQ 8 ?_));refine cx O ?_));refine aM 4 ?_)
  refine aH (FX O ?_);iterate 3 refine fB O ?_
  refine aY ?_;refine aV O (Bi (Dn 0 O O O O O O O O O O O O ?_));refine aO ?_;refine H ?_;rw[hmi];refine bH [(1,.ptr 1 1 0 0),(4,.mp 23 1),(29,.sl (it.map eLd)),(30,I it.length),(31,I ((0:Nat):Int))] [(1,1,⟨27,9,[fF ⟨nm,len,st,light,it⟩],2⟩),(23,1,⟨257,0,[Hw light.nm],0⟩)] ⟨O,O,O,O,O,O,O,trivial⟩ ?_;intro s0;refine ap (ClearE it (KL light it)) (fun k=>[(1,.ptr 1 1 0 0),(4,.mp 23 1),(29,.sl (it.map eLd)),(30,I it.length),(31,I (k:Nat))]) (fun k=>[(1,1,⟨27,9,[fF ⟨nm,len,st,light,it⟩],2⟩),(23,1,⟨257,0,((light::it.take k).map (·.nm)).map Hw,0⟩)]) (fun k=>it.length-k) 0 .zero' ⟨O,O,O,O,O,O,O,trivial⟩ ?_;intro k s1 hk;have hkl:=hk.1;refine D ?_ ?_<;>intro h
  .have hlt:k<it.length:=by have:=aC h;omega
   clear h;obtain⟨w,hx⟩:=aJ hlt;have m0:=kU w.nm;have m1:=nD w 0;have hw:=fc k;have hsn:(light::it.take (k+1)).map (·.nm)=(light::it.take k).map (·.nm)++[w.nm]:=by rw[bC hx];simp
   have hv:KL light it k w=if di w.nm=true then(if w.nm∈(light::it.take k).map (·.nm) then 5 else nP w 0) else 4:=O
   generalize (light::it.take k).map (·.nm)=D0 at *
   have hlook:=yL w.nm D0;obtain⟨wn,wm,wx,wz,wf⟩:=w;simp only at *
   refine aS hx ?_;refine ar m0 ?_;cases hn2:di wn with
   |false =>
    rw[hn2,if_neg Y]at hv;have hfl:=hk.found hx hv Y;rw[hfl]at hf;subst hf;exact cp
   |true =>
    rw[hn2,if_pos O]at hv;refine H ?_;refine bE O O (IF O O O O O aT O O O O O (uz _)) ?_;rw[hlook];by_cases hd:wn∈D0
    .rw[if_pos hd]at hv;rw[decide_eq_true hd];have hfl:=hk.found hx hv Y;rw[hfl]at hf;subst hf;exact cp
    .rw[if_neg hd]at hv;rw[decide_eq_false hd];have hput:=yJ wn D0 hd;refine H ?_;refine bL (Dn 0 O O O O O O O O O (uz _) O O ?_);refine ar m1 ?_;by_cases hz:nP ⟨wn,wm,wx,wz,wf⟩ 0=0
     rotate_left
     .have hfl:=hk.found hx hv hz;rw[hfl]at hf;generalize nP ⟨wn,wm,wx,wz,wf⟩ 0=e at *
      subst hf;refine D ?_ ?_<;>intro h
      .clear h;exact cp
      .simp at h;exact absurd h hz
     rw[hz]at hv;rw[hz];refine H ?_;refine⟨k+1,hk.succ hx hv,J,O,O,O,O,congrArg I hw,O,?_,trivial⟩;rw[hsn,<-hput];rfl
  .have hge:¬k<it.length:=by have:=aG h;omega
   clear h;rw[hk.none hge]at hf;subst hf;exact cp
def ve (st:List ST)(i:Nat):Option ST:=if i=0 then none else st[i-1]?
def GE (st:List ST)(i:Nat)(t:ST):Int:=lr t (ve st i)
def fN (s:SHP):Int:=if di s.nm=true then(if aN s.len 1 1000000=true/\aN s.st.length 1 40=true then(if fT s.st (GE s.st)=0 then mL s else fT s.st (GE s.st)) else 2) else 4
structure SHP.Len (s:SHP):Prop where
 st:s.st.length<=9223372036854775807
 it:s.it.length<=9223372036854775807
 L:∀t∈s.st,t.L.length<=9223372036854775807/\t.H0.length<=9223372036854775807
theorem ze {t:ST}{u:Option ST}(h:lr t u=0):l5 t=0:=by
 unfold lr at h;split at h
 .assumption
 .assumption
theorem rC {st:List ST}{j:Nat}{u:ST}(h:st[j]? = some u):ve st (j+1)=some u:=by rw[ve,if_neg J,Nat.add_sub_cancel,h]
def E9 (st:List ST)(i:Nat):PV:=match ve st i with
 |none => .raw (.pointer none)
 |some u => .dref (eT u) 0
theorem q9 {n:Nat}(h:aN (n:Int) 1 40=true):n<=40:=by
 simp[aN]at h;omega
set_option maxRecDepth 20000 in
theorem kG (s:SHP)(hs:s.Len):Ret Tryz.prog .shared 66 [.agg (fF s)] (I (fN s)):=by
 have n0:=kU s.nm;have n1:=bB s.len 1 1000000;have n2:=bB s.st.length 1 40;have hml:((s.st.map eT).length:Int)=s.st.length:=ah;have hld:=oK s hs.it;have hL:=hs.L;generalize hf:fN s=E;rw[fN]at hf;generalize mL s=le at *
 obtain⟨nm,len,st,light,it⟩:=s;simp only at *
 refine Ret.of_pwp layOk mixed Go.Proofs.Tryz.func66 O Y O O ?_;refine ar n0 ?_;cases hn:di nm with
 |false =>
  rw[hn,if_neg Y]at hf;subst hf;exact cp
 |true =>
  rw[hn,if_pos O]at hf;refine ar n1 ?_;cases h1:aN len 1 1000000 with
  |false =>
   rw[h1,if_neg ah]at hf;subst hf;exact cp
  |true =>
   refine H ?_;rw[hml];refine JT O O O n2 O O O ?_;cases h2:aN st.length 1 40 with
   |false =>
    rw[h2,if_neg ah]at hf;subst hf;exact cp
   |true =>
    have h40:=q9 h2;rw[h1,h2,if_pos ⟨O,O⟩]at hf;refine H ?_;rw[hml];refine ap (ClearE st (GE st)) (fun k=>[(1,.ptr 1 1 0 0),(3,E9 st k),(23,.sl (st.map eT)),(24,I st.length),(25,I (k:Nat))]) (fun _=>[(1,1,⟨27,9,[fF ⟨nm,len,st,light,it⟩],2⟩)]) (fun k=>st.length-k) 0 .zero' ⟨O,O,O,O,O,O,trivial⟩ ?_;intro k s1 hk;have hkl:=hk.1;refine D ?_ ?_<;>intro h
    .have hlt:k<st.length:=by have:=aC h;omega
     clear h;obtain⟨t,hx⟩:=aJ hlt;obtain⟨l1,l2⟩:=hL t (bc hx);have hw:=fc k;have hnb:PV.dref (eT t) 0=E9 st (k+1):=by rw[E9,rC hx]
     have hc:Ret Tryz.prog .shared 127 [.agg (eT t),E9 st k] (I (GE st k t)):=by
      cases k with
      |zero=>exact to t l1 l2
      |succ j =>
       obtain⟨u,hu⟩:=aJ (show j<st.length by omega);rw[GE,E9,rC hu];exact tp t u (ze (hk.2 j u J hu)) l1 l2
     have hfb:(E9 st k = .raw (.pointer none))\/∃u,E9 st k = .dref (eT u) 0:=by
      rw[E9];cases ve st k with
      |none=>exact .inl rfl
      |some u=>exact .inr ⟨u,rfl⟩
     have hfl:=fun e (h:GE st k t=e) (he:e≠0)=>hk.found hx h he;have hsu:=fun(h:GE st k t=0)=>hk.succ hx h;generalize GE st k t=e at *
     generalize E9 st k=bp at *
     rcases hfb with rfl|⟨u,rfl⟩
     .refine aS hx ?_;refine ar hc ?_;refine D ?_ ?_<;>intro h
      .have he:e≠0:=by simpa using h
       clear h;rw[hfl e O he,if_neg he]at hf;subst hf;exact cp
      .have he:e=0:=by simpa using h
       clear h;refine aS hx ?_;refine H ?_;exact⟨k+1,hsu he,J,O,hnb,O,O,congrArg I hw,O,trivial⟩
     .refine aS hx ?_;refine ar hc ?_;refine D ?_ ?_<;>intro h
      .have he:e≠0:=by simpa using h
       clear h;rw[hfl e O he,if_neg he]at hf;subst hf;exact cp
      .have he:e=0:=by simpa using h
       clear h;refine aS hx ?_;refine H ?_;exact⟨k+1,hsu he,J,O,hnb,O,O,congrArg I hw,O,trivial⟩
    .have hge:¬k<st.length:=by have:=aG h;omega
     clear h;rw[hk.none hge,if_pos O]at hf;subst hf;refine ar hld ?_;exact cp
theorem t_ (d:Int):Ret Tryz.prog .shared 232 [I d] (I (if aN d 900 1100=true then 0 else 2)):=by
 have h1:=bB d 900 1100;generalize aN d 900 1100=p at *
 cases p;all_goals
  refine Ret.of_pwp layOk mixed Go.Proofs.Tryz.func232 O Y O O ?_;refine ar h1 ?_;exact cp
def i_ (s:SHP)(d:Int):Int:=if fN s=0 then(if aN d 900 1100=true then 0 else 2) else fN s
theorem ny (s:SHP)(hs:s.Len)(d:Int):Ret Tryz.prog .shared 170 [.agg (fF s),I d] (I (i_ s d)):=by
 have h1:=kG s hs;have h2:=t_ d;rw[i_];generalize (if aN d 900 1100=true then(0:Int) else 2)=e2 at *
 generalize fN s=e at *
 by_cases he:e=0
 .subst he;rw[if_pos O];refine Ret.of_pwp layOk mixed Go.Proofs.Tryz.func170 O Y O O ?_;refine ar h1 ?_;refine ar h2 ?_;exact cp
 .rw[if_neg he];refine Ret.of_pwp layOk mixed Go.Proofs.Tryz.func170 O Y O O ?_;refine ar h1 ?_;refine D ?_ ?_<;>intro h
  .clear h;exact cp
  .simp at h;exact absurd h he
end Go.Pv
namespace Go.Proofs
open Go.Shelf
def Tryz.growL_ren:Go.Shelf.Ren:=⟨fun|4=>287|n=>n,fun|22=>25|25=>24|3=>3|4=>4|9=>9|20=>20|0=>0|n=>n,fun|n=>n⟩
theorem Tryz.growL:Go.Proofs.Lays8.n4 Tryz.prog Tryz.growL_ren:={
 mixed:=by kernel_rfl
 f4:=⟨Tryz.f287.name,by decide,Tryz.func287.trans (congrArg some (by kernel_rfl))⟩
 t0:=Tryz.underlying0
 a0:=Tryz.isAgg0
 z0:=Tryz.sizeOf0
 v0:=Tryz.zeroValue0
 t3:=Tryz.underlying3
 a3:=Tryz.isAgg3
 z3:=Tryz.sizeOf3
 v3:=Tryz.zeroValue3
 t4:=Tryz.underlying4
 a4:=Tryz.isAgg4
 z4:=Tryz.sizeOf4
 v4:=Tryz.zeroValue4
 t9:=Tryz.underlying9
 a9:=Tryz.isAgg9
 z9:=Tryz.sizeOf9
 v9:=Tryz.zeroValue9
 t20:=Tryz.underlying20
 a20:=Tryz.isAgg20
 z20:=Tryz.sizeOf20
 v20:=Tryz.zeroValue20
 t22:=Tryz.underlying25
 a22:=Tryz.isAgg25
 z22:=Tryz.sizeOf25
 v22:=Tryz.zeroValue25 }
end Go.Proofs
set_option maxHeartbeats 2000000
namespace Go.Pv
attribute [local irreducible] PWP POps PQuiet PSem aw aq ai aj
open Go.Proofs Go.RowKit
theorem CN (n:Nat)(h0:1<=n)(hn:n<=1000000):RetO Tryz.prog 287 [.nil,I (n:Nat)] 24 5 []:=by
 refine⟨⟨_,Go.Proofs.Tryz.func287,Y,O⟩,fun w X args hg hX hl hargs=>?_⟩
 match args,hl with
 |[v0,v1],_ =>
  have e0:v0 = .slice none 0 0:=by
   have:=hargs 0 .nil v0 O O;cases this;rfl
  have e1:v1 = .int .i64 n:=by
   have:=hargs 1 (I (n:Nat)) v1 O O;cases this;rfl
  subst e0 e1;obtain⟨i0,d,hi,_,hs,hby,_,hz⟩:=LRow.spec (layOk 24 _ O);obtain⟨z,hz0,hzs,_,_⟩:=hz _ O;have hs:i0.size=5:=hs;have hby:i0.bytes=48:=hby;have hzs:z.cells.size=5:=hzs;refine(Any8.slices_Grow_grow Tryz.growL i0 z hi hz0 J none 0 0 n [] w (aP) J (by rw[hby];omega) J ah (fun _=>rfl) (fun a h=>by cases h)).mono ?_;rintro e w' ⟨rfl,rfl⟩;have hge:=grownCap_ge w (0+n) 0 24;have hle:=grownCap_le_maxLen w (0+n) 0 24 (by unfold maxLen;omega);refine⟨_,O,?_,.inr ⟨w.heap.size,grownCap w (0+n) 0 24,_,aP,O,bj _ _,Nat.zero_le _,hle,?_,Y,Nat.zero_le _,fun row hr=>(by cases hr),fun i j row c hr=>(by simp at hr)⟩⟩
  .have hb:Below w.heap.size w w.drew:=Below.drew (Below.refl _ _);exact hb.alloc (aP) _
  .rw[Array.size_append,Array.size_append,size_zeroCells,size_zeroCells,hzs];show 0+(0+n-0)*5+(grownCap w (0+n) 0 24-(0+n))*5=grownCap w (0+n) 0 24*5;omega
def JG:Nat->Nat
 |0=>0
 |_+1=>1
set_option maxRecDepth 20000 in
theorem wH (A B:List LR)(hA:1<=A.length)(hl:A.length+B.length<=1000000):Ret Tryz.prog .shared 272 [.sl ([A,B].map fun l=>[.sl (l.map eLd)])] (.sl ((A++B).map eLd)):=by
 have hg:=CN (A.length+B.length) J hl;generalize hL:[A,B]=LL;have hLl:LL.length=2:=by rw[<-hL];rfl
 have hml:((LL.map fun l=>[PV.sl (l.map eLd)]).length:Int)=LL.length:=ah;let sm (k:Nat):Nat:=((LL.take k).map List.length).sum;have s0:sm 0=0:=by simp[sm]
 have s2:sm LL.length=A.length+B.length:=by simp only[sm];rw[<-hL];simp
 have hsm:∀k,sm k<=1000000:=fun k=>by
  simp only[sm];rw[<-hL]
  match k with
  |0=>simp
  |1=>simp;omega
  |k+2=>simp;omega
 have hsn:∀k x,LL[k]? = some x->sm (k+1)=sm k+x.length:=fun k x hx=>by
  simp only[sm];rw[bC hx,List.map_append,List.sum_append];simp
 have hrn:∀k x,LL[k]? = some x->((LL.take (k+1)).flatten).map eLd=((LL.take k).flatten).map eLd++x.map eLd:=fun k x hx=>by
  rw[bC hx,List.flatten_append,List.map_append];simp
 have hrl:∀k,(((LL.take k).flatten).map eLd).length=sm k:=fun k=>by simp only[sm];rw[List.length_map,List.length_flatten]
 have hend:LL.flatten=A++B:=by rw[<-hL];simp
 clear_value sm
 refine Ret.of_pwp layOk mixed Go.Proofs.Tryz.func272 O Y O O ?_;refine H ?_;rw[hml];refine ap (fun k:Nat=>k<=LL.length) (fun k=>[(0,.sl (LL.map fun l=>[.sl (l.map eLd)])),(3,I (sm k:Nat)),(9,.sl (LL.map fun l=>[.sl (l.map eLd)])),(10,I LL.length),(11,I (k:Nat))]) (fun _=>[]) (fun k=>LL.length-k) 0 (Nat.zero_le _) ⟨O,by rw[s0];rfl,O,O,O,trivial⟩ ?_;intro k s hk;refine D ?_ ?_<;>intro h
 .have hlt:k<LL.length:=by have:=aC h;omega
  clear h;obtain⟨x,hx⟩:=aJ hlt;have hmx:((x.map eLd).length:Int)=x.length:=ah;have hs1:=hsn k x hx;have hs2:=hsm (k+1);have hw:=fc k;have hws:IntKind.i64.wrap (((sm k:Nat):Int)+(x.length:Int))=((sm (k+1):Nat):Int):=by rw[wrap_i64 J J];omega
  refine aS hx ?_;refine H ?_;rw[hmx,hws];refine H ?_;exact⟨k+1,hlt,J,O,O,O,O,congrArg I hw,trivial⟩
 .have hge:k=LL.length:=by have:=aG h;omega
  clear h;subst hge;rw[s2]
  ((repeat ((fail_if_success (with_reducible refine aQ 9 ?_));refine cx O ?_));refine aM 1 ?_)
  refine fB O ?_;refine aY ?_;refine aV O (El O hg O aI O ?_);refine aO ?_;refine H ?_;rw[hml];refine bH [(6,.als 24 ((s.own 24).1+1) 0 0),(25,.sl (LL.map fun l=>[.sl (l.map eLd)])),(26,I LL.length),(27,I ((0:Nat):Int))] [(24,(s.own 24).1+1,⟨24,5,[],0⟩)] ⟨O,O,O,O,O,trivial⟩ ?_;generalize (s.own 24).1+1=g;intro s0;refine ap (fun k:Nat=>k<=LL.length) (fun k=>[(6,.als 24 (g+k) 0 (((LL.take k).flatten).map eLd).length),(25,.sl (LL.map fun l=>[.sl (l.map eLd)])),(26,I LL.length),(27,I (k:Nat))]) (fun k=>[(24,g+k,⟨24,5,((LL.take k).flatten).map eLd,JG k⟩)]) (fun k=>LL.length-k) 0 (Nat.zero_le _) ⟨O,O,O,O,O,trivial⟩ ?_;intro k s1 hk;refine D ?_ ?_<;>intro h
  .have hlt:k<LL.length:=by have:=aC h;omega
   clear h;obtain⟨x,hx⟩:=aJ hlt;have hs1:=hsn k x hx;have hs2:=hsm (k+1);have hr1:=hrn k x hx;have hr2:=hrl k;have hmx:(x.map eLd).length=x.length:=ah;have hw:=fc k;generalize ((LL.take k).flatten).map eLd=R at *
   refine aS hx ?_;refine H ?_;refine aH (bQ 1 O O O O O O O O O O O aI (by intro row hr;obtain⟨_,_,rfl⟩:=List.mem_map.1 hr;rfl) (by cases k<;>rfl) O (by rw[hr2,hmx];show _*48<=_;omega) (by rw[hr2,hmx];omega) ?_);refine H ?_;refine⟨k+1,hlt,J,?_,O,O,congrArg I hw,?_,trivial⟩
   .rw[hr1];rfl
   .rw[hr1];rfl
  .have hge:k=LL.length:=by have:=aG h;omega
   clear h;subst hge;rw[List.take_length,hend,show JG LL.length=1 by rw[hLl];rfl]
   (repeat ((fail_if_success (with_reducible refine eY ?_));refine cx O ?_))
   refine aE (Ghost.takeD (k:=24) (t:=2) O O O) ?_;exact bV
set_option maxRecDepth 20000 in
theorem AC (s:SHP)(hl:s.it.length<=100000):Ret Tryz.prog .shared 242 [.agg (fF s)] (.sl ((s.light::s.it).map eLd)):=by
 have hc:=wH [s.light] s.it ah aU;rw[show [s.light]++s.it=s.light::s.it from O]at hc;obtain⟨nm,len,st,light,it⟩:=s;simp only at *
 refine Ret.of_pwp layOk mixed Go.Proofs.Tryz.func242 O Y O O ?_
 ((repeat ((fail_if_success (with_reducible refine aQ 1 ?_));refine cx O ?_));refine aM 5 ?_)
 iterate 2 refine fB O ?_
 refine aH (bx 1 O O O O O O O O O O O aI O ?_);iterate 2 refine fB O ?_
 refine aY ?_;refine aV O (dD (Ghost.takeD (k:=5) (t:=5) O O O) (bx 1 O O O O O O O O O O O aI O ?_));refine aV O (dD (Ghost.takeD (k:=8) (t:=8) O O O) ?_)
 (refine kj (dA O (hc) O ?_ O) ?_;.repeat' constructor)
 refine aO ?_;exact bV
open Go.Proofs
theorem bZ (z:Int)(h:i64 z):Ret Tryz.prog .shared 167 [I z] (.agg (eR (ofQ (z:Rat)))):=by
 have ho:=sP z h.1 h.2;have hw:=j8 (cw z) (by have:=ju (z:=z) (by obtain⟨h1,h2⟩:=h;omega);omega);rw[cm]at hw;generalize ofQ (z:Rat)=X at *
 generalize cw z=Z at *
 refine Ret.of_pwp layOk mixed Go.Proofs.Tryz.func167 O Y O O ?_;refine G ho ?_;refine G hw ?_;exact bV
theorem i8 (x y:RR){p q:Rat}{n m:Nat}[hx:Vq x p n][hy:Vq y q m](hn:n<=20000000)(hm:m<=20000000)(h0:q≠0):Ret Tryz.prog .shared 196 [.agg (eR x),.agg (eR y)] (.agg (eR (ofQ (p/q)))):=by
 have hq:=vj x y hn hm;rw[if_neg h0]at hq;generalize ofQ (p/q)=X at *
 refine Ret.of_pwp layOk mixed Go.Proofs.Tryz.func196 O Y O O ?_;refine G hq ?_;exact bV
structure OkW (w:LR):Prop where
 m:0<=w.m/\w.m<=1000000000
 x : -1000000<=w.x/\w.x<=1000000
 z : -100000<=w.z/\w.z<=100000
 f:0<=w.f/\w.f<=1000000000
theorem Dl {w:LR}{l:Int}(hl:0<=l)(h:nP w l=0):OkW w/\l<=w.m:=by
 rw[nP]at h;split at h
 .rename_i h2;simp[Ix,aN]at h2;exact⟨⟨J,J,J,J⟩,J⟩
 .omega
def sM (l:List LR):Int:=(l.map (·.m)).sum
def sF (l:List LR):Int:=(l.map (·.f)).sum
def sX (l:List LR):Int:=(l.map fun w=>w.m*w.x).sum
def sZ (l:List LR):Int:=(l.map fun w=>w.m*w.z).sum
theorem Di {m x M X:Int}(hm:0<=m/\m<=M)(hx : -X<=x/\x<=X)(h0:0<=X) : -(M*X)<=m*x/\m*x<=M*X:=by
 have h1:m*x<=m*X:=Int.mul_le_mul_of_nonneg_left hx.2 hm.1;have h2:m*X<=M*X:=Int.mul_le_mul_of_nonneg_right hm.2 h0;have h3:m*(-X)<=m*x:=Int.mul_le_mul_of_nonneg_left hx.1 hm.1;rw[Int.mul_neg]at h3;omega
theorem OkW.mx {w:LR}(h:OkW w):(-1000000000000000<=w.m*w.x/\w.m*w.x<=1000000000000000) /\ -100000000000000<=w.m*w.z/\w.m*w.z<=100000000000000 :=
 ⟨Di h.m h.x Y,Di h.m h.z Y⟩
structure SumOk (l:List LR):Prop where
 m:0<=sM l/\sM l<=l.length*1000000000
 f:0<=sF l/\sF l<=l.length*1000000000
 x : -(l.length*1000000000000000:Int)<=sX l/\sX l<=l.length*1000000000000000
 z : -(l.length*100000000000000:Int)<=sZ l/\sZ l<=l.length*100000000000000
theorem gS:∀ {l:List LR},(∀w∈l,OkW w)->SumOk l
 |[],_=>⟨by simp[sM],by simp[sF],by simp[sX],by simp[sZ]⟩
 |w::l,h=>by
  have ih:=gS fun u hu=>h u (List.mem_cons_of_mem _ hu);have hw:=h w List.mem_cons_self;obtain⟨⟨a1,a2⟩,a3,a4⟩:=hw.mx;obtain⟨⟨b1,b2⟩,_,_,b3,b4⟩:=hw;obtain⟨⟨c1,c2⟩,⟨c3,c4⟩,⟨c5,c6⟩,c7,c8⟩:=ih;have e1:sM (w::l)=w.m+sM l:=O;have e2:sF (w::l)=w.f+sF l:=O;have e3:sX (w::l)=w.m*w.x+sX l:=O;have e4:sZ (w::l)=w.m*w.z+sZ l:=O;have e5:((w::l).length:Int)=l.length+1:=ah;refine⟨?_,?_,?_,?_⟩
  .rw[e1,e5];omega
  .rw[e2,e5];omega
  .rw[e3,e5];omega
  .rw[e4,e5];omega
theorem vV {l:List LR}{k:Nat}{w:LR}(h:l[k]? = some w):sM (l.take (k+1))=sM (l.take k)+w.m/\sF (l.take (k+1))=sF (l.take k)+w.f/\sX (l.take (k+1))=sX (l.take k)+w.m*w.x/\sZ (l.take (k+1))=sZ (l.take k)+w.m*w.z:=by
 rw[bC h];simp[sM,sF,sX,sZ]
def K6 (m:Int)(x z:RR)(f:Int):List PV:=[I m]++eR x++eR z++[I f]
def tv (l:List LR):List PV:=K6 (sM l) (ofQ ((sX l:Rat)/(sM l:Rat))) (ofQ ((sZ l:Rat)/(sM l:Rat))) (sF l)
set_option maxRecDepth 20000 in
theorem pY (s:SHP)(L:List LR)(hLe:L=s.light::s.it)(hL:∀w∈L,OkW w)(h1:1<=sM L)(hl:L.length<=61):Ret Tryz.prog .shared 194 [.agg (fF s)] (.agg (tv L)):=by
 have hlo:=AC s (by
  have:L.length=s.it.length+1:=by rw[hLe];rfl
  omega)
 rw[<-hLe]at hlo;have w0:=bZ 0 ⟨Y,Y⟩;have hml:((L.map eLd).length:Int)=L.length:=ah;have hto:=gS hL;have hne:(sM L:Rat)≠0:=by
  have:sM L≠0:=J
  exact_mod_cast this
 obtain⟨⟨t1,t2⟩,⟨t3,t4⟩,⟨t5,t6⟩,t7,t8⟩:=hto;have zM:Zb (sM L):=aK J J;have zX:Zb (sX L):=aK J J;have zZ:Zb (sZ L):=aK J J;have wM:=bZ (sM L) ⟨J,J⟩;have dX:=i8 (ofQ (sX L:Rat)) (ofQ (sM L:Rat)) (hx:=Vq.ofQ (h:=HQ.int)) (hy:=Vq.ofQ (h:=HQ.int)) Y Y hne;have dZ:=i8 (ofQ (sZ L:Rat)) (ofQ (sM L:Rat)) (hx:=Vq.ofQ (h:=HQ.int)) (hy:=Vq.ofQ (h:=HQ.int)) Y Y hne;have sk:=fun k=>gS (l:=L.take k) fun w hw=>hL w (List.mem_of_mem_take hw);refine Ret.of_pwp layOk mixed Go.Proofs.Tryz.func194 O Y O O ?_;refine G w0 ?_;refine G w0 ?_;refine G hlo ?_;refine H ?_;rw[hml];refine ap (fun k:Nat=>k<=L.length) (fun k=>[(2,.ptr 2 1 0 0),(3,.ptr 3 1 0 0),(4,.ptr 4 1 0 0),(5,.ptr 5 1 0 0),(11,.sl (L.map eLd)),(12,I L.length),(13,I (k:Nat))]) (fun k=>[(2,1,⟨61,10,[[I 0]++zN++zN++[I 0]],2⟩),(3,1,⟨61,10,[[I (sM (L.take k))]++zN++zN++[I (sF (L.take k))]],2⟩),(4,1,⟨42,4,[eR (ofQ (sX (L.take k):Rat))],2⟩),(5,1,⟨42,4,[eR (ofQ (sZ (L.take k):Rat))],2⟩)]) (fun k=>L.length-k) 0 (Nat.zero_le _) ⟨O,O,O,O,O,O,O,O,O,O,O,trivial⟩ ?_;intro k s1 hk;refine D ?_ ?_<;>intro h
 .have hlt:k<L.length:=by have:=aC h;omega
  clear h;obtain⟨w,hx⟩:=aJ hlt;have ow:=hL w (bc hx);obtain⟨⟨a1,a2⟩,a3,a4⟩:=ow.mx;have hsk:=sk k;have hsk2:=sk (k+1);have hl1:(L.take k).length<=100:=by rw[List.length_take];omega
  have hl2:(L.take (k+1)).length<=100:=by rw[List.length_take];omega
  obtain⟨⟨c1,c2⟩,⟨c3,c4⟩,⟨c5,c6⟩,c7,c8⟩:=hsk;obtain⟨⟨d1,d2⟩,⟨d3,d4⟩,⟨d5,d6⟩,d7,d8⟩:=hsk2;obtain⟨e1,e2,e3,e4⟩:=vV hx;have hw:=fc k;have v1:IntKind.i64.wrap (sM (L.take k)+w.m)=sM (L.take (k+1)):=by rw[wrap_i64 J J];omega
  have v2:IntKind.i64.wrap (sF (L.take k)+w.f)=sF (L.take (k+1)):=by rw[wrap_i64 J J];omega
  have v3:IntKind.i64.wrap (w.m*w.x)=w.m*w.x:=wrap_i64 J J;have v4:IntKind.i64.wrap (w.m*w.z)=w.m*w.z:=wrap_i64 J J;have z1:Zb (sX (L.take k)):=aK J J;have z2:Zb (sZ (L.take k)):=aK J J;have z3:Zb (w.m*w.x):=aK J J;have z4:Zb (w.m*w.z):=aK J J;have u1:=bZ (w.m*w.x) ⟨J,J⟩;have u2:=bZ (w.m*w.z) ⟨J,J⟩;have g1:=cJ (ofQ (sX (L.take k):Rat)) (ofQ ((w.m*w.x:Int):Rat)) (hx:=Vq.ofQ (h:=HQ.int)) (hy:=Vq.ofQ (h:=HQ.int)) Y Y;have g2:=cJ (ofQ (sZ (L.take k):Rat)) (ofQ ((w.m*w.z:Int):Rat)) (hx:=Vq.ofQ (h:=HQ.int)) (hy:=Vq.ofQ (h:=HQ.int)) Y Y;rw[<-Rat.intCast_add,<-e3]at g1;rw[<-Rat.intCast_add,<-e4]at g2;clear c1 c2 c3 c4 c5 c6 c7 c8 d1 d2 d3 d4 d5 d6 d7 d8 e1 e2 e3 e4 z1 z2 z3 z4 a1 a2 a3 a4 hl1 hl2;refine aS hx ?_;refine H ?_;rw[v1];refine H ?_;rw[v2];refine cn 8 [29,30,31,32,33,34,35,36] ?_;refine H ?_;rw[v3];refine nR O O O u1 O O ?_;refine G g1 ?_;refine cn 8 [37,38,39,40,41,42,43,44] ?_;refine H ?_;rw[v4];refine nR O O O u2 O O ?_;refine G g2 ?_;refine H ?_;exact⟨k+1,hlt,J,O,O,O,O,O,O,congrArg I hw,O,O,O,O,trivial⟩
 .have hge:k=L.length:=by have:=aG h;omega
  clear h;subst hge;rw[List.take_length];clear sk hne zM zX zZ;rw[tv];generalize ofQ ((sX L:Rat)/(sM L:Rat))=QX at *
  generalize ofQ ((sZ L:Rat)/(sM L:Rat))=QZ at *
  refine H ?_;refine ca [] [3] 11 [11,12,13] aT aT ?_;refine G wM ?_;refine G dX ?_;refine G wM ?_;refine G dZ ?_;exact bV
theorem lQ {α:Type}{l:List α}{f:Nat->α->Int}(h:fT l f=0){i:Nat}{x:α}(hx:l[i]? = some x):f i x=0:=jR h i x hx
structure ShipOk (s:SHP):Prop where
 len:s.st.length<=40
 st:∀i t,s.st[i]? = some t->GE s.st i t=0
 ld:∀w∈s.light::s.it,OkW w
 m:1<=sM (s.light::s.it)
 n:s.it.length<=60
theorem uI {w:LR}{B:List LR}{l:Int}(h:pm w B l=0):nP w l=0:=by
 rw[pm]at h;split at h
 .split at h
  .omega
  .exact h
 .omega
theorem j1 {s:SHP}(h:fN s=0):ShipOk s:=by
 rw[fN]at h;split at h
 rotate_left
 .omega
 split at h
 rotate_left
 .omega
 rename_i hin;split at h
 rotate_left
 .contradiction
 rename_i hst;rw[mL]at h;split at h
 rotate_left
 .contradiction
 rename_i hl;split at h
 .omega
 rename_i h60;obtain⟨o1,m1⟩:=Dl Y (uI hl);have o2:∀w∈s.it,OkW w:=fun w hw=>by
  obtain⟨i,hi⟩:=List.mem_iff_getElem?.1 hw;exact(Dl (Int.le_refl 0) (uI (lQ h hi))).1
 have hall:∀w∈s.light::s.it,OkW w:=fun w hw=>by
  rcases List.mem_cons.1 hw with rfl|hw
  .exact o1
  .exact o2 w hw
 refine⟨q9 hin.2,fun i t ht=>lQ hst ht,hall,?_,J⟩;have:=(gS o2).m;have e:sM (s.light::s.it)=s.light.m+sM s.it:=O;omega
theorem AB (s:SHP)(hs:s.Len)(h:fN s=0):Ret Tryz.prog .shared 173 [.agg (fF s)] (.tup [.agg (tv (s.light::s.it)),I 0]):=by
 have h1:=kG s hs;have ok:=j1 h;have h2:=pY s _ O ok.ld ok.m (by have:=ok.n;simp;omega);rw[h]at h1;rw[tv]at h2 ⊢;generalize ofQ ((sX (s.light::s.it):Rat)/(sM (s.light::s.it):Rat))=QX at *
 generalize ofQ ((sZ (s.light::s.it):Rat)/(sM (s.light::s.it):Rat))=QZ at *
 clear ok;refine Ret.of_pwp layOk mixed Go.Proofs.Tryz.func173 O Y O O ?_;refine ar h1 ?_;refine G h2 ?_;exact bV
theorem DL (s:SHP)(hl:s.it.length<=100000):Ret Tryz.prog .shared 83 [.agg (fF s)] (.sl ((s.light::s.it).map eLd)):=by
 obtain⟨nm,len,st,light,it⟩:=s;simp only at *
 refine Ret.of_pwp layOk mixed Go.Proofs.Tryz.func83 O Y O O ?_;refine H ?_;refine aH (bx 1 O O O O O O O O O O O aI O ?_);refine H ?_;refine aH (bQ 1 O O O O O O O O O O O aI (by intro row hr;obtain⟨_,_,rfl⟩:=List.mem_map.1 hr;rfl) O O aU aU ?_)
 (repeat ((fail_if_success (with_reducible refine eY ?_));refine cx O ?_))
 refine aE (Ghost.takeD (k:=5) (t:=2) O O O) ?_;exact bV
set_option maxRecDepth 20000 in
theorem vz (s:SHP)(L:List LR)(hLe:L=s.light::s.it)(hL:∀w∈L,OkW w)(h1:1<=sM L)(hl:L.length<=61):Ret Tryz.prog .shared 26 [.agg (fF s)] (.agg (tv L)):=by
 have hlo:=DL s (by
  have:L.length=s.it.length+1:=by rw[hLe];rfl
  omega)
 rw[<-hLe]at hlo;have w0:=gT 0 ⟨Y,Y⟩;have hml:((L.map eLd).length:Int)=L.length:=ah;have hto:=gS hL;have hne:(sM L:Rat)≠0:=by
  have:sM L≠0:=J
  exact_mod_cast this
 obtain⟨⟨t1,t2⟩,⟨t3,t4⟩,⟨t5,t6⟩,t7,t8⟩:=hto;have zM:Zb (sM L):=aK J J;have zX:Zb (sX L):=aK J J;have zZ:Zb (sZ L):=aK J J;have wM:=gT (sM L) ⟨J,J⟩;have dX:=rM (ofQ (sX L:Rat)) (ofQ (sM L:Rat)) (hx:=Vq.ofQ (h:=HQ.int)) (hy:=Vq.ofQ (h:=HQ.int)) Y Y hne;have dZ:=rM (ofQ (sZ L:Rat)) (ofQ (sM L:Rat)) (hx:=Vq.ofQ (h:=HQ.int)) (hy:=Vq.ofQ (h:=HQ.int)) Y Y hne;have sk:=fun k=>gS (l:=L.take k) fun w hw=>hL w (List.mem_of_mem_take hw);refine Ret.of_pwp layOk mixed Go.Proofs.Tryz.func26 O Y O O ?_;refine G hlo ?_;refine G w0 ?_;refine G w0 ?_;refine H ?_;refine ap (fun k:Nat=>k<=L.length) (fun k=>[(2,.ptr 2 1 0 0),(3,.sl (L.map eLd)),(4,.ptr 4 1 0 0),(5,.ptr 5 1 0 0),(6,.ptr 6 1 0 0),(7,I (k:Nat))]) (fun k=>[(2,1,⟨61,10,[[I 0]++zN++zN++[I 0]],2⟩),(4,1,⟨61,10,[[I (sM (L.take k))]++zN++zN++[I (sF (L.take k))]],2⟩),(5,1,⟨42,4,[eR (ofQ (sX (L.take k):Rat))],2⟩),(6,1,⟨42,4,[eR (ofQ (sZ (L.take k):Rat))],2⟩)]) (fun k=>L.length-k) 0 (Nat.zero_le _) ⟨O,O,O,O,O,O,O,O,O,O,trivial⟩ ?_;intro k s1 hk;refine H ?_;rw[hml];refine bP O ?_ ?_<;>intro h
 .have hlt:k<L.length:=by have:=aC h;omega
  clear h;obtain⟨w,hx⟩:=aJ hlt;have ow:=hL w (bc hx);obtain⟨⟨a1,a2⟩,a3,a4⟩:=ow.mx;have hsk:=sk k;have hsk2:=sk (k+1);have hl1:(L.take k).length<=100:=by rw[List.length_take];omega
  have hl2:(L.take (k+1)).length<=100:=by rw[List.length_take];omega
  obtain⟨⟨c1,c2⟩,⟨c3,c4⟩,⟨c5,c6⟩,c7,c8⟩:=hsk;obtain⟨⟨d1,d2⟩,⟨d3,d4⟩,⟨d5,d6⟩,d7,d8⟩:=hsk2;obtain⟨e1,e2,e3,e4⟩:=vV hx;have hw:=fc k;have v1:IntKind.i64.wrap (sM (L.take k)+w.m)=sM (L.take (k+1)):=by rw[wrap_i64 J J];omega
  have v2:IntKind.i64.wrap (sF (L.take k)+w.f)=sF (L.take (k+1)):=by rw[wrap_i64 J J];omega
  have v3:IntKind.i64.wrap (w.m*w.x)=w.m*w.x:=wrap_i64 J J;have v4:IntKind.i64.wrap (w.m*w.z)=w.m*w.z:=wrap_i64 J J;have z1:Zb (sX (L.take k)):=aK J J;have z2:Zb (sZ (L.take k)):=aK J J;have z3:Zb (w.m*w.x):=aK J J;have z4:Zb (w.m*w.z):=aK J J;have u1:=gT (w.m*w.x) ⟨J,J⟩;have u2:=gT (w.m*w.z) ⟨J,J⟩;have g1:=iw (ofQ (sX (L.take k):Rat)) (ofQ ((w.m*w.x:Int):Rat)) (hx:=Vq.ofQ (h:=HQ.int)) (hy:=Vq.ofQ (h:=HQ.int)) Y Y;have g2:=iw (ofQ (sZ (L.take k):Rat)) (ofQ ((w.m*w.z:Int):Rat)) (hx:=Vq.ofQ (h:=HQ.int)) (hy:=Vq.ofQ (h:=HQ.int)) Y Y;rw[<-Rat.intCast_add,<-e3]at g1;rw[<-Rat.intCast_add,<-e4]at g2;clear c1 c2 c3 c4 c5 c6 c7 c8 d1 d2 d3 d4 d5 d6 d7 d8 e1 e2 e3 e4 z1 z2 z3 z4 a1 a2 a3 a4 hl1 hl2;refine cn 9 [19,20,21,22,23,24,25,26,27] ?_;refine aS hx ?_;refine H ?_;rw[v1];refine cn 9 [28,29,30,31,32,33,34,35,36] ?_;refine aS hx ?_;refine H ?_;rw[v2];refine cn 14 [37,38,39,40,41,42,43,44,45,46,47,48,49,50] ?_;refine aS hx ?_;refine aS hx ?_;refine H ?_;rw[v3];refine nR O O O u1 O O ?_;refine G g1 ?_;refine cn 14 [51,52,53,54,55,56,57,58,59,60,61,62,63,64] ?_;refine aS hx ?_;refine aS hx ?_;refine H ?_;rw[v4];refine nR O O O u2 O O ?_;refine G g2 ?_;refine H ?_;exact⟨k+1,hlt,J,O,O,O,O,O,congrArg I hw,O,O,O,O,trivial⟩
 .have hge:k=L.length:=by have:=aG h;omega
  clear h;subst hge;rw[List.take_length];clear sk hne zM zX zZ;rw[tv];generalize ofQ ((sX L:Rat)/(sM L:Rat))=QX at *
  generalize ofQ ((sZ L:Rat)/(sM L:Rat))=QZ at *
  refine H ?_;refine ca [] [4] 11 [11,12,13] aT aT ?_;refine G wM ?_;refine G dX ?_;refine G wM ?_;refine G dZ ?_;exact bV
set_option maxRecDepth 20000 in
theorem x5 (x y:RR){p q:Rat}{n m:Nat}(hx:Vq x p n)(hy:Vq y q m)(hn:n<=1000000)(hm:m<=1000000):Ret Tryz.prog .shared 195 [.sl ([x,y].map eR)] (.agg (eR (ofQ (p*q)))):=by
 have w1:=bZ 1 ⟨Y,Y⟩;have z1:Zb 1:=aK Y Y;have c1:=eW (ofQ ((1:Int):Rat)) x (hx:=Vq.ofQ (h:=HQ.int)) (hy:=hx) Y J;rw[show((1:Int):Rat)=1 from O,Rat.one_mul]at c1;rw[show((1:Int):Rat)=1 from O]at w1;have c2:=eW (ofQ p) y (hx:=Vq.ofQ (h:=hx.hq)) (hy:=hy) J J;have g0:([x,y]:List RR)[0]? = some x:=O;have g1:([x,y]:List RR)[1]? = some y:=O;generalize hl:[x,y]=l at *
 have hll:l.length=2:=by rw[<-hl];rfl
 have hml:((l.map eR).length:Int)=2:=by rw[<-hl];rfl
 generalize ofQ (p*q)=E at *
 generalize ofQ p=P at *
 generalize ofQ (1:Rat)=O0 at *
 clear hx hy hl;refine Ret.of_pwp layOk mixed Go.Proofs.Tryz.func195 O Y O O ?_;refine G w1 ?_;refine H ?_;rw[hml];refine ap (fun k:Nat=>k<=2) (fun k=>[(2,.ptr 2 1 0 0),(3,.ptr 3 1 0 0),(7,.sl (l.map eR)),(8,I 2),(9,I (k:Nat))]) (fun k=>[(2,1,⟨42,4,[zN],2⟩),(3,1,⟨42,4,[eR (if k=0 then O0 else if k=1 then P else E)],2⟩)]) (fun k=>2-k) 0 (Nat.zero_le _) ⟨O,O,O,O,O,O,O,trivial⟩ ?_;intro k s hk;refine D ?_ ?_<;>intro h
 .have hlt:k<2:=by have:=aC h;omega
  clear h
  match k,hlt with
  |0,_ =>
   refine H ?_;refine bE O O (jz (n:=((((0:Nat):Int)):Int)) O O O O O J g0 O) ?_;refine G c1 ?_;refine H ?_;exact⟨1,Y,Y,O,O,O,O,O,O,O,trivial⟩
  |1,_ =>
   refine H ?_;refine bE O O (jz (n:=((((1:Nat):Int)):Int)) O O O O O J g1 O) ?_;refine G c2 ?_;refine H ?_;exact⟨2,Y,Y,O,O,O,O,O,O,O,trivial⟩
 .have hge:k=2:=by have:=aG h;omega
  clear h;subst hge;exact bV
set_option maxRecDepth 20000 in
theorem AE (x:RR){p:Rat}{n:Nat}[hx:Vq x p n](hn:n<=1000)(d:Nat)(h1:1<=d)(h2:d<=1000000000):Ret Tryz.prog .shared 172 [.agg (eR x),I (d:Nat)] (.agg (eR (ofQ (p*((d:Rat)/1000000000))))):=by
 have zd:Zb (d:Int):=aK J J;have zb:Zb (1000000000:Int):=aK Y Y;have w1:=bZ (d:Int) ⟨J,J⟩;have w2:=bZ 1000000000 ⟨Y,Y⟩;have c1:=x5 x (ofQ ((d:Int):Rat)) hx (Vq.ofQ (h:=HQ.int)) J Y;have hp:HQ (p*((d:Int):Rat)) (n+1+4):=@HQ.mul _ _ (n+1) 4 hx.hq HQ.int;have c2:=i8 (ofQ (p*((d:Int):Rat))) (ofQ ((1000000000:Int):Rat)) (hx:=Vq.ofQ (h:=hp)) (hy:=Vq.ofQ (h:=HQ.int)) J Y aT;have e:p*((d:Int):Rat)/((1000000000:Int):Rat)=p*((d:Rat)/1000000000):=by
  rw[show((d:Int):Rat)=(d:Rat) from O,show((1000000000:Int):Rat)=1000000000 from O];grind
 rw[e]at c2;generalize ofQ (p*((d:Rat)/1000000000))=E at *
 generalize ofQ (p*((d:Int):Rat))=T at *
 generalize ofQ ((d:Int):Rat)=D0 at *
 generalize ofQ ((1000000000:Int):Rat)=B at *
 clear hx hp;obtain⟨⟨xn,xl⟩,⟨yn,yl⟩⟩:=x;refine Ret.of_pwp layOk mixed Go.Proofs.Tryz.func172 O Y O O ?_;refine H ?_;refine Ge ?_;iterate 3 all_goals ((first
  |refine jw (i:=0) aT rfl ?_
  |refine jw (i:=1) aT rfl ?_
  |refine jw (i:=2) aT rfl ?_
  |refine Dz (i:=0) (j:=1) aT rfl rfl ?_ ?_
  |refine Dz (i:=0) (j:=2) aT rfl rfl ?_ ?_)<;>(refine aO ?_;(first|refine fB rfl ?_ | (apply bE;exact rfl;exact rfl;exact KP rfl w1 rfl rfl));refine aY ?_))
 all_goals
  refine jw (i:=3) aT O ?_;refine aO ?_;refine aH (bx 1 O O O O O O O O O O O aI O ?_);refine aY ?_;refine jw (i:=4) aT O ?_;refine aV O (dD (Ghost.takeD (k:=8) (t:=8) O O O) ?_)
  (refine kj (dA O (c1) O ?_ O) ?_;.repeat' constructor)
  refine aO ?_;refine aY ?_;refine jw (i:=5) aT O ?_;refine aO ?_;refine nR O O O w2 O O ?_;refine aY ?_;refine jw (i:=6) aT O ?_;refine aO ?_;refine nR O O O c2 O O ?_;refine aY ?_;refine jw (i:=7) aT O ?_;refine aO ?_;refine fB O ?_;refine aY ?_;refine⟨by decide +kernel,cz ?_⟩;exact bV
end Go.Pv
namespace Go.Pv
open Go.RowKit
variable [Globs]
variable {s:St}
theorem Ghost.freezeD {k gk k0 g0 i j n sz:Nat}{T:TypeId}{rows:List (List PV)}{c0:Cont}{row:List PV}(hk:Nat.beq k0 k=false)(ho:s.own k=(gk,some ⟨T,sz,rows,1⟩))(h0:s.own k0=(g0,some c0))(hkind:c0.kind=2)(hrow:c0.rows[i]? = some row)(hj:row[j]? = some (.als k gk 0 n))(hz0:Nat.blt 0 c0.sz=true)(hn:n=rows.length) :
  Ghost s ((s.setOwn k (gk+1) none).setOwn k0 g0 (some ⟨c0.ty,c0.sz,c0.rows.set i (row.set j (.sl rows)),2⟩)):=by
 intro C a w hX ⟨γ,h⟩;subst hn;have hne:k0≠k:=fun e=>by subst e;simp at hk
 obtain⟨h1,hle,-⟩:=h.drop hX ho;have ho1:(s.setOwn k (gk+1) none).own k0=(g0,some c0):=by rw[aF hne];exact h0
 have hsite:=h.sites k0 c0 (by rw[h0]);have hlt:=(bb hrow).1;have hlt2:=(bb hj).1;have hfr:∀v,Rep (ao C γ s w) (.als k gk 0 rows.length) v->Rep (ao C γ (s.setOwn k (gk+1) none) w) (.sl rows) v:=by
  intro v hp;refine .d ?_;rcases h.als_at hp ho with⟨q1,_,q3,q4⟩|⟨b,cap,cur,q1,q2,q3,q4,q5,q6,q7⟩
  .have:rows=[]:=(h.sites k _ (by rw[ho])).emp q1;rw[this,q4];exact .sl0 _ _
  .obtain⟨cur',g1,g2,g3,g4,g5⟩:=h.site_at ho q1 (h.cells_sz ho q1 q3 q6);have hb:(ao C γ (s.setOwn k (gk+1) none) w).ok b:=by
    have hbase:=h.base k _ b (by rw[ho]) q1;refine⟨hbase.2,fun hx=>?_,fun k' c' hc' hb'=>?_⟩
    .have:=hX b hx;omega
    .by_cases hk':k'=k
     .subst hk';rw[ak]at hc';cases hc'
     .rw[aF hk']at hc';exact hk' (h.inj k' k c' _ b hc' (by rw[ho]) hb' q1)
   rw[q2];simp only[Nat.zero_mul];refine .sl rows b 0 cap sz (fun i j=>cur'.getD (i*sz+j) undef) hb g2 q4 g4 (fun i j row pv e1 e2=>?_) (fun i j row pv e1 e2=>?_)
   .obtain⟨u,f1,f2,_⟩:=g5 i j row pv e1 e2;have g1:w.heap[b]? = some (.cells cur' T (0,0)):=g1;show w.cell? _=_/\_;rw[bg g1,Nat.zero_add,f1];simp[f1,f2]
   .obtain⟨u,f1,_,f3⟩:=g5 i j row pv e1 e2;have hu:cur'.getD (i*sz+j) undef=u:=by simp[f1]
    simp only[hu];exact hle.drep f3
 have he:=lN (C:=C) (γ:=γ) (w:=w) (c1:=⟨c0.ty,c0.sz,c0.rows.set i (row.set j (.sl rows)),2⟩) ho1 O O ah;have hother:∀k',k'≠k0->((s.setOwn k (gk+1) none).setOwn k0 g0 (some ⟨c0.ty,c0.sz,c0.rows.set i (row.set j (.sl rows)),2⟩)).own k'=(s.setOwn k (gk+1) none).own k':=fun k' hk'=>aF hk';have hsome:∀k' c',(((s.setOwn k (gk+1) none).setOwn k0 g0 (some ⟨c0.ty,c0.sz,c0.rows.set i (row.set j (.sl rows)),2⟩)).own k').2=some c'->∃c'',((s.setOwn k (gk+1) none).own k').2=some c'':=by
  intro k' c' hc';by_cases hk':k'=k0
  .subst hk';exact⟨c0,by rw[ho1]⟩
  .rw[hother k' hk']at hc';exact⟨c',hc'⟩
 refine⟨γ,h1.defers,h1.size,fun r=>by rw[he];exact h1.regs r,fun k' c' hc'=>?_,fun k1 k2 c1 c2 b e1 e2 e3 e4=>?_,fun k' c' b e1 e2=>?_,h1.below,h1.top,fun c v hk=>by rw[he];exact h1.kept c v hk⟩
 .rw[he];by_cases hk':k'=k0
  .subst hk';rw[ak]at hc';have hc':=Option.some.inj hc';subst hc';have hz0:0<c0.sz:=by simpa using hz0
   refine⟨fun hb=>?_,(fun b _ hz=>by simp only at hz;omega),(fun b _ hz=>by simp only at hz;omega),fun b hb _=>?_⟩
   .have:=hsite.emp hb;rw[this]at hrow;simp at hrow
   .obtain⟨cur,f1,f2,f3,f4,f5⟩:=hsite.at_ b hb hz0;refine⟨cur,f1,f2,by simpa using f3,fun r hr=>?_,fun i' j' row1 pv1 e1 e2=>?_⟩
    .rcases List.mem_or_eq_of_mem_set hr with hr|rfl
     .exact f4 r hr
     .simpa using f4 row (bc hrow)
    .by_cases hi:i'=i
     .subst hi;rw[List.getElem?_set_self hlt]at e1;have e1:=Option.some.inj e1;subst e1;by_cases hjj:j'=j
      .subst hjj;rw[List.getElem?_set_self hlt2]at e2;have e2:=Option.some.inj e2;subst e2;obtain⟨v,u1,u2,u3⟩:=f5 i' j' row _ hrow hj;rw[hkind]at u3;exact⟨v,u1,u2,hfr v u3⟩
      .rw[List.getElem?_set_ne (Ne.symm hjj)]at e2;obtain⟨v,u1,u2,u3⟩:=f5 i' j' row pv1 hrow e2;rw[hkind]at u3;exact⟨v,u1,u2,Rep.mono hle u3⟩
     .rw[List.getElem?_set_ne (Ne.symm hi)]at e1;obtain⟨v,u1,u2,u3⟩:=f5 i' j' row1 pv1 e1 e2;rw[hkind]at u3;exact⟨v,u1,u2,Rep.mono hle u3⟩
  .rw[hother k' hk']at hc';exact h1.sites k' c' hc'
 .obtain⟨d,hd⟩:=hsome k1 c1 e1;obtain⟨d',hd'⟩:=hsome k2 c2 e2;exact h1.inj k1 k2 d d' b hd hd' e3 e4
 .obtain⟨d,hd⟩:=hsome k' c' e1;exact h1.base k' d b hd e2
end Go.Pv
set_option maxHeartbeats 2000000
namespace Go.Pv
attribute [local irreducible] PWP POps PQuiet PSem aw aq ai aj
open Go.Proofs
set_option maxRecDepth 20000 in
theorem oM (l:List Int)(hl:l.length<=1000000000):Ret Tryz.prog .fresh 171 [.sl (l.map eN)] (.sl (l.map eN)):=by
 refine Ret.of_pwp layOk mixed Go.Proofs.Tryz.func171 O Y O O ?_
 ((repeat ((fail_if_success (with_reducible refine aQ 1 ?_));refine cx O ?_));refine aM 1 ?_)
 refine fB O ?_;refine aY ?_;refine aV O (nc layOk O O O (fun h0=>?_) ?_)
 .rw[h0];refine aO ?_
  (repeat ((fail_if_success (with_reducible refine eY ?_));refine cx O ?_))
  refine aE (Ghost.nilfs (t:=2) O) ?_;refine H ?_;exact ue O O O trivial O
 .refine aO ?_;refine H ?_;refine aH (bx 0 O O O O O O O O O O O aI O ?_);refine H ?_;refine aH (bQ 1 O O O O O O O O O O O aI (by intro row hr;obtain⟨p,_,rfl⟩:=List.mem_map.1 hr;rfl) O O aU aU ?_)
  (repeat ((fail_if_success (with_reducible refine eY ?_));refine cx O ?_))
  refine aE (Ghost.takeF (k:=5) (t:=2) l O O O O (fun _=>rfl)) ?_;refine H ?_;exact ue O O O aI O
def ly (x:RR):RR:=ofQ x.val
def qp (x:SR):SR:=⟨x.x,ly x.c,⟨x.k.S,x.k.M.map ly⟩⟩
def Kv (ch:SR->SR)(b:BR):BR:=⟨b.w,ly b.a,b.l.map fun x=>ch (qp x)⟩
structure ChOk (f:FuncId) (caps:List PV) (ch:SR->SR) (x:SR):Prop where
 run:∀ {K:St->Prop} {s:St} {d g g4 g5 g400:Nat} {c4 c5 c400:Cont} {c a:Operand} {tys:Array TypeId} {ty:TypeId} {pos:String} {af:Array Edge},s.ev c = .clo f caps->s.ev a = .ptr 8 g 0 0 ->
 FitO s [(8,g,⟨136,7,[eS x],2⟩),(4,g4,c4),(5,g5,c5),(400,g400,c400)] ->
 (∀s1:St,K (({ reg:=s.reg,own:=(s1.over [] [(8,g,⟨136,7,[eS (ch x)],2⟩),(4,g4,c4),(5,g5,c5),(400,g400,c400)]).own }:St).putR d (.tup []))) ->
 Sm Tryz.prog lay.get s ⟨some d,.call ⟨.value c,#[a],tys⟩,ty,pos,af,none⟩ K
theorem FH (x:SR):ChOk 176 [] id x:=by
 constructor;intro K s d g g4 g5 g400 c4 c5 c400 c a tys ty pos af hc ha ho hK;refine bT layOk O hc Tryz.func176 O Y O O ?_;show PWP _ _ _ _ (bh s (([a]:List Operand).map s.ev++[]));have hk:=hK s;simp only[id_eq]at hk;rw[Fit.over (l:=[]) ho]at hk;refine H ?_;exact db O hk
theorem gW {α β:Type}{f:α->β}{l:List α}{k:Nat}{x:α}(h:l[k]? = some x):(l.take (k+1)).map f=(l.take k).map f++[f x]:=by rw[bC h,List.map_append];rfl
set_option maxRecDepth 20000 in
theorem wI (b:BR)(hb:b.Lim)(h12:b.l.length<=1000)(hM:∀s∈b.l,s.k.M.length<=1000)(cl:FuncId)(caps:List PV)(ch:SR->SR)(hch:∀s∈b.l,ChOk cl caps ch (qp s)) :
  Ret Tryz.prog .shared 175 [.agg (eB b),.clo cl caps] (.agg (eB (Kv ch b))):=by
 have h1:=FK b.a (hx:=hb.a.v) Y;have hml:(b.l.map eS).length=b.l.length:=ah;obtain⟨w,ba,l⟩:=b;simp only at *
 have hll:=hb.l.1;rw[show ofQ ba.val=ly ba from O]at h1;clear hb;generalize hG:(fun x=>ch (qp x))=G0;rw[Kv,hG];generalize ly ba=A0 at *
 refine Ret.of_pwp layOk mixed Go.Proofs.Tryz.func175 O Y O O ?_;refine H ?_;refine aZ 6 1 [11,12,13,14,15,16,5] [] aT O ?_;refine G h1 ?_;refine H ?_;refine aE (Ghost.nilcell (k:=400) (k0:=5) (i:=0) (j:=5) (row:=I w::(eR A0++[.nil])) 136 7 1 O O O O O O O) ?_;refine ap (fun i:Nat=>i<=l.length) (fun i=>[(1,.clo cl caps),(4,.ptr 4 1 0 0),(5,.ptr 5 1 0 0),(18,.sl (l.map eS)),(19,I l.length),(20,I (i:Nat))])
  (fun i=>[(4,1,⟨158,6,[I 0::(zN++[.nil])],2⟩),(5,1,⟨158,6,[I w::(eR A0++[.als 400 (1+i) 0 (((l.take i).map G0).map eS).length])],2⟩),(400,1+i,⟨136,7,((l.take i).map G0).map eS,1⟩)]) (fun i=>l.length-i) 0 (Nat.zero_le _) ⟨O,O,O,O,by rw[<-hml];rfl,O,O,O,O,trivial⟩ ?_
 intro i s hi;refine D ?_ ?_<;>intro h
 .have hlt:i<l.length:=by have:=aC h;omega
  clear h;obtain⟨x,hx⟩:=aJ hlt;have hxm:=bc hx;have hxl:=hll x hxm;have hcx:=hch x hxm;have hMx:=hM x hxm;have hrow:=gW (f:=G0) hx;have hil:((l.take i).map G0).length<=1000:=by rw[List.length_map,List.length_take];omega
  have hw:=fc i;have hGx:G0 x=ch (qp x):=by rw[<-hG]
  generalize G0 x=y at *
  generalize (l.take i).map G0=B at *
  have e1:=FK x.c (hx:=hxl.c.v) Y;rw[show ofQ x.c.val=ly x.c from O]at e1;have e2:=(oM x.k.S hxl.k.ls).shared_of_fresh;have e3:∀m∈x.k.M,Ret Tryz.prog .shared 233 [.agg (eR m)] (.agg (eR (ly m))):=fun m hm=>FK m (hx:=(hxl.k.m m hm).v) Y;have hmm:(x.k.M.map eR).length=x.k.M.length:=ah;obtain⟨xx,xc,xS,xM⟩:=x;simp only[qp]at *
  generalize ly xc=XC at *
  refine aS hx ?_
  (repeat ((fail_if_success (with_reducible refine aQ 5 ?_));refine cx O ?_))
  refine aE (fM 8) ?_;refine aZ 11 1 [24,25,26,27,28,29,30,31,32,33,34,8] [] aT O ?_;refine G e1 ?_;refine G e2 ?_;refine H ?_;refine bH [(1,.clo cl caps),(4,.ptr 4 1 0 0),(5,.ptr 5 1 0 0),(8,.ptr 8 ((s.own 8).1+2+1) 0 0),(18,.sl (l.map eS)),(19,I l.length),(20,I (i:Nat)),(37,.sl (xM.map eR)),(38,I (xM.map eR).length),(39,I ((0:Nat):Int))]
   [(4,1,⟨158,6,[I 0::(zN++[.nil])],2⟩),(5,1,⟨158,6,[I w::(eR A0++[.als 400 (1+i) 0 (B.map eS).length])],2⟩),(400,1+i,⟨136,7,B.map eS,1⟩),(8,(s.own 8).1+2+1,⟨136,7,[I xx::(eR XC++[.sl (xS.map eN),.nil])],2⟩)]
   ⟨O,O,O,O,O,O,O,O,O,O,O,O,O,O,trivial⟩ ?_
  generalize (s.own 8).1+2+1=g8;rw[hmm];intro s1;refine aE (Ghost.nilcell (k:=300) (k0:=8) (i:=0) (j:=6) (row:=I xx::(eR XC++[.sl (xS.map eN),.nil])) 42 4 1 O O O O O O O) ?_;have hg3:∃g3,(s1.own 300).1+1=g3:=⟨_,O⟩;obtain⟨g3,hg3⟩:=hg3;refine ap (fun k:Nat=>k<=xM.length) (fun k=>[(1,.clo cl caps),(4,.ptr 4 1 0 0),(5,.ptr 5 1 0 0),(8,.ptr 8 g8 0 0),(18,.sl (l.map eS)),(19,I l.length),(20,I (i:Nat)),(37,.sl (xM.map eR)),(38,I xM.length),(39,I (k:Nat))])
   (fun k=>[(4,1,⟨158,6,[I 0::(zN++[.nil])],2⟩),(5,1,⟨158,6,[I w::(eR A0++[.als 400 (1+i) 0 (B.map eS).length])],2⟩),(400,1+i,⟨136,7,B.map eS,1⟩),(8,g8,⟨136,7,[I xx::(eR XC++[.sl (xS.map eN),.als 300 (g3+k) 0 (((xM.take k).map ly).map eR).length])],2⟩),(300,g3+k,⟨42,4,((xM.take k).map ly).map eR,1⟩)]) (fun k=>xM.length-k) 0 (Nat.zero_le _)
   ⟨O,O,O,O,O,O,O,O,O,O,O,O,O,by rw[<-hg3];rfl,by rw[<-hg3];rfl,trivial⟩ ?_
  clear hg3;intro k s2 hk;refine D ?_ ?_<;>intro h
  .have hlk:k<xM.length:=by have:=aC h;omega
   clear h;obtain⟨m,hm⟩:=aJ hlk;have e4:=e3 m (bc hm);have hrk:=gW (f:=ly) hm;have hkl:((xM.take k).map ly).length<=1000:=by rw[List.length_map,List.length_take];omega
   have hwk:IntKind.i64.wrap (((k:Nat):Int)+1)=((k+1:Nat):Int):=by rw[wrap_i64 J J];omega
   generalize ly m=n at *
   generalize (xM.take k).map ly=E at *
   refine aS hm ?_
   (repeat ((fail_if_success (with_reducible refine aQ 9 ?_));refine cx O ?_))
   refine ca [48,300] [8] 9 [5,6,9] aT aT ?_;refine G e4 ?_;refine H ?_;refine qj O O O (bx 1 O O O O O O O O O O O aI O ⟨g_ O,?_⟩);refine H ?_;refine qj O O O (bQ 1 O O O O O O O O O O O aI (by intro row hr;first|(simp at hr;subst hr;rfl)|(simp at hr;obtain⟨_,_,rfl⟩:=hr;rfl)|simp at hr) O O aU aU ⟨g_ O,?_⟩);refine H ?_;have hb3:g3+(k+1)=g3+k+1:=O;refine⟨k+1,hlk,J,O,O,O,O,O,O,O,O,O,congrArg I hwk,O,O,O,?_,?_,trivial⟩
   .rw[hrk,hb3];refine Eq.trans (b:=(g8,some (Cont.mk 136 7 [I xx::(eR XC++[.sl (xS.map eN),.als 300 (g3+k+1) 0 (E.map eR++[eR n]).length])] 2))) O ?_;rw[show(E++[n]).map eR=E.map eR++[eR n] by rw[List.map_append];rfl]
   .rw[hrk,hb3,show(E++[n]).map eR=E.map eR++[eR n] by rw[List.map_append];rfl];rfl
  .have hke:k=xM.length:=by have:=aG h;omega
   clear h;subst hke;rw[List.take_length];refine aE (Ghost.freezeD (k:=300) (k0:=8) (i:=0) (j:=6) (row:=I xx::(eR XC++[.sl (xS.map eN),.als 300 (g3+xM.length) 0 ((xM.map ly).map eR).length])) O O O O O O O O) ?_
   ((repeat ((fail_if_success (with_reducible refine aQ 11 ?_));refine cx O ?_));refine aM 1 ?_)
   refine fB O ?_;refine aY ?_;refine aV O (hcx.run O O ⟨O,O,O,O,trivial⟩ fun s3=>?_);refine aO ?_;refine H ?_;refine aH (bx 1 O O O O O O O O O O O aI O ?_);refine H ?_;refine aH (bQ 1 O O O O O O O O O O O aI (by intro row hr;first|(simp at hr;subst hr;rfl)|simp at hr) O O aU aU ?_);refine H ?_;have hb4:1+(i+1)=1+i+1:=O;refine⟨i+1,hlt,J,O,O,O,O,O,congrArg I hw,O,?_,?_,trivial⟩
   .rw[hrow,hb4];refine Eq.trans (b:=(1,some (Cont.mk 158 6 [I w::(eR A0++[.als 400 (1+i+1) 0 (B.map eS++[eS y]).length])] 2))) ?_ ?_
    .rw[hGx];rfl
    .rw[show(B++[y]).map eS=B.map eS++[eS y] by rw[List.map_append];rfl]
   .rw[hrow,hb4,show(B++[y]).map eS=B.map eS++[eS y] by rw[List.map_append];rfl,hGx];rfl
 .have hie:i=l.length:=by have:=aG h;omega
  clear h;subst hie;rw[List.take_length];refine aE (Ghost.freezeD (k:=400) (k0:=5) (i:=0) (j:=5) (row:=I w::(eR A0++[.als 400 (1+l.length) 0 ((l.map G0).map eS).length])) O O O O O O O O) ?_;exact bV
structure StOk (t:ST):Prop where
 x : -1000000<=t.x/\t.x<=1000000
 w:1<=t.w/\t.w<=100000
 n:2<=t.L.length/\t.L.length<=30
 h:t.H0.length+1=t.L.length
 L:∀l∈t.L,0<=l/\l<=100000
 H0:∀h∈t.H0,0<=h/\h<=100000
 asc:∀i a b,t.L[i]? = some a->t.L[i+1]? = some b->a<b
theorem fh {n lo hi:Int}(h:aN n lo hi=true):lo<=n/\n<=hi:=by
 simp[aN]at h;exact h
theorem IV {t:ST}{u:Option ST}(h:lr t u=0):StOk t:=by
 have hp:=ze h;have hf:kq t=0:=by
  unfold lr at h;rw[if_pos hp]at h;split at h
  .exact h
  .split at h
   .exact h
   .contradiction
 obtain⟨p1,p2⟩:=xf hp;rw[kq]at hf;split at hf
 rotate_left
 .omega
 rename_i hn;obtain⟨n1,n2⟩:=kS hn.1;split at hf
 rotate_left
 .contradiction
 rename_i hl;have lv:∀i l,t.L[i]? = some l->aN l 0 100000=true/\¬(0<i/\l<=t.L.getD (i-1) 0):=fun i l hi=>by
  have:=lQ hl hi;rw[qw]at this;split at this
  .rename_i g;split at this
   .omega
   .rename_i g2;exact⟨g,g2⟩
  .omega
 refine⟨p1,p2,⟨n1,n2⟩,J,fun l hm=>?_,fun x hm=>?_,fun i a b ha hb=>?_⟩
 .obtain⟨i,hi⟩:=List.mem_iff_getElem?.1 hm;exact fh (lv i l hi).1
 .obtain⟨i,hi⟩:=List.mem_iff_getElem?.1 hm;have:=lQ hf hi;rw[BP]at this;split at this
  .rename_i g;exact fh g
  .omega
 .have h2:=(lv (i+1) b hb).2;rw[Nat.add_sub_cancel,List.getD_eq_getElem?_getD,ha]at h2;have h2:¬(0<i+1/\b<=a):=h2;omega
def Bh (d:Nat)(w h:Int):RR:=ofQ (((2*h*w:Int):Rat)*((d:Rat)/1000000000))
def ol (d:Nat)(t:ST):List RR:=t.H0.map (Bh d t.w)++[ofQ 0]
def eG (d:Nat)(t:ST):SR:=⟨t.x,ofQ 0,⟨t.L,ol d t⟩⟩
def dq (d:Nat)(l:List ST):List SR:=l.map (eG d)
theorem EF {d:Nat}{l:List ST}{k:Nat}{t:ST}(h:l[k]? = some t):(dq d (l.take (k+1))).map eS=(dq d (l.take k)).map eS++[eS (eG d t)]:=by rw[bC h,dq,dq,List.map_append,List.map_append];rfl
theorem zy {h w:Int}(a:0<=h/\h<=100000)(b:1<=w/\w<=100000):0<=2*h*w/\2*h*w<=20000000000:=by
 have h1:2*h*w<=2*h*100000:=Int.mul_le_mul_of_nonneg_left b.2 J;have h2:0<=2*h*w:=Int.mul_nonneg J J;omega
set_option maxRecDepth 20000 in
theorem nK (s:SHP)(hs:s.Len)(d:Nat)(he:i_ s (d:Int)=0)(hd1:1<=d)(hd2:d<=1000000000)(hk:∀t∈s.st,StOk t)(h40:s.st.length<=40):Ret Tryz.prog .shared 94 [.agg (fF s),I (d:Nat)] (.tup [.sl ((dq d s.st).map eS),I 0]):=by
 have h1:=ny s hs (d:Int);rw[he]at h1;have w0:=bZ 0 ⟨Y,Y⟩;rw[show(((0:Int):Rat))=0 from O]at w0;have hml:((s.st.map eT).length:Int)=s.st.length:=ah;obtain⟨nm,len,st,light,it⟩:=s;simp only at *
 clear he hs;refine Ret.of_pwp layOk mixed Go.Proofs.Tryz.func94 O Y O O ?_;refine ar h1 ?_
 (repeat ((fail_if_success (with_reducible refine aQ 5 ?_));refine cx O ?_))
 refine aE (Ghost.nilreg (k:=1007) (t:=7) 136 7 1 O O) ?_;refine H ?_;rw[hml];refine ap (fun i:Nat=>i<=st.length) (fun i=>[(1,I (d:Nat)),(2,.ptr 2 1 0 0),(7,.als 1007 (1+i) 0 ((dq d (st.take i)).map eS).length),(20,.sl (st.map eT)),(21,I st.length),(22,I (i:Nat))]) (fun i=>[(2,1,⟨27,9,[fF ⟨nm,len,st,light,it⟩],2⟩),(1007,1+i,⟨136,7,(dq d (st.take i)).map eS,1⟩)]) (fun i=>st.length-i) 0 (Nat.zero_le _) ⟨O,O,O,O,O,O,O,O,trivial⟩ ?_;intro i s hi;refine D ?_ ?_<;>intro h
 .have hlt:i<st.length:=by have:=aC h;omega
  clear h;obtain⟨t,hx⟩:=aJ hlt;have ok:=hk t (bc hx);have hsn:=EF (d:=d) hx;have hsl:(dq d (st.take i)).length<=40:=by rw[dq,List.length_map,List.length_take];omega
  have hw:=fc i;have e2:=(oM t.L (by have:=ok.n;omega)).shared_of_fresh;have hmh:((t.H0.map eN).length:Int)=t.H0.length:=ah;have hn:=ok.n;have hh:=ok.h;generalize hS:dq d (st.take i)=S at *
  obtain⟨tx,tw,tL,tH⟩:=t;simp only at *
  refine aS hx ?_;refine G e2 ?_;refine H ?_;rw[hmh];refine bH [(1,I (d:Nat)),(2,.ptr 2 1 0 0),(7,.als 1007 (1+i) 0 (S.map eS).length),(9,.ptr 9 ((s.own 9).1+1) 0 0),(10,.ptr 10 ((s.own 10).1+1) 0 0),(20,.sl (st.map eT)),(21,I st.length),(22,I (i:Nat)),(31,.sl (tH.map eN)),(32,I tH.length),(33,I ((0:Nat):Int))] [(2,1,⟨27,9,[fF ⟨nm,len,st,light,it⟩],2⟩),(1007,1+i,⟨136,7,S.map eS,1⟩),(9,(s.own 9).1+1,⟨130,4,[eT ⟨tx,tw,tL,tH⟩],2⟩),(10,(s.own 10).1+1,⟨134,2,[[.sl (tL.map eN),.nil]],2⟩)] ⟨O,O,O,O,O,O,O,O,O,O,O,O,O,O,O,trivial⟩ ?_;generalize (s.own 9).1+1=g9;generalize (s.own 10).1+1=g10;intro s1;refine aE (Ghost.nilcell (k:=300) (k0:=10) (i:=0) (j:=1) (row:=[.sl (tL.map eN),.nil]) 42 4 1 O O O O O O O) ?_;have hg3:∃g3,(s1.own 300).1+1=g3:=⟨_,O⟩;obtain⟨g3,hg3⟩:=hg3;refine ap (fun k:Nat=>k<=tH.length) (fun k=>[(1,I (d:Nat)),(2,.ptr 2 1 0 0),(7,.als 1007 (1+i) 0 (S.map eS).length),(9,.ptr 9 g9 0 0),(10,.ptr 10 g10 0 0),(20,.sl (st.map eT)),(21,I st.length),(22,I (i:Nat)),(31,.sl (tH.map eN)),(32,I tH.length),(33,I (k:Nat))])
   (fun k=>[(2,1,⟨27,9,[fF ⟨nm,len,st,light,it⟩],2⟩),(1007,1+i,⟨136,7,S.map eS,1⟩),(9,g9,⟨130,4,[eT ⟨tx,tw,tL,tH⟩],2⟩),(10,g10,⟨134,2,[[.sl (tL.map eN),.als 300 (g3+k) 0 (((tH.take k).map (Bh d tw)).map eR).length]],2⟩),(300,g3+k,⟨42,4,((tH.take k).map (Bh d tw)).map eR,1⟩)]) (fun k=>tH.length-k) 0 (Nat.zero_le _)
   ⟨O,O,O,O,O,O,O,O,O,O,O,O,O,O,by rw[<-hg3];rfl,by rw[<-hg3];rfl,trivial⟩ ?_
  clear hg3;intro k s2 hkl;refine D ?_ ?_<;>intro h
  .have hlk:k<tH.length:=by have:=aC h;omega
   clear h;obtain⟨x,hm⟩:=aJ hlk;have hxl:=ok.H0 x (bc hm);have hvl:0<=2*x*tw/\2*x*tw<=20000000000:=zy hxl ok.w;obtain⟨v1,v2⟩:=hvl;have zv:Zb (2*x*tw):=aK J J;have u1:=bZ (2*x*tw) ⟨J,J⟩;have u2:=AE (ofQ ((2*x*tw:Int):Rat)) (hx:=Vq.ofQ (h:=HQ.int)) Y d hd1 hd2;rw[show ofQ (((2*x*tw:Int):Rat)*((d:Rat)/1000000000))=Bh d tw x from O]at u2;have q1:IntKind.i64.wrap (2*x)=2*x:=wrap_i64 J J;have q2:IntKind.i64.wrap (2*x*tw)=2*x*tw:=wrap_i64 J J;have hrk:=gW (f:=Bh d tw) hm;have hkl2:((tH.take k).map (Bh d tw)).length<=1000:=by rw[List.length_map,List.length_take];omega
   have hwk:IntKind.i64.wrap (((k:Nat):Int)+1)=((k+1:Nat):Int):=by rw[wrap_i64 J J];omega
   generalize Bh d tw x=n at *
   generalize (tH.take k).map (Bh d tw)=E at *
   refine aS hm ?_
   (repeat ((fail_if_success (with_reducible refine aQ 12 ?_));refine cx O ?_))
   refine ca [47,300] [10] 13 [10,11,13] aT aT ?_;refine H ?_;rw[q1];refine H ?_;rw[q2];refine nR O O O u1 O O ?_;refine G u2 ?_;refine H ?_;refine qj O O O (bx 1 O O O O O O O O O O O aI O ⟨g_ O,?_⟩);refine H ?_;refine qj O O O (bQ 1 O O O O O O O O O O O aI (by intro row hr;first|(simp at hr;subst hr;rfl)|(simp at hr;obtain⟨_,_,rfl⟩:=hr;rfl)|simp at hr) O O aU aU ⟨g_ O,?_⟩);refine H ?_;have hb3:g3+(k+1)=g3+k+1:=O;refine⟨k+1,hlk,J,O,O,O,O,O,O,O,O,O,O,congrArg I hwk,O,O,O,?_,?_,trivial⟩
   .rw[hrk,hb3,show(E++[n]).map eR=E.map eR++[eR n] by rw[List.map_append];rfl];rfl
   .rw[hrk,hb3,show(E++[n]).map eR=E.map eR++[eR n] by rw[List.map_append];rfl];rfl
  .have hke:k=tH.length:=by have:=aG h;omega
   clear h;subst hke;rw[List.take_length];have hsr:ol d ⟨tx,tw,tL,tH⟩=tH.map (Bh d tw)++[ofQ 0]:=O;have hslen:(tH.map (Bh d tw)).length<=1000:=by rw[List.length_map];omega
   generalize tH.map (Bh d tw)=E at *
   (repeat ((fail_if_success (with_reducible refine aQ 14 ?_));refine cx O ?_))
   refine ca [54,300] [10] 6 [3,4,6] aT aT ?_;refine G w0 ?_;refine H ?_;refine qj O O O (bx 1 O O O O O O O O O O O aI O ⟨g_ O,?_⟩);refine H ?_;refine qj O O O (bQ 1 O O O O O O O O O O O aI (by intro row hr;first|(simp at hr;subst hr;rfl)|(simp at hr;obtain⟨_,_,rfl⟩:=hr;rfl)|simp at hr) O O aU aU ⟨g_ O,?_⟩)
   (repeat ((fail_if_success (with_reducible refine aQ 15 ?_));refine cx O ?_))
   refine aE (Ghost.freezeD (k:=300) (k0:=10) (i:=0) (j:=1) (row:=[.sl (tL.map eN),.als 300 (g3+tH.length+1) 0 (E.map eR++[eR (ofQ 0)]).length]) O O O O O O O O) ?_;refine bS [63,1007] [6,7,8] aT ?_;refine G w0 ?_;refine H ?_;refine qj O O O (bx 1 O O O O O O O O O O O aI O ⟨g_ O,?_⟩);refine H ?_;refine qj O O O (bQ 1 O O O O O O O O O O O aI (by intro row hr;first|(simp at hr;subst hr;rfl)|(simp at hr;obtain⟨_,_,rfl⟩:=hr;rfl)|simp at hr) O O aU aU ⟨g_ O,?_⟩);refine H ?_;have hrow:(dq d (st.take (i+1))).map eS=S.map eS++[[I tx]++eR (ofQ 0)++[.sl (tL.map eN),.sl (E.map eR++[eR (ofQ 0)])]]:=by
    rw[hsn,eG,hsr,show(eS ⟨tx,ofQ 0,⟨tL,E++[ofQ 0]⟩⟩)=[I tx]++eR (ofQ 0)++[.sl (tL.map eN),.sl ((E++[ofQ 0]).map eR)] from O,List.map_append];rfl
   refine⟨i+1,hlt,J,O,O,?_,O,O,congrArg I hw,O,?_,trivial⟩
   .rw[hrow];rfl
   .rw[hrow];rfl
 .have hie:i=st.length:=by have:=aG h;omega
  clear h;subst hie;rw[List.take_length]
  (repeat ((fail_if_success (with_reducible refine eY ?_));refine cx O ?_))
  refine aE (Ghost.takeD (k:=1007) (t:=4) O O O) ?_;exact bV
theorem Ei (d:Nat)(t:ST):(ol d t).length=t.H0.length+1:=by simp[ol]
def zB:List PV:=I 0::(zN++[.nil])
def tP:BR:=⟨0,RR.zero,[]⟩
theorem WeakL.app {a b c d:List PV}(h1:WeakL a b)(h2:WeakL c d):WeakL (a++c) (b++d):=by
 induction h1 with
 |nil=>exact h2
 |cons h _ ih=>exact .cons h ih
theorem Hc:WeakL zB (eB tP) := .cons (.rfl _) (cK.app (.cons .nil .nil))
set_option maxRecDepth 20000 in
theorem tU (b:BR)(hb:b.Lim):Ret Tryz.prog .shared 174 [.agg (eB b)] (.tup [.agg (eB (if ci b=0 then b else tP)),I (ci b)]):=by
 have h1:=dP b hb;by_cases h0:ci b=0
 .rw[if_pos h0,h0];rw[h0]at h1;refine Ret.of_pwp layOk mixed Go.Proofs.Tryz.func174 O Y O O ?_;refine ar h1 ?_;exact bV
 .rw[if_neg h0]
  suffices hz:Ret Tryz.prog .shared 174 [.agg (eB b)] (.tup [.agg zB,I (ci b)]) from hz.weak (WeakL.refl _) (WeakL.tup (.cons Hc.agg (WeakL.refl _)))
  generalize ci b=e at *
  refine Ret.of_pwp layOk mixed Go.Proofs.Tryz.func174 O Y O O ?_;refine ar h1 ?_;refine D ?_ ?_<;>intro h
  .clear h;exact bV
  .simp at h;exact absurd h h0
def qX (s:SHP):Rat:=(sX (s.light::s.it):Rat)/(sM (s.light::s.it):Rat)
def wB (s:SHP)(l:List SR):BR:=⟨sM (s.light::s.it),ofQ (qX s),l⟩
def pB (s:SHP)(l:List SR):BR:=⟨sM (s.light::s.it),ofQ (qX s),l.map qp⟩
theorem jr (p:Rat):ly (ofQ p)=ofQ p:=by rw[ly,ofQ_val]
theorem Jt (s:SHP)(l:List SR):Kv id (wB s l)=pB s l:=by
 rw[Kv,pB];show(⟨sM (s.light::s.it),ly (ofQ (qX s)),l.map fun x=>id (qp x)⟩:BR)=_;rw[jr];rfl
theorem pp {s:SHP}(h:ShipOk s):1<=sM (s.light::s.it)/\sM (s.light::s.it)<=61000000000/\hq (qX s) 4:=by
 obtain⟨⟨a1,a2⟩,-,⟨a3,a4⟩,-⟩:=gS h.ld;have hn:((s.light::s.it).length:Int)<=61:=by have:=h.n;simp;omega
 have h1:=h.m;refine⟨h1,J,gc J ?_ ?_⟩
 .rw[show 65536^4=18446744073709551616 by decide];omega
 .rw[show 65536^4=18446744073709551616 by decide];omega
set_option maxRecDepth 20000 in
theorem wg (s:SHP)(hs:s.Len)(he:fN s=0)(l:List SR)(hb:(wB s l).Lim)(hp:(pB s l).Lim)(h12:l.length<=1000)(hM:∀x∈l,x.k.M.length<=1000):Ret Tryz.prog .shared 95 [.agg (fF s),.sl (l.map eS)] (.tup [.agg (eB (if ci (pB s l)=0 then pB s l else tP)),I (ci (pB s l))]):=by
 have h1:=AB s hs he;have h2:=wI (wB s l) hb h12 hM 176 [] id (fun x _=>FH (qp x));rw[Jt]at h2;have h3:=tU (pB s l) hp;have ew:eB (wB s l)=I (sM (s.light::s.it))::(eR (ofQ (qX s))++[.sl (l.map eS)]):=O;rw[ew]at h2;rw[tv,show(sX (s.light::s.it):Rat)/(sM (s.light::s.it):Rat)=qX s from O]at h1;generalize ofQ ((sZ (s.light::s.it):Rat)/(sM (s.light::s.it):Rat))=QZ at *
 generalize ci (pB s l)=e at *
 generalize hX:(if e=0 then pB s l else tP)=X at *
 generalize pB s l=c at *
 generalize ofQ (qX s)=QX at *
 generalize sM (s.light::s.it)=m at *
 generalize sF (s.light::s.it)=f at *
 clear hb hp;refine Ret.of_pwp layOk mixed Go.Proofs.Tryz.func95 O Y O O ?_;refine G h1 ?_;refine G h2 ?_;refine G h3 ?_;exact bV
structure BKR where
 x:Int
 z:Int
 hf:Int
 ht:Int
 wd:Int
 st:RR
 lim:Int
 side:Bool
structure ZNR where
 nm:Str
 a:Int
 b:Int
 h:Int
structure DKR where
 s:SHP
 d:Int
 bl:List BKR
 zn:List ZNR
 gm:Int
 oh:Int
def j_ (b:BKR):List PV:=[I b.x,I b.z,I b.hf,I b.ht,I b.wd]++eR b.st++[I b.lim,.bool b.side]
def oS (z:ZNR):List PV:=[.str z.nm,I z.a,I z.b,I z.h]
def fS (d:DKR):List PV:=fF d.s++[I d.d,.sl (d.bl.map j_),.sl (d.zn.map oS),I d.gm,I d.oh]
structure DKR.Len (d:DKR):Prop where
 s:d.s.Len
 bl:d.bl.length<=9223372036854775807
 zn:d.zn.length<=9223372036854775807
def x_ (l:List ZNR)(i:Nat)(z:ZNR):Int:=if di z.nm=true then(if (l.take i).any (fun y=>decide (y.nm=z.nm))=true then 5 else if (aN z.a (-1000000) 1000000&&aN z.b (-1000000) 1000000&&decide (z.a<=z.b)&&aN z.h 0 100000)=true then 0 else 2) else 4
def ie (l:List ZNR):Int:=if 20<l.length then 8 else fT l (x_ l)
def jn (L:List Int)(z:Int):List Int->Nat->Option Int
 |[],_=>none
 |h::H0,k=>if z<h then some (L.getD k 0) else jn L z H0 (k+1)
def wb (x:Int)(t:ST):Bool:=decide (2*t.x-t.w<=2*x)&&decide (2*x<2*t.x+t.w)
def fg (x z:Int):List ST->Option Int
 |[]=>none
 |t::l=>if wb x t=true then(match jn t.L z t.H0 0 with
  |some n=>some n
  |none=>fg x z l) else fg x z l
def FT (b:BKR):Bool:=aN b.x (-1000000) 1000000&&aN b.hf 1 10000&&aN b.ht 0 100000&&aN b.wd 1 20000&&aN b.lim 0 1000000000&&decide (0<b.st.val)
def qA (b:BKR):Bool:=FT b&&(if b.side then aN b.z 1 100000&&decide (b.wd<=2*b.z) else decide (b.z=0))
def nM (b:BKR)(z:ZNR):Bool:=decide (b.x-b.hf<z.b)&&decide (z.a<b.x+b.hf)&&decide (2*b.z-b.wd<2*z.h)
def lL (a b:Int):Int:=if a-b<b-a then b-a else a-b
def mE (b c:BKR):Bool:=decide (lL b.x c.x<b.hf+c.hf)&&decide (2*lL b.z c.z<b.wd+c.wd)
def lD (st:List ST)(zn:List ZNR)(l:List BKR)(i:Nat)(b:BKR):Int :=
 if qA b=true then(if (fg b.x b.z st).isSome=true then(if zn.any (nM b)=true then 15 else if (l.take i).any (mE b)=true then 17 else 0) else 6) else 2
def qN (st:List ST)(zn:List ZNR)(l:List BKR):Int:=if 40<l.length then 8 else fT l (lD st zn l)
def wr (d:DKR):Int :=
 if i_ d.s d.d=0 then(if ie d.zn=0 then(if qN d.s.st d.zn d.bl=0 then(if (aN d.gm (-100000) 100000&&aN d.oh 0 1000000)=true then 0 else 2) else qN d.s.st d.zn d.bl) else ie d.zn) else i_ d.s d.d
theorem wT {L:List Int}{z:Int}{H0:List Int}{k:Nat}{h:Int}(hx:H0[k]? = some h):jn L z (H0.drop k) k=if z<h then some (L.getD k 0) else jn L z (H0.drop (k+1)) (k+1):=by
 obtain⟨hl,rfl⟩:=bb hx;rw[List.drop_eq_getElem_cons hl,jn]
theorem zW {x z:Int}{l:List ST}{k:Nat}{t:ST}(hx:l[k]? = some t):fg x z (l.drop k)=if wb x t=true then(match jn t.L z t.H0 0 with
  |some n=>some n
  |none=>fg x z (l.drop (k+1))) else fg x z (l.drop (k+1)):=by
 obtain⟨hl,rfl⟩:=bb hx;rw[List.drop_eq_getElem_cons hl,fg]
def other (c:UInt8):Bool:=(decide (48<=(c.toNat:Int))&&decide ((c.toNat:Int)<=57))||decide ((c.toNat:Int)=45)
theorem cf (n lo hi:Int):Ret Tryz.prog .shared 67 [I n,I lo,I hi] (.bool (!aN n lo hi)):=by
 refine Ret.of_pwp layOk mixed Go.Proofs.Tryz.func67 O Y O O ?_;refine dE ?_ ?_<;>intro h
 .have h1:=aC h;refine H ?_;exact fe O O (by simp[aN];omega)
 .have h1:=aG h;refine H ?_;exact fe O O (by rw[aN,decide_eq_true (show lo<=n by omega),Bool.true_and,<-decide_not];exact congrArg PV.bool (decide_eq_decide.2 J))
theorem AK (l:Str):Ret Tryz.prog .shared 129 [.str l] (.bool (di l)):=by
 refine Ret.of_pwp layOk mixed Go.Proofs.Tryz.func129 O Y O O ?_
 repeat' (first|refine fB O ?_|refine dy O O (fun h=>?_) (fun h=>?_)|refine dx O O (fun h=>?_) (fun h=>?_)|refine dw O O (fun h=>?_) (fun h=>?_))
 .have h0:l=[]:=by simpa using h
  subst h0;exact gV
 have h1:1<=l.length:=by
  have h0:l≠[]:=by simpa using h
  have:=List.length_pos_iff.2 h0;omega
 refine D ?_ ?_<;>intro h
 .have:=aC h;refine H ?_;exact fe O O (by simp[di];omega)
 have h2:=aG h;refine H ?_;refine ap (ClearE l r7) (fun k=>[(0,.str l),(15,I l.length),(16,I k)]) (fun _=>[]) (fun k=>l.length-k) 0 .zero' ⟨O,O,O,trivial⟩ ?_;intro k s hk;refine D ?_ ?_<;>intro h
 .have hlt:k<l.length:=by simpa using h
  obtain⟨x,hx⟩:=aJ hlt;have hget:l.getD k 0=x:=by rw[List.getD_eq_getElem?_getD,hx];rfl
  refine H ?_;refine jb O ⟨J,J⟩ ?_;have hn:((l.getD (Int.toNat (k:Int)) 0).toNat:Int)=x.toNat:=by rw[Int.toNat_natCast,hget]
  rw[hn];have hkb:k<12:=J;clear h hn h1 h2;refine jb O trivial ?_
  ((repeat (first|refine aY ?_ | refine cE ?_ | refine cz ?_ | refine cB ?_));refine bq ?_)
  refine mR 100 [(0,.str l),(3,I k),(4,.int .u8 x.toNat),(5,.bool (mK x)),(15,I l.length),(16,I k)] [] ?_ ?_
  .repeat' (first|refine fB O ?_|refine dy O O (fun h=>?_) (fun h=>?_)|refine dx O O (fun h=>?_) (fun h=>?_)|refine dw O O (fun h=>?_) (fun h=>?_))
   all_goals exact⟨O,O,O,(congrArg PV.bool (by simp_all [mK]<;>omega)),O,O,trivial⟩
  intro s
  ((repeat (first|refine aY ?_ | refine cE ?_ | refine cz ?_ | refine cB ?_));refine bq ?_)
  refine mR 101 [(0,.str l),(3,I k),(5,.bool (mK x)),(6,.bool (other x)),(15,I l.length),(16,I k)] [] ?_ ?_
  .repeat' (first|refine fB O ?_|refine dy O O (fun h=>?_) (fun h=>?_)|refine dx O O (fun h=>?_) (fun h=>?_)|refine dw O O (fun h=>?_) (fun h=>?_))
   all_goals exact⟨O,O,O,(congrArg PV.bool (by simp_all [other]<;>omega)),O,O,trivial⟩
  intro s
  repeat' (first|refine fB O ?_|refine dy O O (fun h=>?_) (fun h=>?_)|refine dx O O (fun h=>?_) (fun h=>?_)|refine dw O O (fun h=>?_) (fun h=>?_))
  all_goals try (refine bP O (fun hc=>?_) (fun hc=>?_))
  all_goals repeat refine fB O ?_
  all_goals first
   |(
    refine fe O O ?_;have hb:r7 k x=1:=by simp_all [r7,B9,other]<;>omega
    have:=hk.found hx hb J
    simp[di,this])
   |(
    refine⟨k+1,hk.succ hx (by simp_all [r7,B9,other]<;>omega),J,O,O,?_,trivial⟩
    exact cg J J)
 .refine H ?_;exact fe O O (by simp only[di,hk.none (by simpa using h)];simp;omega)
theorem lx (z:Int)(h:i64 z):Ret Tryz.prog .shared 106 [I z] (.agg (eR (ofQ (z:Rat)))):=by
 have ho:=sP z h.1 h.2;have hw:=j8 (cw z) (by have:=ju (z:=z) (by obtain⟨h1,h2⟩:=h;omega);omega);rw[cm]at hw;generalize ofQ (z:Rat)=X at *
 generalize cw z=Z at *
 refine Ret.of_pwp layOk mixed Go.Proofs.Tryz.func106 O Y O O ?_;refine G ho ?_;refine G hw ?_;exact bV
theorem vJ (x:RR){p:Rat}{n:Nat}[hx:Vq x p n](hn:n<=8000000):Ret Tryz.prog .shared 137 [.agg (eR x)] (I (sgn p)):=by
 have hc:=i9 x RR.zero hn Y;rw[Rat.sub_eq_add_neg,Rat.neg_zero,Rat.add_zero]at hc;have hc2:=hc.weak (.cons (.rfl _) (.cons cK.agg .nil)) (.rfl _);generalize sgn p=g at *
 refine Ret.of_pwp layOk mixed Go.Proofs.Tryz.func137 O Y O O ?_;refine ar hc2 ?_;exact cp
def pd (p:ZNR->Bool):List ZNR->Nat->Int
 |[],_ => -1
 |d::l,i=>if p d=true then(i:Int) else pd p l (i+1)
theorem uq (p:ZNR->Bool):∀(l:List ZNR) (i:Nat),decide (0<=pd p l i)=l.any p
 |[],i=>rfl
 |d::l,i=>by
  rw[pd,List.any_cons];cases h:p d
  .rw[if_neg Y,uq p l (i+1),Bool.false_or]
  .rw[if_pos O,Bool.true_or,decide_eq_true];omega
theorem Ao (p:ZNR->Bool){l:List ZNR}{i:Nat}{x:ZNR}(h:l[i]? = some x):pd p (l.drop i) i=if p x=true then(i:Int) else pd p (l.drop (i+1)) (i+1):=by
 obtain⟨hl,rfl⟩:=bb h;rw[List.drop_eq_getElem_cons hl,pd]
theorem BK (y z:ZNR):Ret Tryz.prog .shared 131 [.agg (oS y),.dref (oS z) 0] (.bool (decide (y.nm=z.nm))):=by
 refine Ret.of_pwp layOk mixed Go.Proofs.Tryz.func131 O Y O O ?_;exact gV
set_option maxRecDepth 20000 in
theorem x9 (T:List ZNR)(hT:T.length<=1000)(z:ZNR):Ret Tryz.prog .shared 192 [.sl (T.map oS),.clo 131 [.dref (oS z) 0]] (I (pd (fun y=>decide (y.nm=z.nm)) T 0)):=by
 have hml:(T.map oS).length=T.length:=ah;generalize hp:(fun y:ZNR=>decide (y.nm=z.nm))=p;have hg:∀d:ZNR,Ret Tryz.prog .shared 131 [.agg (oS d),.dref (oS z) 0] (.bool (p d)):=fun d=>by rw[<-hp];exact BK d z
 clear hp;generalize hF:pd p T 0=F;refine Ret.of_pwp layOk mixed Go.Proofs.Tryz.func192 O Y O O ?_;refine H ?_;refine ap (fun i:Nat=>i<=T.length/\pd p (T.drop i) i=F) (fun i=>[(0,.sl (T.map oS)),(1,.clo 131 [.dref (oS z) 0]),(7,I T.length),(8,I (i:Nat))])
  (fun _=>[]) (fun i=>T.length-i) 0 ⟨Nat.zero_le _,by rw[List.drop_zero];exact hF⟩ ⟨O,O,by rw[<-hml];rfl,O,trivial⟩ ?_
 intro i s ⟨hi,hall⟩;refine D ?_ ?_<;>intro h
 .have hlt:i<T.length:=by have:=aC h;omega
  clear h;obtain⟨x,hx⟩:=aJ hlt;have hgx:=hg x;have hw:=fc i;rw[Ao p hx]at hall;cases hp:p x with
  |true =>
   rw[hp]at hgx;rw[if_pos hp]at hall;refine aS hx ?_;refine ar hgx ?_;refine H ?_;exact nu O O (by rw[<-hall])
  |false =>
   rw[hp]at hgx;rw[if_neg (by rw[hp];decide)]at hall;refine aS hx ?_;refine ar hgx ?_;refine H ?_;exact⟨i+1,⟨J,hall⟩,J,O,O,O,congrArg I hw,trivial⟩
 .have hie:i=T.length:=by have:=aG h;omega
  clear h;rw[hie,List.drop_length,pd]at hall;rw[<-hall];exact cp
theorem BG (T:List ZNR)(hT:T.length<=1000)(z:ZNR):Ret Tryz.prog .shared 130 [.sl (T.map oS),.clo 131 [.dref (oS z) 0]] (.bool (T.any fun y=>decide (y.nm=z.nm))):=by
 have h1:=x9 T hT z;rw[<-uq (fun y=>decide (y.nm=z.nm)) T 0];generalize pd (fun y=>decide (y.nm=z.nm)) T 0=F at *
 refine Ret.of_pwp layOk mixed Go.Proofs.Tryz.func130 O Y O O ?_;refine ar h1 ?_;exact gV
set_option maxRecDepth 20000 in
theorem BJ (l:List ZNR)(hl:l.length<=9223372036854775807):Ret Tryz.prog .shared 68 [.sl (l.map oS)] (I (ie l)):=by
 have hml:(l.map oS).length=l.length:=ah;generalize hf:ie l=E;rw[ie]at hf;refine Ret.of_pwp layOk mixed Go.Proofs.Tryz.func68 O Y O O ?_;refine H ?_;rw[hml];refine bP O ?_ ?_<;>intro h
 .rw[if_pos (by have:=aC h;omega)]at hf;subst hf;exact cp
 have h20:¬20<l.length:=by have:=aG h;omega
 clear h;rw[if_neg h20]at hf;refine H ?_;rw[hml];refine ap (ClearE l (x_ l)) (fun k=>[(0,.sl (l.map oS)),(8,.sl (l.map oS)),(9,I l.length),(10,I (k:Nat))]) (fun _=>[]) (fun k=>l.length-k) 0 .zero' ⟨O,O,O,O,trivial⟩ ?_;intro k s hk;have hkl:=hk.1;refine D ?_ ?_<;>intro h
 .have hlt:k<l.length:=by have:=aC h;omega
  clear h;obtain⟨z,hx⟩:=aJ hlt;have n0:=AK z.nm;have c0:=BG (l.take k) (by rw[List.length_take];omega) z;have o1:=cf z.a (-1000000) 1000000;have o2:=cf z.b (-1000000) 1000000;have o3:=cf z.h 0 100000;have hw:=fc k;have hfl:=fun e (h:x_ l k z=e) (he:e≠0)=>hk.found hx h he;have hsu:=fun(h:x_ l k z=0)=>hk.succ hx h;rw[x_]at hfl hsu;generalize di z.nm=b0 at *
  generalize hA:(l.take k).any (fun y=>decide (y.nm=z.nm))=b1 at *
  generalize aN z.a (-1000000) 1000000=b2 at *
  generalize aN z.b (-1000000) 1000000=b3 at *
  generalize aN z.h 0 100000=b4 at *
  clear hA hk;refine aS hx ?_;refine ar n0 ?_;cases b0
  .have:=hfl 4 (by rfl) Y;rw[hf]at this;subst this;exact cp
  (repeat ((fail_if_success (with_reducible refine aQ 8 ?_));refine cx O ?_))
  refine aE (Ghost.data (k:=4) (t:=4) (row:=oS z) O O O O) ?_;refine H ?_;refine bE O O (mT (n:=((k:Nat):Int)) O O O O O J J (fun _=>rfl)) ?_;rw[Int.toNat_natCast];refine ar c0 ?_;cases b1
  rotate_left
  .have:=hfl 5 (by rfl) Y;rw[hf]at this;subst this;exact cp
  refine ar o1 ?_;cases b2
  .have:=hfl 2 (by rfl) Y;rw[hf]at this;subst this;exact cp
  refine ar o2 ?_;cases b3
  .have:=hfl 2 (by rfl) Y;rw[hf]at this;subst this;exact cp
  by_cases hab:z.a<=z.b
  rotate_left
  .have:=hfl 2 (by simp[hab]) Y;rw[hf]at this;subst this;refine dE ?_ ?_<;>intro h
   rotate_left
   .exact absurd (aG h) J
   clear h;exact cp
  refine dE ?_ ?_<;>intro h
  .exact absurd (aC h) J
  clear h;refine ar o3 ?_;cases b4
  .have:=hfl 2 ah Y;rw[hf]at this;subst this;exact cp
  refine H ?_;exact⟨k+1,hsu (by simp[hab]),J,O,O,O,congrArg I hw,trivial⟩
 .have hge:¬k<l.length:=by have:=aG h;omega
  clear h;rw[hk.none hge]at hf;subst hf;exact cp
set_option maxRecDepth 20000 in
theorem kC (s:SHP)(x z:Int)(hx : -1000000<=x/\x<=1000000)(hst:∀t∈s.st,StOk t)(hn:s.st.length<=40):Ret Tryz.prog .shared 101 [.agg (fF s),I x,I z] (.tup [I ((fg x z s.st).getD 0),.bool (fg x z s.st).isSome]):=by
 have hml:(s.st.map eT).length=s.st.length:=ah;have q1:IntKind.i64.wrap (2*x)=2*x:=wrap_i64 J J;generalize hR:fg x z s.st=R;obtain⟨nm,len,st,light,it⟩:=s;simp only at *
 refine Ret.of_pwp layOk mixed Go.Proofs.Tryz.func101 O Y O O ?_;refine H ?_;rw[hml];refine ap (fun i:Nat=>i<=st.length/\fg x z (st.drop i)=R) (fun i=>[(1,I x),(2,I z),(3,.ptr 3 1 0 0),(13,.sl (st.map eT)),(14,I st.length),(15,I (i:Nat))]) (fun _=>[(3,1,⟨27,9,[fF ⟨nm,len,st,light,it⟩],2⟩)]) (fun i=>st.length-i) 0 ⟨Nat.zero_le _,by rw[List.drop_zero];exact hR⟩ ⟨O,O,O,O,O,O,O,trivial⟩ ?_;rintro i s ⟨hi,hall⟩;refine D ?_ ?_<;>intro h
 .have hlt:i<st.length:=by have:=aC h;omega
  clear h;obtain⟨t,ht⟩:=aJ hlt;have ok:=hst t (bc ht);obtain⟨⟨a1,a2⟩,⟨a3,a4⟩,⟨-,aL⟩,hLH,-,-,-⟩:=ok;rw[zW ht]at hall;have q2:IntKind.i64.wrap (2*t.x)=2*t.x:=wrap_i64 J J;have q3:IntKind.i64.wrap (2*t.x-t.w)=2*t.x-t.w:=wrap_i64 J J;have q4:IntKind.i64.wrap (2*t.x+t.w)=2*t.x+t.w:=wrap_i64 J J;have hw:=fc i;have hmh:(t.H0.map eN).length=t.H0.length:=ah;refine aS ht ?_;refine H ?_;rw[q1];refine H ?_;rw[q2];refine H ?_;rw[q3];refine Km O O O ?_ ?_<;>intro h
  .have d1:=aC h;clear h;rw[if_neg (by rw[wb,decide_eq_false J,Bool.false_and];decide)]at hall;refine H ?_;exact⟨i+1,⟨hlt,hall⟩,J,O,O,O,O,O,congrArg I hw,O,trivial⟩
  have d1:=aG h;clear h;refine H ?_;rw[q1];refine H ?_;rw[q2];refine H ?_;rw[q4];refine bP O ?_ ?_<;>intro h
  .have d2:=aC h;clear h;rw[if_neg (by rw[wb,decide_eq_false (show ¬2*x<2*t.x+t.w by omega),Bool.and_false];decide)]at hall;refine H ?_;exact⟨i+1,⟨hlt,hall⟩,J,O,O,O,O,O,congrArg I hw,O,trivial⟩
  have d2:=aG h;clear h;rw[if_pos (by rw[wb,decide_eq_true J,decide_eq_true J];rfl)]at hall;refine H ?_;rw[hmh];refine bH [(1,I x),(2,I z),(3,.ptr 3 1 0 0),(9,.ptr 9 ((s.own 9).1+1) 0 0),(13,.sl (st.map eT)),(14,I st.length),(15,I (i:Nat)),(40,.sl (t.H0.map eN)),(41,I t.H0.length),(42,I ((0:Nat):Int))] [(3,1,⟨27,9,[fF ⟨nm,len,st,light,it⟩],2⟩),(9,(s.own 9).1+1,⟨130,4,[eT t],2⟩)] ⟨O,O,O,O,O,O,O,O,O,O,O,O,trivial⟩ ?_;generalize (s.own 9).1+1=g9;intro s1;refine ap (fun k:Nat=>k<=t.H0.length/\(match jn t.L z (t.H0.drop k) k with|some n=>some n|none=>fg x z (st.drop (i+1)))=R) (fun k=>[(1,I x),(2,I z),(3,.ptr 3 1 0 0),(9,.ptr 9 g9 0 0),(13,.sl (st.map eT)),(14,I st.length),(15,I (i:Nat)),(40,.sl (t.H0.map eN)),(41,I t.H0.length),(42,I (k:Nat))]) (fun _=>[(3,1,⟨27,9,[fF ⟨nm,len,st,light,it⟩],2⟩),(9,g9,⟨130,4,[eT t],2⟩)]) (fun k=>t.H0.length-k) 0 ⟨Nat.zero_le _,by rw[List.drop_zero];exact hall⟩ ⟨rfl,rfl,rfl,rfl,rfl,rfl,rfl,rfl,rfl,rfl,rfl,rfl,trivial⟩ ?_;clear hall;rintro k s2 ⟨hk,hall⟩;refine D ?_ ?_<;>intro h
  .have hlk:k<t.H0.length:=by have:=aC h;omega
   clear h;obtain⟨y,hy⟩:=aJ hlk;have hlL:k<t.L.length:=J;obtain⟨n,hn⟩:=aJ hlL;have hgd:t.L.getD k 0=n:=by rw[List.getD_eq_getElem?_getD,hn];rfl
   have hwk:IntKind.i64.wrap (((k:Nat):Int)+1)=((k+1:Nat):Int):=by rw[wrap_i64 J J];omega
   rw[wT hy,hgd]at hall;refine aS hy ?_;refine D ?_ ?_<;>intro h
   .have d3:z<y:=aC h;clear h;rw[if_pos d3]at hall;subst hall;refine aS hn ?_;exact bV
   .have d3:¬z<y:=aG h;clear h;rw[if_neg d3]at hall;refine H ?_;exact⟨k+1,⟨hlk,hall⟩,J,O,O,O,O,O,O,O,O,O,congrArg I hwk,O,O,trivial⟩
  .have hke:k=t.H0.length:=by have:=aG h;omega
   clear h;subst hke;rw[List.drop_length,jn]at hall;refine H ?_;exact⟨i+1,⟨hlt,hall⟩,J,O,O,O,O,O,congrArg I hw,O,trivial⟩
 .have hge:i=st.length:=by have:=aG h;omega
  clear h;subst hge;rw[List.drop_length,fg]at hall;subst hall;exact bV
theorem ua (a b:Int)(h1 : -2000000<=a-b)(h2:a-b<=2000000):Ret Tryz.prog .shared 133 [I a,I b] (I (lL a b)):=by
 have q1:IntKind.i64.wrap (a-b)=a-b:=wrap_i64 J J;have q2:IntKind.i64.wrap (b-a)=b-a:=wrap_i64 J J;refine Ret.of_pwp layOk mixed Go.Proofs.Tryz.func133 O Y O O ?_;refine H ?_;rw[q1,q2];exact nu O O O
set_option maxRecDepth 20000 in
theorem xj (b:BKR)(hs:b.st.sz 12):Ret Tryz.prog .shared 132 [.agg (j_ b)] (.bool (qA b)):=by
 have o1:=cf b.x (-1000000) 1000000;have o2:=cf b.hf 1 10000;have o3:=cf b.ht 0 100000;have o4:=cf b.wd 1 20000;have o5:=cf b.lim 0 1000000000;have o6:=vJ b.st (hx:=hs.v) Y;have o7:=cf b.z 1 100000;have hsg:=pI b.st.val;generalize hf:qA b=E;rw[qA,FT]at hf;have hp:decide (0<b.st.val)=!decide (sgn b.st.val<=0):=by
  by_cases h:sgn b.st.val<=0
  .rw[decide_eq_true h,decide_eq_false (fun g=>absurd g (Rat.not_lt.2 (hsg.1 h)))];rfl
  .rw[decide_eq_false h,decide_eq_true (Rat.not_le.1 fun g=>h (hsg.2 g))];rfl
 rw[hp]at hf;clear hp hsg;have hz:aN b.z 1 100000=true->1<=b.z/\b.z<=100000:=fun h=>fh h;obtain⟨x,z,hfw,ht,wd,st,lim,side⟩:=b;simp only at *
 generalize aN x (-1000000) 1000000=b1 at *
 generalize aN hfw 1 10000=b2 at *
 generalize aN ht 0 100000=b3 at *
 generalize aN wd 1 20000=b4 at *
 generalize aN lim 0 1000000000=b5 at *
 generalize aN z 1 100000=b7 at *
 generalize sgn st.val=sg at *
 refine Ret.of_pwp layOk mixed Go.Proofs.Tryz.func132 O Y O O ?_;refine ar o1 ?_;cases b1
 .subst hf;exact gV
 refine ar o2 ?_;cases b2
 .subst hf;exact gV
 refine ar o3 ?_;cases b3
 .subst hf;exact gV
 refine ar o4 ?_;cases b4
 .subst hf;exact gV
 refine ar o5 ?_;cases b5
 .subst hf;exact gV
 refine ar o6 ?_;refine H ?_;by_cases h6:sg<=0
 .rw[decide_eq_true h6]at hf ⊢;subst hf;exact gV
 rw[decide_eq_false h6]at hf ⊢;refine H ?_;cases side
 .refine H ?_;exact fe O O (by rw[<-hf];rfl)
 .refine ar o7 ?_;cases b7
  .subst hf;exact gV
  have hz:=hz O;have q1:IntKind.i64.wrap (2*z)=2*z:=wrap_i64 J J;refine H ?_;rw[q1];exact fe O O (by rw[<-hf];rfl)
structure BkIn (b:BKR):Prop where
 x : -1000000<=b.x/\b.x<=1000000
 hf:1<=b.hf/\b.hf<=10000
 ht:0<=b.ht/\b.ht<=100000
 wd:1<=b.wd/\b.wd<=20000
 z:0<=b.z/\b.z<=100000
 lim:0<=b.lim/\b.lim<=1000000000
 st:0<b.st.val
theorem tg {b:BKR}(h:qA b=true):BkIn b:=by
 rw[qA,FT]at h;simp only[Bool.and_eq_true,decide_eq_true_eq]at h;obtain⟨⟨⟨⟨⟨⟨h1,h2⟩,h3⟩,h4⟩,h5⟩,h6⟩,h7⟩:=h;refine⟨fh h1,fh h2,fh h3,fh h4,?_,fh h5,h6⟩;split at h7
 .simp only[Bool.and_eq_true]at h7;have:=fh h7.1;omega
 .have:=aC h7;omega
structure ZnIn (z:ZNR):Prop where
 a : -1000000<=z.a/\z.a<=1000000
 b : -1000000<=z.b/\z.b<=1000000
 h:0<=z.h/\z.h<=100000
theorem I9 {l:List ZNR}{i:Nat}{z:ZNR}(h:x_ l i z=0):ZnIn z:=by
 rw[x_]at h;split at h
 .split at h
  .omega
  .split at h
   .rename_i h2;simp only[Bool.and_eq_true]at h2;exact⟨fh h2.1.1.1,fh h2.1.1.2,fh h2.2⟩
   .omega
 .omega
theorem E3 {l:List ZNR}(h:ie l=0):l.length<=20/\∀z∈l,ZnIn z:=by
 rw[ie]at h;split at h
 .omega
 .refine⟨J,fun z hz=>?_⟩;obtain⟨j,hj⟩:=List.mem_iff_getElem?.1 hz;exact I9 (jR h j z hj)
theorem oE {α:Type}{p:α->Bool}{l:List α}{n:Nat}(h:∀(j:Nat) x,j<n->l[j]? = some x->p x=false):(l.take n).any p=false:=by
 rw[List.any_eq_false];intro x hx;obtain⟨j,hj⟩:=List.mem_iff_getElem?.1 hx;have hjn:j<n:=by have:=(bb hj).1;rw[List.length_take]at this;omega
 rw[List.getElem?_take_of_lt hjn]at hj;rw[h j x hjn hj];decide
theorem zQ {α:Type}{p:α->Bool}{l:List α}(h:∀(j:Nat) x,j<l.length->l[j]? = some x->p x=false):l.any p=false:=by
 have:=oE h;rwa [List.take_length]at this
theorem tM {α:Type}{p:α->Bool}{l:List α}{k:Nat}{x:α}(hx:l[k]? = some x)(h:p x=true):l.any p=true:=List.any_eq_true.2 ⟨x,bc hx,h⟩
theorem BZ {α:Type}{p:α->Bool}{l:List α}{n k:Nat}{x:α}(hk:k<n)(hx:l[k]? = some x)(h:p x=true):(l.take n).any p=true:=tM (k:=k) (by rw[List.getElem?_take_of_lt hk];exact hx) h
set_option maxRecDepth 20000 in
theorem zV (d:DKR)(hst:∀t∈d.s.st,StOk t)(h40:d.s.st.length<=40)(hz:d.zn.length<=20/\∀z∈d.zn,ZnIn z)(hb40:d.bl.length<=40)(i:Nat)(b:BKR)(hb:d.bl[i]? = some b)(hs:b.st.sz 12)(hpr:∀j c,j<i->d.bl[j]? = some c->BkIn c) :
  Ret Tryz.prog .shared 69 [.agg (fS d),I (i:Nat)] (I (lD d.s.st d.zn d.bl i b)):=by
 have r1:=xj b hs;have hin:=fun h=>tg (b:=b) h;have hbt:=fun h:qA b=true=>kC d.s b.x b.z (tg h).x hst h40;have hmz:(d.zn.map oS).length=d.zn.length:=ah;generalize hf:lD d.s.st d.zn d.bl i b=E;rw[lD]at hf;obtain⟨s,den,bl,zn,gm,oh⟩:=d;simp only at *
 have hil:i<bl.length:=(bb hb).1;generalize qA b=b1 at *
 refine Ret.of_pwp layOk mixed Go.Proofs.Tryz.func69 O Y O O ?_;refine aS hb ?_;refine ar r1 ?_;cases b1
 .subst hf;exact cp
 rw[if_pos O]at hf;have hin:=hin O;have hbt:=hbt O;obtain⟨⟨a1,a2⟩,⟨a3,a4⟩,-,⟨a5,a6⟩,⟨a7,a8⟩,-,-⟩:=hin;refine ar hbt ?_;cases hbo:fg b.x b.z s.st with
 |none =>
  rw[hbo,if_neg Y]at hf;subst hf;exact cp
 |some n =>
 rw[hbo,Option.isSome_some,if_pos O]at hf;have p1:IntKind.i64.wrap (b.x-b.hf)=b.x-b.hf:=wrap_i64 J J;have p2:IntKind.i64.wrap (b.x+b.hf)=b.x+b.hf:=wrap_i64 J J;have p3:IntKind.i64.wrap (2*b.z)=2*b.z:=wrap_i64 J J;have p4:IntKind.i64.wrap (2*b.z-b.wd)=2*b.z-b.wd:=wrap_i64 J J;refine H ?_;rw[hmz];refine bH [(1,I (i:Nat)),(2,.ptr 2 1 0 0),(5,.ptr 5 1 0 0),(33,.sl (zn.map oS)),(34,I zn.length),(35,I ((0:Nat):Int))] [(2,1,⟨31,14,[fS ⟨s,den,bl,zn,gm,oh⟩],2⟩),(5,1,⟨108,11,[j_ b],2⟩)] ⟨O,O,O,O,O,O,O,O,trivial⟩ ?_;intro s0;refine ap (fun k:Nat=>k<=zn.length/\∀j u,j<k->zn[j]? = some u->nM b u=false) (fun k=>[(1,I (i:Nat)),(2,.ptr 2 1 0 0),(5,.ptr 5 1 0 0),(33,.sl (zn.map oS)),(34,I zn.length),(35,I (k:Nat))]) (fun _=>[(2,1,⟨31,14,[fS ⟨s,den,bl,zn,gm,oh⟩],2⟩),(5,1,⟨108,11,[j_ b],2⟩)]) (fun k=>zn.length-k) 0 ⟨Nat.zero_le _,fun j u hj=>absurd hj J⟩ ⟨O,O,O,O,O,O,O,O,trivial⟩ ?_;rintro k s1 ⟨hk,hall⟩;refine D ?_ ?_<;>intro h
 .have hlt:k<zn.length:=by have:=aC h;omega
  clear h;obtain⟨z,hx⟩:=aJ hlt;obtain⟨-,⟨z1,z2⟩,z3,z4⟩:=hz.2 z (bc hx);have p5:IntKind.i64.wrap (2*z.h)=2*z.h:=wrap_i64 J J;have hw:=fc k;have go:nM b z=false->∀j u,j<k+1->zn[j]? = some u->nM b u=false:=fun hb j u hj hu=>by
   rcases Nat.lt_or_ge j k with g|g
   .exact hall j u g hu
   .rw[show j=k by omega,hx]at hu;cases hu;exact hb
  refine aS hx ?_;refine H ?_;rw[p1];refine Km O O O ?_ ?_<;>intro h
  rotate_left
  .have d1:=aG h;clear h;refine H ?_;exact⟨k+1,⟨hlt,go (by rw[nM,decide_eq_false d1,Bool.false_and,Bool.false_and])⟩,J,O,O,O,O,O,congrArg I hw,O,O,trivial⟩
  have d1:=aC h;clear h;refine H ?_;rw[p2];refine dE ?_ ?_<;>intro h
  rotate_left
  .have d2:=aG h;clear h;refine H ?_;exact⟨k+1,⟨hlt,go (by rw[nM,decide_eq_false d2,Bool.and_false,Bool.false_and])⟩,J,O,O,O,O,O,congrArg I hw,O,O,trivial⟩
  have d2:=aC h;clear h;refine H ?_;rw[p3];refine H ?_;rw[p4];refine H ?_;rw[p5];refine D ?_ ?_<;>intro h
  .have d3:2*b.z-b.wd<2*z.h:=aC h;clear h;rw[if_pos (tM hx (by rw[nM,decide_eq_true d1,decide_eq_true d2,decide_eq_true d3];rfl))]at hf;subst hf;exact cp
  .have d3:¬2*b.z-b.wd<2*z.h:=aG h;clear h;refine H ?_;exact⟨k+1,⟨hlt,go (by rw[nM,decide_eq_false d3,Bool.and_false])⟩,J,O,O,O,O,O,congrArg I hw,O,O,trivial⟩
 have hge:k=zn.length:=by have:=aG h;omega
 clear h;subst hge;rw[zQ hall,if_neg Y]at hf;clear hall;have hmt:((bl.take i).map j_).length=i:=by rw[List.length_map,List.length_take];omega
 refine H ?_;refine bE O O (mT (l:=bl) (enc:=j_) (n:=((i:Nat):Int)) O O O O O J J (fun _=>rfl)) ?_;rw[Int.toNat_natCast];refine H ?_;rw[hmt];refine bH [(2,.ptr 2 1 0 0),(5,.ptr 5 1 0 0),(73,.sl ((bl.take i).map j_)),(74,I i),(75,I ((0:Nat):Int))] [(2,1,⟨31,14,[fS ⟨s,den,bl,zn,gm,oh⟩],2⟩),(5,1,⟨108,11,[j_ b],2⟩)] ⟨O,O,O,O,O,O,O,trivial⟩ ?_;intro s2;refine ap (fun k:Nat=>k<=i/\∀j u,j<k->bl[j]? = some u->mE b u=false) (fun k=>[(2,.ptr 2 1 0 0),(5,.ptr 5 1 0 0),(73,.sl ((bl.take i).map j_)),(74,I i),(75,I (k:Nat))]) (fun _=>[(2,1,⟨31,14,[fS ⟨s,den,bl,zn,gm,oh⟩],2⟩),(5,1,⟨108,11,[j_ b],2⟩)]) (fun k=>i-k) 0 ⟨Nat.zero_le _,fun j u hj=>absurd hj J⟩ ⟨O,O,O,O,O,O,O,trivial⟩ ?_;rintro k s3 ⟨hk,hall⟩;refine D ?_ ?_<;>intro h
 .have hlt:k<i:=by have:=aC h;omega
  clear h;obtain⟨c,hx⟩:=aJ (show k<bl.length by omega);have hxt:(bl.take i)[k]? = some c:=by rw[List.getElem?_take_of_lt hlt];exact hx
  obtain⟨⟨c1,c2⟩,⟨c3,c4⟩,-,⟨c5,c6⟩,⟨c7,c8⟩,-,-⟩:=hpr k c hlt hx;have e1:=ua b.x c.x J J;have e2:=ua b.z c.z J J;have hdz : -2000000<=lL b.z c.z/\lL b.z c.z<=2000000:=by rw[lL];split<;>omega
  have hbc:mE b c=(decide (lL b.x c.x<b.hf+c.hf)&&decide (2*lL b.z c.z<b.wd+c.wd)):=O;have q1:IntKind.i64.wrap (b.hf+c.hf)=b.hf+c.hf:=wrap_i64 J J;have q2:IntKind.i64.wrap (2*lL b.z c.z)=2*lL b.z c.z:=wrap_i64 J J;have q3:IntKind.i64.wrap (b.wd+c.wd)=b.wd+c.wd:=wrap_i64 J J;have hw:=fc k;have go:mE b c=false->∀j u,j<k+1->bl[j]? = some u->mE b u=false:=fun hb j u hj hu=>by
   rcases Nat.lt_or_ge j k with g|g
   .exact hall j u g hu
   .rw[show j=k by omega,hx]at hu;cases hu;exact hb
  generalize lL b.x c.x=D1 at *
  generalize lL b.z c.z=D2 at *
  refine aS hxt ?_;refine cn 25 [79,80,81,82,83,84,85,86,87,88,89,90,91,92,93,94,95,96,97,98,99,100,101,102,103] ?_;refine ar e1 ?_;refine H ?_;rw[q1];refine Km O O O ?_ ?_<;>intro h
  rotate_left
  .have d1:=aG h;clear h;refine H ?_;exact⟨k+1,⟨hlt,go (by rw[hbc,decide_eq_false d1,Bool.false_and])⟩,J,O,O,O,O,congrArg I hw,O,O,trivial⟩
  have d1:=aC h;clear h;refine ar e2 ?_;refine H ?_;rw[q2];refine H ?_;rw[q3];refine D ?_ ?_<;>intro h
  .have d2:2*D2<b.wd+c.wd:=aC h;clear h;rw[if_pos (BZ hlt hx (by rw[hbc,decide_eq_true d1,decide_eq_true d2];rfl))]at hf;subst hf;exact cp
  .have d2:¬2*D2<b.wd+c.wd:=aG h;clear h;refine H ?_;exact⟨k+1,⟨hlt,go (by rw[hbc,decide_eq_false d2,Bool.and_false])⟩,J,O,O,O,O,congrArg I hw,O,O,trivial⟩
 have hge:k=i:=by have:=aG h;omega
 clear h;subst hge;rw[oE hall,if_neg Y]at hf;subst hf;exact cp
theorem Cc {st:List ST}{zn:List ZNR}{l:List BKR}{j:Nat}{c:BKR}(h:lD st zn l j c=0):BkIn c:=by
 rw[lD]at h;split at h
 .rename_i h1;exact tg h1
 .omega
structure DKR.Ok (d:DKR):Prop where
 len:d.Len
 st:∀b∈d.bl,b.st.sz 12
theorem xL {s:SHP}(h:fN s=0):(∀t∈s.st,StOk t)/\s.st.length<=40:=by
 have ok:=j1 h;refine⟨fun t ht=>?_,ok.len⟩;obtain⟨i,hi⟩:=List.mem_iff_getElem?.1 ht;exact IV (ok.st i t hi)
set_option maxRecDepth 20000 in
theorem kH (d:DKR)(hd:d.Ok):Ret Tryz.prog .shared 17 [.agg (fS d)] (I (wr d)):=by
 have h1:=kG d.s hd.len.s;have h2:=cf d.d 900 1100;have h3:=BJ d.zn hd.len.zn;have h4:=cf d.gm (-100000) 100000;have h5:=cf d.oh 0 1000000;have hmb:(d.bl.map j_).length=d.bl.length:=ah;have hsz:=hd.st;have hlb:=hd.len.bl;generalize hf:wr d=E;rw[wr,i_]at hf;by_cases hE:fN d.s=0
 rotate_left
 .rw[if_neg hE,if_neg hE]at hf;obtain⟨s,den,bl,zn,gm,oh⟩:=d;simp only at *
  generalize fN s=e at *
  subst hf;refine Ret.of_pwp layOk mixed Go.Proofs.Tryz.func17 O Y O O ?_;refine ar h1 ?_;refine D ?_ ?_<;>intro h
  .clear h;exact cp
  .simp at h;exact absurd h hE
 obtain⟨hst,h40⟩:=xL hE;rw[hE]at h1;rw[if_pos hE]at hf;have hbr:=fun i b hb hpr hz hb40=>zV d hst h40 hz hb40 i b hb (hsz b (bc hb)) hpr;clear hE;obtain⟨s,den,bl,zn,gm,oh⟩:=d;simp only at *
 refine Ret.of_pwp layOk mixed Go.Proofs.Tryz.func17 O Y O O ?_;refine ar h1 ?_;refine ar h2 ?_;cases hi:aN den 900 1100 with
 |false =>
  rw[hi]at hf;subst hf;exact cp
 |true =>
 rw[hi,if_pos O,if_pos O]at hf;refine ar h3 ?_;by_cases hz:ie zn=0
 rotate_left
 .rw[if_neg hz]at hf;generalize ie zn=e at *
  subst hf;refine D ?_ ?_<;>intro h
  .clear h;exact cp
  .simp at h;exact absurd h hz
 rw[if_pos hz,qN]at hf;rw[hz];have hzi:=E3 hz;clear hz h3;refine H ?_;rw[hmb];refine bP O ?_ ?_<;>intro h
 .rw[if_pos (show 40<bl.length by have:=aC h;omega),if_neg Y]at hf;subst hf;exact cp
 have hb40:¬40<bl.length:=by have:=aG h;omega
 clear h;rw[if_neg hb40]at hf;refine H ?_;rw[hmb];refine ap (ClearE bl (lD s.st zn bl)) (fun k=>[(1,.ptr 1 1 0 0),(28,I bl.length),(29,I (k:Nat))]) (fun _=>[(1,1,⟨31,14,[fS ⟨s,den,bl,zn,gm,oh⟩],2⟩)]) (fun k=>bl.length-k) 0 .zero' ⟨O,O,O,O,trivial⟩ ?_;intro k s1 hk;have hkl:=hk.1;refine D ?_ ?_<;>intro h
 .have hlt:k<bl.length:=by have:=aC h;omega
  clear h;obtain⟨b,hx⟩:=aJ hlt;have c1:=hbr k b hx (fun j c hj hc=>Cc (hk.2 j c hj hc)) hzi J;have hw:=fc k;have hfl:=fun e (h:lD s.st zn bl k b=e) (he:e≠0)=>hk.found hx h he;have hsu:=fun(h:lD s.st zn bl k b=0)=>hk.succ hx h;generalize lD s.st zn bl k b=e at *
  refine ar c1 ?_;refine D ?_ ?_<;>intro h
  .have he:e≠0:=by simpa using h
   clear h;have:=hfl e O he;rw[this,if_neg he]at hf;subst hf;exact cp
  .have he:e=0:=by simpa using h
   clear h;refine H ?_;exact⟨k+1,hsu he,J,O,O,congrArg I hw,O,trivial⟩
 have hge:¬k<bl.length:=by have:=aG h;omega
 clear h;rw[hk.none hge,if_pos O]at hf;refine ar h4 ?_;cases h4b:aN gm (-100000) 100000 with
 |false =>
  rw[h4b]at hf;subst hf;exact cp
 |true =>
 rw[h4b]at hf;refine ar h5 ?_;cases h5b:aN oh 0 1000000;all_goals
  rw[h5b]at hf;subst hf;exact cp
end Go.Pv
namespace Go.Pv
open Go.Proofs
def f8 (st:List ST)(b:BKR):Int:=(fg b.x b.z st).getD 0
def iU (b:BKR):Rat:=if b.side=true then b.st.val*2 else b.st.val
def kB (st:List ST)(b:BKR):SR:=⟨b.x,ofQ ((b.ht-f8 st b:Int):Rat),⟨[0],[ofQ (iU b)]⟩⟩
def cG (st:List ST)(l:List BKR):List SR:=l.map (kB st)
theorem qK {st:List ST}{l:List BKR}{k:Nat}{b:BKR}(h:l[k]? = some b):cG st (l.take (k+1))=cG st (l.take k)++[kB st b]:=by
 rw[cG,cG,bC h,List.map_append];rfl
def rc (q:Rat)(s:SR):SR:=⟨s.x,ofQ q,s.k⟩
def fa (d:DKR):Nat:=d.d.toNat
def bX (d:DKR)(q:Rat):List SR:=cG d.s.st d.bl++(dq (fa d) d.s.st).map (rc q)
theorem um {L:List Int}{z n:Int}:∀ {H0:List Int} {k:Nat},jn L z H0 k=some n->∃j,k<=j/\j<k+H0.length/\n=L.getD j 0
 |[],k,h=>by simp[jn]at h
 |a::H0,k,h=>by
  rw[jn]at h;split at h
  .exact⟨k,aP,ah,by simpa using h.symm⟩
  .obtain⟨j,h1,h2,h3⟩:=um h;exact⟨j,J,by simp;omega,h3⟩
theorem r9 {x z n:Int}:∀ {l:List ST},(∀t∈l,StOk t)->fg x z l=some n->0<=n/\n<=100000
 |[],_,h=>by simp[fg]at h
 |t::l,hs,h=>by
  rw[fg]at h;have hl:=fun u hu=>hs u (List.mem_cons_of_mem _ hu);split at h
  .split at h
   .rename_i m hm;have ok:=hs t List.mem_cons_self;obtain⟨j,h1,h2,h3⟩:=um hm;have hj:j<t.L.length:=by have:=ok.h;omega
    rw[List.getD_eq_getElem?_getD,List.getElem?_eq_getElem hj]at h3;have:=ok.L _ (List.getElem_mem hj);simp only[Option.some.injEq]at h;simp at h3;omega
   .exact r9 hl h
  .exact r9 hl h
theorem lE {st:List ST}(hs:∀t∈st,StOk t)(b:BKR):0<=f8 st b/\f8 st b<=100000:=by
 rw[f8];cases h:fg b.x b.z st with
 |none=>exact⟨Int.le_refl _,Y⟩
 |some n=>exact r9 hs h
end Go.Pv
set_option maxHeartbeats 2000000
namespace Go.Pv
attribute [local irreducible] PWP POps PQuiet PSem aw aq ai aj
open Go.Proofs
structure DKR.Bl (d:DKR):Prop where
 st:∀t∈d.s.st,StOk t
 n:d.s.st.length<=40
 b:∀b∈d.bl,BkIn b/\b.st.sz 12
 m:d.bl.length<=40
set_option maxRecDepth 20000 in
theorem wD (k:DKR)(hk:k.Bl):Ret Tryz.prog .shared 90 [.agg (fS k)] (.sl ((cG k.s.st k.bl).map eS)):=by
 have hml:(k.bl.map j_).length=k.bl.length:=ah;obtain⟨hst,hn,hb,hm⟩:=hk;obtain⟨s,den,bl,zn,gm,oh⟩:=k;simp only at *
 refine Ret.of_pwp layOk mixed Go.Proofs.Tryz.func90 O Y O O ?_
 (repeat ((fail_if_success (with_reducible refine aQ 2 ?_));refine cx O ?_))
 refine aE (Ghost.nilreg (k:=1003) (t:=3) 136 7 1 O O) ?_;refine H ?_;rw[hml];refine bH [(1,.ptr 1 1 0 0),(3,.als 1003 1 0 0),(10,.sl (bl.map j_)),(11,I bl.length),(12,I ((0:Nat):Int))] [(1,1,⟨31,14,[fS ⟨s,den,bl,zn,gm,oh⟩],2⟩),(1003,1,⟨136,7,[],1⟩)] ⟨O,O,O,O,O,O,O,trivial⟩ ?_;intro s0;refine ap (fun i:Nat=>i<=bl.length) (fun i=>[(1,.ptr 1 1 0 0),(3,.als 1003 (1+i) 0 ((cG s.st (bl.take i)).map eS).length),(10,.sl (bl.map j_)),(11,I bl.length),(12,I (i:Nat))])
  (fun i=>[(1,1,⟨31,14,[fS ⟨s,den,bl,zn,gm,oh⟩],2⟩),(1003,1+i,⟨136,7,(cG s.st (bl.take i)).map eS,1⟩)]) (fun i=>bl.length-i) 0 (Nat.zero_le _) ⟨O,O,O,O,O,O,O,trivial⟩ ?_
 intro i s1 hi;refine D ?_ ?_<;>intro h
 .have hlt:i<bl.length:=by have:=aC h;omega
  clear h;obtain⟨b,hx⟩:=aJ hlt;obtain⟨hin,hsz⟩:=hb b (bc hx);have hrow:=qK (st:=s.st) hx;have e0:=kC s b.x b.z hin.x hst hn;have hbi:=lE hst b;have hht:=hin.ht;rw[show(fg b.x b.z s.st).getD 0=f8 s.st b from O]at e0;have hwh:IntKind.i64.wrap (b.ht-f8 s.st b)=b.ht-f8 s.st b:=wrap_i64 J J;have z1:Zb 1:=aK Y Y;have z2:Zb 2:=aK Y Y;have e1:=lx 1 ⟨Y,Y⟩;have e2:=eW b.st (ofQ ((1:Int):Rat)) (hx:=hsz.v) Y Y;have e3:=lx 2 ⟨Y,Y⟩;have e4:=eW b.st (ofQ ((2:Int):Rat)) (hx:=hsz.v) Y Y;have e5:=lx (b.ht-f8 s.st b) ⟨J,J⟩;have hst1:b.side=false->ofQ (iU b)=ofQ (b.st.val*((1:Int):Rat)):=fun h=>by rw[iU,h,if_neg Y,show((1:Int):Rat)=1 from O,Rat.mul_one]
  have hst2:b.side=true->ofQ (iU b)=ofQ (b.st.val*((2:Int):Rat)):=fun h=>by rw[iU,h,if_pos O];rfl
  have hbS:eS (kB s.st b)=I b.x::(eR (ofQ ((b.ht-f8 s.st b:Int):Rat))++[.sl [[I 0]],.sl [eR (ofQ (iU b))]]):=O;have hw:=fc i;have hll:(cG s.st (bl.take i)).length<=40:=by rw[cG,List.length_map,List.length_take];omega
  generalize kB s.st b=bs at *
  generalize cG s.st (bl.take i)=Bl at *
  generalize (fg b.x b.z s.st).isSome=bo at *
  generalize hF:ofQ (iU b)=F at *
  generalize f8 s.st b=bt at *
  generalize ofQ ((b.ht-bt:Int):Rat)=C at *
  generalize ofQ (b.st.val*((1:Int):Rat))=F1 at *
  generalize ofQ (b.st.val*((2:Int):Rat))=F2 at *
  generalize ofQ ((1:Int):Rat)=W1 at *
  generalize ofQ ((2:Int):Rat)=W2 at *
  refine aS hx ?_;refine ar e0 ?_
  (repeat ((fail_if_success (with_reducible refine aQ 6 ?_));refine cx O ?_))
  refine aE (fM 8) ?_;refine aZ 4 1 [26,27,28,29,8] [] aT O ?_;refine G e1 ?_;refine G e2 ?_;refine H ?_;by_cases hsd:b.side=true
  .have hF2:=hst2 hsd;subst hF2;rw[hsd];refine cn 4 [32,33,34,35] ?_;refine G e3 ?_;refine G e4 ?_;refine H ?_;refine bS [49,1003] [13,14,15] aT ?_;refine H ?_;rw[hwh];refine nR O O O e5 O O ?_;refine H ?_;refine bE O O (dj O O O O O O O O O O aI O) ?_;refine H ?_;refine bE O O (cC O O O O O O O O O O aI O) ?_;refine H ?_;refine qj O O O (bx 1 O O O O O O O O O O O aI O ⟨g_ O,?_⟩);refine H ?_;refine qj O O O (bQ 1 O O O O O O O O O O O aI (by intro row hr;first|(simp at hr;subst hr;rfl)|(simp at hr;obtain⟨_,_,rfl⟩:=hr;rfl)|simp at hr) O O aU aU ⟨g_ O,?_⟩);refine H ?_;have hr2:(cG s.st (bl.take (i+1))).map eS=Bl.map eS++[I b.x::(eR C++[.sl [[I 0]],.sl [eR F]])]:=by rw[hrow,List.map_append,<-hbS];rfl
   refine⟨i+1,hlt,J,O,?_,O,O,congrArg I hw,O,?_,trivial⟩
   .rw[hr2];rfl
   .rw[hr2];rfl
  .have hsd:b.side=false:=by simpa using hsd
   have hF1:=hst1 hsd;subst hF1;rw[hsd];refine H ?_;refine bS [49,1003] [13,14,15] aT ?_;refine H ?_;rw[hwh];refine nR O O O e5 O O ?_;refine H ?_;refine bE O O (dj O O O O O O O O O O aI O) ?_;refine H ?_;refine bE O O (cC O O O O O O O O O O aI O) ?_;refine H ?_;refine qj O O O (bx 1 O O O O O O O O O O O aI O ⟨g_ O,?_⟩);refine H ?_;refine qj O O O (bQ 1 O O O O O O O O O O O aI (by intro row hr;first|(simp at hr;subst hr;rfl)|(simp at hr;obtain⟨_,_,rfl⟩:=hr;rfl)|simp at hr) O O aU aU ⟨g_ O,?_⟩);refine H ?_;have hr2:(cG s.st (bl.take (i+1))).map eS=Bl.map eS++[I b.x::(eR C++[.sl [[I 0]],.sl [eR F]])]:=by rw[hrow,List.map_append,<-hbS];rfl
   refine⟨i+1,hlt,J,O,?_,O,O,congrArg I hw,O,?_,trivial⟩
   .rw[hr2];rfl
   .rw[hr2];rfl
 .have hie:i=bl.length:=by have:=aG h;omega
  clear h;subst hie;rw[List.take_length]
  (repeat ((fail_if_success (with_reducible refine eY ?_));refine cx O ?_))
  refine aE (Ghost.takeD (k:=1003) (t:=2) O O O) ?_;exact bV
set_option maxRecDepth 20000 in
theorem oJ {K:St->Prop}{s':St}{d g2 h3:Nat}{c2 c3:Cont}{x:Operand}{tys:Array TypeId}{ty:TypeId}{pos:String}{af:Array Edge}(k:DKR)(hk:k.Bl)(hx:s'.ev x = .agg (fS k))(ho:FitO s' [(2,g2,c2),(3,h3,c3)])
  (hK:∀(s1:St) (g:Nat),K (({ reg:=s'.reg,own:=(s1.over [] [(1003,g,⟨136,7,(cG k.s.st k.bl).map eS,1⟩),(2,g2,c2),(3,h3,c3)]).own }:St).putR d (.als 1003 g 0 ((cG k.s.st k.bl).map eS).length))) :
  Sm Tryz.prog lay.get s' ⟨some d,.call ⟨.value (.func 90),#[x],tys⟩,ty,pos,af,none⟩ K:=by
 have hml:(k.bl.map j_).length=k.bl.length:=ah;obtain⟨hst,hn,hb,hm⟩:=hk;obtain⟨s,den,bl,zn,gm,oh⟩:=k;simp only at *
 refine bT layOk O O Tryz.func90 O Y O O ?_;show PWP _ _ _ _ (bh s' (([x]:List Operand).map s'.ev++[]));rw[show(([x]:List Operand).map s'.ev++([]:List PV))=[.agg (fS ⟨s,den,bl,zn,gm,oh⟩)] by simp[hx]];rw[show bh s' [.agg (fS ⟨s,den,bl,zn,gm,oh⟩)]=bh (s'.over [] [(2,g2,c2),(3,h3,c3)]) [.agg (fS ⟨s,den,bl,zn,gm,oh⟩)] by rw[Fit.over (l:=[]) ho]]
 (repeat ((fail_if_success (with_reducible refine aQ 2 ?_));refine cx O ?_))
 refine aE (Ghost.nilreg (k:=1003) (t:=3) 136 7 1 O O) ?_;refine H ?_;rw[hml];refine bH [(1,.ptr 1 ((s'.own 1).1+1) 0 0),(3,.als 1003 ((s'.own 1003).1+1) 0 0),(10,.sl (bl.map j_)),(11,I bl.length),(12,I ((0:Nat):Int))] [(1,((s'.own 1).1+1),⟨31,14,[fS ⟨s,den,bl,zn,gm,oh⟩],2⟩),(1003,((s'.own 1003).1+1),⟨136,7,[],1⟩),(2,g2,c2),(3,h3,c3)] ⟨O,O,O,O,O,O,O,O,O,trivial⟩ ?_;generalize (s'.own 1).1+1=g1;generalize (s'.own 1003).1+1=g3;intro s0;refine ap (fun i:Nat=>i<=bl.length) (fun i=>[(1,.ptr 1 g1 0 0),(3,.als 1003 (g3+i) 0 ((cG s.st (bl.take i)).map eS).length),(10,.sl (bl.map j_)),(11,I bl.length),(12,I (i:Nat))])
  (fun i=>[(1,g1,⟨31,14,[fS ⟨s,den,bl,zn,gm,oh⟩],2⟩),(1003,g3+i,⟨136,7,(cG s.st (bl.take i)).map eS,1⟩),(2,g2,c2),(3,h3,c3)]) (fun i=>bl.length-i) 0 (Nat.zero_le _) ⟨O,O,O,O,O,O,O,O,O,trivial⟩ ?_
 intro i s1 hi;refine D ?_ ?_<;>intro h
 .have hlt:i<bl.length:=by have:=aC h;omega
  clear h;obtain⟨b,hx⟩:=aJ hlt;obtain⟨hin,hsz⟩:=hb b (bc hx);have hrow:=qK (st:=s.st) hx;have e0:=kC s b.x b.z hin.x hst hn;have hbi:=lE hst b;have hht:=hin.ht;rw[show(fg b.x b.z s.st).getD 0=f8 s.st b from O]at e0;have hwh:IntKind.i64.wrap (b.ht-f8 s.st b)=b.ht-f8 s.st b:=wrap_i64 J J;have z1:Zb 1:=aK Y Y;have z2:Zb 2:=aK Y Y;have e1:=lx 1 ⟨Y,Y⟩;have e2:=eW b.st (ofQ ((1:Int):Rat)) (hx:=hsz.v) Y Y;have e3:=lx 2 ⟨Y,Y⟩;have e4:=eW b.st (ofQ ((2:Int):Rat)) (hx:=hsz.v) Y Y;have e5:=lx (b.ht-f8 s.st b) ⟨J,J⟩;have hst1:b.side=false->ofQ (iU b)=ofQ (b.st.val*((1:Int):Rat)):=fun h=>by rw[iU,h,if_neg Y,show((1:Int):Rat)=1 from O,Rat.mul_one]
  have hst2:b.side=true->ofQ (iU b)=ofQ (b.st.val*((2:Int):Rat)):=fun h=>by rw[iU,h,if_pos O];rfl
  have hbS:eS (kB s.st b)=I b.x::(eR (ofQ ((b.ht-f8 s.st b:Int):Rat))++[.sl [[I 0]],.sl [eR (ofQ (iU b))]]):=O;have hw:=fc i;have hll:(cG s.st (bl.take i)).length<=40:=by rw[cG,List.length_map,List.length_take];omega
  generalize kB s.st b=bs at *
  generalize cG s.st (bl.take i)=Bl at *
  generalize (fg b.x b.z s.st).isSome=bo at *
  generalize hF:ofQ (iU b)=F at *
  generalize f8 s.st b=bt at *
  generalize ofQ ((b.ht-bt:Int):Rat)=C at *
  generalize ofQ (b.st.val*((1:Int):Rat))=F1 at *
  generalize ofQ (b.st.val*((2:Int):Rat))=F2 at *
  generalize ofQ ((1:Int):Rat)=W1 at *
  generalize ofQ ((2:Int):Rat)=W2 at *
  refine aS hx ?_;refine ar e0 ?_
  (repeat ((fail_if_success (with_reducible refine aQ 6 ?_));refine cx O ?_))
  refine aE (fM 8) ?_;refine aZ 4 1 [26,27,28,29,8] [] aT O ?_;refine G e1 ?_;refine G e2 ?_;refine H ?_;by_cases hsd:b.side=true
  .have hF2:=hst2 hsd;subst hF2;rw[hsd];refine cn 4 [32,33,34,35] ?_;refine G e3 ?_;refine G e4 ?_;refine H ?_;refine bS [49,1003] [13,14,15] aT ?_;refine H ?_;rw[hwh];refine nR O O O e5 O O ?_;refine H ?_;refine bE O O (dj O O O O O O O O O O aI O) ?_;refine H ?_;refine bE O O (cC O O O O O O O O O O aI O) ?_;refine H ?_;refine qj O O O (bx 1 O O O O O O O O O O O aI O ⟨g_ O,?_⟩);refine H ?_;refine qj O O O (bQ 1 O O O O O O O O O O O aI (by intro row hr;first|(simp at hr;subst hr;rfl)|(simp at hr;obtain⟨_,_,rfl⟩:=hr;rfl)|simp at hr) O O aU aU ⟨g_ O,?_⟩);refine H ?_;have hr2:(cG s.st (bl.take (i+1))).map eS=Bl.map eS++[I b.x::(eR C++[.sl [[I 0]],.sl [eR F]])]:=by rw[hrow,List.map_append,<-hbS];rfl
   refine⟨i+1,hlt,J,O,?_,O,O,congrArg I hw,O,?_,O,O,trivial⟩
   .rw[hr2];rfl
   .rw[hr2];rfl
  .have hsd:b.side=false:=by simpa using hsd
   have hF1:=hst1 hsd;subst hF1;rw[hsd];refine H ?_;refine bS [49,1003] [13,14,15] aT ?_;refine H ?_;rw[hwh];refine nR O O O e5 O O ?_;refine H ?_;refine bE O O (dj O O O O O O O O O O aI O) ?_;refine H ?_;refine bE O O (cC O O O O O O O O O O aI O) ?_;refine H ?_;refine qj O O O (bx 1 O O O O O O O O O O O aI O ⟨g_ O,?_⟩);refine H ?_;refine qj O O O (bQ 1 O O O O O O O O O O O aI (by intro row hr;first|(simp at hr;subst hr;rfl)|(simp at hr;obtain⟨_,_,rfl⟩:=hr;rfl)|simp at hr) O O aU aU ⟨g_ O,?_⟩);refine H ?_;have hr2:(cG s.st (bl.take (i+1))).map eS=Bl.map eS++[I b.x::(eR C++[.sl [[I 0]],.sl [eR F]])]:=by rw[hrow,List.map_append,<-hbS];rfl
   refine⟨i+1,hlt,J,O,?_,O,O,congrArg I hw,O,?_,O,O,trivial⟩
   .rw[hr2];rfl
   .rw[hr2];rfl
 .have hie:i=bl.length:=by have:=aG h;omega
  clear h;subst hie;rw[List.take_length];refine H ?_;exact C5 (K:=fun o r=>K (({ reg:=s'.reg,own:=o }:St).putR d r)) [(1003,g3+bl.length,⟨136,7,(cG s.st bl).map eS,1⟩),(2,g2,c2),(3,h3,c3)] (.inl O) O O ⟨O,O,O,trivial⟩ (fun s1=>hK s1 _)
theorem JH (x:RR){p:Rat}{n:Nat}[hx:Vq x p n](hn:n<=10000000):Ret Tryz.prog .shared 91 [.agg (eR x),.agg zN] (.agg (eR (ofQ p))):=by
 have hs:=cJ x RR.zero J Y;rw[Rat.add_zero]at hs;exact hs.weak (.cons (.rfl _) (.cons cK.agg .nil)) (.rfl _)
theorem zP {A:List SR}{W:List SR}{q:Rat}{i:Nat}{s:SR}(h:W[i]? = some s):A++(W.take (i+1)).map (rc q)=A++(W.take i).map (rc q)++[rc q s]:=by
 rw[bC h,List.map_append,List.append_assoc];rfl
theorem nZ {d:DKR}(h:900<=d.d/\d.d<=1100):((fa d:Nat):Int)=d.d:=Int.toNat_of_nonneg J
set_option maxRecDepth 20000 in
theorem ic (d:DKR)(hk:d.Bl)(hd:900<=d.d/\d.d<=1100)(he:i_ d.s d.d=0)(hs:d.s.Len)(lv:RR){p:Rat}{n:Nat}[hv:Vq lv p n](hn:n<=10000000):Ret Tryz.prog .shared 97 [.agg (fS d),.agg (eR lv)] (.sl ((bX d p).map eS)):=by
 have hdn:=nZ hd;have h1:=nK d.s hs (fa d) (by rw[hdn];exact he) J J hk.st hk.n;rw[hdn]at h1;have h2:=JH lv (hx:=hv) hn;have hmw:((dq (fa d) d.s.st).map eS).length=d.s.st.length:=by simp[dq]
 have hA:(cG d.s.st d.bl).length<=40:=by rw[cG,List.length_map];exact hk.m
 have hWl:(dq (fa d) d.s.st).length<=40:=by rw[dq,List.length_map];exact hk.n
 have hmw2:((dq (fa d) d.s.st).map eS).length=(dq (fa d) d.s.st).length:=ah;rw[bX];have hin:=@oJ;have hB:=fun K s' d' g2 h3 c2 c3 x tys ty pos af=>@oJ K s' d' g2 h3 c2 c3 x tys ty pos af d hk;generalize cG d.s.st d.bl=A at *
 generalize dq (fa d) d.s.st=W at *
 clear hin he hs hmw;obtain⟨s,den,bl,zn,gm,oh⟩:=d;simp only at *
 refine Ret.of_pwp layOk mixed Go.Proofs.Tryz.func97 O Y O O ?_
 ((repeat ((fail_if_success (with_reducible refine aQ 1 ?_));refine cx O ?_));refine aM 1 ?_)
 refine fB O ?_;refine aY ?_;refine aV O (hB _ _ _ _ _ _ _ _ _ _ _ _ O ⟨O,O,trivial⟩ fun s1 g=>?_);refine aO ?_;refine G h1 ?_;refine H ?_;rw[hmw2];refine bH [(2,.ptr 2 1 0 0),(3,.ptr 3 1 0 0),(5,.als 1003 g 0 (A.map eS).length),(20,.sl (W.map eS)),(21,I W.length),(22,I ((0:Nat):Int))] [(2,1,⟨31,14,[fS ⟨s,den,bl,zn,gm,oh⟩],2⟩),(3,1,⟨42,4,[eR lv],2⟩),(1003,g,⟨136,7,A.map eS,1⟩)] ⟨O,O,O,O,O,O,O,O,O,trivial⟩ ?_;intro s2;refine ap (fun i:Nat=>i<=W.length) (fun i=>[(2,.ptr 2 1 0 0),(3,.ptr 3 1 0 0),(5,.als 1003 (g+i) 0 ((A++(W.take i).map (rc p)).map eS).length),(20,.sl (W.map eS)),(21,I W.length),(22,I (i:Nat))]) (fun i=>[(2,1,⟨31,14,[fS ⟨s,den,bl,zn,gm,oh⟩],2⟩),(3,1,⟨42,4,[eR lv],2⟩),(1003,g+i,⟨136,7,(A++(W.take i).map (rc p)).map eS,1⟩)]) (fun i=>W.length-i) 0 (Nat.zero_le _)
  ⟨O,O,by rw[List.take_zero,List.map_nil,List.append_nil];rfl,O,O,O,O,O,by rw[List.take_zero,List.map_nil,List.append_nil];rfl,trivial⟩ ?_
 intro i s3 hi;refine D ?_ ?_<;>intro h
 .have hlt:i<W.length:=by have:=aC h;omega
  clear h;obtain⟨x,hx⟩:=aJ hlt;have hrow:(A++(W.take (i+1)).map (rc p)).map eS=(A++(W.take i).map (rc p)).map eS++[I x.x::(eR (ofQ p)++[.sl (x.k.S.map eN),.sl (x.k.M.map eR)])]:=by rw[zP hx,List.map_append];rfl
  have hw:=fc i;have hll:((A++(W.take i).map (rc p)).map eS).length<=80:=by rw[List.length_map,List.length_append,List.length_map,List.length_take];omega
  have hb:g+(i+1)=g+i+1:=O;generalize (A++(W.take i).map (rc p)).map eS=R at *
  generalize ofQ p=Q at *
  refine aS hx ?_;refine G h2 ?_;refine H ?_;refine aH (bx 1 O O O O O O O O O O O aI O ?_);refine H ?_;refine aH (bQ 1 O O O O O O O O O O O aI (by intro row hr;first|(simp at hr;subst hr;rfl)|simp at hr) O O aU aU ?_);refine H ?_;refine⟨i+1,hlt,J,O,O,?_,O,O,congrArg I hw,O,O,?_,trivial⟩
  .rw[hrow,hb];rfl
  .rw[hrow,hb];rfl
 have hie:i=W.length:=by have:=aG h;omega
 clear h;subst hie;rw[List.take_length]
 (repeat ((fail_if_success (with_reducible refine eY ?_));refine cx O ?_))
 refine aE (Ghost.takeD (k:=1003) (t:=4) O O O) ?_;exact bV
theorem ur (a:AR)(x:Int)(hx:i64 x){z t:Rat}{n m:Nat}[ha:Va a z t n m](hn:n<=1000000)(hm:m<=1000000):Ret Tryz.prog .shared 92 [.agg (eA a),I x] (.agg (eR (ofQ (z+t*(x:Rat))))):=by
 have hxz:Zb x:=aK hx.1 hx.2;have hw:=bZ x hx;have h1:=eW a.t (ofQ (x:Rat)) (hx:=ha.t) J Y;have v1:Vq (ofQ (t*(x:Rat))) (t*(x:Rat)) (m+1+4):=Vq.ofQ (h:=@HQ.mul _ _ (m+1) 4 ha.t.hq HQ.int);have h2:=cJ a.z (ofQ (t*(x:Rat))) (hx:=ha.z) (hy:=v1) J J;obtain⟨az,at'⟩:=a;simp only at *
 generalize ofQ (z+t*(x:Rat))=X2 at *
 generalize ofQ (t*(x:Rat))=X1 at *
 generalize ofQ (x:Rat)=X0 at *
 refine Ret.of_pwp layOk mixed Go.Proofs.Tryz.func92 O Y O O ?_;refine cn 8 [5,6,7,8,9,10,11,12] ?_;refine G hw ?_;refine G h1 ?_;refine G h2 ?_;exact bV
theorem wE (F:List RR)(hl:F.length<=1000000):Ret Tryz.prog .shared 136 [.sl (F.map eR)] (.sl (F.map eR)):=by
 refine Ret.of_pwp layOk mixed Go.Proofs.Tryz.func136 O Y O O ?_
 ((repeat ((fail_if_success (with_reducible refine aQ 1 ?_));refine cx O ?_));refine aM 1 ?_)
 refine fB O ?_;refine aY ?_;refine aV O (nc layOk O O O (fun h0=>?_) ?_)
 .rw[h0];refine aO ?_
  (repeat ((fail_if_success (with_reducible refine eY ?_));refine cx O ?_))
  refine aE (Ghost.nilfs (t:=2) O) ?_;exact bV
 .refine aO ?_;refine H ?_;refine aH (bx 1 O O O O O O O O O O O aI O ?_);refine H ?_;refine aH (bQ 1 O O O O O O O O O O O aI (by intro row hr;obtain⟨p,_,rfl⟩:=List.mem_map.1 hr;rfl) O O aU aU ?_)
  (repeat ((fail_if_success (with_reducible refine eY ?_));refine cx O ?_))
  refine aE (Ghost.takeD (k:=5) (t:=2) O O O) ?_;exact bV
def iO (q:Int × Int)(x:Int):Int × Int:=if q.2=0\/x≠q.1 then(x,q.2+1) else q
def lU:List BKR->List Rat->List Int
 |b::l,q::v=>if q≠0 then b.x::lU l v else lU l v
 |_,_=>[]
def u5 (l:List Int):Int × Int:=l.foldl iO (0,0)
def k9 (bl:List BKR)(v:List Rat)(b:Rat):Int:=if (u5 (lU bl v)).2=0 then 0 else if (u5 (lU bl v)).2=1 then 1 else if b=0 then 3 else 2
theorem uE:∀ {bl:List BKR} {v:List Rat} {k:Nat} {b:BKR} {q:Rat},bl[k]? = some b->v[k]? = some q->lU (bl.take (k+1)) (v.take (k+1))=lU (bl.take k) (v.take k)++(if q≠0 then [b.x] else [])
 |[],_,k,b,q,h,_=>by simp at h
 |c::bl,[],k,b,q,_,h=>by simp at h
 |c::bl,p::v,0,b,q,h1,h2=>by
  simp at h1 h2;subst h1 h2;simp[lU]
 |c::bl,p::v,k+1,b,q,h1,h2=>by
  have ih:=uE (bl:=bl) (v:=v) (k:=k) (b:=b) (q:=q) (by simpa using h1) (by simpa using h2);rw[List.take_succ_cons,List.take_succ_cons,List.take_succ_cons,List.take_succ_cons,lU,lU,ih];split<;>simp
theorem JO (l:List Int):0<=(u5 l).2/\(u5 l).2<=l.length:=by
 have key:∀(l:List Int) (q:Int × Int),0<=q.2->0<=(l.foldl iO q).2/\(l.foldl iO q).2<=q.2+l.length:=by
  intro l
  induction l with
  |nil=>intro q h;simp;omega
  |cons x l ih =>
   intro q h;have h1:0<=(iO q x).2/\(iO q x).2<=q.2+1:=by
    rw[iO];split
    .exact⟨show 0<=q.2+1 by omega,Int.le_refl _⟩
    .exact⟨h,J⟩
   have:=ih (iO q x) h1.1;rw[List.foldl_cons,List.length_cons];omega
 have:=key l (0,0) Y;simpa [u5] using this
theorem yC:∀(bl:List BKR) (v:List Rat),(lU bl v).length<=v.length
 |[],v=>by simp[lU]
 |_::_,[]=>by simp[lU]
 |b::bl,q::v=>by
  have:=yC bl v;rw[lU];split<;>simp<;>omega
theorem Dw (l:List Int)(x:Int):u5 (l++[x])=iO (u5 l) x:=by rw[u5,u5,List.foldl_append];rfl
set_option maxRecDepth 20000 in
theorem AP (d:DKR)(v:List Rat)(hl:v.length<=d.bl.length)(hm:v.length<=1000)(hv:∀q∈v,hq q 7000000)(b:Rat)(hb:hq b 7000000):Ret Tryz.prog .shared 139 [.agg (fS d),.sl ((v.map ofQ).map eR),.agg (eR (ofQ b))] (I (k9 d.bl v b)):=by
 have hml:((v.map ofQ).map eR).length=v.length:=ah;have sb:=vJ (ofQ b) (hx:=Vq.ofQ (h:=⟨hb⟩)) Y;have hbz:=gA b;generalize hf:k9 d.bl v b=E;obtain⟨s,den,bl,zn,gm,oh⟩:=d;simp only at *
 refine Ret.of_pwp layOk mixed Go.Proofs.Tryz.func139 O Y O O ?_;refine H ?_;rw[hml];refine ap (fun i:Nat=>i<=v.length) (fun i=>[(1,.sl ((v.map ofQ).map eR)),(3,.ptr 3 1 0 0),(5,.ptr 5 1 0 0),(7,I (u5 (lU (bl.take i) (v.take i))).1),(8,I (u5 (lU (bl.take i) (v.take i))).2),(11,.sl ((v.map ofQ).map eR)),(12,I v.length),(13,I (i:Nat))])
  (fun _=>[(3,1,⟨31,14,[fS ⟨s,den,bl,zn,gm,oh⟩],2⟩),(5,1,⟨42,4,[eR (ofQ b)],2⟩)]) (fun i=>v.length-i) 0 (Nat.zero_le _) ⟨O,O,O,by rw[List.take_zero,List.take_zero];rfl,by rw[List.take_zero,List.take_zero];rfl,O,O,O,O,O,trivial⟩ ?_
 intro i s1 hi;refine D ?_ ?_<;>intro h
 .have hlt:i<v.length:=by have:=aC h;omega
  clear h;obtain⟨q,hq⟩:=aJ hlt;obtain⟨c,hc⟩:=aJ (show i<bl.length by omega);have hx:(v.map ofQ)[i]? = some (ofQ q):=by rw[List.getElem?_map,hq];rfl
  have sq:=vJ (ofQ q) (hx:=Vq.ofQ (h:=⟨hv q (bc hq)⟩)) Y;have hqz:=gA q;have hsn:=uE hc hq;have hple:=JO (lU (bl.take i) (v.take i));have hpl2:=yC (bl.take i) (v.take i);rw[List.length_take]at hpl2;have hw:=fc i;have hwp:IntKind.i64.wrap ((u5 (lU (bl.take i) (v.take i))).2+1)=(u5 (lU (bl.take i) (v.take i))).2+1:=wrap_i64 J J;have hph:=Dw (lU (bl.take i) (v.take i)) c.x;rw[iO]at hph;clear hple hpl2;generalize lU (bl.take i) (v.take i)=A at *
  generalize hAn:(u5 A).2=P at *
  generalize hAx:(u5 A).1=X at *
  generalize sgn q=g at *
  generalize ofQ q=qq at *
  refine aS hx ?_;refine ar sq ?_;refine H ?_;by_cases h0:g=0
  .have hq0:=hqz.1 h0;subst h0;refine H ?_;refine⟨i+1,hlt,J,O,O,O,?_,?_,O,O,congrArg I hw,O,O,trivial⟩
   .rw[hsn,if_neg (by simpa using hq0),List.append_nil,hAx];rfl
   .rw[hsn,if_neg (by simpa using hq0),List.append_nil,hAn];rfl
  have hq0:q≠0:=fun e=>h0 (hqz.2 e);rw[if_pos hq0]at hsn;rw[decide_eq_false h0];refine H ?_;by_cases hP:P=0
  .rw[if_pos (.inl hP)]at hph;rw[decide_eq_true hP];refine aS hc ?_;refine H ?_;rw[hwp];refine⟨i+1,hlt,J,O,O,O,?_,?_,O,O,congrArg I hw,O,O,trivial⟩
   .rw[hsn,hph];rfl
   .rw[hsn,hph];rfl
  rw[decide_eq_false hP];refine aS hc ?_;refine D ?_ ?_<;>intro h
  .have hX:c.x≠X:=by simpa using h
   clear h;rw[if_pos (.inr hX)]at hph;refine aS hc ?_;refine H ?_;rw[hwp];refine⟨i+1,hlt,J,O,O,O,?_,?_,O,O,congrArg I hw,O,O,trivial⟩
   .rw[hsn,hph];rfl
   .rw[hsn,hph];rfl
  .have hX:c.x=X:=by simpa using h
   clear h;rw[if_neg (fun e=>e.elim hP fun e=>e hX)]at hph;refine H ?_;refine⟨i+1,hlt,J,O,O,O,?_,?_,O,O,congrArg I hw,O,O,trivial⟩
   .rw[hsn,hph,hAx];rfl
   .rw[hsn,hph,hAn];rfl
 have hie:i=v.length:=by have:=aG h;omega
 clear h;subst hie;have hA:lU (bl.take v.length) (v.take v.length)=lU bl v:=by
  rw[List.take_length];have key:∀(v:List Rat) (bl:List BKR),lU (bl.take v.length) v=lU bl v:=by
   intro v
   induction v with
   |nil=>intro bl;cases bl<;>simp[lU]
   |cons q v ih=>intro bl;cases bl with
    |nil=>simp[lU]
    |cons b bl=>simp only[List.length_cons,List.take_succ_cons,lU,ih]
  exact key v bl
 rw[hA];rw[k9]at hf;generalize (u5 (lU bl v)).1=X at *
 generalize (u5 (lU bl v)).2=P at *
 clear hA;refine H ?_;by_cases h0:P=0
 .rw[if_pos h0]at hf;rw[decide_eq_true h0];subst hf;exact cp
 rw[if_neg h0]at hf;rw[decide_eq_false h0];refine H ?_;by_cases h1:P=1
 .rw[if_pos h1]at hf;rw[decide_eq_true h1];subst hf;exact cp
 rw[if_neg h1]at hf;rw[decide_eq_false h1];refine ar sb ?_;refine H ?_;by_cases h2:b=0
 .rw[if_pos h2]at hf;rw[decide_eq_true (hbz.2 h2)];subst hf;exact cp
 .rw[if_neg h2]at hf;rw[decide_eq_false (fun e=>h2 (hbz.1 e))];subst hf;exact cp
structure STQ where
 km:RR
 kg:RR
 gm:RR
 ot:RR
def Fx (x:STQ):List PV:=eR x.km++eR x.kg++eR x.gm++eR x.ot
def HV:STQ:=⟨RR.zero,RR.zero,RR.zero,RR.zero⟩
structure DQ where
 lv:RR
 a:AR
 F:List RR
 up:RR
 bu:RR
 s:STQ
 held:Bool
 ph:Int
def yw (x:DQ):List PV:=eR x.lv++eA x.a++[.sl (x.F.map eR)]++eR x.up++eR x.bu++Fx x.s++[.bool x.held,I x.ph]
def BF:List PV:=zN++zN++zN++zN
def Je:List PV:=zN++(zN++zN)++[.nil]++zN++zN++BF++[.bool false,I 0]
def dZ:DQ:=⟨RR.zero,zA,[],RR.zero,RR.zero,HV,false,0⟩
theorem wo:WeakL BF (Fx HV):=((cK.app cK).app cK).app cK
theorem qf:WeakL Je (yw dZ):=((((((cK.app (cK.app cK)).app (.cons .nil .nil)).app cK).app cK).app wo).app (WeakL.refl _))
def bF (l:List Rat):Rat:=l.foldl (·+·) 0
theorem ni (l:List Rat)(x:Rat):bF (l++[x])=bF l+x:=by rw[bF,List.foldl_append];rfl
theorem tq {N:Nat}{l:List Rat}(h:∀q∈l,hq q N):hq (bF l) ((N+1)*l.length+4):=by
 have key:∀(l:List Rat) (a:Rat) (m:Nat),hq a m->(∀q∈l,hq q N)->hq (l.foldl (·+·) a) (m+(N+1)*l.length):=by
  intro l
  induction l with
  |nil=>intro a m ha _;simpa using ha
  |cons x l ih =>
   intro a m ha hl;rw[List.foldl_cons,List.length_cons];have:=ih (a+x) (m+N+1) (@HQ.add a x m N ⟨ha⟩ ⟨hl x List.mem_cons_self⟩).ok fun q hq=>hl q (List.mem_cons_of_mem _ hq);rwa [show m+N+1+(N+1)*l.length=m+(N+1)*(l.length+1) by rw[Nat.mul_add];omega]at this
 have:=key l 0 4 HQ.zero.ok h;rwa [Nat.add_comm]at this
def dT:List BKR->List Rat->Bool
 |b::l,q::v=>(b.side&&decide (q≠0))||dT l v
 |_,_=>false
theorem o0:∀ {bl:List BKR} {v:List Rat} {k:Nat} {b:BKR} {q:Rat},bl[k]? = some b->v[k]? = some q->dT bl (v.take (k+1))=(dT bl (v.take k)||(b.side&&decide (q≠0)))
 |[],_,k,b,q,h,_=>by simp at h
 |c::bl,[],k,b,q,_,h=>by simp at h
 |c::bl,p::v,0,b,q,h1,h2=>by
  simp at h1 h2;subst h1 h2;cases bl<;>simp[dT]
 |c::bl,p::v,k+1,b,q,h1,h2=>by
  have ih:=o0 (bl:=bl) (v:=v) (k:=k) (b:=b) (q:=q) (by simpa using h1) (by simpa using h2);rw[List.take_succ_cons,List.take_succ_cons,dT,dT,ih,Bool.or_assoc]
theorem kQ:∀ {bl:List BKR} {v:List Rat} {k:Nat},bl.length<=k->dT bl (v.take k)=dT bl v
 |[],v,k,_=>by simp[dT]
 |c::bl,[],k,_=>by simp
 |c::bl,p::v,0,h=>by simp at h
 |c::bl,p::v,k+1,h=>by rw[List.take_succ_cons,dT,dT,kQ (by simpa using h)]
def Kg (p az at':RR)(F:List (List PV))(u b:RR)(h:Bool):List PV:=eR p++(eR az++eR at')++[.sl F]++eR u++eR b++BF++[.bool h,I 0]
def Jw (d:DKR)(p:Rat)(a:AR)(v:List Rat)(s:STQ):DQ :=
 ⟨ofQ p,a,(v.take d.bl.length).map ofQ,ofQ (bF (v.take d.bl.length)),ofQ (bF (v.drop d.bl.length)),s,dT d.bl v,k9 d.bl (v.take d.bl.length) (bF (v.drop d.bl.length))⟩
set_option maxRecDepth 20000 in
theorem xR (d:DKR)(lv:RR){p:Rat}(hsup:Ret Tryz.prog .shared 97 [.agg (fS d),.agg (eR lv)] (.sl ((bX d p).map eS)))(B:BR)(e:Int)(he:e≠0)(h95:Ret Tryz.prog .shared 95 [.agg (fF d.s),.sl ((bX d p).map eS)] (.tup [.agg (eB B),I e])) :
  Ret Tryz.prog .shared 74 [.agg (fS d),.agg (eR lv)] (.tup [.agg (yw dZ),I e]):=by
 refine Ret.weak (r' := .tup [.agg Je,I e]) ?_ (WeakL.refl _) (WeakL.tup (.cons qf.agg (WeakL.refl _)));generalize (bX d p).map eS=W at *
 obtain⟨s,den,bl,zn,gm,oh⟩:=d;simp only at *
 refine Ret.of_pwp layOk mixed Go.Proofs.Tryz.func74 O Y O O ?_;refine H ?_;refine fy [(9,6),(10,6)] aT aT ?_;refine G hsup ?_;refine G h95 ?_;refine H ?_;refine EZ O O O O O ?_;refine E0 2 O O O O O O (fun _=>rfl) aI O O O O ?_;refine D ?_ ?_<;>intro h
 .clear h;exact bV
 .simp at h;exact absurd h he
set_option maxRecDepth 20000 in
theorem xP (d:DKR)(lv:RR){p:Rat}(hsup:Ret Tryz.prog .shared 97 [.agg (fS d),.agg (eR lv)] (.sl ((bX d p).map eS)))(B:BR)(h95:Ret Tryz.prog .shared 95 [.agg (fF d.s),.sl ((bX d p).map eS)] (.tup [.agg (eB B),I 0]))
  (Q:SQ) (he:Q.e≠0) (h78:Ret Tryz.prog .shared 78 [.agg (eB B)] Q.pv):Ret Tryz.prog .shared 74 [.agg (fS d),.agg (eR lv)] (.tup [.agg (yw dZ),I Q.e]):=by
 refine Ret.weak (r' := .tup [.agg Je,I Q.e]) ?_ (WeakL.refl _) (WeakL.tup (.cons qf.agg (WeakL.refl _)));generalize (bX d p).map eS=W at *
 obtain⟨s,den,bl,zn,gm,oh⟩:=d;obtain⟨⟨az,at'⟩,F,⟨rz,rt⟩,e⟩:=Q;simp only[SQ.pv]at *
 refine Ret.of_pwp layOk mixed Go.Proofs.Tryz.func74 O Y O O ?_;refine H ?_;refine fy [(9,6),(10,6)] aT aT ?_;refine G hsup ?_;refine G h95 ?_;refine H ?_;refine EZ O O O O O ?_;refine E0 2 O O O O O O (fun _=>rfl) aI O O O O ?_;refine G h78 ?_;refine D ?_ ?_<;>intro h
 .clear h;exact bV
 .simp at h;exact absurd h he
set_option maxRecDepth 20000 in
set_option maxHeartbeats 16000000 in
theorem vR (d:DKR)(lv:RR){p:Rat}{n:Nat}[hlv:Vq lv p n](hn:n<=1000000)(hsup:Ret Tryz.prog .shared 97 [.agg (fS d),.agg (eR lv)] (.sl ((bX d p).map eS)))(B:BR)(h95:Ret Tryz.prog .shared 95 [.agg (fF d.s),.sl ((bX d p).map eS)] (.tup [.agg (eB B),I 0]))
  (az at' rz rt:RR) (v:List Rat) (hv:∀q∈v,hq q 100000) (hvl:d.bl.length<=v.length) (hv64:v.length<=64) (h78:Ret Tryz.prog .shared 78 [.agg (eB B)] (.tup [.agg (mG ⟨az,at'⟩ (v.map ofQ)),.agg (eR rz++eR rt),I 0])) (T:STQ)
  {nz:Nat} {z:Rat} [hz:Vq az z nz] (hnz:nz<=1000000)
  (hT:bF (v.drop d.bl.length)≠0->Ret Tryz.prog .shared 138 [.agg (fF d.s),.agg (eR (ofQ (z+p))++eR at'),.agg ([I d.d]++eR (ofQ (bF (v.take d.bl.length))))] (.tup [.agg (Fx T),I 0])) (hT0:bF (v.drop d.bl.length)=0->T=HV) :
  Ret Tryz.prog .shared 74 [.agg (fS d),.agg (eR lv)] (.tup [.agg (yw (Jw d p ⟨az,at'⟩ v T)),I 0]):=by
 have e1:=JH lv (hx:=hlv) J;have e2:=wE ((v.take d.bl.length).map ofQ) (by rw[List.length_map,List.length_take];omega);have e3:=lx 0 ⟨Y,Y⟩;rw[show((0:Int):Rat)=0 from O]at e3;have e4:=cJ az lv (hx:=hz) (hy:=hlv) J J;have hvt:∀i,∀q∈v.take i,hq q 100000:=fun i q hq=>hv q (List.mem_of_mem_take hq);have hs1:∀i,hq (bF ((v.take i).take d.bl.length)) 6500000:=fun i=>by
  have:=tq (N:=100000) (l:=(v.take i).take d.bl.length) fun q hq=>hvt i q (List.mem_of_mem_take hq);refine(HQ.mono (q:=bF ((v.take i).take d.bl.length)) (h:=⟨this⟩) ?_).ok;rw[List.length_take,List.length_take];have:min d.bl.length (min i v.length)<=64:=J;have:=Nat.mul_le_mul_left (100000+1) this;omega
 have hs2:∀i,hq (bF ((v.take i).drop d.bl.length)) 6500000:=fun i=>by
  have:=tq (N:=100000) (l:=(v.take i).drop d.bl.length) fun q hq=>hvt i q (List.mem_of_mem_drop hq);refine(HQ.mono (q:=bF ((v.take i).drop d.bl.length)) (h:=⟨this⟩) ?_).ok;rw[List.length_drop,List.length_take];have:min i v.length-d.bl.length<=64:=J;have:=Nat.mul_le_mul_left (100000+1) this;omega
 have hp:=AP d (v.take d.bl.length) (by rw[List.length_take];omega) (by rw[List.length_take];omega) (fun q hq=>(HQ.mono (q:=q) (h:=⟨hvt _ q hq⟩) Y).ok) (bF (v.drop d.bl.length)) (by
  have:=hs2 v.length;rw[List.take_length]at this
  exact(HQ.mono (q:=bF (v.drop d.bl.length)) (h:=⟨this⟩) Y).ok)
 have hsg:=vJ (ofQ (bF (v.drop d.bl.length))) (hx:=Vq.ofQ (h:=⟨by have:=hs2 v.length;rwa [List.take_length]at this⟩)) Y;have hsz:=gA (bF (v.drop d.bl.length));have hml:((v.map ofQ).map eR).length=v.length:=ah;have hmb:(d.bl.map j_).length=d.bl.length:=ah;have htk:(v.take d.bl.length).map ofQ=(v.map ofQ).take d.bl.length:=List.map_take;rw[Jw];obtain⟨s,den,bl,zn,gm,oh⟩:=d;simp only at *
 obtain⟨R,hR0,hR1,hRw⟩:∃R,(bF (v.drop bl.length)=0->R=BF)/\(bF (v.drop bl.length)≠0->R=Fx T)/\WeakL R (Fx T):=by
  by_cases h:bF (v.drop bl.length)=0
  .exact⟨BF,fun _=>rfl,fun g=>absurd h g,by rw[hT0 h];exact wo⟩
  .exact⟨Fx T,fun g=>absurd g h,fun _=>rfl,WeakL.refl _⟩
 refine Ret.weak (r' := .tup [.agg (eR (ofQ p)++(eR az++eR at')++[.sl (((v.take bl.length).map ofQ).map eR)]++eR (ofQ (bF (v.take bl.length)))++eR (ofQ (bF (v.drop bl.length)))++R++[.bool (dT bl v),I (k9 bl (v.take bl.length) (bF (v.drop bl.length)))]),I 0]) ?_ (WeakL.refl _) (WeakL.tup (.cons (((WeakL.refl _).app hRw).app (WeakL.refl _)).agg (WeakL.refl _)));clear hRw hT0;generalize hW:(bX ⟨s,den,bl,zn,gm,oh⟩ p).map eS=W at *
 generalize k9 bl (v.take bl.length) (bF (v.drop bl.length))=PH at *
 generalize hQp:ofQ p=Qp at *
 generalize hQz:ofQ (z+p)=Qz at *
 clear hW;refine Ret.of_pwp layOk mixed Go.Proofs.Tryz.func74 O Y O O ?_;refine H ?_;refine fy [(9,6),(10,6)] aT aT ?_;refine G hsup ?_;refine G h95 ?_;refine H ?_;refine EZ O O O O O ?_;refine E0 2 O O O O O O (fun _=>rfl) aI O O O O ?_;refine G h78 ?_;refine H ?_;refine aZ 13 1 [41,42,43,44,45,46,47,48,49,50,51,52,53,11] [] aT O ?_;refine G e1 ?_;refine H ?_;rw[hmb];refine bE O O (mT (l:=v.map ofQ) (enc:=eR) (n:=((bl.length:Nat):Int)) O O O O O J (by rw[List.length_map];omega) (fun _=>rfl)) ?_;rw[Int.toNat_natCast,<-htk];refine G e2 ?_;refine G e3 ?_;refine G e3 ?_;refine H ?_;rw[hml];have z0:dT bl (v.take 0)=false:=by cases bl<;>rfl
 have z1:bF ((v.take 0).take bl.length)=0:=by rw[List.take_zero,List.take_nil];rfl
 have z2:bF ((v.take 0).drop bl.length)=0:=by rw[List.take_zero,List.drop_nil];rfl
 refine bH [(2,.ptr 2 1 0 0),(3,.ptr 3 1 0 0),(4,.ptr 4 1 0 0),(8,.ptr 8 1 0 0),(10,I bl.length),(11,.ptr 11 1 0 0),(55,.sl ((v.map ofQ).map eR)),(56,I v.length),(57,I ((0:Nat):Int))] [(2,1,⟨31,14,[fS ⟨s,den,bl,zn,gm,oh⟩],2⟩),(3,1,⟨42,4,[eR lv],2⟩),(4,1,⟨50,39,[Je],2⟩),(8,1,⟨69,9,[mG ⟨az,at'⟩ (v.map ofQ)],2⟩),(11,1,⟨50,39,[Kg Qp az at' (((v.take bl.length).map ofQ).map eR) (ofQ 0) (ofQ 0) false],2⟩)] ⟨O,O,O,O,O,O,O,O,O,O,O,O,O,O,trivial⟩ ?_;intro s0;refine ap (fun i:Nat=>i<=v.length) (fun i=>[(2,.ptr 2 1 0 0),(3,.ptr 3 1 0 0),(4,.ptr 4 1 0 0),(8,.ptr 8 1 0 0),(10,I bl.length),(11,.ptr 11 1 0 0),(55,.sl ((v.map ofQ).map eR)),(56,I v.length),(57,I (i:Nat))]) (fun i=>[(2,1,⟨31,14,[fS ⟨s,den,bl,zn,gm,oh⟩],2⟩),(3,1,⟨42,4,[eR lv],2⟩),(4,1,⟨50,39,[Je],2⟩),(8,1,⟨69,9,[mG ⟨az,at'⟩ (v.map ofQ)],2⟩),(11,1,⟨50,39,[Kg Qp az at' (((v.take bl.length).map ofQ).map eR) (ofQ (bF ((v.take i).take bl.length))) (ofQ (bF ((v.take i).drop bl.length))) (dT bl (v.take i))],2⟩)]) (fun i=>v.length-i) 0 (Nat.zero_le _) ⟨O,O,O,O,O,O,O,O,O,O,O,O,O,by rw[z0,z1,z2];rfl,trivial⟩ ?_;clear z1 z2;intro i s1 hi;refine D ?_ ?_<;>intro h
 .have hlt:i<v.length:=by have:=aC h;omega
  clear h;obtain⟨q,hq⟩:=aJ hlt;have hx:(v.map ofQ)[i]? = some (ofQ q):=by rw[List.getElem?_map,hq];rfl
  have hqs:=hv q (bc hq);have sq:=vJ (ofQ q) (hx:=Vq.ofQ (h:=⟨hqs⟩)) Y;have hqz:=gA q;have a1:=cJ (ofQ (bF ((v.take i).take bl.length))) (ofQ q) (hx:=Vq.ofQ (h:=⟨hs1 i⟩)) (hy:=Vq.ofQ (h:=⟨hqs⟩)) Y Y;have a2:=cJ (ofQ (bF ((v.take i).drop bl.length))) (ofQ q) (hx:=Vq.ofQ (h:=⟨hs2 i⟩)) (hy:=Vq.ofQ (h:=⟨hqs⟩)) Y Y;have hw:=fc i;have htn:v.take (i+1)=v.take i++[q]:=bC hq;have hil:(v.take i).length=i:=by rw[List.length_take];omega
  refine aS hx ?_;refine D ?_ ?_<;>intro h
  .have hin:i<bl.length:=by have:=aC h;omega
   clear h;obtain⟨c,hc⟩:=aJ hin;have hu:bF ((v.take (i+1)).take bl.length)=bF ((v.take i).take bl.length)+q:=by rw[htn,show(v.take i++[q]).take bl.length=v.take i++[q] from List.take_of_length_le (by rw[List.length_append,hil];exact hin),show(v.take i).take bl.length=v.take i from List.take_of_length_le J,ni]
   have hb:bF ((v.take (i+1)).drop bl.length)=bF ((v.take i).drop bl.length):=by rw[htn,show(v.take i++[q]).drop bl.length=[] from List.drop_of_length_le (by rw[List.length_append,hil];exact hin),show(v.take i).drop bl.length=[] from List.drop_of_length_le J]
   have hh:=o0 hc hq;generalize bF ((v.take i).take bl.length)=U at *
   generalize bF ((v.take i).drop bl.length)=Bq at *
   generalize dT bl (v.take i)=H0 at *
   generalize hU2:ofQ (U+q)=U2 at *
   generalize ofQ U=U1 at *
   generalize hB1:ofQ Bq=B1 at *
   generalize sgn q=g1 at *
   refine G a1 ?_;refine H ?_;cases H0
   rotate_left
   .refine H ?_;exact⟨i+1,hlt,J,O,O,O,O,O,O,O,O,congrArg I hw,O,O,O,O,by rw[hu,hb,hh,hU2,hB1];rfl,trivial⟩
   refine aS hc ?_;refine H ?_;cases hsd:c.side
   .rw[hsd]at hh;refine H ?_;exact⟨i+1,hlt,J,O,O,O,O,O,O,O,O,congrArg I hw,O,O,O,O,by rw[hu,hb,hh,hU2,hB1];rfl,trivial⟩
   rw[hsd]at hh;refine ar sq ?_;refine H ?_;by_cases h0:g1=0
   .rw[decide_eq_false (show ¬q≠0 from fun g=>g (hqz.1 h0))]at hh;subst h0;refine H ?_;exact⟨i+1,hlt,J,O,O,O,O,O,O,O,O,congrArg I hw,O,O,O,O,by rw[hu,hb,hh,hU2,hB1];rfl,trivial⟩
   .rw[decide_eq_true (show q≠0 from fun g=>h0 (hqz.2 g))]at hh;rw[decide_eq_false h0];refine H ?_;exact⟨i+1,hlt,J,O,O,O,O,O,O,O,O,congrArg I hw,O,O,O,O,by rw[hu,hb,hh,hU2,hB1];rfl,trivial⟩
  .have hin:bl.length<=i:=by have:=aG h;omega
   clear h;have hu:bF ((v.take (i+1)).take bl.length)=bF ((v.take i).take bl.length):=by rw[htn,List.take_append_of_le_length J]
   have hb:bF ((v.take (i+1)).drop bl.length)=bF ((v.take i).drop bl.length)+q:=by rw[htn,List.drop_append_of_le_length J,ni]
   have hh:dT bl (v.take (i+1))=dT bl (v.take i):=by rw[kQ J,kQ hin]
   generalize bF ((v.take i).take bl.length)=U at *
   generalize bF ((v.take i).drop bl.length)=Bq at *
   generalize dT bl (v.take i)=H0 at *
   generalize hB2:ofQ (Bq+q)=B2 at *
   generalize hU1:ofQ U=U1 at *
   generalize ofQ Bq=B1 at *
   refine G a2 ?_;refine H ?_;exact⟨i+1,hlt,J,O,O,O,O,O,O,O,O,congrArg I hw,O,O,O,O,by rw[hu,hb,hh,hU1,hB2];rfl,trivial⟩
 have hie:i=v.length:=by have:=aG h;omega
 clear h;subst hie;rw[List.take_length];clear hs1 hs2 hvt hml z0;generalize bF (v.take bl.length)=U at *
 generalize hBq:bF (v.drop bl.length)=Bq at *
 generalize dT bl v=H0 at *
 generalize sgn Bq=g1 at *
 generalize ofQ U=U1 at *
 generalize ofQ Bq=B1 at *
 generalize hFL:(v.take bl.length).map ofQ=FL at *
 refine ar hsg ?_;refine H ?_;by_cases h0:g1=0
 .have hB0:=hsz.1 h0;have hRe:=hR0 hB0;subst hRe;rw[decide_eq_true h0];refine ar hp ?_;exact bV
 .have hB0:Bq≠0:=fun e=>h0 (hsz.2 e);have hRe:=hR1 hB0;have hTr:=hT hB0;clear hT;subst hRe;rw[decide_eq_false h0]
  (repeat ((fail_if_success (with_reducible refine aQ 18 ?_));refine cx O ?_))
  refine aE (fM 14) ?_;refine aZ 9 1 [96,97,98,99,100,101,102,103,104,14] [] aT O ?_;refine G e4 ?_;refine G hTr ?_;refine ar hp ?_;exact bV
set_option maxRecDepth 20000 in
theorem B6 (d:DKR)(hd:d.Ok)(he:wr d≠0)(lv:RR):Ret Tryz.prog .shared 21 [.agg (fS d),.agg (eR lv)] (.tup [.agg (yw dZ),I (wr d)]):=by
 have h1:=kH d hd;refine Ret.weak (r' := .tup [.agg Je,I (wr d)]) ?_ (WeakL.refl _) (WeakL.tup (.cons qf.agg (WeakL.refl _)));generalize wr d=e at *
 refine Ret.of_pwp layOk mixed Go.Proofs.Tryz.func21 O Y O O ?_;refine ar h1 ?_;refine D ?_ ?_<;>intro h
 .clear h;exact bV
 .simp at h;exact absurd h he
set_option maxRecDepth 20000 in
theorem B7 (d:DKR)(hd:d.Ok)(hE:wr d=0)(lv:RR)(x:DQ)(e:Int)(h74:Ret Tryz.prog .shared 74 [.agg (fS d),.agg (eR lv)] (.tup [.agg (yw x),I e])):Ret Tryz.prog .shared 21 [.agg (fS d),.agg (eR lv)] (.tup [.agg (yw x),I e]):=by
 have h1:=kH d hd;rw[hE]at h1;refine Ret.of_pwp layOk mixed Go.Proofs.Tryz.func21 O Y O O ?_;refine ar h1 ?_;refine G h74 ?_;exact bV
def gF:List Rat->Rat
 |[]=>0
 |q::l=>l.foldl (fun m x=>if m<x then x else m) q
theorem AG (l:List Rat)(x:Rat)(h:l≠[]):gF (l++[x])=if gF l<x then x else gF l:=by
 cases l with
 |nil=>exact absurd rfl h
 |cons q l=>rw[List.cons_append,gF,gF,List.foldl_append];rfl
def dN (z t:Rat)(s:SR):Rat:=s.c.val+(z+t*(s.x:Rat))
def xt (W:List SR)(z t:Rat)(i:Nat):List PV:=if i=0 then zN else eR (ofQ (gF ((W.take i).map (dN z t))))
theorem Db:∀(l:List Rat),l≠[]->gF l∈l
 |[],h=>absurd rfl h
 |q::l,_=>by
  rw[gF];have key:∀(l:List Rat) (a:Rat),l.foldl (fun m x=>if m<x then x else m) a∈a::l:=by
   intro l
   induction l with
   |nil=>intro a;simp
   |cons x l ih =>
    intro a;rw[List.foldl_cons];have:=ih (if a<x then x else a);rcases List.mem_cons.1 this with h|h
    .rw[h];split<;>simp
    .exact List.mem_cons_of_mem _ (List.mem_cons_of_mem _ h)
  exact key l q
set_option maxRecDepth 20000 in
theorem EO (d:DKR)(hd:d.Ok)(hE:wr d=0)(hk:d.Bl)(hb:d.bl≠[])(az at' rz rt:RR)(F:List RR){z t:Rat}{n m:Nat}[ha:Va ⟨az,at'⟩ z t n m](hn:n<=1000000)(hm:m<=1000000)
  (h31:Ret Tryz.prog .shared 31 [.agg (fF d.s),I d.d] (.tup [.agg (mG ⟨az,at'⟩ F),.agg (eR rz++eR rt),I 0])):Ret Tryz.prog .shared 30 [.agg (fS d)] (.tup [.agg (eR (ofQ (gF ((cG d.s.st d.bl).map (dN z t))))),I 0]):=by
 have h1:=kH d hd;rw[hE]at h1;have h2:=wD d hk;have hml:(d.bl.map j_).length=d.bl.length:=ah;have hpos:=List.length_pos_iff.2 hb;have hbl:¬((d.bl.map j_).length:Int)=0:=J;have hwl:(cG d.s.st d.bl).length=d.bl.length:=by rw[cG,List.length_map]
 have h40:=hk.m;have hC:∀s∈cG d.s.st d.bl,i64 s.x/\hq s.c.val 4/\Vq s.c s.c.val 4:=fun s hs=>by
  rw[cG]at hs;obtain⟨b,hbm,rfl⟩:=List.mem_map.1 hs;obtain⟨hin,-⟩:=hk.b b hbm;have hx:=hin.x;have hh:=hin.ht;have hbi:=lE hk.st b;have zb:Zb (b.ht-f8 d.s.st b):=aK J J;refine⟨⟨by show -9223372036854775808<=b.x;omega,by show b.x<=9223372036854775807;omega⟩,?_,?_⟩
  .show hq (ofQ ((b.ht-f8 d.s.st b:Int):Rat)).val 4;rw[ofQ_val];exact HQ.int.ok
  .show Vq (ofQ ((b.ht-f8 d.s.st b:Int):Rat)) (ofQ ((b.ht-f8 d.s.st b:Int):Rat)).val 4;rw[ofQ_val];exact Vq.ofQ (h:=HQ.int)
 have hW0:cG d.s.st d.bl≠[]:=fun e=>by rw[e]at hwl;simp at hwl;omega
 have hmw:((cG d.s.st d.bl).map eS).length=(cG d.s.st d.bl).length:=ah;obtain⟨s,den,bl,zn,gm,oh⟩:=d;simp only at *
 generalize cG s.st bl=W at *
 have hvh:∀s∈W,hq (dN z t s) (n+m+20):=fun s hs=>by
  obtain⟨hx,hc,-⟩:=hC s hs;have zb:Zb s.x:=aK hx.1 hx.2;exact(HQ.mono (h:=@HQ.add _ _ 4 (n+1+(m+1+4)+1) ⟨hc⟩ (@HQ.add _ _ (n+1) (m+1+4) ha.z.hq (@HQ.mul _ _ (m+1) 4 ha.t.hq HQ.int))) J).ok
 refine Ret.of_pwp layOk mixed Go.Proofs.Tryz.func30 O Y O O ?_;refine ar h1 ?_;refine H ?_;rw[decide_eq_false hbl];refine G h31 ?_;refine G h2 ?_;refine H ?_;rw[hmw];refine bH [(2,.ptr 2 1 0 0),(5,.ptr 5 1 0 0),(8,.ptr 8 1 0 0),(37,.sl (W.map eS)),(38,I W.length),(39,I ((0:Nat):Int))] [(2,1,⟨42,4,[zN],2⟩),(5,1,⟨69,9,[mG ⟨az,at'⟩ F],2⟩),(8,1,⟨42,4,[zN],2⟩)] ⟨O,O,O,O,O,O,O,O,O,trivial⟩ ?_;intro s0;refine ap (fun i:Nat=>i<=W.length) (fun i=>[(2,.ptr 2 1 0 0),(5,.ptr 5 1 0 0),(8,.ptr 8 1 0 0),(37,.sl (W.map eS)),(38,I W.length),(39,I (i:Nat))]) (fun i=>[(2,1,⟨42,4,[zN],2⟩),(5,1,⟨69,9,[mG ⟨az,at'⟩ F],2⟩),(8,1,⟨42,4,[xt W z t i],2⟩)]) (fun i=>W.length-i) 0 (Nat.zero_le _) ⟨O,O,O,O,O,O,O,O,O,trivial⟩ ?_;intro i s1 hi;refine D ?_ ?_<;>intro h
 .have hlt:i<W.length:=by have:=aC h;omega
  clear h;obtain⟨x,hx⟩:=aJ hlt;obtain⟨hxx,hxc,hxv⟩:=hC x (bc hx);have zb:Zb x.x:=aK hxx.1 hxx.2;have hxq:=hvh x (bc hx);have e1:=ur ⟨az,at'⟩ x.x hxx (z:=z) (t:=t) (n:=n) (m:=m) hn hm;have e2:=cJ x.c (ofQ (z+t*(x.x:Rat))) (hx:=hxv) (hy:=Vq.ofQ (h:=@HQ.add _ _ (n+1) (m+1+4) ha.z.hq (@HQ.mul _ _ (m+1) 4 ha.t.hq HQ.int))) J J;rw[show x.c.val+(z+t*(x.x:Rat))=dN z t x from O]at e2;have hw:=fc i;have hsn:(W.take (i+1)).map (dN z t)=(W.take i).map (dN z t)++[dN z t x]:=by rw[bC hx,List.map_append];rfl
  have hr1:xt W z t (i+1)=eR (ofQ (gF ((W.take (i+1)).map (dN z t)))):=by rw[xt,if_neg J]
  cases i with
  |zero =>
   have hm1:gF ((W.take (0+1)).map (dN z t))=dN z t x:=by rw[hsn];rfl
   rw[hm1]at hr1;generalize ofQ (dN z t x)=X at *
   generalize ofQ (z+t*(x.x:Rat))=Y0 at *
   refine aS hx ?_
   (repeat ((fail_if_success (with_reducible refine aQ 13 ?_));refine cx O ?_))
   refine aE (fM 11) ?_;refine aZ 8 1 [44,45,46,47,48,49,50,51,11] [] aT O ?_;refine G e1 ?_;refine G e2 ?_;refine H ?_;exact⟨0+1,hlt,J,O,O,O,O,O,congrArg I hw,O,O,by rw[hr1];rfl,trivial⟩
  |succ i =>
   have hr0:xt W z t (i+1)=eR (ofQ (gF ((W.take (i+1)).map (dN z t)))):=by rw[xt,if_neg J]
   have hne:(W.take (i+1)).map (dN z t)≠[]:=fun e=>by
    have:=congrArg List.length e;rw[List.length_map,List.length_take,List.length_nil]at this;omega
   have hmm:=Db _ hne;have hms:=AG _ (dN z t x) hne;rw[<-hsn]at hms;have hMq:hq (gF ((W.take (i+1)).map (dN z t))) (n+m+20):=by
    obtain⟨y,hy,hye⟩:=List.mem_map.1 hmm;rw[<-hye];exact hvh y (List.mem_of_mem_take hy)
   have e3:=i9 (ofQ (dN z t x)) (ofQ (gF ((W.take (i+1)).map (dN z t)))) (hx:=Vq.ofQ (h:=⟨hxq⟩)) (hy:=Vq.ofQ (h:=⟨hMq⟩)) J J;have hsg:=iS (dN z t x-gF ((W.take (i+1)).map (dN z t)));have hgt:0<dN z t x-gF ((W.take (i+1)).map (dN z t))↔gF ((W.take (i+1)).map (dN z t))<dN z t x:=by constructor<;>intro h<;>grind
   rw[hgt]at hsg;rw[hr0];rw[hms]at hr1;clear hms hgt hmm hMq;generalize hM:gF ((W.take (i+1)).map (dN z t))=M at *
   generalize hX:ofQ (dN z t x)=X at *
   generalize ofQ (z+t*(x.x:Rat))=Y0 at *
   generalize sgn (dN z t x-M)=g at *
   generalize hMM:ofQ M=MM at *
   refine aS hx ?_
   (repeat ((fail_if_success (with_reducible refine aQ 13 ?_));refine cx O ?_))
   refine aE (fM 11) ?_;refine aZ 8 1 [44,45,46,47,48,49,50,51,11] [] aT O ?_;refine G e1 ?_;refine G e2 ?_;refine H ?_;have hi0:¬(((i+1:Nat):Int))=0:=J;rw[decide_eq_false hi0];refine ar e3 ?_;refine D ?_ ?_<;>intro h
   .have hg:=hsg.1 (aC h);clear h;rw[if_pos hg]at hr1;refine H ?_;exact⟨i+1+1,hlt,J,O,O,O,O,O,congrArg I hw,O,O,by rw[hr1,hX];rfl,trivial⟩
   .have hg:¬M<dN z t x:=fun e=>(aG h) (hsg.2 e);clear h;rw[if_neg hg]at hr1;refine H ?_;exact⟨i+1+1,hlt,J,O,O,O,O,O,congrArg I hw,O,O,by rw[hr1,hMM];rfl,trivial⟩
 have hie:i=W.length:=by have:=aG h;omega
 clear h;subst hie;have hr:xt W z t W.length=eR (ofQ (gF (W.map (dN z t)))):=by rw[xt,if_neg J,List.take_length]
 rw[hr];generalize ofQ (gF (W.map (dN z t)))=X at *
 exact bV
def dO (x:Int):SR:=⟨x,ofQ 0,⟨[0,3000],[ofQ ((80:Int):Rat),ofQ 0]⟩⟩
def ff (x:Int):SR:=⟨x,ofQ ((1500:Int):Rat),⟨[0],[ofQ ((1000:Int):Rat)]⟩⟩
def r1:BR:=⟨320000,ofQ ((10000:Int):Rat),[dO 5000,dO 15000]⟩
def r2:BR:=⟨320000,ofQ ((10000:Int):Rat),[ff 5000,ff 15000,dO 5000,dO 15000]⟩
theorem Hy:(ofQ 0).sz 12:=kT (z:=0) ⟨Y,Y⟩
theorem zD {x:Int}(hx:i64 x):(dO x).Lim:=by
 refine⟨hx,Hy,⟨fun z hz=>?_,fun m hm=>?_,show 2<=1000000000 by decide,show 2<=1000000000 by decide⟩⟩
 .simp[dO]at hz;rcases hz with rfl|rfl<;>exact⟨Y,Y⟩
 .simp only[dO,List.mem_cons,List.not_mem_nil,or_false]at hm;rcases hm with rfl|rfl
  .exact kT ⟨Y,Y⟩
  .exact Hy
theorem Fe {x:Int}(hx:i64 x):(ff x).Lim:=by
 refine⟨hx,kT ⟨Y,Y⟩,⟨fun z hz=>?_,fun m hm=>?_,show 1<=1000000000 by decide,show 1<=1000000000 by decide⟩⟩
 .simp[ff]at hz;subst hz;exact⟨Y,Y⟩
 .simp only[ff,List.mem_singleton]at hm;subst hm;exact kT ⟨Y,Y⟩
theorem BB (x:Int):cN (dO x).k=0:=by
 have h:fO (dO x).k 0=0:=by
  rw[fO,if_neg,if_neg J];simp only[dO,List.getD_cons_zero,ofQ_val];decide
 have h1:fO (dO x).k 1=0:=by
  rw[fO,if_neg,if_neg]
  .simp[dO]
  .simp only[dO,List.getD_cons_zero,List.getD_cons_succ,ofQ_val];decide
 rw[cN,if_neg (show ¬40<(dO x).k.S.length by simp[dO]),if_neg (show ¬(dO x).k.M.length≠(dO x).k.S.length by simp[dO])];show eL (dO x).k 0 2=0;rw[eL,if_pos h,eL,if_pos h1,eL]
theorem zT (x:Int):cN (ff x).k=0:=by
 have h:fO (ff x).k 0=0:=by
  rw[fO,if_neg,if_neg J];simp only[ff,List.getD_cons_zero,ofQ_val];decide
 rw[cN,if_neg (show ¬40<(ff x).k.S.length by simp[ff]),if_neg (show ¬(ff x).k.M.length≠(ff x).k.S.length by simp[ff])];show eL (ff x).k 0 1=0;rw[eL,if_pos h,eL]
theorem zi {s:SR}(hx : -1000000<=s.x/\s.x<=1000000)(hc : -10000000<=s.c.val/\s.c.val<=10000000)(hk:cN s.k=0):mr s=0:=by
 rw[mr,if_neg,hk];rw[show((10000000:Int):Rat)=10000000 from O];rintro(h|h)
 .omega
 .grind
theorem ox {x:Int}(hx : -1000000<=x/\x<=1000000):mr (dO x)=0:=zi hx (by show -10000000<=(ofQ 0).val/\(ofQ 0).val<=10000000;rw[ofQ_val];decide) (BB x)
theorem yf {x:Int}(hx : -1000000<=x/\x<=1000000):mr (ff x)=0:=zi hx (by show -10000000<=(ofQ ((1500:Int):Rat)).val/\(ofQ ((1500:Int):Rat)).val<=10000000;rw[ofQ_val];decide) (zT x)
theorem DH:ci r1=0:=by
 rw[ci,if_neg]
 .rw[cH,if_neg Y];show cZ mr [dO 5000,dO 15000]=0;rw[cZ,if_pos (ox ⟨Y,Y⟩),cZ,if_pos (ox ⟨Y,Y⟩),cZ]
 .simp only[r1,ofQ_val];decide
theorem DI:ci r2=0:=by
 rw[ci,if_neg]
 .rw[cH,if_neg Y];show cZ mr [ff 5000,ff 15000,dO 5000,dO 15000]=0;rw[cZ,if_pos (yf ⟨Y,Y⟩),cZ,if_pos (yf ⟨Y,Y⟩),cZ,if_pos (ox ⟨Y,Y⟩),cZ,if_pos (ox ⟨Y,Y⟩),cZ]
 .simp only[r2,ofQ_val];decide
theorem HA:r1.Ok:=by
 refine⟨⟨⟨Y,Y⟩,kT ⟨Y,Y⟩,fun s hs=>?_,Y⟩,DH,Y,fun s hs=>?_⟩
 .simp only[r1,List.mem_cons,List.not_mem_nil,or_false]at hs;rcases hs with rfl|rfl<;>exact zD ⟨Y,Y⟩
 .simp only[r1,List.mem_cons,List.not_mem_nil,or_false]at hs;rcases hs with rfl|rfl<;>decide
theorem HC:r2.Ok:=by
 refine⟨⟨⟨Y,Y⟩,kT ⟨Y,Y⟩,fun s hs=>?_,Y⟩,DI,Y,fun s hs=>?_⟩
 .simp only[r2,List.mem_cons,List.not_mem_nil,or_false]at hs;rcases hs with rfl|rfl|rfl|rfl<;>first|exact zD ⟨Y,Y⟩|exact Fe ⟨Y,Y⟩
 .simp only[r2,List.mem_cons,List.not_mem_nil,or_false]at hs;rcases hs with rfl|rfl|rfl|rfl<;>decide
def wf (y:Rat):Rat:=if y<0 then 0 else if y<3000 then 80*y else 240000
def kf (y:Rat):Rat:=if y<0 then 0 else 1000*y
theorem nS (x:Int)(z t:Rat):fQ (dO x) z t=wf (z+t*(x:Rat)):=by
 rw[fQ,fK];show am (dc (dO x).k.s (dO x).k.m (yQ (dO x) z t)) 2=_;rw[am,am,am,dc,dc,yQ,bI,bI];show 0+(if (ofQ 0).val+(z+t*(x:Rat))-((0:Int):Rat)<0 then 0 else((ofQ ((80:Int):Rat)).val-0)*((ofQ 0).val+(z+t*(x:Rat))-((0:Int):Rat)))+(if (ofQ 0).val+(z+t*(x:Rat))-((3000:Int):Rat)<0 then 0 else((ofQ 0).val-(ofQ ((80:Int):Rat)).val)*((ofQ 0).val+(z+t*(x:Rat))-((3000:Int):Rat)))=_;simp only[ofQ_val];rw[show((0:Int):Rat)=0 from O,show((80:Int):Rat)=80 from O,show((3000:Int):Rat)=3000 from O,wf];grind
theorem zU (x:Int)(z t:Rat):fQ (ff x) z t=kf (1500+(z+t*(x:Rat))):=by
 rw[fQ,fK];show am (dc (ff x).k.s (ff x).k.m (yQ (ff x) z t)) 1=_;rw[am,am,dc,yQ,bI];show 0+(if (ofQ ((1500:Int):Rat)).val+(z+t*(x:Rat))-((0:Int):Rat)<0 then 0 else((ofQ ((1000:Int):Rat)).val-0)*((ofQ ((1500:Int):Rat)).val+(z+t*(x:Rat))-((0:Int):Rat)))=_;simp only[ofQ_val];rw[show((0:Int):Rat)=0 from O,show((1000:Int):Rat)=1000 from O,show((1500:Int):Rat)=1500 from O,kf];grind
theorem n5:((5000:Int):Rat)=5000:=rfl
theorem Hv:((15000:Int):Rat)=15000:=rfl
theorem vm (z t:Rat):(bd r1).F z t=wf (z+t*5000)+wf (z+t*15000):=by
 have e:(bd r1).F z t=(0+fQ (dO 5000) z t)+fQ (dO 15000) z t:=O;rw[e,nS,nS,n5,Hv];grind
theorem JW (z t:Rat):(bd r1).G0 z t=wf (z+t*5000)*5000+wf (z+t*15000)*15000:=by
 have e:(bd r1).G0 z t=(0+fQ (dO 5000) z t*((5000:Int):Rat))+fQ (dO 15000) z t*((15000:Int):Rat):=O;rw[e,nS,nS,n5,Hv];grind
theorem vq (z t:Rat):(bd r2).F z t=kf (1500+(z+t*5000))+kf (1500+(z+t*15000))+wf (z+t*5000)+wf (z+t*15000):=by
 have e:(bd r2).F z t=(((0+fQ (ff 5000) z t)+fQ (ff 15000) z t)+fQ (dO 5000) z t)+fQ (dO 15000) z t:=O;rw[e,nS,nS,zU,zU,n5,Hv];grind
theorem J_ (z t:Rat):(bd r2).G0 z t=kf (1500+(z+t*5000))*5000+kf (1500+(z+t*15000))*15000+wf (z+t*5000)*5000+wf (z+t*15000)*15000:=by
 have e:(bd r2).G0 z t=(((0+fQ (ff 5000) z t*((5000:Int):Rat))+fQ (ff 15000) z t*((15000:Int):Rat))+fQ (dO 5000) z t*((5000:Int):Rat))+fQ (dO 15000) z t*((15000:Int):Rat):=O;rw[e,nS,nS,zU,zU,n5,Hv];grind
theorem s8:(bd r1).w=320000:=rfl
theorem s9:(bd r2).w=320000:=rfl
theorem JV:(bd r1).A=10000:=by show(ofQ ((10000:Int):Rat)).val=10000;rw[ofQ_val];rfl
theorem J9:(bd r2).A=10000:=by show(ofQ ((10000:Int):Rat)).val=10000;rw[ofQ_val];rfl
theorem Hz:(bd r1).Least 2000 0:=⟨by rw[vm,s8];simp only[wf,kf];grind,fun z' h=>by rw[vm,s8];simp only[wf,kf];grind⟩
theorem J0:(bd r1).Least (-4000) 1:=⟨by rw[vm,s8];simp only[wf,kf];grind,fun z' h=>by rw[vm,s8];simp only[wf,kf];grind⟩
theorem JZ:(bd r1).Least 16000 (-1):=⟨by rw[vm,s8];simp only[wf,kf];grind,fun z' h=>by rw[vm,s8];simp only[wf,kf];grind⟩
theorem HB:(bd r2).Least (-1340) 0:=⟨by rw[vq,s9];simp only[wf,kf];grind,fun z' h=>by rw[vq,s9];simp only[wf,kf];grind⟩
theorem Ke:(bd r2).Least (-16180) 1:=⟨by rw[vq,s9];simp only[wf,kf];grind,fun z' h=>by rw[vq,s9];simp only[wf,kf];grind⟩
theorem Kd:(bd r2).Least 3820 (-1):=⟨by rw[vq,s9];simp only[wf,kf];grind,fun z' h=>by rw[vq,s9];simp only[wf,kf];grind⟩
theorem IG {z t:Rat}(h:(bd r1).Least z t):(bd r1).E t=wf (z+t*5000)*5000+wf (z+t*15000)*15000-320000*10000:=by
 rw[Bd.E,Bd.sg_eq h,Bd.e,JW,s8,JV]
theorem IK {z t:Rat}(h:(bd r2).Least z t):(bd r2).E t=kf (1500+(z+t*5000))*5000+kf (1500+(z+t*15000))*15000+wf (z+t*5000)*5000+wf (z+t*15000)*15000-320000*10000:=by
 rw[Bd.E,Bd.sg_eq h,Bd.e,J_,s9,J9]
theorem Dc {b:Bd}{z:Rat}(hl:b.Least z 0)(h0:b.E 0=0)(hm:b.E (-1)<0)(hp:0<b.E 1):b.eqQ 1=some (z,0):=by
 have d1:b.dbl (-1) 1 1=some 1:=by
  rw[Bd.dbl,if_neg];rw[show(-1:Rat)*1 = -1 by grind];grind
 have d2:b.dbl 1 1 1=some 1:=by
  rw[Bd.dbl,if_neg];rw[show(1:Rat)*1=1 by grind];grind
 have a0:b.at1 0=some (z,0):=by
  rw[Bd.at1,if_pos h0,Bd.sg_eq hl]
 rw[Bd.eqQ,d1,d2];dsimp only;rw[Bd.fst3,a0]
theorem JX:(bd r1).eqQ 1=some (2000,0):=Dc Hz (by rw[IG Hz];simp only[wf,kf];grind) (by rw[IG JZ];simp only[wf,kf];grind) (by rw[IG J0];simp only[wf,kf];grind)
theorem Ka:(bd r2).eqQ 1=some (-1340,0):=Dc HB (by rw[IK HB];simp only[wf,kf];grind) (by rw[IK Kd];simp only[wf,kf];grind) (by rw[IK Ke];simp only[wf,kf];grind)
theorem II:(bd r1).Bal 2000 0:=by
 have e:(bd r1).F 2000 0=(bd r1).w/\(bd r1).G0 2000 0=(bd r1).w*(bd r1).A:=by
  rw[vm,JW,s8,JV];simp only[wf,kf];constructor<;>grind
 exact e
theorem IL:(bd r2).Bal (-1340) 0:=by
 have e:(bd r2).F (-1340) 0=(bd r2).w/\(bd r2).G0 (-1340) 0=(bd r2).w*(bd r2).A:=by
  rw[vq,J_,s9,J9];simp only[wf,kf];constructor<;>grind
 exact e
theorem HT (y:Rat):0<=wf y:=by rw[wf];grind
theorem JY (t:Rat):∃z,(bd r1).w<=(bd r1).F z t:=by
 refine⟨3000+15000*(if t<0 then -t else t),?_⟩;rw[vm,s8];simp only[wf,kf];grind
theorem Kb (t:Rat):∃z,(bd r2).w<=(bd r2).F z t:=by
 refine⟨15000*(if t<0 then -t else t),?_⟩;have h1:=HT (15000*(if t<0 then -t else t)+t*5000);have h2:=HT (15000*(if t<0 then -t else t)+t*15000);rw[vq,s9];simp only[wf,kf];grind
theorem vo (t:Rat):(ko r1.l t).length<=19:=by
 rw[ko];show((jO t (dO 5000))++((jO t (dO 15000))++[])).length<=19;rw[jO,jO];simp[dO]
theorem vv (t:Rat):(ko r2.l t).length<=19:=by
 rw[ko];show((jO t (ff 5000))++((jO t (ff 15000))++((jO t (dO 5000))++((jO t (dO 15000))++[])))).length<=19;rw[jO,jO,jO,jO];simp[dO,ff]
theorem AV:bW r1.l=[5000,15000]:=by
 rw[bW];have:df (r1.l.map (·.x))=[5000,15000]:=List.mergeSort_of_pairwise Y;rw[this];decide
theorem AX:bW r2.l=[5000,15000]:=by
 rw[bW];have:df (r2.l.map (·.x))=[5000,5000,15000,15000]:=by
  show List.mergeSort [5000,15000,5000,15000] _=_;simp[List.mergeSort,List.MergeSort.Internal.splitInTwo,List.merge]
 rw[this];decide
theorem rp {s:SR}{z t A B k:Rat}(hr:rV s z t=k)(hl:lV s z t=k)(hk:k≠0)(h:A+B*(s.x:Rat)≠0):rn z t A B s=false:=by
 rw[rn,decide_eq_false];intro hn;apply hn;rw[hr,hl];rcases Classical.em (0<A+B*(s.x:Rat)) with g|g
 .exact .inl ⟨g,hk⟩
 .exact .inr ⟨aW,hk⟩
theorem EW {x:Int}{A B:Rat}(h:A+B*(x:Rat)≠0):rn 2000 0 A B (dO x)=false:=by
 have e:yQ (dO x) 2000 0=2000:=by
  show(ofQ 0).val+(2000+0*(x:Rat))=2000;rw[ofQ_val];grind
 have m:bI (dO x).k.m 1=80:=by
  show(ofQ ((80:Int):Rat)).val=80;rw[ofQ_val];rfl
 refine rp (k:=80) ?_ ?_ Y h
 .show bI (dO x).k.m (nF (dO x).k.s (yQ (dO x) 2000 0) 2)=80;rw[e,nF,if_neg (by show ¬((3000:Int):Rat)<=2000;decide),nF,if_pos (by show((0:Int):Rat)<=2000;decide),m]
 .show bI (dO x).k.m (ry (dO x).k.s (yQ (dO x) 2000 0) 2)=80;rw[e,ry,if_neg (by show ¬((3000:Int):Rat)<2000;decide),ry,if_pos (by show((0:Int):Rat)<2000;decide),m]
theorem Ca {x:Int}{A B:Rat}(h:A+B*(x:Rat)≠0):rn (-1340) 0 A B (ff x)=false:=by
 have e:yQ (ff x) (-1340) 0=160:=by
  show(ofQ ((1500:Int):Rat)).val+(-1340+0*(x:Rat))=160;rw[ofQ_val,show((1500:Int):Rat)=1500 from O];grind
 have m:bI (ff x).k.m 1=1000:=by
  show(ofQ ((1000:Int):Rat)).val=1000;rw[ofQ_val];rfl
 refine rp (k:=1000) ?_ ?_ Y h
 .show bI (ff x).k.m (nF (ff x).k.s (yQ (ff x) (-1340) 0) 1)=1000;rw[e,nF,if_pos (by show((0:Int):Rat)<=160;decide),m]
 .show bI (ff x).k.m (ry (ff x).k.s (yQ (ff x) (-1340) 0) 1)=1000;rw[e,ry,if_pos (by show((0:Int):Rat)<160;decide),m]
theorem Gl {A B:Rat}(h:A+B*5000≠0\/A+B*15000≠0):i6 r1.l 2000 0 A B=false:=by
 show(rn 2000 0 A B (dO 5000)&&(rn 2000 0 A B (dO 15000)&&true))=false;rcases h with h|h
 .rw[EW (x:=5000) (by rw[n5];exact h),Bool.false_and]
 .rw[EW (x:=15000) (by rw[Hv];exact h),Bool.false_and,Bool.and_false]
theorem Gm {A B:Rat}(h:A+B*5000≠0\/A+B*15000≠0):i6 r2.l (-1340) 0 A B=false:=by
 show(rn (-1340) 0 A B (ff 5000)&&(rn (-1340) 0 A B (ff 15000)&&(rn (-1340) 0 A B (dO 5000)&&(rn (-1340) 0 A B (dO 15000)&&true))))=false;rcases h with h|h
 .rw[Ca (x:=5000) (by rw[n5];exact h),Bool.false_and]
 .rw[Ca (x:=15000) (by rw[Hv];exact h),Bool.false_and,Bool.and_false]
theorem rh {b:BR}{z:Rat}(hp:bW b.l=[5000,15000])(hf:∀A B:Rat,(A+B*5000≠0\/A+B*15000≠0)->i6 b.l z 0 A B=false):jp b z 0=false:=by
 rw[jp,List.any_eq_false];intro d hd;have key:∀A B:Int,(A+B*5000≠0\/A+B*15000≠0)->¬i6 b.l z 0 (ofQ (A:Rat)).val (ofQ (B:Rat)).val=true:=by
  intro A B h;rw[ofQ_val,ofQ_val,hf]
  .decide
  .have e1:(A:Rat)+(B:Rat)*5000=((A+B*5000:Int):Rat):=by push_cast;rfl
   have e2:(A:Rat)+(B:Rat)*15000=((A+B*15000:Int):Rat):=by push_cast;rfl
   rw[e1,e2];rcases h with h|h
   .exact .inl fun hc=>h (Rat.intCast_inj.1 (show((A+B*5000:Int):Rat)=((0:Int):Rat) from hc))
   .exact .inr fun hc=>h (Rat.intCast_inj.1 (show((A+B*15000:Int):Rat)=((0:Int):Rat) from hc))
 rw[jl,dp,hp]at hd;simp at hd;rcases hd with rfl|rfl|rfl|rfl|rfl|rfl
 .exact key (-5000) 1 Y
 .exact key (-15000) 1 Y
 .exact key 5000 (-1) Y
 .exact key 15000 (-1) Y
 .exact key 1 0 Y
 .exact key (-1) 0 Y
theorem AU:FL r1.l 2000 0=[ofQ 160000,ofQ 160000]:=by
 show [ofQ (fQ (dO 5000) 2000 0),ofQ (fQ (dO 15000) 2000 0)]=_;rw[nS,nS,n5,Hv,wf,wf];congr 2
 .grind
 .congr 2;grind
theorem AW:FL r2.l (-1340) 0=[ofQ 160000,ofQ 160000,ofQ 0,ofQ 0]:=by
 show [ofQ (fQ (ff 5000) (-1340) 0),ofQ (fQ (ff 15000) (-1340) 0),ofQ (fQ (dO 5000) (-1340) 0),ofQ (fQ (dO 15000) (-1340) 0)]=_;rw[nS,nS,zU,zU,n5,Hv,show kf (1500+(-1340+0*5000))=160000 by rw[kf];grind,show kf (1500+(-1340+0*15000))=160000 by rw[kf];grind,show wf (-1340+0*5000)=0 by rw[wf];grind,show wf (-1340+0*15000)=0 by rw[wf];grind]
theorem yG (b:BR)(hb:b.Ok){z:Int}(hz:i64 z){F:List RR}(h19:∀t,(ko b.l t).length<=19)(hex:∀t,∃z,(bd b).w<=(bd b).F z t)(heq:(bd b).eqQ 1=some ((z:Rat),0))(hbal:(bd b).Bal (z:Rat) 0)(ht:jp b (z:Rat) 0=false)(hF:FL b.l (z:Rat) 0=F) :
  Ret Tryz.prog .shared 78 [.agg (eB b)] (.tup [.agg (mG ⟨ofQ (z:Rat),ofQ 0⟩ F),.agg (zN++zN),I 0]):=by
 have hn:=zR hb hbal;have h93:=nG b hb;rw[jA,if_neg (by rw[hn.1];decide),List.find?_eq_none.2 (fun r hr=>by rw[hn.2 r hr];decide)]at h93;have h120:=qU b hb (fun t=>Nat.le_trans (h19 t) Y) (fun t=>GC _ (h19 t)) hex (N:=1) Y heq;have va:Va ⟨ofQ (z:Rat),ofQ 0⟩ (z:Rat) 0 4 4:=⟨Vq.ofQ (h:=⟨qt z hz⟩),Vq.ofQ (h:=HQ.zero.mono Y)⟩;have h121:=rb b hb ⟨ofQ (z:Rat),ofQ 0⟩ (ha:=va) Y;rw[ht]at h121;have h23:=kP b.l hb.lim.l hb.chkL ⟨ofQ (z:Rat),ofQ 0⟩ (ha:=va) Y;rw[hF]at h23;exact rQ b hb.lim hb.chk h93 _ _ h120 h121 h23
theorem IJ:Ret Tryz.prog .shared 78 [.agg (eB r1)] (.tup [.agg (mG ⟨ofQ ((2000:Int):Rat),ofQ 0⟩ [ofQ 160000,ofQ 160000]),.agg (zN++zN),I 0]) :=
 yG r1 HA ⟨Y,Y⟩ vo JY JX II (rh AV fun _ _=>Gl) AU
theorem IM:Ret Tryz.prog .shared 78 [.agg (eB r2)] (.tup [.agg (mG ⟨ofQ ((-1340:Int):Rat),ofQ 0⟩ [ofQ 160000,ofQ 160000,ofQ 0,ofQ 0]),.agg (zN++zN),I 0]) :=
 yG r2 HC ⟨Y,Y⟩ vv Kb Ka IL (rh AX fun _ _=>Gm) AW
def KJ (s:SHP)(d:Nat):BR:=wB s (dq d s.st)
theorem Ig (d:Nat)(l:List ST):(dq d l).map qp=dq d l:=by
 rw[dq,List.map_map];refine List.map_congr_left fun t _=>?_;show qp (eG d t)=eG d t;rw[qp,eG];show(⟨t.x,ly (ofQ 0),⟨t.L,(ol d t).map ly⟩⟩:SR)=_;rw[jr];have:(ol d t).map ly=ol d t:=by
  rw[ol,List.map_append,List.map_map];congr 1
  .exact List.map_congr_left fun h _=>jr _
  .show [ly (ofQ 0)]=_;rw[jr]
 rw[this]
theorem JE (s:SHP)(d:Nat):pB s (dq d s.st)=KJ s d:=by rw[pB,Ig];rfl
theorem Hd {e:Int}:Weak (.tup [.agg zS,.agg (zN++zN),I e]) (⟨zA,[],zA,e⟩:SQ).pv:=WeakL.tup (.cons my.agg (.cons iY.agg (WeakL.refl _)))
set_option maxRecDepth 20000 in
theorem CG (s:SHP)(d:Int)(B:BR)(l:List SR)(e:Int)(Q:SQ)(h1:Ret Tryz.prog .shared 94 [.agg (fF s),I d] (.tup [.sl (l.map eS),I 0]))(h2:Ret Tryz.prog .shared 95 [.agg (fF s),.sl (l.map eS)] (.tup [.agg (eB B),I e]))
  (h3:e=0->Ret Tryz.prog .shared 78 [.agg (eB B)] Q.pv) (h4:e≠0->Q=⟨zA,[],zA,e⟩):Ret Tryz.prog .shared 31 [.agg (fF s),I d] Q.pv:=by
 by_cases he:e=0
 .have g3:=h3 he;clear h3 h4;subst he;obtain⟨⟨az,at'⟩,F,⟨rz,rt⟩,e⟩:=Q;simp only[SQ.pv]at *
  refine Ret.of_pwp layOk mixed Go.Proofs.Tryz.func31 O Y O O ?_;refine G h1 ?_;refine G h2 ?_;refine G g3 ?_;exact bV
 .rw[h4 he];refine Ret.weak ?_ (WeakL.refl _) Hd;clear h3 h4;refine Ret.of_pwp layOk mixed Go.Proofs.Tryz.func31 O Y O O ?_;refine G h1 ?_;refine G h2 ?_;refine D ?_ ?_<;>intro h
  .clear h;exact bV
  .simp at h;exact absurd h he
def rI (x:Int):ST:=⟨x,10000,[0,3000],[4000]⟩
def Lj:LR:=⟨[76,105,103,104,116],320000,10000,2000,0⟩
def qi:SHP:=⟨[82,97,102,116],20000,[rI 5000,rI 15000],Lj,[]⟩
def tC (x:Int):BKR:=⟨x,0,500,1500,1000,ofQ ((1000:Int):Rat),200000,false⟩
def ia:DKR:=⟨qi,1000,[tC 5000,tC 15000],[],150,5000⟩
theorem xq:fN qi=0:=by decide +kernel
theorem oe:qi.Len:=⟨Y,Y,fun t ht=>by
 simp only[qi,List.mem_cons,List.not_mem_nil,or_false]at ht
 rcases ht with rfl|rfl<;>exact⟨Y,Y⟩⟩
theorem KK:i_ qi 1000=0:=by rw[i_,if_pos xq];decide
theorem td {x:Int}(h:aN x (-1000000) 1000000=true):qA (tC x)=true:=by
 rw[qA,FT];show(aN x (-1000000) 1000000&&aN 500 1 10000&&aN 1500 0 100000&&aN 1000 1 20000&&aN 200000 0 1000000000&&decide (0<(ofQ ((1000:Int):Rat)).val)&&decide ((0:Int)=0))=true;rw[h,ofQ_val];decide
theorem ta {x:Int}(h:x=5000\/x=15000):fg x 0 [rI 5000,rI 15000]=some 0:=by rcases h with rfl|rfl<;>decide
theorem IN:qN ia.s.st ia.zn ia.bl=0:=by
 have h0:lD ia.s.st ia.zn ia.bl 0 (tC 5000)=0:=by
  rw[lD,if_pos (td Y),if_pos (by show(fg 5000 0 [rI 5000,rI 15000]).isSome=true;rw[ta (.inl O)];rfl)];rfl
 have h1:lD ia.s.st ia.zn ia.bl 1 (tC 15000)=0:=by
  rw[lD,if_pos (td Y),if_pos (by show(fg 15000 0 [rI 5000,rI 15000]).isSome=true;rw[ta (.inr O)];rfl),if_neg (by show ¬(false=true);decide),if_neg];show ¬([tC 5000].any (mE (tC 15000)))=true;show ¬((decide (lL 15000 5000<500+500)&&decide (2*lL 0 0<1000+1000))||false)=true;decide
 rw[qN,if_neg Y];show fT [tC 5000,tC 15000] _=0;rw[fT,if_pos h0,fT,if_pos h1,fT]
theorem DR:wr ia=0:=by
 rw[wr,if_pos (show i_ ia.s ia.d=0 from KK),if_pos (show ie ia.zn=0 by decide),if_pos IN,if_pos Y]
theorem Kj:ol 1000 (rI 5000)=[ofQ ((80:Int):Rat),ofQ 0]:=by
 show [ofQ (((2*4000*10000:Int):Rat)*(((1000:Nat):Rat)/1000000000)),ofQ 0]=_;rw[show((2*4000*10000:Int):Rat)*(((1000:Nat):Rat)/1000000000)=((80:Int):Rat) by decide +kernel]
theorem zj (x:Int):eG 1000 (rI x)=dO x:=by
 have:ol 1000 (rI x)=ol 1000 (rI 5000):=O;rw[eG,this,Kj];rfl
theorem KO:qX qi=((10000:Int):Rat):=by decide +kernel
theorem I6 (l:List SR):wB qi l=⟨320000,ofQ ((10000:Int):Rat),l⟩:=by
 rw[wB,KO];rfl
theorem JD:KJ qi 1000=r1:=by
 rw[KJ,I6];show(⟨320000,ofQ ((10000:Int):Rat),[eG 1000 (rI 5000),eG 1000 (rI 15000)]⟩:BR)=_;rw[zj,zj];rfl
theorem Hl (x:Int):qp (dO x)=dO x:=by
 show(⟨x,ly (ofQ 0),⟨[0,3000],[ly (ofQ ((80:Int):Rat)),ly (ofQ 0)]⟩⟩:SR)=_;rw[jr,jr];rfl
theorem Hk (x:Int):qp (ff x)=ff x:=by
 show(⟨x,ly (ofQ ((1500:Int):Rat)),⟨[0],[ly (ofQ ((1000:Int):Rat))]⟩⟩:SR)=_;rw[jr,jr];rfl
theorem KN:pB qi r2.l=r2:=by
 have h:=I6 (r2.l.map qp);rw[wB]at h;rw[pB,h];show(⟨320000,ofQ ((10000:Int):Rat),[qp (ff 5000),qp (ff 15000),qp (dO 5000),qp (dO 15000)]⟩:BR)=_;rw[Hl,Hl,Hk,Hk];rfl
end Go.Pv
set_option maxHeartbeats 2000000
namespace Go.Pv
attribute [local irreducible] PWP POps PQuiet PSem aw aq ai aj
open Go.Proofs Go.RowKit
theorem sj {p:Prop}[Decidable p]{b:Bool}(h:b=true↔p):b=decide p:=by
 cases b with
 |true=>exact(decide_eq_true (h.1 rfl)).symm
 |false=>exact(decide_eq_false fun g=>by have:=h.2 g;cases this).symm
def xE (t:ST):Bool:=!decide ((8<t.L.length/\t.L.length<=30)\/40<t.L.length\/40<t.H0.length)
def Ek (w:LR):Bool:=decide (w.nm.length<=40)
def IT (s:SHP):Bool:=!decide (40<s.nm.length\/40<s.light.nm.length\/(6<s.st.length/\s.st.length<=40)\/45<s.st.length\/(8<s.it.length/\s.it.length<=60)\/205<s.it.length)
def HO (s:SHP):Bool:=IT s&&s.st.all xE&&s.it.all Ek
theorem lB {α:Type}{p:α->Bool}{l:List α}{k:Nat}{x:α}(hx:l[k]? = some x)(h:p x=false):l.all p=false:=List.all_eq_false.2 ⟨x,bc hx,by rw[h];decide⟩
theorem nU {α:Type}{p:α->Bool}{l:List α}(h:∀(j:Nat) x,j<l.length->l[j]? = some x->p x=true):l.all p=true:=List.all_eq_true.2 fun x hx=>by
 obtain⟨j,hj⟩:=List.mem_iff_getElem?.1 hx;exact h j x (bb hj).1 hj
theorem lA {α:Type}{p:α->Bool}{l:List α}{k:Nat}{x:α}(h:∀(j:Nat) x,j<k->l[j]? = some x->p x=true)(hx:l[k]? = some x)(hp:p x=true):∀(j:Nat) x,j<k+1->l[j]? = some x->p x=true:=fun j u hj hu=>by
 rcases Nat.lt_or_ge j k with g|g
 .exact h j u g hu
 .rw[show j=k by omega,hx]at hu;cases hu;exact hp
set_option maxRecDepth 20000 in
theorem GA (s:SHP):Ret Tryz.prog .shared 39 [.agg (fF s)] (.bool (HO s)):=by
 have hml:((s.st.map eT).length:Int)=s.st.length:=ah;have hmi:((s.it.map eLd).length:Int)=s.it.length:=ah;generalize hf:HO s=E;rw[HO]at hf;obtain⟨nm,len,st,light,it⟩:=s;simp only at *
 refine Ret.of_pwp layOk mixed Go.Proofs.Tryz.func39 O Y O O ?_;refine H ?_;refine mR 100 [(1,.ptr 1 1 0 0),(52,.bool (!IT ⟨nm,len,st,light,it⟩))] [(1,1,⟨27,9,[fF ⟨nm,len,st,light,it⟩],2⟩)] ?_ ?_
 .clear hf
  repeat' (first|refine fB O ?_|refine dy O O (fun h=>?_) (fun h=>?_)|refine dx O O (fun h=>?_) (fun h=>?_)|refine dw O O (fun h=>?_) (fun h=>?_))
  all_goals refine⟨O,congrArg PV.bool ?_,O,trivial⟩
  all_goals (rw[IT,Bool.not_not];refine sj ?_)
  all_goals (simp only[decide_eq_true_eq,decide_eq_false_iff_not,hml,hmi]at *)
  all_goals (first|omega|(simp only[true_iff];omega)|(simp only[Bool.false_eq_true,false_iff];omega))
 intro s0;refine H ?_;cases h0:IT ⟨nm,len,st,light,it⟩
 .rw[h0]at hf;simp only[Bool.false_and]at hf;subst hf;exact gV
 have h1:st.length<=45/\it.length<=205:=by
  simp only[IT,Bool.not_eq_true',decide_eq_false_iff_not]at h0;omega
 rw[h0,Bool.true_and]at hf;refine H ?_;refine ap (fun k:Nat=>k<=st.length/\∀(j:Nat) t,j<k->st[j]? = some t->xE t=true) (fun k=>[(1,.ptr 1 1 0 0),(3,I (k:Nat))]) (fun _=>[(1,1,⟨27,9,[fF ⟨nm,len,st,light,it⟩],2⟩)]) (fun k=>st.length-k) 0 ⟨Nat.zero_le _,fun j t hj=>absurd hj J⟩ ⟨O,O,O,trivial⟩ ?_;rintro k s1 ⟨hk,hall⟩;refine H ?_;rw[hml];refine bP O ?_ ?_<;>intro h
 .have hlt:k<st.length:=by have:=aC h;omega
  clear h;obtain⟨t,hx⟩:=aJ hlt;have hmL:((t.L.map eN).length:Int)=t.L.length:=ah;have hmH:((t.H0.map eN).length:Int)=t.H0.length:=ah;have hw:=fc k;have bad:xE t=false->E=false:=fun h=>by rw[<-hf,lB hx h,Bool.false_and]
  have good:=lA hall hx;have hdef:xE t=!decide ((8<t.L.length/\t.L.length<=30)\/40<t.L.length\/40<t.H0.length):=O;generalize xE t=b at *
  refine aS hx ?_
  (repeat ((fail_if_success (with_reducible refine aQ 7 ?_));refine cx O ?_))
  refine bH [(1,.ptr 1 1 0 0),(3,I (k:Nat)),(4,.ptr 4 ((s1.own 4).1+1) 0 0)] [(1,1,⟨27,9,[fF ⟨nm,len,st,light,it⟩],2⟩),(4,(s1.own 4).1+1,⟨130,4,[eT t],2⟩)] ⟨O,O,O,O,O,trivial⟩ ?_;generalize (s1.own 4).1+1=g4;intro s2
  ((repeat (first|refine aY ?_ | refine cE ?_ | refine cz ?_ | refine cB ?_));refine bq ?_)
  refine mR 100 [(1,.ptr 1 1 0 0),(3,I (k:Nat)),(86,.bool (!b))] [(1,1,⟨27,9,[fF ⟨nm,len,st,light,it⟩],2⟩)] ?_ ?_
  .clear hf bad good hall
   repeat' (first|refine fB O ?_|refine dy O O (fun h=>?_) (fun h=>?_)|refine dx O O (fun h=>?_) (fun h=>?_)|refine dw O O (fun h=>?_) (fun h=>?_))
   all_goals refine⟨O,O,congrArg PV.bool ?_,O,trivial⟩
   all_goals (rw[hdef,Bool.not_not];refine sj ?_)
   all_goals (simp only[decide_eq_true_eq,decide_eq_false_iff_not,hmL,hmH]at *)
   all_goals (first|omega|(simp only[true_iff];omega)|(simp only[Bool.false_eq_true,false_iff];omega))
  intro s3;refine H ?_;cases b
  .rw[bad O];exact gV
  .refine H ?_;exact⟨k+1,⟨hlt,good O⟩,J,O,congrArg I hw,O,trivial⟩
 have hge:k=st.length:=by have:=aG h;omega
 clear h;subst hge;rw[nU hall,Bool.true_and]at hf;clear hall;refine H ?_;refine ap (fun k:Nat=>k<=it.length/\∀(j:Nat) t,j<k->it[j]? = some t->Ek t=true) (fun k=>[(1,.ptr 1 1 0 0),(5,I (k:Nat))]) (fun _=>[(1,1,⟨27,9,[fF ⟨nm,len,st,light,it⟩],2⟩)]) (fun k=>it.length-k) 0 ⟨Nat.zero_le _,fun j t hj=>absurd hj J⟩ ⟨O,O,O,trivial⟩ ?_;rintro k s1 ⟨hk,hall⟩;refine H ?_;rw[hmi];refine bP O ?_ ?_<;>intro h
 .have hlt:k<it.length:=by have:=aC h;omega
  clear h;obtain⟨t,hx⟩:=aJ hlt;have hw:=fc k;have bad:Ek t=false->E=false:=fun h=>by rw[<-hf,lB hx h]
  have good:=lA hall hx;have hdef:Ek t=decide (t.nm.length<=40):=O;generalize Ek t=b at *
  refine aS hx ?_;refine D ?_ ?_<;>intro h
  .have h2:40<(t.nm.length:Int):=aC h;clear h;rw[decide_eq_false J]at hdef;rw[bad hdef];exact gV
  .have h2:¬40<(t.nm.length:Int):=aG h;clear h;rw[decide_eq_true J]at hdef;refine H ?_;exact⟨k+1,⟨hlt,good hdef⟩,J,O,congrArg I hw,O,trivial⟩
 have hge:k=it.length:=by have:=aG h;omega
 clear h;subst hge;rw[nU hall]at hf;subst hf;exact gV
def Jc (b:BKR):Bool:=IS b.st 3
def Kl (z:ZNR):Bool:=decide (z.nm.length<=40)
def Kk (d:DKR):Bool:=HO d.s&&!decide ((5<d.bl.length/\d.bl.length<=40)\/65<d.bl.length\/(4<d.zn.length/\d.zn.length<=20)\/25<d.zn.length)
def HM (d:DKR):Bool:=Kk d&&d.bl.all Jc&&d.zn.all Kl
set_option maxRecDepth 20000 in
theorem Gz (d:DKR):Ret Tryz.prog .shared 16 [.agg (fS d)] (.bool (HM d)):=by
 have hmb:((d.bl.map j_).length:Int)=d.bl.length:=ah;have hmz:((d.zn.map oS).length:Int)=d.zn.length:=ah;have hs:=GA d.s;generalize hf:HM d=E;rw[HM]at hf;have hM:Kk d=(HO d.s&&!decide ((5<d.bl.length/\d.bl.length<=40)\/65<d.bl.length\/(4<d.zn.length/\d.zn.length<=20)\/25<d.zn.length)):=O;generalize Kk d=M at *
 generalize HO d.s=S at *
 obtain⟨s,den,bl,zn,gm,oh⟩:=d;simp only at *
 refine Ret.of_pwp layOk mixed Go.Proofs.Tryz.func16 O Y O O ?_;refine ar hs ?_;refine mR 100 [(1,.ptr 1 1 0 0),(44,.bool (!M))] [(1,1,⟨31,14,[fS ⟨s,den,bl,zn,gm,oh⟩],2⟩)] ?_ ?_
 .clear hf hs;cases S
  .repeat' (first|refine fB O ?_|refine dy O O (fun h=>?_) (fun h=>?_)|refine dx O O (fun h=>?_) (fun h=>?_)|refine dw O O (fun h=>?_) (fun h=>?_))
   exact⟨O,congrArg PV.bool (by rw[hM];rfl),O,trivial⟩
  .repeat' (first|refine fB O ?_|refine dy O O (fun h=>?_) (fun h=>?_)|refine dx O O (fun h=>?_) (fun h=>?_)|refine dw O O (fun h=>?_) (fun h=>?_))
   all_goals refine⟨O,congrArg PV.bool ?_,O,trivial⟩
   all_goals (rw[hM,Bool.true_and,Bool.not_not];refine sj ?_)
   all_goals (simp only[decide_eq_true_eq,decide_eq_false_iff_not,hmb,hmz]at *)
   all_goals (first|omega|(simp only[true_iff];omega)|(simp only[Bool.false_eq_true,false_iff];omega))
 intro s0;refine H ?_;cases M
 .simp only[Bool.false_and]at hf;subst hf;exact gV
 have h1:bl.length<=65/\zn.length<=25:=by
  have hM:=hM.symm;simp only[Bool.and_eq_true,Bool.not_eq_true',decide_eq_false_iff_not]at hM;omega
 rw[Bool.true_and]at hf;refine H ?_;refine ap (fun k:Nat=>k<=bl.length/\∀(j:Nat) t,j<k->bl[j]? = some t->Jc t=true) (fun k=>[(1,.ptr 1 1 0 0),(3,I (k:Nat))]) (fun _=>[(1,1,⟨31,14,[fS ⟨s,den,bl,zn,gm,oh⟩],2⟩)]) (fun k=>bl.length-k) 0 ⟨Nat.zero_le _,fun j t hj=>absurd hj J⟩ ⟨O,O,O,trivial⟩ ?_;rintro k s1 ⟨hk,hall⟩;refine H ?_;rw[hmb];refine bP O ?_ ?_<;>intro h
 .have hlt:k<bl.length:=by have:=aC h;omega
  clear h;obtain⟨t,hx⟩:=aJ hlt;have hw:=fc k;have bad:Jc t=false->E=false:=fun h=>by rw[<-hf,lB hx h,Bool.false_and]
  have good:=lA hall hx;have hsr:Ret Tryz.prog .shared 20 [.agg (eR t.st),I (3:Nat)] (.bool (Jc t)):=pK t.st 3 Y;generalize Jc t=b at *
  refine aS hx ?_;refine ar hsr ?_;cases b
  .rw[bad O];exact gV
  .refine H ?_;exact⟨k+1,⟨hlt,good O⟩,J,O,congrArg I hw,O,trivial⟩
 have hge:k=bl.length:=by have:=aG h;omega
 clear h;subst hge;rw[nU hall,Bool.true_and]at hf;clear hall;refine H ?_;refine ap (fun k:Nat=>k<=zn.length/\∀(j:Nat) t,j<k->zn[j]? = some t->Kl t=true) (fun k=>[(1,.ptr 1 1 0 0),(4,I (k:Nat))]) (fun _=>[(1,1,⟨31,14,[fS ⟨s,den,bl,zn,gm,oh⟩],2⟩)]) (fun k=>zn.length-k) 0 ⟨Nat.zero_le _,fun j t hj=>absurd hj J⟩ ⟨O,O,O,trivial⟩ ?_;rintro k s1 ⟨hk,hall⟩;refine H ?_;rw[hmz];refine bP O ?_ ?_<;>intro h
 .have hlt:k<zn.length:=by have:=aC h;omega
  clear h;obtain⟨t,hx⟩:=aJ hlt;have hw:=fc k;have bad:Kl t=false->E=false:=fun h=>by rw[<-hf,lB hx h]
  have good:=lA hall hx;have hdef:Kl t=decide (t.nm.length<=40):=O;generalize Kl t=b at *
  refine aS hx ?_;refine D ?_ ?_<;>intro h
  .have h2:40<(t.nm.length:Int):=aC h;clear h;rw[decide_eq_false J]at hdef;rw[bad hdef];exact gV
  .have h2:¬40<(t.nm.length:Int):=aG h;clear h;rw[decide_eq_true J]at hdef;refine H ?_;exact⟨k+1,⟨hlt,good hdef⟩,J,O,congrArg I hw,O,trivial⟩
 have hge:k=zn.length:=by have:=aG h;omega
 clear h;subst hge;rw[nU hall]at hf;subst hf;exact gV
end Go.Pv
namespace Go.Pv
open Go.RowKit
variable [Globs]
section
variable {P:Program}{L:Lay}{s:St}
theorem Loc.idx {o:Oper}{T e:TypeId}{r re:LRow}{x ix:Operand}{d k g i m n:Nat}{kk:IntKind}{c:Cont}(ho:o.op = .indexAddr T x ix)(hd:o.dst=some d)(hr:L T=some r)(hs:r.sh = .sl e)(hre:L e=some re)
  (hx:s.ev x = .als k g i m) (hown:s.own k=(g,some c)) (hsz:c.sz=re.size) (hix:s.ev ix = .int kk (n:Int)) (hlt:n<m):Loc P L s o k (s.putR d (.ptr k g (i+n) 0)):=by
 have key:∀u:St,u.own k=s.own k->(∀z∈o.op.operands,u.ev z=s.ev z)->E6 P L u o k (u.putR d (.ptr k g (i+n) 0)):=fun u hu he=>by
  refine⟨fun k' hk=>rfl,fun t ht=>?_,fun C a w K Q hG h hN hK=>?_⟩
  .show(bif Nat.beq t d then _ else u.reg t)=_;rw[bm (fun e=>ht (by rw[e];exact hd))];rfl
  .have hx':u.ev x = .als k g i m:=by rw[he x (by rw[ho];simp[Op.operands,Call.operands])];exact hx
   have hy':u.ev ix = .int kk (n:Int):=by rw[he ix (by rw[ho];simp[Op.operands])];exact hix
   have:=QOp.idxA (P:=P) (L:=L) (s:=u) (o:=o) ho hr hs hre hx' (by rw[hu];exact hown) hsz hy' J J;rw[Int.toNat_natCast]at this;refine this.wp hG h hN fun a' w' h'=>hK a' w' ?_;rw[hd]at h';exact h'
 refine .any (key s O fun _ _=>rfl) fun u hu he=>⟨_,key u hu he,hu,fun t ht=>?_⟩;rw[hd]at ht;cases ht;show(bif Nat.beq d d then _ else _)=(bif Nat.beq d d then _ else _);simp
theorem Loc.look {o:Oper}{d k:Nat}{v:PV}(hd:o.dst=some d)(h:∀u:St,u.own k=s.own k->(∀z∈o.op.operands,u.ev z=s.ev z)->QOp P L u o v):Loc P L s o k (s.putR d v):=by
 have key:∀u:St,u.own k=s.own k->(∀z∈o.op.operands,u.ev z=s.ev z)->E6 P L u o k (u.putR d v):=fun u hu he=>by
  refine⟨fun k' hk=>rfl,fun t ht=>?_,fun C a w K Q hG hs hN hK=>?_⟩
  .show(bif Nat.beq t d then _ else u.reg t)=_;rw[bm (fun e=>ht (by rw[e];exact hd))];rfl
  .refine(h u hu he).wp hG hs hN fun a' w' h'=>hK a' w' ?_;rw[hd]at h';exact h'
 refine .any (key s O fun _ _=>rfl) fun u hu he=>⟨_,key u hu he,hu,fun t ht=>?_⟩;rw[hd]at ht;cases ht;show(bif Nat.beq d d then _ else _)=(bif Nat.beq d d then _ else _);simp
end
section
variable {P:Program}{L:Lay}{ops:Array Oper}{s:St}{K:St->Prop}{rest:List Oper}
end
end Go.Pv
set_option maxHeartbeats 2000000
namespace Go.Pv
attribute [local irreducible] PWP POps PQuiet PSem aw aq ai aj
open Go.Proofs
def qz:List ST:=[rI 5000,rI 15000]
def te:List BKR:=[tC 5000,tC 15000]
set_option maxRecDepth 20000 in
set_option maxHeartbeats 16000000 in
theorem DK:Ret Tryz.prog .shared 63 [] (.agg (fS ia)):=by
 have w:=gT 1000 ⟨Y,Y⟩;have hB:∀i:Nat,i<2->(te.take (i+1)).map j_=(te.take i).map j_++[[I (if i=0 then 5000 else 15000),I 0,I 500,I 1500,I 1000]++eR (ofQ ((1000:Int):Rat))++[I 200000,.bool false]]:=fun i hi=>by
  obtain rfl|rfl:i=0\/i=1:=J
  .rfl
  .rfl
 have hT:∀i:Nat,i<2->(qz.take (i+1)).map eT=(qz.take i).map eT++[[I (if i=0 then 5000 else 15000),I 10000,.sl [[I 0],[I 3000]],.sl [[I 4000]]]]:=fun i hi=>by
  obtain rfl|rfl:i=0\/i=1:=J
  .rfl
  .rfl
 have hlB:∀i:Nat,((te.take i).map j_).length<=2:=fun i=>by rw[List.length_map,List.length_take];exact Nat.min_le_right _ _
 have hlT:∀i:Nat,((qz.take i).map eT).length<=2:=fun i=>by rw[List.length_map,List.length_take];exact Nat.min_le_right _ _
 have hend:fS ia=[.str [82,97,102,116],I 20000,.sl ((qz.take 2).map eT),.str [76,105,103,104,116],I 320000,I 10000,I 2000,I 0,.sl [],I 1000,.sl ((te.take 2).map j_),.sl [],I 150,I 5000]:=O;rw[hend];clear hend;generalize ofQ ((1000:Int):Rat)=W at *
 suffices hz:Ret Tryz.prog .shared 63 [] (.agg [.str [82,97,102,116],I 20000,.sl ((qz.take 2).map eT),.str [76,105,103,104,116],I 320000,I 10000,I 2000,I 0,.nil,I 1000,.sl ((te.take 2).map j_),.nil,I 150,I 5000]) from
  hz.weak .nil (WeakL.agg (.cons (.rfl _) (.cons (.rfl _) (.cons (.rfl _) (.cons (.rfl _) (.cons (.rfl _) (.cons (.rfl _) (.cons (.rfl _) (.cons (.rfl _) (.cons .nil (.cons (.rfl _) (.cons (.rfl _) (.cons .nil (WeakL.refl _))))))))))))))
 refine Ret.of_pwp layOk mixed Go.Proofs.Tryz.func63 O Y O O ?_
 (repeat ((fail_if_success (with_reducible refine aQ 3 ?_));refine cx O ?_))
 refine aE (Ghost.nilreg (k:=1002) (t:=2) 108 11 1 O O) ?_;refine aE (Ghost.nilcell (k:=400) (k0:=1) (i:=0) (j:=2) (row:=[.str [82,97,102,116],I 20000,.nil,.str [76,105,103,104,116],I 320000,I 10000,I 2000,I 0,.nil]) 130 4 1 O O O O O O O) ?_;refine H ?_;refine bH [(0,.ptr 0 1 0 0),(1,.ptr 1 1 0 0),(2,.als 1002 1 0 0),(3,I ((0:Nat):Int))] [(0,1,⟨31,14,[[.str [],I 0,.nil,.str [],I 0,I 0,I 0,I 0,.nil,I 0,.nil,.nil,I 0,I 0]],2⟩),(1,1,⟨27,9,[[.str [82,97,102,116],I 20000,.als 400 1 0 0,.str [76,105,103,104,116],I 320000,I 10000,I 2000,I 0,.nil]],2⟩),(400,1,⟨130,4,[],1⟩),(1002,1,⟨108,11,[],1⟩)] ⟨O,O,O,O,O,O,O,O,trivial⟩ ?_;intro s0;generalize ([82,97,102,116]:List UInt8)=S1;generalize ([76,105,103,104,116]:List UInt8)=S2;refine ap (fun i:Nat=>i<=2) (fun i=>[(0,.ptr 0 1 0 0),(1,.ptr 1 1 0 0),(2,.als 1002 (1+i) 0 ((te.take i).map j_).length),(3,I (i:Nat))])
  (fun i=>[(0,1,⟨31,14,[[.str [],I 0,.nil,.str [],I 0,I 0,I 0,I 0,.nil,I 0,.nil,.nil,I 0,I 0]],2⟩),(1,1,⟨27,9,[[.str S1,I 20000,.als 400 (1+i) 0 ((qz.take i).map eT).length,.str S2,I 320000,I 10000,I 2000,I 0,.nil]],2⟩),(400,1+i,⟨130,4,(qz.take i).map eT,1⟩),(1002,1+i,⟨108,11,(te.take i).map j_,1⟩)]) (fun i=>2-i) 0 (Nat.zero_le _)
  ⟨O,O,O,O,O,O,O,O,trivial⟩ ?_
 intro i s hi;refine D ?_ ?_<;>intro h
 .have hlt:i<2:=by have:=aC h;omega
  clear h;have hBi:=hB i hlt;have hTi:=hT i hlt;have hbi:=hlB i;have hti:=hlT i;have hw:=fc i;have hx:IntKind.i64.wrap (5000+IntKind.i64.wrap (10000*((i:Nat):Int)))=if i=0 then 5000 else 15000:=by
   obtain rfl|rfl:i=0\/i=1:=J
   .rfl
   .rfl
  have h1:1+(i+1)=1+i+1:=O;generalize (te.take i).map j_=B at *
  generalize (qz.take i).map eT=T at *
  generalize (if i=0 then(5000:Int) else 15000)=X at *
  refine H ?_;rw[hx];refine H ?_;refine bE O O (dj O O O O O O O O O O aI O) ?_;refine H ?_;refine bE O O (dj O O O O O O O O O O aI O) ?_;refine H ?_;refine aH (bx 1 O O O O O O O O O O O aI O ?_);refine H ?_;refine aH (bQ 1 O O O O O O O O O O O aI (by intro row hr;first|(simp at hr;subst hr;rfl)|simp at hr) O O aU aU ?_);refine G w ?_;refine H ?_;refine aH (bx 1 O O O O O O O O O O O aI O ?_);refine H ?_;refine aH (bQ 1 O O O O O O O O O O O aI (by intro row hr;first|(simp at hr;subst hr;rfl)|simp at hr) O O aU aU ?_);refine H ?_;refine⟨i+1,hlt,J,O,O,?_,congrArg I hw,O,?_,?_,?_,trivial⟩
  .rw[hBi];rfl
  .rw[hTi];rfl
  .rw[hTi];rfl
  .rw[hBi];rfl
 have hie:i=2:=by have:=aG h;omega
 clear h;subst hie;refine aE (Ghost.freezeD (k:=400) (k0:=1) (i:=0) (j:=2) (row:=[.str S1,I 20000,.als 400 (1+2) 0 ((qz.take 2).map eT).length,.str S2,I 320000,I 10000,I 2000,I 0,.nil]) O O O O O O O O) ?_;refine aE (Ghost.takeD (k:=1002) (t:=2) O O O) ?_;generalize (te.take 2).map j_=B at *
 generalize (qz.take 2).map eT=T at *
 exact bV
theorem Kf {x:Int}(h:x=5000\/x=15000):BkIn (tC x)/\(tC x).st.sz 12:=by
 refine⟨tg (td (by rcases h with rfl|rfl<;>decide)),kT ⟨Y,Y⟩⟩
theorem pF:ia.Bl:=by
 obtain⟨h1,h2⟩:=xL (s:=ia.s) xq;refine⟨h1,h2,fun b hb=>?_,Y⟩;simp only[ia,List.mem_cons,List.not_mem_nil,or_false]at hb;rcases hb with rfl|rfl
 .exact Kf (.inl O)
 .exact Kf (.inr O)
theorem DP:ia.Ok:=⟨⟨oe,Y,Y⟩,fun b hb=>(pF.b b hb).2⟩
theorem Hj {x:Int}(h:x=5000\/x=15000):kB ia.s.st (tC x)=ff x:=by
 have hb:f8 ia.s.st (tC x)=0:=by
  rw[f8];show(fg x 0 [rI 5000,rI 15000]).getD 0=0;rw[ta h];rfl
 have hs:iU (tC x)=((1000:Int):Rat):=by
  rw[iU,if_neg (by show ¬false=true;decide)];show(ofQ ((1000:Int):Rat)).val=_;rw[ofQ_val]
 rw[kB,hb,hs];rfl
theorem Cb:cG ia.s.st ia.bl=[ff 5000,ff 15000]:=by
 show [kB ia.s.st (tC 5000),kB ia.s.st (tC 15000)]=_;rw[Hj (.inl O),Hj (.inr O)]
theorem xX:dq 1000 qi.st=[dO 5000,dO 15000]:=by
 show [eG 1000 (rI 5000),eG 1000 (rI 15000)]=_;rw[zj,zj]
theorem rZ:bX ia 0=r2.l:=by
 rw[bX,Cb];show [ff 5000,ff 15000]++(dq 1000 qi.st).map (rc 0)=_;rw[xX];rfl
theorem IZ:Ret Tryz.prog .shared 94 [.agg (fF qi),I 1000] (.tup [.sl ((dq 1000 qi.st).map eS),I 0]) :=
 nK qi oe 1000 KK Y Y pF.st pF.n
theorem zE (l:List SR)(B:BR)(h1:wB qi l=B)(h2:pB qi l=B)(hl:B.Lim)(h0:ci B=0)(h12:l.length<=1000)(hM:∀x∈l,x.k.M.length<=1000):Ret Tryz.prog .shared 95 [.agg (fF qi),.sl (l.map eS)] (.tup [.agg (eB B),I 0]):=by
 have h:=wg qi oe xq l (by rw[h1];exact hl) (by rw[h2];exact hl) h12 hM;rw[h2,h0,if_pos O]at h;exact h
theorem FE:Ret Tryz.prog .shared 31 [.agg (fF qi),I 1000] (.tup [.agg (mG ⟨ofQ ((2000:Int):Rat),ofQ 0⟩ [ofQ 160000,ofQ 160000]),.agg (eR RR.zero++eR RR.zero),I 0]):=by
 have hw:=zE (dq 1000 qi.st) r1 JD (by rw[JE];exact JD) HA.lim DH (by rw[xX];decide) (fun x hx=>by
  rw[xX]at hx;simp only[List.mem_cons,List.not_mem_nil,or_false]at hx
  rcases hx with rfl|rfl<;>(show 2<=1000;decide))
 have h9:=IJ.weak (WeakL.refl _) (WeakL.tup (.cons (.rfl _) (.cons iY.agg (WeakL.refl _))));exact CG qi 1000 r1 (dq 1000 qi.st) 0 ⟨⟨ofQ ((2000:Int):Rat),ofQ 0⟩,[ofQ 160000,ofQ 160000],zA,0⟩ IZ hw (fun _=>h9) (fun h=>absurd O h)
theorem K3 {z:Int}(h:i64 z):Va ⟨ofQ (z:Rat),ofQ 0⟩ (z:Rat) 0 4 4:=⟨Vq.ofQ (h:=⟨qt z h⟩),Vq.ofQ (h:=HQ.zero.mono Y)⟩
theorem GP:Ret Tryz.prog .shared 30 [.agg (fS ia)] (.tup [.agg (eR (ofQ ((3500:Int):Rat))),I 0]):=by
 have h:=EO ia DP DR pF Y (ofQ ((2000:Int):Rat)) (ofQ 0) RR.zero RR.zero [ofQ 160000,ofQ 160000] (ha:=K3 ⟨Y,Y⟩) Y Y FE;rw[Cb]at h;have hv:∀x:Int,dN ((2000:Int):Rat) 0 (ff x)=((3500:Int):Rat):=fun x=>by
  show(ofQ ((1500:Int):Rat)).val+(((2000:Int):Rat)+0*(x:Rat))=_;rw[ofQ_val,Rat.zero_mul,Rat.add_zero];decide +kernel
 have hm:gF ([ff 5000,ff 15000].map (dN ((2000:Int):Rat) 0))=((3500:Int):Rat):=by
  show gF [dN ((2000:Int):Rat) 0 (ff 5000),dN ((2000:Int):Rat) 0 (ff 15000)]=_;rw[hv,hv];decide +kernel
 rw[hm]at h;exact h
def Gn:List Rat:=[160000,160000,0,0]
def rfX:DQ:=⟨ofQ 0,⟨ofQ ((-1340:Int):Rat),ofQ 0⟩,[ofQ 160000,ofQ 160000],ofQ 320000,ofQ 0,HV,false,3⟩
theorem IP:∀q∈Gn,hq q 100000:=fun q hm=>by
 have h4:hq q 4:=by
  simp only[Gn,List.mem_cons,List.not_mem_nil,or_false]at hm;rcases hm with rfl|rfl|rfl|rfl
  .exact qt 160000 ⟨Y,Y⟩
  .exact qt 160000 ⟨Y,Y⟩
  .exact qt 0 ⟨Y,Y⟩
  .exact qt 0 ⟨Y,Y⟩
 exact(HQ.mono (h:=⟨h4⟩) Y).ok
theorem Jx:Jw ia 0 ⟨ofQ ((-1340:Int):Rat),ofQ 0⟩ Gn HV=rfX:=by
 have h1:bF (Gn.take ia.bl.length)=320000:=by decide +kernel
 have h2:bF (Gn.drop ia.bl.length)=0:=by decide +kernel
 have h3:dT ia.bl Gn=false:=O;have h4:k9 ia.bl (Gn.take ia.bl.length) 0=3:=by decide +kernel
 rw[Jw,h1,h2,h3,h4];rfl
theorem KF:Ret Tryz.prog .shared 21 [.agg (fS ia),.agg (eR (ofQ ((0:Int):Rat)))] (.tup [.agg (yw rfX),I 0]):=by
 have v0:Vq (ofQ ((0:Int):Rat)) 0 4:=Vq.ofQ (h:=HQ.zero);have hs:=ic ia pF ⟨Y,Y⟩ (show i_ ia.s ia.d=0 from KK) oe (ofQ ((0:Int):Rat)) (hv:=v0) Y;have hw:=zE (bX ia 0) r2 (by rw[rZ,I6];rfl) (by rw[rZ];exact KN) HC.lim DI (by rw[rZ];decide) (fun x hx=>by
  rw[rZ]at hx;simp only[r2,List.mem_cons,List.not_mem_nil,or_false]at hx;rcases hx with rfl|rfl|rfl|rfl
  .show 1<=1000;decide
  .show 1<=1000;decide
  .show 2<=1000;decide
  .show 2<=1000;decide)
 have h78:=IM.weak (WeakL.refl _) (WeakL.tup (.cons (.rfl _) (.cons iY.agg (WeakL.refl _))));have h2:bF (Gn.drop ia.bl.length)=0:=by decide +kernel
 have h74:=vR ia (ofQ ((0:Int):Rat)) (hlv:=v0) Y hs r2 hw (ofQ ((-1340:Int):Rat)) (ofQ 0) RR.zero RR.zero Gn IP Y Y h78 HV (z:=((-1340:Int):Rat)) (nz:=4) (hz:=Vq.ofQ (h:=⟨qt (-1340) ⟨Y,Y⟩⟩)) Y (fun h=>absurd h2 h) (fun _=>rfl);rw[Jx]at h74;exact B7 ia DP DR _ rfX 0 h74
set_option maxRecDepth 20000 in
theorem wy:Ret Tryz.prog .shared 15 [] (.bool true):=by
 have w0:=gT 0 ⟨Y,Y⟩;have w1:=gT 3500 ⟨Y,Y⟩;have ws:=E_ [160000,160000] ah (fun z hz=>by
  simp only[List.mem_cons,List.not_mem_nil,or_false]at hz
  rcases hz with rfl|rfl<;>exact⟨Y,Y⟩)
 have e1:=Ec (p:=((3500:Int):Rat)) ⟨qt 3500 ⟨Y,Y⟩⟩ Y;have e2:=xD [ofQ 160000,ofQ 160000] Y (fun x hx=>by
  simp only[List.mem_cons,List.not_mem_nil,or_false,or_self]at hx;subst hx;have:=eP (qt 160000 ⟨Y,Y⟩)
  exact⟨Nat.le_trans this.1 Y,Nat.le_trans this.2 Y⟩)
 have r:=DK;have t:=GP;have a:=KF;rw[show GX [160000,160000]=[ofQ 160000,ofQ 160000] from O]at ws;have hX:yw rfX=eR (ofQ 0)++(eR (ofQ ((-1340:Int):Rat))++eR (ofQ 0))++[.sl ([ofQ 160000,ofQ 160000].map eR)]++eR (ofQ 320000)++eR (ofQ 0)++Fx HV++[.bool false,I 3]:=O;rw[hX]at a;clear hX;generalize ia=D0 at *
 generalize ofQ ((0:Int):Rat)=W0 at *
 generalize ofQ ((3500:Int):Rat)=W1 at *
 generalize ofQ ((-1340:Int):Rat)=W2 at *
 generalize ofQ 320000=W3 at *
 generalize ofQ 0=W4 at *
 generalize [ofQ (160000:Rat),ofQ (160000:Rat)]=WF at *
 refine Ret.of_pwp layOk mixed Go.Proofs.Tryz.func15 O Y O O ?_;refine G r ?_;refine G t ?_;refine G r ?_;refine G w0 ?_;refine G a ?_;refine cn 23 [16,17,18,19,20,21,22,23,24,25,26,27,28,29,30,31,32,33,34,35,36,37,38] ?_;refine G w1 ?_;refine ar e1 ?_;refine H ?_;refine bE O O (dj O O O O O O O O O O aI O) ?_;refine G ws ?_;refine ar e2 ?_;exact gV
theorem Lg {n:Nat}{cs:List PV}(h:j4 lay.get (n+3) 130 cs):∃t:ST,cs=eT t/\t.L.length<=9223372036854775807/\t.H0.length<=9223372036854775807:=by
 obtain⟨parts,rfl,hl,hp⟩:=jJ h O
 match parts,hl,hp with
 |[p0,p1,p2,p3],_,hp =>
  obtain⟨x,rfl,-⟩:=nY (hp 0 _ p0 O O);obtain⟨w,rfl,-⟩:=nY (hp 1 _ p1 O O);obtain⟨L,rfl,h1,-⟩:=tZ (hp 2 _ p2 O O);obtain⟨H0,rfl,h2,-⟩:=tZ (hp 3 _ p3 O O);exact⟨⟨x,w,L,H0⟩,O,h1,h2⟩
theorem K5 {n:Nat}{cs:List PV}(h:j4 lay.get (n+2) 24 cs):∃w:LR,cs=eLd w:=by
 obtain⟨parts,rfl,hl,hp⟩:=jJ h O
 match parts,hl,hp with
 |[p0,p1,p2,p3,p4],_,hp =>
  obtain⟨a0,rfl⟩:=tz (hp 0 _ p0 O O) O;obtain⟨a1,rfl⟩:=cQ (hp 1 _ p1 O O) O;obtain⟨a2,rfl⟩:=cQ (hp 2 _ p2 O O) O;obtain⟨a3,rfl⟩:=cQ (hp 3 _ p3 O O) O;obtain⟨a4,rfl⟩:=cQ (hp 4 _ p4 O O) O;exact⟨⟨a0,a1,a2,a3,a4⟩,O⟩
theorem KG {n:Nat}{cs:List PV}(h:j4 lay.get (n+5) 27 cs):∃s:SHP,cs=fF s/\s.Len:=by
 obtain⟨parts,rfl,hl,hp⟩:=jJ h O
 match parts,hl,hp with
 |[p0,p1,p2,p3,p4],_,hp =>
  obtain⟨nm,rfl⟩:=tz (hp 0 _ p0 O O) O;obtain⟨len,rfl,-⟩:=nY (hp 1 _ p1 O O);obtain⟨r1,rfl,hl1,hr1⟩:=j5 (hp 2 _ p2 O O) O;obtain⟨w,rfl⟩:=K5 (hp 3 _ p3 O O);obtain⟨r2,rfl,hl2,hr2⟩:=j5 (hp 4 _ p4 O O) O;obtain⟨st,rfl,hz⟩:=fk (f:=eT) (p:=fun t=>t.L.length<=9223372036854775807/\t.H0.length<=9223372036854775807) fun row hrow=>Lg (hr1 row hrow);obtain⟨it,rfl,-⟩:=fk (f:=eLd) (p:=fun _=>True) fun row hrow=>by
   obtain⟨a,rfl⟩:=K5 (hr2 row hrow);exact⟨a,O,trivial⟩
  rw[List.length_map]at hl1 hl2;exact⟨⟨nm,len,st,w,it⟩,by simp[fF,eN],uM hl1,uM hl2,hz⟩
theorem Lf {n:Nat}{cs:List PV}(h:j4 lay.get (n+5) 108 cs):∃b:BKR,cs=j_ b:=by
 obtain⟨parts,rfl,hl,hp⟩:=jJ h O
 match parts,hl,hp with
 |[p0,p1,p2,p3,p4,p5,p6,p7],_,hp =>
  obtain⟨a0,rfl⟩:=cQ (hp 0 _ p0 O O) O;obtain⟨a1,rfl⟩:=cQ (hp 1 _ p1 O O) O;obtain⟨a2,rfl⟩:=cQ (hp 2 _ p2 O O) O;obtain⟨a3,rfl⟩:=cQ (hp 3 _ p3 O O) O;obtain⟨a4,rfl⟩:=cQ (hp 4 _ p4 O O) O;obtain⟨a5,rfl⟩:=Ho (hp 5 _ p5 O O);obtain⟨a6,rfl⟩:=cQ (hp 6 _ p6 O O) O;obtain⟨a7,rfl⟩:=v_ (hp 7 _ p7 O O) O;exact⟨⟨a0,a1,a2,a3,a4,a5,a6,a7⟩,by simp[j_,eR]⟩
theorem Lh {n:Nat}{cs:List PV}(h:j4 lay.get (n+2) 132 cs):∃z:ZNR,cs=oS z:=by
 obtain⟨parts,rfl,hl,hp⟩:=jJ h O
 match parts,hl,hp with
 |[p0,p1,p2,p3],_,hp =>
  obtain⟨a0,rfl⟩:=tz (hp 0 _ p0 O O) O;obtain⟨a1,rfl⟩:=cQ (hp 1 _ p1 O O) O;obtain⟨a2,rfl⟩:=cQ (hp 2 _ p2 O O) O;obtain⟨a3,rfl⟩:=cQ (hp 3 _ p3 O O) O;exact⟨⟨a0,a1,a2,a3⟩,O⟩
theorem dkD0 {c:PV}(h:argW lay.get 31 c):∃d:DKR,c = .agg (fS d)/\d.Len:=by
 obtain⟨cs,rfl,h⟩:∃cs,c = .agg cs/\j4 lay.get 12 31 cs:=h;obtain⟨parts,rfl,hl,hp⟩:=jJ h O
 match parts,hl,hp with
 |[p0,p1,p2,p3,p4,p5],_,hp =>
  obtain⟨s,rfl,hs⟩:=KG (n:=6) (hp 0 _ p0 O O);obtain⟨a1,rfl⟩:=cQ (hp 1 _ p1 O O) O;obtain⟨r2,rfl,hl2,hr2⟩:=j5 (hp 2 _ p2 O O) O;obtain⟨r3,rfl,hl3,hr3⟩:=j5 (hp 3 _ p3 O O) O;obtain⟨a4,rfl⟩:=cQ (hp 4 _ p4 O O) O;obtain⟨a5,rfl⟩:=cQ (hp 5 _ p5 O O) O;obtain⟨bl,rfl,-⟩:=fk (f:=j_) (p:=fun _=>True) fun row hrow=>by
   obtain⟨a,rfl⟩:=Lf (hr2 row hrow);exact⟨a,O,trivial⟩
  obtain⟨zn,rfl,-⟩:=fk (f:=oS) (p:=fun _=>True) fun row hrow=>by
   obtain⟨a,rfl⟩:=Lh (hr3 row hrow);exact⟨a,O,trivial⟩
  rw[List.length_map]at hl2 hl3;exact⟨⟨s,a1,bl,zn,a4,a5⟩,by simp[fS],hs,uM hl2,uM hl3⟩
structure SmD (d:DKR):Prop where
 st:d.s.st.length<=45
 it:d.s.it.length<=205
 bl:d.bl.length<=65
 zn:d.zn.length<=25
 L:∀t∈d.s.st,t.L.length<=40/\t.H0.length<=40
 b:∀b∈d.bl,b.st.sz 3
theorem HN {d:DKR}(h:HM d=true):SmD d:=by
 simp only[HM,Kk,HO,IT,Bool.and_eq_true,Bool.not_eq_true',decide_eq_false_iff_not,List.all_eq_true]at h;obtain⟨⟨⟨⟨⟨h1,h2⟩,-⟩,h3⟩,h4⟩,-⟩:=h;refine⟨J,J,J,J,fun t ht=>?_,fun b hb=>?_⟩
 .have:=h2 t ht;simp only[xE,Bool.not_eq_true',decide_eq_false_iff_not]at this;omega
 .have:=h4 b hb;simp only[Jc,IS,Bool.and_eq_true,decide_eq_true_eq]at this;exact this
theorem Kq {x:RR}{n m:Nat}(h:x.sz n)(hm:n<=m):x.sz m:=⟨Nat.le_trans h.1 hm,Nat.le_trans h.2 hm⟩
theorem SmD.ok {d:DKR}(h:SmD d)(hl:d.Len):d.Ok:=⟨hl,fun b hb=>Kq (h.b b hb) Y⟩
theorem Fv {d:Nat}(hd:d<=1100){w h:Int}(hh:0<=h/\h<=100000)(hw:1<=w/\w<=100000):hq (((2*h*w:Int):Rat)*((d:Rat)/1000000000)) 4:=by
 obtain⟨v1,v2⟩:=zy hh hw;generalize 2*h*w=v at *
 have e:(v:Rat)*((d:Rat)/1000000000)=((v*(d:Int):Int):Rat)/((1000000000:Int):Rat):=by
  rw[Rat.intCast_mul,show((d:Int):Rat)=(d:Rat) from O,show((1000000000:Int):Rat)=1000000000 from O];grind
 rw[e];have h1:v*(d:Int)<=20000000000*(d:Int):=Int.mul_le_mul_of_nonneg_right v2 J;have h2:0<=v*(d:Int):=Int.mul_nonneg v1 J;refine gc Y ?_ Y;rw[show 65536^4=18446744073709551616 by decide];omega
theorem Cw {d:Nat}(hd:d<=1100){t:ST}(ok:StOk t):∀x∈ol d t,∃q,x=ofQ q/\hq q 4:=fun x hx=>by
 rcases List.mem_append.1 hx with hx|hx
 .obtain⟨h,hh,rfl⟩:=List.mem_map.1 hx;exact⟨_,O,Fv hd (ok.H0 h hh) ok.w⟩
 .rw[List.mem_singleton.1 hx];exact⟨0,O,(HQ.zero.mono (show 4<=4 by decide)).ok⟩
structure LeS (s:SR):Prop where
 c:s.c.le 1000000000
 S:s.k.S.length<=1000000
 M:s.k.M.length<=1000000
 m:∀m∈s.k.M,m.le 1000000000
theorem Is {p:Rat}{n:Nat}(h:hq p n)(hn:n<=100000000):(ofQ p).le 1000000000:=by
 have:=eP h;exact⟨Nat.le_trans this.1 J,Nat.le_trans this.2 J⟩
theorem Cs {d:DKR}(hd:d.Ok)(h:wr d=0):d.Bl/\(900<=d.d/\d.d<=1100)/\i_ d.s d.d=0:=by
 rw[wr]at h;split at h
 .rename_i h1;split at h
  .split at h
   .rename_i h2 h3;have hE:fN d.s=0:=by rw[i_]at h1;split at h1<;>omega
    obtain⟨a,b⟩:=xL hE;rw[qN]at h3;split at h3
    .omega
    .refine⟨⟨a,b,fun x hx=>?_,J⟩,?_,h1⟩
     .obtain⟨j,hj⟩:=List.mem_iff_getElem?.1 hx;exact⟨Cc (jR h3 j x hj),hd.st x hx⟩
     .rw[i_,if_pos hE]at h1;split at h1
      .rename_i h4;exact fh h4
      .omega
   .contradiction
  .contradiction
 .contradiction
namespace Bd
structure Sd (b:Bd):Prop where
 N:b.N<=11
 n:∀i,i<b.N->b.n i<=8
 X:∀i,i<b.N->hq (b.X i) 2
 C:∀i,i<b.N->hq (b.C i) 4
 S:∀i,i<b.N->∀k,k<b.n i->hq (b.S i k) 2
 M:∀i,i<b.N->∀k,k<b.n i->hq (b.M i k) 4
 w:hq b.w 4
 A:hq b.A 4
variable {b:Bd}
theorem Sd.k (h:b.Sd){p:Nat->Nat}(hp:∀i,i<b.N->p i<=b.n i){i:Nat}(hi:i<b.N):HQ (b.k p i) 4:=by
 rw[Bd.k];have h1:=hp i hi;cases hpi:p i with
 |zero=>rw[bI];exact HQ.zero
 |succ m=>exact⟨h.M i hi m J⟩
theorem Sd.bef (h:b.Sd){i:Nat}(hi:i<b.N){k:Nat}(hk:k<b.n i):HQ (bI (b.M i) k) 4:=by
 cases k with
 |zero=>rw[bI];exact HQ.zero
 |succ m=>exact⟨h.M i hi m J⟩
theorem Sd.o (h:b.Sd){p:Nat->Nat}(hp:∀i,i<b.N->p i<=b.n i){i:Nat}(hi:i<b.N):HQ (b.o p i) 100:=by
 rw[Bd.o,ke];have h1:=hp i hi;have h2:=h.n i hi;refine(bw (m:=11) (p i) fun k hk=>?_).mono J;have:=h.bef hi (k:=k) J;have:HQ (b.M i k) 4:=⟨h.M i hi k J⟩;have:HQ (b.S i k) 2:=⟨h.S i hi k J⟩;show HQ ((b.M i k-bI (b.M i) k)*b.S i k) 11;exact inferInstanceAs (HQ ((b.M i k-bI (b.M i) k)*b.S i k) (4+4+1+2))
theorem Sd.Kh (h:b.Sd){p:Nat->Nat}(hp:∀i,i<b.N->p i<=b.n i):HQ (b.Kh p) 59:=by
 have:=h.N;exact(bw (m:=4) b.N fun i hi=>h.k hp hi).mono J
theorem Sd.Kc (h:b.Sd){p:Nat->Nat}(hp:∀i,i<b.N->p i<=b.n i):HQ (b.Kc p) 81:=by
 have:=h.N;refine(bw (m:=6) b.N fun i hi=>?_).mono J;have:=h.k hp hi;have:HQ (b.X i) 2:=⟨h.X i hi⟩;exact inferInstanceAs (HQ (b.k p i*b.X i) (4+2))
theorem Sd.Kp (h:b.Sd){p:Nat->Nat}(hp:∀i,i<b.N->p i<=b.n i):HQ (b.Kp p) 103:=by
 have:=h.N;refine(bw (m:=8) b.N fun i hi=>?_).mono J;have:=h.k hp hi;have:HQ (b.X i) 2:=⟨h.X i hi⟩;exact inferInstanceAs (HQ (b.k p i*b.X i*b.X i) (4+2+2))
theorem Sd.Fo (h:b.Sd){p:Nat->Nat}(hp:∀i,i<b.N->p i<=b.n i):HQ (b.Fo p) 1214:=by
 have:=h.N;refine(bw (m:=109) b.N fun i hi=>?_).mono J;have:=h.k hp hi;have:=h.o hp hi;have:HQ (b.C i) 4:=⟨h.C i hi⟩;exact inferInstanceAs (HQ (b.k p i*b.C i-b.o p i) (4+4+100+1))
theorem Sd.Go (h:b.Sd){p:Nat->Nat}(hp:∀i,i<b.N->p i<=b.n i):HQ (b.Go p) 1236:=by
 have:=h.N;refine(bw (m:=111) b.N fun i hi=>?_).mono J;have:=h.k hp hi;have:=h.o hp hi;have:HQ (b.C i) 4:=⟨h.C i hi⟩;have:HQ (b.X i) 2:=⟨h.X i hi⟩;exact inferInstanceAs (HQ ((b.k p i*b.C i-b.o p i)*b.X i) (4+4+100+1+2))
theorem Sd.T (h:b.Sd):b.SzT:=fun t ht=>by
 obtain⟨p,hp,hK,ht⟩:=ht;have h1:=h.Kh hp;have h2:=h.Kc hp;have h3:=h.Kp hp;have h4:=h.Fo hp;have h5:=h.Go hp;have hw:HQ b.w 4:=⟨h.w⟩;have hA:HQ b.A 4:=⟨h.A⟩;rcases ht with⟨i,hi,k,hk,g1,g2⟩|⟨g1,g2⟩
 .have hX:HQ (b.X i) 2:=⟨h.X i hi⟩;have hC:HQ (b.C i) 4:=⟨h.C i hi⟩;have hS:HQ (b.S i k) 2:=⟨h.S i hi k hk⟩;have:t=(b.S i k-b.C i-(b.w-b.Fo p)/b.Kh p)/(b.X i-b.Kc p/b.Kh p):=by
   rw[Bd.y,Bd.ln]at g1;rw[Bd.gr]at g2;grind
  rw[this];have e:HQ ((b.S i k-b.C i-(b.w-b.Fo p)/b.Kh p)/(b.X i-b.Kc p/b.Kh p)) _:=inferInstance;exact dl e.ok Y
 .have:t=(b.w*b.A-b.Go p-b.Kc p*((b.w-b.Fo p)/b.Kh p))/((b.Kh p*b.Kp p-b.Kc p*b.Kc p)/b.Kh p):=by
   rw[Bd.eln,Bd.ln]at g1;rw[Bd.det]at g2;grind
  rw[this];have e:HQ ((b.w*b.A-b.Go p-b.Kc p*((b.w-b.Fo p)/b.Kh p))/((b.Kh p*b.Kp p-b.Kc p*b.Kc p)/b.Kh p)) _:=inferInstance;exact dl e.ok Y
end Bd
theorem jm {s:SHP}{d:Int}(h:i_ s d=0):fN s=0:=by
 rw[i_]at h;split at h
 .assumption
 .contradiction
def dB (d:DKR)(p:Rat):BR:=wB d.s (bX d p)
theorem Kw (p:Rat):ly (ofQ p)=ofQ p:=by rw[ly,ofQ_val]
theorem ij {d:DKR}{p:Rat}{x:SR}(h:x∈bX d p):(∃b∈d.bl,x=kB d.s.st b)\/∃t∈d.s.st,x=rc p (eG (fa d) t):=by
 rw[bX]at h;rcases List.mem_append.1 h with h|h
 .obtain⟨b,hb,e⟩:=List.mem_map.1 (show x∈d.bl.map (kB d.s.st) from h);exact .inl ⟨b,hb,e.symm⟩
 .obtain⟨w,hw,rfl⟩:=List.mem_map.1 h;obtain⟨t,ht,rfl⟩:=List.mem_map.1 (show w∈d.s.st.map (eG (fa d)) from hw);exact .inr ⟨t,ht,O⟩
theorem gG (d:DKR)(p:Rat):(bX d p).length=d.bl.length+d.s.st.length:=by rw[bX,List.length_append,cG,List.length_map,List.length_map,dq,List.length_map]
theorem If (d:DKR)(p:Rat):(bX d p).map qp=bX d p:=by
 refine(List.map_congr_left fun x hx=>?_).trans (List.map_id _);rcases ij hx with⟨b,-,rfl⟩|⟨t,-,rfl⟩
 .simp[qp,kB,Kw]
 .have hm:(ol (fa d) t).map ly=ol (fa d) t:=by
   refine(List.map_congr_left fun x hx=>?_).trans (List.map_id _);rcases List.mem_append.1 hx with hx|hx
   .obtain⟨h,-,rfl⟩:=List.mem_map.1 hx;exact Kw _
   .rw[List.mem_singleton.1 hx];exact Kw 0
  simp[qp,rc,eG,Kw,hm]
theorem Dv (d:DKR)(p:Rat):pB d.s (bX d p)=dB d p:=by rw[pB,If];rfl
structure Slim (d:DKR) (p:Rat):Prop where
 ok:d.Ok
 e:wr d=0
 st:d.s.st.length<=6
 bl:d.bl.length<=5
 L:∀t∈d.s.st,t.L.length<=8
 S:∀b∈d.bl,b.st.sz 3
 p:hq p 4
theorem x8 {x:RR}{n:Nat}(h:x.sz n)(hn:1<=n):∃a b:Int,x.val=(a:Rat)/(b:Rat)/\b≠0/\a.natAbs<65536^n/\b.natAbs<65536^n :=
 ⟨x.n.val,x.d.den,O,x.d.den_ne,x.n.val_lt h.1,x.d.den_lt h.2 hn⟩
theorem CF {α β:Type}(f:α->List β)(n:Nat):∀(l:List α),(∀x∈l,(f x).length<=n)->(l.flatMap f).length<=l.length*n
 |[],_=>by simp
 |x::l,h=>by
  have h1:=h x ah;have h2:=CF f n l fun y hy=>h y (by simp[hy]);rw[List.flatMap_cons,List.length_append,List.length_cons,Nat.add_mul];omega
theorem Ey {b:BKR}(h:b.st.sz 3):hq (iU b) 4:=by
 obtain⟨x,y,e,h0,h1,h2⟩:=x8 h Y;have k3:(65536:Nat)^3=281474976710656:=Y;have k4:(65536:Nat)^4=18446744073709551616:=Y;rw[k3]at h1 h2;rw[iU];split
 .rw[e,show(x:Rat)/(y:Rat)*2=((x*2:Int):Rat)/(y:Rat) by rw[Rat.intCast_mul,show((2:Int):Rat)=2 from O];grind];exact gc h0 J J
 .rw[e];exact gc h0 J J
theorem Slim.bd {d:DKR}{p:Rat}(h:Slim d p):d.Bl/\(900<=d.d/\d.d<=1100)/\i_ d.s d.d=0:=Cs h.ok h.e
theorem o_ {q:Rat}{n m:Nat}(h:hq q n)(hm:n<=m):(ofQ q).sz m:=⟨Nat.le_trans (eP h).1 hm,Nat.le_trans (eP h).2 hm⟩
theorem Ar {z:Int}(h : -1000000<=z/\z<=1000000):hq (z:Rat) 2:=iG (by rw[show(65536:Nat)^2=4294967296 by decide];omega) Y
theorem si {d:DKR}{p:Rat}(h:Slim d p):(dB d p).Lim:=by
 obtain⟨hk,hd,hf⟩:=h.bd;have ok:=j1 (jm hf);obtain⟨m1,m2,mq⟩:=pp ok;refine⟨⟨by show -9223372036854775808<=sM (d.s.light::d.s.it);omega,by show sM (d.s.light::d.s.it)<=9223372036854775807;omega⟩,o_ mq Y,fun x hx=>?_,by have:=gG d p;have:=h.st;have:=h.bl;show(bX d p).length<=_;omega⟩;rcases ij hx with⟨b,hb,rfl⟩|⟨t,ht,rfl⟩
 .obtain⟨hin,-⟩:=hk.b b hb;have hx:=hin.x;have hz:=hin.ht;have hbi:=lE hk.st b;refine⟨⟨by show -9223372036854775808<=b.x;omega,by show b.x<=9223372036854775807;omega⟩,o_ (Ar (z:=b.ht-f8 d.s.st b) J) Y,fun z hz=>?_,fun m hm=>?_,by show 1<=_;decide,by show 1<=_;decide⟩
  .rw[List.mem_singleton.1 hz];exact⟨Y,Y⟩
  .rw[List.mem_singleton.1 hm];exact o_ (Ey (h.S b hb)) Y
 .have o:=hk.st t ht;refine⟨⟨by show -9223372036854775808<=t.x;have:=o.x;omega,by show t.x<=9223372036854775807;have:=o.x;omega⟩,o_ h.p Y,fun z hz=>?_,fun y hy=>?_,?_,?_⟩
  .have:=o.L z hz;exact⟨J,J⟩
  .obtain⟨q,rfl,hq⟩:=Cw (d:=fa d) (by have:=nZ hd;omega) o y hy;exact o_ hq Y
  .show t.L.length<=1000000000;have:=o.n;omega
  .show(ol (fa d) t).length<=1000000000;rw[Ei];have:=o.n;have:=o.h;omega
theorem wJ {d:DKR}{p:Rat}(h:Slim d p):∀x∈bX d p,x.k.S.length<=8:=fun x hx=>by
 rcases ij hx with⟨b,-,rfl⟩|⟨t,ht,rfl⟩
 .show 1<=8;decide
 .exact h.L t ht
theorem Hm {d:DKR}{p:Rat}(h:Slim d p)(t:Rat):(ko (bX d p) t).length<=53:=by
 rw[ko,bX,List.flatMap_append,List.length_append];have h1:=CF (jO t) 1 (cG d.s.st d.bl) fun x hx=>by
  rw[nX];obtain⟨b,-,rfl⟩:=List.mem_map.1 (show x∈d.bl.map (kB d.s.st) from hx);exact Nat.le_refl 1
 have h2:=CF (jO t) 8 ((dq (fa d) d.s.st).map (rc p)) fun x hx=>by
  rw[nX];exact wJ h x (by rw[bX];exact List.mem_append_right _ hx)
 rw[cG,List.length_map]at h1;rw[List.length_map,dq,List.length_map]at h2;have:=h.st;have:=h.bl;simp only[cG,dq]at *
 omega
theorem Jv {d:DKR}{p:Rat}(h:Slim d p):(bd (dB d p)).Sd:=by
 obtain⟨hk,hd,hf⟩:=h.bd;have ok:=j1 (jm hf);obtain⟨m1,m2,mq⟩:=pp ok;have hg:∀i,i<(bd (dB d p)).N->(∃b∈d.bl,(dB d p).l.getD i dS=kB d.s.st b)\/∃t∈d.s.st,(dB d p).l.getD i dS=rc p (eG (fa d) t):=fun i hi=>ij (br hi);refine⟨?_,fun i hi=>wJ h _ (br hi),fun i hi=>?_,fun i hi=>?_,fun i hi k hk'=>?_,fun i hi k hk'=>?_,?_,?_⟩
 .show(bX d p).length<=11;rw[gG];have:=h.st;have:=h.bl;omega
 .show hq (((dB d p).l.getD i dS).x:Rat) 2;rcases hg i hi with⟨b,hb,e⟩|⟨t,ht,e⟩
  .rw[e];exact Ar (hk.b b hb).1.x
  .rw[e];exact Ar (hk.st t ht).x
 .show hq ((dB d p).l.getD i dS).c.val 4;rcases hg i hi with⟨b,hb,e⟩|⟨t,ht,e⟩
  .rw[e];show hq (ofQ _).val 4;rw[ofQ_val];have hz:=(hk.b b hb).1.ht;have hbi:=lE hk.st b;exact dl (Ar J) Y
  .rw[e];show hq (ofQ p).val 4;rw[ofQ_val];exact h.p
 .show hq (((dB d p).l.getD i dS).k.s k) 2;rcases hg i hi with⟨b,hb,e⟩|⟨t,ht,e⟩
  .rw[e];show hq ((([0]:List Int).getD k 0:Int):Rat) 2;refine Ar ?_
   match k with
   |0=>decide
   |k+1=>simp
  .rw[e];show hq ((t.L.getD k 0:Int):Rat) 2;refine Ar ?_;have:0<=t.L.getD k 0/\t.L.getD k 0<=100000:=by
    rw[List.getD_eq_getElem?_getD];cases hl:t.L[k]? with
    |none=>simp
    |some l=>exact(hk.st t ht).L l (bc hl)
   omega
 .show hq (((dB d p).l.getD i dS).k.m k) 4;have z0:hq RR.zero.val 4:=by
   have:RR.zero.val=0:=by decide +kernel
   rw[this];exact(HQ.zero.mono (show 4<=4 by decide)).ok
  rcases hg i hi with⟨b,hb,e⟩|⟨t,ht,e⟩
  .rw[e];show hq (([ofQ (iU b)]:List RR).getD k RR.zero).val 4
   match k with
   |0=>show hq (ofQ (iU b)).val 4;rw[ofQ_val];exact Ey (h.S b hb)
   |k+1=>exact z0
  .rw[e];show hq ((ol (fa d) t).getD k RR.zero).val 4;rw[List.getD_eq_getElem?_getD];cases hl:(ol (fa d) t)[k]? with
   |none=>exact z0
   |some x =>
    obtain⟨q,rfl,g⟩:=Cw (d:=fa d) (by have:=nZ hd;omega) (hk.st t ht) x (bc hl);show hq (ofQ q).val 4;rw[ofQ_val];exact g
 .exact qt _ ⟨by show -9223372036854775808<=sM (d.s.light::d.s.it);omega,by show sM (d.s.light::d.s.it)<=9223372036854775807;omega⟩
 .show hq (ofQ (qX d.s)).val 4;rw[ofQ_val];exact mq
theorem jQ {d:DKR}{p:Rat}(h:Slim d p):(dB d p).Good/\∀t,SortC (ko (dB d p).l t) :=
 ⟨⟨si h,fun hc=>⟨⟨si h,hc,by show(bX d p).length<=12;rw[gG];have:=h.st;have:=h.bl;omega,wJ h⟩,(Jv h).T,fun t=>Nat.le_trans (Hm h t) Y⟩⟩,fun t=>GD _ (Nat.le_trans (Hm h t) Y)⟩
end Go.Pv
namespace Go.Pv
open Go.Proofs
def dL (t:ST)(k:Nat):Rat:=((t.L.getD k 0:Int):Rat)
def fb (t:ST)(y:Rat)(k:Nat):Rat:=if y<=dL t k then 0 else if y<dL t (k+1) then y-dL t k else dL t (k+1)-dL t k
def qs (t:ST)(k:Nat):Rat:=((2*t.H0.getD k 0:Int):Rat)
def qg (t:ST)(y:Rat):Nat->Rat
 |0=>0
 |k+1=>qg t y k+qs t k*fb t y k
def FR (t:ST)(y:Rat)(k:Nat):Rat:=qs t k*fb t y k*(dL t k+(dL t k+fb t y k))/2
def sI (t:ST)(y:Rat):Nat->Rat
 |0=>0
 |k+1=>sI t y k+FR t y k
def tB (t:ST)(y:Rat):Rat:=qg t y t.H0.length
def FQ (t:ST)(y:Rat):Rat:=sI t y t.H0.length
theorem sB {t:ST}(ok:StOk t){k:Nat}(h:k+1<t.L.length):dL t k<dL t (k+1):=by
 have h0:t.L[k]? = some (t.L.getD k 0):=bi (d:=0) J;have h1:t.L[k+1]? = some (t.L.getD (k+1) 0):=bi (d:=0) h;have:=ok.asc k _ _ h0 h1;rw[dL,dL];exact Rat.intCast_lt_intCast.2 this
theorem JI {t:ST}(ok:StOk t){j k:Nat}(hjk:k<=j):j<t.L.length->dL t k<=dL t j:=by
 induction j with
 |zero=>intro _;rw[show k=0 by omega];exact Rat.le_refl
 |succ j ih =>
  intro h;rcases Nat.lt_or_ge j k with g|g
  .rw[show k=j+1 by omega];exact Rat.le_refl
  .have:=ih g J;have:=sB ok h;grind
theorem Ac {t:ST}(ok:StOk t){y:Rat}{k:Nat}(hk:k<t.H0.length)(h:y<=dL t k):∀j,k<=j->j<=t.H0.length->qg t y j=qg t y k/\sI t y j=sI t y k:=by
 intro j hkj
 induction j with
 |zero=>intro _;rw[show k=0 by omega];exact⟨rfl,rfl⟩
 |succ j ih =>
  intro hj;rcases Nat.lt_or_ge j k with g|g
  .rw[show k=j+1 by omega];exact⟨O,O⟩
  .obtain⟨i1,i2⟩:=ih g J;have hL:=ok.h;have hle:=JI ok g J;have h0:fb t y j=0:=by rw[fb,if_pos aW]
   rw[qg,sI,FR,h0,i1,i2];constructor<;>grind
def Ht (t:ST)(y:Rat):Nat->Nat->Int
 |0,_=>0
 |n+1,k=>if dL t k<=y/\y<dL t (k+1) then t.H0.getD k 0 else Ht t y n (k+1)
def jT (t:ST)(y:Rat):Int:=Ht t y t.H0.length 0
def aB (f:ST->Rat):List ST->Rat:=fun l=>l.foldl (fun a t=>a+f t) 0
theorem fm (f:ST->Rat){l:List ST}{k:Nat}{t:ST}(h:l[k]? = some t):aB f (l.take (k+1))=aB f (l.take k)+f t:=by
 rw[aB,aB,bC h,List.foldl_append];rfl
def bY (z s:Rat)(t:ST):Rat:=z+s*(t.x:Rat)
def wQ (t:ST):Rat:=(t.w:Rat)
def xQ (t:ST):Rat:=(t.x:Rat)
structure HYQ where
 vol:Rat
 disp:Rat
 x:Rat
 z:Rat
 area:Rat
 flo:Rat
 cross:Rat
 long:Rat
 mtc:Rat
def cd (z s:Rat)(t:ST):Rat:=2*(jT t (bY z s t):Rat)*wQ t
def nO (st:List ST)(d:Nat)(z s:Rat):HYQ :=
 let v:=aB (fun t=>wQ t*tB t (bY z s t)) st;let sx:=aB (fun t=>wQ t*tB t (bY z s t)*xQ t) st;let sz:=aB (fun t=>wQ t*FQ t (bY z s t)) st;let a:=aB (cd z s) st;let f:=aB (fun t=>cd z s t*xQ t) st;let c:=aB (fun t=>2*(jT t (bY z s t):Rat)*(jT t (bY z s t):Rat)*(jT t (bY z s t):Rat)*wQ t/3) st;let l:=aB (fun t=>cd z s t*xQ t*xQ t) st;let fl:=if a=0 then 0 else f/a
 ⟨v,v*((d:Rat)/1000000000),sx/v,sz/v,a,fl,c,if a=0 then 0 else l-a*fl*fl,sz/v+c/v⟩
end Go.Pv
