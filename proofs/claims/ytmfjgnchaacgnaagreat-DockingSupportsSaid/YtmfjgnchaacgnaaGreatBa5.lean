/- Texts of one hand, gathered: FwE, FwF, FwG, PvFz, FuE, FwH, FsF, FwI, FuF, FwJ, DkA, DkC, DkE, DkF, DkG, DkD, DkJ, DkN, DkO, DkP, DkQ, RaA, FwKa, DkB, DkK, PvLc, DkL, DkM, DkR, DkS. -/
import Derived.Test.YtmfjgnchaacgnaaGreatBa4
set_option maxRecDepth 20000
set_option linter.unusedSectionVars false
set_option linter.unusedSimpArgs false
set_option linter.unusedVariables false
set_option linter.unnecessarySimpa false
set_option maxHeartbeats 2000000
namespace Go.Pv
attribute [local irreducible] PWP POps PQuiet PSem aH au aj ao
open Go.Proofs Go.RowKit
theorem yK (n:Nat)(h0:1<=n)(hn:n<=1000000):RetO Tryz.prog 287 [.nil,I (n:Nat)] 24 5 []:=by
 refine⟨⟨_,Go.Proofs.Tryz.func287,Y,O⟩,fun w X args hg hX hl hargs=>?_⟩
 match args,hl with
 |[v0,v1],_ =>
  have e0:v0 = .slice none 0 0:=by
   have:=hargs 0 .nil v0 O O;cases this;rfl
  have e1:v1 = .int .i64 n:=by
   have:=hargs 1 (I (n:Nat)) v1 O O;cases this;rfl
  subst e0 e1;obtain⟨i0,d,hi,_,hs,hby,_,hz⟩:=LRow.spec (layOk 24 _ O);obtain⟨z,hz0,hzs,_,_⟩:=hz _ O;have hs:i0.size=5:=hs;have hby:i0.bytes=48:=hby;have hzs:z.cells.size=5:=hzs;refine(Any8.slices_Grow_grow Tryz.growL i0 z hi hz0 J none 0 0 n [] w (aO) J (by rw[hby];omega) J ah (fun _=>rfl) (fun a h=>by cases h)).mono ?_;rintro e w' ⟨rfl,rfl⟩;have hge:=grownCap_ge w (0+n) 0 24;have hle:=grownCap_le_maxLen w (0+n) 0 24 (by unfold maxLen;omega);refine⟨_,O,?_,.inr ⟨w.heap.size,grownCap w (0+n) 0 24,_,aO,O,a_ _ _,Nat.zero_le _,hle,?_,Y,Nat.zero_le _,fun row hr=>(by cases hr),fun i j row c hr=>(by simp at hr)⟩⟩
  .have hb:Below w.heap.size w w.drew:=Below.drew (Below.refl _ _);exact hb.alloc (aO) _
  .rw[Array.size_append,Array.size_append,size_zeroCells,size_zeroCells,hzs];show 0+(0+n-0)*5+(grownCap w (0+n) 0 24-(0+n))*5=grownCap w (0+n) 0 24*5;omega
def ED:Nat->Nat
 |0=>0
 |_+1=>1
set_option maxRecDepth 20000 in
theorem tp (A B:List LR)(hA:1<=A.length)(hl:A.length+B.length<=1000000):Ret Tryz.prog .shared 272 [.sl ([A,B].map fun l=>[.sl (l.map eLd)])] (.sl ((A++B).map eLd)):=by
 have hg:=yK (A.length+B.length) J hl;generalize hL:[A,B]=LL;have hLl:LL.length=2:=by rw[<-hL];rfl
 have hml:((LL.map fun l=>[PV.sl (l.map eLd)]).length:Int)=LL.length:=ah;let sm (k:Nat):Nat:=((LL.take k).map List.length).sum;have s0:sm 0=0:=by simp[sm]
 have s2:sm LL.length=A.length+B.length:=by simp only[sm];rw[<-hL];simp
 have hsm:∀k,sm k<=1000000:=fun k=>by
  simp only[sm];rw[<-hL]
  match k with
  |0=>simp
  |1=>simp;omega
  |k+2=>simp;omega
 have hsn:∀k x,LL[k]? = some x->sm (k+1)=sm k+x.length:=fun k x hx=>by
  simp only[sm];rw[bk hx,List.map_append,List.sum_append];simp
 have hrn:∀k x,LL[k]? = some x->((LL.take (k+1)).flatten).map eLd=((LL.take k).flatten).map eLd++x.map eLd:=fun k x hx=>by
  rw[bk hx,List.flatten_append,List.map_append];simp
 have hrl:∀k,(((LL.take k).flatten).map eLd).length=sm k:=fun k=>by simp only[sm];rw[List.length_map,List.length_flatten]
 have hend:LL.flatten=A++B:=by rw[<-hL];simp
 clear_value sm
 refine Ret.of_pwp layOk mixed Go.Proofs.Tryz.func272 O Y O O ?_;refine H ?_;rw[hml];refine am (fun k:Nat=>k<=LL.length) (fun k=>[(0,.sl (LL.map fun l=>[.sl (l.map eLd)])),(3,I (sm k:Nat)),(9,.sl (LL.map fun l=>[.sl (l.map eLd)])),(10,I LL.length),(11,I (k:Nat))]) (fun _=>[]) (fun k=>LL.length-k) 0 (Nat.zero_le _) ⟨O,by rw[s0];rfl,O,O,O,trivial⟩ ?_;intro k s hk;refine D ?_ ?_<;>intro h
 .have hlt:k<LL.length:=by have:=ax h;omega
  clear h;obtain⟨x,hx⟩:=aG hlt;have hmx:((x.map eLd).length:Int)=x.length:=ah;have hs1:=hsn k x hx;have hs2:=hsm (k+1);have hw:=c_ k;have hws:IntKind.i64.wrap (((sm k:Nat):Int)+(x.length:Int))=((sm (k+1):Nat):Int):=by rw[wrap_i64 J J];omega
  refine aJ hx ?_;refine H ?_;rw[hmx,hws];refine H ?_;exact⟨k+1,hlt,J,O,O,O,O,congrArg I hw,trivial⟩
 .have hge:k=LL.length:=by have:=aF h;omega
  clear h;subst hge;rw[s2]
  ((repeat ((fail_if_success (with_reducible refine aR 9 ?_));refine cu O ?_));refine aN 1 ?_)
  refine eg O ?_;refine aT ?_;refine bc O (Ag O hg O aI O ?_);refine aQ ?_;refine H ?_;rw[hml];refine bq [(6,.als 24 ((s.own 24).1+1) 0 0),(25,.sl (LL.map fun l=>[.sl (l.map eLd)])),(26,I LL.length),(27,I ((0:Nat):Int))] [(24,(s.own 24).1+1,⟨24,5,[],0⟩)] ⟨O,O,O,O,O,trivial⟩ ?_;generalize (s.own 24).1+1=g;intro s0;refine am (fun k:Nat=>k<=LL.length) (fun k=>[(6,.als 24 (g+k) 0 (((LL.take k).flatten).map eLd).length),(25,.sl (LL.map fun l=>[.sl (l.map eLd)])),(26,I LL.length),(27,I (k:Nat))]) (fun k=>[(24,g+k,⟨24,5,((LL.take k).flatten).map eLd,ED k⟩)]) (fun k=>LL.length-k) 0 (Nat.zero_le _) ⟨O,O,O,O,O,trivial⟩ ?_;intro k s1 hk;refine D ?_ ?_<;>intro h
  .have hlt:k<LL.length:=by have:=ax h;omega
   clear h;obtain⟨x,hx⟩:=aG hlt;have hs1:=hsn k x hx;have hs2:=hsm (k+1);have hr1:=hrn k x hx;have hr2:=hrl k;have hmx:(x.map eLd).length=x.length:=ah;have hw:=c_ k;generalize ((LL.take k).flatten).map eLd=R at *
   refine aJ hx ?_;refine H ?_;refine aE (bi 1 O O O O O O O O O O O aI (by intro row hr;obtain⟨_,_,rfl⟩:=List.mem_map.1 hr;rfl) (by cases k<;>rfl) O (by rw[hr2,hmx];show _*48<=_;omega) (by rw[hr2,hmx];omega) ?_);refine H ?_;refine⟨k+1,hlt,J,?_,O,O,congrArg I hw,?_,trivial⟩
   .rw[hr1];rfl
   .rw[hr1];rfl
  .have hge:k=LL.length:=by have:=aF h;omega
   clear h;subst hge;rw[List.take_length,hend,show ED LL.length=1 by rw[hLl];rfl]
   (repeat ((fail_if_success (with_reducible refine dl ?_));refine cu O ?_))
   refine ar (Ghost.takeD (k:=24) (t:=2) O O O) ?_;exact bL
set_option maxRecDepth 20000 in
theorem wK (s:SHP)(hl:s.it.length<=100000):Ret Tryz.prog .shared 242 [.agg (ep s)] (.sl ((s.light::s.it).map eLd)):=by
 have hc:=tp [s.light] s.it ah aK;rw[show [s.light]++s.it=s.light::s.it from O]at hc;obtain⟨nm,len,st,light,it⟩:=s;simp only at *
 refine Ret.of_pwp layOk mixed Go.Proofs.Tryz.func242 O Y O O ?_
 ((repeat ((fail_if_success (with_reducible refine aR 1 ?_));refine cu O ?_));refine aN 5 ?_)
 iterate 2 refine eg O ?_
 refine aE (aS 1 O O O O O O O O O O O aI O ?_);iterate 2 refine eg O ?_
 refine aT ?_;refine bc O (dq (Ghost.takeD (k:=5) (t:=5) O O O) (aS 1 O O O O O O O O O O O aI O ?_));refine bc O (dq (Ghost.takeD (k:=8) (t:=8) O O O) ?_)
 (refine jL (dp O (hc) O ?_ O) ?_;.repeat' constructor)
 refine aQ ?_;exact bL
open Go.Proofs
theorem gc (z:Int)(h:i64 z):Ret Tryz.prog .shared 167 [I z] (.agg (eR (ofQ (z:Rat)))):=by
 have ho:=p_ z h.1 h.2;have hw:=i7 (cn z) (by have:=iE (z:=z) (by obtain⟨h1,h2⟩:=h;omega);omega);rw[co]at hw;generalize ofQ (z:Rat)=X at *
 generalize cn z=Z at *
 refine Ret.of_pwp layOk mixed Go.Proofs.Tryz.func167 O Y O O ?_;refine G ho ?_;refine G hw ?_;exact bL
theorem zj (x y:RR){p q:Rat}{n m:Nat}[hx:Vq x p n][hy:Vq y q m](hn:n<=20000000)(hm:m<=20000000)(h0:q≠0):Ret Tryz.prog .shared 196 [.agg (eR x),.agg (eR y)] (.agg (eR (ofQ (p/q)))):=by
 have hq:=so x y hn hm;rw[if_neg h0]at hq;generalize ofQ (p/q)=X at *
 refine Ret.of_pwp layOk mixed Go.Proofs.Tryz.func196 O Y O O ?_;refine G hq ?_;exact bL
structure OkW (w:LR):Prop where
 m:0<=w.m/\w.m<=1000000000
 x : -1000000<=w.x/\w.x<=1000000
 z : -100000<=w.z/\w.z<=100000
 f:0<=w.f/\w.f<=1000000000
theorem y8 {w:LR}{l:Int}(hl:0<=l)(h:lg w l=0):OkW w/\l<=w.m:=by
 rw[lg]at h;split at h
 .rename_i h2;simp[Bn,aw]at h2;exact⟨⟨J,J,J,J⟩,J⟩
 .omega
def sM (l:List LR):Int:=(l.map (·.m)).sum
def sF (l:List LR):Int:=(l.map (·.f)).sum
def sX (l:List LR):Int:=(l.map fun w=>w.m*w.x).sum
def sZ (l:List LR):Int:=(l.map fun w=>w.m*w.z).sum
theorem y5 {m x M X:Int}(hm:0<=m/\m<=M)(hx : -X<=x/\x<=X)(h0:0<=X) : -(M*X)<=m*x/\m*x<=M*X:=by
 have h1:m*x<=m*X:=Int.mul_le_mul_of_nonneg_left hx.2 hm.1;have h2:m*X<=M*X:=Int.mul_le_mul_of_nonneg_right hm.2 h0;have h3:m*(-X)<=m*x:=Int.mul_le_mul_of_nonneg_left hx.1 hm.1;rw[Int.mul_neg]at h3;omega
theorem OkW.mx {w:LR}(h:OkW w):(-1000000000000000<=w.m*w.x/\w.m*w.x<=1000000000000000) /\ -100000000000000<=w.m*w.z/\w.m*w.z<=100000000000000 :=
 ⟨y5 h.m h.x Y,y5 h.m h.z Y⟩
structure SumOk (l:List LR):Prop where
 m:0<=sM l/\sM l<=l.length*1000000000
 f:0<=sF l/\sF l<=l.length*1000000000
 x : -(l.length*1000000000000000:Int)<=sX l/\sX l<=l.length*1000000000000000
 z : -(l.length*100000000000000:Int)<=sZ l/\sZ l<=l.length*100000000000000
theorem mr:∀ {l:List LR},(∀w∈l,OkW w)->SumOk l
 |[],_=>⟨by simp[sM],by simp[sF],by simp[sX],by simp[sZ]⟩
 |w::l,h=>by
  have ih:=mr fun u hu=>h u (List.mem_cons_of_mem _ hu);have hw:=h w List.mem_cons_self;obtain⟨⟨a1,a2⟩,a3,a4⟩:=hw.mx;obtain⟨⟨b1,b2⟩,_,_,b3,b4⟩:=hw;obtain⟨⟨c1,c2⟩,⟨c3,c4⟩,⟨c5,c6⟩,c7,c8⟩:=ih;have e1:sM (w::l)=w.m+sM l:=O;have e2:sF (w::l)=w.f+sF l:=O;have e3:sX (w::l)=w.m*w.x+sX l:=O;have e4:sZ (w::l)=w.m*w.z+sZ l:=O;have e5:((w::l).length:Int)=l.length+1:=ah;refine⟨?_,?_,?_,?_⟩
  .rw[e1,e5];omega
  .rw[e2,e5];omega
  .rw[e3,e5];omega
  .rw[e4,e5];omega
theorem Ay {l:List LR}{k:Nat}{w:LR}(h:l[k]? = some w):sM (l.take (k+1))=sM (l.take k)+w.m/\sF (l.take (k+1))=sF (l.take k)+w.f/\sX (l.take (k+1))=sX (l.take k)+w.m*w.x/\sZ (l.take (k+1))=sZ (l.take k)+w.m*w.z:=by
 rw[bk h];simp[sM,sF,sX,sZ]
def F3 (m:Int)(x z:RR)(f:Int):List PV:=[I m]++eR x++eR z++[I f]
def AE (l:List LR):List PV:=F3 (sM l) (ofQ ((sX l:Rat)/(sM l:Rat))) (ofQ ((sZ l:Rat)/(sM l:Rat))) (sF l)
set_option maxRecDepth 20000 in
theorem uq (s:SHP)(L:List LR)(hLe:L=s.light::s.it)(hL:∀w∈L,OkW w)(h1:1<=sM L)(hl:L.length<=61):Ret Tryz.prog .shared 194 [.agg (ep s)] (.agg (AE L)):=by
 have hlo:=wK s (by
  have:L.length=s.it.length+1:=by rw[hLe];rfl
  omega)
 rw[<-hLe]at hlo;have w0:=gc 0 ⟨Y,Y⟩;have hml:((L.map eLd).length:Int)=L.length:=ah;have hto:=mr hL;have hne:(sM L:Rat)≠0:=by
  have:sM L≠0:=J
  exact_mod_cast this
 obtain⟨⟨t1,t2⟩,⟨t3,t4⟩,⟨t5,t6⟩,t7,t8⟩:=hto;have zM:Zb (sM L):=aM J J;have zX:Zb (sX L):=aM J J;have zZ:Zb (sZ L):=aM J J;have wM:=gc (sM L) ⟨J,J⟩;have dX:=zj (ofQ (sX L:Rat)) (ofQ (sM L:Rat)) (hx:=Vq.ofQ (h:=HQ.int)) (hy:=Vq.ofQ (h:=HQ.int)) Y Y hne;have dZ:=zj (ofQ (sZ L:Rat)) (ofQ (sM L:Rat)) (hx:=Vq.ofQ (h:=HQ.int)) (hy:=Vq.ofQ (h:=HQ.int)) Y Y hne;have sk:=fun k=>mr (l:=L.take k) fun w hw=>hL w (List.mem_of_mem_take hw);refine Ret.of_pwp layOk mixed Go.Proofs.Tryz.func194 O Y O O ?_;refine G w0 ?_;refine G w0 ?_;refine G hlo ?_;refine H ?_;rw[hml];refine am (fun k:Nat=>k<=L.length) (fun k=>[(2,.ptr 2 1 0 0),(3,.ptr 3 1 0 0),(4,.ptr 4 1 0 0),(5,.ptr 5 1 0 0),(11,.sl (L.map eLd)),(12,I L.length),(13,I (k:Nat))]) (fun k=>[(2,1,⟨61,10,[[I 0]++zN++zN++[I 0]],2⟩),(3,1,⟨61,10,[[I (sM (L.take k))]++zN++zN++[I (sF (L.take k))]],2⟩),(4,1,⟨42,4,[eR (ofQ (sX (L.take k):Rat))],2⟩),(5,1,⟨42,4,[eR (ofQ (sZ (L.take k):Rat))],2⟩)]) (fun k=>L.length-k) 0 (Nat.zero_le _) ⟨O,O,O,O,O,O,O,O,O,O,O,trivial⟩ ?_;intro k s1 hk;refine D ?_ ?_<;>intro h
 .have hlt:k<L.length:=by have:=ax h;omega
  clear h;obtain⟨w,hx⟩:=aG hlt;have ow:=hL w (aZ hx);obtain⟨⟨a1,a2⟩,a3,a4⟩:=ow.mx;have hsk:=sk k;have hsk2:=sk (k+1);have hl1:(L.take k).length<=100:=by rw[List.length_take];omega
  have hl2:(L.take (k+1)).length<=100:=by rw[List.length_take];omega
  obtain⟨⟨c1,c2⟩,⟨c3,c4⟩,⟨c5,c6⟩,c7,c8⟩:=hsk;obtain⟨⟨d1,d2⟩,⟨d3,d4⟩,⟨d5,d6⟩,d7,d8⟩:=hsk2;obtain⟨e1,e2,e3,e4⟩:=Ay hx;have hw:=c_ k;have v1:IntKind.i64.wrap (sM (L.take k)+w.m)=sM (L.take (k+1)):=by rw[wrap_i64 J J];omega
  have v2:IntKind.i64.wrap (sF (L.take k)+w.f)=sF (L.take (k+1)):=by rw[wrap_i64 J J];omega
  have v3:IntKind.i64.wrap (w.m*w.x)=w.m*w.x:=wrap_i64 J J;have v4:IntKind.i64.wrap (w.m*w.z)=w.m*w.z:=wrap_i64 J J;have z1:Zb (sX (L.take k)):=aM J J;have z2:Zb (sZ (L.take k)):=aM J J;have z3:Zb (w.m*w.x):=aM J J;have z4:Zb (w.m*w.z):=aM J J;have u1:=gc (w.m*w.x) ⟨J,J⟩;have u2:=gc (w.m*w.z) ⟨J,J⟩;have g1:=di (ofQ (sX (L.take k):Rat)) (ofQ ((w.m*w.x:Int):Rat)) (hx:=Vq.ofQ (h:=HQ.int)) (hy:=Vq.ofQ (h:=HQ.int)) Y Y;have g2:=di (ofQ (sZ (L.take k):Rat)) (ofQ ((w.m*w.z:Int):Rat)) (hx:=Vq.ofQ (h:=HQ.int)) (hy:=Vq.ofQ (h:=HQ.int)) Y Y;rw[<-Rat.intCast_add,<-e3]at g1;rw[<-Rat.intCast_add,<-e4]at g2;clear c1 c2 c3 c4 c5 c6 c7 c8 d1 d2 d3 d4 d5 d6 d7 d8 e1 e2 e3 e4 z1 z2 z3 z4 a1 a2 a3 a4 hl1 hl2;refine aJ hx ?_;refine H ?_;rw[v1];refine H ?_;rw[v2];refine bU 8 [29,30,31,32,33,34,35,36] ?_;refine H ?_;rw[v3];refine nT O O O u1 O O ?_;refine G g1 ?_;refine bU 8 [37,38,39,40,41,42,43,44] ?_;refine H ?_;rw[v4];refine nT O O O u2 O O ?_;refine G g2 ?_;refine H ?_;exact⟨k+1,hlt,J,O,O,O,O,O,O,congrArg I hw,O,O,O,O,trivial⟩
 .have hge:k=L.length:=by have:=aF h;omega
  clear h;subst hge;rw[List.take_length];clear sk hne zM zX zZ;rw[AE];generalize ofQ ((sX L:Rat)/(sM L:Rat))=QX at *
  generalize ofQ ((sZ L:Rat)/(sM L:Rat))=QZ at *
  refine H ?_;refine gv [] [3] 11 [11,12,13] br br ?_;refine G wM ?_;refine G dX ?_;refine G wM ?_;refine G dZ ?_;exact bL
theorem kq {α:Type}{l:List α}{f:Nat->α->Int}(h:eG l f=0){i:Nat}{x:α}(hx:l[i]? = some x):f i x=0:=iU h i x hx
structure ShipOk (s:SHP):Prop where
 len:s.st.length<=40
 st:∀i t,s.st[i]? = some t->te s.st i t=0
 ld:∀w∈s.light::s.it,OkW w
 m:1<=sM (s.light::s.it)
 n:s.it.length<=60
theorem rO {w:LR}{B:List LR}{l:Int}(h:ek w B l=0):lg w l=0:=by
 rw[ek]at h;split at h
 .split at h
  .omega
  .exact h
 .omega
theorem vn {s:SHP}(h:cE s=0):ShipOk s:=by
 rw[cE]at h;split at h
 rotate_left
 .omega
 split at h
 rotate_left
 .omega
 rename_i hin;split at h
 rotate_left
 .contradiction
 rename_i hst;rw[jI]at h;split at h
 rotate_left
 .contradiction
 rename_i hl;split at h
 .omega
 rename_i h60;obtain⟨o1,m1⟩:=y8 Y (rO hl);have o2:∀w∈s.it,OkW w:=fun w hw=>by
  obtain⟨i,hi⟩:=List.mem_iff_getElem?.1 hw;exact(y8 (Int.le_refl 0) (rO (kq h hi))).1
 have hall:∀w∈s.light::s.it,OkW w:=fun w hw=>by
  rcases List.mem_cons.1 hw with rfl|hw
  .exact o1
  .exact o2 w hw
 refine⟨k6 hin.2,fun i t ht=>kq hst ht,hall,?_,J⟩;have:=(mr o2).m;have e:sM (s.light::s.it)=s.light.m+sM s.it:=O;omega
theorem wJ (s:SHP)(hs:s.Len)(h:cE s=0):Ret Tryz.prog .shared 173 [.agg (ep s)] (.tup [.agg (AE (s.light::s.it)),I 0]):=by
 have h1:=gF s hs;have ok:=vn h;have h2:=uq s _ O ok.ld ok.m (by have:=ok.n;simp;omega);rw[h]at h1;rw[AE]at h2 ⊢;generalize ofQ ((sX (s.light::s.it):Rat)/(sM (s.light::s.it):Rat))=QX at *
 generalize ofQ ((sZ (s.light::s.it):Rat)/(sM (s.light::s.it):Rat))=QZ at *
 clear ok;refine Ret.of_pwp layOk mixed Go.Proofs.Tryz.func173 O Y O O ?_;refine ap h1 ?_;refine G h2 ?_;exact bL
theorem CM (a b:Nat):Int.tdiv (a:Int) (b:Int)=((a/b:Nat):Int):=by rw[Int.ofNat_tdiv]
theorem Fv (a b:Nat)(hb:0<b):ofQ ((a:Rat)/(b:Rat))=⟨cn ((a/Nat.gcd a b:Nat):Int),cn ((b/Nat.gcd a b:Nat):Int)⟩:=by
 obtain⟨e1,e2,e3⟩:=mm (a:Int) (b:Int) J;have c1:((a:Int):Rat)=(a:Rat):=O;have c2:((b:Int):Rat)=(b:Rat):=O;rw[c1,c2]at e1 e2 e3;have hn:¬((a:Rat)/(b:Rat)).num<0:=fun h=>by
  rcases e3.1 h with h|h<;>omega
 have h1:((a:Rat)/(b:Rat)).num=((a/Nat.gcd a b:Nat):Int):=by
  have:((a:Rat)/(b:Rat)).num.natAbs=a/Nat.gcd a b:=e1;omega
 have h2:((a:Rat)/(b:Rat)).den=b/Nat.gcd a b:=e2;have h3:∀n:Nat,cn (n:Int)=⟨false,aD n⟩:=fun n=>by
  rw[cn,decide_eq_false J];rfl
 rw[ofQ,h1,h2,h3 (b/_)]
set_option maxRecDepth 20000 in
theorem AP (d:Nat)(h1:1<=d)(h2:d<=1000000000):Ret Tryz.prog .shared 33 [I (d:Nat),I 1000000000] (.agg (eR (ofQ ((d:Rat)/1000000000)))):=by
 have hq:=Fv d 1000000000 Y;have e0:((1000000000:Nat):Rat)=1000000000:=by rfl
 rw[e0]at hq;have hgp:0<Nat.gcd d 1000000000:=Nat.gcd_pos_of_pos_left _ J;have hb1:=Nat.div_le_self d (Nat.gcd d 1000000000);have hb2:=Nat.div_le_self 1000000000 (Nat.gcd d 1000000000);rw[hq];generalize hA:d/Nat.gcd d 1000000000=A at *
 generalize hB:1000000000/Nat.gcd d 1000000000=B at *
 have k1:=pF (A:Int) ⟨J,J⟩;have k2:=pF (B:Int) ⟨J,J⟩;generalize hX:cn (A:Int)=X at *
 generalize hY:cn (B:Int)=Y0 at *
 generalize hG:Nat.gcd d 1000000000=G0 at *
 refine Ret.of_pwp layOk mixed Go.Proofs.Tryz.func33 O Y O O ?_;refine H ?_;refine am (fun q:Nat × Nat=>q.1<=1000000000/\q.2<=1000000000/\Nat.gcd q.1 q.2=G0) (fun q=>[(0,I (d:Nat)),(1,I 1000000000),(4,.ptr 4 1 0 0),(5,I (q.1:Nat)),(6,I (q.2:Nat))]) (fun _=>[(4,1,⟨42,4,[zN],2⟩)]) (fun q=>q.2) (d,1000000000) ⟨h2,aO,hG⟩ ⟨O,O,O,O,O,O,trivial⟩ ?_;rintro⟨x,y⟩ s ⟨hx,hy,hg⟩;simp only at hx hy hg;dsimp only;refine D ?_ ?_<;>intro h
 .have hy0:0<y:=by have:=ax h;omega
  clear h;have hm:=Nat.mod_lt x hy0;refine H ?_;refine bj [] [] br ?_;refine H ?_;refine bI O O (QOp.v O (show ¬((y:Nat):Int)=0 by omega)) ?_;rw[kM];refine H ?_;exact⟨(y,x%y),⟨hy,by simp only;omega,by simp only;rw[Nat.gcd_comm,<-Nat.gcd_rec,Nat.gcd_comm];exact hg⟩,hm,O,O,O,O,O,O,trivial⟩
 .have hy0:y=0:=by have:=aF h;omega
  subst hy0;clear h;rw[Nat.gcd_zero_right]at hg;subst hg;have q1:IntKind.i64.wrap (Int.tdiv (d:Int) (x:Int))=(A:Int):=by rw[CM,hA,wrap_i64 J J]
  have q2:IntKind.i64.wrap (Int.tdiv 1000000000 (x:Int))=(B:Int):=by
   have:=CM 1000000000 x;rw[show((1000000000:Nat):Int)=1000000000 from O]at this;rw[this,hB,wrap_i64 J J]
  refine bU 9 [25,26,27,28,29,30,31,32,33] ?_;refine H ?_;refine bI O O (QOp.v O (show ¬((x:Nat):Int)=0 by omega)) ?_;rw[q1];refine G k1 ?_;refine H ?_;refine bI O O (QOp.v O (show ¬((x:Nat):Int)=0 by omega)) ?_;rw[q2];refine G k2 ?_;exact bL
theorem Er (d:Nat)(h2:d<=1000000000):HQ ((d:Rat)/1000000000) 8:=by
 have zd:Zb (d:Int):=aM J J;have zb:Zb (1000000000:Int):=aM Y Y;exact @HQ.div _ _ 4 4 (HQ.int (z:=(d:Int))) (HQ.int (z:=1000000000))
theorem xf (x:RR){p:Rat}{n:Nat}[hx:Vq x p n](hn:n<=1000000)(d:Nat)(h1:1<=d)(h2:d<=1000000000):Ret Tryz.prog .shared 178 [.agg (eR x),I (d:Nat)] (.agg (eR (ofQ (p*((d:Rat)/1000000000))))):=by
 have c1:=AP d h1 h2;have c2:=lu x (ofQ ((d:Rat)/1000000000)) (hx:=hx) (hy:=Vq.ofQ (h:=Er d h2)) J Y;generalize ofQ ((d:Rat)/1000000000)=D0 at *
 generalize ofQ (p*((d:Rat)/1000000000))=E at *
 obtain⟨⟨xn,xl⟩,⟨yn,yl⟩⟩:=x;refine Ret.of_pwp layOk mixed Go.Proofs.Tryz.func178 O Y O O ?_;refine bU 4 [5,6,7,8] ?_;refine G c1 ?_;refine G c2 ?_;exact bL
set_option maxRecDepth 20000 in
theorem un (x y:RR){p q:Rat}{n m:Nat}(hx:Vq x p n)(hy:Vq y q m)(hn:n<=1000000)(hm:m<=1000000):Ret Tryz.prog .shared 195 [.sl ([x,y].map eR)] (.agg (eR (ofQ (p*q)))):=by
 have w1:=gc 1 ⟨Y,Y⟩;have z1:Zb 1:=aM Y Y;have c1:=ej (ofQ ((1:Int):Rat)) x (hx:=Vq.ofQ (h:=HQ.int)) (hy:=hx) Y J;rw[show((1:Int):Rat)=1 from O,Rat.one_mul]at c1;rw[show((1:Int):Rat)=1 from O]at w1;have c2:=ej (ofQ p) y (hx:=Vq.ofQ (h:=hx.hq)) (hy:=hy) J J;have g0:([x,y]:List RR)[0]? = some x:=O;have g1:([x,y]:List RR)[1]? = some y:=O;generalize hl:[x,y]=l at *
 have hll:l.length=2:=by rw[<-hl];rfl
 have hml:((l.map eR).length:Int)=2:=by rw[<-hl];rfl
 generalize ofQ (p*q)=E at *
 generalize ofQ p=P at *
 generalize ofQ (1:Rat)=O0 at *
 clear hx hy hl;refine Ret.of_pwp layOk mixed Go.Proofs.Tryz.func195 O Y O O ?_;refine G w1 ?_;refine H ?_;rw[hml];refine am (fun k:Nat=>k<=2) (fun k=>[(2,.ptr 2 1 0 0),(3,.ptr 3 1 0 0),(7,.sl (l.map eR)),(8,I 2),(9,I (k:Nat))]) (fun k=>[(2,1,⟨42,4,[zN],2⟩),(3,1,⟨42,4,[eR (if k=0 then O0 else if k=1 then P else E)],2⟩)]) (fun k=>2-k) 0 (Nat.zero_le _) ⟨O,O,O,O,O,O,O,trivial⟩ ?_;intro k s hk;refine D ?_ ?_<;>intro h
 .have hlt:k<2:=by have:=ax h;omega
  clear h
  match k,hlt with
  |0,_ =>
   refine H ?_;refine bI O O (ll (n:=((((0:Nat):Int)):Int)) O O O O O J g0 O) ?_;refine G c1 ?_;refine H ?_;exact⟨1,Y,Y,O,O,O,O,O,O,O,trivial⟩
  |1,_ =>
   refine H ?_;refine bI O O (ll (n:=((((1:Nat):Int)):Int)) O O O O O J g1 O) ?_;refine G c2 ?_;refine H ?_;exact⟨2,Y,Y,O,O,O,O,O,O,O,trivial⟩
 .have hge:k=2:=by have:=aF h;omega
  clear h;subst hge;exact bL
set_option maxRecDepth 20000 in
theorem wO (x:RR){p:Rat}{n:Nat}[hx:Vq x p n](hn:n<=1000)(d:Nat)(h1:1<=d)(h2:d<=1000000000):Ret Tryz.prog .shared 172 [.agg (eR x),I (d:Nat)] (.agg (eR (ofQ (p*((d:Rat)/1000000000))))):=by
 have zd:Zb (d:Int):=aM J J;have zb:Zb (1000000000:Int):=aM Y Y;have w1:=gc (d:Int) ⟨J,J⟩;have w2:=gc 1000000000 ⟨Y,Y⟩;have c1:=un x (ofQ ((d:Int):Rat)) hx (Vq.ofQ (h:=HQ.int)) J Y;have hp:HQ (p*((d:Int):Rat)) (n+1+4):=@HQ.mul _ _ (n+1) 4 hx.hq HQ.int;have c2:=zj (ofQ (p*((d:Int):Rat))) (ofQ ((1000000000:Int):Rat)) (hx:=Vq.ofQ (h:=hp)) (hy:=Vq.ofQ (h:=HQ.int)) J Y br;have e:p*((d:Int):Rat)/((1000000000:Int):Rat)=p*((d:Rat)/1000000000):=by
  rw[show((d:Int):Rat)=(d:Rat) from O,show((1000000000:Int):Rat)=1000000000 from O];grind
 rw[e]at c2;generalize ofQ (p*((d:Rat)/1000000000))=E at *
 generalize ofQ (p*((d:Int):Rat))=T at *
 generalize ofQ ((d:Int):Rat)=D0 at *
 generalize ofQ ((1000000000:Int):Rat)=B at *
 clear hx hp;obtain⟨⟨xn,xl⟩,⟨yn,yl⟩⟩:=x;refine Ret.of_pwp layOk mixed Go.Proofs.Tryz.func172 O Y O O ?_;refine H ?_;refine BB ?_;iterate 3 all_goals ((first
  |refine iF (i:=0) br rfl ?_
  |refine iF (i:=1) br rfl ?_
  |refine iF (i:=2) br rfl ?_
  |refine zr (i:=0) (j:=1) br rfl rfl ?_ ?_
  |refine zr (i:=0) (j:=2) br rfl rfl ?_ ?_)<;>(refine aQ ?_;(first|refine eg rfl ?_ | (apply bI;exact rfl;exact rfl;exact Fu rfl w1 rfl rfl));refine aT ?_))
 all_goals
  refine iF (i:=3) br O ?_;refine aQ ?_;refine aE (aS 1 O O O O O O O O O O O aI O ?_);refine aT ?_;refine iF (i:=4) br O ?_;refine bc O (dq (Ghost.takeD (k:=8) (t:=8) O O O) ?_)
  (refine jL (dp O (c1) O ?_ O) ?_;.repeat' constructor)
  refine aQ ?_;refine aT ?_;refine iF (i:=5) br O ?_;refine aQ ?_;refine nT O O O w2 O O ?_;refine aT ?_;refine iF (i:=6) br O ?_;refine aQ ?_;refine nT O O O c2 O O ?_;refine aT ?_;refine iF (i:=7) br O ?_;refine aQ ?_;refine eg O ?_;refine aT ?_;refine⟨by decide +kernel,b9 ?_⟩;exact bL
end Go.Pv
namespace Go.Pv
open Go.RowKit
variable [Globs]
variable {s:St}
theorem Ghost.freezeD {k gk k0 g0 i j n sz:Nat}{T:TypeId}{rows:List (List PV)}{c0:Cont}{row:List PV}(hk:Nat.beq k0 k=false)(ho:s.own k=(gk,some ⟨T,sz,rows,1⟩))(h0:s.own k0=(g0,some c0))(hkind:c0.kind=2)(hrow:c0.rows[i]? = some row)(hj:row[j]? = some (.als k gk 0 n))(hz0:Nat.blt 0 c0.sz=true)(hn:n=rows.length) :
  Ghost s ((s.setOwn k (gk+1) none).setOwn k0 g0 (some ⟨c0.ty,c0.sz,c0.rows.set i (row.set j (.sl rows)),2⟩)):=by
 intro C a w hX ⟨γ,h⟩;subst hn;have hne:k0≠k:=fun e=>by subst e;simp at hk
 obtain⟨h1,hle,-⟩:=h.drop hX ho;have ho1:(s.setOwn k (gk+1) none).own k0=(g0,some c0):=by rw[aB hne];exact h0
 have hsite:=h.sites k0 c0 (by rw[h0]);have hlt:=(be hrow).1;have hlt2:=(be hj).1;have hfr:∀v,Rep (ak C γ s w) (.als k gk 0 rows.length) v->Rep (ak C γ (s.setOwn k (gk+1) none) w) (.sl rows) v:=by
  intro v hp;refine .d ?_;rcases h.als_at hp ho with⟨q1,_,q3,q4⟩|⟨b,cap,cur,q1,q2,q3,q4,q5,q6,q7⟩
  .have:rows=[]:=(h.sites k _ (by rw[ho])).emp q1;rw[this,q4];exact .sl0 _ _
  .obtain⟨cur',g1,g2,g3,g4,g5⟩:=h.site_at ho q1 (h.cells_sz ho q1 q3 q6);have hb:(ak C γ (s.setOwn k (gk+1) none) w).ok b:=by
    have hbase:=h.base k _ b (by rw[ho]) q1;refine⟨hbase.2,fun hx=>?_,fun k' c' hc' hb'=>?_⟩
    .have:=hX b hx;omega
    .by_cases hk':k'=k
     .subst hk';rw[ai]at hc';cases hc'
     .rw[aB hk']at hc';exact hk' (h.inj k' k c' _ b hc' (by rw[ho]) hb' q1)
   rw[q2];simp only[Nat.zero_mul];refine .sl rows b 0 cap sz (fun i j=>cur'.getD (i*sz+j) undef) hb g2 q4 g4 (fun i j row pv e1 e2=>?_) (fun i j row pv e1 e2=>?_)
   .obtain⟨u,f1,f2,_⟩:=g5 i j row pv e1 e2;have g1:w.heap[b]? = some (.cells cur' T (0,0)):=g1;show w.cell? _=_/\_;rw[aW g1,Nat.zero_add,f1];simp[f1,f2]
   .obtain⟨u,f1,_,f3⟩:=g5 i j row pv e1 e2;have hu:cur'.getD (i*sz+j) undef=u:=by simp[f1]
    simp only[hu];exact hle.drep f3
 have he:=kj (C:=C) (γ:=γ) (w:=w) (c1:=⟨c0.ty,c0.sz,c0.rows.set i (row.set j (.sl rows)),2⟩) ho1 O O ah;have hother:∀k',k'≠k0->((s.setOwn k (gk+1) none).setOwn k0 g0 (some ⟨c0.ty,c0.sz,c0.rows.set i (row.set j (.sl rows)),2⟩)).own k'=(s.setOwn k (gk+1) none).own k':=fun k' hk'=>aB hk';have hsome:∀k' c',(((s.setOwn k (gk+1) none).setOwn k0 g0 (some ⟨c0.ty,c0.sz,c0.rows.set i (row.set j (.sl rows)),2⟩)).own k').2=some c'->∃c'',((s.setOwn k (gk+1) none).own k').2=some c'':=by
  intro k' c' hc';by_cases hk':k'=k0
  .subst hk';exact⟨c0,by rw[ho1]⟩
  .rw[hother k' hk']at hc';exact⟨c',hc'⟩
 refine⟨γ,h1.defers,h1.size,fun r=>by rw[he];exact h1.regs r,fun k' c' hc'=>?_,fun k1 k2 c1 c2 b e1 e2 e3 e4=>?_,fun k' c' b e1 e2=>?_,h1.below,h1.top,fun c v hk=>by rw[he];exact h1.kept c v hk⟩
 .rw[he];by_cases hk':k'=k0
  .subst hk';rw[ai]at hc';have hc':=Option.some.inj hc';subst hc';have hz0:0<c0.sz:=by simpa using hz0
   refine⟨fun hb=>?_,(fun b _ hz=>by simp only at hz;omega),(fun b _ hz=>by simp only at hz;omega),fun b hb _=>?_⟩
   .have:=hsite.emp hb;rw[this]at hrow;simp at hrow
   .obtain⟨cur,f1,f2,f3,f4,f5⟩:=hsite.at_ b hb hz0;refine⟨cur,f1,f2,by simpa using f3,fun r hr=>?_,fun i' j' row1 pv1 e1 e2=>?_⟩
    .rcases List.mem_or_eq_of_mem_set hr with hr|rfl
     .exact f4 r hr
     .simpa using f4 row (aZ hrow)
    .by_cases hi:i'=i
     .subst hi;rw[List.getElem?_set_self hlt]at e1;have e1:=Option.some.inj e1;subst e1;by_cases hjj:j'=j
      .subst hjj;rw[List.getElem?_set_self hlt2]at e2;have e2:=Option.some.inj e2;subst e2;obtain⟨v,u1,u2,u3⟩:=f5 i' j' row _ hrow hj;rw[hkind]at u3;exact⟨v,u1,u2,hfr v u3⟩
      .rw[List.getElem?_set_ne (Ne.symm hjj)]at e2;obtain⟨v,u1,u2,u3⟩:=f5 i' j' row pv1 hrow e2;rw[hkind]at u3;exact⟨v,u1,u2,Rep.mono hle u3⟩
     .rw[List.getElem?_set_ne (Ne.symm hi)]at e1;obtain⟨v,u1,u2,u3⟩:=f5 i' j' row1 pv1 e1 e2;rw[hkind]at u3;exact⟨v,u1,u2,Rep.mono hle u3⟩
  .rw[hother k' hk']at hc';exact h1.sites k' c' hc'
 .obtain⟨d,hd⟩:=hsome k1 c1 e1;obtain⟨d',hd'⟩:=hsome k2 c2 e2;exact h1.inj k1 k2 d d' b hd hd' e3 e4
 .obtain⟨d,hd⟩:=hsome k' c' e1;exact h1.base k' d b hd e2
end Go.Pv
set_option maxHeartbeats 2000000
namespace Go.Pv
attribute [local irreducible] PWP POps PQuiet PSem aH au aj ao
open Go.Proofs
set_option maxRecDepth 20000 in
theorem mJ (l:List Int)(hl:l.length<=1000000000):Ret Tryz.prog .fresh 171 [.sl (l.map eN)] (.sl (l.map eN)):=by
 refine Ret.of_pwp layOk mixed Go.Proofs.Tryz.func171 O Y O O ?_
 ((repeat ((fail_if_success (with_reducible refine aR 1 ?_));refine cu O ?_));refine aN 1 ?_)
 refine eg O ?_;refine aT ?_;refine bc O (lE layOk O O O (fun h0=>?_) ?_)
 .rw[h0];refine aQ ?_
  (repeat ((fail_if_success (with_reducible refine dl ?_));refine cu O ?_))
  refine ar (Ghost.nilfs (t:=2) O) ?_;refine H ?_;exact oD O O O trivial O
 .refine aQ ?_;refine H ?_;refine aE (aS 0 O O O O O O O O O O O aI O ?_);refine H ?_;refine aE (bi 1 O O O O O O O O O O O aI (by intro row hr;obtain⟨p,_,rfl⟩:=List.mem_map.1 hr;rfl) O O aK aK ?_)
  (repeat ((fail_if_success (with_reducible refine dl ?_));refine cu O ?_))
  refine ar (Ghost.takeF (k:=5) (t:=2) l O O O O (fun _=>rfl)) ?_;refine H ?_;exact oD O O O aI O
def k9 (x:RR):RR:=ofQ x.val
def qL (x:SR):SR:=⟨x.x,k9 x.c,⟨x.k.S,x.k.M.map k9⟩⟩
def Fa (ch:SR->SR)(b:BR):BR:=⟨b.w,k9 b.a,b.l.map fun x=>ch (qL x)⟩
structure ChOk (f:FuncId) (caps:List PV) (ch:SR->SR) (x:SR):Prop where
 run:∀ {K:St->Prop} {s:St} {d g g4 g5 g400:Nat} {c4 c5 c400:Cont} {c a:Operand} {tys:Array TypeId} {ty:TypeId} {pos:String} {af:Array Edge},s.ev c = .clo f caps->s.ev a = .ptr 8 g 0 0 ->
 FitO s [(8,g,⟨136,7,[eS x],2⟩),(4,g4,c4),(5,g5,c5),(400,g400,c400)] ->
 (∀s1:St,K (({ reg:=s.reg,own:=(s1.over [] [(8,g,⟨136,7,[eS (ch x)],2⟩),(4,g4,c4),(5,g5,c5),(400,g400,c400)]).own }:St).putR d (.tup []))) ->
 Sm Tryz.prog lay.get s ⟨some d,.call ⟨.value c,#[a],tys⟩,ty,pos,af,none⟩ K
theorem Bf (x:SR):ChOk 176 [] id x:=by
 constructor;intro K s d g g4 g5 g400 c4 c5 c400 c a tys ty pos af hc ha ho hK;refine cG layOk O hc Tryz.func176 O Y O O ?_;show PWP _ _ _ _ (bQ s (([a]:List Operand).map s.ev++[]));have hk:=hK s;simp only[id_eq]at hk;rw[Fit.over (l:=[]) ho]at hk;refine H ?_;exact kt O hk
theorem fX {α β:Type}{f:α->β}{l:List α}{k:Nat}{x:α}(h:l[k]? = some x):(l.take (k+1)).map f=(l.take k).map f++[f x]:=by rw[bk h,List.map_append];rfl
set_option maxRecDepth 20000 in
theorem tq (b:BR)(hb:b.Lim)(h12:b.l.length<=1000)(hM:∀s∈b.l,s.k.M.length<=1000)(cl:FuncId)(caps:List PV)(ch:SR->SR)(hch:∀s∈b.l,ChOk cl caps ch (qL s)) :
  Ret Tryz.prog .shared 175 [.agg (eB b),.clo cl caps] (.agg (eB (Fa ch b))):=by
 have h1:=Bi b.a (hx:=hb.a.v) Y;have hml:(b.l.map eS).length=b.l.length:=ah;obtain⟨w,ba,l⟩:=b;simp only at *
 have hll:=hb.l.1;rw[show ofQ ba.val=k9 ba from O]at h1;clear hb;generalize hG:(fun x=>ch (qL x))=G0;rw[Fa,hG];generalize k9 ba=A0 at *
 refine Ret.of_pwp layOk mixed Go.Proofs.Tryz.func175 O Y O O ?_;refine H ?_;refine bB 6 1 [11,12,13,14,15,16,5] [] br O ?_;refine G h1 ?_;refine H ?_;refine ar (Ghost.nilcell (k:=400) (k0:=5) (i:=0) (j:=5) (row:=I w::(eR A0++[.nil])) 136 7 1 O O O O O O O) ?_;refine am (fun i:Nat=>i<=l.length) (fun i=>[(1,.clo cl caps),(4,.ptr 4 1 0 0),(5,.ptr 5 1 0 0),(18,.sl (l.map eS)),(19,I l.length),(20,I (i:Nat))])
  (fun i=>[(4,1,⟨158,6,[I 0::(zN++[.nil])],2⟩),(5,1,⟨158,6,[I w::(eR A0++[.als 400 (1+i) 0 (((l.take i).map G0).map eS).length])],2⟩),(400,1+i,⟨136,7,((l.take i).map G0).map eS,1⟩)]) (fun i=>l.length-i) 0 (Nat.zero_le _) ⟨O,O,O,O,by rw[<-hml];rfl,O,O,O,O,trivial⟩ ?_
 intro i s hi;refine D ?_ ?_<;>intro h
 .have hlt:i<l.length:=by have:=ax h;omega
  clear h;obtain⟨x,hx⟩:=aG hlt;have hxm:=aZ hx;have hxl:=hll x hxm;have hcx:=hch x hxm;have hMx:=hM x hxm;have hrow:=fX (f:=G0) hx;have hil:((l.take i).map G0).length<=1000:=by rw[List.length_map,List.length_take];omega
  have hw:=c_ i;have hGx:G0 x=ch (qL x):=by rw[<-hG]
  generalize G0 x=y at *
  generalize (l.take i).map G0=B at *
  have e1:=Bi x.c (hx:=hxl.c.v) Y;rw[show ofQ x.c.val=k9 x.c from O]at e1;have e2:=(mJ x.k.S hxl.k.ls).shared_of_fresh;have e3:∀m∈x.k.M,Ret Tryz.prog .shared 233 [.agg (eR m)] (.agg (eR (k9 m))):=fun m hm=>Bi m (hx:=(hxl.k.m m hm).v) Y;have hmm:(x.k.M.map eR).length=x.k.M.length:=ah;obtain⟨xx,xc,xS,xM⟩:=x;simp only[qL]at *
  generalize k9 xc=XC at *
  refine aJ hx ?_
  (repeat ((fail_if_success (with_reducible refine aR 5 ?_));refine cu O ?_))
  refine ar (gj 8) ?_;refine bB 11 1 [24,25,26,27,28,29,30,31,32,33,34,8] [] br O ?_;refine G e1 ?_;refine G e2 ?_;refine H ?_;refine bq [(1,.clo cl caps),(4,.ptr 4 1 0 0),(5,.ptr 5 1 0 0),(8,.ptr 8 ((s.own 8).1+2+1) 0 0),(18,.sl (l.map eS)),(19,I l.length),(20,I (i:Nat)),(37,.sl (xM.map eR)),(38,I (xM.map eR).length),(39,I ((0:Nat):Int))]
   [(4,1,⟨158,6,[I 0::(zN++[.nil])],2⟩),(5,1,⟨158,6,[I w::(eR A0++[.als 400 (1+i) 0 (B.map eS).length])],2⟩),(400,1+i,⟨136,7,B.map eS,1⟩),(8,(s.own 8).1+2+1,⟨136,7,[I xx::(eR XC++[.sl (xS.map eN),.nil])],2⟩)]
   ⟨O,O,O,O,O,O,O,O,O,O,O,O,O,O,trivial⟩ ?_
  generalize (s.own 8).1+2+1=g8;rw[hmm];intro s1;refine ar (Ghost.nilcell (k:=300) (k0:=8) (i:=0) (j:=6) (row:=I xx::(eR XC++[.sl (xS.map eN),.nil])) 42 4 1 O O O O O O O) ?_;have hg3:∃g3,(s1.own 300).1+1=g3:=⟨_,O⟩;obtain⟨g3,hg3⟩:=hg3;refine am (fun k:Nat=>k<=xM.length) (fun k=>[(1,.clo cl caps),(4,.ptr 4 1 0 0),(5,.ptr 5 1 0 0),(8,.ptr 8 g8 0 0),(18,.sl (l.map eS)),(19,I l.length),(20,I (i:Nat)),(37,.sl (xM.map eR)),(38,I xM.length),(39,I (k:Nat))])
   (fun k=>[(4,1,⟨158,6,[I 0::(zN++[.nil])],2⟩),(5,1,⟨158,6,[I w::(eR A0++[.als 400 (1+i) 0 (B.map eS).length])],2⟩),(400,1+i,⟨136,7,B.map eS,1⟩),(8,g8,⟨136,7,[I xx::(eR XC++[.sl (xS.map eN),.als 300 (g3+k) 0 (((xM.take k).map k9).map eR).length])],2⟩),(300,g3+k,⟨42,4,((xM.take k).map k9).map eR,1⟩)]) (fun k=>xM.length-k) 0 (Nat.zero_le _)
   ⟨O,O,O,O,O,O,O,O,O,O,O,O,O,by rw[<-hg3];rfl,by rw[<-hg3];rfl,trivial⟩ ?_
  clear hg3;intro k s2 hk;refine D ?_ ?_<;>intro h
  .have hlk:k<xM.length:=by have:=ax h;omega
   clear h;obtain⟨m,hm⟩:=aG hlk;have e4:=e3 m (aZ hm);have hrk:=fX (f:=k9) hm;have hkl:((xM.take k).map k9).length<=1000:=by rw[List.length_map,List.length_take];omega
   have hwk:IntKind.i64.wrap (((k:Nat):Int)+1)=((k+1:Nat):Int):=by rw[wrap_i64 J J];omega
   generalize k9 m=n at *
   generalize (xM.take k).map k9=E at *
   refine aJ hm ?_
   (repeat ((fail_if_success (with_reducible refine aR 9 ?_));refine cu O ?_))
   refine gv [48,300] [8] 9 [5,6,9] br br ?_;refine G e4 ?_;refine H ?_;refine i8 O O O (aS 1 O O O O O O O O O O O aI O ⟨dj O,?_⟩);refine H ?_;refine i8 O O O (bi 1 O O O O O O O O O O O aI (by intro row hr;first|(simp at hr;subst hr;rfl)|(simp at hr;obtain⟨_,_,rfl⟩:=hr;rfl)|simp at hr) O O aK aK ⟨dj O,?_⟩);refine H ?_;have hb3:g3+(k+1)=g3+k+1:=O;refine⟨k+1,hlk,J,O,O,O,O,O,O,O,O,O,congrArg I hwk,O,O,O,?_,?_,trivial⟩
   .rw[hrk,hb3];refine Eq.trans (b:=(g8,some (Cont.mk 136 7 [I xx::(eR XC++[.sl (xS.map eN),.als 300 (g3+k+1) 0 (E.map eR++[eR n]).length])] 2))) O ?_;rw[show(E++[n]).map eR=E.map eR++[eR n] by rw[List.map_append];rfl]
   .rw[hrk,hb3,show(E++[n]).map eR=E.map eR++[eR n] by rw[List.map_append];rfl];rfl
  .have hke:k=xM.length:=by have:=aF h;omega
   clear h;subst hke;rw[List.take_length];refine ar (Ghost.freezeD (k:=300) (k0:=8) (i:=0) (j:=6) (row:=I xx::(eR XC++[.sl (xS.map eN),.als 300 (g3+xM.length) 0 ((xM.map k9).map eR).length])) O O O O O O O O) ?_
   ((repeat ((fail_if_success (with_reducible refine aR 11 ?_));refine cu O ?_));refine aN 1 ?_)
   refine eg O ?_;refine aT ?_;refine bc O (hcx.run O O ⟨O,O,O,O,trivial⟩ fun s3=>?_);refine aQ ?_;refine H ?_;refine aE (aS 1 O O O O O O O O O O O aI O ?_);refine H ?_;refine aE (bi 1 O O O O O O O O O O O aI (by intro row hr;first|(simp at hr;subst hr;rfl)|simp at hr) O O aK aK ?_);refine H ?_;have hb4:1+(i+1)=1+i+1:=O;refine⟨i+1,hlt,J,O,O,O,O,O,congrArg I hw,O,?_,?_,trivial⟩
   .rw[hrow,hb4];refine Eq.trans (b:=(1,some (Cont.mk 158 6 [I w::(eR A0++[.als 400 (1+i+1) 0 (B.map eS++[eS y]).length])] 2))) ?_ ?_
    .rw[hGx];rfl
    .rw[show(B++[y]).map eS=B.map eS++[eS y] by rw[List.map_append];rfl]
   .rw[hrow,hb4,show(B++[y]).map eS=B.map eS++[eS y] by rw[List.map_append];rfl,hGx];rfl
 .have hie:i=l.length:=by have:=aF h;omega
  clear h;subst hie;rw[List.take_length];refine ar (Ghost.freezeD (k:=400) (k0:=5) (i:=0) (j:=5) (row:=I w::(eR A0++[.als 400 (1+l.length) 0 ((l.map G0).map eS).length])) O O O O O O O O) ?_;exact bL
structure StOk (t:ST):Prop where
 x : -1000000<=t.x/\t.x<=1000000
 w:1<=t.w/\t.w<=100000
 n:2<=t.L.length/\t.L.length<=30
 h:t.H0.length+1=t.L.length
 L:∀l∈t.L,0<=l/\l<=100000
 H0:∀h∈t.H0,0<=h/\h<=100000
 asc:∀i a b,t.L[i]? = some a->t.L[i+1]? = some b->a<b
theorem cS {n lo hi:Int}(h:aw n lo hi=true):lo<=n/\n<=hi:=by
 simp[aw]at h;exact h
theorem DF {t:ST}{u:Option ST}(h:ij t u=0):StOk t:=by
 have hp:=qE h;have hf:dg t=0:=by
  unfold ij at h;rw[if_pos hp]at h;split at h
  .exact h
  .split at h
   .exact h
   .contradiction
 obtain⟨p1,p2⟩:=nl hp;rw[dg]at hf;split at hf
 rotate_left
 .omega
 rename_i hn;obtain⟨n1,n2⟩:=fh hn.1;split at hf
 rotate_left
 .contradiction
 rename_i hl;have lv:∀i l,t.L[i]? = some l->aw l 0 100000=true/\¬(0<i/\l<=t.L.getD (i-1) 0):=fun i l hi=>by
  have:=kq hl hi;rw[jY]at this;split at this
  .rename_i g;split at this
   .omega
   .rename_i g2;exact⟨g,g2⟩
  .omega
 refine⟨p1,p2,⟨n1,n2⟩,J,fun l hm=>?_,fun x hm=>?_,fun i a b ha hb=>?_⟩
 .obtain⟨i,hi⟩:=List.mem_iff_getElem?.1 hm;exact cS (lv i l hi).1
 .obtain⟨i,hi⟩:=List.mem_iff_getElem?.1 hm;have:=kq hf hi;rw[rx]at this;split at this
  .rename_i g;exact cS g
  .omega
 .have h2:=(lv (i+1) b hb).2;rw[Nat.add_sub_cancel,List.getD_eq_getElem?_getD,ha]at h2;have h2:¬(0<i+1/\b<=a):=h2;omega
def vq (d:Nat)(w h:Int):RR:=ofQ (((2*h*w:Int):Rat)*((d:Rat)/1000000000))
def qC (d:Nat)(t:ST):List RR:=t.H0.map (vq d t.w)++[ofQ 0]
def lI (d:Nat)(t:ST):SR:=⟨t.x,ofQ 0,⟨t.L,qC d t⟩⟩
def cy (d:Nat)(l:List ST):List SR:=l.map (lI d)
theorem sV {d:Nat}{l:List ST}{k:Nat}{t:ST}(h:l[k]? = some t):(cy d (l.take (k+1))).map eS=(cy d (l.take k)).map eS++[eS (lI d t)]:=by rw[bk h,cy,cy,List.map_append,List.map_append];rfl
theorem qK {h w:Int}(a:0<=h/\h<=100000)(b:1<=w/\w<=100000):0<=2*h*w/\2*h*w<=20000000000:=by
 have h1:2*h*w<=2*h*100000:=Int.mul_le_mul_of_nonneg_left b.2 J;have h2:0<=2*h*w:=Int.mul_nonneg J J;omega
theorem kV (l:List Int)(hl:l.length<=1000000000):Ret Tryz.prog .fresh 44 [.sl (l.map eN)] (.sl (l.map eN)):=by
 refine Ret.of_pwp layOk mixed Go.Proofs.Tryz.func44 O Y O O ?_;refine H ?_;refine aE (aS 0 O O O O O O O O O O O aI O ?_);refine H ?_;refine aE (bi 1 O O O O O O O O O O O aI (by intro row hr;obtain⟨p,_,rfl⟩:=List.mem_map.1 hr;rfl) O O aK aK ?_)
 (repeat ((fail_if_success (with_reducible refine dl ?_));refine cu O ?_))
 refine ar (Ghost.takeF (k:=3) (t:=2) l O O O O (fun _=>rfl)) ?_;refine H ?_;exact oD O O O aI O
set_option maxRecDepth 20000 in
theorem l8 (s:SHP)(hs:s.Len)(d:Nat)(he:jA s (d:Int)=0)(hd1:1<=d)(hd2:d<=1000000000)(hk:∀t∈s.st,StOk t)(h40:s.st.length<=40):Ret Tryz.prog .shared 94 [.agg (ep s),I (d:Nat)] (.tup [.sl ((cy d s.st).map eS),I 0]):=by
 have h1:=rn s hs (d:Int);rw[he]at h1;have w0:=gc 0 ⟨Y,Y⟩;rw[show(((0:Int):Rat))=0 from O]at w0;have hml:((s.st.map eT).length:Int)=s.st.length:=ah;obtain⟨nm,len,st,light,it⟩:=s;simp only at *
 clear he hs;refine Ret.of_pwp layOk mixed Go.Proofs.Tryz.func94 O Y O O ?_;refine ap h1 ?_
 (repeat ((fail_if_success (with_reducible refine aR 5 ?_));refine cu O ?_))
 refine ar (Ghost.nilreg (k:=1007) (t:=7) 136 7 1 O O) ?_;refine H ?_;rw[hml];refine am (fun i:Nat=>i<=st.length) (fun i=>[(1,I (d:Nat)),(2,.ptr 2 1 0 0),(7,.als 1007 (1+i) 0 ((cy d (st.take i)).map eS).length),(20,.sl (st.map eT)),(21,I st.length),(22,I (i:Nat))]) (fun i=>[(2,1,⟨27,9,[ep ⟨nm,len,st,light,it⟩],2⟩),(1007,1+i,⟨136,7,(cy d (st.take i)).map eS,1⟩)]) (fun i=>st.length-i) 0 (Nat.zero_le _) ⟨O,O,O,O,O,O,O,O,trivial⟩ ?_;intro i s hi;refine D ?_ ?_<;>intro h
 .have hlt:i<st.length:=by have:=ax h;omega
  clear h;obtain⟨t,hx⟩:=aG hlt;have ok:=hk t (aZ hx);have hsn:=sV (d:=d) hx;have hsl:(cy d (st.take i)).length<=40:=by rw[cy,List.length_map,List.length_take];omega
  have hw:=c_ i;have e2:=(mJ t.L (by have:=ok.n;omega)).shared_of_fresh;have hmh:((t.H0.map eN).length:Int)=t.H0.length:=ah;have hn:=ok.n;have hh:=ok.h;generalize hS:cy d (st.take i)=S at *
  obtain⟨tx,tw,tL,tH⟩:=t;simp only at *
  refine aJ hx ?_;refine G e2 ?_;refine H ?_;rw[hmh];refine bq [(1,I (d:Nat)),(2,.ptr 2 1 0 0),(7,.als 1007 (1+i) 0 (S.map eS).length),(9,.ptr 9 ((s.own 9).1+1) 0 0),(10,.ptr 10 ((s.own 10).1+1) 0 0),(20,.sl (st.map eT)),(21,I st.length),(22,I (i:Nat)),(31,.sl (tH.map eN)),(32,I tH.length),(33,I ((0:Nat):Int))] [(2,1,⟨27,9,[ep ⟨nm,len,st,light,it⟩],2⟩),(1007,1+i,⟨136,7,S.map eS,1⟩),(9,(s.own 9).1+1,⟨130,4,[eT ⟨tx,tw,tL,tH⟩],2⟩),(10,(s.own 10).1+1,⟨134,2,[[.sl (tL.map eN),.nil]],2⟩)] ⟨O,O,O,O,O,O,O,O,O,O,O,O,O,O,O,trivial⟩ ?_;generalize (s.own 9).1+1=g9;generalize (s.own 10).1+1=g10;intro s1;refine ar (Ghost.nilcell (k:=300) (k0:=10) (i:=0) (j:=1) (row:=[.sl (tL.map eN),.nil]) 42 4 1 O O O O O O O) ?_;have hg3:∃g3,(s1.own 300).1+1=g3:=⟨_,O⟩;obtain⟨g3,hg3⟩:=hg3;refine am (fun k:Nat=>k<=tH.length) (fun k=>[(1,I (d:Nat)),(2,.ptr 2 1 0 0),(7,.als 1007 (1+i) 0 (S.map eS).length),(9,.ptr 9 g9 0 0),(10,.ptr 10 g10 0 0),(20,.sl (st.map eT)),(21,I st.length),(22,I (i:Nat)),(31,.sl (tH.map eN)),(32,I tH.length),(33,I (k:Nat))])
   (fun k=>[(2,1,⟨27,9,[ep ⟨nm,len,st,light,it⟩],2⟩),(1007,1+i,⟨136,7,S.map eS,1⟩),(9,g9,⟨130,4,[eT ⟨tx,tw,tL,tH⟩],2⟩),(10,g10,⟨134,2,[[.sl (tL.map eN),.als 300 (g3+k) 0 (((tH.take k).map (vq d tw)).map eR).length]],2⟩),(300,g3+k,⟨42,4,((tH.take k).map (vq d tw)).map eR,1⟩)]) (fun k=>tH.length-k) 0 (Nat.zero_le _)
   ⟨O,O,O,O,O,O,O,O,O,O,O,O,O,O,by rw[<-hg3];rfl,by rw[<-hg3];rfl,trivial⟩ ?_
  clear hg3;intro k s2 hkl;refine D ?_ ?_<;>intro h
  .have hlk:k<tH.length:=by have:=ax h;omega
   clear h;obtain⟨x,hm⟩:=aG hlk;have hxl:=ok.H0 x (aZ hm);have hvl:0<=2*x*tw/\2*x*tw<=20000000000:=qK hxl ok.w;obtain⟨v1,v2⟩:=hvl;have zv:Zb (2*x*tw):=aM J J;have u1:=gc (2*x*tw) ⟨J,J⟩;have u2:=wO (ofQ ((2*x*tw:Int):Rat)) (hx:=Vq.ofQ (h:=HQ.int)) Y d hd1 hd2;rw[show ofQ (((2*x*tw:Int):Rat)*((d:Rat)/1000000000))=vq d tw x from O]at u2;have q1:IntKind.i64.wrap (2*x)=2*x:=wrap_i64 J J;have q2:IntKind.i64.wrap (2*x*tw)=2*x*tw:=wrap_i64 J J;have hrk:=fX (f:=vq d tw) hm;have hkl2:((tH.take k).map (vq d tw)).length<=1000:=by rw[List.length_map,List.length_take];omega
   have hwk:IntKind.i64.wrap (((k:Nat):Int)+1)=((k+1:Nat):Int):=by rw[wrap_i64 J J];omega
   generalize vq d tw x=n at *
   generalize (tH.take k).map (vq d tw)=E at *
   refine aJ hm ?_
   (repeat ((fail_if_success (with_reducible refine aR 12 ?_));refine cu O ?_))
   refine gv [47,300] [10] 13 [10,11,13] br br ?_;refine H ?_;rw[q1];refine H ?_;rw[q2];refine nT O O O u1 O O ?_;refine G u2 ?_;refine H ?_;refine i8 O O O (aS 1 O O O O O O O O O O O aI O ⟨dj O,?_⟩);refine H ?_;refine i8 O O O (bi 1 O O O O O O O O O O O aI (by intro row hr;first|(simp at hr;subst hr;rfl)|(simp at hr;obtain⟨_,_,rfl⟩:=hr;rfl)|simp at hr) O O aK aK ⟨dj O,?_⟩);refine H ?_;have hb3:g3+(k+1)=g3+k+1:=O;refine⟨k+1,hlk,J,O,O,O,O,O,O,O,O,O,O,congrArg I hwk,O,O,O,?_,?_,trivial⟩
   .rw[hrk,hb3,show(E++[n]).map eR=E.map eR++[eR n] by rw[List.map_append];rfl];rfl
   .rw[hrk,hb3,show(E++[n]).map eR=E.map eR++[eR n] by rw[List.map_append];rfl];rfl
  .have hke:k=tH.length:=by have:=aF h;omega
   clear h;subst hke;rw[List.take_length];have hsr:qC d ⟨tx,tw,tL,tH⟩=tH.map (vq d tw)++[ofQ 0]:=O;have hslen:(tH.map (vq d tw)).length<=1000:=by rw[List.length_map];omega
   generalize tH.map (vq d tw)=E at *
   (repeat ((fail_if_success (with_reducible refine aR 14 ?_));refine cu O ?_))
   refine gv [54,300] [10] 6 [3,4,6] br br ?_;refine G w0 ?_;refine H ?_;refine i8 O O O (aS 1 O O O O O O O O O O O aI O ⟨dj O,?_⟩);refine H ?_;refine i8 O O O (bi 1 O O O O O O O O O O O aI (by intro row hr;first|(simp at hr;subst hr;rfl)|(simp at hr;obtain⟨_,_,rfl⟩:=hr;rfl)|simp at hr) O O aK aK ⟨dj O,?_⟩)
   (repeat ((fail_if_success (with_reducible refine aR 15 ?_));refine cu O ?_))
   refine ar (Ghost.freezeD (k:=300) (k0:=10) (i:=0) (j:=1) (row:=[.sl (tL.map eN),.als 300 (g3+tH.length+1) 0 (E.map eR++[eR (ofQ 0)]).length]) O O O O O O O O) ?_;refine bj [63,1007] [6,7,8] br ?_;refine G w0 ?_;refine H ?_;refine i8 O O O (aS 1 O O O O O O O O O O O aI O ⟨dj O,?_⟩);refine H ?_;refine i8 O O O (bi 1 O O O O O O O O O O O aI (by intro row hr;first|(simp at hr;subst hr;rfl)|(simp at hr;obtain⟨_,_,rfl⟩:=hr;rfl)|simp at hr) O O aK aK ⟨dj O,?_⟩);refine H ?_;have hrow:(cy d (st.take (i+1))).map eS=S.map eS++[[I tx]++eR (ofQ 0)++[.sl (tL.map eN),.sl (E.map eR++[eR (ofQ 0)])]]:=by
    rw[hsn,lI,hsr,show(eS ⟨tx,ofQ 0,⟨tL,E++[ofQ 0]⟩⟩)=[I tx]++eR (ofQ 0)++[.sl (tL.map eN),.sl ((E++[ofQ 0]).map eR)] from O,List.map_append];rfl
   refine⟨i+1,hlt,J,O,O,?_,O,O,congrArg I hw,O,?_,trivial⟩
   .rw[hrow];rfl
   .rw[hrow];rfl
 .have hie:i=st.length:=by have:=aF h;omega
  clear h;subst hie;rw[List.take_length]
  (repeat ((fail_if_success (with_reducible refine dl ?_));refine cu O ?_))
  refine ar (Ghost.takeD (k:=1007) (t:=4) O O O) ?_;exact bL
theorem DL:Ret Tryz.prog .shared 25 [I 0] (.agg (eR (ofQ 0))):=by
 have:=fS 0 ⟨Y,Y⟩;rwa [show(((0:Int):Rat))=0 from O]at this
theorem DC {d:Nat}{t:ST}{k:Nat}(hk:k<t.H0.length){x:Int}(hx:t.H0[k]? = some x):(qC d t)[k]? = some (vq d t.w x):=by
 rw[qC,List.getElem?_append_left (by simpa using hk),List.getElem?_map,hx];rfl
theorem DB {d:Nat}{t:ST}{k:Nat}(hk:k=t.H0.length):(qC d t)[k]? = some (ofQ 0):=by
 rw[qC,List.getElem?_append_right (by simp[hk])];simp[hk]
theorem Ad (d:Nat)(t:ST):(qC d t).length=t.H0.length+1:=by simp[qC]
def zB:List PV:=I 0::(zN++[.nil])
def uy:BR:=⟨0,RR.zero,[]⟩
theorem WeakL.app {a b c d:List PV}(h1:WeakL a b)(h2:WeakL c d):WeakL (a++c) (b++d):=by
 induction h1 with
 |nil=>exact h2
 |cons h _ ih=>exact .cons h ih
theorem Cc:WeakL zB (eB uy) := .cons (.rfl _) (dH.app (.cons .nil .nil))
set_option maxRecDepth 20000 in
theorem qZ (b:BR)(hb:b.Lim):Ret Tryz.prog .shared 174 [.agg (eB b)] (.tup [.agg (eB (if dw b=0 then b else uy)),I (dw b)]):=by
 have h1:=jc b hb;by_cases h0:dw b=0
 .rw[if_pos h0,h0];rw[h0]at h1;refine Ret.of_pwp layOk mixed Go.Proofs.Tryz.func174 O Y O O ?_;refine ap h1 ?_;exact bL
 .rw[if_neg h0]
  suffices hz:Ret Tryz.prog .shared 174 [.agg (eB b)] (.tup [.agg zB,I (dw b)]) from hz.weak (WeakL.refl _) (WeakL.tup (.cons Cc.agg (WeakL.refl _)))
  generalize dw b=e at *
  refine Ret.of_pwp layOk mixed Go.Proofs.Tryz.func174 O Y O O ?_;refine ap h1 ?_;refine D ?_ ?_<;>intro h
  .clear h;exact bL
  .simp at h;exact absurd h h0
def qX (s:SHP):Rat:=(sX (s.light::s.it):Rat)/(sM (s.light::s.it):Rat)
def wB (s:SHP)(l:List SR):BR:=⟨sM (s.light::s.it),ofQ (qX s),l⟩
def pB (s:SHP)(l:List SR):BR:=⟨sM (s.light::s.it),ofQ (qX s),l.map qL⟩
theorem iA (p:Rat):k9 (ofQ p)=ofQ p:=by rw[k9,ofQ_val]
theorem Em (s:SHP)(l:List SR):Fa id (wB s l)=pB s l:=by
 rw[Fa,pB];show(⟨sM (s.light::s.it),k9 (ofQ (qX s)),l.map fun x=>id (qL x)⟩:BR)=_;rw[iA];rfl
set_option maxRecDepth 20000 in
theorem AL (s:SHP)(hs:s.Len)(he:cE s=0)(l:List SR)(hb:(wB s l).Lim)(hp:(pB s l).Lim)(h12:l.length<=1000)(hM:∀x∈l,x.k.M.length<=1000):Ret Tryz.prog .shared 95 [.agg (ep s),.sl (l.map eS)] (.tup [.agg (eB (if dw (pB s l)=0 then pB s l else uy)),I (dw (pB s l))]):=by
 have h1:=wJ s hs he;have h2:=tq (wB s l) hb h12 hM 176 [] id (fun x _=>Bf (qL x));rw[Em]at h2;have h3:=qZ (pB s l) hp;have ew:eB (wB s l)=I (sM (s.light::s.it))::(eR (ofQ (qX s))++[.sl (l.map eS)]):=O;rw[ew]at h2;rw[AE,show(sX (s.light::s.it):Rat)/(sM (s.light::s.it):Rat)=qX s from O]at h1;generalize ofQ ((sZ (s.light::s.it):Rat)/(sM (s.light::s.it):Rat))=QZ at *
 generalize dw (pB s l)=e at *
 generalize hX:(if e=0 then pB s l else uy)=X at *
 generalize pB s l=c at *
 generalize ofQ (qX s)=QX at *
 generalize sM (s.light::s.it)=m at *
 generalize sF (s.light::s.it)=f at *
 clear hb hp;refine Ret.of_pwp layOk mixed Go.Proofs.Tryz.func95 O Y O O ?_;refine G h1 ?_;refine G h2 ?_;refine G h3 ?_;exact bL
structure BKR where
 x:Int
 z:Int
 hf:Int
 ht:Int
 wd:Int
 st:RR
 lim:Int
 side:Bool
structure ZNR where
 nm:Str
 a:Int
 b:Int
 h:Int
structure DKR where
 s:SHP
 d:Int
 bl:List BKR
 zn:List ZNR
 gm:Int
 oh:Int
def eBk (b:BKR):List PV:=[I b.x,I b.z,I b.hf,I b.ht,I b.wd]++eR b.st++[I b.lim,.bool b.side]
def fW (z:ZNR):List PV:=[.str z.nm,I z.a,I z.b,I z.h]
def c9 (d:DKR):List PV:=ep d.s++[I d.d,.sl (d.bl.map eBk),.sl (d.zn.map fW),I d.gm,I d.oh]
structure DKR.Len (d:DKR):Prop where
 s:d.s.Len
 bl:d.bl.length<=9223372036854775807
 zn:d.zn.length<=9223372036854775807
def mb (l:List ZNR)(i:Nat)(z:ZNR):Int:=if bS z.nm=true then(if (l.take i).any (fun y=>decide (y.nm=z.nm))=true then 5 else if (aw z.a (-1000000) 1000000&&aw z.b (-1000000) 1000000&&decide (z.a<=z.b)&&aw z.h 0 100000)=true then 0 else 2) else 4
def ef (l:List ZNR):Int:=if 20<l.length then 8 else eG l (mb l)
def gp (L:List Int)(z:Int):List Int->Nat->Option Int
 |[],_=>none
 |h::H0,k=>if z<h then some (L.getD k 0) else gp L z H0 (k+1)
def l9 (x:Int)(t:ST):Bool:=decide (2*t.x-t.w<=2*x)&&decide (2*x<2*t.x+t.w)
def cz (x z:Int):List ST->Option Int
 |[]=>none
 |t::l=>if l9 x t=true then(match gp t.L z t.H0 0 with
  |some n=>some n
  |none=>cz x z l) else cz x z l
def y7 (b:BKR):Bool:=aw b.x (-1000000) 1000000&&aw b.hf 1 10000&&aw b.ht 0 100000&&aw b.wd 1 20000&&aw b.lim 0 1000000000&&decide (0<b.st.val)
def jS (b:BKR):Bool:=y7 b&&(if b.side then aw b.z 1 100000&&decide (b.wd<=2*b.z) else decide (b.z=0))
def fD (b:BKR)(z:ZNR):Bool:=decide (b.x-b.hf<z.b)&&decide (z.a<b.x+b.hf)&&decide (2*b.z-b.wd<2*z.h)
def eZ (a b:Int):Int:=if a-b<b-a then b-a else a-b
def fV (b c:BKR):Bool:=decide (eZ b.x c.x<b.hf+c.hf)&&decide (2*eZ b.z c.z<b.wd+c.wd)
def fT (st:List ST)(zn:List ZNR)(l:List BKR)(i:Nat)(b:BKR):Int :=
 if jS b=true then(if (cz b.x b.z st).isSome=true then(if zn.any (fD b)=true then 15 else if (l.take i).any (fV b)=true then 17 else 0) else 6) else 2
def mF (st:List ST)(zn:List ZNR)(l:List BKR):Int:=if 40<l.length then 8 else eG l (fT st zn l)
def kX (d:DKR):Int :=
 if jA d.s d.d=0 then(if ef d.zn=0 then(if mF d.s.st d.zn d.bl=0 then(if (aw d.gm (-100000) 100000&&aw d.oh 0 1000000)=true then 0 else 2) else mF d.s.st d.zn d.bl) else ef d.zn) else jA d.s d.d
theorem mV {L:List Int}{z:Int}{H0:List Int}{k:Nat}{h:Int}(hx:H0[k]? = some h):gp L z (H0.drop k) k=if z<h then some (L.getD k 0) else gp L z (H0.drop (k+1)) (k+1):=by
 obtain⟨hl,rfl⟩:=be hx;rw[List.drop_eq_getElem_cons hl,gp]
theorem ov {x z:Int}{l:List ST}{k:Nat}{t:ST}(hx:l[k]? = some t):cz x z (l.drop k)=if l9 x t=true then(match gp t.L z t.H0 0 with
  |some n=>some n
  |none=>cz x z (l.drop (k+1))) else cz x z (l.drop (k+1)):=by
 obtain⟨hl,rfl⟩:=be hx;rw[List.drop_eq_getElem_cons hl,cz]
def other (c:UInt8):Bool:=(decide (48<=(c.toNat:Int))&&decide ((c.toNat:Int)<=57))||decide ((c.toNat:Int)=45)
theorem bF (n lo hi:Int):Ret Tryz.prog .shared 67 [I n,I lo,I hi] (.bool (!aw n lo hi)):=by
 refine Ret.of_pwp layOk mixed Go.Proofs.Tryz.func67 O Y O O ?_;refine cY ?_ ?_<;>intro h
 .have h1:=ax h;refine H ?_;exact bW O O (by simp[aw];omega)
 .have h1:=aF h;refine H ?_;exact bW O O (by rw[aw,decide_eq_true (show lo<=n by omega),Bool.true_and,<-decide_not];exact congrArg PV.bool (decide_eq_decide.2 J))
theorem bO (n lo hi:Int):Ret Tryz.prog .shared 72 [I n,I lo,I hi] (.bool (aw n lo hi)):=by
 refine Ret.of_pwp layOk mixed Go.Proofs.Tryz.func72 O Y O O ?_;refine cY ?_ ?_<;>intro h
 .refine H ?_;exact bW O O (by simp[aw,ax h])
 .refine H ?_;exact bW O O (by simp[aw,h])
theorem wT (l:Str):Ret Tryz.prog .shared 129 [.str l] (.bool (bS l)):=by
 refine Ret.of_pwp layOk mixed Go.Proofs.Tryz.func129 O Y O O ?_
 repeat' (first|refine eg O ?_|refine ct O O (fun h=>?_) (fun h=>?_)|refine cq O O (fun h=>?_) (fun h=>?_)|refine cp O O (fun h=>?_) (fun h=>?_))
 .have h0:l=[]:=by simpa using h
  subst h0;exact fE
 have h1:1<=l.length:=by
  have h0:l≠[]:=by simpa using h
  have:=List.length_pos_iff.2 h0;omega
 refine D ?_ ?_<;>intro h
 .have:=ax h;refine H ?_;exact bW O O (by simp[bS];omega)
 have h2:=aF h;refine H ?_;refine am (ClearE l kT) (fun k=>[(0,.str l),(15,I l.length),(16,I k)]) (fun _=>[]) (fun k=>l.length-k) 0 .zero' ⟨O,O,O,trivial⟩ ?_;intro k s hk;refine D ?_ ?_<;>intro h
 .have hlt:k<l.length:=by simpa using h
  obtain⟨x,hx⟩:=aG hlt;have hget:l.getD k 0=x:=by rw[List.getD_eq_getElem?_getD,hx];rfl
  refine H ?_;refine gV O ⟨J,J⟩ ?_;have hn:((l.getD (Int.toNat (k:Int)) 0).toNat:Int)=x.toNat:=by rw[Int.toNat_natCast,hget]
  rw[hn];have hkb:k<12:=J;clear h hn h1 h2;refine gV O trivial ?_
  ((repeat (first|refine aT ?_ | refine ci ?_ | refine b9 ?_ | refine cd ?_));refine bg ?_)
  refine jO 100 [(0,.str l),(3,I k),(4,.int .u8 x.toNat),(5,.bool (iy x)),(15,I l.length),(16,I k)] [] ?_ ?_
  .repeat' (first|refine eg O ?_|refine ct O O (fun h=>?_) (fun h=>?_)|refine cq O O (fun h=>?_) (fun h=>?_)|refine cp O O (fun h=>?_) (fun h=>?_))
   all_goals exact⟨O,O,O,(congrArg PV.bool (by simp_all [iy]<;>omega)),O,O,trivial⟩
  intro s
  ((repeat (first|refine aT ?_ | refine ci ?_ | refine b9 ?_ | refine cd ?_));refine bg ?_)
  refine jO 101 [(0,.str l),(3,I k),(5,.bool (iy x)),(6,.bool (other x)),(15,I l.length),(16,I k)] [] ?_ ?_
  .repeat' (first|refine eg O ?_|refine ct O O (fun h=>?_) (fun h=>?_)|refine cq O O (fun h=>?_) (fun h=>?_)|refine cp O O (fun h=>?_) (fun h=>?_))
   all_goals exact⟨O,O,O,(congrArg PV.bool (by simp_all [other]<;>omega)),O,O,trivial⟩
  intro s
  repeat' (first|refine eg O ?_|refine ct O O (fun h=>?_) (fun h=>?_)|refine cq O O (fun h=>?_) (fun h=>?_)|refine cp O O (fun h=>?_) (fun h=>?_))
  all_goals try (refine aV O (fun hc=>?_) (fun hc=>?_))
  all_goals repeat refine eg O ?_
  all_goals first
   |(
    refine bW O O ?_;have hb:kT k x=1:=by simp_all [kT,tj,other]<;>omega
    have:=hk.found hx hb J
    simp[bS,this])
   |(
    refine⟨k+1,hk.succ hx (by simp_all [kT,tj,other]<;>omega),J,O,O,?_,trivial⟩
    exact bN J J)
 .refine H ?_;exact bW O O (by simp only[bS,hk.none (by simpa using h)];simp;omega)
theorem jX (z:Int)(h:i64 z):Ret Tryz.prog .shared 106 [I z] (.agg (eR (ofQ (z:Rat)))):=by
 have ho:=p_ z h.1 h.2;have hw:=i7 (cn z) (by have:=iE (z:=z) (by obtain⟨h1,h2⟩:=h;omega);omega);rw[co]at hw;generalize ofQ (z:Rat)=X at *
 generalize cn z=Z at *
 refine Ret.of_pwp layOk mixed Go.Proofs.Tryz.func106 O Y O O ?_;refine G ho ?_;refine G hw ?_;exact bL
theorem sK (x:RR){p:Rat}{n:Nat}[hx:Vq x p n](hn:n<=8000000):Ret Tryz.prog .shared 137 [.agg (eR x)] (I (sgn p)):=by
 have hc:=mL x RR.zero hn Y;rw[Rat.sub_eq_add_neg,Rat.neg_zero,Rat.add_zero]at hc;have hc2:=hc.weak (.cons (.rfl _) (.cons dH.agg .nil)) (.rfl _);generalize sgn p=g at *
 refine Ret.of_pwp layOk mixed Go.Proofs.Tryz.func137 O Y O O ?_;refine ap hc2 ?_;exact bm
def m7 (p:ZNR->Bool):List ZNR->Nat->Int
 |[],_ => -1
 |d::l,i=>if p d=true then(i:Int) else m7 p l (i+1)
theorem rA (p:ZNR->Bool):∀(l:List ZNR) (i:Nat),decide (0<=m7 p l i)=l.any p
 |[],i=>rfl
 |d::l,i=>by
  rw[m7,List.any_cons];cases h:p d
  .rw[if_neg Y,rA p l (i+1),Bool.false_or]
  .rw[if_pos O,Bool.true_or,decide_eq_true];omega
theorem wv (p:ZNR->Bool){l:List ZNR}{i:Nat}{x:ZNR}(h:l[i]? = some x):m7 p (l.drop i) i=if p x=true then(i:Int) else m7 p (l.drop (i+1)) (i+1):=by
 obtain⟨hl,rfl⟩:=be h;rw[List.drop_eq_getElem_cons hl,m7]
theorem xV (y z:ZNR):Ret Tryz.prog .shared 131 [.agg (fW y),.dref (fW z) 0] (.bool (decide (y.nm=z.nm))):=by
 refine Ret.of_pwp layOk mixed Go.Proofs.Tryz.func131 O Y O O ?_;exact fE
set_option maxRecDepth 20000 in
theorem uu (T:List ZNR)(hT:T.length<=1000)(z:ZNR):Ret Tryz.prog .shared 192 [.sl (T.map fW),.clo 131 [.dref (fW z) 0]] (I (m7 (fun y=>decide (y.nm=z.nm)) T 0)):=by
 have hml:(T.map fW).length=T.length:=ah;generalize hp:(fun y:ZNR=>decide (y.nm=z.nm))=p;have hg:∀d:ZNR,Ret Tryz.prog .shared 131 [.agg (fW d),.dref (fW z) 0] (.bool (p d)):=fun d=>by rw[<-hp];exact xV d z
 clear hp;generalize hF:m7 p T 0=F;refine Ret.of_pwp layOk mixed Go.Proofs.Tryz.func192 O Y O O ?_;refine H ?_;refine am (fun i:Nat=>i<=T.length/\m7 p (T.drop i) i=F) (fun i=>[(0,.sl (T.map fW)),(1,.clo 131 [.dref (fW z) 0]),(7,I T.length),(8,I (i:Nat))])
  (fun _=>[]) (fun i=>T.length-i) 0 ⟨Nat.zero_le _,by rw[List.drop_zero];exact hF⟩ ⟨O,O,by rw[<-hml];rfl,O,trivial⟩ ?_
 intro i s ⟨hi,hall⟩;refine D ?_ ?_<;>intro h
 .have hlt:i<T.length:=by have:=ax h;omega
  clear h;obtain⟨x,hx⟩:=aG hlt;have hgx:=hg x;have hw:=c_ i;rw[wv p hx]at hall;cases hp:p x with
  |true =>
   rw[hp]at hgx;rw[if_pos hp]at hall;refine aJ hx ?_;refine ap hgx ?_;refine H ?_;exact ke O O (by rw[<-hall])
  |false =>
   rw[hp]at hgx;rw[if_neg (by rw[hp];decide)]at hall;refine aJ hx ?_;refine ap hgx ?_;refine H ?_;exact⟨i+1,⟨J,hall⟩,J,O,O,O,congrArg I hw,trivial⟩
 .have hie:i=T.length:=by have:=aF h;omega
  clear h;rw[hie,List.drop_length,m7]at hall;rw[<-hall];exact bm
theorem xQ (T:List ZNR)(hT:T.length<=1000)(z:ZNR):Ret Tryz.prog .shared 130 [.sl (T.map fW),.clo 131 [.dref (fW z) 0]] (.bool (T.any fun y=>decide (y.nm=z.nm))):=by
 have h1:=uu T hT z;rw[<-rA (fun y=>decide (y.nm=z.nm)) T 0];generalize m7 (fun y=>decide (y.nm=z.nm)) T 0=F at *
 refine Ret.of_pwp layOk mixed Go.Proofs.Tryz.func130 O Y O O ?_;refine ap h1 ?_;exact fE
set_option maxRecDepth 20000 in
theorem xU (l:List ZNR)(hl:l.length<=9223372036854775807):Ret Tryz.prog .shared 68 [.sl (l.map fW)] (I (ef l)):=by
 have hml:(l.map fW).length=l.length:=ah;generalize hf:ef l=E;rw[ef]at hf;refine Ret.of_pwp layOk mixed Go.Proofs.Tryz.func68 O Y O O ?_;refine H ?_;rw[hml];refine aV O ?_ ?_<;>intro h
 .rw[if_pos (by have:=ax h;omega)]at hf;subst hf;exact bm
 have h20:¬20<l.length:=by have:=aF h;omega
 clear h;rw[if_neg h20]at hf;refine H ?_;rw[hml];refine am (ClearE l (mb l)) (fun k=>[(0,.sl (l.map fW)),(8,.sl (l.map fW)),(9,I l.length),(10,I (k:Nat))]) (fun _=>[]) (fun k=>l.length-k) 0 .zero' ⟨O,O,O,O,trivial⟩ ?_;intro k s hk;have hkl:=hk.1;refine D ?_ ?_<;>intro h
 .have hlt:k<l.length:=by have:=ax h;omega
  clear h;obtain⟨z,hx⟩:=aG hlt;have n0:=wT z.nm;have c0:=xQ (l.take k) (by rw[List.length_take];omega) z;have o1:=bF z.a (-1000000) 1000000;have o2:=bF z.b (-1000000) 1000000;have o3:=bF z.h 0 100000;have hw:=c_ k;have hfl:=fun e (h:mb l k z=e) (he:e≠0)=>hk.found hx h he;have hsu:=fun(h:mb l k z=0)=>hk.succ hx h;rw[mb]at hfl hsu;generalize bS z.nm=b0 at *
  generalize hA:(l.take k).any (fun y=>decide (y.nm=z.nm))=b1 at *
  generalize aw z.a (-1000000) 1000000=b2 at *
  generalize aw z.b (-1000000) 1000000=b3 at *
  generalize aw z.h 0 100000=b4 at *
  clear hA hk;refine aJ hx ?_;refine ap n0 ?_;cases b0
  .have:=hfl 4 (by rfl) Y;rw[hf]at this;subst this;exact bm
  (repeat ((fail_if_success (with_reducible refine aR 8 ?_));refine cu O ?_))
  refine ar (Ghost.data (k:=4) (t:=4) (row:=fW z) O O O O) ?_;refine H ?_;refine bI O O (lp (n:=((k:Nat):Int)) O O O O O J J (fun _=>rfl)) ?_;rw[Int.toNat_natCast];refine ap c0 ?_;cases b1
  rotate_left
  .have:=hfl 5 (by rfl) Y;rw[hf]at this;subst this;exact bm
  refine ap o1 ?_;cases b2
  .have:=hfl 2 (by rfl) Y;rw[hf]at this;subst this;exact bm
  refine ap o2 ?_;cases b3
  .have:=hfl 2 (by rfl) Y;rw[hf]at this;subst this;exact bm
  by_cases hab:z.a<=z.b
  rotate_left
  .have:=hfl 2 (by simp[hab]) Y;rw[hf]at this;subst this;refine cY ?_ ?_<;>intro h
   rotate_left
   .exact absurd (aF h) J
   clear h;exact bm
  refine cY ?_ ?_<;>intro h
  .exact absurd (ax h) J
  clear h;refine ap o3 ?_;cases b4
  .have:=hfl 2 ah Y;rw[hf]at this;subst this;exact bm
  refine H ?_;exact⟨k+1,hsu (by simp[hab]),J,O,O,O,congrArg I hw,trivial⟩
 .have hge:¬k<l.length:=by have:=aF h;omega
  clear h;rw[hk.none hge]at hf;subst hf;exact bm
set_option maxRecDepth 20000 in
theorem gD (s:SHP)(x z:Int)(hx : -1000000<=x/\x<=1000000)(hst:∀t∈s.st,StOk t)(hn:s.st.length<=40):Ret Tryz.prog .shared 101 [.agg (ep s),I x,I z] (.tup [I ((cz x z s.st).getD 0),.bool (cz x z s.st).isSome]):=by
 have hml:(s.st.map eT).length=s.st.length:=ah;have q1:IntKind.i64.wrap (2*x)=2*x:=wrap_i64 J J;generalize hR:cz x z s.st=R;obtain⟨nm,len,st,light,it⟩:=s;simp only at *
 refine Ret.of_pwp layOk mixed Go.Proofs.Tryz.func101 O Y O O ?_;refine H ?_;rw[hml];refine am (fun i:Nat=>i<=st.length/\cz x z (st.drop i)=R) (fun i=>[(1,I x),(2,I z),(3,.ptr 3 1 0 0),(13,.sl (st.map eT)),(14,I st.length),(15,I (i:Nat))]) (fun _=>[(3,1,⟨27,9,[ep ⟨nm,len,st,light,it⟩],2⟩)]) (fun i=>st.length-i) 0 ⟨Nat.zero_le _,by rw[List.drop_zero];exact hR⟩ ⟨O,O,O,O,O,O,O,trivial⟩ ?_;rintro i s ⟨hi,hall⟩;refine D ?_ ?_<;>intro h
 .have hlt:i<st.length:=by have:=ax h;omega
  clear h;obtain⟨t,ht⟩:=aG hlt;have ok:=hst t (aZ ht);obtain⟨⟨a1,a2⟩,⟨a3,a4⟩,⟨-,aL⟩,hLH,-,-,-⟩:=ok;rw[ov ht]at hall;have q2:IntKind.i64.wrap (2*t.x)=2*t.x:=wrap_i64 J J;have q3:IntKind.i64.wrap (2*t.x-t.w)=2*t.x-t.w:=wrap_i64 J J;have q4:IntKind.i64.wrap (2*t.x+t.w)=2*t.x+t.w:=wrap_i64 J J;have hw:=c_ i;have hmh:(t.H0.map eN).length=t.H0.length:=ah;refine aJ ht ?_;refine H ?_;rw[q1];refine H ?_;rw[q2];refine H ?_;rw[q3];refine Ap O O O ?_ ?_<;>intro h
  .have d1:=ax h;clear h;rw[if_neg (by rw[l9,decide_eq_false J,Bool.false_and];decide)]at hall;refine H ?_;exact⟨i+1,⟨hlt,hall⟩,J,O,O,O,O,O,congrArg I hw,O,trivial⟩
  have d1:=aF h;clear h;refine H ?_;rw[q1];refine H ?_;rw[q2];refine H ?_;rw[q4];refine aV O ?_ ?_<;>intro h
  .have d2:=ax h;clear h;rw[if_neg (by rw[l9,decide_eq_false (show ¬2*x<2*t.x+t.w by omega),Bool.and_false];decide)]at hall;refine H ?_;exact⟨i+1,⟨hlt,hall⟩,J,O,O,O,O,O,congrArg I hw,O,trivial⟩
  have d2:=aF h;clear h;rw[if_pos (by rw[l9,decide_eq_true J,decide_eq_true J];rfl)]at hall;refine H ?_;rw[hmh];refine bq [(1,I x),(2,I z),(3,.ptr 3 1 0 0),(9,.ptr 9 ((s.own 9).1+1) 0 0),(13,.sl (st.map eT)),(14,I st.length),(15,I (i:Nat)),(40,.sl (t.H0.map eN)),(41,I t.H0.length),(42,I ((0:Nat):Int))] [(3,1,⟨27,9,[ep ⟨nm,len,st,light,it⟩],2⟩),(9,(s.own 9).1+1,⟨130,4,[eT t],2⟩)] ⟨O,O,O,O,O,O,O,O,O,O,O,O,trivial⟩ ?_;generalize (s.own 9).1+1=g9;intro s1;refine am (fun k:Nat=>k<=t.H0.length/\(match gp t.L z (t.H0.drop k) k with|some n=>some n|none=>cz x z (st.drop (i+1)))=R) (fun k=>[(1,I x),(2,I z),(3,.ptr 3 1 0 0),(9,.ptr 9 g9 0 0),(13,.sl (st.map eT)),(14,I st.length),(15,I (i:Nat)),(40,.sl (t.H0.map eN)),(41,I t.H0.length),(42,I (k:Nat))]) (fun _=>[(3,1,⟨27,9,[ep ⟨nm,len,st,light,it⟩],2⟩),(9,g9,⟨130,4,[eT t],2⟩)]) (fun k=>t.H0.length-k) 0 ⟨Nat.zero_le _,by rw[List.drop_zero];exact hall⟩ ⟨rfl,rfl,rfl,rfl,rfl,rfl,rfl,rfl,rfl,rfl,rfl,rfl,trivial⟩ ?_;clear hall;rintro k s2 ⟨hk,hall⟩;refine D ?_ ?_<;>intro h
  .have hlk:k<t.H0.length:=by have:=ax h;omega
   clear h;obtain⟨y,hy⟩:=aG hlk;have hlL:k<t.L.length:=J;obtain⟨n,hn⟩:=aG hlL;have hgd:t.L.getD k 0=n:=by rw[List.getD_eq_getElem?_getD,hn];rfl
   have hwk:IntKind.i64.wrap (((k:Nat):Int)+1)=((k+1:Nat):Int):=by rw[wrap_i64 J J];omega
   rw[mV hy,hgd]at hall;refine aJ hy ?_;refine D ?_ ?_<;>intro h
   .have d3:z<y:=ax h;clear h;rw[if_pos d3]at hall;subst hall;refine aJ hn ?_;exact bL
   .have d3:¬z<y:=aF h;clear h;rw[if_neg d3]at hall;refine H ?_;exact⟨k+1,⟨hlk,hall⟩,J,O,O,O,O,O,O,O,O,O,congrArg I hwk,O,O,trivial⟩
  .have hke:k=t.H0.length:=by have:=aF h;omega
   clear h;subst hke;rw[List.drop_length,gp]at hall;refine H ?_;exact⟨i+1,⟨hlt,hall⟩,J,O,O,O,O,O,congrArg I hw,O,trivial⟩
 .have hge:i=st.length:=by have:=aF h;omega
  clear h;subst hge;rw[List.drop_length,cz]at hall;subst hall;exact bL
theorem rc (a b:Int)(h1 : -2000000<=a-b)(h2:a-b<=2000000):Ret Tryz.prog .shared 133 [I a,I b] (I (eZ a b)):=by
 have q1:IntKind.i64.wrap (a-b)=a-b:=wrap_i64 J J;have q2:IntKind.i64.wrap (b-a)=b-a:=wrap_i64 J J;refine Ret.of_pwp layOk mixed Go.Proofs.Tryz.func133 O Y O O ?_;refine H ?_;rw[q1,q2];exact ke O O O
set_option maxRecDepth 20000 in
theorem tR (b:BKR)(hs:b.st.sz 12):Ret Tryz.prog .shared 132 [.agg (eBk b)] (.bool (jS b)):=by
 have o1:=bF b.x (-1000000) 1000000;have o2:=bF b.hf 1 10000;have o3:=bF b.ht 0 100000;have o4:=bF b.wd 1 20000;have o5:=bF b.lim 0 1000000000;have o6:=sK b.st (hx:=hs.v) Y;have o7:=bF b.z 1 100000;have hsg:=uc b.st.val;generalize hf:jS b=E;rw[jS,y7]at hf;have hp:decide (0<b.st.val)=!decide (sgn b.st.val<=0):=by
  by_cases h:sgn b.st.val<=0
  .rw[decide_eq_true h,decide_eq_false (fun g=>absurd g (Rat.not_lt.2 (hsg.1 h)))];rfl
  .rw[decide_eq_false h,decide_eq_true (Rat.not_le.1 fun g=>h (hsg.2 g))];rfl
 rw[hp]at hf;clear hp hsg;have hz:aw b.z 1 100000=true->1<=b.z/\b.z<=100000:=fun h=>cS h;obtain⟨x,z,hfw,ht,wd,st,lim,side⟩:=b;simp only at *
 generalize aw x (-1000000) 1000000=b1 at *
 generalize aw hfw 1 10000=b2 at *
 generalize aw ht 0 100000=b3 at *
 generalize aw wd 1 20000=b4 at *
 generalize aw lim 0 1000000000=b5 at *
 generalize aw z 1 100000=b7 at *
 generalize sgn st.val=sg at *
 refine Ret.of_pwp layOk mixed Go.Proofs.Tryz.func132 O Y O O ?_;refine ap o1 ?_;cases b1
 .subst hf;exact fE
 refine ap o2 ?_;cases b2
 .subst hf;exact fE
 refine ap o3 ?_;cases b3
 .subst hf;exact fE
 refine ap o4 ?_;cases b4
 .subst hf;exact fE
 refine ap o5 ?_;cases b5
 .subst hf;exact fE
 refine ap o6 ?_;refine H ?_;by_cases h6:sg<=0
 .rw[decide_eq_true h6]at hf ⊢;subst hf;exact fE
 rw[decide_eq_false h6]at hf ⊢;refine H ?_;cases side
 .refine H ?_;exact bW O O (by rw[<-hf];rfl)
 .refine ap o7 ?_;cases b7
  .subst hf;exact fE
  have hz:=hz O;have q1:IntKind.i64.wrap (2*z)=2*z:=wrap_i64 J J;refine H ?_;rw[q1];exact bW O O (by rw[<-hf];rfl)
structure BkIn (b:BKR):Prop where
 x : -1000000<=b.x/\b.x<=1000000
 hf:1<=b.hf/\b.hf<=10000
 ht:0<=b.ht/\b.ht<=100000
 wd:1<=b.wd/\b.wd<=20000
 z:0<=b.z/\b.z<=100000
 lim:0<=b.lim/\b.lim<=1000000000
 st:0<b.st.val
theorem lw {b:BKR}(h:jS b=true):BkIn b:=by
 rw[jS,y7]at h;simp only[Bool.and_eq_true,decide_eq_true_eq]at h;obtain⟨⟨⟨⟨⟨⟨h1,h2⟩,h3⟩,h4⟩,h5⟩,h6⟩,h7⟩:=h;refine⟨cS h1,cS h2,cS h3,cS h4,?_,cS h5,h6⟩;split at h7
 .simp only[Bool.and_eq_true]at h7;have:=cS h7.1;omega
 .have:=ax h7;omega
structure ZnIn (z:ZNR):Prop where
 a : -1000000<=z.a/\z.a<=1000000
 b : -1000000<=z.b/\z.b<=1000000
 h:0<=z.h/\z.h<=100000
theorem DR {l:List ZNR}{i:Nat}{z:ZNR}(h:mb l i z=0):ZnIn z:=by
 rw[mb]at h;split at h
 .split at h
  .omega
  .split at h
   .rename_i h2;simp only[Bool.and_eq_true]at h2;exact⟨cS h2.1.1.1,cS h2.1.1.2,cS h2.2⟩
   .omega
 .omega
theorem ta {l:List ZNR}(h:ef l=0):l.length<=20/\∀z∈l,ZnIn z:=by
 rw[ef]at h;split at h
 .omega
 .refine⟨J,fun z hz=>?_⟩;obtain⟨j,hj⟩:=List.mem_iff_getElem?.1 hz;exact DR (iU h j z hj)
theorem jo {α:Type}{p:α->Bool}{l:List α}{n:Nat}(h:∀(j:Nat) x,j<n->l[j]? = some x->p x=false):(l.take n).any p=false:=by
 rw[List.any_eq_false];intro x hx;obtain⟨j,hj⟩:=List.mem_iff_getElem?.1 hx;have hjn:j<n:=by have:=(be hj).1;rw[List.length_take]at this;omega
 rw[List.getElem?_take_of_lt hjn]at hj;rw[h j x hjn hj];decide
theorem oe {α:Type}{p:α->Bool}{l:List α}(h:∀(j:Nat) x,j<l.length->l[j]? = some x->p x=false):l.any p=false:=by
 have:=jo h;rwa [List.take_length]at this
theorem mC {α:Type}{p:α->Bool}{l:List α}{k:Nat}{x:α}(hx:l[k]? = some x)(h:p x=true):l.any p=true:=List.any_eq_true.2 ⟨x,aZ hx,h⟩
theorem mD {α:Type}{p:α->Bool}{l:List α}{n k:Nat}{x:α}(hk:k<n)(hx:l[k]? = some x)(h:p x=true):(l.take n).any p=true:=mC (k:=k) (by rw[List.getElem?_take_of_lt hk];exact hx) h
set_option maxRecDepth 20000 in
theorem vX (d:DKR)(hst:∀t∈d.s.st,StOk t)(h40:d.s.st.length<=40)(hz:d.zn.length<=20/\∀z∈d.zn,ZnIn z)(hb40:d.bl.length<=40)(i:Nat)(b:BKR)(hb:d.bl[i]? = some b)(hs:b.st.sz 12)(hpr:∀j c,j<i->d.bl[j]? = some c->BkIn c) :
  Ret Tryz.prog .shared 69 [.agg (c9 d),I (i:Nat)] (I (fT d.s.st d.zn d.bl i b)):=by
 have r1:=tR b hs;have hin:=fun h=>lw (b:=b) h;have hbt:=fun h:jS b=true=>gD d.s b.x b.z (lw h).x hst h40;have hmz:(d.zn.map fW).length=d.zn.length:=ah;generalize hf:fT d.s.st d.zn d.bl i b=E;rw[fT]at hf;obtain⟨s,den,bl,zn,gm,oh⟩:=d;simp only at *
 have hil:i<bl.length:=(be hb).1;generalize jS b=b1 at *
 refine Ret.of_pwp layOk mixed Go.Proofs.Tryz.func69 O Y O O ?_;refine aJ hb ?_;refine ap r1 ?_;cases b1
 .subst hf;exact bm
 rw[if_pos O]at hf;have hin:=hin O;have hbt:=hbt O;obtain⟨⟨a1,a2⟩,⟨a3,a4⟩,-,⟨a5,a6⟩,⟨a7,a8⟩,-,-⟩:=hin;refine ap hbt ?_;cases hbo:cz b.x b.z s.st with
 |none =>
  rw[hbo,if_neg Y]at hf;subst hf;exact bm
 |some n =>
 rw[hbo,Option.isSome_some,if_pos O]at hf;have p1:IntKind.i64.wrap (b.x-b.hf)=b.x-b.hf:=wrap_i64 J J;have p2:IntKind.i64.wrap (b.x+b.hf)=b.x+b.hf:=wrap_i64 J J;have p3:IntKind.i64.wrap (2*b.z)=2*b.z:=wrap_i64 J J;have p4:IntKind.i64.wrap (2*b.z-b.wd)=2*b.z-b.wd:=wrap_i64 J J;refine H ?_;rw[hmz];refine bq [(1,I (i:Nat)),(2,.ptr 2 1 0 0),(5,.ptr 5 1 0 0),(33,.sl (zn.map fW)),(34,I zn.length),(35,I ((0:Nat):Int))] [(2,1,⟨31,14,[c9 ⟨s,den,bl,zn,gm,oh⟩],2⟩),(5,1,⟨108,11,[eBk b],2⟩)] ⟨O,O,O,O,O,O,O,O,trivial⟩ ?_;intro s0;refine am (fun k:Nat=>k<=zn.length/\∀j u,j<k->zn[j]? = some u->fD b u=false) (fun k=>[(1,I (i:Nat)),(2,.ptr 2 1 0 0),(5,.ptr 5 1 0 0),(33,.sl (zn.map fW)),(34,I zn.length),(35,I (k:Nat))]) (fun _=>[(2,1,⟨31,14,[c9 ⟨s,den,bl,zn,gm,oh⟩],2⟩),(5,1,⟨108,11,[eBk b],2⟩)]) (fun k=>zn.length-k) 0 ⟨Nat.zero_le _,fun j u hj=>absurd hj J⟩ ⟨O,O,O,O,O,O,O,O,trivial⟩ ?_;rintro k s1 ⟨hk,hall⟩;refine D ?_ ?_<;>intro h
 .have hlt:k<zn.length:=by have:=ax h;omega
  clear h;obtain⟨z,hx⟩:=aG hlt;obtain⟨-,⟨z1,z2⟩,z3,z4⟩:=hz.2 z (aZ hx);have p5:IntKind.i64.wrap (2*z.h)=2*z.h:=wrap_i64 J J;have hw:=c_ k;have go:fD b z=false->∀j u,j<k+1->zn[j]? = some u->fD b u=false:=fun hb j u hj hu=>by
   rcases Nat.lt_or_ge j k with g|g
   .exact hall j u g hu
   .rw[show j=k by omega,hx]at hu;cases hu;exact hb
  refine aJ hx ?_;refine H ?_;rw[p1];refine Ap O O O ?_ ?_<;>intro h
  rotate_left
  .have d1:=aF h;clear h;refine H ?_;exact⟨k+1,⟨hlt,go (by rw[fD,decide_eq_false d1,Bool.false_and,Bool.false_and])⟩,J,O,O,O,O,O,congrArg I hw,O,O,trivial⟩
  have d1:=ax h;clear h;refine H ?_;rw[p2];refine cY ?_ ?_<;>intro h
  rotate_left
  .have d2:=aF h;clear h;refine H ?_;exact⟨k+1,⟨hlt,go (by rw[fD,decide_eq_false d2,Bool.and_false,Bool.false_and])⟩,J,O,O,O,O,O,congrArg I hw,O,O,trivial⟩
  have d2:=ax h;clear h;refine H ?_;rw[p3];refine H ?_;rw[p4];refine H ?_;rw[p5];refine D ?_ ?_<;>intro h
  .have d3:2*b.z-b.wd<2*z.h:=ax h;clear h;rw[if_pos (mC hx (by rw[fD,decide_eq_true d1,decide_eq_true d2,decide_eq_true d3];rfl))]at hf;subst hf;exact bm
  .have d3:¬2*b.z-b.wd<2*z.h:=aF h;clear h;refine H ?_;exact⟨k+1,⟨hlt,go (by rw[fD,decide_eq_false d3,Bool.and_false])⟩,J,O,O,O,O,O,congrArg I hw,O,O,trivial⟩
 have hge:k=zn.length:=by have:=aF h;omega
 clear h;subst hge;rw[oe hall,if_neg Y]at hf;clear hall;have hmt:((bl.take i).map eBk).length=i:=by rw[List.length_map,List.length_take];omega
 refine H ?_;refine bI O O (lp (l:=bl) (enc:=eBk) (n:=((i:Nat):Int)) O O O O O J J (fun _=>rfl)) ?_;rw[Int.toNat_natCast];refine H ?_;rw[hmt];refine bq [(2,.ptr 2 1 0 0),(5,.ptr 5 1 0 0),(73,.sl ((bl.take i).map eBk)),(74,I i),(75,I ((0:Nat):Int))] [(2,1,⟨31,14,[c9 ⟨s,den,bl,zn,gm,oh⟩],2⟩),(5,1,⟨108,11,[eBk b],2⟩)] ⟨O,O,O,O,O,O,O,trivial⟩ ?_;intro s2;refine am (fun k:Nat=>k<=i/\∀j u,j<k->bl[j]? = some u->fV b u=false) (fun k=>[(2,.ptr 2 1 0 0),(5,.ptr 5 1 0 0),(73,.sl ((bl.take i).map eBk)),(74,I i),(75,I (k:Nat))]) (fun _=>[(2,1,⟨31,14,[c9 ⟨s,den,bl,zn,gm,oh⟩],2⟩),(5,1,⟨108,11,[eBk b],2⟩)]) (fun k=>i-k) 0 ⟨Nat.zero_le _,fun j u hj=>absurd hj J⟩ ⟨O,O,O,O,O,O,O,trivial⟩ ?_;rintro k s3 ⟨hk,hall⟩;refine D ?_ ?_<;>intro h
 .have hlt:k<i:=by have:=ax h;omega
  clear h;obtain⟨c,hx⟩:=aG (show k<bl.length by omega);have hxt:(bl.take i)[k]? = some c:=by rw[List.getElem?_take_of_lt hlt];exact hx
  obtain⟨⟨c1,c2⟩,⟨c3,c4⟩,-,⟨c5,c6⟩,⟨c7,c8⟩,-,-⟩:=hpr k c hlt hx;have e1:=rc b.x c.x J J;have e2:=rc b.z c.z J J;have hdz : -2000000<=eZ b.z c.z/\eZ b.z c.z<=2000000:=by rw[eZ];split<;>omega
  have hbc:fV b c=(decide (eZ b.x c.x<b.hf+c.hf)&&decide (2*eZ b.z c.z<b.wd+c.wd)):=O;have q1:IntKind.i64.wrap (b.hf+c.hf)=b.hf+c.hf:=wrap_i64 J J;have q2:IntKind.i64.wrap (2*eZ b.z c.z)=2*eZ b.z c.z:=wrap_i64 J J;have q3:IntKind.i64.wrap (b.wd+c.wd)=b.wd+c.wd:=wrap_i64 J J;have hw:=c_ k;have go:fV b c=false->∀j u,j<k+1->bl[j]? = some u->fV b u=false:=fun hb j u hj hu=>by
   rcases Nat.lt_or_ge j k with g|g
   .exact hall j u g hu
   .rw[show j=k by omega,hx]at hu;cases hu;exact hb
  generalize eZ b.x c.x=D1 at *
  generalize eZ b.z c.z=D2 at *
  refine aJ hxt ?_;refine bU 25 [79,80,81,82,83,84,85,86,87,88,89,90,91,92,93,94,95,96,97,98,99,100,101,102,103] ?_;refine ap e1 ?_;refine H ?_;rw[q1];refine Ap O O O ?_ ?_<;>intro h
  rotate_left
  .have d1:=aF h;clear h;refine H ?_;exact⟨k+1,⟨hlt,go (by rw[hbc,decide_eq_false d1,Bool.false_and])⟩,J,O,O,O,O,congrArg I hw,O,O,trivial⟩
  have d1:=ax h;clear h;refine ap e2 ?_;refine H ?_;rw[q2];refine H ?_;rw[q3];refine D ?_ ?_<;>intro h
  .have d2:2*D2<b.wd+c.wd:=ax h;clear h;rw[if_pos (mD hlt hx (by rw[hbc,decide_eq_true d1,decide_eq_true d2];rfl))]at hf;subst hf;exact bm
  .have d2:¬2*D2<b.wd+c.wd:=aF h;clear h;refine H ?_;exact⟨k+1,⟨hlt,go (by rw[hbc,decide_eq_false d2,Bool.and_false])⟩,J,O,O,O,O,congrArg I hw,O,O,trivial⟩
 have hge:k=i:=by have:=aF h;omega
 clear h;subst hge;rw[jo hall,if_neg Y]at hf;subst hf;exact bm
theorem tm {st:List ST}{zn:List ZNR}{l:List BKR}{j:Nat}{c:BKR}(h:fT st zn l j c=0):BkIn c:=by
 rw[fT]at h;split at h
 .rename_i h1;exact lw h1
 .omega
structure DKR.Ok (d:DKR):Prop where
 len:d.Len
 st:∀b∈d.bl,b.st.sz 12
theorem lG {s:SHP}(h:cE s=0):(∀t∈s.st,StOk t)/\s.st.length<=40:=by
 have ok:=vn h;refine⟨fun t ht=>?_,ok.len⟩;obtain⟨i,hi⟩:=List.mem_iff_getElem?.1 ht;exact DF (ok.st i t hi)
set_option maxRecDepth 20000 in
theorem fe (d:DKR)(hd:d.Ok):Ret Tryz.prog .shared 17 [.agg (c9 d)] (I (kX d)):=by
 have h1:=gF d.s hd.len.s;have h2:=bF d.d 900 1100;have h3:=xU d.zn hd.len.zn;have h4:=bF d.gm (-100000) 100000;have h5:=bF d.oh 0 1000000;have hmb:(d.bl.map eBk).length=d.bl.length:=ah;have hsz:=hd.st;have hlb:=hd.len.bl;generalize hf:kX d=E;rw[kX,jA]at hf;by_cases hE:cE d.s=0
 rotate_left
 .rw[if_neg hE,if_neg hE]at hf;obtain⟨s,den,bl,zn,gm,oh⟩:=d;simp only at *
  generalize cE s=e at *
  subst hf;refine Ret.of_pwp layOk mixed Go.Proofs.Tryz.func17 O Y O O ?_;refine ap h1 ?_;refine D ?_ ?_<;>intro h
  .clear h;exact bm
  .simp at h;exact absurd h hE
 obtain⟨hst,h40⟩:=lG hE;rw[hE]at h1;rw[if_pos hE]at hf;have hbr:=fun i b hb hpr hz hb40=>vX d hst h40 hz hb40 i b hb (hsz b (aZ hb)) hpr;clear hE;obtain⟨s,den,bl,zn,gm,oh⟩:=d;simp only at *
 refine Ret.of_pwp layOk mixed Go.Proofs.Tryz.func17 O Y O O ?_;refine ap h1 ?_;refine ap h2 ?_;cases hi:aw den 900 1100 with
 |false =>
  rw[hi]at hf;subst hf;exact bm
 |true =>
 rw[hi,if_pos O,if_pos O]at hf;refine ap h3 ?_;by_cases hz:ef zn=0
 rotate_left
 .rw[if_neg hz]at hf;generalize ef zn=e at *
  subst hf;refine D ?_ ?_<;>intro h
  .clear h;exact bm
  .simp at h;exact absurd h hz
 rw[if_pos hz,mF]at hf;rw[hz];have hzi:=ta hz;clear hz h3;refine H ?_;rw[hmb];refine aV O ?_ ?_<;>intro h
 .rw[if_pos (show 40<bl.length by have:=ax h;omega),if_neg Y]at hf;subst hf;exact bm
 have hb40:¬40<bl.length:=by have:=aF h;omega
 clear h;rw[if_neg hb40]at hf;refine H ?_;rw[hmb];refine am (ClearE bl (fT s.st zn bl)) (fun k=>[(1,.ptr 1 1 0 0),(28,I bl.length),(29,I (k:Nat))]) (fun _=>[(1,1,⟨31,14,[c9 ⟨s,den,bl,zn,gm,oh⟩],2⟩)]) (fun k=>bl.length-k) 0 .zero' ⟨O,O,O,O,trivial⟩ ?_;intro k s1 hk;have hkl:=hk.1;refine D ?_ ?_<;>intro h
 .have hlt:k<bl.length:=by have:=ax h;omega
  clear h;obtain⟨b,hx⟩:=aG hlt;have c1:=hbr k b hx (fun j c hj hc=>tm (hk.2 j c hj hc)) hzi J;have hw:=c_ k;have hfl:=fun e (h:fT s.st zn bl k b=e) (he:e≠0)=>hk.found hx h he;have hsu:=fun(h:fT s.st zn bl k b=0)=>hk.succ hx h;generalize fT s.st zn bl k b=e at *
  refine ap c1 ?_;refine D ?_ ?_<;>intro h
  .have he:e≠0:=by simpa using h
   clear h;have:=hfl e O he;rw[this,if_neg he]at hf;subst hf;exact bm
  .have he:e=0:=by simpa using h
   clear h;refine H ?_;exact⟨k+1,hsu he,J,O,O,congrArg I hw,O,trivial⟩
 have hge:¬k<bl.length:=by have:=aF h;omega
 clear h;rw[hk.none hge,if_pos O]at hf;refine ap h4 ?_;cases h4b:aw gm (-100000) 100000 with
 |false =>
  rw[h4b]at hf;subst hf;exact bm
 |true =>
 rw[h4b]at hf;refine ap h5 ?_;cases h5b:aw oh 0 1000000;all_goals
  rw[h5b]at hf;subst hf;exact bm
end Go.Pv
namespace Go.Pv
open Go.Proofs
def cU (st:List ST)(b:BKR):Int:=(cz b.x b.z st).getD 0
def ee (b:BKR):Rat:=if b.side=true then b.st.val*2 else b.st.val
def jq (st:List ST)(b:BKR):SR:=⟨b.x,ofQ ((b.ht-cU st b:Int):Rat),⟨[0],[ofQ (ee b)]⟩⟩
def bG (st:List ST)(l:List BKR):List SR:=l.map (jq st)
theorem iR {st:List ST}{l:List BKR}{k:Nat}{b:BKR}(h:l[k]? = some b):bG st (l.take (k+1))=bG st (l.take k)++[jq st b]:=by
 rw[bG,bG,bk h,List.map_append];rfl
def n3 (q:Rat)(s:SR):SR:=⟨s.x,ofQ q,s.k⟩
def j9 (d:DKR):Nat:=d.d.toNat
def im (d:DKR)(q:Rat):List SR:=bG d.s.st d.bl++(cy (j9 d) d.s.st).map (n3 q)
theorem rq {L:List Int}{z n:Int}:∀ {H0:List Int} {k:Nat},gp L z H0 k=some n->∃j,k<=j/\j<k+H0.length/\n=L.getD j 0
 |[],k,h=>by simp[gp]at h
 |a::H0,k,h=>by
  rw[gp]at h;split at h
  .exact⟨k,aO,ah,by simpa using h.symm⟩
  .obtain⟨j,h1,h2,h3⟩:=rq h;exact⟨j,J,by simp;omega,h3⟩
theorem pH {x z n:Int}:∀ {l:List ST},(∀t∈l,StOk t)->cz x z l=some n->0<=n/\n<=100000
 |[],_,h=>by simp[cz]at h
 |t::l,hs,h=>by
  rw[cz]at h;have hl:=fun u hu=>hs u (List.mem_cons_of_mem _ hu);split at h
  .split at h
   .rename_i m hm;have ok:=hs t List.mem_cons_self;obtain⟨j,h1,h2,h3⟩:=rq hm;have hj:j<t.L.length:=by have:=ok.h;omega
    rw[List.getD_eq_getElem?_getD,List.getElem?_eq_getElem hj]at h3;have:=ok.L _ (List.getElem_mem hj);simp only[Option.some.injEq]at h;simp at h3;omega
   .exact pH hl h
  .exact pH hl h
theorem iT {st:List ST}(hs:∀t∈st,StOk t)(b:BKR):0<=cU st b/\cU st b<=100000:=by
 rw[cU];cases h:cz b.x b.z st with
 |none=>exact⟨Int.le_refl _,Y⟩
 |some n=>exact pH hs h
end Go.Pv
set_option maxHeartbeats 2000000
namespace Go.Pv
attribute [local irreducible] PWP POps PQuiet PSem aH au aj ao
open Go.Proofs
structure DKR.Bl (d:DKR):Prop where
 st:∀t∈d.s.st,StOk t
 n:d.s.st.length<=40
 b:∀b∈d.bl,BkIn b/\b.st.sz 12
 m:d.bl.length<=40
set_option maxRecDepth 20000 in
theorem mH (k:DKR)(hk:k.Bl):Ret Tryz.prog .shared 90 [.agg (c9 k)] (.sl ((bG k.s.st k.bl).map eS)):=by
 have hml:(k.bl.map eBk).length=k.bl.length:=ah;obtain⟨hst,hn,hb,hm⟩:=hk;obtain⟨s,den,bl,zn,gm,oh⟩:=k;simp only at *
 refine Ret.of_pwp layOk mixed Go.Proofs.Tryz.func90 O Y O O ?_
 (repeat ((fail_if_success (with_reducible refine aR 2 ?_));refine cu O ?_))
 refine ar (Ghost.nilreg (k:=1003) (t:=3) 136 7 1 O O) ?_;refine H ?_;rw[hml];refine bq [(1,.ptr 1 1 0 0),(3,.als 1003 1 0 0),(10,.sl (bl.map eBk)),(11,I bl.length),(12,I ((0:Nat):Int))] [(1,1,⟨31,14,[c9 ⟨s,den,bl,zn,gm,oh⟩],2⟩),(1003,1,⟨136,7,[],1⟩)] ⟨O,O,O,O,O,O,O,trivial⟩ ?_;intro s0;refine am (fun i:Nat=>i<=bl.length) (fun i=>[(1,.ptr 1 1 0 0),(3,.als 1003 (1+i) 0 ((bG s.st (bl.take i)).map eS).length),(10,.sl (bl.map eBk)),(11,I bl.length),(12,I (i:Nat))])
  (fun i=>[(1,1,⟨31,14,[c9 ⟨s,den,bl,zn,gm,oh⟩],2⟩),(1003,1+i,⟨136,7,(bG s.st (bl.take i)).map eS,1⟩)]) (fun i=>bl.length-i) 0 (Nat.zero_le _) ⟨O,O,O,O,O,O,O,trivial⟩ ?_
 intro i s1 hi;refine D ?_ ?_<;>intro h
 .have hlt:i<bl.length:=by have:=ax h;omega
  clear h;obtain⟨b,hx⟩:=aG hlt;obtain⟨hin,hsz⟩:=hb b (aZ hx);have hrow:=iR (st:=s.st) hx;have e0:=gD s b.x b.z hin.x hst hn;have hbi:=iT hst b;have hht:=hin.ht;rw[show(cz b.x b.z s.st).getD 0=cU s.st b from O]at e0;have hwh:IntKind.i64.wrap (b.ht-cU s.st b)=b.ht-cU s.st b:=wrap_i64 J J;have z1:Zb 1:=aM Y Y;have z2:Zb 2:=aM Y Y;have e1:=jX 1 ⟨Y,Y⟩;have e2:=ej b.st (ofQ ((1:Int):Rat)) (hx:=hsz.v) Y Y;have e3:=jX 2 ⟨Y,Y⟩;have e4:=ej b.st (ofQ ((2:Int):Rat)) (hx:=hsz.v) Y Y;have e5:=jX (b.ht-cU s.st b) ⟨J,J⟩;have hst1:b.side=false->ofQ (ee b)=ofQ (b.st.val*((1:Int):Rat)):=fun h=>by rw[ee,h,if_neg Y,show((1:Int):Rat)=1 from O,Rat.mul_one]
  have hst2:b.side=true->ofQ (ee b)=ofQ (b.st.val*((2:Int):Rat)):=fun h=>by rw[ee,h,if_pos O];rfl
  have hbS:eS (jq s.st b)=I b.x::(eR (ofQ ((b.ht-cU s.st b:Int):Rat))++[.sl [[I 0]],.sl [eR (ofQ (ee b))]]):=O;have hw:=c_ i;have hll:(bG s.st (bl.take i)).length<=40:=by rw[bG,List.length_map,List.length_take];omega
  generalize jq s.st b=bs at *
  generalize bG s.st (bl.take i)=Bl at *
  generalize (cz b.x b.z s.st).isSome=bo at *
  generalize hF:ofQ (ee b)=F at *
  generalize cU s.st b=bt at *
  generalize ofQ ((b.ht-bt:Int):Rat)=C at *
  generalize ofQ (b.st.val*((1:Int):Rat))=F1 at *
  generalize ofQ (b.st.val*((2:Int):Rat))=F2 at *
  generalize ofQ ((1:Int):Rat)=W1 at *
  generalize ofQ ((2:Int):Rat)=W2 at *
  refine aJ hx ?_;refine ap e0 ?_
  (repeat ((fail_if_success (with_reducible refine aR 6 ?_));refine cu O ?_))
  refine ar (gj 8) ?_;refine bB 4 1 [26,27,28,29,8] [] br O ?_;refine G e1 ?_;refine G e2 ?_;refine H ?_;by_cases hsd:b.side=true
  .have hF2:=hst2 hsd;subst hF2;rw[hsd];refine bU 4 [32,33,34,35] ?_;refine G e3 ?_;refine G e4 ?_;refine H ?_;refine bj [49,1003] [13,14,15] br ?_;refine H ?_;rw[hwh];refine nT O O O e5 O O ?_;refine H ?_;refine bI O O (cm O O O O O O O O O O aI O) ?_;refine H ?_;refine bI O O (fO O O O O O O O O O O aI O) ?_;refine H ?_;refine i8 O O O (aS 1 O O O O O O O O O O O aI O ⟨dj O,?_⟩);refine H ?_;refine i8 O O O (bi 1 O O O O O O O O O O O aI (by intro row hr;first|(simp at hr;subst hr;rfl)|(simp at hr;obtain⟨_,_,rfl⟩:=hr;rfl)|simp at hr) O O aK aK ⟨dj O,?_⟩);refine H ?_;have hr2:(bG s.st (bl.take (i+1))).map eS=Bl.map eS++[I b.x::(eR C++[.sl [[I 0]],.sl [eR F]])]:=by rw[hrow,List.map_append,<-hbS];rfl
   refine⟨i+1,hlt,J,O,?_,O,O,congrArg I hw,O,?_,trivial⟩
   .rw[hr2];rfl
   .rw[hr2];rfl
  .have hsd:b.side=false:=by simpa using hsd
   have hF1:=hst1 hsd;subst hF1;rw[hsd];refine H ?_;refine bj [49,1003] [13,14,15] br ?_;refine H ?_;rw[hwh];refine nT O O O e5 O O ?_;refine H ?_;refine bI O O (cm O O O O O O O O O O aI O) ?_;refine H ?_;refine bI O O (fO O O O O O O O O O O aI O) ?_;refine H ?_;refine i8 O O O (aS 1 O O O O O O O O O O O aI O ⟨dj O,?_⟩);refine H ?_;refine i8 O O O (bi 1 O O O O O O O O O O O aI (by intro row hr;first|(simp at hr;subst hr;rfl)|(simp at hr;obtain⟨_,_,rfl⟩:=hr;rfl)|simp at hr) O O aK aK ⟨dj O,?_⟩);refine H ?_;have hr2:(bG s.st (bl.take (i+1))).map eS=Bl.map eS++[I b.x::(eR C++[.sl [[I 0]],.sl [eR F]])]:=by rw[hrow,List.map_append,<-hbS];rfl
   refine⟨i+1,hlt,J,O,?_,O,O,congrArg I hw,O,?_,trivial⟩
   .rw[hr2];rfl
   .rw[hr2];rfl
 .have hie:i=bl.length:=by have:=aF h;omega
  clear h;subst hie;rw[List.take_length]
  (repeat ((fail_if_success (with_reducible refine dl ?_));refine cu O ?_))
  refine ar (Ghost.takeD (k:=1003) (t:=2) O O O) ?_;exact bL
set_option maxRecDepth 20000 in
theorem mG {K:St->Prop}{s':St}{d g2 h3:Nat}{c2 c3:Cont}{x:Operand}{tys:Array TypeId}{ty:TypeId}{pos:String}{af:Array Edge}(k:DKR)(hk:k.Bl)(hx:s'.ev x = .agg (c9 k))(ho:FitO s' [(2,g2,c2),(3,h3,c3)])
  (hK:∀(s1:St) (g:Nat),K (({ reg:=s'.reg,own:=(s1.over [] [(1003,g,⟨136,7,(bG k.s.st k.bl).map eS,1⟩),(2,g2,c2),(3,h3,c3)]).own }:St).putR d (.als 1003 g 0 ((bG k.s.st k.bl).map eS).length))) :
  Sm Tryz.prog lay.get s' ⟨some d,.call ⟨.value (.func 90),#[x],tys⟩,ty,pos,af,none⟩ K:=by
 have hml:(k.bl.map eBk).length=k.bl.length:=ah;obtain⟨hst,hn,hb,hm⟩:=hk;obtain⟨s,den,bl,zn,gm,oh⟩:=k;simp only at *
 refine cG layOk O O Tryz.func90 O Y O O ?_;show PWP _ _ _ _ (bQ s' (([x]:List Operand).map s'.ev++[]));rw[show(([x]:List Operand).map s'.ev++([]:List PV))=[.agg (c9 ⟨s,den,bl,zn,gm,oh⟩)] by simp[hx]];rw[show bQ s' [.agg (c9 ⟨s,den,bl,zn,gm,oh⟩)]=bQ (s'.over [] [(2,g2,c2),(3,h3,c3)]) [.agg (c9 ⟨s,den,bl,zn,gm,oh⟩)] by rw[Fit.over (l:=[]) ho]]
 (repeat ((fail_if_success (with_reducible refine aR 2 ?_));refine cu O ?_))
 refine ar (Ghost.nilreg (k:=1003) (t:=3) 136 7 1 O O) ?_;refine H ?_;rw[hml];refine bq [(1,.ptr 1 ((s'.own 1).1+1) 0 0),(3,.als 1003 ((s'.own 1003).1+1) 0 0),(10,.sl (bl.map eBk)),(11,I bl.length),(12,I ((0:Nat):Int))] [(1,((s'.own 1).1+1),⟨31,14,[c9 ⟨s,den,bl,zn,gm,oh⟩],2⟩),(1003,((s'.own 1003).1+1),⟨136,7,[],1⟩),(2,g2,c2),(3,h3,c3)] ⟨O,O,O,O,O,O,O,O,O,trivial⟩ ?_;generalize (s'.own 1).1+1=g1;generalize (s'.own 1003).1+1=g3;intro s0;refine am (fun i:Nat=>i<=bl.length) (fun i=>[(1,.ptr 1 g1 0 0),(3,.als 1003 (g3+i) 0 ((bG s.st (bl.take i)).map eS).length),(10,.sl (bl.map eBk)),(11,I bl.length),(12,I (i:Nat))])
  (fun i=>[(1,g1,⟨31,14,[c9 ⟨s,den,bl,zn,gm,oh⟩],2⟩),(1003,g3+i,⟨136,7,(bG s.st (bl.take i)).map eS,1⟩),(2,g2,c2),(3,h3,c3)]) (fun i=>bl.length-i) 0 (Nat.zero_le _) ⟨O,O,O,O,O,O,O,O,O,trivial⟩ ?_
 intro i s1 hi;refine D ?_ ?_<;>intro h
 .have hlt:i<bl.length:=by have:=ax h;omega
  clear h;obtain⟨b,hx⟩:=aG hlt;obtain⟨hin,hsz⟩:=hb b (aZ hx);have hrow:=iR (st:=s.st) hx;have e0:=gD s b.x b.z hin.x hst hn;have hbi:=iT hst b;have hht:=hin.ht;rw[show(cz b.x b.z s.st).getD 0=cU s.st b from O]at e0;have hwh:IntKind.i64.wrap (b.ht-cU s.st b)=b.ht-cU s.st b:=wrap_i64 J J;have z1:Zb 1:=aM Y Y;have z2:Zb 2:=aM Y Y;have e1:=jX 1 ⟨Y,Y⟩;have e2:=ej b.st (ofQ ((1:Int):Rat)) (hx:=hsz.v) Y Y;have e3:=jX 2 ⟨Y,Y⟩;have e4:=ej b.st (ofQ ((2:Int):Rat)) (hx:=hsz.v) Y Y;have e5:=jX (b.ht-cU s.st b) ⟨J,J⟩;have hst1:b.side=false->ofQ (ee b)=ofQ (b.st.val*((1:Int):Rat)):=fun h=>by rw[ee,h,if_neg Y,show((1:Int):Rat)=1 from O,Rat.mul_one]
  have hst2:b.side=true->ofQ (ee b)=ofQ (b.st.val*((2:Int):Rat)):=fun h=>by rw[ee,h,if_pos O];rfl
  have hbS:eS (jq s.st b)=I b.x::(eR (ofQ ((b.ht-cU s.st b:Int):Rat))++[.sl [[I 0]],.sl [eR (ofQ (ee b))]]):=O;have hw:=c_ i;have hll:(bG s.st (bl.take i)).length<=40:=by rw[bG,List.length_map,List.length_take];omega
  generalize jq s.st b=bs at *
  generalize bG s.st (bl.take i)=Bl at *
  generalize (cz b.x b.z s.st).isSome=bo at *
  generalize hF:ofQ (ee b)=F at *
  generalize cU s.st b=bt at *
  generalize ofQ ((b.ht-bt:Int):Rat)=C at *
  generalize ofQ (b.st.val*((1:Int):Rat))=F1 at *
  generalize ofQ (b.st.val*((2:Int):Rat))=F2 at *
  generalize ofQ ((1:Int):Rat)=W1 at *
  generalize ofQ ((2:Int):Rat)=W2 at *
  refine aJ hx ?_;refine ap e0 ?_
  (repeat ((fail_if_success (with_reducible refine aR 6 ?_));refine cu O ?_))
  refine ar (gj 8) ?_;refine bB 4 1 [26,27,28,29,8] [] br O ?_;refine G e1 ?_;refine G e2 ?_;refine H ?_;by_cases hsd:b.side=true
  .have hF2:=hst2 hsd;subst hF2;rw[hsd];refine bU 4 [32,33,34,35] ?_;refine G e3 ?_;refine G e4 ?_;refine H ?_;refine bj [49,1003] [13,14,15] br ?_;refine H ?_;rw[hwh];refine nT O O O e5 O O ?_;refine H ?_;refine bI O O (cm O O O O O O O O O O aI O) ?_;refine H ?_;refine bI O O (fO O O O O O O O O O O aI O) ?_;refine H ?_;refine i8 O O O (aS 1 O O O O O O O O O O O aI O ⟨dj O,?_⟩);refine H ?_;refine i8 O O O (bi 1 O O O O O O O O O O O aI (by intro row hr;first|(simp at hr;subst hr;rfl)|(simp at hr;obtain⟨_,_,rfl⟩:=hr;rfl)|simp at hr) O O aK aK ⟨dj O,?_⟩);refine H ?_;have hr2:(bG s.st (bl.take (i+1))).map eS=Bl.map eS++[I b.x::(eR C++[.sl [[I 0]],.sl [eR F]])]:=by rw[hrow,List.map_append,<-hbS];rfl
   refine⟨i+1,hlt,J,O,?_,O,O,congrArg I hw,O,?_,O,O,trivial⟩
   .rw[hr2];rfl
   .rw[hr2];rfl
  .have hsd:b.side=false:=by simpa using hsd
   have hF1:=hst1 hsd;subst hF1;rw[hsd];refine H ?_;refine bj [49,1003] [13,14,15] br ?_;refine H ?_;rw[hwh];refine nT O O O e5 O O ?_;refine H ?_;refine bI O O (cm O O O O O O O O O O aI O) ?_;refine H ?_;refine bI O O (fO O O O O O O O O O O aI O) ?_;refine H ?_;refine i8 O O O (aS 1 O O O O O O O O O O O aI O ⟨dj O,?_⟩);refine H ?_;refine i8 O O O (bi 1 O O O O O O O O O O O aI (by intro row hr;first|(simp at hr;subst hr;rfl)|(simp at hr;obtain⟨_,_,rfl⟩:=hr;rfl)|simp at hr) O O aK aK ⟨dj O,?_⟩);refine H ?_;have hr2:(bG s.st (bl.take (i+1))).map eS=Bl.map eS++[I b.x::(eR C++[.sl [[I 0]],.sl [eR F]])]:=by rw[hrow,List.map_append,<-hbS];rfl
   refine⟨i+1,hlt,J,O,?_,O,O,congrArg I hw,O,?_,O,O,trivial⟩
   .rw[hr2];rfl
   .rw[hr2];rfl
 .have hie:i=bl.length:=by have:=aF h;omega
  clear h;subst hie;rw[List.take_length];refine H ?_;exact pV (K:=fun o r=>K (({ reg:=s'.reg,own:=o }:St).putR d r)) [(1003,g3+bl.length,⟨136,7,(bG s.st bl).map eS,1⟩),(2,g2,c2),(3,h3,c3)] (.inl O) O O ⟨O,O,O,trivial⟩ (fun s1=>hK s1 _)
theorem EE (x:RR){p:Rat}{n:Nat}[hx:Vq x p n](hn:n<=10000000):Ret Tryz.prog .shared 91 [.agg (eR x),.agg zN] (.agg (eR (ofQ p))):=by
 have hs:=di x RR.zero J Y;rw[Rat.add_zero]at hs;exact hs.weak (.cons (.rfl _) (.cons dH.agg .nil)) (.rfl _)
theorem od {A:List SR}{W:List SR}{q:Rat}{i:Nat}{s:SR}(h:W[i]? = some s):A++(W.take (i+1)).map (n3 q)=A++(W.take i).map (n3 q)++[n3 q s]:=by
 rw[bk h,List.map_append,List.append_assoc];rfl
theorem pP {d:DKR}(h:900<=d.d/\d.d<=1100):((j9 d:Nat):Int)=d.d:=Int.toNat_of_nonneg J
set_option maxRecDepth 20000 in
theorem ji (d:DKR)(hk:d.Bl)(hd:900<=d.d/\d.d<=1100)(he:jA d.s d.d=0)(hs:d.s.Len)(lv:RR){p:Rat}{n:Nat}[hv:Vq lv p n](hn:n<=10000000):Ret Tryz.prog .shared 97 [.agg (c9 d),.agg (eR lv)] (.sl ((im d p).map eS)):=by
 have hdn:=pP hd;have h1:=l8 d.s hs (j9 d) (by rw[hdn];exact he) J J hk.st hk.n;rw[hdn]at h1;have h2:=EE lv (hx:=hv) hn;have hmw:((cy (j9 d) d.s.st).map eS).length=d.s.st.length:=by simp[cy]
 have hA:(bG d.s.st d.bl).length<=40:=by rw[bG,List.length_map];exact hk.m
 have hWl:(cy (j9 d) d.s.st).length<=40:=by rw[cy,List.length_map];exact hk.n
 have hmw2:((cy (j9 d) d.s.st).map eS).length=(cy (j9 d) d.s.st).length:=ah;rw[im];have hin:=@mG;have hB:=fun K s' d' g2 h3 c2 c3 x tys ty pos af=>@mG K s' d' g2 h3 c2 c3 x tys ty pos af d hk;generalize bG d.s.st d.bl=A at *
 generalize cy (j9 d) d.s.st=W at *
 clear hin he hs hmw;obtain⟨s,den,bl,zn,gm,oh⟩:=d;simp only at *
 refine Ret.of_pwp layOk mixed Go.Proofs.Tryz.func97 O Y O O ?_
 ((repeat ((fail_if_success (with_reducible refine aR 1 ?_));refine cu O ?_));refine aN 1 ?_)
 refine eg O ?_;refine aT ?_;refine bc O (hB _ _ _ _ _ _ _ _ _ _ _ _ O ⟨O,O,trivial⟩ fun s1 g=>?_);refine aQ ?_;refine G h1 ?_;refine H ?_;rw[hmw2];refine bq [(2,.ptr 2 1 0 0),(3,.ptr 3 1 0 0),(5,.als 1003 g 0 (A.map eS).length),(20,.sl (W.map eS)),(21,I W.length),(22,I ((0:Nat):Int))] [(2,1,⟨31,14,[c9 ⟨s,den,bl,zn,gm,oh⟩],2⟩),(3,1,⟨42,4,[eR lv],2⟩),(1003,g,⟨136,7,A.map eS,1⟩)] ⟨O,O,O,O,O,O,O,O,O,trivial⟩ ?_;intro s2;refine am (fun i:Nat=>i<=W.length) (fun i=>[(2,.ptr 2 1 0 0),(3,.ptr 3 1 0 0),(5,.als 1003 (g+i) 0 ((A++(W.take i).map (n3 p)).map eS).length),(20,.sl (W.map eS)),(21,I W.length),(22,I (i:Nat))]) (fun i=>[(2,1,⟨31,14,[c9 ⟨s,den,bl,zn,gm,oh⟩],2⟩),(3,1,⟨42,4,[eR lv],2⟩),(1003,g+i,⟨136,7,(A++(W.take i).map (n3 p)).map eS,1⟩)]) (fun i=>W.length-i) 0 (Nat.zero_le _)
  ⟨O,O,by rw[List.take_zero,List.map_nil,List.append_nil];rfl,O,O,O,O,O,by rw[List.take_zero,List.map_nil,List.append_nil];rfl,trivial⟩ ?_
 intro i s3 hi;refine D ?_ ?_<;>intro h
 .have hlt:i<W.length:=by have:=ax h;omega
  clear h;obtain⟨x,hx⟩:=aG hlt;have hrow:(A++(W.take (i+1)).map (n3 p)).map eS=(A++(W.take i).map (n3 p)).map eS++[I x.x::(eR (ofQ p)++[.sl (x.k.S.map eN),.sl (x.k.M.map eR)])]:=by rw[od hx,List.map_append];rfl
  have hw:=c_ i;have hll:((A++(W.take i).map (n3 p)).map eS).length<=80:=by rw[List.length_map,List.length_append,List.length_map,List.length_take];omega
  have hb:g+(i+1)=g+i+1:=O;generalize (A++(W.take i).map (n3 p)).map eS=R at *
  generalize ofQ p=Q at *
  refine aJ hx ?_;refine G h2 ?_;refine H ?_;refine aE (aS 1 O O O O O O O O O O O aI O ?_);refine H ?_;refine aE (bi 1 O O O O O O O O O O O aI (by intro row hr;first|(simp at hr;subst hr;rfl)|simp at hr) O O aK aK ?_);refine H ?_;refine⟨i+1,hlt,J,O,O,?_,O,O,congrArg I hw,O,O,?_,trivial⟩
  .rw[hrow,hb];rfl
  .rw[hrow,hb];rfl
 have hie:i=W.length:=by have:=aF h;omega
 clear h;subst hie;rw[List.take_length]
 (repeat ((fail_if_success (with_reducible refine dl ?_));refine cu O ?_))
 refine ar (Ghost.takeD (k:=1003) (t:=4) O O O) ?_;exact bL
theorem yO (a:AR)(x:Int)(hx:i64 x){z t:Rat}{n m:Nat}[ha:Va a z t n m](hn:n<=1000000)(hm:m<=1000000):Ret Tryz.prog .shared 92 [.agg (eA a),I x] (.agg (eR (ofQ (z+t*(x:Rat))))):=by
 have hxz:Zb x:=aM hx.1 hx.2;have hw:=gc x hx;have h1:=ej a.t (ofQ (x:Rat)) (hx:=ha.t) J Y;have v1:Vq (ofQ (t*(x:Rat))) (t*(x:Rat)) (m+1+4):=Vq.ofQ (h:=@HQ.mul _ _ (m+1) 4 ha.t.hq HQ.int);have h2:=di a.z (ofQ (t*(x:Rat))) (hx:=ha.z) (hy:=v1) J J;obtain⟨az,at'⟩:=a;simp only at *
 generalize ofQ (z+t*(x:Rat))=X2 at *
 generalize ofQ (t*(x:Rat))=X1 at *
 generalize ofQ (x:Rat)=X0 at *
 refine Ret.of_pwp layOk mixed Go.Proofs.Tryz.func92 O Y O O ?_;refine bU 8 [5,6,7,8,9,10,11,12] ?_;refine G hw ?_;refine G h1 ?_;refine G h2 ?_;exact bL
theorem tn (F:List RR)(hl:F.length<=1000000):Ret Tryz.prog .shared 136 [.sl (F.map eR)] (.sl (F.map eR)):=by
 refine Ret.of_pwp layOk mixed Go.Proofs.Tryz.func136 O Y O O ?_
 ((repeat ((fail_if_success (with_reducible refine aR 1 ?_));refine cu O ?_));refine aN 1 ?_)
 refine eg O ?_;refine aT ?_;refine bc O (lE layOk O O O (fun h0=>?_) ?_)
 .rw[h0];refine aQ ?_
  (repeat ((fail_if_success (with_reducible refine dl ?_));refine cu O ?_))
  refine ar (Ghost.nilfs (t:=2) O) ?_;exact bL
 .refine aQ ?_;refine H ?_;refine aE (aS 1 O O O O O O O O O O O aI O ?_);refine H ?_;refine aE (bi 1 O O O O O O O O O O O aI (by intro row hr;obtain⟨p,_,rfl⟩:=List.mem_map.1 hr;rfl) O O aK aK ?_)
  (repeat ((fail_if_success (with_reducible refine dl ?_));refine cu O ?_))
  refine ar (Ghost.takeD (k:=5) (t:=2) O O O) ?_;exact bL
def gS (q:Int × Int)(x:Int):Int × Int:=if q.2=0\/x≠q.1 then(x,q.2+1) else q
def kx:List BKR->List Rat->List Int
 |b::l,q::v=>if q≠0 then b.x::kx l v else kx l v
 |_,_=>[]
def r8 (l:List Int):Int × Int:=l.foldl gS (0,0)
def jM (bl:List BKR)(v:List Rat)(b:Rat):Int:=if (r8 (kx bl v)).2=0 then 0 else if (r8 (kx bl v)).2=1 then 1 else if b=0 then 3 else 2
theorem rK:∀ {bl:List BKR} {v:List Rat} {k:Nat} {b:BKR} {q:Rat},bl[k]? = some b->v[k]? = some q->kx (bl.take (k+1)) (v.take (k+1))=kx (bl.take k) (v.take k)++(if q≠0 then [b.x] else [])
 |[],_,k,b,q,h,_=>by simp at h
 |c::bl,[],k,b,q,_,h=>by simp at h
 |c::bl,p::v,0,b,q,h1,h2=>by
  simp at h1 h2;subst h1 h2;simp[kx]
 |c::bl,p::v,k+1,b,q,h1,h2=>by
  have ih:=rK (bl:=bl) (v:=v) (k:=k) (b:=b) (q:=q) (by simpa using h1) (by simpa using h2);rw[List.take_succ_cons,List.take_succ_cons,List.take_succ_cons,List.take_succ_cons,kx,kx,ih];split<;>simp
theorem EK (l:List Int):0<=(r8 l).2/\(r8 l).2<=l.length:=by
 have key:∀(l:List Int) (q:Int × Int),0<=q.2->0<=(l.foldl gS q).2/\(l.foldl gS q).2<=q.2+l.length:=by
  intro l
  induction l with
  |nil=>intro q h;simp;omega
  |cons x l ih =>
   intro q h;have h1:0<=(gS q x).2/\(gS q x).2<=q.2+1:=by
    rw[gS];split
    .exact⟨show 0<=q.2+1 by omega,Int.le_refl _⟩
    .exact⟨h,J⟩
   have:=ih (gS q x) h1.1;rw[List.foldl_cons,List.length_cons];omega
 have:=key l (0,0) Y;simpa [r8] using this
theorem uN:∀(bl:List BKR) (v:List Rat),(kx bl v).length<=v.length
 |[],v=>by simp[kx]
 |_::_,[]=>by simp[kx]
 |b::bl,q::v=>by
  have:=uN bl v;rw[kx];split<;>simp<;>omega
theorem zl (l:List Int)(x:Int):r8 (l++[x])=gS (r8 l) x:=by rw[r8,r8,List.foldl_append];rfl
set_option maxRecDepth 20000 in
theorem wX (d:DKR)(v:List Rat)(hl:v.length<=d.bl.length)(hm:v.length<=1000)(hv:∀q∈v,hq q 7000000)(b:Rat)(hb:hq b 7000000):Ret Tryz.prog .shared 139 [.agg (c9 d),.sl ((v.map ofQ).map eR),.agg (eR (ofQ b))] (I (jM d.bl v b)):=by
 have hml:((v.map ofQ).map eR).length=v.length:=ah;have sb:=sK (ofQ b) (hx:=Vq.ofQ (h:=⟨hb⟩)) Y;have hbz:=f9 b;generalize hf:jM d.bl v b=E;obtain⟨s,den,bl,zn,gm,oh⟩:=d;simp only at *
 refine Ret.of_pwp layOk mixed Go.Proofs.Tryz.func139 O Y O O ?_;refine H ?_;rw[hml];refine am (fun i:Nat=>i<=v.length) (fun i=>[(1,.sl ((v.map ofQ).map eR)),(3,.ptr 3 1 0 0),(5,.ptr 5 1 0 0),(7,I (r8 (kx (bl.take i) (v.take i))).1),(8,I (r8 (kx (bl.take i) (v.take i))).2),(11,.sl ((v.map ofQ).map eR)),(12,I v.length),(13,I (i:Nat))])
  (fun _=>[(3,1,⟨31,14,[c9 ⟨s,den,bl,zn,gm,oh⟩],2⟩),(5,1,⟨42,4,[eR (ofQ b)],2⟩)]) (fun i=>v.length-i) 0 (Nat.zero_le _) ⟨O,O,O,by rw[List.take_zero,List.take_zero];rfl,by rw[List.take_zero,List.take_zero];rfl,O,O,O,O,O,trivial⟩ ?_
 intro i s1 hi;refine D ?_ ?_<;>intro h
 .have hlt:i<v.length:=by have:=ax h;omega
  clear h;obtain⟨q,hq⟩:=aG hlt;obtain⟨c,hc⟩:=aG (show i<bl.length by omega);have hx:(v.map ofQ)[i]? = some (ofQ q):=by rw[List.getElem?_map,hq];rfl
  have sq:=sK (ofQ q) (hx:=Vq.ofQ (h:=⟨hv q (aZ hq)⟩)) Y;have hqz:=f9 q;have hsn:=rK hc hq;have hple:=EK (kx (bl.take i) (v.take i));have hpl2:=uN (bl.take i) (v.take i);rw[List.length_take]at hpl2;have hw:=c_ i;have hwp:IntKind.i64.wrap ((r8 (kx (bl.take i) (v.take i))).2+1)=(r8 (kx (bl.take i) (v.take i))).2+1:=wrap_i64 J J;have hph:=zl (kx (bl.take i) (v.take i)) c.x;rw[gS]at hph;clear hple hpl2;generalize kx (bl.take i) (v.take i)=A at *
  generalize hAn:(r8 A).2=P at *
  generalize hAx:(r8 A).1=X at *
  generalize sgn q=g at *
  generalize ofQ q=qq at *
  refine aJ hx ?_;refine ap sq ?_;refine H ?_;by_cases h0:g=0
  .have hq0:=hqz.1 h0;subst h0;refine H ?_;refine⟨i+1,hlt,J,O,O,O,?_,?_,O,O,congrArg I hw,O,O,trivial⟩
   .rw[hsn,if_neg (by simpa using hq0),List.append_nil,hAx];rfl
   .rw[hsn,if_neg (by simpa using hq0),List.append_nil,hAn];rfl
  have hq0:q≠0:=fun e=>h0 (hqz.2 e);rw[if_pos hq0]at hsn;rw[decide_eq_false h0];refine H ?_;by_cases hP:P=0
  .rw[if_pos (.inl hP)]at hph;rw[decide_eq_true hP];refine aJ hc ?_;refine H ?_;rw[hwp];refine⟨i+1,hlt,J,O,O,O,?_,?_,O,O,congrArg I hw,O,O,trivial⟩
   .rw[hsn,hph];rfl
   .rw[hsn,hph];rfl
  rw[decide_eq_false hP];refine aJ hc ?_;refine D ?_ ?_<;>intro h
  .have hX:c.x≠X:=by simpa using h
   clear h;rw[if_pos (.inr hX)]at hph;refine aJ hc ?_;refine H ?_;rw[hwp];refine⟨i+1,hlt,J,O,O,O,?_,?_,O,O,congrArg I hw,O,O,trivial⟩
   .rw[hsn,hph];rfl
   .rw[hsn,hph];rfl
  .have hX:c.x=X:=by simpa using h
   clear h;rw[if_neg (fun e=>e.elim hP fun e=>e hX)]at hph;refine H ?_;refine⟨i+1,hlt,J,O,O,O,?_,?_,O,O,congrArg I hw,O,O,trivial⟩
   .rw[hsn,hph,hAx];rfl
   .rw[hsn,hph,hAn];rfl
 have hie:i=v.length:=by have:=aF h;omega
 clear h;subst hie;have hA:kx (bl.take v.length) (v.take v.length)=kx bl v:=by
  rw[List.take_length];have key:∀(v:List Rat) (bl:List BKR),kx (bl.take v.length) v=kx bl v:=by
   intro v
   induction v with
   |nil=>intro bl;cases bl<;>simp[kx]
   |cons q v ih=>intro bl;cases bl with
    |nil=>simp[kx]
    |cons b bl=>simp only[List.length_cons,List.take_succ_cons,kx,ih]
  exact key v bl
 rw[hA];rw[jM]at hf;generalize (r8 (kx bl v)).1=X at *
 generalize (r8 (kx bl v)).2=P at *
 clear hA;refine H ?_;by_cases h0:P=0
 .rw[if_pos h0]at hf;rw[decide_eq_true h0];subst hf;exact bm
 rw[if_neg h0]at hf;rw[decide_eq_false h0];refine H ?_;by_cases h1:P=1
 .rw[if_pos h1]at hf;rw[decide_eq_true h1];subst hf;exact bm
 rw[if_neg h1]at hf;rw[decide_eq_false h1];refine ap sb ?_;refine H ?_;by_cases h2:b=0
 .rw[if_pos h2]at hf;rw[decide_eq_true (hbz.2 h2)];subst hf;exact bm
 .rw[if_neg h2]at hf;rw[decide_eq_false (fun e=>h2 (hbz.1 e))];subst hf;exact bm
structure STQ where
 km:RR
 kg:RR
 gm:RR
 ot:RR
def C7 (x:STQ):List PV:=eR x.km++eR x.kg++eR x.gm++eR x.ot
def DO:STQ:=⟨RR.zero,RR.zero,RR.zero,RR.zero⟩
structure DQ where
 lv:RR
 a:AR
 F:List RR
 up:RR
 bu:RR
 s:STQ
 held:Bool
 ph:Int
def Ev (x:DQ):List PV:=eR x.lv++eA x.a++[.sl (x.F.map eR)]++eR x.up++eR x.bu++C7 x.s++[.bool x.held,I x.ph]
def AM:List PV:=zN++zN++zN++zN
def FW:List PV:=zN++(zN++zN)++[.nil]++zN++zN++AM++[.bool false,I 0]
def dZ:DQ:=⟨RR.zero,zA,[],RR.zero,RR.zero,DO,false,0⟩
theorem AN:WeakL AM (C7 DO):=((dH.app dH).app dH).app dH
def ca (l:List Rat):Rat:=l.foldl (·+·) 0
theorem pq (l:List Rat)(x:Rat):ca (l++[x])=ca l+x:=by rw[ca,List.foldl_append];rfl
theorem Ax {N:Nat}{l:List Rat}(h:∀q∈l,hq q N):hq (ca l) ((N+1)*l.length+4):=by
 have key:∀(l:List Rat) (a:Rat) (m:Nat),hq a m->(∀q∈l,hq q N)->hq (l.foldl (·+·) a) (m+(N+1)*l.length):=by
  intro l
  induction l with
  |nil=>intro a m ha _;simpa using ha
  |cons x l ih =>
   intro a m ha hl;rw[List.foldl_cons,List.length_cons];have:=ih (a+x) (m+N+1) (@HQ.add a x m N ⟨ha⟩ ⟨hl x List.mem_cons_self⟩).ok fun q hq=>hl q (List.mem_cons_of_mem _ hq);rwa [show m+N+1+(N+1)*l.length=m+(N+1)*(l.length+1) by rw[Nat.mul_add];omega]at this
 have:=key l 0 4 HQ.zero.ok h;rwa [Nat.add_comm]at this
def dy:List BKR->List Rat->Bool
 |b::l,q::v=>(b.side&&decide (q≠0))||dy l v
 |_,_=>false
theorem mW:∀ {bl:List BKR} {v:List Rat} {k:Nat} {b:BKR} {q:Rat},bl[k]? = some b->v[k]? = some q->dy bl (v.take (k+1))=(dy bl (v.take k)||(b.side&&decide (q≠0)))
 |[],_,k,b,q,h,_=>by simp at h
 |c::bl,[],k,b,q,_,h=>by simp at h
 |c::bl,p::v,0,b,q,h1,h2=>by
  simp at h1 h2;subst h1 h2;cases bl<;>simp[dy]
 |c::bl,p::v,k+1,b,q,h1,h2=>by
  have ih:=mW (bl:=bl) (v:=v) (k:=k) (b:=b) (q:=q) (by simpa using h1) (by simpa using h2);rw[List.take_succ_cons,List.take_succ_cons,dy,dy,ih,Bool.or_assoc]
theorem jB:∀ {bl:List BKR} {v:List Rat} {k:Nat},bl.length<=k->dy bl (v.take k)=dy bl v
 |[],v,k,_=>by simp[dy]
 |c::bl,[],k,_=>by simp
 |c::bl,p::v,0,h=>by simp at h
 |c::bl,p::v,k+1,h=>by rw[List.take_succ_cons,dy,dy,jB (by simpa using h)]
def E4 (p az at':RR)(F:List (List PV))(u b:RR)(h:Bool):List PV:=eR p++(eR az++eR at')++[.sl F]++eR u++eR b++AM++[.bool h,I 0]
def Fb (d:DKR)(p:Rat)(a:AR)(v:List Rat)(s:STQ):DQ :=
 ⟨ofQ p,a,(v.take d.bl.length).map ofQ,ofQ (ca (v.take d.bl.length)),ofQ (ca (v.drop d.bl.length)),s,dy d.bl v,jM d.bl (v.take d.bl.length) (ca (v.drop d.bl.length))⟩
set_option maxRecDepth 20000 in
set_option maxHeartbeats 16000000 in
theorem As (d:DKR)(lv:RR){p:Rat}{n:Nat}[hlv:Vq lv p n](hn:n<=1000000)(hsup:Ret Tryz.prog .shared 97 [.agg (c9 d),.agg (eR lv)] (.sl ((im d p).map eS)))(B:BR)(h95:Ret Tryz.prog .shared 95 [.agg (ep d.s),.sl ((im d p).map eS)] (.tup [.agg (eB B),I 0]))
  (az at' rz rt:RR) (v:List Rat) (hv:∀q∈v,hq q 100000) (hvl:d.bl.length<=v.length) (hv64:v.length<=64) (h78:Ret Tryz.prog .shared 78 [.agg (eB B)] (.tup [.agg (kY ⟨az,at'⟩ (v.map ofQ)),.agg (eR rz++eR rt),I 0])) (T:STQ)
  {nz:Nat} {z:Rat} [hz:Vq az z nz] (hnz:nz<=1000000)
  (hT:ca (v.drop d.bl.length)≠0->Ret Tryz.prog .shared 138 [.agg (ep d.s),.agg (eR (ofQ (z+p))++eR at'),.agg ([I d.d]++eR (ofQ (ca (v.take d.bl.length))))] (.tup [.agg (C7 T),I 0])) (hT0:ca (v.drop d.bl.length)=0->T=DO) :
  Ret Tryz.prog .shared 74 [.agg (c9 d),.agg (eR lv)] (.tup [.agg (Ev (Fb d p ⟨az,at'⟩ v T)),I 0]):=by
 have e1:=EE lv (hx:=hlv) J;have e2:=tn ((v.take d.bl.length).map ofQ) (by rw[List.length_map,List.length_take];omega);have e3:=jX 0 ⟨Y,Y⟩;rw[show((0:Int):Rat)=0 from O]at e3;have e4:=di az lv (hx:=hz) (hy:=hlv) J J;have hvt:∀i,∀q∈v.take i,hq q 100000:=fun i q hq=>hv q (List.mem_of_mem_take hq);have hs1:∀i,hq (ca ((v.take i).take d.bl.length)) 6500000:=fun i=>by
  have:=Ax (N:=100000) (l:=(v.take i).take d.bl.length) fun q hq=>hvt i q (List.mem_of_mem_take hq);refine(HQ.mono (q:=ca ((v.take i).take d.bl.length)) (h:=⟨this⟩) ?_).ok;rw[List.length_take,List.length_take];have:min d.bl.length (min i v.length)<=64:=J;have:=Nat.mul_le_mul_left (100000+1) this;omega
 have hs2:∀i,hq (ca ((v.take i).drop d.bl.length)) 6500000:=fun i=>by
  have:=Ax (N:=100000) (l:=(v.take i).drop d.bl.length) fun q hq=>hvt i q (List.mem_of_mem_drop hq);refine(HQ.mono (q:=ca ((v.take i).drop d.bl.length)) (h:=⟨this⟩) ?_).ok;rw[List.length_drop,List.length_take];have:min i v.length-d.bl.length<=64:=J;have:=Nat.mul_le_mul_left (100000+1) this;omega
 have hp:=wX d (v.take d.bl.length) (by rw[List.length_take];omega) (by rw[List.length_take];omega) (fun q hq=>(HQ.mono (q:=q) (h:=⟨hvt _ q hq⟩) Y).ok) (ca (v.drop d.bl.length)) (by
  have:=hs2 v.length;rw[List.take_length]at this
  exact(HQ.mono (q:=ca (v.drop d.bl.length)) (h:=⟨this⟩) Y).ok)
 have hsg:=sK (ofQ (ca (v.drop d.bl.length))) (hx:=Vq.ofQ (h:=⟨by have:=hs2 v.length;rwa [List.take_length]at this⟩)) Y;have hsz:=f9 (ca (v.drop d.bl.length));have hml:((v.map ofQ).map eR).length=v.length:=ah;have hmb:(d.bl.map eBk).length=d.bl.length:=ah;have htk:(v.take d.bl.length).map ofQ=(v.map ofQ).take d.bl.length:=List.map_take;rw[Fb];obtain⟨s,den,bl,zn,gm,oh⟩:=d;simp only at *
 obtain⟨R,hR0,hR1,hRw⟩:∃R,(ca (v.drop bl.length)=0->R=AM)/\(ca (v.drop bl.length)≠0->R=C7 T)/\WeakL R (C7 T):=by
  by_cases h:ca (v.drop bl.length)=0
  .exact⟨AM,fun _=>rfl,fun g=>absurd h g,by rw[hT0 h];exact AN⟩
  .exact⟨C7 T,fun g=>absurd g h,fun _=>rfl,WeakL.refl _⟩
 refine Ret.weak (r' := .tup [.agg (eR (ofQ p)++(eR az++eR at')++[.sl (((v.take bl.length).map ofQ).map eR)]++eR (ofQ (ca (v.take bl.length)))++eR (ofQ (ca (v.drop bl.length)))++R++[.bool (dy bl v),I (jM bl (v.take bl.length) (ca (v.drop bl.length)))]),I 0]) ?_ (WeakL.refl _) (WeakL.tup (.cons (((WeakL.refl _).app hRw).app (WeakL.refl _)).agg (WeakL.refl _)));clear hRw hT0;generalize hW:(im ⟨s,den,bl,zn,gm,oh⟩ p).map eS=W at *
 generalize jM bl (v.take bl.length) (ca (v.drop bl.length))=PH at *
 generalize hQp:ofQ p=Qp at *
 generalize hQz:ofQ (z+p)=Qz at *
 clear hW;refine Ret.of_pwp layOk mixed Go.Proofs.Tryz.func74 O Y O O ?_;refine H ?_;refine sj [(9,6),(10,6)] br br ?_;refine G hsup ?_;refine G h95 ?_;refine H ?_;refine F_ O O O O O ?_;refine FV 2 O O O O O O (fun _=>rfl) aI O O O O ?_;refine G h78 ?_;refine H ?_;refine bB 13 1 [41,42,43,44,45,46,47,48,49,50,51,52,53,11] [] br O ?_;refine G e1 ?_;refine H ?_;rw[hmb];refine bI O O (lp (l:=v.map ofQ) (enc:=eR) (n:=((bl.length:Nat):Int)) O O O O O J (by rw[List.length_map];omega) (fun _=>rfl)) ?_;rw[Int.toNat_natCast,<-htk];refine G e2 ?_;refine G e3 ?_;refine G e3 ?_;refine H ?_;rw[hml];have z0:dy bl (v.take 0)=false:=by cases bl<;>rfl
 have z1:ca ((v.take 0).take bl.length)=0:=by rw[List.take_zero,List.take_nil];rfl
 have z2:ca ((v.take 0).drop bl.length)=0:=by rw[List.take_zero,List.drop_nil];rfl
 refine bq [(2,.ptr 2 1 0 0),(3,.ptr 3 1 0 0),(4,.ptr 4 1 0 0),(8,.ptr 8 1 0 0),(10,I bl.length),(11,.ptr 11 1 0 0),(55,.sl ((v.map ofQ).map eR)),(56,I v.length),(57,I ((0:Nat):Int))] [(2,1,⟨31,14,[c9 ⟨s,den,bl,zn,gm,oh⟩],2⟩),(3,1,⟨42,4,[eR lv],2⟩),(4,1,⟨50,39,[FW],2⟩),(8,1,⟨69,9,[kY ⟨az,at'⟩ (v.map ofQ)],2⟩),(11,1,⟨50,39,[E4 Qp az at' (((v.take bl.length).map ofQ).map eR) (ofQ 0) (ofQ 0) false],2⟩)] ⟨O,O,O,O,O,O,O,O,O,O,O,O,O,O,trivial⟩ ?_;intro s0;refine am (fun i:Nat=>i<=v.length) (fun i=>[(2,.ptr 2 1 0 0),(3,.ptr 3 1 0 0),(4,.ptr 4 1 0 0),(8,.ptr 8 1 0 0),(10,I bl.length),(11,.ptr 11 1 0 0),(55,.sl ((v.map ofQ).map eR)),(56,I v.length),(57,I (i:Nat))]) (fun i=>[(2,1,⟨31,14,[c9 ⟨s,den,bl,zn,gm,oh⟩],2⟩),(3,1,⟨42,4,[eR lv],2⟩),(4,1,⟨50,39,[FW],2⟩),(8,1,⟨69,9,[kY ⟨az,at'⟩ (v.map ofQ)],2⟩),(11,1,⟨50,39,[E4 Qp az at' (((v.take bl.length).map ofQ).map eR) (ofQ (ca ((v.take i).take bl.length))) (ofQ (ca ((v.take i).drop bl.length))) (dy bl (v.take i))],2⟩)]) (fun i=>v.length-i) 0 (Nat.zero_le _) ⟨O,O,O,O,O,O,O,O,O,O,O,O,O,by rw[z0,z1,z2];rfl,trivial⟩ ?_;clear z1 z2;intro i s1 hi;refine D ?_ ?_<;>intro h
 .have hlt:i<v.length:=by have:=ax h;omega
  clear h;obtain⟨q,hq⟩:=aG hlt;have hx:(v.map ofQ)[i]? = some (ofQ q):=by rw[List.getElem?_map,hq];rfl
  have hqs:=hv q (aZ hq);have sq:=sK (ofQ q) (hx:=Vq.ofQ (h:=⟨hqs⟩)) Y;have hqz:=f9 q;have a1:=di (ofQ (ca ((v.take i).take bl.length))) (ofQ q) (hx:=Vq.ofQ (h:=⟨hs1 i⟩)) (hy:=Vq.ofQ (h:=⟨hqs⟩)) Y Y;have a2:=di (ofQ (ca ((v.take i).drop bl.length))) (ofQ q) (hx:=Vq.ofQ (h:=⟨hs2 i⟩)) (hy:=Vq.ofQ (h:=⟨hqs⟩)) Y Y;have hw:=c_ i;have htn:v.take (i+1)=v.take i++[q]:=bk hq;have hil:(v.take i).length=i:=by rw[List.length_take];omega
  refine aJ hx ?_;refine D ?_ ?_<;>intro h
  .have hin:i<bl.length:=by have:=ax h;omega
   clear h;obtain⟨c,hc⟩:=aG hin;have hu:ca ((v.take (i+1)).take bl.length)=ca ((v.take i).take bl.length)+q:=by rw[htn,show(v.take i++[q]).take bl.length=v.take i++[q] from List.take_of_length_le (by rw[List.length_append,hil];exact hin),show(v.take i).take bl.length=v.take i from List.take_of_length_le J,pq]
   have hb:ca ((v.take (i+1)).drop bl.length)=ca ((v.take i).drop bl.length):=by rw[htn,show(v.take i++[q]).drop bl.length=[] from List.drop_of_length_le (by rw[List.length_append,hil];exact hin),show(v.take i).drop bl.length=[] from List.drop_of_length_le J]
   have hh:=mW hc hq;generalize ca ((v.take i).take bl.length)=U at *
   generalize ca ((v.take i).drop bl.length)=Bq at *
   generalize dy bl (v.take i)=H0 at *
   generalize hU2:ofQ (U+q)=U2 at *
   generalize ofQ U=U1 at *
   generalize hB1:ofQ Bq=B1 at *
   generalize sgn q=g1 at *
   refine G a1 ?_;refine H ?_;cases H0
   rotate_left
   .refine H ?_;exact⟨i+1,hlt,J,O,O,O,O,O,O,O,O,congrArg I hw,O,O,O,O,by rw[hu,hb,hh,hU2,hB1];rfl,trivial⟩
   refine aJ hc ?_;refine H ?_;cases hsd:c.side
   .rw[hsd]at hh;refine H ?_;exact⟨i+1,hlt,J,O,O,O,O,O,O,O,O,congrArg I hw,O,O,O,O,by rw[hu,hb,hh,hU2,hB1];rfl,trivial⟩
   rw[hsd]at hh;refine ap sq ?_;refine H ?_;by_cases h0:g1=0
   .rw[decide_eq_false (show ¬q≠0 from fun g=>g (hqz.1 h0))]at hh;subst h0;refine H ?_;exact⟨i+1,hlt,J,O,O,O,O,O,O,O,O,congrArg I hw,O,O,O,O,by rw[hu,hb,hh,hU2,hB1];rfl,trivial⟩
   .rw[decide_eq_true (show q≠0 from fun g=>h0 (hqz.2 g))]at hh;rw[decide_eq_false h0];refine H ?_;exact⟨i+1,hlt,J,O,O,O,O,O,O,O,O,congrArg I hw,O,O,O,O,by rw[hu,hb,hh,hU2,hB1];rfl,trivial⟩
  .have hin:bl.length<=i:=by have:=aF h;omega
   clear h;have hu:ca ((v.take (i+1)).take bl.length)=ca ((v.take i).take bl.length):=by rw[htn,List.take_append_of_le_length J]
   have hb:ca ((v.take (i+1)).drop bl.length)=ca ((v.take i).drop bl.length)+q:=by rw[htn,List.drop_append_of_le_length J,pq]
   have hh:dy bl (v.take (i+1))=dy bl (v.take i):=by rw[jB J,jB hin]
   generalize ca ((v.take i).take bl.length)=U at *
   generalize ca ((v.take i).drop bl.length)=Bq at *
   generalize dy bl (v.take i)=H0 at *
   generalize hB2:ofQ (Bq+q)=B2 at *
   generalize hU1:ofQ U=U1 at *
   generalize ofQ Bq=B1 at *
   refine G a2 ?_;refine H ?_;exact⟨i+1,hlt,J,O,O,O,O,O,O,O,O,congrArg I hw,O,O,O,O,by rw[hu,hb,hh,hU1,hB2];rfl,trivial⟩
 have hie:i=v.length:=by have:=aF h;omega
 clear h;subst hie;rw[List.take_length];clear hs1 hs2 hvt hml z0;generalize ca (v.take bl.length)=U at *
 generalize hBq:ca (v.drop bl.length)=Bq at *
 generalize dy bl v=H0 at *
 generalize sgn Bq=g1 at *
 generalize ofQ U=U1 at *
 generalize ofQ Bq=B1 at *
 generalize hFL:(v.take bl.length).map ofQ=FL at *
 refine ap hsg ?_;refine H ?_;by_cases h0:g1=0
 .have hB0:=hsz.1 h0;have hRe:=hR0 hB0;subst hRe;rw[decide_eq_true h0];refine ap hp ?_;exact bL
 .have hB0:Bq≠0:=fun e=>h0 (hsz.2 e);have hRe:=hR1 hB0;have hTr:=hT hB0;clear hT;subst hRe;rw[decide_eq_false h0]
  (repeat ((fail_if_success (with_reducible refine aR 18 ?_));refine cu O ?_))
  refine ar (gj 14) ?_;refine bB 9 1 [96,97,98,99,100,101,102,103,104,14] [] br O ?_;refine G e4 ?_;refine G hTr ?_;refine ap hp ?_;exact bL
set_option maxRecDepth 20000 in
theorem Ei (d:DKR)(hd:d.Ok)(hE:kX d=0)(lv:RR)(x:DQ)(e:Int)(h74:Ret Tryz.prog .shared 74 [.agg (c9 d),.agg (eR lv)] (.tup [.agg (Ev x),I e])):Ret Tryz.prog .shared 21 [.agg (c9 d),.agg (eR lv)] (.tup [.agg (Ev x),I e]):=by
 have h1:=fe d hd;rw[hE]at h1;refine Ret.of_pwp layOk mixed Go.Proofs.Tryz.func21 O Y O O ?_;refine ap h1 ?_;refine G h74 ?_;exact bL
def fF:List Rat->Rat
 |[]=>0
 |q::l=>l.foldl (fun m x=>if m<x then x else m) q
theorem wP (l:List Rat)(x:Rat)(h:l≠[]):fF (l++[x])=if fF l<x then x else fF l:=by
 cases l with
 |nil=>exact absurd rfl h
 |cons q l=>rw[List.cons_append,fF,fF,List.foldl_append];rfl
def dr (z t:Rat)(s:SR):Rat:=s.c.val+(z+t*(s.x:Rat))
def tX (W:List SR)(z t:Rat)(i:Nat):List PV:=if i=0 then zN else eR (ofQ (fF ((W.take i).map (dr z t))))
theorem yZ:∀(l:List Rat),l≠[]->fF l∈l
 |[],h=>absurd rfl h
 |q::l,_=>by
  rw[fF];have key:∀(l:List Rat) (a:Rat),l.foldl (fun m x=>if m<x then x else m) a∈a::l:=by
   intro l
   induction l with
   |nil=>intro a;simp
   |cons x l ih =>
    intro a;rw[List.foldl_cons];have:=ih (if a<x then x else a);rcases List.mem_cons.1 this with h|h
    .rw[h];split<;>simp
    .exact List.mem_cons_of_mem _ (List.mem_cons_of_mem _ h)
  exact key l q
set_option maxRecDepth 20000 in
theorem AG (d:DKR)(hd:d.Ok)(hE:kX d=0)(hk:d.Bl)(hb:d.bl≠[])(az at' rz rt:RR)(F:List RR){z t:Rat}{n m:Nat}[ha:Va ⟨az,at'⟩ z t n m](hn:n<=1000000)(hm:m<=1000000)
  (h31:Ret Tryz.prog .shared 31 [.agg (ep d.s),I d.d] (.tup [.agg (kY ⟨az,at'⟩ F),.agg (eR rz++eR rt),I 0])):Ret Tryz.prog .shared 30 [.agg (c9 d)] (.tup [.agg (eR (ofQ (fF ((bG d.s.st d.bl).map (dr z t))))),I 0]):=by
 have h1:=fe d hd;rw[hE]at h1;have h2:=mH d hk;have hml:(d.bl.map eBk).length=d.bl.length:=ah;have hpos:=List.length_pos_iff.2 hb;have hbl:¬((d.bl.map eBk).length:Int)=0:=J;have hwl:(bG d.s.st d.bl).length=d.bl.length:=by rw[bG,List.length_map]
 have h40:=hk.m;have hC:∀s∈bG d.s.st d.bl,i64 s.x/\hq s.c.val 4/\Vq s.c s.c.val 4:=fun s hs=>by
  rw[bG]at hs;obtain⟨b,hbm,rfl⟩:=List.mem_map.1 hs;obtain⟨hin,-⟩:=hk.b b hbm;have hx:=hin.x;have hh:=hin.ht;have hbi:=iT hk.st b;have zb:Zb (b.ht-cU d.s.st b):=aM J J;refine⟨⟨by show -9223372036854775808<=b.x;omega,by show b.x<=9223372036854775807;omega⟩,?_,?_⟩
  .show hq (ofQ ((b.ht-cU d.s.st b:Int):Rat)).val 4;rw[ofQ_val];exact HQ.int.ok
  .show Vq (ofQ ((b.ht-cU d.s.st b:Int):Rat)) (ofQ ((b.ht-cU d.s.st b:Int):Rat)).val 4;rw[ofQ_val];exact Vq.ofQ (h:=HQ.int)
 have hW0:bG d.s.st d.bl≠[]:=fun e=>by rw[e]at hwl;simp at hwl;omega
 have hmw:((bG d.s.st d.bl).map eS).length=(bG d.s.st d.bl).length:=ah;obtain⟨s,den,bl,zn,gm,oh⟩:=d;simp only at *
 generalize bG s.st bl=W at *
 have hvh:∀s∈W,hq (dr z t s) (n+m+20):=fun s hs=>by
  obtain⟨hx,hc,-⟩:=hC s hs;have zb:Zb s.x:=aM hx.1 hx.2;exact(HQ.mono (h:=@HQ.add _ _ 4 (n+1+(m+1+4)+1) ⟨hc⟩ (@HQ.add _ _ (n+1) (m+1+4) ha.z.hq (@HQ.mul _ _ (m+1) 4 ha.t.hq HQ.int))) J).ok
 refine Ret.of_pwp layOk mixed Go.Proofs.Tryz.func30 O Y O O ?_;refine ap h1 ?_;refine H ?_;rw[decide_eq_false hbl];refine G h31 ?_;refine G h2 ?_;refine H ?_;rw[hmw];refine bq [(2,.ptr 2 1 0 0),(5,.ptr 5 1 0 0),(8,.ptr 8 1 0 0),(37,.sl (W.map eS)),(38,I W.length),(39,I ((0:Nat):Int))] [(2,1,⟨42,4,[zN],2⟩),(5,1,⟨69,9,[kY ⟨az,at'⟩ F],2⟩),(8,1,⟨42,4,[zN],2⟩)] ⟨O,O,O,O,O,O,O,O,O,trivial⟩ ?_;intro s0;refine am (fun i:Nat=>i<=W.length) (fun i=>[(2,.ptr 2 1 0 0),(5,.ptr 5 1 0 0),(8,.ptr 8 1 0 0),(37,.sl (W.map eS)),(38,I W.length),(39,I (i:Nat))]) (fun i=>[(2,1,⟨42,4,[zN],2⟩),(5,1,⟨69,9,[kY ⟨az,at'⟩ F],2⟩),(8,1,⟨42,4,[tX W z t i],2⟩)]) (fun i=>W.length-i) 0 (Nat.zero_le _) ⟨O,O,O,O,O,O,O,O,O,trivial⟩ ?_;intro i s1 hi;refine D ?_ ?_<;>intro h
 .have hlt:i<W.length:=by have:=ax h;omega
  clear h;obtain⟨x,hx⟩:=aG hlt;obtain⟨hxx,hxc,hxv⟩:=hC x (aZ hx);have zb:Zb x.x:=aM hxx.1 hxx.2;have hxq:=hvh x (aZ hx);have e1:=yO ⟨az,at'⟩ x.x hxx (z:=z) (t:=t) (n:=n) (m:=m) hn hm;have e2:=di x.c (ofQ (z+t*(x.x:Rat))) (hx:=hxv) (hy:=Vq.ofQ (h:=@HQ.add _ _ (n+1) (m+1+4) ha.z.hq (@HQ.mul _ _ (m+1) 4 ha.t.hq HQ.int))) J J;rw[show x.c.val+(z+t*(x.x:Rat))=dr z t x from O]at e2;have hw:=c_ i;have hsn:(W.take (i+1)).map (dr z t)=(W.take i).map (dr z t)++[dr z t x]:=by rw[bk hx,List.map_append];rfl
  have hr1:tX W z t (i+1)=eR (ofQ (fF ((W.take (i+1)).map (dr z t)))):=by rw[tX,if_neg J]
  cases i with
  |zero =>
   have hm1:fF ((W.take (0+1)).map (dr z t))=dr z t x:=by rw[hsn];rfl
   rw[hm1]at hr1;generalize ofQ (dr z t x)=X at *
   generalize ofQ (z+t*(x.x:Rat))=Y0 at *
   refine aJ hx ?_
   (repeat ((fail_if_success (with_reducible refine aR 13 ?_));refine cu O ?_))
   refine ar (gj 11) ?_;refine bB 8 1 [44,45,46,47,48,49,50,51,11] [] br O ?_;refine G e1 ?_;refine G e2 ?_;refine H ?_;exact⟨0+1,hlt,J,O,O,O,O,O,congrArg I hw,O,O,by rw[hr1];rfl,trivial⟩
  |succ i =>
   have hr0:tX W z t (i+1)=eR (ofQ (fF ((W.take (i+1)).map (dr z t)))):=by rw[tX,if_neg J]
   have hne:(W.take (i+1)).map (dr z t)≠[]:=fun e=>by
    have:=congrArg List.length e;rw[List.length_map,List.length_take,List.length_nil]at this;omega
   have hmm:=yZ _ hne;have hms:=wP _ (dr z t x) hne;rw[<-hsn]at hms;have hMq:hq (fF ((W.take (i+1)).map (dr z t))) (n+m+20):=by
    obtain⟨y,hy,hye⟩:=List.mem_map.1 hmm;rw[<-hye];exact hvh y (List.mem_of_mem_take hy)
   have e3:=mL (ofQ (dr z t x)) (ofQ (fF ((W.take (i+1)).map (dr z t)))) (hx:=Vq.ofQ (h:=⟨hxq⟩)) (hy:=Vq.ofQ (h:=⟨hMq⟩)) J J;have hsg:=gX (dr z t x-fF ((W.take (i+1)).map (dr z t)));have hgt:0<dr z t x-fF ((W.take (i+1)).map (dr z t))↔fF ((W.take (i+1)).map (dr z t))<dr z t x:=by constructor<;>intro h<;>grind
   rw[hgt]at hsg;rw[hr0];rw[hms]at hr1;clear hms hgt hmm hMq;generalize hM:fF ((W.take (i+1)).map (dr z t))=M at *
   generalize hX:ofQ (dr z t x)=X at *
   generalize ofQ (z+t*(x.x:Rat))=Y0 at *
   generalize sgn (dr z t x-M)=g at *
   generalize hMM:ofQ M=MM at *
   refine aJ hx ?_
   (repeat ((fail_if_success (with_reducible refine aR 13 ?_));refine cu O ?_))
   refine ar (gj 11) ?_;refine bB 8 1 [44,45,46,47,48,49,50,51,11] [] br O ?_;refine G e1 ?_;refine G e2 ?_;refine H ?_;have hi0:¬(((i+1:Nat):Int))=0:=J;rw[decide_eq_false hi0];refine ap e3 ?_;refine D ?_ ?_<;>intro h
   .have hg:=hsg.1 (ax h);clear h;rw[if_pos hg]at hr1;refine H ?_;exact⟨i+1+1,hlt,J,O,O,O,O,O,congrArg I hw,O,O,by rw[hr1,hX];rfl,trivial⟩
   .have hg:¬M<dr z t x:=fun e=>(aF h) (hsg.2 e);clear h;rw[if_neg hg]at hr1;refine H ?_;exact⟨i+1+1,hlt,J,O,O,O,O,O,congrArg I hw,O,O,by rw[hr1,hMM];rfl,trivial⟩
 have hie:i=W.length:=by have:=aF h;omega
 clear h;subst hie;have hr:tX W z t W.length=eR (ofQ (fF (W.map (dr z t)))):=by rw[tX,if_neg J,List.take_length]
 rw[hr];generalize ofQ (fF (W.map (dr z t)))=X at *
 exact bL
def du (x:Int):SR:=⟨x,ofQ 0,⟨[0,3000],[ofQ ((80:Int):Rat),ofQ 0]⟩⟩
def eo (x:Int):SR:=⟨x,ofQ ((1500:Int):Rat),⟨[0],[ofQ ((1000:Int):Rat)]⟩⟩
def r1:BR:=⟨320000,ofQ ((10000:Int):Rat),[du 5000,du 15000]⟩
def r2:BR:=⟨320000,ofQ ((10000:Int):Rat),[eo 5000,eo 15000,du 5000,du 15000]⟩
theorem Cv:(ofQ 0).sz 12:=jD (z:=0) ⟨Y,Y⟩
theorem vL {x:Int}(hx:i64 x):(du x).Lim:=by
 refine⟨hx,Cv,⟨fun z hz=>?_,fun m hm=>?_,show 2<=1000000000 by decide,show 2<=1000000000 by decide⟩⟩
 .simp[du]at hz;rcases hz with rfl|rfl<;>exact⟨Y,Y⟩
 .simp only[du,List.mem_cons,List.not_mem_nil,or_false]at hm;rcases hm with rfl|rfl
  .exact jD ⟨Y,Y⟩
  .exact Cv
theorem AT {x:Int}(hx:i64 x):(eo x).Lim:=by
 refine⟨hx,jD ⟨Y,Y⟩,⟨fun z hz=>?_,fun m hm=>?_,show 1<=1000000000 by decide,show 1<=1000000000 by decide⟩⟩
 .simp[eo]at hz;subst hz;exact⟨Y,Y⟩
 .simp only[eo,List.mem_singleton]at hm;subst hm;exact jD ⟨Y,Y⟩
theorem xO (x:Int):cx (du x).k=0:=by
 have h:eW (du x).k 0=0:=by
  rw[eW,if_neg,if_neg J];simp only[du,List.getD_cons_zero,ofQ_val];decide
 have h1:eW (du x).k 1=0:=by
  rw[eW,if_neg,if_neg]
  .simp[du]
  .simp only[du,List.getD_cons_zero,List.getD_cons_succ,ofQ_val];decide
 rw[cx,if_neg (show ¬40<(du x).k.S.length by simp[du]),if_neg (show ¬(du x).k.M.length≠(du x).k.S.length by simp[du])];show dV (du x).k 0 2=0;rw[dV,if_pos h,dV,if_pos h1,dV]
theorem vV (x:Int):cx (eo x).k=0:=by
 have h:eW (eo x).k 0=0:=by
  rw[eW,if_neg,if_neg J];simp only[eo,List.getD_cons_zero,ofQ_val];decide
 rw[cx,if_neg (show ¬40<(eo x).k.S.length by simp[eo]),if_neg (show ¬(eo x).k.M.length≠(eo x).k.S.length by simp[eo])];show dV (eo x).k 0 1=0;rw[dV,if_pos h,dV]
theorem vB {s:SR}(hx : -1000000<=s.x/\s.x<=1000000)(hc : -10000000<=s.c.val/\s.c.val<=10000000)(hk:cx s.k=0):kK s=0:=by
 rw[kK,if_neg,hk];rw[show((10000000:Int):Rat)=10000000 from O];rintro(h|h)
 .omega
 .grind
theorem mu {x:Int}(hx : -1000000<=x/\x<=1000000):kK (du x)=0:=vB hx (by show -10000000<=(ofQ 0).val/\(ofQ 0).val<=10000000;rw[ofQ_val];decide) (xO x)
theorem uB {x:Int}(hx : -1000000<=x/\x<=1000000):kK (eo x)=0:=vB hx (by show -10000000<=(ofQ ((1500:Int):Rat)).val/\(ofQ ((1500:Int):Rat)).val<=10000000;rw[ofQ_val];decide) (vV x)
theorem zF:dw r1=0:=by
 rw[dw,if_neg]
 .rw[cg,if_neg Y];show cK kK [du 5000,du 15000]=0;rw[cK,if_pos (mu ⟨Y,Y⟩),cK,if_pos (mu ⟨Y,Y⟩),cK]
 .simp only[r1,ofQ_val];decide
theorem zG:dw r2=0:=by
 rw[dw,if_neg]
 .rw[cg,if_neg Y];show cK kK [eo 5000,eo 15000,du 5000,du 15000]=0;rw[cK,if_pos (uB ⟨Y,Y⟩),cK,if_pos (uB ⟨Y,Y⟩),cK,if_pos (mu ⟨Y,Y⟩),cK,if_pos (mu ⟨Y,Y⟩),cK]
 .simp only[r2,ofQ_val];decide
theorem Cx:r1.Ok:=by
 refine⟨⟨⟨Y,Y⟩,jD ⟨Y,Y⟩,fun s hs=>?_,Y⟩,zF,Y,fun s hs=>?_⟩
 .simp only[r1,List.mem_cons,List.not_mem_nil,or_false]at hs;rcases hs with rfl|rfl<;>exact vL ⟨Y,Y⟩
 .simp only[r1,List.mem_cons,List.not_mem_nil,or_false]at hs;rcases hs with rfl|rfl<;>decide
theorem Cz:r2.Ok:=by
 refine⟨⟨⟨Y,Y⟩,jD ⟨Y,Y⟩,fun s hs=>?_,Y⟩,zG,Y,fun s hs=>?_⟩
 .simp only[r2,List.mem_cons,List.not_mem_nil,or_false]at hs;rcases hs with rfl|rfl|rfl|rfl<;>first|exact vL ⟨Y,Y⟩|exact AT ⟨Y,Y⟩
 .simp only[r2,List.mem_cons,List.not_mem_nil,or_false]at hs;rcases hs with rfl|rfl|rfl|rfl<;>decide
def wf (y:Rat):Rat:=if y<0 then 0 else if y<3000 then 80*y else 240000
def kf (y:Rat):Rat:=if y<0 then 0 else 1000*y
theorem ma (x:Int)(z t:Rat):fQ (du x) z t=wf (z+t*(x:Rat)):=by
 rw[fQ,iO];show aq (cO (du x).k.s (du x).k.m (yQ (du x) z t)) 2=_;rw[aq,aq,aq,cO,cO,yQ,bE,bE];show 0+(if (ofQ 0).val+(z+t*(x:Rat))-((0:Int):Rat)<0 then 0 else((ofQ ((80:Int):Rat)).val-0)*((ofQ 0).val+(z+t*(x:Rat))-((0:Int):Rat)))+(if (ofQ 0).val+(z+t*(x:Rat))-((3000:Int):Rat)<0 then 0 else((ofQ 0).val-(ofQ ((80:Int):Rat)).val)*((ofQ 0).val+(z+t*(x:Rat))-((3000:Int):Rat)))=_;simp only[ofQ_val];rw[show((0:Int):Rat)=0 from O,show((80:Int):Rat)=80 from O,show((3000:Int):Rat)=3000 from O,wf];grind
theorem vW (x:Int)(z t:Rat):fQ (eo x) z t=kf (1500+(z+t*(x:Rat))):=by
 rw[fQ,iO];show aq (cO (eo x).k.s (eo x).k.m (yQ (eo x) z t)) 1=_;rw[aq,aq,cO,yQ,bE];show 0+(if (ofQ ((1500:Int):Rat)).val+(z+t*(x:Rat))-((0:Int):Rat)<0 then 0 else((ofQ ((1000:Int):Rat)).val-0)*((ofQ ((1500:Int):Rat)).val+(z+t*(x:Rat))-((0:Int):Rat)))=_;simp only[ofQ_val];rw[show((0:Int):Rat)=0 from O,show((1000:Int):Rat)=1000 from O,show((1500:Int):Rat)=1500 from O,kf];grind
theorem n5:((5000:Int):Rat)=5000:=rfl
theorem Ct:((15000:Int):Rat)=15000:=rfl
theorem ss (z t:Rat):(bd r1).F z t=wf (z+t*5000)+wf (z+t*15000):=by
 have e:(bd r1).F z t=(0+fQ (du 5000) z t)+fQ (du 15000) z t:=O;rw[e,ma,ma,n5,Ct];grind
theorem ER (z t:Rat):(bd r1).G0 z t=wf (z+t*5000)*5000+wf (z+t*15000)*15000:=by
 have e:(bd r1).G0 z t=(0+fQ (du 5000) z t*((5000:Int):Rat))+fQ (du 15000) z t*((15000:Int):Rat):=O;rw[e,ma,ma,n5,Ct];grind
theorem sv (z t:Rat):(bd r2).F z t=kf (1500+(z+t*5000))+kf (1500+(z+t*15000))+wf (z+t*5000)+wf (z+t*15000):=by
 have e:(bd r2).F z t=(((0+fQ (eo 5000) z t)+fQ (eo 15000) z t)+fQ (du 5000) z t)+fQ (du 15000) z t:=O;rw[e,ma,ma,vW,vW,n5,Ct];grind
theorem EY (z t:Rat):(bd r2).G0 z t=kf (1500+(z+t*5000))*5000+kf (1500+(z+t*15000))*15000+wf (z+t*5000)*5000+wf (z+t*15000)*15000:=by
 have e:(bd r2).G0 z t=(((0+fQ (eo 5000) z t*((5000:Int):Rat))+fQ (eo 15000) z t*((15000:Int):Rat))+fQ (du 5000) z t*((5000:Int):Rat))+fQ (du 15000) z t*((15000:Int):Rat):=O;rw[e,ma,ma,vW,vW,n5,Ct];grind
theorem qi:(bd r1).w=320000:=rfl
theorem qj:(bd r2).w=320000:=rfl
theorem EQ:(bd r1).A=10000:=by show(ofQ ((10000:Int):Rat)).val=10000;rw[ofQ_val];rfl
theorem EW:(bd r2).A=10000:=by show(ofQ ((10000:Int):Rat)).val=10000;rw[ofQ_val];rfl
theorem Cw:(bd r1).Least 2000 0:=⟨by rw[ss,qi];simp only[wf,kf];grind,fun z' h=>by rw[ss,qi];simp only[wf,kf];grind⟩
theorem EV:(bd r1).Least (-4000) 1:=⟨by rw[ss,qi];simp only[wf,kf];grind,fun z' h=>by rw[ss,qi];simp only[wf,kf];grind⟩
theorem EU:(bd r1).Least 16000 (-1):=⟨by rw[ss,qi];simp only[wf,kf];grind,fun z' h=>by rw[ss,qi];simp only[wf,kf];grind⟩
theorem Cy:(bd r2).Least (-1340) 0:=⟨by rw[sv,qj];simp only[wf,kf];grind,fun z' h=>by rw[sv,qj];simp only[wf,kf];grind⟩
theorem E2:(bd r2).Least (-16180) 1:=⟨by rw[sv,qj];simp only[wf,kf];grind,fun z' h=>by rw[sv,qj];simp only[wf,kf];grind⟩
theorem E1:(bd r2).Least 3820 (-1):=⟨by rw[sv,qj];simp only[wf,kf];grind,fun z' h=>by rw[sv,qj];simp only[wf,kf];grind⟩
theorem Dp {z t:Rat}(h:(bd r1).Least z t):(bd r1).E t=wf (z+t*5000)*5000+wf (z+t*15000)*15000-320000*10000:=by
 rw[Bd.E,Bd.sg_eq h,Bd.e,ER,qi,EQ]
theorem Ds {z t:Rat}(h:(bd r2).Least z t):(bd r2).E t=kf (1500+(z+t*5000))*5000+kf (1500+(z+t*15000))*15000+wf (z+t*5000)*5000+wf (z+t*15000)*15000-320000*10000:=by
 rw[Bd.E,Bd.sg_eq h,Bd.e,EY,qj,EW]
theorem y2 {b:Bd}{z:Rat}(hl:b.Least z 0)(h0:b.E 0=0)(hm:b.E (-1)<0)(hp:0<b.E 1):b.eqQ 1=some (z,0):=by
 have d1:b.dbl (-1) 1 1=some 1:=by
  rw[Bd.dbl,if_neg];rw[show(-1:Rat)*1 = -1 by grind];grind
 have d2:b.dbl 1 1 1=some 1:=by
  rw[Bd.dbl,if_neg];rw[show(1:Rat)*1=1 by grind];grind
 have a0:b.at1 0=some (z,0):=by
  rw[Bd.at1,if_pos h0,Bd.sg_eq hl]
 rw[Bd.eqQ,d1,d2];dsimp only;rw[Bd.fst3,a0]
theorem ES:(bd r1).eqQ 1=some (2000,0):=y2 Cw (by rw[Dp Cw];simp only[wf,kf];grind) (by rw[Dp EU];simp only[wf,kf];grind) (by rw[Dp EV];simp only[wf,kf];grind)
theorem EZ:(bd r2).eqQ 1=some (-1340,0):=y2 Cy (by rw[Ds Cy];simp only[wf,kf];grind) (by rw[Ds E1];simp only[wf,kf];grind) (by rw[Ds E2];simp only[wf,kf];grind)
theorem Dq:(bd r1).Bal 2000 0:=by
 have e:(bd r1).F 2000 0=(bd r1).w/\(bd r1).G0 2000 0=(bd r1).w*(bd r1).A:=by
  rw[ss,ER,qi,EQ];simp only[wf,kf];constructor<;>grind
 exact e
theorem Dt:(bd r2).Bal (-1340) 0:=by
 have e:(bd r2).F (-1340) 0=(bd r2).w/\(bd r2).G0 (-1340) 0=(bd r2).w*(bd r2).A:=by
  rw[sv,EY,qj,EW];simp only[wf,kf];constructor<;>grind
 exact e
theorem CN (y:Rat):0<=wf y:=by rw[wf];grind
theorem ET (t:Rat):∃z,(bd r1).w<=(bd r1).F z t:=by
 refine⟨3000+15000*(if t<0 then -t else t),?_⟩;rw[ss,qi];simp only[wf,kf];grind
theorem E0 (t:Rat):∃z,(bd r2).w<=(bd r2).F z t:=by
 refine⟨15000*(if t<0 then -t else t),?_⟩;have h1:=CN (15000*(if t<0 then -t else t)+t*5000);have h2:=CN (15000*(if t<0 then -t else t)+t*15000);rw[sv,qj];simp only[wf,kf];grind
theorem su (t:Rat):(lO r1.l t).length<=19:=by
 rw[lO];show((jb t (du 5000))++((jb t (du 15000))++[])).length<=19;rw[jb,jb];simp[du]
theorem sw (t:Rat):(lO r2.l t).length<=19:=by
 rw[lO];show((jb t (eo 5000))++((jb t (eo 15000))++((jb t (du 5000))++((jb t (du 15000))++[])))).length<=19;rw[jb,jb,jb,jb];simp[du,eo]
theorem w9:bP r1.l=[5000,15000]:=by
 rw[bP];have:cP (r1.l.map (·.x))=[5000,15000]:=List.mergeSort_of_pairwise Y;rw[this];decide
theorem xb:bP r2.l=[5000,15000]:=by
 rw[bP];have:cP (r2.l.map (·.x))=[5000,5000,15000,15000]:=by
  show List.mergeSort [5000,15000,5000,15000] _=_;simp[List.mergeSort,List.MergeSort.Internal.splitInTwo,List.merge]
 rw[this];decide
theorem oT {s:SR}{z t A B k:Rat}(hr:rV s z t=k)(hl:lV s z t=k)(hk:k≠0)(h:A+B*(s.x:Rat)≠0):oS z t A B s=false:=by
 rw[oS,decide_eq_false];intro hn;apply hn;rw[hr,hl];rcases Classical.em (0<A+B*(s.x:Rat)) with g|g
 .exact .inl ⟨g,hk⟩
 .exact .inr ⟨cH,hk⟩
theorem AK {x:Int}{A B:Rat}(h:A+B*(x:Rat)≠0):oS 2000 0 A B (du x)=false:=by
 have e:yQ (du x) 2000 0=2000:=by
  show(ofQ 0).val+(2000+0*(x:Rat))=2000;rw[ofQ_val];grind
 have m:bE (du x).k.m 1=80:=by
  show(ofQ ((80:Int):Rat)).val=80;rw[ofQ_val];rfl
 refine oT (k:=80) ?_ ?_ Y h
 .show bE (du x).k.m (lY (du x).k.s (yQ (du x) 2000 0) 2)=80;rw[e,lY,if_neg (by show ¬((3000:Int):Rat)<=2000;decide),lY,if_pos (by show((0:Int):Rat)<=2000;decide),m]
 .show bE (du x).k.m (oW (du x).k.s (yQ (du x) 2000 0) 2)=80;rw[e,oW,if_neg (by show ¬((3000:Int):Rat)<2000;decide),oW,if_pos (by show((0:Int):Rat)<2000;decide),m]
theorem yb {x:Int}{A B:Rat}(h:A+B*(x:Rat)≠0):oS (-1340) 0 A B (eo x)=false:=by
 have e:yQ (eo x) (-1340) 0=160:=by
  show(ofQ ((1500:Int):Rat)).val+(-1340+0*(x:Rat))=160;rw[ofQ_val,show((1500:Int):Rat)=1500 from O];grind
 have m:bE (eo x).k.m 1=1000:=by
  show(ofQ ((1000:Int):Rat)).val=1000;rw[ofQ_val];rfl
 refine oT (k:=1000) ?_ ?_ Y h
 .show bE (eo x).k.m (lY (eo x).k.s (yQ (eo x) (-1340) 0) 1)=1000;rw[e,lY,if_pos (by show((0:Int):Rat)<=160;decide),m]
 .show bE (eo x).k.m (oW (eo x).k.s (yQ (eo x) (-1340) 0) 1)=1000;rw[e,oW,if_pos (by show((0:Int):Rat)<160;decide),m]
theorem BH {A B:Rat}(h:A+B*5000≠0\/A+B*15000≠0):ic r1.l 2000 0 A B=false:=by
 show(oS 2000 0 A B (du 5000)&&(oS 2000 0 A B (du 15000)&&true))=false;rcases h with h|h
 .rw[AK (x:=5000) (by rw[n5];exact h),Bool.false_and]
 .rw[AK (x:=15000) (by rw[Ct];exact h),Bool.false_and,Bool.and_false]
theorem BI {A B:Rat}(h:A+B*5000≠0\/A+B*15000≠0):ic r2.l (-1340) 0 A B=false:=by
 show(oS (-1340) 0 A B (eo 5000)&&(oS (-1340) 0 A B (eo 15000)&&(oS (-1340) 0 A B (du 5000)&&(oS (-1340) 0 A B (du 15000)&&true))))=false;rcases h with h|h
 .rw[yb (x:=5000) (by rw[n5];exact h),Bool.false_and]
 .rw[yb (x:=15000) (by rw[Ct];exact h),Bool.false_and,Bool.and_false]
theorem oK {b:BR}{z:Rat}(hp:bP b.l=[5000,15000])(hf:∀A B:Rat,(A+B*5000≠0\/A+B*15000≠0)->ic b.l z 0 A B=false):k8 b z 0=false:=by
 rw[k8,List.any_eq_false];intro d hd;have key:∀A B:Int,(A+B*5000≠0\/A+B*15000≠0)->¬ic b.l z 0 (ofQ (A:Rat)).val (ofQ (B:Rat)).val=true:=by
  intro A B h;rw[ofQ_val,ofQ_val,hf]
  .decide
  .have e1:(A:Rat)+(B:Rat)*5000=((A+B*5000:Int):Rat):=by push_cast;rfl
   have e2:(A:Rat)+(B:Rat)*15000=((A+B*15000:Int):Rat):=by push_cast;rfl
   rw[e1,e2];rcases h with h|h
   .exact .inl fun hc=>h (Rat.intCast_inj.1 (show((A+B*5000:Int):Rat)=((0:Int):Rat) from hc))
   .exact .inr fun hc=>h (Rat.intCast_inj.1 (show((A+B*15000:Int):Rat)=((0:Int):Rat) from hc))
 rw[ir,el,hp]at hd;simp at hd;rcases hd with rfl|rfl|rfl|rfl|rfl|rfl
 .exact key (-5000) 1 Y
 .exact key (-15000) 1 Y
 .exact key 5000 (-1) Y
 .exact key 15000 (-1) Y
 .exact key 1 0 Y
 .exact key (-1) 0 Y
theorem w8:FL r1.l 2000 0=[ofQ 160000,ofQ 160000]:=by
 show [ofQ (fQ (du 5000) 2000 0),ofQ (fQ (du 15000) 2000 0)]=_;rw[ma,ma,n5,Ct,wf,wf];congr 2
 .grind
 .congr 2;grind
theorem w_:FL r2.l (-1340) 0=[ofQ 160000,ofQ 160000,ofQ 0,ofQ 0]:=by
 show [ofQ (fQ (eo 5000) (-1340) 0),ofQ (fQ (eo 15000) (-1340) 0),ofQ (fQ (du 5000) (-1340) 0),ofQ (fQ (du 15000) (-1340) 0)]=_;rw[ma,ma,vW,vW,n5,Ct,show kf (1500+(-1340+0*5000))=160000 by rw[kf];grind,show kf (1500+(-1340+0*15000))=160000 by rw[kf];grind,show wf (-1340+0*5000)=0 by rw[wf];grind,show wf (-1340+0*15000)=0 by rw[wf];grind]
theorem uP (b:BR)(hb:b.Ok){z:Int}(hz:i64 z){F:List RR}(h19:∀t,(lO b.l t).length<=19)(hex:∀t,∃z,(bd b).w<=(bd b).F z t)(heq:(bd b).eqQ 1=some ((z:Rat),0))(hbal:(bd b).Bal (z:Rat) 0)(ht:k8 b (z:Rat) 0=false)(hF:FL b.l (z:Rat) 0=F) :
  Ret Tryz.prog .shared 78 [.agg (eB b)] (.tup [.agg (kY ⟨ofQ (z:Rat),ofQ 0⟩ F),.agg (zN++zN),I 0]):=by
 have hn:=vU hb hbal;have h93:=sB b hb;rw[kD,if_neg (by rw[hn.1];decide),List.find?_eq_none.2 (fun r hr=>by rw[hn.2 r hr];decide)]at h93;have h120:=wi b hb (fun t=>Nat.le_trans (h19 t) Y) (fun t=>BX _ (h19 t)) hex (N:=1) Y heq;have va:Va ⟨ofQ (z:Rat),ofQ 0⟩ (z:Rat) 0 4 4:=⟨Vq.ofQ (h:=⟨pU z hz⟩),Vq.ofQ (h:=HQ.zero.mono Y)⟩;have h121:=wL b hb ⟨ofQ (z:Rat),ofQ 0⟩ (ha:=va) Y;rw[ht]at h121;have h23:=mS b.l hb.lim.l hb.chkL ⟨ofQ (z:Rat),ofQ 0⟩ (ha:=va) Y;rw[hF]at h23;exact xF b hb.lim hb.chk h93 _ _ h120 h121 h23
theorem Dr:Ret Tryz.prog .shared 78 [.agg (eB r1)] (.tup [.agg (kY ⟨ofQ ((2000:Int):Rat),ofQ 0⟩ [ofQ 160000,ofQ 160000]),.agg (zN++zN),I 0]) :=
 uP r1 Cx ⟨Y,Y⟩ su ET ES Dq (oK w9 fun _ _=>BH) w8
theorem Du:Ret Tryz.prog .shared 78 [.agg (eB r2)] (.tup [.agg (kY ⟨ofQ ((-1340:Int):Rat),ofQ 0⟩ [ofQ 160000,ofQ 160000,ofQ 0,ofQ 0]),.agg (zN++zN),I 0]) :=
 uP r2 Cz ⟨Y,Y⟩ sw E0 EZ Dt (oK xb fun _ _=>BI) w_
def Fm (s:SHP)(d:Nat):BR:=wB s (cy d s.st)
theorem CY (d:Nat)(l:List ST):(cy d l).map qL=cy d l:=by
 rw[cy,List.map_map];refine List.map_congr_left fun t _=>?_;show qL (lI d t)=lI d t;rw[qL,lI];show(⟨t.x,k9 (ofQ 0),⟨t.L,(qC d t).map k9⟩⟩:SR)=_;rw[iA];have:(qC d t).map k9=qC d t:=by
  rw[qC,List.map_append,List.map_map];congr 1
  .exact List.map_congr_left fun h _=>iA _
  .show [k9 (ofQ 0)]=_;rw[iA]
 rw[this]
theorem Ez (s:SHP)(d:Nat):pB s (cy d s.st)=Fm s d:=by rw[pB,CY];rfl
theorem Cf {e:Int}:Weak (.tup [.agg zS,.agg (zN++zN),I e]) (⟨zA,[],zA,e⟩:SQ).pv:=WeakL.tup (.cons Ce.agg (.cons mw.agg (WeakL.refl _)))
set_option maxRecDepth 20000 in
theorem yF (s:SHP)(d:Int)(B:BR)(l:List SR)(e:Int)(Q:SQ)(h1:Ret Tryz.prog .shared 94 [.agg (ep s),I d] (.tup [.sl (l.map eS),I 0]))(h2:Ret Tryz.prog .shared 95 [.agg (ep s),.sl (l.map eS)] (.tup [.agg (eB B),I e]))
  (h3:e=0->Ret Tryz.prog .shared 78 [.agg (eB B)] Q.pv) (h4:e≠0->Q=⟨zA,[],zA,e⟩):Ret Tryz.prog .shared 31 [.agg (ep s),I d] Q.pv:=by
 by_cases he:e=0
 .have g3:=h3 he;clear h3 h4;subst he;obtain⟨⟨az,at'⟩,F,⟨rz,rt⟩,e⟩:=Q;simp only[SQ.pv]at *
  refine Ret.of_pwp layOk mixed Go.Proofs.Tryz.func31 O Y O O ?_;refine G h1 ?_;refine G h2 ?_;refine G g3 ?_;exact bL
 .rw[h4 he];refine Ret.weak ?_ (WeakL.refl _) Cf;clear h3 h4;refine Ret.of_pwp layOk mixed Go.Proofs.Tryz.func31 O Y O O ?_;refine G h1 ?_;refine G h2 ?_;refine D ?_ ?_<;>intro h
  .clear h;exact bL
  .simp at h;exact absurd h he
def pe (x:Int):ST:=⟨x,10000,[0,3000],[4000]⟩
def F5:LR:=⟨[76,105,103,104,116],320000,10000,2000,0⟩
def nU:SHP:=⟨[82,97,102,116],20000,[pe 5000,pe 15000],F5,[]⟩
def qM (x:Int):BKR:=⟨x,0,500,1500,1000,ofQ ((1000:Int):Rat),200000,false⟩
def fZ:DKR:=⟨nU,1000,[qM 5000,qM 15000],[],150,5000⟩
theorem tU:cE nU=0:=by decide +kernel
theorem mn:nU.Len:=⟨Y,Y,fun t ht=>by
 simp only[nU,List.mem_cons,List.not_mem_nil,or_false]at ht
 rcases ht with rfl|rfl<;>exact⟨Y,Y⟩⟩
theorem Fn:jA nU 1000=0:=by rw[jA,if_pos tU];decide
theorem qs {x:Int}(h:aw x (-1000000) 1000000=true):jS (qM x)=true:=by
 rw[jS,y7];show(aw x (-1000000) 1000000&&aw 500 1 10000&&aw 1500 0 100000&&aw 1000 1 20000&&aw 200000 0 1000000000&&decide (0<(ofQ ((1000:Int):Rat)).val)&&decide ((0:Int)=0))=true;rw[h,ofQ_val];decide
theorem qr {x:Int}(h:x=5000\/x=15000):cz x 0 [pe 5000,pe 15000]=some 0:=by rcases h with rfl|rfl<;>decide
theorem Dv:mF fZ.s.st fZ.zn fZ.bl=0:=by
 have h0:fT fZ.s.st fZ.zn fZ.bl 0 (qM 5000)=0:=by
  rw[fT,if_pos (qs Y),if_pos (by show(cz 5000 0 [pe 5000,pe 15000]).isSome=true;rw[qr (.inl O)];rfl)];rfl
 have h1:fT fZ.s.st fZ.zn fZ.bl 1 (qM 15000)=0:=by
  rw[fT,if_pos (qs Y),if_pos (by show(cz 15000 0 [pe 5000,pe 15000]).isSome=true;rw[qr (.inr O)];rfl),if_neg (by show ¬(false=true);decide),if_neg];show ¬([qM 5000].any (fV (qM 15000)))=true;show ¬((decide (eZ 15000 5000<500+500)&&decide (2*eZ 0 0<1000+1000))||false)=true;decide
 rw[mF,if_neg Y];show eG [qM 5000,qM 15000] _=0;rw[eG,if_pos h0,eG,if_pos h1,eG]
theorem zP:kX fZ=0:=by
 rw[kX,if_pos (show jA fZ.s fZ.d=0 from Fn),if_pos (show ef fZ.zn=0 by decide),if_pos Dv,if_pos Y]
theorem E5:qC 1000 (pe 5000)=[ofQ ((80:Int):Rat),ofQ 0]:=by
 show [ofQ (((2*4000*10000:Int):Rat)*(((1000:Nat):Rat)/1000000000)),ofQ 0]=_;rw[show((2*4000*10000:Int):Rat)*(((1000:Nat):Rat)/1000000000)=((80:Int):Rat) by decide +kernel]
theorem vC (x:Int):lI 1000 (pe x)=du x:=by
 have:qC 1000 (pe x)=qC 1000 (pe 5000):=O;rw[lI,this,E5];rfl
theorem Ft:qX nU=((10000:Int):Rat):=by decide +kernel
theorem DM (l:List SR):wB nU l=⟨320000,ofQ ((10000:Int):Rat),l⟩:=by
 rw[wB,Ft];rfl
theorem Ey:Fm nU 1000=r1:=by
 rw[Fm,DM];show(⟨320000,ofQ ((10000:Int):Rat),[lI 1000 (pe 5000),lI 1000 (pe 15000)]⟩:BR)=_;rw[vC,vC];rfl
theorem Cm (x:Int):qL (du x)=du x:=by
 show(⟨x,k9 (ofQ 0),⟨[0,3000],[k9 (ofQ ((80:Int):Rat)),k9 (ofQ 0)]⟩⟩:SR)=_;rw[iA,iA];rfl
theorem Cl (x:Int):qL (eo x)=eo x:=by
 show(⟨x,k9 (ofQ ((1500:Int):Rat)),⟨[0],[k9 (ofQ ((1000:Int):Rat))]⟩⟩:SR)=_;rw[iA,iA];rfl
theorem Fs:pB nU r2.l=r2:=by
 have h:=DM (r2.l.map qL);rw[wB]at h;rw[pB,h];show(⟨320000,ofQ ((10000:Int):Rat),[qL (eo 5000),qL (eo 15000),qL (du 5000),qL (du 15000)]⟩:BR)=_;rw[Cm,Cm,Cl,Cl];rfl
end Go.Pv
set_option maxHeartbeats 2000000
namespace Go.Pv
attribute [local irreducible] PWP POps PQuiet PSem aH au aj ao
open Go.Proofs Go.RowKit
theorem pM {p:Prop}[Decidable p]{b:Bool}(h:b=true↔p):b=decide p:=by
 cases b with
 |true=>exact(decide_eq_true (h.1 rfl)).symm
 |false=>exact(decide_eq_false fun g=>by have:=h.2 g;cases this).symm
def xy (t:ST):Bool:=!decide ((8<t.L.length/\t.L.length<=30)\/40<t.L.length\/40<t.H0.length)
def Af (w:LR):Bool:=decide (w.nm.length<=40)
def DX (s:SHP):Bool:=!decide (40<s.nm.length\/40<s.light.nm.length\/(6<s.st.length/\s.st.length<=40)\/45<s.st.length\/(8<s.it.length/\s.it.length<=60)\/205<s.it.length)
def CK (s:SHP):Bool:=DX s&&s.st.all xy&&s.it.all Af
theorem j0 {α:Type}{p:α->Bool}{l:List α}{k:Nat}{x:α}(hx:l[k]? = some x)(h:p x=false):l.all p=false:=List.all_eq_false.2 ⟨x,aZ hx,by rw[h];decide⟩
theorem me {α:Type}{p:α->Bool}{l:List α}(h:∀(j:Nat) x,j<l.length->l[j]? = some x->p x=true):l.all p=true:=List.all_eq_true.2 fun x hx=>by
 obtain⟨j,hj⟩:=List.mem_iff_getElem?.1 hx;exact h j x (be hj).1 hj
theorem jZ {α:Type}{p:α->Bool}{l:List α}{k:Nat}{x:α}(h:∀(j:Nat) x,j<k->l[j]? = some x->p x=true)(hx:l[k]? = some x)(hp:p x=true):∀(j:Nat) x,j<k+1->l[j]? = some x->p x=true:=fun j u hj hu=>by
 rcases Nat.lt_or_ge j k with g|g
 .exact h j u g hu
 .rw[show j=k by omega,hx]at hu;cases hu;exact hp
set_option maxRecDepth 20000 in
theorem vz (s:SHP):Ret Tryz.prog .shared 39 [.agg (ep s)] (.bool (CK s)):=by
 have hml:((s.st.map eT).length:Int)=s.st.length:=ah;have hmi:((s.it.map eLd).length:Int)=s.it.length:=ah;generalize hf:CK s=E;rw[CK]at hf;obtain⟨nm,len,st,light,it⟩:=s;simp only at *
 refine Ret.of_pwp layOk mixed Go.Proofs.Tryz.func39 O Y O O ?_;refine H ?_;refine jO 100 [(1,.ptr 1 1 0 0),(52,.bool (!DX ⟨nm,len,st,light,it⟩))] [(1,1,⟨27,9,[ep ⟨nm,len,st,light,it⟩],2⟩)] ?_ ?_
 .clear hf
  repeat' (first|refine eg O ?_|refine ct O O (fun h=>?_) (fun h=>?_)|refine cq O O (fun h=>?_) (fun h=>?_)|refine cp O O (fun h=>?_) (fun h=>?_))
  all_goals refine⟨O,congrArg PV.bool ?_,O,trivial⟩
  all_goals (rw[DX,Bool.not_not];refine pM ?_)
  all_goals (simp only[decide_eq_true_eq,decide_eq_false_iff_not,hml,hmi]at *)
  all_goals (first|omega|(simp only[true_iff];omega)|(simp only[Bool.false_eq_true,false_iff];omega))
 intro s0;refine H ?_;cases h0:DX ⟨nm,len,st,light,it⟩
 .rw[h0]at hf;simp only[Bool.false_and]at hf;subst hf;exact fE
 have h1:st.length<=45/\it.length<=205:=by
  simp only[DX,Bool.not_eq_true',decide_eq_false_iff_not]at h0;omega
 rw[h0,Bool.true_and]at hf;refine H ?_;refine am (fun k:Nat=>k<=st.length/\∀(j:Nat) t,j<k->st[j]? = some t->xy t=true) (fun k=>[(1,.ptr 1 1 0 0),(3,I (k:Nat))]) (fun _=>[(1,1,⟨27,9,[ep ⟨nm,len,st,light,it⟩],2⟩)]) (fun k=>st.length-k) 0 ⟨Nat.zero_le _,fun j t hj=>absurd hj J⟩ ⟨O,O,O,trivial⟩ ?_;rintro k s1 ⟨hk,hall⟩;refine H ?_;rw[hml];refine aV O ?_ ?_<;>intro h
 .have hlt:k<st.length:=by have:=ax h;omega
  clear h;obtain⟨t,hx⟩:=aG hlt;have hmL:((t.L.map eN).length:Int)=t.L.length:=ah;have hmH:((t.H0.map eN).length:Int)=t.H0.length:=ah;have hw:=c_ k;have bad:xy t=false->E=false:=fun h=>by rw[<-hf,j0 hx h,Bool.false_and]
  have good:=jZ hall hx;have hdef:xy t=!decide ((8<t.L.length/\t.L.length<=30)\/40<t.L.length\/40<t.H0.length):=O;generalize xy t=b at *
  refine aJ hx ?_
  (repeat ((fail_if_success (with_reducible refine aR 7 ?_));refine cu O ?_))
  refine bq [(1,.ptr 1 1 0 0),(3,I (k:Nat)),(4,.ptr 4 ((s1.own 4).1+1) 0 0)] [(1,1,⟨27,9,[ep ⟨nm,len,st,light,it⟩],2⟩),(4,(s1.own 4).1+1,⟨130,4,[eT t],2⟩)] ⟨O,O,O,O,O,trivial⟩ ?_;generalize (s1.own 4).1+1=g4;intro s2
  ((repeat (first|refine aT ?_ | refine ci ?_ | refine b9 ?_ | refine cd ?_));refine bg ?_)
  refine jO 100 [(1,.ptr 1 1 0 0),(3,I (k:Nat)),(86,.bool (!b))] [(1,1,⟨27,9,[ep ⟨nm,len,st,light,it⟩],2⟩)] ?_ ?_
  .clear hf bad good hall
   repeat' (first|refine eg O ?_|refine ct O O (fun h=>?_) (fun h=>?_)|refine cq O O (fun h=>?_) (fun h=>?_)|refine cp O O (fun h=>?_) (fun h=>?_))
   all_goals refine⟨O,O,congrArg PV.bool ?_,O,trivial⟩
   all_goals (rw[hdef,Bool.not_not];refine pM ?_)
   all_goals (simp only[decide_eq_true_eq,decide_eq_false_iff_not,hmL,hmH]at *)
   all_goals (first|omega|(simp only[true_iff];omega)|(simp only[Bool.false_eq_true,false_iff];omega))
  intro s3;refine H ?_;cases b
  .rw[bad O];exact fE
  .refine H ?_;exact⟨k+1,⟨hlt,good O⟩,J,O,congrArg I hw,O,trivial⟩
 have hge:k=st.length:=by have:=aF h;omega
 clear h;subst hge;rw[me hall,Bool.true_and]at hf;clear hall;refine H ?_;refine am (fun k:Nat=>k<=it.length/\∀(j:Nat) t,j<k->it[j]? = some t->Af t=true) (fun k=>[(1,.ptr 1 1 0 0),(5,I (k:Nat))]) (fun _=>[(1,1,⟨27,9,[ep ⟨nm,len,st,light,it⟩],2⟩)]) (fun k=>it.length-k) 0 ⟨Nat.zero_le _,fun j t hj=>absurd hj J⟩ ⟨O,O,O,trivial⟩ ?_;rintro k s1 ⟨hk,hall⟩;refine H ?_;rw[hmi];refine aV O ?_ ?_<;>intro h
 .have hlt:k<it.length:=by have:=ax h;omega
  clear h;obtain⟨t,hx⟩:=aG hlt;have hw:=c_ k;have bad:Af t=false->E=false:=fun h=>by rw[<-hf,j0 hx h]
  have good:=jZ hall hx;have hdef:Af t=decide (t.nm.length<=40):=O;generalize Af t=b at *
  refine aJ hx ?_;refine D ?_ ?_<;>intro h
  .have h2:40<(t.nm.length:Int):=ax h;clear h;rw[decide_eq_false J]at hdef;rw[bad hdef];exact fE
  .have h2:¬40<(t.nm.length:Int):=aF h;clear h;rw[decide_eq_true J]at hdef;refine H ?_;exact⟨k+1,⟨hlt,good hdef⟩,J,O,congrArg I hw,O,trivial⟩
 have hge:k=it.length:=by have:=aF h;omega
 clear h;subst hge;rw[me hall]at hf;subst hf;exact fE
def DW (b:BKR):Bool:=DA b.st 3
def E6 (z:ZNR):Bool:=decide (z.nm.length<=40)
def Fc (d:DKR):Bool:=CK d.s&&!decide ((5<d.bl.length/\d.bl.length<=40)\/65<d.bl.length\/(4<d.zn.length/\d.zn.length<=20)\/25<d.zn.length)
def DD (d:DKR):Bool:=Fc d&&d.bl.all DW&&d.zn.all E6
set_option maxRecDepth 20000 in
theorem vv (d:DKR):Ret Tryz.prog .shared 16 [.agg (c9 d)] (.bool (DD d)):=by
 have hmb:((d.bl.map eBk).length:Int)=d.bl.length:=ah;have hmz:((d.zn.map fW).length:Int)=d.zn.length:=ah;have hs:=vz d.s;generalize hf:DD d=E;rw[DD]at hf;have hM:Fc d=(CK d.s&&!decide ((5<d.bl.length/\d.bl.length<=40)\/65<d.bl.length\/(4<d.zn.length/\d.zn.length<=20)\/25<d.zn.length)):=O;generalize Fc d=M at *
 generalize CK d.s=S at *
 obtain⟨s,den,bl,zn,gm,oh⟩:=d;simp only at *
 refine Ret.of_pwp layOk mixed Go.Proofs.Tryz.func16 O Y O O ?_;refine ap hs ?_;refine jO 100 [(1,.ptr 1 1 0 0),(44,.bool (!M))] [(1,1,⟨31,14,[c9 ⟨s,den,bl,zn,gm,oh⟩],2⟩)] ?_ ?_
 .clear hf hs;cases S
  .repeat' (first|refine eg O ?_|refine ct O O (fun h=>?_) (fun h=>?_)|refine cq O O (fun h=>?_) (fun h=>?_)|refine cp O O (fun h=>?_) (fun h=>?_))
   exact⟨O,congrArg PV.bool (by rw[hM];rfl),O,trivial⟩
  .repeat' (first|refine eg O ?_|refine ct O O (fun h=>?_) (fun h=>?_)|refine cq O O (fun h=>?_) (fun h=>?_)|refine cp O O (fun h=>?_) (fun h=>?_))
   all_goals refine⟨O,congrArg PV.bool ?_,O,trivial⟩
   all_goals (rw[hM,Bool.true_and,Bool.not_not];refine pM ?_)
   all_goals (simp only[decide_eq_true_eq,decide_eq_false_iff_not,hmb,hmz]at *)
   all_goals (first|omega|(simp only[true_iff];omega)|(simp only[Bool.false_eq_true,false_iff];omega))
 intro s0;refine H ?_;cases M
 .simp only[Bool.false_and]at hf;subst hf;exact fE
 have h1:bl.length<=65/\zn.length<=25:=by
  have hM:=hM.symm;simp only[Bool.and_eq_true,Bool.not_eq_true',decide_eq_false_iff_not]at hM;omega
 rw[Bool.true_and]at hf;refine H ?_;refine am (fun k:Nat=>k<=bl.length/\∀(j:Nat) t,j<k->bl[j]? = some t->DW t=true) (fun k=>[(1,.ptr 1 1 0 0),(3,I (k:Nat))]) (fun _=>[(1,1,⟨31,14,[c9 ⟨s,den,bl,zn,gm,oh⟩],2⟩)]) (fun k=>bl.length-k) 0 ⟨Nat.zero_le _,fun j t hj=>absurd hj J⟩ ⟨O,O,O,trivial⟩ ?_;rintro k s1 ⟨hk,hall⟩;refine H ?_;rw[hmb];refine aV O ?_ ?_<;>intro h
 .have hlt:k<bl.length:=by have:=ax h;omega
  clear h;obtain⟨t,hx⟩:=aG hlt;have hw:=c_ k;have bad:DW t=false->E=false:=fun h=>by rw[<-hf,j0 hx h,Bool.false_and]
  have good:=jZ hall hx;have hsr:Ret Tryz.prog .shared 20 [.agg (eR t.st),I (3:Nat)] (.bool (DW t)):=nD t.st 3 Y;generalize DW t=b at *
  refine aJ hx ?_;refine ap hsr ?_;cases b
  .rw[bad O];exact fE
  .refine H ?_;exact⟨k+1,⟨hlt,good O⟩,J,O,congrArg I hw,O,trivial⟩
 have hge:k=bl.length:=by have:=aF h;omega
 clear h;subst hge;rw[me hall,Bool.true_and]at hf;clear hall;refine H ?_;refine am (fun k:Nat=>k<=zn.length/\∀(j:Nat) t,j<k->zn[j]? = some t->E6 t=true) (fun k=>[(1,.ptr 1 1 0 0),(4,I (k:Nat))]) (fun _=>[(1,1,⟨31,14,[c9 ⟨s,den,bl,zn,gm,oh⟩],2⟩)]) (fun k=>zn.length-k) 0 ⟨Nat.zero_le _,fun j t hj=>absurd hj J⟩ ⟨O,O,O,trivial⟩ ?_;rintro k s1 ⟨hk,hall⟩;refine H ?_;rw[hmz];refine aV O ?_ ?_<;>intro h
 .have hlt:k<zn.length:=by have:=ax h;omega
  clear h;obtain⟨t,hx⟩:=aG hlt;have hw:=c_ k;have bad:E6 t=false->E=false:=fun h=>by rw[<-hf,j0 hx h]
  have good:=jZ hall hx;have hdef:E6 t=decide (t.nm.length<=40):=O;generalize E6 t=b at *
  refine aJ hx ?_;refine D ?_ ?_<;>intro h
  .have h2:40<(t.nm.length:Int):=ax h;clear h;rw[decide_eq_false J]at hdef;rw[bad hdef];exact fE
  .have h2:¬40<(t.nm.length:Int):=aF h;clear h;rw[decide_eq_true J]at hdef;refine H ?_;exact⟨k+1,⟨hlt,good hdef⟩,J,O,congrArg I hw,O,trivial⟩
 have hge:k=zn.length:=by have:=aF h;omega
 clear h;subst hge;rw[me hall]at hf;subst hf;exact fE
end Go.Pv
namespace Go.Pv
open Go.RowKit
variable [Globs]
section
variable {P:Program}{L:Lay}{s:St}
theorem tB {d:Nat}{c:Cont}:(s.fin d c).own d=((s.own d).1+1,some c):=ai ..
theorem Loc.slit0 {o:Oper}{T e:TypeId}{r re:LRow}{d:Nat}(ho:o.op = .buildSlice T 0 #[])(hd:o.dst=some d)(hr:L T=some r)(hs:r.sh = .sl e)(hre:L e=some re)(hz:re.zero.isSome=true)(hsz:0<re.size) :
  Loc P L s o d ((s.fin d ⟨e,re.size,[],0⟩).putR d (.als d ((s.own d).1+1) 0 0)):=by
 have key:∀u:St,vP P L u o d ((u.fin d ⟨e,re.size,[],0⟩).putR d (.als d ((u.own d).1+1) 0 0)):=fun u=>by
  refine⟨fun k hk=>aB hk,fun t ht=>?_,fun C a w K Q hG h hN hK=>?_⟩
  .show(bif Nat.beq t d then _ else u.reg t)=_;rw[aX (fun e=>ht (by rw[e];exact hd))];rfl
  .have:=Eff.slit (P:=P) (L:=L) (s:=u) (o:=o) (parts:=#[]) (n:=0) (Pr:=True) 0 ho hd hr hs hre hz hsz O ah (fun p hp=>by simp at hp) O trivial O;exact this.sound hG.lay hG.x hG.glob h hN hK
 refine .any (key s) fun u hu _=>⟨_,key u,?_,fun t ht=>?_⟩
 .show(u.fin d _).own d=(s.fin d _).own d;rw[tB,tB,hu]
 .rw[hd]at ht;cases ht;show(bif Nat.beq d d then _ else _)=(bif Nat.beq d d then _ else _);simp[hu]
theorem Loc.appG {o:Oper}{T e:TypeId}{r re:LRow}{x y:Operand}{d k g:Nat}{rows:List (List PV)}(ho:o.op = .call ⟨.builtin .append,#[x,y],#[T,T]⟩)(hd:o.dst=some d)(hr:L T=some r)(hs:r.sh = .sl e)(hre:L e=some re)(hz:re.zero.isSome=true)(hsz:0<re.size)
  (hx:s.ev x = .als k g 0 0) (hown:s.own k=(g,some ⟨e,re.size,[],0⟩)) (hy:s.ev y = .sl rows) (hpl:rows.all (·.all eO)=true) (hlen:∀row∈rows,row.length=re.size) (hb:rows.length*re.bytes<=140737488355328) (h63:rows.length<=9223372036854775807) :
  Loc P L s o k ((s.setOwn k (g+2) none).putR d (.fsl rows)):=by
 have key:∀u:St,u.own k=s.own k->(∀z∈o.op.operands,u.ev z=s.ev z)->vP P L u o k ((u.setOwn k (g+2) none).putR d (.fsl rows)):=fun u hu he=>by
  refine⟨fun k' hk=>aB hk,fun t ht=>?_,fun C a w K Q hG h hN hK=>?_⟩
  .show(bif Nat.beq t d then _ else u.reg t)=_;rw[aX (fun e=>ht (by rw[e];exact hd))];rfl
  .have hx':u.ev x = .als k g 0 0:=by rw[he x (by rw[ho];simp[Op.operands,Call.operands])];exact hx
   have hy':u.ev y = .sl rows:=by rw[he y (by rw[ho];simp[Op.operands,Call.operands])];exact hy
   have:=Eff.app (P:=P) (L:=L) (s:=u) (o:=o) (c:=⟨e,re.size,[],0⟩) (m:=0) (rows2:=rows) (k2:=1) (Cd2:=True) 1 ho hd hr hs hre hz hsz hx' (by rw[hu];exact hown) O O O (by rw[hy'];rfl) trivial hlen (by show(0:Nat)<=1;omega) J (by simpa using hb) (by simpa using h63);refine this.sound hG.lay hG.x hG.glob h hN fun a' w' h'=>hK a' w' ?_;have hg:(u.own k).1=g:=by rw[hu,hown]
   let l:List {r:List PV // r.all eO=true}:=rows.attachWith _ fun row hrow=>List.all_eq_true.1 hpl row hrow;have hl:l.map Subtype.val=rows:=by simp[l]
   have hgh:=Ghost.takeF (s:=(u.fin k ⟨e,re.size,[]++rows,1⟩).putR d (.als k (g+1) 0 ([]++rows).length)) (k:=k) (g:=g+1) (t:=d) (n:=rows.length) (kd:=1) (sz:=re.size) (T:=e) (rows:=rows) (enc:=Subtype.val) l (by show(u.fin k _).own k=_;rw[tB,hg];rfl) (by show(bif Nat.beq d d then _ else _)=_;simp) hl.symm O fun x=>x.2;rw[hl]at hgh;have h2:=hgh C a' w' hG.x h';have hst:((((u.fin k ⟨e,re.size,[]++rows,1⟩).putR d (.als k (g+1) 0 ([]++rows).length)).setOwn k (g+1+1) none).putR d (.fsl rows))=((u.setOwn k (g+2) none).putR d (.fsl rows)):=by
    refine St.ext' (funext fun t=>?_) (funext fun q=>?_)
    .show(bif Nat.beq t d then _ else(bif Nat.beq t d then _ else u.reg t))=(bif Nat.beq t d then _ else u.reg t);cases Nat.beq t d<;>rfl
    .by_cases hq:q=k
     .subst hq;show(St.setOwn _ q (g+1+1) none).own q=(St.setOwn _ q (g+2) none).own q;rw[ai,ai]
     .show(St.setOwn _ k (g+1+1) none).own q=(St.setOwn _ k (g+2) none).own q;rw[aB hq,aB hq];exact aB hq
   rwa [hst]at h2
 refine .any (key s O fun _ _=>rfl) fun u hu he=>⟨_,key u hu he,?_,fun t ht=>?_⟩
 .show(St.setOwn _ k (g+2) none).own k=(St.setOwn _ k (g+2) none).own k;rw[ai,ai]
 .rw[hd]at ht;cases ht;show(bif Nat.beq d d then _ else _)=(bif Nat.beq d d then _ else _);simp
theorem Loc.idx {o:Oper}{T e:TypeId}{r re:LRow}{x ix:Operand}{d k g i m n:Nat}{kk:IntKind}{c:Cont}(ho:o.op = .indexAddr T x ix)(hd:o.dst=some d)(hr:L T=some r)(hs:r.sh = .sl e)(hre:L e=some re)
  (hx:s.ev x = .als k g i m) (hown:s.own k=(g,some c)) (hsz:c.sz=re.size) (hix:s.ev ix = .int kk (n:Int)) (hlt:n<m):Loc P L s o k (s.putR d (.ptr k g (i+n) 0)):=by
 have key:∀u:St,u.own k=s.own k->(∀z∈o.op.operands,u.ev z=s.ev z)->vP P L u o k (u.putR d (.ptr k g (i+n) 0)):=fun u hu he=>by
  refine⟨fun k' hk=>rfl,fun t ht=>?_,fun C a w K Q hG h hN hK=>?_⟩
  .show(bif Nat.beq t d then _ else u.reg t)=_;rw[aX (fun e=>ht (by rw[e];exact hd))];rfl
  .have hx':u.ev x = .als k g i m:=by rw[he x (by rw[ho];simp[Op.operands,Call.operands])];exact hx
   have hy':u.ev ix = .int kk (n:Int):=by rw[he ix (by rw[ho];simp[Op.operands])];exact hix
   have:=QOp.idxA (P:=P) (L:=L) (s:=u) (o:=o) ho hr hs hre hx' (by rw[hu];exact hown) hsz hy' J J;rw[Int.toNat_natCast]at this;refine this.wp hG h hN fun a' w' h'=>hK a' w' ?_;rw[hd]at h';exact h'
 refine .any (key s O fun _ _=>rfl) fun u hu he=>⟨_,key u hu he,hu,fun t ht=>?_⟩;rw[hd]at ht;cases ht;show(bif Nat.beq d d then _ else _)=(bif Nat.beq d d then _ else _);simp
theorem Loc.look {o:Oper}{d k:Nat}{v:PV}(hd:o.dst=some d)(h:∀u:St,u.own k=s.own k->(∀z∈o.op.operands,u.ev z=s.ev z)->QOp P L u o v):Loc P L s o k (s.putR d v):=by
 have key:∀u:St,u.own k=s.own k->(∀z∈o.op.operands,u.ev z=s.ev z)->vP P L u o k (u.putR d v):=fun u hu he=>by
  refine⟨fun k' hk=>rfl,fun t ht=>?_,fun C a w K Q hG hs hN hK=>?_⟩
  .show(bif Nat.beq t d then _ else u.reg t)=_;rw[aX (fun e=>ht (by rw[e];exact hd))];rfl
  .refine(h u hu he).wp hG hs hN fun a' w' h'=>hK a' w' ?_;rw[hd]at h';exact h'
 refine .any (key s O fun _ _=>rfl) fun u hu he=>⟨_,key u hu he,hu,fun t ht=>?_⟩;rw[hd]at ht;cases ht;show(bif Nat.beq d d then _ else _)=(bif Nat.beq d d then _ else _);simp
end
section
variable {P:Program}{L:Lay}{ops:Array Oper}{s:St}{K:St->Prop}{rest:List Oper}
theorem Ga {Z:List Nat}{lc:Nat->Option Nat}{i d k gn ii j f off:Nat}{T ft ty:TypeId}{r rf:LRow}{fs:List (Nat × TypeId)}{x:Operand}{c:Cont}{pos:String}{af:Array Edge}{g:Option (Nat × Bool)}(hg:gB ops s g=some true)(hc:lc i=some k)(hr:L T=some r)(hs:r.sh = .st fs)(hf:fs[f]? = some (off,ft))(hrf:L ft=some rf)(hsz:Nat.blt 0 rf.size=true)
  (hx:s.ev x = .ptr k gn ii j) (hown:s.own k=(gn,some c)) (hlt:Nat.blt (j+off) c.sz=true)
  (h:P5 P L ops Z lc K (i+1) rest (s.putR d (.ptr k gn ii (j+off)))):P5 P L ops Z lc K i (⟨some d,.fieldAddr T x f,ty,pos,af,g⟩::rest) s:=by
 refine⟨_,?_,h⟩;rw[hc];refine Step5.loc (o:=⟨some d,.fieldAddr T x f,ty,pos,af,g⟩) (cQ hg) (.look O fun u hu he=>?_);refine .v (Cd:=True) ?_ trivial;have hx':u.ev x = .ptr k gn ii j:=by rw[he x (by simp[Op.operands])];exact hx
 simp only[qv,hr,hs,hf,hrf,hsz,cond_true,hx',hu,hown,hlt]
theorem FT {Z:List Nat}{lc:Nat->Option Nat}{i d:Nat}{T e ty:TypeId}{r re:LRow}{pos:String}{af:Array Edge}{g:Option (Nat × Bool)}(hg:gB ops s g=some true)(hc:lc i=some d)(hr:L T=some r)(hs:r.sh = .sl e)(hre:L e=some re)(hz:re.zero.isSome=true)(hsz:Nat.blt 0 re.size=true)
  (h:P5 P L ops Z lc K (i+1) rest ((s.fin d ⟨e,re.size,[],0⟩).putR d (.als d ((s.own d).1+1) 0 0))):P5 P L ops Z lc K i (⟨some d,.buildSlice T 0 #[],ty,pos,af,g⟩::rest) s:=by
 refine⟨_,?_,h⟩;rw[hc];exact Step5.loc (o:=⟨some d,.buildSlice T 0 #[],ty,pos,af,g⟩) (cQ hg) (.slit0 O O hr hs hre hz (by simpa using hsz))
theorem FU {Z:List Nat}{lc:Nat->Option Nat}{i d k gn:Nat}{T e ty:TypeId}{r re:LRow}{x y:Operand}{rows:List (List PV)}{pos:String}{af:Array Edge}{g:Option (Nat × Bool)}(hg:gB ops s g=some true)(hc:lc i=some k)(hr:L T=some r)(hs:r.sh = .sl e)(hre:L e=some re)(hz:re.zero.isSome=true)(hsz:Nat.blt 0 re.size=true)
  (hx:s.ev x = .als k gn 0 0) (hown:s.own k=(gn,some ⟨e,re.size,[],0⟩)) (hy:s.ev y = .sl rows) (hpl:rows.all (·.all eO)=true) (hlen:∀row∈rows,row.length=re.size) (hb:rows.length*re.bytes<=140737488355328) (h63:rows.length<=9223372036854775807)
  (h:P5 P L ops Z lc K (i+1) rest ((s.setOwn k (gn+2) none).putR d (.fsl rows))):P5 P L ops Z lc K i (⟨some d,.call ⟨.builtin .append,#[x,y],#[T,T]⟩,ty,pos,af,g⟩::rest) s:=by
 refine⟨_,?_,h⟩;rw[hc];exact Step5.loc (o:=⟨some d,.call ⟨.builtin .append,#[x,y],#[T,T]⟩,ty,pos,af,g⟩) (cQ hg) (.appG O O hr hs hre hz (by simpa using hsz) hx hown hy hpl hlen hb h63)
theorem Gb {Z:List Nat}{lc:Nat->Option Nat}{i d k gn ii m n:Nat}{kk:IntKind}{T e ty:TypeId}{r re:LRow}{x ix:Operand}{c:Cont}{pos:String}{af:Array Edge}{g:Option (Nat × Bool)}(hg:gB ops s g=some true)(hc:lc i=some k)(hr:L T=some r)(hs:r.sh = .sl e)(hre:L e=some re)
  (hx:s.ev x = .als k gn ii m) (hown:s.own k=(gn,some c)) (hsz:c.sz=re.size) (hix:s.ev ix = .int kk (n:Int)) (hlt:n<m)
  (h:P5 P L ops Z lc K (i+1) rest (s.putR d (.ptr k gn (ii+n) 0))):P5 P L ops Z lc K i (⟨some d,.indexAddr T x ix,ty,pos,af,g⟩::rest) s:=by
 refine⟨_,?_,h⟩;rw[hc];exact Step5.loc (o:=⟨some d,.indexAddr T x ix,ty,pos,af,g⟩) (cQ hg) (.idx O O hr hs hre hx hown hsz hix hlt)
end
end Go.Pv
set_option maxHeartbeats 2000000
namespace Go.Pv
attribute [local irreducible] PWP POps PQuiet PSem aH au aj ao
open Go.Proofs
set_option maxRecDepth 20000 in
theorem q9 (d:DKR)(h1:d.s.st.length<=1000)(h2:d.s.it.length<=1000)(h3:d.bl.length<=1000)(h4:d.zn.length<=1000)(hL:∀t∈d.s.st,t.L.length<=1000/\t.H0.length<=1000)(hS:∀b∈d.bl,b.st.sz 1000):Ret Tryz.prog .shared 18 [.agg (c9 d)] (.agg (c9 d)):=by
 have hms:(d.s.st.map eT).length=d.s.st.length:=ah;have hmb:(d.bl.map eBk).length=d.bl.length:=ah;obtain⟨⟨nm,len,st,⟨ln,lm,lx,lz,lf⟩,it⟩,den,bl,zn,gm,oh⟩:=d;simp only at *
 refine Ret.of_pwp layOk mixed Go.Proofs.Tryz.func18 O Y O O ?_;refine H ?_;refine aE (aS 1 O O O O O O O O O O O aI O ?_);refine H ?_;refine aE (bi 1 O O O O O O O O O O O aI (by intro row hr;obtain⟨p,_,rfl⟩:=List.mem_map.1 hr;rfl) O O aK aK ?_)
 (repeat ((fail_if_success (with_reducible refine aR 4 ?_));refine cu O ?_))
 refine bq [(1,.ptr 1 1 0 0),(2,.ptr 2 1 0 0),(3,.ptr 3 1 0 0),(4,I ((0:Nat):Int))] [(1,1,⟨31,14,[[.str nm,I len,.sl (st.map eT),.str ln,I lm,I lx,I lz,I lf,.sl (it.map eLd),I den,.sl (bl.map eBk),.sl (zn.map fW),I gm,I oh]],2⟩),(2,1,⟨31,14,[[.str [],I 0,.nil,.str [],I 0,I 0,I 0,I 0,.nil,I 0,.nil,.nil,I 0,I 0]],2⟩),(3,1,⟨31,14,[[.str nm,I len,.nil,.str ln,I lm,I lx,I lz,I lf,.als 9 2 0 (it.map eLd).length,I den,.sl (bl.map eBk),.sl (zn.map fW),I gm,I oh]],2⟩),(9,2,⟨24,5,it.map eLd,1⟩)] ⟨O,O,O,O,O,O,O,O,trivial⟩ ?_;intro s0;refine ar (Ghost.freezeD (k:=9) (k0:=3) (i:=0) (j:=8) (row:=[.str nm,I len,.nil,.str ln,I lm,I lx,I lz,I lf,.als 9 2 0 (it.map eLd).length,I den,.sl (bl.map eBk),.sl (zn.map fW),I gm,I oh]) O O O O O O O O) ?_;refine ar (Ghost.nilcell (k:=400) (k0:=3) (i:=0) (j:=2) (row:=[.str nm,I len,.nil,.str ln,I lm,I lx,I lz,I lf,.sl (it.map eLd),I den,.sl (bl.map eBk),.sl (zn.map fW),I gm,I oh]) 130 4 1 O O O O O O O) ?_;have hg4:∃g4,(s0.own 400).1+1=g4:=⟨_,O⟩;obtain⟨g4,hg4⟩:=hg4;refine am (fun i:Nat=>i<=st.length) (fun i=>[(1,.ptr 1 1 0 0),(2,.ptr 2 1 0 0),(3,.ptr 3 1 0 0),(4,I (i:Nat))]) (fun i=>[(1,1,⟨31,14,[[.str nm,I len,.sl (st.map eT),.str ln,I lm,I lx,I lz,I lf,.sl (it.map eLd),I den,.sl (bl.map eBk),.sl (zn.map fW),I gm,I oh]],2⟩),(2,1,⟨31,14,[[.str [],I 0,.nil,.str [],I 0,I 0,I 0,I 0,.nil,I 0,.nil,.nil,I 0,I 0]],2⟩),(3,1,⟨31,14,[[.str nm,I len,.als 400 (g4+i) 0 ((st.take i).map eT).length,.str ln,I lm,I lx,I lz,I lf,.sl (it.map eLd),I den,.sl (bl.map eBk),.sl (zn.map fW),I gm,I oh]],2⟩),(400,g4+i,⟨130,4,(st.take i).map eT,1⟩)]) (fun i=>st.length-i) 0 (Nat.zero_le _) ⟨O,O,O,O,O,O,by rw[<-hg4];rfl,by rw[<-hg4];rfl,trivial⟩ ?_;clear hg4;intro i s1 hi;refine H ?_;rw[hms];refine aV O ?_ ?_<;>intro h
 .have hlt:i<st.length:=by have:=ax h;omega
  clear h;obtain⟨t,hx⟩:=aG hlt;obtain⟨hl1,hl2⟩:=hL t (aZ hx);have e1:=(kV t.L J).shared_of_fresh;have e2:=(kV t.H0 J).shared_of_fresh;have hrow:(st.take (i+1)).map eT=(st.take i).map eT++[[I t.x,I t.w,.sl (t.L.map eN),.sl (t.H0.map eN)]]:=by rw[bk hx,List.map_append];rfl
  have hw:=c_ i;have htl:((st.take i).map eT).length<=1000:=by rw[List.length_map,List.length_take];omega
  have hb4:g4+(i+1)=g4+i+1:=O;generalize (st.take i).map eT=R at *
  refine aJ hx ?_
  (repeat ((fail_if_success (with_reducible refine aR 7 ?_));refine cu O ?_))
  refine gv [46,400] [3] 16 [14,15,16,17,18] br br ?_;refine G e1 ?_;refine G e2 ?_;refine H ?_;refine i8 O O O (aS 1 O O O O O O O O O O O aI O ⟨dj O,?_⟩);refine H ?_;refine i8 O O O (bi 1 O O O O O O O O O O O aI (by intro row hr;first|(simp at hr;subst hr;rfl)|(simp at hr;obtain⟨_,_,rfl⟩:=hr;rfl)|simp at hr) O O aK aK ⟨dj O,?_⟩);refine H ?_;refine⟨i+1,hlt,J,O,O,O,congrArg I hw,O,O,?_,?_,trivial⟩
  .rw[hrow,hb4];rfl
  .rw[hrow,hb4];rfl
 have hie:i=st.length:=by have:=aF h;omega
 clear h;subst hie;rw[List.take_length];refine ar (Ghost.freezeD (k:=400) (k0:=3) (i:=0) (j:=2) (row:=[.str nm,I len,.als 400 (g4+st.length) 0 (st.map eT).length,.str ln,I lm,I lx,I lz,I lf,.sl (it.map eLd),I den,.sl (bl.map eBk),.sl (zn.map fW),I gm,I oh]) O O O O O O O O) ?_;refine H ?_;refine aE (aS 1 O O O O O O O O O O O aI O ?_);refine H ?_;refine aE (bi 1 O O O O O O O O O O O aI (by intro row hr;obtain⟨p,_,rfl⟩:=List.mem_map.1 hr;rfl) O O aK aK ?_)
 (repeat ((fail_if_success (with_reducible refine aR 10 ?_));refine cu O ?_))
 refine bq [(1,.ptr 1 1 0 0),(2,.ptr 2 1 0 0),(3,.ptr 3 1 0 0),(6,I ((0:Nat):Int))] [(1,1,⟨31,14,[[.str nm,I len,.sl (st.map eT),.str ln,I lm,I lx,I lz,I lf,.sl (it.map eLd),I den,.sl (bl.map eBk),.sl (zn.map fW),I gm,I oh]],2⟩),(2,1,⟨31,14,[[.str [],I 0,.nil,.str [],I 0,I 0,I 0,I 0,.nil,I 0,.nil,.nil,I 0,I 0]],2⟩),(3,1,⟨31,14,[[.str nm,I len,.sl (st.map eT),.str ln,I lm,I lx,I lz,I lf,.sl (it.map eLd),I den,.als 50 ((s1.own 50).1+2) 0 (bl.map eBk).length,.sl (zn.map fW),I gm,I oh]],2⟩),(50,(s1.own 50).1+2,⟨108,11,bl.map eBk,1⟩)] ⟨O,O,O,O,O,O,O,O,trivial⟩ ?_;generalize (s1.own 50).1+2=g5;intro s2;refine am (fun i:Nat=>i<=bl.length) (fun i=>[(1,.ptr 1 1 0 0),(2,.ptr 2 1 0 0),(3,.ptr 3 1 0 0),(6,I (i:Nat))]) (fun _=>[(1,1,⟨31,14,[[.str nm,I len,.sl (st.map eT),.str ln,I lm,I lx,I lz,I lf,.sl (it.map eLd),I den,.sl (bl.map eBk),.sl (zn.map fW),I gm,I oh]],2⟩),(2,1,⟨31,14,[[.str [],I 0,.nil,.str [],I 0,I 0,I 0,I 0,.nil,I 0,.nil,.nil,I 0,I 0]],2⟩),(3,1,⟨31,14,[[.str nm,I len,.sl (st.map eT),.str ln,I lm,I lx,I lz,I lf,.sl (it.map eLd),I den,.als 50 g5 0 (bl.map eBk).length,.sl (zn.map fW),I gm,I oh]],2⟩),(50,g5,⟨108,11,bl.map eBk,1⟩)]) (fun i=>bl.length-i) 0 (Nat.zero_le _) ⟨O,O,O,O,O,O,O,O,trivial⟩ ?_;intro i s3 hi;refine D ?_ ?_<;>intro h
 .have hlt:i<bl.length:=by have:=ax h;simp only[hmb]at this;omega
  clear h;obtain⟨b,hx⟩:=aG hlt;obtain⟨hb1,hb2⟩:=hS b (aZ hx);have hrl:(bl.map eBk)[i]? = some [I b.x,I b.z,I b.hf,I b.ht,I b.wd,.bool b.st.n.neg,.sl (b.st.n.l.map eU),.bool b.st.d.neg,.sl (b.st.d.l.map eU),I b.lim,.bool b.side]:=by rw[List.getElem?_map,hx];rfl
  have hset:(bl.map eBk).set i [I b.x,I b.z,I b.hf,I b.ht,I b.wd,.bool b.st.n.neg,.sl (b.st.n.l.map eU),.bool b.st.d.neg,.sl (b.st.d.l.map eU),I b.lim,.bool b.side]=bl.map eBk:=by
   refine List.ext_getElem? fun j=>?_;rcases Nat.decEq i j with hne|rfl
   .rw[List.getElem?_set_ne hne]
   .rw[List.getElem?_set_self (by rw[List.length_map];exact hlt),hrl]
  have hw:=c_ i;have hpl:∀l:List UInt16,(l.map eU).all (·.all eO)=true:=fun l=>List.all_eq_true.2 fun r hr=>by obtain⟨c,_,rfl⟩:=List.mem_map.1 hr;rfl
  have hle:∀l:List UInt16,∀r∈l.map eU,r.length=1:=fun l r hr=>by obtain⟨c,_,rfl⟩:=List.mem_map.1 hr;rfl
  have hn1:(b.st.n.l.map eU).length=b.st.n.l.length:=ah;have hn2:(b.st.d.l.map eU).length=b.st.d.l.length:=ah;refine aJ hx ?_
  (repeat ((fail_if_success (with_reducible refine aR 13 ?_));refine cu O ?_))
  refine sj [(6,74),(10,74),(15,83),(19,83),(22,50),(23,50),(24,50)] br br ?_;refine H ?_;refine FT O O O O O O O ?_;refine H ?_;refine FU O O O O O O O O O O (hpl _) (hle _) (by rw[hn1];show _*2<=_;omega) (by rw[hn1];omega) ?_;refine H ?_;refine FT O O O O O O O ?_;refine H ?_;refine FU O O O O O O O O O O (hpl _) (hle _) (by rw[hn2];show _*2<=_;omega) (by rw[hn2];omega) ?_;refine H ?_;refine Gb (n:=i) O O O O O O O O O (by rw[hmb];exact hlt) ?_;rw[Nat.zero_add i];refine Ga O O O O O O O O O O ?_;refine FV 1 O O O O O hrl (fun _=>rfl) aI O O O O ?_;refine H ?_;refine⟨i+1,hlt,J,O,O,O,congrArg I hw,O,O,O,?_,trivial⟩;refine Eq.trans (b:=(g5,some (Cont.mk 108 11 ((bl.map eBk).set i [I b.x,I b.z,I b.hf,I b.ht,I b.wd,.bool b.st.n.neg,.sl (b.st.n.l.map eU),.bool b.st.d.neg,.sl (b.st.d.l.map eU),I b.lim,.bool b.side]) 1))) O ?_;rw[hset]
 have hie:i=bl.length:=by have:=aF h;simp only[hmb]at this;omega
 clear h;subst hie;refine ar (Ghost.freezeD (k:=50) (k0:=3) (i:=0) (j:=10) (row:=[.str nm,I len,.sl (st.map eT),.str ln,I lm,I lx,I lz,I lf,.sl (it.map eLd),I den,.als 50 g5 0 (bl.map eBk).length,.sl (zn.map fW),I gm,I oh]) O O O O O O O O) ?_;refine H ?_;refine aE (aS 1 O O O O O O O O O O O aI O ?_);refine H ?_;refine aE (bi 1 O O O O O O O O O O O aI (by intro row hr;obtain⟨p,_,rfl⟩:=List.mem_map.1 hr;rfl) O O aK aK ?_)
 (repeat ((fail_if_success (with_reducible refine aR 15 ?_));refine cu O ?_))
 refine bq [(1,.ptr 1 1 0 0),(2,.ptr 2 1 0 0),(3,.ptr 3 1 0 0)] [(1,1,⟨31,14,[[.str nm,I len,.sl (st.map eT),.str ln,I lm,I lx,I lz,I lf,.sl (it.map eLd),I den,.sl (bl.map eBk),.sl (zn.map fW),I gm,I oh]],2⟩),(2,1,⟨31,14,[[.str [],I 0,.nil,.str [],I 0,I 0,I 0,I 0,.nil,I 0,.nil,.nil,I 0,I 0]],2⟩),(3,1,⟨31,14,[[.str nm,I len,.sl (st.map eT),.str ln,I lm,I lx,I lz,I lf,.sl (it.map eLd),I den,.sl (bl.map eBk),.als 92 ((s3.own 92).1+2) 0 (zn.map fW).length,I gm,I oh]],2⟩),(92,(s3.own 92).1+2,⟨132,4,zn.map fW,1⟩)] ⟨O,O,O,O,O,O,O,trivial⟩ ?_;generalize (s3.own 92).1+2=g9;intro s4;refine ar (Ghost.freezeD (k:=92) (k0:=3) (i:=0) (j:=11) (row:=[.str nm,I len,.sl (st.map eT),.str ln,I lm,I lx,I lz,I lf,.sl (it.map eLd),I den,.sl (bl.map eBk),.als 92 g9 0 (zn.map fW).length,I gm,I oh]) O O O O O O O O) ?_;exact bL
def n8:List ST:=[pe 5000,pe 15000]
def qt:List BKR:=[qM 5000,qM 15000]
set_option maxRecDepth 20000 in
set_option maxHeartbeats 16000000 in
theorem zH:Ret Tryz.prog .shared 63 [] (.agg (c9 fZ)):=by
 have w:=fS 1000 ⟨Y,Y⟩;have hB:∀i:Nat,i<2->(qt.take (i+1)).map eBk=(qt.take i).map eBk++[[I (if i=0 then 5000 else 15000),I 0,I 500,I 1500,I 1000]++eR (ofQ ((1000:Int):Rat))++[I 200000,.bool false]]:=fun i hi=>by
  obtain rfl|rfl:i=0\/i=1:=J
  .rfl
  .rfl
 have hT:∀i:Nat,i<2->(n8.take (i+1)).map eT=(n8.take i).map eT++[[I (if i=0 then 5000 else 15000),I 10000,.sl [[I 0],[I 3000]],.sl [[I 4000]]]]:=fun i hi=>by
  obtain rfl|rfl:i=0\/i=1:=J
  .rfl
  .rfl
 have hlB:∀i:Nat,((qt.take i).map eBk).length<=2:=fun i=>by rw[List.length_map,List.length_take];exact Nat.min_le_right _ _
 have hlT:∀i:Nat,((n8.take i).map eT).length<=2:=fun i=>by rw[List.length_map,List.length_take];exact Nat.min_le_right _ _
 have hend:c9 fZ=[.str [82,97,102,116],I 20000,.sl ((n8.take 2).map eT),.str [76,105,103,104,116],I 320000,I 10000,I 2000,I 0,.sl [],I 1000,.sl ((qt.take 2).map eBk),.sl [],I 150,I 5000]:=O;rw[hend];clear hend;generalize ofQ ((1000:Int):Rat)=W at *
 suffices hz:Ret Tryz.prog .shared 63 [] (.agg [.str [82,97,102,116],I 20000,.sl ((n8.take 2).map eT),.str [76,105,103,104,116],I 320000,I 10000,I 2000,I 0,.nil,I 1000,.sl ((qt.take 2).map eBk),.nil,I 150,I 5000]) from
  hz.weak .nil (WeakL.agg (.cons (.rfl _) (.cons (.rfl _) (.cons (.rfl _) (.cons (.rfl _) (.cons (.rfl _) (.cons (.rfl _) (.cons (.rfl _) (.cons (.rfl _) (.cons .nil (.cons (.rfl _) (.cons (.rfl _) (.cons .nil (WeakL.refl _))))))))))))))
 refine Ret.of_pwp layOk mixed Go.Proofs.Tryz.func63 O Y O O ?_
 (repeat ((fail_if_success (with_reducible refine aR 3 ?_));refine cu O ?_))
 refine ar (Ghost.nilreg (k:=1002) (t:=2) 108 11 1 O O) ?_;refine ar (Ghost.nilcell (k:=400) (k0:=1) (i:=0) (j:=2) (row:=[.str [82,97,102,116],I 20000,.nil,.str [76,105,103,104,116],I 320000,I 10000,I 2000,I 0,.nil]) 130 4 1 O O O O O O O) ?_;refine H ?_;refine bq [(0,.ptr 0 1 0 0),(1,.ptr 1 1 0 0),(2,.als 1002 1 0 0),(3,I ((0:Nat):Int))] [(0,1,⟨31,14,[[.str [],I 0,.nil,.str [],I 0,I 0,I 0,I 0,.nil,I 0,.nil,.nil,I 0,I 0]],2⟩),(1,1,⟨27,9,[[.str [82,97,102,116],I 20000,.als 400 1 0 0,.str [76,105,103,104,116],I 320000,I 10000,I 2000,I 0,.nil]],2⟩),(400,1,⟨130,4,[],1⟩),(1002,1,⟨108,11,[],1⟩)] ⟨O,O,O,O,O,O,O,O,trivial⟩ ?_;intro s0;generalize ([82,97,102,116]:List UInt8)=S1;generalize ([76,105,103,104,116]:List UInt8)=S2;refine am (fun i:Nat=>i<=2) (fun i=>[(0,.ptr 0 1 0 0),(1,.ptr 1 1 0 0),(2,.als 1002 (1+i) 0 ((qt.take i).map eBk).length),(3,I (i:Nat))])
  (fun i=>[(0,1,⟨31,14,[[.str [],I 0,.nil,.str [],I 0,I 0,I 0,I 0,.nil,I 0,.nil,.nil,I 0,I 0]],2⟩),(1,1,⟨27,9,[[.str S1,I 20000,.als 400 (1+i) 0 ((n8.take i).map eT).length,.str S2,I 320000,I 10000,I 2000,I 0,.nil]],2⟩),(400,1+i,⟨130,4,(n8.take i).map eT,1⟩),(1002,1+i,⟨108,11,(qt.take i).map eBk,1⟩)]) (fun i=>2-i) 0 (Nat.zero_le _)
  ⟨O,O,O,O,O,O,O,O,trivial⟩ ?_
 intro i s hi;refine D ?_ ?_<;>intro h
 .have hlt:i<2:=by have:=ax h;omega
  clear h;have hBi:=hB i hlt;have hTi:=hT i hlt;have hbi:=hlB i;have hti:=hlT i;have hw:=c_ i;have hx:IntKind.i64.wrap (5000+IntKind.i64.wrap (10000*((i:Nat):Int)))=if i=0 then 5000 else 15000:=by
   obtain rfl|rfl:i=0\/i=1:=J
   .rfl
   .rfl
  have h1:1+(i+1)=1+i+1:=O;generalize (qt.take i).map eBk=B at *
  generalize (n8.take i).map eT=T at *
  generalize (if i=0 then(5000:Int) else 15000)=X at *
  refine H ?_;rw[hx];refine H ?_;refine bI O O (cm O O O O O O O O O O aI O) ?_;refine H ?_;refine bI O O (cm O O O O O O O O O O aI O) ?_;refine H ?_;refine aE (aS 1 O O O O O O O O O O O aI O ?_);refine H ?_;refine aE (bi 1 O O O O O O O O O O O aI (by intro row hr;first|(simp at hr;subst hr;rfl)|simp at hr) O O aK aK ?_);refine G w ?_;refine H ?_;refine aE (aS 1 O O O O O O O O O O O aI O ?_);refine H ?_;refine aE (bi 1 O O O O O O O O O O O aI (by intro row hr;first|(simp at hr;subst hr;rfl)|simp at hr) O O aK aK ?_);refine H ?_;refine⟨i+1,hlt,J,O,O,?_,congrArg I hw,O,?_,?_,?_,trivial⟩
  .rw[hBi];rfl
  .rw[hTi];rfl
  .rw[hTi];rfl
  .rw[hBi];rfl
 have hie:i=2:=by have:=aF h;omega
 clear h;subst hie;refine ar (Ghost.freezeD (k:=400) (k0:=1) (i:=0) (j:=2) (row:=[.str S1,I 20000,.als 400 (1+2) 0 ((n8.take 2).map eT).length,.str S2,I 320000,I 10000,I 2000,I 0,.nil]) O O O O O O O O) ?_;refine ar (Ghost.takeD (k:=1002) (t:=2) O O O) ?_;generalize (qt.take 2).map eBk=B at *
 generalize (n8.take 2).map eT=T at *
 exact bL
theorem E3 {x:Int}(h:x=5000\/x=15000):BkIn (qM x)/\(qM x).st.sz 12:=by
 refine⟨lw (qs (by rcases h with rfl|rfl<;>decide)),jD ⟨Y,Y⟩⟩
theorem nt:fZ.Bl:=by
 obtain⟨h1,h2⟩:=lG (s:=fZ.s) tU;refine⟨h1,h2,fun b hb=>?_,Y⟩;simp only[fZ,List.mem_cons,List.not_mem_nil,or_false]at hb;rcases hb with rfl|rfl
 .exact E3 (.inl O)
 .exact E3 (.inr O)
theorem zO:fZ.Ok:=⟨⟨mn,Y,Y⟩,fun b hb=>(nt.b b hb).2⟩
theorem Ck {x:Int}(h:x=5000\/x=15000):jq fZ.s.st (qM x)=eo x:=by
 have hb:cU fZ.s.st (qM x)=0:=by
  rw[cU];show(cz x 0 [pe 5000,pe 15000]).getD 0=0;rw[qr h];rfl
 have hs:ee (qM x)=((1000:Int):Rat):=by
  rw[ee,if_neg (by show ¬false=true;decide)];show(ofQ ((1000:Int):Rat)).val=_;rw[ofQ_val]
 rw[jq,hb,hs];rfl
theorem yc:bG fZ.s.st fZ.bl=[eo 5000,eo 15000]:=by
 show [jq fZ.s.st (qM 5000),jq fZ.s.st (qM 15000)]=_;rw[Ck (.inl O),Ck (.inr O)]
theorem um:cy 1000 nU.st=[du 5000,du 15000]:=by
 show [lI 1000 (pe 5000),lI 1000 (pe 15000)]=_;rw[vC,vC]
theorem pC:im fZ 0=r2.l:=by
 rw[im,yc];show [eo 5000,eo 15000]++(cy 1000 nU.st).map (n3 0)=_;rw[um];rfl
theorem DH:Ret Tryz.prog .shared 94 [.agg (ep nU),I 1000] (.tup [.sl ((cy 1000 nU.st).map eS),I 0]) :=
 l8 nU mn 1000 Fn Y Y nt.st nt.n
theorem vM (l:List SR)(B:BR)(h1:wB nU l=B)(h2:pB nU l=B)(hl:B.Lim)(h0:dw B=0)(h12:l.length<=1000)(hM:∀x∈l,x.k.M.length<=1000):Ret Tryz.prog .shared 95 [.agg (ep nU),.sl (l.map eS)] (.tup [.agg (eB B),I 0]):=by
 have h:=AL nU mn tU l (by rw[h1];exact hl) (by rw[h2];exact hl) h12 hM;rw[h2,h0,if_pos O]at h;exact h
theorem Bc:Ret Tryz.prog .shared 31 [.agg (ep nU),I 1000] (.tup [.agg (kY ⟨ofQ ((2000:Int):Rat),ofQ 0⟩ [ofQ 160000,ofQ 160000]),.agg (eR RR.zero++eR RR.zero),I 0]):=by
 have hw:=vM (cy 1000 nU.st) r1 Ey (by rw[Ez];exact Ey) Cx.lim zF (by rw[um];decide) (fun x hx=>by
  rw[um]at hx;simp only[List.mem_cons,List.not_mem_nil,or_false]at hx
  rcases hx with rfl|rfl<;>(show 2<=1000;decide))
 have h9:=Dr.weak (WeakL.refl _) (WeakL.tup (.cons (.rfl _) (.cons mw.agg (WeakL.refl _))));exact yF nU 1000 r1 (cy 1000 nU.st) 0 ⟨⟨ofQ ((2000:Int):Rat),ofQ 0⟩,[ofQ 160000,ofQ 160000],zA,0⟩ DH hw (fun _=>h9) (fun h=>absurd O h)
theorem FJ {z:Int}(h:i64 z):Va ⟨ofQ (z:Rat),ofQ 0⟩ (z:Rat) 0 4 4:=⟨Vq.ofQ (h:=⟨pU z h⟩),Vq.ofQ (h:=HQ.zero.mono Y)⟩
theorem BZ:Ret Tryz.prog .shared 30 [.agg (c9 fZ)] (.tup [.agg (eR (ofQ ((3500:Int):Rat))),I 0]):=by
 have h:=AG fZ zO zP nt Y (ofQ ((2000:Int):Rat)) (ofQ 0) RR.zero RR.zero [ofQ 160000,ofQ 160000] (ha:=FJ ⟨Y,Y⟩) Y Y Bc;rw[yc]at h;have hv:∀x:Int,dr ((2000:Int):Rat) 0 (eo x)=((3500:Int):Rat):=fun x=>by
  show(ofQ ((1500:Int):Rat)).val+(((2000:Int):Rat)+0*(x:Rat))=_;rw[ofQ_val,Rat.zero_mul,Rat.add_zero];decide +kernel
 have hm:fF ([eo 5000,eo 15000].map (dr ((2000:Int):Rat) 0))=((3500:Int):Rat):=by
  show fF [dr ((2000:Int):Rat) 0 (eo 5000),dr ((2000:Int):Rat) 0 (eo 15000)]=_;rw[hv,hv];decide +kernel
 rw[hm]at h;exact h
def BJ:List Rat:=[160000,160000,0,0]
def rfX:DQ:=⟨ofQ 0,⟨ofQ ((-1340:Int):Rat),ofQ 0⟩,[ofQ 160000,ofQ 160000],ofQ 320000,ofQ 0,DO,false,3⟩
theorem Dw:∀q∈BJ,hq q 100000:=fun q hm=>by
 have h4:hq q 4:=by
  simp only[BJ,List.mem_cons,List.not_mem_nil,or_false]at hm;rcases hm with rfl|rfl|rfl|rfl
  .exact pU 160000 ⟨Y,Y⟩
  .exact pU 160000 ⟨Y,Y⟩
  .exact pU 0 ⟨Y,Y⟩
  .exact pU 0 ⟨Y,Y⟩
 exact(HQ.mono (h:=⟨h4⟩) Y).ok
theorem Es:Fb fZ 0 ⟨ofQ ((-1340:Int):Rat),ofQ 0⟩ BJ DO=rfX:=by
 have h1:ca (BJ.take fZ.bl.length)=320000:=by decide +kernel
 have h2:ca (BJ.drop fZ.bl.length)=0:=by decide +kernel
 have h3:dy fZ.bl BJ=false:=O;have h4:jM fZ.bl (BJ.take fZ.bl.length) 0=3:=by decide +kernel
 rw[Fb,h1,h2,h3,h4];rfl
theorem Fh:Ret Tryz.prog .shared 21 [.agg (c9 fZ),.agg (eR (ofQ ((0:Int):Rat)))] (.tup [.agg (Ev rfX),I 0]):=by
 have v0:Vq (ofQ ((0:Int):Rat)) 0 4:=Vq.ofQ (h:=HQ.zero);have hs:=ji fZ nt ⟨Y,Y⟩ (show jA fZ.s fZ.d=0 from Fn) mn (ofQ ((0:Int):Rat)) (hv:=v0) Y;have hw:=vM (im fZ 0) r2 (by rw[pC,DM];rfl) (by rw[pC];exact Fs) Cz.lim zG (by rw[pC];decide) (fun x hx=>by
  rw[pC]at hx;simp only[r2,List.mem_cons,List.not_mem_nil,or_false]at hx;rcases hx with rfl|rfl|rfl|rfl
  .show 1<=1000;decide
  .show 1<=1000;decide
  .show 2<=1000;decide
  .show 2<=1000;decide)
 have h78:=Du.weak (WeakL.refl _) (WeakL.tup (.cons (.rfl _) (.cons mw.agg (WeakL.refl _))));have h2:ca (BJ.drop fZ.bl.length)=0:=by decide +kernel
 have h74:=As fZ (ofQ ((0:Int):Rat)) (hlv:=v0) Y hs r2 hw (ofQ ((-1340:Int):Rat)) (ofQ 0) RR.zero RR.zero BJ Dw Y Y h78 DO (z:=((-1340:Int):Rat)) (nz:=4) (hz:=Vq.ofQ (h:=⟨pU (-1340) ⟨Y,Y⟩⟩)) Y (fun h=>absurd h2 h) (fun _=>rfl);rw[Es]at h74;exact Ei fZ zO zP _ rfX 0 h74
set_option maxRecDepth 20000 in
theorem jp:Ret Tryz.prog .shared 15 [] (.bool true):=by
 have w0:=fS 0 ⟨Y,Y⟩;have w1:=fS 3500 ⟨Y,Y⟩;have ws:=AQ [160000,160000] ah (fun z hz=>by
  simp only[List.mem_cons,List.not_mem_nil,or_false]at hz
  rcases hz with rfl|rfl<;>exact⟨Y,Y⟩)
 have e1:=z7 (p:=((3500:Int):Rat)) ⟨pU 3500 ⟨Y,Y⟩⟩ Y;have e2:=nB [ofQ 160000,ofQ 160000] Y (fun x hx=>by
  simp only[List.mem_cons,List.not_mem_nil,or_false,or_self]at hx;subst hx;have:=gJ (pU 160000 ⟨Y,Y⟩)
  exact⟨Nat.le_trans this.1 Y,Nat.le_trans this.2 Y⟩)
 have r:=zH;have t:=BZ;have a:=Fh;rw[show B8 [160000,160000]=[ofQ 160000,ofQ 160000] from O]at ws;have hX:Ev rfX=eR (ofQ 0)++(eR (ofQ ((-1340:Int):Rat))++eR (ofQ 0))++[.sl ([ofQ 160000,ofQ 160000].map eR)]++eR (ofQ 320000)++eR (ofQ 0)++C7 DO++[.bool false,I 3]:=O;rw[hX]at a;clear hX;generalize fZ=D0 at *
 generalize ofQ ((0:Int):Rat)=W0 at *
 generalize ofQ ((3500:Int):Rat)=W1 at *
 generalize ofQ ((-1340:Int):Rat)=W2 at *
 generalize ofQ 320000=W3 at *
 generalize ofQ 0=W4 at *
 generalize [ofQ (160000:Rat),ofQ (160000:Rat)]=WF at *
 refine Ret.of_pwp layOk mixed Go.Proofs.Tryz.func15 O Y O O ?_;refine G r ?_;refine G t ?_;refine G r ?_;refine G w0 ?_;refine G a ?_;refine bU 23 [16,17,18,19,20,21,22,23,24,25,26,27,28,29,30,31,32,33,34,35,36,37,38] ?_;refine G w1 ?_;refine ap e1 ?_;refine H ?_;refine bI O O (cm O O O O O O O O O O aI O) ?_;refine G ws ?_;refine ap e2 ?_;exact fE
theorem FY {n:Nat}{cs:List PV}(h:iL lay.get (n+3) 130 cs):∃t:ST,cs=eT t/\t.L.length<=9223372036854775807/\t.H0.length<=9223372036854775807:=by
 obtain⟨parts,rfl,hl,hp⟩:=iM h O
 match parts,hl,hp with
 |[p0,p1,p2,p3],_,hp =>
  obtain⟨x,rfl,-⟩:=j8 (hp 0 _ p0 O O);obtain⟨w,rfl,-⟩:=j8 (hp 1 _ p1 O O);obtain⟨L,rfl,h1,-⟩:=ra (hp 2 _ p2 O O);obtain⟨H0,rfl,h2,-⟩:=ra (hp 3 _ p3 O O);exact⟨⟨x,w,L,H0⟩,O,h1,h2⟩
theorem FK {n:Nat}{cs:List PV}(h:iL lay.get (n+2) 24 cs):∃w:LR,cs=eLd w:=by
 obtain⟨parts,rfl,hl,hp⟩:=iM h O
 match parts,hl,hp with
 |[p0,p1,p2,p3,p4],_,hp =>
  obtain⟨a0,rfl⟩:=qH (hp 0 _ p0 O O) O;obtain⟨a1,rfl⟩:=cA (hp 1 _ p1 O O) O;obtain⟨a2,rfl⟩:=cA (hp 2 _ p2 O O) O;obtain⟨a3,rfl⟩:=cA (hp 3 _ p3 O O) O;obtain⟨a4,rfl⟩:=cA (hp 4 _ p4 O O) O;exact⟨⟨a0,a1,a2,a3,a4⟩,O⟩
theorem Eo {n:Nat}{cs:List PV}(h:iL lay.get (n+5) 27 cs):∃s:SHP,cs=ep s/\s.Len:=by
 obtain⟨parts,rfl,hl,hp⟩:=iM h O
 match parts,hl,hp with
 |[p0,p1,p2,p3,p4],_,hp =>
  obtain⟨nm,rfl⟩:=qH (hp 0 _ p0 O O) O;obtain⟨len,rfl,-⟩:=j8 (hp 1 _ p1 O O);obtain⟨r1,rfl,hl1,hr1⟩:=i4 (hp 2 _ p2 O O) O;obtain⟨w,rfl⟩:=FK (hp 3 _ p3 O O);obtain⟨r2,rfl,hl2,hr2⟩:=i4 (hp 4 _ p4 O O) O;obtain⟨st,rfl,hz⟩:=ez (f:=eT) (p:=fun t=>t.L.length<=9223372036854775807/\t.H0.length<=9223372036854775807) fun row hrow=>FY (hr1 row hrow);obtain⟨it,rfl,-⟩:=ez (f:=eLd) (p:=fun _=>True) fun row hrow=>by
   obtain⟨a,rfl⟩:=FK (hr2 row hrow);exact⟨a,O,trivial⟩
  rw[List.length_map]at hl1 hl2;exact⟨⟨nm,len,st,w,it⟩,by simp[ep,eN],rS hl1,rS hl2,hz⟩
theorem FX {n:Nat}{cs:List PV}(h:iL lay.get (n+5) 108 cs):∃b:BKR,cs=eBk b:=by
 obtain⟨parts,rfl,hl,hp⟩:=iM h O
 match parts,hl,hp with
 |[p0,p1,p2,p3,p4,p5,p6,p7],_,hp =>
  obtain⟨a0,rfl⟩:=cA (hp 0 _ p0 O O) O;obtain⟨a1,rfl⟩:=cA (hp 1 _ p1 O O) O;obtain⟨a2,rfl⟩:=cA (hp 2 _ p2 O O) O;obtain⟨a3,rfl⟩:=cA (hp 3 _ p3 O O) O;obtain⟨a4,rfl⟩:=cA (hp 4 _ p4 O O) O;obtain⟨a5,rfl⟩:=Co (hp 5 _ p5 O O);obtain⟨a6,rfl⟩:=cA (hp 6 _ p6 O O) O;obtain⟨a7,rfl⟩:=s6 (hp 7 _ p7 O O) O;exact⟨⟨a0,a1,a2,a3,a4,a5,a6,a7⟩,by simp[eBk,eR]⟩
theorem FZ {n:Nat}{cs:List PV}(h:iL lay.get (n+2) 132 cs):∃z:ZNR,cs=fW z:=by
 obtain⟨parts,rfl,hl,hp⟩:=iM h O
 match parts,hl,hp with
 |[p0,p1,p2,p3],_,hp =>
  obtain⟨a0,rfl⟩:=qH (hp 0 _ p0 O O) O;obtain⟨a1,rfl⟩:=cA (hp 1 _ p1 O O) O;obtain⟨a2,rfl⟩:=cA (hp 2 _ p2 O O) O;obtain⟨a3,rfl⟩:=cA (hp 3 _ p3 O O) O;exact⟨⟨a0,a1,a2,a3⟩,O⟩
theorem dkSh0 {c:PV}(h:argW lay.get 27 c):∃s:SHP,c = .agg (ep s)/\s.Len:=by
 obtain⟨cs,rfl,h⟩:∃cs,c = .agg cs/\iL lay.get 12 27 cs:=h;obtain⟨s,rfl,hs⟩:=Eo (n:=7) h;exact⟨s,O,hs⟩
theorem dkD0 {c:PV}(h:argW lay.get 31 c):∃d:DKR,c = .agg (c9 d)/\d.Len:=by
 obtain⟨cs,rfl,h⟩:∃cs,c = .agg cs/\iL lay.get 12 31 cs:=h;obtain⟨parts,rfl,hl,hp⟩:=iM h O
 match parts,hl,hp with
 |[p0,p1,p2,p3,p4,p5],_,hp =>
  obtain⟨s,rfl,hs⟩:=Eo (n:=6) (hp 0 _ p0 O O);obtain⟨a1,rfl⟩:=cA (hp 1 _ p1 O O) O;obtain⟨r2,rfl,hl2,hr2⟩:=i4 (hp 2 _ p2 O O) O;obtain⟨r3,rfl,hl3,hr3⟩:=i4 (hp 3 _ p3 O O) O;obtain⟨a4,rfl⟩:=cA (hp 4 _ p4 O O) O;obtain⟨a5,rfl⟩:=cA (hp 5 _ p5 O O) O;obtain⟨bl,rfl,-⟩:=ez (f:=eBk) (p:=fun _=>True) fun row hrow=>by
   obtain⟨a,rfl⟩:=FX (hr2 row hrow);exact⟨a,O,trivial⟩
  obtain⟨zn,rfl,-⟩:=ez (f:=fW) (p:=fun _=>True) fun row hrow=>by
   obtain⟨a,rfl⟩:=FZ (hr3 row hrow);exact⟨a,O,trivial⟩
  rw[List.length_map]at hl2 hl3;exact⟨⟨s,a1,bl,zn,a4,a5⟩,by simp[c9],hs,rS hl2,rS hl3⟩
structure SmD (d:DKR):Prop where
 st:d.s.st.length<=45
 it:d.s.it.length<=205
 bl:d.bl.length<=65
 zn:d.zn.length<=25
 L:∀t∈d.s.st,t.L.length<=40/\t.H0.length<=40
 b:∀b∈d.bl,b.st.sz 3
theorem CJ {d:DKR}(h:DD d=true):SmD d:=by
 simp only[DD,Fc,CK,DX,Bool.and_eq_true,Bool.not_eq_true',decide_eq_false_iff_not,List.all_eq_true]at h;obtain⟨⟨⟨⟨⟨h1,h2⟩,-⟩,h3⟩,h4⟩,-⟩:=h;refine⟨J,J,J,J,fun t ht=>?_,fun b hb=>?_⟩
 .have:=h2 t ht;simp only[xy,Bool.not_eq_true',decide_eq_false_iff_not]at this;omega
 .have:=h4 b hb;simp only[DW,DA,Bool.and_eq_true,decide_eq_true_eq]at this;exact this
theorem Az {x:RR}{n m:Nat}(h:x.sz n)(hm:n<=m):x.sz m:=⟨Nat.le_trans h.1 hm,Nat.le_trans h.2 hm⟩
theorem SmD.ok {d:DKR}(h:SmD d)(hl:d.Len):d.Ok:=⟨hl,fun b hb=>Az (h.b b hb) Y⟩
end Go.Pv
