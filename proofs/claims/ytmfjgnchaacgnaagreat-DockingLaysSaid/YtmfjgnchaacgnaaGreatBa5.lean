/- Texts of one hand, gathered: FwD, Shelg, FwE, FwF, FwG, PvFz, FuE, FwH, FsF, FwI, FuF, FwJ, DkA, DkC, DkE, DkF, DkG, DkH, DkD, DkJ, DkN, DkV, DkO, DkP, DkQ, RaA, FwKa, DkB, DkK, PvLc, DkL, DkM, DkR, DkI, DkS, DkT, DkW, DmD, DmH. -/
import Derived.Test.YtmfjgnchaacgnaaGreatBa4
import Derived.Shelf.Spec.SlicesGrow
import Derived.Test.YtmfjgnchaacgnaaGreatProg
set_option maxRecDepth 20000
set_option linter.unusedSectionVars false
set_option linter.unusedSimpArgs false
set_option linter.unusedVariables false
set_option linter.unnecessarySimpa false
set_option maxHeartbeats 2000000
namespace Go.Pv
attribute [local irreducible] PWP POps PQuiet PSem aF au ak aj
open Go.Proofs
def sI (st:List ST)(i:Nat):Option ST:=if i=0 then none else st[i-1]?
def tz (st:List ST)(i:Nat)(t:ST):Int:=iB t (sI st i)
def ec (s:SHP):Int:=if bU s.nm=true then(if ar s.len 1 1000000=true/\ar s.st.length 1 40=true then(if e_ s.st (tz s.st)=0 then jP s else e_ s.st (tz s.st)) else 2) else 4
structure SHP.Len (s:SHP):Prop where
 st:s.st.length<=9223372036854775807
 it:s.it.length<=9223372036854775807
 L:∀t∈s.st,t.L.length<=9223372036854775807/\t.H0.length<=9223372036854775807
theorem qR {t:ST}{u:Option ST}(h:iB t u=0):ie t=0:=by
 unfold iB at h;split at h
 .assumption
 .assumption
theorem lA {st:List ST}{j:Nat}{u:ST}(h:st[j]? = some u):sI st (j+1)=some u:=by rw[sI,if_neg J,Nat.add_sub_cancel,h]
def Br (st:List ST)(i:Nat):PV:=match sI st i with
 |none => .raw (.pointer none)
 |some u => .dref (eT u) 0
theorem lj {n:Nat}(h:ar (n:Int) 1 40=true):n<=40:=by
 simp[ar]at h;omega
set_option maxRecDepth 20000 in
theorem jB (s:SHP)(hs:s.Len):Ret Tryz.prog .shared 66 [.agg (fi s)] (I (ec s)):=by
 have n0:=jN s.nm;have n1:=bk s.len 1 1000000;have n2:=bk s.st.length 1 40;have hml:((s.st.map eT).length:Int)=s.st.length:=ai;have hld:=mM s hs.it;have hL:=hs.L;generalize hf:ec s=E;rw[ec]at hf;generalize jP s=le at *
 obtain⟨nm,len,st,light,it⟩:=s;simp only at *
 refine Ret.of_pwp layOk mixed Go.Proofs.Tryz.func66 O Y O O ?_;refine ap n0 ?_;cases hn:bU nm with
 |false =>
  rw[hn,if_neg Y]at hf;subst hf;exact bq
 |true =>
  rw[hn,if_pos O]at hf;refine ap n1 ?_;cases h1:ar len 1 1000000 with
  |false =>
   rw[h1,if_neg ai]at hf;subst hf;exact bq
  |true =>
   refine H ?_;rw[hml];refine EA O O O n2 O O O ?_;cases h2:ar st.length 1 40 with
   |false =>
    rw[h2,if_neg ai]at hf;subst hf;exact bq
   |true =>
    have h40:=lj h2;rw[h1,h2,if_pos ⟨O,O⟩]at hf;refine H ?_;rw[hml];refine ao (ClearE st (tz st)) (fun k=>[(1,.ptr 1 1 0 0),(3,Br st k),(23,.sl (st.map eT)),(24,I st.length),(25,I (k:Nat))]) (fun _=>[(1,1,⟨27,9,[fi ⟨nm,len,st,light,it⟩],2⟩)]) (fun k=>st.length-k) 0 .zero' ⟨O,O,O,O,O,O,trivial⟩ ?_;intro k s1 hk;have hkl:=hk.1;refine D ?_ ?_<;>intro h
    .have hlt:k<st.length:=by have:=aB h;omega
     clear h;obtain⟨t,hx⟩:=aH hlt;obtain⟨l1,l2⟩:=hL t (a_ hx);have hw:=c9 k;have hnb:PV.dref (eT t) 0=Br st (k+1):=by rw[Br,lA hx]
     have hc:Ret Tryz.prog .shared 127 [.agg (eT t),Br st k] (I (tz st k t)):=by
      cases k with
      |zero=>exact qS t l1 l2
      |succ j =>
       obtain⟨u,hu⟩:=aH (show j<st.length by omega);rw[tz,Br,lA hu];exact qT t u (qR (hk.2 j u J hu)) l1 l2
     have hfb:(Br st k = .raw (.pointer none))\/∃u,Br st k = .dref (eT u) 0:=by
      rw[Br];cases sI st k with
      |none=>exact .inl rfl
      |some u=>exact .inr ⟨u,rfl⟩
     have hfl:=fun e (h:tz st k t=e) (he:e≠0)=>hk.found hx h he;have hsu:=fun(h:tz st k t=0)=>hk.succ hx h;generalize tz st k t=e at *
     generalize Br st k=bp at *
     rcases hfb with rfl|⟨u,rfl⟩
     .refine aN hx ?_;refine ap hc ?_;refine D ?_ ?_<;>intro h
      .have he:e≠0:=by simpa using h
       clear h;rw[hfl e O he,if_neg he]at hf;subst hf;exact bq
      .have he:e=0:=by simpa using h
       clear h;refine aN hx ?_;refine H ?_;exact⟨k+1,hsu he,J,O,hnb,O,O,congrArg I hw,O,trivial⟩
     .refine aN hx ?_;refine ap hc ?_;refine D ?_ ?_<;>intro h
      .have he:e≠0:=by simpa using h
       clear h;rw[hfl e O he,if_neg he]at hf;subst hf;exact bq
      .have he:e=0:=by simpa using h
       clear h;refine aN hx ?_;refine H ?_;exact⟨k+1,hsu he,J,O,hnb,O,O,congrArg I hw,O,trivial⟩
    .have hge:¬k<st.length:=by have:=aG h;omega
     clear h;rw[hk.none hge,if_pos O]at hf;subst hf;refine ap hld ?_;exact bq
theorem rB (d:Int):Ret Tryz.prog .shared 232 [I d] (I (if ar d 900 1100=true then 0 else 2)):=by
 have h1:=bk d 900 1100;generalize ar d 900 1100=p at *
 cases p;all_goals
  refine Ret.of_pwp layOk mixed Go.Proofs.Tryz.func232 O Y O O ?_;refine ap h1 ?_;exact bq
theorem qD (d:Int):Ret Tryz.prog .shared 70 [I d] (I (if ar d 900 1100=true then 0 else 2)):=by
 have h1:=bW d 900 1100;generalize ar d 900 1100=p at *
 cases p;all_goals
  refine Ret.of_pwp layOk mixed Go.Proofs.Tryz.func70 O Y O O ?_;refine ap h1 ?_;exact bq
def jI (s:SHP)(d:Int):Int:=if ec s=0 then(if ar d 900 1100=true then 0 else 2) else ec s
theorem rK (s:SHP)(hs:s.Len)(d:Int):Ret Tryz.prog .shared 170 [.agg (fi s),I d] (I (jI s d)):=by
 have h1:=jB s hs;have h2:=rB d;rw[jI];generalize (if ar d 900 1100=true then(0:Int) else 2)=e2 at *
 generalize ec s=e at *
 by_cases he:e=0
 .subst he;rw[if_pos O];refine Ret.of_pwp layOk mixed Go.Proofs.Tryz.func170 O Y O O ?_;refine ap h1 ?_;refine ap h2 ?_;exact bq
 .rw[if_neg he];refine Ret.of_pwp layOk mixed Go.Proofs.Tryz.func170 O Y O O ?_;refine ap h1 ?_;refine D ?_ ?_<;>intro h
  .clear h;exact bq
  .simp at h;exact absurd h he
set_option maxRecDepth 20000 in
theorem sW (s:SHP)(hs:s.Len):Ret Tryz.prog .shared 41 [.agg (fi s)] (I (ec s)):=by
 have n0:=jM s.nm;have n1:=bW s.len 1 1000000;have n2:=bW s.st.length 1 40;have hml:((s.st.map eT).length:Int)=s.st.length:=ai;have hmi:((s.it.map eLd).length:Int)=s.it.length:=ai;have hL:=hs.L;have hld0:=pD s.light [] Y 1;have hld0:Ret Tryz.prog .shared 105 [.agg (eLd s.light),.nil,I 1] (I (eL s.light [] 1)):=hld0.weak (.cons (.rfl _) (.cons .nil (.cons (.rfl _) .nil))) (.rfl _);generalize hf:ec s=E;rw[ec]at hf;have hle:jP s=if eL s.light [] 1=0 then(if 60<s.it.length then 8 else e_ s.it (DL s.light s.it)) else eL s.light [] 1:=O
 obtain⟨nm,len,st,light,it⟩:=s;simp only at *
 refine Ret.of_pwp layOk mixed Go.Proofs.Tryz.func41 O Y O O ?_;refine ap n0 ?_;cases hn:bU nm with
 |false =>
  rw[hn,if_neg Y]at hf;subst hf;exact bq
 |true =>
  rw[hn,if_pos O]at hf;refine ap n1 ?_;cases h1:ar len 1 1000000 with
  |false =>
   rw[h1,if_neg ai]at hf;subst hf;exact bq
  |true =>
   refine H ?_;rw[hml];refine EA O O O n2 O O O ?_;cases h2:ar st.length 1 40 with
   |false =>
    rw[h2,if_neg ai]at hf;subst hf;exact bq
   |true =>
    have h40:=lj h2;rw[h1,h2,if_pos ⟨O,O⟩]at hf;refine H ?_;refine ao (ClearE st (tz st)) (fun k=>[(1,.ptr 1 1 0 0),(3,I (k:Nat))]) (fun _=>[(1,1,⟨27,9,[fi ⟨nm,len,st,light,it⟩],2⟩)]) (fun k=>st.length-k) 0 .zero' ⟨O,O,O,trivial⟩ ?_;intro k s1 hk;have hkl:=hk.1;refine H ?_;rw[hml];refine bh O ?_ ?_<;>intro h
    .have hlt:k<st.length:=by have:=aB h;omega
     clear h;obtain⟨t,hx⟩:=aH hlt;obtain⟨l1,l2⟩:=hL t (a_ hx);have hw:=c9 k;have c1:=Az t;have c2:=xL t l1 l2;refine aN hx ?_;refine ap c1 ?_;refine D ?_ ?_<;>intro h
     .have he:ie t≠0:=by simpa using h
      clear h;have hfl:=hk.found hx (show tz st k t=ie t by rw[tz,iB.eq_def,if_neg he]) he;rw[hfl,if_neg he]at hf;subst hf;exact bq
     have hpt:ie t=0:=by simpa using h
     clear h c1;refine bT 14 [43,44,45,46,47,48,49,50,51,52,53,54,55,56] ?_;refine H ?_;cases k with
     |zero =>
      have hst:tz st 0 t=dw t:=by rw[tz,iB.eq_def,if_pos hpt];rfl
      refine bT 26 [57,58,59,60,61,62,63,64,65,66,67,68,69,70,71,72,73,74,75,76,77,78,79,80,81,82] ?_;refine ap c2 ?_;refine D ?_ ?_<;>intro h
      .have he:dw t≠0:=by simpa using h
       clear h;rw[hk.found hx hst he,if_neg he]at hf;subst hf;exact bq
      .have he:dw t=0:=by simpa using h
       clear h;rw[he]at hst;refine H ?_;exact⟨0+1,hk.succ hx hst,J,O,congrArg I hw,O,trivial⟩
     |succ j =>
      obtain⟨u,hu⟩:=aH (show j<st.length by omega);have hpu:=qR (hk.2 j u J hu);obtain⟨⟨a1,a2⟩,a3,a4⟩:=nr hpt;obtain⟨⟨b1,b2⟩,b3,b4⟩:=nr hpu;have k1:IntKind.i64.wrap (t.x-u.x)=t.x-u.x:=wrap_i64 J J;have k2:IntKind.i64.wrap (2*(t.x-u.x))=2*(t.x-u.x):=wrap_i64 J J;have k3:IntKind.i64.wrap (t.w+u.w)=t.w+u.w:=wrap_i64 J J;have hwj:IntKind.i64.wrap (((j+1:Nat):Int)-1)=(j:Nat):=by rw[wrap_i64 J J];omega
      have hse:tz st (j+1) t=if je t u=0 then dw t else je t u:=by rw[tz,iB.eq_def,if_pos hpt,lA hu]
      refine AV O O O ?_ ?_<;>intro h
      rotate_left
      .exfalso;have:=aG h;omega
      clear h;refine H ?_;rw[hwj];refine xD O O O O O O O hu O ?_;refine D ?_ ?_<;>intro h
      .have d1:t.x<=u.x:=aB h;clear h;have hb:je t u=10:=by rw[je,if_pos J]
       rw[hb,if_neg Y]at hse;rw[hk.found hx hse Y,if_neg Y]at hf;subst hf;exact bq
      have d1:¬t.x<=u.x:=aG h;clear h;refine bT 26 [57,58,59,60,61,62,63,64,65,66,67,68,69,70,71,72,73,74,75,76,77,78,79,80,81,82] ?_;refine cV ?_ ?_<;>intro h
      rotate_left
      .exfalso;have:=aG h;omega
      clear h;refine H ?_;rw[hwj];refine xD O O O O O O O hu O ?_;refine H ?_;rw[k1];refine H ?_;rw[k2];refine H ?_;rw[hwj];refine xD O O O O O O O hu O ?_;refine H ?_;rw[k3];refine D ?_ ?_<;>intro h
      .have d2:2*(t.x-u.x)<t.w+u.w:=aB h;clear h;have hb:je t u=17:=by rw[je,if_neg J,if_pos d2]
       rw[hb,if_neg Y]at hse;rw[hk.found hx hse Y,if_neg Y]at hf;subst hf;exact bq
      have d2:¬2*(t.x-u.x)<t.w+u.w:=aG h;clear h;have hb:je t u=0:=by rw[je,if_neg J,if_neg d2]
      rw[if_pos hb]at hse;have hst:=hse;refine ap c2 ?_;refine D ?_ ?_<;>intro h
      .have he:dw t≠0:=by simpa using h
       clear h;rw[hk.found hx hst he,if_neg he]at hf;subst hf;exact bq
      .have he:dw t=0:=by simpa using h
       clear h;rw[he]at hst;refine H ?_;exact⟨j+1+1,hk.succ hx hst,J,O,congrArg I hw,O,trivial⟩
    .have hge:¬k<st.length:=by have:=aG h;omega
     clear h;rw[hk.none hge,if_pos O,hle]at hf;refine ap hld0 ?_;refine H ?_;by_cases hz:eL light [] 1=0
     rotate_left
     .rw[if_neg hz]at hf;generalize eL light [] 1=e at *
      subst hf;refine bh O ?_ ?_<;>intro h
      .clear h;exact bq
      .simp at h;exact absurd h hz
     rw[if_pos hz]at hf;rw[hz];refine H ?_;rw[hmi];refine bh O ?_ ?_<;>intro h
     .rw[if_pos (by have:=aB h;omega)]at hf;subst hf;exact bq
     have h60:¬60<it.length:=by have:=aG h;omega
     clear h;rw[if_neg h60]at hf;refine H ?_;refine ax (aT 1 O O O O O O O O O O O aI O ?_);refine H ?_;refine bj [(1,.ptr 1 1 0 0),(8,.als 100 ((s1.own 100).1+1) 0 ([eLd light]).length),(9,I ((0:Nat):Int))] [(1,1,⟨27,9,[fi ⟨nm,len,st,light,it⟩],2⟩),(100,(s1.own 100).1+1,⟨24,5,[eLd light],1⟩)] ⟨O,O,O,O,O,trivial⟩ ?_;generalize (s1.own 100).1+1=g;intro s2;refine ao (fun q:Nat × Nat=>ClearE it (DL light it) q.1) (fun q=>[(1,.ptr 1 1 0 0),(8,.als 100 q.2 0 ((light::it.take q.1).map eLd).length),(9,I (q.1:Nat))]) (fun q=>[(1,1,⟨27,9,[fi ⟨nm,len,st,light,it⟩],2⟩),(100,q.2,⟨24,5,(light::it.take q.1).map eLd,1⟩)]) (fun q=>it.length-q.1) (0,g) .zero' ⟨O,O,O,O,O,trivial⟩ ?_;rintro⟨k,g⟩ s3 hk2;dsimp only at hk2 ⊢;have hkl:=hk2.1;refine H ?_;rw[hmi];refine bh O ?_ ?_<;>intro h
     .have hlt:k<it.length:=by have:=aB h;omega
      clear h;obtain⟨w,hx⟩:=aH hlt;have hw:=c9 k;have hBl:(light::it.take k).length<=61:=by rw[List.length_cons,List.length_take];omega
      have c1:=pD w (light::it.take k) J 0;have hfl:=hk2.found hx (show DL light it k w=eL w (light::it.take k) 0 from O);have hsu:=fun h=>hk2.succ hx (show DL light it k w=0 from h);have hsn:(light::it.take (k+1)).map eLd=(light::it.take k).map eLd++[eLd w]:=by rw[br hx];simp
      have hsu:=fun(h:eL w (light::it.take k) 0=0)=>hsu h;generalize eL w (light::it.take k) 0=e at *
      generalize light::it.take k=D0 at *
      refine aN hx ?_;refine ap c1 ?_;refine D ?_ ?_<;>intro h
      .have he:e≠0:=by simpa using h
       clear h;rw[hfl he]at hf;subst hf;exact bq
      .have he:e=0:=by simpa using h
       clear h;refine aN hx ?_;refine H ?_;refine ax (aT 1 O O O O O O O O O O O aI O ?_);refine H ?_;refine ax (bb 1 O O O O O O O O O O O aI (by intro row hr;first|(simp at hr;subst hr;rfl)|simp at hr) O O aK aK ?_);refine H ?_;refine⟨(k+1,g+1),hsu he,by simp only;omega,O,?_,congrArg I hw,O,?_,trivial⟩
       .dsimp only;rw[hsn];rfl
       .dsimp only;rw[hsn];rfl
     .have hge:¬k<it.length:=by have:=aG h;omega
      clear h;rw[hk2.none hge]at hf;subst hf;exact bq
end Go.Pv
namespace Go.Proofs
open Go.Shelf
def Tryz.growL_ren:Go.Shelf.Ren:=⟨fun|4=>287|n=>n,fun|22=>25|25=>24|3=>3|4=>4|9=>9|20=>20|0=>0|n=>n,fun|n=>n⟩
theorem Tryz.growL:Go.Proofs.Lays8.n4 Tryz.prog Tryz.growL_ren:={
 mixed:=by kernel_rfl
 f4:=⟨Tryz.f287.name,by decide,Tryz.func287.trans (congrArg some (by kernel_rfl))⟩
 t0:=Tryz.underlying0
 a0:=Tryz.isAgg0
 z0:=Tryz.sizeOf0
 v0:=Tryz.zeroValue0
 t3:=Tryz.underlying3
 a3:=Tryz.isAgg3
 z3:=Tryz.sizeOf3
 v3:=Tryz.zeroValue3
 t4:=Tryz.underlying4
 a4:=Tryz.isAgg4
 z4:=Tryz.sizeOf4
 v4:=Tryz.zeroValue4
 t9:=Tryz.underlying9
 a9:=Tryz.isAgg9
 z9:=Tryz.sizeOf9
 v9:=Tryz.zeroValue9
 t20:=Tryz.underlying20
 a20:=Tryz.isAgg20
 z20:=Tryz.sizeOf20
 v20:=Tryz.zeroValue20
 t22:=Tryz.underlying25
 a22:=Tryz.isAgg25
 z22:=Tryz.sizeOf25
 v22:=Tryz.zeroValue25 }
end Go.Proofs
set_option maxHeartbeats 2000000
namespace Go.Pv
attribute [local irreducible] PWP POps PQuiet PSem aF au ak aj
open Go.Proofs Go.RowKit
theorem zi (n:Nat)(h0:1<=n)(hn:n<=1000000):RetO Tryz.prog 287 [.nil,I (n:Nat)] 24 5 []:=by
 refine⟨⟨_,Go.Proofs.Tryz.func287,Y,O⟩,fun w X args hg hX hl hargs=>?_⟩
 match args,hl with
 |[v0,v1],_ =>
  have e0:v0 = .slice none 0 0:=by
   have:=hargs 0 .nil v0 O O;cases this;rfl
  have e1:v1 = .int .i64 n:=by
   have:=hargs 1 (I (n:Nat)) v1 O O;cases this;rfl
  subst e0 e1;obtain⟨i0,d,hi,_,hs,hby,_,hz⟩:=LRow.spec (layOk 24 _ O);obtain⟨z,hz0,hzs,_,_⟩:=hz _ O;have hs:i0.size=5:=hs;have hby:i0.bytes=48:=hby;have hzs:z.cells.size=5:=hzs;refine(Any8.slices_Grow_grow Tryz.growL i0 z hi hz0 J none 0 0 n [] w (aP) J (by rw[hby];omega) J ai (fun _=>rfl) (fun a h=>by cases h)).mono ?_;rintro e w' ⟨rfl,rfl⟩;have hge:=grownCap_ge w (0+n) 0 24;have hle:=grownCap_le_maxLen w (0+n) 0 24 (by unfold maxLen;omega);refine⟨_,O,?_,.inr ⟨w.heap.size,grownCap w (0+n) 0 24,_,aP,O,be _ _,Nat.zero_le _,hle,?_,Y,Nat.zero_le _,fun row hr=>(by cases hr),fun i j row c hr=>(by simp at hr)⟩⟩
  .have hb:Below w.heap.size w w.drew:=Below.drew (Below.refl _ _);exact hb.alloc (aP) _
  .rw[Array.size_append,Array.size_append,size_zeroCells,size_zeroCells,hzs];show 0+(0+n-0)*5+(grownCap w (0+n) 0 24-(0+n))*5=grownCap w (0+n) 0 24*5;omega
def E9:Nat->Nat
 |0=>0
 |_+1=>1
set_option maxRecDepth 20000 in
theorem tN (A B:List LR)(hA:1<=A.length)(hl:A.length+B.length<=1000000):Ret Tryz.prog .shared 272 [.sl ([A,B].map fun l=>[.sl (l.map eLd)])] (.sl ((A++B).map eLd)):=by
 have hg:=zi (A.length+B.length) J hl;generalize hL:[A,B]=LL;have hLl:LL.length=2:=by rw[<-hL];rfl
 have hml:((LL.map fun l=>[PV.sl (l.map eLd)]).length:Int)=LL.length:=ai;let sm (k:Nat):Nat:=((LL.take k).map List.length).sum;have s0:sm 0=0:=by simp[sm]
 have s2:sm LL.length=A.length+B.length:=by simp only[sm];rw[<-hL];simp
 have hsm:∀k,sm k<=1000000:=fun k=>by
  simp only[sm];rw[<-hL]
  match k with
  |0=>simp
  |1=>simp;omega
  |k+2=>simp;omega
 have hsn:∀k x,LL[k]? = some x->sm (k+1)=sm k+x.length:=fun k x hx=>by
  simp only[sm];rw[br hx,List.map_append,List.sum_append];simp
 have hrn:∀k x,LL[k]? = some x->((LL.take (k+1)).flatten).map eLd=((LL.take k).flatten).map eLd++x.map eLd:=fun k x hx=>by
  rw[br hx,List.flatten_append,List.map_append];simp
 have hrl:∀k,(((LL.take k).flatten).map eLd).length=sm k:=fun k=>by simp only[sm];rw[List.length_map,List.length_flatten]
 have hend:LL.flatten=A++B:=by rw[<-hL];simp
 clear_value sm
 refine Ret.of_pwp layOk mixed Go.Proofs.Tryz.func272 O Y O O ?_;refine H ?_;rw[hml];refine ao (fun k:Nat=>k<=LL.length) (fun k=>[(0,.sl (LL.map fun l=>[.sl (l.map eLd)])),(3,I (sm k:Nat)),(9,.sl (LL.map fun l=>[.sl (l.map eLd)])),(10,I LL.length),(11,I (k:Nat))]) (fun _=>[]) (fun k=>LL.length-k) 0 (Nat.zero_le _) ⟨O,by rw[s0];rfl,O,O,O,trivial⟩ ?_;intro k s hk;refine D ?_ ?_<;>intro h
 .have hlt:k<LL.length:=by have:=aB h;omega
  clear h;obtain⟨x,hx⟩:=aH hlt;have hmx:((x.map eLd).length:Int)=x.length:=ai;have hs1:=hsn k x hx;have hs2:=hsm (k+1);have hw:=c9 k;have hws:IntKind.i64.wrap (((sm k:Nat):Int)+(x.length:Int))=((sm (k+1):Nat):Int):=by rw[wrap_i64 J J];omega
  refine aN hx ?_;refine H ?_;rw[hmx,hws];refine H ?_;exact⟨k+1,hlt,J,O,O,O,O,congrArg I hw,trivial⟩
 .have hge:k=LL.length:=by have:=aG h;omega
  clear h;subst hge;rw[s2]
  ((repeat ((fail_if_success (with_reducible refine aR 9 ?_));refine b9 O ?_));refine aM 1 ?_)
  refine dD O ?_;refine aO ?_;refine aW O (AM O hg O aI O ?_);refine aJ ?_;refine H ?_;rw[hml];refine bj [(6,.als 24 ((s.own 24).1+1) 0 0),(25,.sl (LL.map fun l=>[.sl (l.map eLd)])),(26,I LL.length),(27,I ((0:Nat):Int))] [(24,(s.own 24).1+1,⟨24,5,[],0⟩)] ⟨O,O,O,O,O,trivial⟩ ?_;generalize (s.own 24).1+1=g;intro s0;refine ao (fun k:Nat=>k<=LL.length) (fun k=>[(6,.als 24 (g+k) 0 (((LL.take k).flatten).map eLd).length),(25,.sl (LL.map fun l=>[.sl (l.map eLd)])),(26,I LL.length),(27,I (k:Nat))]) (fun k=>[(24,g+k,⟨24,5,((LL.take k).flatten).map eLd,E9 k⟩)]) (fun k=>LL.length-k) 0 (Nat.zero_le _) ⟨O,O,O,O,O,trivial⟩ ?_;intro k s1 hk;refine D ?_ ?_<;>intro h
  .have hlt:k<LL.length:=by have:=aB h;omega
   clear h;obtain⟨x,hx⟩:=aH hlt;have hs1:=hsn k x hx;have hs2:=hsm (k+1);have hr1:=hrn k x hx;have hr2:=hrl k;have hmx:(x.map eLd).length=x.length:=ai;have hw:=c9 k;generalize ((LL.take k).flatten).map eLd=R at *
   refine aN hx ?_;refine H ?_;refine ax (bb 1 O O O O O O O O O O O aI (by intro row hr;obtain⟨_,_,rfl⟩:=List.mem_map.1 hr;rfl) (by cases k<;>rfl) O (by rw[hr2,hmx];show _*48<=_;omega) (by rw[hr2,hmx];omega) ?_);refine H ?_;refine⟨k+1,hlt,J,?_,O,O,congrArg I hw,?_,trivial⟩
   .rw[hr1];rfl
   .rw[hr1];rfl
  .have hge:k=LL.length:=by have:=aG h;omega
   clear h;subst hge;rw[List.take_length,hend,show E9 LL.length=1 by rw[hLl];rfl]
   (repeat ((fail_if_success (with_reducible refine cA ?_));refine b9 O ?_))
   refine aq (Ghost.takeD (k:=24) (t:=2) O O O) ?_;exact bI
set_option maxRecDepth 20000 in
theorem xh (s:SHP)(hl:s.it.length<=100000):Ret Tryz.prog .shared 242 [.agg (fi s)] (.sl ((s.light::s.it).map eLd)):=by
 have hc:=tN [s.light] s.it ai aK;rw[show [s.light]++s.it=s.light::s.it from O]at hc;obtain⟨nm,len,st,light,it⟩:=s;simp only at *
 refine Ret.of_pwp layOk mixed Go.Proofs.Tryz.func242 O Y O O ?_
 ((repeat ((fail_if_success (with_reducible refine aR 1 ?_));refine b9 O ?_));refine aM 5 ?_)
 iterate 2 refine dD O ?_
 refine ax (aT 1 O O O O O O O O O O O aI O ?_);iterate 2 refine dD O ?_
 refine aO ?_;refine aW O (di (Ghost.takeD (k:=5) (t:=5) O O O) (aT 1 O O O O O O O O O O O aI O ?_));refine aW O (di (Ghost.takeD (k:=8) (t:=8) O O O) ?_)
 (refine jh (dg O (hc) O ?_ O) ?_;.repeat' constructor)
 refine aJ ?_;exact bI
open Go.Proofs
theorem gz (z:Int)(h:i64 z):Ret Tryz.prog .shared 167 [I z] (.agg (eR (ofQ (z:Rat)))):=by
 have ho:=qr z h.1 h.2;have hw:=jd (ci z) (by have:=iO (z:=z) (by obtain⟨h1,h2⟩:=h;omega);omega);rw[cd]at hw;generalize ofQ (z:Rat)=X at *
 generalize ci z=Z at *
 refine Ret.of_pwp layOk mixed Go.Proofs.Tryz.func167 O Y O O ?_;refine G ho ?_;refine G hw ?_;exact bI
theorem z7 (x y:RR){p q:Rat}{n m:Nat}[hx:Vq x p n][hy:Vq y q m](hn:n<=20000000)(hm:m<=20000000)(h0:q≠0):Ret Tryz.prog .shared 196 [.agg (eR x),.agg (eR y)] (.agg (eR (ofQ (p/q)))):=by
 have hq:=sP x y hn hm;rw[if_neg h0]at hq;generalize ofQ (p/q)=X at *
 refine Ret.of_pwp layOk mixed Go.Proofs.Tryz.func196 O Y O O ?_;refine G hq ?_;exact bI
structure OkW (w:LR):Prop where
 m:0<=w.m/\w.m<=1000000000
 x : -1000000<=w.x/\w.x<=1000000
 z : -100000<=w.z/\w.z<=100000
 f:0<=w.f/\w.f<=1000000000
theorem zQ {w:LR}{l:Int}(hl:0<=l)(h:lu w l=0):OkW w/\l<=w.m:=by
 rw[lu]at h;split at h
 .rename_i h2;simp[BZ,ar]at h2;exact⟨⟨J,J,J,J⟩,J⟩
 .omega
def sM (l:List LR):Int:=(l.map (·.m)).sum
def sF (l:List LR):Int:=(l.map (·.f)).sum
def sX (l:List LR):Int:=(l.map fun w=>w.m*w.x).sum
def sZ (l:List LR):Int:=(l.map fun w=>w.m*w.z).sum
theorem zL {m x M X:Int}(hm:0<=m/\m<=M)(hx : -X<=x/\x<=X)(h0:0<=X) : -(M*X)<=m*x/\m*x<=M*X:=by
 have h1:m*x<=m*X:=Int.mul_le_mul_of_nonneg_left hx.2 hm.1;have h2:m*X<=M*X:=Int.mul_le_mul_of_nonneg_right hm.2 h0;have h3:m*(-X)<=m*x:=Int.mul_le_mul_of_nonneg_left hx.1 hm.1;rw[Int.mul_neg]at h3;omega
theorem OkW.mx {w:LR}(h:OkW w):(-1000000000000000<=w.m*w.x/\w.m*w.x<=1000000000000000) /\ -100000000000000<=w.m*w.z/\w.m*w.z<=100000000000000 :=
 ⟨zL h.m h.x Y,zL h.m h.z Y⟩
structure SumOk (l:List LR):Prop where
 m:0<=sM l/\sM l<=l.length*1000000000
 f:0<=sF l/\sF l<=l.length*1000000000
 x : -(l.length*1000000000000000:Int)<=sX l/\sX l<=l.length*1000000000000000
 z : -(l.length*100000000000000:Int)<=sZ l/\sZ l<=l.length*100000000000000
theorem mz:∀ {l:List LR},(∀w∈l,OkW w)->SumOk l
 |[],_=>⟨by simp[sM],by simp[sF],by simp[sX],by simp[sZ]⟩
 |w::l,h=>by
  have ih:=mz fun u hu=>h u (List.mem_cons_of_mem _ hu);have hw:=h w List.mem_cons_self;obtain⟨⟨a1,a2⟩,a3,a4⟩:=hw.mx;obtain⟨⟨b1,b2⟩,_,_,b3,b4⟩:=hw;obtain⟨⟨c1,c2⟩,⟨c3,c4⟩,⟨c5,c6⟩,c7,c8⟩:=ih;have e1:sM (w::l)=w.m+sM l:=O;have e2:sF (w::l)=w.f+sF l:=O;have e3:sX (w::l)=w.m*w.x+sX l:=O;have e4:sZ (w::l)=w.m*w.z+sZ l:=O;have e5:((w::l).length:Int)=l.length+1:=ai;refine⟨?_,?_,?_,?_⟩
  .rw[e1,e5];omega
  .rw[e2,e5];omega
  .rw[e3,e5];omega
  .rw[e4,e5];omega
theorem A7 {l:List LR}{k:Nat}{w:LR}(h:l[k]? = some w):sM (l.take (k+1))=sM (l.take k)+w.m/\sF (l.take (k+1))=sF (l.take k)+w.f/\sX (l.take (k+1))=sX (l.take k)+w.m*w.x/\sZ (l.take (k+1))=sZ (l.take k)+w.m*w.z:=by
 rw[br h];simp[sM,sF,sX,sZ]
def GC (m:Int)(x z:RR)(f:Int):List PV:=[I m]++eR x++eR z++[I f]
def Bc (l:List LR):List PV:=GC (sM l) (ofQ ((sX l:Rat)/(sM l:Rat))) (ofQ ((sZ l:Rat)/(sM l:Rat))) (sF l)
set_option maxRecDepth 20000 in
theorem uP (s:SHP)(L:List LR)(hLe:L=s.light::s.it)(hL:∀w∈L,OkW w)(h1:1<=sM L)(hl:L.length<=61):Ret Tryz.prog .shared 194 [.agg (fi s)] (.agg (Bc L)):=by
 have hlo:=xh s (by
  have:L.length=s.it.length+1:=by rw[hLe];rfl
  omega)
 rw[<-hLe]at hlo;have w0:=gz 0 ⟨Y,Y⟩;have hml:((L.map eLd).length:Int)=L.length:=ai;have hto:=mz hL;have hne:(sM L:Rat)≠0:=by
  have:sM L≠0:=J
  exact_mod_cast this
 obtain⟨⟨t1,t2⟩,⟨t3,t4⟩,⟨t5,t6⟩,t7,t8⟩:=hto;have zM:Zb (sM L):=aU J J;have zX:Zb (sX L):=aU J J;have zZ:Zb (sZ L):=aU J J;have wM:=gz (sM L) ⟨J,J⟩;have dX:=z7 (ofQ (sX L:Rat)) (ofQ (sM L:Rat)) (hx:=Vq.ofQ (h:=HQ.int)) (hy:=Vq.ofQ (h:=HQ.int)) Y Y hne;have dZ:=z7 (ofQ (sZ L:Rat)) (ofQ (sM L:Rat)) (hx:=Vq.ofQ (h:=HQ.int)) (hy:=Vq.ofQ (h:=HQ.int)) Y Y hne;have sk:=fun k=>mz (l:=L.take k) fun w hw=>hL w (List.mem_of_mem_take hw);refine Ret.of_pwp layOk mixed Go.Proofs.Tryz.func194 O Y O O ?_;refine G w0 ?_;refine G w0 ?_;refine G hlo ?_;refine H ?_;rw[hml];refine ao (fun k:Nat=>k<=L.length) (fun k=>[(2,.ptr 2 1 0 0),(3,.ptr 3 1 0 0),(4,.ptr 4 1 0 0),(5,.ptr 5 1 0 0),(11,.sl (L.map eLd)),(12,I L.length),(13,I (k:Nat))]) (fun k=>[(2,1,⟨61,10,[[I 0]++zN++zN++[I 0]],2⟩),(3,1,⟨61,10,[[I (sM (L.take k))]++zN++zN++[I (sF (L.take k))]],2⟩),(4,1,⟨42,4,[eR (ofQ (sX (L.take k):Rat))],2⟩),(5,1,⟨42,4,[eR (ofQ (sZ (L.take k):Rat))],2⟩)]) (fun k=>L.length-k) 0 (Nat.zero_le _) ⟨O,O,O,O,O,O,O,O,O,O,O,trivial⟩ ?_;intro k s1 hk;refine D ?_ ?_<;>intro h
 .have hlt:k<L.length:=by have:=aB h;omega
  clear h;obtain⟨w,hx⟩:=aH hlt;have ow:=hL w (a_ hx);obtain⟨⟨a1,a2⟩,a3,a4⟩:=ow.mx;have hsk:=sk k;have hsk2:=sk (k+1);have hl1:(L.take k).length<=100:=by rw[List.length_take];omega
  have hl2:(L.take (k+1)).length<=100:=by rw[List.length_take];omega
  obtain⟨⟨c1,c2⟩,⟨c3,c4⟩,⟨c5,c6⟩,c7,c8⟩:=hsk;obtain⟨⟨d1,d2⟩,⟨d3,d4⟩,⟨d5,d6⟩,d7,d8⟩:=hsk2;obtain⟨e1,e2,e3,e4⟩:=A7 hx;have hw:=c9 k;have v1:IntKind.i64.wrap (sM (L.take k)+w.m)=sM (L.take (k+1)):=by rw[wrap_i64 J J];omega
  have v2:IntKind.i64.wrap (sF (L.take k)+w.f)=sF (L.take (k+1)):=by rw[wrap_i64 J J];omega
  have v3:IntKind.i64.wrap (w.m*w.x)=w.m*w.x:=wrap_i64 J J;have v4:IntKind.i64.wrap (w.m*w.z)=w.m*w.z:=wrap_i64 J J;have z1:Zb (sX (L.take k)):=aU J J;have z2:Zb (sZ (L.take k)):=aU J J;have z3:Zb (w.m*w.x):=aU J J;have z4:Zb (w.m*w.z):=aU J J;have u1:=gz (w.m*w.x) ⟨J,J⟩;have u2:=gz (w.m*w.z) ⟨J,J⟩;have g1:=dy (ofQ (sX (L.take k):Rat)) (ofQ ((w.m*w.x:Int):Rat)) (hx:=Vq.ofQ (h:=HQ.int)) (hy:=Vq.ofQ (h:=HQ.int)) Y Y;have g2:=dy (ofQ (sZ (L.take k):Rat)) (ofQ ((w.m*w.z:Int):Rat)) (hx:=Vq.ofQ (h:=HQ.int)) (hy:=Vq.ofQ (h:=HQ.int)) Y Y;rw[<-Rat.intCast_add,<-e3]at g1;rw[<-Rat.intCast_add,<-e4]at g2;clear c1 c2 c3 c4 c5 c6 c7 c8 d1 d2 d3 d4 d5 d6 d7 d8 e1 e2 e3 e4 z1 z2 z3 z4 a1 a2 a3 a4 hl1 hl2;refine aN hx ?_;refine H ?_;rw[v1];refine H ?_;rw[v2];refine bT 8 [29,30,31,32,33,34,35,36] ?_;refine H ?_;rw[v3];refine sO O O O u1 O O ?_;refine G g1 ?_;refine bT 8 [37,38,39,40,41,42,43,44] ?_;refine H ?_;rw[v4];refine sO O O O u2 O O ?_;refine G g2 ?_;refine H ?_;exact⟨k+1,hlt,J,O,O,O,O,O,O,congrArg I hw,O,O,O,O,trivial⟩
 .have hge:k=L.length:=by have:=aG h;omega
  clear h;subst hge;rw[List.take_length];clear sk hne zM zX zZ;rw[Bc];generalize ofQ ((sX L:Rat)/(sM L:Rat))=QX at *
  generalize ofQ ((sZ L:Rat)/(sM L:Rat))=QZ at *
  refine H ?_;refine dM [] [3] 11 [11,12,13] aS aS ?_;refine G wM ?_;refine G dX ?_;refine G wM ?_;refine G dZ ?_;exact bI
theorem ky {α:Type}{l:List α}{f:Nat->α->Int}(h:e_ l f=0){i:Nat}{x:α}(hx:l[i]? = some x):f i x=0:=gG h i x hx
structure ShipOk (s:SHP):Prop where
 len:s.st.length<=40
 st:∀i t,s.st[i]? = some t->tz s.st i t=0
 ld:∀w∈s.light::s.it,OkW w
 m:1<=sM (s.light::s.it)
 n:s.it.length<=60
theorem sa {w:LR}{B:List LR}{l:Int}(h:eL w B l=0):lu w l=0:=by
 rw[eL]at h;split at h
 .split at h
  .omega
  .exact h
 .omega
theorem vT {s:SHP}(h:ec s=0):ShipOk s:=by
 rw[ec]at h;split at h
 rotate_left
 .omega
 split at h
 rotate_left
 .omega
 rename_i hin;split at h
 rotate_left
 .contradiction
 rename_i hst;rw[jP]at h;split at h
 rotate_left
 .contradiction
 rename_i hl;split at h
 .omega
 rename_i h60;obtain⟨o1,m1⟩:=zQ Y (sa hl);have o2:∀w∈s.it,OkW w:=fun w hw=>by
  obtain⟨i,hi⟩:=List.mem_iff_getElem?.1 hw;exact(zQ (Int.le_refl 0) (sa (ky h hi))).1
 have hall:∀w∈s.light::s.it,OkW w:=fun w hw=>by
  rcases List.mem_cons.1 hw with rfl|hw
  .exact o1
  .exact o2 w hw
 refine⟨lj hin.2,fun i t ht=>ky hst ht,hall,?_,J⟩;have:=(mz o2).m;have e:sM (s.light::s.it)=s.light.m+sM s.it:=O;omega
theorem xg (s:SHP)(hs:s.Len)(h:ec s=0):Ret Tryz.prog .shared 173 [.agg (fi s)] (.tup [.agg (Bc (s.light::s.it)),I 0]):=by
 have h1:=jB s hs;have ok:=vT h;have h2:=uP s _ O ok.ld ok.m (by have:=ok.n;simp;omega);rw[h]at h1;rw[Bc]at h2 ⊢;generalize ofQ ((sX (s.light::s.it):Rat)/(sM (s.light::s.it):Rat))=QX at *
 generalize ofQ ((sZ (s.light::s.it):Rat)/(sM (s.light::s.it):Rat))=QZ at *
 clear ok;refine Ret.of_pwp layOk mixed Go.Proofs.Tryz.func173 O Y O O ?_;refine ap h1 ?_;refine G h2 ?_;exact bI
set_option maxRecDepth 20000 in
theorem uN (x y:RR){p q:Rat}{n m:Nat}(hx:Vq x p n)(hy:Vq y q m)(hn:n<=1000000)(hm:m<=1000000):Ret Tryz.prog .shared 195 [.sl ([x,y].map eR)] (.agg (eR (ofQ (p*q)))):=by
 have w1:=gz 1 ⟨Y,Y⟩;have z1:Zb 1:=aU Y Y;have c1:=eJ (ofQ ((1:Int):Rat)) x (hx:=Vq.ofQ (h:=HQ.int)) (hy:=hx) Y J;rw[show((1:Int):Rat)=1 from O,Rat.one_mul]at c1;rw[show((1:Int):Rat)=1 from O]at w1;have c2:=eJ (ofQ p) y (hx:=Vq.ofQ (h:=hx.hq)) (hy:=hy) J J;have g0:([x,y]:List RR)[0]? = some x:=O;have g1:([x,y]:List RR)[1]? = some y:=O;generalize hl:[x,y]=l at *
 have hll:l.length=2:=by rw[<-hl];rfl
 have hml:((l.map eR).length:Int)=2:=by rw[<-hl];rfl
 generalize ofQ (p*q)=E at *
 generalize ofQ p=P at *
 generalize ofQ (1:Rat)=O0 at *
 clear hx hy hl;refine Ret.of_pwp layOk mixed Go.Proofs.Tryz.func195 O Y O O ?_;refine G w1 ?_;refine H ?_;rw[hml];refine ao (fun k:Nat=>k<=2) (fun k=>[(2,.ptr 2 1 0 0),(3,.ptr 3 1 0 0),(7,.sl (l.map eR)),(8,I 2),(9,I (k:Nat))]) (fun k=>[(2,1,⟨42,4,[zN],2⟩),(3,1,⟨42,4,[eR (if k=0 then O0 else if k=1 then P else E)],2⟩)]) (fun k=>2-k) 0 (Nat.zero_le _) ⟨O,O,O,O,O,O,O,trivial⟩ ?_;intro k s hk;refine D ?_ ?_<;>intro h
 .have hlt:k<2:=by have:=aB h;omega
  clear h
  match k,hlt with
  |0,_ =>
   refine H ?_;refine bJ O O (lC (n:=((((0:Nat):Int)):Int)) O O O O O J g0 O) ?_;refine G c1 ?_;refine H ?_;exact⟨1,Y,Y,O,O,O,O,O,O,O,trivial⟩
  |1,_ =>
   refine H ?_;refine bJ O O (lC (n:=((((1:Nat):Int)):Int)) O O O O O J g1 O) ?_;refine G c2 ?_;refine H ?_;exact⟨2,Y,Y,O,O,O,O,O,O,O,trivial⟩
 .have hge:k=2:=by have:=aG h;omega
  clear h;subst hge;exact bI
set_option maxRecDepth 20000 in
theorem xk (x:RR){p:Rat}{n:Nat}[hx:Vq x p n](hn:n<=1000)(d:Nat)(h1:1<=d)(h2:d<=1000000000):Ret Tryz.prog .shared 172 [.agg (eR x),I (d:Nat)] (.agg (eR (ofQ (p*((d:Rat)/1000000000))))):=by
 have zd:Zb (d:Int):=aU J J;have zb:Zb (1000000000:Int):=aU Y Y;have w1:=gz (d:Int) ⟨J,J⟩;have w2:=gz 1000000000 ⟨Y,Y⟩;have c1:=uN x (ofQ ((d:Int):Rat)) hx (Vq.ofQ (h:=HQ.int)) J Y;have hp:HQ (p*((d:Int):Rat)) (n+1+4):=@HQ.mul _ _ (n+1) 4 hx.hq HQ.int;have c2:=z7 (ofQ (p*((d:Int):Rat))) (ofQ ((1000000000:Int):Rat)) (hx:=Vq.ofQ (h:=hp)) (hy:=Vq.ofQ (h:=HQ.int)) J Y aS;have e:p*((d:Int):Rat)/((1000000000:Int):Rat)=p*((d:Rat)/1000000000):=by
  rw[show((d:Int):Rat)=(d:Rat) from O,show((1000000000:Int):Rat)=1000000000 from O];grind
 rw[e]at c2;generalize ofQ (p*((d:Rat)/1000000000))=E at *
 generalize ofQ (p*((d:Int):Rat))=T at *
 generalize ofQ ((d:Int):Rat)=D0 at *
 generalize ofQ ((1000000000:Int):Rat)=B at *
 clear hx hp;obtain⟨⟨xn,xl⟩,⟨yn,yl⟩⟩:=x;refine Ret.of_pwp layOk mixed Go.Proofs.Tryz.func172 O Y O O ?_;refine H ?_;refine qy ?_;iterate 3 all_goals ((first
  |refine cg (i:=0) aS rfl ?_
  |refine cg (i:=1) aS rfl ?_
  |refine cg (i:=2) aS rfl ?_
  |refine eu (i:=0) (j:=1) aS rfl rfl ?_ ?_
  |refine eu (i:=0) (j:=2) aS rfl rfl ?_ ?_)<;>(refine aJ ?_;(first|refine dD rfl ?_ | (apply bJ;exact rfl;exact rfl;exact F9 rfl w1 rfl rfl));refine aO ?_))
 all_goals
  refine cg (i:=3) aS O ?_;refine aJ ?_;refine ax (aT 1 O O O O O O O O O O O aI O ?_);refine aO ?_;refine cg (i:=4) aS O ?_;refine aW O (di (Ghost.takeD (k:=8) (t:=8) O O O) ?_)
  (refine jh (dg O (c1) O ?_ O) ?_;.repeat' constructor)
  refine aJ ?_;refine aO ?_;refine cg (i:=5) aS O ?_;refine aJ ?_;refine sO O O O w2 O O ?_;refine aO ?_;refine cg (i:=6) aS O ?_;refine aJ ?_;refine sO O O O c2 O O ?_;refine aO ?_;refine cg (i:=7) aS O ?_;refine aJ ?_;refine dD O ?_;refine aO ?_;refine⟨by decide +kernel,bL ?_⟩;exact bI
end Go.Pv
namespace Go.Pv
open Go.RowKit
variable [Globs]
variable {s:St}
theorem Ghost.freezeD {k gk k0 g0 i j n sz:Nat}{T:TypeId}{rows:List (List PV)}{c0:Cont}{row:List PV}(hk:Nat.beq k0 k=false)(ho:s.own k=(gk,some ⟨T,sz,rows,1⟩))(h0:s.own k0=(g0,some c0))(hkind:c0.kind=2)(hrow:c0.rows[i]? = some row)(hj:row[j]? = some (.als k gk 0 n))(hz0:Nat.blt 0 c0.sz=true)(hn:n=rows.length) :
  Ghost s ((s.setOwn k (gk+1) none).setOwn k0 g0 (some ⟨c0.ty,c0.sz,c0.rows.set i (row.set j (.sl rows)),2⟩)):=by
 intro C a w hX ⟨γ,h⟩;subst hn;have hne:k0≠k:=fun e=>by subst e;simp at hk
 obtain⟨h1,hle,-⟩:=h.drop hX ho;have ho1:(s.setOwn k (gk+1) none).own k0=(g0,some c0):=by rw[ay hne];exact h0
 have hsite:=h.sites k0 c0 (by rw[h0]);have hlt:=(bi hrow).1;have hlt2:=(bi hj).1;have hfr:∀v,Rep (am C γ s w) (.als k gk 0 rows.length) v->Rep (am C γ (s.setOwn k (gk+1) none) w) (.sl rows) v:=by
  intro v hp;refine .d ?_;rcases h.als_at hp ho with⟨q1,_,q3,q4⟩|⟨b,cap,cur,q1,q2,q3,q4,q5,q6,q7⟩
  .have:rows=[]:=(h.sites k _ (by rw[ho])).emp q1;rw[this,q4];exact .sl0 _ _
  .obtain⟨cur',g1,g2,g3,g4,g5⟩:=h.site_at ho q1 (h.cells_sz ho q1 q3 q6);have hb:(am C γ (s.setOwn k (gk+1) none) w).ok b:=by
    have hbase:=h.base k _ b (by rw[ho]) q1;refine⟨hbase.2,fun hx=>?_,fun k' c' hc' hb'=>?_⟩
    .have:=hX b hx;omega
    .by_cases hk':k'=k
     .subst hk';rw[ah]at hc';cases hc'
     .rw[ay hk']at hc';exact hk' (h.inj k' k c' _ b hc' (by rw[ho]) hb' q1)
   rw[q2];simp only[Nat.zero_mul];refine .sl rows b 0 cap sz (fun i j=>cur'.getD (i*sz+j) undef) hb g2 q4 g4 (fun i j row pv e1 e2=>?_) (fun i j row pv e1 e2=>?_)
   .obtain⟨u,f1,f2,_⟩:=g5 i j row pv e1 e2;have g1:w.heap[b]? = some (.cells cur' T (0,0)):=g1;show w.cell? _=_/\_;rw[aX g1,Nat.zero_add,f1];simp[f1,f2]
   .obtain⟨u,f1,_,f3⟩:=g5 i j row pv e1 e2;have hu:cur'.getD (i*sz+j) undef=u:=by simp[f1]
    simp only[hu];exact hle.drep f3
 have he:=ku (C:=C) (γ:=γ) (w:=w) (c1:=⟨c0.ty,c0.sz,c0.rows.set i (row.set j (.sl rows)),2⟩) ho1 O O ai;have hother:∀k',k'≠k0->((s.setOwn k (gk+1) none).setOwn k0 g0 (some ⟨c0.ty,c0.sz,c0.rows.set i (row.set j (.sl rows)),2⟩)).own k'=(s.setOwn k (gk+1) none).own k':=fun k' hk'=>ay hk';have hsome:∀k' c',(((s.setOwn k (gk+1) none).setOwn k0 g0 (some ⟨c0.ty,c0.sz,c0.rows.set i (row.set j (.sl rows)),2⟩)).own k').2=some c'->∃c'',((s.setOwn k (gk+1) none).own k').2=some c'':=by
  intro k' c' hc';by_cases hk':k'=k0
  .subst hk';exact⟨c0,by rw[ho1]⟩
  .rw[hother k' hk']at hc';exact⟨c',hc'⟩
 refine⟨γ,h1.defers,h1.size,fun r=>by rw[he];exact h1.regs r,fun k' c' hc'=>?_,fun k1 k2 c1 c2 b e1 e2 e3 e4=>?_,fun k' c' b e1 e2=>?_,h1.below,h1.top,fun c v hk=>by rw[he];exact h1.kept c v hk⟩
 .rw[he];by_cases hk':k'=k0
  .subst hk';rw[ah]at hc';have hc':=Option.some.inj hc';subst hc';have hz0:0<c0.sz:=by simpa using hz0
   refine⟨fun hb=>?_,(fun b _ hz=>by simp only at hz;omega),(fun b _ hz=>by simp only at hz;omega),fun b hb _=>?_⟩
   .have:=hsite.emp hb;rw[this]at hrow;simp at hrow
   .obtain⟨cur,f1,f2,f3,f4,f5⟩:=hsite.at_ b hb hz0;refine⟨cur,f1,f2,by simpa using f3,fun r hr=>?_,fun i' j' row1 pv1 e1 e2=>?_⟩
    .rcases List.mem_or_eq_of_mem_set hr with hr|rfl
     .exact f4 r hr
     .simpa using f4 row (a_ hrow)
    .by_cases hi:i'=i
     .subst hi;rw[List.getElem?_set_self hlt]at e1;have e1:=Option.some.inj e1;subst e1;by_cases hjj:j'=j
      .subst hjj;rw[List.getElem?_set_self hlt2]at e2;have e2:=Option.some.inj e2;subst e2;obtain⟨v,u1,u2,u3⟩:=f5 i' j' row _ hrow hj;rw[hkind]at u3;exact⟨v,u1,u2,hfr v u3⟩
      .rw[List.getElem?_set_ne (Ne.symm hjj)]at e2;obtain⟨v,u1,u2,u3⟩:=f5 i' j' row pv1 hrow e2;rw[hkind]at u3;exact⟨v,u1,u2,Rep.mono hle u3⟩
     .rw[List.getElem?_set_ne (Ne.symm hi)]at e1;obtain⟨v,u1,u2,u3⟩:=f5 i' j' row1 pv1 e1 e2;rw[hkind]at u3;exact⟨v,u1,u2,Rep.mono hle u3⟩
  .rw[hother k' hk']at hc';exact h1.sites k' c' hc'
 .obtain⟨d,hd⟩:=hsome k1 c1 e1;obtain⟨d',hd'⟩:=hsome k2 c2 e2;exact h1.inj k1 k2 d d' b hd hd' e3 e4
 .obtain⟨d,hd⟩:=hsome k' c' e1;exact h1.base k' d b hd e2
end Go.Pv
set_option maxHeartbeats 2000000
namespace Go.Pv
attribute [local irreducible] PWP POps PQuiet PSem aF au ak aj
open Go.Proofs
set_option maxRecDepth 20000 in
theorem mO (l:List Int)(hl:l.length<=1000000000):Ret Tryz.prog .fresh 171 [.sl (l.map eN)] (.sl (l.map eN)):=by
 refine Ret.of_pwp layOk mixed Go.Proofs.Tryz.func171 O Y O O ?_
 ((repeat ((fail_if_success (with_reducible refine aR 1 ?_));refine b9 O ?_));refine aM 1 ?_)
 refine dD O ?_;refine aO ?_;refine aW O (eX layOk O O O (fun h0=>?_) ?_)
 .rw[h0];refine aJ ?_
  (repeat ((fail_if_success (with_reducible refine cA ?_));refine b9 O ?_))
  refine aq (Ghost.nilfs (t:=2) O) ?_;refine H ?_;exact oO O O O trivial O
 .refine aJ ?_;refine H ?_;refine ax (aT 0 O O O O O O O O O O O aI O ?_);refine H ?_;refine ax (bb 1 O O O O O O O O O O O aI (by intro row hr;obtain⟨p,_,rfl⟩:=List.mem_map.1 hr;rfl) O O aK aK ?_)
  (repeat ((fail_if_success (with_reducible refine cA ?_));refine b9 O ?_))
  refine aq (Ghost.takeF (k:=5) (t:=2) l O O O O (fun _=>rfl)) ?_;refine H ?_;exact oO O O O aI O
def lq (x:RR):RR:=ofQ x.val
def qY (x:SR):SR:=⟨x.x,lq x.c,⟨x.k.S,x.k.M.map lq⟩⟩
def FN (ch:SR->SR)(b:BR):BR:=⟨b.w,lq b.a,b.l.map fun x=>ch (qY x)⟩
structure ChOk (f:FuncId) (caps:List PV) (ch:SR->SR) (x:SR):Prop where
 run:∀ {K:St->Prop} {s:St} {d g g4 g5 g400:Nat} {c4 c5 c400:Cont} {c a:Operand} {tys:Array TypeId} {ty:TypeId} {pos:String} {af:Array Edge},s.ev c = .clo f caps->s.ev a = .ptr 8 g 0 0 ->
 FitO s [(8,g,⟨136,7,[eS x],2⟩),(4,g4,c4),(5,g5,c5),(400,g400,c400)] ->
 (∀s1:St,K (({ reg:=s.reg,own:=(s1.over [] [(8,g,⟨136,7,[eS (ch x)],2⟩),(4,g4,c4),(5,g5,c5),(400,g400,c400)]).own }:St).putR d (.tup []))) ->
 Sm Tryz.prog lay.get s ⟨some d,.call ⟨.value c,#[a],tys⟩,ty,pos,af,none⟩ K
theorem BQ (x:SR):ChOk 176 [] id x:=by
 constructor;intro K s d g g4 g5 g400 c4 c5 c400 c a tys ty pos af hc ha ho hK;refine cF layOk O hc Tryz.func176 O Y O O ?_;show PWP _ _ _ _ (b8 s (([a]:List Operand).map s.ev++[]));have hk:=hK s;simp only[id_eq]at hk;rw[Fit.over (l:=[]) ho]at hk;refine H ?_;exact kA O hk
theorem gh {α β:Type}{f:α->β}{l:List α}{k:Nat}{x:α}(h:l[k]? = some x):(l.take (k+1)).map f=(l.take k).map f++[f x]:=by rw[br h,List.map_append];rfl
set_option maxRecDepth 20000 in
theorem tO (b:BR)(hb:b.Lim)(h12:b.l.length<=1000)(hM:∀s∈b.l,s.k.M.length<=1000)(cl:FuncId)(caps:List PV)(ch:SR->SR)(hch:∀s∈b.l,ChOk cl caps ch (qY s)) :
  Ret Tryz.prog .shared 175 [.agg (eB b),.clo cl caps] (.agg (eB (FN ch b))):=by
 have h1:=BW b.a (hx:=hb.a.v) Y;have hml:(b.l.map eS).length=b.l.length:=ai;obtain⟨w,ba,l⟩:=b;simp only at *
 have hll:=hb.l.1;rw[show ofQ ba.val=lq ba from O]at h1;clear hb;generalize hG:(fun x=>ch (qY x))=G0;rw[FN,hG];generalize lq ba=A0 at *
 refine Ret.of_pwp layOk mixed Go.Proofs.Tryz.func175 O Y O O ?_;refine H ?_;refine bC 6 1 [11,12,13,14,15,16,5] [] aS O ?_;refine G h1 ?_;refine H ?_;refine aq (Ghost.nilcell (k:=400) (k0:=5) (i:=0) (j:=5) (row:=I w::(eR A0++[.nil])) 136 7 1 O O O O O O O) ?_;refine ao (fun i:Nat=>i<=l.length) (fun i=>[(1,.clo cl caps),(4,.ptr 4 1 0 0),(5,.ptr 5 1 0 0),(18,.sl (l.map eS)),(19,I l.length),(20,I (i:Nat))])
  (fun i=>[(4,1,⟨158,6,[I 0::(zN++[.nil])],2⟩),(5,1,⟨158,6,[I w::(eR A0++[.als 400 (1+i) 0 (((l.take i).map G0).map eS).length])],2⟩),(400,1+i,⟨136,7,((l.take i).map G0).map eS,1⟩)]) (fun i=>l.length-i) 0 (Nat.zero_le _) ⟨O,O,O,O,by rw[<-hml];rfl,O,O,O,O,trivial⟩ ?_
 intro i s hi;refine D ?_ ?_<;>intro h
 .have hlt:i<l.length:=by have:=aB h;omega
  clear h;obtain⟨x,hx⟩:=aH hlt;have hxm:=a_ hx;have hxl:=hll x hxm;have hcx:=hch x hxm;have hMx:=hM x hxm;have hrow:=gh (f:=G0) hx;have hil:((l.take i).map G0).length<=1000:=by rw[List.length_map,List.length_take];omega
  have hw:=c9 i;have hGx:G0 x=ch (qY x):=by rw[<-hG]
  generalize G0 x=y at *
  generalize (l.take i).map G0=B at *
  have e1:=BW x.c (hx:=hxl.c.v) Y;rw[show ofQ x.c.val=lq x.c from O]at e1;have e2:=(mO x.k.S hxl.k.ls).shared_of_fresh;have e3:∀m∈x.k.M,Ret Tryz.prog .shared 233 [.agg (eR m)] (.agg (eR (lq m))):=fun m hm=>BW m (hx:=(hxl.k.m m hm).v) Y;have hmm:(x.k.M.map eR).length=x.k.M.length:=ai;obtain⟨xx,xc,xS,xM⟩:=x;simp only[qY]at *
  generalize lq xc=XC at *
  refine aN hx ?_
  (repeat ((fail_if_success (with_reducible refine aR 5 ?_));refine b9 O ?_))
  refine aq (gH 8) ?_;refine bC 11 1 [24,25,26,27,28,29,30,31,32,33,34,8] [] aS O ?_;refine G e1 ?_;refine G e2 ?_;refine H ?_;refine bj [(1,.clo cl caps),(4,.ptr 4 1 0 0),(5,.ptr 5 1 0 0),(8,.ptr 8 ((s.own 8).1+2+1) 0 0),(18,.sl (l.map eS)),(19,I l.length),(20,I (i:Nat)),(37,.sl (xM.map eR)),(38,I (xM.map eR).length),(39,I ((0:Nat):Int))]
   [(4,1,⟨158,6,[I 0::(zN++[.nil])],2⟩),(5,1,⟨158,6,[I w::(eR A0++[.als 400 (1+i) 0 (B.map eS).length])],2⟩),(400,1+i,⟨136,7,B.map eS,1⟩),(8,(s.own 8).1+2+1,⟨136,7,[I xx::(eR XC++[.sl (xS.map eN),.nil])],2⟩)]
   ⟨O,O,O,O,O,O,O,O,O,O,O,O,O,O,trivial⟩ ?_
  generalize (s.own 8).1+2+1=g8;rw[hmm];intro s1;refine aq (Ghost.nilcell (k:=300) (k0:=8) (i:=0) (j:=6) (row:=I xx::(eR XC++[.sl (xS.map eN),.nil])) 42 4 1 O O O O O O O) ?_;have hg3:∃g3,(s1.own 300).1+1=g3:=⟨_,O⟩;obtain⟨g3,hg3⟩:=hg3;refine ao (fun k:Nat=>k<=xM.length) (fun k=>[(1,.clo cl caps),(4,.ptr 4 1 0 0),(5,.ptr 5 1 0 0),(8,.ptr 8 g8 0 0),(18,.sl (l.map eS)),(19,I l.length),(20,I (i:Nat)),(37,.sl (xM.map eR)),(38,I xM.length),(39,I (k:Nat))])
   (fun k=>[(4,1,⟨158,6,[I 0::(zN++[.nil])],2⟩),(5,1,⟨158,6,[I w::(eR A0++[.als 400 (1+i) 0 (B.map eS).length])],2⟩),(400,1+i,⟨136,7,B.map eS,1⟩),(8,g8,⟨136,7,[I xx::(eR XC++[.sl (xS.map eN),.als 300 (g3+k) 0 (((xM.take k).map lq).map eR).length])],2⟩),(300,g3+k,⟨42,4,((xM.take k).map lq).map eR,1⟩)]) (fun k=>xM.length-k) 0 (Nat.zero_le _)
   ⟨O,O,O,O,O,O,O,O,O,O,O,O,O,by rw[<-hg3];rfl,by rw[<-hg3];rfl,trivial⟩ ?_
  clear hg3;intro k s2 hk;refine D ?_ ?_<;>intro h
  .have hlk:k<xM.length:=by have:=aB h;omega
   clear h;obtain⟨m,hm⟩:=aH hlk;have e4:=e3 m (a_ hm);have hrk:=gh (f:=lq) hm;have hkl:((xM.take k).map lq).length<=1000:=by rw[List.length_map,List.length_take];omega
   have hwk:IntKind.i64.wrap (((k:Nat):Int)+1)=((k+1:Nat):Int):=by rw[wrap_i64 J J];omega
   generalize lq m=n at *
   generalize (xM.take k).map lq=E at *
   refine aN hm ?_
   (repeat ((fail_if_success (with_reducible refine aR 9 ?_));refine b9 O ?_))
   refine dM [48,300] [8] 9 [5,6,9] aS aS ?_;refine G e4 ?_;refine H ?_;refine js O O O (aT 1 O O O O O O O O O O O aI O ⟨dR O,?_⟩);refine H ?_;refine js O O O (bb 1 O O O O O O O O O O O aI (by intro row hr;first|(simp at hr;subst hr;rfl)|(simp at hr;obtain⟨_,_,rfl⟩:=hr;rfl)|simp at hr) O O aK aK ⟨dR O,?_⟩);refine H ?_;have hb3:g3+(k+1)=g3+k+1:=O;refine⟨k+1,hlk,J,O,O,O,O,O,O,O,O,O,congrArg I hwk,O,O,O,?_,?_,trivial⟩
   .rw[hrk,hb3];refine Eq.trans (b:=(g8,some (Cont.mk 136 7 [I xx::(eR XC++[.sl (xS.map eN),.als 300 (g3+k+1) 0 (E.map eR++[eR n]).length])] 2))) O ?_;rw[show(E++[n]).map eR=E.map eR++[eR n] by rw[List.map_append];rfl]
   .rw[hrk,hb3,show(E++[n]).map eR=E.map eR++[eR n] by rw[List.map_append];rfl];rfl
  .have hke:k=xM.length:=by have:=aG h;omega
   clear h;subst hke;rw[List.take_length];refine aq (Ghost.freezeD (k:=300) (k0:=8) (i:=0) (j:=6) (row:=I xx::(eR XC++[.sl (xS.map eN),.als 300 (g3+xM.length) 0 ((xM.map lq).map eR).length])) O O O O O O O O) ?_
   ((repeat ((fail_if_success (with_reducible refine aR 11 ?_));refine b9 O ?_));refine aM 1 ?_)
   refine dD O ?_;refine aO ?_;refine aW O (hcx.run O O ⟨O,O,O,O,trivial⟩ fun s3=>?_);refine aJ ?_;refine H ?_;refine ax (aT 1 O O O O O O O O O O O aI O ?_);refine H ?_;refine ax (bb 1 O O O O O O O O O O O aI (by intro row hr;first|(simp at hr;subst hr;rfl)|simp at hr) O O aK aK ?_);refine H ?_;have hb4:1+(i+1)=1+i+1:=O;refine⟨i+1,hlt,J,O,O,O,O,O,congrArg I hw,O,?_,?_,trivial⟩
   .rw[hrow,hb4];refine Eq.trans (b:=(1,some (Cont.mk 158 6 [I w::(eR A0++[.als 400 (1+i+1) 0 (B.map eS++[eS y]).length])] 2))) ?_ ?_
    .rw[hGx];rfl
    .rw[show(B++[y]).map eS=B.map eS++[eS y] by rw[List.map_append];rfl]
   .rw[hrow,hb4,show(B++[y]).map eS=B.map eS++[eS y] by rw[List.map_append];rfl,hGx];rfl
 .have hie:i=l.length:=by have:=aG h;omega
  clear h;subst hie;rw[List.take_length];refine aq (Ghost.freezeD (k:=400) (k0:=5) (i:=0) (j:=5) (row:=I w::(eR A0++[.als 400 (1+l.length) 0 ((l.map G0).map eS).length])) O O O O O O O O) ?_;exact bI
structure StOk (t:ST):Prop where
 x : -1000000<=t.x/\t.x<=1000000
 w:1<=t.w/\t.w<=100000
 n:2<=t.L.length/\t.L.length<=30
 h:t.H0.length+1=t.L.length
 L:∀l∈t.L,0<=l/\l<=100000
 H0:∀h∈t.H0,0<=h/\h<=100000
 asc:∀i a b,t.L[i]? = some a->t.L[i+1]? = some b->a<b
theorem dA {n lo hi:Int}(h:ar n lo hi=true):lo<=n/\n<=hi:=by
 simp[ar]at h;exact h
theorem El {t:ST}{u:Option ST}(h:iB t u=0):StOk t:=by
 have hp:=qR h;have hf:dw t=0:=by
  unfold iB at h;rw[if_pos hp]at h;split at h
  .exact h
  .split at h
   .exact h
   .contradiction
 obtain⟨p1,p2⟩:=nr hp;rw[dw]at hf;split at hf
 rotate_left
 .omega
 rename_i hn;obtain⟨n1,n2⟩:=fB hn.1;split at hf
 rotate_left
 .contradiction
 rename_i hl;have lv:∀i l,t.L[i]? = some l->ar l 0 100000=true/\¬(0<i/\l<=t.L.getD (i-1) 0):=fun i l hi=>by
  have:=ky hl hi;rw[j7]at this;split at this
  .rename_i g;split at this
   .omega
   .rename_i g2;exact⟨g,g2⟩
  .omega
 refine⟨p1,p2,⟨n1,n2⟩,J,fun l hm=>?_,fun x hm=>?_,fun i a b ha hb=>?_⟩
 .obtain⟨i,hi⟩:=List.mem_iff_getElem?.1 hm;exact dA (lv i l hi).1
 .obtain⟨i,hi⟩:=List.mem_iff_getElem?.1 hm;have:=ky hf hi;rw[rN]at this;split at this
  .rename_i g;exact dA g
  .omega
 .have h2:=(lv (i+1) b hb).2;rw[Nat.add_sub_cancel,List.getD_eq_getElem?_getD,ha]at h2;have h2:¬(0<i+1/\b<=a):=h2;omega
def AK (d:Nat)(w h:Int):RR:=ofQ (((2*h*w:Int):Rat)*((d:Rat)/1000000000))
def Cv (d:Nat)(t:ST):List RR:=t.H0.map (AK d t.w)++[ofQ 0]
def me (d:Nat)(t:ST):SR:=⟨t.x,ofQ 0,⟨t.L,Cv d t⟩⟩
def eF (d:Nat)(l:List ST):List SR:=l.map (me d)
theorem A8 {d:Nat}{l:List ST}{k:Nat}{t:ST}(h:l[k]? = some t):(eF d (l.take (k+1))).map eS=(eF d (l.take k)).map eS++[eS (me d t)]:=by rw[br h,eF,eF,List.map_append,List.map_append];rfl
theorem CJ {h w:Int}(a:0<=h/\h<=100000)(b:1<=w/\w<=100000):0<=2*h*w/\2*h*w<=20000000000:=by
 have h1:2*h*w<=2*h*100000:=Int.mul_le_mul_of_nonneg_left b.2 J;have h2:0<=2*h*w:=Int.mul_nonneg J J;omega
theorem oK (l:List Int)(hl:l.length<=1000000000):Ret Tryz.prog .fresh 44 [.sl (l.map eN)] (.sl (l.map eN)):=by
 refine Ret.of_pwp layOk mixed Go.Proofs.Tryz.func44 O Y O O ?_;refine H ?_;refine ax (aT 0 O O O O O O O O O O O aI O ?_);refine H ?_;refine ax (bb 1 O O O O O O O O O O O aI (by intro row hr;obtain⟨p,_,rfl⟩:=List.mem_map.1 hr;rfl) O O aK aK ?_)
 (repeat ((fail_if_success (with_reducible refine cA ?_));refine b9 O ?_))
 refine aq (Ghost.takeF (k:=3) (t:=2) l O O O O (fun _=>rfl)) ?_;refine H ?_;exact oO O O O aI O
set_option maxRecDepth 20000 in
theorem ma (s:SHP)(hs:s.Len)(d:Nat)(he:jI s (d:Int)=0)(hd1:1<=d)(hd2:d<=1000000000)(hk:∀t∈s.st,StOk t)(h40:s.st.length<=40):Ret Tryz.prog .shared 94 [.agg (fi s),I (d:Nat)] (.tup [.sl ((eF d s.st).map eS),I 0]):=by
 have h1:=rK s hs (d:Int);rw[he]at h1;have w0:=gz 0 ⟨Y,Y⟩;rw[show(((0:Int):Rat))=0 from O]at w0;have hml:((s.st.map eT).length:Int)=s.st.length:=ai;obtain⟨nm,len,st,light,it⟩:=s;simp only at *
 clear he hs;refine Ret.of_pwp layOk mixed Go.Proofs.Tryz.func94 O Y O O ?_;refine ap h1 ?_
 (repeat ((fail_if_success (with_reducible refine aR 5 ?_));refine b9 O ?_))
 refine aq (Ghost.nilreg (k:=1007) (t:=7) 136 7 1 O O) ?_;refine H ?_;rw[hml];refine ao (fun i:Nat=>i<=st.length) (fun i=>[(1,I (d:Nat)),(2,.ptr 2 1 0 0),(7,.als 1007 (1+i) 0 ((eF d (st.take i)).map eS).length),(20,.sl (st.map eT)),(21,I st.length),(22,I (i:Nat))]) (fun i=>[(2,1,⟨27,9,[fi ⟨nm,len,st,light,it⟩],2⟩),(1007,1+i,⟨136,7,(eF d (st.take i)).map eS,1⟩)]) (fun i=>st.length-i) 0 (Nat.zero_le _) ⟨O,O,O,O,O,O,O,O,trivial⟩ ?_;intro i s hi;refine D ?_ ?_<;>intro h
 .have hlt:i<st.length:=by have:=aB h;omega
  clear h;obtain⟨t,hx⟩:=aH hlt;have ok:=hk t (a_ hx);have hsn:=A8 (d:=d) hx;have hsl:(eF d (st.take i)).length<=40:=by rw[eF,List.length_map,List.length_take];omega
  have hw:=c9 i;have e2:=(mO t.L (by have:=ok.n;omega)).shared_of_fresh;have hmh:((t.H0.map eN).length:Int)=t.H0.length:=ai;have hn:=ok.n;have hh:=ok.h;generalize hS:eF d (st.take i)=S at *
  obtain⟨tx,tw,tL,tH⟩:=t;simp only at *
  refine aN hx ?_;refine G e2 ?_;refine H ?_;rw[hmh];refine bj [(1,I (d:Nat)),(2,.ptr 2 1 0 0),(7,.als 1007 (1+i) 0 (S.map eS).length),(9,.ptr 9 ((s.own 9).1+1) 0 0),(10,.ptr 10 ((s.own 10).1+1) 0 0),(20,.sl (st.map eT)),(21,I st.length),(22,I (i:Nat)),(31,.sl (tH.map eN)),(32,I tH.length),(33,I ((0:Nat):Int))] [(2,1,⟨27,9,[fi ⟨nm,len,st,light,it⟩],2⟩),(1007,1+i,⟨136,7,S.map eS,1⟩),(9,(s.own 9).1+1,⟨130,4,[eT ⟨tx,tw,tL,tH⟩],2⟩),(10,(s.own 10).1+1,⟨134,2,[[.sl (tL.map eN),.nil]],2⟩)] ⟨O,O,O,O,O,O,O,O,O,O,O,O,O,O,O,trivial⟩ ?_;generalize (s.own 9).1+1=g9;generalize (s.own 10).1+1=g10;intro s1;refine aq (Ghost.nilcell (k:=300) (k0:=10) (i:=0) (j:=1) (row:=[.sl (tL.map eN),.nil]) 42 4 1 O O O O O O O) ?_;have hg3:∃g3,(s1.own 300).1+1=g3:=⟨_,O⟩;obtain⟨g3,hg3⟩:=hg3;refine ao (fun k:Nat=>k<=tH.length) (fun k=>[(1,I (d:Nat)),(2,.ptr 2 1 0 0),(7,.als 1007 (1+i) 0 (S.map eS).length),(9,.ptr 9 g9 0 0),(10,.ptr 10 g10 0 0),(20,.sl (st.map eT)),(21,I st.length),(22,I (i:Nat)),(31,.sl (tH.map eN)),(32,I tH.length),(33,I (k:Nat))])
   (fun k=>[(2,1,⟨27,9,[fi ⟨nm,len,st,light,it⟩],2⟩),(1007,1+i,⟨136,7,S.map eS,1⟩),(9,g9,⟨130,4,[eT ⟨tx,tw,tL,tH⟩],2⟩),(10,g10,⟨134,2,[[.sl (tL.map eN),.als 300 (g3+k) 0 (((tH.take k).map (AK d tw)).map eR).length]],2⟩),(300,g3+k,⟨42,4,((tH.take k).map (AK d tw)).map eR,1⟩)]) (fun k=>tH.length-k) 0 (Nat.zero_le _)
   ⟨O,O,O,O,O,O,O,O,O,O,O,O,O,O,by rw[<-hg3];rfl,by rw[<-hg3];rfl,trivial⟩ ?_
  clear hg3;intro k s2 hkl;refine D ?_ ?_<;>intro h
  .have hlk:k<tH.length:=by have:=aB h;omega
   clear h;obtain⟨x,hm⟩:=aH hlk;have hxl:=ok.H0 x (a_ hm);have hvl:0<=2*x*tw/\2*x*tw<=20000000000:=CJ hxl ok.w;obtain⟨v1,v2⟩:=hvl;have zv:Zb (2*x*tw):=aU J J;have u1:=gz (2*x*tw) ⟨J,J⟩;have u2:=xk (ofQ ((2*x*tw:Int):Rat)) (hx:=Vq.ofQ (h:=HQ.int)) Y d hd1 hd2;rw[show ofQ (((2*x*tw:Int):Rat)*((d:Rat)/1000000000))=AK d tw x from O]at u2;have q1:IntKind.i64.wrap (2*x)=2*x:=wrap_i64 J J;have q2:IntKind.i64.wrap (2*x*tw)=2*x*tw:=wrap_i64 J J;have hrk:=gh (f:=AK d tw) hm;have hkl2:((tH.take k).map (AK d tw)).length<=1000:=by rw[List.length_map,List.length_take];omega
   have hwk:IntKind.i64.wrap (((k:Nat):Int)+1)=((k+1:Nat):Int):=by rw[wrap_i64 J J];omega
   generalize AK d tw x=n at *
   generalize (tH.take k).map (AK d tw)=E at *
   refine aN hm ?_
   (repeat ((fail_if_success (with_reducible refine aR 12 ?_));refine b9 O ?_))
   refine dM [47,300] [10] 13 [10,11,13] aS aS ?_;refine H ?_;rw[q1];refine H ?_;rw[q2];refine sO O O O u1 O O ?_;refine G u2 ?_;refine H ?_;refine js O O O (aT 1 O O O O O O O O O O O aI O ⟨dR O,?_⟩);refine H ?_;refine js O O O (bb 1 O O O O O O O O O O O aI (by intro row hr;first|(simp at hr;subst hr;rfl)|(simp at hr;obtain⟨_,_,rfl⟩:=hr;rfl)|simp at hr) O O aK aK ⟨dR O,?_⟩);refine H ?_;have hb3:g3+(k+1)=g3+k+1:=O;refine⟨k+1,hlk,J,O,O,O,O,O,O,O,O,O,O,congrArg I hwk,O,O,O,?_,?_,trivial⟩
   .rw[hrk,hb3,show(E++[n]).map eR=E.map eR++[eR n] by rw[List.map_append];rfl];rfl
   .rw[hrk,hb3,show(E++[n]).map eR=E.map eR++[eR n] by rw[List.map_append];rfl];rfl
  .have hke:k=tH.length:=by have:=aG h;omega
   clear h;subst hke;rw[List.take_length];have hsr:Cv d ⟨tx,tw,tL,tH⟩=tH.map (AK d tw)++[ofQ 0]:=O;have hslen:(tH.map (AK d tw)).length<=1000:=by rw[List.length_map];omega
   generalize tH.map (AK d tw)=E at *
   (repeat ((fail_if_success (with_reducible refine aR 14 ?_));refine b9 O ?_))
   refine dM [54,300] [10] 6 [3,4,6] aS aS ?_;refine G w0 ?_;refine H ?_;refine js O O O (aT 1 O O O O O O O O O O O aI O ⟨dR O,?_⟩);refine H ?_;refine js O O O (bb 1 O O O O O O O O O O O aI (by intro row hr;first|(simp at hr;subst hr;rfl)|(simp at hr;obtain⟨_,_,rfl⟩:=hr;rfl)|simp at hr) O O aK aK ⟨dR O,?_⟩)
   (repeat ((fail_if_success (with_reducible refine aR 15 ?_));refine b9 O ?_))
   refine aq (Ghost.freezeD (k:=300) (k0:=10) (i:=0) (j:=1) (row:=[.sl (tL.map eN),.als 300 (g3+tH.length+1) 0 (E.map eR++[eR (ofQ 0)]).length]) O O O O O O O O) ?_;refine bD [63,1007] [6,7,8] aS ?_;refine G w0 ?_;refine H ?_;refine js O O O (aT 1 O O O O O O O O O O O aI O ⟨dR O,?_⟩);refine H ?_;refine js O O O (bb 1 O O O O O O O O O O O aI (by intro row hr;first|(simp at hr;subst hr;rfl)|(simp at hr;obtain⟨_,_,rfl⟩:=hr;rfl)|simp at hr) O O aK aK ⟨dR O,?_⟩);refine H ?_;have hrow:(eF d (st.take (i+1))).map eS=S.map eS++[[I tx]++eR (ofQ 0)++[.sl (tL.map eN),.sl (E.map eR++[eR (ofQ 0)])]]:=by
    rw[hsn,me,hsr,show(eS ⟨tx,ofQ 0,⟨tL,E++[ofQ 0]⟩⟩)=[I tx]++eR (ofQ 0)++[.sl (tL.map eN),.sl ((E++[ofQ 0]).map eR)] from O,List.map_append];rfl
   refine⟨i+1,hlt,J,O,O,?_,O,O,congrArg I hw,O,?_,trivial⟩
   .rw[hrow];rfl
   .rw[hrow];rfl
 .have hie:i=st.length:=by have:=aG h;omega
  clear h;subst hie;rw[List.take_length]
  (repeat ((fail_if_success (with_reducible refine cA ?_));refine b9 O ?_))
  refine aq (Ghost.takeD (k:=1007) (t:=4) O O O) ?_;exact bI
def zB:List PV:=I 0::(zN++[.nil])
def uV:BR:=⟨0,RR.zero,[]⟩
theorem WeakL.app {a b c d:List PV}(h1:WeakL a b)(h2:WeakL c d):WeakL (a++c) (b++d):=by
 induction h1 with
 |nil=>exact h2
 |cons h _ ih=>exact .cons h ih
theorem CP:WeakL zB (eB uV) := .cons (.rfl _) (dP.app (.cons .nil .nil))
set_option maxRecDepth 20000 in
theorem rp (b:BR)(hb:b.Lim):Ret Tryz.prog .shared 174 [.agg (eB b)] (.tup [.agg (eB (if dF b=0 then b else uV)),I (dF b)]):=by
 have h1:=jl b hb;by_cases h0:dF b=0
 .rw[if_pos h0,h0];rw[h0]at h1;refine Ret.of_pwp layOk mixed Go.Proofs.Tryz.func174 O Y O O ?_;refine ap h1 ?_;exact bI
 .rw[if_neg h0]
  suffices hz:Ret Tryz.prog .shared 174 [.agg (eB b)] (.tup [.agg zB,I (dF b)]) from hz.weak (WeakL.refl _) (WeakL.tup (.cons CP.agg (WeakL.refl _)))
  generalize dF b=e at *
  refine Ret.of_pwp layOk mixed Go.Proofs.Tryz.func174 O Y O O ?_;refine ap h1 ?_;refine D ?_ ?_<;>intro h
  .clear h;exact bI
  .simp at h;exact absurd h h0
def qX (s:SHP):Rat:=(sX (s.light::s.it):Rat)/(sM (s.light::s.it):Rat)
def wB (s:SHP)(l:List SR):BR:=⟨sM (s.light::s.it),ofQ (qX s),l⟩
def pB (s:SHP)(l:List SR):BR:=⟨sM (s.light::s.it),ofQ (qX s),l.map qY⟩
theorem iL (p:Rat):lq (ofQ p)=ofQ p:=by rw[lq,ofQ_val]
theorem ET (s:SHP)(l:List SR):FN id (wB s l)=pB s l:=by
 rw[FN,pB];show(⟨sM (s.light::s.it),lq (ofQ (qX s)),l.map fun x=>id (qY x)⟩:BR)=_;rw[iL];rfl
set_option maxRecDepth 20000 in
theorem Bm (s:SHP)(hs:s.Len)(he:ec s=0)(l:List SR)(hb:(wB s l).Lim)(hp:(pB s l).Lim)(h12:l.length<=1000)(hM:∀x∈l,x.k.M.length<=1000):Ret Tryz.prog .shared 95 [.agg (fi s),.sl (l.map eS)] (.tup [.agg (eB (if dF (pB s l)=0 then pB s l else uV)),I (dF (pB s l))]):=by
 have h1:=xg s hs he;have h2:=tO (wB s l) hb h12 hM 176 [] id (fun x _=>BQ (qY x));rw[ET]at h2;have h3:=rp (pB s l) hp;have ew:eB (wB s l)=I (sM (s.light::s.it))::(eR (ofQ (qX s))++[.sl (l.map eS)]):=O;rw[ew]at h2;rw[Bc,show(sX (s.light::s.it):Rat)/(sM (s.light::s.it):Rat)=qX s from O]at h1;generalize ofQ ((sZ (s.light::s.it):Rat)/(sM (s.light::s.it):Rat))=QZ at *
 generalize dF (pB s l)=e at *
 generalize hX:(if e=0 then pB s l else uV)=X at *
 generalize pB s l=c at *
 generalize ofQ (qX s)=QX at *
 generalize sM (s.light::s.it)=m at *
 generalize sF (s.light::s.it)=f at *
 clear hb hp;refine Ret.of_pwp layOk mixed Go.Proofs.Tryz.func95 O Y O O ?_;refine G h1 ?_;refine G h2 ?_;refine G h3 ?_;exact bI
structure BKR where
 x:Int
 z:Int
 hf:Int
 ht:Int
 wd:Int
 st:RR
 lim:Int
 side:Bool
structure ZNR where
 nm:Str
 a:Int
 b:Int
 h:Int
structure DKR where
 s:SHP
 d:Int
 bl:List BKR
 zn:List ZNR
 gm:Int
 oh:Int
def eBk (b:BKR):List PV:=[I b.x,I b.z,I b.hf,I b.ht,I b.wd]++eR b.st++[I b.lim,.bool b.side]
def dC (z:ZNR):List PV:=[.str z.nm,I z.a,I z.b,I z.h]
def cn (d:DKR):List PV:=fi d.s++[I d.d,.sl (d.bl.map eBk),.sl (d.zn.map dC),I d.gm,I d.oh]
structure DKR.Len (d:DKR):Prop where
 s:d.s.Len
 bl:d.bl.length<=9223372036854775807
 zn:d.zn.length<=9223372036854775807
def mg (l:List ZNR)(i:Nat)(z:ZNR):Int:=if bU z.nm=true then(if (l.take i).any (fun y=>decide (y.nm=z.nm))=true then 5 else if (ar z.a (-1000000) 1000000&&ar z.b (-1000000) 1000000&&decide (z.a<=z.b)&&ar z.h 0 100000)=true then 0 else 2) else 4
def eG (l:List ZNR):Int:=if 20<l.length then 8 else e_ l (mg l)
def gJ (L:List Int)(z:Int):List Int->Nat->Option Int
 |[],_=>none
 |h::H0,k=>if z<h then some (L.getD k 0) else gJ L z H0 (k+1)
def mb (x:Int)(t:ST):Bool:=decide (2*t.x-t.w<=2*x)&&decide (2*x<2*t.x+t.w)
def dp (x z:Int):List ST->Option Int
 |[]=>none
 |t::l=>if mb x t=true then(match gJ t.L z t.H0 0 with
  |some n=>some n
  |none=>dp x z l) else dp x z l
def zP (b:BKR):Bool:=ar b.x (-1000000) 1000000&&ar b.hf 1 10000&&ar b.ht 0 100000&&ar b.wd 1 20000&&ar b.lim 0 1000000000&&decide (0<b.st.val)
def j0 (b:BKR):Bool:=zP b&&(if b.side then ar b.z 1 100000&&decide (b.wd<=2*b.z) else decide (b.z=0))
def fT (b:BKR)(z:ZNR):Bool:=decide (b.x-b.hf<z.b)&&decide (z.a<b.x+b.hf)&&decide (2*b.z-b.wd<2*z.h)
def fp (a b:Int):Int:=if a-b<b-a then b-a else a-b
def gd (b c:BKR):Bool:=decide (fp b.x c.x<b.hf+c.hf)&&decide (2*fp b.z c.z<b.wd+c.wd)
def ga (st:List ST)(zn:List ZNR)(l:List BKR)(i:Nat)(b:BKR):Int :=
 if j0 b=true then(if (dp b.x b.z st).isSome=true then(if zn.any (fT b)=true then 15 else if (l.take i).any (gd b)=true then 17 else 0) else 6) else 2
def lR (st:List ST)(zn:List ZNR)(l:List BKR):Int:=if 40<l.length then 8 else e_ l (ga st zn l)
def jg (d:DKR):Int :=
 if jI d.s d.d=0 then(if eG d.zn=0 then(if lR d.s.st d.zn d.bl=0 then(if (ar d.gm (-100000) 100000&&ar d.oh 0 1000000)=true then 0 else 2) else lR d.s.st d.zn d.bl) else eG d.zn) else jI d.s d.d
theorem mY {L:List Int}{z:Int}{H0:List Int}{k:Nat}{h:Int}(hx:H0[k]? = some h):gJ L z (H0.drop k) k=if z<h then some (L.getD k 0) else gJ L z (H0.drop (k+1)) (k+1):=by
 obtain⟨hl,rfl⟩:=bi hx;rw[List.drop_eq_getElem_cons hl,gJ]
theorem oE {x z:Int}{l:List ST}{k:Nat}{t:ST}(hx:l[k]? = some t):dp x z (l.drop k)=if mb x t=true then(match gJ t.L z t.H0 0 with
  |some n=>some n
  |none=>dp x z (l.drop (k+1))) else dp x z (l.drop (k+1)):=by
 obtain⟨hl,rfl⟩:=bi hx;rw[List.drop_eq_getElem_cons hl,dp]
def other (c:UInt8):Bool:=(decide (48<=(c.toNat:Int))&&decide ((c.toNat:Int)<=57))||decide ((c.toNat:Int)=45)
theorem bm (n lo hi:Int):Ret Tryz.prog .shared 67 [I n,I lo,I hi] (.bool (!ar n lo hi)):=by
 refine Ret.of_pwp layOk mixed Go.Proofs.Tryz.func67 O Y O O ?_;refine cV ?_ ?_<;>intro h
 .have h1:=aB h;refine H ?_;exact cJ O O (by simp[ar];omega)
 .have h1:=aG h;refine H ?_;exact cJ O O (by rw[ar,decide_eq_true (show lo<=n by omega),Bool.true_and,<-decide_not];exact congrArg PV.bool (decide_eq_decide.2 J))
theorem bO (n lo hi:Int):Ret Tryz.prog .shared 72 [I n,I lo,I hi] (.bool (ar n lo hi)):=by
 refine Ret.of_pwp layOk mixed Go.Proofs.Tryz.func72 O Y O O ?_;refine cV ?_ ?_<;>intro h
 .refine H ?_;exact cJ O O (by simp[ar,aB h])
 .refine H ?_;exact cJ O O (by simp[ar,h])
theorem xt (l:Str):Ret Tryz.prog .shared 129 [.str l] (.bool (bU l)):=by
 refine Ret.of_pwp layOk mixed Go.Proofs.Tryz.func129 O Y O O ?_
 repeat' (first|refine dD O ?_|refine cx O O (fun h=>?_) (fun h=>?_)|refine cw O O (fun h=>?_) (fun h=>?_)|refine cu O O (fun h=>?_) (fun h=>?_))
 .have h0:l=[]:=by simpa using h
  subst h0;exact ef
 have h1:1<=l.length:=by
  have h0:l≠[]:=by simpa using h
  have:=List.length_pos_iff.2 h0;omega
 refine D ?_ ?_<;>intro h
 .have:=aB h;refine H ?_;exact cJ O O (by simp[bU];omega)
 have h2:=aG h;refine H ?_;refine ao (ClearE l k9) (fun k=>[(0,.str l),(15,I l.length),(16,I k)]) (fun _=>[]) (fun k=>l.length-k) 0 .zero' ⟨O,O,O,trivial⟩ ?_;intro k s hk;refine D ?_ ?_<;>intro h
 .have hlt:k<l.length:=by simpa using h
  obtain⟨x,hx⟩:=aH hlt;have hget:l.getD k 0=x:=by rw[List.getD_eq_getElem?_getD,hx];rfl
  refine H ?_;refine gN O ⟨J,J⟩ ?_;have hn:((l.getD (Int.toNat (k:Int)) 0).toNat:Int)=x.toNat:=by rw[Int.toNat_natCast,hget]
  rw[hn];have hkb:k<12:=J;clear h hn h1 h2;refine gN O trivial ?_
  ((repeat (first|refine aO ?_ | refine cf ?_ | refine bL ?_ | refine bS ?_));refine bc ?_)
  refine jU 100 [(0,.str l),(3,I k),(4,.int .u8 x.toNat),(5,.bool (iJ x)),(15,I l.length),(16,I k)] [] ?_ ?_
  .repeat' (first|refine dD O ?_|refine cx O O (fun h=>?_) (fun h=>?_)|refine cw O O (fun h=>?_) (fun h=>?_)|refine cu O O (fun h=>?_) (fun h=>?_))
   all_goals exact⟨O,O,O,(congrArg PV.bool (by simp_all [iJ]<;>omega)),O,O,trivial⟩
  intro s
  ((repeat (first|refine aO ?_ | refine cf ?_ | refine bL ?_ | refine bS ?_));refine bc ?_)
  refine jU 101 [(0,.str l),(3,I k),(5,.bool (iJ x)),(6,.bool (other x)),(15,I l.length),(16,I k)] [] ?_ ?_
  .repeat' (first|refine dD O ?_|refine cx O O (fun h=>?_) (fun h=>?_)|refine cw O O (fun h=>?_) (fun h=>?_)|refine cu O O (fun h=>?_) (fun h=>?_))
   all_goals exact⟨O,O,O,(congrArg PV.bool (by simp_all [other]<;>omega)),O,O,trivial⟩
  intro s
  repeat' (first|refine dD O ?_|refine cx O O (fun h=>?_) (fun h=>?_)|refine cw O O (fun h=>?_) (fun h=>?_)|refine cu O O (fun h=>?_) (fun h=>?_))
  all_goals try (refine bh O (fun hc=>?_) (fun hc=>?_))
  all_goals repeat refine dD O ?_
  all_goals first
   |(
    refine cJ O O ?_;have hb:k9 k x=1:=by simp_all [k9,tE,other]<;>omega
    have:=hk.found hx hb J
    simp[bU,this])
   |(
    refine⟨k+1,hk.succ hx (by simp_all [k9,tE,other]<;>omega),J,O,O,?_,trivial⟩
    exact bN J J)
 .refine H ?_;exact cJ O O (by simp only[bU,hk.none (by simpa using h)];simp;omega)
theorem j6 (z:Int)(h:i64 z):Ret Tryz.prog .shared 106 [I z] (.agg (eR (ofQ (z:Rat)))):=by
 have ho:=qr z h.1 h.2;have hw:=jd (ci z) (by have:=iO (z:=z) (by obtain⟨h1,h2⟩:=h;omega);omega);rw[cd]at hw;generalize ofQ (z:Rat)=X at *
 generalize ci z=Z at *
 refine Ret.of_pwp layOk mixed Go.Proofs.Tryz.func106 O Y O O ?_;refine G ho ?_;refine G hw ?_;exact bI
theorem td (x:RR){p:Rat}{n:Nat}[hx:Vq x p n](hn:n<=8000000):Ret Tryz.prog .shared 137 [.agg (eR x)] (I (sgn p)):=by
 have hc:=mP x RR.zero hn Y;rw[Rat.sub_eq_add_neg,Rat.neg_zero,Rat.add_zero]at hc;have hc2:=hc.weak (.cons (.rfl _) (.cons dP.agg .nil)) (.rfl _);generalize sgn p=g at *
 refine Ret.of_pwp layOk mixed Go.Proofs.Tryz.func137 O Y O O ?_;refine ap hc2 ?_;exact bq
def nb (p:ZNR->Bool):List ZNR->Nat->Int
 |[],_ => -1
 |d::l,i=>if p d=true then(i:Int) else nb p l (i+1)
theorem rP (p:ZNR->Bool):∀(l:List ZNR) (i:Nat),decide (0<=nb p l i)=l.any p
 |[],i=>rfl
 |d::l,i=>by
  rw[nb,List.any_cons];cases h:p d
  .rw[if_neg Y,rP p l (i+1),Bool.false_or]
  .rw[if_pos O,Bool.true_or,decide_eq_true];omega
theorem wX (p:ZNR->Bool){l:List ZNR}{i:Nat}{x:ZNR}(h:l[i]? = some x):nb p (l.drop i) i=if p x=true then(i:Int) else nb p (l.drop (i+1)) (i+1):=by
 obtain⟨hl,rfl⟩:=bi h;rw[List.drop_eq_getElem_cons hl,nb]
theorem yu (y z:ZNR):Ret Tryz.prog .shared 131 [.agg (dC y),.dref (dC z) 0] (.bool (decide (y.nm=z.nm))):=by
 refine Ret.of_pwp layOk mixed Go.Proofs.Tryz.func131 O Y O O ?_;exact ef
set_option maxRecDepth 20000 in
theorem uT (T:List ZNR)(hT:T.length<=1000)(z:ZNR):Ret Tryz.prog .shared 192 [.sl (T.map dC),.clo 131 [.dref (dC z) 0]] (I (nb (fun y=>decide (y.nm=z.nm)) T 0)):=by
 have hml:(T.map dC).length=T.length:=ai;generalize hp:(fun y:ZNR=>decide (y.nm=z.nm))=p;have hg:∀d:ZNR,Ret Tryz.prog .shared 131 [.agg (dC d),.dref (dC z) 0] (.bool (p d)):=fun d=>by rw[<-hp];exact yu d z
 clear hp;generalize hF:nb p T 0=F;refine Ret.of_pwp layOk mixed Go.Proofs.Tryz.func192 O Y O O ?_;refine H ?_;refine ao (fun i:Nat=>i<=T.length/\nb p (T.drop i) i=F) (fun i=>[(0,.sl (T.map dC)),(1,.clo 131 [.dref (dC z) 0]),(7,I T.length),(8,I (i:Nat))])
  (fun _=>[]) (fun i=>T.length-i) 0 ⟨Nat.zero_le _,by rw[List.drop_zero];exact hF⟩ ⟨O,O,by rw[<-hml];rfl,O,trivial⟩ ?_
 intro i s ⟨hi,hall⟩;refine D ?_ ?_<;>intro h
 .have hlt:i<T.length:=by have:=aB h;omega
  clear h;obtain⟨x,hx⟩:=aH hlt;have hgx:=hg x;have hw:=c9 i;rw[wX p hx]at hall;cases hp:p x with
  |true =>
   rw[hp]at hgx;rw[if_pos hp]at hall;refine aN hx ?_;refine ap hgx ?_;refine H ?_;exact kt O O (by rw[<-hall])
  |false =>
   rw[hp]at hgx;rw[if_neg (by rw[hp];decide)]at hall;refine aN hx ?_;refine ap hgx ?_;refine H ?_;exact⟨i+1,⟨J,hall⟩,J,O,O,O,congrArg I hw,trivial⟩
 .have hie:i=T.length:=by have:=aG h;omega
  clear h;rw[hie,List.drop_length,nb]at hall;rw[<-hall];exact bq
theorem yo (T:List ZNR)(hT:T.length<=1000)(z:ZNR):Ret Tryz.prog .shared 130 [.sl (T.map dC),.clo 131 [.dref (dC z) 0]] (.bool (T.any fun y=>decide (y.nm=z.nm))):=by
 have h1:=uT T hT z;rw[<-rP (fun y=>decide (y.nm=z.nm)) T 0];generalize nb (fun y=>decide (y.nm=z.nm)) T 0=F at *
 refine Ret.of_pwp layOk mixed Go.Proofs.Tryz.func130 O Y O O ?_;refine ap h1 ?_;exact ef
set_option maxRecDepth 20000 in
theorem yr (l:List ZNR)(hl:l.length<=9223372036854775807):Ret Tryz.prog .shared 68 [.sl (l.map dC)] (I (eG l)):=by
 have hml:(l.map dC).length=l.length:=ai;generalize hf:eG l=E;rw[eG]at hf;refine Ret.of_pwp layOk mixed Go.Proofs.Tryz.func68 O Y O O ?_;refine H ?_;rw[hml];refine bh O ?_ ?_<;>intro h
 .rw[if_pos (by have:=aB h;omega)]at hf;subst hf;exact bq
 have h20:¬20<l.length:=by have:=aG h;omega
 clear h;rw[if_neg h20]at hf;refine H ?_;rw[hml];refine ao (ClearE l (mg l)) (fun k=>[(0,.sl (l.map dC)),(8,.sl (l.map dC)),(9,I l.length),(10,I (k:Nat))]) (fun _=>[]) (fun k=>l.length-k) 0 .zero' ⟨O,O,O,O,trivial⟩ ?_;intro k s hk;have hkl:=hk.1;refine D ?_ ?_<;>intro h
 .have hlt:k<l.length:=by have:=aB h;omega
  clear h;obtain⟨z,hx⟩:=aH hlt;have n0:=xt z.nm;have c0:=yo (l.take k) (by rw[List.length_take];omega) z;have o1:=bm z.a (-1000000) 1000000;have o2:=bm z.b (-1000000) 1000000;have o3:=bm z.h 0 100000;have hw:=c9 k;have hfl:=fun e (h:mg l k z=e) (he:e≠0)=>hk.found hx h he;have hsu:=fun(h:mg l k z=0)=>hk.succ hx h;rw[mg]at hfl hsu;generalize bU z.nm=b0 at *
  generalize hA:(l.take k).any (fun y=>decide (y.nm=z.nm))=b1 at *
  generalize ar z.a (-1000000) 1000000=b2 at *
  generalize ar z.b (-1000000) 1000000=b3 at *
  generalize ar z.h 0 100000=b4 at *
  clear hA hk;refine aN hx ?_;refine ap n0 ?_;cases b0
  .have:=hfl 4 (by rfl) Y;rw[hf]at this;subst this;exact bq
  (repeat ((fail_if_success (with_reducible refine aR 8 ?_));refine b9 O ?_))
  refine aq (Ghost.data (k:=4) (t:=4) (row:=dC z) O O O O) ?_;refine H ?_;refine bJ O O (jW (n:=((k:Nat):Int)) O O O O O J J (fun _=>rfl)) ?_;rw[Int.toNat_natCast];refine ap c0 ?_;cases b1
  rotate_left
  .have:=hfl 5 (by rfl) Y;rw[hf]at this;subst this;exact bq
  refine ap o1 ?_;cases b2
  .have:=hfl 2 (by rfl) Y;rw[hf]at this;subst this;exact bq
  refine ap o2 ?_;cases b3
  .have:=hfl 2 (by rfl) Y;rw[hf]at this;subst this;exact bq
  by_cases hab:z.a<=z.b
  rotate_left
  .have:=hfl 2 (by simp[hab]) Y;rw[hf]at this;subst this;refine cV ?_ ?_<;>intro h
   rotate_left
   .exact absurd (aG h) J
   clear h;exact bq
  refine cV ?_ ?_<;>intro h
  .exact absurd (aB h) J
  clear h;refine ap o3 ?_;cases b4
  .have:=hfl 2 ai Y;rw[hf]at this;subst this;exact bq
  refine H ?_;exact⟨k+1,hsu (by simp[hab]),J,O,O,O,congrArg I hw,trivial⟩
 .have hge:¬k<l.length:=by have:=aG h;omega
  clear h;rw[hk.none hge]at hf;subst hf;exact bq
set_option maxRecDepth 20000 in
theorem jx (s:SHP)(x z:Int)(hx : -1000000<=x/\x<=1000000)(hst:∀t∈s.st,StOk t)(hn:s.st.length<=40):Ret Tryz.prog .shared 101 [.agg (fi s),I x,I z] (.tup [I ((dp x z s.st).getD 0),.bool (dp x z s.st).isSome]):=by
 have hml:(s.st.map eT).length=s.st.length:=ai;have q1:IntKind.i64.wrap (2*x)=2*x:=wrap_i64 J J;generalize hR:dp x z s.st=R;obtain⟨nm,len,st,light,it⟩:=s;simp only at *
 refine Ret.of_pwp layOk mixed Go.Proofs.Tryz.func101 O Y O O ?_;refine H ?_;rw[hml];refine ao (fun i:Nat=>i<=st.length/\dp x z (st.drop i)=R) (fun i=>[(1,I x),(2,I z),(3,.ptr 3 1 0 0),(13,.sl (st.map eT)),(14,I st.length),(15,I (i:Nat))]) (fun _=>[(3,1,⟨27,9,[fi ⟨nm,len,st,light,it⟩],2⟩)]) (fun i=>st.length-i) 0 ⟨Nat.zero_le _,by rw[List.drop_zero];exact hR⟩ ⟨O,O,O,O,O,O,O,trivial⟩ ?_;rintro i s ⟨hi,hall⟩;refine D ?_ ?_<;>intro h
 .have hlt:i<st.length:=by have:=aB h;omega
  clear h;obtain⟨t,ht⟩:=aH hlt;have ok:=hst t (a_ ht);obtain⟨⟨a1,a2⟩,⟨a3,a4⟩,⟨-,aL⟩,hLH,-,-,-⟩:=ok;rw[oE ht]at hall;have q2:IntKind.i64.wrap (2*t.x)=2*t.x:=wrap_i64 J J;have q3:IntKind.i64.wrap (2*t.x-t.w)=2*t.x-t.w:=wrap_i64 J J;have q4:IntKind.i64.wrap (2*t.x+t.w)=2*t.x+t.w:=wrap_i64 J J;have hw:=c9 i;have hmh:(t.H0.map eN).length=t.H0.length:=ai;refine aN ht ?_;refine H ?_;rw[q1];refine H ?_;rw[q2];refine H ?_;rw[q3];refine AV O O O ?_ ?_<;>intro h
  .have d1:=aB h;clear h;rw[if_neg (by rw[mb,decide_eq_false J,Bool.false_and];decide)]at hall;refine H ?_;exact⟨i+1,⟨hlt,hall⟩,J,O,O,O,O,O,congrArg I hw,O,trivial⟩
  have d1:=aG h;clear h;refine H ?_;rw[q1];refine H ?_;rw[q2];refine H ?_;rw[q4];refine bh O ?_ ?_<;>intro h
  .have d2:=aB h;clear h;rw[if_neg (by rw[mb,decide_eq_false (show ¬2*x<2*t.x+t.w by omega),Bool.and_false];decide)]at hall;refine H ?_;exact⟨i+1,⟨hlt,hall⟩,J,O,O,O,O,O,congrArg I hw,O,trivial⟩
  have d2:=aG h;clear h;rw[if_pos (by rw[mb,decide_eq_true J,decide_eq_true J];rfl)]at hall;refine H ?_;rw[hmh];refine bj [(1,I x),(2,I z),(3,.ptr 3 1 0 0),(9,.ptr 9 ((s.own 9).1+1) 0 0),(13,.sl (st.map eT)),(14,I st.length),(15,I (i:Nat)),(40,.sl (t.H0.map eN)),(41,I t.H0.length),(42,I ((0:Nat):Int))] [(3,1,⟨27,9,[fi ⟨nm,len,st,light,it⟩],2⟩),(9,(s.own 9).1+1,⟨130,4,[eT t],2⟩)] ⟨O,O,O,O,O,O,O,O,O,O,O,O,trivial⟩ ?_;generalize (s.own 9).1+1=g9;intro s1;refine ao (fun k:Nat=>k<=t.H0.length/\(match gJ t.L z (t.H0.drop k) k with|some n=>some n|none=>dp x z (st.drop (i+1)))=R) (fun k=>[(1,I x),(2,I z),(3,.ptr 3 1 0 0),(9,.ptr 9 g9 0 0),(13,.sl (st.map eT)),(14,I st.length),(15,I (i:Nat)),(40,.sl (t.H0.map eN)),(41,I t.H0.length),(42,I (k:Nat))]) (fun _=>[(3,1,⟨27,9,[fi ⟨nm,len,st,light,it⟩],2⟩),(9,g9,⟨130,4,[eT t],2⟩)]) (fun k=>t.H0.length-k) 0 ⟨Nat.zero_le _,by rw[List.drop_zero];exact hall⟩ ⟨rfl,rfl,rfl,rfl,rfl,rfl,rfl,rfl,rfl,rfl,rfl,rfl,trivial⟩ ?_;clear hall;rintro k s2 ⟨hk,hall⟩;refine D ?_ ?_<;>intro h
  .have hlk:k<t.H0.length:=by have:=aB h;omega
   clear h;obtain⟨y,hy⟩:=aH hlk;have hlL:k<t.L.length:=J;obtain⟨n,hn⟩:=aH hlL;have hgd:t.L.getD k 0=n:=by rw[List.getD_eq_getElem?_getD,hn];rfl
   have hwk:IntKind.i64.wrap (((k:Nat):Int)+1)=((k+1:Nat):Int):=by rw[wrap_i64 J J];omega
   rw[mY hy,hgd]at hall;refine aN hy ?_;refine D ?_ ?_<;>intro h
   .have d3:z<y:=aB h;clear h;rw[if_pos d3]at hall;subst hall;refine aN hn ?_;exact bI
   .have d3:¬z<y:=aG h;clear h;rw[if_neg d3]at hall;refine H ?_;exact⟨k+1,⟨hlk,hall⟩,J,O,O,O,O,O,O,O,O,O,congrArg I hwk,O,O,trivial⟩
  .have hke:k=t.H0.length:=by have:=aG h;omega
   clear h;subst hke;rw[List.drop_length,gJ]at hall;refine H ?_;exact⟨i+1,⟨hlt,hall⟩,J,O,O,O,O,O,congrArg I hw,O,trivial⟩
 .have hge:i=st.length:=by have:=aG h;omega
  clear h;subst hge;rw[List.drop_length,dp]at hall;subst hall;exact bI
theorem rC (a b:Int)(h1 : -2000000<=a-b)(h2:a-b<=2000000):Ret Tryz.prog .shared 133 [I a,I b] (I (fp a b)):=by
 have q1:IntKind.i64.wrap (a-b)=a-b:=wrap_i64 J J;have q2:IntKind.i64.wrap (b-a)=b-a:=wrap_i64 J J;refine Ret.of_pwp layOk mixed Go.Proofs.Tryz.func133 O Y O O ?_;refine H ?_;rw[q1,q2];exact kt O O O
set_option maxRecDepth 20000 in
theorem um (b:BKR)(hs:b.st.sz 12):Ret Tryz.prog .shared 132 [.agg (eBk b)] (.bool (j0 b)):=by
 have o1:=bm b.x (-1000000) 1000000;have o2:=bm b.hf 1 10000;have o3:=bm b.ht 0 100000;have o4:=bm b.wd 1 20000;have o5:=bm b.lim 0 1000000000;have o6:=td b.st (hx:=hs.v) Y;have o7:=bm b.z 1 100000;have hsg:=uE b.st.val;generalize hf:j0 b=E;rw[j0,zP]at hf;have hp:decide (0<b.st.val)=!decide (sgn b.st.val<=0):=by
  by_cases h:sgn b.st.val<=0
  .rw[decide_eq_true h,decide_eq_false (fun g=>absurd g (Rat.not_lt.2 (hsg.1 h)))];rfl
  .rw[decide_eq_false h,decide_eq_true (Rat.not_le.1 fun g=>h (hsg.2 g))];rfl
 rw[hp]at hf;clear hp hsg;have hz:ar b.z 1 100000=true->1<=b.z/\b.z<=100000:=fun h=>dA h;obtain⟨x,z,hfw,ht,wd,st,lim,side⟩:=b;simp only at *
 generalize ar x (-1000000) 1000000=b1 at *
 generalize ar hfw 1 10000=b2 at *
 generalize ar ht 0 100000=b3 at *
 generalize ar wd 1 20000=b4 at *
 generalize ar lim 0 1000000000=b5 at *
 generalize ar z 1 100000=b7 at *
 generalize sgn st.val=sg at *
 refine Ret.of_pwp layOk mixed Go.Proofs.Tryz.func132 O Y O O ?_;refine ap o1 ?_;cases b1
 .subst hf;exact ef
 refine ap o2 ?_;cases b2
 .subst hf;exact ef
 refine ap o3 ?_;cases b3
 .subst hf;exact ef
 refine ap o4 ?_;cases b4
 .subst hf;exact ef
 refine ap o5 ?_;cases b5
 .subst hf;exact ef
 refine ap o6 ?_;refine H ?_;by_cases h6:sg<=0
 .rw[decide_eq_true h6]at hf ⊢;subst hf;exact ef
 rw[decide_eq_false h6]at hf ⊢;refine H ?_;cases side
 .refine H ?_;exact cJ O O (by rw[<-hf];rfl)
 .refine ap o7 ?_;cases b7
  .subst hf;exact ef
  have hz:=hz O;have q1:IntKind.i64.wrap (2*z)=2*z:=wrap_i64 J J;refine H ?_;rw[q1];exact cJ O O (by rw[<-hf];rfl)
structure BkIn (b:BKR):Prop where
 x : -1000000<=b.x/\b.x<=1000000
 hf:1<=b.hf/\b.hf<=10000
 ht:0<=b.ht/\b.ht<=100000
 wd:1<=b.wd/\b.wd<=20000
 z:0<=b.z/\b.z<=100000
 lim:0<=b.lim/\b.lim<=1000000000
 st:0<b.st.val
theorem lF {b:BKR}(h:j0 b=true):BkIn b:=by
 rw[j0,zP]at h;simp only[Bool.and_eq_true,decide_eq_true_eq]at h;obtain⟨⟨⟨⟨⟨⟨h1,h2⟩,h3⟩,h4⟩,h5⟩,h6⟩,h7⟩:=h;refine⟨dA h1,dA h2,dA h3,dA h4,?_,dA h5,h6⟩;split at h7
 .simp only[Bool.and_eq_true]at h7;have:=dA h7.1;omega
 .have:=aB h7;omega
structure ZnIn (z:ZNR):Prop where
 a : -1000000<=z.a/\z.a<=1000000
 b : -1000000<=z.b/\z.b<=1000000
 h:0<=z.h/\z.h<=100000
theorem Ex {l:List ZNR}{i:Nat}{z:ZNR}(h:mg l i z=0):ZnIn z:=by
 rw[mg]at h;split at h
 .split at h
  .omega
  .split at h
   .rename_i h2;simp only[Bool.and_eq_true]at h2;exact⟨dA h2.1.1.1,dA h2.1.1.2,dA h2.2⟩
   .omega
 .omega
theorem tu {l:List ZNR}(h:eG l=0):l.length<=20/\∀z∈l,ZnIn z:=by
 rw[eG]at h;split at h
 .omega
 .refine⟨J,fun z hz=>?_⟩;obtain⟨j,hj⟩:=List.mem_iff_getElem?.1 hz;exact Ex (gG h j z hj)
theorem jw {α:Type}{p:α->Bool}{l:List α}{n:Nat}(h:∀(j:Nat) x,j<n->l[j]? = some x->p x=false):(l.take n).any p=false:=by
 rw[List.any_eq_false];intro x hx;obtain⟨j,hj⟩:=List.mem_iff_getElem?.1 hx;have hjn:j<n:=by have:=(bi hj).1;rw[List.length_take]at this;omega
 rw[List.getElem?_take_of_lt hjn]at hj;rw[h j x hjn hj];decide
theorem ox {α:Type}{p:α->Bool}{l:List α}(h:∀(j:Nat) x,j<l.length->l[j]? = some x->p x=false):l.any p=false:=by
 have:=jw h;rwa [List.take_length]at this
theorem mI {α:Type}{p:α->Bool}{l:List α}{k:Nat}{x:α}(hx:l[k]? = some x)(h:p x=true):l.any p=true:=List.any_eq_true.2 ⟨x,a_ hx,h⟩
theorem mJ {α:Type}{p:α->Bool}{l:List α}{n k:Nat}{x:α}(hk:k<n)(hx:l[k]? = some x)(h:p x=true):(l.take n).any p=true:=mI (k:=k) (by rw[List.getElem?_take_of_lt hk];exact hx) h
set_option maxRecDepth 20000 in
theorem wF (d:DKR)(hst:∀t∈d.s.st,StOk t)(h40:d.s.st.length<=40)(hz:d.zn.length<=20/\∀z∈d.zn,ZnIn z)(hb40:d.bl.length<=40)(i:Nat)(b:BKR)(hb:d.bl[i]? = some b)(hs:b.st.sz 12)(hpr:∀j c,j<i->d.bl[j]? = some c->BkIn c) :
  Ret Tryz.prog .shared 69 [.agg (cn d),I (i:Nat)] (I (ga d.s.st d.zn d.bl i b)):=by
 have r1:=um b hs;have hin:=fun h=>lF (b:=b) h;have hbt:=fun h:j0 b=true=>jx d.s b.x b.z (lF h).x hst h40;have hmz:(d.zn.map dC).length=d.zn.length:=ai;generalize hf:ga d.s.st d.zn d.bl i b=E;rw[ga]at hf;obtain⟨s,den,bl,zn,gm,oh⟩:=d;simp only at *
 have hil:i<bl.length:=(bi hb).1;generalize j0 b=b1 at *
 refine Ret.of_pwp layOk mixed Go.Proofs.Tryz.func69 O Y O O ?_;refine aN hb ?_;refine ap r1 ?_;cases b1
 .subst hf;exact bq
 rw[if_pos O]at hf;have hin:=hin O;have hbt:=hbt O;obtain⟨⟨a1,a2⟩,⟨a3,a4⟩,-,⟨a5,a6⟩,⟨a7,a8⟩,-,-⟩:=hin;refine ap hbt ?_;cases hbo:dp b.x b.z s.st with
 |none =>
  rw[hbo,if_neg Y]at hf;subst hf;exact bq
 |some n =>
 rw[hbo,Option.isSome_some,if_pos O]at hf;have p1:IntKind.i64.wrap (b.x-b.hf)=b.x-b.hf:=wrap_i64 J J;have p2:IntKind.i64.wrap (b.x+b.hf)=b.x+b.hf:=wrap_i64 J J;have p3:IntKind.i64.wrap (2*b.z)=2*b.z:=wrap_i64 J J;have p4:IntKind.i64.wrap (2*b.z-b.wd)=2*b.z-b.wd:=wrap_i64 J J;refine H ?_;rw[hmz];refine bj [(1,I (i:Nat)),(2,.ptr 2 1 0 0),(5,.ptr 5 1 0 0),(33,.sl (zn.map dC)),(34,I zn.length),(35,I ((0:Nat):Int))] [(2,1,⟨31,14,[cn ⟨s,den,bl,zn,gm,oh⟩],2⟩),(5,1,⟨108,11,[eBk b],2⟩)] ⟨O,O,O,O,O,O,O,O,trivial⟩ ?_;intro s0;refine ao (fun k:Nat=>k<=zn.length/\∀j u,j<k->zn[j]? = some u->fT b u=false) (fun k=>[(1,I (i:Nat)),(2,.ptr 2 1 0 0),(5,.ptr 5 1 0 0),(33,.sl (zn.map dC)),(34,I zn.length),(35,I (k:Nat))]) (fun _=>[(2,1,⟨31,14,[cn ⟨s,den,bl,zn,gm,oh⟩],2⟩),(5,1,⟨108,11,[eBk b],2⟩)]) (fun k=>zn.length-k) 0 ⟨Nat.zero_le _,fun j u hj=>absurd hj J⟩ ⟨O,O,O,O,O,O,O,O,trivial⟩ ?_;rintro k s1 ⟨hk,hall⟩;refine D ?_ ?_<;>intro h
 .have hlt:k<zn.length:=by have:=aB h;omega
  clear h;obtain⟨z,hx⟩:=aH hlt;obtain⟨-,⟨z1,z2⟩,z3,z4⟩:=hz.2 z (a_ hx);have p5:IntKind.i64.wrap (2*z.h)=2*z.h:=wrap_i64 J J;have hw:=c9 k;have go:fT b z=false->∀j u,j<k+1->zn[j]? = some u->fT b u=false:=fun hb j u hj hu=>by
   rcases Nat.lt_or_ge j k with g|g
   .exact hall j u g hu
   .rw[show j=k by omega,hx]at hu;cases hu;exact hb
  refine aN hx ?_;refine H ?_;rw[p1];refine AV O O O ?_ ?_<;>intro h
  rotate_left
  .have d1:=aG h;clear h;refine H ?_;exact⟨k+1,⟨hlt,go (by rw[fT,decide_eq_false d1,Bool.false_and,Bool.false_and])⟩,J,O,O,O,O,O,congrArg I hw,O,O,trivial⟩
  have d1:=aB h;clear h;refine H ?_;rw[p2];refine cV ?_ ?_<;>intro h
  rotate_left
  .have d2:=aG h;clear h;refine H ?_;exact⟨k+1,⟨hlt,go (by rw[fT,decide_eq_false d2,Bool.and_false,Bool.false_and])⟩,J,O,O,O,O,O,congrArg I hw,O,O,trivial⟩
  have d2:=aB h;clear h;refine H ?_;rw[p3];refine H ?_;rw[p4];refine H ?_;rw[p5];refine D ?_ ?_<;>intro h
  .have d3:2*b.z-b.wd<2*z.h:=aB h;clear h;rw[if_pos (mI hx (by rw[fT,decide_eq_true d1,decide_eq_true d2,decide_eq_true d3];rfl))]at hf;subst hf;exact bq
  .have d3:¬2*b.z-b.wd<2*z.h:=aG h;clear h;refine H ?_;exact⟨k+1,⟨hlt,go (by rw[fT,decide_eq_false d3,Bool.and_false])⟩,J,O,O,O,O,O,congrArg I hw,O,O,trivial⟩
 have hge:k=zn.length:=by have:=aG h;omega
 clear h;subst hge;rw[ox hall,if_neg Y]at hf;clear hall;have hmt:((bl.take i).map eBk).length=i:=by rw[List.length_map,List.length_take];omega
 refine H ?_;refine bJ O O (jW (l:=bl) (enc:=eBk) (n:=((i:Nat):Int)) O O O O O J J (fun _=>rfl)) ?_;rw[Int.toNat_natCast];refine H ?_;rw[hmt];refine bj [(2,.ptr 2 1 0 0),(5,.ptr 5 1 0 0),(73,.sl ((bl.take i).map eBk)),(74,I i),(75,I ((0:Nat):Int))] [(2,1,⟨31,14,[cn ⟨s,den,bl,zn,gm,oh⟩],2⟩),(5,1,⟨108,11,[eBk b],2⟩)] ⟨O,O,O,O,O,O,O,trivial⟩ ?_;intro s2;refine ao (fun k:Nat=>k<=i/\∀j u,j<k->bl[j]? = some u->gd b u=false) (fun k=>[(2,.ptr 2 1 0 0),(5,.ptr 5 1 0 0),(73,.sl ((bl.take i).map eBk)),(74,I i),(75,I (k:Nat))]) (fun _=>[(2,1,⟨31,14,[cn ⟨s,den,bl,zn,gm,oh⟩],2⟩),(5,1,⟨108,11,[eBk b],2⟩)]) (fun k=>i-k) 0 ⟨Nat.zero_le _,fun j u hj=>absurd hj J⟩ ⟨O,O,O,O,O,O,O,trivial⟩ ?_;rintro k s3 ⟨hk,hall⟩;refine D ?_ ?_<;>intro h
 .have hlt:k<i:=by have:=aB h;omega
  clear h;obtain⟨c,hx⟩:=aH (show k<bl.length by omega);have hxt:(bl.take i)[k]? = some c:=by rw[List.getElem?_take_of_lt hlt];exact hx
  obtain⟨⟨c1,c2⟩,⟨c3,c4⟩,-,⟨c5,c6⟩,⟨c7,c8⟩,-,-⟩:=hpr k c hlt hx;have e1:=rC b.x c.x J J;have e2:=rC b.z c.z J J;have hdz : -2000000<=fp b.z c.z/\fp b.z c.z<=2000000:=by rw[fp];split<;>omega
  have hbc:gd b c=(decide (fp b.x c.x<b.hf+c.hf)&&decide (2*fp b.z c.z<b.wd+c.wd)):=O;have q1:IntKind.i64.wrap (b.hf+c.hf)=b.hf+c.hf:=wrap_i64 J J;have q2:IntKind.i64.wrap (2*fp b.z c.z)=2*fp b.z c.z:=wrap_i64 J J;have q3:IntKind.i64.wrap (b.wd+c.wd)=b.wd+c.wd:=wrap_i64 J J;have hw:=c9 k;have go:gd b c=false->∀j u,j<k+1->bl[j]? = some u->gd b u=false:=fun hb j u hj hu=>by
   rcases Nat.lt_or_ge j k with g|g
   .exact hall j u g hu
   .rw[show j=k by omega,hx]at hu;cases hu;exact hb
  generalize fp b.x c.x=D1 at *
  generalize fp b.z c.z=D2 at *
  refine aN hxt ?_;refine bT 25 [79,80,81,82,83,84,85,86,87,88,89,90,91,92,93,94,95,96,97,98,99,100,101,102,103] ?_;refine ap e1 ?_;refine H ?_;rw[q1];refine AV O O O ?_ ?_<;>intro h
  rotate_left
  .have d1:=aG h;clear h;refine H ?_;exact⟨k+1,⟨hlt,go (by rw[hbc,decide_eq_false d1,Bool.false_and])⟩,J,O,O,O,O,congrArg I hw,O,O,trivial⟩
  have d1:=aB h;clear h;refine ap e2 ?_;refine H ?_;rw[q2];refine H ?_;rw[q3];refine D ?_ ?_<;>intro h
  .have d2:2*D2<b.wd+c.wd:=aB h;clear h;rw[if_pos (mJ hlt hx (by rw[hbc,decide_eq_true d1,decide_eq_true d2];rfl))]at hf;subst hf;exact bq
  .have d2:¬2*D2<b.wd+c.wd:=aG h;clear h;refine H ?_;exact⟨k+1,⟨hlt,go (by rw[hbc,decide_eq_false d2,Bool.and_false])⟩,J,O,O,O,O,congrArg I hw,O,O,trivial⟩
 have hge:k=i:=by have:=aG h;omega
 clear h;subst hge;rw[jw hall,if_neg Y]at hf;subst hf;exact bq
theorem pW {st:List ST}{zn:List ZNR}{l:List BKR}{j:Nat}{c:BKR}(h:ga st zn l j c=0):BkIn c:=by
 rw[ga]at h;split at h
 .rename_i h1;exact lF h1
 .omega
structure DKR.Ok (d:DKR):Prop where
 len:d.Len
 st:∀b∈d.bl,b.st.sz 12
theorem qQ {s:SHP}(h:ec s=0):(∀t∈s.st,StOk t)/\s.st.length<=40:=by
 have ok:=vT h;refine⟨fun t ht=>?_,ok.len⟩;obtain⟨i,hi⟩:=List.mem_iff_getElem?.1 ht;exact El (ok.st i t hi)
set_option maxRecDepth 20000 in
theorem cK (d:DKR)(hd:d.Ok):Ret Tryz.prog .shared 17 [.agg (cn d)] (I (jg d)):=by
 have h1:=jB d.s hd.len.s;have h2:=bm d.d 900 1100;have h3:=yr d.zn hd.len.zn;have h4:=bm d.gm (-100000) 100000;have h5:=bm d.oh 0 1000000;have hmb:(d.bl.map eBk).length=d.bl.length:=ai;have hsz:=hd.st;have hlb:=hd.len.bl;generalize hf:jg d=E;rw[jg,jI]at hf;by_cases hE:ec d.s=0
 rotate_left
 .rw[if_neg hE,if_neg hE]at hf;obtain⟨s,den,bl,zn,gm,oh⟩:=d;simp only at *
  generalize ec s=e at *
  subst hf;refine Ret.of_pwp layOk mixed Go.Proofs.Tryz.func17 O Y O O ?_;refine ap h1 ?_;refine D ?_ ?_<;>intro h
  .clear h;exact bq
  .simp at h;exact absurd h hE
 obtain⟨hst,h40⟩:=qQ hE;rw[hE]at h1;rw[if_pos hE]at hf;have hbr:=fun i b hb hpr hz hb40=>wF d hst h40 hz hb40 i b hb (hsz b (a_ hb)) hpr;clear hE;obtain⟨s,den,bl,zn,gm,oh⟩:=d;simp only at *
 refine Ret.of_pwp layOk mixed Go.Proofs.Tryz.func17 O Y O O ?_;refine ap h1 ?_;refine ap h2 ?_;cases hi:ar den 900 1100 with
 |false =>
  rw[hi]at hf;subst hf;exact bq
 |true =>
 rw[hi,if_pos O,if_pos O]at hf;refine ap h3 ?_;by_cases hz:eG zn=0
 rotate_left
 .rw[if_neg hz]at hf;generalize eG zn=e at *
  subst hf;refine D ?_ ?_<;>intro h
  .clear h;exact bq
  .simp at h;exact absurd h hz
 rw[if_pos hz,lR]at hf;rw[hz];have hzi:=tu hz;clear hz h3;refine H ?_;rw[hmb];refine bh O ?_ ?_<;>intro h
 .rw[if_pos (show 40<bl.length by have:=aB h;omega),if_neg Y]at hf;subst hf;exact bq
 have hb40:¬40<bl.length:=by have:=aG h;omega
 clear h;rw[if_neg hb40]at hf;refine H ?_;rw[hmb];refine ao (ClearE bl (ga s.st zn bl)) (fun k=>[(1,.ptr 1 1 0 0),(28,I bl.length),(29,I (k:Nat))]) (fun _=>[(1,1,⟨31,14,[cn ⟨s,den,bl,zn,gm,oh⟩],2⟩)]) (fun k=>bl.length-k) 0 .zero' ⟨O,O,O,O,trivial⟩ ?_;intro k s1 hk;have hkl:=hk.1;refine D ?_ ?_<;>intro h
 .have hlt:k<bl.length:=by have:=aB h;omega
  clear h;obtain⟨b,hx⟩:=aH hlt;have c1:=hbr k b hx (fun j c hj hc=>pW (hk.2 j c hj hc)) hzi J;have hw:=c9 k;have hfl:=fun e (h:ga s.st zn bl k b=e) (he:e≠0)=>hk.found hx h he;have hsu:=fun(h:ga s.st zn bl k b=0)=>hk.succ hx h;generalize ga s.st zn bl k b=e at *
  refine ap c1 ?_;refine D ?_ ?_<;>intro h
  .have he:e≠0:=by simpa using h
   clear h;have:=hfl e O he;rw[this,if_neg he]at hf;subst hf;exact bq
  .have he:e=0:=by simpa using h
   clear h;refine H ?_;exact⟨k+1,hsu he,J,O,O,congrArg I hw,O,trivial⟩
 have hge:¬k<bl.length:=by have:=aG h;omega
 clear h;rw[hk.none hge,if_pos O]at hf;refine ap h4 ?_;cases h4b:ar gm (-100000) 100000 with
 |false =>
  rw[h4b]at hf;subst hf;exact bq
 |true =>
 rw[h4b]at hf;refine ap h5 ?_;cases h5b:ar oh 0 1000000;all_goals
  rw[h5b]at hf;subst hf;exact bq
set_option maxRecDepth 20000 in
theorem sV (s:SHP)(x z:Int)(hx : -1000000<=x/\x<=1000000)(hst:∀t∈s.st,StOk t)(hn:s.st.length<=40):Ret Tryz.prog .shared 42 [.agg (fi s),I x,I z] (.tup [I ((dp x z s.st).getD 0),.bool (dp x z s.st).isSome]):=by
 have hml:(s.st.map eT).length=s.st.length:=ai;have q1:IntKind.i64.wrap (2*x)=2*x:=wrap_i64 J J;generalize hR:dp x z s.st=R;obtain⟨nm,len,st,light,it⟩:=s;simp only at *
 refine Ret.of_pwp layOk mixed Go.Proofs.Tryz.func42 O Y O O ?_;refine H ?_;refine ao (fun i:Nat=>i<=st.length/\dp x z (st.drop i)=R) (fun i=>[(1,I x),(2,I z),(3,.ptr 3 1 0 0),(8,I (i:Nat))]) (fun _=>[(3,1,⟨27,9,[fi ⟨nm,len,st,light,it⟩],2⟩)]) (fun i=>st.length-i) 0 ⟨Nat.zero_le _,by rw[List.drop_zero];exact hR⟩ ⟨O,O,O,O,O,trivial⟩ ?_;rintro i s ⟨hi,hall⟩;refine H ?_;rw[hml];refine bh O ?_ ?_<;>intro h
 .have hlt:i<st.length:=by have:=aB h;omega
  clear h;obtain⟨t,ht⟩:=aH hlt;have ok:=hst t (a_ ht);obtain⟨⟨a1,a2⟩,⟨a3,a4⟩,⟨-,aL⟩,hLH,-,-,-⟩:=ok;rw[oE ht]at hall;have q2:IntKind.i64.wrap (2*t.x)=2*t.x:=wrap_i64 J J;have q3:IntKind.i64.wrap (2*t.x-t.w)=2*t.x-t.w:=wrap_i64 J J;have q4:IntKind.i64.wrap (2*t.x+t.w)=2*t.x+t.w:=wrap_i64 J J;have hw:=c9 i;have hmh:(t.H0.map eN).length=t.H0.length:=ai;refine aN ht ?_;refine H ?_;rw[q1];refine H ?_;rw[q2];refine H ?_;rw[q3];refine AV O O O ?_ ?_<;>intro h
  .have d1:=aB h;clear h;rw[if_neg (by rw[mb,decide_eq_false J,Bool.false_and];decide)]at hall;refine H ?_;exact⟨i+1,⟨hlt,hall⟩,J,O,O,O,congrArg I hw,O,trivial⟩
  have d1:=aG h;clear h;refine H ?_;rw[q1];refine H ?_;rw[q2];refine H ?_;rw[q4];refine bh O ?_ ?_<;>intro h
  .have d2:=aB h;clear h;rw[if_neg (by rw[mb,decide_eq_false (show ¬2*x<2*t.x+t.w by omega),Bool.and_false];decide)]at hall;refine H ?_;exact⟨i+1,⟨hlt,hall⟩,J,O,O,O,congrArg I hw,O,trivial⟩
  have d2:=aG h;clear h;rw[if_pos (by rw[mb,decide_eq_true J,decide_eq_true J];rfl)]at hall;refine H ?_;refine bj [(1,I x),(2,I z),(3,.ptr 3 1 0 0),(8,I (i:Nat)),(9,.ptr 9 ((s.own 9).1+1) 0 0),(10,I ((0:Nat):Int))] [(3,1,⟨27,9,[fi ⟨nm,len,st,light,it⟩],2⟩),(9,(s.own 9).1+1,⟨130,4,[eT t],2⟩)] ⟨O,O,O,O,O,O,O,O,trivial⟩ ?_;generalize (s.own 9).1+1=g9;intro s1;refine ao (fun k:Nat=>k<=t.H0.length/\(match gJ t.L z (t.H0.drop k) k with|some n=>some n|none=>dp x z (st.drop (i+1)))=R) (fun k=>[(1,I x),(2,I z),(3,.ptr 3 1 0 0),(8,I (i:Nat)),(9,.ptr 9 g9 0 0),(10,I (k:Nat))]) (fun _=>[(3,1,⟨27,9,[fi ⟨nm,len,st,light,it⟩],2⟩),(9,g9,⟨130,4,[eT t],2⟩)]) (fun k=>t.H0.length-k) 0 ⟨Nat.zero_le _,by rw[List.drop_zero];exact hall⟩ ⟨rfl,rfl,rfl,rfl,rfl,rfl,rfl,rfl,trivial⟩ ?_;clear hall;rintro k s2 ⟨hk,hall⟩;refine H ?_;rw[hmh];refine bh O ?_ ?_<;>intro h
  .have hlk:k<t.H0.length:=by have:=aB h;omega
   clear h;obtain⟨y,hy⟩:=aH hlk;have hlL:k<t.L.length:=J;obtain⟨n,hn⟩:=aH hlL;have hgd:t.L.getD k 0=n:=by rw[List.getD_eq_getElem?_getD,hn];rfl
   have hwk:IntKind.i64.wrap (((k:Nat):Int)+1)=((k+1:Nat):Int):=by rw[wrap_i64 J J];omega
   rw[mY hy,hgd]at hall;refine aN hy ?_;refine D ?_ ?_<;>intro h
   .have d3:z<y:=aB h;clear h;rw[if_pos d3]at hall;subst hall;refine aN hn ?_;exact bI
   .have d3:¬z<y:=aG h;clear h;rw[if_neg d3]at hall;refine H ?_;exact⟨k+1,⟨hlk,hall⟩,J,O,O,O,O,O,congrArg I hwk,O,O,trivial⟩
  .have hke:k=t.H0.length:=by have:=aG h;omega
   clear h;subst hke;rw[List.drop_length,gJ]at hall;refine H ?_;exact⟨i+1,⟨hlt,hall⟩,J,O,O,O,congrArg I hw,O,trivial⟩
 .have hge:i=st.length:=by have:=aG h;omega
  clear h;subst hge;rw[List.drop_length,dp]at hall;subst hall;exact bI
theorem pt (a b:Int)(h1 : -2000000<=a-b)(h2:a-b<=2000000):Ret Tryz.prog .shared 135 [I a,I b] (I (fp a b)):=by
 have q1:IntKind.i64.wrap (a-b)=a-b:=wrap_i64 J J;have q2:IntKind.i64.wrap (b-a)=b-a:=wrap_i64 J J;refine Ret.of_pwp layOk mixed Go.Proofs.Tryz.func135 O Y O O ?_;refine H ?_;rw[q1,q2];exact kt O O O
set_option maxRecDepth 20000 in
theorem s6 (b:BKR)(hs:b.st.sz 12):Ret Tryz.prog .shared 134 [.agg (eBk b)] (I (if j0 b=true then 0 else 2)):=by
 have o1:=bO b.x (-1000000) 1000000;have o2:=bO b.hf 1 10000;have o3:=bO b.ht 0 100000;have o4:=bO b.wd 1 20000;have o5:=bO b.lim 0 1000000000;have o6:=nE b.st (hx:=hs.v) Y;have o7:=bO b.z 1 100000;have hsg:=uE b.st.val;generalize hf:j0 b=E;rw[j0,zP]at hf;have hp:decide (0<b.st.val)=!decide (sgn b.st.val<=0):=by
  by_cases h:sgn b.st.val<=0
  .rw[decide_eq_true h,decide_eq_false (fun g=>absurd g (Rat.not_lt.2 (hsg.1 h)))];rfl
  .rw[decide_eq_false h,decide_eq_true (Rat.not_le.1 fun g=>h (hsg.2 g))];rfl
 rw[hp]at hf;clear hp hsg;have hz:ar b.z 1 100000=true->1<=b.z/\b.z<=100000:=fun h=>dA h;obtain⟨x,z,hfw,ht,wd,st,lim,side⟩:=b;simp only at *
 generalize ar x (-1000000) 1000000=b1 at *
 generalize ar hfw 1 10000=b2 at *
 generalize ar ht 0 100000=b3 at *
 generalize ar wd 1 20000=b4 at *
 generalize ar lim 0 1000000000=b5 at *
 generalize ar z 1 100000=b7 at *
 generalize sgn st.val=sg at *
 refine Ret.of_pwp layOk mixed Go.Proofs.Tryz.func134 O Y O O ?_;refine ap o1 ?_;cases b1
 .subst hf;exact bq
 refine ap o2 ?_;cases b2
 .subst hf;exact bq
 refine ap o3 ?_;cases b3
 .subst hf;exact bq
 refine ap o4 ?_;cases b4
 .subst hf;exact bq
 refine ap o5 ?_;cases b5
 .subst hf;exact bq
 refine ap o6 ?_;refine H ?_;by_cases h6:sg<=0
 .rw[decide_eq_true h6]at hf ⊢;subst hf;exact bq
 rw[decide_eq_false h6]at hf ⊢;refine H ?_;cases side
 .by_cases h8:z=0
  .rw[show E=true by rw[<-hf];simp[h8]];subst h8;exact bq
  .rw[show E=false by rw[<-hf];simp[h8]];refine D ?_ ?_<;>intro h
   .clear h;exact bq
   .simp at h;exact absurd h h8
 .refine ap o7 ?_;cases b7
  .subst hf;exact bq
  have hz:=hz O;have q1:IntKind.i64.wrap (2*z)=2*z:=wrap_i64 J J;refine H ?_;rw[q1];by_cases h9:2*z<wd
  .rw[show E=false by rw[<-hf];simp;omega];rw[decide_eq_true h9];exact bq
  .rw[show E=true by rw[<-hf];simp;omega];rw[decide_eq_false h9];exact bq
set_option maxRecDepth 20000 in
theorem uf (d:DKR)(hst:∀t∈d.s.st,StOk t)(h40:d.s.st.length<=40)(hz:d.zn.length<=20/\∀z∈d.zn,ZnIn z)(hb40:d.bl.length<=40)(i:Nat)(b:BKR)(hb:d.bl[i]? = some b)(hs:b.st.sz 12)(hpr:∀j c,j<i->d.bl[j]? = some c->BkIn c) :
  Ret Tryz.prog .shared 73 [.agg (cn d),I (i:Nat)] (I (ga d.s.st d.zn d.bl i b)):=by
 have r1:=s6 b hs;have hin:=fun h=>lF (b:=b) h;have hbt:=fun h:j0 b=true=>sV d.s b.x b.z (lF h).x hst h40;have hmz:(d.zn.map dC).length=d.zn.length:=ai;generalize hf:ga d.s.st d.zn d.bl i b=E;rw[ga]at hf;obtain⟨s,den,bl,zn,gm,oh⟩:=d;simp only at *
 have hil:i<bl.length:=(bi hb).1;generalize j0 b=b1 at *
 refine Ret.of_pwp layOk mixed Go.Proofs.Tryz.func73 O Y O O ?_;refine aN hb ?_;refine ap r1 ?_;cases b1
 .subst hf;exact bq
 rw[if_pos O]at hf;have hin:=hin O;have hbt:=hbt O;obtain⟨⟨a1,a2⟩,⟨a3,a4⟩,-,⟨a5,a6⟩,⟨a7,a8⟩,-,-⟩:=hin;refine ap hbt ?_;cases hbo:dp b.x b.z s.st with
 |none =>
  rw[hbo,if_neg Y]at hf;subst hf;exact bq
 |some n =>
 rw[hbo,Option.isSome_some,if_pos O]at hf;have p1:IntKind.i64.wrap (b.x-b.hf)=b.x-b.hf:=wrap_i64 J J;have p2:IntKind.i64.wrap (b.x+b.hf)=b.x+b.hf:=wrap_i64 J J;have p3:IntKind.i64.wrap (2*b.z)=2*b.z:=wrap_i64 J J;have p4:IntKind.i64.wrap (2*b.z-b.wd)=2*b.z-b.wd:=wrap_i64 J J;refine H ?_;refine bj [(1,I (i:Nat)),(2,.ptr 2 1 0 0),(5,.ptr 5 1 0 0),(9,I ((0:Nat):Int))] [(2,1,⟨31,14,[cn ⟨s,den,bl,zn,gm,oh⟩],2⟩),(5,1,⟨108,11,[eBk b],2⟩)] ⟨O,O,O,O,O,O,trivial⟩ ?_;intro s0;refine ao (fun k:Nat=>k<=zn.length/\∀j u,j<k->zn[j]? = some u->fT b u=false) (fun k=>[(1,I (i:Nat)),(2,.ptr 2 1 0 0),(5,.ptr 5 1 0 0),(9,I (k:Nat))]) (fun _=>[(2,1,⟨31,14,[cn ⟨s,den,bl,zn,gm,oh⟩],2⟩),(5,1,⟨108,11,[eBk b],2⟩)]) (fun k=>zn.length-k) 0 ⟨Nat.zero_le _,fun j u hj=>absurd hj J⟩ ⟨O,O,O,O,O,O,trivial⟩ ?_;rintro k s1 ⟨hk,hall⟩;refine H ?_;rw[hmz];refine bh O ?_ ?_<;>intro h
 .have hlt:k<zn.length:=by have:=aB h;omega
  clear h;obtain⟨z,hx⟩:=aH hlt;obtain⟨-,⟨z1,z2⟩,z3,z4⟩:=hz.2 z (a_ hx);have p5:IntKind.i64.wrap (2*z.h)=2*z.h:=wrap_i64 J J;have hw:=c9 k;have go:fT b z=false->∀j u,j<k+1->zn[j]? = some u->fT b u=false:=fun hb j u hj hu=>by
   rcases Nat.lt_or_ge j k with g|g
   .exact hall j u g hu
   .rw[show j=k by omega,hx]at hu;cases hu;exact hb
  refine aN hx ?_;refine H ?_;rw[p1];refine AV O O O ?_ ?_<;>intro h
  rotate_left
  .have d1:=aG h;clear h;refine H ?_;exact⟨k+1,⟨hlt,go (by rw[fT,decide_eq_false d1,Bool.false_and,Bool.false_and])⟩,J,O,O,O,congrArg I hw,O,O,trivial⟩
  have d1:=aB h;clear h;refine H ?_;rw[p2];refine cV ?_ ?_<;>intro h
  rotate_left
  .have d2:=aG h;clear h;refine H ?_;exact⟨k+1,⟨hlt,go (by rw[fT,decide_eq_false d2,Bool.and_false,Bool.false_and])⟩,J,O,O,O,congrArg I hw,O,O,trivial⟩
  have d2:=aB h;clear h;refine H ?_;rw[p3];refine H ?_;rw[p4];refine H ?_;rw[p5];refine D ?_ ?_<;>intro h
  .have d3:2*b.z-b.wd<2*z.h:=aB h;clear h;rw[if_pos (mI hx (by rw[fT,decide_eq_true d1,decide_eq_true d2,decide_eq_true d3];rfl))]at hf;subst hf;exact bq
  .have d3:¬2*b.z-b.wd<2*z.h:=aG h;clear h;refine H ?_;exact⟨k+1,⟨hlt,go (by rw[fT,decide_eq_false d3,Bool.and_false])⟩,J,O,O,O,congrArg I hw,O,O,trivial⟩
 have hge:k=zn.length:=by have:=aG h;omega
 clear h;subst hge;rw[ox hall,if_neg Y]at hf;clear hall;refine H ?_;refine ao (fun k:Nat=>k<=i/\∀j u,j<k->bl[j]? = some u->gd b u=false) (fun k=>[(1,I (i:Nat)),(2,.ptr 2 1 0 0),(5,.ptr 5 1 0 0),(11,I (k:Nat))]) (fun _=>[(2,1,⟨31,14,[cn ⟨s,den,bl,zn,gm,oh⟩],2⟩),(5,1,⟨108,11,[eBk b],2⟩)]) (fun k=>i-k) 0 ⟨Nat.zero_le _,fun j u hj=>absurd hj J⟩ ⟨O,O,O,O,O,O,trivial⟩ ?_;rintro k s3 ⟨hk,hall⟩;refine D ?_ ?_<;>intro h
 .have hlt:k<i:=by have:=aB h;omega
  clear h;obtain⟨c,hx⟩:=aH (show k<bl.length by omega);obtain⟨⟨c1,c2⟩,⟨c3,c4⟩,-,⟨c5,c6⟩,⟨c7,c8⟩,-,-⟩:=hpr k c hlt hx;have e1:=pt b.x c.x J J;have e2:=pt b.z c.z J J;have hdz : -2000000<=fp b.z c.z/\fp b.z c.z<=2000000:=by rw[fp];split<;>omega
  have hbc:gd b c=(decide (fp b.x c.x<b.hf+c.hf)&&decide (2*fp b.z c.z<b.wd+c.wd)):=O;have q1:IntKind.i64.wrap (b.hf+c.hf)=b.hf+c.hf:=wrap_i64 J J;have q2:IntKind.i64.wrap (2*fp b.z c.z)=2*fp b.z c.z:=wrap_i64 J J;have q3:IntKind.i64.wrap (b.wd+c.wd)=b.wd+c.wd:=wrap_i64 J J;have hw:=c9 k;have go:gd b c=false->∀j u,j<k+1->bl[j]? = some u->gd b u=false:=fun hb j u hj hu=>by
   rcases Nat.lt_or_ge j k with g|g
   .exact hall j u g hu
   .rw[show j=k by omega,hx]at hu;cases hu;exact hb
  generalize fp b.x c.x=D1 at *
  generalize fp b.z c.z=D2 at *
  refine aN hx ?_;refine bT 25 [87,88,89,90,91,92,93,94,95,96,97,98,99,100,101,102,103,104,105,106,107,108,109,110,111] ?_;refine ap e1 ?_;refine H ?_;rw[q1];refine AV O O O ?_ ?_<;>intro h
  rotate_left
  .have d1:=aG h;clear h;refine H ?_;exact⟨k+1,⟨hlt,go (by rw[hbc,decide_eq_false d1,Bool.false_and])⟩,J,O,O,O,congrArg I hw,O,O,trivial⟩
  have d1:=aB h;clear h;refine ap e2 ?_;refine H ?_;rw[q2];refine H ?_;rw[q3];refine D ?_ ?_<;>intro h
  .have d2:2*D2<b.wd+c.wd:=aB h;clear h;rw[if_pos (mJ hlt hx (by rw[hbc,decide_eq_true d1,decide_eq_true d2];rfl))]at hf;subst hf;exact bq
  .have d2:¬2*D2<b.wd+c.wd:=aG h;clear h;refine H ?_;exact⟨k+1,⟨hlt,go (by rw[hbc,decide_eq_false d2,Bool.and_false])⟩,J,O,O,O,congrArg I hw,O,O,trivial⟩
 have hge:k=i:=by have:=aG h;omega
 clear h;subst hge;rw[jw hall,if_neg Y]at hf;subst hf;exact bq
end Go.Pv
namespace Go.Pv
open Go.Proofs
def fV (st:List ST)(b:BKR):Int:=(dp b.x b.z st).getD 0
def j3 (b:BKR):Rat:=if b.side=true then b.st.val*2 else b.st.val
def n7 (st:List ST)(b:BKR):SR:=⟨b.x,ofQ ((b.ht-fV st b:Int):Rat),⟨[0],[ofQ (j3 b)]⟩⟩
def c_ (st:List ST)(l:List BKR):List SR:=l.map (n7 st)
theorem oD {st:List ST}{l:List BKR}{k:Nat}{b:BKR}(h:l[k]? = some b):c_ st (l.take (k+1))=c_ st (l.take k)++[n7 st b]:=by
 rw[c_,c_,br h,List.map_append];rfl
def zG (q:Rat)(s:SR):SR:=⟨s.x,ofQ q,s.k⟩
def rE (d:DKR):Nat:=d.d.toNat
def rh (d:DKR)(q:Rat):List SR:=c_ d.s.st d.bl++(eF (rE d) d.s.st).map (zG q)
theorem rM {L:List Int}{z n:Int}:∀ {H0:List Int} {k:Nat},gJ L z H0 k=some n->∃j,k<=j/\j<k+H0.length/\n=L.getD j 0
 |[],k,h=>by simp[gJ]at h
 |a::H0,k,h=>by
  rw[gJ]at h;split at h
  .exact⟨k,aP,ai,by simpa using h.symm⟩
  .obtain⟨j,h1,h2,h3⟩:=rM h;exact⟨j,J,by simp;omega,h3⟩
theorem pY {x z n:Int}:∀ {l:List ST},(∀t∈l,StOk t)->dp x z l=some n->0<=n/\n<=100000
 |[],_,h=>by simp[dp]at h
 |t::l,hs,h=>by
  rw[dp]at h;have hl:=fun u hu=>hs u (List.mem_cons_of_mem _ hu);split at h
  .split at h
   .rename_i m hm;have ok:=hs t List.mem_cons_self;obtain⟨j,h1,h2,h3⟩:=rM hm;have hj:j<t.L.length:=by have:=ok.h;omega
    rw[List.getD_eq_getElem?_getD,List.getElem?_eq_getElem hj]at h3;have:=ok.L _ (List.getElem_mem hj);simp only[Option.some.injEq]at h;simp at h3;omega
   .exact pY hl h
  .exact pY hl h
theorem pX {st:List ST}(hs:∀t∈st,StOk t)(b:BKR):0<=fV st b/\fV st b<=100000:=by
 rw[fV];cases h:dp b.x b.z st with
 |none=>exact⟨Int.le_refl _,Y⟩
 |some n=>exact pY hs h
end Go.Pv
set_option maxHeartbeats 2000000
namespace Go.Pv
attribute [local irreducible] PWP POps PQuiet PSem aF au ak aj
open Go.Proofs
structure DKR.Bl (d:DKR):Prop where
 st:∀t∈d.s.st,StOk t
 n:d.s.st.length<=40
 b:∀b∈d.bl,BkIn b/\b.st.sz 12
 m:d.bl.length<=40
set_option maxRecDepth 20000 in
theorem tG (k:DKR)(hk:k.Bl):Ret Tryz.prog .shared 90 [.agg (cn k)] (.sl ((c_ k.s.st k.bl).map eS)):=by
 have hml:(k.bl.map eBk).length=k.bl.length:=ai;obtain⟨hst,hn,hb,hm⟩:=hk;obtain⟨s,den,bl,zn,gm,oh⟩:=k;simp only at *
 refine Ret.of_pwp layOk mixed Go.Proofs.Tryz.func90 O Y O O ?_
 (repeat ((fail_if_success (with_reducible refine aR 2 ?_));refine b9 O ?_))
 refine aq (Ghost.nilreg (k:=1003) (t:=3) 136 7 1 O O) ?_;refine H ?_;rw[hml];refine bj [(1,.ptr 1 1 0 0),(3,.als 1003 1 0 0),(10,.sl (bl.map eBk)),(11,I bl.length),(12,I ((0:Nat):Int))] [(1,1,⟨31,14,[cn ⟨s,den,bl,zn,gm,oh⟩],2⟩),(1003,1,⟨136,7,[],1⟩)] ⟨O,O,O,O,O,O,O,trivial⟩ ?_;intro s0;refine ao (fun i:Nat=>i<=bl.length) (fun i=>[(1,.ptr 1 1 0 0),(3,.als 1003 (1+i) 0 ((c_ s.st (bl.take i)).map eS).length),(10,.sl (bl.map eBk)),(11,I bl.length),(12,I (i:Nat))])
  (fun i=>[(1,1,⟨31,14,[cn ⟨s,den,bl,zn,gm,oh⟩],2⟩),(1003,1+i,⟨136,7,(c_ s.st (bl.take i)).map eS,1⟩)]) (fun i=>bl.length-i) 0 (Nat.zero_le _) ⟨O,O,O,O,O,O,O,trivial⟩ ?_
 intro i s1 hi;refine D ?_ ?_<;>intro h
 .have hlt:i<bl.length:=by have:=aB h;omega
  clear h;obtain⟨b,hx⟩:=aH hlt;obtain⟨hin,hsz⟩:=hb b (a_ hx);have hrow:=oD (st:=s.st) hx;have e0:=jx s b.x b.z hin.x hst hn;have hbi:=pX hst b;have hht:=hin.ht;rw[show(dp b.x b.z s.st).getD 0=fV s.st b from O]at e0;have hwh:IntKind.i64.wrap (b.ht-fV s.st b)=b.ht-fV s.st b:=wrap_i64 J J;have z1:Zb 1:=aU Y Y;have z2:Zb 2:=aU Y Y;have e1:=j6 1 ⟨Y,Y⟩;have e2:=eJ b.st (ofQ ((1:Int):Rat)) (hx:=hsz.v) Y Y;have e3:=j6 2 ⟨Y,Y⟩;have e4:=eJ b.st (ofQ ((2:Int):Rat)) (hx:=hsz.v) Y Y;have e5:=j6 (b.ht-fV s.st b) ⟨J,J⟩;have hst1:b.side=false->ofQ (j3 b)=ofQ (b.st.val*((1:Int):Rat)):=fun h=>by rw[j3,h,if_neg Y,show((1:Int):Rat)=1 from O,Rat.mul_one]
  have hst2:b.side=true->ofQ (j3 b)=ofQ (b.st.val*((2:Int):Rat)):=fun h=>by rw[j3,h,if_pos O];rfl
  have hbS:eS (n7 s.st b)=I b.x::(eR (ofQ ((b.ht-fV s.st b:Int):Rat))++[.sl [[I 0]],.sl [eR (ofQ (j3 b))]]):=O;have hw:=c9 i;have hll:(c_ s.st (bl.take i)).length<=40:=by rw[c_,List.length_map,List.length_take];omega
  generalize n7 s.st b=bs at *
  generalize c_ s.st (bl.take i)=Bl at *
  generalize (dp b.x b.z s.st).isSome=bo at *
  generalize hF:ofQ (j3 b)=F at *
  generalize fV s.st b=bt at *
  generalize ofQ ((b.ht-bt:Int):Rat)=C at *
  generalize ofQ (b.st.val*((1:Int):Rat))=F1 at *
  generalize ofQ (b.st.val*((2:Int):Rat))=F2 at *
  generalize ofQ ((1:Int):Rat)=W1 at *
  generalize ofQ ((2:Int):Rat)=W2 at *
  refine aN hx ?_;refine ap e0 ?_
  (repeat ((fail_if_success (with_reducible refine aR 6 ?_));refine b9 O ?_))
  refine aq (gH 8) ?_;refine bC 4 1 [26,27,28,29,8] [] aS O ?_;refine G e1 ?_;refine G e2 ?_;refine H ?_;by_cases hsd:b.side=true
  .have hF2:=hst2 hsd;subst hF2;rw[hsd];refine bT 4 [32,33,34,35] ?_;refine G e3 ?_;refine G e4 ?_;refine H ?_;refine bD [49,1003] [13,14,15] aS ?_;refine H ?_;rw[hwh];refine sO O O O e5 O O ?_;refine H ?_;refine bJ O O (cZ O O O O O O O O O O aI O) ?_;refine H ?_;refine bJ O O (kK O O O O O O O O O O aI O) ?_;refine H ?_;refine js O O O (aT 1 O O O O O O O O O O O aI O ⟨dR O,?_⟩);refine H ?_;refine js O O O (bb 1 O O O O O O O O O O O aI (by intro row hr;first|(simp at hr;subst hr;rfl)|(simp at hr;obtain⟨_,_,rfl⟩:=hr;rfl)|simp at hr) O O aK aK ⟨dR O,?_⟩);refine H ?_;have hr2:(c_ s.st (bl.take (i+1))).map eS=Bl.map eS++[I b.x::(eR C++[.sl [[I 0]],.sl [eR F]])]:=by rw[hrow,List.map_append,<-hbS];rfl
   refine⟨i+1,hlt,J,O,?_,O,O,congrArg I hw,O,?_,trivial⟩
   .rw[hr2];rfl
   .rw[hr2];rfl
  .have hsd:b.side=false:=by simpa using hsd
   have hF1:=hst1 hsd;subst hF1;rw[hsd];refine H ?_;refine bD [49,1003] [13,14,15] aS ?_;refine H ?_;rw[hwh];refine sO O O O e5 O O ?_;refine H ?_;refine bJ O O (cZ O O O O O O O O O O aI O) ?_;refine H ?_;refine bJ O O (kK O O O O O O O O O O aI O) ?_;refine H ?_;refine js O O O (aT 1 O O O O O O O O O O O aI O ⟨dR O,?_⟩);refine H ?_;refine js O O O (bb 1 O O O O O O O O O O O aI (by intro row hr;first|(simp at hr;subst hr;rfl)|(simp at hr;obtain⟨_,_,rfl⟩:=hr;rfl)|simp at hr) O O aK aK ⟨dR O,?_⟩);refine H ?_;have hr2:(c_ s.st (bl.take (i+1))).map eS=Bl.map eS++[I b.x::(eR C++[.sl [[I 0]],.sl [eR F]])]:=by rw[hrow,List.map_append,<-hbS];rfl
   refine⟨i+1,hlt,J,O,?_,O,O,congrArg I hw,O,?_,trivial⟩
   .rw[hr2];rfl
   .rw[hr2];rfl
 .have hie:i=bl.length:=by have:=aG h;omega
  clear h;subst hie;rw[List.take_length]
  (repeat ((fail_if_success (with_reducible refine cA ?_));refine b9 O ?_))
  refine aq (Ghost.takeD (k:=1003) (t:=2) O O O) ?_;exact bI
set_option maxRecDepth 20000 in
theorem mL {K:St->Prop}{s':St}{d g2 h3:Nat}{c2 c3:Cont}{x:Operand}{tys:Array TypeId}{ty:TypeId}{pos:String}{af:Array Edge}(k:DKR)(hk:k.Bl)(hx:s'.ev x = .agg (cn k))(ho:FitO s' [(2,g2,c2),(3,h3,c3)])
  (hK:∀(s1:St) (g:Nat),K (({ reg:=s'.reg,own:=(s1.over [] [(1003,g,⟨136,7,(c_ k.s.st k.bl).map eS,1⟩),(2,g2,c2),(3,h3,c3)]).own }:St).putR d (.als 1003 g 0 ((c_ k.s.st k.bl).map eS).length))) :
  Sm Tryz.prog lay.get s' ⟨some d,.call ⟨.value (.func 90),#[x],tys⟩,ty,pos,af,none⟩ K:=by
 have hml:(k.bl.map eBk).length=k.bl.length:=ai;obtain⟨hst,hn,hb,hm⟩:=hk;obtain⟨s,den,bl,zn,gm,oh⟩:=k;simp only at *
 refine cF layOk O O Tryz.func90 O Y O O ?_;show PWP _ _ _ _ (b8 s' (([x]:List Operand).map s'.ev++[]));rw[show(([x]:List Operand).map s'.ev++([]:List PV))=[.agg (cn ⟨s,den,bl,zn,gm,oh⟩)] by simp[hx]];rw[show b8 s' [.agg (cn ⟨s,den,bl,zn,gm,oh⟩)]=b8 (s'.over [] [(2,g2,c2),(3,h3,c3)]) [.agg (cn ⟨s,den,bl,zn,gm,oh⟩)] by rw[Fit.over (l:=[]) ho]]
 (repeat ((fail_if_success (with_reducible refine aR 2 ?_));refine b9 O ?_))
 refine aq (Ghost.nilreg (k:=1003) (t:=3) 136 7 1 O O) ?_;refine H ?_;rw[hml];refine bj [(1,.ptr 1 ((s'.own 1).1+1) 0 0),(3,.als 1003 ((s'.own 1003).1+1) 0 0),(10,.sl (bl.map eBk)),(11,I bl.length),(12,I ((0:Nat):Int))] [(1,((s'.own 1).1+1),⟨31,14,[cn ⟨s,den,bl,zn,gm,oh⟩],2⟩),(1003,((s'.own 1003).1+1),⟨136,7,[],1⟩),(2,g2,c2),(3,h3,c3)] ⟨O,O,O,O,O,O,O,O,O,trivial⟩ ?_;generalize (s'.own 1).1+1=g1;generalize (s'.own 1003).1+1=g3;intro s0;refine ao (fun i:Nat=>i<=bl.length) (fun i=>[(1,.ptr 1 g1 0 0),(3,.als 1003 (g3+i) 0 ((c_ s.st (bl.take i)).map eS).length),(10,.sl (bl.map eBk)),(11,I bl.length),(12,I (i:Nat))])
  (fun i=>[(1,g1,⟨31,14,[cn ⟨s,den,bl,zn,gm,oh⟩],2⟩),(1003,g3+i,⟨136,7,(c_ s.st (bl.take i)).map eS,1⟩),(2,g2,c2),(3,h3,c3)]) (fun i=>bl.length-i) 0 (Nat.zero_le _) ⟨O,O,O,O,O,O,O,O,O,trivial⟩ ?_
 intro i s1 hi;refine D ?_ ?_<;>intro h
 .have hlt:i<bl.length:=by have:=aB h;omega
  clear h;obtain⟨b,hx⟩:=aH hlt;obtain⟨hin,hsz⟩:=hb b (a_ hx);have hrow:=oD (st:=s.st) hx;have e0:=jx s b.x b.z hin.x hst hn;have hbi:=pX hst b;have hht:=hin.ht;rw[show(dp b.x b.z s.st).getD 0=fV s.st b from O]at e0;have hwh:IntKind.i64.wrap (b.ht-fV s.st b)=b.ht-fV s.st b:=wrap_i64 J J;have z1:Zb 1:=aU Y Y;have z2:Zb 2:=aU Y Y;have e1:=j6 1 ⟨Y,Y⟩;have e2:=eJ b.st (ofQ ((1:Int):Rat)) (hx:=hsz.v) Y Y;have e3:=j6 2 ⟨Y,Y⟩;have e4:=eJ b.st (ofQ ((2:Int):Rat)) (hx:=hsz.v) Y Y;have e5:=j6 (b.ht-fV s.st b) ⟨J,J⟩;have hst1:b.side=false->ofQ (j3 b)=ofQ (b.st.val*((1:Int):Rat)):=fun h=>by rw[j3,h,if_neg Y,show((1:Int):Rat)=1 from O,Rat.mul_one]
  have hst2:b.side=true->ofQ (j3 b)=ofQ (b.st.val*((2:Int):Rat)):=fun h=>by rw[j3,h,if_pos O];rfl
  have hbS:eS (n7 s.st b)=I b.x::(eR (ofQ ((b.ht-fV s.st b:Int):Rat))++[.sl [[I 0]],.sl [eR (ofQ (j3 b))]]):=O;have hw:=c9 i;have hll:(c_ s.st (bl.take i)).length<=40:=by rw[c_,List.length_map,List.length_take];omega
  generalize n7 s.st b=bs at *
  generalize c_ s.st (bl.take i)=Bl at *
  generalize (dp b.x b.z s.st).isSome=bo at *
  generalize hF:ofQ (j3 b)=F at *
  generalize fV s.st b=bt at *
  generalize ofQ ((b.ht-bt:Int):Rat)=C at *
  generalize ofQ (b.st.val*((1:Int):Rat))=F1 at *
  generalize ofQ (b.st.val*((2:Int):Rat))=F2 at *
  generalize ofQ ((1:Int):Rat)=W1 at *
  generalize ofQ ((2:Int):Rat)=W2 at *
  refine aN hx ?_;refine ap e0 ?_
  (repeat ((fail_if_success (with_reducible refine aR 6 ?_));refine b9 O ?_))
  refine aq (gH 8) ?_;refine bC 4 1 [26,27,28,29,8] [] aS O ?_;refine G e1 ?_;refine G e2 ?_;refine H ?_;by_cases hsd:b.side=true
  .have hF2:=hst2 hsd;subst hF2;rw[hsd];refine bT 4 [32,33,34,35] ?_;refine G e3 ?_;refine G e4 ?_;refine H ?_;refine bD [49,1003] [13,14,15] aS ?_;refine H ?_;rw[hwh];refine sO O O O e5 O O ?_;refine H ?_;refine bJ O O (cZ O O O O O O O O O O aI O) ?_;refine H ?_;refine bJ O O (kK O O O O O O O O O O aI O) ?_;refine H ?_;refine js O O O (aT 1 O O O O O O O O O O O aI O ⟨dR O,?_⟩);refine H ?_;refine js O O O (bb 1 O O O O O O O O O O O aI (by intro row hr;first|(simp at hr;subst hr;rfl)|(simp at hr;obtain⟨_,_,rfl⟩:=hr;rfl)|simp at hr) O O aK aK ⟨dR O,?_⟩);refine H ?_;have hr2:(c_ s.st (bl.take (i+1))).map eS=Bl.map eS++[I b.x::(eR C++[.sl [[I 0]],.sl [eR F]])]:=by rw[hrow,List.map_append,<-hbS];rfl
   refine⟨i+1,hlt,J,O,?_,O,O,congrArg I hw,O,?_,O,O,trivial⟩
   .rw[hr2];rfl
   .rw[hr2];rfl
  .have hsd:b.side=false:=by simpa using hsd
   have hF1:=hst1 hsd;subst hF1;rw[hsd];refine H ?_;refine bD [49,1003] [13,14,15] aS ?_;refine H ?_;rw[hwh];refine sO O O O e5 O O ?_;refine H ?_;refine bJ O O (cZ O O O O O O O O O O aI O) ?_;refine H ?_;refine bJ O O (kK O O O O O O O O O O aI O) ?_;refine H ?_;refine js O O O (aT 1 O O O O O O O O O O O aI O ⟨dR O,?_⟩);refine H ?_;refine js O O O (bb 1 O O O O O O O O O O O aI (by intro row hr;first|(simp at hr;subst hr;rfl)|(simp at hr;obtain⟨_,_,rfl⟩:=hr;rfl)|simp at hr) O O aK aK ⟨dR O,?_⟩);refine H ?_;have hr2:(c_ s.st (bl.take (i+1))).map eS=Bl.map eS++[I b.x::(eR C++[.sl [[I 0]],.sl [eR F]])]:=by rw[hrow,List.map_append,<-hbS];rfl
   refine⟨i+1,hlt,J,O,?_,O,O,congrArg I hw,O,?_,O,O,trivial⟩
   .rw[hr2];rfl
   .rw[hr2];rfl
 .have hie:i=bl.length:=by have:=aG h;omega
  clear h;subst hie;rw[List.take_length];refine H ?_;exact zp (K:=fun o r=>K (({ reg:=s'.reg,own:=o }:St).putR d r)) [(1003,g3+bl.length,⟨136,7,(c_ s.st bl).map eS,1⟩),(2,g2,c2),(3,h3,c3)] (.inl O) O O ⟨O,O,O,trivial⟩ (fun s1=>hK s1 _)
theorem E_ (x:RR){p:Rat}{n:Nat}[hx:Vq x p n](hn:n<=10000000):Ret Tryz.prog .shared 91 [.agg (eR x),.agg zN] (.agg (eR (ofQ p))):=by
 have hs:=dy x RR.zero J Y;rw[Rat.add_zero]at hs;exact hs.weak (.cons (.rfl _) (.cons dP.agg .nil)) (.rfl _)
theorem wy {A:List SR}{W:List SR}{q:Rat}{i:Nat}{s:SR}(h:W[i]? = some s):A++(W.take (i+1)).map (zG q)=A++(W.take i).map (zG q)++[zG q s]:=by
 rw[br h,List.map_append,List.append_assoc];rfl
theorem BG {d:DKR}(h:900<=d.d/\d.d<=1100):((rE d:Nat):Int)=d.d:=Int.toNat_of_nonneg J
set_option maxRecDepth 20000 in
theorem ov (d:DKR)(hk:d.Bl)(hd:900<=d.d/\d.d<=1100)(he:jI d.s d.d=0)(hs:d.s.Len)(lv:RR){p:Rat}{n:Nat}[hv:Vq lv p n](hn:n<=10000000):Ret Tryz.prog .shared 97 [.agg (cn d),.agg (eR lv)] (.sl ((rh d p).map eS)):=by
 have hdn:=BG hd;have h1:=ma d.s hs (rE d) (by rw[hdn];exact he) J J hk.st hk.n;rw[hdn]at h1;have h2:=E_ lv (hx:=hv) hn;have hmw:((eF (rE d) d.s.st).map eS).length=d.s.st.length:=by simp[eF]
 have hA:(c_ d.s.st d.bl).length<=40:=by rw[c_,List.length_map];exact hk.m
 have hWl:(eF (rE d) d.s.st).length<=40:=by rw[eF,List.length_map];exact hk.n
 have hmw2:((eF (rE d) d.s.st).map eS).length=(eF (rE d) d.s.st).length:=ai;rw[rh];have hin:=@mL;have hB:=fun K s' d' g2 h3 c2 c3 x tys ty pos af=>@mL K s' d' g2 h3 c2 c3 x tys ty pos af d hk;generalize c_ d.s.st d.bl=A at *
 generalize eF (rE d) d.s.st=W at *
 clear hin he hs hmw;obtain⟨s,den,bl,zn,gm,oh⟩:=d;simp only at *
 refine Ret.of_pwp layOk mixed Go.Proofs.Tryz.func97 O Y O O ?_
 ((repeat ((fail_if_success (with_reducible refine aR 1 ?_));refine b9 O ?_));refine aM 1 ?_)
 refine dD O ?_;refine aO ?_;refine aW O (hB _ _ _ _ _ _ _ _ _ _ _ _ O ⟨O,O,trivial⟩ fun s1 g=>?_);refine aJ ?_;refine G h1 ?_;refine H ?_;rw[hmw2];refine bj [(2,.ptr 2 1 0 0),(3,.ptr 3 1 0 0),(5,.als 1003 g 0 (A.map eS).length),(20,.sl (W.map eS)),(21,I W.length),(22,I ((0:Nat):Int))] [(2,1,⟨31,14,[cn ⟨s,den,bl,zn,gm,oh⟩],2⟩),(3,1,⟨42,4,[eR lv],2⟩),(1003,g,⟨136,7,A.map eS,1⟩)] ⟨O,O,O,O,O,O,O,O,O,trivial⟩ ?_;intro s2;refine ao (fun i:Nat=>i<=W.length) (fun i=>[(2,.ptr 2 1 0 0),(3,.ptr 3 1 0 0),(5,.als 1003 (g+i) 0 ((A++(W.take i).map (zG p)).map eS).length),(20,.sl (W.map eS)),(21,I W.length),(22,I (i:Nat))]) (fun i=>[(2,1,⟨31,14,[cn ⟨s,den,bl,zn,gm,oh⟩],2⟩),(3,1,⟨42,4,[eR lv],2⟩),(1003,g+i,⟨136,7,(A++(W.take i).map (zG p)).map eS,1⟩)]) (fun i=>W.length-i) 0 (Nat.zero_le _)
  ⟨O,O,by rw[List.take_zero,List.map_nil,List.append_nil];rfl,O,O,O,O,O,by rw[List.take_zero,List.map_nil,List.append_nil];rfl,trivial⟩ ?_
 intro i s3 hi;refine D ?_ ?_<;>intro h
 .have hlt:i<W.length:=by have:=aB h;omega
  clear h;obtain⟨x,hx⟩:=aH hlt;have hrow:(A++(W.take (i+1)).map (zG p)).map eS=(A++(W.take i).map (zG p)).map eS++[I x.x::(eR (ofQ p)++[.sl (x.k.S.map eN),.sl (x.k.M.map eR)])]:=by rw[wy hx,List.map_append];rfl
  have hw:=c9 i;have hll:((A++(W.take i).map (zG p)).map eS).length<=80:=by rw[List.length_map,List.length_append,List.length_map,List.length_take];omega
  have hb:g+(i+1)=g+i+1:=O;generalize (A++(W.take i).map (zG p)).map eS=R at *
  generalize ofQ p=Q at *
  refine aN hx ?_;refine G h2 ?_;refine H ?_;refine ax (aT 1 O O O O O O O O O O O aI O ?_);refine H ?_;refine ax (bb 1 O O O O O O O O O O O aI (by intro row hr;first|(simp at hr;subst hr;rfl)|simp at hr) O O aK aK ?_);refine H ?_;refine⟨i+1,hlt,J,O,O,?_,O,O,congrArg I hw,O,O,?_,trivial⟩
  .rw[hrow,hb];rfl
  .rw[hrow,hb];rfl
 have hie:i=W.length:=by have:=aG h;omega
 clear h;subst hie;rw[List.take_length]
 (repeat ((fail_if_success (with_reducible refine cA ?_));refine b9 O ?_))
 refine aq (Ghost.takeD (k:=1003) (t:=4) O O O) ?_;exact bI
theorem zm (a:AR)(x:Int)(hx:i64 x){z t:Rat}{n m:Nat}[ha:Va a z t n m](hn:n<=1000000)(hm:m<=1000000):Ret Tryz.prog .shared 92 [.agg (eA a),I x] (.agg (eR (ofQ (z+t*(x:Rat))))):=by
 have hxz:Zb x:=aU hx.1 hx.2;have hw:=gz x hx;have h1:=eJ a.t (ofQ (x:Rat)) (hx:=ha.t) J Y;have v1:Vq (ofQ (t*(x:Rat))) (t*(x:Rat)) (m+1+4):=Vq.ofQ (h:=@HQ.mul _ _ (m+1) 4 ha.t.hq HQ.int);have h2:=dy a.z (ofQ (t*(x:Rat))) (hx:=ha.z) (hy:=v1) J J;obtain⟨az,at'⟩:=a;simp only at *
 generalize ofQ (z+t*(x:Rat))=X2 at *
 generalize ofQ (t*(x:Rat))=X1 at *
 generalize ofQ (x:Rat)=X0 at *
 refine Ret.of_pwp layOk mixed Go.Proofs.Tryz.func92 O Y O O ?_;refine bT 8 [5,6,7,8,9,10,11,12] ?_;refine G hw ?_;refine G h1 ?_;refine G h2 ?_;exact bI
theorem tJ (F:List RR)(hl:F.length<=1000000):Ret Tryz.prog .shared 136 [.sl (F.map eR)] (.sl (F.map eR)):=by
 refine Ret.of_pwp layOk mixed Go.Proofs.Tryz.func136 O Y O O ?_
 ((repeat ((fail_if_success (with_reducible refine aR 1 ?_));refine b9 O ?_));refine aM 1 ?_)
 refine dD O ?_;refine aO ?_;refine aW O (eX layOk O O O (fun h0=>?_) ?_)
 .rw[h0];refine aJ ?_
  (repeat ((fail_if_success (with_reducible refine cA ?_));refine b9 O ?_))
  refine aq (Ghost.nilfs (t:=2) O) ?_;exact bI
 .refine aJ ?_;refine H ?_;refine ax (aT 1 O O O O O O O O O O O aI O ?_);refine H ?_;refine ax (bb 1 O O O O O O O O O O O aI (by intro row hr;obtain⟨p,_,rfl⟩:=List.mem_map.1 hr;rfl) O O aK aK ?_)
  (repeat ((fail_if_success (with_reducible refine cA ?_));refine b9 O ?_))
  refine aq (Ghost.takeD (k:=5) (t:=2) O O O) ?_;exact bI
def ib (q:Int × Int)(x:Int):Int × Int:=if q.2=0\/x≠q.1 then(x,q.2+1) else q
def kD:List BKR->List Rat->List Int
 |b::l,q::v=>if q≠0 then b.x::kD l v else kD l v
 |_,_=>[]
def sD (l:List Int):Int × Int:=l.foldl ib (0,0)
def jS (bl:List BKR)(v:List Rat)(b:Rat):Int:=if (sD (kD bl v)).2=0 then 0 else if (sD (kD bl v)).2=1 then 1 else if b=0 then 3 else 2
theorem r7:∀ {bl:List BKR} {v:List Rat} {k:Nat} {b:BKR} {q:Rat},bl[k]? = some b->v[k]? = some q->kD (bl.take (k+1)) (v.take (k+1))=kD (bl.take k) (v.take k)++(if q≠0 then [b.x] else [])
 |[],_,k,b,q,h,_=>by simp at h
 |c::bl,[],k,b,q,_,h=>by simp at h
 |c::bl,p::v,0,b,q,h1,h2=>by
  simp at h1 h2;subst h1 h2;simp[kD]
 |c::bl,p::v,k+1,b,q,h1,h2=>by
  have ih:=r7 (bl:=bl) (v:=v) (k:=k) (b:=b) (q:=q) (by simpa using h1) (by simpa using h2);rw[List.take_succ_cons,List.take_succ_cons,List.take_succ_cons,List.take_succ_cons,kD,kD,ih];split<;>simp
theorem Ff (l:List Int):0<=(sD l).2/\(sD l).2<=l.length:=by
 have key:∀(l:List Int) (q:Int × Int),0<=q.2->0<=(l.foldl ib q).2/\(l.foldl ib q).2<=q.2+l.length:=by
  intro l
  induction l with
  |nil=>intro q h;simp;omega
  |cons x l ih =>
   intro q h;have h1:0<=(ib q x).2/\(ib q x).2<=q.2+1:=by
    rw[ib];split
    .exact⟨show 0<=q.2+1 by omega,Int.le_refl _⟩
    .exact⟨h,J⟩
   have:=ih (ib q x) h1.1;rw[List.foldl_cons,List.length_cons];omega
 have:=key l (0,0) Y;simpa [sD] using this
theorem vo:∀(bl:List BKR) (v:List Rat),(kD bl v).length<=v.length
 |[],v=>by simp[kD]
 |_::_,[]=>by simp[kD]
 |b::bl,q::v=>by
  have:=vo bl v;rw[kD];split<;>simp<;>omega
theorem z_ (l:List Int)(x:Int):sD (l++[x])=ib (sD l) x:=by rw[sD,sD,List.foldl_append];rfl
set_option maxRecDepth 20000 in
theorem xA (d:DKR)(v:List Rat)(hl:v.length<=d.bl.length)(hm:v.length<=1000)(hv:∀q∈v,hq q 7000000)(b:Rat)(hb:hq b 7000000):Ret Tryz.prog .shared 139 [.agg (cn d),.sl ((v.map ofQ).map eR),.agg (eR (ofQ b))] (I (jS d.bl v b)):=by
 have hml:((v.map ofQ).map eR).length=v.length:=ai;have sb:=td (ofQ b) (hx:=Vq.ofQ (h:=⟨hb⟩)) Y;have hbz:=gv b;generalize hf:jS d.bl v b=E;obtain⟨s,den,bl,zn,gm,oh⟩:=d;simp only at *
 refine Ret.of_pwp layOk mixed Go.Proofs.Tryz.func139 O Y O O ?_;refine H ?_;rw[hml];refine ao (fun i:Nat=>i<=v.length) (fun i=>[(1,.sl ((v.map ofQ).map eR)),(3,.ptr 3 1 0 0),(5,.ptr 5 1 0 0),(7,I (sD (kD (bl.take i) (v.take i))).1),(8,I (sD (kD (bl.take i) (v.take i))).2),(11,.sl ((v.map ofQ).map eR)),(12,I v.length),(13,I (i:Nat))])
  (fun _=>[(3,1,⟨31,14,[cn ⟨s,den,bl,zn,gm,oh⟩],2⟩),(5,1,⟨42,4,[eR (ofQ b)],2⟩)]) (fun i=>v.length-i) 0 (Nat.zero_le _) ⟨O,O,O,by rw[List.take_zero,List.take_zero];rfl,by rw[List.take_zero,List.take_zero];rfl,O,O,O,O,O,trivial⟩ ?_
 intro i s1 hi;refine D ?_ ?_<;>intro h
 .have hlt:i<v.length:=by have:=aB h;omega
  clear h;obtain⟨q,hq⟩:=aH hlt;obtain⟨c,hc⟩:=aH (show i<bl.length by omega);have hx:(v.map ofQ)[i]? = some (ofQ q):=by rw[List.getElem?_map,hq];rfl
  have sq:=td (ofQ q) (hx:=Vq.ofQ (h:=⟨hv q (a_ hq)⟩)) Y;have hqz:=gv q;have hsn:=r7 hc hq;have hple:=Ff (kD (bl.take i) (v.take i));have hpl2:=vo (bl.take i) (v.take i);rw[List.length_take]at hpl2;have hw:=c9 i;have hwp:IntKind.i64.wrap ((sD (kD (bl.take i) (v.take i))).2+1)=(sD (kD (bl.take i) (v.take i))).2+1:=wrap_i64 J J;have hph:=z_ (kD (bl.take i) (v.take i)) c.x;rw[ib]at hph;clear hple hpl2;generalize kD (bl.take i) (v.take i)=A at *
  generalize hAn:(sD A).2=P at *
  generalize hAx:(sD A).1=X at *
  generalize sgn q=g at *
  generalize ofQ q=qq at *
  refine aN hx ?_;refine ap sq ?_;refine H ?_;by_cases h0:g=0
  .have hq0:=hqz.1 h0;subst h0;refine H ?_;refine⟨i+1,hlt,J,O,O,O,?_,?_,O,O,congrArg I hw,O,O,trivial⟩
   .rw[hsn,if_neg (by simpa using hq0),List.append_nil,hAx];rfl
   .rw[hsn,if_neg (by simpa using hq0),List.append_nil,hAn];rfl
  have hq0:q≠0:=fun e=>h0 (hqz.2 e);rw[if_pos hq0]at hsn;rw[decide_eq_false h0];refine H ?_;by_cases hP:P=0
  .rw[if_pos (.inl hP)]at hph;rw[decide_eq_true hP];refine aN hc ?_;refine H ?_;rw[hwp];refine⟨i+1,hlt,J,O,O,O,?_,?_,O,O,congrArg I hw,O,O,trivial⟩
   .rw[hsn,hph];rfl
   .rw[hsn,hph];rfl
  rw[decide_eq_false hP];refine aN hc ?_;refine D ?_ ?_<;>intro h
  .have hX:c.x≠X:=by simpa using h
   clear h;rw[if_pos (.inr hX)]at hph;refine aN hc ?_;refine H ?_;rw[hwp];refine⟨i+1,hlt,J,O,O,O,?_,?_,O,O,congrArg I hw,O,O,trivial⟩
   .rw[hsn,hph];rfl
   .rw[hsn,hph];rfl
  .have hX:c.x=X:=by simpa using h
   clear h;rw[if_neg (fun e=>e.elim hP fun e=>e hX)]at hph;refine H ?_;refine⟨i+1,hlt,J,O,O,O,?_,?_,O,O,congrArg I hw,O,O,trivial⟩
   .rw[hsn,hph,hAx];rfl
   .rw[hsn,hph,hAn];rfl
 have hie:i=v.length:=by have:=aG h;omega
 clear h;subst hie;have hA:kD (bl.take v.length) (v.take v.length)=kD bl v:=by
  rw[List.take_length];have key:∀(v:List Rat) (bl:List BKR),kD (bl.take v.length) v=kD bl v:=by
   intro v
   induction v with
   |nil=>intro bl;cases bl<;>simp[kD]
   |cons q v ih=>intro bl;cases bl with
    |nil=>simp[kD]
    |cons b bl=>simp only[List.length_cons,List.take_succ_cons,kD,ih]
  exact key v bl
 rw[hA];rw[jS]at hf;generalize (sD (kD bl v)).1=X at *
 generalize (sD (kD bl v)).2=P at *
 clear hA;refine H ?_;by_cases h0:P=0
 .rw[if_pos h0]at hf;rw[decide_eq_true h0];subst hf;exact bq
 rw[if_neg h0]at hf;rw[decide_eq_false h0];refine H ?_;by_cases h1:P=1
 .rw[if_pos h1]at hf;rw[decide_eq_true h1];subst hf;exact bq
 rw[if_neg h1]at hf;rw[decide_eq_false h1];refine ap sb ?_;refine H ?_;by_cases h2:b=0
 .rw[if_pos h2]at hf;rw[decide_eq_true (hbz.2 h2)];subst hf;exact bq
 .rw[if_neg h2]at hf;rw[decide_eq_false (fun e=>h2 (hbz.1 e))];subst hf;exact bq
structure STQ where
 km:RR
 kg:RR
 gm:RR
 ot:RR
def DF (x:STQ):List PV:=eR x.km++eR x.kg++eR x.gm++eR x.ot
def Ev:STQ:=⟨RR.zero,RR.zero,RR.zero,RR.zero⟩
structure DQ where
 lv:RR
 a:AR
 F:List RR
 up:RR
 bu:RR
 s:STQ
 held:Bool
 ph:Int
def E0 (x:DQ):List PV:=eR x.lv++eA x.a++[.sl (x.F.map eR)]++eR x.up++eR x.bu++DF x.s++[.bool x.held,I x.ph]
def Bn:List PV:=zN++zN++zN++zN
def Gy:List PV:=zN++(zN++zN)++[.nil]++zN++zN++Bn++[.bool false,I 0]
def dZ:DQ:=⟨RR.zero,zA,[],RR.zero,RR.zero,Ev,false,0⟩
theorem Bo:WeakL Bn (DF Ev):=((dP.app dP).app dP).app dP
def co (l:List Rat):Rat:=l.foldl (·+·) 0
theorem pK (l:List Rat)(x:Rat):co (l++[x])=co l+x:=by rw[co,List.foldl_append];rfl
theorem A6 {N:Nat}{l:List Rat}(h:∀q∈l,hq q N):hq (co l) ((N+1)*l.length+4):=by
 have key:∀(l:List Rat) (a:Rat) (m:Nat),hq a m->(∀q∈l,hq q N)->hq (l.foldl (·+·) a) (m+(N+1)*l.length):=by
  intro l
  induction l with
  |nil=>intro a m ha _;simpa using ha
  |cons x l ih =>
   intro a m ha hl;rw[List.foldl_cons,List.length_cons];have:=ih (a+x) (m+N+1) (@HQ.add a x m N ⟨ha⟩ ⟨hl x List.mem_cons_self⟩).ok fun q hq=>hl q (List.mem_cons_of_mem _ hq);rwa [show m+N+1+(N+1)*l.length=m+(N+1)*(l.length+1) by rw[Nat.mul_add];omega]at this
 have:=key l 0 4 HQ.zero.ok h;rwa [Nat.add_comm]at this
def dH:List BKR->List Rat->Bool
 |b::l,q::v=>(b.side&&decide (q≠0))||dH l v
 |_,_=>false
theorem mZ:∀ {bl:List BKR} {v:List Rat} {k:Nat} {b:BKR} {q:Rat},bl[k]? = some b->v[k]? = some q->dH bl (v.take (k+1))=(dH bl (v.take k)||(b.side&&decide (q≠0)))
 |[],_,k,b,q,h,_=>by simp at h
 |c::bl,[],k,b,q,_,h=>by simp at h
 |c::bl,p::v,0,b,q,h1,h2=>by
  simp at h1 h2;subst h1 h2;cases bl<;>simp[dH]
 |c::bl,p::v,k+1,b,q,h1,h2=>by
  have ih:=mZ (bl:=bl) (v:=v) (k:=k) (b:=b) (q:=q) (by simpa using h1) (by simpa using h2);rw[List.take_succ_cons,List.take_succ_cons,dH,dH,ih,Bool.or_assoc]
theorem jJ:∀ {bl:List BKR} {v:List Rat} {k:Nat},bl.length<=k->dH bl (v.take k)=dH bl v
 |[],v,k,_=>by simp[dH]
 |c::bl,[],k,_=>by simp
 |c::bl,p::v,0,h=>by simp at h
 |c::bl,p::v,k+1,h=>by rw[List.take_succ_cons,dH,dH,jJ (by simpa using h)]
def FE (p az at':RR)(F:List (List PV))(u b:RR)(h:Bool):List PV:=eR p++(eR az++eR at')++[.sl F]++eR u++eR b++Bn++[.bool h,I 0]
def FP (d:DKR)(p:Rat)(a:AR)(v:List Rat)(s:STQ):DQ :=
 ⟨ofQ p,a,(v.take d.bl.length).map ofQ,ofQ (co (v.take d.bl.length)),ofQ (co (v.drop d.bl.length)),s,dH d.bl v,jS d.bl (v.take d.bl.length) (co (v.drop d.bl.length))⟩
set_option maxRecDepth 20000 in
set_option maxHeartbeats 16000000 in
theorem AY (d:DKR)(lv:RR){p:Rat}{n:Nat}[hlv:Vq lv p n](hn:n<=1000000)(hsup:Ret Tryz.prog .shared 97 [.agg (cn d),.agg (eR lv)] (.sl ((rh d p).map eS)))(B:BR)(h95:Ret Tryz.prog .shared 95 [.agg (fi d.s),.sl ((rh d p).map eS)] (.tup [.agg (eB B),I 0]))
  (az at' rz rt:RR) (v:List Rat) (hv:∀q∈v,hq q 100000) (hvl:d.bl.length<=v.length) (hv64:v.length<=64) (h78:Ret Tryz.prog .shared 78 [.agg (eB B)] (.tup [.agg (lg ⟨az,at'⟩ (v.map ofQ)),.agg (eR rz++eR rt),I 0])) (T:STQ)
  {nz:Nat} {z:Rat} [hz:Vq az z nz] (hnz:nz<=1000000)
  (hT:co (v.drop d.bl.length)≠0->Ret Tryz.prog .shared 138 [.agg (fi d.s),.agg (eR (ofQ (z+p))++eR at'),.agg ([I d.d]++eR (ofQ (co (v.take d.bl.length))))] (.tup [.agg (DF T),I 0])) (hT0:co (v.drop d.bl.length)=0->T=Ev) :
  Ret Tryz.prog .shared 74 [.agg (cn d),.agg (eR lv)] (.tup [.agg (E0 (FP d p ⟨az,at'⟩ v T)),I 0]):=by
 have e1:=E_ lv (hx:=hlv) J;have e2:=tJ ((v.take d.bl.length).map ofQ) (by rw[List.length_map,List.length_take];omega);have e3:=j6 0 ⟨Y,Y⟩;rw[show((0:Int):Rat)=0 from O]at e3;have e4:=dy az lv (hx:=hz) (hy:=hlv) J J;have hvt:∀i,∀q∈v.take i,hq q 100000:=fun i q hq=>hv q (List.mem_of_mem_take hq);have hs1:∀i,hq (co ((v.take i).take d.bl.length)) 6500000:=fun i=>by
  have:=A6 (N:=100000) (l:=(v.take i).take d.bl.length) fun q hq=>hvt i q (List.mem_of_mem_take hq);refine(HQ.mono (q:=co ((v.take i).take d.bl.length)) (h:=⟨this⟩) ?_).ok;rw[List.length_take,List.length_take];have:min d.bl.length (min i v.length)<=64:=J;have:=Nat.mul_le_mul_left (100000+1) this;omega
 have hs2:∀i,hq (co ((v.take i).drop d.bl.length)) 6500000:=fun i=>by
  have:=A6 (N:=100000) (l:=(v.take i).drop d.bl.length) fun q hq=>hvt i q (List.mem_of_mem_drop hq);refine(HQ.mono (q:=co ((v.take i).drop d.bl.length)) (h:=⟨this⟩) ?_).ok;rw[List.length_drop,List.length_take];have:min i v.length-d.bl.length<=64:=J;have:=Nat.mul_le_mul_left (100000+1) this;omega
 have hp:=xA d (v.take d.bl.length) (by rw[List.length_take];omega) (by rw[List.length_take];omega) (fun q hq=>(HQ.mono (q:=q) (h:=⟨hvt _ q hq⟩) Y).ok) (co (v.drop d.bl.length)) (by
  have:=hs2 v.length;rw[List.take_length]at this
  exact(HQ.mono (q:=co (v.drop d.bl.length)) (h:=⟨this⟩) Y).ok)
 have hsg:=td (ofQ (co (v.drop d.bl.length))) (hx:=Vq.ofQ (h:=⟨by have:=hs2 v.length;rwa [List.take_length]at this⟩)) Y;have hsz:=gv (co (v.drop d.bl.length));have hml:((v.map ofQ).map eR).length=v.length:=ai;have hmb:(d.bl.map eBk).length=d.bl.length:=ai;have htk:(v.take d.bl.length).map ofQ=(v.map ofQ).take d.bl.length:=List.map_take;rw[FP];obtain⟨s,den,bl,zn,gm,oh⟩:=d;simp only at *
 obtain⟨R,hR0,hR1,hRw⟩:∃R,(co (v.drop bl.length)=0->R=Bn)/\(co (v.drop bl.length)≠0->R=DF T)/\WeakL R (DF T):=by
  by_cases h:co (v.drop bl.length)=0
  .exact⟨Bn,fun _=>rfl,fun g=>absurd h g,by rw[hT0 h];exact Bo⟩
  .exact⟨DF T,fun g=>absurd g h,fun _=>rfl,WeakL.refl _⟩
 refine Ret.weak (r' := .tup [.agg (eR (ofQ p)++(eR az++eR at')++[.sl (((v.take bl.length).map ofQ).map eR)]++eR (ofQ (co (v.take bl.length)))++eR (ofQ (co (v.drop bl.length)))++R++[.bool (dH bl v),I (jS bl (v.take bl.length) (co (v.drop bl.length)))]),I 0]) ?_ (WeakL.refl _) (WeakL.tup (.cons (((WeakL.refl _).app hRw).app (WeakL.refl _)).agg (WeakL.refl _)));clear hRw hT0;generalize hW:(rh ⟨s,den,bl,zn,gm,oh⟩ p).map eS=W at *
 generalize jS bl (v.take bl.length) (co (v.drop bl.length))=PH at *
 generalize hQp:ofQ p=Qp at *
 generalize hQz:ofQ (z+p)=Qz at *
 clear hW;refine Ret.of_pwp layOk mixed Go.Proofs.Tryz.func74 O Y O O ?_;refine H ?_;refine fN [(9,6),(10,6)] aS aS ?_;refine G hsup ?_;refine G h95 ?_;refine H ?_;refine Eu O O O O O ?_;refine Ds 2 O O O O O O (fun _=>rfl) aI O O O O ?_;refine G h78 ?_;refine H ?_;refine bC 13 1 [41,42,43,44,45,46,47,48,49,50,51,52,53,11] [] aS O ?_;refine G e1 ?_;refine H ?_;rw[hmb];refine bJ O O (jW (l:=v.map ofQ) (enc:=eR) (n:=((bl.length:Nat):Int)) O O O O O J (by rw[List.length_map];omega) (fun _=>rfl)) ?_;rw[Int.toNat_natCast,<-htk];refine G e2 ?_;refine G e3 ?_;refine G e3 ?_;refine H ?_;rw[hml];have z0:dH bl (v.take 0)=false:=by cases bl<;>rfl
 have z1:co ((v.take 0).take bl.length)=0:=by rw[List.take_zero,List.take_nil];rfl
 have z2:co ((v.take 0).drop bl.length)=0:=by rw[List.take_zero,List.drop_nil];rfl
 refine bj [(2,.ptr 2 1 0 0),(3,.ptr 3 1 0 0),(4,.ptr 4 1 0 0),(8,.ptr 8 1 0 0),(10,I bl.length),(11,.ptr 11 1 0 0),(55,.sl ((v.map ofQ).map eR)),(56,I v.length),(57,I ((0:Nat):Int))] [(2,1,⟨31,14,[cn ⟨s,den,bl,zn,gm,oh⟩],2⟩),(3,1,⟨42,4,[eR lv],2⟩),(4,1,⟨50,39,[Gy],2⟩),(8,1,⟨69,9,[lg ⟨az,at'⟩ (v.map ofQ)],2⟩),(11,1,⟨50,39,[FE Qp az at' (((v.take bl.length).map ofQ).map eR) (ofQ 0) (ofQ 0) false],2⟩)] ⟨O,O,O,O,O,O,O,O,O,O,O,O,O,O,trivial⟩ ?_;intro s0;refine ao (fun i:Nat=>i<=v.length) (fun i=>[(2,.ptr 2 1 0 0),(3,.ptr 3 1 0 0),(4,.ptr 4 1 0 0),(8,.ptr 8 1 0 0),(10,I bl.length),(11,.ptr 11 1 0 0),(55,.sl ((v.map ofQ).map eR)),(56,I v.length),(57,I (i:Nat))]) (fun i=>[(2,1,⟨31,14,[cn ⟨s,den,bl,zn,gm,oh⟩],2⟩),(3,1,⟨42,4,[eR lv],2⟩),(4,1,⟨50,39,[Gy],2⟩),(8,1,⟨69,9,[lg ⟨az,at'⟩ (v.map ofQ)],2⟩),(11,1,⟨50,39,[FE Qp az at' (((v.take bl.length).map ofQ).map eR) (ofQ (co ((v.take i).take bl.length))) (ofQ (co ((v.take i).drop bl.length))) (dH bl (v.take i))],2⟩)]) (fun i=>v.length-i) 0 (Nat.zero_le _) ⟨O,O,O,O,O,O,O,O,O,O,O,O,O,by rw[z0,z1,z2];rfl,trivial⟩ ?_;clear z1 z2;intro i s1 hi;refine D ?_ ?_<;>intro h
 .have hlt:i<v.length:=by have:=aB h;omega
  clear h;obtain⟨q,hq⟩:=aH hlt;have hx:(v.map ofQ)[i]? = some (ofQ q):=by rw[List.getElem?_map,hq];rfl
  have hqs:=hv q (a_ hq);have sq:=td (ofQ q) (hx:=Vq.ofQ (h:=⟨hqs⟩)) Y;have hqz:=gv q;have a1:=dy (ofQ (co ((v.take i).take bl.length))) (ofQ q) (hx:=Vq.ofQ (h:=⟨hs1 i⟩)) (hy:=Vq.ofQ (h:=⟨hqs⟩)) Y Y;have a2:=dy (ofQ (co ((v.take i).drop bl.length))) (ofQ q) (hx:=Vq.ofQ (h:=⟨hs2 i⟩)) (hy:=Vq.ofQ (h:=⟨hqs⟩)) Y Y;have hw:=c9 i;have htn:v.take (i+1)=v.take i++[q]:=br hq;have hil:(v.take i).length=i:=by rw[List.length_take];omega
  refine aN hx ?_;refine D ?_ ?_<;>intro h
  .have hin:i<bl.length:=by have:=aB h;omega
   clear h;obtain⟨c,hc⟩:=aH hin;have hu:co ((v.take (i+1)).take bl.length)=co ((v.take i).take bl.length)+q:=by rw[htn,show(v.take i++[q]).take bl.length=v.take i++[q] from List.take_of_length_le (by rw[List.length_append,hil];exact hin),show(v.take i).take bl.length=v.take i from List.take_of_length_le J,pK]
   have hb:co ((v.take (i+1)).drop bl.length)=co ((v.take i).drop bl.length):=by rw[htn,show(v.take i++[q]).drop bl.length=[] from List.drop_of_length_le (by rw[List.length_append,hil];exact hin),show(v.take i).drop bl.length=[] from List.drop_of_length_le J]
   have hh:=mZ hc hq;generalize co ((v.take i).take bl.length)=U at *
   generalize co ((v.take i).drop bl.length)=Bq at *
   generalize dH bl (v.take i)=H0 at *
   generalize hU2:ofQ (U+q)=U2 at *
   generalize ofQ U=U1 at *
   generalize hB1:ofQ Bq=B1 at *
   generalize sgn q=g1 at *
   refine G a1 ?_;refine H ?_;cases H0
   rotate_left
   .refine H ?_;exact⟨i+1,hlt,J,O,O,O,O,O,O,O,O,congrArg I hw,O,O,O,O,by rw[hu,hb,hh,hU2,hB1];rfl,trivial⟩
   refine aN hc ?_;refine H ?_;cases hsd:c.side
   .rw[hsd]at hh;refine H ?_;exact⟨i+1,hlt,J,O,O,O,O,O,O,O,O,congrArg I hw,O,O,O,O,by rw[hu,hb,hh,hU2,hB1];rfl,trivial⟩
   rw[hsd]at hh;refine ap sq ?_;refine H ?_;by_cases h0:g1=0
   .rw[decide_eq_false (show ¬q≠0 from fun g=>g (hqz.1 h0))]at hh;subst h0;refine H ?_;exact⟨i+1,hlt,J,O,O,O,O,O,O,O,O,congrArg I hw,O,O,O,O,by rw[hu,hb,hh,hU2,hB1];rfl,trivial⟩
   .rw[decide_eq_true (show q≠0 from fun g=>h0 (hqz.2 g))]at hh;rw[decide_eq_false h0];refine H ?_;exact⟨i+1,hlt,J,O,O,O,O,O,O,O,O,congrArg I hw,O,O,O,O,by rw[hu,hb,hh,hU2,hB1];rfl,trivial⟩
  .have hin:bl.length<=i:=by have:=aG h;omega
   clear h;have hu:co ((v.take (i+1)).take bl.length)=co ((v.take i).take bl.length):=by rw[htn,List.take_append_of_le_length J]
   have hb:co ((v.take (i+1)).drop bl.length)=co ((v.take i).drop bl.length)+q:=by rw[htn,List.drop_append_of_le_length J,pK]
   have hh:dH bl (v.take (i+1))=dH bl (v.take i):=by rw[jJ J,jJ hin]
   generalize co ((v.take i).take bl.length)=U at *
   generalize co ((v.take i).drop bl.length)=Bq at *
   generalize dH bl (v.take i)=H0 at *
   generalize hB2:ofQ (Bq+q)=B2 at *
   generalize hU1:ofQ U=U1 at *
   generalize ofQ Bq=B1 at *
   refine G a2 ?_;refine H ?_;exact⟨i+1,hlt,J,O,O,O,O,O,O,O,O,congrArg I hw,O,O,O,O,by rw[hu,hb,hh,hU1,hB2];rfl,trivial⟩
 have hie:i=v.length:=by have:=aG h;omega
 clear h;subst hie;rw[List.take_length];clear hs1 hs2 hvt hml z0;generalize co (v.take bl.length)=U at *
 generalize hBq:co (v.drop bl.length)=Bq at *
 generalize dH bl v=H0 at *
 generalize sgn Bq=g1 at *
 generalize ofQ U=U1 at *
 generalize ofQ Bq=B1 at *
 generalize hFL:(v.take bl.length).map ofQ=FL at *
 refine ap hsg ?_;refine H ?_;by_cases h0:g1=0
 .have hB0:=hsz.1 h0;have hRe:=hR0 hB0;subst hRe;rw[decide_eq_true h0];refine ap hp ?_;exact bI
 .have hB0:Bq≠0:=fun e=>h0 (hsz.2 e);have hRe:=hR1 hB0;have hTr:=hT hB0;clear hT;subst hRe;rw[decide_eq_false h0]
  (repeat ((fail_if_success (with_reducible refine aR 18 ?_));refine b9 O ?_))
  refine aq (gH 14) ?_;refine bC 9 1 [96,97,98,99,100,101,102,103,104,14] [] aS O ?_;refine G e4 ?_;refine G hTr ?_;refine ap hp ?_;exact bI
set_option maxRecDepth 20000 in
theorem ER (d:DKR)(hd:d.Ok)(hE:jg d=0)(lv:RR)(x:DQ)(e:Int)(h74:Ret Tryz.prog .shared 74 [.agg (cn d),.agg (eR lv)] (.tup [.agg (E0 x),I e])):Ret Tryz.prog .shared 21 [.agg (cn d),.agg (eR lv)] (.tup [.agg (E0 x),I e]):=by
 have h1:=cK d hd;rw[hE]at h1;refine Ret.of_pwp layOk mixed Go.Proofs.Tryz.func21 O Y O O ?_;refine ap h1 ?_;refine G h74 ?_;exact bI
def fW:List Rat->Rat
 |[]=>0
 |q::l=>l.foldl (fun m x=>if m<x then x else m) q
theorem xo (l:List Rat)(x:Rat)(h:l≠[]):fW (l++[x])=if fW l<x then x else fW l:=by
 cases l with
 |nil=>exact absurd rfl h
 |cons q l=>rw[List.cons_append,fW,fW,List.foldl_append];rfl
def dB (z t:Rat)(s:SR):Rat:=s.c.val+(z+t*(s.x:Rat))
def ut (W:List SR)(z t:Rat)(i:Nat):List PV:=if i=0 then zN else eR (ofQ (fW ((W.take i).map (dB z t))))
theorem zH:∀(l:List Rat),l≠[]->fW l∈l
 |[],h=>absurd rfl h
 |q::l,_=>by
  rw[fW];have key:∀(l:List Rat) (a:Rat),l.foldl (fun m x=>if m<x then x else m) a∈a::l:=by
   intro l
   induction l with
   |nil=>intro a;simp
   |cons x l ih =>
    intro a;rw[List.foldl_cons];have:=ih (if a<x then x else a);rcases List.mem_cons.1 this with h|h
    .rw[h];split<;>simp
    .exact List.mem_cons_of_mem _ (List.mem_cons_of_mem _ h)
  exact key l q
set_option maxRecDepth 20000 in
theorem Bf (d:DKR)(hd:d.Ok)(hE:jg d=0)(hk:d.Bl)(hb:d.bl≠[])(az at' rz rt:RR)(F:List RR){z t:Rat}{n m:Nat}[ha:Va ⟨az,at'⟩ z t n m](hn:n<=1000000)(hm:m<=1000000)
  (h31:Ret Tryz.prog .shared 31 [.agg (fi d.s),I d.d] (.tup [.agg (lg ⟨az,at'⟩ F),.agg (eR rz++eR rt),I 0])):Ret Tryz.prog .shared 30 [.agg (cn d)] (.tup [.agg (eR (ofQ (fW ((c_ d.s.st d.bl).map (dB z t))))),I 0]):=by
 have h1:=cK d hd;rw[hE]at h1;have h2:=tG d hk;have hml:(d.bl.map eBk).length=d.bl.length:=ai;have hpos:=List.length_pos_iff.2 hb;have hbl:¬((d.bl.map eBk).length:Int)=0:=J;have hwl:(c_ d.s.st d.bl).length=d.bl.length:=by rw[c_,List.length_map]
 have h40:=hk.m;have hC:∀s∈c_ d.s.st d.bl,i64 s.x/\hq s.c.val 4/\Vq s.c s.c.val 4:=fun s hs=>by
  rw[c_]at hs;obtain⟨b,hbm,rfl⟩:=List.mem_map.1 hs;obtain⟨hin,-⟩:=hk.b b hbm;have hx:=hin.x;have hh:=hin.ht;have hbi:=pX hk.st b;have zb:Zb (b.ht-fV d.s.st b):=aU J J;refine⟨⟨by show -9223372036854775808<=b.x;omega,by show b.x<=9223372036854775807;omega⟩,?_,?_⟩
  .show hq (ofQ ((b.ht-fV d.s.st b:Int):Rat)).val 4;rw[ofQ_val];exact HQ.int.ok
  .show Vq (ofQ ((b.ht-fV d.s.st b:Int):Rat)) (ofQ ((b.ht-fV d.s.st b:Int):Rat)).val 4;rw[ofQ_val];exact Vq.ofQ (h:=HQ.int)
 have hW0:c_ d.s.st d.bl≠[]:=fun e=>by rw[e]at hwl;simp at hwl;omega
 have hmw:((c_ d.s.st d.bl).map eS).length=(c_ d.s.st d.bl).length:=ai;obtain⟨s,den,bl,zn,gm,oh⟩:=d;simp only at *
 generalize c_ s.st bl=W at *
 have hvh:∀s∈W,hq (dB z t s) (n+m+20):=fun s hs=>by
  obtain⟨hx,hc,-⟩:=hC s hs;have zb:Zb s.x:=aU hx.1 hx.2;exact(HQ.mono (h:=@HQ.add _ _ 4 (n+1+(m+1+4)+1) ⟨hc⟩ (@HQ.add _ _ (n+1) (m+1+4) ha.z.hq (@HQ.mul _ _ (m+1) 4 ha.t.hq HQ.int))) J).ok
 refine Ret.of_pwp layOk mixed Go.Proofs.Tryz.func30 O Y O O ?_;refine ap h1 ?_;refine H ?_;rw[decide_eq_false hbl];refine G h31 ?_;refine G h2 ?_;refine H ?_;rw[hmw];refine bj [(2,.ptr 2 1 0 0),(5,.ptr 5 1 0 0),(8,.ptr 8 1 0 0),(37,.sl (W.map eS)),(38,I W.length),(39,I ((0:Nat):Int))] [(2,1,⟨42,4,[zN],2⟩),(5,1,⟨69,9,[lg ⟨az,at'⟩ F],2⟩),(8,1,⟨42,4,[zN],2⟩)] ⟨O,O,O,O,O,O,O,O,O,trivial⟩ ?_;intro s0;refine ao (fun i:Nat=>i<=W.length) (fun i=>[(2,.ptr 2 1 0 0),(5,.ptr 5 1 0 0),(8,.ptr 8 1 0 0),(37,.sl (W.map eS)),(38,I W.length),(39,I (i:Nat))]) (fun i=>[(2,1,⟨42,4,[zN],2⟩),(5,1,⟨69,9,[lg ⟨az,at'⟩ F],2⟩),(8,1,⟨42,4,[ut W z t i],2⟩)]) (fun i=>W.length-i) 0 (Nat.zero_le _) ⟨O,O,O,O,O,O,O,O,O,trivial⟩ ?_;intro i s1 hi;refine D ?_ ?_<;>intro h
 .have hlt:i<W.length:=by have:=aB h;omega
  clear h;obtain⟨x,hx⟩:=aH hlt;obtain⟨hxx,hxc,hxv⟩:=hC x (a_ hx);have zb:Zb x.x:=aU hxx.1 hxx.2;have hxq:=hvh x (a_ hx);have e1:=zm ⟨az,at'⟩ x.x hxx (z:=z) (t:=t) (n:=n) (m:=m) hn hm;have e2:=dy x.c (ofQ (z+t*(x.x:Rat))) (hx:=hxv) (hy:=Vq.ofQ (h:=@HQ.add _ _ (n+1) (m+1+4) ha.z.hq (@HQ.mul _ _ (m+1) 4 ha.t.hq HQ.int))) J J;rw[show x.c.val+(z+t*(x.x:Rat))=dB z t x from O]at e2;have hw:=c9 i;have hsn:(W.take (i+1)).map (dB z t)=(W.take i).map (dB z t)++[dB z t x]:=by rw[br hx,List.map_append];rfl
  have hr1:ut W z t (i+1)=eR (ofQ (fW ((W.take (i+1)).map (dB z t)))):=by rw[ut,if_neg J]
  cases i with
  |zero =>
   have hm1:fW ((W.take (0+1)).map (dB z t))=dB z t x:=by rw[hsn];rfl
   rw[hm1]at hr1;generalize ofQ (dB z t x)=X at *
   generalize ofQ (z+t*(x.x:Rat))=Y0 at *
   refine aN hx ?_
   (repeat ((fail_if_success (with_reducible refine aR 13 ?_));refine b9 O ?_))
   refine aq (gH 11) ?_;refine bC 8 1 [44,45,46,47,48,49,50,51,11] [] aS O ?_;refine G e1 ?_;refine G e2 ?_;refine H ?_;exact⟨0+1,hlt,J,O,O,O,O,O,congrArg I hw,O,O,by rw[hr1];rfl,trivial⟩
  |succ i =>
   have hr0:ut W z t (i+1)=eR (ofQ (fW ((W.take (i+1)).map (dB z t)))):=by rw[ut,if_neg J]
   have hne:(W.take (i+1)).map (dB z t)≠[]:=fun e=>by
    have:=congrArg List.length e;rw[List.length_map,List.length_take,List.length_nil]at this;omega
   have hmm:=zH _ hne;have hms:=xo _ (dB z t x) hne;rw[<-hsn]at hms;have hMq:hq (fW ((W.take (i+1)).map (dB z t))) (n+m+20):=by
    obtain⟨y,hy,hye⟩:=List.mem_map.1 hmm;rw[<-hye];exact hvh y (List.mem_of_mem_take hy)
   have e3:=mP (ofQ (dB z t x)) (ofQ (fW ((W.take (i+1)).map (dB z t)))) (hx:=Vq.ofQ (h:=⟨hxq⟩)) (hy:=Vq.ofQ (h:=⟨hMq⟩)) J J;have hsg:=il (dB z t x-fW ((W.take (i+1)).map (dB z t)));have hgt:0<dB z t x-fW ((W.take (i+1)).map (dB z t))↔fW ((W.take (i+1)).map (dB z t))<dB z t x:=by constructor<;>intro h<;>grind
   rw[hgt]at hsg;rw[hr0];rw[hms]at hr1;clear hms hgt hmm hMq;generalize hM:fW ((W.take (i+1)).map (dB z t))=M at *
   generalize hX:ofQ (dB z t x)=X at *
   generalize ofQ (z+t*(x.x:Rat))=Y0 at *
   generalize sgn (dB z t x-M)=g at *
   generalize hMM:ofQ M=MM at *
   refine aN hx ?_
   (repeat ((fail_if_success (with_reducible refine aR 13 ?_));refine b9 O ?_))
   refine aq (gH 11) ?_;refine bC 8 1 [44,45,46,47,48,49,50,51,11] [] aS O ?_;refine G e1 ?_;refine G e2 ?_;refine H ?_;have hi0:¬(((i+1:Nat):Int))=0:=J;rw[decide_eq_false hi0];refine ap e3 ?_;refine D ?_ ?_<;>intro h
   .have hg:=hsg.1 (aB h);clear h;rw[if_pos hg]at hr1;refine H ?_;exact⟨i+1+1,hlt,J,O,O,O,O,O,congrArg I hw,O,O,by rw[hr1,hX];rfl,trivial⟩
   .have hg:¬M<dB z t x:=fun e=>(aG h) (hsg.2 e);clear h;rw[if_neg hg]at hr1;refine H ?_;exact⟨i+1+1,hlt,J,O,O,O,O,O,congrArg I hw,O,O,by rw[hr1,hMM];rfl,trivial⟩
 have hie:i=W.length:=by have:=aG h;omega
 clear h;subst hie;have hr:ut W z t W.length=eR (ofQ (fW (W.map (dB z t)))):=by rw[ut,if_neg J,List.take_length]
 rw[hr];generalize ofQ (fW (W.map (dB z t)))=X at *
 exact bI
def dE (x:Int):SR:=⟨x,ofQ 0,⟨[0,3000],[ofQ ((80:Int):Rat),ofQ 0]⟩⟩
def eP (x:Int):SR:=⟨x,ofQ ((1500:Int):Rat),⟨[0],[ofQ ((1000:Int):Rat)]⟩⟩
def r1:BR:=⟨320000,ofQ ((10000:Int):Rat),[dE 5000,dE 15000]⟩
def r2:BR:=⟨320000,ofQ ((10000:Int):Rat),[eP 5000,eP 15000,dE 5000,dE 15000]⟩
theorem Dc:(ofQ 0).sz 12:=jL (z:=0) ⟨Y,Y⟩
theorem wg {x:Int}(hx:i64 x):(dE x).Lim:=by
 refine⟨hx,Dc,⟨fun z hz=>?_,fun m hm=>?_,show 2<=1000000000 by decide,show 2<=1000000000 by decide⟩⟩
 .simp[dE]at hz;rcases hz with rfl|rfl<;>exact⟨Y,Y⟩
 .simp only[dE,List.mem_cons,List.not_mem_nil,or_false]at hm;rcases hm with rfl|rfl
  .exact jL ⟨Y,Y⟩
  .exact Dc
theorem Bu {x:Int}(hx:i64 x):(eP x).Lim:=by
 refine⟨hx,jL ⟨Y,Y⟩,⟨fun z hz=>?_,fun m hm=>?_,show 1<=1000000000 by decide,show 1<=1000000000 by decide⟩⟩
 .simp[eP]at hz;subst hz;exact⟨Y,Y⟩
 .simp only[eP,List.mem_singleton]at hm;subst hm;exact jL ⟨Y,Y⟩
theorem yk (x:Int):cz (dE x).k=0:=by
 have h:fj (dE x).k 0=0:=by
  rw[fj,if_neg,if_neg J];simp only[dE,List.getD_cons_zero,ofQ_val];decide
 have h1:fj (dE x).k 1=0:=by
  rw[fj,if_neg,if_neg]
  .simp[dE]
  .simp only[dE,List.getD_cons_zero,List.getD_cons_succ,ofQ_val];decide
 rw[cz,if_neg (show ¬40<(dE x).k.S.length by simp[dE]),if_neg (show ¬(dE x).k.M.length≠(dE x).k.S.length by simp[dE])];show el (dE x).k 0 2=0;rw[el,if_pos h,el,if_pos h1,el]
theorem wD (x:Int):cz (eP x).k=0:=by
 have h:fj (eP x).k 0=0:=by
  rw[fj,if_neg,if_neg J];simp only[eP,List.getD_cons_zero,ofQ_val];decide
 rw[cz,if_neg (show ¬40<(eP x).k.S.length by simp[eP]),if_neg (show ¬(eP x).k.M.length≠(eP x).k.S.length by simp[eP])];show el (eP x).k 0 1=0;rw[el,if_pos h,el]
theorem vW {s:SR}(hx : -1000000<=s.x/\s.x<=1000000)(hc : -10000000<=s.c.val/\s.c.val<=10000000)(hk:cz s.k=0):kV s=0:=by
 rw[kV,if_neg,hk];rw[show((10000000:Int):Rat)=10000000 from O];rintro(h|h)
 .omega
 .grind
theorem mC {x:Int}(hx : -1000000<=x/\x<=1000000):kV (dE x)=0:=vW hx (by show -10000000<=(ofQ 0).val/\(ofQ 0).val<=10000000;rw[ofQ_val];decide) (yk x)
theorem uY {x:Int}(hx : -1000000<=x/\x<=1000000):kV (eP x)=0:=vW hx (by show -10000000<=(ofQ ((1500:Int):Rat)).val/\(ofQ ((1500:Int):Rat)).val<=10000000;rw[ofQ_val];decide) (wD x)
theorem Al:dF r1=0:=by
 rw[dF,if_neg]
 .rw[cq,if_neg Y];show cO kV [dE 5000,dE 15000]=0;rw[cO,if_pos (mC ⟨Y,Y⟩),cO,if_pos (mC ⟨Y,Y⟩),cO]
 .simp only[r1,ofQ_val];decide
theorem Am:dF r2=0:=by
 rw[dF,if_neg]
 .rw[cq,if_neg Y];show cO kV [eP 5000,eP 15000,dE 5000,dE 15000]=0;rw[cO,if_pos (uY ⟨Y,Y⟩),cO,if_pos (uY ⟨Y,Y⟩),cO,if_pos (mC ⟨Y,Y⟩),cO,if_pos (mC ⟨Y,Y⟩),cO]
 .simp only[r2,ofQ_val];decide
theorem De:r1.Ok:=by
 refine⟨⟨⟨Y,Y⟩,jL ⟨Y,Y⟩,fun s hs=>?_,Y⟩,Al,Y,fun s hs=>?_⟩
 .simp only[r1,List.mem_cons,List.not_mem_nil,or_false]at hs;rcases hs with rfl|rfl<;>exact wg ⟨Y,Y⟩
 .simp only[r1,List.mem_cons,List.not_mem_nil,or_false]at hs;rcases hs with rfl|rfl<;>decide
theorem Dg:r2.Ok:=by
 refine⟨⟨⟨Y,Y⟩,jL ⟨Y,Y⟩,fun s hs=>?_,Y⟩,Am,Y,fun s hs=>?_⟩
 .simp only[r2,List.mem_cons,List.not_mem_nil,or_false]at hs;rcases hs with rfl|rfl|rfl|rfl<;>first|exact wg ⟨Y,Y⟩|exact Bu ⟨Y,Y⟩
 .simp only[r2,List.mem_cons,List.not_mem_nil,or_false]at hs;rcases hs with rfl|rfl|rfl|rfl<;>decide
def wf (y:Rat):Rat:=if y<0 then 0 else if y<3000 then 80*y else 240000
def kf (y:Rat):Rat:=if y<0 then 0 else 1000*y
theorem mf (x:Int)(z t:Rat):fQ (dE x) z t=wf (z+t*(x:Rat)):=by
 rw[fQ,iU];show aw (cT (dE x).k.s (dE x).k.m (yQ (dE x) z t)) 2=_;rw[aw,aw,aw,cT,cT,yQ,bG,bG];show 0+(if (ofQ 0).val+(z+t*(x:Rat))-((0:Int):Rat)<0 then 0 else((ofQ ((80:Int):Rat)).val-0)*((ofQ 0).val+(z+t*(x:Rat))-((0:Int):Rat)))+(if (ofQ 0).val+(z+t*(x:Rat))-((3000:Int):Rat)<0 then 0 else((ofQ 0).val-(ofQ ((80:Int):Rat)).val)*((ofQ 0).val+(z+t*(x:Rat))-((3000:Int):Rat)))=_;simp only[ofQ_val];rw[show((0:Int):Rat)=0 from O,show((80:Int):Rat)=80 from O,show((3000:Int):Rat)=3000 from O,wf];grind
theorem wE (x:Int)(z t:Rat):fQ (eP x) z t=kf (1500+(z+t*(x:Rat))):=by
 rw[fQ,iU];show aw (cT (eP x).k.s (eP x).k.m (yQ (eP x) z t)) 1=_;rw[aw,aw,cT,yQ,bG];show 0+(if (ofQ ((1500:Int):Rat)).val+(z+t*(x:Rat))-((0:Int):Rat)<0 then 0 else((ofQ ((1000:Int):Rat)).val-0)*((ofQ ((1500:Int):Rat)).val+(z+t*(x:Rat))-((0:Int):Rat)))=_;simp only[ofQ_val];rw[show((0:Int):Rat)=0 from O,show((1000:Int):Rat)=1000 from O,show((1500:Int):Rat)=1500 from O,kf];grind
theorem n5:((5000:Int):Rat)=5000:=rfl
theorem Da:((15000:Int):Rat)=15000:=rfl
theorem sQ (z t:Rat):(bd r1).F z t=wf (z+t*5000)+wf (z+t*15000):=by
 have e:(bd r1).F z t=(0+fQ (dE 5000) z t)+fQ (dE 15000) z t:=O;rw[e,mf,mf,n5,Da];grind
theorem Fp (z t:Rat):(bd r1).G0 z t=wf (z+t*5000)*5000+wf (z+t*15000)*15000:=by
 have e:(bd r1).G0 z t=(0+fQ (dE 5000) z t*((5000:Int):Rat))+fQ (dE 15000) z t*((15000:Int):Rat):=O;rw[e,mf,mf,n5,Da];grind
theorem sT (z t:Rat):(bd r2).F z t=kf (1500+(z+t*5000))+kf (1500+(z+t*15000))+wf (z+t*5000)+wf (z+t*15000):=by
 have e:(bd r2).F z t=(((0+fQ (eP 5000) z t)+fQ (eP 15000) z t)+fQ (dE 5000) z t)+fQ (dE 15000) z t:=O;rw[e,mf,mf,wE,wE,n5,Da];grind
theorem Fw (z t:Rat):(bd r2).G0 z t=kf (1500+(z+t*5000))*5000+kf (1500+(z+t*15000))*15000+wf (z+t*5000)*5000+wf (z+t*15000)*15000:=by
 have e:(bd r2).G0 z t=(((0+fQ (eP 5000) z t*((5000:Int):Rat))+fQ (eP 15000) z t*((15000:Int):Rat))+fQ (dE 5000) z t*((5000:Int):Rat))+fQ (dE 15000) z t*((15000:Int):Rat):=O;rw[e,mf,mf,wE,wE,n5,Da];grind
theorem qB:(bd r1).w=320000:=rfl
theorem qC:(bd r2).w=320000:=rfl
theorem Fn:(bd r1).A=10000:=by show(ofQ ((10000:Int):Rat)).val=10000;rw[ofQ_val];rfl
theorem Fv:(bd r2).A=10000:=by show(ofQ ((10000:Int):Rat)).val=10000;rw[ofQ_val];rfl
theorem Dd:(bd r1).Least 2000 0:=⟨by rw[sQ,qB];simp only[wf,kf];grind,fun z' h=>by rw[sQ,qB];simp only[wf,kf];grind⟩
theorem Fu:(bd r1).Least (-4000) 1:=⟨by rw[sQ,qB];simp only[wf,kf];grind,fun z' h=>by rw[sQ,qB];simp only[wf,kf];grind⟩
theorem Ft:(bd r1).Least 16000 (-1):=⟨by rw[sQ,qB];simp only[wf,kf];grind,fun z' h=>by rw[sQ,qB];simp only[wf,kf];grind⟩
theorem Df:(bd r2).Least (-1340) 0:=⟨by rw[sT,qC];simp only[wf,kf];grind,fun z' h=>by rw[sT,qC];simp only[wf,kf];grind⟩
theorem FB:(bd r2).Least (-16180) 1:=⟨by rw[sT,qC];simp only[wf,kf];grind,fun z' h=>by rw[sT,qC];simp only[wf,kf];grind⟩
theorem Fz:(bd r2).Least 3820 (-1):=⟨by rw[sT,qC];simp only[wf,kf];grind,fun z' h=>by rw[sT,qC];simp only[wf,kf];grind⟩
theorem D9 {z t:Rat}(h:(bd r1).Least z t):(bd r1).E t=wf (z+t*5000)*5000+wf (z+t*15000)*15000-320000*10000:=by
 rw[Bd.E,Bd.sg_eq h,Bd.e,Fp,qB,Fn]
theorem Eb {z t:Rat}(h:(bd r2).Least z t):(bd r2).E t=kf (1500+(z+t*5000))*5000+kf (1500+(z+t*15000))*15000+wf (z+t*5000)*5000+wf (z+t*15000)*15000-320000*10000:=by
 rw[Bd.E,Bd.sg_eq h,Bd.e,Fw,qC,Fv]
theorem zI {b:Bd}{z:Rat}(hl:b.Least z 0)(h0:b.E 0=0)(hm:b.E (-1)<0)(hp:0<b.E 1):b.eqQ 1=some (z,0):=by
 have d1:b.dbl (-1) 1 1=some 1:=by
  rw[Bd.dbl,if_neg];rw[show(-1:Rat)*1 = -1 by grind];grind
 have d2:b.dbl 1 1 1=some 1:=by
  rw[Bd.dbl,if_neg];rw[show(1:Rat)*1=1 by grind];grind
 have a0:b.at1 0=some (z,0):=by
  rw[Bd.at1,if_pos h0,Bd.sg_eq hl]
 rw[Bd.eqQ,d1,d2];dsimp only;rw[Bd.fst3,a0]
theorem Fq:(bd r1).eqQ 1=some (2000,0):=zI Dd (by rw[D9 Dd];simp only[wf,kf];grind) (by rw[D9 Ft];simp only[wf,kf];grind) (by rw[D9 Fu];simp only[wf,kf];grind)
theorem Fx:(bd r2).eqQ 1=some (-1340,0):=zI Df (by rw[Eb Df];simp only[wf,kf];grind) (by rw[Eb Fz];simp only[wf,kf];grind) (by rw[Eb FB];simp only[wf,kf];grind)
theorem D_:(bd r1).Bal 2000 0:=by
 have e:(bd r1).F 2000 0=(bd r1).w/\(bd r1).G0 2000 0=(bd r1).w*(bd r1).A:=by
  rw[sQ,Fp,qB,Fn];simp only[wf,kf];constructor<;>grind
 exact e
theorem Ec:(bd r2).Bal (-1340) 0:=by
 have e:(bd r2).F (-1340) 0=(bd r2).w/\(bd r2).G0 (-1340) 0=(bd r2).w*(bd r2).A:=by
  rw[sT,Fw,qC,Fv];simp only[wf,kf];constructor<;>grind
 exact e
theorem Dq (y:Rat):0<=wf y:=by rw[wf];grind
theorem Fs (t:Rat):∃z,(bd r1).w<=(bd r1).F z t:=by
 refine⟨3000+15000*(if t<0 then -t else t),?_⟩;rw[sQ,qB];simp only[wf,kf];grind
theorem Fy (t:Rat):∃z,(bd r2).w<=(bd r2).F z t:=by
 refine⟨15000*(if t<0 then -t else t),?_⟩;have h1:=Dq (15000*(if t<0 then -t else t)+t*5000);have h2:=Dq (15000*(if t<0 then -t else t)+t*15000);rw[sT,qC];simp only[wf,kf];grind
theorem sS (t:Rat):(lS r1.l t).length<=19:=by
 rw[lS];show((jk t (dE 5000))++((jk t (dE 15000))++[])).length<=19;rw[jk,jk];simp[dE]
theorem sU (t:Rat):(lS r2.l t).length<=19:=by
 rw[lS];show((jk t (eP 5000))++((jk t (eP 15000))++((jk t (dE 5000))++((jk t (dE 15000))++[])))).length<=19;rw[jk,jk,jk,jk];simp[dE,eP]
theorem xF:bR r1.l=[5000,15000]:=by
 rw[bR];have:cU (r1.l.map (·.x))=[5000,15000]:=List.mergeSort_of_pairwise Y;rw[this];decide
theorem xH:bR r2.l=[5000,15000]:=by
 rw[bR];have:cU (r2.l.map (·.x))=[5000,5000,15000,15000]:=by
  show List.mergeSort [5000,15000,5000,15000] _=_;simp[List.mergeSort,List.MergeSort.Internal.splitInTwo,List.merge]
 rw[this];decide
theorem pc {s:SR}{z t A B k:Rat}(hr:rV s z t=k)(hl:lV s z t=k)(hk:k≠0)(h:A+B*(s.x:Rat)≠0):o_ z t A B s=false:=by
 rw[o_,decide_eq_false];intro hn;apply hn;rw[hr,hl];rcases Classical.em (0<A+B*(s.x:Rat)) with g|g
 .exact .inl ⟨g,hk⟩
 .exact .inr ⟨cH,hk⟩
theorem Bj {x:Int}{A B:Rat}(h:A+B*(x:Rat)≠0):o_ 2000 0 A B (dE x)=false:=by
 have e:yQ (dE x) 2000 0=2000:=by
  show(ofQ 0).val+(2000+0*(x:Rat))=2000;rw[ofQ_val];grind
 have m:bG (dE x).k.m 1=80:=by
  show(ofQ ((80:Int):Rat)).val=80;rw[ofQ_val];rfl
 refine pc (k:=80) ?_ ?_ Y h
 .show bG (dE x).k.m (l6 (dE x).k.s (yQ (dE x) 2000 0) 2)=80;rw[e,l6,if_neg (by show ¬((3000:Int):Rat)<=2000;decide),l6,if_pos (by show((0:Int):Rat)<=2000;decide),m]
 .show bG (dE x).k.m (pg (dE x).k.s (yQ (dE x) 2000 0) 2)=80;rw[e,pg,if_neg (by show ¬((3000:Int):Rat)<2000;decide),pg,if_pos (by show((0:Int):Rat)<2000;decide),m]
theorem yH {x:Int}{A B:Rat}(h:A+B*(x:Rat)≠0):o_ (-1340) 0 A B (eP x)=false:=by
 have e:yQ (eP x) (-1340) 0=160:=by
  show(ofQ ((1500:Int):Rat)).val+(-1340+0*(x:Rat))=160;rw[ofQ_val,show((1500:Int):Rat)=1500 from O];grind
 have m:bG (eP x).k.m 1=1000:=by
  show(ofQ ((1000:Int):Rat)).val=1000;rw[ofQ_val];rfl
 refine pc (k:=1000) ?_ ?_ Y h
 .show bG (eP x).k.m (l6 (eP x).k.s (yQ (eP x) (-1340) 0) 1)=1000;rw[e,l6,if_pos (by show((0:Int):Rat)<=160;decide),m]
 .show bG (eP x).k.m (pg (eP x).k.s (yQ (eP x) (-1340) 0) 1)=1000;rw[e,pg,if_pos (by show((0:Int):Rat)<160;decide),m]
theorem Cj {A B:Rat}(h:A+B*5000≠0\/A+B*15000≠0):iw r1.l 2000 0 A B=false:=by
 show(o_ 2000 0 A B (dE 5000)&&(o_ 2000 0 A B (dE 15000)&&true))=false;rcases h with h|h
 .rw[Bj (x:=5000) (by rw[n5];exact h),Bool.false_and]
 .rw[Bj (x:=15000) (by rw[Da];exact h),Bool.false_and,Bool.and_false]
theorem Ck {A B:Rat}(h:A+B*5000≠0\/A+B*15000≠0):iw r2.l (-1340) 0 A B=false:=by
 show(o_ (-1340) 0 A B (eP 5000)&&(o_ (-1340) 0 A B (eP 15000)&&(o_ (-1340) 0 A B (dE 5000)&&(o_ (-1340) 0 A B (dE 15000)&&true))))=false;rcases h with h|h
 .rw[yH (x:=5000) (by rw[n5];exact h),Bool.false_and]
 .rw[yH (x:=15000) (by rw[Da];exact h),Bool.false_and,Bool.and_false]
theorem oX {b:BR}{z:Rat}(hp:bR b.l=[5000,15000])(hf:∀A B:Rat,(A+B*5000≠0\/A+B*15000≠0)->iw b.l z 0 A B=false):lp b z 0=false:=by
 rw[lp,List.any_eq_false];intro d hd;have key:∀A B:Int,(A+B*5000≠0\/A+B*15000≠0)->¬iw b.l z 0 (ofQ (A:Rat)).val (ofQ (B:Rat)).val=true:=by
  intro A B h;rw[ofQ_val,ofQ_val,hf]
  .decide
  .have e1:(A:Rat)+(B:Rat)*5000=((A+B*5000:Int):Rat):=by push_cast;rfl
   have e2:(A:Rat)+(B:Rat)*15000=((A+B*15000:Int):Rat):=by push_cast;rfl
   rw[e1,e2];rcases h with h|h
   .exact .inl fun hc=>h (Rat.intCast_inj.1 (show((A+B*5000:Int):Rat)=((0:Int):Rat) from hc))
   .exact .inr fun hc=>h (Rat.intCast_inj.1 (show((A+B*15000:Int):Rat)=((0:Int):Rat) from hc))
 rw[iG,eO,hp]at hd;simp at hd;rcases hd with rfl|rfl|rfl|rfl|rfl|rfl
 .exact key (-5000) 1 Y
 .exact key (-15000) 1 Y
 .exact key 5000 (-1) Y
 .exact key 15000 (-1) Y
 .exact key 1 0 Y
 .exact key (-1) 0 Y
theorem xE:FL r1.l 2000 0=[ofQ 160000,ofQ 160000]:=by
 show [ofQ (fQ (dE 5000) 2000 0),ofQ (fQ (dE 15000) 2000 0)]=_;rw[mf,mf,n5,Da,wf,wf];congr 2
 .grind
 .congr 2;grind
theorem xG:FL r2.l (-1340) 0=[ofQ 160000,ofQ 160000,ofQ 0,ofQ 0]:=by
 show [ofQ (fQ (eP 5000) (-1340) 0),ofQ (fQ (eP 15000) (-1340) 0),ofQ (fQ (dE 5000) (-1340) 0),ofQ (fQ (dE 15000) (-1340) 0)]=_;rw[mf,mf,wE,wE,n5,Da,show kf (1500+(-1340+0*5000))=160000 by rw[kf];grind,show kf (1500+(-1340+0*15000))=160000 by rw[kf];grind,show wf (-1340+0*5000)=0 by rw[wf];grind,show wf (-1340+0*15000)=0 by rw[wf];grind]
theorem vq (b:BR)(hb:b.Ok){z:Int}(hz:i64 z){F:List RR}(h19:∀t,(lS b.l t).length<=19)(hex:∀t,∃z,(bd b).w<=(bd b).F z t)(heq:(bd b).eqQ 1=some ((z:Rat),0))(hbal:(bd b).Bal (z:Rat) 0)(ht:lp b (z:Rat) 0=false)(hF:FL b.l (z:Rat) 0=F) :
  Ret Tryz.prog .shared 78 [.agg (eB b)] (.tup [.agg (lg ⟨ofQ (z:Rat),ofQ 0⟩ F),.agg (zN++zN),I 0]):=by
 have hn:=wC hb hbal;have h93:=sY b hb;rw[kN,if_neg (by rw[hn.1];decide),List.find?_eq_none.2 (fun r hr=>by rw[hn.2 r hr];decide)]at h93;have h120:=wQ b hb (fun t=>Nat.le_trans (h19 t) Y) (fun t=>Cz _ (h19 t)) hex (N:=1) Y heq;have va:Va ⟨ofQ (z:Rat),ofQ 0⟩ (z:Rat) 0 4 4:=⟨Vq.ofQ (h:=⟨qg z hz⟩),Vq.ofQ (h:=HQ.zero.mono Y)⟩;have h121:=xi b hb ⟨ofQ (z:Rat),ofQ 0⟩ (ha:=va) Y;rw[ht]at h121;have h23:=mV b.l hb.lim.l hb.chkL ⟨ofQ (z:Rat),ofQ 0⟩ (ha:=va) Y;rw[hF]at h23;exact yd b hb.lim hb.chk h93 _ _ h120 h121 h23
theorem Ea:Ret Tryz.prog .shared 78 [.agg (eB r1)] (.tup [.agg (lg ⟨ofQ ((2000:Int):Rat),ofQ 0⟩ [ofQ 160000,ofQ 160000]),.agg (zN++zN),I 0]) :=
 vq r1 De ⟨Y,Y⟩ sS Fs Fq D_ (oX xF fun _ _=>Cj) xE
theorem Ed:Ret Tryz.prog .shared 78 [.agg (eB r2)] (.tup [.agg (lg ⟨ofQ ((-1340:Int):Rat),ofQ 0⟩ [ofQ 160000,ofQ 160000,ofQ 0,ofQ 0]),.agg (zN++zN),I 0]) :=
 vq r2 Dg ⟨Y,Y⟩ sU Fy Fx Ec (oX xH fun _ _=>Ck) xG
def F3 (s:SHP)(d:Nat):BR:=wB s (eF d s.st)
theorem DB (d:Nat)(l:List ST):(eF d l).map qY=eF d l:=by
 rw[eF,List.map_map];refine List.map_congr_left fun t _=>?_;show qY (me d t)=me d t;rw[qY,me];show(⟨t.x,lq (ofQ 0),⟨t.L,(Cv d t).map lq⟩⟩:SR)=_;rw[iL];have:(Cv d t).map lq=Cv d t:=by
  rw[Cv,List.map_append,List.map_map];congr 1
  .exact List.map_congr_left fun h _=>iL _
  .show [lq (ofQ 0)]=_;rw[iL]
 rw[this]
theorem E5 (s:SHP)(d:Nat):pB s (eF d s.st)=F3 s d:=by rw[pB,DB];rfl
theorem CS {e:Int}:Weak (.tup [.agg zS,.agg (zN++zN),I e]) (⟨zA,[],zA,e⟩:SQ).pv:=WeakL.tup (.cons CQ.agg (.cons mD.agg (WeakL.refl _)))
set_option maxRecDepth 20000 in
theorem za (s:SHP)(d:Int)(B:BR)(l:List SR)(e:Int)(Q:SQ)(h1:Ret Tryz.prog .shared 94 [.agg (fi s),I d] (.tup [.sl (l.map eS),I 0]))(h2:Ret Tryz.prog .shared 95 [.agg (fi s),.sl (l.map eS)] (.tup [.agg (eB B),I e]))
  (h3:e=0->Ret Tryz.prog .shared 78 [.agg (eB B)] Q.pv) (h4:e≠0->Q=⟨zA,[],zA,e⟩):Ret Tryz.prog .shared 31 [.agg (fi s),I d] Q.pv:=by
 by_cases he:e=0
 .have g3:=h3 he;clear h3 h4;subst he;obtain⟨⟨az,at'⟩,F,⟨rz,rt⟩,e⟩:=Q;simp only[SQ.pv]at *
  refine Ret.of_pwp layOk mixed Go.Proofs.Tryz.func31 O Y O O ?_;refine G h1 ?_;refine G h2 ?_;refine G g3 ?_;exact bI
 .rw[h4 he];refine Ret.weak ?_ (WeakL.refl _) CS;clear h3 h4;refine Ret.of_pwp layOk mixed Go.Proofs.Tryz.func31 O Y O O ?_;refine G h1 ?_;refine G h2 ?_;refine D ?_ ?_<;>intro h
  .clear h;exact bI
  .simp at h;exact absurd h he
def pA (x:Int):ST:=⟨x,10000,[0,3000],[4000]⟩
def GE:LR:=⟨[76,105,103,104,116],320000,10000,2000,0⟩
def n6:SHP:=⟨[82,97,102,116],20000,[pA 5000,pA 15000],GE,[]⟩
def q8 (x:Int):BKR:=⟨x,0,500,1500,1000,ofQ ((1000:Int):Rat),200000,false⟩
def gr:DKR:=⟨n6,1000,[q8 5000,q8 15000],[],150,5000⟩
theorem uq:ec n6=0:=by decide +kernel
theorem mw:n6.Len:=⟨Y,Y,fun t ht=>by
 simp only[n6,List.mem_cons,List.not_mem_nil,or_false]at ht
 rcases ht with rfl|rfl<;>exact⟨Y,Y⟩⟩
theorem F4:jI n6 1000=0:=by rw[jI,if_pos uq];decide
theorem qG {x:Int}(h:ar x (-1000000) 1000000=true):j0 (q8 x)=true:=by
 rw[j0,zP];show(ar x (-1000000) 1000000&&ar 500 1 10000&&ar 1500 0 100000&&ar 1000 1 20000&&ar 200000 0 1000000000&&decide (0<(ofQ ((1000:Int):Rat)).val)&&decide ((0:Int)=0))=true;rw[h,ofQ_val];decide
theorem qF {x:Int}(h:x=5000\/x=15000):dp x 0 [pA 5000,pA 15000]=some 0:=by rcases h with rfl|rfl<;>decide
theorem Ee:lR gr.s.st gr.zn gr.bl=0:=by
 have h0:ga gr.s.st gr.zn gr.bl 0 (q8 5000)=0:=by
  rw[ga,if_pos (qG Y),if_pos (by show(dp 5000 0 [pA 5000,pA 15000]).isSome=true;rw[qF (.inl O)];rfl)];rfl
 have h1:ga gr.s.st gr.zn gr.bl 1 (q8 15000)=0:=by
  rw[ga,if_pos (qG Y),if_pos (by show(dp 15000 0 [pA 5000,pA 15000]).isSome=true;rw[qF (.inr O)];rfl),if_neg (by show ¬(false=true);decide),if_neg];show ¬([q8 5000].any (gd (q8 15000)))=true;show ¬((decide (fp 15000 5000<500+500)&&decide (2*fp 0 0<1000+1000))||false)=true;decide
 rw[lR,if_neg Y];show e_ [q8 5000,q8 15000] _=0;rw[e_,if_pos h0,e_,if_pos h1,e_]
theorem Au:jg gr=0:=by
 rw[jg,if_pos (show jI gr.s gr.d=0 from F4),if_pos (show eG gr.zn=0 by decide),if_pos Ee,if_pos Y]
theorem FF:Cv 1000 (pA 5000)=[ofQ ((80:Int):Rat),ofQ 0]:=by
 show [ofQ (((2*4000*10000:Int):Rat)*(((1000:Nat):Rat)/1000000000)),ofQ 0]=_;rw[show((2*4000*10000:Int):Rat)*(((1000:Nat):Rat)/1000000000)=((80:Int):Rat) by decide +kernel]
theorem vX (x:Int):me 1000 (pA x)=dE x:=by
 have:Cv 1000 (pA x)=Cv 1000 (pA 5000):=O;rw[me,this,FF];rfl
theorem F8:qX n6=((10000:Int):Rat):=by decide +kernel
theorem Es (l:List SR):wB n6 l=⟨320000,ofQ ((10000:Int):Rat),l⟩:=by
 rw[wB,F8];rfl
theorem E4:F3 n6 1000=r1:=by
 rw[F3,Es];show(⟨320000,ofQ ((10000:Int):Rat),[me 1000 (pA 5000),me 1000 (pA 15000)]⟩:BR)=_;rw[vX,vX];rfl
theorem CZ (x:Int):qY (dE x)=dE x:=by
 show(⟨x,lq (ofQ 0),⟨[0,3000],[lq (ofQ ((80:Int):Rat)),lq (ofQ 0)]⟩⟩:SR)=_;rw[iL,iL];rfl
theorem CY (x:Int):qY (eP x)=eP x:=by
 show(⟨x,lq (ofQ ((1500:Int):Rat)),⟨[0],[lq (ofQ ((1000:Int):Rat))]⟩⟩:SR)=_;rw[iL,iL];rfl
theorem F7:pB n6 r2.l=r2:=by
 have h:=Es (r2.l.map qY);rw[wB]at h;rw[pB,h];show(⟨320000,ofQ ((10000:Int):Rat),[qY (eP 5000),qY (eP 15000),qY (dE 5000),qY (dE 15000)]⟩:BR)=_;rw[CZ,CZ,CY,CY];rfl
end Go.Pv
set_option maxHeartbeats 2000000
namespace Go.Pv
attribute [local irreducible] PWP POps PQuiet PSem aF au ak aj
open Go.Proofs Go.RowKit
theorem p_ {p:Prop}[Decidable p]{b:Bool}(h:b=true↔p):b=decide p:=by
 cases b with
 |true=>exact(decide_eq_true (h.1 rfl)).symm
 |false=>exact(decide_eq_false fun g=>by have:=h.2 g;cases this).symm
def x7 (t:ST):Bool:=!decide ((8<t.L.length/\t.L.length<=30)\/40<t.L.length\/40<t.H0.length)
def AL (w:LR):Bool:=decide (w.nm.length<=40)
def EE (s:SHP):Bool:=!decide (40<s.nm.length\/40<s.light.nm.length\/(6<s.st.length/\s.st.length<=40)\/45<s.st.length\/(8<s.it.length/\s.it.length<=60)\/205<s.it.length)
def Ej (s:SHP):Bool:=EE s&&s.st.all x7&&s.it.all AL
theorem j9 {α:Type}{p:α->Bool}{l:List α}{k:Nat}{x:α}(hx:l[k]? = some x)(h:p x=false):l.all p=false:=List.all_eq_false.2 ⟨x,a_ hx,by rw[h];decide⟩
theorem mj {α:Type}{p:α->Bool}{l:List α}(h:∀(j:Nat) x,j<l.length->l[j]? = some x->p x=true):l.all p=true:=List.all_eq_true.2 fun x hx=>by
 obtain⟨j,hj⟩:=List.mem_iff_getElem?.1 hx;exact h j x (bi hj).1 hj
theorem j8 {α:Type}{p:α->Bool}{l:List α}{k:Nat}{x:α}(h:∀(j:Nat) x,j<k->l[j]? = some x->p x=true)(hx:l[k]? = some x)(hp:p x=true):∀(j:Nat) x,j<k+1->l[j]? = some x->p x=true:=fun j u hj hu=>by
 rcases Nat.lt_or_ge j k with g|g
 .exact h j u g hu
 .rw[show j=k by omega,hx]at hu;cases hu;exact hp
set_option maxRecDepth 20000 in
theorem Cy (s:SHP):Ret Tryz.prog .shared 39 [.agg (fi s)] (.bool (Ej s)):=by
 have hml:((s.st.map eT).length:Int)=s.st.length:=ai;have hmi:((s.it.map eLd).length:Int)=s.it.length:=ai;generalize hf:Ej s=E;rw[Ej]at hf;obtain⟨nm,len,st,light,it⟩:=s;simp only at *
 refine Ret.of_pwp layOk mixed Go.Proofs.Tryz.func39 O Y O O ?_;refine H ?_;refine jU 100 [(1,.ptr 1 1 0 0),(52,.bool (!EE ⟨nm,len,st,light,it⟩))] [(1,1,⟨27,9,[fi ⟨nm,len,st,light,it⟩],2⟩)] ?_ ?_
 .clear hf
  repeat' (first|refine dD O ?_|refine cx O O (fun h=>?_) (fun h=>?_)|refine cw O O (fun h=>?_) (fun h=>?_)|refine cu O O (fun h=>?_) (fun h=>?_))
  all_goals refine⟨O,congrArg PV.bool ?_,O,trivial⟩
  all_goals (rw[EE,Bool.not_not];refine p_ ?_)
  all_goals (simp only[decide_eq_true_eq,decide_eq_false_iff_not,hml,hmi]at *)
  all_goals (first|omega|(simp only[true_iff];omega)|(simp only[Bool.false_eq_true,false_iff];omega))
 intro s0;refine H ?_;cases h0:EE ⟨nm,len,st,light,it⟩
 .rw[h0]at hf;simp only[Bool.false_and]at hf;subst hf;exact ef
 have h1:st.length<=45/\it.length<=205:=by
  simp only[EE,Bool.not_eq_true',decide_eq_false_iff_not]at h0;omega
 rw[h0,Bool.true_and]at hf;refine H ?_;refine ao (fun k:Nat=>k<=st.length/\∀(j:Nat) t,j<k->st[j]? = some t->x7 t=true) (fun k=>[(1,.ptr 1 1 0 0),(3,I (k:Nat))]) (fun _=>[(1,1,⟨27,9,[fi ⟨nm,len,st,light,it⟩],2⟩)]) (fun k=>st.length-k) 0 ⟨Nat.zero_le _,fun j t hj=>absurd hj J⟩ ⟨O,O,O,trivial⟩ ?_;rintro k s1 ⟨hk,hall⟩;refine H ?_;rw[hml];refine bh O ?_ ?_<;>intro h
 .have hlt:k<st.length:=by have:=aB h;omega
  clear h;obtain⟨t,hx⟩:=aH hlt;have hmL:((t.L.map eN).length:Int)=t.L.length:=ai;have hmH:((t.H0.map eN).length:Int)=t.H0.length:=ai;have hw:=c9 k;have bad:x7 t=false->E=false:=fun h=>by rw[<-hf,j9 hx h,Bool.false_and]
  have good:=j8 hall hx;have hdef:x7 t=!decide ((8<t.L.length/\t.L.length<=30)\/40<t.L.length\/40<t.H0.length):=O;generalize x7 t=b at *
  refine aN hx ?_
  (repeat ((fail_if_success (with_reducible refine aR 7 ?_));refine b9 O ?_))
  refine bj [(1,.ptr 1 1 0 0),(3,I (k:Nat)),(4,.ptr 4 ((s1.own 4).1+1) 0 0)] [(1,1,⟨27,9,[fi ⟨nm,len,st,light,it⟩],2⟩),(4,(s1.own 4).1+1,⟨130,4,[eT t],2⟩)] ⟨O,O,O,O,O,trivial⟩ ?_;generalize (s1.own 4).1+1=g4;intro s2
  ((repeat (first|refine aO ?_ | refine cf ?_ | refine bL ?_ | refine bS ?_));refine bc ?_)
  refine jU 100 [(1,.ptr 1 1 0 0),(3,I (k:Nat)),(86,.bool (!b))] [(1,1,⟨27,9,[fi ⟨nm,len,st,light,it⟩],2⟩)] ?_ ?_
  .clear hf bad good hall
   repeat' (first|refine dD O ?_|refine cx O O (fun h=>?_) (fun h=>?_)|refine cw O O (fun h=>?_) (fun h=>?_)|refine cu O O (fun h=>?_) (fun h=>?_))
   all_goals refine⟨O,O,congrArg PV.bool ?_,O,trivial⟩
   all_goals (rw[hdef,Bool.not_not];refine p_ ?_)
   all_goals (simp only[decide_eq_true_eq,decide_eq_false_iff_not,hmL,hmH]at *)
   all_goals (first|omega|(simp only[true_iff];omega)|(simp only[Bool.false_eq_true,false_iff];omega))
  intro s3;refine H ?_;cases b
  .rw[bad O];exact ef
  .refine H ?_;exact⟨k+1,⟨hlt,good O⟩,J,O,congrArg I hw,O,trivial⟩
 have hge:k=st.length:=by have:=aG h;omega
 clear h;subst hge;rw[mj hall,Bool.true_and]at hf;clear hall;refine H ?_;refine ao (fun k:Nat=>k<=it.length/\∀(j:Nat) t,j<k->it[j]? = some t->AL t=true) (fun k=>[(1,.ptr 1 1 0 0),(5,I (k:Nat))]) (fun _=>[(1,1,⟨27,9,[fi ⟨nm,len,st,light,it⟩],2⟩)]) (fun k=>it.length-k) 0 ⟨Nat.zero_le _,fun j t hj=>absurd hj J⟩ ⟨O,O,O,trivial⟩ ?_;rintro k s1 ⟨hk,hall⟩;refine H ?_;rw[hmi];refine bh O ?_ ?_<;>intro h
 .have hlt:k<it.length:=by have:=aB h;omega
  clear h;obtain⟨t,hx⟩:=aH hlt;have hw:=c9 k;have bad:AL t=false->E=false:=fun h=>by rw[<-hf,j9 hx h]
  have good:=j8 hall hx;have hdef:AL t=decide (t.nm.length<=40):=O;generalize AL t=b at *
  refine aN hx ?_;refine D ?_ ?_<;>intro h
  .have h2:40<(t.nm.length:Int):=aB h;clear h;rw[decide_eq_false J]at hdef;rw[bad hdef];exact ef
  .have h2:¬40<(t.nm.length:Int):=aG h;clear h;rw[decide_eq_true J]at hdef;refine H ?_;exact⟨k+1,⟨hlt,good hdef⟩,J,O,congrArg I hw,O,trivial⟩
 have hge:k=it.length:=by have:=aG h;omega
 clear h;subst hge;rw[mj hall]at hf;subst hf;exact ef
def EC (b:BKR):Bool:=Ei b.st 3
def FH (z:ZNR):Bool:=decide (z.nm.length<=40)
def FQ (d:DKR):Bool:=Ej d.s&&!decide ((5<d.bl.length/\d.bl.length<=40)\/65<d.bl.length\/(4<d.zn.length/\d.zn.length<=20)\/25<d.zn.length)
def ED (d:DKR):Bool:=FQ d&&d.bl.all EC&&d.zn.all FH
set_option maxRecDepth 20000 in
theorem Cx (d:DKR):Ret Tryz.prog .shared 16 [.agg (cn d)] (.bool (ED d)):=by
 have hmb:((d.bl.map eBk).length:Int)=d.bl.length:=ai;have hmz:((d.zn.map dC).length:Int)=d.zn.length:=ai;have hs:=Cy d.s;generalize hf:ED d=E;rw[ED]at hf;have hM:FQ d=(Ej d.s&&!decide ((5<d.bl.length/\d.bl.length<=40)\/65<d.bl.length\/(4<d.zn.length/\d.zn.length<=20)\/25<d.zn.length)):=O;generalize FQ d=M at *
 generalize Ej d.s=S at *
 obtain⟨s,den,bl,zn,gm,oh⟩:=d;simp only at *
 refine Ret.of_pwp layOk mixed Go.Proofs.Tryz.func16 O Y O O ?_;refine ap hs ?_;refine jU 100 [(1,.ptr 1 1 0 0),(44,.bool (!M))] [(1,1,⟨31,14,[cn ⟨s,den,bl,zn,gm,oh⟩],2⟩)] ?_ ?_
 .clear hf hs;cases S
  .repeat' (first|refine dD O ?_|refine cx O O (fun h=>?_) (fun h=>?_)|refine cw O O (fun h=>?_) (fun h=>?_)|refine cu O O (fun h=>?_) (fun h=>?_))
   exact⟨O,congrArg PV.bool (by rw[hM];rfl),O,trivial⟩
  .repeat' (first|refine dD O ?_|refine cx O O (fun h=>?_) (fun h=>?_)|refine cw O O (fun h=>?_) (fun h=>?_)|refine cu O O (fun h=>?_) (fun h=>?_))
   all_goals refine⟨O,congrArg PV.bool ?_,O,trivial⟩
   all_goals (rw[hM,Bool.true_and,Bool.not_not];refine p_ ?_)
   all_goals (simp only[decide_eq_true_eq,decide_eq_false_iff_not,hmb,hmz]at *)
   all_goals (first|omega|(simp only[true_iff];omega)|(simp only[Bool.false_eq_true,false_iff];omega))
 intro s0;refine H ?_;cases M
 .simp only[Bool.false_and]at hf;subst hf;exact ef
 have h1:bl.length<=65/\zn.length<=25:=by
  have hM:=hM.symm;simp only[Bool.and_eq_true,Bool.not_eq_true',decide_eq_false_iff_not]at hM;omega
 rw[Bool.true_and]at hf;refine H ?_;refine ao (fun k:Nat=>k<=bl.length/\∀(j:Nat) t,j<k->bl[j]? = some t->EC t=true) (fun k=>[(1,.ptr 1 1 0 0),(3,I (k:Nat))]) (fun _=>[(1,1,⟨31,14,[cn ⟨s,den,bl,zn,gm,oh⟩],2⟩)]) (fun k=>bl.length-k) 0 ⟨Nat.zero_le _,fun j t hj=>absurd hj J⟩ ⟨O,O,O,trivial⟩ ?_;rintro k s1 ⟨hk,hall⟩;refine H ?_;rw[hmb];refine bh O ?_ ?_<;>intro h
 .have hlt:k<bl.length:=by have:=aB h;omega
  clear h;obtain⟨t,hx⟩:=aH hlt;have hw:=c9 k;have bad:EC t=false->E=false:=fun h=>by rw[<-hf,j9 hx h,Bool.false_and]
  have good:=j8 hall hx;have hsr:Ret Tryz.prog .shared 20 [.agg (eR t.st),I (3:Nat)] (.bool (EC t)):=nH t.st 3 Y;generalize EC t=b at *
  refine aN hx ?_;refine ap hsr ?_;cases b
  .rw[bad O];exact ef
  .refine H ?_;exact⟨k+1,⟨hlt,good O⟩,J,O,congrArg I hw,O,trivial⟩
 have hge:k=bl.length:=by have:=aG h;omega
 clear h;subst hge;rw[mj hall,Bool.true_and]at hf;clear hall;refine H ?_;refine ao (fun k:Nat=>k<=zn.length/\∀(j:Nat) t,j<k->zn[j]? = some t->FH t=true) (fun k=>[(1,.ptr 1 1 0 0),(4,I (k:Nat))]) (fun _=>[(1,1,⟨31,14,[cn ⟨s,den,bl,zn,gm,oh⟩],2⟩)]) (fun k=>zn.length-k) 0 ⟨Nat.zero_le _,fun j t hj=>absurd hj J⟩ ⟨O,O,O,trivial⟩ ?_;rintro k s1 ⟨hk,hall⟩;refine H ?_;rw[hmz];refine bh O ?_ ?_<;>intro h
 .have hlt:k<zn.length:=by have:=aB h;omega
  clear h;obtain⟨t,hx⟩:=aH hlt;have hw:=c9 k;have bad:FH t=false->E=false:=fun h=>by rw[<-hf,j9 hx h]
  have good:=j8 hall hx;have hdef:FH t=decide (t.nm.length<=40):=O;generalize FH t=b at *
  refine aN hx ?_;refine D ?_ ?_<;>intro h
  .have h2:40<(t.nm.length:Int):=aB h;clear h;rw[decide_eq_false J]at hdef;rw[bad hdef];exact ef
  .have h2:¬40<(t.nm.length:Int):=aG h;clear h;rw[decide_eq_true J]at hdef;refine H ?_;exact⟨k+1,⟨hlt,good hdef⟩,J,O,congrArg I hw,O,trivial⟩
 have hge:k=zn.length:=by have:=aG h;omega
 clear h;subst hge;rw[mj hall]at hf;subst hf;exact ef
end Go.Pv
namespace Go.Pv
open Go.RowKit
variable [Globs]
section
variable {P:Program}{L:Lay}{s:St}
theorem tW {d:Nat}{c:Cont}:(s.fin d c).own d=((s.own d).1+1,some c):=ah ..
theorem Loc.slit0 {o:Oper}{T e:TypeId}{r re:LRow}{d:Nat}(ho:o.op = .buildSlice T 0 #[])(hd:o.dst=some d)(hr:L T=some r)(hs:r.sh = .sl e)(hre:L e=some re)(hz:re.zero.isSome=true)(hsz:0<re.size) :
  Loc P L s o d ((s.fin d ⟨e,re.size,[],0⟩).putR d (.als d ((s.own d).1+1) 0 0)):=by
 have key:∀u:St,wr P L u o d ((u.fin d ⟨e,re.size,[],0⟩).putR d (.als d ((u.own d).1+1) 0 0)):=fun u=>by
  refine⟨fun k hk=>ay hk,fun t ht=>?_,fun C a w K Q hG h hN hK=>?_⟩
  .show(bif Nat.beq t d then _ else u.reg t)=_;rw[aZ (fun e=>ht (by rw[e];exact hd))];rfl
  .have:=Eff.slit (P:=P) (L:=L) (s:=u) (o:=o) (parts:=#[]) (n:=0) (Pr:=True) 0 ho hd hr hs hre hz hsz O ai (fun p hp=>by simp at hp) O trivial O;exact this.sound hG.lay hG.x hG.glob h hN hK
 refine .any (key s) fun u hu _=>⟨_,key u,?_,fun t ht=>?_⟩
 .show(u.fin d _).own d=(s.fin d _).own d;rw[tW,tW,hu]
 .rw[hd]at ht;cases ht;show(bif Nat.beq d d then _ else _)=(bif Nat.beq d d then _ else _);simp[hu]
theorem Loc.appG {o:Oper}{T e:TypeId}{r re:LRow}{x y:Operand}{d k g:Nat}{rows:List (List PV)}(ho:o.op = .call ⟨.builtin .append,#[x,y],#[T,T]⟩)(hd:o.dst=some d)(hr:L T=some r)(hs:r.sh = .sl e)(hre:L e=some re)(hz:re.zero.isSome=true)(hsz:0<re.size)
  (hx:s.ev x = .als k g 0 0) (hown:s.own k=(g,some ⟨e,re.size,[],0⟩)) (hy:s.ev y = .sl rows) (hpl:rows.all (·.all ff)=true) (hlen:∀row∈rows,row.length=re.size) (hb:rows.length*re.bytes<=140737488355328) (h63:rows.length<=9223372036854775807) :
  Loc P L s o k ((s.setOwn k (g+2) none).putR d (.fsl rows)):=by
 have key:∀u:St,u.own k=s.own k->(∀z∈o.op.operands,u.ev z=s.ev z)->wr P L u o k ((u.setOwn k (g+2) none).putR d (.fsl rows)):=fun u hu he=>by
  refine⟨fun k' hk=>ay hk,fun t ht=>?_,fun C a w K Q hG h hN hK=>?_⟩
  .show(bif Nat.beq t d then _ else u.reg t)=_;rw[aZ (fun e=>ht (by rw[e];exact hd))];rfl
  .have hx':u.ev x = .als k g 0 0:=by rw[he x (by rw[ho];simp[Op.operands,Call.operands])];exact hx
   have hy':u.ev y = .sl rows:=by rw[he y (by rw[ho];simp[Op.operands,Call.operands])];exact hy
   have:=Eff.app (P:=P) (L:=L) (s:=u) (o:=o) (c:=⟨e,re.size,[],0⟩) (m:=0) (rows2:=rows) (k2:=1) (Cd2:=True) 1 ho hd hr hs hre hz hsz hx' (by rw[hu];exact hown) O O O (by rw[hy'];rfl) trivial hlen (by show(0:Nat)<=1;omega) J (by simpa using hb) (by simpa using h63);refine this.sound hG.lay hG.x hG.glob h hN fun a' w' h'=>hK a' w' ?_;have hg:(u.own k).1=g:=by rw[hu,hown]
   let l:List {r:List PV // r.all ff=true}:=rows.attachWith _ fun row hrow=>List.all_eq_true.1 hpl row hrow;have hl:l.map Subtype.val=rows:=by simp[l]
   have hgh:=Ghost.takeF (s:=(u.fin k ⟨e,re.size,[]++rows,1⟩).putR d (.als k (g+1) 0 ([]++rows).length)) (k:=k) (g:=g+1) (t:=d) (n:=rows.length) (kd:=1) (sz:=re.size) (T:=e) (rows:=rows) (enc:=Subtype.val) l (by show(u.fin k _).own k=_;rw[tW,hg];rfl) (by show(bif Nat.beq d d then _ else _)=_;simp) hl.symm O fun x=>x.2;rw[hl]at hgh;have h2:=hgh C a' w' hG.x h';have hst:((((u.fin k ⟨e,re.size,[]++rows,1⟩).putR d (.als k (g+1) 0 ([]++rows).length)).setOwn k (g+1+1) none).putR d (.fsl rows))=((u.setOwn k (g+2) none).putR d (.fsl rows)):=by
    refine St.ext' (funext fun t=>?_) (funext fun q=>?_)
    .show(bif Nat.beq t d then _ else(bif Nat.beq t d then _ else u.reg t))=(bif Nat.beq t d then _ else u.reg t);cases Nat.beq t d<;>rfl
    .by_cases hq:q=k
     .subst hq;show(St.setOwn _ q (g+1+1) none).own q=(St.setOwn _ q (g+2) none).own q;rw[ah,ah]
     .show(St.setOwn _ k (g+1+1) none).own q=(St.setOwn _ k (g+2) none).own q;rw[ay hq,ay hq];exact ay hq
   rwa [hst]at h2
 refine .any (key s O fun _ _=>rfl) fun u hu he=>⟨_,key u hu he,?_,fun t ht=>?_⟩
 .show(St.setOwn _ k (g+2) none).own k=(St.setOwn _ k (g+2) none).own k;rw[ah,ah]
 .rw[hd]at ht;cases ht;show(bif Nat.beq d d then _ else _)=(bif Nat.beq d d then _ else _);simp
theorem Loc.idx {o:Oper}{T e:TypeId}{r re:LRow}{x ix:Operand}{d k g i m n:Nat}{kk:IntKind}{c:Cont}(ho:o.op = .indexAddr T x ix)(hd:o.dst=some d)(hr:L T=some r)(hs:r.sh = .sl e)(hre:L e=some re)
  (hx:s.ev x = .als k g i m) (hown:s.own k=(g,some c)) (hsz:c.sz=re.size) (hix:s.ev ix = .int kk (n:Int)) (hlt:n<m):Loc P L s o k (s.putR d (.ptr k g (i+n) 0)):=by
 have key:∀u:St,u.own k=s.own k->(∀z∈o.op.operands,u.ev z=s.ev z)->wr P L u o k (u.putR d (.ptr k g (i+n) 0)):=fun u hu he=>by
  refine⟨fun k' hk=>rfl,fun t ht=>?_,fun C a w K Q hG h hN hK=>?_⟩
  .show(bif Nat.beq t d then _ else u.reg t)=_;rw[aZ (fun e=>ht (by rw[e];exact hd))];rfl
  .have hx':u.ev x = .als k g i m:=by rw[he x (by rw[ho];simp[Op.operands,Call.operands])];exact hx
   have hy':u.ev ix = .int kk (n:Int):=by rw[he ix (by rw[ho];simp[Op.operands])];exact hix
   have:=QOp.idxA (P:=P) (L:=L) (s:=u) (o:=o) ho hr hs hre hx' (by rw[hu];exact hown) hsz hy' J J;rw[Int.toNat_natCast]at this;refine this.wp hG h hN fun a' w' h'=>hK a' w' ?_;rw[hd]at h';exact h'
 refine .any (key s O fun _ _=>rfl) fun u hu he=>⟨_,key u hu he,hu,fun t ht=>?_⟩;rw[hd]at ht;cases ht;show(bif Nat.beq d d then _ else _)=(bif Nat.beq d d then _ else _);simp
theorem Loc.look {o:Oper}{d k:Nat}{v:PV}(hd:o.dst=some d)(h:∀u:St,u.own k=s.own k->(∀z∈o.op.operands,u.ev z=s.ev z)->QOp P L u o v):Loc P L s o k (s.putR d v):=by
 have key:∀u:St,u.own k=s.own k->(∀z∈o.op.operands,u.ev z=s.ev z)->wr P L u o k (u.putR d v):=fun u hu he=>by
  refine⟨fun k' hk=>rfl,fun t ht=>?_,fun C a w K Q hG hs hN hK=>?_⟩
  .show(bif Nat.beq t d then _ else u.reg t)=_;rw[aZ (fun e=>ht (by rw[e];exact hd))];rfl
  .refine(h u hu he).wp hG hs hN fun a' w' h'=>hK a' w' ?_;rw[hd]at h';exact h'
 refine .any (key s O fun _ _=>rfl) fun u hu he=>⟨_,key u hu he,hu,fun t ht=>?_⟩;rw[hd]at ht;cases ht;show(bif Nat.beq d d then _ else _)=(bif Nat.beq d d then _ else _);simp
end
section
variable {P:Program}{L:Lay}{ops:Array Oper}{s:St}{K:St->Prop}{rest:List Oper}
theorem GJ {Z:List Nat}{lc:Nat->Option Nat}{i d k gn ii j f off:Nat}{T ft ty:TypeId}{r rf:LRow}{fs:List (Nat × TypeId)}{x:Operand}{c:Cont}{pos:String}{af:Array Edge}{g:Option (Nat × Bool)}(hg:gB ops s g=some true)(hc:lc i=some k)(hr:L T=some r)(hs:r.sh = .st fs)(hf:fs[f]? = some (off,ft))(hrf:L ft=some rf)(hsz:Nat.blt 0 rf.size=true)
  (hx:s.ev x = .ptr k gn ii j) (hown:s.own k=(gn,some c)) (hlt:Nat.blt (j+off) c.sz=true)
  (h:P5 P L ops Z lc K (i+1) rest (s.putR d (.ptr k gn ii (j+off)))):P5 P L ops Z lc K i (⟨some d,.fieldAddr T x f,ty,pos,af,g⟩::rest) s:=by
 refine⟨_,?_,h⟩;rw[hc];refine Step5.loc (o:=⟨some d,.fieldAddr T x f,ty,pos,af,g⟩) (cX hg) (.look O fun u hu he=>?_);refine .v (Cd:=True) ?_ trivial;have hx':u.ev x = .ptr k gn ii j:=by rw[he x (by simp[Op.operands])];exact hx
 simp only[qv,hr,hs,hf,hrf,hsz,cond_true,hx',hu,hown,hlt]
theorem Gw {Z:List Nat}{lc:Nat->Option Nat}{i d:Nat}{T e ty:TypeId}{r re:LRow}{pos:String}{af:Array Edge}{g:Option (Nat × Bool)}(hg:gB ops s g=some true)(hc:lc i=some d)(hr:L T=some r)(hs:r.sh = .sl e)(hre:L e=some re)(hz:re.zero.isSome=true)(hsz:Nat.blt 0 re.size=true)
  (h:P5 P L ops Z lc K (i+1) rest ((s.fin d ⟨e,re.size,[],0⟩).putR d (.als d ((s.own d).1+1) 0 0))):P5 P L ops Z lc K i (⟨some d,.buildSlice T 0 #[],ty,pos,af,g⟩::rest) s:=by
 refine⟨_,?_,h⟩;rw[hc];exact Step5.loc (o:=⟨some d,.buildSlice T 0 #[],ty,pos,af,g⟩) (cX hg) (.slit0 O O hr hs hre hz (by simpa using hsz))
theorem Gx {Z:List Nat}{lc:Nat->Option Nat}{i d k gn:Nat}{T e ty:TypeId}{r re:LRow}{x y:Operand}{rows:List (List PV)}{pos:String}{af:Array Edge}{g:Option (Nat × Bool)}(hg:gB ops s g=some true)(hc:lc i=some k)(hr:L T=some r)(hs:r.sh = .sl e)(hre:L e=some re)(hz:re.zero.isSome=true)(hsz:Nat.blt 0 re.size=true)
  (hx:s.ev x = .als k gn 0 0) (hown:s.own k=(gn,some ⟨e,re.size,[],0⟩)) (hy:s.ev y = .sl rows) (hpl:rows.all (·.all ff)=true) (hlen:∀row∈rows,row.length=re.size) (hb:rows.length*re.bytes<=140737488355328) (h63:rows.length<=9223372036854775807)
  (h:P5 P L ops Z lc K (i+1) rest ((s.setOwn k (gn+2) none).putR d (.fsl rows))):P5 P L ops Z lc K i (⟨some d,.call ⟨.builtin .append,#[x,y],#[T,T]⟩,ty,pos,af,g⟩::rest) s:=by
 refine⟨_,?_,h⟩;rw[hc];exact Step5.loc (o:=⟨some d,.call ⟨.builtin .append,#[x,y],#[T,T]⟩,ty,pos,af,g⟩) (cX hg) (.appG O O hr hs hre hz (by simpa using hsz) hx hown hy hpl hlen hb h63)
theorem GK {Z:List Nat}{lc:Nat->Option Nat}{i d k gn ii m n:Nat}{kk:IntKind}{T e ty:TypeId}{r re:LRow}{x ix:Operand}{c:Cont}{pos:String}{af:Array Edge}{g:Option (Nat × Bool)}(hg:gB ops s g=some true)(hc:lc i=some k)(hr:L T=some r)(hs:r.sh = .sl e)(hre:L e=some re)
  (hx:s.ev x = .als k gn ii m) (hown:s.own k=(gn,some c)) (hsz:c.sz=re.size) (hix:s.ev ix = .int kk (n:Int)) (hlt:n<m)
  (h:P5 P L ops Z lc K (i+1) rest (s.putR d (.ptr k gn (ii+n) 0))):P5 P L ops Z lc K i (⟨some d,.indexAddr T x ix,ty,pos,af,g⟩::rest) s:=by
 refine⟨_,?_,h⟩;rw[hc];exact Step5.loc (o:=⟨some d,.indexAddr T x ix,ty,pos,af,g⟩) (cX hg) (.idx O O hr hs hre hx hown hsz hix hlt)
end
end Go.Pv
set_option maxHeartbeats 2000000
namespace Go.Pv
attribute [local irreducible] PWP POps PQuiet PSem aF au ak aj
open Go.Proofs
set_option maxRecDepth 20000 in
theorem rx (d:DKR)(h1:d.s.st.length<=1000)(h2:d.s.it.length<=1000)(h3:d.bl.length<=1000)(h4:d.zn.length<=1000)(hL:∀t∈d.s.st,t.L.length<=1000/\t.H0.length<=1000)(hS:∀b∈d.bl,b.st.sz 1000):Ret Tryz.prog .shared 18 [.agg (cn d)] (.agg (cn d)):=by
 have hms:(d.s.st.map eT).length=d.s.st.length:=ai;have hmb:(d.bl.map eBk).length=d.bl.length:=ai;obtain⟨⟨nm,len,st,⟨ln,lm,lx,lz,lf⟩,it⟩,den,bl,zn,gm,oh⟩:=d;simp only at *
 refine Ret.of_pwp layOk mixed Go.Proofs.Tryz.func18 O Y O O ?_;refine H ?_;refine ax (aT 1 O O O O O O O O O O O aI O ?_);refine H ?_;refine ax (bb 1 O O O O O O O O O O O aI (by intro row hr;obtain⟨p,_,rfl⟩:=List.mem_map.1 hr;rfl) O O aK aK ?_)
 (repeat ((fail_if_success (with_reducible refine aR 4 ?_));refine b9 O ?_))
 refine bj [(1,.ptr 1 1 0 0),(2,.ptr 2 1 0 0),(3,.ptr 3 1 0 0),(4,I ((0:Nat):Int))] [(1,1,⟨31,14,[[.str nm,I len,.sl (st.map eT),.str ln,I lm,I lx,I lz,I lf,.sl (it.map eLd),I den,.sl (bl.map eBk),.sl (zn.map dC),I gm,I oh]],2⟩),(2,1,⟨31,14,[[.str [],I 0,.nil,.str [],I 0,I 0,I 0,I 0,.nil,I 0,.nil,.nil,I 0,I 0]],2⟩),(3,1,⟨31,14,[[.str nm,I len,.nil,.str ln,I lm,I lx,I lz,I lf,.als 9 2 0 (it.map eLd).length,I den,.sl (bl.map eBk),.sl (zn.map dC),I gm,I oh]],2⟩),(9,2,⟨24,5,it.map eLd,1⟩)] ⟨O,O,O,O,O,O,O,O,trivial⟩ ?_;intro s0;refine aq (Ghost.freezeD (k:=9) (k0:=3) (i:=0) (j:=8) (row:=[.str nm,I len,.nil,.str ln,I lm,I lx,I lz,I lf,.als 9 2 0 (it.map eLd).length,I den,.sl (bl.map eBk),.sl (zn.map dC),I gm,I oh]) O O O O O O O O) ?_;refine aq (Ghost.nilcell (k:=400) (k0:=3) (i:=0) (j:=2) (row:=[.str nm,I len,.nil,.str ln,I lm,I lx,I lz,I lf,.sl (it.map eLd),I den,.sl (bl.map eBk),.sl (zn.map dC),I gm,I oh]) 130 4 1 O O O O O O O) ?_;have hg4:∃g4,(s0.own 400).1+1=g4:=⟨_,O⟩;obtain⟨g4,hg4⟩:=hg4;refine ao (fun i:Nat=>i<=st.length) (fun i=>[(1,.ptr 1 1 0 0),(2,.ptr 2 1 0 0),(3,.ptr 3 1 0 0),(4,I (i:Nat))]) (fun i=>[(1,1,⟨31,14,[[.str nm,I len,.sl (st.map eT),.str ln,I lm,I lx,I lz,I lf,.sl (it.map eLd),I den,.sl (bl.map eBk),.sl (zn.map dC),I gm,I oh]],2⟩),(2,1,⟨31,14,[[.str [],I 0,.nil,.str [],I 0,I 0,I 0,I 0,.nil,I 0,.nil,.nil,I 0,I 0]],2⟩),(3,1,⟨31,14,[[.str nm,I len,.als 400 (g4+i) 0 ((st.take i).map eT).length,.str ln,I lm,I lx,I lz,I lf,.sl (it.map eLd),I den,.sl (bl.map eBk),.sl (zn.map dC),I gm,I oh]],2⟩),(400,g4+i,⟨130,4,(st.take i).map eT,1⟩)]) (fun i=>st.length-i) 0 (Nat.zero_le _) ⟨O,O,O,O,O,O,by rw[<-hg4];rfl,by rw[<-hg4];rfl,trivial⟩ ?_;clear hg4;intro i s1 hi;refine H ?_;rw[hms];refine bh O ?_ ?_<;>intro h
 .have hlt:i<st.length:=by have:=aB h;omega
  clear h;obtain⟨t,hx⟩:=aH hlt;obtain⟨hl1,hl2⟩:=hL t (a_ hx);have e1:=(oK t.L J).shared_of_fresh;have e2:=(oK t.H0 J).shared_of_fresh;have hrow:(st.take (i+1)).map eT=(st.take i).map eT++[[I t.x,I t.w,.sl (t.L.map eN),.sl (t.H0.map eN)]]:=by rw[br hx,List.map_append];rfl
  have hw:=c9 i;have htl:((st.take i).map eT).length<=1000:=by rw[List.length_map,List.length_take];omega
  have hb4:g4+(i+1)=g4+i+1:=O;generalize (st.take i).map eT=R at *
  refine aN hx ?_
  (repeat ((fail_if_success (with_reducible refine aR 7 ?_));refine b9 O ?_))
  refine dM [46,400] [3] 16 [14,15,16,17,18] aS aS ?_;refine G e1 ?_;refine G e2 ?_;refine H ?_;refine js O O O (aT 1 O O O O O O O O O O O aI O ⟨dR O,?_⟩);refine H ?_;refine js O O O (bb 1 O O O O O O O O O O O aI (by intro row hr;first|(simp at hr;subst hr;rfl)|(simp at hr;obtain⟨_,_,rfl⟩:=hr;rfl)|simp at hr) O O aK aK ⟨dR O,?_⟩);refine H ?_;refine⟨i+1,hlt,J,O,O,O,congrArg I hw,O,O,?_,?_,trivial⟩
  .rw[hrow,hb4];rfl
  .rw[hrow,hb4];rfl
 have hie:i=st.length:=by have:=aG h;omega
 clear h;subst hie;rw[List.take_length];refine aq (Ghost.freezeD (k:=400) (k0:=3) (i:=0) (j:=2) (row:=[.str nm,I len,.als 400 (g4+st.length) 0 (st.map eT).length,.str ln,I lm,I lx,I lz,I lf,.sl (it.map eLd),I den,.sl (bl.map eBk),.sl (zn.map dC),I gm,I oh]) O O O O O O O O) ?_;refine H ?_;refine ax (aT 1 O O O O O O O O O O O aI O ?_);refine H ?_;refine ax (bb 1 O O O O O O O O O O O aI (by intro row hr;obtain⟨p,_,rfl⟩:=List.mem_map.1 hr;rfl) O O aK aK ?_)
 (repeat ((fail_if_success (with_reducible refine aR 10 ?_));refine b9 O ?_))
 refine bj [(1,.ptr 1 1 0 0),(2,.ptr 2 1 0 0),(3,.ptr 3 1 0 0),(6,I ((0:Nat):Int))] [(1,1,⟨31,14,[[.str nm,I len,.sl (st.map eT),.str ln,I lm,I lx,I lz,I lf,.sl (it.map eLd),I den,.sl (bl.map eBk),.sl (zn.map dC),I gm,I oh]],2⟩),(2,1,⟨31,14,[[.str [],I 0,.nil,.str [],I 0,I 0,I 0,I 0,.nil,I 0,.nil,.nil,I 0,I 0]],2⟩),(3,1,⟨31,14,[[.str nm,I len,.sl (st.map eT),.str ln,I lm,I lx,I lz,I lf,.sl (it.map eLd),I den,.als 50 ((s1.own 50).1+2) 0 (bl.map eBk).length,.sl (zn.map dC),I gm,I oh]],2⟩),(50,(s1.own 50).1+2,⟨108,11,bl.map eBk,1⟩)] ⟨O,O,O,O,O,O,O,O,trivial⟩ ?_;generalize (s1.own 50).1+2=g5;intro s2;refine ao (fun i:Nat=>i<=bl.length) (fun i=>[(1,.ptr 1 1 0 0),(2,.ptr 2 1 0 0),(3,.ptr 3 1 0 0),(6,I (i:Nat))]) (fun _=>[(1,1,⟨31,14,[[.str nm,I len,.sl (st.map eT),.str ln,I lm,I lx,I lz,I lf,.sl (it.map eLd),I den,.sl (bl.map eBk),.sl (zn.map dC),I gm,I oh]],2⟩),(2,1,⟨31,14,[[.str [],I 0,.nil,.str [],I 0,I 0,I 0,I 0,.nil,I 0,.nil,.nil,I 0,I 0]],2⟩),(3,1,⟨31,14,[[.str nm,I len,.sl (st.map eT),.str ln,I lm,I lx,I lz,I lf,.sl (it.map eLd),I den,.als 50 g5 0 (bl.map eBk).length,.sl (zn.map dC),I gm,I oh]],2⟩),(50,g5,⟨108,11,bl.map eBk,1⟩)]) (fun i=>bl.length-i) 0 (Nat.zero_le _) ⟨O,O,O,O,O,O,O,O,trivial⟩ ?_;intro i s3 hi;refine D ?_ ?_<;>intro h
 .have hlt:i<bl.length:=by have:=aB h;simp only[hmb]at this;omega
  clear h;obtain⟨b,hx⟩:=aH hlt;obtain⟨hb1,hb2⟩:=hS b (a_ hx);have hrl:(bl.map eBk)[i]? = some [I b.x,I b.z,I b.hf,I b.ht,I b.wd,.bool b.st.n.neg,.sl (b.st.n.l.map eU),.bool b.st.d.neg,.sl (b.st.d.l.map eU),I b.lim,.bool b.side]:=by rw[List.getElem?_map,hx];rfl
  have hset:(bl.map eBk).set i [I b.x,I b.z,I b.hf,I b.ht,I b.wd,.bool b.st.n.neg,.sl (b.st.n.l.map eU),.bool b.st.d.neg,.sl (b.st.d.l.map eU),I b.lim,.bool b.side]=bl.map eBk:=by
   refine List.ext_getElem? fun j=>?_;rcases Nat.decEq i j with hne|rfl
   .rw[List.getElem?_set_ne hne]
   .rw[List.getElem?_set_self (by rw[List.length_map];exact hlt),hrl]
  have hw:=c9 i;have hpl:∀l:List UInt16,(l.map eU).all (·.all ff)=true:=fun l=>List.all_eq_true.2 fun r hr=>by obtain⟨c,_,rfl⟩:=List.mem_map.1 hr;rfl
  have hle:∀l:List UInt16,∀r∈l.map eU,r.length=1:=fun l r hr=>by obtain⟨c,_,rfl⟩:=List.mem_map.1 hr;rfl
  have hn1:(b.st.n.l.map eU).length=b.st.n.l.length:=ai;have hn2:(b.st.d.l.map eU).length=b.st.d.l.length:=ai;refine aN hx ?_
  (repeat ((fail_if_success (with_reducible refine aR 13 ?_));refine b9 O ?_))
  refine fN [(6,74),(10,74),(15,83),(19,83),(22,50),(23,50),(24,50)] aS aS ?_;refine H ?_;refine Gw O O O O O O O ?_;refine H ?_;refine Gx O O O O O O O O O O (hpl _) (hle _) (by rw[hn1];show _*2<=_;omega) (by rw[hn1];omega) ?_;refine H ?_;refine Gw O O O O O O O ?_;refine H ?_;refine Gx O O O O O O O O O O (hpl _) (hle _) (by rw[hn2];show _*2<=_;omega) (by rw[hn2];omega) ?_;refine H ?_;refine GK (n:=i) O O O O O O O O O (by rw[hmb];exact hlt) ?_;rw[Nat.zero_add i];refine GJ O O O O O O O O O O ?_;refine Ds 1 O O O O O hrl (fun _=>rfl) aI O O O O ?_;refine H ?_;refine⟨i+1,hlt,J,O,O,O,congrArg I hw,O,O,O,?_,trivial⟩;refine Eq.trans (b:=(g5,some (Cont.mk 108 11 ((bl.map eBk).set i [I b.x,I b.z,I b.hf,I b.ht,I b.wd,.bool b.st.n.neg,.sl (b.st.n.l.map eU),.bool b.st.d.neg,.sl (b.st.d.l.map eU),I b.lim,.bool b.side]) 1))) O ?_;rw[hset]
 have hie:i=bl.length:=by have:=aG h;simp only[hmb]at this;omega
 clear h;subst hie;refine aq (Ghost.freezeD (k:=50) (k0:=3) (i:=0) (j:=10) (row:=[.str nm,I len,.sl (st.map eT),.str ln,I lm,I lx,I lz,I lf,.sl (it.map eLd),I den,.als 50 g5 0 (bl.map eBk).length,.sl (zn.map dC),I gm,I oh]) O O O O O O O O) ?_;refine H ?_;refine ax (aT 1 O O O O O O O O O O O aI O ?_);refine H ?_;refine ax (bb 1 O O O O O O O O O O O aI (by intro row hr;obtain⟨p,_,rfl⟩:=List.mem_map.1 hr;rfl) O O aK aK ?_)
 (repeat ((fail_if_success (with_reducible refine aR 15 ?_));refine b9 O ?_))
 refine bj [(1,.ptr 1 1 0 0),(2,.ptr 2 1 0 0),(3,.ptr 3 1 0 0)] [(1,1,⟨31,14,[[.str nm,I len,.sl (st.map eT),.str ln,I lm,I lx,I lz,I lf,.sl (it.map eLd),I den,.sl (bl.map eBk),.sl (zn.map dC),I gm,I oh]],2⟩),(2,1,⟨31,14,[[.str [],I 0,.nil,.str [],I 0,I 0,I 0,I 0,.nil,I 0,.nil,.nil,I 0,I 0]],2⟩),(3,1,⟨31,14,[[.str nm,I len,.sl (st.map eT),.str ln,I lm,I lx,I lz,I lf,.sl (it.map eLd),I den,.sl (bl.map eBk),.als 92 ((s3.own 92).1+2) 0 (zn.map dC).length,I gm,I oh]],2⟩),(92,(s3.own 92).1+2,⟨132,4,zn.map dC,1⟩)] ⟨O,O,O,O,O,O,O,trivial⟩ ?_;generalize (s3.own 92).1+2=g9;intro s4;refine aq (Ghost.freezeD (k:=92) (k0:=3) (i:=0) (j:=11) (row:=[.str nm,I len,.sl (st.map eT),.str ln,I lm,I lx,I lz,I lf,.sl (it.map eLd),I den,.sl (bl.map eBk),.als 92 g9 0 (zn.map dC).length,I gm,I oh]) O O O O O O O O) ?_;exact bI
def om:List ST:=[pA 5000,pA 15000]
def qH:List BKR:=[q8 5000,q8 15000]
set_option maxRecDepth 20000 in
set_option maxHeartbeats 16000000 in
theorem Ao:Ret Tryz.prog .shared 63 [] (.agg (cn gr)):=by
 have w:=pU 1000 ⟨Y,Y⟩;have hB:∀i:Nat,i<2->(qH.take (i+1)).map eBk=(qH.take i).map eBk++[[I (if i=0 then 5000 else 15000),I 0,I 500,I 1500,I 1000]++eR (ofQ ((1000:Int):Rat))++[I 200000,.bool false]]:=fun i hi=>by
  obtain rfl|rfl:i=0\/i=1:=J
  .rfl
  .rfl
 have hT:∀i:Nat,i<2->(om.take (i+1)).map eT=(om.take i).map eT++[[I (if i=0 then 5000 else 15000),I 10000,.sl [[I 0],[I 3000]],.sl [[I 4000]]]]:=fun i hi=>by
  obtain rfl|rfl:i=0\/i=1:=J
  .rfl
  .rfl
 have hlB:∀i:Nat,((qH.take i).map eBk).length<=2:=fun i=>by rw[List.length_map,List.length_take];exact Nat.min_le_right _ _
 have hlT:∀i:Nat,((om.take i).map eT).length<=2:=fun i=>by rw[List.length_map,List.length_take];exact Nat.min_le_right _ _
 have hend:cn gr=[.str [82,97,102,116],I 20000,.sl ((om.take 2).map eT),.str [76,105,103,104,116],I 320000,I 10000,I 2000,I 0,.sl [],I 1000,.sl ((qH.take 2).map eBk),.sl [],I 150,I 5000]:=O;rw[hend];clear hend;generalize ofQ ((1000:Int):Rat)=W at *
 suffices hz:Ret Tryz.prog .shared 63 [] (.agg [.str [82,97,102,116],I 20000,.sl ((om.take 2).map eT),.str [76,105,103,104,116],I 320000,I 10000,I 2000,I 0,.nil,I 1000,.sl ((qH.take 2).map eBk),.nil,I 150,I 5000]) from
  hz.weak .nil (WeakL.agg (.cons (.rfl _) (.cons (.rfl _) (.cons (.rfl _) (.cons (.rfl _) (.cons (.rfl _) (.cons (.rfl _) (.cons (.rfl _) (.cons (.rfl _) (.cons .nil (.cons (.rfl _) (.cons (.rfl _) (.cons .nil (WeakL.refl _))))))))))))))
 refine Ret.of_pwp layOk mixed Go.Proofs.Tryz.func63 O Y O O ?_
 (repeat ((fail_if_success (with_reducible refine aR 3 ?_));refine b9 O ?_))
 refine aq (Ghost.nilreg (k:=1002) (t:=2) 108 11 1 O O) ?_;refine aq (Ghost.nilcell (k:=400) (k0:=1) (i:=0) (j:=2) (row:=[.str [82,97,102,116],I 20000,.nil,.str [76,105,103,104,116],I 320000,I 10000,I 2000,I 0,.nil]) 130 4 1 O O O O O O O) ?_;refine H ?_;refine bj [(0,.ptr 0 1 0 0),(1,.ptr 1 1 0 0),(2,.als 1002 1 0 0),(3,I ((0:Nat):Int))] [(0,1,⟨31,14,[[.str [],I 0,.nil,.str [],I 0,I 0,I 0,I 0,.nil,I 0,.nil,.nil,I 0,I 0]],2⟩),(1,1,⟨27,9,[[.str [82,97,102,116],I 20000,.als 400 1 0 0,.str [76,105,103,104,116],I 320000,I 10000,I 2000,I 0,.nil]],2⟩),(400,1,⟨130,4,[],1⟩),(1002,1,⟨108,11,[],1⟩)] ⟨O,O,O,O,O,O,O,O,trivial⟩ ?_;intro s0;generalize ([82,97,102,116]:List UInt8)=S1;generalize ([76,105,103,104,116]:List UInt8)=S2;refine ao (fun i:Nat=>i<=2) (fun i=>[(0,.ptr 0 1 0 0),(1,.ptr 1 1 0 0),(2,.als 1002 (1+i) 0 ((qH.take i).map eBk).length),(3,I (i:Nat))])
  (fun i=>[(0,1,⟨31,14,[[.str [],I 0,.nil,.str [],I 0,I 0,I 0,I 0,.nil,I 0,.nil,.nil,I 0,I 0]],2⟩),(1,1,⟨27,9,[[.str S1,I 20000,.als 400 (1+i) 0 ((om.take i).map eT).length,.str S2,I 320000,I 10000,I 2000,I 0,.nil]],2⟩),(400,1+i,⟨130,4,(om.take i).map eT,1⟩),(1002,1+i,⟨108,11,(qH.take i).map eBk,1⟩)]) (fun i=>2-i) 0 (Nat.zero_le _)
  ⟨O,O,O,O,O,O,O,O,trivial⟩ ?_
 intro i s hi;refine D ?_ ?_<;>intro h
 .have hlt:i<2:=by have:=aB h;omega
  clear h;have hBi:=hB i hlt;have hTi:=hT i hlt;have hbi:=hlB i;have hti:=hlT i;have hw:=c9 i;have hx:IntKind.i64.wrap (5000+IntKind.i64.wrap (10000*((i:Nat):Int)))=if i=0 then 5000 else 15000:=by
   obtain rfl|rfl:i=0\/i=1:=J
   .rfl
   .rfl
  have h1:1+(i+1)=1+i+1:=O;generalize (qH.take i).map eBk=B at *
  generalize (om.take i).map eT=T at *
  generalize (if i=0 then(5000:Int) else 15000)=X at *
  refine H ?_;rw[hx];refine H ?_;refine bJ O O (cZ O O O O O O O O O O aI O) ?_;refine H ?_;refine bJ O O (cZ O O O O O O O O O O aI O) ?_;refine H ?_;refine ax (aT 1 O O O O O O O O O O O aI O ?_);refine H ?_;refine ax (bb 1 O O O O O O O O O O O aI (by intro row hr;first|(simp at hr;subst hr;rfl)|simp at hr) O O aK aK ?_);refine G w ?_;refine H ?_;refine ax (aT 1 O O O O O O O O O O O aI O ?_);refine H ?_;refine ax (bb 1 O O O O O O O O O O O aI (by intro row hr;first|(simp at hr;subst hr;rfl)|simp at hr) O O aK aK ?_);refine H ?_;refine⟨i+1,hlt,J,O,O,?_,congrArg I hw,O,?_,?_,?_,trivial⟩
  .rw[hBi];rfl
  .rw[hTi];rfl
  .rw[hTi];rfl
  .rw[hBi];rfl
 have hie:i=2:=by have:=aG h;omega
 clear h;subst hie;refine aq (Ghost.freezeD (k:=400) (k0:=1) (i:=0) (j:=2) (row:=[.str S1,I 20000,.als 400 (1+2) 0 ((om.take 2).map eT).length,.str S2,I 320000,I 10000,I 2000,I 0,.nil]) O O O O O O O O) ?_;refine aq (Ghost.takeD (k:=1002) (t:=2) O O O) ?_;generalize (qH.take 2).map eBk=B at *
 generalize (om.take 2).map eT=T at *
 exact bI
theorem FC {x:Int}(h:x=5000\/x=15000):BkIn (q8 x)/\(q8 x).st.sz 12:=by
 refine⟨lF (qG (by rcases h with rfl|rfl<;>decide)),jL ⟨Y,Y⟩⟩
theorem ny:gr.Bl:=by
 obtain⟨h1,h2⟩:=qQ (s:=gr.s) uq;refine⟨h1,h2,fun b hb=>?_,Y⟩;simp only[gr,List.mem_cons,List.not_mem_nil,or_false]at hb;rcases hb with rfl|rfl
 .exact FC (.inl O)
 .exact FC (.inr O)
theorem At:gr.Ok:=⟨⟨mw,Y,Y⟩,fun b hb=>(ny.b b hb).2⟩
theorem CX {x:Int}(h:x=5000\/x=15000):n7 gr.s.st (q8 x)=eP x:=by
 have hb:fV gr.s.st (q8 x)=0:=by
  rw[fV];show(dp x 0 [pA 5000,pA 15000]).getD 0=0;rw[qF h];rfl
 have hs:j3 (q8 x)=((1000:Int):Rat):=by
  rw[j3,if_neg (by show ¬false=true;decide)];show(ofQ ((1000:Int):Rat)).val=_;rw[ofQ_val]
 rw[n7,hb,hs];rfl
theorem yI:c_ gr.s.st gr.bl=[eP 5000,eP 15000]:=by
 show [n7 gr.s.st (q8 5000),n7 gr.s.st (q8 15000)]=_;rw[CX (.inl O),CX (.inr O)]
theorem uM:eF 1000 n6.st=[dE 5000,dE 15000]:=by
 show [me 1000 (pA 5000),me 1000 (pA 15000)]=_;rw[vX,vX]
theorem pS:rh gr 0=r2.l:=by
 rw[rh,yI];show [eP 5000,eP 15000]++(eF 1000 n6.st).map (zG 0)=_;rw[uM];rfl
theorem En:Ret Tryz.prog .shared 94 [.agg (fi n6),I 1000] (.tup [.sl ((eF 1000 n6.st).map eS),I 0]) :=
 ma n6 mw 1000 F4 Y Y ny.st ny.n
theorem wi (l:List SR)(B:BR)(h1:wB n6 l=B)(h2:pB n6 l=B)(hl:B.Lim)(h0:dF B=0)(h12:l.length<=1000)(hM:∀x∈l,x.k.M.length<=1000):Ret Tryz.prog .shared 95 [.agg (fi n6),.sl (l.map eS)] (.tup [.agg (eB B),I 0]):=by
 have h:=Bm n6 mw uq l (by rw[h1];exact hl) (by rw[h2];exact hl) h12 hM;rw[h2,h0,if_pos O]at h;exact h
theorem BO:Ret Tryz.prog .shared 31 [.agg (fi n6),I 1000] (.tup [.agg (lg ⟨ofQ ((2000:Int):Rat),ofQ 0⟩ [ofQ 160000,ofQ 160000]),.agg (eR RR.zero++eR RR.zero),I 0]):=by
 have hw:=wi (eF 1000 n6.st) r1 E4 (by rw[E5];exact E4) De.lim Al (by rw[uM];decide) (fun x hx=>by
  rw[uM]at hx;simp only[List.mem_cons,List.not_mem_nil,or_false]at hx
  rcases hx with rfl|rfl<;>(show 2<=1000;decide))
 have h9:=Ea.weak (WeakL.refl _) (WeakL.tup (.cons (.rfl _) (.cons mD.agg (WeakL.refl _))));exact za n6 1000 r1 (eF 1000 n6.st) 0 ⟨⟨ofQ ((2000:Int):Rat),ofQ 0⟩,[ofQ 160000,ofQ 160000],zA,0⟩ En hw (fun _=>h9) (fun h=>absurd O h)
theorem Gl {z:Int}(h:i64 z):Va ⟨ofQ (z:Rat),ofQ 0⟩ (z:Rat) 0 4 4:=⟨Vq.ofQ (h:=⟨qg z h⟩),Vq.ofQ (h:=HQ.zero.mono Y)⟩
theorem CB:Ret Tryz.prog .shared 30 [.agg (cn gr)] (.tup [.agg (eR (ofQ ((3500:Int):Rat))),I 0]):=by
 have h:=Bf gr At Au ny Y (ofQ ((2000:Int):Rat)) (ofQ 0) RR.zero RR.zero [ofQ 160000,ofQ 160000] (ha:=Gl ⟨Y,Y⟩) Y Y BO;rw[yI]at h;have hv:∀x:Int,dB ((2000:Int):Rat) 0 (eP x)=((3500:Int):Rat):=fun x=>by
  show(ofQ ((1500:Int):Rat)).val+(((2000:Int):Rat)+0*(x:Rat))=_;rw[ofQ_val,Rat.zero_mul,Rat.add_zero];decide +kernel
 have hm:fW ([eP 5000,eP 15000].map (dB ((2000:Int):Rat) 0))=((3500:Int):Rat):=by
  show fW [dB ((2000:Int):Rat) 0 (eP 5000),dB ((2000:Int):Rat) 0 (eP 15000)]=_;rw[hv,hv];decide +kernel
 rw[hm]at h;exact h
def Cl:List Rat:=[160000,160000,0,0]
def rfX:DQ:=⟨ofQ 0,⟨ofQ ((-1340:Int):Rat),ofQ 0⟩,[ofQ 160000,ofQ 160000],ofQ 320000,ofQ 0,Ev,false,3⟩
theorem Ef:∀q∈Cl,hq q 100000:=fun q hm=>by
 have h4:hq q 4:=by
  simp only[Cl,List.mem_cons,List.not_mem_nil,or_false]at hm;rcases hm with rfl|rfl|rfl|rfl
  .exact qg 160000 ⟨Y,Y⟩
  .exact qg 160000 ⟨Y,Y⟩
  .exact qg 0 ⟨Y,Y⟩
  .exact qg 0 ⟨Y,Y⟩
 exact(HQ.mono (h:=⟨h4⟩) Y).ok
theorem EW:FP gr 0 ⟨ofQ ((-1340:Int):Rat),ofQ 0⟩ Cl Ev=rfX:=by
 have h1:co (Cl.take gr.bl.length)=320000:=by decide +kernel
 have h2:co (Cl.drop gr.bl.length)=0:=by decide +kernel
 have h3:dH gr.bl Cl=false:=O;have h4:jS gr.bl (Cl.take gr.bl.length) 0=3:=by decide +kernel
 rw[FP,h1,h2,h3,h4];rfl
theorem FW:Ret Tryz.prog .shared 21 [.agg (cn gr),.agg (eR (ofQ ((0:Int):Rat)))] (.tup [.agg (E0 rfX),I 0]):=by
 have v0:Vq (ofQ ((0:Int):Rat)) 0 4:=Vq.ofQ (h:=HQ.zero);have hs:=ov gr ny ⟨Y,Y⟩ (show jI gr.s gr.d=0 from F4) mw (ofQ ((0:Int):Rat)) (hv:=v0) Y;have hw:=wi (rh gr 0) r2 (by rw[pS,Es];rfl) (by rw[pS];exact F7) Dg.lim Am (by rw[pS];decide) (fun x hx=>by
  rw[pS]at hx;simp only[r2,List.mem_cons,List.not_mem_nil,or_false]at hx;rcases hx with rfl|rfl|rfl|rfl
  .show 1<=1000;decide
  .show 1<=1000;decide
  .show 2<=1000;decide
  .show 2<=1000;decide)
 have h78:=Ed.weak (WeakL.refl _) (WeakL.tup (.cons (.rfl _) (.cons mD.agg (WeakL.refl _))));have h2:co (Cl.drop gr.bl.length)=0:=by decide +kernel
 have h74:=AY gr (ofQ ((0:Int):Rat)) (hlv:=v0) Y hs r2 hw (ofQ ((-1340:Int):Rat)) (ofQ 0) RR.zero RR.zero Cl Ef Y Y h78 Ev (z:=((-1340:Int):Rat)) (nz:=4) (hz:=Vq.ofQ (h:=⟨qg (-1340) ⟨Y,Y⟩⟩)) Y (fun h=>absurd h2 h) (fun _=>rfl);rw[EW]at h74;exact ER gr At Au _ rfX 0 h74
set_option maxRecDepth 20000 in
theorem tD:Ret Tryz.prog .shared 15 [] (.bool true):=by
 have w0:=pU 0 ⟨Y,Y⟩;have w1:=pU 3500 ⟨Y,Y⟩;have ws:=Bs [160000,160000] ai (fun z hz=>by
  simp only[List.mem_cons,List.not_mem_nil,or_false]at hz
  rcases hz with rfl|rfl<;>exact⟨Y,Y⟩)
 have e1:=AD (p:=((3500:Int):Rat)) ⟨qg 3500 ⟨Y,Y⟩⟩ Y;have e2:=uC [ofQ 160000,ofQ 160000] Y (fun x hx=>by
  simp only[List.mem_cons,List.not_mem_nil,or_false,or_self]at hx;subst hx;have:=gW (qg 160000 ⟨Y,Y⟩)
  exact⟨Nat.le_trans this.1 Y,Nat.le_trans this.2 Y⟩)
 have r:=Ao;have t:=CB;have a:=FW;rw[show CK [160000,160000]=[ofQ 160000,ofQ 160000] from O]at ws;have hX:E0 rfX=eR (ofQ 0)++(eR (ofQ ((-1340:Int):Rat))++eR (ofQ 0))++[.sl ([ofQ 160000,ofQ 160000].map eR)]++eR (ofQ 320000)++eR (ofQ 0)++DF Ev++[.bool false,I 3]:=O;rw[hX]at a;clear hX;generalize gr=D0 at *
 generalize ofQ ((0:Int):Rat)=W0 at *
 generalize ofQ ((3500:Int):Rat)=W1 at *
 generalize ofQ ((-1340:Int):Rat)=W2 at *
 generalize ofQ 320000=W3 at *
 generalize ofQ 0=W4 at *
 generalize [ofQ (160000:Rat),ofQ (160000:Rat)]=WF at *
 refine Ret.of_pwp layOk mixed Go.Proofs.Tryz.func15 O Y O O ?_;refine G r ?_;refine G t ?_;refine G r ?_;refine G w0 ?_;refine G a ?_;refine bT 23 [16,17,18,19,20,21,22,23,24,25,26,27,28,29,30,31,32,33,34,35,36,37,38] ?_;refine G w1 ?_;refine ap e1 ?_;refine H ?_;refine bJ O O (cZ O O O O O O O O O O aI O) ?_;refine G ws ?_;refine ap e2 ?_;exact ef
set_option maxRecDepth 20000 in
theorem l7 (d:DKR)(hd:d.Ok):Ret Tryz.prog .shared 19 [.agg (cn d)] (I (jg d)):=by
 have h1:=sW d.s hd.len.s;have h2:=qD d.d;have h4:=bO d.gm (-100000) 100000;have h5:=bO d.oh 0 1000000;have hmb:(d.bl.map eBk).length=d.bl.length:=ai;have hmz:(d.zn.map dC).length=d.zn.length:=ai;have hsz:=hd.st;have hlb:=hd.len.bl;have hlz:=hd.len.zn;generalize hf:jg d=E;rw[jg,jI]at hf;by_cases hE:ec d.s=0
 rotate_left
 .rw[if_neg hE,if_neg hE]at hf;obtain⟨s,den,bl,zn,gm,oh⟩:=d;simp only at *
  generalize ec s=e at *
  subst hf;refine Ret.of_pwp layOk mixed Go.Proofs.Tryz.func19 O Y O O ?_;refine ap h1 ?_;refine D ?_ ?_<;>intro h
  .clear h;exact bq
  .simp at h;exact absurd h hE
 obtain⟨hst,h40⟩:=qQ hE;rw[hE]at h1;rw[if_pos hE]at hf;have hbr:=fun i b hb hpr hz hb40=>uf d hst h40 hz hb40 i b hb (hsz b (a_ hb)) hpr;clear hE;obtain⟨s,den,bl,zn,gm,oh⟩:=d;simp only at *
 refine Ret.of_pwp layOk mixed Go.Proofs.Tryz.func19 O Y O O ?_;refine ap h1 ?_;refine ap h2 ?_;cases hi:ar den 900 1100 with
 |false =>
  rw[hi]at hf;subst hf;exact bq
 |true =>
 rw[hi,if_pos O,if_pos O,eG]at hf;refine H ?_;rw[hmz];refine bh O ?_ ?_<;>intro h
 .rw[if_pos (show 20<zn.length by have:=aB h;omega),if_neg Y]at hf;subst hf;exact bq
 have h20:¬20<zn.length:=by have:=aG h;omega
 clear h h1 h2;have hz0:e_ zn (mg zn)=0->eG zn=0:=fun h=>by rw[eG,if_neg h20];exact h
 rw[if_neg h20]at hf;refine H ?_;refine ao (ClearE zn (mg zn)) (fun k=>[(1,.ptr 1 1 0 0),(5,I (k:Nat))]) (fun _=>[(1,1,⟨31,14,[cn ⟨s,den,bl,zn,gm,oh⟩],2⟩)]) (fun k=>zn.length-k) 0 .zero' ⟨O,O,O,trivial⟩ ?_;intro k s1 hk;have hkl:=hk.1;refine H ?_;rw[hmz];refine bh O ?_ ?_<;>intro h
 .have hlt:k<zn.length:=by have:=aB h;omega
  clear h;obtain⟨z,hx⟩:=aH hlt;have n0:=jM z.nm;have o1:=bO z.a (-1000000) 1000000;have o2:=bO z.b (-1000000) 1000000;have o3:=bO z.h 0 100000;have hw:=c9 k;have hfl:∀e,mg zn k z=e->e≠0->E=e:=fun e h he=>by
   rw[hk.found hx h he,if_neg he]at hf;exact hf.symm
  have hsu:=fun(h:mg zn k z=0)=>hk.succ hx h;rw[mg]at hfl hsu;generalize bU z.nm=b0 at *
  generalize ar z.a (-1000000) 1000000=b2 at *
  generalize ar z.b (-1000000) 1000000=b3 at *
  generalize ar z.h 0 100000=b4 at *
  clear hk hf;refine aN hx ?_;refine ap n0 ?_;cases b0
  .have:=hfl 4 (by rfl) Y;subst this;exact bq
  refine H ?_;refine bj [(1,.ptr 1 1 0 0),(5,I (k:Nat)),(6,.ptr 6 ((s1.own 6).1+1) 0 0),(7,I ((0:Nat):Int))] [(1,1,⟨31,14,[cn ⟨s,den,bl,zn,gm,oh⟩],2⟩),(6,(s1.own 6).1+1,⟨132,4,[dC z],2⟩)] ⟨O,O,O,O,O,O,trivial⟩ ?_;generalize (s1.own 6).1+1=g6;intro s2;refine ao (fun j:Nat=>j<=k/\∀i u,i<j->zn[i]? = some u->u.nm≠z.nm) (fun j=>[(1,.ptr 1 1 0 0),(5,I (k:Nat)),(6,.ptr 6 g6 0 0),(7,I (j:Nat))]) (fun _=>[(1,1,⟨31,14,[cn ⟨s,den,bl,zn,gm,oh⟩],2⟩),(6,g6,⟨132,4,[dC z],2⟩)]) (fun j=>k-j) 0 ⟨Nat.zero_le _,fun i u hi=>absurd hi J⟩ ⟨O,O,O,O,O,O,trivial⟩ ?_;rintro j s3 ⟨hj,hall⟩;refine D ?_ ?_<;>intro h
  .have hlj:j<k:=by have:=aB h;omega
   clear h;obtain⟨u,hu⟩:=aH (show j<zn.length by omega);have hwj:IntKind.i64.wrap (((j:Nat):Int)+1)=((j+1:Nat):Int):=by rw[wrap_i64 J J];omega
   refine bT 9 [47,48,49,50,51,52,53,54,55] ?_;refine aN hu ?_;refine D ?_ ?_<;>intro h
   .have he:u.nm=z.nm:=by simpa using h
    clear h;have hA:(zn.take k).any (fun y=>decide (y.nm=z.nm))=true:=mJ hlj hu (by rw[he];simp);rw[hA]at hfl;have:=hfl 5 (by rfl) Y;subst this;exact bq
   .have he:u.nm≠z.nm:=by simpa using h
    clear h;refine H ?_;refine⟨j+1,⟨hlj,fun i v hi hv=>?_⟩,J,O,O,O,congrArg I hwj,O,O,trivial⟩;rcases Nat.lt_or_ge i j with g|g
    .exact hall i v g hv
    .rw[show i=j by omega,hu]at hv;cases hv;exact he
  have hje:j=k:=by have:=aG h;omega
  clear h;subst hje;have hA:(zn.take j).any (fun y=>decide (y.nm=z.nm))=false:=by
   rw[List.any_eq_false];intro v hv;obtain⟨i,hi⟩:=List.mem_iff_getElem?.1 hv;have hij:i<j:=by have:=(bi hi).1;rw[List.length_take]at this;omega
   rw[List.getElem?_take_of_lt hij]at hi;simpa using hall i v hij hi
  rw[hA]at hfl hsu;refine ap o1 ?_;cases b2
  .have:=hfl 2 (by rfl) Y;subst this;exact bq
  refine ap o2 ?_;cases b3
  .have:=hfl 2 (by rfl) Y;subst this;exact bq
  refine cV ?_ ?_<;>intro h
  .have hab:=aB h;clear h;have:=hfl 2 aK Y;subst this;exact bq
  have hab:=aG h;clear h;refine ap o3 ?_;cases b4
  .have:=hfl 2 ai Y;subst this;exact bq
  refine H ?_;exact⟨j+1,hsu aK,J,O,congrArg I hw,O,trivial⟩
 have hge:¬k<zn.length:=by have:=aG h;omega
 clear h;have hz:eG zn=0:=hz0 (hk.none hge);have hzi:=tu hz;rw[hk.none hge,if_pos O,lR]at hf;clear hz0 hz hk;refine H ?_;rw[hmb];refine bh O ?_ ?_<;>intro h
 .rw[if_pos (show 40<bl.length by have:=aB h;omega),if_neg Y]at hf;subst hf;exact bq
 have hb40:¬40<bl.length:=by have:=aG h;omega
 clear h;rw[if_neg hb40]at hf;refine H ?_;refine ao (ClearE bl (ga s.st zn bl)) (fun k=>[(1,.ptr 1 1 0 0),(8,I (k:Nat))]) (fun _=>[(1,1,⟨31,14,[cn ⟨s,den,bl,zn,gm,oh⟩],2⟩)]) (fun k=>bl.length-k) 0 .zero' ⟨O,O,O,trivial⟩ ?_;clear hkl;intro k s1 hk;have hkl:=hk.1;refine H ?_;rw[hmb];refine bh O ?_ ?_<;>intro h
 .have hlt:k<bl.length:=by have:=aB h;omega
  clear h;obtain⟨b,hx⟩:=aH hlt;have c1:=hbr k b hx (fun j c hj hc=>pW (hk.2 j c hj hc)) hzi J;have hw:=c9 k;have hfl:=fun e (h:ga s.st zn bl k b=e) (he:e≠0)=>hk.found hx h he;have hsu:=fun(h:ga s.st zn bl k b=0)=>hk.succ hx h;generalize ga s.st zn bl k b=e at *
  refine ap c1 ?_;refine D ?_ ?_<;>intro h
  .have he:e≠0:=by simpa using h
   clear h;have:=hfl e O he;rw[this,if_neg he]at hf;subst hf;exact bq
  .have he:e=0:=by simpa using h
   clear h;refine H ?_;exact⟨k+1,hsu he,J,O,congrArg I hw,O,trivial⟩
 have hge:¬k<bl.length:=by have:=aG h;omega
 clear h;rw[hk.none hge,if_pos O]at hf;refine ap h4 ?_;cases h4b:ar gm (-100000) 100000 with
 |false =>
  rw[h4b]at hf;subst hf;exact bq
 |true =>
 rw[h4b]at hf;refine ap h5 ?_;cases h5b:ar oh 0 1000000;all_goals
  rw[h5b]at hf;subst hf;exact bq
theorem GA {n:Nat}{cs:List PV}(h:i_ lay.get (n+3) 130 cs):∃t:ST,cs=eT t/\t.L.length<=9223372036854775807/\t.H0.length<=9223372036854775807:=by
 obtain⟨parts,rfl,hl,hp⟩:=gy h O
 match parts,hl,hp with
 |[p0,p1,p2,p3],_,hp =>
  obtain⟨x,rfl,-⟩:=i2 (hp 0 _ p0 O O);obtain⟨w,rfl,-⟩:=i2 (hp 1 _ p1 O O);obtain⟨L,rfl,h1,-⟩:=rA (hp 2 _ p2 O O);obtain⟨H0,rfl,h2,-⟩:=rA (hp 3 _ p3 O O);exact⟨⟨x,w,L,H0⟩,O,h1,h2⟩
theorem Gm {n:Nat}{cs:List PV}(h:i_ lay.get (n+2) 24 cs):∃w:LR,cs=eLd w:=by
 obtain⟨parts,rfl,hl,hp⟩:=gy h O
 match parts,hl,hp with
 |[p0,p1,p2,p3,p4],_,hp =>
  obtain⟨a0,rfl⟩:=qU (hp 0 _ p0 O O) O;obtain⟨a1,rfl⟩:=bP (hp 1 _ p1 O O) O;obtain⟨a2,rfl⟩:=bP (hp 2 _ p2 O O) O;obtain⟨a3,rfl⟩:=bP (hp 3 _ p3 O O) O;obtain⟨a4,rfl⟩:=bP (hp 4 _ p4 O O) O;exact⟨⟨a0,a1,a2,a3,a4⟩,O⟩
theorem FX {n:Nat}{cs:List PV}(h:i_ lay.get (n+5) 27 cs):∃s:SHP,cs=fi s/\s.Len:=by
 obtain⟨parts,rfl,hl,hp⟩:=gy h O
 match parts,hl,hp with
 |[p0,p1,p2,p3,p4],_,hp =>
  obtain⟨nm,rfl⟩:=qU (hp 0 _ p0 O O) O;obtain⟨len,rfl,-⟩:=i2 (hp 1 _ p1 O O);obtain⟨r1,rfl,hl1,hr1⟩:=ja (hp 2 _ p2 O O) O;obtain⟨w,rfl⟩:=Gm (hp 3 _ p3 O O);obtain⟨r2,rfl,hl2,hr2⟩:=ja (hp 4 _ p4 O O) O;obtain⟨st,rfl,hz⟩:=eW (f:=eT) (p:=fun t=>t.L.length<=9223372036854775807/\t.H0.length<=9223372036854775807) fun row hrow=>GA (hr1 row hrow);obtain⟨it,rfl,-⟩:=eW (f:=eLd) (p:=fun _=>True) fun row hrow=>by
   obtain⟨a,rfl⟩:=Gm (hr2 row hrow);exact⟨a,O,trivial⟩
  rw[List.length_map]at hl1 hl2;exact⟨⟨nm,len,st,w,it⟩,by simp[fi,eN],oW hl1,oW hl2,hz⟩
theorem Gz {n:Nat}{cs:List PV}(h:i_ lay.get (n+5) 108 cs):∃b:BKR,cs=eBk b:=by
 obtain⟨parts,rfl,hl,hp⟩:=gy h O
 match parts,hl,hp with
 |[p0,p1,p2,p3,p4,p5,p6,p7],_,hp =>
  obtain⟨a0,rfl⟩:=bP (hp 0 _ p0 O O) O;obtain⟨a1,rfl⟩:=bP (hp 1 _ p1 O O) O;obtain⟨a2,rfl⟩:=bP (hp 2 _ p2 O O) O;obtain⟨a3,rfl⟩:=bP (hp 3 _ p3 O O) O;obtain⟨a4,rfl⟩:=bP (hp 4 _ p4 O O) O;obtain⟨a5,rfl⟩:=C6 (hp 5 _ p5 O O);obtain⟨a6,rfl⟩:=bP (hp 6 _ p6 O O) O;obtain⟨a7,rfl⟩:=nT (hp 7 _ p7 O O) O;exact⟨⟨a0,a1,a2,a3,a4,a5,a6,a7⟩,by simp[eBk,eR]⟩
theorem GB {n:Nat}{cs:List PV}(h:i_ lay.get (n+2) 132 cs):∃z:ZNR,cs=dC z:=by
 obtain⟨parts,rfl,hl,hp⟩:=gy h O
 match parts,hl,hp with
 |[p0,p1,p2,p3],_,hp =>
  obtain⟨a0,rfl⟩:=qU (hp 0 _ p0 O O) O;obtain⟨a1,rfl⟩:=bP (hp 1 _ p1 O O) O;obtain⟨a2,rfl⟩:=bP (hp 2 _ p2 O O) O;obtain⟨a3,rfl⟩:=bP (hp 3 _ p3 O O) O;exact⟨⟨a0,a1,a2,a3⟩,O⟩
theorem dkD0 {c:PV}(h:argW lay.get 31 c):∃d:DKR,c = .agg (cn d)/\d.Len:=by
 obtain⟨cs,rfl,h⟩:∃cs,c = .agg cs/\i_ lay.get 12 31 cs:=h;obtain⟨parts,rfl,hl,hp⟩:=gy h O
 match parts,hl,hp with
 |[p0,p1,p2,p3,p4,p5],_,hp =>
  obtain⟨s,rfl,hs⟩:=FX (n:=6) (hp 0 _ p0 O O);obtain⟨a1,rfl⟩:=bP (hp 1 _ p1 O O) O;obtain⟨r2,rfl,hl2,hr2⟩:=ja (hp 2 _ p2 O O) O;obtain⟨r3,rfl,hl3,hr3⟩:=ja (hp 3 _ p3 O O) O;obtain⟨a4,rfl⟩:=bP (hp 4 _ p4 O O) O;obtain⟨a5,rfl⟩:=bP (hp 5 _ p5 O O) O;obtain⟨bl,rfl,-⟩:=eW (f:=eBk) (p:=fun _=>True) fun row hrow=>by
   obtain⟨a,rfl⟩:=Gz (hr2 row hrow);exact⟨a,O,trivial⟩
  obtain⟨zn,rfl,-⟩:=eW (f:=dC) (p:=fun _=>True) fun row hrow=>by
   obtain⟨a,rfl⟩:=GB (hr3 row hrow);exact⟨a,O,trivial⟩
  rw[List.length_map]at hl2 hl3;exact⟨⟨s,a1,bl,zn,a4,a5⟩,by simp[cn],hs,oW hl2,oW hl3⟩
structure SmD (d:DKR):Prop where
 st:d.s.st.length<=45
 it:d.s.it.length<=205
 bl:d.bl.length<=65
 zn:d.zn.length<=25
 L:∀t∈d.s.st,t.L.length<=40/\t.H0.length<=40
 b:∀b∈d.bl,b.st.sz 3
theorem FG {d:DKR}(h:ED d=true):SmD d:=by
 simp only[ED,FQ,Ej,EE,Bool.and_eq_true,Bool.not_eq_true',decide_eq_false_iff_not,List.all_eq_true]at h;obtain⟨⟨⟨⟨⟨h1,h2⟩,-⟩,h3⟩,h4⟩,-⟩:=h;refine⟨J,J,J,J,fun t ht=>?_,fun b hb=>?_⟩
 .have:=h2 t ht;simp only[x7,Bool.not_eq_true',decide_eq_false_iff_not]at this;omega
 .have:=h4 b hb;simp only[EC,Ei,Bool.and_eq_true,decide_eq_true_eq]at this;exact this
theorem iS {x:RR}{n m:Nat}(h:x.sz n)(hm:n<=m):x.sz m:=⟨Nat.le_trans h.1 hm,Nat.le_trans h.2 hm⟩
theorem SmD.ok {d:DKR}(h:SmD d)(hl:d.Len):d.Ok:=⟨hl,fun b hb=>iS (h.b b hb) Y⟩
theorem wG (d:DKR)(h:SmD d):Ret Tryz.prog .shared 18 [.agg (cn d)] (.agg (cn d)) :=
 rx d (Nat.le_trans h.st Y) (Nat.le_trans h.it Y) (Nat.le_trans h.bl Y) (Nat.le_trans h.zn Y) (fun t ht=>⟨Nat.le_trans (h.L t ht).1 Y,Nat.le_trans (h.L t ht).2 Y⟩) (fun b hb=>iS (h.b b hb) Y)
structure LeS (s:SR):Prop where
 c:s.c.le 1000000000
 S:s.k.S.length<=1000000
 M:s.k.M.length<=1000000
 m:∀m∈s.k.M,m.le 1000000000
theorem EV {d:DKR}(hd:d.Ok)(h:jg d=0):d.Bl/\(900<=d.d/\d.d<=1100)/\jI d.s d.d=0:=by
 rw[jg]at h;split at h
 .rename_i h1;split at h
  .split at h
   .rename_i h2 h3;have hE:ec d.s=0:=by rw[jI]at h1;split at h1<;>omega
    obtain⟨a,b⟩:=qQ hE;rw[lR]at h3;split at h3
    .omega
    .refine⟨⟨a,b,fun x hx=>?_,J⟩,?_,h1⟩
     .obtain⟨j,hj⟩:=List.mem_iff_getElem?.1 hx;exact⟨pW (gG h3 j x hj),hd.st x hx⟩
     .rw[jI,if_pos hE]at h1;split at h1
      .rename_i h4;exact dA h4
      .omega
   .contradiction
  .contradiction
 .contradiction
def fU (b:BKR)(st:Int)(i:Nat):BKR:={ b with x:=IntKind.i64.wrap (b.x+IntKind.i64.wrap ((i:Int)*st)) }
def da (d:DKR)(b:BKR)(st:Int):Nat->List BKR
 |0=>d.bl
 |i+1=>if jg { d with bl:=da d b st i++[fU b st i] }=0 then da d b st i++[fU b st i] else da d b st i
theorem zy {d:DKR}{b:BKR}{st:Int}{p:BKR->Prop}(h1:∀c∈d.bl,p c)(h2:∀i,p (fU b st i)):∀i,∀c∈da d b st i,p c:=by
 intro i
 induction i with
 |zero=>exact h1
 |succ i ih =>
  intro c hc;rw[da]at hc;split at hc
  .rcases List.mem_append.1 hc with hc|hc
   .exact ih c hc
   .rw[List.mem_singleton.1 hc];exact h2 i
  .exact ih c hc
theorem zu (d:DKR)(b:BKR)(st:Int):∀i,(da d b st i).length<=d.bl.length+i:=by
 intro i
 induction i with
 |zero=>exact aP
 |succ i ih =>
  rw[da];split
  .rw[List.length_append,List.length_singleton];omega
  .omega
theorem DC {d:DKR}(h:jg d=0):∀c∈d.bl,BkIn c:=by
 intro c hc;rw[jg]at h;split at h
 .split at h
  .split at h
   .rename_i h3;rw[lR]at h3;split at h3
    .omega
    .obtain⟨j,hj⟩:=List.mem_iff_getElem?.1 hc;exact pW (gG h3 j c hj)
   .contradiction
  .contradiction
 .contradiction
theorem rZ {d:DKR}{b:BKR}{st:Int}(hb:1000000<b.x)(hb2:b.x<=9223372036854775807)(h1:1<=st)(h2:st<=100000):∀i:Nat,i<=40->da d b st i=d.bl:=by
 intro i
 induction i with
 |zero=>intro _;rfl
 |succ i ih =>
  intro hi;have ih:=ih J;rw[da,if_neg,ih];intro h;have hx:=(DC h (fU b st i) ai).x;have m1:0<=(i:Int)*st:=Int.mul_nonneg J J;have m2:(i:Int)*st<=40*100000:=Int.mul_le_mul J h2 J Y;have e1:IntKind.i64.wrap ((i:Int)*st)=(i:Int)*st:=wrap_i64 J J;have hx : -1000000<=IntKind.i64.wrap (b.x+IntKind.i64.wrap ((i:Int)*st))/\IntKind.i64.wrap (b.x+IntKind.i64.wrap ((i:Int)*st))<=1000000:=hx;rw[e1]at hx;generalize (i:Int)*st=m at *
  by_cases g:b.x+m<=9223372036854775807
  .rw[wrap_i64 J J]at hx;omega
  .have e2:IntKind.i64.wrap (b.x+m)=b.x+m-18446744073709551616:=by rw[IntKind.wrap_i64];omega
   rw[e2]at hx;omega
theorem ct {α:Type}[h:DecidableEq α](a:α):decide (a=a)=true:=decide_eq_true O
structure SmlS (s:SHP):Prop where
 st:s.st.length<=1000
 it:s.it.length<=1000
 L:∀t∈s.st,t.L.length<=1000/\t.H0.length<=1000
structure SmlD (d:DKR):Prop where
 s:SmlS d.s
 bl:d.bl.length<=1000
 zn:d.zn.length<=1000
 b:∀b∈d.bl,b.st.sz 12
theorem Gq:vi Tryz.prog 24 [.str,.int .i64,.int .i64,.int .i64,.int .i64]=true:=by decide +kernel
theorem GL:vi Tryz.prog 132 [.str,.int .i64,.int .i64,.int .i64]=true:=by decide +kernel
theorem zD (w:LR):gL [.str,.int .i64,.int .i64,.int .i64,.int .i64] (eLd w) (eLd w)=some true:=by simp[gL,eLd]
theorem DN (w:ZNR):gL [.str,.int .i64,.int .i64,.int .i64] (dC w) (dC w)=some true:=by simp[gL,dC]
set_option maxRecDepth 20000 in
theorem uD (s:SHP)(hs:SmlS s):Ret Tryz.prog .shared 119 [.agg (fi s),.agg (fi s)] (.bool true):=by
 obtain⟨h1,h2,hL⟩:=hs;have hms:(s.st.map eT).length=s.st.length:=ai;have hmi:(s.it.map eLd).length=s.it.length:=ai;obtain⟨nm,len,st,⟨ln,lm,lx,lz,lf⟩,it⟩:=s;simp only at *
 refine Ret.of_pwp layOk mixed Go.Proofs.Tryz.func119 O Y O O ?_;refine H ?_;rw[ct];refine H ?_;rw[ct];refine H ?_;refine bJ O O (ui Gq O O (zD ⟨ln,lm,lx,lz,lf⟩)) ?_;refine H ?_;rw[ct];refine H ?_;rw[ct];refine H ?_;refine ao (fun i:Nat=>i<=st.length) (fun i=>[(2,.ptr 2 1 0 0),(3,.ptr 3 1 0 0),(5,I (i:Nat))]) (fun _=>[(2,1,⟨27,9,[fi ⟨nm,len,st,⟨ln,lm,lx,lz,lf⟩,it⟩],2⟩),(3,1,⟨27,9,[fi ⟨nm,len,st,⟨ln,lm,lx,lz,lf⟩,it⟩],2⟩)]) (fun i=>st.length-i) 0 (Nat.zero_le _) ⟨O,O,O,O,O,trivial⟩ ?_;intro i s hi;refine D ?_ ?_<;>intro h
 .have hlt:i<st.length:=by have:=aB h;simp only[hms]at this;omega
  clear h;obtain⟨t,hx⟩:=aH hlt;obtain⟨hl1,hl2⟩:=hL t (a_ hx);have e1:=rS t.L J;have e2:=rS t.H0 J;have hw:=c9 i;obtain⟨tx,tw,tL,tH⟩:=t;simp only at *
  refine H ?_;refine fN [(10,6),(11,7),(12,6),(13,7)] aS aS ?_;refine aN hx ?_;refine aN hx ?_;refine H ?_;refine Eu O O O O O ?_;refine Eu O O O O O ?_;refine Ds 2 O O O O O O (fun _=>rfl) aI O O O O ?_;refine Ds 2 O O O O O O (fun _=>rfl) aI O O O O ?_;refine H ?_;rw[ct];refine H ?_;rw[ct];refine ap e1 ?_;refine ap e2 ?_;refine H ?_;exact⟨i+1,hlt,J,O,O,congrArg I hw,O,O,trivial⟩
 clear h;refine H ?_;refine ao (fun i:Nat=>i<=it.length) (fun i=>[(2,.ptr 2 1 0 0),(3,.ptr 3 1 0 0),(8,I (i:Nat))]) (fun _=>[(2,1,⟨27,9,[fi ⟨nm,len,st,⟨ln,lm,lx,lz,lf⟩,it⟩],2⟩),(3,1,⟨27,9,[fi ⟨nm,len,st,⟨ln,lm,lx,lz,lf⟩,it⟩],2⟩)]) (fun i=>it.length-i) 0 (Nat.zero_le _) ⟨O,O,O,O,O,trivial⟩ ?_;intro k s2 hk;refine D ?_ ?_<;>intro h
 .have hlt:k<it.length:=by have:=aB h;simp only[hmi]at this;omega
  clear h;obtain⟨t,hx⟩:=aH hlt;have hw:=c9 k;refine bT 11 [98,99,100,101,102,103,104,105,106,107,108] ?_;refine aN hx ?_;refine aN hx ?_;refine H ?_;refine bJ O O (ui Gq O O (zD t)) ?_;refine H ?_;exact⟨k+1,hlt,J,O,O,congrArg I hw,O,O,trivial⟩
 clear h;exact ef
set_option maxRecDepth 20000 in
theorem uB (b:BKR)(hb:b.st.sz 12):Ret Tryz.prog .shared 120 [.agg (eBk b),.agg (eBk b)] (.bool true):=by
 have c:=xK b.st b.st (hx:=hb.v) (hy:=hb.v) Y Y;rw[Rat.sub_self,show sgn 0=0 by decide +kernel]at c;obtain⟨x,z,hf,ht,wd,stf,lim,side⟩:=b;simp only at *
 refine Ret.of_pwp layOk mixed Go.Proofs.Tryz.func120 O Y O O ?_;refine H ?_;rw[ct];refine H ?_;rw[ct];refine H ?_;rw[ct];refine H ?_;rw[ct];refine H ?_;rw[ct];refine H ?_;rw[ct];refine H ?_;rw[beq_self_eq_true];refine ap c ?_;exact ef
set_option maxRecDepth 20000 in
theorem fx (d:DKR)(hd:SmlD d):Ret Tryz.prog .shared 52 [.agg (cn d),.agg (cn d)] (.bool true):=by
 have c:=uD d.s hd.s;obtain⟨-,h1,h2,hB⟩:=hd;have hmb:(d.bl.map eBk).length=d.bl.length:=ai;have hmz:(d.zn.map dC).length=d.zn.length:=ai;obtain⟨s,den,bl,zn,gm,oh⟩:=d;simp only at *
 refine Ret.of_pwp layOk mixed Go.Proofs.Tryz.func52 O Y O O ?_;refine ap c ?_;refine H ?_;rw[ct];refine H ?_;rw[ct];refine H ?_;rw[ct];refine H ?_;rw[ct];refine H ?_;rw[ct];refine H ?_;refine ao (fun i:Nat=>i<=bl.length) (fun i=>[(2,.ptr 2 1 0 0),(3,.ptr 3 1 0 0),(5,I (i:Nat))]) (fun _=>[(2,1,⟨31,14,[cn ⟨s,den,bl,zn,gm,oh⟩],2⟩),(3,1,⟨31,14,[cn ⟨s,den,bl,zn,gm,oh⟩],2⟩)]) (fun i=>bl.length-i) 0 (Nat.zero_le _) ⟨O,O,O,O,O,trivial⟩ ?_;intro i s1 hi;refine D ?_ ?_<;>intro h
 .have hlt:i<bl.length:=by have:=aB h;simp only[hmb]at this;omega
  clear h;obtain⟨b,hx⟩:=aH hlt;have e:=uB b (hB b (a_ hx));have hw:=c9 i;refine bT 12 [59,60,61,62,63,64,65,66,67,68,69,70] ?_;refine aN hx ?_;refine aN hx ?_;refine ap e ?_;refine H ?_;exact⟨i+1,hlt,J,O,O,congrArg I hw,O,O,trivial⟩
 clear h;refine H ?_;refine ao (fun i:Nat=>i<=zn.length) (fun i=>[(2,.ptr 2 1 0 0),(3,.ptr 3 1 0 0),(6,I (i:Nat))]) (fun _=>[(2,1,⟨31,14,[cn ⟨s,den,bl,zn,gm,oh⟩],2⟩),(3,1,⟨31,14,[cn ⟨s,den,bl,zn,gm,oh⟩],2⟩)]) (fun i=>zn.length-i) 0 (Nat.zero_le _) ⟨O,O,O,O,O,trivial⟩ ?_;intro k s2 hk;refine D ?_ ?_<;>intro h
 .have hlt:k<zn.length:=by have:=aB h;simp only[hmz]at this;omega
  clear h;obtain⟨t,hx⟩:=aH hlt;have hw:=c9 k;refine bT 11 [78,79,80,81,82,83,84,85,86,87,88] ?_;refine aN hx ?_;refine aN hx ?_;refine H ?_;refine bJ O O (ui GL O O (DN t)) ?_;refine H ?_;exact⟨k+1,hlt,J,O,O,congrArg I hw,O,O,trivial⟩
 clear h;exact ef
theorem qO {d:DKR}(h:SmD d):SmlS d.s:=⟨Nat.le_trans h.st Y,Nat.le_trans h.it Y,fun t ht=>⟨Nat.le_trans (h.L t ht).1 Y,Nat.le_trans (h.L t ht).2 Y⟩⟩
end Go.Pv
