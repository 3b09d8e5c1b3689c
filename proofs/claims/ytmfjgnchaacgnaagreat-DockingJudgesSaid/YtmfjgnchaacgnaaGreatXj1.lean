/- Texts of one hand, gathered: PreExtra, PvZExtra, DlQ, DlS, DlT, DlU, DlV, DlW, DnA, DlK, DlO, DnB, DnC, DlP, DlR, DnD, DnE. -/
import Derived.Test.YtmfjgnchaacgnaaGreatBa6
set_option maxRecDepth 20000
set_option linter.unusedSectionVars false
set_option linter.unusedSimpArgs false
set_option linter.unusedVariables false
set_option linter.unnecessarySimpa false
namespace Go.Pv
theorem aa0 {p:Prop}(h:p:=by(intro row hr;first|(simp at hr;subst hr;rfl)|simp at hr)):p:=h
theorem aa1:True:=trivial
theorem aa3 {c p:Prop}[Decidable c](h:decide c=true)(k:c->p:=by intro _;omega):p:=k (of_decide_eq_true h)
theorem aa4 {c p:Prop}[Decidable c](h:decide c=false)(k:¬c->p:=by intro _;omega):p:=k (of_decide_eq_false h)
end Go.Pv
namespace Go.Pv
open Go.RowKit
theorem aa2 (z:Int)(h1 : -9223372036854775808<=z:=by omega)(h2:z<=9223372036854775807:=by omega):IntKind.i64.wrap z=z:=wrap_i64 h1 h2
end Go.Pv
set_option maxHeartbeats 2000000
namespace Go.Pv
attribute [local irreducible] PWP POps PQuiet PSem aF aw ai ak
open Go.Proofs
def I4 (a b:Int):Int:=if a<b then b else a
def QY (a b:Int):Int:=if b<a then b else a
def Er (fr to:Int)(s:Int × Int × Bool)(b:BKR):Int × Int × Bool :=
 if b.side=true then s else if s.2.2=true then(QY s.1 (b.x-b.hf-fr),QY s.2.1 (to-b.x-b.hf),true) else(QY (b.x-b.hf-fr) (b.x-b.hf-fr),QY (to-b.x-b.hf) (to-b.x-b.hf),true)
def xP (s:Int × Int × Bool)(b:BKR):Int × Int × Bool :=
 if b.side=true then s else(if s.2.2=true/\¬b.x-b.hf<s.1 then s.1 else b.x-b.hf,if s.2.2=true/\¬s.2.1<b.x+b.hf then s.2.1 else b.x+b.hf,true)
def pt (l:List BKR):Int × Int × Bool:=l.foldl xP (0,0,false)
def uU (fr to:Int)(l:List BKR):Int × Int × Bool:=l.foldl (Er fr to) (0,0,false)
theorem KM (l:List BKR)(b:BKR):pt (l++[b])=xP (pt l) b:=by rw[pt,j8];rfl
theorem KL (fr to:Int)(l:List BKR)(b:BKR):uU fr to (l++[b])=Er fr to (uU fr to l) b:=by rw[uU,j8];rfl
theorem OT (fr to:Int)(l:List BKR):(uU fr to l).2.2=(pt l).2.2/\((pt l).2.2=true->(uU fr to l).1=(pt l).1-fr/\(uU fr to l).2.1=to-(pt l).2.1)/\((pt l).2.2=false->(uU fr to l).1=0/\(uU fr to l).2.1=0):=by
 have key:∀(l:List BKR) (s t:Int × Int × Bool),s.2.2=t.2.2->(t.2.2=true->s.1=t.1-fr/\s.2.1=to-t.2.1)->(t.2.2=false->s.1=0/\s.2.1=0)->(l.foldl (Er fr to) s).2.2=(l.foldl xP t).2.2/\((l.foldl xP t).2.2=true->(l.foldl (Er fr to) s).1=(l.foldl xP t).1-fr/\(l.foldl (Er fr to) s).2.1=to-(l.foldl xP t).2.1)/\((l.foldl xP t).2.2=false->(l.foldl (Er fr to) s).1=0/\(l.foldl (Er fr to) s).2.1=0):=by
  intro l
  induction l with
  |nil=>intro s t h1 h2 h3;exact⟨h1,h2,h3⟩
  |cons b l ih =>
   intro s t h1 h2 h3;rw[gX,gX];obtain⟨a,f,o⟩:=s;obtain⟨le,mo,so⟩:=t;simp only at h1 h2 h3;subst h1;cases hb:b.side with
   |true=>rw[Er,if_pos hb,xP,if_pos hb];exact ih _ _ rfl h2 h3
   |false =>
    cases o with
    |true =>
     obtain⟨e1,e2⟩:=h2 O;refine ih _ _ ?_ ?_ ?_
     .simp[Er,xP,hb]
     .intro _;simp only[Er,xP,hb,QY,cF,if_false,if_true,true_and];constructor
      .split<;>split<;>omega
      .split<;>split<;>omega
     .intro h;simp[xP,hb]at h
    |false =>
     refine ih _ _ ?_ ?_ ?_
     .simp[Er,xP,hb]
     .intro _;simp only[Er,xP,hb,QY,cF,if_false,if_true,false_and];constructor
      .split<;>omega
      .split<;>omega
     .intro h;simp[xP,hb]at h
 exact key l _ _ O (fun h=>by cases h) fun _=>⟨O,O⟩
theorem Gv:∀(l:List BKR),(∀b∈l,-1000000<=b.x/\b.x<=1000000/\1<=b.hf/\b.hf<=10000) -> -1010000<=(pt l).1/\(pt l).1<=1010000 /\ -1010000<=(pt l).2.1/\(pt l).2.1<=1010000:=by
 have key:∀(l:List BKR) (s:Int × Int × Bool),(-1010000<=s.1/\s.1<=1010000 /\ -1010000<=s.2.1/\s.2.1<=1010000)->(∀b∈l,-1000000<=b.x/\b.x<=1000000/\1<=b.hf/\b.hf<=10000) -> -1010000<=(l.foldl xP s).1/\(l.foldl xP s).1<=1010000 /\ -1010000<=(l.foldl xP s).2.1/\(l.foldl xP s).2.1<=1010000:=by
  intro l
  induction l with
  |nil=>intro s h _;exact h
  |cons b l ih =>
   intro s h hl;obtain⟨b1,b2,b3,b4⟩:=hl b gU;rw[gX];refine ih _ ?_ fun c hc=>hl c (iB _ hc);rw[xP];split
   .exact h
   .simp only;refine⟨?_,?_,?_,?_⟩<;>split<;>omega
 intro l hl;exact key l _ ⟨Y,Y,Y,Y⟩ hl
def jP (d:DKR):Int:=(d.s.st.getD 0 ⟨0,0,[],[]⟩).x-((d.s.st.getD 0 ⟨0,0,[],[]⟩).w+1)/2
def fD (d:DKR):Int:=(d.s.st.getD (d.s.st.length-1) ⟨0,0,[],[]⟩).x+((d.s.st.getD (d.s.st.length-1) ⟨0,0,[],[]⟩).w+1)/2
def kU (d:DKR):Int × Int × Bool:=(I4 0 ((pt d.bl).1-jP d),I4 0 (fD d-(pt d.bl).2.1),(pt d.bl).2.2)
def OS (d:DKR):Int × Int × Bool:=(I4 (uU (jP d) (fD d) d.bl).1 0,I4 (uU (jP d) (fD d) d.bl).2.1 0,(uU (jP d) (fD d) d.bl).2.2)
theorem KN (d:DKR):OS d=if (kU d).2.2=true then kU d else(0,0,false):=by
 obtain⟨h1,h2,h3⟩:=OT (jP d) (fD d) d.bl;rw[show(kU d).2.2=(pt d.bl).2.2 from O];cases h:(pt d.bl).2.2 with
 |true =>
  obtain⟨e1,e2⟩:=h2 h;rw[if_pos O,OS,kU,h1,h,e1,e2,I4,I4,I4,I4];refine Prod.ext ?_ (Prod.ext ?_ O)
  .simp only;split<;>split<;>omega
  .simp only;split<;>split<;>omega
 |false =>
  obtain⟨e1,e2⟩:=h3 h;rw[if_neg Y,OS,h1,h,e1,e2];rfl
def lW (d:DKR):List (Int × Int):=(if (kU d).2.2=false\/d.oh<(kU d).1 then [(3,0)] else [])++(if (kU d).2.2=false\/d.oh<(kU d).2.1 then [(3,1)] else [])
def cT (x:Int × Int):List PV:=[I x.1,I x.2]
def fa:List BKR->List Rat->Nat->List (Int × Int)
 |b::l,q::v,i=>(if (((if b.side=true then 2*b.lim else b.lim:Int):Rat)<q) then [(1,(i:Int))] else [])++fa l v (i+1)
 |_,_,_=>[]
theorem qd:∀ {bl:List BKR} {v:List Rat} {k i:Nat} {b:BKR} {q:Rat},bl[k]? = some b->v[k]? = some q->fa (bl.take (k+1)) (v.take (k+1)) i=fa (bl.take k) (v.take k) i++(if (((if b.side=true then 2*b.lim else b.lim:Int):Rat)<q) then [(1,((i+k:Nat):Int))] else [])
 |[],_,k,i,b,q,h,_=>by simp at h
 |c::bl,[],k,i,b,q,_,h=>by simp at h
 |c::bl,p::v,0,i,b,q,h1,h2=>by
  simp at h1 h2;subst h1 h2;simp[fa]
 |c::bl,p::v,k+1,i,b,q,h1,h2=>by
  have ih:=qd (bl:=bl) (v:=v) (k:=k) (i:=i+1) (b:=b) (q:=q) (by simpa using h1) (by simpa using h2);rw[jW,jW,jW,jW,fa,fa,ih,show i+1+k=i+(k+1) by omega,bi]
theorem AS {α:Type}{p:Prop}[Decidable p](x:α):(if p then [x] else []).length<=1:=by split<;>simp
theorem oO:∀(bl:List BKR) (v:List Rat) (i:Nat),(fa bl v i).length<=v.length
 |[],v,i=>by simp[fa]
 |_::_,[],i=>by simp[fa]
 |b::bl,q::v,i=>by
  have:=oO bl v (i+1);have h1:=AS (p:=((if b.side=true then 2*b.lim else b.lim:Int):Rat)<q) ((1:Int),(i:Int));rw[fa,bI,eO];omega
theorem pn (n:Int):aO 190 [I n] (I (n/2)):=by
 refine ax Proofs.Tryz.func190 ?_;exact co
structure OvOk (d:DKR):Prop where
 st:∀t∈d.s.st,StOk t
 n:d.s.st.length<=1000
 p:1<=d.s.st.length
 b:∀b∈d.bl,-1000000<=b.x/\b.x<=1000000/\1<=b.hf/\b.hf<=10000
 m:d.bl.length<=1000
theorem oz {l:List ST}{i:Nat}{t:ST}(h:l[i]? = some t):l.getD i ⟨0,0,[],[]⟩=t:=by rw[cY,h];rfl
theorem Es {d:DKR}(h:OvOk d) : -1050001<=jP d/\jP d<=1050001 /\ -1050001<=fD d/\fD d<=1050001:=by
 obtain⟨f,hf⟩:=aC (show 0<d.s.st.length from h.p);obtain⟨t,ht⟩:=aC (show d.s.st.length-1<d.s.st.length by have:=h.p;omega);have o1:=h.st f (bm hf);have o2:=h.st t (bm ht);obtain⟨⟨a1,a2⟩,⟨a3,a4⟩,-⟩:=o1;obtain⟨⟨b1,b2⟩,⟨b3,b4⟩,-⟩:=o2;rw[jP,fD,oz hf,oz ht];omega
theorem Nu {d:DKR}(h:OvOk d)(k:Nat) : -3000000<=(uU (jP d) (fD d) (d.bl.take k)).1/\(uU (jP d) (fD d) (d.bl.take k)).1<=3000000 /\ -3000000<=(uU (jP d) (fD d) (d.bl.take k)).2.1/\(uU (jP d) (fD d) (d.bl.take k)).2.1<=3000000:=by
 have l1:=Gv (d.bl.take k) fun b hb=>h.b b (d9 hb);have l2:=Es h;obtain⟨h1,h2,h3⟩:=OT (jP d) (fD d) (d.bl.take k);cases e:(pt (d.bl.take k)).2.2 with
 |true=>obtain⟨e1,e2⟩:=h2 e;omega
 |false=>obtain⟨e1,e2⟩:=h3 e;omega
theorem rG (d:DKR)(h:OvOk d):aO 122 [.agg (cn d)] (.tup [I (OS d).1,I (OS d).2.1,.bool (OS d).2.2]):=by
 have hml:(d.s.st.map eT).length=d.s.st.length:=ao;have hbl:(d.bl.map eBk).length=d.bl.length:=ao;obtain⟨f,hf⟩:=aC (show 0<d.s.st.length from h.p);obtain⟨t,ht⟩:=aC (show d.s.st.length-1<d.s.st.length by have:=h.p;omega);have o1:=h.st f (bm hf);have o2:=h.st t (bm ht);obtain⟨⟨a1,a2⟩,⟨a3,a4⟩,-⟩:=o1;obtain⟨⟨b1,b2⟩,⟨b3,b4⟩,-⟩:=o2;have hlim:=Es h;have hFl:=Nu h;have hp:=h.p;have hn:=h.n;have hm:=h.m;have hb:=h.b;have eA1:(2*f.x-f.w)/2=jP d:=by rw[jP,oz hf];omega
 have eA2 : -(-(2*t.x+t.w)/2)=fD d:=by rw[fD,oz ht];omega
 have hO:OS d=(I4 (uU (jP d) (fD d) d.bl).1 0,I4 (uU (jP d) (fD d) d.bl).2.1 0,(uU (jP d) (fD d) d.bl).2.2):=O;have hsub:IntKind.i64.wrap ((d.s.st.length:Int)-1)=((d.s.st.length-1:Nat):Int):=by rw[wrap_i64 J J];omega
 have q1:=aa2 (2*f.x);have q2:=aa2 (2*f.x-f.w);have q3:=aa2 (2*t.x);have q4:=aa2 (2*t.x+t.w);have q5:IntKind.i64.wrap (0-(2*t.x+t.w)) = -(2*t.x+t.w):=by rw[wrap_i64 J J];omega
 have q6:IntKind.i64.wrap (0 - -(2*t.x+t.w)/2) = -(-(2*t.x+t.w)/2):=by rw[wrap_i64 J J];omega
 have r1:=pn (2*f.x-f.w);have r2:=pn (-(2*t.x+t.w));rw[eA1]at r1;generalize OS d=O0,jP d=A,fD d=Fo at *
 clear h;obtain⟨s,den,bl,zn,gm,oh⟩:=d;simp only at *
 refine ax Proofs.Tryz.func122 ?_;refine cN 1 ?_;refine be [(15,5),(16,6),(17,5),(18,6)] aK aK ?_;refine H ?_;refine cf O O (i9 (n:=((0):Int)) O O O O O J hf O) ?_;refine H ?_;rw[hml,hsub];refine tK O O O O O O O ht O ?_;refine H ?_;refine bj [] [] aK ?_;refine H ?_;rw[q1];refine H ?_;rw[q2];refine OW O O O r1 O O O ?_;refine H ?_;rw[q3];refine H ?_;rw[q4];refine H ?_;rw[q5];refine OW O O O r2 O O O ?_;refine H ?_;rw[q6,eA2];refine H ?_;rw[hbl];refine aT [(1,.ptr 1 1 0 0),(2,I 0),(3,I 0),(4,.bool false),(7,I A),(8,I Fo),(45,.sl (bl.map eBk)),(46,I bl.length),(47,I ((0:Nat):Int))] [(1,1,⟨31,14,[cn ⟨s,den,bl,zn,gm,oh⟩],2⟩)] aH ?_;intro s0;refine ah (fun i:Nat=>i<=bl.length) (fun i=>[(1,.ptr 1 1 0 0),(2,I (uU A Fo (bl.take i)).1),(3,I (uU A Fo (bl.take i)).2.1),(4,.bool (uU A Fo (bl.take i)).2.2),(7,I A),(8,I Fo),(45,.sl (bl.map eBk)),(46,I bl.length),(47,I (i:Nat))])
  (fun _=>[(1,1,⟨31,14,[cn ⟨s,den,bl,zn,gm,oh⟩],2⟩)]) (fun i=>bl.length-i) 0 (aP _) aH ?_
 intro i s1 hi;refine D ?_ ?_<;>intro h
 .have hlt:i<bl.length:=aa3 h;clear h;obtain⟨b,hx⟩:=aC hlt;obtain⟨c1,c2,c3,c4⟩:=hb b (bm hx);have hsn:uU A Fo (bl.take (i+1))=Er A Fo (uU A Fo (bl.take i)) b:=by
   obtain⟨hl,rfl⟩:=bV hx;rw[ui hl,KL]
  have hFi:=hFl i;have hw:=fg i;have w1:=aa2 (b.x-b.hf);have w2:=aa2 (b.x-b.hf-A);have w3:=aa2 (Fo-b.x);have w4:=aa2 (Fo-b.x-b.hf);clear hFl hFi c1 c2 c3 c4 hb q1 q2 q3 q4 q5 q6;generalize uU A Fo (bl.take i)=Q at *
  obtain⟨qa,qf,qo⟩:=Q;obtain⟨x,z,hfw,ht,wd,st,lim,side⟩:=b;simp only at *
  refine aQ hx ?_;refine H ?_;cases side with
  |true =>
   rw[Er,if_pos O]at hsn;refine H ?_;refine⟨i+1,hlt,J,O,?_,?_,?_,O,O,O,O,congrArg I hw,O,aa1⟩<;>(rw[hsn];rfl)
  |false =>
   simp only[Er,cF,if_false]at hsn;refine H ?_;refine bj [] [] aK ?_;refine H ?_;rw[w1,w2,w3,w4];cases qo with
   |true =>
    simp only[if_true]at hsn;refine H ?_;refine⟨i+1,hlt,J,O,?_,?_,?_,O,O,O,O,congrArg I hw,O,aa1⟩<;>(rw[hsn];rfl)
   |false =>
    simp only[cF,if_false]at hsn;refine H ?_;refine⟨i+1,hlt,J,O,?_,?_,?_,O,O,O,O,congrArg I hw,O,aa1⟩<;>(rw[hsn];rfl)
 .have hie:i=bl.length:=aa4 h;clear h;subst hie;rw[bb];subst hO;exact bW
theorem GB (d:DKR)(h:OvOk d):aO 57 [.agg (cn d)] (.tup [I (kU d).1,I (kU d).2.1,.bool (kU d).2.2]):=by
 have hml:(d.s.st.map eT).length=d.s.st.length:=ao;have hbl:(d.bl.map eBk).length=d.bl.length:=ao;obtain⟨f,hf⟩:=aC (show 0<d.s.st.length from h.p);obtain⟨t,ht⟩:=aC (show d.s.st.length-1<d.s.st.length by have:=h.p;omega);have o1:=h.st f (bm hf);have o2:=h.st t (bm ht);obtain⟨⟨a1,a2⟩,⟨a3,a4⟩,-⟩:=o1;obtain⟨⟨b1,b2⟩,⟨b3,b4⟩,-⟩:=o2;have hlim:=Es h;have hLl:=fun k=>Gv (d.bl.take k) fun b hb=>h.b b (d9 hb);have hLa:=hLl d.bl.length;rw[bb]at hLa;have hp:=h.p;have hn:=h.n;have hm:=h.m;have hb:=h.b;have eA1:f.x-(f.w+1)/2=jP d:=by rw[jP,oz hf]
 have eA2:t.x+(t.w+1)/2=fD d:=by rw[fD,oz ht]
 have hO:kU d=(I4 0 ((pt d.bl).1-jP d),I4 0 (fD d-(pt d.bl).2.1),(pt d.bl).2.2):=O;have hsub:IntKind.i64.wrap ((d.s.st.length:Int)-1)=((d.s.st.length-1:Nat):Int):=by rw[wrap_i64 J J];omega
 have d1:(f.w+1).tdiv 2=(f.w+1)/2:=uj J;have d2:(t.w+1).tdiv 2=(t.w+1)/2:=uj J;have q1:=aa2 (f.w+1);have q2:IntKind.i64.wrap ((f.w+1).tdiv 2)=(f.w+1)/2:=by rw[d1];exact wrap_i64 J J
 have q3:IntKind.i64.wrap (f.x-(f.w+1)/2)=jP d:=by rw[eA1];exact wrap_i64 J J
 have q4:=aa2 (t.w+1);have q5:IntKind.i64.wrap ((t.w+1).tdiv 2)=(t.w+1)/2:=by rw[d2];exact wrap_i64 J J
 have q6:IntKind.i64.wrap (t.x+(t.w+1)/2)=fD d:=by rw[eA2];exact wrap_i64 J J
 have q7:=aa2 ((pt d.bl).1-jP d);have q8:=aa2 (fD d-(pt d.bl).2.1);generalize kU d=O0,jP d=A,fD d=Fo at *
 clear h hlim hLa d1 d2 eA1 eA2;obtain⟨s,den,bl,zn,gm,oh⟩:=d;simp only at *
 refine ax Proofs.Tryz.func57 ?_;refine H ?_;refine aT [(1,.ptr 1 1 0 0),(5,.bool false),(6,I 0),(7,I 0),(8,I ((0:Nat):Int))] [(1,1,⟨31,14,[cn ⟨s,den,bl,zn,gm,oh⟩],2⟩)] aH ?_;intro s0;refine ah (fun i:Nat=>i<=bl.length) (fun i=>[(1,.ptr 1 1 0 0),(5,.bool (pt (bl.take i)).2.2),(6,I (pt (bl.take i)).1),(7,I (pt (bl.take i)).2.1),(8,I (i:Nat))])
  (fun _=>[(1,1,⟨31,14,[cn ⟨s,den,bl,zn,gm,oh⟩],2⟩)]) (fun i=>bl.length-i) 0 (aP _) aH ?_
 intro i s1 hi;refine H ?_;rw[hbl];refine aS O ?_ ?_<;>intro h
 .have hlt:i<bl.length:=aa3 h;clear h;obtain⟨b,hx⟩:=aC hlt;obtain⟨c1,c2,c3,c4⟩:=hb b (bm hx);have hsn:pt (bl.take (i+1))=xP (pt (bl.take i)) b:=by
   obtain⟨hl,rfl⟩:=bV hx;rw[ui hl,KM]
  have hw:=fg i;have w1:=aa2 (b.x-b.hf);have w2:=aa2 (b.x+b.hf);clear hLl c1 c2 c3 c4 hb q1 q2 q3 q4 q5 q6 q7 q8;generalize pt (bl.take i)=Q at *
  obtain⟨ql,qm,qs⟩:=Q;obtain⟨x,z,hfw,ht,wd,st,lim,side⟩:=b;simp only at *
  refine aQ hx ?_;refine H ?_;cases side with
  |true =>
   rw[xP,if_pos O]at hsn;refine H ?_;refine⟨i+1,hlt,J,O,?_,?_,?_,congrArg I hw,O,aa1⟩<;>(rw[hsn];rfl)
  |false =>
   simp only[xP,cF,if_false]at hsn;cases qs with
   |true =>
    simp only[eq_self,true_and]at hsn;refine H ?_;rw[w1];refine aS O ?_ ?_<;>intro h
    .have h1:=aB h;clear h;rw[if_neg (fun e=>e h1)]at hsn;refine H ?_;rw[w1,w2];refine aS O ?_ ?_<;>intro h
     .have h2:=aB h;clear h;rw[if_neg (fun e=>e h2)]at hsn;refine H ?_;rw[w2];refine⟨i+1,hlt,J,O,?_,?_,?_,congrArg I hw,O,aa1⟩<;>(rw[hsn];rfl)
     .have h2:=aE h;clear h;rw[if_pos h2]at hsn;refine H ?_;refine⟨i+1,hlt,J,O,?_,?_,?_,congrArg I hw,O,aa1⟩<;>(rw[hsn];rfl)
    .have h1:=aE h;clear h;rw[if_pos h1]at hsn;refine H ?_;rw[w2];refine aS O ?_ ?_<;>intro h
     .have h2:=aB h;clear h;rw[if_neg (fun e=>e h2)]at hsn;refine H ?_;rw[w2];refine⟨i+1,hlt,J,O,?_,?_,?_,congrArg I hw,O,aa1⟩<;>(rw[hsn];rfl)
     .have h2:=aE h;clear h;rw[if_pos h2]at hsn;refine H ?_;refine⟨i+1,hlt,J,O,?_,?_,?_,congrArg I hw,O,aa1⟩<;>(rw[hsn];rfl)
   |false =>
    simp only[cF,false_and,if_false]at hsn;refine H ?_;rw[w1,w2];refine⟨i+1,hlt,J,O,?_,?_,?_,congrArg I hw,O,aa1⟩<;>(rw[hsn];rfl)
 .have hie:i=bl.length:=aa4 h;clear h hb hLl;subst hie;rw[bb];generalize pt bl=Q at *
  obtain⟨ql,qm,qs⟩:=Q;simp only at *
  refine cN 13 ?_;refine be [(15,10),(16,11),(17,10),(18,11)] aK aK ?_;refine H ?_;refine cf O O (i9 (n:=((0):Int)) O O O O O J hf O) ?_;refine H ?_;rw[hml,hsub];refine tK O O O O O O O ht O ?_;refine H ?_;refine bj [] [] aK ?_;refine H ?_;rw[q1];refine cf O O (QOp.v O (show(2:Int)≠0 by decide)) ?_;refine H ?_;rw[q2,q3,q4];refine cf O O (QOp.v O (show(2:Int)≠0 by decide)) ?_;refine H ?_;rw[q5,q6,q7,q8];subst hO;exact JH O O O
theorem B7 (d:DKR)(h:OvOk d):RetO Tryz.prog 124 [.agg (cn d)] 195 2 ((lW d).map cT):=by
 have o:=GB d h;have hq:lW d=(if (kU d).2.2=false\/d.oh<(kU d).1 then [(3,0)] else [])++(if (kU d).2.2=false\/d.oh<(kU d).2.1 then [(3,1)] else []):=O;generalize lW d=H0,kU d=O0 at *
 clear h;obtain⟨a,b,c⟩:=O0;obtain⟨s,den,bl,zn,gm,oh⟩:=d;simp only at *
 refine RetO.of_pwp layOk mixed Go.Proofs.Tryz.func124 O Y O O ?_;refine G o ?_;refine cN 3 ?_;refine am (Ghost.nilreg (k:=1003) (t:=6) 195 2 1 O O) ?_;refine H ?_;cases c with
 |false =>
  rw[if_pos (.inl O),if_pos (.inl O)]at hq;subst hq;refine H ?_;refine ay (aY 1 O O O O O O O O O O O aH O ?_);refine H ?_;refine ay (bJ 1 O O O O O O O O O O O aH aa0 O O ao ao ?_);refine H ?_;refine ay (aY 1 O O O O O O O O O O O aH O ?_);refine H ?_;refine ay (bJ 1 O O O O O O O O O O O aH aa0 O O ao ao ?_);refine H ?_;exact Ho O O O O O O
 |true =>
  have no:¬(true=false):=fun e=>by cases e
  by_cases h1:oh<a
  .rw[if_pos (.inr h1)]at hq;refine H ?_;rw[decide_eq_true h1];refine H ?_;refine ay (aY 1 O O O O O O O O O O O aH O ?_);refine H ?_;refine ay (bJ 1 O O O O O O O O O O O aH aa0 O O ao ao ?_);by_cases h2:oh<b
   .rw[if_pos (.inr h2)]at hq;subst hq;refine H ?_;rw[decide_eq_true h2];refine H ?_;refine ay (aY 1 O O O O O O O O O O O aH O ?_);refine H ?_;refine ay (bJ 1 O O O O O O O O O O O aH aa0 O O ao ao ?_);refine H ?_;exact Ho O O O O O O
   .rw[if_neg (fun e=>e.elim no h2)]at hq;subst hq;refine H ?_;rw[decide_eq_false h2];refine H ?_;exact Ho O O O O O O
  .rw[if_neg (fun e=>e.elim no h1)]at hq;refine H ?_;rw[decide_eq_false h1];by_cases h2:oh<b
   .rw[if_pos (.inr h2)]at hq;subst hq;refine H ?_;rw[decide_eq_true h2];refine H ?_;refine ay (aY 1 O O O O O O O O O O O aH O ?_);refine H ?_;refine ay (bJ 1 O O O O O O O O O O O aH aa0 O O ao ao ?_);refine H ?_;exact Ho O O O O O O
   .rw[if_neg (fun e=>e.elim no h2)]at hq;subst hq;refine H ?_;rw[decide_eq_false h2];refine H ?_;exact Ho O O O O O O
def wo {α:Type}(p:α->Bool):List α->Nat->Int
 |[],_ => -1
 |d::l,i=>if p d=true then(i:Int) else wo p l (i+1)
theorem Ca {α:Type}(p:α->Bool):∀(l:List α) (i:Nat),decide (0<=wo p l i)=l.any p
 |[],i=>rfl
 |d::l,i=>by
  rw[wo,uK];cases h:p d
  .rw[if_neg Y,Ca p l (i+1),jK]
  .rw[if_pos O,ip,decide_eq_true];omega
theorem HA {α:Type}(p:α->Bool){l:List α}{i:Nat}{x:α}(h:l[i]? = some x):wo p (l.drop i) i=if p x=true then(i:Int) else wo p (l.drop (i+1)) (i+1):=by
 obtain⟨hl,rfl⟩:=bV h;rw[iZ hl,wo]
theorem Eh (T:List ST)(hT:T.length<=1000)(f:FuncId)(c1:List PV)(p:ST->Bool)(hg:∀d∈T,aO f [.agg (eT d),.dref c1 0] (.bool (p d))):aO 271 [.sl (T.map eT),.clo f [.dref c1 0]] (I (wo p T 0)):=by
 have hml:(T.map eT).length=T.length:=ao;generalize hF:wo p T 0=F;refine ax Proofs.Tryz.func271 ?_;refine H ?_;refine ah (fun i:Nat=>i<=T.length/\wo p (T.drop i) i=F) (fun i=>[(0,.sl (T.map eT)),(1,.clo f [.dref c1 0]),(7,I T.length),(8,I (i:Nat))])
  (fun _=>[]) (fun i=>T.length-i) 0 ⟨aP _,by rw[ep];exact hF⟩ ⟨O,O,by rw[<-hml];rfl,O,aa1⟩ ?_
 intro i s ⟨hi,hall⟩;refine D ?_ ?_<;>intro h
 .have hlt:i<T.length:=aa3 h;clear h;obtain⟨x,hx⟩:=aC hlt;have hgx:=hg x (bm hx);have hw:=fg i;rw[HA p hx]at hall;cases hp:p x with
  |true =>
   rw[hp]at hgx;rw[if_pos hp]at hall;refine aQ hx ?_;refine aj hgx ?_;refine H ?_;exact pm O O (by rw[<-hall])
  |false =>
   rw[hp]at hgx;rw[if_neg (by rw[hp];decide)]at hall;refine aQ hx ?_;refine aj hgx ?_;refine H ?_;exact⟨i+1,⟨J,hall⟩,J,O,O,O,congrArg I hw,aa1⟩
 .have hie:i=T.length:=aa4 h;clear h;rw[hie,fH,wo]at hall;rw[<-hall];exact co
theorem xX (T:List ST)(hT:T.length<=1000)(f:FuncId)(c1:List PV)(p:ST->Bool)(hg:∀d∈T,aO f [.agg (eT d),.dref c1 0] (.bool (p d))):aO 238 [.sl (T.map eT),.clo f [.dref c1 0]] (.bool (T.any p)):=by
 have h1:=Eh T hT f c1 p hg;rw[<-Ca p T 0];generalize wo p T 0=F at *
 refine ax Proofs.Tryz.func238 ?_;refine aj h1 ?_;exact fC
def q_ (z t:Rat)(T:ST):Bool:=decide (((T.L.getD 0 0:Int):Rat)<z+t*(T.x:Rat))
theorem Na (T:ST)(ok:StOk T)(a:AR){z t:Rat}{n m:Nat}[ha:Va a z t n m](hn:n<=1000000)(hm:m<=1000000):aO 239 [.agg (eT T),.dref (eA a) 0] (.bool (q_ z t T)):=by
 obtain⟨⟨x1,x2⟩,-,⟨n1,n2⟩,-,hL,-,-⟩:=ok;obtain⟨l,hl⟩:=aC (show 0<T.L.length by omega);have hl2:=hL l (bm hl);have hg:T.L.getD 0 0=l:=by rw[cY,hl];rfl
 have zl:Zb l:=aJ J J;have zx:Zb T.x:=aJ J J;have w:=jd l ⟨J,J⟩;have im:=wt a T.x ⟨J,J⟩ (z:=z) (t:=t) hn hm;have v1:Vq (ofQ (z+t*(T.x:Rat))) (z+t*(T.x:Rat)) (n+1+(m+1+4)+1):=Vq.ofQ (h:=@HQ.add _ _ (n+1) (m+1+4) ha.z.hq (@HQ.mul _ _ (m+1) 4 ha.t.hq HQ.int));have c:=kw (ofQ (l:Rat)) (ofQ (z+t*(T.x:Rat))) (hx:=Vq.ofQ (h:=HQ.int)) (hy:=v1) Y J;have hs:decide (sgn ((l:Rat)-(z+t*(T.x:Rat)))<0)=q_ z t T:=by
  rw[q_,hg];refine decide_eq_decide.2 ⟨fun h=>?_,fun h=>?_⟩
  .have:=(cX _).1 h;grind
  .refine(cX _).2 ?_;grind
 rw[<-hs];generalize sgn ((l:Rat)-(z+t*(T.x:Rat)))=g,ofQ (z+t*(T.x:Rat))=X,ofQ (l:Rat)=W at *
 clear hs v1 ha hL;obtain⟨x,wd,L,H0⟩:=T;obtain⟨az,at'⟩:=a;simp only at *
 refine ax Proofs.Tryz.func239 ?_;refine H ?_;refine bj [] [] aK ?_;refine H ?_;refine cf O O (i9 (n:=((0):Int)) O O O O O J hl O) ?_;refine G w ?_;refine G im ?_;refine aj c ?_;exact fC
theorem Ec (d:DKR)(hst:∀t∈d.s.st,StOk t)(hT:d.s.st.length<=1000)(a:AR){z t:Rat}{n m:Nat}[ha:Va a z t n m](hn:n<=1000000)(hm:m<=1000000):aO 189 [.agg (cn d),.agg (eA a)] (.bool (d.s.st.any (q_ z t))):=by
 have hc:=xX d.s.st hT 239 (eA a) (q_ z t) fun T hT=>Na T (hst T hT) a (z:=z) (t:=t) hn hm;generalize d.s.st.any (q_ z t)=F at *
 clear hst ha;obtain⟨s,den,bl,zn,gm,oh⟩:=d;obtain⟨az,at'⟩:=a;simp only at *
 refine ax Proofs.Tryz.func189 ?_;refine cN 1 ?_;refine am (Ghost.data (k:=3) (t:=3) O O O O) ?_;refine aj hc ?_;exact fC
theorem Rv {s:SHP}{p me:Rat}{k:Nat}(ok:StbOk s p me k):∃N,N<=4000000/\hq (AJ s p me/mQ s) N:=by
 obtain⟨⟨t1,t2⟩,⟨t3,t4⟩,⟨t5,t6⟩,t7,t8⟩:=jc ok.ld;have hn:=ok.n;have hm:=ok.m;have hk:=ok.hk;have zM:Zb (sM (jh s)):=aJ J J;have zZ:Zb (sZ (jh s)):=aJ J J;have zF:Zb (1000*sF (jh s)):=aJ J J;have qM:HQ (mQ s) 4:=HQ.int;have qG:HQ (qZ s) 8:=@HQ.div _ _ 4 4 (HQ.int (z:=sZ (jh s))) (HQ.int (z:=sM (jh s)));have qF:HQ (FJ s) 4:=HQ.int;have qL:HQ (gK s p) (4+k+1):=@HQ.sub _ _ 4 k qM ⟨ok.hp⟩;have qme:HQ me 400000:=⟨ok.hme⟩;have v4:HQ (AJ s p me) _:=@HQ.sub _ _ _ _ (@HQ.sub _ _ _ _ (@HQ.mul _ _ _ _ qL qme) (@HQ.mul _ _ _ _ qM qG)) qF;exact⟨_,J,(@HQ.div _ _ _ _ v4 qM).ok⟩
theorem Rw {d:DKR}{p z t:Rat}(h:Slim d p)(hs:Stood d p z t):(tQ d p z t).gm.sz 4000000:=by
 rw[tQ];split
 .exact⟨aP _,aP _⟩
 .rename_i hb;obtain⟨N,h1,h2⟩:=Rv (E0 h hs hb).2;have:=fF h2;exact⟨bL this.1 h1,bL this.2 h1⟩
theorem NR {s:SHP}(h:gz s=0):1<=s.st.length:=by
 rw[gz]at h;split at h
 .split at h
  .rename_i q;have:=ej q.2;omega
  .exact absurd h Y
 .exact absurd h Y
theorem Rk {d:DKR}(h:gF d=0):(-100000<=d.gm/\d.gm<=100000)/\(0<=d.oh/\d.oh<=1000000):=by
 rw[gF]at h;split at h
 .split at h
  .split at h
   .split at h
    .rename_i q;rw[ca]at q;exact⟨ej q.1,ej q.2⟩
    .exact absurd h Y
   .rename_i q;exact absurd h q
  .rename_i q;exact absurd h q
 .rename_i q;exact absurd h q
theorem KO {d:DKR}(ok:d.Ok)(h:gF d=0):OvOk d:=by
 obtain⟨hk,-,hf⟩:=JC ok h;have hn:=hk.n;have hm:=hk.m;exact⟨hk.st,J,NR (kx hf),fun b hb=>⟨(hk.b b hb).1.x.1,(hk.b b hb).1.x.2,(hk.b b hb).1.hf.1,(hk.b b hb).1.hf.2⟩,J⟩
def Bu (sb:Int)(held:Bool)(sg:Int):Bool:=!decide (sb=0)&&(!held&&decide (sg<0))
def qU (d:DKR)(g:Bool)(m:Bool)(v:List Rat):List (Int × Int):=lW d++(if g=true then [(2,1)] else [])++(if m=true then [(0,0)] else [])++fa d.bl v 0
theorem iy (l:List (Int × Int)):(l.map cT).length=l.length:=aR _
theorem nG (d:DKR):(lW d).length<=2:=by
 rw[lW,bI];split<;>split<;>simp
theorem wP {d:DKR}(h:OvOk d):∃pa pb,((kU d).2.2=true->pa=(kU d).1/\pb=(kU d).2.1)/\aO 122 [.agg (cn d)] (.tup [I pa,I pb,.bool (kU d).2.2]):=by
 have o:=rG d h;rw[KN]at o;by_cases hc:(kU d).2.2=true
 .rw[if_pos hc]at o;exact⟨_,_,fun _=>⟨O,O⟩,o⟩
 .rw[if_neg hc]at o;rw[show(kU d).2.2=false by simpa using hc];exact⟨_,_,(fun e=>by cases e),o⟩
set_option maxHeartbeats 4000000 in
theorem M4 (d:DKR)(hO:OvOk d)(lv:RR)(x:DQ)(v:List Rat)(hv:v.length=d.bl.length)(hvq:∀q∈v,hq q 1000000)(hF:x.F=v.map ofQ)(g:Bool)(sb sg:Int)(W:RR)(hlm:∀b∈d.bl,0<=b.lim/\b.lim<=1000000000)
  (h74:aO 74 [.agg (cn d),.agg (eR lv)] (.tup [.agg (fk x),I 0])) (hg:aO 189 [.agg (cn d),.agg (eA x.a)] (.bool g)) (hb:aO 137 [.agg (eR x.bu)] (I sb))
  (hw:aO 106 [I d.gm] (.agg (eR W))) (hc:aO 93 [.agg (eR x.s.gm),.agg (eR W)] (I sg)) :
  aO 121 [.agg (cn d),.agg (eR lv)] (.tup [.sl ((qU d g (Bu sb x.held sg) v).map cT),I 0]):=by
 have hbl:(d.bl.map eBk).length=d.bl.length:=ao;have hm:=hO.m;obtain⟨pa,pb,hp,o⟩:=wP hO;have hH:lW d=(if (kU d).2.2=false\/d.oh<(kU d).1 then [(3,0)] else [])++(if (kU d).2.2=false\/d.oh<(kU d).2.1 then [(3,1)] else []):=O;have hH2:=nG d;generalize hR:qU d g (Bu sb x.held sg) v=R;rw[qU]at hR;generalize lW d=H0,kU d=O0 at *
 clear hO;obtain⟨a,b,c⟩:=O0;obtain⟨s,den,bl,zn,gm,oh⟩:=d;obtain⟨xlv,⟨az,at'⟩,xF,xup,xbu,⟨x1,x2,x3,x4⟩,xh,xp⟩:=x;simp only at *
 have no:¬(true=false):=fun e=>by cases e
 refine ax Proofs.Tryz.func121 ?_;refine cN 2 ?_;refine am (Ghost.nilreg (k:=1003) (t:=6) 195 2 1 O O) ?_;refine G o ?_;refine cN 3 ?_;refine aT [(2,.ptr 2 1 0 0),(3,.ptr 3 1 0 0),(6,.als 1003 1 0 0),(7,I pa),(8,I pb),(9,.bool c)] [(2,1,⟨31,14,[cn ⟨s,den,bl,zn,gm,oh⟩],2⟩),(3,1,⟨42,4,[eR lv],2⟩),(1003,1,⟨195,2,[],1⟩)] aH ?_;intro s0;obtain⟨L0,hL0⟩:∃L0:List (Int × Int),L0=[]:=⟨_,O⟩;generalize hC1:decide (c=false\/oh<a)=C1;generalize hC2:decide (c=false\/oh<b)=C2;obtain⟨L1,hL1⟩:∃L1,L1=L0++(if C1=true then [((3:Int),(0:Int))] else []):=⟨_,O⟩;obtain⟨L2,hL2⟩:∃L2,L2=L1++(if C2=true then [((3:Int),(1:Int))] else []):=⟨_,O⟩;obtain⟨L3,hL3⟩:∃L3,L3=L2++(if g=true then [((2:Int),(1:Int))] else []):=⟨_,O⟩;obtain⟨L4,hL4⟩:∃L4,L4=L3++(if Bu sb xh sg=true then [((0:Int),(0:Int))] else []):=⟨_,O⟩;have hHL:H0=L2:=by
  rw[hH,hL2,hL1,hL0,<-hC1,<-hC2,jF];simp only[decide_eq_true_eq]
 have hRL:L4++fa bl v 0=R:=by rw[<-hR,hL4,hL3,<-hHL]
 have n0:L0.length=0:=by rw[hL0];rfl
 have n1:L1.length<=1:=by rw[hL1,hL0];split<;>simp
 have n2:L2.length<=2:=by rw[hL2,bI];split<;>simp<;>omega
 have n3:L3.length<=3:=by rw[hL3,bI];split<;>simp<;>omega
 have n4:L4.length<=4:=by rw[hL4,bI];split<;>simp<;>omega
 clear hR hH hHL hH2;refine aT [(2,.ptr 2 1 0 0),(3,.ptr 3 1 0 0),(6,.als 1003 (1+L0.length) 0 (L0.map cT).length),(7,I pa),(8,I pb),(9,.bool c)] [(2,1,⟨31,14,[cn ⟨s,den,bl,zn,gm,oh⟩],2⟩),(3,1,⟨42,4,[eR lv],2⟩),(1003,1+L0.length,⟨195,2,L0.map cT,1⟩)] ⟨O,O,by rw[hL0];rfl,O,O,O,O,O,by rw[hL0];rfl,aa1⟩ ?_;intro s1;refine ee [(2,.ptr 2 1 0 0),(3,.ptr 3 1 0 0),(8,I pb),(9,.bool c),(6,.als 1003 (1+L0.length) 0 (L0.map cT).length),(28,.bool C1)] [(2,1,⟨31,14,[cn ⟨s,den,bl,zn,gm,oh⟩],2⟩),(3,1,⟨42,4,[eR lv],2⟩),(1003,1+L0.length,⟨195,2,L0.map cT,1⟩)] ?_ (fun s28=>?_)
 .cases c with
  |false =>
   have e:C1=true:=by rw[<-hC1];simp
   rw[e];refine H ?_;exact aH
  |true =>
   have e:C1=decide (oh<a):=by rw[<-hC1];simp
   rw[e,<-(hp O).1];refine H ?_;exact aH
 refine ee [(2,.ptr 2 1 0 0),(3,.ptr 3 1 0 0),(8,I pb),(9,.bool c),(6,.als 1003 (1+L1.length) 0 (L1.map cT).length)] [(2,1,⟨31,14,[cn ⟨s,den,bl,zn,gm,oh⟩],2⟩),(3,1,⟨42,4,[eR lv],2⟩),(1003,1+L1.length,⟨195,2,L1.map cT,1⟩)] ?_ (fun sL1=>?_)
 .refine aS O ?_ ?_<;>intro h
  .rw[if_pos h]at hL1;have e1:1+L1.length=1+L0.length+1:=by rw[hL1,bI];rfl
   have e2:L1.map cT=L0.map cT++[[I 3,I 0]]:=by rw[hL1,bc];rfl
   have hll:(L0.map cT).length<=100:=by rw[iy];omega
   generalize L0.map cT=R0 at *
   refine H ?_;refine ay (aY 1 O O O O O O O O O O O aH O ?_);refine H ?_;refine ay (bJ 1 O O O O O O O O O O O aH aa0 O O aV aV ?_);refine H ?_;rw[e1,e2];exact aH
  .rw[if_neg (by rw[h];decide),b8]at hL1;subst hL1;refine H ?_;exact aH
 refine cN 5 ?_;refine ee [(2,.ptr 2 1 0 0),(3,.ptr 3 1 0 0),(6,.als 1003 (1+L1.length) 0 (L1.map cT).length),(40,.bool C2)] [(2,1,⟨31,14,[cn ⟨s,den,bl,zn,gm,oh⟩],2⟩),(3,1,⟨42,4,[eR lv],2⟩),(1003,1+L1.length,⟨195,2,L1.map cT,1⟩)] ?_ (fun s40=>?_)
 .cases c with
  |false =>
   have e:C2=true:=by rw[<-hC2];simp
   rw[e];refine H ?_;exact aH
  |true =>
   have e:C2=decide (oh<b):=by rw[<-hC2];simp
   rw[e,<-(hp O).2];refine H ?_;exact aH
 refine ee [(2,.ptr 2 1 0 0),(3,.ptr 3 1 0 0),(6,.als 1003 (1+L2.length) 0 (L2.map cT).length)] [(2,1,⟨31,14,[cn ⟨s,den,bl,zn,gm,oh⟩],2⟩),(3,1,⟨42,4,[eR lv],2⟩),(1003,1+L2.length,⟨195,2,L2.map cT,1⟩)] ?_ (fun sL2=>?_)
 .refine aS O ?_ ?_<;>intro h
  .rw[if_pos h]at hL2;have e1:1+L2.length=1+L1.length+1:=by rw[hL2,bI];rfl
   have e2:L2.map cT=L1.map cT++[[I 3,I 1]]:=by rw[hL2,bc];rfl
   have hll:(L1.map cT).length<=100:=by rw[iy];omega
   generalize L1.map cT=R0 at *
   refine H ?_;refine ay (aY 1 O O O O O O O O O O O aH O ?_);refine H ?_;refine ay (bJ 1 O O O O O O O O O O O aH aa0 O O aV aV ?_);refine H ?_;rw[e1,e2];exact aH
  .rw[if_neg (by rw[h];decide),b8]at hL2;subst hL2;refine H ?_;exact aH
 refine G h74 ?_;refine cN 12 ?_;refine aT [(2,.ptr 2 1 0 0),(6,.als 1003 (1+L2.length) 0 (L2.map cT).length),(10,.ptr 10 ((sL2.own 10).1+1) 0 0)] [(2,1,⟨31,14,[cn ⟨s,den,bl,zn,gm,oh⟩],2⟩),(1003,1+L2.length,⟨195,2,L2.map cT,1⟩),(10,(sL2.own 10).1+1,⟨50,39,[fk ⟨xlv,⟨az,at'⟩,xF,xup,xbu,⟨x1,x2,x3,x4⟩,xh,xp⟩],2⟩)] aH ?_;generalize (sL2.own 10).1+1=g10;intro s3;refine aj hg ?_;refine H ?_;refine ee [(2,.ptr 2 1 0 0),(10,.ptr 10 g10 0 0),(6,.als 1003 (1+L3.length) 0 (L3.map cT).length)] [(2,1,⟨31,14,[cn ⟨s,den,bl,zn,gm,oh⟩],2⟩),(10,g10,⟨50,39,[fk ⟨xlv,⟨az,at'⟩,xF,xup,xbu,⟨x1,x2,x3,x4⟩,xh,xp⟩],2⟩),(1003,1+L3.length,⟨195,2,L3.map cT,1⟩)] ?_ (fun sL3=>?_)
 .refine aS O ?_ ?_<;>intro h
  .rw[if_pos h]at hL3;have e1:1+L3.length=1+L2.length+1:=by rw[hL3,bI];rfl
   have e2:L3.map cT=L2.map cT++[[I 2,I 1]]:=by rw[hL3,bc];rfl
   have hll:(L2.map cT).length<=100:=by rw[iy];omega
   generalize L2.map cT=R0 at *
   refine H ?_;refine ay (aY 1 O O O O O O O O O O O aH O ?_);refine H ?_;refine ay (bJ 1 O O O O O O O O O O O aH aa0 O O aV aV ?_);refine H ?_;rw[e1,e2];exact aH
  .rw[if_neg (by rw[h];decide),b8]at hL3;subst hL3;refine H ?_;exact aH
 refine cN 14 ?_;refine ee [(2,.ptr 2 1 0 0),(10,.ptr 10 g10 0 0),(6,.als 1003 (1+L3.length) 0 (L3.map cT).length),(90,.bool (Bu sb xh sg))] [(2,1,⟨31,14,[cn ⟨s,den,bl,zn,gm,oh⟩],2⟩),(1003,1+L3.length,⟨195,2,L3.map cT,1⟩),(10,g10,⟨50,39,[fk ⟨xlv,⟨az,at'⟩,xF,xup,xbu,⟨x1,x2,x3,x4⟩,xh,xp⟩],2⟩)] ?_ (fun s90=>?_)
 .refine bj [] [] aK ?_;refine aj hb ?_;refine H ?_;by_cases h0:sb=0
  .rw[decide_eq_true h0,show Bu sb xh sg=false by rw[Bu,decide_eq_true h0];rfl];refine H ?_;exact aH
  .rw[decide_eq_false h0,show Bu sb xh sg=(!xh&&decide (sg<0)) by rw[Bu,decide_eq_false h0];rfl];cases xh with
   |true =>
    refine H ?_;exact aH
   |false =>
    refine G hw ?_;refine aj hc ?_;refine H ?_;exact aH
 refine ee [(2,.ptr 2 1 0 0),(10,.ptr 10 g10 0 0),(6,.als 1003 (1+L4.length) 0 (L4.map cT).length)] [(2,1,⟨31,14,[cn ⟨s,den,bl,zn,gm,oh⟩],2⟩),(10,g10,⟨50,39,[fk ⟨xlv,⟨az,at'⟩,xF,xup,xbu,⟨x1,x2,x3,x4⟩,xh,xp⟩],2⟩),(1003,1+L4.length,⟨195,2,L4.map cT,1⟩)] ?_ (fun sL4=>?_)
 .refine aS O ?_ ?_<;>intro h
  .rw[if_pos h]at hL4;have e1:1+L4.length=1+L3.length+1:=by rw[hL4,bI];rfl
   have e2:L4.map cT=L3.map cT++[[I 0,I 0]]:=by rw[hL4,bc];rfl
   have hll:(L3.map cT).length<=100:=by rw[iy];omega
   generalize L3.map cT=R0 at *
   refine H ?_;refine ay (aY 1 O O O O O O O O O O O aH O ?_);refine H ?_;refine ay (bJ 1 O O O O O O O O O O O aH aa0 O O aV aV ?_);refine H ?_;rw[e1,e2];exact aH
  .rw[if_neg (by rw[h];decide),b8]at hL4;subst hL4;refine H ?_;exact aH
 refine H ?_;rw[hbl];have hz0:(L4++fa (bl.take 0) (v.take 0) 0)=L4:=by rw[eu];simp[fa]
 refine ah (fun i:Nat=>i<=bl.length) (fun i=>[(2,.ptr 2 1 0 0),(6,.als 1003 (1+(L4++fa (bl.take i) (v.take i) 0).length) 0 ((L4++fa (bl.take i) (v.take i) 0).map cT).length),(10,.ptr 10 g10 0 0),(96,.sl (bl.map eBk)),(97,I bl.length),(98,I (i:Nat))])
  (fun i=>[(2,1,⟨31,14,[cn ⟨s,den,bl,zn,gm,oh⟩],2⟩),(1003,1+(L4++fa (bl.take i) (v.take i) 0).length,⟨195,2,(L4++fa (bl.take i) (v.take i) 0).map cT,1⟩),(10,g10,⟨50,39,[fk ⟨xlv,⟨az,at'⟩,xF,xup,xbu,⟨x1,x2,x3,x4⟩,xh,xp⟩],2⟩)]) (fun i=>bl.length-i) 0 (aP _) ⟨O,by rw[hz0];rfl,O,O,O,O,O,by rw[hz0];rfl,O,aa1⟩ ?_
 intro i s5 hi;refine D ?_ ?_<;>intro h
 .have hlt:i<bl.length:=aa3 h;clear h;obtain⟨b,hx⟩:=aC hlt;obtain⟨q,hq⟩:=aC (show i<v.length by omega);have hxq:xF[i]? = some (ofQ q):=by rw[hF,bD,hq];rfl
  obtain⟨m1,m2⟩:=hlm b (bm hx);have hsn:=qd (i:=0) hx hq;rw[aX]at hsn;have hle:=oO (bl.take i) (v.take i) 0;rw[bw]at hle;have hw2:=fg i;have w1:IntKind.i64.wrap (b.lim*2)=2*b.lim:=by rw[wrap_i64 J J];omega
  generalize hLm:(if b.side=true then 2*b.lim else b.lim:Int)=Lm at hsn;have hLb:0<=Lm/\Lm<=2000000000:=by rw[<-hLm];split<;>omega
  have zL:Zb Lm:=aJ J J;have c1:=jd Lm ⟨J,J⟩;have c2:=kw (ofQ q) (ofQ (Lm:Rat)) (hx:=Vq.ofQ (h:=⟨hvq q (bm hq)⟩)) (hy:=Vq.ofQ (h:=HQ.int)) Y Y;have hcs:decide (0<sgn (q-(Lm:Rat)))=decide ((Lm:Rat)<q):=decide_eq_decide.2 ⟨fun h=>by have:=(fP _).1 h;grind,fun h=>(fP _).2 bM⟩;generalize hsg2:sgn (q-(Lm:Rat))=G0 at *
  generalize ofQ (Lm:Rat)=LR at *
  obtain⟨bx,bz,bhf,bht,bwd,bst,blim,bside⟩:=b;simp only at *
  obtain⟨La,hLa⟩:∃La,La=(L4++fa (bl.take i) (v.take i) 0):=⟨_,O⟩;obtain⟨Lb,hLB⟩:∃Lb,Lb=La++(if decide ((Lm:Rat)<q)=true then [((1:Int),((i:Nat):Int))] else []):=⟨_,O⟩;have hLB2:(L4++fa (bl.take (i+1)) (v.take (i+1)) 0)=Lb:=by rw[hLB,hLa,hsn,bi];simp only[decide_eq_true_eq]
  have na:La.length<=1010:=by rw[hLa,bI];omega
  rw[<-hLa];clear hsn hLa;refine aQ hx ?_;refine H ?_;refine ee [(2,.ptr 2 1 0 0),(6,.als 1003 (1+La.length) 0 (La.map cT).length),(10,.ptr 10 g10 0 0),(12,I (i:Nat)),(14,I Lm),(96,.sl (bl.map eBk)),(97,I bl.length),(98,I (i:Nat))] [(2,1,⟨31,14,[cn ⟨s,den,bl,zn,gm,oh⟩],2⟩),(1003,1+La.length,⟨195,2,La.map cT,1⟩),(10,g10,⟨50,39,[fk ⟨xlv,⟨az,at'⟩,xF,xup,xbu,⟨x1,x2,x3,x4⟩,xh,xp⟩],2⟩)] ?_ (fun s6=>?_)
  .cases bside with
   |true =>
    rw[if_pos O]at hLm;refine H ?_;rw[w1,hLm];exact aH
   |false =>
    rw[if_neg Y]at hLm;subst hLm;refine H ?_;exact aH
  refine H ?_;refine bj [] [] aK ?_;refine aQ hxq ?_;refine G c1 ?_;refine aj c2 ?_;refine H ?_;rw[hcs];refine aS O ?_ ?_<;>intro h
  .rw[if_pos h]at hLB;have e1:1+Lb.length=1+La.length+1:=by rw[hLB,bI];rfl
   have e2:Lb.map cT=La.map cT++[[I 1,I (i:Nat)]]:=by rw[hLB,bc];rfl
   have hll:(La.map cT).length<=1010:=by rw[iy];exact na
   generalize La.map cT=R0 at *
   refine H ?_;refine ay (aY 1 O O O O O O O O O O O aH O ?_);refine H ?_;refine ay (bJ 1 O O O O O O O O O O O aH aa0 O O aV aV ?_);refine H ?_;refine⟨i+1,hlt,J,O,?_,O,O,O,congrArg I hw2,O,?_,O,aa1⟩
   .rw[hLB2,e1,e2];rfl
   .rw[hLB2,e1,e2];rfl
  .rw[if_neg (by rw[h];decide),b8]at hLB;subst hLB;refine H ?_;refine⟨i+1,hlt,J,O,?_,O,O,O,congrArg I hw2,O,?_,O,aa1⟩
   .rw[hLB2];rfl
   .rw[hLB2];rfl
 .have hie:i=bl.length:=aa4 h;clear h;subst hie;rw[bb,<-hv,bb,hRL]
  (repeat ((fail_if_success (with_reducible refine da ?_));refine qy O ?_))
  refine am (Ghost.takeD (k:=1003) (t:=4) O O O) ?_;exact bW
def ya (d:DKR)(e:Int):List (Int × Int) × Int:=if e=12\/e=13 then(lW d++[(2,0)],0) else([],e)
set_option maxHeartbeats 4000000 in
theorem M3 (d:DKR)(hO:OvOk d)(lv:RR)(e:Int)(he:e≠0)(h74:aO 74 [.agg (cn d),.agg (eR lv)] (.tup [.agg (fk dZ),I e])) :
  aO 121 [.agg (cn d),.agg (eR lv)] (.tup [.sl ((ya d e).1.map cT),I (ya d e).2]):=by
 obtain⟨pa,pb,hp,o⟩:=wP hO;have hH:lW d=(if (kU d).2.2=false\/d.oh<(kU d).1 then [(3,0)] else [])++(if (kU d).2.2=false\/d.oh<(kU d).2.1 then [(3,1)] else []):=O;generalize hR:ya d e=R;rw[ya]at hR;generalize lW d=H0,kU d=O0 at *
 clear hO;obtain⟨a,b,c⟩:=O0;obtain⟨s,den,bl,zn,gm,oh⟩:=d;simp only at *
 have no:¬(true=false):=fun e=>by cases e
 refine ax Proofs.Tryz.func121 ?_;refine cN 2 ?_;refine am (Ghost.nilreg (k:=1003) (t:=6) 195 2 1 O O) ?_;refine G o ?_;refine cN 3 ?_;refine aT [(2,.ptr 2 1 0 0),(3,.ptr 3 1 0 0),(6,.als 1003 1 0 0),(7,I pa),(8,I pb),(9,.bool c)] [(2,1,⟨31,14,[cn ⟨s,den,bl,zn,gm,oh⟩],2⟩),(3,1,⟨42,4,[eR lv],2⟩),(1003,1,⟨195,2,[],1⟩)] aH ?_;intro s0;obtain⟨L0,hL0⟩:∃L0:List (Int × Int),L0=[]:=⟨_,O⟩;generalize hC1:decide (c=false\/oh<a)=C1;generalize hC2:decide (c=false\/oh<b)=C2;obtain⟨L1,hL1⟩:∃L1,L1=L0++(if C1=true then [((3:Int),(0:Int))] else []):=⟨_,O⟩;obtain⟨L2,hL2⟩:∃L2,L2=L1++(if C2=true then [((3:Int),(1:Int))] else []):=⟨_,O⟩;have hHL:H0=L2:=by
  rw[hH,hL2,hL1,hL0,<-hC1,<-hC2,jF];simp only[decide_eq_true_eq]
 rw[hHL]at hR;have n0:L0.length=0:=by rw[hL0];rfl
 have n1:L1.length<=1:=by rw[hL1,hL0];split<;>simp
 have n2:L2.length<=2:=by rw[hL2,bI];split<;>simp<;>omega
 clear hH hHL;refine aT [(2,.ptr 2 1 0 0),(3,.ptr 3 1 0 0),(6,.als 1003 (1+L0.length) 0 (L0.map cT).length),(7,I pa),(8,I pb),(9,.bool c)] [(2,1,⟨31,14,[cn ⟨s,den,bl,zn,gm,oh⟩],2⟩),(3,1,⟨42,4,[eR lv],2⟩),(1003,1+L0.length,⟨195,2,L0.map cT,1⟩)] ⟨O,O,by rw[hL0];rfl,O,O,O,O,O,by rw[hL0];rfl,aa1⟩ ?_;intro s1;refine ee [(2,.ptr 2 1 0 0),(3,.ptr 3 1 0 0),(8,I pb),(9,.bool c),(6,.als 1003 (1+L0.length) 0 (L0.map cT).length),(28,.bool C1)] [(2,1,⟨31,14,[cn ⟨s,den,bl,zn,gm,oh⟩],2⟩),(3,1,⟨42,4,[eR lv],2⟩),(1003,1+L0.length,⟨195,2,L0.map cT,1⟩)] ?_ (fun s28=>?_)
 .cases c with
  |false =>
   have e:C1=true:=by rw[<-hC1];simp
   rw[e];refine H ?_;exact aH
  |true =>
   have e:C1=decide (oh<a):=by rw[<-hC1];simp
   rw[e,<-(hp O).1];refine H ?_;exact aH
 refine ee [(2,.ptr 2 1 0 0),(3,.ptr 3 1 0 0),(8,I pb),(9,.bool c),(6,.als 1003 (1+L1.length) 0 (L1.map cT).length)] [(2,1,⟨31,14,[cn ⟨s,den,bl,zn,gm,oh⟩],2⟩),(3,1,⟨42,4,[eR lv],2⟩),(1003,1+L1.length,⟨195,2,L1.map cT,1⟩)] ?_ (fun sL1=>?_)
 .refine aS O ?_ ?_<;>intro h
  .rw[if_pos h]at hL1;have e1:1+L1.length=1+L0.length+1:=by rw[hL1,bI];rfl
   have e2:L1.map cT=L0.map cT++[[I 3,I 0]]:=by rw[hL1,bc];rfl
   have hll:(L0.map cT).length<=100:=by rw[iy];omega
   generalize L0.map cT=R0 at *
   refine H ?_;refine ay (aY 1 O O O O O O O O O O O aH O ?_);refine H ?_;refine ay (bJ 1 O O O O O O O O O O O aH aa0 O O aV aV ?_);refine H ?_;rw[e1,e2];exact aH
  .rw[if_neg (by rw[h];decide),b8]at hL1;subst hL1;refine H ?_;exact aH
 refine cN 5 ?_;refine ee [(2,.ptr 2 1 0 0),(3,.ptr 3 1 0 0),(6,.als 1003 (1+L1.length) 0 (L1.map cT).length),(40,.bool C2)] [(2,1,⟨31,14,[cn ⟨s,den,bl,zn,gm,oh⟩],2⟩),(3,1,⟨42,4,[eR lv],2⟩),(1003,1+L1.length,⟨195,2,L1.map cT,1⟩)] ?_ (fun s40=>?_)
 .cases c with
  |false =>
   have e:C2=true:=by rw[<-hC2];simp
   rw[e];refine H ?_;exact aH
  |true =>
   have e:C2=decide (oh<b):=by rw[<-hC2];simp
   rw[e,<-(hp O).2];refine H ?_;exact aH
 refine ee [(2,.ptr 2 1 0 0),(3,.ptr 3 1 0 0),(6,.als 1003 (1+L2.length) 0 (L2.map cT).length)] [(2,1,⟨31,14,[cn ⟨s,den,bl,zn,gm,oh⟩],2⟩),(3,1,⟨42,4,[eR lv],2⟩),(1003,1+L2.length,⟨195,2,L2.map cT,1⟩)] ?_ (fun sL2=>?_)
 .refine aS O ?_ ?_<;>intro h
  .rw[if_pos h]at hL2;have e1:1+L2.length=1+L1.length+1:=by rw[hL2,bI];rfl
   have e2:L2.map cT=L1.map cT++[[I 3,I 1]]:=by rw[hL2,bc];rfl
   have hll:(L1.map cT).length<=100:=by rw[iy];omega
   generalize L1.map cT=R0 at *
   refine H ?_;refine ay (aY 1 O O O O O O O O O O O aH O ?_);refine H ?_;refine ay (bJ 1 O O O O O O O O O O O aH aa0 O O aV aV ?_);refine H ?_;rw[e1,e2];exact aH
  .rw[if_neg (by rw[h];decide),b8]at hL2;subst hL2;refine H ?_;exact aH
 refine G h74 ?_;refine cN 8 ?_;refine aT [(6,.als 1003 (1+L2.length) 0 (L2.map cT).length),(11,I e)] [(1003,1+L2.length,⟨195,2,L2.map cT,1⟩)] aH ?_;intro s3;by_cases h12:e=12\/e=13
 .rw[if_pos h12]at hR;subst hR;refine ee [(6,.als 1003 (1+L2.length) 0 (L2.map cT).length),(56,.bool true)] [(1003,1+L2.length,⟨195,2,L2.map cT,1⟩)] ?_ (fun s4=>?_)
  .rcases h12 with h12|h12
   .subst h12;refine H ?_;exact aH
   .subst h12;refine H ?_;exact aH
  have e2:(L2++[(2,0)]).map cT=L2.map cT++[[I 2,I 0]]:=by rw[bc];rfl
  have hll:(L2.map cT).length<=100:=by rw[iy];omega
  rw[e2];generalize L2.map cT=R0 at *
  refine H ?_;refine ay (aY 1 O O O O O O O O O O O aH O ?_);refine H ?_;refine ay (bJ 1 O O O O O O O O O O O aH aa0 O O aV aV ?_)
  (repeat ((fail_if_success (with_reducible refine da ?_));refine qy O ?_))
  refine am (Ghost.takeD (k:=1003) (t:=4) O O O) ?_;exact bW
 .rw[if_neg h12]at hR;subst hR;refine H ?_;rw[decide_eq_false (show ¬e=12 from fun q=>h12 (.inl q))];refine H ?_;rw[decide_eq_false (show ¬e=13 from fun q=>h12 (.inr q))];refine H ?_;rw[decide_eq_false he]
  (repeat ((fail_if_success (with_reducible refine da ?_));refine qy O ?_))
  refine am (Ghost.nilfs (t:=4) O) ?_;exact bW
theorem SM (T:ST)(ok:StOk T)(a:AR){z t:Rat}{n m:Nat}[ha:Va a z t n m](hn:n<=1000000)(hm:m<=1000000):∃(l:Int) (W X:RR) (g:Int),T.L[0]? = some l/\aO 25 [I l] (.agg (eR W))/\aO 96 [.agg (eA a),I T.x] (.agg (eR X))/\aO 29 [.agg (eR W),.agg (eR X)] (I g)/\decide (g<0)=q_ z t T:=by
 obtain⟨⟨x1,x2⟩,-,⟨n1,n2⟩,-,hL,-,-⟩:=ok;obtain⟨l,hl⟩:=aC (show 0<T.L.length by omega);have hl2:=hL l (bm hl);have hg:T.L.getD 0 0=l:=by rw[cY,hl];rfl
 have zl:Zb l:=aJ J J;have zx:Zb T.x:=aJ J J;have v1:Vq (ofQ (z+t*(T.x:Rat))) (z+t*(T.x:Rat)) (n+1+(m+1+4)+1):=Vq.ofQ (h:=@HQ.add _ _ (n+1) (m+1+4) ha.z.hq (@HQ.mul _ _ (m+1) 4 ha.t.hq HQ.int));refine⟨l,_,_,_,hl,b_ l ⟨J,J⟩,l8 a T.x ⟨J,J⟩ (z:=z) (t:=t) hn hm,eX (ofQ (l:Rat)) (ofQ (z+t*(T.x:Rat))) (hx:=Vq.ofQ (h:=HQ.int)) (hy:=v1) Y J,?_⟩;rw[q_,hg];refine decide_eq_decide.2 ⟨fun h=>?_,fun h=>?_⟩
 .have:=(cX _).1 h;grind
 .refine(cX _).2 ?_;grind
theorem Je {α:Type}(p:α->Bool){l:List α}{i:Nat}{x:α}(h:l[i]? = some x):(l.drop i).any p=(p x||(l.drop (i+1)).any p):=by
 obtain⟨hl,rfl⟩:=bV h;rw[iZ hl,uK]
set_option maxHeartbeats 4000000 in
theorem Ij (d:DKR)(hO:OvOk d)(x:DQ){z t:Rat}{n m:Nat}[ha:Va x.a z t n m](hn:n<=1000000)(hm':m<=1000000)(v:List Rat)(hv:v.length=d.bl.length)(hvq:∀q∈v,hq q 1000000)(hF:x.F=v.map ofQ)(sb sg:Int)(W:RR)(hlm:∀b∈d.bl,0<=b.lim/\b.lim<=1000000000)
  (hb:aO 49 [.agg (eR x.bu)] (I sb)) (hw:aO 25 [I d.gm] (.agg (eR W))) (hc:aO 29 [.agg (eR x.s.gm),.agg (eR W)] (I sg)) :
  aO 123 [.agg (cn d),.agg (fk x)] (.sl ((qU d (d.s.st.any (q_ z t)) (Bu sb x.held sg) v).map cT)):=by
 have hbl:(d.bl.map eBk).length=d.bl.length:=ao;have hml:(d.s.st.map eT).length=d.s.st.length:=ao;have hm:=hO.m;have hst:=hO.st;have hsn:=hO.n;have hh:=B7 d hO;have hH2:=nG d;have hgr:=fun T hT=>SM T (hst T hT) x.a (z:=z) (t:=t) hn hm';generalize hR:qU d (d.s.st.any (q_ z t)) (Bu sb x.held sg) v=R;rw[qU]at hR;generalize hgG:d.s.st.any (q_ z t)=g at *
 generalize lW d=L2 at *
 clear hO ha;obtain⟨s,den,bl,zn,gm,oh⟩:=d;obtain⟨xlv,⟨az,at'⟩,xF,xup,xbu,⟨x1,x2,x3,x4⟩,xh,xp⟩:=x;simp only at *
 obtain⟨A0,hA0⟩:∃A0:List (Int × Int),A0=[]:=⟨_,O⟩;obtain⟨L3,hL3⟩:∃L3,L3=A0++(if g=true then [((2:Int),(1:Int))] else []):=⟨_,O⟩;obtain⟨L4,hL4⟩:∃L4,L4=L3++(if Bu sb xh sg=true then [((0:Int),(0:Int))] else []):=⟨_,O⟩;have hRL:L2++(L4++fa bl v 0)=R:=by rw[<-hR,hL4,hL3,hA0,jF];simp only[bi]
 have n0:A0.length=0:=by rw[hA0];rfl
 have n3:L3.length<=1:=by rw[hL3,hA0];split<;>simp
 have n4:L4.length<=2:=by rw[hL4,bI];split<;>simp<;>omega
 clear hR;refine ax Proofs.Tryz.func123 ?_
 (refine cN 1 ?_;refine aU 1 ?_)
 refine iH O ?_;refine bH ?_;refine bC O (xq O hh O aH O ?_);refine aW ?_;refine cN 2 ?_;refine aT [(2,.ptr 2 1 0 0),(3,.ptr 3 1 0 0),(5,.als 11 (1+A0.length) 0 ((L2++A0).map cT).length)] [(2,1,⟨31,14,[cn ⟨s,den,bl,zn,gm,oh⟩],2⟩),(3,1,⟨50,39,[fk ⟨xlv,⟨az,at'⟩,xF,xup,xbu,⟨x1,x2,x3,x4⟩,xh,xp⟩],2⟩),(11,1+A0.length,⟨195,2,(L2++A0).map cT,0⟩)] ⟨O,O,by rw[hA0,b8];rfl,O,O,by rw[hA0,b8];rfl,aa1⟩ ?_;intro s1;refine AX (fun _:Unit=>True) (fun _=>[(2,.ptr 2 1 0 0),(3,.ptr 3 1 0 0),(5,.als 11 (1+L3.length) 0 ((L2++L3).map cT).length)]) (fun _=>[(2,1,⟨31,14,[cn ⟨s,den,bl,zn,gm,oh⟩],2⟩),(3,1,⟨50,39,[fk ⟨xlv,⟨az,at'⟩,xF,xup,xbu,⟨x1,x2,x3,x4⟩,xh,xp⟩],2⟩),(11,1+L3.length,⟨195,2,(L2++L3).map cT,0⟩)]) ?_ ?_
 .refine H ?_;refine ah (fun i:Nat=>i<=s.st.length/\(s.st.drop i).any (q_ z t)=g) (fun i=>[(2,.ptr 2 1 0 0),(3,.ptr 3 1 0 0),(5,.als 11 (1+A0.length) 0 ((L2++A0).map cT).length),(6,I (i:Nat))]) (fun _=>[(2,1,⟨31,14,[cn ⟨s,den,bl,zn,gm,oh⟩],2⟩),(3,1,⟨50,39,[fk ⟨xlv,⟨az,at'⟩,xF,xup,xbu,⟨x1,x2,x3,x4⟩,xh,xp⟩],2⟩),(11,1+A0.length,⟨195,2,(L2++A0).map cT,0⟩)]) (fun i=>s.st.length-i) 0 ⟨aP _,by rw[ep];exact hgG⟩ aH ?_;rintro i s2 ⟨hi,hall⟩;refine H ?_;rw[hml];refine aS O ?_ ?_<;>intro h
  .have hlt:i<s.st.length:=aa3 h;clear h;obtain⟨T,hx⟩:=aC hlt;have hw2:=fg i;obtain⟨l,W0,X0,G0,hl0,k1,k2,k3,hG⟩:=hgr T (bm hx);rw[Je _ hx,<-hG]at hall;obtain⟨Tx,Tw,TL,TH⟩:=T;simp only at hl0 k2;refine aQ hx ?_;refine H ?_;refine bj [] [] aK ?_;refine H ?_;refine cf O O (i9 (n:=((0):Int)) O O O O O J hl0 O) ?_;refine G k1 ?_;refine G k2 ?_;refine aj k3 ?_;refine D ?_ ?_<;>intro h
   .rw[h,ip]at hall;rw[if_pos hall.symm]at hL3;have e1:1+L3.length=1+A0.length+1:=by rw[hL3,bI];rfl
    have e2:(L2++L3).map cT=(L2++A0).map cT++[[I 2,I 1]]:=by rw[hL3,<-bi,bc];rfl
    have hll:((L2++A0).map cT).length<=1010:=by rw[iy,bI];omega
    generalize (L2++A0).map cT=R0 at *
    refine H ?_;refine ay (aY 0 O O O O O O O O O O O aH O ?_);refine H ?_;refine ay (bJ 0 O O O O O O O O O O O aH aa0 O O aV aV ?_);refine H ?_;rw[e1,e2];exact⟨(),trivial,aH⟩
   .rw[h,jK]at hall;refine H ?_;exact⟨i+1,⟨hlt,hall⟩,J,O,O,O,congrArg I hw2,aH⟩
  .have hie:i=s.st.length:=aa4 h;clear h;rw[hie,fH,List.any_nil]at hall;rw[if_neg (by rw[<-hall];decide),b8]at hL3;subst hL3;refine H ?_;exact⟨(),trivial,aH⟩
 rintro⟨⟩-s3;refine cN 8 ?_;refine ee [(2,.ptr 2 1 0 0),(3,.ptr 3 1 0 0),(5,.als 11 (1+L3.length) 0 ((L2++L3).map cT).length),(60,.bool (Bu sb xh sg))] [(2,1,⟨31,14,[cn ⟨s,den,bl,zn,gm,oh⟩],2⟩),(3,1,⟨50,39,[fk ⟨xlv,⟨az,at'⟩,xF,xup,xbu,⟨x1,x2,x3,x4⟩,xh,xp⟩],2⟩),(11,1+L3.length,⟨195,2,(L2++L3).map cT,0⟩)] ?_ (fun s90=>?_)
 .refine bj [] [] aK ?_;refine aj hb ?_;refine H ?_;by_cases h0:sb=0
  .rw[decide_eq_true h0,show Bu sb xh sg=false by rw[Bu,decide_eq_true h0];rfl];refine H ?_;exact aH
  .rw[decide_eq_false h0,show Bu sb xh sg=(!xh&&decide (sg<0)) by rw[Bu,decide_eq_false h0];rfl];cases xh with
   |true =>
    refine H ?_;exact aH
   |false =>
    refine G hw ?_;refine aj hc ?_;refine H ?_;exact aH
 refine ee [(2,.ptr 2 1 0 0),(3,.ptr 3 1 0 0),(5,.als 11 (1+L4.length) 0 ((L2++L4).map cT).length)] [(2,1,⟨31,14,[cn ⟨s,den,bl,zn,gm,oh⟩],2⟩),(3,1,⟨50,39,[fk ⟨xlv,⟨az,at'⟩,xF,xup,xbu,⟨x1,x2,x3,x4⟩,xh,xp⟩],2⟩),(11,1+L4.length,⟨195,2,(L2++L4).map cT,0⟩)] ?_ (fun s4=>?_)
 .refine aS O ?_ ?_<;>intro h
  .rw[if_pos h]at hL4;have e1:1+L4.length=1+L3.length+1:=by rw[hL4,bI];rfl
   have e2:(L2++L4).map cT=(L2++L3).map cT++[[I 0,I 0]]:=by rw[hL4,<-bi,bc];rfl
   have hll:((L2++L3).map cT).length<=1010:=by rw[iy,bI];omega
   generalize (L2++L3).map cT=R0 at *
   refine H ?_;refine ay (aY 0 O O O O O O O O O O O aH O ?_);refine H ?_;refine ay (bJ 0 O O O O O O O O O O O aH aa0 O O aV aV ?_);refine H ?_;rw[e1,e2];exact aH
  .rw[if_neg (by rw[h];decide),b8]at hL4;subst hL4;refine H ?_;exact aH
 refine H ?_;have hz0:(L4++fa (bl.take 0) (v.take 0) 0)=L4:=by rw[eu];simp[fa]
 refine ah (fun i:Nat=>i<=bl.length) (fun i=>[(2,.ptr 2 1 0 0),(3,.ptr 3 1 0 0),(5,.als 11 (1+(L4++fa (bl.take i) (v.take i) 0).length) 0 ((L2++(L4++fa (bl.take i) (v.take i) 0)).map cT).length),(8,I (i:Nat))])
  (fun i=>[(2,1,⟨31,14,[cn ⟨s,den,bl,zn,gm,oh⟩],2⟩),(3,1,⟨50,39,[fk ⟨xlv,⟨az,at'⟩,xF,xup,xbu,⟨x1,x2,x3,x4⟩,xh,xp⟩],2⟩),(11,1+(L4++fa (bl.take i) (v.take i) 0).length,⟨195,2,(L2++(L4++fa (bl.take i) (v.take i) 0)).map cT,0⟩)]) (fun i=>bl.length-i) 0 (aP _) ⟨O,O,by rw[hz0];rfl,O,O,O,by rw[hz0];rfl,aa1⟩ ?_
 intro i s5 hi;refine H ?_;rw[hbl];refine aS O ?_ ?_<;>intro h
 .have hlt:i<bl.length:=aa3 h;clear h;obtain⟨b,hx⟩:=aC hlt;obtain⟨q,hq⟩:=aC (show i<v.length by omega);have hxq:xF[i]? = some (ofQ q):=by rw[hF,bD,hq];rfl
  obtain⟨m1,m2⟩:=hlm b (bm hx);have hsn:=qd (i:=0) hx hq;rw[aX]at hsn;have hle:=oO (bl.take i) (v.take i) 0;rw[bw]at hle;have hw2:=fg i;have w1:IntKind.i64.wrap (2*b.lim)=2*b.lim:=by rw[wrap_i64 J J]
  generalize hLm:(if b.side=true then 2*b.lim else b.lim:Int)=Lm at hsn;have hLb:0<=Lm/\Lm<=2000000000:=by rw[<-hLm];split<;>omega
  have zL:Zb Lm:=aJ J J;have c1:=b_ Lm ⟨J,J⟩;have c2:=eX (ofQ q) (ofQ (Lm:Rat)) (hx:=Vq.ofQ (h:=⟨hvq q (bm hq)⟩)) (hy:=Vq.ofQ (h:=HQ.int)) Y Y;have hcs:decide (0<sgn (q-(Lm:Rat)))=decide ((Lm:Rat)<q):=decide_eq_decide.2 ⟨fun h=>by have:=(fP _).1 h;grind,fun h=>(fP _).2 bM⟩;generalize hsg2:sgn (q-(Lm:Rat))=G0 at *
  generalize ofQ (Lm:Rat)=LR at *
  obtain⟨bx,bz,bhf,bht,bwd,bst,blim,bside⟩:=b;simp only at *
  obtain⟨La,hLa⟩:∃La,La=(L4++fa (bl.take i) (v.take i) 0):=⟨_,O⟩;obtain⟨Lb,hLb2⟩:∃Lb,Lb=La++(if decide ((Lm:Rat)<q)=true then [((1:Int),((i:Nat):Int))] else []):=⟨_,O⟩;have hLB2:(L4++fa (bl.take (i+1)) (v.take (i+1)) 0)=Lb:=by rw[hLb2,hLa,hsn,bi];simp only[decide_eq_true_eq]
  have na:La.length<=1005:=by rw[hLa,bI];omega
  rw[<-hLa];clear hsn hLa;refine aQ hx ?_;refine aQ hx ?_;refine H ?_;refine ee [(2,.ptr 2 1 0 0),(3,.ptr 3 1 0 0),(5,.als 11 (1+La.length) 0 ((L2++La).map cT).length),(8,I (i:Nat)),(9,I Lm)] [(2,1,⟨31,14,[cn ⟨s,den,bl,zn,gm,oh⟩],2⟩),(3,1,⟨50,39,[fk ⟨xlv,⟨az,at'⟩,xF,xup,xbu,⟨x1,x2,x3,x4⟩,xh,xp⟩],2⟩),(11,1+La.length,⟨195,2,(L2++La).map cT,0⟩)] ?_ (fun s6=>?_)
  .cases bside with
   |true =>
    rw[if_pos O]at hLm;refine H ?_;rw[w1,hLm];exact aH
   |false =>
    rw[if_neg Y]at hLm;subst hLm;refine H ?_;exact aH
  refine H ?_;refine bj [] [] aK ?_;refine aQ hxq ?_;refine G c1 ?_;refine aj c2 ?_;refine H ?_;rw[hcs];refine aS O ?_ ?_<;>intro h
  .rw[if_pos h]at hLb2;have e1:1+Lb.length=1+La.length+1:=by rw[hLb2,bI];rfl
   have e2:(L2++Lb).map cT=(L2++La).map cT++[[I 1,I (i:Nat)]]:=by rw[hLb2,<-bi,bc];rfl
   have hll:((L2++La).map cT).length<=1010:=by rw[iy,bI];omega
   generalize (L2++La).map cT=R0 at *
   refine H ?_;refine ay (aY 0 O O O O O O O O O O O aH O ?_);refine H ?_;refine ay (bJ 0 O O O O O O O O O O O aH aa0 O O aV aV ?_);refine H ?_;refine⟨i+1,hlt,J,O,O,?_,congrArg I hw2,O,O,?_,aa1⟩
   .rw[hLB2,e1,e2];rfl
   .rw[hLB2,e1,e2];rfl
  .rw[if_neg (by rw[h];decide),b8]at hLb2;subst hLb2;refine H ?_;refine⟨i+1,hlt,J,O,O,?_,congrArg I hw2,O,O,?_,aa1⟩
   .rw[hLB2];rfl
   .rw[hLB2];rfl
 .have hie:i=bl.length:=aa4 h;clear h;subst hie;rw[bb,<-hv,bb,hRL]
  (repeat ((fail_if_success (with_reducible refine da ?_));refine qy O ?_))
  refine am (Ghost.takeL (k:=11) (t:=4) R O O O O (fun _=>rfl)) ?_;exact bW
theorem u6 {d:DKR}(hl:d.Len)(hS:IB d=true)(hE:gF d=0){p:Rat}(hp:hq p 4):Slim d p:=by
 have sm:=De hS;obtain⟨hk,-,-⟩:=JC (sm.ok hl) hE;simp only[IB,Sa,Pg,QG,ca,lG,decide_eq_false_iff_not,cm]at hS;obtain⟨⟨⟨⟨⟨h1,h2⟩,-⟩,h3⟩,h4⟩,-⟩:=hS;have hn:=hk.n;have hm:=hk.m;refine⟨sm.ok hl,hE,J,J,fun t ht=>?_,sm.b,hp⟩;have:=h2 t ht;simp only[EW,lG,decide_eq_false_iff_not]at this;have:=(hk.st t ht).n;omega
theorem Tl:PO Tryz.prog 195 [.int .i64,.int .i64]=true:=by decide +kernel
theorem P8 (w:Int × Int):sE [.int .i64,.int .i64] (cT w) (cT w)=some true:=by simp[sE,cT]
theorem xe (L:List (Int × Int))(hL:L.length<=1000000):aO 59 [.sl (L.map cT),.sl (L.map cT)] (.bool true):=by
 have hml:(L.map cT).length=L.length:=iy L;refine ax Proofs.Tryz.func59 ?_;refine H ?_;rw[decide_eq_true (show(((L.map cT).length:Nat):Int)=((L.map cT).length:Nat) from O)];refine H ?_;refine aT [(0,.sl (L.map cT)),(1,.sl (L.map cT)),(5,I ((0:Nat):Int))] [] aH ?_;intro s0;refine ah (fun i:Nat=>i<=L.length) (fun i=>[(0,.sl (L.map cT)),(1,.sl (L.map cT)),(5,I (i:Nat))]) (fun _=>[]) (fun i=>L.length-i) 0 (aP _) aH ?_;intro i s1 hi;refine H ?_;rw[hml];refine aS O ?_ ?_<;>intro h
 .have hlt:i<L.length:=aa3 h;clear h;obtain⟨x,hx⟩:=aC hlt;have hw:=fg i;have hle:=P8 x;refine H ?_;refine bj [] [] aK ?_;refine aQ hx ?_;refine aQ hx ?_;refine H ?_;refine cf O O (Qn Tl O O hle) ?_;refine H ?_;exact⟨i+1,hlt,J,O,O,congrArg I hw,aa1⟩
 .clear h;exact fC
theorem PW (d:DKR)(lv:RR)(x:DQ)(L:List (Int × Int))(h23:aO 23 [.agg (cn d),.agg (eR lv)] (.tup [.agg (fk x),I 0,.bool true]))(h:aO 123 [.agg (cn d),.agg (fk x)] (.sl (L.map cT))) :
  aO 58 [.agg (cn d),.agg (eR lv)] (.tup [.sl (L.map cT),I 0,.bool true]):=by
 obtain⟨s,den,bl,zn,gm,oh⟩:=d;obtain⟨xlv,⟨az,at'⟩,xF,xup,xbu,⟨x1,x2,x3,x4⟩,xh,xp⟩:=x;refine ax Proofs.Tryz.func58 ?_;refine G h23 ?_;refine G h ?_;exact bW
theorem PU (d:DKR)(hO:OvOk d)(lv:RR)(e:Int)(he:e≠0)(h23:aO 23 [.agg (cn d),.agg (eR lv)] (.tup [.agg (fk dZ),I e,.bool true])) :
  aO 58 [.agg (cn d),.agg (eR lv)] (.tup [.sl ((ya d e).1.map cT),I (ya d e).2,.bool true]):=by
 have hh:=B7 d hO;have hH2:=nG d;generalize hR:ya d e=R;rw[ya]at hR;generalize lW d=L2 at *
 clear hO;obtain⟨s,den,bl,zn,gm,oh⟩:=d;refine ax Proofs.Tryz.func58 ?_;refine G h23 ?_;refine cN 2 ?_;refine aT [(2,.ptr 2 1 0 0),(8,I e),(9,.bool true)] [(2,1,⟨31,14,[cn ⟨s,den,bl,zn,gm,oh⟩],2⟩)] aH ?_;intro s3;by_cases h12:e=12\/e=13
 .rw[if_pos h12]at hR;subst hR;have e2:(L2++[(2,0)]).map cT=L2.map cT++[[I 2,I 0]]:=by rw[bc];rfl
  have hll:(L2.map cT).length<=100:=by rw[iy];omega
  rcases h12 with h12|h12;all_goals
   subst h12
   (refine cN 7 ?_;refine aU 1 ?_)
   refine iH O ?_;refine bH ?_;refine bC O (xq O hh O aH O ?_);refine aW ?_;refine H ?_;refine ay (aY 0 O O O O O O O O O O O aH O ?_);refine H ?_;refine ay (bJ 0 O O O O O O O O O O O aH aa0 O O aV aV ?_)
   (repeat ((fail_if_success (with_reducible refine da ?_));refine qy O ?_))
   refine am (Ghost.takeL (k:=28) (t:=4) (L2++[(2,0)]) O O (by rw[e2];rfl) O (fun _=>rfl)) ?_;exact bW
 .rw[if_neg h12]at hR;subst hR;refine H ?_;rw[decide_eq_false he];refine H ?_;rw[decide_eq_false (show ¬e=12 from fun q=>h12 (.inl q))];refine H ?_;rw[decide_eq_false (show ¬e=13 from fun q=>h12 (.inr q))]
  (repeat ((fail_if_success (with_reducible refine da ?_));refine qy O ?_))
  refine am (Ghost.nilfs (t:=4) O) ?_;exact bW
theorem Hp (d:DKR)(g m:Bool)(v:List Rat):(qU d g m v).length<=4+v.length:=by
 have h1:=nG d;have h2:=oO d.bl v 0;have h3:=AS (p:=g=true) ((2:Int),(1:Int));have h4:=AS (p:=m=true) ((0:Int),(0:Int));rw[qU,bI,bI,bI];omega
theorem FI {d:DKR}{lv:RR}(hl:d.Len)(hlv:lv.sz 4)(h:Slim d lv.val):∃V:List (Int × Int) × Int,aO 121 [.agg (cn d),.agg (eR lv)] (.tup [.sl (V.1.map cT),I V.2])/\aO 58 [.agg (cn d),.agg (eR lv)] (.tup [.sl (V.1.map cT),I V.2,.bool true])/\V.1.length<=10000:=by
 have hE:=h.e;have hO:=KO h.ok hE;obtain⟨g1,-⟩:=Rk hE;by_cases he:(eQ (dB d lv.val)).e=0
 .obtain⟨z,t,hs⟩:=L5 h he;have hz:=hs.hz;have ht:=hs.ht;have va:Va ⟨ofQ z,ofQ t⟩ z t 24000 20000:=⟨Vq.ofQ (h:=hz),Vq.ofQ (h:=ht)⟩;have hll:=xK d lv.val z t;have h5:=h.bl;have hv:((vQ d lv.val z t).take d.bl.length).length=d.bl.length:=by rw[bw];omega
  have hvq:∀q∈(vQ d lv.val z t).take d.bl.length,hq q 1000000:=fun q hq=>e_ (zk h hs q (d9 hq)) Y;have hlm:∀b∈d.bl,0<=b.lim/\b.lim<=1000000000:=fun b hb=>(PJ hE b hb).lim;have zg:Zb d.gm:=aJ J J;have vb:Vq (ofQ (bB ((vQ d lv.val z t).drop d.bl.length))) (bB ((vQ d lv.val z t).drop d.bl.length)) 600000:=Vq.ofQ (h:=⟨(Dt h hs).2⟩);have vg:Vq (tQ d lv.val z t).gm (tQ d lv.val z t).gm.val 4000000:=(Rw h hs).v;have vw:Vq (ofQ (d.gm:Rat)) (d.gm:Rat) 4:=Vq.ofQ (h:=HQ.int);refine⟨(qU d (d.s.st.any (q_ z t)) (Bu (sgn (bB ((vQ d lv.val z t).drop d.bl.length))) (I7 d lv.val z t).held (sgn ((tQ d lv.val z t).gm.val-(d.gm:Rat)))) ((vQ d lv.val z t).take d.bl.length),0),?_,?_,?_⟩
  .exact M4 d hO lv (I7 d lv.val z t) _ hv hvq O _ _ _ (ofQ (d.gm:Rat)) hlm (Ef (hlv:=hlv.v) Y hl h hs) (Ec d hO.st hO.n ⟨ofQ z,ofQ t⟩ (ha:=va) Y Y) (y7 _ (hx:=vb) Y) (jd d.gm ⟨J,J⟩) (kw _ _ (hx:=vg) (hy:=vw) Y Y)
  .exact PW d lv (I7 d lv.val z t) _ (qx hl h hlv hs) (Ij d hO (I7 d lv.val z t) (ha:=va) Y Y _ hv hvq O _ _ (ofQ (d.gm:Rat)) hlm (gu _ (hx:=vb) Y) (b_ d.gm ⟨J,J⟩) (eX _ _ (hx:=vg) (hy:=vw) Y Y))
  .have:=Hp d (d.s.st.any (q_ z t)) (Bu (sgn (bB ((vQ d lv.val z t).drop d.bl.length))) (I7 d lv.val z t).held (sgn ((tQ d lv.val z t).gm.val-(d.gm:Rat)))) ((vQ d lv.val z t).take d.bl.length);simp only;omega
 .refine⟨ya d (eQ (dB d lv.val)).e,M3 d hO lv _ he (Ee (hlv:=hlv.v) Y hl h he),PU d hO lv _ he (qw h hlv he),?_⟩;have:=nG d;rw[ya];split<;>simp<;>omega
theorem Eb {c:List Int}{i:Nat}{w:Int}(h:c[i]? = some w):w∈c:=bm h
theorem BZ (n:Int):aO 46 [I n] (.bool (!aG n (-100000) 100000)):=by
 refine ax Proofs.Tryz.func46 ?_;refine eW ?_ ?_<;>intro h
 .have h1:=aB h;refine H ?_;exact fj O O (by simp[aG];omega)
 .have h1:=aE h;refine H ?_;exact fj O O (by rw[aG,decide_eq_true (show -100000<=n by omega),io,<-decide_not];exact congrArg PV.bool (decide_eq_decide.2 J))
theorem dec_Crs {c:PV}(h:argW lay.get 92 c):∃l:List Int,c = .sl (l.map eN)/\l.length<=9223372036854775807:=by
 obtain⟨l,e,hl,-⟩:=vN (n:=10) (show oU lay.get 12 92 [c] from h);cases e;exact⟨l,O,hl⟩
def eV (V:Bool × Int × List (Int × Int)):List PV:=[.bool V.1,I V.2.1,.sl (V.2.2.map cT)]
def S_:List (Int × Int)->PV
 |[] => .nil
 |x::l => .sl ((x::l).map cT)
def SO (V:Bool × Int × List (Int × Int)):List PV:=[.bool V.1,I V.2.1,S_ V.2.2]
theorem Ky:∀l:List (Int × Int),Weak (S_ l) (.sl (l.map cT))
 |[] => .nil
 |_::_=>Weak.rfl _
theorem xb (V:Bool × Int × List (Int × Int)):WeakL (SO V) (eV V) := .cons (Weak.rfl _) (.cons (Weak.rfl _) (.cons (Ky _) .nil))
def x6 (F:Int->List (Int × Int) × Int):List Int->Nat->(Bool × Int × List (Int × Int)) × Int
 |[],_=>((true,0,[]),0)
 |w::c,i=>if aG w (-100000) 100000=true then(if (F w).2=0 then(if (F w).1=[] then x6 F c (i+1) else((false,i,(F w).1),0)) else((false,0,[]),(F w).2)) else((false,0,[]),2)
def o9 (F:Int->List (Int × Int) × Int)(d:DKR)(c:List Int):(Bool × Int × List (Int × Int)) × Int :=
 if gF d=0 then(if c.length<=200 then x6 F c 0 else((false,0,[]),8)) else((false,0,[]),gF d)
theorem Cf {F:Int->List (Int × Int) × Int}{c:List Int}{i:Nat}{w:Int}(h:c[i]? = some w):x6 F (c.drop i) i=if aG w (-100000) 100000=true then(if (F w).2=0 then(if (F w).1=[] then x6 F (c.drop (i+1)) (i+1) else((false,i,(F w).1),0)) else((false,0,[]),(F w).2)) else((false,0,[]),2):=by
 obtain⟨hl,rfl⟩:=bV h;rw[iZ hl,x6]
theorem HG (d:DKR)(hk:aO 17 [.agg (cn d)] (I (gF d)))(c:List Int)(hl:c.length<=210)(F:Int->List (Int × Int) × Int)
  (hf:gF d=0->∀w∈c,aG w (-100000) 100000=true->aO 121 [.agg (cn d),.agg (eR (ofQ (w:Rat)))] (.tup [.sl ((F w).1.map cT),I (F w).2])) :
  aO 60 [.agg (cn d),.sl (c.map eN)] (.tup [.agg (eV (o9 F d c).1),I (o9 F d c).2]):=by
 have hml:(c.map eN).length=c.length:=ao;refine Ret.weak (r' := .tup [.agg (SO (o9 F d c).1),I (o9 F d c).2]) ?_ (WeakL.refl _) (WeakL.tup (.cons (xb _).agg (WeakL.refl _)));by_cases hE:gF d=0
 .specialize hf hE;by_cases hc:c.length<=200
  .generalize hJ:o9 F d c=J0;rw[o9,if_pos hE,if_pos hc]at hJ;rw[hE]at hk;clear hE;obtain⟨s,den,bl,zn,gm,oh⟩:=d;refine ax Proofs.Tryz.func60 ?_;refine aj hk ?_;refine H ?_;rw[hml];rw[decide_eq_false (show ¬(200:Int)<(c.length:Int) by omega)];refine H ?_;rw[hml];refine aT [(2,.ptr 2 1 0 0),(4,.ptr 4 1 0 0),(21,.sl (c.map eN)),(22,I c.length),(23,I ((0:Nat):Int))] [(2,1,⟨31,14,[cn ⟨s,den,bl,zn,gm,oh⟩],2⟩),(4,1,⟨139,3,[[.bool false,I 0,.nil]],2⟩)] aH ?_;intro s0;refine ah (fun i:Nat=>i<=c.length/\x6 F (c.drop i) i=J0) (fun i=>[(2,.ptr 2 1 0 0),(4,.ptr 4 1 0 0),(21,.sl (c.map eN)),(22,I c.length),(23,I (i:Nat))])
    (fun i=>[(2,1,⟨31,14,[cn ⟨s,den,bl,zn,gm,oh⟩],2⟩),(4,1,⟨139,3,[[.bool false,I 0,.nil]],2⟩)]) (fun i=>c.length-i) 0 ⟨aP _,by rw[ep];exact hJ⟩ aH ?_
   clear hJ;rintro i s1 ⟨hi,hJ⟩;refine D ?_ ?_<;>intro h
   .have hlt:i<c.length:=aa3 h;clear h;obtain⟨w,hx⟩:=aC hlt;have o1:=cU w (-100000) 100000;have hw:=fg i;rw[Cf hx]at hJ;refine aQ hx ?_;refine aj o1 ?_;refine H ?_;cases hin:aG w (-100000) 100000 with
    |false =>
     rw[if_neg (by rw[hin];decide)]at hJ;subst hJ;exact bW
    |true =>
     rw[if_pos hin]at hJ;have hin2:=ej hin;have hwh:=jd w ⟨J,J⟩;have hst:=hf w (Eb hx) hin;generalize ofQ (w:Rat)=W,(F w).1=L,(F w).2=e at *
     refine H ?_;refine bj [] [] aK ?_;refine G hwh ?_;refine G hst ?_;refine H ?_;by_cases h0:e=0
     .subst h0;rw[if_pos O]at hJ;cases L with
      |nil =>
       rw[if_pos O]at hJ;refine H ?_;exact⟨i+1,⟨hlt,hJ⟩,J,O,O,O,O,congrArg I hw,aH⟩
      |cons x L =>
       rw[if_neg (fun e=>by cases e)]at hJ;subst hJ;refine H ?_;rw[decide_eq_true (show(0:Int)<((((x::L).map cT).length:Nat):Int) by rw[iy,eO];omega)];exact bW
     .rw[if_neg h0]at hJ;subst hJ;rw[decide_eq_false h0];exact bW
   .have hie:i=c.length:=aa4 h;clear h;rw[hie,fH,x6]at hJ;subst hJ;exact bW
  .have e:o9 F d c=((false,0,[]),8):=by rw[o9,if_pos hE,if_neg hc]
   rw[e];rw[hE]at hk;clear hf e;obtain⟨s,den,bl,zn,gm,oh⟩:=d;refine ax Proofs.Tryz.func60 ?_;refine aj hk ?_;refine H ?_;rw[hml];rw[decide_eq_true (show(200:Int)<(c.length:Int) by omega)];exact bW
 .have e:o9 F d c=((false,0,[]),gF d):=by rw[o9,if_neg hE]
  rw[e];clear hf e;generalize gF d=E at *
  obtain⟨s,den,bl,zn,gm,oh⟩:=d;refine ax Proofs.Tryz.func60 ?_;refine aj hk ?_;refine H ?_;rw[decide_eq_false hE];exact bW
theorem Dv (d:DKR)(c:List Int)(hl:c.length<=210)(F:Int->List (Int × Int) × Int)
  (hf:∀w∈c,aG w (-100000) 100000=true->aO 58 [.agg (cn d),.agg (eR (ofQ (w:Rat)))] (.tup [.sl ((F w).1.map cT),I (F w).2,.bool true])) :
  aO 62 [.agg (cn d),.sl (c.map eN)] (.tup [.agg (eV (x6 F c 0).1),I (x6 F c 0).2,.bool true]):=by
 have hml:(c.map eN).length=c.length:=ao;refine Ret.weak (r' := .tup [.agg (SO (x6 F c 0).1),I (x6 F c 0).2,.bool true]) ?_ (WeakL.refl _) (WeakL.tup (.cons (xb _).agg (WeakL.refl _)));generalize hJ:x6 F c 0=J0;obtain⟨s,den,bl,zn,gm,oh⟩:=d;refine ax Proofs.Tryz.func62 ?_;refine H ?_;refine aT [(1,.sl (c.map eN)),(2,.ptr 2 1 0 0),(4,.ptr 4 1 0 0),(7,I ((0:Nat):Int))] [(2,1,⟨31,14,[cn ⟨s,den,bl,zn,gm,oh⟩],2⟩),(4,1,⟨139,3,[[.bool false,I 0,.nil]],2⟩)] aH ?_;intro s0;refine ah (fun i:Nat=>i<=c.length/\x6 F (c.drop i) i=J0) (fun i=>[(1,.sl (c.map eN)),(2,.ptr 2 1 0 0),(4,.ptr 4 1 0 0),(7,I (i:Nat))])
  (fun i=>[(2,1,⟨31,14,[cn ⟨s,den,bl,zn,gm,oh⟩],2⟩),(4,1,⟨139,3,[[.bool false,I 0,.nil]],2⟩)]) (fun i=>c.length-i) 0 ⟨aP _,by rw[ep];exact hJ⟩ aH ?_
 clear hJ;rintro i s1 ⟨hi,hJ⟩;refine H ?_;rw[hml];refine aS O ?_ ?_<;>intro h
 .have hlt:i<c.length:=aa3 h;clear h;obtain⟨w,hx⟩:=aC hlt;have o1:=BZ w;have hw:=fg i;rw[Cf hx]at hJ;refine aQ hx ?_;refine aj o1 ?_;refine H ?_;cases hin:aG w (-100000) 100000 with
  |false =>
   rw[if_neg (by rw[hin];decide)]at hJ;subst hJ;exact bW
  |true =>
   rw[if_pos hin]at hJ;have hin2:=ej hin;have hwh:=b_ w ⟨J,J⟩;have hst:=hf w (Eb hx) hin;generalize ofQ (w:Rat)=W,(F w).1=L,(F w).2=e at *
   refine H ?_;refine bj [] [] aK ?_;refine aQ hx ?_;refine G hwh ?_;refine G hst ?_;refine H ?_;by_cases h0:e=0
   .subst h0;rw[if_pos O]at hJ;cases L with
    |nil =>
     rw[if_pos O]at hJ;refine H ?_;exact⟨i+1,⟨hlt,hJ⟩,J,O,O,O,congrArg I hw,aH⟩
    |cons x L =>
     rw[if_neg (fun e=>by cases e)]at hJ;subst hJ;refine H ?_;rw[decide_eq_true (show(0:Int)<((((x::L).map cT).length:Nat):Int) by rw[iy,eO];omega)];exact bW
   .rw[if_neg h0]at hJ;subst hJ;rw[decide_eq_false h0];exact bW
 .have hie:i=c.length:=aa4 h;clear h;rw[hie,fH,x6]at hJ;subst hJ;exact bW
theorem y6 (V:Bool × Int × List (Int × Int))(hV:V.2.2.length<=1000000):aO 61 [.agg (eV V),.agg (eV V)] (.bool true):=by
 have sf:=xe V.2.2 hV;obtain⟨o,i,l⟩:=V;simp only at *
 refine ax Proofs.Tryz.func61 ?_;refine H ?_;rw[beq_self_eq_true];refine H ?_;rw[decide_eq_true (show i=i from O)];refine aj sf ?_;exact fC
theorem EU:aO 61 [.agg (eV (false,0,[])),.agg [.bool false,I 0,.nil]] (.bool true) :=
 (y6 (false,0,[]) (aP _)).weak ((WeakL.refl [.agg (eV (false,0,[]))]).app (.cons (xb (false,0,[])).agg .nil)) (Weak.rfl _)
theorem Kd {F:Int->List (Int × Int) × Int}{P:Int->Prop}{Q:Int->Prop}(h:∀w:Int,aG w (-100000) 100000=true->P w/\Q w/\(F w).1.length<=10000):∀(c:List Int) (i:Nat),(x6 F c i).1.2.2.length<=1000000
 |[],i=>by simp[x6]
 |w::c,i=>by
  have ih:=Kd h c (i+1);rw[x6];split
  .rename_i hin;have hw:=(h w hin).2.2;split
   .split
    .exact ih
    .simp only;omega
   .simp
  .simp
theorem JI {d:DKR}(hl:d.Len)(hS:IB d=true)(hE:gF d=0):∃F:Int->List (Int × Int) × Int,∀w:Int,aG w (-100000) 100000=true ->
  aO 121 [.agg (cn d),.agg (eR (ofQ (w:Rat)))] (.tup [.sl ((F w).1.map cT),I (F w).2])/\aO 58 [.agg (cn d),.agg (eR (ofQ (w:Rat)))] (.tup [.sl ((F w).1.map cT),I (F w).2,.bool true])/\(F w).1.length<=10000:=by
 have key:∀w:Int,∃V:List (Int × Int) × Int,aG w (-100000) 100000=true ->
   aO 121 [.agg (cn d),.agg (eR (ofQ (w:Rat)))] (.tup [.sl (V.1.map cT),I V.2])/\aO 58 [.agg (cn d),.agg (eR (ofQ (w:Rat)))] (.tup [.sl (V.1.map cT),I V.2,.bool true])/\V.1.length<=10000:=by
  intro w;by_cases hin:aG w (-100000) 100000=true
  .obtain⟨ha,hb⟩:=ej hin;have zw:Zb w:=aJ J J;have hq4:hq (w:Rat) 4:=HQ.int.ok;have h2:Slim d (ofQ (w:Rat)).val:=by rw[ofQ_val];exact u6 hl hS hE hq4
   obtain⟨V,h⟩:=FI hl (fF hq4) h2;exact⟨V,fun _=>h⟩
  .exact⟨([],0),fun h=>absurd h hin⟩
 exact⟨fun w=>Classical.choose (key w),fun w=>ut (key w)⟩
set_option maxHeartbeats 4000000 in
theorem judges_law (d:DKR)(hl:d.Len)(c:List Int)(hcl:c.length<=9223372036854775807):aO 14 [.agg (cn d),.sl (c.map eN)] (.bool true):=by
 have a:=mb;have s:=u7 d;have hml:(c.map eN).length=c.length:=ao;cases hS:IB d with
 |false =>
  rw[hS]at s;refine ax Proofs.Tryz.func14 ?_;refine aj a ?_;refine aj s ?_;exact fC
 |true =>
 rw[hS]at s;by_cases hbig:210<c.length
 .refine ax Proofs.Tryz.func14 ?_;refine aj a ?_;refine aj s ?_;refine H ?_;rw[hml,decide_eq_true (show(4:Int)<(c.length:Int) by omega)];refine H ?_;rw[hml,decide_eq_false (show ¬(c.length:Int)<=200 by omega)];refine H ?_;rw[hml,decide_eq_true (show(210:Int)<(c.length:Int) by omega)];exact fC
 by_cases hmid:4<c.length/\c.length<=200
 .refine ax Proofs.Tryz.func14 ?_;refine aj a ?_;refine aj s ?_;refine H ?_;rw[hml,decide_eq_true (show(4:Int)<(c.length:Int) by omega)];refine H ?_;rw[hml,decide_eq_true (show(c.length:Int)<=200 by omega)];exact fC
 have sm:=De hS;have ok:=sm.ok hl;have cp:=ox d sm;have ci:=(lQ c J).shared_of_fresh;have r:=lj d ok;have hk:=jq d ok;have sz:=EU
 obtain⟨F,hF⟩:∃F:Int->List (Int × Int) × Int,gF d=0->∀w:Int,aG w (-100000) 100000=true ->
   aO 121 [.agg (cn d),.agg (eR (ofQ (w:Rat)))] (.tup [.sl ((F w).1.map cT),I (F w).2])/\aO 58 [.agg (cn d),.agg (eR (ofQ (w:Rat)))] (.tup [.sl ((F w).1.map cT),I (F w).2,.bool true])/\(F w).1.length<=10000:=by
  by_cases hE:gF d=0
  .obtain⟨F,hF⟩:=JI hl hS hE;exact⟨F,fun _=>hF⟩
  .exact⟨fun _=>([],0),fun h=>absurd h hE⟩
 have p1:=HG d hk c J F fun h w _ hin=>(hF h w hin).1;clear sm ok hk;by_cases hE:gF d=0
 .rw[hE]at r;specialize hF hE;by_cases h4:c.length<=4
  .have p2:=Dv d c J F fun w _ hin=>(hF w hin).2.1;rw[show o9 F d c=x6 F c 0 by rw[o9,if_pos hE,if_pos J]]at p1;have sv:aO 61 [.agg (eV (x6 F c 0).1),.agg (eV (x6 F c 0).1)] (.bool true):=y6 _ (Kd hF c 0);generalize x6 F c 0=J0 at *
   obtain⟨⟨jo,ji,jl⟩,je⟩:=J0;simp only at *
   clear hF;refine ax Proofs.Tryz.func14 ?_;refine aj a ?_;refine aj s ?_;refine H ?_;rw[hml,decide_eq_false (show ¬(4:Int)<(c.length:Int) by omega)];refine H ?_;rw[hml,decide_eq_false (show ¬(210:Int)<(c.length:Int) by omega)];refine G cp ?_;refine G ci ?_;refine G p1 ?_;refine aj r ?_;refine H ?_;rw[hml,decide_eq_false (show ¬(200:Int)<(c.length:Int) by omega)];refine G p2 ?_;refine H ?_;rw[decide_eq_true (show je=je from O)];refine aj sv ?_;exact fC
  .rw[show o9 F d c=((false,0,[]),8) by rw[o9,if_pos hE,if_neg J]]at p1;clear hF;refine ax Proofs.Tryz.func14 ?_;refine aj a ?_;refine aj s ?_;refine H ?_;rw[hml,decide_eq_true (show(4:Int)<(c.length:Int) by omega)];refine H ?_;rw[hml,decide_eq_false (show ¬(c.length:Int)<=200 by omega)];refine H ?_;rw[hml,decide_eq_false (show ¬(210:Int)<(c.length:Int) by omega)];refine G cp ?_;refine G ci ?_;refine G p1 ?_;refine aj r ?_;refine H ?_;rw[hml,decide_eq_true (show(200:Int)<(c.length:Int) by omega)];refine aj sz ?_;exact fC
 .rw[show o9 F d c=((false,0,[]),gF d) by rw[o9,if_neg hE]]at p1;clear hF;generalize gF d=E at *
  by_cases h4:4<c.length
  .refine ax Proofs.Tryz.func14 ?_;refine aj a ?_;refine aj s ?_;refine H ?_;rw[hml,decide_eq_true (show(4:Int)<(c.length:Int) by omega)];refine H ?_;rw[hml,decide_eq_false (show ¬(c.length:Int)<=200 by omega)];refine H ?_;rw[hml,decide_eq_false (show ¬(210:Int)<(c.length:Int) by omega)];refine G cp ?_;refine G ci ?_;refine G p1 ?_;refine aj r ?_;refine H ?_;rw[decide_eq_false hE];refine H ?_;rw[decide_eq_true (show E=E from O)];refine aj sz ?_;exact fC
  .refine ax Proofs.Tryz.func14 ?_;refine aj a ?_;refine aj s ?_;refine H ?_;rw[hml,decide_eq_false (show ¬(4:Int)<(c.length:Int) by omega)];refine H ?_;rw[hml,decide_eq_false (show ¬(210:Int)<(c.length:Int) by omega)];refine G cp ?_;refine G ci ?_;refine G p1 ?_;refine aj r ?_;refine H ?_;rw[decide_eq_false hE];refine H ?_;rw[decide_eq_true (show E=E from O)];refine aj sz ?_;exact fC
end Go.Pv
