/- Texts of one hand, gathered: DoB, DlQ, DlS, DlU, DlV, DoC, DoD, DoE, DoF. -/
import Derived.Test.YtaeeehokaleakaaGreatBa5
set_option maxRecDepth 20000
set_option linter.unusedSectionVars false
set_option linter.unusedSimpArgs false
set_option linter.unusedVariables false
set_option linter.unnecessarySimpa false
set_option maxHeartbeats 2000000
namespace Go.Pv
attribute [local irreducible] PWP POps PQuiet PSem aE aw aj ak
open Go.Proofs
theorem Sk (l:List Rat):∀a:Rat,l.foldl (·+·) a=a+aX l:=by
 induction l with
 |nil=>intro a;show a=a+0;grind
 |cons x l ih =>
  intro a;have h2:aX (x::l)=(0+x)+aX l:=by rw[aX,fB];exact ih _
  rw[fB,ih,h2];grind
theorem gZ (x:Rat)(l:List Rat):aX (x::l)=x+aX l:=by
 rw[aX,List.foldl_cons,Sk];grind
theorem wX (l m:List Rat):aX (l++m)=aX l+aX m:=by
 rw[aX,kA,Sk];rfl
theorem yU {l m:List Rat}(h:l.Perm m):aX l=aX m:=by
 induction h with
 |nil=>rfl
 |cons x _ ih=>rw[gZ,gZ,ih]
 |swap x y l=>rw[gZ,gZ,gZ,gZ];grind
 |trans _ _ h1 h2=>exact h1.trans h2
def Ln (X:Int)(y:Int × Rat):Rat:=if y.1<=X then y.2 else 0
def Mm (X:Int)(y:Int × Rat):Rat:=if y.1<=X then y.2*((X-y.1:Int):Rat) else 0
def gK (L:List (Int × Rat))(X:Int):Rat:=aX (L.map (Ln X))
def iK (L:List (Int × Rat))(X:Int):Rat:=aX (L.map (Mm X))
theorem Lm {L M:List (Int × Rat)}(h:L.Perm M)(X:Int):gK L X=gK M X:=yU (h.map _)
theorem Kl {L M:List (Int × Rat)}(h:L.Perm M)(X:Int):iK L X=iK M X:=yU (h.map _)
theorem wK (L:List (Int × Rat))(y:Int × Rat)(X:Int):gK (L++[y]) X=if y.1<=X then gK L X+y.2 else gK L X:=by
 rw[gK,bj,cn,dp,jy,Ln];split
 .rfl
 .show gK L X+0=_;grind
theorem wi (L:List (Int × Rat))(y:Int × Rat)(X:Int):iK (L++[y]) X=if y.1<=X then iK L X+y.2*((X-y.1:Int):Rat) else iK L X:=by
 rw[iK,bj,cn,dp,jy,Mm];split
 .rfl
 .show iK L X+0=_;grind
theorem Lp {F:List (Int × Rat)}{B X:Int}(h:∀y∈F,(y.1<=B↔y.1<=X)):gK F B=gK F X:=by
 rw[gK,gK];congr 1;refine da fun y hy=>?_;rw[Ln,Ln];by_cases h1:y.1<=B
 .rw[if_pos h1,if_pos ((h y hy).1 h1)]
 .rw[if_neg h1,if_neg (fun g=>h1 ((h y hy).2 g))]
theorem B_ {B X:Int}:∀ {F:List (Int × Rat)},(∀y∈F,(y.1<=B↔y.1<=X))->iK F X=iK F B+gK F B*((X-B:Int):Rat)
 |[],_=>by show(0:Rat)=0+0*_;grind
 |y::F,h=>by
  have ih:=B_ (F:=F) fun z hz=>h z (ff _ hz);have hy:=h y ez;have e1:∀Y0,iK (y::F) Y0=Mm Y0 y+iK F Y0:=fun Y0=>by rw[iK,cn,gZ];rfl
  have e2:gK (y::F) B=Ln B y+gK F B:=by rw[gK,cn,gZ];rfl
  rw[e1,e1,e2,ih,Mm,Mm,Ln];by_cases h1:y.1<=B
  .rw[if_pos h1,if_pos h1,if_pos (hy.1 h1)];have e3:((X-y.1:Int):Rat)=((B-y.1:Int):Rat)+((X-B:Int):Rat):=by
    rw[<-k8];congr 1;omega
   rw[e3];grind
  .rw[if_neg h1,if_neg h1,if_neg (fun g=>h1 (hy.2 g))];grind
def QA (X:Int)(acc:Rat × Rat)(e:Int × Rat × Rat):Rat × Rat:=if e.1<=X then(e.2.1,e.2.2+e.2.1*((X-e.1:Int):Rat)) else acc
theorem vB (F:List (Int × Rat))(X:Int):∀(P:List Int) (B:Int) (acc:Rat × Rat),P.Pairwise (·<·)->(∀p∈P,B<p)->B<=X->acc=(gK F B,iK F B+gK F B*((X-B:Int):Rat))->(∀y∈F,B<y.1->y.1<=X->y.1∈P) ->
  (P.map fun p=>(p,gK F p,iK F p)).foldl (QA X) acc=(gK F X,iK F X)
 |[],B,acc,_,_,hB,ha,hF=>by
  have hc:∀y∈F,(y.1<=B↔y.1<=X):=fun y hy=>⟨fun h=>by omega,fun h=>by
   by_cases h1:B<y.1
   .have:=hF y hy h1 h;cases this
   .omega⟩
  rw[dp,List.foldl_nil,ha,B_ hc,Lp hc]
 |p::P,B,acc,hP,hb,hB,ha,hF=>by
  obtain⟨h1,h2⟩:=jq.1 hP;rw[cn,fB,QA];by_cases hpX:p<=X
  .rw[if_pos hpX];refine vB F X P p _ h2 h1 hpX O fun y hy g1 g2=>?_;have hbp:=hb p ez;rcases bV.1 (hF y hy J g2) with e|e
   .omega
   .exact e
  .rw[if_neg hpX];refine vB F X P B acc h2 (fun q hq=>hb q (ff _ hq)) hB ha fun y hy g1 g2=>?_;rcases bV.1 (hF y hy g1 g2) with e|e
   .omega
   .exact e
theorem NL {F:List (Int × Rat)}{B:Int}(h:∀y∈F,B<y.1):gK F B=0/\iK F B=0:=by
 induction F with
 |nil=>exact⟨rfl,rfl⟩
 |cons y F ih =>
  obtain⟨i1,i2⟩:=ih fun z hz=>h z (ff _ hz);have hy:=h y ez;constructor
  .rw[gK,cn,gZ,Ln,if_neg J];show 0+gK F B=0;rw[i1];grind
  .rw[iK,cn,gZ,Mm,if_neg J];show 0+iK F B=0;rw[i2];grind
theorem Fc:∀ {P Q:List Int},P.Pairwise (·<·)->Q.Pairwise (·<·)->(∀x,x∈P↔x∈Q)->P=Q
 |[],[],_,_,_=>rfl
 |[],q::Q,_,_,h=>by have:=(h q).2 ez;cases this
 |p::P,[],_,_,h=>by have:=(h p).1 ez;cases this
 |p::P,q::Q,hP,hQ,h=>by
  obtain⟨p1,p2⟩:=jq.1 hP;obtain⟨q1,q2⟩:=jq.1 hQ;have e:p=q:=by
   rcases bV.1 ((h p).1 ez) with e|e
   .exact e
   .rcases bV.1 ((h q).2 ez) with g|g
    .exact g.symm
    .have:=q1 p e;have:=p1 q g;omega
  subst e;rw[Fc p2 q2 fun x=>?_];constructor
  .intro hx;rcases bV.1 ((h x).1 (ff _ hx)) with e|e
   .have:=p1 x hx;omega
   .exact e
  .intro hx;rcases bV.1 ((h x).2 (ff _ hx)) with e|e
   .have:=q1 x hx;omega
   .exact e
def jW:List Int->Int->List Int
 |[],n=>[n]
 |x::l,n=>if n<=x then(if n<x then n::x::l else x::l) else x::jW l n
theorem An:∀(l:List Int) (n x:Int),x∈jW l n↔x=n\/x∈l
 |[],n,x=>by simp[jW]
 |y::l,n,x=>by
  rw[jW];split
  .split
   .simp
   .have:n=y:=J;subst this;simp
  .rw[bV,An l n x,bV];grind
theorem Gu:∀ {l:List Int} (n:Int),l.Pairwise (·<·)->(jW l n).Pairwise (·<·)
 |[],n,_=>List.pairwise_singleton _ _
 |y::l,n,h=>by
  obtain⟨h1,h2⟩:=jq.1 h;rw[jW];split
  .split
   .rename_i h4;exact jq.2 ⟨fun z hz=>by
     rcases bV.1 hz with e|e
     .omega
     .have:=h1 z e;omega,h⟩
   .exact h
  .refine jq.2 ⟨fun z hz=>?_,Gu n h2⟩;rcases(An l n z).1 hz with e|e
   .omega
   .exact h1 z e
theorem Gw:∀(l:List Int) (n:Int),(jW l n).length<=l.length+1
 |[],n=>by simp[jW]
 |y::l,n=>by
  have:=Gw l n;rw[jW];split
  .split<;>simp
  .simp;exact this
def dI (l:List Int)(ns:List Int):List Int:=ns.foldl jW l
theorem nO {l:List Int}:∀(ns:List Int),l.Pairwise (·<·)->(dI l ns).Pairwise (·<·):=by
 intro ns
 induction ns generalizing l with
 |nil=>exact fun h=>h
 |cons n ns ih=>exact fun h=>ih (Gu n h)
theorem i8:∀(ns:List Int) (l:List Int) (x:Int),x∈dI l ns↔x∈ns\/x∈l
 |[],l,x=>by simp[dI]
 |n::ns,l,x=>by
  rw[show dI l (n::ns)=dI (jW l n) ns from O,i8 ns,An,bV];grind
theorem io:∀(ns:List Int) (l:List Int),(dI l ns).length<=l.length+ns.length
 |[],l=>by simp[dI]
 |n::ns,l=>by
  have h1:=io ns (jW l n);have h2:=Gw l n;rw[show dI l (n::ns)=dI (jW l n) ns from O,dl];omega
theorem sw (l ns:List Int)(n:Int):dI l (ns++[n])=jW (dI l ns) n:=by rw[dI,kA];rfl
def Fs (acc:List Int)(x:Int):List Int:=if acc.getLast? = some x then acc else acc++[x]
def lJ (l:List Int):List Int:=l.foldl Fs []
theorem Cs (l:List Int)(x:Int):lJ (l++[x])=Fs (lJ l) x:=by rw[lJ,kA];rfl
theorem MS (acc:List Int)(x:Int):(Fs acc x).getLast? = some x:=by
 rw[Fs];split
 .assumption
 .simp
theorem PG (acc:List Int)(x:Int):(Fs acc x).length<=acc.length+1:=by
 rw[Fs];split<;>simp
theorem BW {l:List Int}{z:Int}(h:l.Pairwise (·<·))(hz:l.getLast? = some z):∀a∈l,a<=z:=by
 intro a ha;obtain⟨ys,rfl⟩:=List.getLast?_eq_some_iff.1 hz;rcases dJ.1 ha with h1|h1
 .have:=(mu.1 h).2.2 a h1 z ap;omega
 .simp at h1;omega
theorem rp:∀(l acc:List Int),acc.Pairwise (·<·)->(∀a∈acc,∀b∈l,a<=b)->l.Pairwise (·<=·)->(l.foldl Fs acc).Pairwise (·<·)/\∀x,x∈l.foldl Fs acc↔x∈acc\/x∈l
 |[],acc,h,_,_=>⟨h,fun x=>by simp⟩
 |x::l,acc,h,ha,hl=>by
  obtain⟨l1,l2⟩:=jq.1 hl;have hax:=fun a h=>ha a h x ez;rw[fB,Fs];by_cases hlast:acc.getLast? = some x
  .rw[if_pos hlast];obtain⟨r1,r2⟩:=rp l acc h (fun a g b hb=>ha a g b (ff _ hb)) l2;refine⟨r1,fun z=>?_⟩;rw[r2 z,bV];have hx:x∈acc:=List.mem_of_getLast? hlast;constructor
   .rintro(g|g)
    .exact .inl g
    .exact .inr (.inr g)
   .rintro(g|g|g)
    .exact .inl g
    .subst g;exact .inl hx
    .exact .inr g
  .rw[if_neg hlast];have hlt:∀a∈acc,a<x:=fun a g=>by
    cases e:acc.getLast? with
    |none=>rw[List.getLast?_eq_none_iff.1 e]at g;cases g
    |some z =>
     have h1:=BW h e a g;have h2:=hax z (List.mem_of_getLast? e);have h3:z≠x:=fun q=>hlast (by rw[e,q]);omega
   obtain⟨r1,r2⟩:=rp l (acc++[x]) (mu.2 ⟨h,List.pairwise_singleton _ _,fun a g b hb=>by simp at hb;rw[hb];exact hlt a g⟩) (fun a g b hb=>by
    rcases dJ.1 g with g|g
    .exact ha a g b (ff _ hb)
    .simp at g;rw[g];exact l1 b hb) l2
   refine⟨r1,fun z=>?_⟩;rw[r2 z,dJ,mC,bV];grind
theorem Gq {l:List Int}(h:l.Pairwise (·<=·)):(lJ l).Pairwise (·<·):=(rp l [] .nil (fun a h=>by cases h) h).1
theorem Nd {l:List Int}(h:l.Pairwise (·<=·))(x:Int):x∈lJ l↔x∈l:=by
 have:=(rp l [] .nil (fun a h=>by cases h) h).2 x;simpa [lJ] using this
theorem Gr (l:List Int):(lJ l).length<=l.length:=by
 have:∀(l acc:List Int),(l.foldl Fs acc).length<=acc.length+l.length:=by
  intro l
  induction l with
  |nil=>intro acc;simp
  |cons x l ih=>intro acc;have h1:=ih (Fs acc x);have h2:=PG acc x;rw[fB,dl];omega
 simpa [lJ] using this l []
structure OvOk (d:DKR):Prop where
 st:∀t∈d.s.st,StOk t
 n:d.s.st.length<=1000
 p:1<=d.s.st.length
 b:∀b∈d.bl,-1000000<=b.x/\b.x<=1000000/\1<=b.hf/\b.hf<=10000
 m:d.bl.length<=1000
theorem NN {s:SHP}(h:f7 s=0):1<=s.st.length:=by
 rw[f7]at h;split at h
 .split at h
  .rename_i q;have:=iA q.2;omega
  .exact absurd h Y
 .exact absurd h Y
theorem RM {d:DKR}(ok:d.Ok)(h:xB d=0):OvOk d:=by
 obtain⟨hk,-,hf⟩:=Jv ok h;have hn:=hk.n;have hm:=hk.m;exact⟨hk.st,J,NN (iT hf),fun b hb=>⟨(hk.b b hb).1.x.1,(hk.b b hb).1.x.2,(hk.b b hb).1.hf.1,(hk.b b hb).1.hf.2⟩,J⟩
def eFq (p:Int × Rat):List PV:=I p.1::eR (ofQ p.2)
def Oe (p:Int × Rat):FOR:=⟨p.1,ofQ p.2⟩
def cZ (S:List (Int × Rat))(X:Int):Int × Rat × Rat:=(X,gK S X,iK S X)
def gR (e:Int × Rat × Rat):List PV:=I e.1::(eR (ofQ e.2.1)++eR (ofQ e.2.2))
def nh (w:LR):Int × Rat:=(w.x,((-w.m:Int):Rat))
def mW (bl:List BKR)(v:List Rat):List (Int × Rat):=(bl.zip v).map fun p=>(p.1.x,p.2)
def nj (L:List (Int × Rat)):List (Int × Rat):=b_ (fun p=>(p.1:Rat)) L
def tI (L:List (Int × Rat)):List (Int × Rat × Rat):=(lJ ((nj L).map Prod.fst)).map (cZ (nj L))
theorem AV (L:List (Int × Rat)):(nj L).length=L.length:=fj _ _
theorem nV (L:List (Int × Rat)):(nj L).Perm L:=iG _ _
theorem LI (L:List (Int × Rat)):(b_ qw (L.map Oe)).map eFo=(nj L).map eFq:=by
 rw[show b_ qw (L.map Oe)=(b_ (fun a=>qw (Oe a)) L).map Oe from IB qw Oe L,dU];rfl
theorem AU (L:List (Int × Rat)):((nj L).map Prod.fst).Pairwise (·<=·) :=
 List.pairwise_map.2 ((jb (fun p:Int × Rat=>(p.1:Rat)) L).imp fun h=>Rat.intCast_le_intCast.1 h)
theorem L9 (L:List (Int × Rat)):L.map eFq=(L.map Oe).map eFo:=by rw[dU];rfl
theorem zo (L:List (Int × Rat)):(L.map eFq).length=L.length:=aF _
theorem Dt {bl:List BKR}{v:List Rat}{i:Nat}{b:BKR}{q:Rat}(h1:bl[i]?=some b)(h2:v[i]?=some q):(mW bl v)[i]?=some (b.x,q):=by
 rw[mW,bw,(FV (z:=(b,q))).2 ⟨h1,h2⟩];rfl
theorem DF {bl:List BKR}{v:List Rat}(h:v.length=bl.length):(mW bl v).length=bl.length:=by
 rw[mW,aF,List.length_zip,h];omega
theorem PX:hq (0:Rat) 4:=by
 have zz:Zb 0:=aI Y Y;exact(HQ.int (z:=0)).ok
theorem yM {N:Nat}{L:List (Int × Rat)}{X:Int}(h:∀y∈L,hq y.2 N):hq (gK L X) ((N+4+1)*L.length+4):=by
 have:=nZ (N:=N+4) (l:=L.map (Ln X)) fun q hq=>by
  obtain⟨y,hy,rfl⟩:=aW.1 hq;rw[Ln];split
  .exact cx (h y hy) J
  .exact cx PX J
 rwa [aF]at this
theorem yj {N:Nat}{L:List (Int × Rat)}{X:Int}(h:∀y∈L,hq y.2 N)(hb:∀y∈L,-1000000<=y.1/\y.1<=1000000)(hX : -1000000<=X/\X<=1000000):hq (iK L X) ((N+10+1)*L.length+4):=by
 have:=nZ (N:=N+10) (l:=L.map (Mm X)) fun q hq=>by
  obtain⟨y,hy,rfl⟩:=aW.1 hq;rw[Mm];split
  .have hy2:=hb y hy;have zx:Zb (X-y.1):=aI J J;exact cx (@HQ.mul _ _ N 4 ⟨h y hy⟩ HQ.int).ok J
  .exact cx PX J
 rwa [aF]at this
theorem dY {α:Type}{l:List α}{i:Nat}{x:α}(h:l[i]?=some x):l.take (i+1)=l.take i++[x]:=bR h
abbrev Cc (d:DKR):Nat × Nat × Cont:=(2,1,⟨56,14,[fv d],2⟩)
abbrev A_ (k:Nat)(x:DQ):Nat × Nat × Cont:=(k,1,⟨65,39,[xq x],2⟩)
abbrev Mo (s:SHP):Nat × Nat × Cont:=(3,1,⟨27,9,[fx s],2⟩)
abbrev Mn (a:AR):Nat × Nat × Cont:=(4,1,⟨43,8,[eA a],2⟩)
structure FrOk (L:List (Int × Rat)):Prop where
 n:L.length<=20
 x:∀y∈L,-1000000<=y.1/\y.1<=1000000
 q:∀y∈L,hq y.2 100000
set_option maxHeartbeats 4000000 in
theorem KG (d:DKR)(lv:RR)(x:DQ)(Z:RR)(v:List Rat)(sq:ST->Rat)(hv:v.length=d.bl.length)(hF:x.F=v.map ofQ)
  (hok:FrOk (d.s.st.map (fun t=>(t.x,sq t))++(d.s.light::d.s.it).map nh++mW d.bl v))
  (hO:OvOk d) (hd:0<=d.d/\d.d<=1100) (hm:∀w∈d.s.light::d.s.it,0<=w.m/\w.m<=1000000000)
  (h21:aU 71 [.agg (fv d),.agg (eR lv)] (.tup [.agg (xq x),I 0])) (hZ:aU 74 [.agg (eR x.a.z),.agg (eR lv)] (.agg (eR Z)))
  (hs:∀t∈d.s.st,∃Y0 A U:RR,aU 76 [.agg (eR Z++eR x.a.t),I t.x] (.agg (eR Y0))/\aU 75 [.agg (eT t),.agg (eR Y0)] (.tup [.agg (eR A),I 0])/\aU 77 [I (t.w*d.d),I 1000000000] (.tup [.agg (eR U),I 0])/\aU 78 [.agg (eR A),.agg (eR U)] (.agg (eR (ofQ (sq t))))) :
  aU 27 [.agg (fv d),.agg (eR lv)] (.tup [.sl ((tI (d.s.st.map (fun t=>(t.x,sq t))++(d.s.light::d.s.it).map nh++mW d.bl v)).map gR),I 0]):=by
 have hml:(d.s.st.map eT).length=d.s.st.length:=ap;have hbl:(d.bl.map eBk).length=d.bl.length:=ap;have hzl:=DF hv;obtain⟨hst,hsn,-,-,-⟩:=hO;generalize hLL:d.s.st.map (fun t=>(t.x,sq t))++(d.s.light::d.s.it).map nh++mW d.bl v=L at *
 obtain⟨hn20,hxb,hqb⟩:=hok;have hLn:d.s.st.length+(d.s.it.length+1)+d.bl.length=L.length:=by rw[<-hLL,bQ,bQ,aF,aF,dl,hzl]
 obtain⟨s,den,bl,zn,gm,oh⟩:=d;obtain⟨xlv,⟨az,at'⟩,xF,xup,xbu,⟨x1,x2,x3,x4⟩,xh,xp⟩:=x;simp only at *
 refine aD Proofs.Tryz.func27 ?_;refine G h21 ?_;refine cV 4 ?_;refine aQ [(2,.ptr 2 1 0 0),(3,.ptr 3 1 0 0),(6,.ptr 6 1 0 0)] [Cc ⟨s,den,bl,zn,gm,oh⟩,(3,1,⟨41,4,[eR lv],2⟩),A_ 6 ⟨xlv,⟨az,at'⟩,xF,xup,xbu,⟨x1,x2,x3,x4⟩,xh,xp⟩] ah ?_;intro s0;refine ao (e_ 8) ?_;refine a_ [(9,8),(10,8)] aH aH ?_;refine G hZ ?_;refine cV 6 ?_;refine ao (Ghost.nilreg (k:=5) (t:=9) 156 5 1 O O) ?_;refine H ?_;rw[hml];refine aQ [(2,.ptr 2 1 0 0),(6,.ptr 6 1 0 0),(8,.ptr 8 ((s0.own 8).1+2+1) 0 0),(9,.als 5 ((s0.own 5).1+1) 0 0),(46,.sl (s.st.map eT)),(47,I s.st.length),(48,I ((0:Nat):Int))] [Cc ⟨s,den,bl,zn,gm,oh⟩,A_ 6 ⟨xlv,⟨az,at'⟩,xF,xup,xbu,⟨x1,x2,x3,x4⟩,xh,xp⟩,(8,(s0.own 8).1+2+1,⟨43,8,[eR Z++eR at'],2⟩),(5,(s0.own 5).1+1,⟨156,5,[],1⟩)] ah ?_;generalize (s0.own 8).1+2+1=g8;generalize (s0.own 5).1+1=g5;intro s1;refine ai (fun i:Nat=>i<=s.st.length) (fun i=>[(2,.ptr 2 1 0 0),(6,.ptr 6 1 0 0),(8,.ptr 8 g8 0 0),(9,.als 5 (g5+i) 0 (((s.st.take i).map fun t=>(t.x,sq t)).map eFq).length),(46,.sl (s.st.map eT)),(47,I s.st.length),(48,I (i:Nat))])
  (fun i=>[Cc ⟨s,den,bl,zn,gm,oh⟩,A_ 6 ⟨xlv,⟨az,at'⟩,xF,xup,xbu,⟨x1,x2,x3,x4⟩,xh,xp⟩,(8,g8,⟨43,8,[eR Z++eR at'],2⟩),(5,g5+i,⟨156,5,((s.st.take i).map fun t=>(t.x,sq t)).map eFq,1⟩)]) (fun i=>s.st.length-i) 0 (aP _) ah ?_
 intro i s2 hi;refine D ?_ ?_<;>intro h
 .have hlt:i<s.st.length:=cw h;clear h;obtain⟨t,hx⟩:=ay hlt;obtain⟨Y0,A,U,k1,k2,k3,k4⟩:=hs t (bC hx);obtain⟨-,⟨w1,w2⟩,-⟩:=hst t (bC hx);have hmul:IntKind.i64.wrap (t.w*den)=t.w*den:=by
   have e1:0<=t.w*den:=iU J hd.1;have e2:t.w*den<=100000*1100:=oC w2 hd.2 hd.1 Y;exact wrap_i64 J J
  have hw:=dN i;have hrow:((s.st.take (i+1)).map fun t=>(t.x,sq t)).map eFq=((s.st.take i).map fun t=>(t.x,sq t)).map eFq++[I t.x::eR (ofQ (sq t))]:=by rw[dY hx,bj,bj];rfl
  have hll:(((s.st.take i).map fun t=>(t.x,sq t)).map eFq).length<=100:=by rw[zo,aF,bc];omega
  have hb:g5+(i+1)=g5+i+1:=O;generalize ((s.st.take i).map fun t=>(t.x,sq t)).map eFq=R0,ofQ (sq t)=Q at *
  obtain⟨tx,tw,tL,tH⟩:=t;simp only at *
  refine aN hx ?_;refine cV 9 ?_;refine ao (e_ 12) ?_;refine a_ [(9,12),(10,12)] aH aH ?_;refine G k1 ?_;refine G k2 ?_;refine H ?_;rw[hmul];refine oJ O O O k3 O O ?_;refine H ?_;refine bL [77,5] [7,8,9] aH ?_;refine G k4 ?_;refine H ?_;refine jQ O O O (bb 1 O O O O O O O O O O O ah O ⟨fU O,?_⟩);refine H ?_;refine jQ O O O (bO 1 O O O O O O O O O O O ah (by intro row hr;first|(simp at hr;subst hr;rfl)|(simp at hr;obtain⟨_,_,rfl⟩:=hr;rfl)|simp at hr) O O aS aS ⟨fU O,?_⟩);refine H ?_;refine⟨i+1,hlt,J,O,O,O,?_,O,O,congrArg I hw,O,O,O,?_,bh⟩
  .rw[hrow,hb];rfl
  .rw[hrow,hb];rfl
 have hie:i=s.st.length:=co h;clear h hs;subst hie;rw[bI];have hlds:(s.light::s.it).length=s.it.length+1:=O;have hldr:[eLd s.light]++s.it.map eLd=(s.light::s.it).map eLd:=O;have hlln:((s.light::s.it).map eLd).length=s.it.length+1:=ap;generalize hS1:s.st.map (fun t=>(t.x,sq t))=S1 at *
 have hS1n:S1.length=s.st.length:=by rw[<-hS1,aF]
 generalize g5+s.st.length=g5;refine H ?_;refine aC (bb 1 O O O O O O O O O O O ah O ?_);refine H ?_;refine aC (bO 1 O O O O O O O O O O O ah (by intro row hr;obtain⟨_,_,rfl⟩:=aW.1 hr;rfl) O O aS aS ?_);refine H ?_;refine ao (Ghost.takeD (k:=83) (t:=87) O O O) ?_;refine aQ [(2,.ptr 2 1 0 0),(6,.ptr 6 1 0 0),(9,.als 5 g5 0 (S1.map eFq).length),(87,.sl ((s.light::s.it).map eLd)),(88,I (s.it.length+1:Nat)),(89,I ((0:Nat):Int))] [Cc ⟨s,den,bl,zn,gm,oh⟩,A_ 6 ⟨xlv,⟨az,at'⟩,xF,xup,xbu,⟨x1,x2,x3,x4⟩,xh,xp⟩,(5,g5,⟨156,5,S1.map eFq,1⟩)] ⟨O,O,O,O,congrArg (fun n:Nat=>I n) hlln,ah⟩ ?_;intro s3;generalize hLD:s.light::s.it=LD at *
 have hLDn:LD.length=s.it.length+1:=by rw[<-hLD];rfl
 refine ai (fun i:Nat=>i<=LD.length) (fun i=>[(2,.ptr 2 1 0 0),(6,.ptr 6 1 0 0),(9,.als 5 (g5+i) 0 ((S1++(LD.take i).map nh).map eFq).length),(87,.sl (LD.map eLd)),(88,I (s.it.length+1:Nat)),(89,I (i:Nat))])
  (fun i=>[Cc ⟨s,den,bl,zn,gm,oh⟩,A_ 6 ⟨xlv,⟨az,at'⟩,xF,xup,xbu,⟨x1,x2,x3,x4⟩,xh,xp⟩,(5,g5+i,⟨156,5,(S1++(LD.take i).map nh).map eFq,1⟩)]) (fun i=>LD.length-i) 0 (aP _) ⟨O,O,by rw[dK,dp,cu];rfl,O,O,O,O,O,by rw[dK,dp,cu];rfl,bh⟩ ?_
 intro i s4 hi;refine D ?_ ?_<;>intro h
 .have hlt:i<LD.length:=cw h;clear h;obtain⟨w,hx⟩:=ay hlt;obtain⟨w1,w2⟩:=hm w (bC hx);have hneg:IntKind.i64.wrap (0-w.m) = -w.m:=by rw[wrap_i64 J J];omega
  have wl:=lP (-w.m) ⟨J,J⟩;have hw:=dN i;have hrow:(S1++(LD.take (i+1)).map nh).map eFq=(S1++(LD.take i).map nh).map eFq++[I w.x::eR (ofQ ((-w.m:Int):Rat))]:=by rw[dY hx,show(LD.take i++[w]).map nh=(LD.take i).map nh++[nh w] from(by rw[bj];rfl),<-bg,bj];rfl
  have hll:((S1++(LD.take i).map nh).map eFq).length<=100:=by rw[zo,bQ,aF,bc];omega
  have hb:g5+(i+1)=g5+i+1:=O;generalize (S1++(LD.take i).map nh).map eFq=R0,ofQ ((-w.m:Int):Rat)=Q at *
  obtain⟨wn,wm,wx,wz,wf⟩:=w;simp only at *
  refine aN hx ?_;refine H ?_;refine bL [101,5] [8,9,10] aH ?_;refine H ?_;rw[hneg];refine oJ O O O wl O O ?_;refine H ?_;refine jQ O O O (bb 1 O O O O O O O O O O O ah O ⟨fU O,?_⟩);refine H ?_;refine jQ O O O (bO 1 O O O O O O O O O O O ah (by intro row hr;first|(simp at hr;subst hr;rfl)|(simp at hr;obtain⟨_,_,rfl⟩:=hr;rfl)|simp at hr) O O aS aS ⟨fU O,?_⟩);refine H ?_;refine⟨i+1,hlt,J,O,O,?_,O,O,congrArg I hw,O,O,?_,bh⟩
  .rw[hrow,hb];rfl
  .rw[hrow,hb];rfl
 have hie:i=LD.length:=co h;clear h;subst hie;rw[bI];generalize hS2:S1++LD.map nh=S2 at *
 have hS2n:S2.length=s.st.length+(s.it.length+1):=by rw[<-hS2,bQ,aF];omega
 generalize g5+LD.length=g5;refine H ?_;rw[hbl];refine ai (fun i:Nat=>i<=bl.length) (fun i=>[(6,.ptr 6 1 0 0),(9,.als 5 (g5+i) 0 ((S2++(mW bl v).take i).map eFq).length),(105,.sl (bl.map eBk)),(106,I bl.length),(107,I (i:Nat))])
  (fun i=>[A_ 6 ⟨xlv,⟨az,at'⟩,xF,xup,xbu,⟨x1,x2,x3,x4⟩,xh,xp⟩,(5,g5+i,⟨156,5,(S2++(mW bl v).take i).map eFq,1⟩)]) (fun i=>bl.length-i) 0 (aP _) ⟨O,by rw[dK,cu];rfl,O,O,O,O,by rw[dK,cu];rfl,bh⟩ ?_
 intro i s5 hi;refine D ?_ ?_<;>intro h
 .have hlt:i<bl.length:=cw h;clear h;obtain⟨b,hx⟩:=ay hlt;obtain⟨q,hq⟩:=ay (show i<v.length by omega);have hxq:xF[i]?=some (ofQ q):=by rw[hF,bw,hq];rfl
  have hxz:=Dt hx hq;have hw:=dN i;have hrow:(S2++(mW bl v).take (i+1)).map eFq=(S2++(mW bl v).take i).map eFq++[I b.x::eR (ofQ q)]:=by rw[dY hxz,<-bg,bj];rfl
  have hll:((S2++(mW bl v).take i).map eFq).length<=100:=by rw[zo,bQ,bc];omega
  have hb:g5+(i+1)=g5+i+1:=O;generalize (S2++(mW bl v).take i).map eFq=R0,ofQ q=Q at *
  obtain⟨bx,bz,bhf,bht,bwd,bst,blim,bside⟩:=b;simp only at *
  refine aN hx ?_;refine H ?_;refine bL [121,5] [9,10,11] aH ?_;refine aN hxq ?_;refine H ?_;refine jQ O O O (bb 1 O O O O O O O O O O O ah O ⟨fU O,?_⟩);refine H ?_;refine jQ O O O (bO 1 O O O O O O O O O O O ah (by intro row hr;first|(simp at hr;subst hr;rfl)|(simp at hr;obtain⟨_,_,rfl⟩:=hr;rfl)|simp at hr) O O aS aS ⟨fU O,?_⟩);refine H ?_;refine⟨i+1,hlt,J,O,?_,O,O,congrArg I hw,O,?_,bh⟩
  .rw[hrow,hb];rfl
  .rw[hrow,hb];rfl
 have hie:i=bl.length:=co h;clear h;subst hie;rw[<-hzl,bI,hLL];generalize g5+(mW bl v).length=g5;clear hF hv hbl hml hzl hS1n hS2n hLDn hlln hldr hlds;rw[L9];refine aQ [(9,.als 5 g5 0 ((L.map Oe).map eFo).length)] [(5,g5,⟨156,5,(L.map Oe).map eFo,1⟩)] ah ?_;intro s6
 (refine cV 23 ?_;refine aR 1 ?_)
 refine iQ O ?_;refine bJ ?_;refine br O (LB (L.map Oe) (by rw[aF];exact hn20) O O (fun p hp=>by
  obtain⟨y,hy,rfl⟩:=aW.1 hp;have:=hxb y hy;show -2000000<=y.1/\y.1<=2000000
  omega) ⟨O,bh⟩ fun s7=>?_)
 refine aT ?_;refine cV 24 ?_;rw[LI];refine ao (Ghost.takeD (k:=5) (t:=9) O O (by rw[aF,aF,aF,AV])) ?_;have hSx:∀y∈nj L,-1000000<=y.1/\y.1<=1000000:=fun y hy=>hxb y ((nV L).mem_iff.1 hy);have hSq:∀y∈nj L,hq y.2 100000:=fun y hy=>hqb y ((nV L).mem_iff.1 hy);have hSn:(nj L).length<=20:=by rw[AV];exact hn20
 have hR:tI L=(lJ ((nj L).map Prod.fst)).map (cZ (nj L)):=O;rw[hR];clear hR;generalize nj L=S at *
 have hSl:(S.map eFq).length=S.length:=zo S;refine cV 25 ?_;refine ao (Ghost.nilreg (k:=1003) (t:=20) 87 9 1 O O) ?_;refine H ?_;rw[hSl];refine aQ [(9,.sl (S.map eFq)),(20,.als 1003 ((s7.own 1003).1+1) 0 0),(126,.sl (S.map eFq)),(127,I S.length),(128,I ((0:Nat):Int))] [(1003,(s7.own 1003).1+1,⟨87,9,[],1⟩)] ah ?_;generalize (s7.own 1003).1+1=g0;intro s8;refine ai (fun i:Nat=>i<=S.length) (fun i=>[(9,.sl (S.map eFq)),(20,.als 1003 (g0+(lJ ((S.take i).map Prod.fst)).length) 0 (((lJ ((S.take i).map Prod.fst)).map (cZ S)).map gR).length),(126,.sl (S.map eFq)),(127,I S.length),(128,I (i:Nat))])
  (fun i=>[(1003,g0+(lJ ((S.take i).map Prod.fst)).length,⟨87,9,((lJ ((S.take i).map Prod.fst)).map (cZ S)).map gR,1⟩)]) (fun i=>S.length-i) 0 (aP _) ah ?_
 intro i s9 hi;refine D ?_ ?_<;>intro h
 .have hlt:i<S.length:=cw h;clear h;obtain⟨y,hy⟩:=ay hlt;have hyx:=hSx y (bC hy);have hw:=dN i;have hsn:lJ ((S.take (i+1)).map Prod.fst)=Fs (lJ ((S.take i).map Prod.fst)) y.1:=by rw[dY hy,bj,cn,dp,Cs]
  have hpl:=Gr ((S.take i).map Prod.fst);rw[aF,bc]at hpl;have hpz:(lJ ((S.take i).map Prod.fst)).getLast? = (if i=0 then none else(S[i-1]?.map Prod.fst)):=by
   rcases i with _ | k
   .rfl
   .obtain⟨z,hz⟩:=ay (show k<S.length by omega);rw[dY hz,bj,cn,dp,Cs,MS,if_neg J,iC,hz];rfl
  generalize lJ ((S.take i).map Prod.fst)=P at *
  refine aN hy ?_;refine cV 28 ?_;refine aQ [(9,.sl (S.map eFq)),(20,.als 1003 (g0+P.length) 0 ((P.map (cZ S)).map gR).length),(21,I (i:Nat)),(22,.ptr 22 ((s9.own 22).1+1) 0 0),(126,.sl (S.map eFq)),(127,I S.length),(128,I (i:Nat))] [(1003,g0+P.length,⟨87,9,(P.map (cZ S)).map gR,1⟩),(22,(s9.own 22).1+1,⟨156,5,[eFq y],2⟩)] ah ?_;generalize (s9.own 22).1+1=g22;intro s10;refine uD [(9,.sl (S.map eFq)),(20,.als 1003 (g0+P.length) 0 ((P.map (cZ S)).map gR).length),(22,.ptr 22 g22 0 0),(126,.sl (S.map eFq)),(127,I S.length),(128,I (i:Nat)),(145,.bool (decide (P.getLast? = some y.1)))] [(1003,g0+P.length,⟨87,9,(P.map (cZ S)).map gR,1⟩),(22,g22,⟨156,5,[eFq y],2⟩)] ?_ (fun s11=>?_)
  .rcases i with _ | k
   .rw[if_pos O]at hpz;rw[hpz,decide_eq_false (show ¬(none:Option Int)=some y.1 from fun e=>by cases e)];refine bL [] [] aH ?_;refine H ?_;exact ah
   .obtain⟨z,hz⟩:=ay (show k<S.length by omega);have hsub:IntKind.i64.wrap (((k+1:Nat):Int)-1)=((k:Nat):Int):=by rw[wrap_i64 J J];omega
    have hpd:decide (P.getLast? = some y.1)=decide (z.1=y.1):=by
     rw[hpz,if_neg J,iC,hz];exact decide_eq_decide.2 ⟨fun e=>cK e,fun e=>congrArg some e⟩
    rw[hpd];obtain⟨zx,zq⟩:=z;obtain⟨yx,yq⟩:=y;refine bL [] [] aH ?_;refine H ?_;try rw[decide_eq_true (show(0:Int)<((k+1:Nat):Int) by omega)]
    refine H ?_;rw[hsub];refine tp O O O O O O O hz O ?_;refine H ?_;exact ah
  refine aV O ?_ ?_<;>intro h
  .rw[Fs,if_pos (bk h)]at hsn;clear h;refine H ?_;refine⟨i+1,hlt,J,O,?_,O,O,congrArg I hw,?_,bh⟩
   .rw[hsn];rfl
   .rw[hsn];rfl
  rw[Fs,if_neg (bS h)]at hsn;clear h hpz;have w0:=lP 0 ⟨Y,Y⟩;have z0:ofQ ((0:Int):Rat)=ofQ (gK (S.take 0) y.1):=O;have z1:ofQ ((0:Int):Rat)=ofQ (iK (S.take 0) y.1):=O;generalize hW0:ofQ ((0:Int):Rat)=W0 at *
  obtain⟨X,yq⟩:=y;simp only at *
  have hrowo:((P++[X]).map (cZ S)).map gR=(P.map (cZ S)).map gR++[I X::(eR (ofQ (gK S X))++eR (ofQ (iK S X)))]:=by rw[bj,bj];rfl
  have hllo:((P.map (cZ S)).map gR).length<=100:=by rw[aF,aF];omega
  generalize hRo:(P.map (cZ S)).map gR=Ro at *
  refine cV 29 ?_;refine ao (e_ 23) ?_;refine a_ [(5,23),(6,23)] aH aH ?_;refine G w0 ?_;refine G w0 ?_;refine H ?_;rw[hSl];refine aQ [(9,.sl (S.map eFq)),(20,.als 1003 (g0+P.length) 0 Ro.length),(22,.ptr 22 g22 0 0),(23,.ptr 23 ((s11.own 23).1+2+1) 0 0),(126,.sl (S.map eFq)),(127,I S.length),(128,I (i:Nat)),(151,.sl (S.map eFq)),(152,I S.length),(153,I ((0:Nat):Int))] [(1003,g0+P.length,⟨87,9,Ro,1⟩),(22,g22,⟨156,5,[I X::eR (ofQ yq)],2⟩),(23,(s11.own 23).1+2+1,⟨87,9,[I X::(eR W0++eR W0)],2⟩)] ah ?_;generalize (s11.own 23).1+2+1=g23;intro s12;refine ai (fun j:Nat=>j<=S.length) (fun j=>[(9,.sl (S.map eFq)),(20,.als 1003 (g0+P.length) 0 Ro.length),(22,.ptr 22 g22 0 0),(23,.ptr 23 g23 0 0),(126,.sl (S.map eFq)),(127,I S.length),(128,I (i:Nat)),(151,.sl (S.map eFq)),(152,I S.length),(153,I (j:Nat))])
   (fun j=>[(1003,g0+P.length,⟨87,9,Ro,1⟩),(22,g22,⟨156,5,[I X::eR (ofQ yq)],2⟩),(23,g23,⟨87,9,[I X::(eR (ofQ (gK (S.take j) X))++eR (ofQ (iK (S.take j) X)))],2⟩)]) (fun j=>S.length-j) 0 (aP _) ⟨O,O,O,O,O,O,O,O,O,O,O,O,by rw[<-z0,<-z1];rfl,bh⟩ ?_
  clear z0 z1;intro j s13 hj;refine D ?_ ?_<;>intro h
  .have hlj:j<S.length:=cw h;clear h;obtain⟨w,hx⟩:=ay hlj;have hwm:=bC hx;have hwx:=hSx w hwm;have hwq:=hSq w hwm;have hwj:=dN j;have hsb:=gp (X-w.1);have zx:Zb (X-w.1):=aI J J;have wk:=lP (X-w.1) ⟨J,J⟩;have s1:=wK (S.take j) w X;have s2:=wi (S.take j) w X;rw[<-dY hx]at s1 s2;have hlt20:(S.take j).length<=20:=by rw[bc];omega
   have qa:hq (gK (S.take j) X) 3000000:=cx (yM fun y hy=>hSq y (dD hy)) J;have qb:hq (iK (S.take j) X) 3000000:=cx (yj (fun y hy=>hSq y (dD hy)) (fun y hy=>hSx y (dD hy)) hyx) J;have va:Vq (ofQ (gK (S.take j) X)) (gK (S.take j) X) 3000000:=Vq.ofQ (h:=⟨qa⟩);have vb:Vq (ofQ (iK (S.take j) X)) (iK (S.take j) X) 3000000:=Vq.ofQ (h:=⟨qb⟩);have vw:Vq (ofQ w.2) w.2 100000:=Vq.ofQ (h:=⟨hwq⟩);have vi:Vq (ofQ ((X-w.1:Int):Rat)) ((X-w.1:Int):Rat) 4:=Vq.ofQ (h:=HQ.int);have vm:Vq (ofQ (w.2*((X-w.1:Int):Rat))) (w.2*((X-w.1:Int):Rat)) (100000+4):=Vq.ofQ (h:=@HQ.mul _ _ 100000 4 ⟨hwq⟩ HQ.int);have a1:=eJ (ofQ (gK (S.take j) X)) (ofQ w.2) (hx:=va) (hy:=vw) Y Y;have m1:=iE (ofQ w.2) (ofQ ((X-w.1:Int):Rat)) (hx:=vw) (hy:=vi) Y Y;have a2:=eJ (ofQ (iK (S.take j) X)) (ofQ (w.2*((X-w.1:Int):Rat))) (hx:=vb) (hy:=vm) Y Y;clear va vb vw vi vm qa qb hwq hwm;generalize gK (S.take j) X=U1,iK (S.take j) X=U2 at *
   obtain⟨wx,wq⟩:=w;simp only at *
   generalize hN2:ofQ (U2+wq*((X-wx:Int):Rat))=N2 at *
   generalize hN1:ofQ (U1+wq)=N1 at *
   generalize ofQ (wq*((X-wx:Int):Rat))=N3,ofQ ((X-wx:Int):Rat)=N4 at *
   generalize hV1:ofQ U1=V1 at *
   generalize hV2:ofQ U2=V2 at *
   generalize hQw:ofQ wq=Qw at *
   have hx':S[j]?=some (wx,wq):=hx;have hrw:eFq (wx,wq)=I wx::eR Qw:=by rw[<-hQw];rfl
   refine aN hx' ?_;rw[hrw];refine D ?_ ?_<;>intro h
   .have hle:wx<=X:=bk h;clear h;rw[if_pos hle]at s1 s2;refine G a1 ?_;refine cV 35 ?_;refine aQ [(9,.sl (S.map eFq)),(20,.als 1003 (g0+P.length) 0 Ro.length),(22,.ptr 22 g22 0 0),(23,.ptr 23 g23 0 0),(25,.ptr 25 ((s13.own 25).1+1) 0 0),(126,.sl (S.map eFq)),(127,I S.length),(128,I (i:Nat)),(151,.sl (S.map eFq)),(152,I S.length),(153,I (j:Nat))] [(1003,g0+P.length,⟨87,9,Ro,1⟩),(22,g22,⟨156,5,[I X::eR (ofQ yq)],2⟩),(23,g23,⟨87,9,[I X::(eR N1++eR V2)],2⟩),(25,(s13.own 25).1+1,⟨156,5,[I wx::eR Qw],2⟩)] ah ?_;generalize (s13.own 25).1+1=g25;intro s14;refine bM [] [23] 12 [12,13] aH aH ?_;refine H ?_;rw[hsb];refine oJ O O O wk O O ?_;refine G m1 ?_;refine G a2 ?_;refine H ?_;refine⟨j+1,hlj,J,O,O,O,O,O,O,O,O,O,congrArg I hwj,O,O,?_,bh⟩;rw[s1,s2,hN1,hN2];rfl
   .have hle:¬wx<=X:=bS h;clear h;rw[if_neg hle]at s1 s2;refine H ?_;refine⟨j+1,hlj,J,O,O,O,O,O,O,O,O,O,congrArg I hwj,O,O,?_,bh⟩;rw[s1,s2,hV1,hV2];rfl
  .have hje:j=S.length:=co h;clear h;subst hje;rw[bI];generalize ofQ (gK S X)=A1,ofQ (iK S X)=A2 at *
   refine H ?_;refine aC (bb 1 O O O O O O O O O O O ah O ?_);refine H ?_;refine aC (bO 1 O O O O O O O O O O O ah fW O O aS aS ?_);refine H ?_;have hb:g0+(P++[X]).length=g0+P.length+1:=by rw[bQ];rfl
   refine⟨i+1,hlt,J,O,?_,O,O,congrArg I hw,?_,bh⟩
   .rw[hsn,hrowo,hb];rfl
   .rw[hsn,hrowo,hb];rfl
 .have hie:i=S.length:=co h;clear h;subst hie;rw[bI]
  (repeat ((fail_if_success (with_reducible refine fh ?_));refine wV O ?_))
  refine ao (Ghost.takeD (k:=1003) (t:=4) O O O) ?_;exact cA
theorem Cz (f:FuncId)(hf:f=90\/f=161)(l:List Int)(hl:l.length<=1000)(n:Int):aU f [.sl (l.map eN),I n] (.sl ((jW l n).map eN)):=by
 have hml:(l.map eN).length=l.length:=ap;generalize hP:jW l n=P;rcases hf with hf|hf<;>subst hf;all_goals
  first
   |refine aD Proofs.Tryz.func90 ?_
   |refine aD Proofs.Tryz.func161 ?_
  refine cV 1 ?_;refine H ?_;refine aQ [(0,.sl (l.map eN)),(1,I n),(5,.nil),(6,.bool false),(7,I ((0:Nat):Int))] [] ah ?_;intro s0;refine ao (Ghost.nilreg (k:=1003) (t:=5) 3 1 1 O O) ?_;generalize hg:(s0.own 1003).1+1=g0;refine ai (fun q:Nat × Bool × List Int=>q.1<=l.length/\q.2.2.length<=q.1+1/\(if q.2.1=true then q.2.2++l.drop q.1=P else q.2.2=l.take q.1/\l.take q.1++jW (l.drop q.1) n=P)) (fun q=>[(0,.sl (l.map eN)),(1,I n),(5,.als 1003 (g0+q.2.2.length) 0 (q.2.2.map eN).length),(6,.bool q.2.1),(7,I (q.1:Nat))])
   (fun q=>[(1003,g0+q.2.2.length,⟨3,1,q.2.2.map eN,1⟩)]) (fun q=>l.length-q.1) (0,false,[]) ⟨aP _,aP _,(if_neg (fun e=>by cases e)).mpr ⟨O,hP⟩⟩ (by subst hg;exact ah) ?_
  clear hg hP;rintro⟨i,dn,out⟩ s1 ⟨hi,hol,hinv⟩;simp only at hi hol hinv;have hR:(out.map eN).length<=2000:=by rw[aF];omega
  have hR1:∀y:Int,(out++[y]).map eN=out.map eN++[[I y]]:=fun y=>by rw[bj];rfl
  have hR2:∀y:Int,g0+(out++[y]).length=g0+out.length+1:=fun y=>by rw[bQ];rfl
  refine H ?_;rw[hml];refine aV O ?_ ?_<;>intro h
  .have hlt:i<l.length:=cw h;clear h;obtain⟨x,hx⟩:=ay hlt;have hdr:l.drop i=x::l.drop (i+1):=by
    obtain⟨hl1,h2⟩:=cb hx;rw[jm hl1,h2]
   have htk:=dY hx;have hw:=dN i;cases dn with
   |true =>
    rw[if_pos O]at hinv;generalize hRo:out.map eN=Ro at *
    refine aN hx ?_;refine H ?_;refine aC (bb 1 O O O O O O O O O O O ah O ?_);refine H ?_;refine aC (bO 1 O O O O O O O O O O O ah fW O O aS aS ?_);refine H ?_;refine⟨(i+1,true,out++[x]),⟨hlt,by simp only[bQ,dl,j7];omega,?_⟩,by simp only;omega,O,O,?_,O,congrArg I hw,?_,bh⟩
    .refine(if_pos O).mpr ?_;show(out++[x])++l.drop (i+1)=P;rw[<-hinv,hdr,bg];rfl
    .rw[hR1,hR2];rfl
    .rw[hR1,hR2];rfl
   |false =>
    rw[if_neg Y]at hinv;obtain⟨ho,hinv⟩:=hinv;rw[hdr,jW]at hinv;generalize hRo:out.map eN=Ro at *
    refine aN hx ?_;refine D ?_ ?_<;>intro h
    .have hle:n<=x:=bk h;clear h;rw[if_pos hle]at hinv;refine aN hx ?_;refine D ?_ ?_<;>intro h
     .have hl2:n<x:=bk h;clear h;rw[if_pos hl2]at hinv;refine H ?_;refine aC (bb 1 O O O O O O O O O O O ah O ?_);refine H ?_;refine aC (bO 1 O O O O O O O O O O O ah fW O O aS aS ?_);refine aN hx ?_;refine H ?_;refine aC (bb 1 O O O O O O O O O O O ah O ?_);refine H ?_;refine aC (bO 1 O O O O O O O O O O O ah fW O O aS aS ?_);refine H ?_;have e1:((out++[n])++[x]).map eN=(Ro++[[I n]])++[[I x]]:=by rw[bj,hR1];rfl
      have e2:g0+((out++[n])++[x]).length=g0+out.length+1+1:=by rw[bQ,bQ];rfl
      refine⟨(i+1,true,(out++[n])++[x]),⟨hlt,by simp only[ho,bQ,dl,j7,bc];omega,?_⟩,by simp only;omega,O,O,?_,O,congrArg I hw,?_,bh⟩
      .refine(if_pos O).mpr ?_;show((out++[n])++[x])++l.drop (i+1)=P;rw[<-hinv,ho,bg,bg];rfl
      .rw[e1,e2];rfl
      .rw[e1,e2];rfl
     .have hl2:¬n<x:=bS h;clear h;rw[if_neg hl2]at hinv;refine aN hx ?_;refine H ?_;refine aC (bb 1 O O O O O O O O O O O ah O ?_);refine H ?_;refine aC (bO 1 O O O O O O O O O O O ah fW O O aS aS ?_);refine H ?_;refine⟨(i+1,true,out++[x]),⟨hlt,by simp only[bQ,dl,j7];omega,?_⟩,by simp only;omega,O,O,?_,O,congrArg I hw,?_,bh⟩
      .refine(if_pos O).mpr ?_;show(out++[x])++l.drop (i+1)=P;rw[<-hinv,ho,bg];rfl
      .rw[hR1,hR2];rfl
      .rw[hR1,hR2];rfl
    .have hle:¬n<=x:=bS h;clear h;rw[if_neg hle]at hinv;refine aN hx ?_;refine H ?_;refine aC (bb 1 O O O O O O O O O O O ah O ?_);refine H ?_;refine aC (bO 1 O O O O O O O O O O O ah fW O O aS aS ?_);refine H ?_;refine⟨(i+1,false,out++[x]),⟨hlt,by simp only[bQ,dl,j7];omega,?_⟩,by simp only;omega,O,O,?_,O,congrArg I hw,?_,bh⟩
     .refine(if_neg (fun e=>by cases e)).mpr ?_;show out++[x]=l.take (i+1)/\l.take (i+1)++jW (l.drop (i+1)) n=P;exact⟨by rw[htk,ho],by rw[htk,bg];exact hinv⟩
     .rw[hR1,hR2];rfl
     .rw[hR1,hR2];rfl
  .have hie:i=l.length:=co h;clear h;subst hie;rw[gX]at hinv;cases dn with
   |true =>
    rw[if_pos O,cu]at hinv;subst hinv
    (repeat ((fail_if_success (with_reducible refine fh ?_));refine wV O ?_))
    refine ao (Ghost.takeD (k:=1003) (t:=4) O O O) ?_;exact cA
   |false =>
    rw[if_neg Y]at hinv;obtain⟨ho,hinv⟩:=hinv;rw[<-ho,jW]at hinv;subst hinv;rw[hR1];generalize out.map eN=Ro at *
    refine H ?_;refine aC (bb 1 O O O O O O O O O O O ah O ?_);refine H ?_;refine aC (bO 1 O O O O O O O O O O O ah fW O O aS aS ?_)
    (repeat ((fail_if_success (with_reducible refine fh ?_));refine wV O ?_))
    refine ao (Ghost.takeD (k:=1003) (t:=4) O O O) ?_;exact cA
theorem KI (l:List Int)(hl:l.length<=1000)(n:Int):aU 90 [.sl (l.map eN),I n] (.sl ((jW l n).map eN)):=Cz 90 (.inl O) l hl n
theorem Cy (l:List Int)(hl:l.length<=1000)(n:Int):aU 161 [.sl (l.map eN),I n] (.sl ((jW l n).map eN)):=Cz 161 (.inr O) l hl n
def pp (e:Int × Rat × Rat)(x:Int)(f:Rat):Int × Rat × Rat:=if x<=e.1 then(e.1,e.2.1+f,e.2.2+f*((e.1-x:Int):Rat)) else e
theorem Dp (X x:Int)(a b f:Rat)(hX : -1000000<=X/\X<=1000000)(hx : -1000000<=x/\x<=1000000)(ha:hq a 3000000)(hb:hq b 3000000)(hf:hq f 100000) :
  aU 162 [.agg (gR (X,a,b)),I x,.agg (eR (ofQ f))] (.agg (gR (pp (X,a,b) x f))):=by
 have hsb:=gp (X-x);have zx:Zb (X-x):=aI J J;have wk:=cf (X-x) ⟨J,J⟩;have va:Vq (ofQ a) a 3000000:=Vq.ofQ (h:=⟨ha⟩);have vb:Vq (ofQ b) b 3000000:=Vq.ofQ (h:=⟨hb⟩);have vw:Vq (ofQ f) f 100000:=Vq.ofQ (h:=⟨hf⟩);have vi:Vq (ofQ ((X-x:Int):Rat)) ((X-x:Int):Rat) 4:=Vq.ofQ (h:=HQ.int);have vm:Vq (ofQ (f*((X-x:Int):Rat))) (f*((X-x:Int):Rat)) (100000+4):=Vq.ofQ (h:=@HQ.mul _ _ 100000 4 ⟨hf⟩ HQ.int);have a1:=b8 (ofQ a) (ofQ f) (hx:=va) (hy:=vw) Y Y;have m1:=b9 (ofQ f) (ofQ ((X-x:Int):Rat)) (hx:=vw) (hy:=vi) Y Y;have a2:=b8 (ofQ b) (ofQ (f*((X-x:Int):Rat))) (hx:=vb) (hy:=vm) Y Y;clear va vb vw vi vm;by_cases hle:x<=X
 .have e:gR (pp (X,a,b) x f)=I X::(eR (ofQ (a+f))++eR (ofQ (b+f*((X-x:Int):Rat)))):=by rw[pp,if_pos hle];rfl
  rw[e,show gR (X,a,b)=I X::(eR (ofQ a)++eR (ofQ b)) from O];generalize ofQ (b+f*((X-x:Int):Rat))=N2,ofQ (f*((X-x:Int):Rat))=N3,ofQ ((X-x:Int):Rat)=N4,ofQ (a+f)=N1,ofQ a=A,ofQ b=B,ofQ f=F at *
  refine aD Proofs.Tryz.func162 ?_;refine H ?_;rw[decide_eq_false (show ¬X<x by omega)];refine H ?_;refine bM [] [6] 17 [17] aH aH ?_;refine G a1 ?_;refine H ?_;rw[hsb];refine oJ O O O wk O O ?_;refine G m1 ?_;refine G a2 ?_;exact cA
 .have e:gR (pp (X,a,b) x f)=gR (X,a,b):=by rw[pp,if_neg hle]
  rw[e,show gR (X,a,b)=I X::(eR (ofQ a)++eR (ofQ b)) from O];generalize ofQ a=A,ofQ b=B,ofQ f=F at *
  refine aD Proofs.Tryz.func162 ?_;refine H ?_;rw[decide_eq_true (show X<x by omega)];exact cA
theorem yZ (L:List (Int × Rat))(y:Int × Rat)(X:Int):cZ (L++[y]) X=pp (cZ L X) y.1 y.2:=by
 show(X,gK (L++[y]) X,iK (L++[y]) X)=if y.1<=X then(X,gK L X+y.2,iK L X+y.2*((X-y.1:Int):Rat)) else(X,gK L X,iK L X)
 rw[wK,wi];by_cases h:y.1<=X
 .rw[if_pos h,if_pos h,if_pos h]
 .rw[if_neg h,if_neg h,if_neg h]
theorem H9 {l:List Int}{f:LR->Int}{LD:List LR}{i:Nat}{w:LR}(h:LD[i]?=some w):dI l ((LD.take (i+1)).map f)=jW (dI l ((LD.take i).map f)) (f w):=by
 rw[dY h,bj,cn,dp,sw]
theorem Eo {l:List Int}{f:ST->Int}{LD:List ST}{i:Nat}{w:ST}(h:LD[i]?=some w):dI l ((LD.take (i+1)).map f)=jW (dI l ((LD.take i).map f)) (f w):=by
 rw[dY h,bj,cn,dp,sw]
theorem En {l:List Int}{f:BKR->Int}{LD:List BKR}{i:Nat}{w:BKR}(h:LD[i]?=some w):dI l ((LD.take (i+1)).map f)=jW (dI l ((LD.take i).map f)) (f w):=by
 rw[dY h,bj,cn,dp,sw]
def so (st:List ST)(LD:List LR):List Int:=dI (dI [] (LD.map (·.x))) (st.map (·.x))
set_option maxHeartbeats 4000000 in
theorem Ip (s:SHP)(a:AR)(den:Int)(sq:ST->Rat)(hst:∀t∈s.st,-1000000<=t.x/\t.x<=1000000)(hn:s.st.length<=6)(hi:s.it.length<=8)(hm:∀w∈s.light::s.it,(0<=w.m/\w.m<=1000000000)/\(-1000000<=w.x/\w.x<=1000000))
  (hq':∀y∈s.st.map (fun t=>(t.x,sq t))++(s.light::s.it).map nh,hq y.2 100000)
  (hs:∀t∈s.st,∃W Y0 A M:RR,aU 19 [I t.w] (.agg (eR W))/\aU 165 [.agg (eA a),I t.x] (.agg (eR Y0))/\aU 164 [.agg (eT t),.agg (eR Y0)] (.agg (eR A))/\aU 91 [.agg (eR W),.agg (eR A)] (.agg (eR M))/\aU 163 [.agg (eR M),I den] (.agg (eR (ofQ (sq t))))) :
  aU 89 [.agg (fx s),.agg (eA a),I den] (.sl (((so s.st (s.light::s.it)).map (cZ (s.st.map (fun t=>(t.x,sq t))++(s.light::s.it).map nh))).map gR)):=by
 have hml:(s.st.map eT).length=s.st.length:=ap;have hall:=CJ s J;have hLDn:(s.light::s.it).length=s.it.length+1:=O;generalize s.light::s.it=LD at *
 have hLl:(LD.map eLd).length=LD.length:=ap;generalize hP:so s.st LD=P;have hPn:P.length<=15:=by
  have h1:=io (LD.map (·.x)) [];have h2:=io (s.st.map (·.x)) (dI [] (LD.map (·.x)));rw[<-hP,so];simp only[aF,j7]at h1 h2;omega
 have hPx:∀x∈P,-1000000<=x/\x<=1000000:=fun x hx=>by
  rw[<-hP,so]at hx;rcases(i8 _ _ _).1 hx with e|e
  .obtain⟨t,ht,rfl⟩:=aW.1 e;exact hst t ht
  .rcases(i8 _ _ _).1 e with e|e
   .obtain⟨w,hw,rfl⟩:=aW.1 e;exact(hm w hw).2
   .cases e
 have hFx:∀y∈s.st.map (fun t=>(t.x,sq t))++LD.map nh,-1000000<=y.1/\y.1<=1000000:=fun y hy=>by
  rcases dJ.1 hy with e|e
  .obtain⟨t,ht,rfl⟩:=aW.1 e;exact hst t ht
  .obtain⟨w,hw,rfl⟩:=aW.1 e;exact(hm w hw).2
 rw[so]at hP;obtain⟨nm,len,st,light,it⟩:=s;obtain⟨az,at'⟩:=a;simp only at *
 refine aD Proofs.Tryz.func89 ?_;refine G hall ?_;refine cV 3 ?_;refine ao (Ghost.nilsl (t:=7) O) ?_;refine H ?_;refine aQ [(2,I den),(3,.ptr 3 1 0 0),(4,.ptr 4 1 0 0),(7,.sl []),(8,.sl (LD.map eLd)),(9,I ((0:Nat):Int))] [Mo ⟨nm,len,st,light,it⟩,Mn ⟨az,at'⟩] ah ?_;intro s0;refine ai (fun i:Nat=>i<=LD.length) (fun i=>[(2,I den),(3,.ptr 3 1 0 0),(4,.ptr 4 1 0 0),(7,.sl ((dI [] ((LD.take i).map (·.x))).map eN)),(8,.sl (LD.map eLd)),(9,I (i:Nat))])
  (fun _=>[Mo ⟨nm,len,st,light,it⟩,Mn ⟨az,at'⟩]) (fun i=>LD.length-i) 0 (aP _) ah ?_
 intro i s1 hi1;refine H ?_;rw[hLl];refine aV O ?_ ?_<;>intro h
 .have hlt:i<LD.length:=cw h;clear h;obtain⟨w,hx⟩:=ay hlt;have hw:=dN i;have hl1:=io ((LD.take i).map (·.x)) [];rw[aF,bc,j7]at hl1;have hp:=Cy (dI [] ((LD.take i).map (·.x))) J w.x;rw[<-H9 (f:=fun w=>w.x) hx]at hp;generalize dI [] ((LD.take i).map (·.x))=P0 at *
  obtain⟨wn,wm,wx,wz,wf⟩:=w;simp only at *
  refine aN hx ?_;refine G hp ?_;refine H ?_;exact⟨i+1,hlt,J,O,O,O,O,O,congrArg I hw,ah⟩
 have hie:i=LD.length:=co h;clear h;subst hie;rw[bI];have hl0:=io (LD.map (·.x)) [];rw[aF,j7]at hl0;generalize dI [] (LD.map (·.x))=PL at *
 refine H ?_;refine aQ [(2,I den),(3,.ptr 3 1 0 0),(4,.ptr 4 1 0 0),(7,.sl (PL.map eN)),(8,.sl (LD.map eLd)),(10,I ((0:Nat):Int))] [Mo ⟨nm,len,st,light,it⟩,Mn ⟨az,at'⟩] ah ?_;intro s2;refine ai (fun i:Nat=>i<=st.length) (fun i=>[(2,I den),(3,.ptr 3 1 0 0),(4,.ptr 4 1 0 0),(7,.sl ((dI PL ((st.take i).map (·.x))).map eN)),(8,.sl (LD.map eLd)),(10,I (i:Nat))])
  (fun _=>[Mo ⟨nm,len,st,light,it⟩,Mn ⟨az,at'⟩]) (fun i=>st.length-i) 0 (aP _) ah ?_
 intro i s3 hi2;refine H ?_;rw[hml];refine aV O ?_ ?_<;>intro h
 .have hlt:i<st.length:=cw h;clear h;obtain⟨t,hx⟩:=ay hlt;have hw:=dN i;have hl1:=io ((st.take i).map (·.x)) PL;rw[aF,bc]at hl1;have hp:=Cy (dI PL ((st.take i).map (·.x))) J t.x;rw[<-Eo (f:=fun w=>w.x) hx]at hp;generalize dI PL ((st.take i).map (·.x))=P0 at *
  obtain⟨tx,tw,tL,tH⟩:=t;simp only at *
  refine aN hx ?_;refine G hp ?_;refine H ?_;exact⟨i+1,hlt,J,O,O,O,O,O,congrArg I hw,ah⟩
 have hie:i=st.length:=co h;clear h;subst hie;rw[bI,hP];clear hP;have hPl:(P.map eN).length=P.length:=ap;refine cV 12 ?_;refine ao (Ghost.nilreg (k:=1003) (t:=11) 87 9 1 O O) ?_;refine H ?_;refine aQ [(2,I den),(3,.ptr 3 1 0 0),(4,.ptr 4 1 0 0),(7,.sl (P.map eN)),(8,.sl (LD.map eLd)),(11,.als 1003 ((s3.own 1003).1+1) 0 0),(12,I ((0:Nat):Int))] [Mo ⟨nm,len,st,light,it⟩,Mn ⟨az,at'⟩,(1003,(s3.own 1003).1+1,⟨87,9,[],1⟩)] ah ?_;generalize (s3.own 1003).1+1=g0;intro s4;generalize hFF:st.map (fun t=>(t.x,sq t))++LD.map nh=F at *
 refine ai (fun i:Nat=>i<=P.length) (fun i=>[(2,I den),(3,.ptr 3 1 0 0),(4,.ptr 4 1 0 0),(7,.sl (P.map eN)),(8,.sl (LD.map eLd)),(11,.als 1003 (g0+i) 0 (((P.take i).map (cZ F)).map gR).length),(12,I (i:Nat))])
  (fun i=>[Mo ⟨nm,len,st,light,it⟩,Mn ⟨az,at'⟩,(1003,g0+i,⟨87,9,((P.take i).map (cZ F)).map gR,1⟩)]) (fun i=>P.length-i) 0 (aP _) ah ?_
 intro i s5 hi3;refine H ?_;rw[hPl];refine aV O ?_ ?_<;>intro h
 .have hlt:i<P.length:=cw h;clear h;obtain⟨X,hx⟩:=ay hlt;have hXx:=hPx X (bC hx);have hw:=dN i;have w0:=cf 0 ⟨Y,Y⟩;have hrow:((P.take (i+1)).map (cZ F)).map gR=((P.take i).map (cZ F)).map gR++[gR (cZ F X)]:=by rw[dY hx,bj,bj];rfl
  have hll:(((P.take i).map (cZ F)).map gR).length<=100:=by rw[aF,aF,bc];omega
  have hb:g0+(i+1)=g0+i+1:=O;have z0:I X::(eR (ofQ ((0:Int):Rat))++eR (ofQ ((0:Int):Rat)))=gR (cZ (([]:List ST).map (fun t=>(t.x,sq t))) X):=O;generalize hRo:((P.take i).map (cZ F)).map gR=Ro at *
  generalize ofQ ((0:Int):Rat)=W0 at *
  refine cV 15 ?_;refine ao (e_ 13) ?_;refine a_ [(7,13),(8,13)] aH aH ?_;refine aN hx ?_;refine G w0 ?_;refine G w0 ?_;refine H ?_;refine aQ [(2,I den),(3,.ptr 3 1 0 0),(4,.ptr 4 1 0 0),(7,.sl (P.map eN)),(8,.sl (LD.map eLd)),(11,.als 1003 (g0+i) 0 Ro.length),(12,I (i:Nat)),(13,.ptr 13 ((s5.own 13).1+2+1) 0 0),(14,I ((0:Nat):Int))] [Mo ⟨nm,len,st,light,it⟩,Mn ⟨az,at'⟩,(1003,g0+i,⟨87,9,Ro,1⟩),(13,(s5.own 13).1+2+1,⟨87,9,[I X::(eR W0++eR W0)],2⟩)] ah ?_;generalize (s5.own 13).1+2+1=g13;rw[z0];clear z0 w0;intro s6;refine ai (fun j:Nat=>j<=st.length) (fun j=>[(2,I den),(3,.ptr 3 1 0 0),(4,.ptr 4 1 0 0),(7,.sl (P.map eN)),(8,.sl (LD.map eLd)),(11,.als 1003 (g0+i) 0 Ro.length),(12,I (i:Nat)),(13,.ptr 13 g13 0 0),(14,I (j:Nat))])
   (fun j=>[Mo ⟨nm,len,st,light,it⟩,Mn ⟨az,at'⟩,(1003,g0+i,⟨87,9,Ro,1⟩),(13,g13,⟨87,9,[gR (cZ ((st.take j).map (fun t=>(t.x,sq t))) X)],2⟩)]) (fun j=>st.length-j) 0 (aP _) ah ?_
  intro j s7 hj;refine H ?_;rw[hml];refine aV O ?_ ?_<;>intro h
  .have hlj:j<st.length:=cw h;clear h;obtain⟨t,ht⟩:=ay hlj;obtain⟨W,Y0,A,M,k1,k2,k3,k4,k5⟩:=hs t (bC ht);have htx:=hst t (bC ht);have hsub:∀y∈(st.take j).map (fun t=>(t.x,sq t)),y∈F:=fun y hy=>by
    rw[<-hFF];refine jp _ ?_;obtain⟨u,hu,rfl⟩:=aW.1 hy;exact aW.2 ⟨u,dD hu,O⟩
   have hyt:hq (sq t) 100000:=hq' (t.x,sq t) (by rw[<-hFF];exact jp _ (aW.2 ⟨t,bC ht,O⟩));have hlt20:((st.take j).map (fun t=>(t.x,sq t))).length<=20:=by rw[aF,bc];omega
   have k6:=Dp X t.x (gK ((st.take j).map (fun t=>(t.x,sq t))) X) (iK ((st.take j).map (fun t=>(t.x,sq t))) X) (sq t) hXx htx (cx (yM fun y hy=>hq' y (hsub y hy)) J) (cx (yj (fun y hy=>hq' y (hsub y hy)) (fun y hy=>hFx y (hsub y hy)) hXx) J) hyt;have hsn:cZ ((st.take (j+1)).map (fun t=>(t.x,sq t))) X=pp (cZ ((st.take j).map (fun t=>(t.x,sq t))) X) t.x (sq t):=by rw[dY ht,bj,cn,dp,yZ]
   rw[show pp (X,gK ((st.take j).map (fun t=>(t.x,sq t))) X,iK ((st.take j).map (fun t=>(t.x,sq t))) X) t.x (sq t)=cZ ((st.take (j+1)).map (fun t=>(t.x,sq t))) X from hsn.symm,show(X,gK ((st.take j).map (fun t=>(t.x,sq t))) X,iK ((st.take j).map (fun t=>(t.x,sq t))) X)=cZ ((st.take j).map (fun t=>(t.x,sq t))) X from O]at k6;have hw2:=dN j;clear hsn hsub hlt20 hyt;generalize hE1:cZ ((st.take (j+1)).map (fun t=>(t.x,sq t))) X=E1 at *
   generalize cZ ((st.take j).map (fun t=>(t.x,sq t))) X=E0,ofQ (sq t)=Q at *
   obtain⟨e0x,e0a,e0b⟩:=E0;obtain⟨tx,tw,tL,tH⟩:=t;simp only at *
   rw[show gR (e0x,e0a,e0b)=I e0x::(eR (ofQ e0a)++eR (ofQ e0b)) from O]at k6 ⊢;generalize ofQ e0a=V0,ofQ e0b=V1 at *
   refine aN ht ?_;refine cV 20 ?_;refine bM [] [13] 16 [16] aH aH ?_;refine G k1 ?_;refine G k2 ?_;refine G k3 ?_;refine G k4 ?_;refine G k5 ?_;refine G k6 ?_;refine H ?_;refine⟨j+1,hlj,J,O,O,O,O,O,O,O,O,congrArg I hw2,O,O,O,?_,bh⟩;rw[hE1];rfl
  have hje:j=st.length:=co h;clear h;subst hje;rw[bI];generalize hS1:st.map (fun t=>(t.x,sq t))=S1 at *
  refine H ?_;refine aQ [(2,I den),(3,.ptr 3 1 0 0),(4,.ptr 4 1 0 0),(7,.sl (P.map eN)),(8,.sl (LD.map eLd)),(11,.als 1003 (g0+i) 0 Ro.length),(12,I (i:Nat)),(13,.ptr 13 g13 0 0),(16,I ((0:Nat):Int))] [Mo ⟨nm,len,st,light,it⟩,Mn ⟨az,at'⟩,(1003,g0+i,⟨87,9,Ro,1⟩),(13,g13,⟨87,9,[gR (cZ S1 X)],2⟩)] ah ?_;intro s8;refine ai (fun j:Nat=>j<=LD.length) (fun j=>[(2,I den),(3,.ptr 3 1 0 0),(4,.ptr 4 1 0 0),(7,.sl (P.map eN)),(8,.sl (LD.map eLd)),(11,.als 1003 (g0+i) 0 Ro.length),(12,I (i:Nat)),(13,.ptr 13 g13 0 0),(16,I (j:Nat))])
   (fun j=>[Mo ⟨nm,len,st,light,it⟩,Mn ⟨az,at'⟩,(1003,g0+i,⟨87,9,Ro,1⟩),(13,g13,⟨87,9,[gR (cZ (S1++(LD.take j).map nh) X)],2⟩)]) (fun j=>LD.length-j) 0 (aP _) ⟨O,O,O,O,O,O,O,O,O,O,O,O,by rw[dK,dp,cu];rfl,bh⟩ ?_
  intro j s9 hj;refine H ?_;rw[hLl];refine aV O ?_ ?_<;>intro h
  .have hlj:j<LD.length:=cw h;clear h;obtain⟨w,ht⟩:=ay hlj;obtain⟨⟨w1,w2⟩,htx⟩:=hm w (bC ht);have hneg:IntKind.i64.wrap (0-w.m) = -w.m:=by rw[wrap_i64 J J];omega
   have wl:=cf (-w.m) ⟨J,J⟩;have hsub:∀y∈S1++(LD.take j).map nh,y∈F:=fun y hy=>by
    rw[<-hFF];rcases dJ.1 hy with e|e
    .exact jp _ e
    .obtain⟨u,hu,rfl⟩:=aW.1 e;exact jo _ (aW.2 ⟨u,dD hu,O⟩)
   have hyt:hq ((-w.m:Int):Rat) 100000:=hq' (w.x,((-w.m:Int):Rat)) (by rw[<-hFF];exact jo _ (aW.2 ⟨w,bC ht,O⟩));have hlt20:(S1++(LD.take j).map nh).length<=20:=by rw[bQ,aF,bc,<-hS1,aF];omega
   have k6:=Dp X w.x (gK (S1++(LD.take j).map nh) X) (iK (S1++(LD.take j).map nh) X) ((-w.m:Int):Rat) hXx htx (cx (yM fun y hy=>hq' y (hsub y hy)) J) (cx (yj (fun y hy=>hq' y (hsub y hy)) (fun y hy=>hFx y (hsub y hy)) hXx) J) hyt;have hsn:cZ (S1++(LD.take (j+1)).map nh) X=pp (cZ (S1++(LD.take j).map nh) X) w.x ((-w.m:Int):Rat):=by rw[dY ht,bj,<-bg,cn,dp,yZ];rfl
   rw[show pp (X,gK (S1++(LD.take j).map nh) X,iK (S1++(LD.take j).map nh) X) w.x ((-w.m:Int):Rat)=cZ (S1++(LD.take (j+1)).map nh) X from hsn.symm,show(X,gK (S1++(LD.take j).map nh) X,iK (S1++(LD.take j).map nh) X)=cZ (S1++(LD.take j).map nh) X from O]at k6;have hw2:=dN j;clear hsn hsub hlt20 hyt;generalize hE1:cZ (S1++(LD.take (j+1)).map nh) X=E1 at *
   generalize cZ (S1++(LD.take j).map nh) X=E0,ofQ ((-w.m:Int):Rat)=Q at *
   obtain⟨e0x,e0a,e0b⟩:=E0;obtain⟨wn,wm,wx,wz,wf⟩:=w;simp only at *
   rw[show gR (e0x,e0a,e0b)=I e0x::(eR (ofQ e0a)++eR (ofQ e0b)) from O]at k6 ⊢;generalize ofQ e0a=V0,ofQ e0b=V1 at *
   refine cV 24 ?_;refine bM [] [13] 14 [14] aH aH ?_;refine aN ht ?_;refine aN ht ?_;refine H ?_;rw[hneg];refine oJ O O O wl O O ?_;refine G k6 ?_;refine H ?_;refine⟨j+1,hlj,J,O,O,O,O,O,O,O,O,congrArg I hw2,O,O,O,?_,bh⟩;rw[hE1];rfl
  have hje:j=LD.length:=co h;clear h;subst hje;rw[bI,hFF];rw[show gR (cZ F X)=I X::(eR (ofQ (gK F X))++eR (ofQ (iK F X))) from O]at hrow ⊢;generalize ofQ (gK F X)=A1,ofQ (iK F X)=A2 at *
  refine H ?_;refine aC (bb 1 O O O O O O O O O O O ah O ?_);refine H ?_;refine aC (bO 1 O O O O O O O O O O O ah fW O O aS aS ?_);refine H ?_;refine⟨i+1,hlt,J,O,O,O,O,O,?_,congrArg I hw,O,O,?_,bh⟩
  .rw[hrow,hb];rfl
  .rw[hrow,hb];rfl
 .have hie:i=P.length:=co h;clear h;subst hie;rw[bI]
  (repeat ((fail_if_success (with_reducible refine fh ?_));refine wV O ?_))
  refine ao (Ghost.takeD (k:=1003) (t:=6) O O O) ?_;exact cA
def Qk (st:List ST)(LD:List LR)(bl:List BKR):List Int:=dI (so st LD) (bl.map (·.x))
def y3 (F:List (Int × Rat))(X:Int)(P:List Int):Rat × Rat:=(P.map fun p=>(p,gK F p,iK F p)).foldl (QA X) (0,0)
theorem I5 (F:List (Int × Rat))(X:Int)(P:List Int)(p:Int):y3 F X (P++[p])=if p<=X then(gK F p,iK F p+gK F p*((X-p:Int):Rat)) else y3 F X P:=by
 rw[y3,bj,kA];rfl
theorem Mu {F:List (Int × Rat)}{X:Int}{P:List Int}(hP:P.Pairwise (·<·))(hx:∀p∈P,-1000000<=p)(hX : -1000000<=X)(hF:∀y∈F,y.1∈P):y3 F X P=(gK F X,iK F X):=by
 have h0:=NL (F:=F) (B := -1000001) fun y hy=>by have:=hx _ (hF y hy);omega
 refine vB F X P (-1000001) (0,0) hP (fun p hp=>by have:=hx p hp;omega) J ?_ fun y hy _ _=>hF y hy;rw[h0.1,h0.2];refine Prod.ext O ?_;show(0:Rat)=0+0*_;grind
set_option maxHeartbeats 4000000 in
theorem Iq (d:DKR)(x:DQ)(Z:RR)(P:List Int)(F:List (Int × Rat))(v:List Rat)(hP:P.length<=15)(hPx:∀p∈P,-1000000<=p/\p<=1000000)(hPa:P.Pairwise (·<·))(hFP:∀y∈F,y.1∈P)
  (hv:v.length=d.bl.length) (hb5:d.bl.length<=5) (hbx:∀b∈d.bl,-1000000<=b.x/\b.x<=1000000) (hF:x.F=v.map ofQ) (hFn:F.length<=15) (hFq:∀y∈F,hq y.2 100000) (hvq:∀q∈v,hq q 100000)
  (hZ:aU 22 [.agg (eR x.a.z),.agg (eR x.lv)] (.agg (eR Z)))
  (h112:aU 89 [.agg (fx d.s),.agg (eR Z++eR x.a.t),I d.d] (.sl ((P.map (cZ F)).map gR))) :
  aU 31 [.agg (fv d),.agg (xq x)] (.sl (((dI P (d.bl.map (·.x))).map (cZ (F++mW d.bl v))).map gR)):=by
 have hbl:(d.bl.map eBk).length=d.bl.length:=ap;have hzl:=DF hv;have hPl:((P.map (cZ F)).map gR).length=P.length:=ap;have hFx:∀y∈F,-1000000<=y.1/\y.1<=1000000:=fun y hy=>hPx _ (hFP y hy);obtain⟨s,den,bl,zn,gm,oh⟩:=d;obtain⟨xlv,⟨az,at'⟩,xF,xup,xbu,⟨x1,x2,x3,x4⟩,xh,xp⟩:=x;simp only at *
 have hQn:(dI P (bl.map (·.x))).length<=20:=by
  have:=io (bl.map (·.x)) P;rw[aF]at this;omega
 have hQx:∀X∈dI P (bl.map (·.x)),-1000000<=X/\X<=1000000:=fun X hX=>by
  rcases(i8 _ _ _).1 hX with e|e
  .obtain⟨b,hb,rfl⟩:=aW.1 e;exact hbx b hb
  .exact hPx X e
 generalize hQQ:dI P (bl.map (·.x))=Q at *
 refine aD Proofs.Tryz.func31 ?_;refine cV 1 ?_;refine a_ [(10,5),(11,5)] aH aH ?_;refine G hZ ?_;refine G h112 ?_;refine cV 4 ?_;refine ao (Ghost.nilreg (k:=1003) (t:=7) 3 1 1 O O) ?_;refine H ?_;refine aQ [(2,.ptr 2 1 0 0),(3,.ptr 3 1 0 0),(6,.sl ((P.map (cZ F)).map gR)),(7,.als 1003 1 0 0),(8,I ((0:Nat):Int))] [Cc ⟨s,den,bl,zn,gm,oh⟩,A_ 3 ⟨xlv,⟨az,at'⟩,xF,xup,xbu,⟨x1,x2,x3,x4⟩,xh,xp⟩,(1003,1,⟨3,1,[],1⟩)] ah ?_;intro s0;refine ai (fun i:Nat=>i<=P.length) (fun i=>[(2,.ptr 2 1 0 0),(3,.ptr 3 1 0 0),(6,.sl ((P.map (cZ F)).map gR)),(7,.als 1003 (1+i) 0 ((P.take i).map eN).length),(8,I (i:Nat))])
  (fun i=>[Cc ⟨s,den,bl,zn,gm,oh⟩,A_ 3 ⟨xlv,⟨az,at'⟩,xF,xup,xbu,⟨x1,x2,x3,x4⟩,xh,xp⟩,(1003,1+i,⟨3,1,(P.take i).map eN,1⟩)]) (fun i=>P.length-i) 0 (aP _) ah ?_
 intro i s1 hi;refine H ?_;rw[hPl];refine aV O ?_ ?_<;>intro h
 .have hlt:i<P.length:=cw h;clear h;obtain⟨p,hp⟩:=ay hlt;have hx:(P.map (cZ F))[i]?=some (p,gK F p,iK F p):=by rw[bw,hp];rfl
  have hw:=dN i;have hrow:(P.take (i+1)).map eN=(P.take i).map eN++[[I p]]:=by rw[dY hp,bj];rfl
  have hll:((P.take i).map eN).length<=100:=by rw[aF,bc];omega
  have hb:1+(i+1)=1+i+1:=O;generalize (P.take i).map eN=R0,gK F p=a,iK F p=b at *
  refine aN hx ?_;refine H ?_;refine aC (bb 1 O O O O O O O O O O O ah O ?_);refine H ?_;refine aC (bO 1 O O O O O O O O O O O ah fW O O aS aS ?_);refine H ?_;refine⟨i+1,hlt,J,O,O,O,?_,congrArg I hw,O,O,?_,bh⟩
  .rw[hrow,hb];rfl
  .rw[hrow,hb];rfl
 have hie:i=P.length:=co h;clear h;subst hie;rw[bI];refine ao (Ghost.takeD (k:=1003) (t:=7) O O O) ?_;refine H ?_;refine aQ [(2,.ptr 2 1 0 0),(3,.ptr 3 1 0 0),(6,.sl ((P.map (cZ F)).map gR)),(7,.sl (P.map eN)),(9,I ((0:Nat):Int))] [Cc ⟨s,den,bl,zn,gm,oh⟩,A_ 3 ⟨xlv,⟨az,at'⟩,xF,xup,xbu,⟨x1,x2,x3,x4⟩,xh,xp⟩] ah ?_;intro s2;refine ai (fun i:Nat=>i<=bl.length) (fun i=>[(2,.ptr 2 1 0 0),(3,.ptr 3 1 0 0),(6,.sl ((P.map (cZ F)).map gR)),(7,.sl ((dI P ((bl.take i).map (·.x))).map eN)),(9,I (i:Nat))])
  (fun _=>[Cc ⟨s,den,bl,zn,gm,oh⟩,A_ 3 ⟨xlv,⟨az,at'⟩,xF,xup,xbu,⟨x1,x2,x3,x4⟩,xh,xp⟩]) (fun i=>bl.length-i) 0 (aP _) ah ?_
 intro i s3 hi2;refine H ?_;rw[hbl];refine aV O ?_ ?_<;>intro h
 .have hlt:i<bl.length:=cw h;clear h;obtain⟨b,hx⟩:=ay hlt;have hw:=dN i;have hl1:=io ((bl.take i).map (·.x)) P;rw[aF,bc]at hl1;have hp:=KI (dI P ((bl.take i).map (·.x))) J b.x;rw[<-En (f:=fun w=>w.x) hx]at hp;generalize dI P ((bl.take i).map (·.x))=P0 at *
  obtain⟨bx,bz,bhf,bht,bwd,bst,blim,bside⟩:=b;simp only at *
  refine aN hx ?_;refine G hp ?_;refine H ?_;exact⟨i+1,hlt,J,O,O,O,O,congrArg I hw,ah⟩
 have hie:i=bl.length:=co h;clear h;subst hie;rw[bI,hQQ];clear hQQ;have hQl:(Q.map eN).length=Q.length:=ap;refine cV 13 ?_;refine ao (Ghost.nilreg (k:=1003) (t:=10) 87 9 1 O O) ?_;refine H ?_;refine aQ [(2,.ptr 2 1 0 0),(3,.ptr 3 1 0 0),(6,.sl ((P.map (cZ F)).map gR)),(7,.sl (Q.map eN)),(10,.als 1003 ((s3.own 1003).1+1) 0 0),(11,I ((0:Nat):Int))] [Cc ⟨s,den,bl,zn,gm,oh⟩,A_ 3 ⟨xlv,⟨az,at'⟩,xF,xup,xbu,⟨x1,x2,x3,x4⟩,xh,xp⟩,(1003,(s3.own 1003).1+1,⟨87,9,[],1⟩)] ah ?_;generalize (s3.own 1003).1+1=g0;intro s4;generalize hFB:F++mW bl v=FB at *
 refine ai (fun i:Nat=>i<=Q.length) (fun i=>[(2,.ptr 2 1 0 0),(3,.ptr 3 1 0 0),(6,.sl ((P.map (cZ F)).map gR)),(7,.sl (Q.map eN)),(10,.als 1003 (g0+i) 0 (((Q.take i).map (cZ FB)).map gR).length),(11,I (i:Nat))])
  (fun i=>[Cc ⟨s,den,bl,zn,gm,oh⟩,A_ 3 ⟨xlv,⟨az,at'⟩,xF,xup,xbu,⟨x1,x2,x3,x4⟩,xh,xp⟩,(1003,g0+i,⟨87,9,((Q.take i).map (cZ FB)).map gR,1⟩)]) (fun i=>Q.length-i) 0 (aP _) ah ?_
 intro i s5 hi3;refine H ?_;rw[hQl];refine aV O ?_ ?_<;>intro h
 .have hlt:i<Q.length:=cw h;clear h;obtain⟨X,hx⟩:=ay hlt;have hXx:=hQx X (bC hx);have hw:=dN i;have w0:=cf 0 ⟨Y,Y⟩;have hrow:((Q.take (i+1)).map (cZ FB)).map gR=((Q.take i).map (cZ FB)).map gR++[I X::(eR (ofQ (gK FB X))++eR (ofQ (iK FB X)))]:=by rw[dY hx,bj,bj];rfl
  have hll:(((Q.take i).map (cZ FB)).map gR).length<=100:=by rw[aF,aF,bc];omega
  have hb:g0+(i+1)=g0+i+1:=O;have z0:ofQ ((0:Int):Rat)=ofQ (y3 F X (P.take 0)).1:=O;have z1:ofQ ((0:Int):Rat)=ofQ (y3 F X (P.take 0)).2:=O;generalize hRo:((Q.take i).map (cZ FB)).map gR=Ro at *
  generalize ofQ ((0:Int):Rat)=W0 at *
  refine cV 16 ?_;refine ao (e_ 12) ?_;refine a_ [(7,12),(8,12)] aH aH ?_;refine aN hx ?_;refine G w0 ?_;refine G w0 ?_;refine H ?_;refine aQ [(2,.ptr 2 1 0 0),(3,.ptr 3 1 0 0),(6,.sl ((P.map (cZ F)).map gR)),(7,.sl (Q.map eN)),(10,.als 1003 (g0+i) 0 Ro.length),(11,I (i:Nat)),(12,.ptr 12 ((s5.own 12).1+2+1) 0 0),(13,I ((0:Nat):Int))] [Cc ⟨s,den,bl,zn,gm,oh⟩,A_ 3 ⟨xlv,⟨az,at'⟩,xF,xup,xbu,⟨x1,x2,x3,x4⟩,xh,xp⟩,(1003,g0+i,⟨87,9,Ro,1⟩),(12,(s5.own 12).1+2+1,⟨87,9,[I X::(eR W0++eR W0)],2⟩)] ah ?_;generalize (s5.own 12).1+2+1=g12;intro s6;refine ai (fun j:Nat=>j<=P.length) (fun j=>[(2,.ptr 2 1 0 0),(3,.ptr 3 1 0 0),(6,.sl ((P.map (cZ F)).map gR)),(7,.sl (Q.map eN)),(10,.als 1003 (g0+i) 0 Ro.length),(11,I (i:Nat)),(12,.ptr 12 g12 0 0),(13,I (j:Nat))])
   (fun j=>[Cc ⟨s,den,bl,zn,gm,oh⟩,A_ 3 ⟨xlv,⟨az,at'⟩,xF,xup,xbu,⟨x1,x2,x3,x4⟩,xh,xp⟩,(1003,g0+i,⟨87,9,Ro,1⟩),(12,g12,⟨87,9,[I X::(eR (ofQ (y3 F X (P.take j)).1)++eR (ofQ (y3 F X (P.take j)).2))],2⟩)]) (fun j=>P.length-j) 0 (aP _) ⟨O,O,O,O,O,O,O,O,O,O,O,by rw[<-z0,<-z1];rfl,bh⟩ ?_
  clear z0 z1 w0;intro j s7 hj;refine H ?_;rw[hPl];refine aV O ?_ ?_<;>intro h
  .have hlj:j<P.length:=cw h;clear h;obtain⟨p,hp⟩:=ay hlj;have hpx:=hPx p (bC hp);have hxp:(P.map (cZ F))[j]?=some (p,gK F p,iK F p):=by rw[bw,hp];rfl
   have hw2:=dN j;have hsb:=gp (X-p);have zx:Zb (X-p):=aI J J;have wk:=cf (X-p) ⟨J,J⟩;have hac:=I5 F X (P.take j) p;rw[<-dY hp]at hac;have va:Vq (ofQ (gK F p)) (gK F p) 3000000:=Vq.ofQ (h:=⟨cx (yM hFq) J⟩);have vb:Vq (ofQ (iK F p)) (iK F p) 3000000:=Vq.ofQ (h:=⟨cx (yj hFq hFx hpx) J⟩);have vi:Vq (ofQ ((X-p:Int):Rat)) ((X-p:Int):Rat) 4:=Vq.ofQ (h:=HQ.int);have vm:Vq (ofQ (gK F p*((X-p:Int):Rat))) (gK F p*((X-p:Int):Rat)) (3000000+1+4):=Vq.ofQ (h:=@HQ.mul _ _ (3000000+1) 4 va.hq HQ.int);have m1:=b9 (ofQ (gK F p)) (ofQ ((X-p:Int):Rat)) (hx:=va) (hy:=vi) Y Y;have a2:=b8 (ofQ (iK F p)) (ofQ (gK F p*((X-p:Int):Rat))) (hx:=vb) (hy:=vm) Y Y;clear va vb vi vm;generalize y3 F X (P.take j)=C0,gK F p=a,iK F p=b at *
   obtain⟨c0,c1⟩:=C0;have hrw:gR (p,a,b)=I p::(eR (ofQ a)++eR (ofQ b)):=O;generalize hN2:ofQ (b+a*((X-p:Int):Rat))=N2 at *
   generalize ofQ (a*((X-p:Int):Rat))=N3,ofQ ((X-p:Int):Rat)=N4 at *
   generalize hA:ofQ a=A at *
   generalize hB:ofQ b=B at *
   generalize hK0:ofQ c0=K0 at *
   generalize hK1:ofQ c1=K1 at *
   try simp only at *
   refine cV 20 ?_;refine bL [] [] aH ?_;refine aN hxp ?_;rw[hrw];refine D ?_ ?_<;>intro h
   .have hle:p<=X:=bk h;clear h;rw[if_pos hle]at hac;refine aN hxp ?_;rw[hrw];refine cV 22 ?_;refine aQ [(2,.ptr 2 1 0 0),(3,.ptr 3 1 0 0),(6,.sl ((P.map (cZ F)).map gR)),(7,.sl (Q.map eN)),(10,.als 1003 (g0+i) 0 Ro.length),(11,I (i:Nat)),(12,.ptr 12 g12 0 0),(13,I (j:Nat))] [Cc ⟨s,den,bl,zn,gm,oh⟩,A_ 3 ⟨xlv,⟨az,at'⟩,xF,xup,xbu,⟨x1,x2,x3,x4⟩,xh,xp⟩,(1003,g0+i,⟨87,9,Ro,1⟩),(12,g12,⟨87,9,[I X::(eR A++eR K1)],2⟩)] ah ?_;intro s8;refine bM [] [12] 21 [21,22] aH aH ?_;refine aN hxp ?_;rw[hrw];refine aN hxp ?_;rw[hrw];refine aN hxp ?_;rw[hrw];refine H ?_;rw[hsb];refine oJ O O O wk O O ?_;refine G m1 ?_;refine G a2 ?_;refine H ?_;refine⟨j+1,hlj,J,O,O,O,O,O,O,O,congrArg I hw2,O,O,O,?_,bh⟩;rw[hac,hA,hN2];rfl
   .have hle:¬p<=X:=bS h;clear h;rw[if_neg hle]at hac;refine H ?_;refine⟨j+1,hlj,J,O,O,O,O,O,O,O,congrArg I hw2,O,O,O,?_,bh⟩;rw[hac,hK0,hK1];rfl
  have hje:j=P.length:=co h;clear h;subst hje;rw[bI,Mu hPa (fun p hp=>(hPx p hp).1) hXx.1 hFP];refine H ?_;have hz0:F++(mW bl v).take 0=F:=by rw[dK,cu]
  refine aQ [(2,.ptr 2 1 0 0),(3,.ptr 3 1 0 0),(6,.sl ((P.map (cZ F)).map gR)),(7,.sl (Q.map eN)),(10,.als 1003 (g0+i) 0 Ro.length),(11,I (i:Nat)),(12,.ptr 12 g12 0 0),(14,I ((0:Nat):Int))] [Cc ⟨s,den,bl,zn,gm,oh⟩,A_ 3 ⟨xlv,⟨az,at'⟩,xF,xup,xbu,⟨x1,x2,x3,x4⟩,xh,xp⟩,(1003,g0+i,⟨87,9,Ro,1⟩),(12,g12,⟨87,9,[I X::(eR (ofQ (gK F X))++eR (ofQ (iK F X)))],2⟩)] ah ?_;intro s9;refine ai (fun j:Nat=>j<=bl.length) (fun j=>[(2,.ptr 2 1 0 0),(3,.ptr 3 1 0 0),(6,.sl ((P.map (cZ F)).map gR)),(7,.sl (Q.map eN)),(10,.als 1003 (g0+i) 0 Ro.length),(11,I (i:Nat)),(12,.ptr 12 g12 0 0),(14,I (j:Nat))])
   (fun j=>[Cc ⟨s,den,bl,zn,gm,oh⟩,A_ 3 ⟨xlv,⟨az,at'⟩,xF,xup,xbu,⟨x1,x2,x3,x4⟩,xh,xp⟩,(1003,g0+i,⟨87,9,Ro,1⟩),(12,g12,⟨87,9,[I X::(eR (ofQ (gK (F++(mW bl v).take j) X))++eR (ofQ (iK (F++(mW bl v).take j) X)))],2⟩)]) (fun j=>bl.length-j) 0 (aP _) ⟨O,O,O,O,O,O,O,O,O,O,O,by rw[hz0];rfl,bh⟩ ?_
  clear hz0;intro j s10 hj;refine H ?_;rw[hbl];refine aV O ?_ ?_<;>intro h
  .have hlj:j<bl.length:=cw h;clear h;obtain⟨b,hbj⟩:=ay hlj;obtain⟨q,hqj⟩:=ay (show j<v.length by omega);have hxq:xF[j]?=some (ofQ q):=by rw[hF,bw,hqj];rfl
   have hbb:=hbx b (bC hbj);have hqq:=hvq q (bC hqj);have hw2:=dN j;have hsb:=gp (X-b.x);have zx:Zb (X-b.x):=aI J J;have wk:=cf (X-b.x) ⟨J,J⟩;have s1:=wK (F++(mW bl v).take j) (b.x,q) X;have s2:=wi (F++(mW bl v).take j) (b.x,q) X;rw[bg,<-dY (Dt hbj hqj)]at s1 s2;have hsub:∀y∈F++(mW bl v).take j,hq y.2 100000/\(-1000000<=y.1/\y.1<=1000000):=fun y hy=>by
    rcases dJ.1 hy with e|e
    .exact⟨hFq y e,hFx y e⟩
    .obtain⟨u,hu,rfl⟩:=aW.1 (dD e);exact⟨hvq _ (un hu).2,hbx _ (un hu).1⟩
   have hlt20:(F++(mW bl v).take j).length<=20:=by rw[bQ,bc];omega
   have va:Vq (ofQ (gK (F++(mW bl v).take j) X)) (gK (F++(mW bl v).take j) X) 3000000:=Vq.ofQ (h:=⟨cx (yM fun y hy=>(hsub y hy).1) J⟩);have vb:Vq (ofQ (iK (F++(mW bl v).take j) X)) (iK (F++(mW bl v).take j) X) 3000000:=Vq.ofQ (h:=⟨cx (yj (fun y hy=>(hsub y hy).1) (fun y hy=>(hsub y hy).2) hXx) J⟩);have vw:Vq (ofQ q) q 100000:=Vq.ofQ (h:=⟨hqq⟩);have vi:Vq (ofQ ((X-b.x:Int):Rat)) ((X-b.x:Int):Rat) 4:=Vq.ofQ (h:=HQ.int);have vm:Vq (ofQ (q*((X-b.x:Int):Rat))) (q*((X-b.x:Int):Rat)) (100000+4):=Vq.ofQ (h:=@HQ.mul _ _ 100000 4 ⟨hqq⟩ HQ.int);have a1:=b8 (ofQ (gK (F++(mW bl v).take j) X)) (ofQ q) (hx:=va) (hy:=vw) Y Y;have m1:=b9 (ofQ q) (ofQ ((X-b.x:Int):Rat)) (hx:=vw) (hy:=vi) Y Y;have a2:=b8 (ofQ (iK (F++(mW bl v).take j) X)) (ofQ (q*((X-b.x:Int):Rat))) (hx:=vb) (hy:=vm) Y Y;clear va vb vw vi vm hsub hlt20 hqq;generalize gK (F++(mW bl v).take j) X=U1,iK (F++(mW bl v).take j) X=U2 at *
   obtain⟨bx,bz,bhf,bht,bwd,bst,blim,bside⟩:=b;simp only at *
   generalize hN2:ofQ (U2+q*((X-bx:Int):Rat))=N2 at *
   generalize hN1:ofQ (U1+q)=N1 at *
   generalize ofQ (q*((X-bx:Int):Rat))=N3,ofQ ((X-bx:Int):Rat)=N4 at *
   generalize hV1:ofQ U1=V1 at *
   generalize hV2:ofQ U2=V2 at *
   generalize ofQ q=Qw at *
   refine cV 26 ?_;refine bL [] [] aH ?_;refine aN hbj ?_;refine D ?_ ?_<;>intro h
   .have hle:bx<=X:=bk h;clear h;rw[if_pos hle]at s1 s2;refine cV 27 ?_;refine bM [] [12] 8 [8,9] aH aH ?_;refine aN hxq ?_;refine G a1 ?_;refine cV 28 ?_;refine aQ [(2,.ptr 2 1 0 0),(3,.ptr 3 1 0 0),(6,.sl ((P.map (cZ F)).map gR)),(7,.sl (Q.map eN)),(10,.als 1003 (g0+i) 0 Ro.length),(11,I (i:Nat)),(12,.ptr 12 g12 0 0),(14,I (j:Nat))] [Cc ⟨s,den,bl,zn,gm,oh⟩,A_ 3 ⟨xlv,⟨az,at'⟩,xF,xup,xbu,⟨x1,x2,x3,x4⟩,xh,xp⟩,(1003,g0+i,⟨87,9,Ro,1⟩),(12,g12,⟨87,9,[I X::(eR N1++eR V2)],2⟩)] ah ?_;intro s11;refine bM [] [12] 19 [19,20] aH aH ?_;refine aN hxq ?_;refine aN hbj ?_;refine H ?_;rw[hsb];refine oJ O O O wk O O ?_;refine G m1 ?_;refine G a2 ?_;refine H ?_;refine⟨j+1,hlj,J,O,O,O,O,O,O,O,congrArg I hw2,O,O,O,?_,bh⟩;rw[s1,s2,hN1,hN2];rfl
   .have hle:¬bx<=X:=bS h;clear h;rw[if_neg hle]at s1 s2;refine H ?_;refine⟨j+1,hlj,J,O,O,O,O,O,O,O,congrArg I hw2,O,O,O,?_,bh⟩;rw[s1,s2,hV1,hV2];rfl
  have hje:j=bl.length:=co h;clear h;subst hje;rw[show(mW bl v).take bl.length=mW bl v from cT J,hFB];generalize ofQ (gK FB X)=A1,ofQ (iK FB X)=A2 at *
  refine H ?_;refine aC (bb 1 O O O O O O O O O O O ah O ?_);refine H ?_;refine aC (bO 1 O O O O O O O O O O O ah fW O O aS aS ?_);refine H ?_;refine⟨i+1,hlt,J,O,O,O,O,?_,congrArg I hw,O,O,?_,bh⟩
  .rw[hrow,hb];rfl
  .rw[hrow,hb];rfl
 .have hie:i=Q.length:=co h;clear h;subst hie;rw[bI]
  (repeat ((fail_if_success (with_reducible refine fh ?_));refine wV O ?_))
  refine ao (Ghost.takeD (k:=1003) (t:=4) O O O) ?_;exact cA
end Go.Pv
