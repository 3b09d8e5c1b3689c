/- Texts of one hand, gathered: PvNExtra, PvPExtra, PvYExtra, FmEExtra, FdHExtra, FdIExtra, FsBExtra, RaAExtra, DkBExtra, DkKExtra, DkMExtra, DkSExtra, DlJExtra, DmA, TaP, PvFm, TaA, TaB, TaC, TaD, TaE, TaF, DmC, TaG, TaH, TaI, DlK, DpA, TpC. -/
import Derived.Test.YtaeeehokaleakaaGreatBm5
import Derived.WalkKit
import Derived.Deep.LoopGhost
import Derived.Deep.RegionLaw
import Derived.Lib.Walk
import Derived.Sort.WalkB12
import Derived.Lib.SliceRun
set_option maxRecDepth 20000
set_option linter.unusedSectionVars false
set_option linter.unusedSimpArgs false
set_option linter.unusedVariables false
set_option linter.unnecessarySimpa false
namespace Go.Pv
open Go.RowKit
variable [Globs]
section
variable {P:Program}{L:b9}{Q:Exit->St->Prop}{K:St->Prop}{s:St}{ops:Array Oper}{rest:List Oper}{o:Oper}
theorem aaH {id:Nat}{l:List Oper}(n:Nat)(ds:List Nat)(hok:nG l.toArray n ds=true)(h:PQuiet P L l.toArray (fun s'=>PSem P L l.toArray (Q .normal) (l.drop n) s') (l.take n) s):PWP P L (.region id l.toArray true) Q s :=
 Gh.of (Or.inr (Or.inr ⟨n,ds,hok,PQuiet.mono (fun _ h=>PSem.semI _ _ h) _ _ h⟩))
variable {d e j:Nat}{op:Op}{ty:TypeId}{pos:String}{af:Array Edge}{want:Bool}
theorem acf {pv:PV}(hq:QOp P L s ⟨some d,op,ty,pos,af,none⟩ pv)(h:POps P L ops K rest (s.putR d pv)):POps P L ops K (⟨some d,op,ty,pos,af,none⟩::rest) s:=aC (.inl ⟨pv,hq,h⟩)
section ops
variable {g:Option (Nat × Bool)}{T:TypeId}{x y:Operand}{r re:LRow}{E:TypeId}
theorem ab0 {V:TypeId}{rows:List (List PV)}{zs:List PV}{key:PV}(kk:Option (List Sh))(hz:GO P V zs=true)(hr:L T=some r)(hs:r.sh=.map E V)(hre:L E=some re)(hg:y5 P E kk=true)(hx:s.ev x=.mapd rows)
  (hy:(s.ev y).fz=some key) (hky:mE re.sh kk key=true) (hkeys:jY re.sh kk rows=true):QOp P L s ⟨some d,.lookup T x y false,ty,pos,af,g⟩ (gT (.agg zs) key rows):=by
 rw[PV.fz_eq]at hy;have hy:=bk hy;have:=QOp.lookG (P:=P) (L:=L) (s:=s) (o:=⟨some d,.lookup T x y false,ty,pos,af,g⟩) O hr hs hre (fun _=>Jh hz) (.inl hx) hg (by rw[hy];exact hky) hkeys;rw[hy]at this;exact this
theorem abC {k gn:Nat}{T':TypeId}{ck cv:PV}{rem:List PV}(hx:s.ev x=.mi k gn)(hown:s.own k=(gn,some ⟨T',0,[.agg [ck,cv]::rem],3⟩)):QOp P L s ⟨some d,.entry x,ty,pos,af,g⟩ (.tup [ck,cv]) :=
 .entry O hx hown O O
theorem abA {V:TypeId}{rows:List (List PV)}{gn:Nat}{oc:Option Cont}(hr:L T=some r)(hs:r.sh=.map E V)(hx:s.ev x=.mapd rows)(hown:s.own d=(gn,oc))
  (h:K ((s.setOwn d (gn+1) (some ⟨T,0,zI rows,3⟩)).putR d (.mi d (gn+1)))):POp P L s ⟨some d,.range T x,ty,pos,af,g⟩ K:=by
 refine .inr (.inl ⟨_,.range O O hr hs hx,?_⟩);rw[St.fin,hown];exact h
theorem abS {k gn:Nat}{T':TypeId}{last:PV}{rem:List PV}(hx:s.ev x=.mi k gn)(hown:s.own k=(gn,some ⟨T',0,[last::rem],3⟩))
  (h0:rem=[]->K (s.putR d (.tup [.bool false]))) (h1:∀i ck cv,rem[i]?=some (.agg [ck,cv])->K ((s.setOwn k gn (some ⟨T',0,[.agg [ck,cv]::rem.eraseIdx i],3⟩)).putR d (.tup [.bool true,ck,cv]))):POp P L s ⟨some d,.next x false,ty,pos,af,g⟩ K :=
 .inr (.inr (.next O O hx hown O O h0 h1))
end ops
end
end Go.Pv
namespace Go.Pv
open Go.RowKit
variable [Globs]
section
variable {C:Ctx}{γ:Nat->Option Nat}{s:St}{a:Act}{w:World}
end
section
variable {s:St}
def ac1:PV->PV
 |.sl rows => .fsl rows
 |c=>c
theorem abo {E:Env}(hf:∀b,E.okf b->E.ok b){c:PV}{v:Value}(h:DRep E.w E.okf c v):Rep E (ac1 c) v:=by
 unfold ac1;split
 .exact .fsl h
 .exact .d (h.weaken hf)
theorem abg {α β:Type}{f:α->β}{l:List (List α)}{i j:Nat}{row1:List β}{b:β}(h1:(l.map (·.map f))[i]?=some row1)(h2:row1[j]?=some b):∃row0 a,l[i]?=some row0/\row0[j]?=some a/\f a=b:=by
 rw[aV]at h1;cases h:l[i]? with
 |none=>rw[h]at h1;simp at h1
 |some row0 =>
  rw[h]at h1;simp at h1;subst h1;rw[aV]at h2;cases h':row0[j]? with
  |none=>rw[h']at h2;simp at h2
  |some a=>rw[h']at h2;simp at h2;exact⟨row0,a,rfl,h',h2⟩
theorem Ghost.raise {k0 g0:Nat}{c0:Cont}(h0:s.own k0=(g0,some c0))(hk:c0.kind=0)(hz0:Nat.blt 0 c0.sz=true):Ghost s (s.setOwn k0 g0 (some ⟨c0.ty,c0.sz,c0.rows.map (·.map ac1),2⟩)):=by
 intro C a w hX ⟨γ,h⟩;have hz0:0<c0.sz:=by simpa using hz0
 refine⟨γ,h.recell h0 O O hz0 aj (fun r hr=>?_) fun i j row1 pv1 e1 e2=>?_⟩
 .obtain⟨r0,hr0,rfl⟩:=bF.1 hr;simpa using (h.sites k0 c0 (by rw[h0])).rowlen hz0 r0 hr0
 .obtain⟨row0,pv0,f1,f2,rfl⟩:=abg e1 e2;exact⟨row0,pv0,f1,f2,fun v hv=>by rw[hk]at hv;exact abo aI hv⟩
theorem Ghost.lower {k0 g0:Nat}{c0:Cont}(kd:Nat)(h0:s.own k0=(g0,some c0))(hk:c0.kind=2)(hz0:Nat.blt 0 c0.sz=true)(hall:∀row∈c0.rows,row.all (oS kd)=true):Ghost s (s.setOwn k0 g0 (some ⟨c0.ty,c0.sz,c0.rows.map (·.map (gv kd)),kd⟩)):=by
 intro C a w hX ⟨γ,h⟩;have hz0:0<c0.sz:=by simpa using hz0
 refine⟨γ,h.recell h0 O O hz0 aj (fun r hr=>?_) fun i j row1 pv1 e1 e2=>?_⟩
 .obtain⟨r0,hr0,rfl⟩:=bF.1 hr;simpa using (h.sites k0 c0 (by rw[h0])).rowlen hz0 r0 hr0
 .obtain⟨row0,pv0,f1,f2,rfl⟩:=abg e1 e2;refine⟨row0,pv0,f1,f2,fun v hv=>?_⟩;rw[hk]at hv;exact mD aI (bx.1 (hall row0 (bG f1)) pv0 (bG f2)) hv
end
end Go.Pv
namespace Go.Pv
open Go.RowKit
variable [Globs]
section
variable {P:Program}{L:b9}{s:St}
def TC.inst (mk:Nat->PV):TC->PV
 |.p o=>mk o
 |.c v=>v
end
end Go.Pv
namespace Go.Pv
section
variable {n:Nat}{S M:Nat->Rat}{y:Rat}{p:Nat}
theorem aak (h:Crv n S M)(hp:InR n S p y):∃e:Rat,0<e/\∀d,0<=d->d<=e->jF n S M (y+d)=jF n S M y+bU M p*d:=by
 obtain⟨e,h1,h2⟩:∃e:Rat,0<e/\(p<n->y+e<=S p):=by
  by_cases hn:p<n
  .have:=hp.2.2 hn;exact⟨S p-y,aW,fun _=>by grind⟩
  .exact⟨1,Y,fun h=>absurd h hn⟩
 refine⟨e,h1,fun d h3 h4=>?_⟩;rw[og h hp.c,og h (p:=p) (y:=y+d) ⟨hp.1,fun k hk=>by have:=hp.2.1 k hk;grind,fun hn=>by have:=h2 hn;grind⟩];grind
theorem aav (h:Crv n S M)(hp:InL n S p y):∃e:Rat,0<e/\∀d,0<=d->d<=e->jF n S M (y-d)=jF n S M y-bU M p*d:=by
 obtain⟨e,h1,h2⟩:∃e:Rat,0<e/\∀k,p=k+1->S k<=y-e:=by
  cases p with
  |zero=>exact⟨1,Y,fun k hk=>by omega⟩
  |succ k =>
   have:=hp.2.1 k O;refine⟨y-S k,aW,fun k' hk'=>?_⟩;obtain rfl:k=k':=J;grind
 refine⟨e,h1,fun d h3 h4=>?_⟩;rw[og h hp.c,og h (p:=p) (y:=y-d) ⟨hp.1,fun k hk=>by have:=h2 k hk;grind,fun hn=>by have:=hp.2.2 hn;grind⟩];grind
theorem aaI (h:Crv n S M)(hp:InR n S p y){v:Rat}(hv:0<v)(he:jF n S M (y+v)=jF n S M y):bU M p=0:=by
 obtain⟨e,h1,h2⟩:=aak h hp;have h3:0<tZ e v/\tZ e v<=e/\tZ e v<=v:=by simp only[tZ];grind
 generalize tZ e v=d at h3;have h4:=h2 d aW h3.2.1;have h5:=rh h (x:=y+d) (z:=y+v) aW;have h6:=Cg h hp.1;have h7:=Rat.mul_nonneg h6 (show 0<=d by grind);have h8:bU M p*d=0:=aW;rcases Rat.mul_eq_zero.1 h8 with h9|h9
 .exact h9
 .grind
theorem aaT (h:Crv n S M)(hp:InL n S p y){v:Rat}(hv:v<0)(he:jF n S M (y+v)=jF n S M y):bU M p=0:=by
 obtain⟨e,h1,h2⟩:=aav h hp;have h3:0<tZ e (-v)/\tZ e (-v)<=e/\tZ e (-v) <= -v:=by simp only[tZ];grind
 generalize tZ e (-v)=d at h3;have h4:=h2 d aW h3.2.1;have h5:=rh h (x:=y+v) (z:=y-d) aW;have h6:=Cg h hp.1;have h7:=Rat.mul_nonneg h6 (show 0<=d by grind);have h8:bU M p*d=0:=aW;rcases Rat.mul_eq_zero.1 h8 with h9|h9
 .exact h9
 .grind
end
namespace Bd
variable {b:Bd}
def Free (b:Bd)(z t A B:Rat):Prop:=∀i,i<b.N->(0<A+B*b.X i->∀p,InR (b.n i) (b.S i) p (b.y z t i)->bU (b.M i) p=0)/\(A+B*b.X i<0->∀p,InL (b.n i) (b.S i) p (b.y z t i)->bU (b.M i) p=0)
def Dir (b:Bd)(A B:Rat):Prop:=(A=1/\B=0)\/(A = -1/\B=0)\/∃i,i<b.N/\((A = -b.X i/\B=1)\/(A=b.X i/\B = -1))
theorem abq (z t A B s:Rat)(i:Nat):b.y (z+s*A) (t+s*B) i=b.y z t i+s*(A+B*b.X i):=by rw[y,y];grind
theorem ac_ (h:b.Ok){z t A B:Rat}(hf:b.Free z t A B):∃s:Rat,0<s/\∀i,i<b.N->b.f (z+s*A) (t+s*B) i=b.f z t i:=by
 have key:∀m,m<=b.N->∃s:Rat,0<s/\∀s',0<=s'->s'<=s->∀i,i<m->b.f (z+s'*A) (t+s'*B) i=b.f z t i:=by
  intro m
  induction m with
  |zero=>exact fun _=>⟨1,Y,fun _ _ _ i hi=>by omega⟩
  |succ m ih =>
   intro hm;obtain⟨s,h1,h2⟩:=ih J;have hc:=h.crv m J;obtain⟨s2,h3,h4⟩:∃s2:Rat,0<s2/\∀s',0<=s'->s'<=s2->b.f (z+s'*A) (t+s'*B) m=b.f z t m:=by
    rcases cx (0<A+B*b.X m) with hv|hv
    .obtain⟨p,hp⟩:=InR.get hc (b.y z t m);have h0:=(hf m J).1 hv p hp;obtain⟨e,g1,g2⟩:=aak hc hp;have hq:e/(A+B*b.X m)*(A+B*b.X m)=e:=jn aW;refine⟨e/(A+B*b.X m),by rw[kJ];exact Rat.mul_pos g1 (pq.2 hv),fun s' k1 k2=>?_⟩;have k3:=gF k1 (e_ hv);have k4:=Rat.mul_nonneg (show 0<=e/(A+B*b.X m)-s' by grind) (Rat.le_of_lt hv);rw[f,f,abq,g2 _ k3 aW,h0];grind
    .rcases cx (A+B*b.X m<0) with hv'|hv'
     .obtain⟨p,hp⟩:=InL.get hc (b.y z t m);have h0:=(hf m J).2 hv' p hp;obtain⟨e,g1,g2⟩:=aav hc hp;have hvp:0 < -(A+B*b.X m):=aW;have hq:e/(-(A+B*b.X m))*(-(A+B*b.X m))=e:=jn aW;refine⟨e/(-(A+B*b.X m)),by rw[kJ];exact Rat.mul_pos g1 (pq.2 hvp),fun s' k1 k2=>?_⟩;have k3:=gF k1 (e_ hvp);have k4:=Rat.mul_nonneg (show 0<=e/(-(A+B*b.X m))-s' by grind) (Rat.le_of_lt hvp);have k5:=g2 (s'*(-(A+B*b.X m))) k3 aW;rw[f,f,abq,show b.y z t m+s'*(A+B*b.X m)=b.y z t m-s'*(-(A+B*b.X m)) by grind,k5,h0];grind
     .have h0:A+B*b.X m=0:=aW;refine⟨1,Y,fun s' _ _=>?_⟩;rw[f,f,abq,h0];congr 1;grind
   refine⟨tZ s s2,by simp only[tZ];grind,fun s' k1 k2 i hi=>?_⟩;have k3:s'<=s/\s'<=s2:=by simp only[tZ]at k2;grind
   by_cases he:i<m
   .exact h2 s' k1 k3.1 i he
   .obtain rfl:i=m:=J;exact h4 s' k1 k3.2
 obtain⟨s,h1,h2⟩:=key b.N (aH);exact⟨s,h1,fun i hi=>h2 s aW du i hi⟩
theorem abc (_h:b.Ok){z t z' t':Rat}(hb:b.Bal z t)(hf:∀i,i<b.N->b.f z' t' i=b.f z t i):b.Bal z' t' :=
 ⟨by rw[<-hb.1];exact dc hf,by rw[<-hb.2];exact dc fun i hi=>by rw[hf i hi]⟩
theorem Bal.f_eq (h:b.Ok){z t z' t':Rat}(h1:b.Bal z t)(h2:b.Bal z' t'){i:Nat}(hi:i<b.N):b.f z t i=b.f z' t' i:=wR h (h1.1.trans h2.1.symm) (.inl (h1.2.trans h2.2.symm)) hi
theorem aa3 {P:Nat->Prop}(g:Nat->Rat):∀n,(∃i,i<n/\P i)->∃i,i<n/\P i/\∀j,j<n->P j->g i<=g j
 |0,⟨i,hi,_⟩=>by omega
 |n+1,⟨i,hi,hp⟩=>by
  rcases cx (∃i,i<n/\P i) with hx|hx
  .obtain⟨k,h1,h2,h3⟩:=aa3 g n hx;rcases cx (P n/\g n<g k) with hn|hn
   .refine⟨n,J,hn.1,fun j hj hpj=>?_⟩;by_cases he:j<n
    .have:=h3 j he hpj;grind
    .obtain rfl:j=n:=J;exact du
   .refine⟨k,J,h2,fun j hj hpj=>?_⟩;by_cases he:j<n
    .exact h3 j he hpj
    .obtain rfl:j=n:=J;have:¬g j<g k:=fun h=>hn ⟨hpj,h⟩;grind
  .have he:i=n:=by
    rcases aT i n with h|h
    .exact absurd ⟨i,h,hp⟩ hx
    .omega
   subst he;refine⟨i,J,hp,fun j hj hpj=>?_⟩;by_cases he:j<i
   .exact absurd ⟨j,he,hpj⟩ hx
   .obtain rfl:j=i:=J;exact du
theorem loose_iff (h:b.Ok){z t:Rat}(hb:b.Bal z t):(∃A B,b.Dir A B/\b.Free z t A B)↔∃z' t',b.Bal z' t'/\(z'≠z\/t'≠t):=by
 constructor
 .rintro⟨A,B,hd,hf⟩;obtain⟨s,h1,h2⟩:=ac_ h hf;refine⟨z+s*A,t+s*B,abc h hb h2,?_⟩;rcases cx (A=0) with ha|ha
  .right;have hB:B≠0:=by
    rcases hd with⟨g,_⟩|⟨g,_⟩|⟨i,_,⟨_,g⟩|⟨_,g⟩⟩<;>grind
   intro he;have:s*B=0:=aW;rcases Rat.mul_eq_zero.1 this with g|g<;>grind
  .left;intro he;have:s*A=0:=aW;rcases Rat.mul_eq_zero.1 this with g|g<;>grind
 .rintro⟨z',t',hb',hne⟩;have hfe:=fun i (hi:i<b.N)=>Bal.f_eq h hb' hb hi;have hfr:b.Free z t (z'-z) (t'-t):=by
   intro i hi;have hy:b.y z' t' i=b.y z t i+(z'-z+(t'-t)*b.X i):=by rw[y,y];grind
   have he:=hfe i hi;rw[f,f,hy]at he;exact⟨fun hv p hp=>aaI (h.crv i hi) hp hv he,fun hv p hp=>aaT (h.crv i hi) hp hv he⟩
  have use:∀A B:Rat,b.Dir A B->(∀i,i<b.N->(0<A+B*b.X i->0<z'-z+(t'-t)*b.X i)/\(A+B*b.X i<0->z'-z+(t'-t)*b.X i<0))->∃A B,b.Dir A B/\b.Free z t A B:=by
   intro A B hd hs;exact⟨A,B,hd,fun i hi=>⟨fun hv=>(hfr i hi).1 ((hs i hi).1 hv),fun hv=>(hfr i hi).2 ((hs i hi).2 hv)⟩⟩
  rcases cx (t'=t) with ht|ht
  .have hz:z'≠z:=by rcases hne with g|g<;>grind
   rcases cx (0<z'-z) with hp|hp
   .exact use 1 0 (.inl ⟨O,O⟩) fun i _=>⟨fun _=>by rw[ht];grind,fun hv=>by grind⟩
   .exact use (-1) 0 (.inr (.inl ⟨O,O⟩)) fun i _=>⟨fun hv=>by grind,fun _=>by rw[ht];grind⟩
  .rcases cx (∃i,i<b.N/\0<=z'-z+(t'-t)*b.X i) with hx|hx
   .rcases cx (0<t'-t) with hp|hp
    .obtain⟨k,h1,h2,h3⟩:=aa3 b.X b.N hx;refine use (-b.X k) 1 (.inr (.inr ⟨k,h1,.inl ⟨O,O⟩⟩)) fun i hi=>⟨fun hv=>?_,fun hv=>?_⟩
     .have:=Rat.mul_pos hp (show 0<b.X i-b.X k by grind);grind
     .rcases cx (0<=z'-z+(t'-t)*b.X i) with hc|hc
      .have:=h3 i hi hc;grind
      .grind
    .obtain⟨k,h1,h2,h3⟩:=aa3 (fun i => -b.X i) b.N hx;have hp':0<t-t':=aW;refine use (b.X k) (-1) (.inr (.inr ⟨k,h1,.inr ⟨O,O⟩⟩)) fun i hi=>⟨fun hv=>?_,fun hv=>?_⟩
     .have:=Rat.mul_pos hp' (show 0<b.X k-b.X i by grind);grind
     .rcases cx (0<=z'-z+(t'-t)*b.X i) with hc|hc
      .have:=h3 i hi hc;grind
      .grind
   .refine use (-1) 0 (.inr (.inl ⟨O,O⟩)) fun i hi=>⟨fun hv=>by grind,fun _=>?_⟩;rcases cx (0<=z'-z+(t'-t)*b.X i) with hc|hc
    .exact absurd ⟨i,hi,hc⟩ hx
    .grind
theorem exclude (h:b.Ok){z t A B:Rat}(hb:b.Bal z t)(hl:∀i,i<b.N->0<A+B*b.X i->b.lim i):b.w*(A+B*b.A)<=am (fun i=>if 0<A+B*b.X i then b.cap i*(A+B*b.X i) else 0) b.N:=by
 have h1:b.w*(A+B*b.A)=am (fun i=>b.f z t i*(A+B*b.X i)) b.N:=by
  have h2:=w7 (f:=fun i=>b.f z t i*A) (g:=fun i=>b.f z t i*b.X i*B) (n:=b.N);rw[qW (f:=b.f z t),qW (f:=fun i=>b.f z t i*b.X i)]at h2;have h3:am (fun i=>b.f z t i*(A+B*b.X i)) b.N=am (fun i=>b.f z t i*A+b.f z t i*b.X i*B) b.N:=dc fun i _=>by grind
  rw[h3,h2];have e1:am (b.f z t) b.N=b.w:=hb.1;have e2:am (fun i=>b.f z t i*b.X i) b.N=b.w*b.A:=hb.2;rw[e1,e2];grind
 rw[h1];refine uD fun i hi=>?_;have hnn:=IS h (z:=z) (t:=t) hi;split
 .rename_i hv;have hc:=h.crv i hi;have hle:b.f z t i<=b.cap i:=by
   obtain⟨q,hq⟩:∃q,b.y z t i<=q/\EV (b.n i) (b.S i) (b.n i) q:=by
    cases hn:b.n i with
    |zero=>exact⟨b.y z t i,du,⟨aH,fun k hk=>by omega,fun hk=>by omega⟩⟩
    |succ k=>exact⟨b.y z t i+fX (b.S i k-b.y z t i),by simp only[fX];grind,⟨aH,fun k' hk'=>by
      obtain rfl:k=k':=J
      simp only[fX];grind,fun hk=>by omega⟩⟩
   have:=rh hc hq.1;rw[xi hc hq.2 (hl i hi hv)]at this;exact this
  have:=Rat.mul_nonneg (show 0<=b.cap i-b.f z t i by grind) (Rat.le_of_lt hv);grind
 .rename_i hv;have:=Rat.mul_nonneg hnn (show 0 <= -(A+B*b.X i) by grind);grind
end Bd
set_option maxHeartbeats 2000000
attribute [local irreducible] PWP POps PQuiet PSem XThen XBlock RetPost InlPost
open Go.Proofs
theorem aaa:(ofQ ((-1:Int):Rat)).val = -1:=by rw[ofQ_val];rfl
theorem aa2 {b:BR}(hb:b.Ok){z t A B:Rat}:ov b.l z t A B=true↔(bd b).Free z t A B:=by
 have hcr:=(k9 hb).crv;rw[ov,bx];constructor
 .intro h i hi;have h1:=h _ (bq (l:=b.l) hi);rw[EZ,decide_eq_true_eq]at h1;refine⟨fun hp p hpr=>?_,fun hp p hpl=>?_⟩
  .have e:p=(bd b).pR z t i:=InR.uniq (hcr i hi) hpr H4;subst e;rcases cx (rV (b.l.getD i dS) z t=0) with g|g
   .exact g
   .exact absurd (.inl ⟨hp,g⟩) h1
  .have e:p=(bd b).pL z t i:=InL.uniq (hcr i hi) hpl x7;subst e;rcases cx (lV (b.l.getD i dS) z t=0) with g|g
   .exact g
   .exact absurd (.inr ⟨hp,g⟩) h1
 .intro h s hs;obtain⟨i,hi,rfl⟩:=List.mem_iff_getElem.1 hs;have e:b.l.getD i dS=b.l[i]:=by rw[cH,aQ hi];rfl
  obtain⟨h1,h2⟩:=h i hi;rw[EZ,decide_eq_true_eq,<-e];rintro(⟨g1,g2⟩|⟨g1,g2⟩)
  .exact g2 (h1 g1 _ H4)
  .exact g2 (h2 g1 _ x7)
theorem aaQ {b:BR}(hb:b.Ok){z t:Rat}:qt b z t=true↔∃A B,(bd b).Dir A B/\(bd b).Free z t A B:=by
 rw[qt,List.any_eq_true];constructor
 .rintro⟨d,hd,hf⟩;rw[aa2 hb]at hf;refine⟨_,_,?_,hf⟩;rw[k_,ef,fe,fe]at hd;rcases hd with(hd|hd)|hd
  .obtain⟨x,hx,rfl⟩:=bF.1 hd;obtain⟨s,hs,rfl⟩:=x8 hx;obtain⟨i,hi,rfl⟩:=List.mem_iff_getElem.1 hs;have e:b.l.getD i dS=b.l[i]:=by rw[cH,aQ hi];rfl
   refine .inr (.inr ⟨i,hi,.inl ⟨?_,FS⟩⟩);rw[rG,ofQ_val];show _ = -((b.l.getD i dS).x:Rat);rw[e];push_cast;rfl
  .obtain⟨x,hx,rfl⟩:=bF.1 hd;obtain⟨s,hs,rfl⟩:=x8 hx;obtain⟨i,hi,rfl⟩:=List.mem_iff_getElem.1 hs;have e:b.l.getD i dS=b.l[i]:=by rw[cH,aQ hi];rfl
   refine .inr (.inr ⟨i,hi,.inr ⟨?_,aaa⟩⟩);rw[yR,ofQ_val];show _=((b.l.getD i dS).x:Rat);rw[e]
  .simp at hd;rcases hd with rfl|rfl
   .exact .inl ⟨FS,zero_val⟩
   .exact .inr (.inl ⟨aaa,zero_val⟩)
 .rintro⟨A,B,hd,hf⟩;rcases hd with⟨rfl,rfl⟩|⟨rfl,rfl⟩|⟨i,hi,⟨rfl,rfl⟩|⟨rfl,rfl⟩⟩
  .refine⟨fi,by simp[k_],?_⟩;rw[aa2 hb,show fi.z.val=1 from FS,show fi.t.val=0 from zero_val];exact hf
  .refine⟨Hg,by simp[k_],?_⟩;rw[aa2 hb,show Hg.z.val = -1 from aaa,show Hg.t.val=0 from zero_val];exact hf
  .have hx:=xX (bq (l:=b.l) hi);refine⟨rG (b.l.getD i dS).x,?_,?_⟩
   .rw[k_,ef];exact iq _ (iq _ (bF.2 ⟨_,hx,O⟩))
   .rw[aa2 hb,rG,FS,ofQ_val];have e:(((-(b.l.getD i dS).x:Int)):Rat) = -(bd b).X i:=by
     show _ = -((b.l.getD i dS).x:Rat)
     push_cast;rfl
    rw[e];exact hf
  .have hx:=xX (bq (l:=b.l) hi);refine⟨yR (b.l.getD i dS).x,?_,?_⟩
   .rw[k_,ef];exact iq _ (gN _ (bF.2 ⟨_,hx,O⟩))
   .rw[aa2 hb,yR,aaa,ofQ_val];exact hf
theorem aaR {b:BR}(hb:b.Ok){z t:Rat}(h:(bd b).Bal z t):qt b z t=false↔∀z' t',(bd b).Bal z' t'->z'=z/\t'=t:=by
 have h1:=aaQ (z:=z) (t:=t) hb;rw[Bd.loose_iff (k9 hb) h]at h1;constructor
 .intro h2 z' t' h3;rcases cx (z'=z) with g|g
  .rcases cx (t'=t) with g2|g2
   .exact⟨g,g2⟩
   .rw[h1.2 ⟨z',t',h3,.inr g2⟩]at h2;cases h2
  .rw[h1.2 ⟨z',t',h3,.inl g⟩]at h2;cases h2
 .intro h2;cases hl:qt b z t with
  |false=>rfl
  |true =>
   obtain⟨z',t',h3,h4⟩:=h1.1 hl;obtain⟨rfl,rfl⟩:=h2 z' t' h3;simp at h4
theorem aaV {b:BR}(hb:b.Ok){z t:Rat}(h:(bd b).Bal z t)(A B:Rat):qK b A B=false:=by
 cases hr:qK b A B with
 |false=>rfl
 |true =>
  obtain⟨h1,h2⟩:=wI.1 hr;have h3:=Bd.exclude (k9 hb) h (A:=A) (B:=B) h1;have e:am (yT b.l A B) b.l.length=am (fun i=>if 0<A+B*(bd b).X i then(bd b).cap i*(A+B*(bd b).X i) else 0) (bd b).N:=O;rw[<-e]at h3;have h4:(b.w:Rat)*(A+B*b.a.val)<=am (yT b.l A B) b.l.length:=h3;grind
theorem ab6 {b:BR}(hb:b.Ok){z t:Rat}(h:(bd b).Bal z t):oo b:=⟨aaV hb h _ _,fun _ _=>aaV hb h _ _⟩
def acm (x:RR)(n:Nat):Bool:=decide (x.n.l.length<=n)&&decide (x.d.l.length<=n)
end Go.Pv
set_option maxHeartbeats 2000000
namespace Go.Pv
attribute [local irreducible] PWP POps PQuiet PSem XThen XBlock RetPost InlPost
open Go.Proofs
theorem aba (x:Int):eG (Jp x).k=0:=by
 have h:ly (Jp x).k 0=0:=by
  rw[ly,if_neg,if_neg J];simp only[Jp,List.getD_cons_zero,ofQ_val];decide
 have h1:ly (Jp x).k 1=0:=by
  rw[ly,if_neg,if_neg]
  .simp[Jp]
  .simp only[Jp,List.getD_cons_zero,List.getD_cons_succ,ofQ_val];decide
 rw[eG,if_neg (show ¬40<(Jp x).k.S.length by simp[Jp]),if_neg (show ¬(Jp x).k.M.length≠(Jp x).k.S.length by simp[Jp])];show lG (Jp x).k 0 2=0;rw[lG,if_pos h,lG,if_pos h1,lG]
theorem abI {s:SR}(hx : -1000000<=s.x/\s.x<=1000000)(hc : -10000000<=s.c.val/\s.c.val<=10000000)(hk:eG s.k=0):w8 s=0:=by
 rw[w8,if_neg,hk];rw[show((10000000:Int):Rat)=10000000 from O];rintro(h|h)
 .omega
 .grind
theorem ab3 {x:Int}(hx : -1000000<=x/\x<=1000000):w8 (Jp x)=0:=abI hx (by show -10000000<=(ofQ 0).val/\(ofQ 0).val<=10000000;rw[ofQ_val];decide) (aba x)
theorem abY:df r1=0:=by
 rw[df,if_neg]
 .rw[di,if_neg Y];show i4 w8 [Jp 5000,Jp 15000]=0;rw[i4,if_pos (ab3 ⟨Y,Y⟩),i4,if_pos (ab3 ⟨Y,Y⟩),i4]
 .simp only[r1,ofQ_val];decide
def ace (y:Rat):Rat:=if y<0 then 0 else 1000*y
theorem abJ (x:Int)(z t:Rat):fQ (Jp x) z t=wf (z+t*(x:Rat)):=by
 rw[fQ,jF];show am (fp (Jp x).k.s (Jp x).k.m (yQ (Jp x) z t)) 2=_;rw[am,am,am,fp,fp,yQ,bU,bU];show 0+(if (ofQ 0).val+(z+t*(x:Rat))-((0:Int):Rat)<0 then 0 else((ofQ ((80:Int):Rat)).val-0)*((ofQ 0).val+(z+t*(x:Rat))-((0:Int):Rat)))+(if (ofQ 0).val+(z+t*(x:Rat))-((3000:Int):Rat)<0 then 0 else((ofQ 0).val-(ofQ ((80:Int):Rat)).val)*((ofQ 0).val+(z+t*(x:Rat))-((3000:Int):Rat)))=_;simp only[ofQ_val];rw[show((0:Int):Rat)=0 from O,show((80:Int):Rat)=80 from O,show((3000:Int):Rat)=3000 from O,wf];grind
theorem ac4:((5000:Int):Rat)=5000:=rfl
theorem acl:((15000:Int):Rat)=15000:=rfl
theorem ac6 (z t:Rat):(bd r1).F z t=wf (z+t*5000)+wf (z+t*15000):=by
 have e:(bd r1).F z t=(0+fQ (Jp 5000) z t)+fQ (Jp 15000) z t:=O;rw[e,abJ,abJ,ac4,acl];grind
theorem ac7 (z t:Rat):(bd r1).G0 z t=wf (z+t*5000)*5000+wf (z+t*15000)*15000:=by
 have e:(bd r1).G0 z t=(0+fQ (Jp 5000) z t*((5000:Int):Rat))+fQ (Jp 15000) z t*((15000:Int):Rat):=O;rw[e,abJ,abJ,ac4,acl];grind
theorem abZ:(bd r1).w=320000:=rfl
theorem ac5:(bd r1).A=10000:=by show(ofQ ((10000:Int):Rat)).val=10000;rw[ofQ_val];rfl
theorem abX:(bd r1).Bal 2000 0:=by
 have e:(bd r1).F 2000 0=(bd r1).w/\(bd r1).G0 2000 0=(bd r1).w*(bd r1).A:=by
  rw[ac6,ac7,abZ,ac5];simp only[wf,ace];constructor<;>grind
 exact e
def abt (x:Int):ST:=⟨x,10000,[0,3000],[4000]⟩
def aco:LR:=⟨[76,105,103,104,116],320000,10000,2000,0⟩
theorem ac8:wV 1000 (abt 5000)=[ofQ ((80:Int):Rat),ofQ 0]:=by
 show [ofQ (((2*4000*10000:Int):Rat)*(((1000:Nat):Rat)/1000000000)),ofQ 0]=_;rw[show((2*4000*10000:Int):Rat)*(((1000:Nat):Rat)/1000000000)=((80:Int):Rat) by decide +kernel]
theorem abL (x:Int):iH 1000 (abt x)=Jp x:=by
 have:wV 1000 (abt x)=wV 1000 (abt 5000):=O;rw[iH,this,ac8];rfl
end Go.Pv
set_option maxHeartbeats 2000000
namespace Go.Pv
attribute [local irreducible] PWP POps PQuiet PSem XThen XBlock RetPost InlPost
open Go.Proofs Go.RowKit
def acn (b:BKR):Bool:=acm b.st 3
def acp (z:ZNR):Bool:=decide (z.nm.length<=40)
def acd (d:DKR):Bool:=JI d.s&&!decide ((5<d.bl.length/\d.bl.length<=40)\/65<d.bl.length\/(4<d.zn.length/\d.zn.length<=20)\/25<d.zn.length)
def ac2 (d:DKR):Bool:=acd d&&d.bl.all acn&&d.zn.all acp
end Go.Pv
set_option maxHeartbeats 2000000
namespace Go.Pv
attribute [local irreducible] PWP POps PQuiet PSem XThen XBlock RetPost InlPost
open Go.Proofs
def aaq:List ST:=[abt 5000,abt 15000]
theorem ac9 {d:DKR}(h:ac2 d=true):SmD d:=by
 simp only[ac2,acd,JI,I9,bj,i8,decide_eq_false_iff_not,bx]at h;obtain⟨⟨⟨⟨⟨h1,h2⟩,-⟩,h3⟩,h4⟩,-⟩:=h;refine⟨J,J,J,J,fun t ht=>?_,fun b hb=>?_⟩
 .have:=h2 t ht;simp only[Ei,i8,decide_eq_false_iff_not]at this;omega
 .have:=h4 b hb;simp only[acn,acm,bj,decide_eq_true_eq]at this;exact this
theorem abG {b:BR}(h:df b≠0):n6 b=⟨zA,[],zA,df b⟩:=by rw[n6,if_neg h]
end Go.Pv
set_option maxHeartbeats 2000000
namespace Go.Pv
attribute [local irreducible] PWP POps PQuiet PSem XThen XBlock RetPost InlPost
open Go.Proofs Go.RowKit Go.Sort
theorem Chg.trans {w w1 w2:World}{b:Nat}{T:TypeId}{c1 c2:Array Value}(h1:Chg w w1 b T c1)(h2:Chg w1 w2 b T c2):Chg w w2 b T c2 :=
 ⟨h2.os.trans h1.os,h2.tape.trans h1.tape,h2.output.trans h1.output,bz h1.size h2.size,fun b' hne hb=>(h2.other b' hne (eH hb h1.size)).trans (h1.other b' hne hb),h2.at_⟩
theorem aa4 (b:Nat)(T:TypeId):∀(vs:List Value) (o:Nat) (w:World) (cur:Array Value),w.heap[b]?=some (.cells cur T (0,0)) ->
  ∃cur',Chg w (w.setCells b o vs) b T cur'/\cur'.size=cur.size/\∀q,cur'[q]? = if o<=q/\q<o+vs.length/\q<cur.size then vs[q-o]? else cur[q]?
 |[],o,w,cur,hh=>⟨cur,⟨rfl,rfl,rfl,aH,fun _ _ _=>rfl,hh⟩,rfl,fun q=>by rw[if_neg aX]⟩
 |v::r,o,w,cur,hh=>by
  have h1:(w.setCell ⟨b,o,none⟩ v).heap[b]?=some (.cells (cur.setIfInBounds o v) T (0,0)):=by
   show(w.heap.modify b _)[b]? = _;rw[mI,if_pos O,hh];rfl
  have c1:Chg w (w.setCell ⟨b,o,none⟩ v) b T (cur.setIfInBounds o v):=by
   refine⟨O,O,O,?_,fun b' hne _=>?_,h1⟩
   .show w.heap.size<=(w.heap.modify b _).size;simp
   .show(w.heap.modify b _)[b']? = _;rw[mI,if_neg (Ne.symm hne)]
  obtain⟨cur',c2,hs,hq⟩:=aa4 b T r (o+1) (w.setCell ⟨b,o,none⟩ v) _ h1;refine⟨cur',c1.trans c2,by rw[hs];simp,fun q=>?_⟩;rw[hq q];simp only[Array.size_setIfInBounds,eJ];by_cases g:o=q
  .subst g;rw[if_neg J];by_cases g2:o<cur.size
   .rw[if_pos ⟨aH,J,g2⟩,fU];simp[g2]
   .rw[if_neg J];simp[g2]
  .by_cases g1:o+1<=q/\q<o+1+r.length/\q<cur.size
   .rw[if_pos g1,if_pos J,show q-o=(q-(o+1))+1 by omega];rfl
   .rw[if_neg g1,if_neg J,y7 g]
theorem ab1 (s:St)(k g1 g2:Nat)(c1 c2:Option Cont):(s.setOwn k g1 c1).setOwn k g2 c2=s.setOwn k g2 c2:=by
 have:((s.setOwn k g1 c1).setOwn k g2 c2).own=(s.setOwn k g2 c2).own:=by
  funext r;by_cases hr:r=k
  .subst hr;rw[ah,ah]
  .rw[ar hr,ar hr,ar hr]
 cases s;simp only[St.setOwn]at this ⊢;rw[this]
variable {s:St}{d k g m:Nat}{ty:TypeId}{pos:String}{af:Array Edge}{x y z:Operand}{tys:Array TypeId}{K:St->Prop}
end Go.Pv
namespace Go.Pv
open Go.Proofs
abbrev FMap:=List (Int × Rat)
def vB:FMap->Int->Rat
 |[],_=>0
 |(y,q)::m,x=>if y=x then q else vB m x
def D9:FMap->Int->Rat->FMap
 |[],x,q=>[(x,q)]
 |(y,p)::m,x,q=>if y=x then(y,q)::m else(y,p)::D9 m x q
def FY (m:FMap)(x:Int)(f:Rat):FMap:=D9 m x (vB m x+f)
def C9 (m:FMap):List Int:=m.map (·.1)
theorem aaF (x y:Int)(q:Rat):∀m:FMap,vB (D9 m x q) y=if y=x then q else vB m y
 |[]=>by
  rw[D9,vB,vB];by_cases h:x=y
  .rw[if_pos h,if_pos h.symm]
  .rw[if_neg h,if_neg (Ne.symm h)];rfl
 |(z,p)::m=>by
  have ih:=aaF x y q m;rw[D9];by_cases h:z=x
  .rw[if_pos h,vB,vB];by_cases g:z=y
   .rw[if_pos g,if_pos J]
   .rw[if_neg g,if_neg J,if_neg g]
  .rw[if_neg h,vB,vB,ih];by_cases g:z=y
   .rw[if_pos g,if_neg J,if_pos g]
   .rw[if_neg g,if_neg g]
theorem aa_ (x:Int)(q:Rat):∀m:FMap,C9 (D9 m x q)=if x∈C9 m then C9 m else C9 m++[x]
 |[]=>rfl
 |(z,p)::m=>by
  have ih:=aa_ x q m;rw[D9];by_cases h:z=x
  .rw[if_pos h,if_pos (by simp[C9,h])];rfl
  .rw[if_neg h];show z::C9 (D9 m x q)=if x∈z::C9 m then z::C9 m else z::C9 m++[x]
   rw[ih];by_cases g:x∈C9 m
   .rw[if_pos g,if_pos (ir _ g)]
   .rw[if_neg g,if_neg (fun e=>by rcases cw.1 e with e|e;exact h e.symm;exact g e)];rfl
def I_ (c:Int->Bool):FMap->Rat
 |[]=>0
 |p::L=>(if c p.1=true then p.2 else 0)+I_ c L
def aa0 (c:Int->Bool):FMap->Rat
 |[]=>0
 |p::L=>(if c p.1=true then p.2*(p.1:Rat) else 0)+aa0 c L
theorem aam (c:Int->Bool)(L M:FMap):I_ c (L++M)=I_ c L+I_ c M:=by
 induction L with
 |nil=>rw[List.nil_append,I_];grind
 |cons p L ih=>rw[List.cons_append,I_,I_,ih];grind
theorem abh (c:Int->Bool)(L M:FMap):aa0 c (L++M)=aa0 c L+aa0 c M:=by
 induction L with
 |nil=>rw[List.nil_append,aa0];grind
 |cons p L ih=>rw[List.cons_append,aa0,aa0,ih];grind
theorem aab (c:Int->Bool){N:Nat}(h4:4<=N):∀ {L:FMap},(∀p∈L,hq p.2 N)->hq (I_ c L) (L.length*(N+1)+4)
 |[],_=>ep HQ.zero.ok aj
 |p::L,h=>by
  have ih:=aab c h4 fun q hq=>h q (ir _ hq);have h1:hq (if c p.1=true then p.2 else 0) N:=by
   split
   .exact h p aj
   .exact ep HQ.zero.ok h4
  rw[I_];exact ep (@HQ.add _ _ _ _ ⟨h1⟩ ⟨ih⟩).ok (by rw[eJ,be];omega)
theorem aaZ (c:Int->Bool){N:Nat}(h4:4<=N):∀ {L:FMap},(∀p∈L,hq p.2 N/\hq (p.1:Rat) 4)->hq (aa0 c L) (L.length*(N+5)+4)
 |[],_=>ep HQ.zero.ok aj
 |p::L,h=>by
  have ih:=aaZ c h4 fun q hq=>h q (ir _ hq);have h1:hq (if c p.1=true then p.2*(p.1:Rat) else 0) (N+4):=by
   split
   .exact(@HQ.mul _ _ _ _ ⟨(h p aj).1⟩ ⟨(h p aj).2⟩).ok
   .exact ep HQ.zero.ok J
  rw[aa0];exact ep (@HQ.add _ _ _ _ ⟨h1⟩ ⟨ih⟩).ok (by rw[eJ,be];omega)
structure AccOk (m L:FMap):Prop where
 nd:(C9 m).Nodup
 get:∀x,vB m x=I_ (fun y=>decide (y=x)) L
 mem:∀x,x∈C9 m↔∃p∈L,p.1=x
theorem AccOk.nil:AccOk [] []:=⟨List.nodup_nil,fun _=>rfl,fun x=>by simp[C9]⟩
theorem AccOk.put {m L:FMap}(h:AccOk m L)(x:Int)(f:Rat):AccOk (FY m x f) (L++[(x,f)]):=by
 refine⟨?_,fun y=>?_,fun y=>?_⟩
 .rw[FY,aa_];split
  .exact h.nd
  .rename_i hx;exact List.nodup_append.2 ⟨h.nd,aj,fun a ha b hb=>by rw[lQ.1 hb];exact fun e=>hx (e▸ha)⟩
 .rw[FY,aaF,aam,I_,I_,h.get y];by_cases e:y=x
  .subst e;rw[if_pos O,if_pos aj,h.get];grind
  .rw[if_neg e,if_neg (by simp[Ne.symm e])];grind
 .rw[FY,aa_];have hm:=h.mem y;split
  .rename_i hx;obtain⟨p,hp,e⟩:=(h.mem x).1 hx;rw[hm];constructor
   .rintro⟨p,hp,e⟩;exact⟨p,iq _ hp,e⟩
   .rintro⟨q,hq,e'⟩;rcases fe.1 hq with hq|hq
    .exact⟨q,hq,e'⟩
    .rw[lQ.1 hq]at e';exact⟨p,hp,e.trans e'⟩
  .rw[fe,hm,lQ];constructor
   .rintro(⟨p,hp,e⟩|e)
    .exact⟨p,iq _ hp,e⟩
    .exact⟨(x,f),aj,e.symm⟩
   .rintro⟨q,hq,e'⟩;rcases fe.1 hq with hq|hq
    .exact .inl ⟨q,hq,e'⟩
    .rw[lQ.1 hq]at e';exact .inr e'.symm
theorem aaY:∀ {m:FMap},(C9 m).Nodup->∀p∈m,p.2=vB m p.1
 |[],_,_,h=>by cases h
 |(y,q)::m,hn,p,hp=>by
  have hn2:=kC.1 (show(y::C9 m).Nodup from hn);rw[vB];rcases cw.1 hp with rfl|hp
  .rw[if_pos O]
  .rw[if_neg (show ¬y=p.1 from fun e=>hn2.1 (by rw[e];exact bF.2 ⟨p,hp,O⟩))];exact aaY hn2.2 p hp
theorem AccOk.vals {m L:FMap}(h:AccOk m L){N K:Nat}(h4:4<=N)(hL:∀p∈L,hq p.2 N)(hK:L.length*(N+1)+4<=K):∀p∈m,hq p.2 K:=fun p hp=>by
 rw[aaY h.nd p hp,h.get];exact ep (aab _ h4 hL) hK
def aa6 (P:List Int)(x:Int):Bool:=decide (x∈P)
theorem aao {L:FMap}{P:List Int}{i:Nat}{x:Int}(hP:P.Nodup)(hx:P[i]?=some x):I_ (aa6 (P.take (i+1))) L=I_ (aa6 (P.take i)) L+I_ (fun y=>decide (y=x)) L/\aa0 (aa6 (P.take (i+1))) L=aa0 (aa6 (P.take i)) L+I_ (fun y=>decide (y=x)) L*(x:Rat):=by
 have ht:P.take (i+1)=P.take i++[x]:=bY hx;have hn:x∉P.take i:=by
  have:(P.take (i+1)).Nodup:=List.Nodup.sublist (o_ _ _) hP;rw[ht,List.nodup_append]at this;exact fun e=>this.2.2 x e x aj O
 have key:∀p:Int × Rat,((if aa6 (P.take (i+1)) p.1=true then p.2 else 0)=(if aa6 (P.take i) p.1=true then p.2 else 0)+(if decide (p.1=x)=true then p.2 else 0))/\((if aa6 (P.take (i+1)) p.1=true then p.2*(p.1:Rat) else 0)=(if aa6 (P.take i) p.1=true then p.2*(p.1:Rat) else 0)+(if decide (p.1=x)=true then p.2 else 0)*(x:Rat)):=fun p=>by
  obtain⟨y,q⟩:=p;simp only[aa6,ht,decide_eq_true_eq,fe,lQ];by_cases h1:y=x
  .subst h1;simp only[hn,false_or,if_true,if_false];constructor<;>grind
  .by_cases h2:y∈P.take i
   .simp only[h1,h2,true_or,if_true,if_false];constructor<;>grind
   .simp only[h1,h2,or_self,if_false];constructor<;>grind
 induction L with
 |nil=>simp only[I_,aa0];constructor<;>grind
 |cons p L ih =>
  obtain⟨k1,k2⟩:=key p;rw[I_,I_,I_,aa0,aa0,ih.1,ih.2,k1,k2];constructor<;>grind
theorem aaJ (L:FMap):I_ (aa6 []) L=0/\aa0 (aa6 []) L=0:=by
 induction L with
 |nil=>exact⟨rfl,rfl⟩
 |cons p L ih =>
  rw[I_,aa0,ih.1,ih.2];simp only[aa6,tP,decide_false,cF,if_false];constructor<;>grind
theorem abH {L:FMap}{P:List Int}(h:∀p∈L,p.1∈P):I_ (aa6 P) L=I_ (fun _=>true) L/\aa0 (aa6 P) L=aa0 (fun _=>true) L:=by
 induction L with
 |nil=>exact⟨rfl,rfl⟩
 |cons p L ih =>
  obtain⟨i1,i2⟩:=ih fun q hq=>h q (ir _ hq);have hp:aa6 P p.1=true:=decide_eq_true (h p aj);rw[I_,aa0,I_,aa0,i1,i2,hp];exact⟨O,O⟩
def aa5 (L:FMap):FMap:=L.foldl (fun m p=>FY m p.1 p.2) []
theorem aas (L:FMap)(p:Int × Rat):aa5 (L++[p])=FY (aa5 L) p.1 p.2:=by rw[aa5,mM];rfl
theorem aaz (L:FMap):AccOk (aa5 L) L:=by
 have key:∀(M K m:FMap),AccOk m K->AccOk (M.foldl (fun m p=>FY m p.1 p.2) m) (K++M):=by
  intro M
  induction M with
  |nil=>intro K m h;rw[cu];exact h
  |cons p M ih =>
   intro K m h;have:=ih (K++[p]) _ (h.put p.1 p.2);rw[bt]at this;exact this
 exact key L [] [] .nil
theorem aaU {a b:List Int}(h:a.Perm b):ee a=ee b:=by
 have tr:∀a b c:Int,decide (a<=b)=true->decide (b<=c)=true->decide (a<=c)=true:=fun a b c h1 h2=>by
  simp only[decide_eq_true_eq]at *;omega
 have tot:∀a b:Int,(decide (a<=b)||decide (b<=a))=true:=fun a b=>by
  simp only[pd,decide_eq_true_eq];omega
 refine List.Perm.eq_of_pairwise (le:=fun x y:Int=>decide (x<=y)=true) ?_ (List.pairwise_mergeSort tr tot a) (List.pairwise_mergeSort tr tot b) ((List.mergeSort_perm a _).trans (h.trans (List.mergeSort_perm b _).symm));intro x y _ _ h1 h2;simp only[decide_eq_true_eq]at h1 h2;omega
theorem aah (a:List Int):(ee a).Perm a:=List.mergeSort_perm a _
def aa8 (L:FMap):List Int:=ee (C9 (aa5 L))
theorem abW (L:FMap):(aa8 L).Nodup:=(aah _).nodup_iff.2 (aaz L).nd
theorem aaB (L:FMap)(x:Int):x∈aa8 L↔∃p∈L,p.1=x:=((aah _).mem_iff).trans ((aaz L).mem x)
theorem aaN {α:Type}{l:List α}{i:Nat}{e:α}(h:l[i]?=some e):(e::l.eraseIdx i).Perm l:=by
 induction l generalizing i with
 |nil=>simp at h
 |cons x l ih =>
  cases i with
  |zero=>simp at h;subst h;exact .refl _
  |succ i =>
   rw[List.eraseIdx_cons_succ];exact(List.Perm.swap x e _).trans ((ih (by simpa using h)).cons x)
theorem ab_ {acc:List Int}{rem:FMap}{i:Nat}{e:Int × Rat}(h:rem[i]?=some e):(acc++[e.1]++(rem.eraseIdx i).map (·.1)).Perm (acc++rem.map (·.1)):=by
 rw[bt];refine List.Perm.append_left acc ?_;show((e::rem.eraseIdx i).map (·.1)).Perm _;exact(aaN h).map _
def aa1 (P:List Int)(L:FMap):Nat->Rat
 |0=>0
 |i+1=>((P.getD i 0:Int):Rat)*I_ (aa6 (P.take (i+1))) L-aa0 (aa6 (P.take (i+1))) L
theorem abz {L:FMap}{P:List Int}{x:Int}(hP:P.Nodup)(hx:P[0]?=some x):aa1 P L 1=0:=by
 obtain⟨h1,h2⟩:=aao (L:=L) hP hx;obtain⟨z1,z2⟩:=aaJ L;rw[ib,z1]at h1;rw[ib,z2]at h2;rw[aa1,h1,h2,cH,hx];show(x:Rat)*_-_=0;grind
theorem abi {L:FMap}{P:List Int}{i:Nat}{x y:Int}(hP:P.Nodup)(hy:P[i]?=some y)(hx:P[i+1]?=some x):aa1 P L (i+2)=aa1 P L (i+1)+I_ (aa6 (P.take (i+1))) L*(((x-y:Int)):Rat):=by
 obtain⟨h1,h2⟩:=aao (L:=L) hP hx;rw[aa1,aa1,h1,h2,cH,hx,cH,hy,Rat.intCast_sub];show(x:Rat)*_-_=(y:Rat)*_-_+_;grind
theorem aby {L:FMap}{P:List Int}(h:∀p∈L,p.1∈P)(h0:I_ (fun _=>true) L=0)(h1:aa0 (fun _=>true) L=0){n:Nat}(hn:P.length=n+1):I_ (aa6 (P.take (n+1))) L=0/\aa1 P L (n+1)=0:=by
 obtain⟨e1,e2⟩:=abH h;have ht:P.take (n+1)=P:=dp J;rw[aa1,ht,e1,e2,h0,h1];constructor
 .rfl
 .grind
theorem abR {P:List Int}{L:FMap}{N:Nat}(h4:4<=N)(hL:∀p∈L,hq p.2 N/\hq (p.1:Rat) 4)(hP:∀x∈P,hq (x:Rat) 4)(i:Nat):hq (aa1 P L i) (2*(L.length*(N+5))+20):=by
 cases i with
 |zero=>exact ep HQ.zero.ok J
 |succ i =>
  have hx:hq ((P.getD i 0:Int):Rat) 4:=by
   rw[cH];cases h:P[i]? with
   |none=>exact HQ.zero.ok
   |some x=>exact hP x (bG h)
  have h1:=aab (aa6 (P.take (i+1))) h4 (L:=L) fun p hp=>(hL p hp).1;have h2:=aaZ (aa6 (P.take (i+1))) h4 hL;rw[aa1];have h3:HQ (((P.getD i 0:Int):Rat)*I_ (aa6 (P.take (i+1))) L-aa0 (aa6 (P.take (i+1))) L) _:=@HQ.sub _ _ _ _ (@HQ.mul _ _ _ _ ⟨hx⟩ ⟨h1⟩) ⟨h2⟩;refine ep h3.ok ?_;have:L.length*(N+1)<=L.length*(N+5):=cW _ J;omega
end Go.Pv
namespace Go.Pv
open Go.RowKit
variable [Globs]
variable {s:St}
def Fi:PV->Bool
 |.bool _ | .int _ _ | .str _ | .nil | .sl _=>true
 |_=>false
def IK:PV->Bool
 |.agg cs=>cs.all Fi
 |c=>Fi c
theorem rQ {E:Env}{c:PV}{v:Value}(h:Fi c=true)(hr:Rep E c v):DRep E.w E.ok c v:=by
 cases c<;>simp only[Fi,cF]at h<;>(cases hr with|d hd=>exact hd)
theorem Az {E:Env}{c:PV}{v:Value}(h:IK c=true)(hr:Rep E c v):DRep E.w E.ok c v:=by
 cases c with
 |agg cs =>
  obtain⟨vs,rfl,hl,hd⟩:=hr.agg_inv;exact .agg cs vs hl fun i c u e1 e2=>rQ (bx.1 h c (bG e1)) (hd i c u e1 e2)
 |_=>exact rQ h hr
theorem Ghost.freezeM {k gk k0 g0 i j:Nat}{T:TypeId}{rows:List (List PV)}{c0:Cont}{row:List PV}(hk:Nat.beq k0 k=false)(ho:s.own k=(gk,some ⟨T,0,rows,2⟩))(hall:∀row∈rows,row.all IK=true)(h0:s.own k0=(g0,some c0))(hkind:c0.kind=2)(hrow:c0.rows[i]?=some row)(hj:row[j]?=some (.mp k gk))(hz0:Nat.blt 0 c0.sz=true) :
  Ghost s ((s.setOwn k (gk+1) none).setOwn k0 g0 (some ⟨c0.ty,c0.sz,c0.rows.set i (row.set j (.mapd rows)),2⟩)):=by
 intro C a w hX ⟨γ,h⟩;have hne:k0≠k:=fun e=>by subst e;simp at hk
 obtain⟨h1,hle,-⟩:=h.drop hX ho;have ho1:(s.setOwn k (gk+1) none).own k0=(g0,some c0):=by rw[ar hne];exact h0
 have hsite:=h.sites k0 c0 (by rw[h0]);have hlt:=(bD hrow).1;have hlt2:=(bD hj).1;have hfr:∀v,Rep (ai C γ s w) (.mp k gk) v->Rep (ai C γ (s.setOwn k (gk+1) none) w) (.mapd rows) v:=by
  intro v hp;refine .d ?_;obtain⟨_,b,q1,rfl⟩:=h.mp_at hp ho;obtain⟨es,nn,f1,f2,f3,f4,f5,f6⟩:=(h.sites k _ (by rw[ho])).mp b q1 O (show(2:Nat)<3 by decide);have hb:(ai C γ (s.setOwn k (gk+1) none) w).ok b:=by
   have hbase:=h.base k _ b (by rw[ho]) q1;refine⟨hbase.2,fun hx=>?_,fun k' c' hc' hb'=>?_⟩
   .have:=hX b hx;omega
   .by_cases hk':k'=k
    .subst hk';rw[ah]at hc';cases hc'
    .rw[ar hk']at hc';exact hk' (h.inj k' k c' _ b hc' (by rw[ho]) hb' q1)
  have hd:∀(i j:Nat) (row:List PV) (c:PV) (v:Value),rows[i]?=some row->row[j]?=some c->Rep (ai C γ s w) c v->DRep (ai C γ (s.setOwn k (gk+1) none) w).w (ai C γ (s.setOwn k (gk+1) none) w).ok c v:=fun i j row c v e1 e2 hv =>
   hle.drep (Az (bx.1 (hall row (bG e1)) c (bG e2)) hv)
  exact .mapd rows b es nn hb f1 f2 f3 ⟨f4.1,f4.2.1,fun e=>absurd e Y⟩ (fun i row c e e1 e2 e3=>hd i 0 row c _ e1 e2 (f5 i row c e e1 e2 e3)) (fun i row c e e1 e2 e3=>hd i 1 row c _ e1 e2 (f6 i row c e e1 e2 e3))
 have he:=iY (C:=C) (γ:=γ) (w:=w) (c1:=⟨c0.ty,c0.sz,c0.rows.set i (row.set j (.mapd rows)),2⟩) ho1 O O aj;have hother:∀k',k'≠k0->((s.setOwn k (gk+1) none).setOwn k0 g0 (some ⟨c0.ty,c0.sz,c0.rows.set i (row.set j (.mapd rows)),2⟩)).own k'=(s.setOwn k (gk+1) none).own k':=fun k' hk'=>ar hk';have hsome:∀k' c',(((s.setOwn k (gk+1) none).setOwn k0 g0 (some ⟨c0.ty,c0.sz,c0.rows.set i (row.set j (.mapd rows)),2⟩)).own k').2=some c'->∃c'',((s.setOwn k (gk+1) none).own k').2=some c'':=by
  intro k' c' hc';by_cases hk':k'=k0
  .subst hk';exact⟨c0,by rw[ho1]⟩
  .rw[hother k' hk']at hc';exact⟨c',hc'⟩
 refine⟨γ,h1.defers,h1.size,fun r=>by rw[he];exact h1.regs r,fun k' c' hc'=>?_,fun k1 k2 c1 c2 b e1 e2 e3 e4=>?_,fun k' c' b e1 e2=>?_,h1.below,h1.top,fun c v hk=>by rw[he];exact h1.kept c v hk⟩
 .rw[he];by_cases hk':k'=k0
  .subst hk';rw[ah]at hc';have hc':=bk hc';subst hc';have hz0:0<c0.sz:=by simpa using hz0
   refine⟨fun hb=>?_,(fun b _ hz=>by simp only at hz;omega),(fun b _ hz=>by simp only at hz;omega),fun b hb _=>?_⟩
   .have:=hsite.emp hb;rw[this]at hrow;simp at hrow
   .obtain⟨cur,f1,f2,f3,f4,f5⟩:=hsite.at_ b hb hz0;refine⟨cur,f1,f2,by simpa using f3,fun r hr=>?_,fun i' j' row1 pv1 e1 e2=>?_⟩
    .rcases mG hr with hr|rfl
     .exact f4 r hr
     .simpa using f4 row (bG hrow)
    .by_cases hi:i'=i
     .subst hi;rw[dl hlt]at e1;have e1:=bk e1;subst e1;by_cases hjj:j'=j
      .subst hjj;rw[dl hlt2]at e2;have e2:=bk e2;subst e2;obtain⟨v,u1,u2,u3⟩:=f5 i' j' row _ hrow hj;rw[hkind]at u3;exact⟨v,u1,u2,hfr v u3⟩
      .rw[cV (Ne.symm hjj)]at e2;obtain⟨v,u1,u2,u3⟩:=f5 i' j' row pv1 hrow e2;rw[hkind]at u3;exact⟨v,u1,u2,Rep.mono hle u3⟩
     .rw[cV (Ne.symm hi)]at e1;obtain⟨v,u1,u2,u3⟩:=f5 i' j' row1 pv1 e1 e2;rw[hkind]at u3;exact⟨v,u1,u2,Rep.mono hle u3⟩
  .rw[hother k' hk']at hc';exact h1.sites k' c' hc'
 .obtain⟨d,hd⟩:=hsome k1 c1 e1;obtain⟨d',hd'⟩:=hsome k2 c2 e2;exact h1.inj k1 k2 d d' b hd hd' e3 e4
 .obtain⟨d,hd⟩:=hsome k' c' e1;exact h1.base k' d b hd e2
end Go.Pv
set_option maxHeartbeats 2000000
namespace Go.Pv
attribute [local irreducible] PWP POps PQuiet PSem XThen XBlock RetPost InlPost
open Go.Proofs
def BY (p:Int × Rat):List PV:=[I p.1,.agg (eR (ofQ p.2))]
def xh:FMap->Int->List PV
 |[],_=>zN
 |(y,q)::m,x=>if y=x then eR (ofQ q) else xh m x
theorem zu (x:Int):∀m:FMap,gT (.agg zN) (I x) (m.map BY) = .agg (xh m x)
 |[]=>rfl
 |(y,q)::m=>by
  rw[db,r_,zu x m];have:uL (I x) (BY (y,q))=decide (y=x):=by
   show(decide (IntKind.i64=IntKind.i64)&&decide (y=x))=_;simp
  rw[this,xh];by_cases h:y=x
  .rw[if_pos h,decide_eq_true h];rfl
  .rw[if_neg h,decide_eq_false h];rfl
theorem zp (x:Int)(q:Rat):∀m:FMap,oI (I x) (.agg (eR (ofQ q))) (m.map BY)=(D9 m x q).map BY
 |[]=>rfl
 |(y,p)::m=>by
  rw[db,r9,zp x q m];have:uL (I x) (BY (y,p))=decide (y=x):=by
   show(decide (IntKind.i64=IntKind.i64)&&decide (y=x))=_;simp
  rw[this,D9];by_cases h:y=x
  .rw[if_pos h,decide_eq_true h];rfl
  .rw[if_neg h,decide_eq_false h];rfl
theorem vN (m:FMap):jX (.int .i64) (m.map BY)=true:=by
 induction m with
 |nil=>rfl
 |cons e m ih=>rw[db];exact ih
theorem xO (m:FMap):jY (.int .i64) none (m.map BY)=true:=by
 induction m with
 |nil=>rfl
 |cons e m ih=>rw[db];exact ih
theorem JG:GO Tryz.prog 41 zN=true:=by kernel_rfl
theorem B9 (m:FMap)(x:Int)(f:Rat){N M:Nat}(h:∀p∈m,hq p.2 N)(h4:4<=N)(hf:hq f M)(hN:N<=9000000)(hM:M<=9000000):bb 74 [.agg (xh m x),.agg (eR (ofQ f))] (.agg (eR (ofQ (vB m x+f)))):=by
 induction m with
 |nil =>
  have h:=dh RR.zero (ofQ f) (hx:=Vq.zero) (hy:=Vq.ofQ (h:=⟨hf⟩)) Y J;exact h.weak (.cons jG.agg (.cons (.rfl _) .nil)) (.rfl _)
 |cons p m ih =>
  obtain⟨y,q⟩:=p;rw[xh,vB];split
  .exact dh (ofQ q) (ofQ f) (hx:=Vq.ofQ (h:=⟨h (y,q) aj⟩)) (hy:=Vq.ofQ (h:=⟨hf⟩)) J J
  .exact ih fun r hr=>h r (ir _ hr)
theorem ab4 (m:FMap)(x:Int)(f:Rat){N M:Nat}(h:∀p∈m,hq p.2 N)(h4:4<=N)(hf:hq f M)(hN:N<=9000000)(hM:M<=9000000):bb 74 [.agg (eR (ofQ f)),.agg (xh m x)] (.agg (eR (ofQ (f+vB m x)))):=by
 induction m with
 |nil =>
  have h:=dh (ofQ f) RR.zero (hx:=Vq.ofQ (h:=⟨hf⟩)) (hy:=Vq.zero) J Y;exact h.weak (.cons (.rfl _) (.cons jG.agg .nil)) (.rfl _)
 |cons p m ih =>
  obtain⟨y,q⟩:=p;rw[xh,vB];split
  .exact dh (ofQ f) (ofQ q) (hx:=Vq.ofQ (h:=⟨hf⟩)) (hy:=Vq.ofQ (h:=⟨h (y,q) aj⟩)) J J
  .exact ih fun r hr=>h r (ir _ hr)
theorem rg (x:Int):∀m:FMap,xh m x=zN\/∃R:RR,xh m x=eR R
 |[] => .inl rfl
 |(y,q)::m=>by
  rw[xh];split
  .exact .inr ⟨_,O⟩
  .exact rg x m
theorem abj {K:St->Prop}{s:St}{d g9 gm g3 g4 kd:Nat}{c3 c4:Cont}{c x y:Operand}{tys:Array TypeId}{ty:TypeId}{pos:String}{af:Array Edge}(m:FMap)(n:Int)(f:Rat){N M:Nat}(hN:∀p∈m,hq p.2 N)(h4:4<=N)(hf:hq f M)(hN9:N<=9000000)(hM9:M<=9000000)(hkd:kd<=2)
  (hc:s.ev c=.clo 103 [.ptr 9 g9 0 0]) (hx:s.ev x=I n) (hy:s.ev y=.agg (eR (ofQ f)))
  (ho:FitO s [(9,g9,⟨179,1,[[.mp 28 gm]],2⟩),(28,gm,⟨179,0,m.map BY,kd⟩),(3,g3,c3),(1004,g4,c4)])
  (hK:∀s1:St,K (({ reg:=s.reg,own:=(s1.over [] [(9,g9,⟨179,1,[[.mp 28 gm]],2⟩),(28,gm,⟨179,0,(FY m n f).map BY,2⟩),(3,g3,c3),(1004,g4,c4)]).own }:St).putR d (.tup []))) :
  Sm Tryz.prog lay.get s ⟨some d,.call ⟨.value c,#[x,y],tys⟩,ty,pos,af,none⟩ K:=by
 have ha:=B9 m n f hN h4 hf hN9 hM9;refine cB dY O hc Tryz.func103 O Y O O ?_;show PWP _ _ _ _ (bJ s (([x,y]:List Operand).map s.ev++[.ptr 9 g9 0 0]));rw[show(([x,y]:List Operand).map s.ev++[.ptr 9 g9 0 0])=[I n,.agg (eR (ofQ f)),.ptr 9 g9 0 0] by simp[hx,hy]];rw[show bJ s [I n,.agg (eR (ofQ f)),.ptr 9 g9 0 0]=bJ (s.over [] [(9,g9,⟨179,1,[[.mp 28 gm]],2⟩),(28,gm,⟨179,0,m.map BY,kd⟩),(3,g3,c3),(1004,g4,c4)]) [I n,.agg (eR (ofQ f)),.ptr 9 g9 0 0] by rw[Fit.over (l:=[]) ho]];have h3:Nat.blt kd 3=true:=by simp;omega
 have h2:Nat.ble kd 2=true:=by simp;omega
 have hput:=zp n (vB m n+f) m;have hput2:D9 m n (vB m n+f)=FY m n f:=O;rw[hput2]at hput;generalize vB m n+f=F1 at *
 generalize ofQ F1=R1,ofQ f=R0 at *
 refine H ?_;refine cd [] [28] 7 [7] aN aN ?_;refine H ?_;refine bX O O (DH none JG O O O O O O h3 O O (xO m)) ?_;rw[zu];rcases rg n m with e|⟨R,e⟩
 .rw[e]at ha;rw[e];refine G ha ?_;refine H ?_;refine pK O O O (ue 2 O O O O O h2 O O O (vN m) O O ⟨lp O,?_⟩);refine H ?_;refine rX (K:=fun o r=>K (({ reg:=s.reg,own:=o }:St).putR d r)) [(9,g9,⟨179,1,[[.mp 28 gm]],2⟩),(28,gm,⟨179,0,(FY m n f).map BY,2⟩),(3,g3,c3),(1004,g4,c4)] O ?_ hK;refine⟨O,?_,ak⟩;rw[<-hput];rfl
 .rw[e]at ha;rw[e];refine G ha ?_;refine H ?_;refine pK O O O (ue 2 O O O O O h2 O O O (vN m) O O ⟨lp O,?_⟩);refine H ?_;refine rX (K:=fun o r=>K (({ reg:=s.reg,own:=o }:St).putR d r)) [(9,g9,⟨179,1,[[.mp 28 gm]],2⟩),(28,gm,⟨179,0,(FY m n f).map BY,2⟩),(3,g3,c3),(1004,g4,c4)] O ?_ hK;refine⟨O,?_,ak⟩;rw[<-hput];rfl
def J_ (s:SHP)(z u:Rat)(d:Nat):FMap:=s.st.map fun t=>(t.x,bL z u t*((d:Rat)/1000000000))
def J8 (s:SHP):FMap:=(s.light::s.it).map fun w=>(w.x,((-w.m:Int):Rat))
def J7 (s:SHP)(z u:Rat)(d:Nat):FMap:=J_ s z u d++J8 s
def abs (e:Int × Rat × Rat):List PV:=I e.1::(eR (ofQ e.2.1)++eR (ofQ e.2.2))
def ac3:Nat->Nat
 |0=>0
 |_+1=>2
theorem abP:∀i,ac3 i<=2
 |0=>by decide
 |_+1=>by show 2<=2;decide
theorem aaK {α β:Type}{f:α->β}{l:List α}{i:Nat}{x:α}(h:l[i]?=some x):(l.map f).take (i+1)=(l.map f).take i++[f x]:=bY (by rw[aV,h];rfl)
structure FrcOk (s:SHP) (z u:Rat) (d:Nat):Prop where
 st:∀t∈s.st,StOk t
 h1:1<=s.st.length
 h6:s.st.length<=6
 h8:∀t∈s.st,t.L.length<=8
 ld:∀w∈s.light::s.it,OkW w
 it:s.it.length<=60
 d1:1<=d
 d2:d<=1000000000
 q:∀t∈s.st,hq (bL z u t*((d:Rat)/1000000000)) 50000
theorem FrcOk.all {s:SHP}{z u:Rat}{d:Nat}(h:FrcOk s z u d):∀p∈J7 s z u d,(hq p.2 50000/\hq (p.1:Rat) 4) /\ -1000000<=p.1/\p.1<=1000000:=by
 intro p hp;rcases fe.1 hp with hp|hp
 .obtain⟨t,ht,rfl⟩:=bF.1 hp;have hx:=(h.st t ht).x;have zx:Zb t.x:=aL J J;exact⟨⟨h.q t ht,HQ.int.ok⟩,J,J⟩
 .obtain⟨w,hw,rfl⟩:=bF.1 hp;have ok:=h.ld w hw;have h1:=ok.m;have h2:=ok.x;have zx:Zb w.x:=aL J J;have zm:Zb (-w.m):=aL J J;exact⟨⟨ep HQ.int.ok Y,HQ.int.ok⟩,h2.1,h2.2⟩
theorem FrcOk.len {s:SHP}{z u:Rat}{d:Nat}(h:FrcOk s z u d):(J7 s z u d).length<=67:=by
 have h6:=h.h6;have hi:=h.it;rw[J7,bT,J_,J8,aM,aM,eJ];omega
theorem FrcOk.part {s:SHP}{z u:Rat}{d:Nat}(h:FrcOk s z u d)(c:Int->Bool):hq (I_ c (J7 s z u d)) 310000:=by
 have h1:=aab c (N:=50000) Y (L:=J_ s z u d) fun p hp=>(h.all p (iq _ hp)).1.1;have h2:=aab c (N:=4) Y (L:=J8 s) fun p hp=>by
  obtain⟨w,hw,rfl⟩:=bF.1 hp;have h1:=(h.ld w hw).m;have zm:Zb (-w.m):=aL J J;exact HQ.int.ok
 have h6:=h.h6;have hi:=h.it;rw[J7,aam];refine ep (@HQ.add _ _ _ _ ⟨h1⟩ ⟨h2⟩).ok ?_;rw[J_,J8,aM,aM,eJ];omega
theorem FrcOk.mom {s:SHP}{z u:Rat}{d:Nat}(h:FrcOk s z u d){P:List Int}(hP:∀x∈P,hq (x:Rat) 4)(i:Nat):hq (aa1 P (J7 s z u d) i) 7000000:=by
 have hl:=h.len;refine ep (abR (N:=50000) Y (fun p hp=>(h.all p hp).1) hP i) ?_;have:=cm (50000+5) hl;omega
def aal (L:FMap)(i:Nat):Int × Rat × Rat:=((aa8 L).getD i 0,I_ (aa6 ((aa8 L).take (i+1))) L,aa1 (aa8 L) L (i+1))
theorem abV {s:SHP}{z u:Rat}{d:Nat}(h:FrcOk s z u d):∀x∈aa8 (J7 s z u d),hq (x:Rat) 4 /\ -1000000<=x/\x<=1000000:=fun x hx=>by
 obtain⟨p,hp,rfl⟩:=(aaB _ x).1 hx;obtain⟨⟨-,h1⟩,h2⟩:=h.all p hp;exact⟨h1,h2⟩
theorem abB (L:FMap):(aa8 L).length<=L.length:=by
 have key:∀(M m:FMap),(C9 (M.foldl (fun m p=>FY m p.1 p.2) m)).length<=(C9 m).length+M.length:=by
  intro M
  induction M with
  |nil=>intro m;simp
  |cons p M ih =>
   intro m;have h1:=ih (FY m p.1 p.2);have h2:(C9 (FY m p.1 p.2)).length<=(C9 m).length+1:=by
    rw[FY,aa_];split
    .omega
    .rw[bT,tq];omega
   rw[iz,eJ];omega
 have:=key L [];rw[aa8,(aah _).length_eq,aa5];simpa [C9] using this
set_option maxHeartbeats 8000000 in
theorem aar (s:SHP)(a:AR){z u:Rat}{n m:Nat}[ha:Va a z u n m](hnm:n+m<=49000)(d:Nat)(h:FrcOk s z u d)(hfl:bb 100 [.agg (jT s),I d] (I 0))(h0:I_ (fun _=>true) (J7 s z u d)=0)(h1:aa0 (fun _=>true) (J7 s z u d)=0) :
  ∃(O0:List (Int × Rat × Rat)) (k:Nat) (x:Int),O0.length=k+1/\k<=100/\O0[k]?=some (x,0,0)/\bb 44 [.agg (jT s),.agg (eA a),I d] (.tup [.sl (O0.map abs),I 0]):=by
 have hlen:=h.len;have hpl:=abB (J7 s z u d);have hph:=abV h;have hlm:s.light.x∈aa8 (J7 s z u d):=(aaB _ _).2 ⟨(s.light.x,((-s.light.m:Int):Rat)),gN _ (bF.2 ⟨s.light,aj,O⟩),O⟩;obtain⟨k,hk⟩:∃k,(aa8 (J7 s z u d)).length=k+1:=by
  have:=List.length_pos_of_mem hlm;exact⟨(aa8 (J7 s z u d)).length-1,J⟩
 have hend:=aby (fun p hp=>(aaB (J7 s z u d) p.1).2 ⟨p,hp,O⟩) h0 h1 hk;refine⟨(List.range (k+1)).map (aal (J7 s z u d)),k,(aa8 (J7 s z u d)).getD k 0,aj,J,?_,?_⟩
 .rw[aV,jl (Nat.lt_succ_self k),ca,aal,hend.1,hend.2]
 clear hend h0 h1 hlm;have hnd:=abW (J7 s z u d);have hpart:=h.part;have hmom:=h.mom fun x hx=>(hph x hx).1;have hacc:∀L:FMap,(∀p∈L,p∈J7 s z u d)->L.length<=67->∀p∈aa5 L,hq p.2 4000000:=fun L hL hl =>
  (aaz L).vals (N:=50000) Y (fun p hp=>(h.all p (hL p hp)).1.1) (bz (Nat.add_le_add_right (cm 50001 hl) 4) Y)
 have hst:∀t∈s.st,bb 76 [.agg (eA a),I t.x] (.agg (eR (ofQ (cg z u t))))/\bb 106 [I t.w] (.agg (eR (ofQ (wQ t))))/\bb 107 [.agg (eT t),.agg (eR (ofQ (cg z u t)))] (.agg (eR (ofQ (uK t (cg z u t)))++eR (ofQ (FG t (cg z u t)))))/\bb 105 [.sl [eR (ofQ (wQ t)),eR (ofQ (uK t (cg z u t)))]] (.agg (eR (ofQ (bL z u t))))/\bb 104 [.agg (eR (ofQ (bL z u t))),I d] (.agg (eR (ofQ (bL z u t*((d:Rat)/1000000000))))):=by
  intro t ht;have ok:=h.st t ht;have hx:=ok.x;have hww:=ok.w;have zx:Zb t.x:=aL J J;have hy:hq (cg z u t) (n+m+12):=ep (@HQ.add _ _ _ _ ha.z.hq (@HQ.mul _ _ _ 4 ha.t.hq HQ.int)).ok J;obtain⟨c1,c2,c3,c4,c5,c6⟩:=Ig ok (h.h8 t ht) hy;have e1:=CZ a t.x ⟨J,J⟩ (ha:=ha) J J;have e2:=ct t.w ⟨J,J⟩;have e4:=ta t ok (h.h8 t ht) hy J;have m1:=n_ (wQ t) (uK t (cg z u t)) (7*(n+m+12)+102) (c1.mono J).ok (c4.mono J).ok J;have m2:=Ba (bL z u t) (4+(7*(n+m+12)+102)) (@HQ.mul _ _ 4 _ c1 (c4.mono J)).ok J d h.d1 h.d2;exact⟨e1,e2,e4,m1,m2⟩
 have hlo:=A7 s (by have:=h.it;omega);have hld:=h.ld;have hs1:=h.h1;have hs6:=h.h6;have hit:=h.it;have hfr:J7 s z u d=J_ s z u d++J8 s:=O;have hFl:(J_ s z u d).length=s.st.length:=by rw[J_,aM]
 have hGl:(J8 s).length=s.it.length+1:=by rw[J8,aM,eJ]
 have hFx:∀(i:Nat) (t:ST),s.st[i]?=some t->(J_ s z u d).take (i+1)=(J_ s z u d).take i++[(t.x,bL z u t*((d:Rat)/1000000000))]:=fun i t hx=>by rw[J_];exact aaK hx
 have hGx:∀(i:Nat) (w:LR),(s.light::s.it)[i]?=some w->(J8 s).take (i+1)=(J8 s).take i++[(w.x,((-w.m:Int):Rat))]:=fun i w hx=>by rw[J8];exact aaK hx
 have hFq:=h.q;have hFst:=h.st;have hd2:=h.d2;clear h;generalize J_ s z u d=F,J8 s=G0 at *
 generalize hLL:J7 s z u d=L at *
 subst hfr;obtain⟨nm,len,st,⟨ln,lm,lxzz,lzzz,lf⟩,it⟩:=s;obtain⟨az,au⟩:=a;simp only at *
 generalize hWW:(⟨ln,lm,lxzz,lzzz,lf⟩:LR)::it=Wl at *
 have hWl:Wl.length=it.length+1:=by rw[<-hWW,eJ]
 have hml:(st.map eT).length=st.length:=aj;have hmw:(Wl.map eLd).length=Wl.length:=aj;have w0:=ct 0 ⟨Y,Y⟩;rw[show((0:Int):Rat)=0 from O]at w0;clear hWW hLL ha hnm;refine ay Proofs.Tryz.func44 ?_;refine aB hfl ?_;refine H ?_;refine aC (FN O ?_);refine dN 6 ?_;refine ax (Ghost.move (k:=4) (k':=1004) (t:=4) O O O O) ?_;refine H ?_;rw[hml];refine cA [(2,I d),(3,.ptr 3 1 0 0),(4,.ptr 1004 1 0 0),(9,.ptr 9 1 0 0),(10,.clo 103 [.ptr 9 1 0 0]),(31,.sl (st.map eT)),(32,I st.length),(33,I ((0:Nat):Int))] [(3,1,⟨27,9,[jT ⟨nm,len,st,⟨ln,lm,lxzz,lzzz,lf⟩,it⟩],2⟩),(1004,1,⟨43,8,[eA ⟨az,au⟩],2⟩),(9,1,⟨179,1,[[.mp 28 1]],2⟩),(28,1,⟨179,0,[],0⟩)] ak ?_;intro s0;refine ao (fun i:Nat=>i<=st.length) (fun i=>[(2,I d),(3,.ptr 3 1 0 0),(4,.ptr 1004 1 0 0),(9,.ptr 9 1 0 0),(10,.clo 103 [.ptr 9 1 0 0]),(31,.sl (st.map eT)),(32,I st.length),(33,I (i:Nat))])
  (fun i=>[(3,1,⟨27,9,[jT ⟨nm,len,st,⟨ln,lm,lxzz,lzzz,lf⟩,it⟩],2⟩),(1004,1,⟨43,8,[eA ⟨az,au⟩],2⟩),(9,1,⟨179,1,[[.mp 28 1]],2⟩),(28,1,⟨179,0,(aa5 (F.take i)).map BY,ac3 i⟩)]) (fun i=>st.length-i) 0 (aF _) ak ?_
 intro i s1 hi;refine D ?_ ?_<;>intro h
 .have hlt:i<st.length:=cP h;clear h;obtain⟨t,hx⟩:=aK hlt;have htm:=bG hx;obtain⟨e1,e2,e4,m1,m2⟩:=hst t htm;have hq1:=hFq t htm;have hw:=im i;have hnx:aa5 (F.take (i+1))=FY (aa5 (F.take i)) t.x (bL z u t*((d:Rat)/1000000000)):=by rw[hFx i t hx,aas]
  have hav:=hacc (F.take i) (fun p hp=>iq _ (gp hp)) (by rw[bI];omega);have hki:=abP i;have hkn:ac3 (i+1)=2:=O;generalize ac3 i=kd,bL z u t*((d:Rat)/1000000000)=Q at *
  generalize hRQ:ofQ (bL z u t)=R1 at *
  generalize ofQ (uK t (cg z u t))=R2,ofQ (FG t (cg z u t))=R3,ofQ (cg z u t)=R4,ofQ (wQ t)=R5 at *
  obtain⟨tx,tw,tL,tH⟩:=t;simp only at *
  refine aZ hx ?_;refine dN 9 ?_;refine aaH 17 [37,38,39,40,41,42,43,44,45,46,47,48,49,50,51,52,53] aN ?_;refine G e2 ?_;refine G e1 ?_;refine G e4 ?_;refine H ?_;refine bX O O (eu O O O O O O O O O O ak O) ?_;refine G m1 ?_;refine G m2 ?_;refine H ?_;refine aU O (abj (g9:=1) (gm:=1) (g3:=1) (g4:=1) (c3:=⟨27,9,[jT ⟨nm,len,st,⟨ln,lm,lxzz,lzzz,lf⟩,it⟩],2⟩) (c4:=⟨43,8,[eA ⟨az,au⟩],2⟩) (kd:=kd) (aa5 (F.take i)) tx Q hav Y hq1 Y Y hki O O O ⟨O,O,O,O,bP⟩ fun s2=>?_);refine aE ?_;rw[<-hnx];refine H ?_;exact⟨i+1,hlt,J,O,O,O,O,O,O,O,congrArg I hw,ak⟩
 have hie:i=st.length:=cG h;clear h;subst hie;rw[dp (show F.length<=st.length by omega),show ac3 st.length=2 by cases hst2:st.length with|zero=>omega|succ q=>rfl];refine G hlo ?_;refine H ?_;rw[hmw];refine cA [(3,.ptr 3 1 0 0),(4,.ptr 1004 1 0 0),(9,.ptr 9 1 0 0),(10,.clo 103 [.ptr 9 1 0 0]),(57,.sl (Wl.map eLd)),(58,I Wl.length),(59,I ((0:Nat):Int))] [(3,1,⟨27,9,[jT ⟨nm,len,st,⟨ln,lm,lxzz,lzzz,lf⟩,it⟩],2⟩),(1004,1,⟨43,8,[eA ⟨az,au⟩],2⟩),(9,1,⟨179,1,[[.mp 28 1]],2⟩),(28,1,⟨179,0,(aa5 F).map BY,2⟩)] ak ?_;intro s3;refine ao (fun i:Nat=>i<=Wl.length) (fun i=>[(3,.ptr 3 1 0 0),(4,.ptr 1004 1 0 0),(9,.ptr 9 1 0 0),(10,.clo 103 [.ptr 9 1 0 0]),(57,.sl (Wl.map eLd)),(58,I Wl.length),(59,I (i:Nat))])
  (fun i=>[(3,1,⟨27,9,[jT ⟨nm,len,st,⟨ln,lm,lxzz,lzzz,lf⟩,it⟩],2⟩),(1004,1,⟨43,8,[eA ⟨az,au⟩],2⟩),(9,1,⟨179,1,[[.mp 28 1]],2⟩),(28,1,⟨179,0,(aa5 (F++G0.take i)).map BY,2⟩)]) (fun i=>Wl.length-i) 0 (aF _) ⟨O,O,O,O,O,O,O,O,O,O,by rw[ib,cu];rfl,bP⟩ ?_
 intro i s4 hi;refine D ?_ ?_<;>intro h
 .have hlt:i<Wl.length:=cP h;clear h;obtain⟨w,hx⟩:=aK hlt;have ok:=hld w (bG hx);have okm:=ok.m;have w1:=ct (-w.m) ⟨J,J⟩;have zm:Zb (-w.m):=aL J J;have hq1:hq ((-w.m:Int):Rat) 4:=HQ.int.ok;have hng:IntKind.i64.wrap (0-w.m) = -w.m:=by rw[wrap_i64 J J];omega
  have hw:=im i;have hnx:aa5 (F++G0.take (i+1))=FY (aa5 (F++G0.take i)) w.x ((-w.m:Int):Rat):=by rw[hGx i w hx,<-bt,aas]
  have hav:=hacc (F++G0.take i) (fun p hp=>by
   rcases fe.1 hp with hp|hp
   .exact iq _ hp
   .exact gN _ (gp hp)) (by rw[bT,bI];omega)
  generalize ((-w.m:Int):Rat)=Q at *
  obtain⟨wn,wm,wx,wz,wf⟩:=w;simp only at *
  refine aZ hx ?_;refine dN 14 ?_;refine aaH 7 [63,64,65,66,67,68,69] aN ?_;refine H ?_;rw[hng];refine yd O O O w1 O O ?_;refine H ?_;refine aU O (abj (g9:=1) (gm:=1) (g3:=1) (g4:=1) (c3:=⟨27,9,[jT ⟨nm,len,st,⟨ln,lm,lxzz,lzzz,lf⟩,it⟩],2⟩) (c4:=⟨43,8,[eA ⟨az,au⟩],2⟩) (kd:=2) (aa5 (F++G0.take i)) wx Q hav Y hq1 Y Y (aH) O O O ⟨O,O,O,O,bP⟩ fun s5=>?_);refine aE ?_;rw[<-hnx];refine H ?_;exact⟨i+1,hlt,J,O,O,O,O,O,O,congrArg I hw,ak⟩
 have hie:i=Wl.length:=cG h;clear h;subst hie;rw[dp (show G0.length<=Wl.length by omega)];refine ax (Ghost.freezeM (k:=28) (k0:=9) (i:=0) (j:=0) (row:=[.mp 28 1]) O O (fun row hr=>by obtain⟨p,_,rfl⟩:=bF.1 hr;rfl) O O O O O) ?_;have hM:(C9 (aa5 (F++G0))).length=k+1:=by rw[<-hk,aa8,(aah _).length_eq]
 have hacc2:=hacc (F++G0) (fun p hp=>hp) (by rw[bT];omega);have hok:=aaz (F++G0);generalize hMM:aa5 (F++G0)=M at *
 refine dN 17 ?_;refine ax (Ghost.nilreg (k:=1003) (t:=15) 3 1 1 O O) ?_;refine H ?_;refine aC (abA O O O O ?_);refine H ?_;have hg3:∃g3,(s4.own 1003).1+1=g3:=⟨_,O⟩;obtain⟨g3,hg3⟩:=hg3;have hgi:∃gizz,(s4.own 73).1+1=gizz:=⟨_,O⟩;obtain⟨gizz,hgi⟩:=hgi;refine ao (fun q:PV × FMap × List Int=>(q.2.2++q.2.1.map (·.1)).Perm (C9 M)) (fun q=>[(9,.ptr 9 1 0 0),(15,.als 1003 (g3+q.2.2.length) 0 (q.2.2.map eN).length),(73,.mi 73 gizz)])
  (fun q=>[(9,1,⟨179,1,[[.mapd (M.map BY)]],2⟩),(1003,g3+q.2.2.length,⟨3,1,q.2.2.map eN,1⟩),(73,gizz,⟨179,0,[q.1::q.2.1.map (fun e=>PV.agg (BY e))],3⟩)]) (fun q=>q.2.1.length) (.nil,M,[]) (List.Perm.refl _)
  ⟨O,by rw[<-hg3];rfl,by rw[<-hgi];rfl,O,by rw[<-hg3];rfl,?_,bP⟩ ?_
 .rw[<-hgi];show((s4.own 73).1+1,some (Cont.mk 179 0 [PV.nil::(M.map BY).map PV.agg] 3))=_;rw[jg];rfl
 clear hg3 hgi;rintro⟨last,rem,acc⟩ s6 hrem;dsimp only at hrem ⊢;have hlen2:=hrem.length_eq;rw[bT,aM,hM]at hlen2
 ((repeat (first|refine bg ?_ | refine d_ ?_ | refine dK ?_ | refine dT ?_));refine bV ?_)
 refine aC (abS O O (fun h0=>?_) (fun i ck cv hi=>?_))
 .have hnil:rem=[]:=by simpa using h0
  subst hnil;rw[fC,cu]at hrem;have hP:ee acc=aa8 (F++G0):=by rw[aa8,hMM];exact aaU hrem
  have hal:acc.length=k+1:=by rw[hrem.length_eq,hM]
  have hPd:=hph;generalize hPP:aa8 (F++G0)=P at *
  (refine dN 21 ?_;refine aD 1 ?_)
  refine g_ O ?_;refine bg ?_;refine aU O (sortI_sm acc J O aj O ?_);refine aE ?_;rw[hP];have hml3:(acc.map eN).length=(P.map eN).length:=by rw[aM,aM,hal,hk]
  rw[hml3];refine dN 22 ?_;refine ax (Ghost.takeD (k:=1003) (t:=15) O O O) ?_;refine dN 23 ?_;refine ax (Ghost.nilreg (k:=1007) (t:=17) 87 9 1 O O) ?_;refine G w0 ?_;refine G w0 ?_;refine H ?_;have hmp:(P.map eN).length=P.length:=aj;have hOl:∀i,(((List.range i).map (aal (F++G0))).map abs).length=i:=fun i=>by simp
  have hOs:∀i,((List.range (i+1)).map (aal (F++G0))).map abs=((List.range i).map (aal (F++G0))).map abs++[abs (aal (F++G0) i)]:=fun i=>by rw[tS,bQ,bQ];rfl
  have hA0:=(aaJ (F++G0)).1;rw[hmp];refine cA [(9,.ptr 9 1 0 0),(15,.sl (P.map eN)),(17,.als 1007 ((s6.own 1007).1+1) 0 0),(18,.ptr 18 ((s6.own 18).1+1) 0 0),(19,.ptr 19 ((s6.own 19).1+1) 0 0),(86,.sl (P.map eN)),(87,I P.length),(88,I ((0:Nat):Int))] [(9,1,⟨179,1,[[.mapd (M.map BY)]],2⟩),(18,(s6.own 18).1+1,⟨41,4,[eR (ofQ 0)],2⟩),(19,(s6.own 19).1+1,⟨41,4,[eR (ofQ 0)],2⟩),(1007,(s6.own 1007).1+1,⟨87,9,[],1⟩)] ak ?_;generalize (s6.own 1007).1+1=g7;generalize (s6.own 18).1+1=g18;generalize (s6.own 19).1+1=g19;intro s7;refine ao (fun i:Nat=>i<=P.length) (fun i=>[(9,.ptr 9 1 0 0),(15,.sl (P.map eN)),(17,.als 1007 (g7+i) 0 (((List.range i).map (aal (F++G0))).map abs).length),(18,.ptr 18 g18 0 0),(19,.ptr 19 g19 0 0),(86,.sl (P.map eN)),(87,I P.length),(88,I (i:Nat))])
   (fun i=>[(9,1,⟨179,1,[[.mapd (M.map BY)]],2⟩),(18,g18,⟨41,4,[eR (ofQ (I_ (aa6 (P.take i)) (F++G0)))],2⟩),(19,g19,⟨41,4,[eR (ofQ (aa1 P (F++G0) i))],2⟩),(1007,g7+i,⟨87,9,((List.range i).map (aal (F++G0))).map abs,1⟩)]) (fun i=>P.length-i) 0 (aF _) ⟨O,O,O,O,O,O,O,O,O,by rw[ib,hA0];rfl,ak⟩ ?_
  intro i s8zz hi;refine D ?_ ?_<;>intro h
  .have hlt:i<P.length:=cP h;clear h;obtain⟨x,hx⟩:=aK hlt;obtain⟨hx4,hx1,hx2⟩:=hPd x (bG hx);have hw:=im i;have hss:=(aao (L:=F++G0) hnd hx).1;have hgx:=hok.get x;have hrf:aal (F++G0) i=(x,I_ (aa6 (P.take (i+1))) (F++G0),aa1 P (F++G0) (i+1)):=by rw[aal,hPP,cH,hx];rfl
   have hOi:=hOs i;have hOll:=hOl i;rw[hrf,show abs (x,I_ (aa6 (P.take (i+1))) (F++G0),aa1 P (F++G0) (i+1))=I x::(eR (ofQ (I_ (aa6 (P.take (i+1))) (F++G0)))++eR (ofQ (aa1 P (F++G0) (i+1)))) from O]at hOi;have hgm:∀q:Rat,hq q 310000->bb 74 [.agg (eR (ofQ q)),.agg (xh M x)] (.agg (eR (ofQ (q+vB M x)))):=fun q hq1=>ab4 M x q hacc2 Y hq1 Y Y;have ad:=hgm (I_ (aa6 (P.take i)) (F++G0)) (hpart _);rw[hgx,<-hss]at ad;have hval:=rg x M;have hmo:i=0/\aa1 P (F++G0) (i+1)=aa1 P (F++G0) i\/∃j y,i=j+1/\P[j]?=some y/\(-1000000<=y/\y<=1000000)/\bb 106 [I (x-y)] (.agg (eR (ofQ ((x-y:Int):Rat))))/\bb 105 [.sl [eR (ofQ (I_ (aa6 (P.take i)) (F++G0))),eR (ofQ ((x-y:Int):Rat))]] (.agg (eR (ofQ (I_ (aa6 (P.take i)) (F++G0)*((x-y:Int):Rat)))))/\bb 74 [.agg (eR (ofQ (aa1 P (F++G0) i))),.agg (eR (ofQ (I_ (aa6 (P.take i)) (F++G0)*((x-y:Int):Rat))))] (.agg (eR (ofQ (aa1 P (F++G0) (i+1))))):=by
    rcases i with _ | j
    .refine .inl ⟨O,?_⟩;rw[abz hnd hx];rfl
    .obtain⟨y,hy⟩:=aK (show j<P.length by omega);obtain⟨-,hy1,hy2⟩:=hPd y (bG hy);have zxy:Zb (x-y):=aL J J;have hq4:hq ((x-y:Int):Rat) 4:=HQ.int.ok;have t2:=n_ (I_ (aa6 (P.take (j+1))) (F++G0)) ((x-y:Int):Rat) 310000 (hpart _) (ep hq4 Y) Y;have a2:=dh (ofQ (aa1 P (F++G0) (j+1))) (ofQ (I_ (aa6 (P.take (j+1))) (F++G0)*((x-y:Int):Rat))) (hx:=Vq.ofQ (h:=⟨hmom _⟩)) (hy:=Vq.ofQ (h:=@HQ.mul _ _ _ _ ⟨hpart _⟩ ⟨hq4⟩)) Y Y;rw[<-abi hnd hy hx]at a2;exact .inr ⟨j,y,O,hy,⟨hy1,hy2⟩,ct (x-y) ⟨J,J⟩,t2,a2⟩
   generalize ((List.range i).map (aal (F++G0))).map abs=R at *
   generalize hA1:ofQ (I_ (aa6 (P.take (i+1))) (F++G0))=A1 at *
   generalize ofQ (I_ (aa6 (P.take i)) (F++G0))=A0 at *
   refine aZ hx ?_;refine H ?_;rcases hmo with⟨rfl,hm⟩|⟨j,y,rfl,hy,⟨hy1,hy2⟩,c1,c2,c3⟩
   .rw[<-hm];generalize hD1:ofQ (aa1 P (F++G0) (0+1))=D1 at *
    refine H ?_;refine bX O O (ab0 none JG O O O O O O O (xO M)) ?_;rw[zu];rcases hval with e|⟨Rv,e⟩
    .rw[e]at ad;rw[e];refine G ad ?_;refine H ?_;refine aC (b8 1 O O O O O O O O O O O ak O ?_);refine H ?_;refine aC (cQ 1 O O O O O O O O O O O ak jM O O aX aX ?_);refine H ?_;refine⟨0+1,hlt,J,O,O,?_,O,O,O,O,congrArg I hw,O,?_,?_,?_,bP⟩
     .rw[hOi];rfl
     .rw[hA1];rfl
     .rw[hD1];rfl
     .rw[hOi];rfl
    .rw[e]at ad;rw[e];refine G ad ?_;refine H ?_;refine aC (b8 1 O O O O O O O O O O O ak O ?_);refine H ?_;refine aC (cQ 1 O O O O O O O O O O O ak jM O O aX aX ?_);refine H ?_;refine⟨0+1,hlt,J,O,O,?_,O,O,O,O,congrArg I hw,O,?_,?_,?_,bP⟩
     .rw[hOi];rfl
     .rw[hA1];rfl
     .rw[hD1];rfl
     .rw[hOi];rfl
   .have hsb:IntKind.i64.wrap (((j+1:Nat):Int)-1)=((j:Nat):Int):=by rw[wrap_i64 J J];omega
    have hxy:=An (x-y);generalize hD1:ofQ (aa1 P (F++G0) (j+1+1))=D1 at *
    generalize ofQ (aa1 P (F++G0) (j+1))=D0,ofQ (I_ (aa6 (P.take (j+1))) (F++G0)*((x-y:Int):Rat))=T1,ofQ ((x-y:Int):Rat)=T0 at *
    refine H ?_;rw[decide_eq_true (show(0:Int)<((j+1:Nat):Int) by omega)];refine dN 28 ?_;refine cd [] [19] 13 [13] aN aN ?_;refine H ?_;rw[hsb];refine Gb O O O O O O O hy O ?_;refine H ?_;rw[hxy];refine yd O O O c1 O O ?_;refine H ?_;refine bX O O (eu O O O O O O O O O O ak O) ?_;refine G c2 ?_;refine G c3 ?_;refine H ?_;refine H ?_;refine bX O O (ab0 none JG O O O O O O O (xO M)) ?_;rw[zu];rcases hval with e|⟨Rv,e⟩
    .rw[e]at ad;rw[e];refine G ad ?_;refine H ?_;refine aC (b8 1 O O O O O O O O O O O ak O ?_);refine H ?_;refine aC (cQ 1 O O O O O O O O O O O ak jM O O aX aX ?_);refine H ?_;refine⟨(j+1)+1,hlt,J,O,O,?_,O,O,O,O,congrArg I hw,O,?_,?_,?_,bP⟩
     .rw[hOi];rfl
     .rw[hA1];rfl
     .rw[hD1];rfl
     .rw[hOi];rfl
    .rw[e]at ad;rw[e];refine G ad ?_;refine H ?_;refine aC (b8 1 O O O O O O O O O O O ak O ?_);refine H ?_;refine aC (cQ 1 O O O O O O O O O O O ak jM O O aX aX ?_);refine H ?_;refine⟨(j+1)+1,hlt,J,O,O,?_,O,O,O,O,congrArg I hw,O,?_,?_,?_,bP⟩
     .rw[hOi];rfl
     .rw[hA1];rfl
     .rw[hD1];rfl
     .rw[hOi];rfl
  .have hie:i=P.length:=cG h;clear h;subst hie;rw[hk]
   (repeat ((fail_if_success (with_reducible refine fY ?_));refine Ab O ?_))
   refine ax (Ghost.takeD (k:=1007) (t:=6) O O O) ?_;exact cy
 .obtain⟨e,hei,hee⟩:∃e,rem[i]?=some e/\BY e=[ck,cv]:=by
   rw[aV]at hi;cases hq:rem[i]? with
   |none=>rw[hq]at hi;simp at hi
   |some e=>rw[hq]at hi;simp at hi;exact⟨e,rfl,hi⟩
  have h1:ck=I e.1:=by simp[BY]at hee;exact hee.1.symm
  have h2:cv=.agg (eR (ofQ e.2)):=by simp[BY]at hee;exact hee.2.symm
  subst h1;subst h2;have hlen3:=(bD hei).1;have hal:(acc.map eN).length<=100:=by rw[aM];omega
  refine H ?_;refine acf (abC O O) ?_;refine H ?_;refine aC (b8 1 O O O O O O O O O O O ak O ?_);refine H ?_;refine aC (cQ 1 O O O O O O O O O O O ak jM O O aX aX ?_);refine H ?_;refine⟨(.agg (BY e),rem.eraseIdx i,acc++[e.1]),(ab_ hei).trans hrem,?_,O,?_,O,O,?_,?_,bP⟩
  .show(rem.eraseIdx i).length<rem.length;rw[List.length_eraseIdx,if_pos hlen3];omega
  .show PV.als 1003 (g3+acc.length+1) 0 (acc.map eN++[[I e.1]]).length=PV.als 1003 (g3+(acc++[e.1]).length) 0 ((acc++[e.1]).map eN).length;rw[show(acc++[e.1]).length=acc.length+1 by simp,bQ];rfl
  .show(g3+acc.length+1,some (Cont.mk 3 1 (acc.map eN++[[I e.1]]) 1))=(g3+(acc++[e.1]).length,some (Cont.mk 3 1 ((acc++[e.1]).map eN) 1));rw[show(acc++[e.1]).length=acc.length+1 by simp,bQ];rfl
  .refine Eq.trans (b:=(gizz,some (Cont.mk 179 0 [PV.agg (BY e)::(rem.map (fun e=>PV.agg (BY e))).eraseIdx i] 3))) O ?_;rw[<-Go.ChangeMaps.map_eraseIdx]
def aa7 (s:SHP)(d:Int):DKR:=⟨s,d,[],[],100,100000⟩
theorem abK {s:SHP}{d:Int}(h:jV s d=0):Jx (aa7 s d)=0:=by
 rw[Jx,if_pos (show jV (aa7 s d).s (aa7 s d).d=0 from h),if_pos (show EU (aa7 s d).zn=0 from(by decide:EU []=0)),if_pos (show Ch (aa7 s d).s.st (aa7 s d).zn (aa7 s d).bl=0 from O),if_pos (show(aR (aa7 s d).gm (-100000) 100000&&aR (aa7 s d).oh 0 1000000)=true from(by decide:(aR 100 (-100000) 100000&&aR 100000 0 1000000)=true))]
theorem aaA {s:SHP}{d:Int}(hl:s.Len):(aa7 s d).Len:=⟨hl,aF _,aF _⟩
theorem aaj {s:SHP}{d:Int}(hl:s.Len)(h:jV s d=0)(h6:s.st.length<=6)(h8:∀t∈s.st,t.L.length<=8):Slim (aa7 s d) 0 :=
 ⟨⟨aaA hl,fun b hb=>(by cases hb)⟩,abK h,h6,aF _,h8,fun b hb=>(by cases hb),ep HQ.zero.ok Y⟩
theorem aaf (s:SHP)(d:Int):gj (aa7 s d) 0=ko d.toNat s.st:=by
 show []++(ko d.toNat s.st).map (Ha 0)=_;rw[kE,ko,jg];rfl
noncomputable def abe (s:SHP)(d:Int):SQ:=if jV s d=0 then n6 (dB (aa7 s d) 0) else⟨zA,[],zA,jV s d⟩
theorem aaw (s:SHP)(hl:s.Len)(h6:s.st.length<=6)(h8:∀t∈s.st,t.L.length<=8)(d:Int):bb 14 [.agg (jT s),I d] (abe s d).pv:=by
 rw[abe];split
 .rename_i h;have sl:=aaj hl h h6 h8;obtain⟨hk,hd,hf⟩:=sl.bd;have hd1:900<=d:=hd.1;have hd2:d<=1100:=hd.2;have hd':((d.toNat:Nat):Int)=d:=J;have h1:=supports_ok s hl d.toNat (by rw[hd'];exact h) J J hk.st J;rw[hd']at h1;have h2:=weigh_all (aaA hl) sl;rw[aaf]at h2;exact float_ok s d _ _ _ (n6 (dB (aa7 s d) 0)) h1 h2 (fun e=>by rw[if_pos e];exact solve_retS _ (dB_good sl).1 fun _=>(dB_good sl).2) fun e=>abG e
 .rename_i h;exact float_err s hl d h
theorem aan (f:ST->Rat)(l:List ST):iG (l.map f)=ap f l:=by rw[iG,List.foldl_map];rfl
theorem aay (f:ST->Rat)(t:ST)(l:List ST):ap f (t::l)=f t+ap f l:=by
 rw[<-aan,<-aan,db,show f t::l.map f=[f t]++l.map f from O,Ez];show(0:Rat)+f t+_=_;grind
theorem aai {s:SHP}{d:Int}{z u:Rat}(sl:Slim (aa7 s d) 0)(hs:Stood (aa7 s d) 0 z u):ap (bL z u) s.st*((d.toNat:Rat)/1000000000)=(sM (s.light::s.it):Rat)/\ap (qY z u) s.st*((d.toNat:Rat)/1000000000)=(sX (s.light::s.it):Rat):=by
 obtain⟨hk,hd,hf⟩:=sl.bd;have ezzz:z+0=z:=pn z;have hm1:=(pD (qc hf)).m;constructor
 .have h1:=mass_split hs;rw[bu_sum hk.st,ezzz]at h1;have h2:(0:Rat)+ap (bL z u) s.st*((d.toNat:Rat)/1000000000)=(sM (s.light::s.it):Rat):=h1;rw[<-h2,Rat.zero_add]
 .have hB:=hs.bal.2;have hm:=EA (l:=gj (aa7 s d) 0) (g:=fun x=>fQ x z u*(x.x:Rat)) (gj (aa7 s d) 0).length (aH);rw[dp (by rw[aM];exact aH)]at hm;have h1:iG ((gj (aa7 s d) 0).map fun x=>fQ x z u*(x.x:Rat))=((sM (s.light::s.it):Int):Rat)*(ofQ (qX s)).val:=hm.trans hB;have hne:((sM (s.light::s.it):Int):Rat)≠0:=by
   have:sM (s.light::s.it)≠0:=by have:1<=sM (s.light::s.it):=hm1;omega
   exact_mod_cast this
  have h2:((sM (s.light::s.it):Int):Rat)*(ofQ (qX s)).val=(sX (s.light::s.it):Rat):=by
   rw[ofQ_val,qX];grind
  rw[h2,aaf,ko,jg]at h1;have h3:(s.st.map ((fun x=>fQ x z u*(x.x:Rat))∘iH d.toNat))=s.st.map fun t=>qY z u t*((d.toNat:Rat)/1000000000):=cE fun t ht=>by
   have hw:=wat_force (d:=d.toNat) (hk.st t ht) 0 z u;rw[ezzz]at hw;show fQ (Ha 0 (iH d.toNat t)) z u*(t.x:Rat)=wQ t*uK t (cg z u t)*(t.x:Rat)*_;rw[hw];grind
  rw[h3,aan,EB]at h1;exact h1
theorem ab2 (F:ST->Rat):∀l:List ST,I_ (fun _=>true) (l.map fun t=>(t.x,F t))=ap F l/\aa0 (fun _=>true) (l.map fun t=>(t.x,F t))=ap (fun t=>F t*(t.x:Rat)) l
 |[]=>⟨rfl,rfl⟩
 |t::l=>by
  obtain⟨i1,i2⟩:=ab2 F l;rw[aay,aay,<-i1,<-i2];exact⟨O,O⟩
theorem aaX:∀l:List LR,I_ (fun _=>true) (l.map fun w=>(w.x,((-w.m:Int):Rat))) = -(sM l:Rat)/\aa0 (fun _=>true) (l.map fun w=>(w.x,((-w.m:Int):Rat))) = -(sX l:Rat)
 |[]=>⟨Y,Y⟩
 |w::l=>by
  obtain⟨i1,i2⟩:=aaX l;have e1:sM (w::l)=w.m+sM l:=by simp[sM]
  have e2:sX (w::l)=w.m*w.x+sX l:=by simp[sX]
  rw[e1,e2,db,I_,aa0,i1,i2,if_pos O,if_pos O,tQ,tQ,ja,Rat.intCast_neg];constructor<;>grind
theorem aaE {s:SHP}{d:Int}{z u:Rat}(sl:Slim (aa7 s d) 0)(hs:Stood (aa7 s d) 0 z u):I_ (fun _=>true) (J7 s z u d.toNat)=0/\aa0 (fun _=>true) (J7 s z u d.toNat)=0:=by
 obtain⟨a1,a2⟩:=aai sl hs;obtain⟨b1,b2⟩:=ab2 (fun t=>bL z u t*((d.toNat:Rat)/1000000000)) s.st;obtain⟨c1,c2⟩:=aaX (s.light::s.it);have e:(fun t=>bL z u t*((d.toNat:Rat)/1000000000)*(t.x:Rat))=fun t=>qY z u t*((d.toNat:Rat)/1000000000):=by
  funext t;show wQ t*uK t (cg z u t)*_*(t.x:Rat)=wQ t*uK t (cg z u t)*(t.x:Rat)*_;grind
 rw[J7,aam,abh,J_,J8,b1,b2,c1,c2,e,EB,EB,a1,a2];constructor<;>grind
theorem abN {s:SHP}{d:Int}{z u:Rat}(sl:Slim (aa7 s d) 0)(hs:Stood (aa7 s d) 0 z u):FrcOk s z u d.toNat:=by
 obtain⟨hk,hd,hf⟩:=sl.bd;have ok:=pD (qc hf);have hd1:900<=d:=hd.1;have hd2:d<=1100:=hd.2;have hm1:1<=sM (s.light::s.it):=ok.m;refine⟨hk.st,?_,sl.st,sl.L,ok.ld,ok.n,J,J,fun t ht=>?_⟩
 .cases h:s.st with
  |cons t l=>simp
  |nil =>
   have h1:=(aai sl hs).1;rw[h]at h1;have h2:((sM (s.light::s.it):Int):Rat)=0:=by
    rw[<-h1];show(0:Rat)*_=0;exact Rat.zero_mul _
   have h3:sM (s.light::s.it)=0:=by exact_mod_cast h2
   omega
 .have hw:=wat_force (d:=d.toNat) (hk.st t ht) 0 z u;rw[pn]at hw;show hq (wQ t*uK t (cg z u t)*_) 50000;rw[<-hw];refine Hn sl hs _ (bF.2 ⟨iH d.toNat t,?_,O⟩);rw[aaf];exact bF.2 ⟨t,ht,O⟩
theorem abu {s:SHP}{d:Int}{z u:Rat}(sl:Slim (aa7 s d) 0)(hs:Stood (aa7 s d) 0 z u):ap (bL z u) s.st≠0/\(vG s.st d.toNat z u).disp=(sM (s.light::s.it):Rat)/\(vG s.st d.toNat z u).x=(sX (s.light::s.it):Rat)/(sM (s.light::s.it):Rat):=by
 obtain⟨hk,hd,hf⟩:=sl.bd;have hm1:1<=sM (s.light::s.it):=(pD (qc hf)).m;obtain⟨a1,a2⟩:=aai sl hs;have hne:((sM (s.light::s.it):Int):Rat)≠0:=by
  have:sM (s.light::s.it)≠0:=J
  exact_mod_cast this
 have hv:ap (bL z u) s.st≠0:=fun e=>hne (by rw[<-a1,e];exact Rat.zero_mul _);refine⟨hv,a1,?_⟩;show ap (qY z u) s.st/ap (bL z u) s.st=_;rw[<-a1,<-a2];have hc:((d.toNat:Rat)/1000000000)≠0:=fun e=>hne (by rw[<-a1,e];exact Rat.mul_zero _);generalize ((d.toNat:Rat)/1000000000)=c,ap (qY z u) s.st=x,ap (bL z u) s.st=v at *
 grind
def eZ9 (e:Int × RR × RR):List PV:=I e.1::(eR e.2.1++eR e.2.2)
def abD (a b c d e f g h i:RR):List PV:=eR a++eR b++eR c++eR d++eR e++eR f++eR g++eR h++eR i
theorem abf (s:SHP)(a:AR)(d:Int){r0 r1 r2 r3 r4 r5zz r6zz r7zz r8zz:RR}(h1:bb 100 [.agg (jT s),I d] (I 0))(h2:bb 101 [.agg (jT s),.agg (eA a),I d] (.tup [.agg (abD r0 r1 r2 r3 r4 r5zz r6zz r7zz r8zz),.bool true])):bb 42 [.agg (jT s),.agg (eA a),I d] (.tup [.agg (abD r0 r1 r2 r3 r4 r5zz r6zz r7zz r8zz),I 0]):=by
 refine ay Proofs.Tryz.func42 ?_;refine G h1 ?_;refine G h2 ?_;exact cy
theorem aaP (s:SHP){m f:Int}{x z:RR}(h1:bb 11 [.agg (jT s)] (I 0))(h2:bb 102 [.agg (jT s)] (.agg (J5 m x z f))):bb 43 [.agg (jT s)] (.tup [.agg (J5 m x z f),I 0]):=by
 refine ay Proofs.Tryz.func43 ?_;refine G h1 ?_;refine G h2 ?_;exact cy
theorem ab5 (s:SHP)(d:Int)(Q:SQ)(he:Q.e≠0)(h1:bb 14 [.agg (jT s),I d] Q.pv):bb 8 [.agg (jT s),I d] (.tup [.bool true,.bool false]):=by
 obtain⟨⟨az,at'⟩,F,⟨rz,rt⟩,e⟩:=Q;simp only[SQ.pv]at *
 refine ay Proofs.Tryz.func8 ?_;refine G h1 ?_;refine D ?_ ?_<;>intro h
 .clear h;exact cy
 .simp at h;exact absurd h he
theorem aaD (s:SHP)(d:Int)(a r:AR)(F:List RR){r0 r1 r2 r3 r4 r5zz r6zz r7zz r8zz c z0:RR}{m f x:Int}{O0:List (Int × RR × RR)}{k:Nat}(hO:O0.length=k+1)(hk:k<=100)(hx:O0[k]?=some (x,z0,z0))
  (h1:bb 14 [.agg (jT s),I d] (.tup [.agg (HJ a F),.agg (eA r),I 0]))
  (h2:bb 42 [.agg (jT s),.agg (eA a),I d] (.tup [.agg (abD r0 r1 r2 r3 r4 r5zz r6zz r7zz r8zz),I 0]))
  (h3:bb 43 [.agg (jT s)] (.tup [.agg (J5 m r2 c f),I 0]))
  (h4:bb 44 [.agg (jT s),.agg (eA a),I d] (.tup [.sl (O0.map eZ9),I 0]))
  (h5:bb 19 [I m] (.agg (eR r1))) (h6:bb 21 [.agg (eR r1),.agg (eR r1)] (.bool true)) (h7:bb 21 [.agg (eR r2),.agg (eR r2)] (.bool true))
  (h8:bb 23 [.agg (eR z0)] (I 0)):bb 8 [.agg (jT s),I d] (.tup [.bool true,.bool true]):=by
 have hml:(O0.map eZ9).length=k+1:=by rw[aM,hO]
 have hw:IntKind.i64.wrap (((k+1:Nat):Int)-1)=(k:Nat):=by rw[wrap_i64 J J];omega
 refine ay Proofs.Tryz.func8 ?_;refine G h1 ?_;refine G h2 ?_;refine G h3 ?_;refine G h4 ?_;refine H ?_;rw[hml];refine cO O ?_ ?_<;>intro h
 .exfalso;simp at h;omega
 clear h;refine H ?_;rw[hml];refine H ?_;rw[hw];refine Gb O O O O O O O hx O ?_;refine dN 10 ?_;refine cY [] [] aN ?_;refine G h5 ?_;refine G h6 ?_;refine G h7 ?_;refine G h8 ?_;refine G h8 ?_;exact cy
theorem aag {q:Rat}{n:Nat}(h:hq q n)(hn:n<=1000000000):(ofQ q).le 1000000000:=⟨bz (nK h).1 hn,bz (nK h).2 hn⟩
theorem aau {s:SHP}{d:Int}(hl:s.Len)(h6:s.st.length<=6)(h8:∀t∈s.st,t.L.length<=8)(he:(abe s d).e=0):∃z u,jV s d=0/\Slim (aa7 s d) 0/\Stood (aa7 s d) 0 z u/\abe s d=⟨⟨ofQ z,ofQ u⟩,FL (gj (aa7 s d) 0) z u,zA,0⟩:=by
 rw[abe]at he ⊢;by_cases h:jV s d=0
 .rw[if_pos h]at he ⊢;have sl:=aaj hl h h6 h8;obtain⟨z,u,hs⟩:=stood sl he;exact⟨z,u,h,sl,hs,hs.s⟩
 .rw[if_neg h]at he;exact absurd he h
theorem abO (x:HYQ):Iq x=abD (ofQ x.vol) (ofQ x.disp) (ofQ x.x) (ofQ x.z) (ofQ x.area) (ofQ x.flo) (ofQ x.cross) (ofQ x.long) (ofQ x.mtc):=rfl
theorem abQ (O0:List (Int × Rat × Rat)):O0.map abs=(O0.map fun e=>(e.1,ofQ e.2.1,ofQ e.2.2)).map eZ9:=by rw[jg];rfl
theorem aa9 (s:SHP)(hl:s.Len)(h6:s.st.length<=6)(h8:∀t∈s.st,t.L.length<=8)(d:Int):bb 8 [.agg (jT s),I d] (.tup [.bool true,.bool (decide ((abe s d).e=0))]):=by
 have hF:=aaw s hl h6 h8 d;by_cases he:(abe s d).e=0
 .rw[decide_eq_true he];obtain⟨z,u,hf,sl,hs,hQ⟩:=aau hl h6 h8 he;rw[hQ]at hF;obtain⟨hk,hd,-⟩:=sl.bd;have hd1:900<=d:=hd.1;have hd2:d<=1100:=hd.2;have hd':((d.toNat:Nat):Int)=d:=J;have he0:=qc hf;have ok:=pD he0;obtain⟨m1,m2,mq⟩:=v8 ok;have hz:=hs.hz;have ht:=hs.ht;have va:Va ⟨ofQ z,ofQ u⟩ z u 24000 20000:=⟨Vq.ofQ (h:=hz),Vq.ofQ (h:=ht)⟩;obtain⟨hv,hdisp,hx⟩:=abu sl hs;have hfl:=floated_ret s hl d;rw[hf]at hfl;have hy:=hydro_ret s hk.st h6 h8 ⟨ofQ z,ofQ u⟩ (ha:=va) Y d.toNat J J hv;rw[abO,hdisp,hx,hd']at hy;have hy2:=abf s ⟨ofQ z,ofQ u⟩ d hfl hy;have hc:=check2_ret s hl;rw[he0]at hc;have hlo:=aaP s hc (total2_ret s _ O ok.ld m1 (by have:=ok.n;show(s.light::s.it).length<=61;simp;omega));obtain⟨O0,k,x,hO,hk1,hx9,hst⟩:=aar s ⟨ofQ z,ofQ u⟩ (ha:=va) Y d.toNat (abN sl hs) (by rw[hd'];exact hfl) (aaE sl hs).1 (aaE sl hs).2;rw[abQ,hd']at hst;have zs:Zb (sM (s.light::s.it)):=aL J J;have h0:=@rsignR_ret (ofQ 0) 0 4 (Vq.ofQ (h:=HQ.zero)) Y;exact aaD s d _ _ _ (by rw[aM];exact hO) hk1 (by rw[aV,hx9];rfl) hF hy2 hlo hst
   (bW_ret _ ⟨J,J⟩) (sameR_ret _ (aag (n:=4) HQ.int.ok Y)) (sameR_ret _ (aag (n:=4) mq Y)) h0
 .rw[decide_eq_false he];exact ab5 s d _ he hF
end Go.Pv
set_option maxHeartbeats 2000000
namespace Go.Pv
attribute [local irreducible] PWP POps PQuiet PSem XThen XBlock RetPost InlPost
open Go.Proofs Go.RowKit Go.Sort
def abr:List Value:=[.string ⟨#[]⟩,.int .i64 0,.int .i64 0,.int .i64 0,.int .i64 0]
theorem aaS (w:World)(b o c:Nat)(ty:TypeId)(hc:∀j,j<5->(w.cell? ⟨b,o+j,none⟩).isSome=true)(hf:∀j,j<5->w.frozen? ⟨b,o+j,none⟩=false) :
  (Builtin.clear_ #[25] ty #[.slice (some ⟨b,o,none⟩) 1 c]).run Tryz.prog w=.ok (.tuple #[]) (w.setCells b o abr):=by
 rw[abr];have hst:=run_storeCells_cells (P:=Tryz.prog) b o [Value.string ⟨#[]⟩,.int .i64 0,.int .i64 0,.int .i64 0,.int .i64 0] 0 w (by simpa using hc) (by simpa using hf) (by intro v hv;simp at hv;rcases hv with rfl|rfl|rfl|rfl|rfl<;>rfl);simp only[fB]at hst;have hzc:(Builtin.zeroCells (Value.agg #[Value.string ⟨#[]⟩,.int .i64 0,.int .i64 0,.int .i64 0,.int .i64 0]).cells 1).toList=[Value.string ⟨#[]⟩,.int .i64 0,.int .i64 0,.int .i64 0,.int .i64 0]:=by
  simp[Builtin.zeroCells,Value.cells];rfl
 simp only[Builtin.clear_];simp[run_underlying Tryz.underlying25,Tryz.zeroValue24,hzc,hst]
set_option maxHeartbeats 4000000 in
set_option maxRecDepth 1000000 in
theorem aap (w:World)(b cap n i j:Nat)(cur:Array Value)(hh:w.heap[b]?=some (.cells cur 24 (0,0)))(hc:cur.size=cap*5)(hn:n<=cap)(hij:j=i+1)(hj:j<=n)(hm:cap<=9223372036854775807)(hone:∀q,q<n*5->∃v,cur[q]?=some v/\v.oneCell'=true) :
  Calls Tryz.prog 51 #[.slice (some ⟨b,0,none⟩) n cap,.int .i64 i,.int .i64 j] w fun e w'=>e=.returned (.slice (some ⟨b,0,none⟩) (n-1) cap)/\∃cur',Chg w w' b 24 cur'/\cur'.size=cur.size/\(∀q,q<(n-1)*5->cur'[q]? = if q<i*5 then cur[q]? else cur[q+5]?)/\∀q,q<5->cur'[(n-1)*5+q]? = abr[q]? := by
 have mixed:Tryz.prog.follows Departure.mixedOrders=true:=by kernel_rfl
 have tSL:=Tryz.underlying25;obtain⟨i0,hi0,hz1⟩:∃i0,Tryz.prog.info? 24=some i0/\i0.size=5:=by
  have h:(Tryz.prog.info? 24).map (fun i=>i.size)=some 5:=by kernel_rfl
  exact jk.1 h
 obtain⟨news,hnews⟩:∃news,news=(cur.toList.drop (j*5)).take ((n-j)*5):=⟨_,O⟩;have hcl:cur.toList.length=cap*5:=by rw[jm,hc]
 have hlen:news.length=(n-j)*5:=by rw[hnews,bI,fR,hcl];omega
 have hget:∀t,t<(n-j)*5->news[t]? = cur[j*5+t]? := fun t ht=>by
  rw[hnews,bE,if_pos ht,cq,dq]
 have hcell:∀q,w.cell? ⟨b,q,none⟩=cur[q]? := fun q=>by rw[bc hh]
 have hfz:∀q,w.frozen? ⟨b,q,none⟩=false:=fun q=>frozen_of_row w b _ cur 24 hh;obtain⟨A,hA,hsrc⟩:∃A:Addr,(if cap=j then some (⟨b,0,none⟩:Addr) else some ⟨b,j*5,none⟩)=some A/\Hid (∀t u,news[t]?=some u->w.drew.cell? (A.add t)=some u):=by
  by_cases h:cap=j
  .refine⟨⟨b,0,none⟩,by simp[h],fun t u hu=>?_⟩;have h0:news.length=0:=by rw[hlen];omega
   rw[nP.1 h0]at hu;simp at hu
  .refine⟨⟨b,j*5,none⟩,by simp[h],fun t u hu=>?_⟩;have ht:t<(n-j)*5:=by
    have:=(bD hu).1;rwa [hlen]at this
   rw[hget t ht]at hu;rw[Addr.add_lit];exact(hcell _).trans hu
 have s1:Hid (news.length=(n-j)*5):=hlen;have s2:Hid (∀u∈news,u.oneCell'=true):=by
  intro u hu;obtain⟨t,ht⟩:=List.getElem?_of_mem hu;have hlt:t<(n-j)*5:=by
   have:=(bD ht).1;rwa [hlen]at this
  rw[hget t hlt]at ht;obtain⟨v,h1,h2⟩:=hone (j*5+t) J;rw[h1]at ht;cases ht;exact h2
 have s3:Hid (∀t,t<news.length->(w.drew.cell? ⟨b,0+i*5+t,none⟩).isSome=true/\w.drew.frozen? ⟨b,0+i*5+t,none⟩=false):=by
  intro t ht;rw[hlen]at ht;obtain⟨v,h1,_⟩:=hone (0+i*5+t) J;exact⟨by show(w.cell? _).isSome=true;rw[hcell,h1];rfl,hfz _⟩
 obtain⟨W1,hW1⟩:∃W1,W1=w.drew.setCells b (0+i*5) news:=⟨_,O⟩;have hW:Hid (W1=w.drew.setCells b (0+i*5) news):=hW1;have hic:i<=cap:=J;have hjc:j<=cap:=J;have hil:i<=n:=J;have hne:(((i:Nat):Int)==((j:Nat):Int))=false:=by simp;omega
 have hlt:i<j:=J;obtain⟨cur1,cg1,cz1,cq1⟩:=aa4 b 24 news (0+i*5) w.drew cur hh;rw[<-hW1]at cg1;have hclr:∀ty,(Builtin.clear_ #[25] ty #[.slice (some ⟨b,(i+(n-j))*5,none⟩) (n-(i+(n-j))) (cap-(i+(n-j)))]).run Tryz.prog W1=.ok (.tuple #[]) (W1.setCells b ((i+(n-j))*5) abr):=fun ty=>by
  rw[show n-(i+(n-j))=1 by omega];refine aaS W1 b _ _ ty (fun t ht=>?_) (fun t ht=>frozen_of_row W1 b _ cur1 24 cg1.at_);rw[bc cg1.at_];have:(i+(n-j))*5+t<cur1.size:=by rw[cz1,hc];omega
  simp[this]
 obtain⟨cur2,cg2,cz2,cq2⟩:=aa4 b 24 abr ((i+(n-j))*5) W1 cur1 cg1.at_;have hfin:∃cur',Chg w (W1.setCells b ((i+(n-j))*5) abr) b 24 cur'/\cur'.size=cur.size/\(∀q,q<(n-1)*5->cur'[q]? = if q<i*5 then cur[q]? else cur[q+5]?)/\∀q,q<5->cur'[(n-1)*5+q]? = abr[q]? := by
  have cg1':Chg w W1 b 24 cur1:=⟨cg1.os,cg1.tape,cg1.output,cg1.size,cg1.other,cg1.at_⟩;refine⟨cur2,cg1'.trans cg2,cz2.trans cz1,fun q hq=>?_,fun q hq=>?_⟩
  .rw[cq2 q,if_neg J,cq1 q];by_cases g:q<i*5
   .rw[if_pos g,if_neg J]
   .rw[if_neg g,if_pos (by rw[hlen];omega),hget _ J,show j*5+(q-(0+i*5))=q+5 by omega]
  .have hz5:abr.length=5:=O;rw[cq2,if_pos (by rw[hz5,cz1,hc];omega),show(n-1)*5+q-(i+(n-j))*5=q by omega]
 have hfinH:Hid (∃cur',Chg w (W1.setCells b ((i+(n-j))*5) abr) b 24 cur'/\cur'.size=cur.size/\(∀q,q<(n-1)*5->cur'[q]? = if q<i*5 then cur[q]? else cur[q+5]?)/\∀q,q<5->cur'[(n-1)*5+q]? = abr[q]?):=hfin;have hretH:Hid (i+(n-j)=n-1):=by
  have:i+(n-j)=n-1:=J;exact this
 have hijH:Hid (j=i+1):=hij;clear hW1 hget hnews hlen hcl hone hcell hfz hij cg1 cz1 cq1 cg2 cz2 cq2 hfin
 go_enter Tryz.func51,Tryz.ntmps51
 go_wp2_with fail
 try (any_goals (exfalso;omega))
 go_region_law (refine step_append_room O (.tmp 22) (.tmp 25) 25 O 24 i0 5 tSL hi0 hz1 b 0 i cap (by simp[Act.eval,Act.put]) A (n-j) (cap-j) news (by simp[Act.eval,Act.put]) s1.out hsrc.out s2.out J s3.out ?_;rw[<-hW.out])
 go_wp2
 go_ret
 refine⟨?_,hfinH.out⟩;rw[<-hretH.out];rfl
theorem abv:f_ Tryz.prog 51:=⟨_,Go.Proofs.Tryz.func51,Y,O⟩
def aac:List PV:=[.str [],I 0,I 0,I 0,I 0]
theorem abb {w:World}{ok:Nat->Prop}{j:Nat}{pv:PV}(h:aac[j]?=some pv):∃v,abr[j]?=some v/\v.oneCell'=true/\DRep w ok pv v:=by
 match j,h with
 |0,h=>cases h;exact⟨_,rfl,rfl,.str _⟩
 |1,h=>cases h;exact⟨_,rfl,rfl,.int _ _⟩
 |2,h=>cases h;exact⟨_,rfl,rfl,.int _ _⟩
 |3,h=>cases h;exact⟨_,rfl,rfl,.int _ _⟩
 |4,h=>cases h;exact⟨_,rfl,rfl,.int _ _⟩
 |_+5,h=>cases h
variable {s:St}{d k g m:Nat}{ty:TypeId}{pos:String}{af:Array Edge}{x y z:Operand}{tys:Array TypeId}{K:St->Prop}
theorem aaM {rows:List (List PV)}{i:Nat}(hx:s.ev x=.als k g 0 m)(hm:m=rows.length)(ho:s.own k=(g,some ⟨24,5,rows,1⟩))(hy:s.ev y=I (i:Nat))(hz:s.ev z=I ((i+1:Nat):Int))(hi:i<rows.length)
  (h:K ((s.setOwn k (g+1) (some ⟨24,5,rows.eraseIdx i,1⟩)).putR d (.als k (g+1) 0 (rows.length-1)))):Sm Tryz.prog lay.get s ⟨some d,.call ⟨.value (.func 51),#[x,y,z],tys⟩,ty,pos,af,none⟩ K:=by
 intro C a w Qp hG hs hN;obtain⟨γ,hs⟩:=hs;subst hm;have hfv:=hs.ev (.func 51);obtain⟨vs,hv,hl,_⟩:=hfv.clo_inv;have hvs:vs=[]:=dO (by simpa using hl.symm);subst hvs;have hxr:=hs.ev x;rw[hx]at hxr;have hyr:=hs.ev y;rw[hy]at hyr;have hyv:=hyr.int_inv;have hzr:=hs.ev z;rw[hz]at hzr;have hzv:=hzr.int_inv;have hals:=hs.als_at hxr ho;unfold Oper.wp;rw[ke (f:=51) O hv abv,Oper.upon_enter];simp only[db,fC,cu,hyv,hzv];rcases hals with⟨h1,_,h3,h4⟩|⟨b,cap,cur,h1,h2,h3,h4,h5,h6,h7⟩
 .omega
 .rw[h2];simp only[fT];have h3:w.heap[b]?=some (.cells cur 24 (0,0)):=h3;have hcs:cur.size=cap*5:=by rw[<-show(0+cap)*5=cap*5 by rw[aG]];exact h6
  obtain⟨cur0,g1,_,g3,g4,g5⟩:=hs.site_at ho h1 (show 0<5 by decide);have g1:w.heap[b]?=some (.cells cur0 24 (0,0)):=g1;rw[h3]at g1;simp only[aJ,Obj.cells.injEq,and_true]at g1;subst g1;have g5:∀(i j:Nat) (row:List PV) (pv:PV),rows[i]?=some row->row[j]?=some pv->∃v,cur[i*5+j]?=some v/\v.oneCell'=true/\KRep (ai C γ s w) 1 pv v:=g5;have g4:∀row∈rows,row.length=5:=g4;have hone:∀q,q<rows.length*5->∃v,cur[q]?=some v/\v.oneCell'=true:=fun q hq=>by
   have hqi:q/5<rows.length:=(oY Y).2 hq;have hqj:q%5<5:=d0 _ Y;have hx1:rows[q/5]?=some rows[q/5]:=aQ hqi;have hlen:=g4 _ (bG hx1);have hx2:(rows[q/5])[q%5]?=some ((rows[q/5])[q%5]'J):=aQ _;obtain⟨v,e1,e2,_⟩:=g5 (q/5) (q%5) _ _ hx1 hx2;rw[show q/5*5+q%5=q by omega]at e1;exact⟨v,e1,e2⟩
  refine(aap w b cap rows.length i (i+1) cur h3 hcs J O J (De h5) hone).mono ?_;rintro e w' ⟨rfl,cur',hchg,hcz,hq1,hq2⟩;have hle1:(rows.eraseIdx i).length=rows.length-1:=List.length_eraseIdx_of_lt hi;have hle:=wZ (c':=⟨24,5,rows.eraseIdx i++[aac],1⟩) hs ho h1 h3 hcz O O (by simp[hle1];omega);have hsite:SiteOk (ai C γ (s.setOwn k g (some ⟨24,5,rows.eraseIdx i++[aac],1⟩)) (w.setRow b cur')) (some b) ⟨24,5,rows.eraseIdx i++[aac],1⟩:=by
   refine⟨(fun e=>by cases e),(fun b' _ hz=>by simp only at hz;omega),(fun b' _ hz=>by simp only at hz;omega),fun b' hb' _=>?_⟩;simp at hb';subst hb';refine⟨cur',setRow_heap w b cur cur' 24 (0,0) h3,show 0<5 by decide,by simp only[bT,tq,hle1];rw[hcz,hcs];omega,fun row hr=>?_,fun p q row pv e1 e2=>?_⟩
   .rcases fe.1 hr with hr|hr
    .exact g4 row (List.mem_of_mem_eraseIdx hr)
    .simp at hr;subst hr;rfl
   .show ∃v,cur'[p*5+q]?=some v/\v.oneCell'=true/\KRep (ai C γ (s.setOwn k g (some ⟨24,5,rows.eraseIdx i++[aac],1⟩)) (w.setRow b cur')) 1 pv v;rcases aT p (rows.length-1) with hp|hp
    .have e1:(rows.eraseIdx i++[aac])[p]?=some row:=e1;rw[fG J,List.getElem?_eraseIdx]at e1;by_cases hpi:p<i
     .rw[if_pos hpi]at e1;have hrl:=g4 row (bG e1);have hql:=(bD e2).1;obtain⟨v,f1,f2,f3⟩:=g5 p q row pv e1 e2;refine⟨v,?_,f2,f3.mono hle⟩;rw[hq1 _ J,if_pos J];exact f1
     .rw[if_neg hpi]at e1;have hrl:=g4 row (bG e1);have hql:=(bD e2).1;obtain⟨v,f1,f2,f3⟩:=g5 (p+1) q row pv e1 e2;refine⟨v,?_,f2,f3.mono hle⟩;rw[hq1 _ J,if_neg J,show p*5+q+5=(p+1)*5+q by omega];exact f1
    .have e1:(rows.eraseIdx i++[aac])[p]?=some row:=e1;have hpe:p=rows.length-1:=by
      have:=(bD e1).1;rw[bT,hle1,tq]at this;omega
     subst hpe;rw[dj J,hle1,fU]at e1;cases e1;have hql:q<5:=(bD e2).1;obtain⟨v,f1,f2,f3⟩:=abb (w:=_) (ok:=_) e2;exact⟨v,by rw[hq2 q hql];exact f1,f2,f3⟩
  have hsim:=Ff (c':=⟨24,5,rows.eraseIdx i++[aac],1⟩) hs ho h1 h3 hcz hchg O O (by simp[hle1];omega) hsite;have hcut:=hsim.cutS (n:=rows.length-1) (by rw[ah]) (show 0<5 by decide);rw[ab1]at hcut;rw[show(rows.eraseIdx i++[aac]).take (rows.length-1)=rows.eraseIdx i by rw[<-hle1,pj]]at hcut;refine⟨_,⟨γ,hcut.put (d:=some d) hN ?_⟩,h⟩;refine .als (by simp[ai,ah]) fun _ l2 hl2=>?_;simp only[ai,ah,ca,aJ]at hl2;subst hl2;exact .inr ⟨b,cap,cur',h1,aj,hchg.at_,J,h5,by rw[hcz];exact h6,by simp;omega⟩
end Go.Pv
set_option maxHeartbeats 2000000
namespace Go.Pv
attribute [local irreducible] PWP POps PQuiet PSem XThen XBlock RetPost InlPost
open Go.Proofs
theorem aaG {L:b9}{fn:Func}{K:(Nat->Nat × Option Cont)->PV->Prop}{s:St}{l:List PV}{Cd:Prop}{r:PV}(owns:List (Nat × Nat × Cont))(h:DX L s fn.results.toList=some (l,Cd))(hc:Cd)(hl:jE l=r)(ho:FitO s owns)
  (hk:∀s1:St,K (s1.over [] owns).own r):InlPost L fn (fun s' r=>K s'.own r) .ret s:=by
 have hk:=hk s;rw[Fit.over (l:=[]) ho,<-hl]at hk;unfold InlPost;exact⟨l,Cd,h,hc,hk⟩
theorem Ghost.kind1 {s:St}{k g sz:Nat}{T:TypeId}{rows:List (List PV)}(ho:s.own k=(g,some ⟨T,sz,rows,0⟩))(hz:Nat.blt 0 sz=true)(hr:(rows.map (·.map ac1)).map (·.map (gv 1))=rows)(hk:∀row∈rows.map (·.map ac1),row.all (oS 1)=true):Ghost s (s.setOwn k g (some ⟨T,sz,rows,1⟩)):=by
 have h1:=Ghost.raise ho O hz;have h2:=h1.trans (Ghost.lower 1 (ah ..) O hz hk);rw[ab1]at h2;have e:((rows.map (·.map ac1)).map (·.map (gv 1)))=rows:=hr;simp only[e]at h2;exact h2
theorem abw (F:List LR)(hl:F.length<=1000000):RetO Tryz.prog 112 [.sl (F.map eLd)] 24 5 (F.map eLd):=by
 refine RetO.of_pwp dY mixed Go.Proofs.Tryz.func112 O Y O O ?_
 (refine dN 1 ?_;refine aD 1 ?_)
 refine g_ O ?_;refine bg ?_;refine aU O (kT dY O O O (fun h0=>?_) ?_)
 .rw[h0];refine aE ?_
  (repeat ((fail_if_success (with_reducible refine fY ?_));refine Ab O ?_))
  refine ax (Ghost.nilreg (k:=5) (t:=2) 24 5 0 O O) ?_;refine H ?_;exact Jz O O O O O O
 .refine aE ?_;refine H ?_;refine aC (b8 1 O O O O O O O O O O O ak O ?_);refine H ?_;refine aC (cQ 1 O O O O O O O O O O O ak (by intro row hr;obtain⟨p,_,rfl⟩:=bF.1 hr;rfl) O O aX aX ?_)
  (repeat ((fail_if_success (with_reducible refine fY ?_));refine Ab O ?_))
  refine H ?_;exact Jz O O O O (by rw[bx];intro row hr;obtain⟨y,_,rfl⟩:=bF.1 hr;rfl) O
theorem acb (it:List LR):((it.map eLd).map (·.map ac1)).map (·.map (gv 1))=it.map eLd:=by rw[jg,jg];rfl
theorem aat {K:St->Prop}{s':St}{t g3 g4:Nat}{c3 c4:Cont}{x:Operand}{tys:Array TypeId}{ty:TypeId}{pos:String}{af:Array Edge}(s:SHP)(h1:s.st.length<=1000)(h2:s.it.length<=1000)(hL:∀t∈s.st,t.L.length<=1000/\t.H0.length<=1000)
  (hx:s'.ev x=.agg (jT s)) (ho:FitO s' [(1003,g3,c3),(1004,g4,c4)])
  (hK:∀(s1:St) (g:Nat),K (({ reg:=s'.reg,own:=(s1.over [] [(34,g,⟨24,5,s.it.map eLd,1⟩),(1003,g3,c3),(1004,g4,c4)]).own }:St).putR t (.agg [.str s.nm,I s.len,.sl (s.st.map eT),.str s.light.nm,I s.light.m,I s.light.x,I s.light.z,I s.light.f,.als 34 g 0 (s.it.map eLd).length]))) :
  Sm Tryz.prog lay.get s' ⟨some t,.call ⟨.value (.func 49),#[x],tys⟩,ty,pos,af,none⟩ K:=by
 have hms:(s.st.map eT).length=s.st.length:=aj;have q1:=abw s.it J;obtain⟨nm,len,st,⟨ln,lm,lxzz,lzzz,lf⟩,it⟩:=s;simp only at *
 refine cB dY O O Tryz.func49 O Y O O ?_;show PWP _ _ _ _ (bJ s' (([x]:List Operand).map s'.ev++[]));rw[show(([x]:List Operand).map s'.ev++([]:List PV))=[.agg [.str nm,I len,.sl (st.map eT),.str ln,I lm,I lxzz,I lzzz,I lf,.sl (it.map eLd)]] by simp[hx];rfl];rw[show bJ s' [.agg [.str nm,I len,.sl (st.map eT),.str ln,I lm,I lxzz,I lzzz,I lf,.sl (it.map eLd)]]=bJ (s'.over [] [(1003,g3,c3),(1004,g4,c4)]) [.agg [.str nm,I len,.sl (st.map eT),.str ln,I lm,I lxzz,I lzzz,I lf,.sl (it.map eLd)]] by rw[Fit.over (l:=[]) ho]];refine H ?_;refine cA [(1,.ptr 1 ((s'.own 1).1+1) 0 0),(2,.ptr 2 ((s'.own 2).1+1) 0 0),(3,.ptr 3 ((s'.own 3).1+1) 0 0),(9,.sl (st.map eT)),(10,I (st.map eT).length),(11,I ((0:Nat):Int))] [(1,(s'.own 1).1+1,⟨27,9,[[.str nm,I len,.sl (st.map eT),.str ln,I lm,I lxzz,I lzzz,I lf,.sl (it.map eLd)]],2⟩),(2,(s'.own 2).1+1,⟨27,9,[[.str [],I 0,.nil,.str [],I 0,I 0,I 0,I 0,.nil]],2⟩),(3,(s'.own 3).1+1,⟨27,9,[[.str nm,I len,.nil,.str ln,I lm,I lxzz,I lzzz,I lf,.sl (it.map eLd)]],2⟩),(1003,g3,c3),(1004,g4,c4)] ak ?_;generalize (s'.own 1).1+1=p1;generalize (s'.own 2).1+1=p2;generalize (s'.own 3).1+1=p3;rw[hms];intro s0;refine ax (Ghost.nilcell (k:=400) (k0:=3) (i:=0) (j:=2) (row:=[.str nm,I len,.nil,.str ln,I lm,I lxzz,I lzzz,I lf,.sl (it.map eLd)]) 115 4 1 O O O O O O O) ?_;have hg4:∃g4,(s0.own 400).1+1=g4:=⟨_,O⟩;obtain⟨g5,hg5⟩:=hg4;refine ao (fun i:Nat=>i<=st.length) (fun i=>[(1,.ptr 1 p1 0 0),(2,.ptr 2 p2 0 0),(3,.ptr 3 p3 0 0),(9,.sl (st.map eT)),(10,I st.length),(11,I (i:Nat))]) (fun i=>[(1,p1,⟨27,9,[[.str nm,I len,.sl (st.map eT),.str ln,I lm,I lxzz,I lzzz,I lf,.sl (it.map eLd)]],2⟩),(2,p2,⟨27,9,[[.str [],I 0,.nil,.str [],I 0,I 0,I 0,I 0,.nil]],2⟩),(3,p3,⟨27,9,[[.str nm,I len,.als 400 (g5+i) 0 ((st.take i).map eT).length,.str ln,I lm,I lxzz,I lzzz,I lf,.sl (it.map eLd)]],2⟩),(400,g5+i,⟨115,4,(st.take i).map eT,1⟩),(1003,g3,c3),(1004,g4,c4)]) (fun i=>st.length-i) 0 (aF _) ⟨O,O,O,O,O,O,O,O,by rw[<-hg5];rfl,by rw[<-hg5];rfl,ak⟩ ?_;clear hg5;intro i s1 hi;refine D ?_ ?_<;>intro h
 .have hlt:i<st.length:=cP h;clear h;obtain⟨u,hu⟩:=aK hlt;obtain⟨hl1,hl2⟩:=hL u (bG hu);have e1:=cloneI_ret u.L J;have e2:=cloneI_ret u.H0 J;have hrow:(st.take (i+1)).map eT=(st.take i).map eT++[[I u.x,I u.w,.sl (u.L.map eN),.sl (u.H0.map eN)]]:=by rw[bY hu,bQ];rfl
  have hw:=im i;have htl:((st.take i).map eT).length<=1000:=by rw[aM,bI];omega
  have hb4:g5+(i+1)=g5+i+1:=O;generalize (st.take i).map eT=R at *
  refine aZ hu ?_;refine dN 6 ?_;refine cd [28,400] [3] 15 [13,14,15,16] aN aN ?_;refine G e1 ?_;refine G e2 ?_;refine H ?_;refine pK O O O (b8 1 O O O O O O O O O O O ak O ⟨nR O,?_⟩);refine H ?_;refine pK O O O (cQ 1 O O O O O O O O O O O ak (by intro row hr;first|(simp at hr;subst hr;rfl)|(simp at hr;obtain⟨_,_,rfl⟩:=hr;rfl)|simp at hr) O O aX aX ⟨nR O,?_⟩);refine H ?_;refine⟨i+1,hlt,J,O,O,O,O,O,congrArg I hw,O,O,?_,?_,ak⟩
  .rw[hrow,hb4];rfl
  .rw[hrow,hb4];rfl
 have hie:i=st.length:=cG h;clear h;subst hie;rw[bM];refine ax (Ghost.freezeD (k:=400) (k0:=3) (i:=0) (j:=2) (row:=[.str nm,I len,.als 400 (g5+st.length) 0 (st.map eT).length,.str ln,I lm,I lxzz,I lzzz,I lf,.sl (it.map eLd)]) O O O O O O O O) ?_
 (refine dN 8 ?_;refine aD 2 ?_)
 iterate 2 refine g_ O ?_
 refine bg ?_;refine aU O (Ej O q1 O ak O ?_);refine aE ?_;refine dN 9 ?_;refine ax (Ghost.kind1 (k:=34) (rows:=it.map eLd) O O (acb it) (by intro row hr;obtain⟨r0,hr0,rfl⟩:=bF.1 hr;obtain⟨w,_,rfl⟩:=bF.1 hr0;rfl)) ?_;refine H ?_;exact aaG (K:=fun o r=>K (({ reg:=s'.reg,own:=o }:St).putR t r)) [(34,(s1.own 34).1+1,⟨24,5,it.map eLd,1⟩),(1003,g3,c3),(1004,g4,c4)] O ak O ⟨O,O,O,bP⟩ (fun s1=>hK s1 _)
def aae (s:SHP)(w:LR):SHP:=⟨s.nm,s.len,s.st,s.light,s.it++[w]⟩
def aci:List PV:=[.str [],I 0,.nil,.str [],I 0,I 0,I 0,I 0,.nil]
theorem abU (s:SHP)(w:LR):jT (aae s w)=[.str s.nm,I s.len,.sl (s.st.map eT),.str s.light.nm,I s.light.m,I s.light.x,I s.light.z,I s.light.f,.sl (s.it.map eLd++[[.str w.nm,I w.m,I w.x,I w.z,I w.f]])]:=by
 have hm:(s.it++[w]).map eLd=s.it.map eLd++[[.str w.nm,I w.m,I w.x,I w.z,I w.f]]:=by rw[bQ];rfl
 rw[<-hm];rfl
theorem abp (s:SHP)(w:LR)(hl:s.Len)(he:iS s=0)(hl2:(aae s w).Len)(h1:s.st.length<=900)(h2:s.it.length<=900)(hL:∀t∈s.st,t.L.length<=900/\t.H0.length<=900) :
  bb 12 [.agg (jT s),.agg (eLd w)] (.tup [.agg (if iS (aae s w)=0 then jT (aae s w) else aci),I (iS (aae s w))]):=by
 have c1:=check2_ret s hl;rw[he]at c1;have c2:=check2_ret (aae s w) hl2;rw[abU]at c2 ⊢;have hml:(s.it.map eLd).length<=900:=by rw[aM];exact h2
 generalize iS (aae s w)=E at *
 refine ay Proofs.Tryz.func12 ?_;refine G c1 ?_;refine dN 4 ?_;refine ax (Ghost.move (k:=3) (k':=1003) (t:=3) O O O O) ?_;refine ax (Ghost.move (k:=4) (k':=1004) (t:=4) O O O O) ?_
 (refine dN 4 ?_;refine aD 1 ?_)
 refine g_ O ?_;refine bg ?_;refine aU O (aat s J J (fun t ht=>by have:=hL t ht;omega) O ⟨O,O,bP⟩ fun s1 g=>?_);refine aE ?_;refine dN 5 ?_;refine cA [(3,.ptr 1003 1 0 0),(4,.ptr 1004 1 0 0),(7,.ptr 7 ((s1.own 7).1+1) 0 0)] [(1003,1,⟨24,5,[eLd w],2⟩),(1004,1,⟨27,9,[aci],2⟩),(7,(s1.own 7).1+1,⟨27,9,[[.str s.nm,I s.len,.sl (s.st.map eT),.str s.light.nm,I s.light.m,I s.light.x,I s.light.z,I s.light.f,.als 34 g 0 (s.it.map eLd).length]],2⟩),(34,g,⟨24,5,s.it.map eLd,1⟩)] ak ?_;generalize (s1.own 7).1+1=p7zz;intro s2;generalize s.it.map eLd=R at *
 refine H ?_;refine aC (b8 1 O O O O O O O O O O O ak O ?_);refine H ?_;refine aC (cQ 1 O O O O O O O O O O O ak jM O O aX aX ?_);refine dN 6 ?_;refine ax (Ghost.freezeD (k:=34) (k0:=7) (i:=0) (j:=8) O O O O O O O O) ?_;refine G c2 ?_;by_cases hE:E=0
 .subst hE;rw[if_pos O];exact cy
 .rw[if_neg hE];refine D ?_ ?_<;>intro h
  .clear h;exact cy
  .simp at h;exact absurd h hE
def aad (p:LR->Bool):List LR->Nat->Int
 |[],_ => -1
 |d::l,i=>if p d=true then(i:Int) else aad p l (i+1)
theorem ab7 (p:LR->Bool){l:List LR}{i:Nat}{x:LR}(h:l[i]?=some x):aad p (l.drop i) i=if p x=true then(i:Int) else aad p (l.drop (i+1)) (i+1):=by
 obtain⟨hl,rfl⟩:=bD h;rw[lR hl,aad]
theorem aax (p:LR->Bool){w:LR}(hw:p w=true):∀(l:List LR) (i:Nat),(∀v∈l,p v=false)->aad p (l++[w]) i=((i+l.length:Nat):Int)
 |[],i,_=>by rw[kE,aad,if_pos hw];rfl
 |v::l,i,h=>by
  rw[tG,aad,if_neg (by rw[h v aj];decide),aax p hw l (i+1) fun x hx=>h x (ir _ hx),eJ];omega
theorem ab9 {s:SHP}{w:LR}(h:iS (aae s w)=0):∀v∈s.it,v.nm≠w.nm:=by
 rw[iS]at h;split at h
 rotate_left
 .omega
 split at h
 rotate_left
 .omega
 split at h
 rotate_left
 .contradiction
 rw[nQ]at h;split at h
 rotate_left
 .contradiction
 split at h
 .omega
 have hi:(aae s w).it[s.it.length]?=some w:=by show(s.it++[w])[s.it.length]? = _;simp
 have h1:JC (aae s w).light (aae s w).it s.it.length w=0:=mC h hi;rw[JC,qs]at h1;split at h1
 .split at h1
  .contradiction
  .rename_i hn;intro v hv e;refine hn (bF.2 ⟨v,ir _ ?_,e⟩);show v∈(s.it++[w]).take s.it.length;rw[pj];exact hv
 .contradiction
theorem ab8 (y:LR)(nm:EW):bb 114 [.agg (eLd y),.dref [.str nm] 0] (.bool (decide (y.nm=nm))):=by
 refine ay Proofs.Tryz.func114 ?_;exact rq
theorem aaO (T:List LR)(hT:T.length<=1000)(nm:EW):bb 113 [.sl (T.map eLd),.clo 114 [.dref [.str nm] 0]] (I (aad (fun y=>decide (y.nm=nm)) T 0)):=by
 have hml:(T.map eLd).length=T.length:=aj;generalize hp:(fun y:LR=>decide (y.nm=nm))=p;have hg:∀d:LR,bb 114 [.agg (eLd d),.dref [.str nm] 0] (.bool (p d)):=fun d=>by rw[<-hp];exact ab8 d nm
 clear hp;generalize hF:aad p T 0=F;refine ay Proofs.Tryz.func113 ?_;refine H ?_;refine ao (fun i:Nat=>i<=T.length/\aad p (T.drop i) i=F) (fun i=>[(0,.sl (T.map eLd)),(1,.clo 114 [.dref [.str nm] 0]),(7,I T.length),(8,I (i:Nat))])
  (fun _=>[]) (fun i=>T.length-i) 0 ⟨aF _,by rw[fS];exact hF⟩ ⟨O,O,by rw[<-hml];rfl,O,bP⟩ ?_
 intro i s ⟨hi,hall⟩;refine D ?_ ?_<;>intro h
 .have hlt:i<T.length:=cP h;clear h;obtain⟨x,hx⟩:=aK hlt;have hgx:=hg x;have hw:=im i;rw[ab7 p hx]at hall;cases hp:p x with
  |true =>
   rw[hp]at hgx;rw[if_pos hp]at hall;refine aZ hx ?_;refine aB hgx ?_;refine H ?_;exact rR O O (by rw[<-hall])
  |false =>
   rw[hp]at hgx;rw[if_neg (by rw[hp];decide)]at hall;refine aZ hx ?_;refine aB hgx ?_;refine H ?_;exact⟨i+1,⟨J,hall⟩,J,O,O,O,congrArg I hw,bP⟩
 .have hie:i=T.length:=cG h;clear h;rw[hie,iw,aad]at hall;rw[<-hall];exact dL
theorem abd {K:St->Prop}{s':St}{t g3:Nat}{c3:Cont}{x y:Operand}{tys:Array TypeId}{ty:TypeId}{pos:String}{af:Array Edge}(s:SHP)(nm:EW)(i:Nat)(hl:s.Len)(he:iS s=0)(h1:s.st.length<=1000)(h2:s.it.length<=1000)(hL:∀t∈s.st,t.L.length<=1000/\t.H0.length<=1000)
  (hi:aad (fun y=>decide (y.nm=nm)) s.it 0=((i:Nat):Int))
  (hx:s'.ev x=.agg (jT s)) (hy:s'.ev y=.str nm) (ho:FitO s' [(1003,g3,c3)])
  (hK:∀(s1:St) (g:Nat),K (({ reg:=s'.reg,own:=(s1.over [] [(34,g,⟨24,5,s.it.map eLd,1⟩),(1003,g3,c3)]).own }:St).putR t (.tup [.agg [.str s.nm,I s.len,.sl (s.st.map eT),.str s.light.nm,I s.light.m,I s.light.x,I s.light.z,I s.light.f,.als 34 g 0 (s.it.map eLd).length],I (i:Nat),I 0]))) :
  Sm Tryz.prog lay.get s' ⟨some t,.call ⟨.value (.func 50),#[x,y],tys⟩,ty,pos,af,none⟩ K:=by
 have c1:=check2_ret s hl;rw[he]at c1;have q1:=aaO s.it h2 nm;rw[hi]at q1;refine cB dY O O Tryz.func50 O Y O O ?_;show PWP _ _ _ _ (bJ s' (([x,y]:List Operand).map s'.ev++[]));rw[show(([x,y]:List Operand).map s'.ev++([]:List PV))=[.agg (jT s),.str nm] by simp[hx,hy]];rw[show bJ s' [.agg (jT s),.str nm]=bJ (s'.over [] [(1003,g3,c3)]) [.agg (jT s),.str nm] by rw[Fit.over (l:=[]) ho]];refine G c1 ?_;refine dN 4 ?_;refine ax (Ghost.data (k:=3) (t:=3) (row:=[.str nm]) O O O O) ?_;refine G q1 ?_;refine dN 7 ?_;refine ax (Ghost.move (k:=4) (k':=1004) (t:=4) O O O O) ?_
 (refine dN 7 ?_;refine aD 1 ?_)
 refine g_ O ?_;refine bg ?_;refine aU O (aat s h1 h2 hL O ⟨O,O,bP⟩ fun s1 g=>?_);refine aE ?_;refine H ?_;exact aaG (K:=fun o r=>K (({ reg:=s'.reg,own:=o }:St).putR t r)) [(34,g,⟨24,5,s.it.map eLd,1⟩),(1003,g3,c3)] O ak O ⟨O,O,bP⟩ (fun s1=>hK s1 _)
theorem aaL (s:SHP)(w:LR)(hl2:(aae s w).Len)(he:iS (aae s w)=0)(h1:s.st.length<=900)(h2:s.it.length<=900)(hL:∀t∈s.st,t.L.length<=900/\t.H0.length<=900) :
  bb 13 [.agg (jT (aae s w)),.str w.nm] (.tup [.agg (jT s),I 0]):=by
 have hlen:(aae s w).it.length=s.it.length+1:=by show(s.it++[w]).length=_;simp
 have hn:=ab9 he;have hi:aad (fun y=>decide (y.nm=w.nm)) (aae s w).it 0=((s.it.length:Nat):Int):=by
  have:=aax (fun y=>decide (y.nm=w.nm)) (w:=w) (decide_eq_true O) s.it 0 fun v hv=>decide_eq_false (hn v hv);rw[aG]at this;exact this
 have hml:((aae s w).it.map eLd).length=s.it.length+1:=by rw[aM,hlen]
 have hw:IntKind.i64.wrap (((s.it.length:Nat):Int)+1)=((s.it.length+1:Nat):Int):=by rw[wrap_i64 J J];omega
 have her:((aae s w).it.map eLd).eraseIdx s.it.length=s.it.map eLd:=by
  show((s.it++[w]).map eLd).eraseIdx s.it.length=_;rw[bQ,List.eraseIdx_append_of_length_le aj];simp
 have hdl:((aae s w).it.map eLd).length-1=(s.it.map eLd).length:=by rw[hml,aM];rfl
 refine ay Proofs.Tryz.func13 ?_;refine dN 1 ?_;refine ax (Ghost.move (k:=4) (k':=1003) (t:=4) O O O O) ?_
 (refine dN 1 ?_;refine aD 2 ?_)
 iterate 2 refine g_ O ?_
 refine bg ?_;refine aU O (abd (aae s w) w.nm s.it.length hl2 he (by show s.st.length<=1000;omega) J (fun t ht=>by have:=hL t ht;omega) hi O O ⟨O,bP⟩ fun s1 g=>?_);refine aE ?_;refine dN 2 ?_;refine cA [(4,.ptr 1003 1 0 0),(6,.ptr 6 ((s1.own 6).1+1) 0 0),(7,I (s.it.length:Nat)),(8,I 0)] [(1003,1,⟨27,9,[aci],2⟩),(6,(s1.own 6).1+1,⟨27,9,[[.str s.nm,I s.len,.sl (s.st.map eT),.str s.light.nm,I s.light.m,I s.light.x,I s.light.z,I s.light.f,.als 34 g 0 ((aae s w).it.map eLd).length]],2⟩),(34,g,⟨24,5,(aae s w).it.map eLd,1⟩)] ak ?_;generalize (s1.own 6).1+1=p6zz;intro s2
 (refine dN 4 ?_;refine aD 5 ?_)
 iterate 5 refine g_ O ?_
 refine bg ?_;refine aU O (aaM (i:=s.it.length) O O O O (congrArg I hw) (by rw[hml];omega) ?_);refine aE ?_;rw[her,hdl];refine dN 5 ?_;refine ax (Ghost.freezeD (k:=34) (k0:=6) (i:=0) (j:=8) (row:=[.str s.nm,I s.len,.sl (s.st.map eT),.str s.light.nm,I s.light.m,I s.light.x,I s.light.z,I s.light.f,.als 34 (g+1) 0 (s.it.map eLd).length]) O O O O O O O O) ?_;exact cy
theorem abE {d:DKR}(hl:d.Len)(hS:ac2 d=true)(hE:Jx d=0){p:Rat}(hp:hq p 4):Slim d p:=by
 have sm:=ac9 hS;obtain⟨hk,-,-⟩:=IL (sm.ok hl) hE;simp only[ac2,acd,JI,I9,bj,i8,decide_eq_false_iff_not,bx]at hS;obtain⟨⟨⟨⟨⟨h1,h2⟩,-⟩,h3⟩,h4⟩,-⟩:=hS;have hn:=hk.n;have hm:=hk.m;refine⟨sm.ok hl,hE,J,J,fun t ht=>?_,sm.b,hp⟩;have:=h2 t ht;simp only[Ei,i8,decide_eq_false_iff_not]at this;have:=(hk.st t ht).n;omega
theorem abk {d:DKR}{p z t:Rat}(h:Slim d p)(h0:df (dB d p)=0)(hb:(bd (dB d p)).Bal z t)(hu:∀z' t',(bd (dB d p)).Bal z' t'->z'=z/\t'=t):Stood d p z t:=by
 obtain⟨ok,hs,-⟩:=(dB_good h).1.2 h0;have hn:oo (dB d p):=ab6 ok hb;obtain⟨-,hbal,-⟩:=p8 ok hs hn;have hl:qt (dB d p) (oH (dB d p)).1 (oH (dB d p)).2=false:=(aaR ok hbal).2 fun z' t' hb'=>by
  have e1:=hu _ _ hbal;have e2:=hu _ _ hb';exact⟨e2.1.trans e1.1.symm,e2.2.trans e1.2.symm⟩
 have hf:(ef (dB d p).l).find? (l8 (dB d p))=none:=List.find?_eq_none.2 fun r hr=>by rw[hn.2 r hr];decide
 have he:(n6 (dB d p)).e=0:=by
  rw[n6,if_pos h0,if_neg (by rw[hn.1];decide),hf];simp only;rw[if_neg (by rw[hl];decide)]
 obtain⟨z',t',h'⟩:=stood h he;obtain⟨rfl,rfl⟩:=hu _ _ h'.bal;exact h'
def acj (x:Int):BKR:=⟨x,0,300,1500,1000,ofQ ((1000:Int):Rat),1000000000,false⟩
def aaC:SHP:=⟨[84,119,105,110],20000,[abt 5000,abt 15000],aco,[]⟩
def ack:DKR:=⟨aaC,1000,[acj 5000,acj 15000],[],100,100000⟩
theorem abM:iS aaC=0:=by decide +kernel
theorem aaW:aaC.Len:=⟨Y,Y,fun t ht=>by
 simp only[aaC,cw,tP,or_false]at ht
 rcases ht with rfl|rfl<;>exact⟨Y,Y⟩⟩
theorem abx:jV ack.s ack.d=0:=by
 show jV aaC 1000=0;rw[jV,if_pos abM];decide
theorem acg:qX aaC=((10000:Int):Rat):=by decide +kernel
set_option maxHeartbeats 16000000 in
theorem abn:bb 9 [] (.agg (jT aaC)):=by
 have hT:∀i:Nat,i<2->(aaq.take (i+1)).map eT=(aaq.take i).map eT++[[I (if i=0 then 5000 else 15000),I 10000,.sl [[I 0],[I 3000]],.sl [[I 4000]]]]:=fun i hi=>by
  obtain rfl|rfl:i=0\/i=1:=J
  .rfl
  .rfl
 have hlT:∀i:Nat,((aaq.take i).map eT).length<=2:=fun i=>by rw[aM,bI];exact Nat.min_le_right _ _
 have hend:jT aaC=[.str [84,119,105,110],I 20000,.sl ((aaq.take 2).map eT),.str [76,105,103,104,116],I 320000,I 10000,I 2000,I 0,.sl []]:=O;rw[hend];clear hend
 suffices hz:bb 9 [] (.agg [.str [84,119,105,110],I 20000,.sl ((aaq.take 2).map eT),.str [76,105,103,104,116],I 320000,I 10000,I 2000,I 0,.nil]) from
  hz.weak .nil (WeakL.agg (.cons (.rfl _) (.cons (.rfl _) (.cons (.rfl _) (.cons (.rfl _) (.cons (.rfl _) (.cons (.rfl _) (.cons (.rfl _) (.cons (.rfl _) (.cons .nil .nil))))))))))
 refine ay Proofs.Tryz.func9 ?_;refine dN 2 ?_;refine ax (Ghost.nilcell (k:=400) (k0:=1) (i:=0) (j:=2) (row:=[.str [84,119,105,110],I 20000,.nil,.str [76,105,103,104,116],I 320000,I 10000,I 2000,I 0,.nil]) 115 4 1 O O O O O O O) ?_;refine H ?_;refine cA [(0,.ptr 0 1 0 0),(1,.ptr 1 1 0 0),(2,I ((0:Nat):Int))] [(0,1,⟨27,9,[[.str [],I 0,.nil,.str [],I 0,I 0,I 0,I 0,.nil]],2⟩),(1,1,⟨27,9,[[.str [84,119,105,110],I 20000,.als 400 1 0 0,.str [76,105,103,104,116],I 320000,I 10000,I 2000,I 0,.nil]],2⟩),(400,1,⟨115,4,[],1⟩)] ak ?_;intro s0;generalize ([84,119,105,110]:List UInt8)=S1;generalize ([76,105,103,104,116]:List UInt8)=S2;refine ao (fun i:Nat=>i<=2) (fun i=>[(0,.ptr 0 1 0 0),(1,.ptr 1 1 0 0),(2,I (i:Nat))])
  (fun i=>[(0,1,⟨27,9,[[.str [],I 0,.nil,.str [],I 0,I 0,I 0,I 0,.nil]],2⟩),(1,1,⟨27,9,[[.str S1,I 20000,.als 400 (1+i) 0 ((aaq.take i).map eT).length,.str S2,I 320000,I 10000,I 2000,I 0,.nil]],2⟩),(400,1+i,⟨115,4,(aaq.take i).map eT,1⟩)]) (fun i=>2-i) 0 (aF _)
  ak ?_
 intro i s hi;refine D ?_ ?_<;>intro h
 .have hlt:i<2:=cP h;clear h;have hTi:=hT i hlt;have hti:=hlT i;have hw:=im i;have hx:IntKind.i64.wrap (5000+IntKind.i64.wrap (10000*((i:Nat):Int)))=if i=0 then 5000 else 15000:=by
   obtain rfl|rfl:i=0\/i=1:=J
   .rfl
   .rfl
  have h1:1+(i+1)=1+i+1:=O;generalize (aaq.take i).map eT=T,(if i=0 then(5000:Int) else 15000)=X at *
  refine H ?_;rw[hx];refine H ?_;refine bX O O (gW O O O O O O O O O O ak O) ?_;refine H ?_;refine bX O O (gW O O O O O O O O O O ak O) ?_;refine H ?_;refine aC (b8 1 O O O O O O O O O O O ak O ?_);refine H ?_;refine aC (cQ 1 O O O O O O O O O O O ak jM O O aX aX ?_);refine H ?_;refine⟨i+1,hlt,J,O,O,congrArg I hw,O,?_,?_,bP⟩
  .rw[hTi];rfl
  .rw[hTi];rfl
 have hie:i=2:=cG h;clear h;subst hie;refine ax (Ghost.freezeD (k:=400) (k0:=1) (i:=0) (j:=2) (row:=[.str S1,I 20000,.als 400 (1+2) 0 ((aaq.take 2).map eT).length,.str S2,I 320000,I 10000,I 2000,I 0,.nil]) O O O O O O O O) ?_;generalize (aaq.take 2).map eT=T at *
 exact cy
end Go.Pv
