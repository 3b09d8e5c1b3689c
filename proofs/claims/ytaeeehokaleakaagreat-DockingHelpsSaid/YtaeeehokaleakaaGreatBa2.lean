/- Texts of one hand, gathered: PvW3, PvMa, PvMb, PvM, PvN, PvO, PvP, PvY, PvZ, PvEnd, PvTk, PvX, PvT, FbA, PvGq, FbB, FbC, PvEq, FbD, FbE, FbF, FbG, FaD, FbH, FbI. -/
import Derived.Test.YtaeeehokaleakaaGreatBa1
import Derived.OrdersIn
import Derived.TacticsIn
import Derived.RangeFuncIn
import Derived.RangeFuncRecord
import Derived.RangeFuncLeaves
import Derived.ProofKit
import Derived.OpenShut
import Derived.Carry
import Derived.Test.YtaeeehokaleakaaGreatProg
import Derived.KernelRfl
import Derived.Laws.BitsLemmas
import Derived.Lib.EndianBits
set_option maxRecDepth 20000
set_option linter.unusedSectionVars false
set_option linter.unusedSimpArgs false
set_option linter.unusedVariables false
set_option linter.unnecessarySimpa false
namespace Go.Pv
open Go.RowKit
variable [Globs]
def gJ:List Nat->Nat->Bool
 |[],_=>false
 |z::Z,k=>bif Nat.beq k z then true else gJ Z k
def St.erase (Z:List Nat)(s:St):St:={ s with own:=fun k=>bif gJ Z k then((s.own k).1,none) else s.own k }
section
variable {P:Program}{L:dj}{C:Ctx}{a:Act}{w w':World}{ops:Array Oper}
inductive Step3 (P:Program) (L:dj) (ops:Array Oper) (Z:List Nat):Bool->St->Oper->St->Prop
 |no {c:Bool} {s:St} {o:Oper} (h:Wants ops s o false):Step3 P L ops Z c s o (s.put o.dst (.raw undef))
 |free {s:St} {o:Oper} {v:PV} (h:Wants ops s o true) (hq:QOp P L (s.erase Z) o v):Step3 P L ops Z false s o (s.put o.dst v)
 |quiet {s:St} {o:Oper} {v:PV} (h:Wants ops s o true) (hq:QOp P L s o v):Step3 P L ops Z true s o (s.put o.dst v)
 |eff {s s':St} {o:Oper} (h:Wants ops s o true) (he:Eff P L s o s') (hz:∀k,gJ Z k=false->s'.own k=s.own k):Step3 P L ops Z true s o s'
def P3 (P:Program)(L:dj)(ops:Array Oper)(Z:Nat->List Nat)(cls:Nat->Bool)(K:St->Prop):Nat->List Oper->St->Prop
 |_,[],s=>K s
 |i,o::rest,s=>∃s',Step3 P L ops (Z i) (cls i) s o s'/\P3 P L ops Z cls K (i+1) rest s'
theorem P3.run {Z:Nat->List Nat}{cls:Nat->Bool}{K:St->Prop}:∀(l:List Oper) (i:Nat) (s:St),P3 P L ops Z cls K i l s->∃S:Nat->St,S 0=s/\(∀(j:Nat) (o:Oper),l[j]?=some o->Step3 P L ops (Z (i+j)) (cls (i+j)) (S j) o (S (j+1)))/\K (S l.length)
 |[],i,s,h=>⟨fun _=>s,rfl,fun j o hj=>by simp at hj,h⟩
 |o::l,i,s,⟨s',h1,h2⟩=>by
  obtain⟨S,g1,g2,g3⟩:=P3.run l (i+1) s' h2;refine⟨fun n=>match n with|0=>s|n+1=>S n,rfl,fun j o' hj=>?_,g3⟩;cases j with
  |zero=>simp at hj;subst hj;show Step3 _ _ _ _ _ s o (S 0);rw[g1];exact h1
  |succ j =>
   have:=g2 j o' (by simpa using hj);rw[show i+1+j=i+(j+1) by omega]at this;exact this
def Eb (acc:List Nat)(o:Oper):Nat:=o.after.toList.foldl (fun m e=>bif Region.binds .any e then m ||| 2^e.on ||| acc.getD e.on 0 else m) 0
def Am:List Oper->List Nat->List Nat
 |[],acc=>acc
 |o::l,acc=>Am l (acc++[Eb acc o])
def m_ (ops:Array Oper):List Nat:=Am ops.toList []
theorem ti {acc:List Nat}{j:Nat}:∀(l:List Edge) (m:Nat),(l.foldl (fun m e=>bif Region.binds .any e then m ||| 2^e.on ||| acc.getD e.on 0 else m) m).testBit j=true ->
  m.testBit j=true\/∃e∈l,Region.binds .any e=true/\(e.on=j\/(acc.getD e.on 0).testBit j=true)
 |[],m,h => .inl h
 |e::l,m,h=>by
  rw[fB]at h;rcases ti l _ h with h1|⟨e',he',h2⟩
  .cases hb:Region.binds .any e with
   |false=>rw[hb]at h1;exact .inl h1
   |true =>
    rw[hb,cond_true,Nat.testBit_or,Nat.testBit_or,Nat.testBit_two_pow]at h1;simp only[uj,decide_eq_true_eq]at h1;rcases h1 with(h1|h1)|h1
    .exact .inl h1
    .exact .inr ⟨e,ap,hb,.inl h1⟩
    .exact .inr ⟨e,ap,hb,.inr h1⟩
  .exact .inr ⟨e',by simp[he'],h2⟩
def Dz (all:List Oper)(acc:List Nat):Prop:=∀i j:Nat,(acc.getD i 0).testBit j=true->∃o,all[i]?=some o/\∃e∈o.after,Region.binds .any e=true/\(e.on=j\/(acc.getD e.on 0).testBit j=true)
theorem v8 (all:List Oper):∀(l:List Oper) (acc:List Nat),all=all.take acc.length++l->acc.length<=all.length->Dz all acc->Dz all (Am l acc)
 |[],_,_,_,h=>h
 |o::l,acc,ha,hle,h=>by
  have hlt:acc.length<all.length:=by
   have:=congrArg List.length ha;rw[bQ,bc,dl]at this;omega
  have ho:all[acc.length]?=some o:=by
   have:(all.take acc.length).length=acc.length:=by rw[bc];omega
   rw[ha,fc J,this];simp
  refine v8 all l _ ?_ aS fun i j hij=>?_
  .rw[bQ,zP,take_snoc' ho,bg];exact ha
  .have low:∀q,(acc.getD q 0).testBit j=true->((acc++[Eb acc o]).getD q 0).testBit j=true:=by
    intro q hq;rcases bG q acc.length with h1|h1
    .rw[cN,fN h1,<-cN];exact hq
    .rw[cN,fe h1]at hq;simp at hq
   rcases mg i acc.length with h1|h1|h1
   .rw[cN,fN h1,<-cN]at hij;obtain⟨o',e1,e,e2,e3,e4⟩:=h i j hij;exact⟨o',e1,e,e2,e3,e4.imp _root_.id (low _)⟩
   .subst h1;rw[cN,fc (aY),iD]at hij;rcases ti _ 0 (show(Eb acc o).testBit j=true from hij) with h2|⟨e,e2,e3,e4⟩
    .simp at h2
    .exact⟨o,ho,e,by simpa using e2,e3,e4.imp _root_.id (low _)⟩
   .rw[cN,fe aS]at hij;simp at hij
where
 take_snoc' {α:Type} {l:List α} {k:Nat} {x:α} (hx:l[k]?=some x):l.take (k+1)=l.take k++[x]:=by
  rw[q_,hx];rfl
theorem B7 (ops:Array Oper):Dz ops.toList (m_ ops) :=
 v8 ops.toList ops.toList [] ap ap fun i j h=>by simp at h
def j3 (ops:Array Oper)(ch:List Nat):Bool :=
 decide (ops.toList.filterMap (·.dst)).Nodup&&(List.range ops.size).all fun i=>match ops[i]? with
  |some o=>o.after.all (fun e=>!Region.binds .any e||decide (e.on<i)) &&
   ((o.looksAt ops).all fun t=>(List.range ops.size).all fun j=>decide (j=i)||!((ops[j]?).bind (·.dst)==some t)||(bif decide (j<i) then((m_ ops).getD i 0).testBit j else((m_ ops).getD j 0).testBit i)) &&
   (!gJ ch i||(List.range i).all fun j=>!gJ ch j||((m_ ops).getD i 0).testBit j)
  |none=>false
structure Draw3Ok (ops:Array Oper) (ch:List Nat):Prop where
 nodup:∀(i j:Nat) (o o':Oper) (t:Nat),ops[i]?=some o->ops[j]?=some o'->o.dst=some t->o'.dst=some t->i=j
 lex:∀i o,ops[i]?=some o->∀e∈o.after,Region.binds .any e=true->e.on<i
 reads:∀i o,ops[i]?=some o->∀t∈o.looksAt ops,∀j o',ops[j]?=some o'->o'.dst=some t->j≠i->(j<i->((m_ ops).getD i 0).testBit j=true)/\(i<j->((m_ ops).getD j 0).testBit i=true)
 chain:∀i j,i<ops.size->gJ ch i=true->gJ ch j=true->j<i->((m_ ops).getD i 0).testBit j=true
theorem mY {α:Type}{f:α->Option Nat}:∀ {l:List α},(l.filterMap f).Nodup->∀(i j:Nat) (x y:α) (t:Nat),l[i]?=some x->l[j]?=some y->f x=some t->f y=some t->i=j
 |[],_,i,j,x,y,t,h1,_,_,_=>by simp at h1
 |b::l,hn,i,j,x,y,t,h1,h2,h3,h4=>by
  have hl:(l.filterMap f).Nodup:=by
   rw[List.filterMap_cons]at hn;split at hn
   .exact hn
   .exact(rb.1 hn).2
  have one:∀(k:Nat) z,f b=some t->l[k]?=some z->f z=some t->False:=by
   intro k z g1 g2 g3;rw[List.filterMap_cons,g1]at hn;exact(rb.1 hn).1 (zY.2 ⟨z,bC g2,g3⟩)
  cases i with
  |zero =>
   cases j with
   |zero=>rfl
   |succ j=>simp at h1 h2;subst h1;exact(one j y h3 h2 h4).elim
  |succ i =>
   cases j with
   |zero=>simp at h1 h2;subst h2;exact(one i x h4 h1 h3).elim
   |succ j=>rw[mY hl i j x y t (by simpa using h1) (by simpa using h2) h3 h4]
theorem qD {ch:List Nat}(h:j3 ops ch=true):Draw3Ok ops ch:=by
 simp only[j3,cm,decide_eq_true_eq]at h;obtain⟨h0,h⟩:=h;have hget:∀ {i:Nat} {o:Oper},ops[i]?=some o->ops.toList[i]?=some o:=fun {i} {o} h=>by rw[gT];exact h
 refine⟨fun i j o o' t h1 h2 h3 h4=>mY h0 i j o o' t (hget h1) (hget h2) h3 h4,fun i o ho e he hb=>?_,fun i o ho t ht j o' ho' hd hne=>?_,fun i j hi hzi hzj hlt=>?_⟩
 .have hi:=(iy ho).1;have e1:=ct.1 h i (fP.2 hi);rw[ho]at e1;simp only[cm]at e1;have e2:=FN.1 e1.1.1 e he;simpa [hb] using e2
 .have hi:=(iy ho).1;have hj:=(iy ho').1;have e1:=ct.1 h i (fP.2 hi);rw[ho]at e1;simp only[cm]at e1;have e2:=ct.1 (ct.1 e1.1.2 t ht) j (fP.2 hj);rw[ho']at e2;simp only[Ac,hd,beq_self_eq_true,ur,Bool.or_false,uj,decide_eq_true_eq]at e2;rcases e2 with e2|e2
  .exact absurd e2 hne
  .refine⟨fun hlt=>?_,fun hlt=>?_⟩
   .rw[decide_eq_true hlt]at e2;exact e2
   .rw[decide_eq_false J]at e2;exact e2
 .have e1:=ct.1 h i (fP.2 hi);rw[ee hi]at e1;simp only[cm,hzi,ur,k_]at e1;have e2:=ct.1 e1.2 j (fP.2 hlt);simpa [hzj] using e2
def Ps (ops:Array Oper)(listed:Array Bool):Prop:=∀i o,ops[i]?=some o->listed.getD i true=true->∀e∈o.after,Region.binds .any e=true->listed.getD e.on true=true
theorem fT {ch:List Nat}(hd:Draw3Ok ops ch){listed:Array Bool}(hc:Ps ops listed):∀(f i:Nat) (o:Oper),i<=f->ops[i]?=some o->(∀e∈o.after,Region.binds .any e=true->listed.getD e.on true=true)->∀j,((m_ ops).getD i 0).testBit j=true->listed.getD j true=true:=by
 intro f
 induction f with
 |zero =>
  intro i o hi ho hall j hj;obtain⟨o',e1,e,e2,e3,e4⟩:=B7 ops i j hj;have e1:ops[i]?=some o':=by simpa using e1
  rw[ho]at e1;cases e1;have:=hd.lex i o ho e e2 e3;omega
 |succ f ih =>
  intro i o hi ho hall j hj;obtain⟨o',e1,e,e2,e3,e4⟩:=B7 ops i j hj;have e1:ops[i]?=some o':=by simpa using e1
  rw[ho]at e1;cases e1;have hlt:=hd.lex i o ho e e2 e3;have hl:=hall e e2 e3;rcases e4 with e4|e4
  .rw[<-e4];exact hl
  .have hsz:e.on<ops.size:=by have:=(iy ho).1;omega
   exact ih e.on ops[e.on] J (ee hsz) (fun e' he' hb=>hc e.on _ (ee hsz) hl e' he' hb) j e4
theorem il {o:Oper}{s:St}{v:PV}{t:Nat}(h:o.dst≠some t):(s.put o.dst v).reg t=s.reg t:=by
 cases hd:o.dst with
 |none=>rfl
 |some d =>
  show(bif Nat.beq t d then v else s.reg t)=_;have:t≠d:=fun e=>h (by rw[hd,e]);rw[cS this];rfl
theorem jJ {o:Oper}{s:St}{v:PV}{t:Nat}(h:o.dst=some t):(s.put o.dst v).reg t=v:=by
 rw[h];show(bif Nat.beq t t then v else s.reg t)=_;simp
variable {ch:List Nat}{S:Nat->St}
section
variable {Z:List Nat}
theorem Step3.reg {c:Bool}{s s':St}{o:Oper}(h:Step3 P L ops Z c s o s'){t:Nat}(ht:o.dst≠some t):s'.reg t=s.reg t:=by
 cases h with
 |no h=>exact il ht
 |free h hq=>exact il ht
 |quiet h hq=>exact il ht
 |eff h he hz =>
  obtain⟨_,_,_,_,h4⟩:=he.congr O fun _ _=>rfl;exact(h4 t ht).2
theorem Step3.off {c:Bool}{s s':St}{o:Oper}(h:Step3 P L ops Z c s o s'){k:Nat}(hk:gJ Z k=false):s'.own k=s.own k:=by
 cases h with
 |no h=>rw[dr]
 |free h hq=>rw[dr]
 |quiet h hq=>rw[dr]
 |eff h he hz=>exact hz k hk
theorem Step3.same {s s':St}{o:Oper}(h:Step3 P L ops Z false s o s'):s'.own=s.own:=by
 cases h with
 |no h=>rw[dr]
 |free h hq=>rw[dr]
end
variable {Z:Nat->List Nat}{A:List Nat}
abbrev Bc (P:Program)(L:dj)(ops:Array Oper)(Z:Nat->List Nat)(ch:List Nat)(S:Nat->St):Prop:=∀(i:Nat) (o:Oper),ops[i]?=some o->Step3 P L ops (Z i) (gJ ch i) (S i) o (S (i+1))
structure Late (ops:Array Oper) (Z:Nat->List Nat) (A ch:List Nat):Prop where
 sub:∀i k,gJ A k=false->gJ (Z i) k=false
 late:∀i j k,i<ops.size->j<ops.size->gJ ch i=true->gJ (Z i) k=true->gJ (Z j) k=false->((m_ ops).getD i 0).testBit j=true/\j<i
theorem rC (hr:Bc P L ops Z ch S){k:Nat}:∀i,i<=ops.size->(∀q,q<i->gJ ch q=true->gJ (Z q) k=false)->(S i).own k=(S 0).own k
 |0,_,_=>rfl
 |i+1,hi,h=>by
  have h1:=hr i _ (ee J);rw[<-rC hr i J fun q hq=>h q J];cases hc:gJ ch i with
  |true=>exact h1.off (h i J hc)
  |false=>rw[hc]at h1;rw[h1.same]
theorem AP (hr:Bc P L ops Z ch S)(hA:Late ops Z A ch){k:Nat}(hk:gJ A k=false)(i:Nat)(hi:i<=ops.size):(S i).own k=(S 0).own k:=rC hr i hi fun q _ _=>hA.sub q k hk
theorem AS (hr:Bc P L ops Z ch S){i:Nat}:∀d,i+d<=ops.size->(∀q,i<=q->q<i+d->gJ ch q=false)->(S (i+d)).own=(S i).own
 |0,_,_=>rfl
 |d+1,hd,h=>by
  have h1:=hr (i+d) _ (ee J);rw[h (i+d) J J]at h1;rw[<-iW,h1.same,AS hr d J fun q h1 h2=>h q h1 J]
theorem mP (hr:Bc P L ops Z ch S){t i:Nat}:∀d,i+d<=ops.size->(∀q o,i<=q->q<i+d->ops[q]?=some o->o.dst≠some t)->(S (i+d)).reg t=(S i).reg t
 |0,_,_=>rfl
 |d+1,hd,h=>by
  rw[<-iW,(hr (i+d) _ (ee J)).reg (h (i+d) _ J J (ee J)),mP hr d J fun q o h1 h2=>h q o h1 J]
structure Agr3 (ops:Array Oper) (A ch:List Nat) (S:Nat->St) (listed:Array Bool) (s:St):Prop where
 hit:∀i o t,ops[i]?=some o->listed.getD i true=true->o.dst=some t->s.reg t=(S (i+1)).reg t
 miss:∀t,(∀i o,ops[i]?=some o->listed.getD i true=true->o.dst≠some t)->s.reg t=(S 0).reg t
 off:∀k,gJ A k=false->s.own k=(S 0).own k
 on:∃q,q<=ops.size/\(∀i,i<ops.size->gJ ch i=true->(listed.getD i true=true↔i<q))/\∀k,gJ A k=true->s.own k=(S q).own k
theorem Ha (hd:Draw3Ok ops ch)(hr:Bc P L ops Z ch S){listed:Array Bool}{s:St}(hag:Agr3 ops A ch S listed s)(hc:Ps ops listed){j:Nat}{o:Oper}(ho:ops[j]?=some o)(hun:listed.getD j true=false)
  (hall:∀e∈o.after,Region.binds .any e=true->listed.getD e.on true=true) {t:Nat} (ht:t∈o.looksAt ops):(S j).reg t=s.reg t:=by
 have hjl:=(iy ho).1;by_cases hx:∃(i:Nat) (o':Oper),ops[i]?=some o'/\o'.dst=some t
 .obtain⟨i,o',hi,hdi⟩:=hx;have hil:=(iy hi).1;have hone:∀(q:Nat) (o:Oper),ops[q]?=some o->o.dst=some t->q=i:=fun q o h1 h2=>hd.nodup q i o o' t h1 hi h2 hdi;have hno:listed.getD i true=false->s.reg t=(S 0).reg t:=fun hl=>hag.miss t fun q oq h1 h2 h3=>by
   rw[hone q oq h1 h3,hl]at h2;cases h2
  rcases mg i j with hlt|he|hlt
  .have hm:=(hd.reads j o ho t ht i o' hi hdi J).1 hlt;have hl:=fT hd hc j j o (aY) ho hall i hm;rw[hag.hit i o' t hi hl hdi];have:=mP hr (t:=t) (i:=i+1) (j-(i+1)) J fun q oq h1 h2 h3 h4=>by have:=hone q oq h3 h4;omega
   rwa [show i+1+(j-(i+1))=j by omega]at this
  .subst he;rw[hno hun];have:=mP hr (t:=t) (i:=0) i J fun q oq h1 h2 h3 h4=>by have:=hone q oq h3 h4;omega
   rwa [aM]at this
  .have hm:=(hd.reads j o ho t ht i o' hi hdi J).2 hlt;have hl:listed.getD i true=false:=by
    cases hb:listed.getD i true with
    |false=>rfl
    |true =>
     have:=fT hd hc i i o' (aY) hi (fun e he hbd=>hc i o' hi hb e he hbd) j hm;rw[hun]at this;cases this
   rw[hno hl];have:=mP hr (t:=t) (i:=0) j J fun q oq h1 h2 h3 h4=>by have:=hone q oq h3 h4;omega
   rwa [aM]at this
 .rw[hag.miss t fun q oq h1 _ h3=>hx ⟨q,oq,h1,h3⟩];have:=mP hr (t:=t) (i:=0) j J fun q oq h1 h2 h3 h4=>hx ⟨q,oq,h3,h4⟩;rwa [aM]at this
theorem tM (hA:Late ops Z A ch)(hd:Draw3Ok ops ch)(hr:Bc P L ops Z ch S){listed:Array Bool}{s:St}(hag:Agr3 ops A ch S listed s)(hc:Ps ops listed){j:Nat}{o:Oper}(ho:ops[j]?=some o)(hun:listed.getD j true=false)
  (hall:∀e∈o.after,Region.binds .any e=true->listed.getD e.on true=true) (hz:gJ ch j=true):(S j).own=s.own/\∀i,i<ops.size->gJ ch i=true->i≠j->(listed.getD i true=true↔i<j):=by
 have hjl:=(iy ho).1;have hord:∀i,i<ops.size->gJ ch i=true->i≠j->(listed.getD i true=true↔i<j):=by
  intro i hi hzi hne;constructor
  .intro hl;rcases bG i j with h|h
   .exact h
   .have hm:=hd.chain i j hi hzi hz J;have:=fT hd hc i i _ (aY) (ee hi) (fun e he hb=>hc i _ (ee hi) hl e he hb) j hm;rw[hun]at this;cases this
  .intro hlt;exact fT hd hc j j o (aY) ho hall i (hd.chain j i hjl hz hzi hlt)
 refine⟨?_,hord⟩;funext k;cases hk:gJ A k with
 |false=>rw[AP hr hA hk j J,hag.off k hk]
 |true =>
  obtain⟨q,hq,h1,h2⟩:=hag.on;rw[h2 k hk];have hjq:¬j<q:=fun h=>by
   have:=(h1 j hjl hz).2 h;rw[hun]at this;cases this
  have:=AS hr (i:=q) (j-q) J fun i g1 g2=>by
   cases hzi:gJ ch i with
   |false=>rfl
   |true =>
    have hlt:i<j:=J;have:=(h1 i J hzi).1 ((hord i J hzi J).2 hlt);omega
  rw[show q+(j-q)=j by omega]at this;rw[this]
theorem DS (hG:Good P L C)(hA:Late ops Z A ch)(hd:Draw3Ok ops ch){K':St->Prop}{Q:Exit->Act->World->Prop}(hK:∀s' a' w',SimE C s' a' w'->K' s'->Q .normal a' w')
  (hN:∀o∈ops.toList,eL C.N o.dst=true) (hr:Bc P L ops Z ch S) (hend:K' (S ops.size)) :
  ∀(f:Nat) (U:List Nat) (listed:Array Bool) (s:St) (a:Act) (w:World),U.length=f->U.Nodup->(∀i,i∈U↔i<ops.size/\listed.getD i true=false)->listed.size=ops.size->Ps ops listed->Agr3 ops A ch S listed s->SimE C s a w ->
   wpAny P .any ops Q f listed a w:=by
 intro f
 induction f with
 |zero =>
  intro U listed s a w hU _ hmem hsz hc hag h;have hU0:U=[]:=iB hU;subst hU0;have hall:∀i,i<ops.size->listed.getD i true=true:=fun i hi=>by
   cases hb:listed.getD i true with
   |true=>rfl
   |false=>have:=(hmem i).2 ⟨hi,hb⟩;cases this
  refine⟨uV hmem,hK _ _ _ h ?_⟩;have:s=S ops.size:=by
   refine St.ext' (funext fun t=>?_) (funext fun k=>?_)
   .by_cases hx:∃(i:Nat) (o':Oper),ops[i]?=some o'/\o'.dst=some t
    .obtain⟨i,o',hi,hdi⟩:=hx;have hil:=(iy hi).1;rw[hag.hit i o' t hi (hall i hil) hdi];have:=mP hr (t:=t) (i:=i+1) (ops.size-(i+1)) J fun q oq h1 h2 h3 h4=>by have:=hd.nodup q i oq o' t h3 hi h4 hdi;omega
     rw[show i+1+(ops.size-(i+1))=ops.size by omega]at this;exact this.symm
    .rw[hag.miss t fun q oq h1 _ h3=>hx ⟨q,oq,h1,h3⟩];have:=mP hr (t:=t) (i:=0) ops.size J fun q oq h1 h2 h3 h4=>hx ⟨q,oq,h3,h4⟩;rw[aM]at this;exact this.symm
   .cases hk:gJ A k with
    |false=>rw[AP hr hA hk _ (aY),hag.off k hk]
    |true =>
     obtain⟨q,hq,h1,h2⟩:=hag.on;rw[h2 k hk];have:=AS hr (i:=q) (ops.size-q) J fun i g1 g2=>by
      cases hzi:gJ ch i with
      |false=>rfl
      |true =>
       have:=(h1 i J hzi).1 (hall i J);omega
     rw[show q+(ops.size-q)=ops.size by omega]at this;rw[this]
  rw[this];exact hend
 |succ f ih =>
  intro U listed s a w hU hnd hmem hsz hc hag h;refine⟨fun hnil=>absurd hnil (tg hsz hd.lex hmem (fun he=>by rw[he]at hU;simp at hU)),fun j hj=>?_⟩;obtain⟨hun,o,ho,hall0⟩:=mem_ready.1 hj;have hjl:=(iy ho).1;have hlex:=hd.lex j o ho;have hall:∀e∈o.after,Region.binds .any e=true->listed.getD e.on true=true:=fun e he hb=>by
   have h1:=hall0 e he hb;rw[FF (by rw[hsz];have:=hlex e he hb;omega)];exact h1
  have hjs:j<listed.size:=by rw[hsz];exact hjl
  have hNo:eL C.N o.dst=true:=hN o (by have:=t_ ho;simpa using this);have hreads:∀t∈o.looksAt ops,(S j).reg t=s.reg t:=fun t ht=>Ha hd hr hag hc ho hun hall ht;have hnew:∀q,(listed.setIfInBounds j true).getD q true=true↔q=j\/listed.getD q true=true:=fun q=>by
   by_cases hq:q=j
   .subst hq;simp[hjs]
   .rw[getD_set_ne true (Ne.symm hq)];simp[hq]
  have hnext:∀s' a' w',(∀t,o.dst=some t->s'.reg t=(S (j+1)).reg t)->(∀t,o.dst≠some t->s'.reg t=s.reg t)->(∀k,gJ A k=false->s'.own k=s.own k) ->
    (gJ ch j=false->s'.own=s.own)->(gJ ch j=true->∀k,gJ A k=true->s'.own k=(S (j+1)).own k)->SimE C s' a' w'->wpAny P .any ops Q f (listed.setIfInBounds j true) a' w':=by
   intro s' a' w' g1 g2 g3 g4 g5 h';have hUj:j∈U:=(hmem j).2 ⟨hjl,hun⟩;refine ih (U.erase j) _ s' a' w' (by rw[zH hUj];omega) (hnd.erase j) (fun k=>?_) (by simpa using hsz) ?_ ?_ h'
   .rw[hnd.mem_erase_iff,hmem k];by_cases hki:k=j
    .subst hki;simp[hjs]
    .rw[getD_set_ne true (Ne.symm hki)];exact⟨fun x=>x.2,fun x=>⟨hki,x⟩⟩
   .intro i oi hi hl e he hb;rw[hnew];rcases(hnew i).1 hl with rfl|hl'
    .rw[ho]at hi;cases hi;exact .inr (hall e he hb)
    .exact .inr (hc i oi hi hl' e he hb)
   .refine⟨fun i oi t hi hl hdi=>?_,fun t hm=>?_,fun k hk=>by rw[g3 k hk,hag.off k hk],?_⟩
    .rcases(hnew i).1 hl with rfl|hl'
     .rw[ho]at hi;cases hi;exact g1 t hdi
     .have hij:i≠j:=fun e=>by rw[e,hun]at hl';cases hl'
      rw[g2 t (fun hdj=>hij (hd.nodup i j oi o t hi ho hdi hdj)),hag.hit i oi t hi hl' hdi]
    .rw[g2 t (hm j o ho ((hnew j).2 (.inl O)))];exact hag.miss t fun i oi hi hl=>hm i oi hi ((hnew i).2 (.inr hl))
    .obtain⟨q,hq,h1,h2⟩:=hag.on;cases hz:gJ ch j with
     |false =>
      refine⟨q,hq,fun i hi hzi=>?_,fun k hk=>by rw[g4 hz,h2 k hk]⟩;rw[hnew,<-h1 i hi hzi];constructor
      .rintro(rfl|hl)
       .rw[hz]at hzi;cases hzi
       .exact hl
      .exact .inr
     |true =>
      have hord:=(tM hA hd hr hag hc ho hun hall hz).2;refine⟨j+1,J,fun i hi hzi=>?_,fun k hk=>g5 hz k hk⟩;rw[hnew];by_cases hij:i=j
      .subst hij;simp
      .rw[hord i hi hzi hij];omega
  have hev:∀x∈o.op.operands,(S j).ev x=s.ev x:=KC (ops:=ops) hreads;have hstep:=hr j o ho;have hoff:=fun k (hk:gJ A k=false)=>hstep.off (k:=k) (hA.sub j k hk);unfold wpOp;rw[ho];simp only;generalize hzj:gJ ch j=cj at hstep;generalize hSj:S (j+1)=s1 at hstep hnext hoff;cases hstep with
  |no hw =>
   have hw':Wants ops s o false:=hw.congr hreads;rw[if_neg (by rw[hw'.spec h];simp)];refine hnext (s.put o.dst (.raw undef)) _ _ (fun t ht=>by rw[jJ ht,jJ ht]) (fun t ht=>il ht) (fun k _=>by rw[dr]) (fun _=>by rw[dr]) (fun hz k hk=>?_) (h.put hNo undef);rw[dr,dr,(tM hA hd hr hag hc ho hun hall hz).1]
  |free hw hq =>
   have hw':Wants ops s o true:=hw.congr hreads;rw[if_pos (hw'.spec h)];have hle:OwnLe ((S j).erase (Z j)) ⟨(S j).reg,s.own⟩:=fun k=>by
    cases hk:gJ (Z j) k with
    |true=>exact .inr (by simp[St.erase,hk])
    |false =>
     refine .inl ?_;show s.own k=(bif gJ (Z j) k then _ else(S j).own k);rw[hk];show s.own k=(S j).own k;cases hkA:gJ A k with
     |false=>rw[AP hr hA hkA j J,hag.off k hkA]
     |true =>
      obtain⟨q,hq,h1,h2⟩:=hag.on;have k1:=rC hr (k:=k) j J fun i hi hzi=>by
       cases hzk:gJ (Z i) k with
       |false=>rfl
       |true=>have:=(hA.late i j k J hjl hzi hzk hk).2;omega
      have k2:=rC hr (k:=k) q hq fun i hi hzi=>by
       cases hzk:gJ (Z i) k with
       |false=>rfl
       |true =>
        have hli:=(h1 i J hzi).2 hi;have hm:=(hA.late i j k J hjl hzi hzk hk).1;have:=fT hd hc i i _ (aY) (ee J) (fun e he hb=>hc i _ (ee J) hli e he hb) j hm;rw[hun]at this;cases this
      rw[h2 k hkA,k1,k2]
   have hq2:=hq.le hle O;have hq3:QOp P L s o _:=QOp.congr (s:=⟨(S j).reg,s.own⟩) (s':=s) O hev hq2;refine .inl (hq3.wp hG h hNo fun a' w' h'=>hnext _ a' w' (fun t ht=>by rw[jJ ht,jJ ht]) (fun t ht=>il ht) (fun k _=>by rw[dr]) (fun _=>by rw[dr]) (fun hz=>by rw[hzj]at hz;cases hz) h')
  |quiet hw hq =>
   have hw':Wants ops s o true:=hw.congr hreads;rw[if_pos (hw'.spec h)];have hown:=(tM hA hd hr hag hc ho hun hall hzj).1;have hq3:QOp P L s o _:=QOp.congr (s:=S j) hown hev hq;refine .inl (hq3.wp hG h hNo fun a' w' h'=>hnext _ a' w' (fun t ht=>by rw[jJ ht,jJ ht]) (fun t ht=>il ht) (fun k _=>by rw[dr]) (fun hz=>by rw[dr]) (fun _ k _=>by rw[dr,dr,hown]) h')
  |eff hw he hz =>
   have hw':Wants ops s o true:=hw.congr hreads;rw[if_pos (hw'.spec h)];have hown:=(tM hA hd hr hag hc ho hun hall hzj).1;obtain⟨s',e1,e2,e3,e4⟩:=he.congr hown hev;refine .inl (e1.sound hG.lay hG.x hG.glob h hNo fun a' w' h'=>hnext s' a' w' (fun t ht=>e3 t ht) (fun t ht=>(e4 t ht).1) (fun k hk=>by rw[e2,hoff k hk,hown]) (fun hz=>by rw[hzj]at hz;cases hz) (fun _ k _=>by rw[e2]) h')
def Pp (Z Y0:List Nat)(f:Nat)(F:List Nat)(i:Nat):List Nat:=bif Nat.blt i f&&!gJ F i then Z else Z++Y0
theorem uS {k:Nat}:∀(Z Y0:List Nat),gJ (Z++Y0) k=(gJ Z k||gJ Y0 k)
 |[],Y0=>by simp[gJ]
 |z::Z,Y0=>by
  show(bif Nat.beq k z then true else gJ (Z++Y0) k)=((bif Nat.beq k z then true else gJ Z k)||gJ Y0 k);rw[uS Z Y0];cases Nat.beq k z<;>rfl
def sa (ops:Array Oper)(ch:List Nat)(f:Nat)(F:List Nat):Bool:=(List.range ops.size).all fun i=>!gJ ch i||(Nat.blt i f&&!gJ F i)||(Nat.ble f i&&(List.range f).all fun j=>gJ F j||((m_ ops).getD i 0).testBit j)
theorem M_ {Z Y0 F:List Nat}{f:Nat}(h:sa ops ch f F=true):Late ops (Pp Z Y0 f F) (Z++Y0) ch:=by
 refine⟨fun i k hk=>?_,fun i j k hi hj hc h1 h2=>?_⟩
 .rw[uS,Bool.or_eq_false_iff]at hk;rw[Pp];cases Nat.blt i f&&!gJ F i
  .rw[cond_false,uS,hk.1,hk.2];rfl
  .exact hk.1
 .rw[Pp]at h1 h2;cases hb:Nat.blt i f&&!gJ F i with
  |true =>
   rw[hb,cond_true]at h1;cases hb2:Nat.blt j f&&!gJ F j with
   |true=>rw[hb2,cond_true,h1]at h2;cases h2
   |false=>rw[hb2,cond_false,uS,h1]at h2;cases h2
  |false =>
   rw[hb,cond_false]at h1;cases hb2:Nat.blt j f&&!gJ F j with
   |false=>rw[hb2,cond_false,h1]at h2;cases h2
   |true =>
    have e:=ct.1 h i (fP.2 hi);rw[hc,hb,ur,k_,k_,cm]at e;rw[cm,kz]at hb2;have hjf:j<f:=by simpa using hb2.1
    have hif:f<=i:=by simpa using e.1
    have e2:=ct.1 e.2 j (fP.2 hjf);rw[hb2.2,k_]at e2;exact⟨e2,J⟩
def PDrawZ (P:Program)(L:dj)(ops:Array Oper)(K:St->Prop)(s:St):Prop:=∃Z Y0 f F ch,j3 ops ch=true/\sa ops ch f F=true/\P3 P L ops (Pp Z Y0 f F) (gJ ch) K 0 ops.toList s
theorem PDrawZ.sound (hG:Good P L C){K':St->Prop}{Q:Exit->Act->World->Prop}(hK:∀s' a' w',SimE C s' a' w'->K' s'->Q .normal a' w')(hN:∀o∈ops.toList,eL C.N o.dst=true){s:St}
  (h:SimE C s a w) (hq:PDrawZ P L ops K' s):wpAny P .any ops Q ops.size (Array.replicate ops.size false) a { w with drawn:=w.drawn+1 }:=by
 obtain⟨Z,Y0,f,F,ch,hok,hlt,hq⟩:=hq;obtain⟨S,h0,h1,h2⟩:=P3.run _ _ _ hq;have hd:=qD hok;have hA:=M_ (Z:=Z) (Y0:=Y0) hlt;have hr:Bc P L ops (Pp Z Y0 f F) ch S:=fun i o ho=>by
  have:=h1 i o (by simpa using ho);rwa [aM]at this
 have hend:K' (S ops.size):=by simpa using h2
 have hrep:∀i,i<ops.size->(Array.replicate ops.size false).getD i true=false:=fun i hi=>by simp[hi]
 refine DS hG hA hd hK hN hr hend ops.size (List.range ops.size) (Array.replicate ops.size false) s a _ ap Ad (fun i=>?_) ap ?_ ?_ (let ⟨γ,h⟩:=h;⟨γ,wP h⟩)
 .rw[fP];exact⟨fun hi=>⟨hi,hrep i hi⟩,fun x=>x.1⟩
 .intro i o ho hl;rw[hrep i (iy ho).1]at hl;cases hl
 .refine⟨fun i o t ho hl=>?_,fun t _=>by rw[h0],fun k _=>by rw[h0],0,J,fun i hi _=>?_,fun k _=>by rw[h0]⟩
  .rw[hrep i (iy ho).1]at hl;cases hl
  .rw[hrep i hi];exact⟨fun h=>(by cases h),fun h=>J⟩
def GX (P:Program)(L:dj)(s:St)(o:Oper)(t:Nat)(s':St):Prop :=
 (∀k,k≠t->s'.own k=s.own k)/\(∀r,o.dst≠some r->s'.reg r=s.reg r) /\
  ∀(C:Ctx) (a:Act) (w:World) (K:Act->World->Prop) (Q:Exit->Act->World->Prop),Good P L C->SimE C s a w->eL C.N o.dst=true->(∀a' w',SimE C s' a' w'->K a' w')->o.wp P a w K Q
inductive Loc (P:Program) (L:dj) (s:St) (o:Oper):Nat->St->Prop
 |any {t:Nat} {s':St} (h:GX P L s o t s') (hc:∀u:St,u.own t=s.own t->(∀x∈o.op.operands,u.ev x=s.ev x)->∃u',GX P L u o t u'/\u'.own t=s'.own t/\∀r,o.dst=some r->u'.reg r=s'.reg r):Loc P L s o t s'
 |alloc {T:TypeId} {r:LRow} {z:List PV} {d:Nat} (ho:o.op=.alloc T) (hd:o.dst=some d) (hr:L T=some r) (hz:r.zero=some z) (h0:0<z.length) :
   Loc P L s o d ((s.fin d ⟨T,z.length,[z],2⟩).putR d (.ptr d ((s.own d).1+1) 0 0))
 |store {T:TypeId} {r:LRow} {x y:Operand} {k g i j:Nat} {c:Cont} {row:List PV} {Pr:Prop} (kd:Nat) (ho:o.op=.store T x y) (hd:o.dst=none) (hr:L T=some r) (hx:s.ev x=.ptr k g i j) (hown:s.own k=(g,some c))
   (hrow:c.rows[i]?=some row) (h1:∀s':St,gh s' (s.ev y).cells=some Pr) (h2:Pr) (hsz:(s.ev y).cells.length=r.size) (hle:j+r.size<=row.length) (hk:c.kind<=kd) (hkd:(s.ev y).cells.all (tT kd)=true) :
   Loc P L s o k (s.setOwn k g (some ⟨c.ty,c.sz,c.rows.set i (oZ row j ((s.ev y).cells.map (jP kd))),kd⟩))
theorem Loc.sound {s s':St}{o:Oper}{t:Nat}(h:Loc P L s o t s'){C:Ctx}{a:Act}{w:World}{K:Act->World->Prop}{Q:Exit->Act->World->Prop}(hG:Good P L C)(hs:SimE C s a w)(hN:eL C.N o.dst=true)(hK:∀a' w',SimE C s' a' w'->K a' w'):o.wp P a w K Q:=by
 cases h with
 |any h hc=>exact h.2.2 C a w K Q hG hs hN hK
 |alloc ho hd hr hz h0=>exact(Eff.alloc (P:=P) ho hd hr hz h0).sound hG.lay hG.x hG.glob hs hN hK
 |store kd ho hd hr hx hown hrow h1 h2 hsz hle hk hkd=>exact(Eff.store (P:=P) kd ho hd hr hx hown hrow (h1 s) h2 hsz hle hk hkd).sound hG.lay hG.x hG.glob hs hN hK
theorem M5 {s:St}{d k:Nat}{c:Cont}(h:k≠d):(s.fin d c).own k=s.own k:=aO h
theorem Loc.off {s s':St}{o:Oper}{t:Nat}(h:Loc P L s o t s'){k:Nat}(hk:k≠t):s'.own k=s.own k:=by
 cases h with
 |any h hc=>exact h.1 k hk
 |alloc ho hd hr hz h0=>exact M5 hk
 |store kd ho hd hr hx hown hrow h1 h2 hsz hle hk' hkd=>exact aO hk
theorem Loc.reg {s s':St}{o:Oper}{t:Nat}(h:Loc P L s o t s'){r:Nat}(hr:o.dst≠some r):s'.reg r=s.reg r:=by
 cases h with
 |any h hc=>exact h.2.1 r hr
 |alloc ho hd _ hz h0 =>
  show(bif Nat.beq r _ then _ else s.reg r)=_;have:r≠_:=fun e=>hr (by rw[e];exact hd);rw[cS this];rfl
 |store=>rfl
theorem Loc.congr {u s u':St}{o:Oper}{t:Nat}(ht:u.own t=s.own t)(he:∀x∈o.op.operands,u.ev x=s.ev x)(h:Loc P L u o t u'):∃s',Loc P L s o t s'/\s'.own t=u'.own t/\∀r,o.dst=some r->s'.reg r=u'.reg r:=by
 cases h with
 |any h hc =>
  obtain⟨s',h1,h2,h3⟩:=hc s ht.symm fun x hx=>(he x hx).symm;refine⟨s',.any h1 fun v hv hev=>?_,h2,h3⟩;obtain⟨v',g1,g2,g3⟩:=hc v (hv.trans ht.symm) fun x hx=>(hev x hx).trans (he x hx).symm;exact⟨v',g1,g2.trans h2.symm,fun r hr=>(g3 r hr).trans (h3 r hr).symm⟩
 |alloc ho hd hr hz h0 =>
  refine⟨_,.alloc ho hd hr hz h0,?_,fun r hr'=>?_⟩
  .show((s.fin t _).own t)=((u.fin t _).own t);rw[St.fin,St.fin,ar,ar,ht]
  .rw[hd]at hr';cases hr';show(bif Nat.beq t t then _ else _)=(bif Nat.beq t t then _ else _);simp[ht]
 |store kd ho hd hr hx hown hrow h1 h2 hsz hle hk hkd =>
  rename_i T r x y g i j c row Pr;have hx':u.ev x=s.ev x:=he x (by rw[ho];simp[Op.operands]);have hy':u.ev y=s.ev y:=he y (by rw[ho];simp[Op.operands]);rw[hx']at hx;rw[hy']at h1 hsz hkd ⊢;rw[ht]at hown;exact⟨_,.store kd ho hd hr hx hown hrow h1 h2 hsz hle hk hkd,by rw[ar,ar],fun r hr'=>by rw[hd]at hr';cases hr'⟩
inductive Step5 (P:Program) (L:dj) (ops:Array Oper) (Z:List Nat):Option Nat->St->Oper->St->Prop
 |no {c:Option Nat} {s:St} {o:Oper} (h:Wants ops s o false):Step5 P L ops Z c s o (s.put o.dst (.raw undef))
 |free {c:Option Nat} {s:St} {o:Oper} {v:PV} (h:Wants ops s o true) (hq:QOp P L (s.erase Z) o v):Step5 P L ops Z c s o (s.put o.dst v)
 |loc {t:Nat} {s s':St} {o:Oper} (h:Wants ops s o true) (hl:Loc P L s o t s'):Step5 P L ops Z (some t) s o s'
def P5 (P:Program)(L:dj)(ops:Array Oper)(Z:List Nat)(lc:Nat->Option Nat)(K:St->Prop):Nat->List Oper->St->Prop
 |_,[],s=>K s
 |i,o::rest,s=>∃s',Step5 P L ops Z (lc i) s o s'/\P5 P L ops Z lc K (i+1) rest s'
theorem P5.run {Z:List Nat}{lc:Nat->Option Nat}{K:St->Prop}:∀(l:List Oper) (i:Nat) (s:St),P5 P L ops Z lc K i l s->∃S:Nat->St,S 0=s/\(∀(j:Nat) (o:Oper),l[j]?=some o->Step5 P L ops Z (lc (i+j)) (S j) o (S (j+1)))/\K (S l.length)
 |[],i,s,h=>⟨fun _=>s,rfl,fun j o hj=>by simp at hj,h⟩
 |o::l,i,s,⟨s',h1,h2⟩=>by
  obtain⟨S,g1,g2,g3⟩:=P5.run l (i+1) s' h2;refine⟨fun n=>match n with|0=>s|n+1=>S n,rfl,fun j o' hj=>?_,g3⟩;cases j with
  |zero=>simp at hj;subst hj;show Step5 _ _ _ _ _ s o (S 0);rw[g1];exact h1
  |succ j =>
   have:=g2 j o' (by simpa using hj);rw[show i+1+j=i+(j+1) by omega]at this;exact this
def zu:List (Nat × Nat)->Nat->Option Nat
 |[],_=>none
 |p::l,i=>bif Nat.beq i p.1 then some p.2 else zu l i
def D9 (ops:Array Oper)(l:List (Nat × Nat)):Bool:=(List.range ops.size).all fun i=>(List.range i).all fun j=>match zu l i,zu l j with
 |some t,some t'=>!Nat.beq t t'||((m_ ops).getD i 0).testBit j
 |_,_=>true
structure Run5 (P:Program) (L:dj) (ops:Array Oper) (Z:List Nat) (lc:Nat->Option Nat) (S:Nat->St):Prop where
 step:∀(i:Nat) (o:Oper),ops[i]?=some o->Step5 P L ops Z (lc i) (S i) o (S (i+1))
 cov:∀i t,i<ops.size->lc i=some t->gJ Z t=true
 ord:∀i j t,i<ops.size->lc i=some t->lc j=some t->j<i->((m_ ops).getD i 0).testBit j=true
section
variable {Z:List Nat}{lc:Nat->Option Nat}{S:Nat->St}
theorem Step5.own {c:Option Nat}{s s':St}{o:Oper}(h:Step5 P L ops Z c s o s'){k:Nat}(hk:c≠some k):s'.own k=s.own k:=by
 cases h with
 |no h=>rw[dr]
 |free h hq=>rw[dr]
 |loc h hl=>exact hl.off fun e=>hk (by rw[e])
theorem Step5.reg {c:Option Nat}{s s':St}{o:Oper}(h:Step5 P L ops Z c s o s'){t:Nat}(ht:o.dst≠some t):s'.reg t=s.reg t:=by
 cases h with
 |no h=>exact il ht
 |free h hq=>exact il ht
 |loc h hl=>exact hl.reg ht
theorem rA (hr:Run5 P L ops Z lc S){k i:Nat}:∀d,i+d<=ops.size->(∀q,i<=q->q<i+d->lc q≠some k)->(S (i+d)).own k=(S i).own k
 |0,_,_=>rfl
 |d+1,hd,h=>by
  rw[<-iW,(hr.step (i+d) _ (ee J)).own (h (i+d) J J),rA hr d J fun q h1 h2=>h q h1 J]
theorem kN (hr:Run5 P L ops Z lc S){t i:Nat}:∀d,i+d<=ops.size->(∀q o,i<=q->q<i+d->ops[q]?=some o->o.dst≠some t)->(S (i+d)).reg t=(S i).reg t
 |0,_,_=>rfl
 |d+1,hd,h=>by
  rw[<-iW,(hr.step (i+d) _ (ee J)).reg (h (i+d) _ J J (ee J)),kN hr d J fun q o h1 h2=>h q o h1 J]
structure Agr5 (ops:Array Oper) (lc:Nat->Option Nat) (S:Nat->St) (listed:Array Bool) (s:St):Prop where
 hit:∀i o t,ops[i]?=some o->listed.getD i true=true->o.dst=some t->s.reg t=(S (i+1)).reg t
 miss:∀t,(∀i o,ops[i]?=some o->listed.getD i true=true->o.dst≠some t)->s.reg t=(S 0).reg t
 on:∀k,∃q,q<=ops.size/\(∀i,i<ops.size->lc i=some k->(listed.getD i true=true↔i<q))/\s.own k=(S q).own k
theorem DB (hd:Draw3Ok ops ch)(hr:Run5 P L ops Z lc S){listed:Array Bool}{s:St}(hag:Agr5 ops lc S listed s)(hc:Ps ops listed){j:Nat}{o:Oper}(ho:ops[j]?=some o)(hun:listed.getD j true=false)
  (hall:∀e∈o.after,Region.binds .any e=true->listed.getD e.on true=true) {t:Nat} (ht:t∈o.looksAt ops):(S j).reg t=s.reg t:=by
 have hjl:=(iy ho).1;by_cases hx:∃(i:Nat) (o':Oper),ops[i]?=some o'/\o'.dst=some t
 .obtain⟨i,o',hi,hdi⟩:=hx;have hil:=(iy hi).1;have hone:∀(q:Nat) (o:Oper),ops[q]?=some o->o.dst=some t->q=i:=fun q o h1 h2=>hd.nodup q i o o' t h1 hi h2 hdi;have hno:listed.getD i true=false->s.reg t=(S 0).reg t:=fun hl=>hag.miss t fun q oq h1 h2 h3=>by
   rw[hone q oq h1 h3,hl]at h2;cases h2
  rcases mg i j with hlt|he|hlt
  .have hm:=(hd.reads j o ho t ht i o' hi hdi J).1 hlt;have hl:=fT hd hc j j o (aY) ho hall i hm;rw[hag.hit i o' t hi hl hdi];have:=kN hr (t:=t) (i:=i+1) (j-(i+1)) J fun q oq h1 h2 h3 h4=>by have:=hone q oq h3 h4;omega
   rwa [show i+1+(j-(i+1))=j by omega]at this
  .subst he;rw[hno hun];have:=kN hr (t:=t) (i:=0) i J fun q oq h1 h2 h3 h4=>by have:=hone q oq h3 h4;omega
   rwa [aM]at this
  .have hm:=(hd.reads j o ho t ht i o' hi hdi J).2 hlt;have hl:listed.getD i true=false:=by
    cases hb:listed.getD i true with
    |false=>rfl
    |true =>
     have:=fT hd hc i i o' (aY) hi (fun e he hbd=>hc i o' hi hb e he hbd) j hm;rw[hun]at this;cases this
   rw[hno hl];have:=kN hr (t:=t) (i:=0) j J fun q oq h1 h2 h3 h4=>by have:=hone q oq h3 h4;omega
   rwa [aM]at this
 .rw[hag.miss t fun q oq h1 _ h3=>hx ⟨q,oq,h1,h3⟩];have:=kN hr (t:=t) (i:=0) j J fun q oq h1 h2 h3 h4=>hx ⟨q,oq,h3,h4⟩;rwa [aM]at this
theorem nu {ch:List Nat}(hd:Draw3Ok ops ch)(hr:Run5 P L ops Z lc S){listed:Array Bool}{s:St}(hag:Agr5 ops lc S listed s)(hc:Ps ops listed){j:Nat}{o:Oper}(ho:ops[j]?=some o)(hun:listed.getD j true=false)
  (hall:∀e∈o.after,Region.binds .any e=true->listed.getD e.on true=true) {k:Nat} (hk:∀i,i<ops.size->lc i=some k->lc j=some k):s.own k=(S j).own k/\∀i,i<ops.size->lc i=some k->i≠j->(listed.getD i true=true↔i<j):=by
 have hjl:=(iy ho).1;have hord:∀i,i<ops.size->lc i=some k->i≠j->(listed.getD i true=true↔i<j):=by
  intro i hi hli hne;have hlj:=hk i hi hli;constructor
  .intro hl;rcases bG i j with h|h
   .exact h
   .have hm:=hr.ord i j k hi hli hlj J;have:=fT hd hc i i _ (aY) (ee hi) (fun e he hb=>hc i _ (ee hi) hl e he hb) j hm;rw[hun]at this;cases this
  .intro hlt;exact fT hd hc j j o (aY) ho hall i (hr.ord j i k hjl hlj hli hlt)
 refine⟨?_,hord⟩;obtain⟨q,hq,h1,h2⟩:=hag.on k;rw[h2];rcases Nat.le_total q j with hqj|hqj
 .have:=rA hr (k:=k) (i:=q) (j-q) J fun i g1 g2 hli=>by
   have:=(h1 i J hli).1 ((hord i J hli J).2 J);omega
  rw[show q+(j-q)=j by omega]at this;exact this.symm
 .have:=rA hr (k:=k) (i:=j) (q-j) J fun i g1 g2 hli=>by
   by_cases hij:i=j
   .subst hij;have:=(h1 i hjl hli).2 J;rw[hun]at this;cases this
   .have:=(hord i J hli hij).1 ((h1 i J hli).2 J);omega
  rw[show j+(q-j)=q by omega]at this;exact this
theorem Hl {ch:List Nat}(hG:Good P L C)(hd:Draw3Ok ops ch){K':St->Prop}{Q:Exit->Act->World->Prop}(hK:∀s' a' w',SimE C s' a' w'->K' s'->Q .normal a' w')
  (hN:∀o∈ops.toList,eL C.N o.dst=true) (hr:Run5 P L ops Z lc S) (hend:K' (S ops.size)) :
  ∀(f:Nat) (U:List Nat) (listed:Array Bool) (s:St) (a:Act) (w:World),U.length=f->U.Nodup->(∀i,i∈U↔i<ops.size/\listed.getD i true=false)->listed.size=ops.size->Ps ops listed->Agr5 ops lc S listed s->SimE C s a w ->
   wpAny P .any ops Q f listed a w:=by
 intro f
 induction f with
 |zero =>
  intro U listed s a w hU _ hmem hsz hc hag h;have hU0:U=[]:=iB hU;subst hU0;have hall:∀i,i<ops.size->listed.getD i true=true:=fun i hi=>by
   cases hb:listed.getD i true with
   |true=>rfl
   |false=>have:=(hmem i).2 ⟨hi,hb⟩;cases this
  refine⟨uV hmem,hK _ _ _ h ?_⟩;have:s=S ops.size:=by
   refine St.ext' (funext fun t=>?_) (funext fun k=>?_)
   .by_cases hx:∃(i:Nat) (o':Oper),ops[i]?=some o'/\o'.dst=some t
    .obtain⟨i,o',hi,hdi⟩:=hx;have hil:=(iy hi).1;rw[hag.hit i o' t hi (hall i hil) hdi];have:=kN hr (t:=t) (i:=i+1) (ops.size-(i+1)) J fun q oq h1 h2 h3 h4=>by have:=hd.nodup q i oq o' t h3 hi h4 hdi;omega
     rw[show i+1+(ops.size-(i+1))=ops.size by omega]at this;exact this.symm
    .rw[hag.miss t fun q oq h1 _ h3=>hx ⟨q,oq,h1,h3⟩];have:=kN hr (t:=t) (i:=0) ops.size J fun q oq h1 h2 h3 h4=>hx ⟨q,oq,h3,h4⟩;rw[aM]at this;exact this.symm
   .obtain⟨q,hq,h1,h2⟩:=hag.on k;rw[h2];have:=rA hr (k:=k) (i:=q) (ops.size-q) J fun i g1 g2 hli=>by
     have:=(h1 i J hli).1 (hall i J);omega
    rw[show q+(ops.size-q)=ops.size by omega]at this;exact this.symm
  rw[this];exact hend
 |succ f ih =>
  intro U listed s a w hU hnd hmem hsz hc hag h;refine⟨fun hnil=>absurd hnil (tg hsz hd.lex hmem (fun he=>by rw[he]at hU;simp at hU)),fun j hj=>?_⟩;obtain⟨hun,o,ho,hall0⟩:=mem_ready.1 hj;have hjl:=(iy ho).1;have hlex:=hd.lex j o ho;have hall:∀e∈o.after,Region.binds .any e=true->listed.getD e.on true=true:=fun e he hb=>by
   have h1:=hall0 e he hb;rw[FF (by rw[hsz];have:=hlex e he hb;omega)];exact h1
  have hjs:j<listed.size:=by rw[hsz];exact hjl
  have hNo:eL C.N o.dst=true:=hN o (by have:=t_ ho;simpa using this);have hreads:∀t∈o.looksAt ops,(S j).reg t=s.reg t:=fun t ht=>DB hd hr hag hc ho hun hall ht;have hnew:∀q,(listed.setIfInBounds j true).getD q true=true↔q=j\/listed.getD q true=true:=fun q=>by
   by_cases hq:q=j
   .subst hq;simp[hjs]
   .rw[getD_set_ne true (Ne.symm hq)];simp[hq]
  have hnext:∀s' a' w',(∀t,o.dst=some t->s'.reg t=(S (j+1)).reg t)->(∀t,o.dst≠some t->s'.reg t=s.reg t)->(∀k,lc j≠some k->s'.own k=s.own k) ->
    (∀k,lc j=some k->s'.own k=(S (j+1)).own k)->SimE C s' a' w'->wpAny P .any ops Q f (listed.setIfInBounds j true) a' w':=by
   intro s' a' w' g1 g2 g3 g4 h';have hUj:j∈U:=(hmem j).2 ⟨hjl,hun⟩;refine ih (U.erase j) _ s' a' w' (by rw[zH hUj];omega) (hnd.erase j) (fun k=>?_) (by simpa using hsz) ?_ ?_ h'
   .rw[hnd.mem_erase_iff,hmem k];by_cases hki:k=j
    .subst hki;simp[hjs]
    .rw[getD_set_ne true (Ne.symm hki)];exact⟨fun x=>x.2,fun x=>⟨hki,x⟩⟩
   .intro i oi hi hl e he hb;rw[hnew];rcases(hnew i).1 hl with rfl|hl'
    .rw[ho]at hi;cases hi;exact .inr (hall e he hb)
    .exact .inr (hc i oi hi hl' e he hb)
   .refine⟨fun i oi t hi hl hdi=>?_,fun t hm=>?_,fun k=>?_⟩
    .rcases(hnew i).1 hl with rfl|hl'
     .rw[ho]at hi;cases hi;exact g1 t hdi
     .have hij:i≠j:=fun e=>by rw[e,hun]at hl';cases hl'
      rw[g2 t (fun hdj=>hij (hd.nodup i j oi o t hi ho hdi hdj)),hag.hit i oi t hi hl' hdi]
    .rw[g2 t (hm j o ho ((hnew j).2 (.inl O)))];exact hag.miss t fun i oi hi hl=>hm i oi hi ((hnew i).2 (.inr hl))
    .by_cases hlj:lc j=some k
     .have hord:=(nu hd hr hag hc ho hun hall (k:=k) fun _ _ _=>hlj).2;refine⟨j+1,J,fun i hi hli=>?_,g4 k hlj⟩;rw[hnew];by_cases hij:i=j
      .subst hij;simp
      .rw[hord i hi hli hij];omega
     .obtain⟨q,hq,h1,h2⟩:=hag.on k;refine⟨q,hq,fun i hi hli=>?_,by rw[g3 k hlj,h2]⟩;rw[hnew,<-h1 i hi hli];constructor
      .rintro(rfl|hl)
       .exact absurd hli hlj
       .exact hl
      .exact .inr
  have hev:∀x∈o.op.operands,(S j).ev x=s.ev x:=KC (ops:=ops) hreads;have hstep:=hr.step j o ho;unfold wpOp;rw[ho];simp only;generalize hlj:lc j=cj at hstep hnext;generalize hSj:S (j+1)=s1 at hstep hnext;cases hstep with
  |no hw =>
   have hw':Wants ops s o false:=hw.congr hreads;rw[if_neg (by rw[hw'.spec h];simp)];refine hnext (s.put o.dst (.raw undef)) _ _ (fun t ht=>by rw[jJ ht,jJ ht]) (fun t ht=>il ht) (fun k _=>by rw[dr]) (fun k hk=>?_) (h.put hNo undef);rw[dr,dr];exact(nu hd hr hag hc ho hun hall (k:=k) fun _ _ _=>by rw[hlj,hk]).1
  |free hw hq =>
   have hw':Wants ops s o true:=hw.congr hreads;rw[if_pos (hw'.spec h)];have hle:OwnLe ((S j).erase Z) ⟨(S j).reg,s.own⟩:=fun k=>by
    cases hk:gJ Z k with
    |true=>exact .inr (by simp[St.erase,hk])
    |false =>
     refine .inl ?_;show s.own k=(bif gJ Z k then _ else(S j).own k);rw[hk];exact(nu hd hr hag hc ho hun hall (k:=k) fun i hi hli=>by have:=hr.cov i k hi hli;rw[hk]at this;cases this).1
   have hq2:=hq.le hle O;have hq3:QOp P L s o _:=QOp.congr (s:=⟨(S j).reg,s.own⟩) (s':=s) O hev hq2;refine .inl (hq3.wp hG h hNo fun a' w' h'=>hnext _ a' w' (fun t ht=>by rw[jJ ht,jJ ht]) (fun t ht=>il ht) (fun k _=>by rw[dr]) (fun k hk=>by rw[dr,dr];exact(nu hd hr hag hc ho hun hall (k:=k) fun _ _ _=>by rw[hlj,hk]).1) h')
  |loc hw hl =>
   rename_i t;have hw':Wants ops s o true:=hw.congr hreads;rw[if_pos (hw'.spec h)];have hown:=(nu hd hr hag hc ho hun hall (k:=t) fun _ _ _=>hlj).1;obtain⟨s',e1,e2,e3⟩:=hl.congr hown.symm hev;refine .inl (e1.sound hG h hNo fun a' w' h'=>hnext s' a' w' (fun t ht=>e3 t ht) (fun t ht=>e1.reg ht) (fun k hk=>e1.off fun e=>hk (by rw[e])) (fun k hk=>by cases hk;exact e2) h')
theorem BX {i t:Nat}:∀ {l:List (Nat × Nat)},zu l i=some t->gJ (l.map (·.2)) t=true
 |[],h=>by cases h
 |p::l,h=>by
  show(bif Nat.beq t p.2 then true else gJ (l.map (·.2)) t)=true;rw[zu]at h;cases hb:Nat.beq i p.1 with
  |true =>
   rw[hb,cond_true]at h;cases h;simp
  |false =>
   rw[hb,cond_false]at h;rw[BX h];cases Nat.beq t p.2<;>rfl
def PDraw5 (P:Program)(L:dj)(ops:Array Oper)(K:St->Prop)(s:St):Prop:=∃l,j3 ops []=true/\D9 ops l=true/\P5 P L ops (l.map (·.2)) (zu l) K 0 ops.toList s
theorem PDraw5.sound (hG:Good P L C){K':St->Prop}{Q:Exit->Act->World->Prop}(hK:∀s' a' w',SimE C s' a' w'->K' s'->Q .normal a' w')(hN:∀o∈ops.toList,eL C.N o.dst=true){s:St}
  (h:SimE C s a w) (hq:PDraw5 P L ops K' s):wpAny P .any ops Q ops.size (Array.replicate ops.size false) a { w with drawn:=w.drawn+1 }:=by
 obtain⟨l,hok,hlc,hq⟩:=hq;obtain⟨S,h0,h1,h2⟩:=P5.run _ _ _ hq;have hd:=qD hok;have hr:Run5 P L ops (l.map (·.2)) (zu l) S:=by
  refine⟨fun i o ho=>?_,fun i t _ ht=>BX ht,fun i j t hi h1 h2 hlt=>?_⟩
  .have:=h1 i o (by simpa using ho);rwa [aM]at this
  .have e:=ct.1 (ct.1 hlc i (fP.2 hi)) j (fP.2 hlt);rw[h1,h2]at e;simpa using e
 have hend:K' (S ops.size):=by simpa using h2
 have hrep:∀i,i<ops.size->(Array.replicate ops.size false).getD i true=false:=fun i hi=>by simp[hi]
 refine Hl hG hd hK hN hr hend ops.size (List.range ops.size) (Array.replicate ops.size false) s a _ ap Ad (fun i=>?_) ap ?_ ?_ (let ⟨γ,h⟩:=h;⟨γ,wP h⟩)
 .rw[fP];exact⟨fun hi=>⟨hi,hrep i hi⟩,fun x=>x.1⟩
 .intro i o ho hl;rw[hrep i (iy ho).1]at hl;cases hl
 .refine⟨fun i o t ho hl=>?_,fun t _=>by rw[h0],fun k=>⟨0,J,fun i hi _=>?_,by rw[h0]⟩⟩
  .rw[hrep i (iy ho).1]at hl;cases hl
  .rw[hrep i hi];exact⟨fun h=>(by cases h),fun h=>J⟩
def PDraw3 (P:Program)(L:dj)(ops:Array Oper)(K:St->Prop)(s:St):Prop:=PDrawZ P L ops K s\/PDraw5 P L ops K s
theorem PDraw3.sound (hG:Good P L C){K':St->Prop}{Q:Exit->Act->World->Prop}(hK:∀s' a' w',SimE C s' a' w'->K' s'->Q .normal a' w')(hN:∀o∈ops.toList,eL C.N o.dst=true){s:St}
  (h:SimE C s a w) (hq:PDraw3 P L ops K' s):wpAny P .any ops Q ops.size (Array.replicate ops.size false) a { w with drawn:=w.drawn+1 }:=by
 rcases hq with hq|hq
 .exact PDrawZ.sound hG hK hN h hq
 .exact PDraw5.sound hG hK hN h hq
end
def PTree (P:Program)(L:dj)(ops:Array Oper)(K:St->Prop):Nat->Array Bool->St->Prop
 |0,listed,s=>Region.ready .any ops listed=[]/\K s
 |f+1,listed,s=>(Region.ready .any ops listed=[]->K s)/\∀i∈Region.ready .any ops listed,∃o,ops[i]?=some o/\PSem P L ops (PTree P L ops K f (listed.setIfInBounds i true)) [o] s
theorem PTree.sound (hG:Good P L C){K':St->Prop}{Q:Exit->Act->World->Prop}(hK:∀s' a' w',SimE C s' a' w'->K' s'->Q .normal a' w')(hN:∀o∈ops.toList,eL C.N o.dst=true) :
  ∀(f:Nat) (listed:Array Bool) (s:St) (a:Act) (w:World),SimE C s a w->PTree P L ops K' f listed s->wpAny P .any ops Q f listed a w
 |0,listed,s,a,w,h,hp=>⟨hp.1,hK s a w h hp.2⟩
 |f+1,listed,s,a,w,h,hp=>by
  refine⟨fun e=>hK s a w h (hp.1 e),fun i hi=>?_⟩;obtain⟨o,ho,hs⟩:=hp.2 i hi;have hNo:eL C.N o.dst=true:=hN o (by have:=t_ ho;simpa using this);unfold wpOp;rw[ho];simp only;rcases hs with⟨hw,hs⟩|⟨hw,hs⟩
  .rw[if_pos (hw.spec h)];rcases hs with hs|hs
   .exact .inl (hs.wp hG h hNo fun s' a' w' h' hp'=>PTree.sound hG hK hN f _ s' a' w' h' hp')
   .exact .inl (Oper.wp_mono (fun a' w' ⟨s',h',hp'⟩=>PTree.sound hG hK hN f _ s' a' w' h' hp') (hs C a w _ hG h hNo))
  .rw[if_neg (by rw[hw.spec h];simp)];exact PTree.sound hG hK hN f _ _ _ w (h.put hNo undef) hs
def PTree0 (P:Program)(L:dj)(ops:Array Oper)(K:St->Prop)(s:St):Prop:=PTree P L ops K ops.size (Array.replicate ops.size false) s
theorem PTree0.sound (hG:Good P L C){K':St->Prop}{Q:Exit->Act->World->Prop}(hK:∀s' a' w',SimE C s' a' w'->K' s'->Q .normal a' w')(hN:∀o∈ops.toList,eL C.N o.dst=true){s:St}
  (h:SimE C s a w) (hq:PTree0 P L ops K' s):wpAny P .any ops Q ops.size (Array.replicate ops.size false) a { w with drawn:=w.drawn+1 } :=
 PTree.sound hG hK hN _ _ s a _ (let ⟨γ,h⟩:=h;⟨γ,wP h⟩) hq
theorem nN {K:St->Prop}{f i:Nat}{o:Oper}{listed:Array Bool}{s:St}(hr:Region.ready .any ops listed=[i])(ho:ops[i]?=some o)(h:PSem P L ops (PTree P L ops K f (listed.setIfInBounds i true)) [o] s):PTree P L ops K (f+1) listed s :=
 ⟨fun e=>(by rw[e]at hr;cases hr),fun j hj=>by rw[hr]at hj;simp at hj;subst hj;exact⟨o,ho,h⟩⟩
theorem KH {K:St->Prop}{f i j:Nat}{o o2:Oper}{listed:Array Bool}{s:St}(hr:Region.ready .any ops listed=[i,j])(ho:ops[i]?=some o)(ho2:ops[j]?=some o2)
  (h:PSem P L ops (PTree P L ops K f (listed.setIfInBounds i true)) [o] s) (h2:PSem P L ops (PTree P L ops K f (listed.setIfInBounds j true)) [o2] s):PTree P L ops K (f+1) listed s :=
 ⟨fun e=>(by rw[e]at hr;cases hr),fun q hq=>by
  rw[hr]at hq;simp at hq;rcases hq with rfl|rfl
  .exact⟨o,ho,h⟩
  .exact⟨o2,ho2,h2⟩⟩
end
end Go.Pv
namespace Go.Pv
open Go.RowKit
def Fr (ro:Option Nat):Fence:={ Fence.wide with round:=ro }
theorem JH (ro:Option Nat)(l:Nat):(Fr ro).inRound l=Fr (some l):=rfl
section
variable {P:Program}{ro:Option Nat}{n:Nat}{ops:Array Oper}{Q:Exit->Act->World->Prop}
theorem Jl {f:FuncId}{args:Array Value}{w:World}{R:Ending->World->Prop}(h:Calls P f args w R):CallsIn (Fr ro) n P f args w R:=callsIn_wide.2 h
theorem JG {f:FuncId}{args:Array Value}{w:World}{R:Ending->World->Prop}(h:CallsIn (Fr ro) n P f args w R):Calls P f args w R:=callsIn_wide (n:=n).1 h
theorem NG {row:String}{args:Array Value}{w:World}{R:Value->World->Prop}(h:Rows P row args w R):RowsIn (Fr ro) n P row args w R:=fun c cs _ =>
 let ⟨v,w',r,s⟩:=h c cs;⟨v,w',r,stepsIn_wide.2 s⟩
theorem xG {op:Op}(h:fC op=true)(c:Call):op ≠ .defer c:=fun e=>by subst e;cases h
theorem Om {o:Oper}{a:Act}{next:Act->World->Prop}{r:Result Next}(h:o.upon P a next Q r):o.uponIn (Fr ro) n P a next Q r:=by
 have hd:(Fr ro).depth.isSome=true->1<=n:=fun e=>by simp[Fr,Fence.wide]at e
 cases r with
 |ok x w' =>
  cases x with
  |value v=>exact h
  |skip=>exact h
  |defer d=>exact h
  |enter f args=>exact⟨hd,(Jl (show Calls P f args w' _ from h)).mono fun e w'' he=>by cases e<;>exact he⟩
  |row row args=>exact⟨hd,NG (show Rows P row args w' _ from h)⟩
  |_=>exact False.elim h
 |halt x w' =>
  cases x with
  |panic v=>exact h
  |_=>exact False.elim h
theorem GU {o:Oper}(hd:fC o.op=true){a:Act}{w:World}{next:Act->World->Prop}(h:o.wp P a w next Q):o.wpIn (Fr ro) n P a w next Q:=by
 refine⟨fun _ _=>trivial,?_⟩;rw[Oper.semAt_eq _ _ _ (xG hd)];exact Om h
theorem oa (hQ:¬LetsOut Q)(hd:∀o∈ops.toList,fC o.op=true):∀(l:List Nat) (a:Act) (w:World),wpOps P ops Q l a w->wpOpsIn (Fr ro) n P ops Q l a w
 |[],a,w,h=>h
 |i::rest,a,w,h=>by
  unfold wpOps at h;unfold wpOpsIn;cases ho:ops[i]? with
  |none=>simp only[ho]at h ⊢;exact oa hQ hd rest a w h
  |some o =>
   simp only[ho]at h ⊢;have hm:o∈ops.toList:=bC (by rw[gT];exact ho);split
   .rename_i hw;simp only[hw,if_true]at h;rcases h with h|h
    .exact Oper.wpIn_mono (fun a w h=>oa hQ hd rest a w h) (GU (hd o hm) h)
    .exact absurd h.2 hQ
   .rename_i hw;simp only[hw]at h;exact⟨fun _ _=>trivial,oa hQ hd rest _ w h⟩
theorem yE {id:Nat}{a:Act}{w:World}(hQ:¬LetsOut Q)(hd:∀o∈ops.toList,fC o.op=true)(h:wpList P ops Q ops.toList a w):(Code.region id ops false).wpIn (Fr ro) n P Q a w :=
 wpIn_region (oa hQ hd _ _ _ (by rw[List.range_eq_range',<-kY,wpOps_eq_wpList ops.toList 0 ap];exact h))
theorem Fx {id:Nat}{a:Act}{w:World}(hm:P.follows .mixedOrders=true)(hQ:¬LetsOut Q)(hd:∀o∈ops.toList,fC o.op=true)(h:wpAny P .any ops Q ops.size (Array.replicate ops.size false) a { w with drawn:=w.drawn+1 }) :
  (Code.region id ops true).wpIn (Fr ro) n P Q a w :=
 wpIn_region_draw fun t=>by
  simp only[Region.schedule,hm,uu,if_true];exact oa hQ hd _ _ _ (wpAny_sound ops.size t _ a _ h)
end
section
variable [Globs]
variable {P:Program}{L:dj}{C:Ctx}{s:St}{a:Act}{w w':World}{ops:Array Oper}
theorem n_ {ro:Option Nat}{nn:Nat}{md:Region.Mode}{Q':Exit->Act->World->Prop}:∀(l:List Oper) (k:Nat) (listed:Array Bool) (a:Act) (w:World),(∀j,l[j]? = ops[k+j]?) ->
  Region.seqB md ops l.length k listed=true->wpListIn (Fr ro) nn P ops Q' l a w->wpAnyIn (Fr ro) nn P md ops Q' l.length listed a w
 |[],_,_,_,_,_,hB,h=>⟨by simpa [Region.seqB] using hB,h⟩
 |o::l,k,listed,a,w,hl,hB,h=>by
  have h0:ops[k]?=some o:=by simpa using (hl 0).symm
  simp only[dl,Region.seqB,cm,decide_eq_true_eq]at hB;refine⟨fun h1=>(by rw[hB.1]at h1;cases h1),fun i hi=>?_⟩;rw[hB.1]at hi;have hik:i=k:=by simpa using hi
  subst hik;have hw:wpOpIn (Fr ro) nn P ops Q' i (wpListIn (Fr ro) nn P ops Q' l) a w:=by unfold wpOpIn;simp only[h0];exact h
  exact wpOpIn_mono (fun a' w' h'=>n_ l (i+1) _ a' w' (fun j=>by have:=hl (j+1);simpa [iW,lg 1 j] using this) hB.2 h') hw
theorem Hk {ro:Option Nat}{nn:Nat}(hG:Good P L C){n:Nat}{ds:List Nat}(hd:DrawOk ops n ds){Q:Exit->Act->World->Prop}
  (hN:∀o∈ops.toList,eL C.N o.dst=true/\fC o.op=true) {s0:St} {vs:List PV} (hvl:vs.length=ds.length)
  (hy:∀(k:Nat) (o:Oper) (v:PV),(ops.toList.take n)[k]?=some o->vs[k]?=some v->Yld P L ops (p8 ((ds.zip vs).take k) s0) o v)
  (hend:∀a w,SimE C (p8 (ds.zip vs) s0) a w->wpListIn (Fr ro) nn P ops Q (ops.toList.drop n) a w) :
  ∀(m:Nat) (U:List Nat) (listed:Array Bool) (s:St) (a:Act) (w:World),U.length=m->U.Nodup->(∀i,i∈U↔i<n/\listed.getD i true=false)->HeadInv .any ops n listed->Agr ds vs n listed s0 s->SimE C s a w ->
   wpAnyIn (Fr ro) nn P .any ops Q (m+(ops.size-n)) listed a w:=by
 have hdl:ds.length=n:=by
  have:=congrArg List.length hd.dst;simp at this;have h1:=hd.le;omega
 have hdi:∀i o,i<n->ops[i]?=some o->∃d,ds[i]?=some d/\o.dst=some d:=by
  intro i o hi ho;have h1:i<ds.length:=J;refine⟨ds[i],bX h1,?_⟩;have h2:((ops.toList.take n).map (·.dst))[i]? = (ds.map some)[i]? := by rw[hd.dst]
  rw[bw,bw,cJ,if_pos hi,bX h1]at h2;have h3:ops.toList[i]?=some o:=by simpa using ho
  rw[h3]at h2;simpa using h2
 have hzn:(ds.zip vs).map (·.1)=ds:=by rw[List.map_fst_zip J]
 have hinj:∀(i j t:Nat),ds[i]?=some t->ds[j]?=some t->i=j:=by
  intro i j t h1 h2;have hi:=(cb h1).1;have hj:=(cb h2).1;have e1:=(cb h1).2;have e2:=(cb h2).2;exact(List.getElem_inj hd.nodup).1 (e1.trans e2.symm)
 intro m
 induction m with
 |zero =>
  intro U listed s a w hU _ hmem inv agr h;have hU0:U=[]:=iB hU;subst hU0;have hall:∀i,i<n->listed.getD i true=true:=fun i hi=>by
   cases hb:listed.getD i true with
   |true=>rfl
   |false=>have:=(hmem i).2 ⟨hi,hb⟩;cases this
  have hle:=hd.le;have hlist:listed=(List.replicate n true++List.replicate (ops.size-n) false).toArray:=by
   apply Array.ext
   .rw[inv.size];simp;omega
   .intro i h1 h2;have hi:i<ops.size:=by rw[<-inv.size];exact h1
    by_cases hlt:i<n
    .have:=hall i hlt;simp[h1]at this;simp[this,hlt]
    .have:=inv.tail i J hi;simp[h1]at this;simp[this,List.getElem_append,hlt]
  have hs:s=p8 (ds.zip vs) s0:=by
   refine St.ext' (funext fun t=>?_) (by rw[ww];exact agr.own);by_cases ht:∃j:Nat,ds[j]?=some t
   .obtain⟨j,hj⟩:=ht;have hjn:j<n:=by rw[<-hdl];exact(cb hj).1
    have hl:listed.getD j false=true:=by
     have h1:=hall j hjn;have h2:j<listed.size:=by rw[inv.size];omega
     simp[h2]at h1 ⊢;exact h1
    have hv:=agr.hit t j hjn hl hj;exact(wv _ s0 j t _ (GW hvl hj hv) (by rw[hzn];exact hd.nodup)).symm
   .rw[agr.miss t (fun j _ _ hj=>ht ⟨j,hj⟩),oI];intro p hp e;obtain⟨j,hj,rfl⟩:=mw hp;refine ht ⟨j,?_⟩;have:((ds.zip vs).map (·.1))[j]?=some t:=by rw[bw,bX hj];simp[<-e]
    rwa [hzn]at this
  rw[aM];have hlen:(ops.toList.drop n).length=ops.size-n:=ap;have:=n_ (P:=P) (ops:=ops) (md := .any) (Q':=Q) (ro:=ro) (nn:=nn) (ops.toList.drop n) n listed a w (fun j=>by rw[dF];simp) (by rw[hlen,hlist];exact hd.seq)
   (hend a w (by rw[<-hs];exact h))
  rwa [hlen]at this
 |succ m ih =>
  intro U listed s a w hU hnd hmem inv agr h;have hlt_in:∀i,i∈Region.ready .any ops listed->i<n:=by
   intro i hi;have hisz:i<ops.size:=by
    obtain⟨_,o,ho,_⟩:=mem_ready.1 hi;exact(iy ho).1
   rcases hd.tail with ht|⟨ht1,ht2⟩
   .omega
   .rcases bG i n with h1|h1
    .exact h1
    .cases hUU:U with
     |nil=>rw[hUU]at hU;simp at hU
     |cons u U' =>
      have hu:=(hmem u).1 (by rw[hUU];simp);exact absurd hi (tail_waits ht1 ht2 J inv _ u O hu.1 hu.2 i h1)
  rw[show m+1+(ops.size-n)=(m+(ops.size-n))+1 by omega];refine⟨fun hnil=>?_,fun i hi=>?_⟩
  .exfalso;obtain⟨i0,hi0,hmin⟩:∃i∈U,∀j∈U,i<=j:=by
    have hne:∃i,i∈U:=by
     cases hUU:U with
     |nil=>rw[hUU]at hU;simp at hU
     |cons u U'=>exact⟨u,ap⟩
    have hd':∀k,(∃i,i∈U/\i<=k)->∃i∈U,∀j∈U,i<=j:=by
     intro k
     induction k with
     |zero=>rintro⟨i,hi,h0⟩;exact⟨i,hi,fun j _=>by omega⟩
     |succ k ihk =>
      rintro⟨i,hi,hk⟩;by_cases hex:∃j,j∈U/\j<=k
      .exact ihk hex
      .refine⟨i,hi,fun j hj=>?_⟩;rcases bG j i with h1|h1
       .exact absurd ⟨j,hj,J⟩ hex
       .exact h1
    obtain⟨i,hi⟩:=hne;exact hd' i ⟨i,hi,aY⟩
   have hu:=(hmem i0).1 hi0;have hsz:i0<ops.size:=by have:=hd.le;omega
   have hr:i0∈Region.ready .any ops listed:=by
    refine mem_ready.2 ⟨hu.2,ops[i0],ee hsz,fun e he hb=>?_⟩;have hlt:=hd.lex i0 _ (ee hsz) e he hb;cases hl:listed.getD e.on true with
    |false =>
     have:=hmin e.on ((hmem e.on).2 ⟨J,hl⟩);omega
    |true =>
     have h2:e.on<listed.size:=by rw[inv.size];omega
     simp[h2]at hl ⊢;exact hl
   rw[hnil]at hr;cases hr
  .have hin:=hlt_in i hi;obtain⟨hun,o,ho,hall⟩:=mem_ready.1 hi;obtain⟨d,hdd,hod⟩:=hdi i o hin ho;have hiv:i<vs.length:=J;have hyi:=hy i o vs[i] (by rw[cJ,if_pos hin];simpa using ho) (bX hiv);have hisz:i<listed.size:=by rw[inv.size];exact(iy ho).1
   have hsame:∀t∈o.looksAt ops,(p8 ((ds.zip vs).take i) s0).reg t=s.reg t:=by
    intro t ht;by_cases hx:∃j:Nat,j<n/\ds[j]?=some t
    .obtain⟨j,hjn,hj⟩:=hx;obtain⟨hji,e,he,hb,hon⟩:=hd.looks i o hin ho t ht j hjn hj;have hl:listed.getD j false=true:=by rw[<-hon];exact hall e he hb
     have hv:=agr.hit t j hjn hl hj;refine wv _ s0 j t _ ?_ ?_
     .rw[cJ,if_pos hji];exact GW hvl hj hv
     .rw[j9,hzn];exact hd.nodup.sublist (ug _ _)
    .rw[agr.miss t (fun j hj _ hdj=>hx ⟨j,hj,hdj⟩),oI];intro p hp e;have hp':=dD hp;obtain⟨j,hj,rfl⟩:=mw hp';refine hx ⟨j,by simp at hj;omega,?_⟩;have:((ds.zip vs).map (·.1))[j]?=some t:=by rw[bw,bX hj];simp[<-e]
     rwa [hzn]at this
   have hyl:Yld P L ops s o vs[i]:=hyi.congr (by rw[ww];exact agr.own.symm) hsame;have hnext:∀a' w',SimE C (s.put o.dst vs[i]) a' w'->wpAnyIn (Fr ro) nn P .any ops Q (m+(ops.size-n)) (listed.setIfInBounds i true) a' w':=by
    intro a' w' h';have hUi:i∈U:=(hmem i).2 ⟨hin,hun⟩;refine ih (U.erase i) _ _ a' w' (by rw[zH hUi];omega) (hnd.erase i) (fun k=>?_) (inv.set hi hin) ?_ h'
    .rw[hnd.mem_erase_iff,hmem k];by_cases hki:k=i
     .subst hki;simp[hisz]
     .rw[getD_set_ne true (Ne.symm hki)];exact⟨fun x=>x.2,fun x=>⟨hki,x⟩⟩
    .have hreg:∀t,(s.put o.dst vs[i]).reg t=if t=d then vs[i] else s.reg t:=by
      intro t;rw[hod];show(bif Nat.beq t d then vs[i] else s.reg t)=_;by_cases htd:t=d
      .subst htd;simp
      .rw[cS htd,if_neg htd];rfl
     refine⟨by rw[hod];exact agr.own,fun t j hjn hl hj=>?_,fun t hm=>?_⟩
     .rw[hreg];by_cases htd:t=d
      .subst htd;rw[if_pos O,hinj j i t hj hdd];exact bX hiv
      .rw[if_neg htd];have hji:j≠i:=by
        intro e;subst e;rw[hdd]at hj;exact htd (cK hj).symm
       rw[getD_set_ne false (Ne.symm hji)]at hl;exact agr.hit t j hjn hl hj
     .rw[hreg];have hli:(listed.setIfInBounds i true).getD i false=true:=by simp[hisz]
      have htd:t≠d:=by
       intro e;subst e;exact hm i hin hli hdd
      rw[if_neg htd];refine agr.miss t fun j hjn hl hj=>?_;by_cases hji:j=i
      .subst hji;exact hm j hjn hli hj
      .exact hm j hjn (by rw[getD_set_ne false (Ne.symm hji)];exact hl) hj
   have hNo:eL C.N o.dst=true/\fC o.op=true:=hN o (by have:=t_ ho;simpa using this);unfold wpOpIn;rw[ho];simp only;rcases hyl with⟨hw,hq⟩|⟨hw,hq⟩
   .rw[if_pos (hw.spec h)];exact GU hNo.2 (hq.wp hG h hNo.1 hnext)
   .rw[if_neg (by rw[hw.spec h];simp)];refine⟨fun _ _=>trivial,hnext _ _ ?_⟩;rw[hq];exact h.put hNo.1 undef
end
variable [Globs]
def aE (next:St->Prop)(Q:Exit->St->Prop):Exit->St->Prop
 |.normal,s=>next s
 |e,s=>Q e s
def aw (id:Nat)(Q:Exit->St->Prop):Exit->St->Prop
 |.exit id',s=>if id'=id then Q .normal s else Q (.exit id') s
 |e,s=>Q e s
def Ghost (s s1:St):Prop:=∀C a w,(∀b,C.X b->b<C.B)->SimE C s a w->SimE C s1 a w
theorem Ghost.refl (s:St):Ghost s s:=fun _ _ _ _ h=>h
theorem Ghost.trans {s1 s2 s3:St}(h1:Ghost s1 s2)(h2:Ghost s2 s3):Ghost s1 s3:=fun C a w hx h=>h2 C a w hx (h1 C a w hx h)
def Gh (K:St->Prop)(s:St):Prop:=∃s1,Ghost s s1/\K s1
theorem Gh.of {K:St->Prop}{s:St}(h:K s):Gh K s:=⟨s,.refl s,h⟩
def Dk (C:Ctx):Prop:=C.dfs.Nodup/\∀D0∈C.dfs,C.B<=D0/\C.keep .dfd (.pointer (some ⟨D0,0,none⟩))
structure Ext (C C':Ctx):Prop where
 B:C'.B=C.B
 X:C'.X=C.X
 w0:C'.w0=C.w0
 N:C'.N=C.N
 keep:∀c v,C.keep c v->C'.keep c v
 dk:Dk C->Dk C'
theorem Ext.refl (C:Ctx):Ext C C:=⟨O,O,O,O,fun _ _ h=>h,id⟩
theorem Ext.trans {A C D0:Ctx}(h:Ext A C)(k:Ext C D0):Ext A D0:=⟨k.B.trans h.B,k.X.trans h.X,k.w0.trans h.w0,k.N.trans h.N,fun c v hk=>k.keep c v (h.keep c v hk),fun hk=>k.dk (h.dk hk)⟩
def Mk (X:Ctx->Ctx->Prop)(C:Ctx)(Q:Exit->St->Prop)(e:Exit)(a:Act)(w:World):Prop:=∃C' s,X C C'/\SimE C' s a w/\Q e s
def DA (P:Program)(L:dj)(g:Operand)(ps:Array Tmp)(assign body:Code)(Q:Exit->St->Prop)(s:St):Prop :=
 ∀(n:Nat) (C:Ctx) (a:Act) (w:World),Good P L C->SimE C s a w->jZ true C.N (.rangeFunc g ps assign body)=true->(∀s,¬Q .outgrown s)->(Code.rangeFunc g ps assign body).wpIn (Fr none) n P (Mk Ext C Q) a w
def SE (P:Program)(L:dj)(s:St)(o:Oper)(K:St->Prop):Prop:=∀(ro:Option Nat) (n:Nat) (C:Ctx) (a:Act) (w:World) (Q:Exit->Act->World->Prop),Good P L C->SimE C s a w->eL C.N o.dst=true->¬LetsOut Q ->
 o.wpIn (Fr ro) n P a w (fun a' w'=>∃s',SimE C s' a' w'/\K s') Q
def PSemI (P:Program)(L:dj)(ops:Array Oper)(K:St->Prop):List Oper->St->Prop
 |[],s=>K s
 |o::rest,s=>(Wants ops s o true/\(POp P L s o (PSemI P L ops K rest)\/Sm P L s o (PSemI P L ops K rest)\/SE P L s o (PSemI P L ops K rest)))\/(Wants ops s o false/\PSemI P L ops K rest (s.put o.dst (.raw undef)))
theorem PSemI.sound {P:Program}{L:dj}{C:Ctx}{ops:Array Oper}{ro:Option Nat}{n:Nat}(hG:Good P L C){K':St->Prop}{Q:Exit->Act->World->Prop}(hQ:¬LetsOut Q)(hK:∀s' a' w',SimE C s' a' w'->K' s'->Q .normal a' w') :
  ∀(l:List Oper) (s:St) (a:Act) (w:World),(∀o∈l,eL C.N o.dst=true/\fC o.op=true)->SimE C s a w->PSemI P L ops K' l s->wpListIn (Fr ro) n P ops Q l a w
 |[],s,a,w,_,h,hp=>hK s a w h hp
 |o::l,s,a,w,hN,h,hp=>by
  unfold wpListIn;have hN':∀o'∈l,eL C.N o'.dst=true/\fC o'.op=true:=fun o' ho'=>hN o' (by simp[ho']);obtain⟨h1,h2⟩:=hN o ap;rcases hp with⟨hw,hp⟩|⟨hw,hp⟩
  .rw[if_pos (hw.spec h)];rcases hp with hp|hp|hp
   .exact GU h2 (hp.wp hG h h1 fun s' a' w' h' hp'=>PSemI.sound hG hQ hK l s' a' w' hN' h' hp')
   .exact GU h2 (Oper.wp_mono (fun a' w' ⟨s',h',hp'⟩=>PSemI.sound hG hQ hK l s' a' w' hN' h' hp') (hp C a w _ hG h h1))
   .exact Oper.wpIn_mono (fun a' w' ⟨s',h',hp'⟩=>PSemI.sound hG hQ hK l s' a' w' hN' h' hp') (hp ro n C a w _ hG h h1 hQ)
  .rw[if_neg (by rw[hw.spec h];simp)];exact⟨fun _ _=>trivial,PSemI.sound hG hQ hK l _ _ w hN' (h.put h1 undef) hp⟩
def PDrawI (P:Program)(L:dj)(ops:Array Oper)(K:St->Prop)(s:St):Prop :=
 ∃n ds,r6 ops n ds=true/\PQuiet P L ops (fun s'=>PSemI P L ops K (ops.toList.drop n) s') (ops.toList.take n) s
section
variable {P:Program}{L:dj}{C:Ctx}{s:St}{a:Act}{w w':World}{ops:Array Oper}
theorem PDrawI.sound {ro:Option Nat}{nn:Nat}(hG:Good P L C){K':St->Prop}{Q:Exit->Act->World->Prop}(hK:∀s' a' w',SimE C s' a' w'->K' s'->Q .normal a' w')(hQ:¬LetsOut Q)(hN:∀o∈ops.toList,eL C.N o.dst=true/\fC o.op=true)
  (h:SimE C s a w) (hq:PDrawI P L ops K' s):wpAnyIn (Fr ro) nn P .any ops Q ops.size (Array.replicate ops.size false) a { w with drawn:=w.drawn+1 }:=by
 obtain⟨n,ds,hok,hq⟩:=hq;have hd:=BA hok;obtain⟨vs,h1,h2,h3⟩:=PQuiet.ylds _ ds s hd.dst hq;have hle:=hd.le;obtain⟨γ,h⟩:=h;have hget:∀(j:Nat) (d:Bool),(Array.replicate ops.size false).getD j d=if j<ops.size then false else d:=by
  intro j d;by_cases hj:j<ops.size
  .simp[hj]
  .simp[hj]
 have:=Hk (ro:=ro) (nn:=nn) hG hd (Q:=Q) hN h1 h2 (fun a w h=>PSemI.sound hG hQ hK _ _ a w (fun o ho=>hN o (lF ho)) h h3) n (List.range n) (Array.replicate ops.size false) s a _ ap Ad (fun i=>by
   rw[fP,hget];constructor
   .intro hi;exact⟨hi,by rw[if_pos J]⟩
   .exact fun x=>x.1)
  ⟨ap,(fun j oj _ hl=>by rw[hget]at hl;split at hl<;>cases hl),fun t ht1 ht2=>by rw[hget,if_pos ht2]⟩
  ⟨O,(fun t j _ hl=>by rw[hget]at hl;split at hl<;>cases hl),fun _ _=>rfl⟩ ⟨γ,h.ext (uZ w)⟩
 rwa [show n+(ops.size-n)=ops.size by omega]at this
end
def PWP (P:Program)(L:dj):Code->(Exit->St->Prop)->St->Prop
 |.skip,Q,s=>Gh (Q .normal) s
 |.region _ ops d,Q,s=>Gh (fun s=>bif d then(PDraw3 P L ops (Q .normal) s\/PTree0 P L ops (Q .normal) s\/PDrawI P L ops (Q .normal) s) else(POps P L ops (Q .normal) ops.toList s\/PSem P L ops (Q .normal) ops.toList s\/PSemI P L ops (Q .normal) ops.toList s)) s
 |.seq x y,Q,s=>PWP P L x (aE (fun s'=>PWP P L y Q s') Q) s
 |.cond c x y,Q,s=>Gh (fun s=>∃b,s.ev c=.bool b/\(b=true->PWP P L x Q s)/\(b=false->PWP P L y Q s)) s
 |.block id c,Q,s=>PWP P L c (aw id Q) s
 |.loop c,Q,s=>Gh (fun s=>∃(I:St->Prop) (μ:St->Nat),I s/\∀s,I s->PWP P L c (aE (fun s'=>I s'/\μ s'<μ s) Q) s) s
 |.exit id,Q,s=>Gh (Q (.exit id)) s
 |.ret,Q,s=>Gh (Q .ret) s
 |.label _,Q,s=>Gh (Q .normal) s
 |.rangeFunc g ps assign body,Q,s=>Gh (DA P L g ps assign body Q) s
 |_,_,_=>False
theorem ao {P:Program}{L:dj}{s s1:St}(hg:Ghost s s1):∀ {c:Code} {Q:Exit->St->Prop},PWP P L c Q s1->PWP P L c Q s
 |.skip,_,⟨s2,h1,h2⟩=>⟨s2,hg.trans h1,h2⟩
 |.region ..,_,⟨s2,h1,h2⟩=>⟨s2,hg.trans h1,h2⟩
 |.seq x _,_,h=>ao (c:=x) hg h
 |.cond ..,_,⟨s2,h1,h2⟩=>⟨s2,hg.trans h1,h2⟩
 |.block _ c,_,h=>ao (c:=c) hg h
 |.loop ..,_,⟨s2,h1,h2⟩=>⟨s2,hg.trans h1,h2⟩
 |.exit ..,_,⟨s2,h1,h2⟩=>⟨s2,hg.trans h1,h2⟩
 |.ret,_,⟨s2,h1,h2⟩=>⟨s2,hg.trans h1,h2⟩
 |.label ..,_,⟨s2,h1,h2⟩=>⟨s2,hg.trans h1,h2⟩
 |.goto ..,_,h=>h.elim
 |.rangeFunc ..,_,⟨s2,h1,h2⟩=>⟨s2,hg.trans h1,h2⟩
 |.scope ..,_,h=>h.elim
 |.refuse ..,_,h=>h.elim
section
variable {P:Program}{L:dj}{C:Ctx}{s:St}{a:Act}{w w':World}
def Up (C:Ctx)(Q:Exit->St->Prop)(e:Exit)(a:Act)(w:World):Prop:=∃s,SimE C s a w/\Q e s
theorem Good.ext {C':Ctx}(hG:Good P L C)(h:Ext C C'):Good P L C':=⟨hG.lay,by rw[h.X,h.B];exact hG.x,hG.mixed,by rw[h.B,h.w0];exact hG.glob⟩
theorem PWP.soundX {X:Ctx->Ctx->Prop}(hXr:∀C,X C C)(hXt:∀ {A B D0},X A B->X B D0->X A D0)(hXe:∀ {A B},X A B->Ext A B){r:Bool}{ro:Option Nat}(hr:r=true->ro=none/\∀A B,Ext A B->X A B){n:Nat} :
  ∀(c:Code) (Q:Exit->St->Prop) (C:Ctx) (s:St) (a:Act) (w:World),Good P L C->jZ r C.N c=true->(∀s,¬Q .outgrown s)->SimE C s a w->PWP P L c Q s->c.wpIn (Fr ro) n P (Mk X C Q) a w
 |.skip,Q,C,s,a,w,hG,_,_,h,⟨s1,g,hp⟩=>wpIn_skip ⟨C,s1,hXr C,g C a w hG.x h,hp⟩
 |.region id ops d,Q,C,s,a,w,hG,hc,hQ,h,hp=>by
  obtain⟨s1,g,hp⟩:=hp;replace h:=g C a w hG.x h;have hcc:∀o∈ops.toList,eL C.N o.dst=true/\fC o.op=true:=fun o ho=>by
   have:=ct.1 hc o ho;simpa using this
  have hN:∀o∈ops.toList,eL C.N o.dst=true:=fun o ho=>(hcc o ho).1;have hD:∀o∈ops.toList,fC o.op=true:=fun o ho=>(hcc o ho).2;have hL:¬LetsOut (Mk X C Q):=fun⟨_,_,_,s,_,_,hq⟩=>hQ s hq;have fin:∀s' a' w',SimE C s' a' w'->Q .normal s'->Mk X C Q .normal a' w':=fun s' a' w' h' hk=>⟨C,s',hXr C,h',hk⟩;cases d with
  |true =>
   rcases hp with hp|hp|hp
   .exact Fx hG.mixed hL hD (PDraw3.sound hG (Q:=Mk X C Q) fin hN h hp)
   .exact Fx hG.mixed hL hD (PTree0.sound hG (Q:=Mk X C Q) fin hN h hp)
   .exact wpIn_region_any hG.mixed (PDrawI.sound hG (Q:=Mk X C Q) fin hL hcc h hp)
  |false =>
   rcases hp with hp|hp|hp
   .exact yE hL hD (POps.sound hG (Q:=Mk X C Q) fin ops.toList s1 a w hN h hp)
   .exact yE hL hD (PSem.sound hG (Q:=Mk X C Q) fin ops.toList s1 a w hN h hp)
   .exact wpIn_region_list (PSemI.sound hG hL fin ops.toList s1 a w hcc h hp)
 |.seq x y,Q,C,s,a,w,hG,hc,hQ,h,hp=>by
  simp only[jZ,cm]at hc;refine wpIn_seq (wpIn_mono (PWP.soundX hXr hXt hXe hr x (aE (fun s'=>PWP P L y Q s') Q) C s a w hG hc.1 (fun s hq=>hQ s hq) h hp) ?_);rintro e a' w' ⟨C',s',hX,h',hq⟩;cases e
  case normal =>
   have he:=hXe hX;refine wpIn_mono (PWP.soundX hXr hXt hXe hr y Q C' s' a' w' (hG.ext he) (by rw[he.N];exact hc.2) hQ h' hq) ?_;rintro e2 a2 w2 ⟨C2,s2,hX2,h2,hq2⟩;exact⟨C2,s2,hXt hX hX2,h2,hq2⟩
  all_goals exact⟨C',s',hX,h',hq⟩
 |.cond c x y,Q,C,s,a,w,hG,hc,hQ,h,hp=>by
  simp only[jZ,cm]at hc;obtain⟨s1,g,b,hb,h1,h2⟩:=hp;obtain⟨γ,h'⟩:=g C a w hG.x h;have he:=h'.ev c;rw[hb]at he;refine wpIn_cond (t:=b) he.bool_inv ?_;cases b
  .exact PWP.soundX hXr hXt hXe hr y Q C s1 a w hG hc.2 hQ ⟨γ,h'⟩ (h2 O)
  .exact PWP.soundX hXr hXt hXe hr x Q C s1 a w hG hc.1 hQ ⟨γ,h'⟩ (h1 O)
 |.block id c,Q,C,s,a,w,hG,hc,hQ,h,hp=>by
  refine wpIn_block (wpIn_mono (PWP.soundX hXr hXt hXe hr c (aw id Q) C s a w hG hc (fun s hq=>hQ s hq) h hp) ?_);rintro e a' w' ⟨C',s',hX,h',hq⟩;cases e
  case exit id' =>
   show if id'=id then _ else _
   have hq':if id'=id then Q .normal s' else Q (.exit id') s':=hq
   split
   .rename_i hid;rw[if_pos hid]at hq';exact⟨C',s',hX,h',hq'⟩
   .rename_i hid;rw[if_neg hid]at hq';exact⟨C',s',hX,h',hq'⟩
  all_goals exact⟨C',s',hX,h',hq⟩
 |.loop c,Q,C,s,a,w,hG,hc,hQ,h,hp=>by
  obtain⟨s1,g,I,μ,h0,hround⟩:=hp;replace h:=g C a w hG.x h;let J0:Act->World->Nat->Prop:=fun a w n=>∃C' s,X C C'/\SimE C' s a w/\I s/\μ s=n;have least:∀a w,(∃n,J0 a w n)->∃n,J0 a w n/\∀m,J0 a w m->n<=m:=by
   intro a w ⟨n,hn⟩
   induction n using Nat.strongRecOn with
   |_ n ih =>
    by_cases hx:∃m,m<n/\J0 a w m
    .obtain⟨m,hm,hj⟩:=hx;exact ih m hm hj
    .exact⟨n,hn,fun m hm=>by
      rcases bG m n with h|h
      .exact absurd ⟨m,h,hm⟩ hx
      .exact h⟩
  have hμ:∃f:Act->World->Nat,∀a w,(∃n,J0 a w n)->J0 a w (f a w)/\∀m,J0 a w m->f a w<=m:=by
   refine⟨fun a w=>Classical.epsilon fun n=>J0 a w n/\∀m,J0 a w m->n<=m,fun a w hx=>?_⟩;exact zK (least a w hx)
  obtain⟨f,hf⟩:=hμ;refine wpIn_loop (fun a w=>∃C' s,X C C'/\SimE C' s a w/\I s) f ⟨C,s1,hXr C,h,h0⟩ ?_;rintro a1 w1 ⟨C1,s1,hX1,hs1,hI1⟩;obtain⟨⟨C2,s2,hX2,hs2,hI2,hm2⟩,_⟩:=hf a1 w1 ⟨_,C1,s1,hX1,hs1,hI1,O⟩;have he:=hXe hX2;refine wpIn_mono (PWP.soundX hXr hXt hXe hr c (aE (fun s'=>I s'/\μ s'<μ s2) Q) C2 s2 a1 w1 (hG.ext he) (by rw[he.N];exact hc) (fun s hq=>hQ s hq) hs2 (hround s2 hI2)) ?_;rintro e a3 w3 ⟨C3,s3,hX3,h3,hq⟩;cases e
  case normal =>
   obtain⟨i3,m3⟩:=hq;refine⟨⟨C3,s3,hXt hX2 hX3,h3,i3⟩,?_⟩;have:=(hf a3 w3 ⟨_,C3,s3,hXt hX2 hX3,h3,i3,O⟩).2 _ ⟨C3,s3,hXt hX2 hX3,h3,i3,O⟩;omega
  all_goals exact⟨C3,s3,hXt hX2 hX3,h3,hq⟩
 |.exit id,Q,C,s,a,w,hG,_,_,h,⟨s1,g,hp⟩=>wpIn_exit ⟨C,s1,hXr C,g C a w hG.x h,hp⟩
 |.ret,Q,C,s,a,w,hG,_,_,h,⟨s1,g,hp⟩=>wpIn_ret ⟨C,s1,hXr C,g C a w hG.x h,hp⟩
 |.label l,Q,C,s,a,w,hG,_,_,h,⟨s1,g,hp⟩=>wpIn_label ⟨C,s1,hXr C,g C a w hG.x h,hp⟩
 |.rangeFunc gg ps assign body,Q,C,s,a,w,hG,hc,hQ,h,⟨s1,g,hp⟩=>by
  have hrt:r=true:=by
   simp only[jZ,cm]at hc;exact hc.1.1.1
  obtain⟨rfl,hX⟩:=hr hrt;subst hrt;refine wpIn_mono (hp n C a w hG (g C a w hG.x h) hc hQ) ?_;rintro e a' w' ⟨C',s',he,h',hq⟩;exact⟨C',s',hX _ _ he,h',hq⟩
 |.goto _,_,_,_,_,_,_,_,_,_,hp=>hp.elim
 |.scope _,_,_,_,_,_,_,_,_,_,hp=>hp.elim
 |.refuse _,_,_,_,_,_,_,_,_,_,hp=>hp.elim
theorem PWP.sound (hG:Good P L C)(c:Code)(Q:Exit->St->Prop)(s:St)(a:Act)(w:World)(hc:nA C.N c=true)(hQ:∀s,¬Q .outgrown s)(h:SimE C s a w)(hp:PWP P L c Q s):c.wp P (Up C Q) a w:=by
 refine wpIn_wide (n:=0).1 (wpIn_mono (PWP.soundX (X:=fun A B=>A=B) (fun _=>rfl) (fun h k=>h.trans k) (fun h=>by subst h;exact .refl _) (r:=false) (ro:=none) (fun h=>by cases h) c Q C s a w hG hc hQ h hp) ?_);rintro e a' w' ⟨C',s',rfl,h',hq⟩;exact⟨s',h',hq⟩
def rv (L:dj)(s:St):ResultVar->Option (PV × Prop)
 |.tmp t=>some (s.reg t,True)
 |.cell t T=>qv L s (.load T (.tmp t))
def Lf (L:dj)(s:St):List ResultVar->Option (List PV × Prop)
 |[]=>some ([],True)
 |x::xs=>match rv L s x with
  |some (v,A)=>(match Lf L s xs with|some (vs,B)=>some (v::vs,A/\B)|none=>none)
  |none=>none
def mT:List PV->PV
 |[x]=>x
 |l => .tup l
def uU (L:dj)(fn:Func)(m:Mode)(r:PV)(s:St):Prop :=
 ∃l Cd d Cd2 fl,Lf L s fn.results.toList=some (l,Cd)/\Cd/\i_ s 5 (mT l)=some (d,Cd2,fl)/\Cd2/\(match m with | .shared=>True | .fresh=>fl.fr=true)/\d=r
def aj (L:dj)(fn:Func)(m:Mode)(r:PV):Exit->St->Prop
 |.normal,s | .ret,s=>uU L fn m r s
 |_,_=>False
def fM (pargs:List PV):St:={ reg:=fun t=>pargs.getD t (.raw undef),own:=fun _=>(0,none) }
theorem sK (hL:nt P L){γ:Nat->Option Nat}(h:Sim C γ s a w):∀(xs:List ResultVar) (l:List PV) (Cd:Prop),Lf L s xs=some (l,Cd)->Cd ->
  ∃vs:List Value,(∀w2:World,(∀a u,w.cell? a=some u->w2.cell? a=some u)->(xs.mapM (fun | .tmp t=>pure (a.tmps.getD t undef) | .cell p t=>do loadVar t (<-asAddr (a.tmps.getD p undef)):ResultVar->Sem Value)).run P w2=.ok vs w2)/\l.length=vs.length /\
   ∀(i:Nat) (c:PV) (v:Value),l[i]?=some c->vs[i]?=some v->Rep (aB C γ s w) c v
 |[],l,Cd,hq,_=>by
  simp only[Lf,bm,bH]at hq;obtain⟨rfl,_⟩:=hq;exact⟨[],fun _ _=>by simp,O,fun i c v h=>by simp at h⟩
 |x::xs,l,Cd,hq,hc=>by
  simp only[Lf]at hq;split at hq
  .rename_i v A hv;split at hq
   .rename_i vs B hvs;simp only[bm,bH]at hq;obtain⟨rfl,rfl⟩:=hq;obtain⟨us,h1,h2,h3⟩:=sK hL h xs vs B hvs hc.2;have key:∃u,(∀w2:World,(∀a u,w.cell? a=some u->w2.cell? a=some u)->((fun | .tmp t=>pure (a.tmps.getD t undef) | .cell p t=>do loadVar t (<-asAddr (a.tmps.getD p undef)):ResultVar->Sem Value) x).run P w2=.ok u w2)/\Rep (aB C γ s w) v u:=by
     cases x with
     |tmp t =>
      simp only[rv,bm,bH]at hv;obtain⟨rfl,_⟩:=hv;exact⟨_,fun _ _=>rfl,h.regs t⟩
     |cell p T =>
      obtain⟨u,e1,e2⟩:=yN (P:=P) hL h hv hc.1;refine⟨u,fun w2 hk=>?_,e2⟩;replace e1:=e1 w2 hk;have he:a.eval (.tmp p)=a.tmps.getD p undef:=O;rw[he]at e1;simp only[Sem.run_bind];generalize a.tmps.getD p undef=y at e1;unfold Instr.loadAt Instr.sureAddr at e1;split at e1
      .simpa [asAddr] using e1
      .simp at e1
    obtain⟨u,k1,k2⟩:=key;refine⟨u::us,fun w2 hk=>?_,by simp[h2],fun i c v' e1 e2=>?_⟩
    .rw[List.mapM_cons,Sem.run_bind,k1 w2 hk];simp only[Result.andThen_ok,Sem.run_bind,h1 w2 hk,Sem.run_pure]
    .cases i with
     |zero=>simp at e1 e2;subst e1;subst e2;exact k2
     |succ i=>exact h3 i c v' (by simpa using e1) (by simpa using e2)
   .cases hq
  .cases hq
theorem CU (hL:nt P L){γ:Nat->Option Nat}(h:Sim C γ s a w)  (xs:List ResultVar) (l:List PV) (Cd:Prop) (hq:Lf L s xs=some (l,Cd)) (hc:Cd) :
  ∃vs:List Value,(xs.mapM (fun | .tmp t=>pure (a.tmps.getD t undef) | .cell p t=>do loadVar t (<-asAddr (a.tmps.getD p undef)):ResultVar->Sem Value)).run P w=.ok vs w/\l.length=vs.length /\
   ∀(i:Nat) (c:PV) (v:Value),l[i]?=some c->vs[i]?=some v->Rep (aB C γ s w) c v:=by
 obtain⟨vs,h1,h2,h3⟩:=sK (P:=P) hL h xs l Cd hq hc;exact⟨vs,h1 _ fun _ _ h=>h,h2,h3⟩
theorem Ret.of_pwp {m : Mode}{f : FuncId}{fn : Func}{body : Code}{pargs : List PV}{r : PV}(hL : nt P L)(hm : P.follows .mixedOrders = true)(hf : P.funcs[f]?=some fn)(hb : fn.body = some body)(hn : (fn.name == "runtime.NumGoroutine") = false)
  (hlen:Nat.ble pargs.length fn.ntmps=true) (hc:nA fn.ntmps body=true) (h:PWP P L body (aj L fn m r) (fM pargs)):Ret P m f pargs r:=by
 refine⟨⟨fn,hf,hn,by simp[hb]⟩,fun w X args hg hX hl hargs=>?_⟩;let C:Ctx:=⟨w.heap.size,X,w,fn.ntmps,fun _ _=>False,[]⟩;have hG:Good P L C:=⟨hL,hX,hm,fun w' hb=>Globs.keep w w' hg hb⟩;have hle:args.length<=fn.ntmps:=by rw[<-hl];simpa using hlen
 have hsim:SimE C (fM pargs) { tmps:=args.toArray++Array.replicate (fn.ntmps-args.toArray.size) undef,defers:=[] } w:=by
  refine⟨fun _=>none,O,by simp[C];omega,fun t=>?_,fun k c hk=>by simp[fM]at hk,fun k k' c c' b hk=>by simp[fM]at hk,fun k c b hk=>by simp[fM]at hk,Below.refl _ _,aY,fun c v hk=>hk.elim⟩;show Rep _ (pargs.getD t (.raw undef)) _;rcases bG t args.length with hlt|hge
  .have hlt':t<pargs.length:=J;have e1:pargs.getD t (.raw undef)=pargs[t]:=by simp[hlt']
   have e2:(args.toArray++Array.replicate (fn.ntmps-args.toArray.size) undef).getD t undef=args[t]:=by
    rw[lE,qS (by simpa using hlt)];simp[hlt]
   rw[e1,e2];refine .d ((hargs t pargs[t] args[t] (bX hlt') (bX hlt)).weaken fun b hb=>⟨hb.1,hb.2,fun k c hk=>by simp[fM]at hk⟩)
  .have e1:pargs.getD t (.raw undef) = .raw undef:=by simp[fe (by omega:pargs.length<=t)]
   have e2:(args.toArray++Array.replicate (fn.ntmps-args.toArray.size) undef).getD t undef=undef:=by
    rw[lE,sd (by simpa using hge)];rcases bG (t-args.toArray.size) (fn.ntmps-args.toArray.size) with h1|h1
    .rw[qU,if_pos h1];rfl
    .rw[nI (by simpa using h1)];rfl
   rw[e1,e2];exact .d (.raw _)
 refine calls_of_wp hf hb (wp_mono (PWP.sound hG body _ _ _ w hc (fun _ hq=>hq) hsim h) ?_);have fin:∀ {s:St} {a:Act} {w':World},SimE C s a w'->uU L fn m r s->a.defers=[]/\∃v,(results fn a.tmps).run P w'=.ok v w'/\∃u,Ending.returned v=.returned u/\Below w.heap.size w w'/\DRep w' (m.ok X w w') r u:=by
  rintro s a w' ⟨γ,hs⟩ ⟨l,Cd,d,Cd2,fl,h1,h2,h3,h4,h5,rfl⟩;obtain⟨vs,g1,g2,g3⟩:=CU (P:=P) hL hs fn.results.toList l Cd h1 h2;have hbel:Below w.heap.size w w':=hs.below;have hok:∀k,gQ C γ s w' fl k->m.ok X w w' k:=by
   intro k hk;cases m with
   |shared=>exact⟨hk.1,hk.2.1⟩
   |fresh=>exact⟨hk.2.2.2 h5,hk.1⟩
  refine⟨hs.defers,?_⟩;have hrun:(results fn a.tmps).run P w'=.ok (if h:vs.toArray.size=1 then vs.toArray[0] else .tuple vs.toArray) w':=by
   unfold results;rw[<-ub (xs:=fn.results),uf];simp only[Sem.run_bind,Sem.run_map,Sem.run_pure];exact congrArg (fun q:Result (List Value)=>(q.andThen fun a w'=>Result.ok a.toArray w').andThen fun a w'=>Result.ok (if h:a.size=1 then a[0] else .tuple a) w') g1
  rw[hrun];refine⟨_,O,_,O,hbel,?_⟩;have hrep:Rep (aB C γ s w') (mT l) (if h:vs.toArray.size=1 then vs.toArray[0] else .tuple vs.toArray):=by
   match l,vs,g2,g3 with
   |[],[],_,_=>exact .tup [] [] rfl fun i c v e=>by simp at e
   |[c],[v],_,g3=>exact g3 0 c v rfl rfl
   |c1::c2::l,v1::v2::vs,hlen,g3 =>
    rw[dif_neg ap];exact .tup _ _ hlen g3
  exact(l5 hX hs 5 _ _ _ _ _ h3 h4 hrep).weaken hok
 rintro e a w' ⟨s,hs,hq⟩;cases e
 case normal=>exact fin hs hq
 case ret=>exact fin hs hq
 all_goals exact hq.elim
structure Taken (dfs:List Nat) (w w':World):Prop where
 os:w'.os=w.os
 tape:w'.tape=w.tape
 output:w'.output=w.output
 size:w'.heap.size=w.heap.size
 same:∀b,w'.heap[b]? = w.heap[b]? \/ (b∈dfs/\w.heap[b]?=some (.deferred (some [])))
theorem qR {fn:Func}{tmps:Array Value}{R:Ending->World->Prop}{n:Nat}(all:List Nat)(w0:World)(hfin:∀w',Taken all w0 w'->∃v,(results fn tmps).run P w'=.ok v w'/\R (.returned v) w') :
  ∀(l:List Nat) (w:World),l.Nodup->(∀D0∈l,D0∈all/\w.heap[D0]?=some (.deferred (some []))/\w0.heap[D0]?=some (.deferred (some [])))->Taken all w0 w->LeavesInM (Fr none) n P fn tmps R (l.map Ea) .returning w
 |[],w,_,_,ht=>hfin w ht
 |D0::l,w,hn,hd,ht=>by
  rw[rb]at hn;obtain⟨h1,h2,h3⟩:=hd D0 (.head _);refine⟨(fun e=>by cases e),.inl ⟨D0,_,O,run_takeDeferred h2,?_⟩⟩;have hlt:D0<w.heap.size:=(iy h2).1;have hoth:∀b,b≠D0->(w.putObj D0 (.deferred none)).heap[b]? = w.heap[b]? := fun b hb=>World.putObj_heap_other hb;refine qR all w0 hfin l _ hn.2 (fun D' hD'=>?_) ⟨ht.os,ht.tape,ht.output,?_,fun b=>?_⟩
  .obtain⟨q1,q2,q3⟩:=hd D' (.tail _ hD');have hne:D'≠D0:=fun e=>hn.1 (by rw[<-e];exact hD');exact⟨q1,by rw[hoth D' hne];exact q2,q3⟩
  .have:(w.putObj D0 (.deferred none)).heap.size=w.heap.size:=by simp[World.putObj]
   rw[this];exact ht.size
  .by_cases hb:b=D0
   .subst hb;exact .inr ⟨h1,h3⟩
   .rw[hoth b hb];exact ht.same b
theorem Ret.of_pwpR {m : Mode}{f : FuncId}{fn : Func}{body : Code}{pargs : List PV}{r : PV}(hL : nt P L)(hm : P.follows .mixedOrders = true)(hf : P.funcs[f]?=some fn)(hb : fn.body = some body)(hn : (fn.name == "runtime.NumGoroutine") = false)
  (hlen:Nat.ble pargs.length fn.ntmps=true) (hc:jZ true fn.ntmps body=true) (_hres:fn.results=fn.results) (h:PWP P L body (aj L fn m r) (fM pargs)):Ret P m f pargs r:=by
 refine⟨⟨fn,hf,hn,by simp[hb]⟩,fun w X args hg hX hl hargs=>?_⟩;let C:Ctx:=⟨w.heap.size,X,w,fn.ntmps,fun _ _=>False,[]⟩;have hG:Good P L C:=⟨hL,hX,hm,fun w' hb=>Globs.keep w w' hg hb⟩;have hle:args.length<=fn.ntmps:=by rw[<-hl];simpa using hlen
 have hsim:SimE C (fM pargs) { tmps:=args.toArray++Array.replicate (fn.ntmps-args.toArray.size) undef,defers:=[] } w:=by
  refine⟨fun _=>none,O,by simp[C];omega,fun t=>?_,fun k c hk=>by simp[fM]at hk,fun k k' c c' b hk=>by simp[fM]at hk,fun k c b hk=>by simp[fM]at hk,Below.refl _ _,aY,fun c v hk=>hk.elim⟩;show Rep _ (pargs.getD t (.raw undef)) _;rcases bG t args.length with hlt|hge
  .have hlt':t<pargs.length:=J;have e1:pargs.getD t (.raw undef)=pargs[t]:=by simp[hlt']
   have e2:(args.toArray++Array.replicate (fn.ntmps-args.toArray.size) undef).getD t undef=args[t]:=by
    rw[lE,qS (by simpa using hlt)];simp[hlt]
   rw[e1,e2];refine .d ((hargs t pargs[t] args[t] (bX hlt') (bX hlt)).weaken fun b hb=>⟨hb.1,hb.2,fun k c hk=>by simp[fM]at hk⟩)
  .have e1:pargs.getD t (.raw undef) = .raw undef:=by simp[fe (by omega:pargs.length<=t)]
   have e2:(args.toArray++Array.replicate (fn.ntmps-args.toArray.size) undef).getD t undef=undef:=by
    rw[lE,sd (by simpa using hge)];rcases bG (t-args.toArray.size) (fn.ntmps-args.toArray.size) with h1|h1
    .rw[qU,if_pos h1];rfl
    .rw[nI (by simpa using h1)];rfl
   rw[e1,e2];exact .d (.raw _)
 refine JG (ro:=none) (n:=0) (callsIn_of_wp_marks hf hb trivial (wpIn_mono (PWP.soundX (X:=Ext) .refl .trans id (r:=true) (ro:=none) (fun _=>⟨O,fun _ _ h=>h⟩) body _ C _ _ w hG hc (fun _ hq=>hq) hsim h) ?_));have fin:∀ {C':Ctx} {s:St} {a:Act} {w':World},Ext C C'->SimE C' s a w'->uU L fn m r s->LeavesInM (Fr none) 0 P fn a.tmps (fun e w'=>∃u,e=.returned u/\Below w.heap.size w w'/\DRep w' (m.ok X w w') r u) a.defers .returning w':=by
  rintro C' s a w' hE ⟨γ,hs⟩ ⟨l,Cd,d,Cd2,fl,h1,h2,h3,h4,h5,rfl⟩;obtain⟨vs',hvs,g2,g3⟩:=sK (P:=P) hL hs fn.results.toList l Cd h1 h2;have hX':∀b,C'.X b->b<C'.B:=by rw[hE.X,hE.B];exact hX
  have hBe:C'.B=w.heap.size:=hE.B;have hbel:Below w.heap.size w w':=by
   have:=hs.below;rw[hE.B,hE.w0]at this;exact this
  have hok:∀k,gQ C' γ s w' fl k->m.ok X w w' k:=by
   intro k hk;have h6:¬X k:=by have:=hk.2.1;rw[hE.X]at this;exact this
   cases m with
   |shared=>exact⟨hk.1,h6⟩
   |fresh=>exact⟨by rw[<-hBe];exact hk.2.2.2 h5,hk.1⟩
  obtain⟨hnd,hdk⟩:=hE.dk ⟨List.nodup_nil,fun D0 hD=>by cases hD⟩;have hD:∀D0∈C'.dfs,C'.B<=D0/\w'.heap[D0]?=some (.deferred (some [])):=fun D0 hD=>by
   obtain⟨q1,q2⟩:=hdk D0 hD;have:=hs.kept _ _ q2;cases this with
   |d hd=>cases hd
   |dfd _ hd=>exact⟨q1,hd⟩
  have hrep:Rep (aB C' γ s w') (mT l) (if h:vs'.toArray.size=1 then vs'.toArray[0] else .tuple vs'.toArray):=by
   match l,vs',g2,g3 with
   |[],[],_,_=>exact .tup [] [] rfl fun i c v e=>by simp at e
   |[c],[v],_,g3=>exact g3 0 c v rfl rfl
   |c1::c2::l,v1::v2::vs,hlen,g3 =>
    rw[dif_neg ap];exact .tup _ _ hlen g3
  have hdr:=(l5 hX' hs 5 _ _ _ _ _ h3 h4 hrep).weaken hok;rw[hs.defers];refine qR C'.dfs w' (fun w'' ht=>?_) C'.dfs w' hnd (fun D0 hDm=>⟨hDm,(hD D0 hDm).2,(hD D0 hDm).2⟩) ⟨O,O,O,O,fun b => .inl O⟩;have hkeep:∀b (o:Obj),w'.heap[b]?=some o->(∀ds,o ≠ .deferred ds)->w''.heap[b]?=some o:=fun b o ho hne=>by
   rcases ht.same b with q|⟨_,q⟩
   .rw[q];exact ho
   .rw[ho]at q;cases q;exact absurd O (hne _)
  have hcell:∀a u,w'.cell? a=some u->w''.cell? a=some u:=fun ad u hc=>by
   obtain⟨ob,q1,q2⟩:∃ob:Obj,w'.heap[ad.block]?=some ob/\∀ds,ob ≠ .deferred ds:=by
    simp only[World.cell?]at hc;cases hob:w'.heap[ad.block]? with
    |none=>rw[hob]at hc;simp at hc
    |some ob =>
     refine⟨ob,O,fun ds e=>?_⟩;subst e;rw[hob]at hc;simp at hc
   rw[World.cell?_of_block (w:=w') (a:=ad) ((hkeep ad.block ob q1 q2).trans q1.symm)];exact hc
  have hrun:(results fn a.tmps).run P w''=.ok (if h:vs'.toArray.size=1 then vs'.toArray[0] else .tuple vs'.toArray) w'':=by
   unfold results;rw[<-ub (xs:=fn.results),uf];simp only[Sem.run_bind,Sem.run_map,Sem.run_pure];exact congrArg (fun q:Result (List Value)=>(q.andThen fun a w'=>Result.ok a.toArray w').andThen fun a w'=>Result.ok (if h:a.size=1 then a[0] else .tuple a) w') (hvs w'' hcell)
  refine⟨_,hrun,_,O,hbel.trans ⟨ht.os,ht.tape,ht.output,by rw[ht.size];exact aY,fun b hb=>?_⟩,hdr.mono (fun b hb=>?_) (fun b o v _ hc=>?_) (fun b es k _ hc=>hkeep b _ hc (fun ds e=>by cases e))⟩
  .rcases ht.same b with q|⟨q1,_⟩
   .exact q
   .have:=(hD b q1).1;rw[hBe]at this;omega
  .cases m with
   |shared=>exact⟨by rw[ht.size];exact hb.1,hb.2⟩
   |fresh=>exact⟨hb.1,by rw[ht.size];exact hb.2⟩
  .obtain⟨ob,q1,q2⟩:∃ob:Obj,w'.heap[b]?=some ob/\∀ds,ob ≠ .deferred ds:=by
    simp only[World.cell?]at hc;cases hob:w'.heap[b]? with
    |none=>rw[hob]at hc;simp at hc
    |some ob =>
     refine⟨ob,O,fun ds e=>?_⟩;subst e;rw[hob]at hc;simp at hc
   rw[World.cell?_of_block (w:=w') (a:=⟨b,o,none⟩) ((hkeep b ob q1 q2).trans q1.symm)];exact hc
 rintro e a w' ⟨C',s,hE,hs,hq⟩;cases e
 case normal=>exact fin hE hs hq
 case ret=>exact fin hE hs hq
 all_goals exact hq.elim
def ak (L:dj)(fn:Func)(K:St->PV->Prop):Exit->St->Prop
 |.normal,s | .ret,s=>∃l Cd,Lf L s fn.results.toList=some (l,Cd)/\Cd/\K s (mT l)
 |_,_=>False
def bB (s:St)(pargs:List PV):St:={ reg:=fun t=>pargs.getD t (.raw undef),own:=s.own }
theorem cz {o:Oper}{fop:Operand}{args:Array Operand}{tys:Array TypeId}{f:FuncId}{caps:List PV}{fn:Func}{body:Code}{K:St->Prop}(hL:nt P L)(ho:o.op=.call ⟨.value fop,args,tys⟩)(hclo:s.ev fop=.clo f caps)
  (hf : P.funcs[f]?=some fn) (hb : fn.body = some body) (hn : (fn.name == "runtime.NumGoroutine") = false) (hlen : Nat.ble (args.toList.map s.ev ++ caps).length fn.ntmps = true) (hc : nA fn.ntmps body = true)
  (h:PWP P L body (ak L fn (fun s' r=>K (({ reg:=s.reg,own:=s'.own }:St).put o.dst r))) (bB s (args.toList.map s.ev++caps))):Sm P L s o K:=by
 intro C a w Q hG hs hN;obtain⟨γ,hs⟩:=hs;have hfv:=hs.ev fop;rw[hclo]at hfv;obtain⟨vs,hv,hcl,hcd⟩:=hfv.clo_inv;unfold Oper.wp;rw[nS (f:=f) ho hv ⟨fn,hf,hn,by simp[hb]⟩,Oper.upon_enter];let C':Ctx:=⟨C.B,C.X,C.w0,fn.ntmps,fun c v=>C.keep c v\/∃t,c=s.reg t/\v=a.tmps.getD t undef,[]⟩;have hG':Good P L C':=⟨hG.lay,hG.x,hG.mixed,hG.glob⟩;have hargs:∀(i:Nat) (c:PV) (v:Value),(args.toList.map s.ev++caps)[i]?=some c->(args.toList.map a.eval++vs)[i]?=some v->Rep (aB C γ s w) c v:=by
  intro i c v e1 e2;rw[jS]at e1 e2;simp only[aF]at e1 e2;split at e1
  .rename_i hlt;rw[if_pos hlt]at e2;rw[bw]at e1 e2;cases hx:args.toList[i]? with
   |none=>rw[hx]at e1;simp at e1
   |some x=>rw[hx]at e1 e2;simp at e1 e2;subst e1;subst e2;exact hs.ev x
  .rename_i hlt;rw[if_neg hlt]at e2;exact hcd _ c v e1 e2
 have hlv:(args.toList.map s.ev++caps).length=(args.toList.map a.eval++vs).length:=by simp[hcl]
 have hle:(args.toList.map a.eval++vs).length<=fn.ntmps:=by rw[<-hlv];simpa using hlen
 generalize args.toList.map s.ev++caps=pargs at h hargs hlv;generalize args.toList.map a.eval++vs=vargs at hargs hlv hle;have hsim:SimE C' (bB s pargs) { tmps:=vargs.toArray++Array.replicate (fn.ntmps-vargs.toArray.size) undef,defers:=[] } w:=by
  refine⟨γ,O,by simp[C'];omega,fun t=>?_,hs.sites,hs.inj,hs.base,hs.below,hs.top,?_⟩
  .show Rep (aB C γ s w) (pargs.getD t (.raw undef)) _;rcases bG t vargs.length with hlt|hge
   .have hlt':t<pargs.length:=J;have e1:pargs.getD t (.raw undef)=pargs[t]:=by simp[hlt']
    have e2:(vargs.toArray++Array.replicate (fn.ntmps-vargs.toArray.size) undef).getD t undef=vargs[t]:=by
     rw[lE,qS (by simpa using hlt)];simp[hlt]
    rw[e1,e2];exact hargs t pargs[t] vargs[t] (bX hlt') (bX hlt)
   .have e1:pargs.getD t (.raw undef) = .raw undef:=by simp[fe (by omega:pargs.length<=t)]
    have e2:(vargs.toArray++Array.replicate (fn.ntmps-vargs.toArray.size) undef).getD t undef=undef:=by
     rw[lE,sd (by simpa using hge)];rcases bG (t-vargs.toArray.size) (fn.ntmps-vargs.toArray.size) with h1|h1
     .rw[qU,if_pos h1];rfl
     .rw[nI (by simpa using h1)];rfl
    rw[e1,e2];exact .d (.raw _)
  .rintro c v (hk|⟨t,rfl,rfl⟩)
   .exact hs.kept c v hk
   .exact hs.regs t
 refine calls_of_wp hf hb (wp_mono (PWP.sound hG' body _ _ _ w hc (fun _ hq=>hq) hsim h) ?_)
 have fin:∀ {s':St} {a':Act} {w':World},SimE C' s' a' w'->(∃l Cd,Lf L s' fn.results.toList=some (l,Cd)/\Cd/\K (({ reg:=s.reg,own:=s'.own }:St).put o.dst (mT l))) ->
   a'.defers=[]/\∃v,(results fn a'.tmps).run P w'=.ok v w'/\∃s'',SimE C s'' (a.put o.dst v) w'/\K s'':=by
  rintro s' a' w' ⟨γ',hs'⟩ ⟨l,Cd,h1,h2,h3⟩;obtain⟨vs,g1,g2,g3⟩:=CU (P:=P) hL hs' fn.results.toList l Cd h1 h2;refine⟨hs'.defers,?_⟩;have hrun:(results fn a'.tmps).run P w'=.ok (if h:vs.toArray.size=1 then vs.toArray[0] else .tuple vs.toArray) w':=by
   unfold results;rw[<-ub (xs:=fn.results),uf];simp only[Sem.run_bind,Sem.run_map,Sem.run_pure];exact congrArg (fun q:Result (List Value)=>(q.andThen fun a w'=>Result.ok a.toArray w').andThen fun a w'=>Result.ok (if h:a.size=1 then a[0] else .tuple a) w') g1
  have hrep:Rep (aB C' γ' s' w') (mT l) (if h:vs.toArray.size=1 then vs.toArray[0] else .tuple vs.toArray):=by
   match l,vs,g2,g3 with
   |[],[],_,_=>exact .tup [] [] rfl fun i c v e=>by simp at e
   |[c],[v],_,g3=>exact g3 0 c v rfl rfl
   |c1::c2::l,v1::v2::vs,hlen,g3 =>
    rw[dif_neg ap];exact .tup _ _ hlen g3
  refine⟨_,hrun,_,⟨γ',?_⟩,h3⟩;have hback:Sim C γ' { reg:=s.reg,own:=s'.own } a w' :=
   ⟨hs.defers,hs.size,fun r=>hs'.kept _ _ (.inr ⟨r,O,O⟩),hs'.sites,hs'.inj,hs'.base,hs'.below,hs'.top,fun c v hk=>hs'.kept c v (.inl hk)⟩
  exact hback.put hN hrep
 rintro e a' w' ⟨s',hs',hq⟩;cases e
 case normal=>exact fin hs' hq
 case ret=>exact fin hs' hq
 all_goals exact hq.elim
end
end Go.Pv
namespace Go.Pv
open Go.RowKit
variable [Globs]
section
variable {P:Program}{L:dj}{Q:Exit->St->Prop}{K:St->Prop}{s:St}{ops:Array Oper}{rest:List Oper}{o:Oper}
theorem POp.mono' {K':St->Prop}(hk:∀s,K s->K' s)(h:POp P L s o K):POp P L s o K':=by
 rcases h with⟨pv,h1,h2⟩|⟨s',h1,h2⟩|h1
 .exact .inl ⟨pv,h1,hk _ h2⟩
 .exact .inr (.inl ⟨s',h1,hk _ h2⟩)
 .exact .inr (.inr (h1.mono hk))
theorem dH {x y:Code}(h:PWP P L x (aE (fun s'=>PWP P L y Q s') Q) s):PWP P L (.seq x y) Q s:=h
theorem Nv (h:Q .normal s):PWP P L .skip Q s:=Gh.of h
theorem Qn (h:Q .ret s):PWP P L .ret Q s:=Gh.of h
theorem Nu {id:Nat}(h:Q (.exit id) s):PWP P L (.exit id) Q s:=Gh.of h
theorem bZ {id:Nat}{l:List Oper}(h:POps P L l.toArray (Q .normal) l s):PWP P L (.region id l.toArray false) Q s:=Gh.of (.inl h)
theorem rq {K:St->Prop}:∀(l1 l2:List Oper) (s:St),POps P L ops (fun s'=>PSem P L ops K l2 s') l1 s->PSem P L ops K (l1++l2) s
 |[],_,_,h=>h
 |_::l1,l2,_,h=>h.imp (fun x=>⟨x.1,.inl (x.2.mono' fun s' h'=>rq l1 l2 s' h')⟩) (fun x=>⟨x.1,rq l1 l2 _ x.2⟩)
theorem aR {id:Nat}{l:List Oper}(n:Nat)(h:POps P L l.toArray (fun s'=>PSem P L l.toArray (Q .normal) (l.drop n) s') (l.take n) s):PWP P L (.region id l.toArray false) Q s:=by
 have:=rq (K:=Q .normal) (l.take n) (l.drop n) s h;rw[ef]at this;exact Gh.of (.inr (.inl this))
theorem sv {K:St->Prop}:∀(l1 l2:List Oper) (s:St),POps P L ops (fun s'=>PSemI P L ops K l2 s') l1 s->PSemI P L ops K (l1++l2) s
 |[],_,_,h=>h
 |_::l1,l2,_,h=>h.imp (fun x=>⟨x.1,.inl (x.2.mono' fun s' h'=>sv l1 l2 s' h')⟩) (fun x=>⟨x.1,sv l1 l2 _ x.2⟩)
theorem HZ {j e:Nat}{want:Bool}(hg:o.guard=some (j,want))(hd:(ops[j]?).bind (·.dst)=some e)(hr:s.reg e=.bool want)(h:SE P L s o (PSemI P L ops K rest)):PSemI P L ops K (o::rest) s := .inl ⟨.yes hg hd hr,.inr (.inr h)⟩
theorem yz (h:POps P L ops K rest s):PSemI P L ops K rest s:=by
 have:=sv (P:=P) (L:=L) (ops:=ops) (K:=K) rest [] s h;rwa [cu]at this
theorem br (hg:o.guard=none)(h:Sm P L s o (PSem P L ops K rest)):PSem P L ops K (o::rest) s := .inl ⟨.none hg,.inr h⟩
theorem aT (h:POps P L ops K rest s):PSem P L ops K rest s:=by
 have:=rq (P:=P) (L:=L) (ops:=ops) (K:=K) rest [] s h;rwa [cu]at this
theorem PQuiet.mono {K K':St->Prop}(hk:∀s,K s->K' s):∀(l:List Oper) (s:St),PQuiet P L ops K l s->PQuiet P L ops K' l s
 |[],s,h=>hk s h
 |_::l,_,h=>h.imp (fun⟨x,pv,y,z⟩=>⟨x,pv,y,PQuiet.mono hk l _ z⟩) (fun x=>⟨x.1,PQuiet.mono hk l _ x.2⟩)
theorem PSem.semI:∀(l:List Oper) (s:St),PSem P L ops K l s->PSemI P L ops K l s
 |[],_,h=>h
 |_::l,_,h=>h.imp (fun x=>⟨x.1,x.2.imp (POp.mono' fun s' h'=>PSem.semI l s' h') (fun y => .inl fun C a w Q hG hs hN=>Oper.wp_mono (fun _ _ ⟨s',e1,e2⟩=>⟨s',e1,PSem.semI l s' e2⟩) (y C a w Q hG hs hN))⟩) (fun x=>⟨x.1,PSem.semI l _ x.2⟩)
theorem mN {id:Nat}{l:List Oper}(n:Nat)(ds:List Nat)(hok:r6 l.toArray n ds=true)(h:PQuiet P L l.toArray (fun s'=>POps P L l.toArray (Q .normal) (l.drop n) s') (l.take n) s):PWP P L (.region id l.toArray true) Q s :=
 Gh.of (Or.inr (Or.inr ⟨n,ds,hok,PQuiet.mono (fun _ h=>PSem.semI _ _ (aT h)) _ _ h⟩))
theorem KL {id:Nat}{l:List Oper}(n:Nat)(ds:List Nat)(hok:r6 l.toArray n ds=true)(h:PQuiet P L l.toArray (fun s'=>PSemI P L l.toArray (Q .normal) (l.drop n) s') (l.take n) s):PWP P L (.region id l.toArray true) Q s :=
 Gh.of (Or.inr (Or.inr ⟨n,ds,hok,h⟩))
theorem bM {id:Nat}{l:List Oper}(Z Y0:List Nat)(f:Nat)(ch:List Nat)(hok:j3 l.toArray ch=true)(hlt:sa l.toArray ch f []=true)(h:P3 P L l.toArray (Pp Z Y0 f []) (gJ ch) (Q .normal) 0 l s):PWP P L (.region id l.toArray true) Q s :=
 Gh.of (Or.inl (.inl ⟨Z,Y0,f,[],ch,hok,hlt,h⟩))
theorem kq {id:Nat}{l:List Oper}(Z Y0:List Nat)(f:Nat)(ch F:List Nat)(hok:j3 l.toArray ch=true)(hlt:sa l.toArray ch f F=true)(h:P3 P L l.toArray (Pp Z Y0 f F) (gJ ch) (Q .normal) 0 l s):PWP P L (.region id l.toArray true) Q s :=
 Gh.of (Or.inl (.inl ⟨Z,Y0,f,F,ch,hok,hlt,h⟩))
theorem ip {id:Nat}{ops:List Oper}(l:List (Nat × Nat))(hok:j3 ops.toArray []=true)(hlc:D9 ops.toArray l=true)(h:P5 P L ops.toArray (l.map (·.2)) (zu l) (Q .normal) 0 ops s):PWP P L (.region id ops.toArray true) Q s :=
 Gh.of (Or.inl (.inr ⟨l,hok,hlc,h⟩))
theorem BV (ops:Array Oper)(ch:List Nat):sa ops ch 0 []=true:=by
 rw[sa,ct];intro i _;simp
theorem bL {id:Nat}{l:List Oper}(Z ch:List Nat)(hok:j3 l.toArray ch=true)(h:P3 P L l.toArray (Pp Z [] 0 []) (gJ ch) (Q .normal) 0 l s):PWP P L (.region id l.toArray true) Q s :=
 bM Z [] 0 ch hok (BV _ _) h
theorem Nw {id:Nat}{l:List Oper}(h:PTree P L l.toArray (Q .normal) l.length (Array.replicate l.length false) s):PWP P L (.region id l.toArray true) Q s :=
 Gh.of (Or.inr (Or.inl h))
theorem aV {c:Operand}{x y:Code}{b:Bool}(hc:s.ev c=.bool b)(h1:b=true->PWP P L x Q s)(h2:b=false->PWP P L y Q s):PWP P L (.cond c x y) Q s:=Gh.of ⟨b,hc,h1,h2⟩
theorem Ny {c:Operand}{x y:Code}(hc:s.ev c=.bool true)(h1:PWP P L x Q s):PWP P L (.cond c x y) Q s:=Gh.of ⟨true,hc,fun _=>h1,fun h=>by cases h⟩
theorem KM {c:Operand}{x y:Code}(hc:s.ev c=.bool false)(h1:PWP P L y Q s):PWP P L (.cond c x y) Q s:=Gh.of ⟨false,hc,(fun h=>by cases h),fun _=>h1⟩
theorem dO {next:St->Prop}(h:next s):aE next Q .normal s:=h
theorem Ot {id:Nat}(h:Q .normal s):aw id Q (.exit id) s:=by show if id=id then _ else _;rw[if_pos O];exact h
theorem Oq {id id':Nat}(hne:Nat.beq id' id=false)(h:Q (.exit id') s):aw id Q (.exit id') s:=by
 show if id'=id then _ else _
 rw[if_neg (fun e=>by subst e;simp at hne)];exact h
variable {d e j:Nat}{op:Op}{ty:TypeId}{pos:String}{af:Array Edge}{want:Bool}
theorem bJ (h:K s):POps P L ops K [] s:=h
theorem aC (h:POp P L s ⟨some d,op,ty,pos,af,none⟩ (POps P L ops K rest)):POps P L ops K (⟨some d,op,ty,pos,af,none⟩::rest) s := .inl ⟨.none O,h⟩
theorem eF (h:POp P L s ⟨none,op,ty,pos,af,none⟩ (POps P L ops K rest)):POps P L ops K (⟨none,op,ty,pos,af,none⟩::rest) s := .inl ⟨.none O,h⟩
theorem eg (h:K s):PQuiet P L ops K [] s:=h
theorem lY {pv:PV}{Cd:Prop}(hq:qv L s op=some (pv,Cd))(hc:Cd)(h:POps P L ops K rest (s.putR d pv)):POps P L ops K (⟨some d,op,ty,pos,af,none⟩::rest) s:=aC (.inl ⟨pv,.v hq hc,h⟩)
theorem RL {pv:PV}{Cd:Prop}{g:Option (Nat × Bool)}(hq:qv L s op=some (pv,Cd))(hc:Cd)(h:K (s.putR d pv)):POp P L s ⟨some d,op,ty,pos,af,g⟩ K := .inl ⟨pv,.v hq hc,h⟩
theorem oX {pv:PV}{g:Option (Nat × Bool)}(hq:QOp P L s ⟨some d,op,ty,pos,af,g⟩ pv)(h:K (s.putR d pv)):POp P L s ⟨some d,op,ty,pos,af,g⟩ K := .inl ⟨pv,hq,h⟩
section ops
variable {g:Option (Nat × Bool)}{T:TypeId}{x y:Operand}{r re:LRow}{E:TypeId}
theorem KN {ix:Operand}{rows:List (List PV)}{row:List PV}{k:IntKind}{n:Int}(hr:L T=some r)(hs:r.sh=.sl E)(hre:L E=some re)(hx:s.ev x=.sl rows)(hix:s.ev ix=.int k n)(h0:0<=n)(hrow:rows[n.toNat]?=some row)
  (hlen:row.length=re.size):QOp P L s ⟨some d,.indexAddr T x ix,ty,pos,af,g⟩ (.dref row 0) := .idx O hr hs hre (.inl hx) hix h0 hrow hlen
theorem nP {ix:Operand}{rows:List (List PV)}{row:List PV}{k:IntKind}{n:Int}(hr:L T=some r)(hs:r.sh=.sl E)(hre:L E=some re)(hx:s.ev x=.fsl rows)(hix:s.ev ix=.int k n)(h0:0<=n)(hrow:rows[n.toNat]?=some row)
  (hlen:row.length=re.size):QOp P L s ⟨some d,.indexAddr T x ix,ty,pos,af,g⟩ (.dref row 0) := .idx O hr hs hre (.inr hx) hix h0 hrow hlen
theorem lK {α:Type}{enc:α->List PV}{l:List α}{a:α}{ix:Operand}{k:IntKind}{n:Int}(hr:L T=some r)(hs:r.sh=.sl E)(hre:L E=some re)(hx:s.ev x=.sl (l.map enc))(hix:s.ev ix=.int k n)(h0:0<=n)(hget:l[n.toNat]?=some a)
  (hlen:(enc a).length=re.size):QOp P L s ⟨some d,.indexAddr T x ix,ty,pos,af,g⟩ (.dref (enc a) 0):=KN hr hs hre hx hix h0 (by rw[bw,hget];rfl) hlen
theorem Nz {α:Type}{enc:α->List PV}{l:List α}{a:α}{ix:Operand}{k:IntKind}{n:Int}(hr:L T=some r)(hs:r.sh=.sl E)(hre:L E=some re)(hx:s.ev x=.fsl (l.map enc))(hix:s.ev ix=.int k n)(h0:0<=n)(hget:l[n.toNat]?=some a)
  (hlen:(enc a).length=re.size):QOp P L s ⟨some d,.indexAddr T x ix,ty,pos,af,g⟩ (.dref (enc a) 0):=nP hr hs hre hx hix h0 (by rw[bw,hget];rfl) hlen
theorem cF {ix:Operand}{k:IntKind}{n:Int}{st gn i m:Nat}{c:Cont}(hr:L T=some r)(hs:r.sh=.sl E)(hre:L E=some re)(hx:s.ev x=.als st gn i m)(hown:s.own st=(gn,some c))(hsz:c.sz=re.size)(hix:s.ev ix=.int k n)(h0:0<=n)(hlt:n<m) :
  QOp P L s ⟨some d,.indexAddr T x ix,ty,pos,af,g⟩ (.ptr st gn (i+n.toNat) 0) := .idxA O hr hs hre hx hown hsz hix h0 hlt
theorem RP {lo hi:Option Operand}{st gn i m:Nat}{c:Cont}(l h:Nat)(hr:L T=some r)(hs:r.sh=.sl E)(hre:L E=some re)(hx:s.ev x=.als st gn i m)(hown:s.own st=(gn,some c))(hsz:c.sz=re.size)(hlo:Jg s lo 0 l)(hhi:Jg s hi m h)(hlt:l<h)(hle:h<=m) :
  QOp P L s ⟨some d,.slice T x lo hi none,ty,pos,af,g⟩ (.als st gn (i+l) (h-l)) := .slA O hr hs hre hx hown hsz hlo hhi hlt hle
theorem RQ {lo hi:Option Operand}{α:Type}{e:α->List PV}{q:List α}(l h:Nat)(hr:L T=some r)(hs:r.sh=.sl E)(hre:L E=some re)(hx:s.ev x=.fsl (q.map e))(hlo:Jg s lo 0 l)(hhi:Jg s hi q.length h)(hlh:l<=h)(hle:h<=q.length)(hlen:∀a,(e a).length=re.size) :
  QOp P L s ⟨some d,.slice T x lo hi none,ty,pos,af,g⟩ (.fsl (((q.take h).drop l).map e)):=by
 have:=QOp.slg (P:=P) (L:=L) (s:=s) (o:=⟨some d,.slice T x lo hi none,ty,pos,af,g⟩) true O hr hs hre hx hlo (by rw[aF];exact hhi) hlh (by rw[aF];exact hle) (fun row hrow=>by obtain⟨a,_,rfl⟩:=aW.1 hrow;exact hlen a);rw[cond_true,<-j9,<-List.map_drop]at this;exact this
theorem du {st gn i jj:Nat}{c:Cont}{row:List PV}{pv:PV}(hr:L T=some r)(hx:s.ev x=.ptr st gn i jj)(hown:s.own st=(gn,some c))(hrow:c.rows[i]?=some row)(hp:part r row jj=some pv) :
  QOp P L s ⟨some d,.load T x,ty,pos,af,g⟩ pv := .ldp O hr hx hown hrow hp
theorem gC {fop:Operand}{args:Array Operand}{tys:Array TypeId}{f:FuncId}{caps pargs:List PV}{Cd:Prop}{b:Fl}{rr:PV}(hf:s.ev fop=.clo f caps)(hret:Ret P .shared f pargs rr)(hres:ja (i_ s 4) (args.toList.map s.ev++caps)=some (pargs,Cd,b))(hc:Cd)(hb:b.cl=true) :
  QOp P L s ⟨some d,.call ⟨.value fop,args,tys⟩,ty,pos,af,g⟩ rr := .call O hf hres hc hb hret
theorem Gy {fop:Operand}{args:Array Operand}{tys:Array TypeId}{f:FuncId}{caps pargs:List PV}{Cd:Prop}{b:Fl}{rr rf:PV}(hf:s.ev fop=.clo f caps)(hret:Ret P .fresh f pargs rr)(hres:ja (i_ s 4) (args.toList.map s.ev++caps)=some (pargs,Cd,b))(hc:Cd)(hrf:rr.frs.fz=some rf) :
  QOp P L s ⟨some d,.call ⟨.value fop,args,tys⟩,ty,pos,af,g⟩ rf:=by
 rw[PV.fz_eq]at hrf;have:=QOp.callF (P:=P) (L:=L) (o:=⟨some d,.call ⟨.value fop,args,tys⟩,ty,pos,af,g⟩) O hf hres hc hret;rwa [cK hrf]at this
theorem uE {fop:Operand}{args:Array Operand}{tys:Array TypeId}{f:FuncId}{caps pargs:List PV}{Cd:Prop}{b:Fl}{rr rf:PV}(hf:s.ev fop=.clo f caps)(hret:Ret P .shared f pargs rr)(hres:ja (i_ s 4) (args.toList.map s.ev++caps)=some (pargs,Cd,b))(hc:Cd)(hfl:rr.flat=true)(hrf:rr.frs.fz=some rf) :
  QOp P L s ⟨some d,.call ⟨.value fop,args,tys⟩,ty,pos,af,g⟩ rf:=Gy hf (hret.fresh_of_flat hfl) hres hc hrf
theorem RK {v:PV}{gn:Nat}{oc:Option Cont}{Pr:Prop}(hx:(s.ev x).fz=some v)(hown:s.own d=(gn,oc))(h1:gh s v.cells=some Pr)(h2:Pr)(h0:Nat.blt 0 v.cells.length=true)
  (h:K ((s.setOwn d (gn+1) (some ⟨T,v.cells.length,[v.cells],2⟩)).putR d (.ptr d (gn+1) 0 0))):POp P L s ⟨some d,.box T x,ty,pos,af,g⟩ K:=by
 rw[PV.fz_eq]at hx;have hx':=cK hx;refine .inr (.inl ⟨_,.box O O (by rw[hx'];exact h1) h2 (by rw[hx'];simpa using h0),?_⟩);rw[hx',St.fin,hown];exact h
theorem Ni {z:List PV}{gn:Nat}{oc:Option Cont}(hr:L T=some r)(hz:r.zero=some z)(hown:s.own d=(gn,oc))(h0:Nat.blt 0 z.length=true)
  (h:K ((s.setOwn d (gn+1) (some ⟨T,z.length,[z],2⟩)).putR d (.ptr d (gn+1) 0 0))):POp P L s ⟨some d,.alloc T,ty,pos,af,g⟩ K:=by
 refine .inr (.inl ⟨_,.alloc O O hr hz (by simpa using h0),?_⟩);rw[St.fin,hown];exact h
theorem Kv {v:PV}{k gn jj:Nat}{tc:TypeId}{sz:Nat}{row new:List PV}{Pr:Prop}(hr:L T=some r)(hx:s.ev x=.ptr k gn 0 jj)(hown:s.own k=(gn,some ⟨tc,sz,[row],2⟩))(hv:(s.ev y).fz=some v)(h1:gh s v.cells=some Pr)(h2:Pr)
  (hsz:v.cells.length=r.size) (hle:Nat.ble (jj+r.size) row.length=true) (hnew:oZ row jj v.cells=new) (h:K (s.setOwn k gn (some ⟨tc,sz,[new],2⟩))):POp P L s ⟨none,.store T x y,ty,pos,af,g⟩ K:=by
 rw[PV.fz_eq]at hv;have hv':=cK hv;refine .inr (.inl ⟨_,.store 2 O O hr hx hown (by rfl) (by rw[hv'];exact h1) h2 (by rw[hv'];exact hsz) (by simpa using hle) (aY) (by rw[ct];intro c _;cases c<;>rfl),?_⟩);have hm:∀l:List PV,l.map (jP 2)=l:=by intro l;induction l with|nil=>rfl|cons c l ih=>rw[cn,ih];cases c<;>rfl
 rw[hv',hm];have:([row]:List (List PV)).set 0 (oZ row jj v.cells)=[new]:=by rw[hnew];rfl
 rw[this];exact h
theorem cP {v:PV}{k gn i jj kd kd':Nat}{tc:TypeId}{sz:Nat}{rows:List (List PV)}{row:List PV}{Pr:Prop}(hr:L T=some r)(hx:s.ev x=.ptr k gn i jj)(hown:s.own k=(gn,some ⟨tc,sz,rows,kd⟩))(hrow:rows[i]?=some row)(hv:(s.ev y).fz=some v)(h1:gh s v.cells=some Pr)(h2:Pr)
  (hsz:v.cells.length=r.size) (hle:Nat.ble (jj+r.size) row.length=true) (hk:Nat.ble kd kd'=true) (hkd:v.cells.all (tT kd')=true) (h:K (s.setOwn k gn (some ⟨tc,sz,rows.set i (oZ row jj (v.cells.map (jP kd'))),kd'⟩))):POp P L s ⟨none,.store T x y,ty,pos,af,g⟩ K:=by
 rw[PV.fz_eq]at hv;have hv':=cK hv;refine .inr (.inl ⟨_,.store kd' O O hr hx hown hrow (by rw[hv'];exact h1) h2 (by rw[hv'];exact hsz) (by simpa using hle) (by simpa using hk) (by rw[hv'];exact hkd),?_⟩);rw[hv'];exact h
theorem bO {k gn m k1 k2:Nat}{tc:TypeId}{sz:Nat}{rows1 rows2:List (List PV)}{Cd2:Prop}(kd:Nat)(hr:L T=some r)(hs:r.sh=.sl E)(hre:L E=some re)(hz:re.zero.isSome=true)(hsz:Nat.blt 0 re.size=true)(hx:s.ev x=.als k gn 0 m)(hown:s.own k=(gn,some ⟨tc,sz,rows1,k1⟩))
  (hcs:sz=re.size) (hct:tc=E) (hq:pn s (s.ev y)=some (rows2,k2,Cd2)) (hm:m=rows1.length) (hc2:Cd2) (hlen:∀row∈rows2,row.length=re.size) (hk1:Nat.ble k1 kd=true) (hk2:Nat.ble k2 kd=true) (hb:(rows1.length+rows2.length)*re.bytes<=140737488355328) (h63:rows1.length+rows2.length<=9223372036854775807)
  (h:K ((s.setOwn k (gn+1) (some ⟨E,re.size,rows1++rows2,kd⟩)).putR d (.als k (gn+1) 0 (rows1++rows2).length))) :
  POp P L s ⟨some d,.call ⟨.builtin .append,#[x,y],#[T,T]⟩,ty,pos,af,g⟩ K:=by
 refine .inr (.inl ⟨_,.app kd O O hr hs hre hz (by simpa using hsz) hx hown hm hcs hct hq hc2 hlen (by simpa using hk1) (by simpa using hk2) hb h63,?_⟩);rw[St.fin,hown];exact h
theorem mK {l c:Operand}{kl kc:IntKind}{n:Int}{z:List PV}{gn:Nat}{oc:Option Cont}(hr:L T=some r)(hs:r.sh=.sl E)(hre:L E=some re)(hz:re.zero=some z)(hsz:Nat.blt 0 re.size=true)(hl:s.ev l=.int kl n)(hc:s.ev c=.int kc n)(hown:s.own d=(gn,oc))
  (h0:0<=n) (hb:(re.bytes:Int)*n<=140737488355328) (h63:n<=9223372036854775807) (h:K ((s.setOwn d (gn+1) (some ⟨E,re.size,List.replicate n.toNat z,0⟩)).putR d (.als d (gn+1) 0 (List.replicate n.toNat z).length))) :
  POp P L s ⟨some d,.makeSlice T l c,ty,pos,af,g⟩ K:=by
 refine .inr (.inl ⟨_,.make O O hr hs hre hz (by simpa using hsz) hl hc h0 (oE _) hb h63,?_⟩);rw[St.fin,hown];exact h
theorem Nk {l c:Operand}{kl kc:IntKind}{n m:Int}{z:List PV}{gn:Nat}{oc:Option Cont}(hr:L T=some r)(hs:r.sh=.sl E)(hre:L E=some re)(hz:re.zero=some z)(hsz:Nat.blt 0 re.size=true)(hl:s.ev l=.int kl n)(hc:s.ev c=.int kc m)(hown:s.own d=(gn,oc))
  (h0:0<=n) (hnm:n<=m) (hb:(re.bytes:Int)*m<=140737488355328) (h63:m<=9223372036854775807) (h:K ((s.setOwn d (gn+1) (some ⟨E,re.size,List.replicate n.toNat z,0⟩)).putR d (.als d (gn+1) 0 (List.replicate n.toNat z).length))) :
  POp P L s ⟨some d,.makeSlice T l c,ty,pos,af,g⟩ K:=by
 refine .inr (.inl ⟨_,.make O O hr hs hre hz (by simpa using hsz) hl hc h0 hnm hb h63,?_⟩);rw[St.fin,hown];exact h
theorem Nj {fop:Operand}{args:Array Operand}{tys:Array TypeId}{f:FuncId}{caps pargs:List PV}{Cd:Prop}{b:Fl}{sz gn:Nat}{oc:Option Cont}{rows:List (List PV)}
  (hf:s.ev fop=.clo f caps) (hret:RetO P f pargs T sz rows) (hres:ja (i_ s 4) (args.toList.map s.ev++caps)=some (pargs,Cd,b)) (hc:Cd) (hown:s.own d=(gn,oc))
  (h:K ((s.setOwn d (gn+1) (some ⟨T,sz,rows,0⟩)).putR d (.als d (gn+1) 0 rows.length))):POp P L s ⟨some d,.call ⟨.value fop,args,tys⟩,ty,pos,af,g⟩ K:=by
 refine .inr (.inl ⟨_,.callO O O hf hret hres hc,?_⟩);rw[St.fin,hown];exact h
def mE (s:St)(kd:Nat):List (Nat × Operand)->Option (List (List PV))
 |[]=>some []
 |p::ps=>match (s.ev p.2).fz with
  |some v=>(match mE s kd ps with|some rs=>some (v.cells.map (jP kd)::rs)|none=>none)
  |none=>none
theorem mG (kd:Nat):∀(ps:List (Nat × Operand)) (rows:List (List PV)),mE s kd ps=some rows->rows=ps.map fun p=>(s.ev p.2).cells.map (jP kd)
 |[],rows,h=>by simp[mE]at h;exact h
 |p::ps,rows,h=>by
  simp only[mE,PV.fz_eq]at h;split at h
  .rename_i rs hrs;have:=mG kd ps rs hrs;have h':=cK h;rw[<-h',this];rfl
  .cases h
def HT:Nat->Nat->List Nat
 |_,0=>[]
 |k,n+1=>k::HT (k+1) n
theorem mJ:∀(n k:Nat),HT k n=(List.range n).map (k+·)
 |0,k=>rfl
 |n+1,k=>by
  rw[HT,mJ n (k+1),zJ];simp only[cn,dU,jH];congr 1;apply da;intro i _;simp;omega
theorem bb {n gn:Nat}{ps:List (Nat × Operand)}{oc:Option Cont}{rows:List (List PV)}{Pr:Prop}(kd:Nat)(hr:L T=some r)(hs:r.sh=.sl E)(hre:L E=some re)(hz:re.zero.isSome=true)(hsz:Nat.blt 0 re.size=true)(hown:s.own d=(gn,oc))(hrows:mE s kd ps=some rows)
  (hn:ps.map (·.1)=HT 0 n) (hN:Nat.ble (n*re.size) 16777216=true) (hcells:ps.all (fun p=>Nat.beq (s.ev p.2).cells.length re.size)=true) (h1:gh s (ps.flatMap fun p=>(s.ev p.2).cells)=some Pr) (h2:Pr) (hkd:(ps.flatMap fun p=>(s.ev p.2).cells).all (tT kd)=true)
  (h:K ((s.setOwn d (gn+1) (some ⟨E,re.size,rows,kd⟩)).putR d (.als d (gn+1) 0 rows.length))):POp P L s ⟨some d,.buildSlice T n ps.toArray,ty,pos,af,g⟩ K:=by
 refine .inr (.inl ⟨_,.slit kd O O hr hs hre hz (by simpa using hsz) (by rw[mJ]at hn;simpa using hn) (by simpa using hN) (fun p hp=>?_) h1 h2 hkd,?_⟩)
 .have:=ct.1 hcells p hp;simpa using this
 .rw[St.fin,hown];rw[mG kd ps rows hrows]at h;exact h
theorem Nl {gn:Nat}{oc:Option Cont}(hown:s.own d=(gn,oc))(h:K ((s.setOwn d (gn+1) (some ⟨T,0,[],0⟩)).putR d (.mp d (gn+1)))):POp P L s ⟨some d,.makeMap T none,ty,pos,af,g⟩ K:=by
 refine .inr (.inl ⟨_,.makeMap O O,?_⟩);rw[St.fin,hown];exact h
theorem Ku {V:TypeId}{x y v:Operand}{k gn kd:Nat}{rows:List (List PV)}{T':TypeId}{key pv:PV}(kd':Nat)(hr:L T=some r)(hs:r.sh=.map E V)(hre:L E=some re)(hx:s.ev x=.mp k gn)(hown:s.own k=(gn,some ⟨T',0,rows,kd⟩))(hk1:Nat.ble kd kd'=true)(hk3:Nat.blt kd' 3=true)
  (hy:(s.ev y).fz=some key) (hky:re.sh.key key=true) (hkeys:pe re.sh rows=true) (hv:(s.ev v).fz=some pv) (hkd:tT kd' pv=true) (h:K (s.setOwn k gn (some ⟨T',0,we key (jP kd' pv) rows,kd'⟩))):POp P L s ⟨none,.mapUpdate T x y v,ty,pos,af,g⟩ K:=by
 rw[PV.fz_eq]at hy hv;have hy:=cK hy;have hv:=cK hv;exact .inr (.inl ⟨_,.mapSet kd' O O hr hs hre hx hown (by simpa using hk1) (by simpa using hk3) (by rw[hy];exact hky) hkeys (by rw[hv];exact hkd),by rw[hy,hv];exact h⟩)
theorem Qo {V:TypeId}{rv:LRow}{k gn kd:Nat}{rows:List (List PV)}{T':TypeId}{key z:PV}(hr:L T=some r)(hs:r.sh=.map E V)(hre:L E=some re)(hrv:L V=some rv)(hz:rv.zero=some [z])(hz1:Mj P V=true)(hx:s.ev x=.mp k gn)(hown:s.own k=(gn,some ⟨T',0,rows,kd⟩))(hkd:Nat.blt kd 3=true)
  (hy:(s.ev y).fz=some key) (hky:re.sh.key key=true) (hkeys:pe re.sh rows=true):QOp P L s ⟨some d,.lookup T x y false,ty,pos,af,g⟩ (sf z key rows):=by
 rw[PV.fz_eq]at hy;have hy:=cK hy;have:=QOp.look (P:=P) (L:=L) (s:=s) (o:=⟨some d,.lookup T x y false,ty,pos,af,g⟩) O hr hs hre hrv hz hz1 hx hown (by simpa using hkd) (by rw[hy];exact hky) hkeys;rw[hy]at this;exact this
theorem RO {src:TypeId}{rs:LRow}{l:List UInt8}(hrs:L src=some rs)(hr:L T=some r)(hs:r.sh=.sl E)(hre:L E=some re)(hsh:re.sh=.int .u8)(hx:s.ev x=.str l):QOp P L s ⟨some d,.convert src T x,ty,pos,af,g⟩ (.fsl (l.map fun c=>[.int .u8 c.toNat])) :=
 .s2b O hrs hr hs hre hsh hx
end ops
theorem POp.mono {K':St->Prop}(hk:∀s,K s->K' s)(h:POp P L s o K):POp P L s o K':=by
 rcases h with⟨pv,h1,h2⟩|⟨s',h1,h2⟩|h1
 .exact .inl ⟨pv,h1,hk _ h2⟩
 .exact .inr (.inl ⟨s',h1,hk _ h2⟩)
 .exact .inr (.inr (h1.mono hk))
theorem POps.mono {K':St->Prop}(hk:∀s,K s->K' s):∀(l:List Oper) (s:St),POps P L ops K l s->POps P L ops K' l s
 |[],s,h=>hk s h
 |_::l,_,h=>h.imp (fun x=>⟨x.1,x.2.mono (fun s' h'=>POps.mono hk l s' h')⟩) (fun x=>⟨x.1,POps.mono hk l _ x.2⟩)
theorem PSem.mono {K':St->Prop}(hk:∀s,K s->K' s):∀(l:List Oper) (s:St),PSem P L ops K l s->PSem P L ops K' l s
 |[],s,h=>hk s h
 |_::l,_,h=>h.imp (fun x=>⟨x.1,x.2.imp (POp.mono' fun s' h'=>PSem.mono hk l s' h') (fun y C a w Q hG hs hN=>Oper.wp_mono (fun _ _ ⟨s',e1,e2⟩=>⟨s',e1,PSem.mono hk l s' e2⟩) (y C a w Q hG hs hN))⟩) (fun x=>⟨x.1,PSem.mono hk l _ x.2⟩)
theorem PSemI.mono {K':St->Prop}(hk:∀s,K s->K' s):∀(l:List Oper) (s:St),PSemI P L ops K l s->PSemI P L ops K' l s
 |[],s,h=>hk s h
 |_::l,_,h=>h.imp (fun x=>⟨x.1,x.2.imp (POp.mono' fun s' h'=>PSemI.mono hk l s' h') (Or.imp (fun y C a w Q hG hs hN=>Oper.wp_mono (fun _ _ ⟨s',e1,e2⟩=>⟨s',e1,PSemI.mono hk l s' e2⟩) (y C a w Q hG hs hN))
   (fun y ro n C a w Q hG hs hN hL=>Oper.wpIn_mono (fun _ _ ⟨s',e1,e2⟩=>⟨s',e1,PSemI.mono hk l s' e2⟩) (y ro n C a w Q hG hs hN hL)))⟩) (fun x=>⟨x.1,PSemI.mono hk l _ x.2⟩)
theorem P3.mono {K':St->Prop}(hk:∀s,K s->K' s){Z:Nat->List Nat}{cls:Nat->Bool}:∀(l:List Oper) (i:Nat) (s:St),P3 P L ops Z cls K i l s->P3 P L ops Z cls K' i l s
 |[],_,s,h=>hk s h
 |_::l,i,_,⟨s',h1,h2⟩=>⟨s',h1,P3.mono hk l (i+1) s' h2⟩
theorem P5.mono {K':St->Prop}(hk:∀s,K s->K' s){Z:List Nat}{lc:Nat->Option Nat}:∀(l:List Oper) (i:Nat) (s:St),P5 P L ops Z lc K i l s->P5 P L ops Z lc K' i l s
 |[],_,s,h=>hk s h
 |_::l,i,_,⟨s',h1,h2⟩=>⟨s',h1,P5.mono hk l (i+1) s' h2⟩
theorem PTree.mono {K':St->Prop}(hk:∀s,K s->K' s):∀(f:Nat) (listed:Array Bool) (s:St),PTree P L ops K f listed s->PTree P L ops K' f listed s
 |0,_,s,h=>⟨h.1,hk s h.2⟩
 |f+1,_,_,h=>⟨fun e=>hk _ (h.1 e),fun i hi=>let ⟨o,ho,hs⟩:=h.2 i hi;⟨o,ho,PSem.mono (PTree.mono hk f _) _ _ hs⟩⟩
theorem Gh.mono {K K':St->Prop}(hk:∀s,K s->K' s){s:St}(h:Gh K s):Gh K' s:=let ⟨s1,h1,h2⟩:=h;⟨s1,h1,hk s1 h2⟩
theorem PWP.mono {c:Code}:∀ {Q Q':Exit->St->Prop},(∀e s,Q e s->Q' e s)->∀s,PWP P L c Q s->PWP P L c Q' s:=by
 induction c with
 |skip=>intro Q Q' hq s h;exact Gh.mono (hq _) h
 |region id ops d =>
  intro Q Q' hq s h;refine Gh.mono (fun s h=>?_) h;cases d with
  |true =>
   rcases h with(⟨Z,Y0,f,F,ch,h1,h3,h2⟩|⟨l,h1,h3,h2⟩)|h2|⟨n,ds,h1,h2⟩
   .exact Or.inl (.inl ⟨Z,Y0,f,F,ch,h1,h3,P3.mono (hq _) _ _ _ h2⟩)
   .exact Or.inl (.inr ⟨l,h1,h3,P5.mono (hq _) _ _ _ h2⟩)
   .exact Or.inr (Or.inl (PTree.mono (hq _) _ _ _ h2))
   .exact Or.inr (Or.inr ⟨n,ds,h1,PQuiet.mono (fun s' h'=>PSemI.mono (hq _) _ s' h') _ _ h2⟩)
  |false=>exact h.imp (POps.mono (hq _) _ s) (Or.imp (PSem.mono (hq _) _ s) (PSemI.mono (hq _) _ s))
 |seq x y ihx ihy =>
  intro Q Q' hq s h;refine ihx ?_ s h;intro e s' he;cases e
  case normal=>exact ihy hq s' he
  all_goals exact hq _ _ he
 |cond c x y ihx ihy =>
  intro Q Q' hq s h;refine Gh.mono (fun s h=>?_) h;obtain⟨b,h1,h2,h3⟩:=h;exact⟨b,h1,fun hb=>ihx hq s (h2 hb),fun hb=>ihy hq s (h3 hb)⟩
 |block id c ih =>
  intro Q Q' hq s h;refine ih ?_ s h;intro e s' he;cases e
  case exit id' =>
   show if id'=id then _ else _
   have he':if id'=id then Q .normal s' else Q (.exit id') s':=he
   split
   .rename_i hid;rw[if_pos hid]at he';exact hq _ _ he'
   .rename_i hid;rw[if_neg hid]at he';exact hq _ _ he'
  all_goals exact hq _ _ he
 |loop c ih =>
  intro Q Q' hq s h;refine Gh.mono (fun s h=>?_) h;obtain⟨I,μ,h0,hr⟩:=h;refine⟨I,μ,h0,fun s1 hs1=>ih ?_ s1 (hr s1 hs1)⟩;intro e s' he;cases e
  case normal=>exact he
  all_goals exact hq _ _ he
 |exit id=>intro Q Q' hq s h;exact Gh.mono (hq _) h
 |ret=>intro Q Q' hq s h;exact Gh.mono (hq _) h
 |label l=>intro Q Q' hq s h;exact Gh.mono (hq _) h
 |goto l=>intro Q Q' hq s h;exact h.elim
 |rangeFunc=>intro Q Q' hq s h;exact Gh.mono (fun s h n C a w hG hs hc hQ=>wpIn_mono (h n C a w hG hs hc fun s hs=>hQ s (hq _ s hs)) fun e a w ⟨C',s',hE,h',hq'⟩=>⟨C',s',hE,h',hq _ _ hq'⟩) h
 |scope=>intro Q Q' hq s h;exact h.elim
 |refuse=>intro Q Q' hq s h;exact h.elim
def St.over (s:St)(l:List (Nat × PV))(m:List (Nat × Nat × Cont)):St :=
 ⟨l.foldr (fun p f r=>bif Nat.beq r p.1 then p.2 else f r) s.reg,m.foldr (fun p f r=>bif Nat.beq r p.1 then(p.2.1,some p.2.2) else f r) s.own⟩
def St.fits (s:St)(l:List (Nat × PV))(m:List (Nat × Nat × Cont)):Prop:=(∀p∈l,s.reg p.1=p.2)/\∀p∈m,s.own p.1=(p.2.1,some p.2.2)
def FitO (s:St):List (Nat × Nat × Cont)->Prop
 |[]=>True
 |(k,g,c)::m=>s.own k=(g,some c)/\FitO s m
def Fit (s:St)(l:List (Nat × PV))(m:List (Nat × Nat × Cont)):Prop :=
 match l with
 |[]=>FitO s m
 |(r,v)::l=>s.reg r=v/\Fit s l m
theorem Cn (s:St):∀l:List (Nat × PV),(∀p∈l,s.reg p.1=p.2)->l.foldr (fun p f r=>bif Nat.beq r p.1 then p.2 else f r) s.reg=s.reg
 |[],_=>rfl
 |(r,v)::l,h=>by
  rw[List.foldr_cons,Cn s l (fun p hp=>h p (by simp[hp]))];funext t;by_cases ht:t=r
  .subst ht;simp;exact(h (t,v) ap).symm
  .simp[cS ht]
theorem Cm (s:St):∀m:List (Nat × Nat × Cont),(∀p∈m,s.own p.1=(p.2.1,some p.2.2))->m.foldr (fun p f r=>bif Nat.beq r p.1 then(p.2.1,some p.2.2) else f r) s.own=s.own
 |[],_=>rfl
 |(k,g,c)::m,h=>by
  rw[List.foldr_cons,Cm s m (fun p hp=>h p (by simp[hp]))];funext t;by_cases ht:t=k
  .subst ht;simp;exact(h (t,g,c) ap).symm
  .simp[cS ht]
theorem FitO.fits {s:St}:∀ {m:List (Nat × Nat × Cont)},FitO s m->∀p∈m,s.own p.1=(p.2.1,some p.2.2)
 |[],_=>by simp
 |(k,g,c)::m,h=>fun p hp=>by
  have h':s.own k=(g,some c)/\FitO s m:=h;rcases bV.1 hp with rfl|hp
  .exact h'.1
  .exact FitO.fits h'.2 p hp
theorem Fit.fits {s:St}:∀ {l:List (Nat × PV)} {m:List (Nat × Nat × Cont)},Fit s l m->s.fits l m
 |[],m,h=>⟨ap,FitO.fits h⟩
 |(r,v)::l,m,h=>by
  have h':s.reg r=v/\Fit s l m:=h;have:=Fit.fits h'.2;refine⟨fun p hp=>?_,this.2⟩;rcases bV.1 hp with rfl|hp
  .exact h'.1
  .exact this.1 p hp
theorem Fit.over {s:St}{l:List (Nat × PV)}{m:List (Nat × Nat × Cont)}(h:Fit s l m):s.over l m=s:=by
 have:=h.fits;exact St.ext' (Cn s l this.1) (Cm s m this.2)
theorem ai {ι:Type}(I:ι->Prop)(regs:ι->List (Nat × PV))(owns:ι->List (Nat × Nat × Cont))(μ:ι->Nat){c:Code}(i0:ι)(h0:I i0)(hs:Fit s (regs i0) (owns i0))
  (round:∀(i:ι) (s:St),I i->PWP P L c (aE (fun s'=>∃j,I j/\μ j<μ i/\Fit s' (regs j) (owns j)) Q) (s.over (regs i) (owns i))):PWP P L (.loop c) Q s:=by
 let J0:St->Nat->Prop:=fun s n=>∃i,I i/\Fit s (regs i) (owns i)/\μ i=n;have least:∀s,(∃n,J0 s n)->∃n,J0 s n/\∀m,J0 s m->n<=m:=by
  intro s ⟨n,hn⟩
  induction n using Nat.strongRecOn with
  |_ n ih =>
   by_cases hx:∃m,m<n/\J0 s m
   .obtain⟨m,hm,hj⟩:=hx;exact ih m hm hj
   .exact⟨n,hn,fun m hm=>by
     rcases bG m n with h|h
     .exact absurd ⟨m,h,hm⟩ hx
     .exact h⟩
 have hμ:∃f:St->Nat,∀s,(∃n,J0 s n)->J0 s (f s)/\∀m,J0 s m->f s<=m :=
  ⟨fun s=>Classical.epsilon fun n=>J0 s n/\∀m,J0 s m->n<=m,fun s hx=>zK (least s hx)⟩
 obtain⟨f,hf⟩:=hμ;refine Gh.of ⟨fun s=>∃i,I i/\Fit s (regs i) (owns i),f,⟨i0,h0,hs⟩,?_⟩;rintro s1 ⟨i1,hi1,hfit1⟩;obtain⟨⟨i,hi,hfit,hm⟩,_⟩:=hf s1 ⟨_,i1,hi1,hfit1,O⟩;have:=round i s1 hi;rw[hfit.over]at this;refine PWP.mono ?_ _ this;intro e s' hq;cases e
 case normal =>
  obtain⟨j,hj,hlt,hfj⟩:=hq;refine⟨⟨j,hj,hfj⟩,?_⟩;have:=(hf s' ⟨_,j,hj,hfj,O⟩).2 _ ⟨j,hj,hfj,O⟩;omega
 all_goals exact hq
end
end Go.Pv
namespace Go.Pv
open Go.RowKit
variable [Globs]
section
variable {P:Program}{L:dj}{Q:Exit->St->Prop}{K:St->Prop}{s:St}{ops:Array Oper}{rest:List Oper}{o:Oper}
variable {d e j:Nat}{op:Op}{ty:TypeId}{pos:String}{af:Array Edge}{want:Bool}{g:Option (Nat × Bool)}
theorem oH {b:Bool}(hr:s.reg e=.bool b):s.putR e (.bool b)=s:=by
 refine St.ext' ?_ O;funext t;show(bif Nat.beq t e then PV.bool b else s.reg t)=s.reg t;by_cases ht:t=e
 .subst ht;simp[hr]
 .simp[cS ht]
theorem fq {b:Bool}(_hd:(ops[j]?).bind (·.dst)=some e)(hr:s.reg e=.bool b)(h1:b=true->POps P L ops K (⟨some d,op,ty,pos,af,some (j,want)⟩::rest) (s.putR e (.bool true)))(h0:b=false->POps P L ops K (⟨some d,op,ty,pos,af,some (j,want)⟩::rest) (s.putR e (.bool false))) :
  POps P L ops K (⟨some d,op,ty,pos,af,some (j,want)⟩::rest) s:=by
 have:=oH hr;cases b
 .have h:=h0 O;rwa [this]at h
 .have h:=h1 O;rwa [this]at h
theorem fp {b:Bool}(_hd:(ops[j]?).bind (·.dst)=some e)(hr:s.reg e=.bool b)(h1:b=true->PQuiet P L ops K (⟨some d,op,ty,pos,af,some (j,want)⟩::rest) (s.putR e (.bool true)))(h0:b=false->PQuiet P L ops K (⟨some d,op,ty,pos,af,some (j,want)⟩::rest) (s.putR e (.bool false))) :
  PQuiet P L ops K (⟨some d,op,ty,pos,af,some (j,want)⟩::rest) s:=by
 have:=oH hr;cases b
 .have h:=h0 O;rwa [this]at h
 .have h:=h1 O;rwa [this]at h
theorem kF {x:Operand}{gn:Nat}{oc:Option Cont}(T:TypeId)(sz kd:Nat)(hx:s.ev x=.nil)(hown:s.own d=(gn,oc))(h:K ((s.setOwn d (gn+1) (some ⟨T,sz,[],kd⟩)).putR d (.als d (gn+1) 0 0))):POp P L s ⟨some d,.move x,ty,pos,af,g⟩ K:=by
 refine .inr (.inl ⟨_,.nils T sz kd (.inl O) O hx,?_⟩);rw[St.fin,hown];exact h
theorem kE {x:Operand}{gn:Nat}{oc:Option Cont}(T:TypeId)(sz kd:Nat)(hx:s.ev x=.nil)(hown:s.own d=(gn,oc))(h:K ((s.setOwn d (gn+1) (some ⟨T,sz,[],kd⟩)).putR d (.als d (gn+1) 0 0))):POp P L s ⟨some d,.assign x,ty,pos,af,g⟩ K:=by
 refine .inr (.inl ⟨_,.nils T sz kd (.inr O) O hx,?_⟩);rw[St.fin,hown];exact h
theorem fE {T E:TypeId}{r re:LRow}{n:Nat}{ps:List (Nat × Operand)}{rows:List (List PV)}{Pr:Prop}(hr:L T=some r)(hs:r.sh=.sl E)(hre:L E=some re)(hz:re.zero.isSome=true)(hsz:Nat.blt 0 re.size=true)(hrows:mE s 0 ps=some rows)
  (hn:ps.map (·.1)=HT 0 n) (hN:Nat.ble (n*re.size) 16777216=true) (hcells:ps.all (fun p=>Nat.beq (s.ev p.2).cells.length re.size)=true) (h1:gh s (ps.flatMap fun p=>(s.ev p.2).cells)=some Pr) (h2:Pr) (hkd:(ps.flatMap fun p=>(s.ev p.2).cells).all (tT 0)=true) :
  QOp P L s ⟨some d,.buildSlice T n ps.toArray,ty,pos,af,g⟩ (.fsl rows):=by
 have:=QOp.slit (P:=P) (L:=L) (s:=s) (o:=⟨some d,.buildSlice T n ps.toArray,ty,pos,af,g⟩) O hr hs hre hz (by simpa using hsz) (by rw[mJ]at hn;simpa using hn) (by simpa using hN) (fun p hp=>by
  have:=ct.1 hcells p (by simpa using hp)
  simpa using this) h1 h2 hkd
 rw[mG 0 ps rows hrows];exact this
theorem dQ {T E:TypeId}{r re:LRow}{n:Nat}{ps:List (Nat × Operand)}{rows:List (List PV)}{Pr:Prop}(hr:L T=some r)(hs:r.sh=.sl E)(hre:L E=some re)(hz:re.zero.isSome=true)(hsz:Nat.blt 0 re.size=true)(hrows:mE s 1 ps=some rows)
  (hn:ps.map (·.1)=HT 0 n) (hN:Nat.ble (n*re.size) 16777216=true) (hcells:ps.all (fun p=>Nat.beq (s.ev p.2).cells.length re.size)=true) (h1:gh s (ps.flatMap fun p=>(s.ev p.2).cells)=some Pr) (h2:Pr) (hkd:(ps.flatMap fun p=>(s.ev p.2).cells).all (tT 1)=true) :
  QOp P L s ⟨some d,.buildSlice T n ps.toArray,ty,pos,af,g⟩ (.sl rows):=by
 have:=QOp.slitD (P:=P) (L:=L) (s:=s) (o:=⟨some d,.buildSlice T n ps.toArray,ty,pos,af,g⟩) O hr hs hre hz (by simpa using hsz) (by rw[mJ]at hn;simpa using hn) (by simpa using hN) (fun p hp=>by
  have:=ct.1 hcells p (by simpa using hp)
  simpa using this) h1 h2 hkd
 rw[mG 1 ps rows hrows];exact this
variable {fn:Func}{r:PV}
theorem lC {t:Nat}{v d:PV}{Cd:Prop}{fl:Fl}(h:fn.results.toList=[.tmp t])(hv:(s.reg t).fz=some v)(hres:i_ s 5 v=some (d,Cd,fl))(hc:Cd)(hd:d=r):aj L fn .shared r .ret s:=by
 rw[PV.fz_eq]at hv;have hv:=cK hv;subst hv;exact⟨[s.reg t],True/\True,d,Cd,fl,by rw[h];rfl,⟨trivial,bh⟩,hres,hc,trivial,hd⟩
theorem fH {t:Nat}{b:Bool}(h:fn.results.toList=[.tmp t])(hv:s.reg t=.bool b)(hd:PV.bool b=r):aj L fn .shared r .ret s :=
 lC h (v := .bool b) (by rw[hv];rfl) O trivial hd
theorem o9 {t:Nat}{k:IntKind}{n:Int}(h:fn.results.toList=[.tmp t])(hv:s.reg t=.int k n)(hd:PV.int k n=r):aj L fn .shared r .ret s :=
 lC h (v := .int k n) (by rw[hv];rfl) O trivial hd
theorem DT {t1 t2:Nat}{v1 v2 d1 d2:PV}{C1 C2:Prop}{f1 f2:Fl}(h:fn.results.toList=[.tmp t1,.tmp t2])(h1:(s.reg t1).fz=some v1)(h2:(s.reg t2).fz=some v2)(r1:i_ s 4 v1=some (d1,C1,f1))(r2:i_ s 4 v2=some (d2,C2,f2))(c1:C1)(c2:C2)
  (hd:PV.tup [d1,d2]=r):aj L fn .shared r .ret s:=by
 rw[PV.fz_eq]at h1 h2;have h1:=cK h1;have h2:=cK h2;subst h1 h2;refine⟨[s.reg t1,s.reg t2],True/\True/\True,.tup [d1,d2],C1/\C2/\True,f1.and (f2.and ⟨true,true⟩),by rw[h];rfl,⟨trivial,trivial,bh⟩,?_,⟨c1,c2,bh⟩,trivial,hd⟩;show(match ja (i_ s 4) [s.reg t1,s.reg t2] with|some (ds,C1,b)=>some (PV.tup ds,C1,b)|none=>none)=_;simp only[ja,r1,r2]
theorem x8 {t:Nat}{v d:PV}{Cd:Prop}{c:Bool}(h:fn.results.toList=[.tmp t])(hv:(s.reg t).fz=some v)(hres:i_ s 5 v=some (d,Cd,⟨c,true⟩))(hc:Cd)(hd:d=r):aj L fn .fresh r .ret s:=by
 rw[PV.fz_eq]at hv;have hv:=cK hv;subst hv;exact⟨[s.reg t],True/\True,d,Cd,⟨c,true⟩,by rw[h];rfl,⟨trivial,bh⟩,hres,hc,O,hd⟩
end
section
variable {P:Program}{L:dj}{Q:Exit->St->Prop}{K:St->Prop}{s:St}{ops:Array Oper}
theorem POps.app {K:St->Prop}:∀(l1 l2:List Oper) (s:St),POps P L ops (fun s'=>POps P L ops K l2 s') l1 s->POps P L ops K (l1++l2) s
 |[],_,_,h=>h
 |_::l1,l2,_,h=>h.imp (fun x=>⟨x.1,x.2.mono fun s' h'=>POps.app l1 l2 s' h'⟩) fun x=>⟨x.1,POps.app l1 l2 _ x.2⟩
theorem PQuiet.app {K:St->Prop}:∀(l1 l2:List Oper) (s:St),PQuiet P L ops (fun s'=>PQuiet P L ops K l2 s') l1 s->PQuiet P L ops K (l1++l2) s
 |[],_,_,h=>h
 |_::l1,l2,_,h=>h.imp (fun⟨x,pv,y,z⟩=>⟨x,pv,y,PQuiet.app l1 l2 _ z⟩) fun x=>⟨x.1,PQuiet.app l1 l2 _ x.2⟩
theorem pZ {l:List Oper}(n:Nat)(regs:List (Nat × PV))(owns:List (Nat × Nat × Cont))(h1:POps P L ops (fun s'=>Fit s' regs owns) (l.take n) s)(h2:∀s:St,POps P L ops K (l.drop n) (s.over regs owns)):POps P L ops K l s:=by
 have:=POps.app (K:=K) (l.take n) (l.drop n) s (h1.mono (fun s' hf=>by have:=h2 s';rwa [hf.over]at this) _ _);rwa [ef]at this
theorem KK {x y:Code}(regs:List (Nat × PV))(owns:List (Nat × Nat × Cont))(h1:PWP P L x (aE (fun s'=>Fit s' regs owns) Q) s)(h2:∀s:St,PWP P L y Q (s.over regs owns)):PWP P L (.seq x y) Q s:=by
 refine dH (PWP.mono ?_ _ h1);intro e s' h;cases e
 case normal =>
  have:=h2 s';rwa [Fit.over h]at this
 all_goals exact h
theorem uD {x y:Code}(regs:List (Nat × PV))(owns:List (Nat × Nat × Cont))(h1:PWP P L x (aE (fun s'=>Fit s' regs owns) Q) s)(h2:∀s:St,PWP P L y Q (s.over regs owns)):PWP P L x (aE (fun s'=>PWP P L y Q s') Q) s:=KK regs owns h1 h2
end
theorem wrap_i64 {n:Int}(h1 : -9223372036854775808<=n)(h2:n<=9223372036854775807):IntKind.i64.wrap n=n:=by
 rw[IntKind.wrap_i64];omega
theorem c9 {n:Int}(h1 : -9223372036854775808<=n)(h2:n<9223372036854775807):PV.int .i64 (IntKind.i64.wrap (n+1)) = .int .i64 (n+1):=by rw[wrap_i64 J J]
theorem ay {α:Type}{l:List α}{k:Nat}(h:k<l.length):∃x,l[k]?=some x:=⟨l[k],bX h⟩
end Go.Pv
namespace Go.Pv
open Go.RowKit
variable [Globs]
section
variable {C:Ctx}{γ:Nat->Option Nat}{s:St}{a:Act}{w:World}
theorem qH {k0 g0:Nat}{c0 c1:Cont}(ho:s.own k0=(g0,some c0))(ht:c1.ty=c0.ty)(hs:c1.sz=c0.sz)(hl:c1.rows.length=c0.rows.length) :
  aB C γ (s.setOwn k0 g0 (some c1)) w=aB C γ s w:=by
 have hown:∀k,((s.setOwn k0 g0 (some c1)).own k).1=(s.own k).1/\(((s.setOwn k0 g0 (some c1)).own k).2.map fun c=>(⟨γ k,c.ty,c.sz,c.rows.length⟩:SLoc))=(s.own k).2.map fun c=>(⟨γ k,c.ty,c.sz,c.rows.length⟩:SLoc):=by
  intro k;by_cases hk:k=k0
  .subst hk;rw[ar,ho];simp[ht,hs,hl]
  .rw[aO hk];exact⟨O,O⟩
 have hok:∀b,jU C γ (s.setOwn k0 g0 (some c1)) w b=jU C γ s w b:=by
  intro b;refine propext ⟨fun h=>⟨h.1,h.2.1,fun k c hc=>?_⟩,fun h=>⟨h.1,h.2.1,fun k c hc=>?_⟩⟩
  .by_cases hk:k=k0
   .subst hk;exact h.2.2 k c1 (by rw[ar])
   .exact h.2.2 k c (by rw[aO hk];exact hc)
  .by_cases hk:k=k0
   .subst hk;exact h.2.2 k c0 (by rw[ho])
   .rw[aO hk]at hc;exact h.2.2 k c hc
 unfold aB;congr 1
 .funext b;exact hok b
 .funext b;rw[hok b]
 .funext k;exact(hown k).1
 .funext k;exact(hown k).2
theorem SiteOk.rowlen {E:Env}{blk:Option Nat}{c:Cont}(h:SiteOk E blk c)(hz:0<c.sz):∀r∈c.rows,r.length=c.sz:=by
 intro r hr;cases blk with
 |none=>rw[h.emp rfl]at hr;cases hr
 |some b=>obtain⟨cur,_,_,_,f4,_⟩:=h.at_ b rfl hz;exact f4 r hr
theorem Sim.recell (h:Sim C γ s a w){k0 g0:Nat}{c0 c1:Cont}(ho:s.own k0=(g0,some c0))(ht:c1.ty=c0.ty)(hs:c1.sz=c0.sz)(hz0:0<c0.sz)(hl:c1.rows.length=c0.rows.length)(hrl:∀row∈c1.rows,row.length=c1.sz)
  (hcell:∀(i j:Nat) (row1:List PV) (pv1:PV),c1.rows[i]?=some row1->row1[j]?=some pv1->∃row0 pv0,c0.rows[i]?=some row0/\row0[j]?=some pv0/\∀v,KRep (aB C γ s w) c0.kind pv0 v->KRep (aB C γ s w) c1.kind pv1 v) :
  Sim C γ (s.setOwn k0 g0 (some c1)) a w:=by
 have he:=qH (C:=C) (γ:=γ) (w:=w) ho ht hs hl;have hsome:∀k c,((s.setOwn k0 g0 (some c1)).own k).2=some c->∃c',(s.own k).2=some c':=by
  intro k c hc;by_cases hk:k=k0
  .subst hk;exact⟨c0,by rw[ho]⟩
  .rw[aO hk]at hc;exact⟨c,hc⟩
 refine⟨h.defers,h.size,fun r=>by rw[he];exact h.regs r,fun k c hc=>?_,fun k k' c c' b e1 e2 e3 e4=>?_,fun k c b e1 e2=>?_,h.below,h.top,fun c v hk=>by rw[he];exact h.kept c v hk⟩
 .rw[he];by_cases hk:k=k0
  .subst hk;rw[ar]at hc;have hc:c1=c:=cK hc;subst hc;have hsite:=h.sites k c0 (by rw[ho]);refine⟨fun hb=>?_,(fun b _ hz=>by omega),(fun b _ hz=>by omega),fun b hb _=>?_⟩
   .have:=hsite.emp hb;exact iB (by rw[hl,this];rfl)
   .obtain⟨cur,f1,f2,f3,f4,f5⟩:=hsite.at_ b hb hz0;refine⟨cur,by rw[ht];exact f1,by rw[hs];exact f2,by rw[hl,hs];exact f3,hrl,fun i j row pv e1 e2=>?_⟩;obtain⟨row0,pv0,g1,g2,g3⟩:=hcell i j row pv e1 e2;obtain⟨v,u1,u2,u3⟩:=f5 i j row0 pv0 g1 g2;exact⟨v,by rw[hs];exact u1,u2,g3 v u3⟩
  .rw[aO hk]at hc;exact h.sites k c hc
 .obtain⟨d,hd⟩:=hsome k c e1;obtain⟨d',hd'⟩:=hsome k' c' e2;exact h.inj k k' d d' b hd hd' e3 e4
 .obtain⟨d,hd⟩:=hsome k c e1;exact h.base k d b hd e2
theorem Sim.drop (hX:∀b,C.X b->b<C.B)(h:Sim C γ s a w){k g:Nat}{c:Cont}(ho:s.own k=(g,some c)) :
  Sim C γ (s.setOwn k (g+1) none) a w/\(aB C γ s w).Le (aB C γ (s.setOwn k (g+1) none) w) /\
   (c.kind=0->∀v,Rep (aB C γ s w) (.als k g 0 c.rows.length) v->DRep w (aB C γ (s.setOwn k (g+1) none) w).okf (.sl c.rows) v):=by
 have hok:∀b,jU C γ s w b->jU C γ (s.setOwn k (g+1) none) w b:=fun b hb=>⟨hb.1,hb.2.1,fun k' c' hc'=>by
  by_cases hk:k'=k
  .subst hk;rw[ar]at hc';cases hc'
  .rw[aO hk]at hc';exact hb.2.2 k' c' hc'⟩
 have hle:(aB C γ s w).Le (aB C γ (s.setOwn k (g+1) none) w):=by
  refine⟨hok,fun b hb=>⟨hb.1,hok b hb.2⟩,fun b hb=>hb.2,fun b _=>rfl,fun k'=>?_,fun k' l' hg hl=>?_,fun k' l' b cur hg hl hb hh=>⟨cur,hh,O⟩⟩
  .show(s.own k').1<=((s.setOwn k (g+1) none).own k').1;by_cases hk:k'=k
   .subst hk;rw[ar,ho];simp
   .rw[aO hk];exact aY
  .by_cases hk:k'=k
   .subst hk;simp only[aB,ar,Ah]at hl;cases hl
   .refine⟨l',?_,O,O,O,aY⟩;simp only[aB,aO hk]at hl ⊢;exact hl
 refine⟨⟨h.defers,h.size,fun r=>(h.regs r).mono hle,fun k' c' hc'=>?_,fun k1 k2 c1 c2 b e1 e2 e3 e4=>?_,fun k' c' b e1 e2=>?_,h.below,h.top,fun c v hk=>(h.kept c v hk).mono hle⟩,hle,fun hk v hv=>?_⟩
 .by_cases hk:k'=k
  .subst hk;rw[ar]at hc';cases hc'
  .rw[aO hk]at hc';exact(h.sites k' c' hc').mono hle fun b hb=>rfl
 .have hne:∀ {k' c'},((s.setOwn k (g+1) none).own k').2=some c'->(s.own k').2=some c':=by
   intro k' c' hc';by_cases hk:k'=k
   .subst hk;rw[ar]at hc';cases hc'
   .rwa [aO hk]at hc'
  exact h.inj k1 k2 c1 c2 b (hne e1) (hne e2) e3 e4
 .by_cases hk:k'=k
  .subst hk;rw[ar]at e1;cases e1
  .rw[aO hk]at e1;exact h.base k' c' b e1 e2
 .rcases h.als_at hv ho with⟨h1,_,h3,rfl⟩|⟨b,cap,cur,h1,rfl,h3,h4,h5,h6,h7⟩
  .have:c.rows=[]:=(h.sites k c (by rw[ho])).emp h1;rw[this];exact .sl0 _ _
  .obtain⟨cur',g1,g2,g3,g4,g5⟩:=h.site_at ho h1 (h.cells_sz ho h1 h3 h6);have hb:(aB C γ (s.setOwn k (g+1) none) w).okf b:=by
    have hbase:=h.base k c b (by rw[ho]) h1;refine⟨hbase.1,hbase.2,fun hx=>?_,fun k' c' hc' hb'=>?_⟩
    .have:=hX b hx;omega
    .by_cases hk':k'=k
     .subst hk';rw[ar]at hc';cases hc'
     .rw[aO hk']at hc';exact hk' (h.inj k' k c' c b hc' (by rw[ho]) hb' h1)
   simp only[gM];refine .sl c.rows b 0 cap c.sz (fun i j=>cur'.getD (i*c.sz+j) undef) hb g2 h4 g4 (fun i j row pv e1 e2=>?_) (fun i j row pv e1 e2=>?_)
   .obtain⟨u,f1,f2,_⟩:=g5 i j row pv e1 e2;rw[ca g1,aM,f1];simp[f1,f2]
   .obtain⟨u,f1,_,f3⟩:=g5 i j row pv e1 e2;have:cur'.getD (i*c.sz+j) undef=u:=by simp[f1]
    simp only[this];rw[hk]at f3;exact hle.drepf f3
end
section
variable {s:St}
theorem Ghost.drop {k g:Nat}{oc:Option Cont}(ho:s.own k=(g,oc)):Ghost s (s.setOwn k (g+2) none):=by
 intro C a w hX ⟨γ,h⟩;have ht:Turn C γ s w w k none:=⟨O,O,O,aY,fun b _ => .inl O,fun b hb=>by cases hb⟩;have h1:=ht.sim h (c:=⟨0,0,[],0⟩) (.none_ O);have hfin:s.fin k ⟨0,0,[],0⟩=s.setOwn k (g+1) (some ⟨0,0,[],0⟩):=by rw[St.fin,ho]
 rw[hfin]at h1;have h2:=(h1.drop hX (ar _ _ _ _)).1;have he:(s.setOwn k (g+1) (some ⟨0,0,[],0⟩)).setOwn k (g+1+1) none=s.setOwn k (g+2) none:=by
  refine St.ext' O (funext fun r=>?_);show(bif Nat.beq r k then _ else(bif Nat.beq r k then _ else _))=(bif Nat.beq r k then _ else _);cases Nat.beq r k<;>rfl
 rw[he]at h2;exact⟨_,h2⟩
theorem Ghost.move {k g k' g' t i j:Nat}{c:Cont}{oc':Option Cont}(hk:Nat.beq k k'=false)(ho:s.own k=(g,some c))(ho':s.own k'=(g',oc'))(hr:s.reg t=.ptr k g i j) :
  Ghost s (((s.setOwn k (g+1) none).setOwn k' (g'+1) (some c)).putR t (.ptr k' (g'+1) i j)):=by
 intro C a w hX ⟨γ,h⟩;have hne:k≠k':=fun e=>by subst e;simp at hk
 have o1:((s.setOwn k (g+1) none).setOwn k' (g'+1) (some c)).own k=(g+1,none):=by rw[aO hne,ar]
 have o2:((s.setOwn k (g+1) none).setOwn k' (g'+1) (some c)).own k'=(g'+1,some c):=ar _ _ _ _;have o3:∀q,q≠k->q≠k'->((s.setOwn k (g+1) none).setOwn k' (g'+1) (some c)).own q=s.own q:=fun q h1 h2=>by rw[aO h2,aO h1]
 have hregs:((s.setOwn k (g+1) none).setOwn k' (g'+1) (some c)).reg=s.reg:=O;generalize (s.setOwn k (g+1) none).setOwn k' (g'+1) (some c)=s1 at *
 have hval:∀ {q:Nat} {d:Cont},(s1.own q).2=some d->∃q0,(s.own q0).2=some d/\γ q0=nl γ k' (γ k) q/\((q=k'/\q0=k)\/(q≠k'/\q≠k/\q0=q)):=by
  intro q d hd;by_cases h2:q=k'
  .subst h2;rw[o2]at hd;exact⟨k,by rw[ho];exact hd,by rw[dx],.inl ⟨O,O⟩⟩
  .by_cases h1:q=k
   .subst h1;rw[o1]at hd;cases hd
   .rw[o3 q h1 h2]at hd;exact⟨q,hd,by rw[jY h2],.inr ⟨h2,h1,O⟩⟩
 have hok:∀b,jU C γ s w b->jU C (nl γ k' (γ k)) s1 w b:=fun b hb=>⟨hb.1,hb.2.1,fun q d hd=>by
  obtain⟨q0,e1,e2,_⟩:=hval hd
  rw[<-e2];exact hb.2.2 q0 d e1⟩
 have hle:(aB C γ s w).Le (aB C (nl γ k' (γ k)) s1 w):=by
  refine⟨hok,fun b hb=>⟨hb.1,hok b hb.2⟩,fun b hb=>hb.2,fun b _=>rfl,fun q=>?_,fun q l' hg hl=>?_,fun q l' b cur hg hl hb hh=>⟨cur,hh,O⟩⟩
  .show(s.own q).1<=(s1.own q).1;by_cases h2:q=k'
   .subst h2;rw[o2,ho'];simp
   .by_cases h1:q=k
    .subst h1;rw[o1,ho];simp
    .rw[o3 q h1 h2];exact aY
  .have hgg:(s1.own q).1=(s.own q).1:=hg;by_cases h2:q=k'
   .subst h2;rw[o2,ho']at hgg;simp at hgg
   .by_cases h1:q=k
    .subst h1;rw[o1,ho]at hgg;simp at hgg
    .refine⟨l',?_,O,O,O,aY⟩;simp only[aB,o3 q h1 h2,jY h2]at hl ⊢;exact hl
 refine⟨nl γ k' (γ k),h.defers,h.size,fun r=>?_,fun q d hd=>?_,fun q1 q2 d1 d2 b e1 e2 e3 e4=>?_,fun q d b e1 e2=>?_,h.below,h.top,fun d v hd=>(h.kept d v hd).mono hle⟩
 .show Rep (aB C (nl γ k' (γ k)) s1 w) (bif Nat.beq r t then _ else s1.reg r) _;by_cases hrt:r=t
  .subst hrt;have hp:=h.regs r;rw[hr]at hp;simp only[ms,cond_true];have hp':=h.ptr_at hp ho;refine .ptr ?_ fun _ l hl=>?_
   .show g'+1<=(s1.own k').1;rw[o2];exact aY
   .simp only[aB,o2,dx,dG,bm]at hl;subst hl;exact hp'
  .rw[cS hrt,hregs];exact(h.regs r).mono hle
 .obtain⟨q0,e1,e2,_⟩:=hval hd;have:=(h.sites q0 d e1).mono hle fun b _=>rfl;rwa [e2]at this
 .obtain⟨p1,f1,f2,f3⟩:=hval e1;obtain⟨p2,f4,f5,f6⟩:=hval e2;have:=h.inj p1 p2 d1 d2 b f1 f4 (by rw[f2];exact e3) (by rw[f5];exact e4);rcases f3 with⟨a1,a2⟩|⟨a1,a2,a3⟩<;>rcases f6 with⟨b1,b2⟩|⟨b1,b2,b3⟩
  .rw[a1,b1]
  .exact absurd (by rw[<-b3,<-this,a2]) b2
  .exact absurd (by rw[<-a3,this,b2]) a2
  .rw[<-a3,<-b3,this]
 .obtain⟨q0,f1,f2,_⟩:=hval e1;exact h.base q0 d b f1 (by rw[f2];exact e2)
theorem Ghost.data {k g t kd:Nat}{T:TypeId}{row:List PV}(ho:s.own k=(g,some ⟨T,row.length,[row],kd⟩))(hr:s.reg t=.ptr k g 0 0)(hall:row.all (tT 1)=true)(hz0:Nat.blt 0 row.length=true) :
  Ghost s ((s.setOwn k (g+1) none).putR t (.dref (row.map (jP 1)) 0)):=by
 intro C a w hX ⟨γ,h⟩;obtain⟨h1,hle,_⟩:=h.drop hX ho;have hz0:0<row.length:=by simpa using hz0
 have hp:=h.regs t;rw[hr]at hp;obtain⟨b,hb,hv,hi,hj⟩:=h.ptr_at hp ho;obtain⟨cur,f1,f2,f3,f4,f5⟩:=h.site_at ho hb hz0;have hokb:jU C γ (s.setOwn k (g+1) none) w b:=by
  have hbase:=h.base k _ b (by rw[ho]) hb;refine⟨hbase.2,fun hx=>?_,fun k' c' hc' hb'=>?_⟩
  .have:=hX b hx;omega
  .by_cases hk':k'=k
   .subst hk';rw[ar]at hc';cases hc'
   .rw[aO hk']at hc';exact hk' (h.inj k' k c' _ b hc' (by rw[ho]) hb' hb)
 have hd:Rep (aB C γ (s.setOwn k (g+1) none) w) (.dref (row.map (jP 1)) 0) (a.tmps.getD t undef):=by
  rw[hv];simp only[gM,aM];have key:∀(i:Nat) (c:PV),(row.map (jP 1))[i]?=some c->∃c0 u,row[i]?=some c0/\c=jP 1 c0/\cur[i]?=some u/\u.oneCell'=true/\KRep (aB C γ s w) kd c0 u:=by
   intro i c hc;rw[bw]at hc;cases hq:row[i]? with
   |none=>rw[hq]at hc;simp at hc
   |some c0 =>
    rw[hq]at hc;simp at hc;obtain⟨u,e1,e2,e3⟩:=f5 0 i row c0 O hq;exact⟨c0,u,O,hc.symm,by simpa using e1,e2,e3⟩
  have:=DRep.dref (w:=w) (ok:=(aB C γ (s.setOwn k (g+1) none) w).ok) (row.map (jP 1)) 0 b 0 (fun i=>cur.getD i undef) hokb (fun i c hc=>by
   obtain⟨c0,u,e1,e2,e3,e4,e5⟩:=key i c hc;rw[ca f1,aM,e3]
   simp[e3,e4]) (fun i c hc=>by
   obtain⟨c0,u,e1,rfl,e3,e4,e5⟩:=key i c hc;have hu:cur.getD i undef=u:=by simp[e3]
   rw[hu]
   exact hle.drep (qQ (k:=1) bD (ct.1 hall c0 (bC e1)) (e5.rep bD)))
  exact .d this
 refine⟨γ,h1.defers,h1.size,fun r=>?_,h1.sites,h1.inj,h1.base,h1.below,h1.top,h1.kept⟩;show Rep (aB C γ (s.setOwn k (g+1) none) w) (bif Nat.beq r t then _ else s.reg r) _;by_cases hrt:r=t
 .subst hrt;simpa using hd
 .rw[cS hrt];exact h1.regs r
theorem Ghost.nilcell {k gk k0 g0 i j:Nat}{oc:Option Cont}{c0:Cont}{row:List PV}(T:TypeId)(sz kd:Nat)(hk:Nat.beq k0 k=false)(ho:s.own k=(gk,oc))(h0:s.own k0=(g0,some c0))(hkind:c0.kind=2)(hrow:c0.rows[i]?=some row)(hj:row[j]?=some .nil)(hz0:Nat.blt 0 c0.sz=true) :
  Ghost s ((s.setOwn k (gk+1) (some ⟨T,sz,[],kd⟩)).setOwn k0 g0 (some ⟨c0.ty,c0.sz,c0.rows.set i (row.set j (.als k (gk+1) 0 0)),2⟩)):=by
 intro C a w hX ⟨γ,h⟩;have hne:k0≠k:=fun e=>by subst e;simp at hk
 have ht:Turn C γ s w w k none:=⟨O,O,O,aY,fun b _ => .inl O,fun b hb=>by cases hb⟩;have h1:=ht.sim h (c:=⟨T,sz,[],kd⟩) (.none_ O);have hfin:s.fin k ⟨T,sz,[],kd⟩=s.setOwn k (gk+1) (some ⟨T,sz,[],kd⟩):=by rw[St.fin,ho]
 rw[hfin]at h1;have ho1:(s.setOwn k (gk+1) (some ⟨T,sz,[],kd⟩)).own k0=(g0,some c0):=by rw[aO hne];exact h0
 have hz0:0<c0.sz:=by simpa using hz0
 refine⟨_,h1.recell ho1 O O hz0 ap (fun r hr=>?_) fun i' j' row1 pv1 e1 e2=>?_⟩
 .rcases tV hr with hr|rfl
  .exact(h.sites k0 c0 (by rw[h0])).rowlen hz0 r hr
  .simpa using (h.sites k0 c0 (by rw[h0])).rowlen hz0 row (bC hrow)
 .by_cases hi:i'=i
  .subst hi;have hlt:=(cb hrow).1;rw[fA hlt]at e1;have e1:=cK e1;subst e1;by_cases hjj:j'=j
   .subst hjj;have hlt2:=(cb hj).1;rw[fA hlt2]at e2;have e2:=cK e2;subst e2;refine⟨row,.nil,hrow,hj,fun v hv=>?_⟩;rw[hkind]at hv;have hv:Rep _ PV.nil v:=hv;rw[hv.nil_inv];refine Rep.als ?_ fun _ l hl=>?_
    .show _<=((s.setOwn k (gk+1) (some ⟨T,sz,[],kd⟩)).own k).1;rw[ar];exact aY
    .simp only[aB,ar,dx,dG,bm]at hl;subst hl;exact .inl ⟨O,O,O,O⟩
   .rw[et (Ne.symm hjj)]at e2;exact⟨row,pv1,hrow,e2,fun v hv=>by rw[hkind]at hv;exact hv⟩
  .rw[et (Ne.symm hi)]at e1;exact⟨row1,pv1,e1,e2,fun v hv=>by rw[hkind]at hv;exact hv⟩
end
theorem Ghost.nilreg {s:St}{k gk t:Nat}{oc:Option Cont}(T:TypeId)(sz kd:Nat)(ho:s.own k=(gk,oc))(hr:s.reg t=.nil):Ghost s ((s.setOwn k (gk+1) (some ⟨T,sz,[],kd⟩)).putR t (.als k (gk+1) 0 0)):=by
 intro C a w hX ⟨γ,h⟩;have ht:Turn C γ s w w k none:=⟨O,O,O,aY,fun b _ => .inl O,fun b hb=>by cases hb⟩;have h1:=ht.sim h (c:=⟨T,sz,[],kd⟩) (.none_ O);have hfin:s.fin k ⟨T,sz,[],kd⟩=s.setOwn k (gk+1) (some ⟨T,sz,[],kd⟩):=by rw[St.fin,ho]
 rw[hfin]at h1;refine⟨_,h1.defers,h1.size,fun r=>?_,h1.sites,h1.inj,h1.base,h1.below,h1.top,h1.kept⟩;show Rep _ (bif Nat.beq r t then _ else s.reg r) _;by_cases hrt:r=t
 .subst hrt;have hv:=h.regs r;rw[hr]at hv;rw[hv.nil_inv];simp only[ms,cond_true];refine .als ?_ fun _ l hl=>?_
  .show _<=((s.setOwn k (gk+1) (some ⟨T,sz,[],kd⟩)).own k).1;rw[ar];exact aY
  .have hl:(((s.setOwn k (gk+1) (some ⟨T,sz,[],kd⟩)).own k).2.map fun c=>(⟨nl γ k none k,c.ty,c.sz,c.rows.length⟩:SLoc))=some l:=hl;rw[ar,dx]at hl;have hl:=cK hl;subst hl;exact .inl ⟨O,O,O,O⟩
 .rw[cS hrt];exact h1.regs r
theorem Ghost.nilsl {s:St}{t:Nat}(hr:s.reg t=.nil):Ghost s (s.putR t (.sl [])):=by
 intro C a w hX ⟨γ,h⟩;refine⟨_,h.defers,h.size,fun r=>?_,h.sites,h.inj,h.base,h.below,h.top,h.kept⟩;show Rep _ (bif Nat.beq r t then _ else s.reg r) _;by_cases hrt:r=t
 .subst hrt;have hv:=h.regs r;rw[hr]at hv;rw[hv.nil_inv];simp only[ms,cond_true];exact .d (.sl0 _ _)
 .rw[cS hrt];exact h.regs r
end Go.Pv
namespace Go.Pv
open Go.RowKit
variable [Globs]
def OD (fn:Func)(T:TypeId)(sz:Nat)(rows:List (List PV))(s:St):Prop :=
 ∃t k g m kd,fn.results.toList=[.tmp t]/\s.reg t=.als k g 0 m/\s.own k=(g,some ⟨T,sz,rows,kd⟩)/\m=rows.length/\rows.all (·.all PV.flat1)=true
def Bb (fn:Func)(T:TypeId)(sz:Nat)(rows:List (List PV)):Exit->St->Prop
 |.normal,s | .ret,s=>OD fn T sz rows s
 |_,_=>False
theorem Hp {E:Env}{k:Nat}{c:PV}{v:Value}(hf:c.flat1=true)(h:KRep E k c v)(hE:∀b,E.okf b->E.ok b)(w:World)(ok:Nat->Prop):DRep w ok c v:=by
 have hr:=h.rep hE;cases c with
 |bool b=>rw[hr.bool_inv];exact .bool _
 |int k n=>rw[hr.int_inv];exact .int _ _
 |str s=>rw[hr.str_inv];exact .str _
 |raw u=>rw[hr.raw_inv];exact .raw _
 |nil=>rw[hr.nil_inv];exact .nil
 |_=>simp[PV.flat1]at hf
section
variable {P:Program}{L:dj}{s:St}
theorem RetO.of_pwp {f : FuncId}{fn : Func}{body : Code}{pargs : List PV}{T : TypeId}{sz : Nat}{rows : List (List PV)}(hL : nt P L)(hm : P.follows .mixedOrders = true)(hf : P.funcs[f]?=some fn)(hb : fn.body = some body)(hn : (fn.name == "runtime.NumGoroutine") = false)
  (hlen:Nat.ble pargs.length fn.ntmps=true) (hc:nA fn.ntmps body=true) (h:PWP P L body (Bb fn T sz rows) (fM pargs)):RetO P f pargs T sz rows:=by
 refine⟨⟨fn,hf,hn,by simp[hb]⟩,fun w X args hg hX hl hargs=>?_⟩;let C:Ctx:=⟨w.heap.size,X,w,fn.ntmps,fun _ _=>False,[]⟩;have hG:Good P L C:=⟨hL,hX,hm,fun w' hb=>Globs.keep w w' hg hb⟩;have hle:args.length<=fn.ntmps:=by rw[<-hl];simpa using hlen
 have hsim:SimE C (fM pargs) { tmps:=args.toArray++Array.replicate (fn.ntmps-args.toArray.size) undef,defers:=[] } w:=by
  refine⟨fun _=>none,O,by simp[C];omega,fun t=>?_,fun k c hk=>by simp[fM]at hk,fun k k' c c' b hk=>by simp[fM]at hk,fun k c b hk=>by simp[fM]at hk,Below.refl _ _,aY,fun c v hk=>hk.elim⟩;show Rep _ (pargs.getD t (.raw undef)) _;rcases bG t args.length with hlt|hge
  .have hlt':t<pargs.length:=J;have e1:pargs.getD t (.raw undef)=pargs[t]:=by simp[hlt']
   have e2:(args.toArray++Array.replicate (fn.ntmps-args.toArray.size) undef).getD t undef=args[t]:=by
    rw[lE,qS (by simpa using hlt)];simp[hlt]
   rw[e1,e2];refine .d ((hargs t pargs[t] args[t] (bX hlt') (bX hlt)).weaken fun b hb=>⟨hb.1,hb.2,fun k c hk=>by simp[fM]at hk⟩)
  .have e1:pargs.getD t (.raw undef) = .raw undef:=by simp[fe (by omega:pargs.length<=t)]
   have e2:(args.toArray++Array.replicate (fn.ntmps-args.toArray.size) undef).getD t undef=undef:=by
    rw[lE,sd (by simpa using hge)];rcases bG (t-args.toArray.size) (fn.ntmps-args.toArray.size) with h1|h1
    .rw[qU,if_pos h1];rfl
    .rw[nI (by simpa using h1)];rfl
   rw[e1,e2];exact .d (.raw _)
 refine calls_of_wp hf hb (wp_mono (PWP.sound hG body _ _ _ w hc (fun _ hq=>hq) hsim h) ?_);have fin:∀ {s:St} {a:Act} {w':World},SimE C s a w'->OD fn T sz rows s->a.defers=[]/\∃v,(results fn a.tmps).run P w'=.ok v w'/\∃u,Ending.returned v=.returned u/\Below w.heap.size w w'/\Ri w w' T sz rows u:=by
  rintro s a w' ⟨γ,hs⟩ ⟨t,k,g,m,kd,h1,h2,h3,h4,h5⟩;refine⟨hs.defers,a.tmps.getD t undef,?_,_,O,hs.below,?_⟩
  .unfold results;rw[<-ub (xs:=fn.results),h1];simp
  .have hr:=hs.regs t;rw[h2]at hr;subst h4;rcases hs.als_at hr h3 with⟨e1,_,_,e4⟩|⟨b,cap,cur,e1,e2,e3,e4,e5,e6,e7⟩
   .exact .inl ⟨(hs.sites k _ (by rw[h3])).emp e1,e4⟩
   .obtain⟨cur',g1,g2,g3,g4,g5⟩:=hs.site_at h3 e1 (hs.cells_sz h3 e1 e3 e6);have hcc:cur'=cur:=by
     have e3:w'.heap[b]?=some (.cells cur T (0,0)):=e3;have g1:w'.heap[b]?=some (.cells cur' T (0,0)):=g1;rw[g1]at e3;simpa using e3
    subst hcc;refine .inr ⟨b,cap,cur',(hs.base k _ b (by rw[h3]) e1).1,by simpa using e2,e3,e4,e5,by simpa using e6,g2,g3,g4,fun i j row c r1 r2=>?_⟩;obtain⟨u,u1,u2,u3⟩:=g5 i j row c r1 r2;have hfl:c.flat1=true:=ct.1 (ct.1 h5 row (bC r1)) c (bC r2);exact⟨u,u1,u2,fun w ok=>Hp hfl u3 bD w ok⟩
 rintro e a w' ⟨s,hs,hq⟩;cases e
 case normal=>exact fin hs hq
 case ret=>exact fin hs hq
 all_goals exact hq.elim
theorem SM {fn:Func}{T:TypeId}{sz:Nat}{rows rows':List (List PV)}{t k g m kd:Nat}(h:fn.results.toList=[.tmp t])(hv:s.reg t=.als k g 0 m)(ho:s.own k=(g,some ⟨T,sz,rows,kd⟩))(hm:m=rows.length)(hf:rows.all (·.all PV.flat1)=true)(hr:rows=rows'):Bb fn T sz rows' .ret s:=by
 subst hr;exact⟨t,k,g,m,kd,h,hv,ho,hm,hf⟩
theorem Lv {d:Nat}{ty:TypeId}{pos:String}{af:Array Edge}{fop:Operand}{args:Array Operand}{tys:Array TypeId}{f:FuncId}{caps pargs:List PV}{Cd:Prop}{b:Fl}{T:TypeId}{sz gn:Nat}{oc:Option Cont}{rows:List (List PV)}{K:St->Prop}
  (hf:s.ev fop=.clo f caps) (hret:RetO P f pargs T sz rows) (hres:ja (i_ s 4) (args.toList.map s.ev++caps)=some (pargs,Cd,b)) (hc:Cd) (hown:s.own d=(gn,oc))
  (h:K ((s.setOwn d (gn+1) (some ⟨T,sz,rows,0⟩)).putR d (.als d (gn+1) 0 rows.length))):Sm P L s ⟨some d,.call ⟨.value fop,args,tys⟩,ty,pos,af,none⟩ K:=by
 intro C a w Q hG hs hN;refine Eff.sound hG.lay hG.x hG.glob hs hN (.callO O O hf hret hres hc) fun a' w' h'=>⟨_,h',?_⟩;rw[St.fin,hown];exact h
inductive TC where
 |p (o:Nat)
 |c (v:PV)
def TC.inst (mk:Nat->PV):TC->PV
 |.p o=>mk o
 |.c v=>v
def TC.ok (sz:Nat):TC->Bool
 |.p o=>Nat.blt o sz
 |.c v=>v.flat1
end
end Go.Pv
namespace Go.Pv
open Go.RowKit
variable [Globs]
def gB (ops:Array Oper)(s:St):Option (Nat × Bool)->Option Bool
 |none=>some true
 |some (j,want)=>match (ops[j]?).bind (·.dst) with
  |some e=>match s.reg e with
   |.bool b=>match b,want with
    |true,true=>some true
    |false,false=>some true
    |true,false=>some false
    |false,true=>some false
   |.raw u=>match u with
    |.tuple a=>match a with
     |⟨[]⟩=>some false
     |_=>none
    |_=>none
   |_=>none
  |none=>none
def O9 (L:dj)(s:St):Option Nat->Op->Option (St × Prop)
 |some d,.box T x=>match (s.ev x).fz,s.own d with
  |some v,(gn,_)=>match gh s v.cells with
   |some Pr=>some ((s.setOwn d (gn+1) (some ⟨T,v.cells.length,[v.cells],2⟩)).putR d (.ptr d (gn+1) 0 0),Nat.blt 0 v.cells.length=true/\Pr)
   |none=>none
  |none,_=>none
 |some d,.alloc T=>match L T with
  |some r=>match r.zero,s.own d with
   |some z,(gn,_)=>some ((s.setOwn d (gn+1) (some ⟨T,z.length,[z],2⟩)).putR d (.ptr d (gn+1) 0 0),Nat.blt 0 z.length=true)
   |none,_=>none
  |none=>none
 |none,.store T x y=>match L T with
  |some r=>match s.ev x with
   |.ptr k gn i jj=>match i with
    |0=>match s.own k with
     |(gn',some ⟨tc,sz,rows,kd⟩)=>match rows,kd with
      |[row],2=>match (s.ev y).fz with
       |some v=>match gh s v.cells with
        |some Pr=>some (s.setOwn k gn (some ⟨tc,sz,[oZ row jj v.cells],2⟩),gn'=gn/\v.cells.length=r.size/\Nat.ble (jj+r.size) row.length=true/\Pr)
        |none=>none
       |none=>none
      |_,_=>none
     |(_,none)=>none
    |_=>none
   |_=>none
  |none=>none
 |some d,op=>match qv L s op with
  |some (pv,Cd)=>some (s.putR d pv,Cd)
  |none=>none
 |none,_=>none
section
variable {P:Program}{L:dj}{s s':St}{ops:Array Oper}{K:St->Prop}{Q:Exit->St->Prop}{rest:List Oper}
theorem f_ {o:Oper}(h:gB ops s o.guard=some true):Wants ops s o true:=by
 cases hg:o.guard with
 |none=>exact .none hg
 |some p =>
  obtain⟨j,want⟩:=p;rw[hg]at h;simp only[gB]at h;split at h
  .rename_i e hd;split at h
   .rename_i b hr;cases b<;>cases want<;>simp at h
    .exact .yes hg hd hr
    .exact .yes hg hd hr
   .split at h
    .split at h<;>cases h
    .cases h
   .cases h
  .cases h
theorem FE {o:Oper}(h:gB ops s o.guard=some false):Wants ops s o false:=by
 cases hg:o.guard with
 |none=>rw[hg]at h;cases h
 |some p =>
  obtain⟨j,want⟩:=p;rw[hg]at h;simp only[gB]at h;split at h
  .rename_i e hd;split at h
   .rename_i b hr;cases b<;>cases want<;>simp at h
    .exact .no hg hd hr ap
    .exact .no hg hd hr ap
   .rename_i hr;split at h
    .split at h
     .exact .junk hg hd hr
     .cases h
    .cases h
   .cases h
  .cases h
theorem Lg {d:Option Nat}{op:Op}{Cd:Prop}{ty:TypeId}{pos:String}{af:Array Edge}{g:Option (Nat × Bool)}(h:O9 L s d op=some (s',Cd))(hc:Cd)(hk:K s'):POp P L s ⟨d,op,ty,pos,af,g⟩ K:=by
 unfold O9 at h;split at h
 .split at h
  .rename_i hx hown;split at h
   .rename_i h1;cases h;exact RK hx hown h1 hc.2 hc.1 hk
   .cases h
  .cases h
 .split at h
  .rename_i hr;split at h
   .rename_i hz hown;cases h;exact Ni hr hz hown hc hk
   .cases h
  .cases h
 .split at h
  .rename_i r hr;split at h
   .rename_i hx;split at h
    .split at h
     .rename_i hown;split at h
      .split at h
       .rename_i hv;split at h
        .rename_i h1;cases h;obtain⟨c1,c2,c3,c4⟩:=hc;subst c1;exact Kv hr hx hown hv h1 c4 c2 c3 O hk
        .cases h
       .cases h
      .cases h
     .cases h
    .cases h
   .cases h
  .cases h
 .split at h
  .rename_i hq;cases h;exact RL hq hc hk
  .cases h
 .cases h
def S5 (P:Program)(L:dj)(ops:Array Oper)(K:St->Prop):List Oper->St->Option (Prop × Prop)
 |[],s=>some (True,K s)
 |o::rest,s=>match o with
  |⟨d,op,_,_,_,g⟩=>match gB ops s g with
   |some true=>match O9 L s d op with
    |some (s',Cd)=>some (Cd,POps P L ops K rest s')
    |none=>none
   |some false=>some (True,POps P L ops K rest (s.put d (.raw undef)))
   |none=>none
theorem zs {l:List Oper}{Cd A:Prop}(h:S5 P L ops K l s=some (Cd,A))(hc:Cd)(k:A):POps P L ops K l s:=by
 cases l with
 |nil=>cases h;exact k
 |cons o rest =>
  obtain⟨d,op,ty,pos,af,g⟩:=o;unfold S5 at h;dsimp only at h;split at h
  .rename_i hg;split at h
   .rename_i hs;cases h;exact .inl ⟨f_ hg,Lg hs hc k⟩
   .cases h
  .rename_i hg;cases h;exact .inr ⟨FE hg,k⟩
  .cases h
def S4 (P:Program)(L:dj)(ops:Array Oper)(K:St->Prop):List Oper->St->Option (Prop × Prop)
 |[],s=>some (True,K s)
 |o::rest,s=>match o with
  |⟨d,op,_,_,_,g⟩=>match gB ops s g with
   |some true=>match d with
    |some d=>match qv L s op with
     |some (pv,Cd)=>some (Cd,PQuiet P L ops K rest (s.putR d pv))
     |none=>none
    |none=>none
   |some false=>some (True,PQuiet P L ops K rest (s.put d (.raw undef)))
   |none=>none
theorem zq {l:List Oper}{Cd A:Prop}(h:S4 P L ops K l s=some (Cd,A))(hc:Cd)(k:A):PQuiet P L ops K l s:=by
 cases l with
 |nil=>cases h;exact k
 |cons o rest =>
  obtain⟨d,op,ty,pos,af,g⟩:=o;unfold S4 at h;dsimp only at h;split at h
  .rename_i hg;split at h
   .split at h
    .rename_i hs;cases h;exact .inl ⟨f_ hg,_,.v hs hc,k⟩
    .cases h
   .cases h
  .rename_i hg;cases h;exact .inr ⟨FE hg,k⟩
  .cases h
def S6 (P:Program)(L:dj):Code->(Exit->St->Prop)->St->Option Prop
 |.skip,Q,s=>some (Q .normal s)
 |.region _ ops false,Q,s=>match ops with|⟨l⟩=>some (POps P L ops (Q .normal) l s)
 |.seq x y,Q,s=>some (PWP P L x (aE (fun s'=>PWP P L y Q s') Q) s)
 |.cond c x y,Q,s=>match s.ev c with
  |.bool b=>match b with
   |true=>some (PWP P L x Q s)
   |false=>some (PWP P L y Q s)
  |_=>none
 |.block id c,Q,s=>some (PWP P L c (aw id Q) s)
 |.exit id,Q,s=>some (Q (.exit id) s)
 |.ret,Q,s=>some (Q .ret s)
 |_,_,_=>none
theorem zw {c:Code}{A:Prop}(h:S6 P L c Q s=some A)(k:A):PWP P L c Q s:=by
 unfold S6 at h;split at h
 .cases h;exact Nv k
 .cases h;exact bZ k
 .cases h;exact k
 .split at h
  .rename_i hc;split at h
   .cases h;exact Ny hc k
   .cases h;exact KM hc k
  .cases h
 .cases h;exact k
 .cases h;exact Nu k
 .cases h;exact Qn k
 .cases h
def S7 (next:St->Prop)(Q:Exit->St->Prop):Exit->St->Option Prop
 |.normal,s=>some (next s)
 |.ret,s=>some (Q .ret s)
 |.exit id,s=>some (Q (.exit id) s)
 |_,_=>none
theorem zx {next:St->Prop}{e:Exit}{A:Prop}(h:S7 next Q e s=some A)(k:A):aE next Q e s:=by
 unfold S7 at h;split at h<;>cases h<;>exact k
def S3 (id:Nat)(Q:Exit->St->Prop):Exit->St->Option Prop
 |.normal,s=>some (Q .normal s)
 |.ret,s=>some (Q .ret s)
 |.exit id',s=>match Nat.beq id' id with
  |true=>some (Q .normal s)
  |false=>some (Q (.exit id') s)
 |_,_=>none
theorem zb {id:Nat}{e:Exit}{A:Prop}(h:S3 id Q e s=some A)(k:A):aw id Q e s:=by
 unfold S3 at h;split at h
 .cases h;exact k
 .cases h;exact k
 .split at h
  .rename_i he;cases h;have:=zO he;subst this;exact Ot k
  .rename_i he;cases h;exact Oq he k
 .cases h
theorem TB {d:Nat}{op:Op}{ty:TypeId}{pos:String}{af:Array Edge}{g:Option (Nat × Bool)}{pv:PV}(hg:gB ops s g=some true)(hq:QOp P L s ⟨some d,op,ty,pos,af,g⟩ pv)(k:POps P L ops K rest (s.putR d pv)):POps P L ops K (⟨some d,op,ty,pos,af,g⟩::rest) s :=
 .inl ⟨f_ hg,oX hq k⟩
theorem TA {d:Nat}{op:Op}{ty:TypeId}{pos:String}{af:Array Edge}{g:Option (Nat × Bool)}{pv:PV}(hg:gB ops s g=some true)(hq:QOp P L s ⟨some d,op,ty,pos,af,g⟩ pv)(k:PQuiet P L ops K rest (s.putR d pv)):PQuiet P L ops K (⟨some d,op,ty,pos,af,g⟩::rest) s :=
 .inl ⟨f_ hg,_,hq,k⟩
def RB:Op->Bool
 |.next _ _=>true
 |_=>false
def SY (P:Program)(L:dj)(ops:Array Oper)(Z:Nat->List Nat)(cls:Nat->Bool)(K:St->Prop)(i:Nat):List Oper->St->Option (Prop × Prop)
 |[],s=>some (True,K s)
 |o::rest,s=>match o with
  |⟨d,op,_,_,_,g⟩=>match gB ops s g with
   |some true=>match d with
    |some d=>match cls i with
     |true=>match qv L s op with
      |some (pv,Cd)=>some (Cd,P3 P L ops Z cls K (i+1) rest (s.putR d pv))
      |none=>none
     |false=>match qv L (s.erase (Z i)) op with
      |some (pv,Cd)=>some (Cd,P3 P L ops Z cls K (i+1) rest (s.putR d pv))
      |none=>none
    |none=>none
   |some false=>some (True,P3 P L ops Z cls K (i+1) rest (s.put d (.raw undef)))
   |none=>none
theorem z3 {Z:Nat->List Nat}{cls:Nat->Bool}{i:Nat}{l:List Oper}{Cd A:Prop}(h:SY P L ops Z cls K i l s=some (Cd,A))(hc:Cd)(k:A):P3 P L ops Z cls K i l s:=by
 cases l with
 |nil=>cases h;exact k
 |cons o rest =>
  obtain⟨d,op,ty,pos,af,g⟩:=o;unfold SY at h;dsimp only at h;split at h
  .rename_i hg;split at h
   .rename_i dd;split at h
    .rename_i hcl;split at h
     .rename_i hs;cases h;refine⟨_,?_,k⟩;rw[hcl];exact Step3.quiet (o:=⟨some dd,op,ty,pos,af,g⟩) (f_ hg) (.v hs hc)
     .cases h
    .rename_i hcl;split at h
     .rename_i hs;cases h;refine⟨_,?_,k⟩;rw[hcl];exact Step3.free (o:=⟨some dd,op,ty,pos,af,g⟩) (f_ hg) (.v hs hc)
     .cases h
   .cases h
  .rename_i hg;cases h;exact⟨_,.no (FE hg),k⟩
  .cases h
theorem Tv {Z:Nat->List Nat}{cls:Nat->Bool}{i d:Nat}{op:Op}{ty:TypeId}{pos:String}{af:Array Edge}{g:Option (Nat × Bool)}{pv:PV}(hg:gB ops s g=some true)(hc:cls i=false)(hq:QOp P L (s.erase (Z i)) ⟨some d,op,ty,pos,af,g⟩ pv)
  (k:P3 P L ops Z cls K (i+1) rest (s.putR d pv)):P3 P L ops Z cls K i (⟨some d,op,ty,pos,af,g⟩::rest) s:=by
 refine⟨_,?_,k⟩;rw[hc];exact Step3.free (o:=⟨some d,op,ty,pos,af,g⟩) (f_ hg) hq
theorem Tu {Z:Nat->List Nat}{cls:Nat->Bool}{i d:Nat}{op:Op}{ty:TypeId}{pos:String}{af:Array Edge}{g:Option (Nat × Bool)}{pv:PV}(hg:gB ops s g=some true)(hc:cls i=true)(hq:QOp P L s ⟨some d,op,ty,pos,af,g⟩ pv)
  (k:P3 P L ops Z cls K (i+1) rest (s.putR d pv)):P3 P L ops Z cls K i (⟨some d,op,ty,pos,af,g⟩::rest) s:=by
 refine⟨_,?_,k⟩;rw[hc];exact Step3.quiet (o:=⟨some d,op,ty,pos,af,g⟩) (f_ hg) hq
theorem jQ {Z:Nat->List Nat}{cls:Nat->Bool}{i:Nat}{d:Option Nat}{op:Op}{ty:TypeId}{pos:String}{af:Array Edge}{g:Option (Nat × Bool)}(hg:gB ops s g=some true)(hc:cls i=true)(hn:RB op=false)
  (h:POp P L s ⟨d,op,ty,pos,af,g⟩ (fun s'=>(∀k,gJ (Z i) k=false->s'.own k=s.own k)/\P3 P L ops Z cls K (i+1) rest s')):P3 P L ops Z cls K i (⟨d,op,ty,pos,af,g⟩::rest) s:=by
 rcases h with⟨pv,h1,h2⟩|⟨s',h1,h2⟩|h1
 .refine⟨_,?_,h2.2⟩;rw[hc];exact Step3.quiet (o:=⟨d,op,ty,pos,af,g⟩) (f_ hg) h1
 .refine⟨_,?_,h2.2⟩;rw[hc];exact Step3.eff (o:=⟨d,op,ty,pos,af,g⟩) (f_ hg) h1 h2.1
 .exfalso;cases h1
theorem fU {Z:List Nat}{k g d:Nat}{c:Option Cont}{v:PV}(hz:gJ Z k=true):∀q,gJ Z q=false->((s.setOwn k g c).putR d v).own q=s.own q:=fun q hq=>by
 have hne:q≠k:=fun e=>by rw[e,hz]at hq;cases hq
 show(bif Nat.beq q k then _ else s.own q)=_;rw[cS hne];rfl
theorem nb {Z:List Nat}{k g:Nat}{c:Option Cont}(hz:gJ Z k=true):∀q,gJ Z q=false->(s.setOwn k g c).own q=s.own q:=fun q hq=>by
 have hne:q≠k:=fun e=>by rw[e,hz]at hq;cases hq
 show(bif Nat.beq q k then _ else s.own q)=_;rw[cS hne];rfl
def L_ (s:St):Option Nat->Op->Option Nat
 |some d,.box _ _=>some d
 |some d,.alloc _=>some d
 |none,.store _ x _=>match s.ev x with | .ptr k _ _ _=>some k | _=>none
 |_,_=>none
def QL (P:Program)(L:dj)(ops:Array Oper)(Z:Nat->List Nat)(cls:Nat->Bool)(K:St->Prop)(i:Nat):List Oper->St->Option (Prop × Prop)
 |[],_=>none
 |o::rest,s=>match o with
  |⟨d,op,_,_,_,g⟩=>match gB ops s g,cls i,L_ s d op,RB op with
   |some true,true,some t,false=>match gJ (Z i) t,O9 L s d op with
    |true,some (s',Cd)=>some (Cd,P3 P L ops Z cls K (i+1) rest s')
    |_,_=>none
   |_,_,_,_=>none
theorem IG {d:Option Nat}{op:Op}{t:Nat}{Cd:Prop}(ht:L_ s d op=some t)(h:O9 L s d op=some (s',Cd)):∀q,q≠t->s'.own q=s.own q:=by
 intro q hq;have one:∀(g:Nat) (c:Option Cont),(s.setOwn t g c).own q=s.own q:=fun g c=>by
  show(bif Nat.beq q t then _ else s.own q)=_;rw[cS hq];rfl
 unfold L_ at ht;split at ht
 .cases ht;unfold O9 at h;dsimp only at h;split at h
  .split at h
   .cases h;exact one _ _
   .cases h
  .cases h
 .cases ht;unfold O9 at h;dsimp only at h;split at h
  .split at h
   .cases h;exact one _ _
   .cases h
  .cases h
 .split at ht
  .rename_i hx;cases ht;unfold O9 at h;dsimp only at h;split at h
   .rw[hx]at h;dsimp only at h;split at h
    .split at h
     .split at h
      .split at h
       .split at h
        .cases h;exact one _ _
        .cases h
       .cases h
      .cases h
     .cases h
    .cases h
   .cases h
  .cases ht
 .cases ht
theorem Tw {Z:Nat->List Nat}{cls:Nat->Bool}{i:Nat}{l:List Oper}{Cd A:Prop}(h:QL P L ops Z cls K i l s=some (Cd,A))(hc:Cd)(k:A):P3 P L ops Z cls K i l s:=by
 cases l with
 |nil=>cases h
 |cons o rest =>
  obtain⟨d,op,ty,pos,af,g⟩:=o;unfold QL at h;dsimp only at h;split at h
  .rename_i hg hcl ht hn;split at h
   .rename_i hz hs;cases h;exact jQ hg hcl hn (Lg hs hc ⟨fun q hq=>IG ht hs q (fun e=>by rw[e,hz]at hq;cases hq),k⟩)
   .cases h
  .cases h
theorem fm {Z:Nat->List Nat}{cls:Nat->Bool}{i d e j:Nat}{op:Op}{ty:TypeId}{pos:String}{af:Array Edge}{want b:Bool}(_hd:(ops[j]?).bind (·.dst)=some e)(hr:s.reg e=.bool b)
  (h1:b=true->P3 P L ops Z cls K i (⟨some d,op,ty,pos,af,some (j,want)⟩::rest) (s.putR e (.bool true))) (h0:b=false->P3 P L ops Z cls K i (⟨some d,op,ty,pos,af,some (j,want)⟩::rest) (s.putR e (.bool false))) :
  P3 P L ops Z cls K i (⟨some d,op,ty,pos,af,some (j,want)⟩::rest) s:=by
 have:=oH hr;cases b
 .rw[<-this];exact h0 O
 .rw[<-this];exact h1 O
class Nx (G0:Prop) where
 nx:Option (Prop × Prop)
 ok:∀Cd A,nx=some (Cd,A)->Cd->A->G0
theorem S8 {G0:Prop}[i:Nx G0]{Cd A:Prop}(h:i.nx=some (Cd,A))(hc:Cd)(k:A):G0:=i.ok Cd A h hc k
instance {l:List Oper}:Nx (POps P L ops K l s):=⟨S5 P L ops K l s,fun _ _ h hc k=>zs h hc k⟩
instance {l:List Oper}:Nx (PQuiet P L ops K l s):=⟨S4 P L ops K l s,fun _ _ h hc k=>zq h hc k⟩
def Sw (a b:Option (Prop × Prop)):Option (Prop × Prop):=match a with
 |some x=>some x
 |none=>b
instance {Z:Nat->List Nat} {cls:Nat->Bool} {i:Nat} {l:List Oper}:Nx (P3 P L ops Z cls K i l s):=⟨Sw (SY P L ops Z cls K i l s) (QL P L ops Z cls K i l s),fun _ _ h hc k=>by
 unfold Sw at h;split at h
 .cases h;exact z3 ‹_› hc k
 .exact Tw h hc k⟩
def Sp:Option Prop->Option (Prop × Prop)
 |some A=>some (True,A)
 |none=>none
theorem wZ {a:Option Prop}{Cd A:Prop}(h:Sp a=some (Cd,A)):a=some A:=by
 unfold Sp at h;split at h
 .cases h;rfl
 .cases h
instance {c:Code}:Nx (PWP P L c Q s):=⟨Sp (S6 P L c Q s),fun _ _ h _ k=>zw (wZ h) k⟩
instance {next:St->Prop} {e:Exit}:Nx (aE next Q e s):=⟨Sp (S7 next Q e s),fun _ _ h _ k=>zx (wZ h) k⟩
instance {id:Nat} {e:Exit}:Nx (aw id Q e s):=⟨Sp (S3 id Q e s),fun _ _ h _ k=>zb (wZ h) k⟩
class Qx (G0:Prop) (P:outParam Program) (L:outParam dj) (s:outParam St) (ops:outParam (Array Oper)) (l:outParam (List Oper)) (K:outParam (List Oper->Nat->PV->Prop)) where
 ok:∀(d:Nat) (op:Op) (ty:TypeId) (pos:String) (af:Array Edge) (g:Option (Nat × Bool)) (rest:List Oper) (pv:PV),l=⟨some d,op,ty,pos,af,g⟩::rest->gB ops s g=some true->QOp P L s ⟨some d,op,ty,pos,af,g⟩ pv->K rest d pv->G0
instance {l:List Oper}:Qx (POps P L ops K l s) P L s ops l (fun rest d pv=>POps P L ops K rest (s.putR d pv)) :=
 ⟨fun _ _ _ _ _ _ _ _ hl hg hq k=>by subst hl;exact TB hg hq k⟩
instance {l:List Oper}:Qx (PQuiet P L ops K l s) P L s ops l (fun rest d pv=>PQuiet P L ops K rest (s.putR d pv)) :=
 ⟨fun _ _ _ _ _ _ _ _ hl hg hq k=>by subst hl;exact TA hg hq k⟩
def St.era (Z:List Nat)(c:Bool)(s:St):St:=match c with
 |true=>s
 |false=>s.erase Z
theorem PW {Z:List Nat}{c:Bool}{g:Option (Nat × Bool)}:gB ops (s.era Z c) g=gB ops s g:=by cases c<;>rfl
instance {Z:Nat->List Nat} {cls:Nat->Bool} {i:Nat} {l:List Oper}:Qx (P3 P L ops Z cls K i l s) P L (s.era (Z i) (cls i)) ops l (fun rest d pv=>P3 P L ops Z cls K (i+1) rest (s.putR d pv)) :=
 ⟨fun _ _ _ _ _ _ _ _ hl hg hq k=>by
  subst hl;rw[PW]at hg;cases hc:cls i with
  |true=>rw[hc]at hq;exact Tu hg hc hq k
  |false=>rw[hc]at hq;exact Tv hg hc hq k⟩
def Sy (P:Program)(L:dj)(ops:Array Oper)(Z:List Nat)(lc:Nat->Option Nat)(K:St->Prop)(i:Nat):List Oper->St->Option (Prop × Prop)
 |[],s=>some (True,K s)
 |o::rest,s=>match o with
  |⟨d,op,_,_,_,g⟩=>match gB ops s g with
   |some true=>match d with
    |some d=>match qv L (s.erase Z) op with
     |some (pv,Cd)=>some (Cd,P5 P L ops Z lc K (i+1) rest (s.putR d pv))
     |none=>none
    |none=>none
   |some false=>some (True,P5 P L ops Z lc K (i+1) rest (s.put d (.raw undef)))
   |none=>none
theorem z5 {Z:List Nat}{lc:Nat->Option Nat}{i:Nat}{l:List Oper}{Cd A:Prop}(h:Sy P L ops Z lc K i l s=some (Cd,A))(hc:Cd)(k:A):P5 P L ops Z lc K i l s:=by
 cases l with
 |nil=>cases h;exact k
 |cons o rest =>
  obtain⟨d,op,ty,pos,af,g⟩:=o;unfold Sy at h;dsimp only at h;split at h
  .rename_i hg;split at h
   .rename_i dd;split at h
    .rename_i hs;cases h;exact⟨_,Step5.free (o:=⟨some dd,op,ty,pos,af,g⟩) (f_ hg) (.v hs hc),k⟩
    .cases h
   .cases h
  .rename_i hg;cases h;exact⟨_,.no (FE hg),k⟩
  .cases h
instance {Z:List Nat} {lc:Nat->Option Nat} {i:Nat} {l:List Oper}:Nx (P5 P L ops Z lc K i l s):=⟨Sy P L ops Z lc K i l s,fun _ _ h hc k=>z5 h hc k⟩
theorem JJ {Z:List Nat}{g:Option (Nat × Bool)}:gB ops (s.erase Z) g=gB ops s g:=rfl
instance {Z:List Nat} {lc:Nat->Option Nat} {i:Nat} {l:List Oper}:Qx (P5 P L ops Z lc K i l s) P L (s.erase Z) ops l (fun rest d pv=>P5 P L ops Z lc K (i+1) rest (s.putR d pv)) :=
 ⟨fun _ _ _ _ _ _ _ _ hl hg hq k=>by
  subst hl;rw[JJ]at hg
  exact⟨_,Step5.free (o:=⟨some _,_,_,_,_,_⟩) (f_ hg) hq,k⟩⟩
theorem I0 {Z:List Nat}{lc:Nat->Option Nat}{i d:Nat}{T ty:TypeId}{r:LRow}{z:List PV}{pos:String}{af:Array Edge}{g:Option (Nat × Bool)}(hg:gB ops s g=some true)(hc:lc i=some d)(hr:L T=some r)(hz:r.zero=some z)(h0:Nat.blt 0 z.length=true)
  (h:P5 P L ops Z lc K (i+1) rest ((s.setOwn d ((s.own d).1+1) (some ⟨T,z.length,[z],2⟩)).putR d (.ptr d ((s.own d).1+1) 0 0))):P5 P L ops Z lc K i (⟨some d,.alloc T,ty,pos,af,g⟩::rest) s:=by
 refine⟨_,?_,h⟩;rw[hc];exact Step5.loc (o:=⟨some d,.alloc T,ty,pos,af,g⟩) (f_ hg) (.alloc O O hr hz (by simpa using h0))
theorem IP {Z:List Nat}{lc:Nat->Option Nat}{i k gn ii j:Nat}{T ty:TypeId}{r:LRow}{x y:Operand}{c:Cont}{row:List PV}{Pr:Prop}{pos:String}{af:Array Edge}{g:Option (Nat × Bool)}(kd:Nat)(hg:gB ops s g=some true)(hc:lc i=some k)(hr:L T=some r)(hx:s.ev x=.ptr k gn ii j)(hown:s.own k=(gn,some c))
  (hrow:c.rows[ii]?=some row) (h1:∀s':St,gh s' (s.ev y).cells=some Pr) (h2:Pr) (hsz:(s.ev y).cells.length=r.size) (hle:Nat.ble (j+r.size) row.length=true) (hk:Nat.ble c.kind kd=true) (hkd:(s.ev y).cells.all (tT kd)=true)
  (h:P5 P L ops Z lc K (i+1) rest (s.setOwn k gn (some ⟨c.ty,c.sz,c.rows.set ii (oZ row j ((s.ev y).cells.map (jP kd))),kd⟩))):P5 P L ops Z lc K i (⟨none,.store T x y,ty,pos,af,g⟩::rest) s:=by
 refine⟨_,?_,h⟩;rw[hc];exact Step5.loc (o:=⟨none,.store T x y,ty,pos,af,g⟩) (f_ hg) (.store kd O O hr hx hown hrow h1 h2 hsz (by simpa using hle) (by simpa using hk) hkd)
theorem ci {G0:Prop}{P:Program}{L:dj}{s:St}{ops:Array Oper}{l:List Oper}{K:List Oper->Nat->PV->Prop}[i:Qx G0 P L s ops l K]{d:Nat}{op:Op}{ty:TypeId}{pos:String}{af:Array Edge}{g:Option (Nat × Bool)}{rest:List Oper}{pv:PV}
  (hl:l=⟨some d,op,ty,pos,af,g⟩::rest) (hb:gB ops s g=some true) (hq:QOp P L s ⟨some d,op,ty,pos,af,g⟩ pv) (k:K rest d pv):G0:=i.ok d op ty pos af g rest pv hl hb hq k
end
section
def P6:PV->Bool
 |.als _ _ _ _ | .ptr _ _ _ _ | .mp _ _ | .raw _ | .agg _ | .tup _ | .mi _ _ | .yl _ _ | .lbl _ _ _ _ _ _ | .dfd=>false
 |_=>true
def Qf:List PV->Prop
 |[]=>True
 |_::cs=>True/\Qf cs
theorem Cj (s:St):∀l:List PV,l.all P6=true->gh s l=some (Qf l)
 |[],_=>rfl
 |c::cs,h=>by
  simp only[rc,cm]at h;have h1:rl s c=some True:=by cases c<;>first|rfl|(simp[P6]at h)
  unfold gh;rw[h1,Cj s cs h.2];rfl
theorem Gp:∀l,Qf l
 |[]=>trivial
 |_::l=>⟨trivial,Gp l⟩
def Su (l:List (Nat × Nat)):Nat->Option Nat:=zu l
variable [Globs]
variable {P:Program}{L:dj}{s:St}{ops:Array Oper}{K:St->Prop}{Q:Exit->St->Prop}
def QM (P:Program)(L:dj)(ops:Array Oper)(Z:List Nat)(lc:Nat->Option Nat)(K:St->Prop)(i:Nat):List Oper->St->Option (Prop × Prop)
 |[],_=>none
 |o::rest,s=>match o with
  |⟨some d,.alloc T,_,_,_,g⟩=>match gB ops s g,lc i,L T with
   |some true,some t,some r=>match r.zero with
    |some z=>some (t=d/\Nat.blt 0 z.length=true,P5 P L ops Z lc K (i+1) rest ((s.setOwn d ((s.own d).1+1) (some ⟨T,z.length,[z],2⟩)).putR d (.ptr d ((s.own d).1+1) 0 0)))
    |none=>none
   |_,_,_=>none
  |⟨none,.store T x y,_,_,_,g⟩=>match gB ops s g,lc i,L T,s.ev x with
   |some true,some t,some r,.ptr k gn ii j=>match s.own k with
    |(gn',some c)=>match c.rows[ii]? with
     |some row=>some (t=k/\gn'=gn/\(s.ev y).cells.all P6=true/\(s.ev y).cells.length=r.size/\Nat.ble (j+r.size) row.length=true/\Nat.ble c.kind 2=true/\(s.ev y).cells.all (tT 2)=true,
       P5 P L ops Z lc K (i+1) rest (s.setOwn k gn (some ⟨c.ty,c.sz,c.rows.set ii (oZ row j ((s.ev y).cells.map (jP 2))),2⟩)))
     |none=>none
    |_=>none
   |_,_,_,_=>none
  |_=>none
theorem Tz {Z:List Nat}{lc:Nat->Option Nat}{i:Nat}{l:List Oper}{Cd A:Prop}(h:QM P L ops Z lc K i l s=some (Cd,A))(hc:Cd)(k:A):P5 P L ops Z lc K i l s:=by
 cases l with
 |nil=>cases h
 |cons o rest =>
  unfold QM at h;dsimp only at h;split at h
  .split at h
   .rename_i hg hl hr;split at h
    .rename_i hz;cases h;obtain⟨rfl,h0⟩:=hc;exact I0 hg hl hr hz h0 k
    .cases h
   .cases h
  .split at h
   .rename_i hg hl hr hx;split at h
    .rename_i hown;split at h
     .rename_i hrow;cases h;obtain⟨rfl,rfl,h1,h2,h3,h4,h5⟩:=hc;exact IP 2 hg hl hr hx hown hrow (fun s'=>Cj s' _ h1) (Gp _) h2 h3 h4 h5 k
     .cases h
    .cases h
   .cases h
  .cases h
instance {Z:List Nat} {l:List (Nat × Nat)} {i:Nat} {os:List Oper}:Nx (P5 P L ops Z (Su l) K i os s):=⟨Sw (Sy P L ops Z (Su l) K i os s) (QM P L ops Z (Su l) K i os s),fun _ _ h hc k=>by
 unfold Sw at h;split at h
 .cases h;exact z5 ‹_› hc k
 .exact Tz h hc k⟩
theorem a_ {id:Nat}{ops:List Oper}(l:List (Nat × Nat))(hok:j3 ops.toArray []=true)(hlc:D9 ops.toArray l=true)(h:P5 P L ops.toArray (l.map (·.2)) (Su l) (Q .normal) 0 ops s):PWP P L (.region id ops.toArray true) Q s:=ip l hok hlc h
end
theorem iQ {G0:Prop}[i:Nx G0]{Cd A:Prop}(h:i.nx=some (Cd,A))(k:A)(hc:Cd:=by((repeat' constructor);first|done|fail)):G0:=S8 h hc k
theorem wV {G0:Prop}[i:Nx G0]{Cd A:Prop}(h:i.nx=some (Cd,A))(k:A)(hc:Cd:=by((repeat' (first|exact True.intro|exact rfl|refine And.intro ?_ ?_));first|done|fail)):G0:=S8 h hc k
theorem SW {P:Program}{L:dj}{s:St}{d:Nat}{ty:TypeId}{pos:String}{af:Array Edge}{g:Option (Nat × Bool)}{fop:Operand}{args:Array Operand}{tys:Array TypeId}{f:FuncId}{caps pargs:List PV}{Cd:Prop}{b:Fl}{rr:PV}(hf:s.ev fop=.clo f caps)(hret:Ret P .shared f pargs rr)(hres:ja (i_ s 4) (args.toList.map s.ev++caps)=some (pargs,Cd,b))(hb:b.cl=true)(hc:Cd:=by((repeat' constructor);first|done|fail)):QOp P L s ⟨some d,.call ⟨.value fop,args,tys⟩,ty,pos,af,g⟩ rr:=gC hf hret hres hc hb
theorem Q6 {G0:Prop}{P:Program}{L:dj}{s:St}{ops:Array Oper}{l:List Oper}{K:List Oper->Nat->PV->Prop}[i:Qx G0 P L s ops l K]{d:Nat}{ty:TypeId}{pos:String}{af:Array Edge}{g:Option (Nat × Bool)}{rest:List Oper}{fop:Operand}{args:Array Operand}{tys:Array TypeId}{f:FuncId}{caps pargs:List PV}{Cd:Prop}{b:Fl}{rr rf:PV}(hl:l=⟨some d,.call ⟨.value fop,args,tys⟩,ty,pos,af,g⟩::rest)(hb:gB ops s g=some true)(hf:s.ev fop=.clo f caps)(hret:Ret P .shared f pargs rr)(hres:ja (i_ s 4) (args.toList.map s.ev++caps)=some (pargs,Cd,b))(hfl:rr.flat=true)(hrf:rr.frs.fz=some rf)(k:K rest d rf)(hc:Cd:=by((repeat' constructor);first|done|fail)):G0:=ci hl hb (uE hf hret hres hc hfl hrf) k
theorem Tg {G0:Prop}{P:Program}{L:dj}{s:St}{ops:Array Oper}{l:List Oper}{K:List Oper->Nat->PV->Prop}[i:Qx G0 P L s ops l K]{d:Nat}{ty:TypeId}{pos:String}{af:Array Edge}{g:Option (Nat × Bool)}{rest:List Oper}{fop:Operand}{args:Array Operand}{tys:Array TypeId}{f:FuncId}{caps pargs:List PV}{Cd:Prop}{b:Fl}{rr rf:PV}(hl:l=⟨some d,.call ⟨.value fop,args,tys⟩,ty,pos,af,g⟩::rest)(hb:gB ops s g=some true)(hf:s.ev fop=.clo f caps)(hret:Ret P .fresh f pargs rr)(hres:ja (i_ s 4) (args.toList.map s.ev++caps)=some (pargs,Cd,b))(hrf:rr.frs.fz=some rf)(k:K rest d rf)(hc:Cd:=by((repeat' constructor);first|done|fail)):G0:=ci hl hb (Gy hf hret hres hc hrf) k
theorem oJ {G0:Prop}{P:Program}{L:dj}{s:St}{ops:Array Oper}{l:List Oper}{K:List Oper->Nat->PV->Prop}[i:Qx G0 P L s ops l K]{d:Nat}{ty:TypeId}{pos:String}{af:Array Edge}{g:Option (Nat × Bool)}{rest:List Oper}{fop:Operand}{args:Array Operand}{tys:Array TypeId}{f:FuncId}{caps pargs:List PV}{Cd:Prop}{b:Fl}{rr:PV}(hl:l=⟨some d,.call ⟨.value fop,args,tys⟩,ty,pos,af,g⟩::rest)(hb:gB ops s g=some true)(hf:s.ev fop=.clo f caps)(hret:Ret P .shared f pargs rr)(hres:ja (i_ s 4) (args.toList.map s.ev++caps)=some (pargs,Cd,b))(hb2:b.cl=true)(k:K rest d rr)(hc:Cd:=by((repeat' constructor);first|done|fail)):G0:=ci hl hb (gC hf hret hres hc hb2) k
theorem tp {G0:Prop}{P:Program}{L:dj}{s:St}{ops:Array Oper}{l:List Oper}{K:List Oper->Nat->PV->Prop}[i:Qx G0 P L s ops l K]{d:Nat}{ty:TypeId}{pos:String}{af:Array Edge}{g:Option (Nat × Bool)}{rest:List Oper}{T E:TypeId}{r re:LRow}{x ix:Operand}{kk:IntKind}{n:Int}{α:Type}{enc:α->List PV}{ls:List α}{a:α}(hl:l=⟨some d,.indexAddr T x ix,ty,pos,af,g⟩::rest)(hb:gB ops s g=some true)(hr:L T=some r)(hs:r.sh=.sl E)(hre:L E=some re)(hx:s.ev x=.sl (ls.map enc))(hix:s.ev ix=.int kk n)(hget:ls[n.toNat]?=some a)(hlen:(enc a).length=re.size)(k:K rest d (.dref (enc a) 0))(h0:0<=n:=by omega):G0:=ci hl hb (lK hr hs hre hx hix h0 hget hlen) k
theorem np {G0:Prop}{P:Program}{L:dj}{s:St}{ops:Array Oper}{l:List Oper}{K:List Oper->Nat->PV->Prop}[i:Qx G0 P L s ops l K]{d:Nat}{ty:TypeId}{pos:String}{af:Array Edge}{g:Option (Nat × Bool)}{rest:List Oper}{T E:TypeId}{r re:LRow}{x ix:Operand}{kk:IntKind}{n:Int}{st gn i0 m:Nat}{c:Cont}(hl:l=⟨some d,.indexAddr T x ix,ty,pos,af,g⟩::rest)(hb:gB ops s g=some true)(hr:L T=some r)(hs:r.sh=.sl E)(hre:L E=some re)(hx:s.ev x=.als st gn i0 m)(hown:s.own st=(gn,some c))(hsz:c.sz=re.size)(hix:s.ev ix=.int kk n)(k:K rest d (.ptr st gn (i0+n.toNat) 0))(h0:0<=n:=by omega)(hlt:n<m:=by omega):G0:=ci hl hb (cF hr hs hre hx hown hsz hix h0 hlt) k
class Sx (G0:Prop) (ops:outParam (Array Oper)) (l:outParam (List Oper)) (s:outParam St) (F:outParam (St->Prop)):Prop where
 ok:F s->G0
instance {P:Program} {L:dj} {ops:Array Oper} {K:St->Prop} {l:List Oper} {s:St}:Sx (POps P L ops K l s) ops l s (fun s'=>POps P L ops K l s'):=⟨fun h=>h⟩
instance {P:Program} {L:dj} {ops:Array Oper} {K:St->Prop} {l:List Oper} {s:St}:Sx (PQuiet P L ops K l s) ops l s (fun s'=>PQuiet P L ops K l s'):=⟨fun h=>h⟩
instance {P:Program} {L:dj} {ops:Array Oper} {K:St->Prop} {l:List Oper} {s:St} {Z:Nat->List Nat} {cls:Nat->Bool} {i:Nat}:Sx (P3 P L ops Z cls K i l s) ops l s (fun s'=>P3 P L ops Z cls K i l s'):=⟨fun h=>h⟩
theorem LF {G0:Prop}{ops:Array Oper}{l:List Oper}{s:St}{F:St->Prop}[i:Sx G0 ops l s F]{j e:Nat}{want b:Bool}(_hl:l.head?.bind (·.guard)=some (j,want))(_hd:(ops[j]?).bind (·.dst)=some e)(hr:s.reg e=.bool b)(h1:b=true->F (s.putR e (.bool true)))(h0:b=false->F (s.putR e (.bool false))):G0:=by
 have:=oH hr;cases b
 .have q:=h0 O;rw[this]at q;exact i.ok q
 .have q:=h1 O;rw[this]at q;exact i.ok q
theorem dN (k:Nat)(h:k<=9223372036854775806:=by omega):IntKind.i64.wrap (((k:Nat):Int)+1)=((k+1:Nat):Int):=by rw[wrap_i64 J J];omega
theorem H {G0 G':Prop}(k:G')(hr:G'->G0:=by(intro k;(repeat refine iQ O ?_);exact k)):G0:=hr k
theorem ax {G0 G':Prop}{P:Program}{L:dj}{s:St}{ops:Array Oper}{l:List Oper}{K:List Oper->Nat->PV->Prop}{d:Nat}{ty:TypeId}{pos:String}{af:Array Edge}{g:Option (Nat × Bool)}{rest:List Oper}{fop:Operand}{args:Array Operand}{tys:Array TypeId}{f:FuncId}{caps pargs:List PV}{Cd:Prop}{b:Fl}{rr rf:PV}(hret:Ret P .shared f pargs rr)(k:K rest d rf)(hr:G'->G0:=by(intro k;(repeat refine iQ O ?_);exact k))(i:Qx G' P L s ops l K:=by infer_instance)(hl:l=⟨some d,.call ⟨.value fop,args,tys⟩,ty,pos,af,g⟩::rest:=by exact O)(hb:gB ops s g=some true:=by exact O)(hf:s.ev fop=.clo f caps:=by exact O)(hres:ja (i_ s 4) (args.toList.map s.ev++caps)=some (pargs,Cd,b):=by exact O)(hfl:rr.flat=true:=by exact O)(hrf:rr.frs.fz=some rf:=by exact O)(hc:Cd:=by((repeat' constructor);first|done|fail)):G0:=hr (Q6 (i:=i) hl hb hf hret hres hfl hrf k hc)
theorem RS {G0 G':Prop}{P:Program}{L:dj}{s:St}{ops:Array Oper}{l:List Oper}{K:List Oper->Nat->PV->Prop}{d:Nat}{ty:TypeId}{pos:String}{af:Array Edge}{g:Option (Nat × Bool)}{rest:List Oper}{fop:Operand}{args:Array Operand}{tys:Array TypeId}{f:FuncId}{caps pargs:List PV}{Cd:Prop}{b:Fl}{rr rf:PV}(hret:Ret P .fresh f pargs rr)(k:K rest d rf)(hr:G'->G0:=by(intro k;(repeat refine iQ O ?_);exact k))(i:Qx G' P L s ops l K:=by infer_instance)(hl:l=⟨some d,.call ⟨.value fop,args,tys⟩,ty,pos,af,g⟩::rest:=by exact O)(hb:gB ops s g=some true:=by exact O)(hf:s.ev fop=.clo f caps:=by exact O)(hres:ja (i_ s 4) (args.toList.map s.ev++caps)=some (pargs,Cd,b):=by exact O)(hrf:rr.frs.fz=some rf:=by exact O)(hc:Cd:=by((repeat' constructor);first|done|fail)):G0:=hr (Tg (i:=i) hl hb hf hret hres hrf k hc)
theorem G {G0 G':Prop}{P:Program}{L:dj}{s:St}{ops:Array Oper}{l:List Oper}{K:List Oper->Nat->PV->Prop}{d:Nat}{ty:TypeId}{pos:String}{af:Array Edge}{g:Option (Nat × Bool)}{rest:List Oper}{fop:Operand}{args:Array Operand}{tys:Array TypeId}{f:FuncId}{caps pargs:List PV}{Cd:Prop}{b:Fl}{rr:PV}(hret:Ret P .shared f pargs rr)(k:K rest d rr)(hr:G'->G0:=by(intro k;(repeat refine iQ O ?_);exact k))(i:Qx G' P L s ops l K:=by infer_instance)(hl:l=⟨some d,.call ⟨.value fop,args,tys⟩,ty,pos,af,g⟩::rest:=by exact O)(hb:gB ops s g=some true:=by exact O)(hf:s.ev fop=.clo f caps:=by exact O)(hres:ja (i_ s 4) (args.toList.map s.ev++caps)=some (pargs,Cd,b):=by exact O)(hb2:b.cl=true:=by exact O)(hc:Cd:=by((repeat' constructor);first|done|fail)):G0:=hr (oJ (i:=i) hl hb hf hret hres hb2 k hc)
theorem aN {G0 G':Prop}{P:Program}{L:dj}{s:St}{ops:Array Oper}{l:List Oper}{K:List Oper->Nat->PV->Prop}{d:Nat}{ty:TypeId}{pos:String}{af:Array Edge}{g:Option (Nat × Bool)}{rest:List Oper}{T E:TypeId}{r re:LRow}{x ix:Operand}{kk:IntKind}{n:Int}{α:Type}{enc:α->List PV}{ls:List α}{a:α}{m:Nat}(hget:ls[m]?=some a)(k:K rest d (.dref (enc a) 0))(hr:G'->G0:=by(intro k;(repeat refine iQ O ?_);exact k))(i:Qx G' P L s ops l K:=by infer_instance)(hl:l=⟨some d,.indexAddr T x ix,ty,pos,af,g⟩::rest:=by exact O)(hb:gB ops s g=some true:=by exact O)(hr2:L T=some r:=by exact O)(hs:r.sh=.sl E:=by exact O)(hre:L E=some re:=by exact O)(hx:s.ev x=.sl (ls.map enc):=by exact O)(hix:s.ev ix=.int kk n:=by exact O)(hm:n.toNat=m:=by exact O)(hlen:(enc a).length=re.size:=by exact O)(h0:0<=n:=by omega):G0:=by subst hm;exact hr (tp (i:=i) hl hb hr2 hs hre hx hix hget hlen k h0)
theorem D {G0:Prop}{P:Program}{L:dj}{Q:Exit->St->Prop}{s:St}{c:Operand}{x y:Code}{b:Bool}(h1:b=true->PWP P L x Q s)(h2:b=false->PWP P L y Q s)(hr:PWP P L (.cond c x y) Q s->G0:=by(intro k;(repeat refine iQ O ?_);exact k))(hc:s.ev c=.bool b:=by exact O):G0:=hr (aV hc h1 h2)
theorem fi {G0 G':Prop}{ops:Array Oper}{l:List Oper}{s:St}{F:St->Prop}{j e:Nat}{want b:Bool}(h1:b=true->F (s.putR e (.bool true)))(h0:b=false->F (s.putR e (.bool false)))(hr:G'->G0:=by(intro k;(repeat refine iQ O ?_);exact k))(i:Sx G' ops l s F:=by infer_instance)(hl:l.head?.bind (·.guard)=some (j,want):=by exact O)(hd:(ops[j]?).bind (·.dst)=some e:=by exact O)(hg:s.reg e=.bool b:=by exact O):G0:=hr (LF (i:=i) hl hd hg h1 h0)
theorem cB {G0:Prop}{fn:Func}{L:dj}{s:St}{r:PV}{t:Nat}{k:IntKind}{n:Int}(hr:aj L fn .shared r .ret s->G0:=by(intro k;(repeat refine iQ O ?_);exact k))(h:fn.results.toList=[.tmp t]:=by exact O)(hv:s.reg t=.int k n:=by exact O)(hd:PV.int k n=r:=by exact O):G0:=hr (o9 h hv hd)
theorem kU {G0:Prop}{fn:Func}{L:dj}{s:St}{r:PV}{t:Nat}{b:Bool}(hr:aj L fn .shared r .ret s->G0:=by(intro k;(repeat refine iQ O ?_);exact k))(h:fn.results.toList=[.tmp t]:=by exact O)(hv:s.reg t=.bool b:=by exact O)(hd:PV.bool b=r:=by exact O):G0:=hr (fH h hv hd)
theorem cX {G0:Prop}{P:Program}{L:dj}{Q:Exit->St->Prop}{s:St}{id:Nat}{l:List Oper}(n:Nat)(ds:List Nat)(h:PQuiet P L l.toArray (fun s'=>POps P L l.toArray (Q .normal) (l.drop n) s') (l.take n) s)(hr:PWP P L (.region id l.toArray true) Q s->G0:=by(intro k;(repeat refine iQ O ?_);exact k))(hok:r6 l.toArray n ds=true:=by decide +kernel):G0:=hr (mN n ds hok h)
def Tc (_:Nat):Prop:=True
theorem Tl {n:Nat}{P:Program}{L:dj}{s:St}{ops:Array Oper}{d:Bool}{Q:Exit->St->Prop}(_:Tc n)(h:PWP P L (.region n ops d) Q s):PWP P L (.region n ops d) Q s:=h
theorem cV (n:Nat){G0 G':Prop}(k:G')(hr:Tc n->G'->G0:=by(intro e k;(repeat ((fail_if_success (with_reducible refine Tl e ?_));refine wV O ?_));exact k)):G0:=hr trivial k
theorem gp (z:Int)(h1 : -9223372036854775808<=z:=by omega)(h2:z<=9223372036854775807:=by omega):IntKind.i64.wrap z=z:=wrap_i64 h1 h2
end Go.Pv
namespace Go.Pv
open Go.RowKit
variable [Globs]
section
variable {L:dj}{s:St}{fn:Func}{r:PV}
end
end Go.Pv
namespace Go.Pv
open Go.RowKit
def jV:PV->Bool
 |.int _ _ | .bool _ | .str _=>true
 |_=>false
theorem yw {E:Env}{c:PV}{v:Value}(h:jV c=true)(hr:Rep E c v):v=Pa c:=by
 cases c<;>simp only[jV,eu]at h
 .exact hr.bool_inv
 .exact hr.int_inv
 .exact hr.str_inv
theorem kJ {c:PV}(h:jV c=true)(w:World)(ok:Nat->Prop):DRep w ok c (Pa c)/\(Pa c).oneCell'=true:=by
 cases c<;>simp only[jV,eu]at h
 .exact⟨.bool _,O⟩
 .exact⟨.int _ _,O⟩
 .exact⟨.str _,O⟩
variable [Globs]
theorem sy {P:Program}{L:dj}{s:St}{d:Nat}{ty:TypeId}{pos:String}{af:Array Edge}{g:Option (Nat × Bool)}{T E:TypeId}{x hi:Operand}{r re:LRow}{α:Type}{enc:α->List PV}{l:List α}{k:IntKind}{n:Int}(hr:L T=some r)(hs:r.sh=.sl E)(hre:L E=some re)
  (hx:s.ev x=.sl (l.map enc)) (hix:s.ev hi=.int k n) (h0:0<=n) (hle:n<=l.length) (hlen:∀a,(enc a).length=re.size):QOp P L s ⟨some d,.slice T x none (some hi) none,ty,pos,af,g⟩ (.sl ((l.take n.toNat).map enc)):=by
 have:=QOp.slh (P:=P) (L:=L) (s:=s) (o:=⟨some d,.slice T x none (some hi) none,ty,pos,af,g⟩) O hr hs hre hx hix h0 (by simpa using hle) (by intro row h;obtain⟨a,_,rfl⟩:=aW.1 h;exact hlen a);rwa [<-j9]at this
theorem Ghost.nilfs {s:St}{t:Nat}(hr:s.reg t=.nil):Ghost s (s.putR t (.fsl [])):=by
 intro C a w hX ⟨γ,h⟩;refine⟨γ,h.defers,h.size,fun r=>?_,h.sites,h.inj,h.base,h.below,h.top,h.kept⟩;show Rep _ (bif Nat.beq r t then _ else s.reg r) _;by_cases hrt:r=t
 .subst hrt;have hp:=h.regs r;rw[hr]at hp;simp only[ms,cond_true];rw[hp.nil_inv];exact .fsl (.sl0 _ _)
 .rw[cS hrt];exact h.regs r
theorem Ghost.takeF {s:St}{k g t n kd sz:Nat}{T:TypeId}{rows:List (List PV)}{α:Type}{enc:α->List PV}(l:List α)(ho:s.own k=(g,some ⟨T,sz,rows,kd⟩))(hr:s.reg t=.als k g 0 n)(he:rows=l.map enc)(hn:n=rows.length)(hpl:∀x,(enc x).all jV=true) :
  Ghost s ((s.setOwn k (g+1) none).putR t (.fsl (l.map enc))):=by
 intro C a w hX ⟨γ,h⟩;subst hn;subst he;obtain⟨h1,hle,_⟩:=h.drop hX ho;refine⟨γ,h1.defers,h1.size,fun r=>?_,h1.sites,h1.inj,h1.base,h1.below,h1.top,h1.kept⟩;show Rep _ (bif Nat.beq r t then _ else(s.setOwn k (g+1) none).reg r) _;by_cases hrt:r=t
 .subst hrt;have hp:=h.regs r;rw[hr]at hp;simp only[ms,cond_true];refine .fsl ?_;rcases h.als_at hp ho with⟨q1,_,q3,q4⟩|⟨b,cap,cur,q1,q2,q3,q4,q5,q6,q7⟩
  .have:l.map enc=[]:=(h.sites k _ (by rw[ho])).emp q1;rw[this,q4];exact .sl0 _ _
  .obtain⟨cur',g1,g2,g3,g4,g5⟩:=h.site_at ho q1 (h.cells_sz ho q1 q3 q6);have hb:(aB C γ (s.setOwn k (g+1) none) w).okf b:=by
    have hbase:=h.base k _ b (by rw[ho]) q1;refine⟨hbase.1,hbase.2,fun hx=>?_,fun k' c' hc' hb'=>?_⟩
    .have:=hX b hx;omega
    .by_cases hk':k'=k
     .subst hk';rw[ar]at hc';cases hc'
     .rw[aO hk']at hc';exact hk' (h.inj k' k c' _ b hc' (by rw[ho]) hb' q1)
   rw[q2];simp only[gM];refine .sl (l.map enc) b 0 cap sz (fun i j=>cur'.getD (i*sz+j) undef) hb g2 q4 g4 (fun i j row pv e1 e2=>?_) (fun i j row pv e1 e2=>?_)
   .obtain⟨u,f1,f2,_⟩:=g5 i j row pv e1 e2;have g1:w.heap[b]?=some (.cells cur' T (0,0)):=g1;show w.cell? _=_/\_;rw[ca g1,aM,f1];simp[f1,f2]
   .obtain⟨u,f1,_,f3⟩:=g5 i j row pv e1 e2;have hu:cur'.getD (i*sz+j) undef=u:=by simp[f1]
    simp only[hu];rw[bw,nH]at e1;obtain⟨y,_,rfl⟩:=e1;have hpv:=ct.1 (hpl y) _ (bC e2);rw[yw hpv (f3.rep bD)];exact(kJ hpv _ _).1
 .rw[cS hrt];exact h1.regs r
theorem Ret.shared_of_fresh {P:Program}{f:FuncId}{pargs:List PV}{r:PV}(h:Ret P .fresh f pargs r):Ret P .shared f pargs r :=
 ⟨h.1,fun w X args h0 h1 h2 h3=>(h.2 w X args h0 h1 h2 h3).mono fun _ _ ⟨v,e1,e2,e3⟩=>⟨v,e1,e2,e3.weaken fun b hb=>⟨hb.2,fun hx=>by have:=h1 b hx;have:=hb.1;omega⟩⟩⟩
section
variable {P:Program}{L:dj}{Q:Exit->St->Prop}{s:St}
theorem wy {ι:Type}{c:Code}{id:Nat}{next:St->Prop}(X:ι->Prop)(regs:ι->List (Nat × PV))(owns:ι->List (Nat × Nat × Cont))(h1:PWP P L c (aw id (aE (fun s'=>∃i,X i/\Fit s' (regs i) (owns i)) Q)) s)(h2:∀i,X i->∀s:St,next (s.over (regs i) (owns i))):PWP P L c (aw id (aE next Q)) s:=by
 refine PWP.mono ?_ _ h1;intro e s' h;have key:(∃i,X i/\Fit s' (regs i) (owns i))->next s':=by
  rintro⟨i,hX,hf⟩;have:=h2 i hX s';rwa [Fit.over hf]at this
 cases e
 case normal=>exact key h
 case exit id' =>
  show if id'=id then _ else _
  have h:if id'=id then _ else _:=h
  split
  .rename_i he;rw[if_pos he]at h;exact key h
  .rename_i he;rw[if_neg he]at h;exact h
 all_goals exact h
end
end Go.Pv
namespace Go.Pv
open Go.RowKit Go.ChangeShapes Go.WideShapes Go.ChangeAt
def nB (L:dj):List (Nat × TypeId)->Nat->Nat->Bool
 |[],o,tot=>Nat.beq o tot
 |(off,T)::fs,o,tot=>match L T with|some r=>Nat.beq off o&&nB L fs (o+r.size) tot|none=>false
def kI (L:dj):Nat->TypeId->Bool
 |0,_=>false
 |n+1,T=>match L T with
  |some r=>(match r.sh with
   |.bool | .int _ | .str=>true
   |.sl e=>(match L e with|some re=>Nat.blt 0 re.size&&kI L n e|none=>false)
   |.st fs=>nB L fs 0 r.size&&fs.all (fun f=>kI L n f.2)
   |_=>false)
  |none=>false
def o0 (L:dj):Nat->TypeId->List PV->Prop
 |0,_,_=>False
 |n+1,T,cs=>∃r,L T=some r/\(match r.sh with
  |.bool=>∃b,cs=[.bool b]
  |.int k=>∃m,cs=[.int k m]/\k.min<=m/\m<=k.max
  |.str=>∃s:List UInt8,cs=[.str s]/\s.length<=maxLen
  |.sl e=>∃rows,cs=[.sl rows]/\rows.length<=maxLen/\∀row∈rows,o0 L n e row
  |.st fs=>∃parts:List (List PV),cs=parts.flatten/\parts.length=fs.length/\∀(i:Nat) f p,fs[i]?=some f->parts[i]?=some p->o0 L n f.2 p
  |_=>False)
section
variable {L:dj}{n:Nat}{T:TypeId}{cs:List PV}
theorem w9 {r:LRow}{sh:Sh}(hr:L T=some r)(hs:(L T).map (·.sh)=some sh):r.sh=sh:=by rw[hr]at hs;exact cK hs
theorem Dl (h:o0 L (n+1) T cs)(hs:(L T).map (·.sh)=some .bool):∃b,cs=[.bool b]:=by
 obtain⟨r,hr,h⟩:=h;rw[w9 hr hs]at h;exact h
theorem w8 {k:IntKind}(h:o0 L (n+1) T cs)(hs:(L T).map (·.sh)=some (.int k)):∃m,cs=[.int k m]/\k.min<=m/\m<=k.max:=by
 obtain⟨r,hr,h⟩:=h;rw[w9 hr hs]at h;exact h
theorem fy {k:IntKind}(h:o0 L (n+1) T cs)(hs:(L T).map (·.sh)=some (.int k)):∃m,cs=[.int k m]:=let ⟨m,e,_⟩:=w8 h hs;⟨m,e⟩
theorem Me (h:o0 L (n+1) T cs)(hs:(L T).map (·.sh)=some .str):∃s:List UInt8,cs=[.str s]/\s.length<=maxLen:=by
 obtain⟨r,hr,h⟩:=h;rw[w9 hr hs]at h;exact h
theorem A7 (h:o0 L (n+1) T cs)(hs:(L T).map (·.sh)=some .str):∃s,cs=[.str s]:=let ⟨m,e,_⟩:=Me h hs;⟨m,e⟩
theorem oO {e:TypeId}(h:o0 L (n+1) T cs)(hs:(L T).map (·.sh)=some (.sl e)):∃rows,cs=[.sl rows]/\rows.length<=maxLen/\∀row∈rows,o0 L n e row:=by
 obtain⟨r,hr,h⟩:=h;rw[w9 hr hs]at h;exact h
theorem QV {e:TypeId}(h:o0 L (n+1) T cs)(hs:(L T).map (·.sh)=some (.sl e)):∃rows,cs=[.sl rows]/\∀row∈rows,o0 L n e row:=let ⟨m,e,_,h⟩:=oO h hs;⟨m,e,h⟩
theorem n8 {fs:List (Nat × TypeId)}(h:o0 L (n+1) T cs)(hs:(L T).map (·.sh)=some (.st fs)):∃parts:List (List PV),cs=parts.flatten/\parts.length=fs.length/\∀(i:Nat) f p,fs[i]?=some f->parts[i]?=some p->o0 L n f.2 p:=by
 obtain⟨r,hr,h⟩:=h;rw[w9 hr hs]at h;exact h
end
def Reads (w:World)(pvs:List PV)(cs:List Value):Prop :=
 pvs.length=cs.length/\∀(i:Nat) (c:PV) (v:Value),pvs[i]?=some c->cs[i]?=some v->DRep w (fun b=>b<w.heap.size) c v/\v.oneCell'=true
theorem Reads.append {w:World}{p1 p2:List PV}{c1 c2:List Value}(h1:Reads w p1 c1)(h2:Reads w p2 c2):Reads w (p1++p2) (c1++c2):=by
 refine⟨by simp[h1.1,h2.1],fun i c v e1 e2=>?_⟩;rw[jS]at e1 e2;split at e1
 .rename_i hlt;rw[if_pos (by rw[<-h1.1];exact hlt)]at e2;exact h1.2 i c v e1 e2
 .rename_i hlt;rw[if_neg (by rw[<-h1.1];exact hlt),<-h1.1]at e2;exact h2.2 _ c v e1 e2
section
variable {H0:Type}{enc:TypeId × Value->H0}{P:Program}{L:dj}{w:World}{sp:Nat->Bool}{held:Bool}
theorem pw (hL:nt P L){T:TypeId}{r:LRow}(hr:L T=some r):P.cellsOf T=r.size:=by
 obtain⟨i,d,hi,_,hs,_⟩:=LRow.spec (hL T r hr);simp[Program.cellsOf,hi,hs]
theorem x6:∀(fs:List (Nat × TypeId)) (o tot:Nat),nB L fs o tot=true->o<=tot
 |[],o,tot,h=>by simp[nB]at h;omega
 |(off,T)::fs,o,tot,h=>by
  simp only[nB]at h;split at h
  .rename_i r hr;simp only[cm]at h;have:=x6 fs _ _ h.2;omega
  .cases h
theorem vh (hL:nt P L){n:Nat}{cs:List Value}
  (IH:∀(T:TypeId) (cs:List Value) (fuel:Nat) x,kI L n T=true->DataW.trod enc P w 0 sp held fuel T cs=some x->∃pvs,Reads w pvs cs/\o0 L n T pvs) :
  ∀(fs:List (Nat × TypeId)) (o:Nat),nB L fs o cs.length=true->fs.all (fun f=>kI L n f.2)=true ->
   (∀f∈fs,∃m x,DataW.trod enc P w 0 sp held m f.2 ((cs.drop f.1).take (P.cellsOf f.2))=some x) ->
   ∃parts:List (List PV),Reads w parts.flatten (cs.drop o)/\parts.length=fs.length/\∀(i:Nat) f p,fs[i]?=some f->parts[i]?=some p->o0 L n f.2 p
 |[],o,h,_,_=>by
  simp[nB]at h;refine⟨[],⟨by simp[h],fun i c v e=>by simp at e⟩,O,fun i f p e=>by simp at e⟩
 |(off,T)::fs,o,h,hall,hd=>by
  simp only[nB]at h;split at h
  .rename_i r hr;simp only[cm,li]at h;obtain⟨rfl,h⟩:=h;simp only[rc,cm]at hall;have hle:=x6 fs _ _ h;obtain⟨m,x,hx⟩:=hd (off,T) ap;obtain⟨pvs,hp1,hp2⟩:=IH T _ m x hall.1 hx;obtain⟨parts,g1,g2,g3⟩:=vh hL IH fs (off+r.size) h hall.2 (fun f hf=>hd f (by simp[hf]));rw[pw hL hr]at hp1;refine⟨pvs::parts,?_,by simp[g2],fun i f p e1 e2=>?_⟩
   .have hsplit:cs.drop off=(cs.drop off).take r.size++cs.drop (off+r.size):=by rw[<-oB,ef]
    rw[hsplit,List.flatten_cons];exact hp1.append g1
   .cases i with
    |zero=>simp at e1 e2;subst e1;subst e2;exact hp2
    |succ i=>exact g3 i f p (by simpa using e1) (by simpa using e2)
  .cases h
theorem w7 (hL:nt P L):∀(n:Nat) (T:TypeId) (cs:List Value) (fuel:Nat) (x:DataW H0 × List MemPlace),kI L n T=true->DataW.trod enc P w 0 sp held fuel T cs=some x->∃pvs,Reads w pvs cs/\o0 L n T pvs
 |0,_,_,_,_,h,_=>by simp[kI]at h
 |n+1,T,cs,fuel,x,h,ht=>by
  simp only[kI]at h;split at h
  .rename_i r hr;have hfit:=hL T r hr;have one:∀ {c:PV} {v:Value},DRep w (fun b=>b<w.heap.size) c v->v.oneCell'=true->Reads w [c] [v]:=fun h1 h2=>⟨O,fun i c v e1 e2=>by
    cases i with
    |zero=>simp at e1 e2;subst e1;subst e2;exact⟨h1,h2⟩
    |succ i=>simp at e1⟩
   split at h
   .rename_i hs;obtain⟨b,rfl,_⟩:=DataW.trod_bool (xb hfit hs) ht;exact⟨[.bool b],one (.bool b) O,r,hr,by rw[hs];exact⟨b,O⟩⟩
   .rename_i k hs;obtain⟨m,rfl,_,hwf⟩:=DataW.trod_int (rL hfit hs) ht;simp only[Lit.wf,cm,decide_eq_true_eq]at hwf;exact⟨[.int k m],one (.int k m) O,r,hr,by rw[hs];exact⟨m,O,hwf⟩⟩
   .rename_i hs;obtain⟨s,rfl,_,hsz⟩:=DataW.trod_string (oQ hfit hs) ht;exact⟨[.str s.data.toList],one (.str s.data.toList) O,r,hr,by rw[hs];exact⟨_,O,by rw[kY];exact hsz⟩⟩
   .rename_i e hs;split at h
    .rename_i re hre;simp only[cm]at h;have hsz:0<re.size:=by simpa using h.1
     have hce:=pw hL hre;rcases DataW.trod_slice (kQ hfit hs) ht with⟨rfl,_⟩|⟨a,len,cap,elems,rest,m,rfl,rfl,_,_,hlc,hcm,hel,hat,_⟩
     .exact⟨[.sl []],one (.sl0 none 0) O,r,hr,by rw[hs];exact⟨[],O,aP _,fun row hrow=>by cases hrow⟩⟩
     .rw[hce]at hat;have key:∀i,i<len->∃ecs,w.cells? 0 (a.add (i*re.size)) re.size=some ecs/\∃pvs,Reads w pvs ecs/\o0 L n e pvs:=by
       intro i hi;have h1:=hat i hi;rw[bX J]at h1;obtain⟨ecs,e1,e2⟩:=Option.bind_eq_some_iff.1 h1;obtain⟨pvs,g1,g2⟩:=w7 hL n e ecs m _ h.2 e2;exact⟨ecs,e1,pvs,g1,g2⟩
      by_cases h0:len=0
      .subst h0;exact⟨[.sl []],one (.sl0 _ _) O,r,hr,by rw[hs];exact⟨[],O,aP _,fun row hrow=>by cases hrow⟩⟩
      ·
       have cellAt:∀(i:Nat) ecs,w.cells? 0 (a.add (i*re.size)) re.size=some ecs->ecs.length=re.size/\∀j v,ecs[j]?=some v->w.cell? ((a.add (i*re.size)).add j)=some v:=by
        intro i ecs he;unfold World.cells? at he;rw[if_pos (aP _)]at he;refine⟨by simpa using mapM_some_length he,fun j v hv=>?_⟩;have hj:j<re.size:=by have:=mapM_some_length he;have:=(cb hv).1;simp at *;omega
        have:=mapM_some_get he j j (by simp[hj]);rw[hv]at this;exact this
       obtain⟨b,off,spot⟩:=a;obtain⟨ecs0,f1,pvs0,f2,_⟩:=key 0 J;obtain⟨f3,f4⟩:=cellAt 0 ecs0 f1;have hc0:∃v,w.cell? (((⟨b,off,spot⟩:Addr).add (0*re.size)).add 0)=some v:=⟨ecs0[0],f4 0 _ (bX J)⟩;have hspot:spot=none:=by
        obtain⟨v,hv⟩:=hc0;simpa [Addr.add] using World.cell?_spot hv
       subst hspot;have hbl:b<w.heap.size:=by
        obtain⟨v,hv⟩:=hc0;simp only[gM,Addr.add_mk,jH]at hv;rcases bG b w.heap.size with hlt|hge
        .exact hlt
        .simp[World.cell?,nI hge]at hv
       have hch:∀i:Nat,∃p:List PV × List Value,i<len->w.cells? 0 ((⟨b,off,none⟩:Addr).add (i*re.size)) re.size=some p.2/\Reads w p.1 p.2/\o0 L n e p.1:=by
        intro i;by_cases hi:i<len
        .obtain⟨ecs,e1,pvs,e2,e3⟩:=key i hi;exact⟨(pvs,ecs),fun _=>⟨e1,e2,e3⟩⟩
        .exact⟨([],[]),fun h=>absurd h hi⟩
       let g:Nat->List PV × List Value:=fun i=>Classical.choose (hch i);have hg:∀i,i<len->w.cells? 0 ((⟨b,off,none⟩:Addr).add (i*re.size)) re.size=some (g i).2/\Reads w (g i).1 (g i).2/\o0 L n e (g i).1:=fun i hi=>Classical.choose_spec (hch i) hi;have hrow:∀(i:Nat) (row:List PV),((List.range len).map fun i=>(g i).1)[i]?=some row->i<len/\row=(g i).1:=by
        intro i row hrow;rw[bw]at hrow;rcases bG i len with hlt|hge
        .rw[my hlt]at hrow;simp at hrow;exact⟨hlt,hrow.symm⟩
        .rw[fe (by simpa using hge)]at hrow;simp at hrow
       have hmem:∀row∈(List.range len).map fun i=>(g i).1,∃i,i<len/\row=(g i).1:=by
        intro row hrow;obtain⟨i,hi,rfl⟩:=aW.1 hrow;exact⟨i,fP.1 hi,O⟩
       have hlen:((List.range len).map fun i=>(g i).1).length=len:=ap;have hlen':∀i,i<len->(g i).1.length=re.size:=fun i hi=>by
        rw[(hg i hi).2.1.1];exact(cellAt i _ (hg i hi).1).1
       have hD:DRep w (fun b=>b<w.heap.size) (.sl ((List.range len).map fun i=>(g i).1)) (.slice (some ⟨b,off,none⟩) len cap):=by
        have:=DRep.sl (w:=w) (ok:=fun b=>b<w.heap.size) ((List.range len).map fun i=>(g i).1) b off cap re.size (fun i j=>((g i).2[j]?).getD undef) hbl hsz (by rw[hlen];exact hlc)
         (fun row hr=>by obtain⟨i,hi,rfl⟩:=hmem row hr;exact hlen' i hi)
         (fun i j row c e1 e2=>by
          obtain⟨hi,rfl⟩:=hrow i row e1;have hj:j<(g i).2.length:=by rw[<-(hg i hi).2.1.1];exact(cb e2).1
          have hv:(g i).2[j]?=some (g i).2[j]:=bX hj;have:=(cellAt i _ (hg i hi).1).2 j _ hv;rw[Addr.add_mk,Addr.add_mk]at this;rw[hv]
          exact⟨this,((hg i hi).2.1.2 j c _ e2 hv).2⟩)
         (fun i j row c e1 e2=>by
          obtain⟨hi,rfl⟩:=hrow i row e1;have hj:j<(g i).2.length:=by rw[<-(hg i hi).2.1.1];exact(cb e2).1
          have hv:(g i).2[j]?=some (g i).2[j]:=bX hj;rw[hv]
          exact((hg i hi).2.1.2 j c _ e2 hv).1)
        rw[hlen]at this;exact this
       exact⟨[.sl ((List.range len).map fun i=>(g i).1)],one hD O,r,hr,by
        rw[hs]
        exact⟨_,O,by rw[hlen];exact bK hlc hcm,fun row hr=>by obtain⟨i,hi,rfl⟩:=hmem row hr;exact(hg i hi).2.2⟩⟩
    .cases h
   .rename_i fs hs;simp only[cm]at h;obtain⟨fs',hu,hm⟩:=xe hfit hs;obtain⟨xs,m,_,_,hlen,hxl,hf⟩:=DataW.trod_struct hu ht;rw[pw hL hr]at hlen;obtain⟨parts,g1,g2,g3⟩:=vh hL (cs:=cs) (fun T cs fuel x a b=>w7 hL n T cs fuel x a b) fs 0 (by rw[hlen];exact h.1) h.2 (fun f hf'=>by
     rw[<-hm]at hf';obtain⟨fd,hfd,rfl⟩:=aW.1 hf';obtain⟨i,hi,hie⟩:=mw hfd;have hi':i<fs'.size:=by simpa using hi
     have h1:fs'[i]?=some fd:=by rw[ee hi'];simpa using hie
     have h2:=hf i fd h1;rw[bX J]at h2
     exact⟨m,_,h2⟩)
    exact⟨parts.flatten,by simpa using g1,r,hr,by rw[hs];exact⟨parts,O,g2,g3⟩⟩
   .cases h
  .cases h
theorem po (hl:laidOutB P=true){W W':World}(hb:Below W.heap.size W W'):∀(ts:List TypeId) (vs:List Value) (ds:List (DataW H0)) (ps:List MemPlace),(∀t∈ts,P.readableRec t=true/\t<P.types.size) ->
  DataW.TrodAll enc P W 0 (fun _=>true) true ts vs ds ps->(∀x∈ps,x.block<W.heap.size)->DataW.TrodAll enc P W' 0 (fun b=>decide (b<W.heap.size)) true ts vs ds ps
 |[],vs,ds,ps,_,h,_=>by
  obtain⟨rfl,rfl,rfl⟩:=trodAll_nil h;exact trodAll_mk0
 |t::ts,vs,ds,ps,hr,h,hlt=>by
  obtain⟨v,vs',d,ds',p,q,rfl,rfl,rfl,h1,h2⟩:=trodAll_cons h;have ht:=hr t ap;exact⟨p,q,Below.trod hl ht.1 ht.2 h1 hb (fun x hx=>hlt x (by simp[hx])),po hl hb ts vs' ds' q (fun t ht=>hr t (by simp[ht])) h2 (fun x hx=>hlt x (by simp[hx])),O⟩
end
end Go.Pv
namespace Go.Pv
open Go.Proofs Go.RowKit
set_option maxRecDepth 100000
def lay:Tr:=(.nd 115 (.nd 46 (.nd 25 (.nd 5 (.nd 3 (.lf 2 ⟨1,8,(.int .i64),(some [(.int .i64 0)])⟩)
 (.nd 4 (.lf 3 ⟨1,8,(.int .i64),(some [(.int .i64 0)])⟩)
 (.lf 4 ⟨1,1,.bool,(some [(.bool false)])⟩)))
 (.nd 22 (.nd 9 (.lf 5 ⟨1,1,(.int .u8),(some [(.int .u8 0)])⟩)
 (.lf 9 ⟨1,16,.str,(some [(.str [])])⟩))
 (.nd 24 (.lf 22 ⟨1,24,(.sl 115),(some [.nil])⟩)
 (.lf 24 ⟨5,48,(.st [(0,9),(1,3),(2,3),(3,3),(4,3)]),(some [(.str []),(.int .i64 0),(.int .i64 0),(.int .i64 0),(.int .i64 0)])⟩))))
 (.nd 39 (.nd 32 (.nd 27 (.lf 25 ⟨1,24,(.sl 24),(some [.nil])⟩)
 (.lf 27 ⟨9,120,(.st [(0,9),(1,3),(2,22),(3,24),(8,25)]),(some [(.str []),(.int .i64 0),.nil,(.str []),(.int .i64 0),(.int .i64 0),(.int .i64 0),(.int .i64 0),.nil])⟩))
 (.nd 37 (.lf 32 ⟨1,8,(.int .i64),(some [(.int .i64 0)])⟩)
 (.lf 37 ⟨1,24,(.sl 218),(some [.nil])⟩)))
 (.nd 43 (.nd 41 (.lf 39 ⟨2,32,(.st [(0,4),(1,37)]),(some [(.bool false),.nil])⟩)
 (.lf 41 ⟨4,64,(.st [(0,39),(2,39)]),(some [(.bool false),.nil,(.bool false),.nil])⟩))
 (.nd 44 (.lf 43 ⟨8,128,(.st [(0,41),(4,41)]),(some [(.bool false),.nil,(.bool false),.nil,(.bool false),.nil,(.bool false),.nil])⟩)
 (.lf 44 ⟨1,24,(.sl 41),(some [.nil])⟩)))))
 (.nd 65 (.nd 56 (.nd 53 (.nd 48 (.lf 46 ⟨9,152,(.st [(0,43),(8,44)]),(some [(.bool false),.nil,(.bool false),.nil,(.bool false),.nil,(.bool false),.nil,.nil])⟩)
 (.lf 48 ⟨8,128,(.st [(0,41),(4,41)]),(some [(.bool false),.nil,(.bool false),.nil,(.bool false),.nil,(.bool false),.nil])⟩))
 (.nd 54 (.lf 53 ⟨1,24,(.sl 136),(some [.nil])⟩)
 (.lf 54 ⟨1,24,(.sl 138),(some [.nil])⟩)))
 (.nd 58 (.nd 57 (.lf 56 ⟨14,192,(.st [(0,27),(9,3),(10,53),(11,54),(12,3),(13,3)]),(some [(.str []),(.int .i64 0),.nil,(.str []),(.int .i64 0),(.int .i64 0),(.int .i64 0),(.int .i64 0),.nil,(.int .i64 0),.nil,.nil,(.int .i64 0),(.int .i64 0)])⟩)
 (.lf 57 ⟨1,24,(.sl 3),(some [.nil])⟩))
 (.nd 63 (.lf 58 ⟨1,24,(.sl 65),(some [.nil])⟩)
 (.lf 63 ⟨16,256,(.st [(0,41),(4,41),(8,41),(12,41)]),(some [(.bool false),.nil,(.bool false),.nil,(.bool false),.nil,(.bool false),.nil,(.bool false),.nil,(.bool false),.nil,(.bool false),.nil,(.bool false),.nil])⟩))))
 (.nd 91 (.nd 78 (.nd 69 (.lf 65 ⟨39,616,(.st [(0,41),(4,43),(12,44),(13,41),(17,41),(21,63),(37,4),(38,3)]),(some [(.bool false),.nil,(.bool false),.nil,(.bool false),.nil,(.bool false),.nil,(.bool false),.nil,(.bool false),.nil,.nil,(.bool false),.nil,(.bool false),.nil,(.bool false),.nil,(.bool false),.nil,(.bool false),.nil,(.bool false),.nil,(.bool false),.nil,(.bool false),.nil,(.bool false),.nil,(.bool false),.nil,(.bool false),.nil,(.bool false),.nil,(.bool false),(.int .i64 0)])⟩)
 (.lf 69 ⟨10,144,(.st [(0,3),(1,41),(5,41),(9,3)]),(some [(.int .i64 0),(.bool false),.nil,(.bool false),.nil,(.bool false),.nil,(.bool false),.nil,(.int .i64 0)])⟩))
 (.nd 87 (.lf 78 ⟨1,24,(.sl 87),(some [.nil])⟩)
 (.lf 87 ⟨9,136,(.st [(0,3),(1,41),(5,41)]),(some [(.int .i64 0),(.bool false),.nil,(.bool false),.nil,(.bool false),.nil,(.bool false),.nil])⟩)))
 (.nd 98 (.nd 93 (.lf 91 ⟨1,24,(.sl 245),(some [.nil])⟩)
 (.lf 93 ⟨3,40,(.st [(0,4),(1,3),(2,91)]),(some [(.bool false),(.int .i64 0),.nil])⟩))
 (.nd 108 (.lf 98 ⟨1,24,(.sl 9),(some [.nil])⟩)
 (.lf 108 ⟨36,576,(.st [(0,41),(4,41),(8,41),(12,41),(16,41),(20,41),(24,41),(28,41),(32,41)]),(some [(.bool false),.nil,(.bool false),.nil,(.bool false),.nil,(.bool false),.nil,(.bool false),.nil,(.bool false),.nil,(.bool false),.nil,(.bool false),.nil,(.bool false),.nil,(.bool false),.nil,(.bool false),.nil,(.bool false),.nil,(.bool false),.nil,(.bool false),.nil,(.bool false),.nil,(.bool false),.nil,(.bool false),.nil,(.bool false),.nil])⟩))))))
 (.nd 217 (.nd 171 (.nd 136 (.nd 124 (.nd 118 (.lf 115 ⟨4,64,(.st [(0,3),(1,3),(2,57),(3,57)]),(some [(.int .i64 0),(.int .i64 0),.nil,.nil])⟩)
 (.lf 118 ⟨1,8,(.ptr 115),(some [(.raw (.pointer none))])⟩))
 (.nd 128 (.lf 124 ⟨1,24,(.sl 196),(some [.nil])⟩)
 (.lf 128 ⟨6,96,(.st [(0,3),(1,41),(5,124)]),(some [(.int .i64 0),(.bool false),.nil,(.bool false),.nil,.nil])⟩)))
 (.nd 151 (.nd 138 (.lf 136 ⟨11,120,(.st [(0,3),(1,3),(2,3),(3,3),(4,3),(5,41),(9,3),(10,4)]),(some [(.int .i64 0),(.int .i64 0),(.int .i64 0),(.int .i64 0),(.int .i64 0),(.bool false),.nil,(.bool false),.nil,(.int .i64 0),(.bool false)])⟩)
 (.lf 138 ⟨4,40,(.st [(0,9),(1,3),(2,3),(3,3)]),(some [(.str []),(.int .i64 0),(.int .i64 0),(.int .i64 0)])⟩))
 (.nd 156 (.lf 151 ⟨1,24,(.sl 156),(some [.nil])⟩)
 (.lf 156 ⟨5,72,(.st [(0,3),(1,41)]),(some [(.int .i64 0),(.bool false),.nil,(.bool false),.nil])⟩))))
 (.nd 189 (.nd 184 (.nd 179 (.lf 171 ⟨1,24,(.sl 57),(some [.nil])⟩)
 (.lf 179 ⟨1,8,(.map 3 41),(some [(.raw (.map none))])⟩))
 (.nd 187 (.lf 184 ⟨8,128,(.st [(0,41),(4,41)]),(some [(.bool false),.nil,(.bool false),.nil,(.bool false),.nil,(.bool false),.nil])⟩)
 (.lf 187 ⟨1,24,(.sl 5),(some [.nil])⟩)))
 (.nd 196 (.nd 194 (.lf 189 ⟨1,8,(.map 9 4),(some [(.raw (.map none))])⟩)
 (.lf 194 ⟨2,48,(.st [(0,57),(1,44)]),(some [.nil,.nil])⟩))
 (.nd 213 (.lf 196 ⟨7,120,(.st [(0,3),(1,41),(5,194)]),(some [(.int .i64 0),(.bool false),.nil,(.bool false),.nil,.nil,.nil])⟩)
 (.lf 213 ⟨5,72,(.st [(0,3),(1,41)]),(some [(.int .i64 0),(.bool false),.nil,(.bool false),.nil])⟩)))))
 (.nd 297 (.nd 245 (.nd 219 (.nd 218 (.lf 217 ⟨1,8,(.int .u64),(some [(.int .u64 0)])⟩)
 (.lf 218 ⟨1,2,(.int .u16),(some [(.int .u16 0)])⟩))
 (.nd 237 (.lf 219 ⟨1,24,(.sl 3),(some [.nil])⟩)
 (.lf 237 ⟨8,128,(.st [(0,41),(4,41)]),(some [(.bool false),.nil,(.bool false),.nil,(.bool false),.nil,(.bool false),.nil])⟩)))
 (.nd 259 (.nd 255 (.lf 245 ⟨2,16,(.st [(0,3),(1,3)]),(some [(.int .i64 0),(.int .i64 0)])⟩)
 (.lf 255 ⟨1,8,(.int .u64),(some [(.int .u64 0)])⟩))
 (.nd 270 (.lf 259 ⟨1,24,(.sl 48),(some [.nil])⟩)
 (.lf 270 ⟨1,8,.other,(some [(.raw .nilFunc)])⟩))))
 (.nd 320 (.nd 307 (.nd 300 (.lf 297 ⟨1,24,(.sl 25),(some [.nil])⟩)
 (.lf 300 ⟨1,8,(.int .i64),(some [(.int .i64 0)])⟩))
 (.nd 317 (.lf 307 ⟨1,4,(.int .u32),(some [(.int .u32 0)])⟩)
 (.lf 317 ⟨1,24,(.sl 320),(some [.nil])⟩)))
 (.nd 325 (.nd 322 (.lf 320 ⟨8,128,(.st [(0,41),(4,41)]),(some [(.bool false),.nil,(.bool false),.nil,(.bool false),.nil,(.bool false),.nil])⟩)
 (.lf 322 ⟨1,24,(.sl 270),(some [.nil])⟩))
 (.nd 344 (.lf 325 ⟨12,192,(.st [(0,41),(4,41),(8,41)]),(some [(.bool false),.nil,(.bool false),.nil,(.bool false),.nil,(.bool false),.nil,(.bool false),.nil,(.bool false),.nil])⟩)
 (.lf 344 ⟨1,8,(.int .u64),(some [(.int .u64 0)])⟩)))))))
theorem J9:lay.fits Tryz.prog=true:=by kernel_rfl
theorem layOk:nt Tryz.prog lay.get:=Tr.ok J9
theorem mixed:Tryz.prog.follows .mixedOrders=true:=by kernel_rfl
instance:Globs:=⟨fun _=>True,fun _ _ _ _=>trivial⟩
abbrev aU:=Ret Tryz.prog .shared
theorem aD {m : Mode}{f : FuncId}{pargs : List PV}{r : PV}{body : Code}{fn : Func}(hf : Tryz.prog.funcs[f]?=some fn)(h : PWP Tryz.prog lay.get body (aj lay.get fn m r) (fM pargs))(hb : fn.body = some body := by exact O)(hn : (fn.name == "runtime.NumGoroutine") = false := by decide)(hlen : Nat.ble pargs.length fn.ntmps = true := by exact O)(hc : nA fn.ntmps body = true := by exact O) : Ret Tryz.prog m f pargs r := Ret.of_pwp layOk mixed hf hb hn hlen hc h
end Go.Pv
set_option maxHeartbeats 2000000
namespace Go.Pv
attribute [local irreducible] PWP POps PQuiet PSem aE aw aj ak
open Go.Proofs
abbrev I (n:Int):PV := .int .i64 n
def eU (x:UInt16):List PV:=[.int .u16 x.toNat]
theorem jA (l:List UInt16):Trm (bN l):=cU _
theorem fF (l:List UInt16):nv (bN l)=nv l:=bi _
theorem dy (l:List UInt16):(bN l).length<=l.length:=ec (dV l)
theorem wrap_u16 (n:Nat):IntKind.u16.wrap (n:Int)=((UInt16.ofNat n).toNat:Int):=by
 rw[bY,IntKind.wrap_u16];omega
theorem wrap_u32 {n:Int}(h0:0<=n)(h1:n<4294967296):IntKind.u32.wrap n=n:=by
 rw[IntKind.wrap_u32];omega
theorem wrap_u64 {n:Int}(h0:0<=n)(h1:n<18446744073709551616):IntKind.u64.wrap n=n:=by
 rw[IntKind.wrap_u64];omega
theorem tO {α:Type}(e:α->List PV)(k g:Nat)(l:List α)(a:α):PV.als k (g+l.length+1) 0 (l.map e++[e a]).length=PV.als k (g+(l++[a]).length) 0 ((l++[a]).map e).length:=by simp[iW]
theorem qB {α:Type}(e:α->List PV)(g T sz kd:Nat)(l:List α)(a:α):(g+l.length+1,some (Cont.mk T sz (l.map e++[e a]) kd))=(g+(l++[a]).length,some (Cont.mk T sz ((l++[a]).map e) kd)):=by simp[iW]
theorem eY (l:List UInt16)(hl:l.length<=1000000000):aU 213 [.sl (l.map eU)] (.sl ((bN l).map eU)):=by
 refine aD Proofs.Tryz.func213 ?_;refine H ?_;refine ai (fun k=>k<=l.length/\nv (l.take k)=nv l) (fun k=>[(0,.sl ((l.take k).map eU))]) (fun _=>[]) (fun k=>k) l.length ⟨aY,by rw[bI]⟩ ⟨?_,bh⟩ ?_
 .rw[bI];rfl
 rintro k s ⟨hk,hv⟩;have hkl:(l.take k).length=k:=by rw[bc];omega
 have hml:((l.take k).map eU).length=k:=by rw[aF,hkl]
 refine fi ?_ ?_<;>intro h
 .have hk0:0<k:=by have:=bk h;rw[hml]at this;omega
  clear h;obtain⟨j,rfl⟩:∃j,k=j+1:=⟨k-1,J⟩;obtain⟨x,hx⟩:=ay (show j<l.length by omega);have hx2:(l.take (j+1))[j]?=some x:=by rw[cJ,if_pos J];exact hx
  have hw1:IntKind.i64.wrap (((((l.take (j+1)).map eU).length:Nat):Int)-1)=(j:Nat):=by rw[hml,wrap_i64 J J];omega
  refine H ?_;rw[hw1];refine ci O O (lK (n:=((j:Nat):Int)) O O O O O J (by rw[be];exact hx2) O) ?_;refine D ?_ ?_<;>intro h
  .have hx0:x.toNat=0:=cw h;clear h;refine H ?_;rw[hw1];refine ci O O (sy (n:=((j:Nat):Int)) O O O O O J (by rw[hkl];omega) (fun _=>rfl)) ?_;refine H ?_;refine⟨j,⟨J,?_⟩,J,?_,bh⟩
   .rw[<-hv,gy hx,hx0];omega
   .rw[be,List.take_take,jD J];rfl
  .have hx0:x.toNat≠0:=co h;clear h;have ht:l.take (j+1)=bN l:=by
    rw[bN,<-hv];exact(kB fun y hy=>by
     rw[qT,hkl,iC,hx2]at hy
     cases hy;exact hx0).symm
   rw[ht];refine H ?_;exact lC O O O trivial O
 .have hk0:k=0:=by have:=bS h;rw[hml]at this;omega
  subst hk0;clear h;have ht:l.take 0=bN l:=by
   rw[bN,<-hv];simp[nv,cW]
  rw[ht];refine H ?_;exact lC O O O trivial O
theorem kW (a b:List UInt16)(ha:a.length<=1000000000)(hb:b.length<=1000000000):aU 217 [.sl (a.map eU),.sl (b.map eU)] (I (oU a b)):=by
 have hal:(a.map eU).length=a.length:=ap;have hbl:(b.map eU).length=b.length:=ap;by_cases he:a.length=b.length
 .rw[oU,if_pos he];have hw0:IntKind.i64.wrap (((((a.map eU).length:Nat):Int))-1)=(a.length:Int)-1:=by rw[hal,wrap_i64 J J]
  refine aD Proofs.Tryz.func217 ?_;refine D ?_ ?_<;>intro h
  .simp at h;omega
  clear h;refine H ?_;rw[hw0];refine ai (fun k:Nat=>k<=a.length/\qA a b k=qA a b a.length) (fun k=>[(0,.sl (a.map eU)),(1,.sl (b.map eU)),(5,I ((k:Int)-1))]) (fun _=>[]) (fun k=>k) a.length ⟨aY,O⟩ ah ?_;rintro k s ⟨hk,hc⟩;rw[<-hc];refine D ?_ ?_<;>intro h
  .have hk0:0<k:=cw h;clear h;obtain⟨j,rfl⟩:∃j,k=j+1:=⟨k-1,J⟩;have e1:(((j+1:Nat):Int)-1)=(j:Nat):=J;rw[e1];have hx:=eo (l:=a) (i:=j) J;have hy:=eo (l:=b) (i:=j) J;have hc1:qA a b (j+1)=if (a.getD j 0).toNat=(b.getD j 0).toNat then qA a b j else((a.getD j 0).toNat:Int)-(b.getD j 0).toNat:=O
   have hxl:=cq (a.getD j 0);have hyl:=cq (b.getD j 0);generalize a.getD j 0=x,b.getD j 0=y at *
   refine cX 9 [23,24,25,26,27,28,29,30,31] ?_;refine aN hx ?_;refine aN hy ?_;refine D ?_ ?_<;>intro h
   .have hne:¬x.toNat=y.toNat:=by simp at h;intro he;apply h;omega
    clear h;rw[if_neg hne]at hc1;rw[hc1];refine cX 12 [32,33,34,35,36,37,38,39,40,41,42,4] ?_;refine aN hx ?_;refine aN hy ?_;refine H ?_;rw[wrap_i64 (n:=(x.toNat:Int)) J J,wrap_i64 (n:=(y.toNat:Int)) J J,wrap_i64 J J];exact cB
   .have hne:x.toNat=y.toNat:=by simp at h;omega
    clear h;rw[if_pos hne]at hc1;refine H ?_;refine⟨j,⟨J,by rw[<-hc1,hc]⟩,J,O,O,?_,bh⟩;exact congrArg I (wrap_i64 J J)
  .have hk0:k=0:=co h;subst hk0;clear h;exact cB
 .rw[oU,if_neg he];refine aD Proofs.Tryz.func217 ?_;refine D ?_ ?_<;>intro h
  .refine H ?_;rw[hal,hbl,wrap_i64 J J];exact o9 O O O
  .simp at h;omega
end Go.Pv
namespace Go.Pv
open Go.RowKit
variable [Globs]
theorem gF {P:Program}{L:dj}{s s1:St}{o:Oper}{K:St->Prop}(hg:Ghost s s1)(h:POp P L s1 o K):Sm P L s o K :=
 fun _ _ _ _ hG hs hN=>POp.wp hG (hg _ _ _ hG.x hs) hN h fun s' _ _ h' hk=>⟨s',h',hk⟩
end Go.Pv
set_option maxHeartbeats 2000000
namespace Go.Pv
attribute [local irreducible] PWP POps PQuiet PSem aE aw aj ak
open Go.Proofs
theorem uB (l:List UInt16)(d:UInt16):nv (l++[d])=nv l+65536^l.length*d.toNat:=by
 rw[oF];simp[nv]
theorem iL {l:List UInt16}{k:Nat}(h:l.length<=k):nv (l.take k)=nv l:=by rw[cT h]
theorem Gl {l:List UInt16}{i t:Nat}{x:UInt16}(h:l[i]?=some x)(hi:i<t)(y:UInt16):nv ((l.set i y).take t)+65536^i*x.toNat=nv (l.take t)+65536^i*y.toNat:=by
 have e:(l.set i y).take t=(l.take t).set i y:=by
  apply i6;intro j;rw[cJ,z8,z8,cJ,bc];have:=(cb h).1;by_cases hj:j<t
  .rw[if_pos hj];by_cases hij:i=j
   .subst hij;rw[if_pos O,if_pos O,if_pos J,if_pos J]
   .rw[if_neg hij,if_neg hij,if_pos hj]
  .rw[if_neg hj,if_neg J,if_neg hj]
 rw[e];exact Kt (by rw[cJ,if_pos hi];exact h) y
theorem pY {l:List UInt16}{i t:Nat}(hi:t<=i)(y:UInt16):nv ((l.set i y).take t)=nv (l.take t):=by
 have e:(l.set i y).take t=l.take t:=by
  apply i6;intro j;rw[cJ,cJ];split
  .rw[et J]
  .rfl
 rw[e]
theorem kC (l:List UInt16)(i:Nat)(y:UInt16):(l.map eU).set i (eU y)=(l.set i y).map eU:=by rw[gY]
structure PlusI (A B:List UInt16) (q:Nat × List UInt16 × Nat):Prop where
 k:q.1<=A.length
 l:q.2.1.length=q.1
 c:q.2.2<=1
 v:nv q.2.1+65536^q.1*q.2.2=nv (A.take q.1)+nv (B.take q.1)
theorem yy {A B:List UInt16}{k:Nat}{L:List UInt16}{c y:Nat}{x:UInt16}(h:PlusI A B (k,L,c))(hx:A[k]?=some x)(hy:nv (B.take (k+1))=nv (B.take k)+65536^k*y)(hy2:y<65536) :
  PlusI A B (k+1,L++[UInt16.ofNat (c+x.toNat+y)],(c+x.toNat+y)/65536):=by
 obtain⟨h1,h2,h3,h4⟩:=h;simp only at h1 h2 h3 h4;have hk:=(cb hx).1;have hx2:=cq x;refine⟨hk,by simp[h2],by simp only;omega,?_⟩;simp only;rw[uB,gy hx,hy,h2,bY,db];have e:(c+x.toNat+y)%65536+65536*((c+x.toNat+y)/65536)=c+x.toNat+y:=jE _ _;generalize 65536^k=W,(c+x.toNat+y)%65536=m,(c+x.toNat+y)/65536=d at *
 have:W*(m+65536*d)=W*(c+x.toNat+y):=by rw[e]
 simp only[cy]at this;rw[cY];omega
theorem KF (a b:List UInt16)(ha:a.length<=100000000)(hb:b.length<=100000000):aU 216 [.sl (a.map eU),.sl (b.map eU)] (.sl ((aJ (nv a+nv b)).map eU)):=by
 have hal:(a.map eU).length=a.length:=ap;have hbl:(b.map eU).length=b.length:=ap;obtain⟨A,B,hAB,hsum,hle,hA,hsw⟩:∃A B:List UInt16,(if a.length<b.length then A=b/\B=a else A=a/\B=b)/\nv A+nv B=nv a+nv b/\B.length<=A.length/\A.length<=100000000/\True:=by
  by_cases h:a.length<b.length
  .exact⟨b,a,by rw[if_pos h];exact⟨O,O⟩,J,J,hb,bh⟩
  .exact⟨a,b,by rw[if_neg h];exact⟨O,O⟩,O,J,ha,bh⟩
 have hAl:(A.map eU).length=A.length:=ap;have hBl:(B.map eU).length=B.length:=ap;refine aD Proofs.Tryz.func216 ?_;refine H ?_;refine uD [(0,.sl (A.map eU)),(1,.sl (B.map eU))] [] ?_ (fun s1=>?_)
 .refine aV O ?_ ?_<;>intro h
  .have hlt:a.length<b.length:=by have:=bk h;rw[hal,hbl]at this;omega
   clear h;rw[if_pos hlt]at hAB;obtain⟨rfl,rfl⟩:=hAB;refine H ?_;exact ah
  .have hlt:¬a.length<b.length:=by have:=bS h;rw[hal,hbl]at this;omega
   clear h;rw[if_neg hlt]at hAB;obtain⟨rfl,rfl⟩:=hAB;refine H ?_;exact ah
 clear hAB hsw hal hbl ha hb;have hw1:IntKind.i64.wrap ((((A.map eU).length:Nat):Int)+1)=((A.length+1:Nat):Int):=by rw[hAl,wrap_i64 J J];omega
 refine H ?_;rw[hw1];refine aC (Nk (n:=0) O O O O O O O O J J (by show(2:Int)*((A.length+1:Nat):Int)<=_;omega) J ?_);generalize (s1.own 19).1=g0;refine H ?_;refine ai (PlusI A B) (fun q=>[(1,.sl (B.map eU)),(5,.als 19 (g0+1+q.2.1.length) 0 (q.2.1.map eU).length),(6,.int .u32 (q.2.2:Nat)),(20,.sl (A.map eU)),(21,I A.length),(22,I q.1)])
  (fun q=>[(19,g0+1+q.2.1.length,⟨218,1,q.2.1.map eU,0⟩)]) (fun q=>A.length-q.1) (0,[],0) ⟨aP _,O,Y,by simp[nv]⟩ ⟨O,O,O,O,?_,ah⟩ ?_
 .show I ((A.map eU).length)=_;rw[hAl]
 rintro⟨k,L,c⟩ s2 hI;have hk:=hI.k;have hc:=hI.c;have hLl:=hI.l;simp only at hk hc hLl;dsimp only;refine D ?_ ?_<;>intro h
 .have hlt:k<A.length:=cw h;clear h;obtain⟨x,hx⟩:=ay hlt;have hxl:=cq x;have e1:IntKind.u32.wrap ((c:Nat)+IntKind.u32.wrap (x.toNat:Int))=((c+x.toNat:Nat):Int):=by rw[wrap_u32 (n:=(x.toNat:Int)) J J,wrap_u32 J J];omega
  refine aN hx ?_;refine H ?_;rw[e1];by_cases hb:k<B.length
  .obtain⟨y,hy⟩:=ay hb;have hyl:=cq y;have hst:=yy hI hx (gy hy) hyl;have e2:IntKind.u32.wrap (((c+x.toNat:Nat):Int)+IntKind.u32.wrap (y.toNat:Int))=((c+x.toNat+y.toNat:Nat):Int):=by rw[wrap_u32 (n:=(y.toNat:Int)) J J,wrap_u32 J J];omega
   generalize hs:c+x.toNat+y.toNat=sm at *
   refine D ?_ ?_<;>intro h
   .clear h;refine aN hy ?_;refine H ?_;rw[e2,wrap_u16];refine H ?_;refine ci O O (fE O O O O O O O O O O ah O) ?_;refine aC (bO 0 O O O O O O O O O O O ah fW O O aS aS ?_);refine H ?_;refine⟨(k+1,L++[UInt16.ofNat sm],sm/65536),hst,by simp only;omega,O,?_,?_,O,O,c9 J J,?_,bh⟩
    .exact tO eU 19 (g0+1) L (UInt16.ofNat sm)
    .show PV.int .u32 ((sm:Int)/2^16)=PV.int .u32 ((sm/65536:Nat):Int);congr 1
    .exact qB eU (g0+1) 218 1 0 L (UInt16.ofNat sm)
   .have:=bS h;rw[hBl]at this;omega
  .have hst:=yy (y:=0) hI hx (by rw[iL J,iL J];omega) J;rw[jH]at hst;generalize hs:c+x.toNat=sm at *
   refine D ?_ ?_<;>intro h
   .have:=bk h;rw[hBl]at this;omega
   .clear h;refine H ?_;rw[wrap_u16];refine H ?_;refine ci O O (fE O O O O O O O O O O ah O) ?_;refine aC (bO 0 O O O O O O O O O O O ah fW O O aS aS ?_);refine H ?_;refine⟨(k+1,L++[UInt16.ofNat sm],sm/65536),hst,by simp only;omega,O,?_,?_,O,O,c9 J J,?_,bh⟩
    .exact tO eU 19 (g0+1) L (UInt16.ofNat sm)
    .show PV.int .u32 ((sm:Int)/2^16)=PV.int .u32 ((sm/65536:Nat):Int);congr 1
    .exact qB eU (g0+1) 218 1 0 L (UInt16.ofNat sm)
 .have hge:k=A.length:=co h;subst hge;clear h;have hv:=hI.v;simp only at hv;rw[bI,iL hle]at hv;have hfin:bN (L++[UInt16.ofNat c])=aJ (nv a+nv b):=by
   rw[bN,uB,bY,eE J,hLl,hv,hsum]
  have ht:=eY (L++[UInt16.ofNat c]) aS;rw[hfin]at ht
  (refine cV 14 ?_;refine aR 5 ?_)
  refine H ?_;rw[wrap_u16];refine ci O O (fE O O O O O O O O O O ah O) ?_;refine aC (bO 0 O O O O O O O O O O O ah fW O O aS aS ?_);refine H ?_;refine br O (gF (Ghost.takeF (enc:=eU) (t:=54) (L++[UInt16.ofNat c]) O O (by rw[bj];rfl) O (fun _=>rfl)) ?_)
  (refine oX (gC O (ht) O ?_ O) ?_;.repeat' constructor)
  refine aT ?_;refine H ?_;exact lC O O O trivial O
structure MinI (A B:List UInt16) (q:Nat × List UInt16 × Nat):Prop where
 k:q.1<=A.length
 l:q.2.1.length=A.length
 c:q.2.2<=1
 v:nv (q.2.1.take q.1)+nv (B.take q.1)=nv (A.take q.1)+65536^q.1*q.2.2
theorem Kj {A B:List UInt16}{k:Nat}{R:List UInt16}{c y:Nat}{x:UInt16}(h:MinI A B (k,R,c))(hx:A[k]?=some x)(hy:nv (B.take (k+1))=nv (B.take k)+65536^k*y)(hy2:y<65536) :
  MinI A B (k+1,R.set k (UInt16.ofNat (x.toNat+(if x.toNat<c+y then 65536 else 0)-(c+y))),if x.toNat<c+y then 1 else 0):=by
 obtain⟨h1,h2,h3,h4⟩:=h;simp only at h1 h2 h3 h4;have hk:=(cb hx).1;have hx2:=cq x;refine⟨hk,by simp[h2],by simp only;split<;>omega,?_⟩;simp only;obtain⟨r,hr⟩:∃r,R[k]?=some r:=⟨R[k],bX J⟩;have e1:nv ((R.set k (UInt16.ofNat (x.toNat+(if x.toNat<c+y then 65536 else 0)-(c+y)))).take (k+1))=nv (R.take k)+65536^k*(x.toNat+(if x.toNat<c+y then 65536 else 0)-(c+y)):=by
  rw[gy (fA J),pY (aY),bY,eE (by split<;>omega)]
 rw[e1,gy hx,hy,db];generalize 65536^k=W at *
 split
 .rename_i hlt;have:W*(x.toNat+65536-(c+y))+W*c+W*y=W*x.toNat+W*65536:=by rw[<-cy,<-cy,<-cy];congr 1;omega
  omega
 .rename_i hlt;have:W*(x.toNat+0-(c+y))+W*c+W*y=W*x.toNat:=by rw[<-cy,<-cy];congr 1;omega
  omega
theorem Nf {A B:List UInt16}{R:List UInt16}{c:Nat}(h:MinI A B (A.length,R,c))(hle:nv B<=nv A):nv R=nv A-nv B:=by
 obtain⟨h1,h2,h3,h4⟩:=h;simp only at h1 h2 h3 h4;rw[bI,cT J]at h4;have hA:=dV A;have hR:=dV R;rw[h2]at hR;rcases bG B.length A.length with hb|hb
 .rw[iL J]at h4;generalize 65536^A.length=W at *
  have:c=0:=by
   rcases gc c with h|h
   .exact h
   .have:c=1:=J;subst this;omega
  subst this;omega
 .have hs:=fD B A.length hb;generalize 65536^A.length=W at *
  have hz:nv (B.drop A.length)=0:=by
   rcases gc (nv (B.drop A.length)) with h|h
   .exact h
   .have:=dE W h;omega
  rw[hz]at hs;have:c=0:=by
   rcases gc c with h|h
   .exact h
   .have:c=1:=J;subst this;omega
  subst this;omega
theorem r8 {R:List UInt16}{i:Nat}(h:i<R.length):∃r,(R.map eU)[i]?=some (eU r):=by
 obtain⟨r,hr⟩:=ay h;exact⟨r,by rw[bw,hr];rfl⟩
theorem qc (n:Nat):List.replicate n [PV.int .u16 0]=(List.replicate n (0:UInt16)).map eU:=by rw[List.map_replicate];rfl
theorem yi (a b:List UInt16)(ha:a.length<=100000000)(hb:b.length<=100000000)(hle:nv b<=nv a):aU 218 [.sl (a.map eU),.sl (b.map eU)] (.sl ((aJ (nv a-nv b)).map eU)):=by
 have hal:(a.map eU).length=a.length:=ap;have hbl:(b.map eU).length=b.length:=ap;refine aD Proofs.Tryz.func218 ?_;refine H ?_;refine aC (mK O O O O O O O O J (by show(2:Int)*_<=_;omega) J ?_);rw[show(((a.map eU).length:Nat):Int).toNat=a.length by omega,qc];refine H ?_;refine ai (MinI a b) (fun q=>[(1,.sl (b.map eU)),(5,.als 12 1 0 (q.2.1.map eU).length),(6,.int .u32 (q.2.2:Nat)),(13,.sl (a.map eU)),(14,I a.length),(15,I q.1)])
  (fun q=>[(12,1,⟨218,1,q.2.1.map eU,0⟩)]) (fun q=>a.length-q.1) (0,List.replicate a.length 0,0) ⟨aP _,ap,aP _,by simp[nv]⟩ ⟨O,O,O,O,?_,ah⟩ ?_
 .show I ((a.map eU).length)=_;rw[hal]
 rintro⟨k,R,c⟩ s2 hI;have hk:=hI.k;have hc:=hI.c;have hRl:=hI.l;simp only at hk hc hRl;dsimp only;refine D ?_ ?_<;>intro h
 .have hlt:k<a.length:=cw h;clear h;obtain⟨x,hx⟩:=ay hlt;have hxl:=cq x;obtain⟨r,hr⟩:=r8 (R:=R) (i:=k) J;obtain⟨y,hyl,hy,hyb⟩:∃y:Nat,y<65536/\nv (b.take (k+1))=nv (b.take k)+65536^k*y/\(if k<b.length then ∃u:UInt16,b[k]?=some u/\u.toNat=y else y=0):=by
   by_cases hb:k<b.length
   .obtain⟨u,hu⟩:=ay hb;exact⟨u.toNat,cq u,gy hu,by rw[if_pos hb];exact⟨u,hu,O⟩⟩
   .exact⟨0,Y,by rw[iL J,iL J];omega,by rw[if_neg hb]⟩
  have hst:=Kj hI hx hy hyl;have e0:IntKind.u32.wrap (x.toNat:Int)=(x.toNat:Int):=wrap_u32 J J;refine aN hx ?_;refine H ?_;refine uD [(1,.sl (b.map eU)),(5,.als 12 1 0 (R.map eU).length),(6,.int .u32 (c:Nat)),(7,I k),(8,.int .u16 x.toNat),(9,.int .u32 ((c+y:Nat):Int)),(13,.sl (a.map eU)),(14,I a.length),(15,I k)] [(12,1,⟨218,1,R.map eU,0⟩)] ?_ (fun s3=>?_)
  .refine aV O ?_ ?_<;>intro h
   .have hb:k<b.length:=by have:=bk h;rw[hbl]at this;omega
    clear h;rw[if_pos hb]at hyb;obtain⟨u,hu,rfl⟩:=hyb;have e1:IntKind.u32.wrap ((c:Int)+IntKind.u32.wrap (u.toNat:Int))=((c+u.toNat:Nat):Int):=by rw[wrap_u32 (n:=(u.toNat:Int)) J J,wrap_u32 J J];omega
    refine aN hu ?_;refine H ?_;rw[e1];exact ah
   .have hb:¬k<b.length:=by have:=bS h;rw[hbl]at this;omega
    clear h;rw[if_neg hb]at hyb;subst hyb;refine H ?_;exact ah
  by_cases hlt2:x.toNat<c+y
  .rw[if_pos hlt2,if_pos hlt2]at hst;have e2:IntKind.u16.wrap (IntKind.u32.wrap (IntKind.u32.wrap ((x.toNat:Int)+IntKind.u32.wrap ((1:Int)*2^(16:Int).toNat))-((c+y:Nat):Int)))=((UInt16.ofNat (x.toNat+65536-(c+y))).toNat:Int):=by
    rw[show IntKind.u32.wrap ((1:Int)*2^(16:Int).toNat)=65536 by decide,wrap_u32 (n:=(x.toNat:Int)+65536) J J,wrap_u32 J J,<-wrap_u16];congr 1;omega
   refine H ?_;rw[e0];refine D ?_ ?_<;>intro h
   .clear h;refine H ?_;rw[e0];refine H ?_;rw[e2];refine ci O O (cF O O O O O O O J (by rw[aF];omega)) ?_;rw[be,aM k];refine eF (cP (kd':=0) O O O hr O O ah O O O O ?_);refine H ?_;refine⟨(k+1,_,_),hst,by simp only;omega,O,?_,O,O,O,c9 J J,?_,bh⟩
    .show PV.als 12 1 0 _=PV.als 12 1 0 _;rw[aF,aF,jF]
    .refine Eq.trans (b:=(1,some (Cont.mk 218 1 ((R.map eU).set k (eU (UInt16.ofNat (x.toNat+65536-(c+y))))) 0))) O ?_;rw[kC]
   .have:=bS h;omega
  .rw[if_neg hlt2,if_neg hlt2]at hst;have e2:IntKind.u16.wrap (IntKind.u32.wrap (IntKind.u32.wrap ((x.toNat:Int)+IntKind.u32.wrap ((0:Int)*2^(16:Int).toNat))-((c+y:Nat):Int)))=((UInt16.ofNat (x.toNat+0-(c+y))).toNat:Int):=by
    rw[show IntKind.u32.wrap ((0:Int)*2^(16:Int).toNat)=0 by decide,wrap_u32 (n:=(x.toNat:Int)+0) J J,wrap_u32 J J,<-wrap_u16];congr 1;omega
   refine H ?_;rw[e0];refine D ?_ ?_<;>intro h
   .have:=bk h;omega
   .clear h;refine H ?_;rw[e0];refine H ?_;rw[e2];refine ci O O (cF O O O O O O O J (by rw[aF];omega)) ?_;rw[be,aM k];refine eF (cP (kd':=0) O O O hr O O ah O O O O ?_);refine H ?_;refine⟨(k+1,_,_),hst,by simp only;omega,O,?_,O,O,O,c9 J J,?_,bh⟩
    .show PV.als 12 1 0 _=PV.als 12 1 0 _;rw[aF,aF,jF]
    .refine Eq.trans (b:=(1,some (Cont.mk 218 1 ((R.map eU).set k (eU (UInt16.ofNat (x.toNat+0-(c+y))))) 0))) O ?_;rw[kC]
 .have hge:k=a.length:=co h;subst hge;clear h;have hfin:bN R=aJ (nv a-nv b):=by rw[bN,Nf hI hle]
  have ht:=eY R J;rw[hfin]at ht
  (refine cV 14 ?_;refine aR 1 ?_)
  refine H ?_;refine br O (gF (Ghost.takeF (enc:=eU) (t:=48) (R) O O (O) O (fun _=>rfl)) ?_)
  (refine oX (gC O (ht) O ?_ O) ?_;.repeat' constructor)
  refine aT ?_;refine H ?_;exact lC O O O trivial O
theorem y5 (k g i:Nat)(R:List UInt16)(y:UInt16):PV.als k g 0 (((R.map eU).set i (eU y))).length=PV.als k g 0 ((R.set i y).map eU).length:=by simp
theorem ib (g T sz kd i:Nat)(R:List UInt16)(y:UInt16):(g,some (Cont.mk T sz ((R.map eU).set i (eU y)) kd))=(g,some (Cont.mk T sz ((R.set i y).map eU) kd)):=by rw[kC]
structure TimO (A B:List UInt16) (q:Nat × List UInt16):Prop where
 i:q.1<=A.length
 l:q.2.length=A.length+B.length
 v:nv (q.2.take (q.1+B.length))=nv (A.take q.1)*nv B
structure TimI (A B:List UInt16) (i x:Nat) (q:Nat × List UInt16 × Nat):Prop where
 k:q.1<=B.length
 l:q.2.1.length=A.length+B.length
 c:q.2.2<65536
 v:nv (q.2.1.take (i+B.length))+65536^(i+q.1)*q.2.2=nv (A.take i)*nv B+65536^i*(x*nv (B.take q.1))
theorem Ca {x y:Nat}(hx:x<65536)(hy:y<65536):x*y<=4294836225:=by
 have:=eO (show x<=65535 by omega) (show y<=65535 by omega);omega
theorem L8 {A B:List UInt16}{i x k:Nat}{R:List UInt16}{c:Nat}{y r:UInt16}(h:TimI A B i x (k,R,c))(hx:x<65536)(hy:B[k]?=some y)(hr:R[i+k]?=some r) :
  TimI A B i x (k+1,R.set (i+k) (UInt16.ofNat (c+(x*y.toNat+r.toNat))),(c+(x*y.toNat+r.toNat))/65536):=by
 obtain⟨h1,h2,h3,h4⟩:=h;simp only at h1 h2 h3 h4;have hk:=(cb hy).1;have hyl:=cq y;have hrl:=cq r;have hm:=Ca hx hyl;refine⟨hk,by simp[h2],by simp only;omega,?_⟩;simp only;have hs:=Gl (t:=i+B.length) hr J (UInt16.ofNat (c+(x*y.toNat+r.toNat)));rw[bY]at hs;rw[gy hy,show i+(k+1)=(i+k)+1 by omega,db];have e:=jE (c+(x*y.toNat+r.toNat)) 65536;generalize (c+(x*y.toNat+r.toNat))%65536=m,(c+(x*y.toNat+r.toNat))/65536=d at *
 have e2:65536^i*(x*(nv (B.take k)+65536^k*y.toNat))=65536^i*(x*nv (B.take k))+65536^(i+k)*(x*y.toNat):=by
  rw[cy,cy,i4];congr 1;simp only[cY,mj,dg]
 rw[e2];generalize 65536^(i+k)=W at *
 have e3:W*(m+65536*d)=W*(c+(x*y.toNat+r.toNat)):=by rw[e]
 simp only[cy]at e3;rw[cY];omega
theorem L7 {A B:List UInt16}{i:Nat}{x r:UInt16}{R:List UInt16}{c:Nat}(hx:A[i]?=some x)(h:TimI A B i x.toNat (B.length,R,c))(hr:R[i+B.length]?=some r):TimO A B (i+1,R.set (i+B.length) (UInt16.ofNat c)):=by
 obtain⟨h1,h2,h3,h4⟩:=h;simp only at h1 h2 h3 h4;have hk:=(cb hx).1;refine⟨hk,by simp[h2],?_⟩;simp only;rw[show i+1+B.length=i+B.length+1 by omega,gy (fA J),pY (aY),bY,eE h3,h4,bI,gy hx,cg,cY]
theorem Od {A B R:List UInt16}(h:TimO A B (A.length,R)):nv R=nv A*nv B:=by
 have h1:=h.l;have h2:=h.v;simp only at h1 h2;rwa [bI,cT J]at h2
theorem IE (a b:List UInt16)(ha:a.length<=100000000)(hb:b.length<=100000000):aU 219 [.sl (a.map eU),.sl (b.map eU)] (.sl ((aJ (nv a*nv b)).map eU)):=by
 have hal:(a.map eU).length=a.length:=ap;have hbl:(b.map eU).length=b.length:=ap;have hw0:IntKind.i64.wrap ((((a.map eU).length:Nat):Int)+(((b.map eU).length:Nat):Int))=((a.length+b.length:Nat):Int):=by rw[hal,hbl,wrap_i64 J J];omega
 refine aD Proofs.Tryz.func219 ?_;refine H ?_;rw[hw0];refine aC (mK O O O O O O O O J (by show(2:Int)*_<=_;omega) J ?_);rw[be,qc];refine H ?_;refine ai (TimO a b) (fun q=>[(1,.sl (b.map eU)),(5,.als 16 1 0 (q.2.map eU).length),(17,.sl (a.map eU)),(18,I a.length),(19,I q.1)])
  (fun q=>[(16,1,⟨218,1,q.2.map eU,0⟩)]) (fun q=>a.length-q.1) (0,List.replicate (a.length+b.length) 0) ⟨aP _,ap,by simp[nv];exact Aw _⟩ ⟨O,O,O,?_,ah⟩ ?_
 .show I ((a.map eU).length)=_;rw[hal]
 rintro⟨i,R⟩ s1 hO;have hi:=hO.i;have hRl:=hO.l;have hOv:=hO.v;simp only at hi hRl hOv;dsimp only;refine D ?_ ?_<;>intro h
 .have hlt:i<a.length:=cw h;clear h;obtain⟨x,hx⟩:=ay hlt;have hxl:=cq x;have ex:IntKind.u32.wrap (x.toNat:Int)=(x.toNat:Int):=wrap_u32 J J;refine aN hx ?_;refine H ?_;refine ai (TimI a b i x.toNat) (fun q=>[(1,.sl (b.map eU)),(5,.als 16 1 0 (q.2.1.map eU).length),(6,I i),(7,.int .u16 x.toNat),(8,.int .u32 (q.2.2:Nat)),(17,.sl (a.map eU)),(18,I a.length),(19,I i),(24,.sl (b.map eU)),(25,I b.length),(26,I q.1)])
   (fun q=>[(16,1,⟨218,1,q.2.1.map eU,0⟩)]) (fun q=>b.length-q.1) (0,R,0) ⟨aP _,hRl,Ae _,by simp[nv];exact hOv⟩ ⟨O,O,O,O,O,O,O,O,O,?_,ah⟩ ?_
  .show I ((b.map eU).length)=_;rw[hbl]
  rintro⟨k,Q,c⟩ s2 hI;have hk:=hI.k;have hQl:=hI.l;have hc:=hI.c;simp only at hk hQl hc;dsimp only;refine D ?_ ?_<;>intro h
  .have hlt2:k<b.length:=cw h;clear h;obtain⟨y,hy⟩:=ay hlt2;obtain⟨r,hr⟩:=ay (show i+k<Q.length by omega);have hr2:(Q.map eU)[i+k]?=some (eU r):=by rw[bw,hr];rfl
   have hst:=L8 hI hxl hy hr;have hyl:=cq y;have hrl:=cq r;have hm:=Ca hxl hyl;have hmi:(x.toNat:Int)*(y.toNat:Int)=((x.toNat*y.toNat:Nat):Int):=by rw[jG]
   have ey:IntKind.u32.wrap (y.toNat:Int)=(y.toNat:Int):=wrap_u32 J J;have er:IntKind.u32.wrap (r.toNat:Int)=(r.toNat:Int):=wrap_u32 J J;have e1:IntKind.u32.wrap ((c:Int)+IntKind.u32.wrap (IntKind.u32.wrap ((x.toNat:Int)*(y.toNat:Int))+(r.toNat:Int)))=((c+(x.toNat*y.toNat+r.toNat):Nat):Int):=by
    rw[hmi,wrap_u32 (n:=((x.toNat*y.toNat:Nat):Int)) J J,wrap_u32 (n:=((x.toNat*y.toNat:Nat):Int)+(r.toNat:Int)) J J,wrap_u32 J J];omega
   have ei:IntKind.i64.wrap ((i:Int)+(k:Int))=((i+k:Nat):Int):=by rw[wrap_i64 J J];omega
   generalize hsm:c+(x.toNat*y.toNat+r.toNat)=sm at *
   refine aN hy ?_;refine H ?_;rw[ex];refine H ?_;rw[ey];refine H ?_;rw[ei];refine ci O O (cF O O O O O O O J (by rw[aF];omega)) ?_;rw[be,aM (i+k)];refine ci O O (du O O O hr2 O) ?_;refine H ?_;rw[er];refine H ?_;rw[e1];refine H ?_;rw[ei];refine H ?_;rw[wrap_u16];refine ci O O (cF O O O O O O O J (by rw[aF];omega)) ?_;rw[be,aM (i+k)];refine eF (cP (kd':=0) O O O hr2 O O ah O O O O ?_);refine H ?_;refine⟨(k+1,_,_),hst,by simp only;omega,O,?_,O,O,?_,O,O,O,O,O,c9 J J,?_,bh⟩
   .exact y5 16 1 (i+k) Q (UInt16.ofNat sm) |> fun h=>by
     show PV.als 16 1 0 (Q.map eU).length=_;rw[<-h,jF]
   .show PV.int .u32 ((sm:Int)/2^16)=PV.int .u32 ((sm/65536:Nat):Int);congr 1
   .exact ib 1 218 1 0 (i+k) Q (UInt16.ofNat sm)
  .have hge:k=b.length:=co h;subst hge;clear h;obtain⟨r,hr⟩:=ay (show i+b.length<Q.length by omega);have hr2:(Q.map eU)[i+b.length]?=some (eU r):=by rw[bw,hr];rfl
   have hst:=L7 hx hI hr;have ei:IntKind.i64.wrap ((i:Int)+(((b.map eU).length:Nat):Int))=((i+b.length:Nat):Int):=by rw[hbl,wrap_i64 J J];omega
   refine H ?_;rw[ei];refine H ?_;rw[wrap_u16];refine ci O O (cF O O O O O O O J (by rw[aF];omega)) ?_;rw[be,aM (i+b.length)];refine eF (cP (kd':=0) O O O hr2 O O ah O O O O ?_);refine H ?_;refine⟨(i+1,_),hst,by simp only;omega,O,?_,O,O,c9 J J,?_,bh⟩
   .show PV.als 16 1 0 (Q.map eU).length=_;rw[<-y5 16 1 (i+b.length) Q (UInt16.ofNat c),jF]
   .exact ib 1 218 1 0 (i+b.length) Q (UInt16.ofNat c)
 .have hge:i=a.length:=co h;subst hge;clear h;have hfin:bN R=aJ (nv a*nv b):=by rw[bN,Od hO]
  have ht:=eY R J;rw[hfin]at ht
  (refine cV 15 ?_;refine aR 1 ?_)
  refine H ?_;refine br O (gF (Ghost.takeF (enc:=eU) (t:=65) (R) O O (O) O (fun _=>rfl)) ?_)
  (refine oX (gC O (ht) O ?_ O) ?_;.repeat' constructor)
  refine aT ?_;refine H ?_;exact lC O O O trivial O
end Go.Pv
namespace Go.Pv
open Go.RowKit
theorem Q1 {P:Program}{w:World}{m:Sem Value}{v:Value}(h:m.run P w=.ok v w):(do pure (Next.value (<-m)):Sem Next).run P w=.ok (.value v) w:=by simp[h]
section
variable {P:Program}{L:dj}{s:St}
theorem sP [Globs]{T T':TypeId}{d:Nat}{x:Operand}{r:LRow}{E:TypeId}{ty:TypeId}{pos:String}{af:Array Edge}{rows:List (List PV)}{K:St->Prop}(hL:nt P L)(hr:L T=some r)(hs:r.sh=.sl E)(hx:s.ev x=.sl rows)
  (h1:rows=[]->K (s.putR d (.bool true))) (h2:K (s.putR d (.bool false))):Sm P L s ⟨some d,.binOp .eql T x (.const (.slice none 0 0)) T',ty,pos,af,none⟩ K:=by
 intro C a w Q hG ⟨γ,hs'⟩ hN;have hv:=hs'.ev x;rw[hx]at hv;have hu:=kQ (hL T r hr) hs
 have run:∀(v:Value) (b:Bool),a.eval x=v->((v=.slice none 0 0\/∃c,v=.slice none 0 c)/\b=true\/(∃q n c,v=.slice (some q) n c)/\b=false) ->
   (execOp a.eval ⟨some d,.binOp .eql T x (.const (.slice none 0 0)) T',ty,pos,af,none⟩).run P w=.ok (.value (.bool b)) w:=by
  intro v b hv hb;have e2:a.eval (.const (.slice none 0 0)) = .slice none 0 0:=O;simp only[execOp,hv,e2];refine Q1 ?_;rcases hb with⟨rfl|⟨c,rfl⟩,rfl⟩|⟨⟨q,n,c,rfl⟩,rfl⟩
  .have hg:eqGuard .eql T x (.const (.slice none 0 0)) (.slice none 0 0) (.slice none 0 0)=pure ():=by cases x<;>rfl
   rw[hg];have h:∀d:Nat,(Op.equalIn (d+1) T (.slice none 0 0) (.slice none 0 0)).run P w=.ok true w:=fun d=>by simp[Op.equalIn,run_underlying hu]
   simp only[Sem.run_bind,Sem.run_pure,Result.andThen_ok,binOp];simp[Op.equal,Op.maxDepth,h 9999]
  .have hg:eqGuard .eql T x (.const (.slice none 0 0)) (.slice none 0 c) (.slice none 0 0)=pure ():=by cases x<;>rfl
   rw[hg];have h:∀d:Nat,(Op.equalIn (d+1) T (.slice none 0 c) (.slice none 0 0)).run P w=.ok true w:=fun d=>by simp[Op.equalIn,run_underlying hu]
   simp only[Sem.run_bind,Sem.run_pure,Result.andThen_ok,binOp];simp[Op.equal,Op.maxDepth,h 9999]
  .have hg:eqGuard .eql T x (.const (.slice none 0 0)) (.slice (some q) n c) (.slice none 0 0)=pure ():=by cases x<;>rfl
   rw[hg];have h:∀d:Nat,(Op.equalIn (d+1) T (.slice (some q) n c) (.slice none 0 0)).run P w=.ok false w:=fun d=>by simp[Op.equalIn,run_underlying hu]
   simp only[Sem.run_bind,Sem.run_pure,Result.andThen_ok,binOp];simp[Op.equal,Op.maxDepth,h 9999]
 generalize hev:a.eval x=v0 at hv;cases hv with
 |d hd =>
  cases hd with
  |sl0 q cap =>
   cases q with
   |none =>
    unfold Oper.wp;rw[run _ true hev (.inl ⟨.inr ⟨_,O⟩,O⟩),Oper.upon_value];exact⟨_,⟨_,hs'.put (d:=some d) hN (.d (.bool _))⟩,h1 O⟩
   |some q =>
    unfold Oper.wp;rw[run _ false hev (.inr ⟨⟨_,_,_,O⟩,O⟩),Oper.upon_value];exact⟨_,⟨_,hs'.put (d:=some d) hN (.d (.bool _))⟩,h2⟩
  |sl rows b off cap sz vals =>
   unfold Oper.wp;rw[run _ false hev (.inr ⟨⟨_,_,_,O⟩,O⟩),Oper.upon_value];exact⟨_,⟨_,hs'.put (d:=some d) hN (.d (.bool _))⟩,h2⟩
end
theorem fh [Globs]{P:Program}{L:dj}{Q:Exit->St->Prop}{s:St}(h:PWP P L .ret Q s):PWP P L .ret Q s:=h
end Go.Pv
set_option maxHeartbeats 2000000
namespace Go.Pv
attribute [local irreducible] PWP POps PQuiet PSem aE aw aj ak
open Go.Proofs
theorem Dh (a b:Nat):(a:Int).tdiv (b:Int)=((a/b:Nat):Int):=rfl
theorem n7 (a b:Nat):(a:Int).tmod (b:Int)=((a%b:Nat):Int):=rfl
theorem SS {x y:Nat}(hx:x<65536)(hy:y<65536):bits .or .u32 ((x*65536:Nat):Int) (y:Int)=((x*65536+y:Nat):Int):=by
 rw[bits_join .u32 32 Y wraps_u32 16 _ _ J J J J J J];omega
theorem Qg {x y:Nat}(hx:x<281474976710656)(hy:y<65536):bits .or .u64 ((x*65536:Nat):Int) (y:Int)=((x*65536+y:Nat):Int):=by
 rw[bits_join .u64 64 Y wraps_u64 16 _ _ J J J J J J];omega
theorem Pb {x:Nat}(hx:x<65536):IntKind.u32.wrap ((x:Int)*2^(16:Int).toNat)=((x*65536:Nat):Int):=by
 rw[show((2:Int)^(16:Int).toNat)=65536 by decide,wrap_u32 J J];omega
theorem Lr {x:Nat}(hx:x<281474976710656):IntKind.u64.wrap ((x:Int)*2^(16:Int).toNat)=((x*65536:Nat):Int):=by
 rw[show((2:Int)^(16:Int).toNat)=65536 by decide,wrap_u64 J J];omega
structure ShI (A:List UInt16) (b:Nat) (q:Nat × List UInt16 × Nat):Prop where
 k:q.1<=A.length
 l:q.2.1.length=A.length
 c:q.2.2<b
 v:nv (A.drop q.1)=b*nv (q.2.1.drop q.1)+q.2.2
theorem xC {l:List UInt16}{i:Nat}{y:UInt16}(h:i<l.length):(l.set i y).drop i=y::l.drop (i+1):=by
 have h1:(l.set i y)[i]?=some y:=fA h;have h2:=zy (l:=l.set i y) (i:=i);rw[h1]at h2;rw[h2];show y::(l.set i y).drop (i+1)=_;congr 1;apply i6;intro j;rw[dF,dF,et J]
theorem NM {A:List UInt16}{b j:Nat}{Q:List UInt16}{c:Nat}{x:UInt16}(h:ShI A b (j+1,Q,c))(hb:b<65536)(hx:A[j]?=some x) :
  ShI A b (j,Q.set j (UInt16.ofNat ((c*65536+x.toNat)/b)),(c*65536+x.toNat)%b):=by
 obtain⟨h1,h2,h3,h4⟩:=h;simp only at h1 h2 h3 h4;have hj:=(cb hx).1;have hxl:=cq x;refine⟨by simp only;omega,by simp[h2],ep _ J,?_⟩;simp only;have hq:(c*65536+x.toNat)/b<65536:=by
  rw[ua J];have:=cE 65536 (show c+1<=b by omega);omega
 rw[i9 hx,h4,xC J,nv,bY,eE hq,cy 65536,cy b];have e:=mn (c*65536+x.toNat) b;have e2:b*(65536*nv (Q.drop (j+1)))=65536*(b*nv (Q.drop (j+1))):=by rw[mj]
 rw[e2];omega
theorem It (a:List UInt16)(b:UInt16)(ha:a.length<=100000000)(hb:0<b.toNat):aU 272 [.sl (a.map eU),.int .u16 b.toNat] (.tup [.sl ((aJ (nv a/b.toNat)).map eU),.int .u16 ((nv a%b.toNat:Nat):Int)]):=by
 have hal:(a.map eU).length=a.length:=ap;have hbl:=cq b;have hw0:IntKind.i64.wrap (((((a.map eU).length:Nat):Int))-1)=(a.length:Int)-1:=by rw[hal,wrap_i64 J J]
 have eb:IntKind.u32.wrap (b.toNat:Int)=(b.toNat:Int):=wrap_u32 J J;have hb0:¬((b.toNat:Nat):Int)=0:=J;refine aD Proofs.Tryz.func272 ?_;refine H ?_;refine aC (mK O O O O O O O O J (by show(2:Int)*_<=_;omega) J ?_);rw[show(((a.map eU).length:Nat):Int).toNat=a.length by omega,qc];refine H ?_;rw[hw0];refine ai (ShI a b.toNat) (fun q=>[(0,.sl (a.map eU)),(1,.int .u16 b.toNat),(6,.als 11 1 0 (q.2.1.map eU).length),(7,.int .u32 (q.2.2:Nat)),(8,I ((q.1:Int)-1))])
  (fun q=>[(11,1,⟨218,1,q.2.1.map eU,0⟩)]) (fun q=>q.1) (a.length,List.replicate a.length 0,0) ⟨aY,ap,hb,by simp[nv]⟩ ah ?_
 rintro⟨k,Q,c⟩ s1 hI;have hk:=hI.k;have hQl:=hI.l;have hc:=hI.c;simp only at hk hQl hc;dsimp only;refine D ?_ ?_<;>intro h
 .have hk0:0<k:=cw h;clear h;obtain⟨j,rfl⟩:∃j,k=j+1:=⟨k-1,J⟩;have e1:(((j+1:Nat):Int)-1)=(j:Nat):=J;obtain⟨x,hx⟩:=ay (show j<a.length by omega);have hxl:=cq x;obtain⟨r,hr⟩:=r8 (R:=Q) (i:=j) J;have hst:=NM hI hbl hx;have hst2:=hst.c;simp only at hst2;have ex:IntKind.u32.wrap (x.toNat:Int)=(x.toNat:Int):=wrap_u32 J J;have hsmb:c*65536+x.toNat<4294967296:=J;have hor:=SS (x:=c) (y:=x.toNat) J hxl;have hq:(c*65536+x.toNat)/b.toNat<=c*65536+x.toNat:=jr _ _;rw[e1];refine H ?_;rw[Pb J];refine tp O O O O O O O hx O ?_;refine H ?_;rw[ex,hor];generalize c*65536+x.toNat=sm at *
  refine H ?_;rw[eb];refine lY O hb0 ?_;rw[Dh];generalize hqq:sm/b.toNat=qq at *
  rw[wrap_u32 (n:=(qq:Int)) J J];refine H ?_;rw[wrap_u16];refine ci O O (cF O O O O O O O J (by rw[aF];omega)) ?_;rw[be,aM j];refine eF (cP (kd':=0) O O O hr O O ah O O O O ?_);refine H ?_;rw[eb];refine lY O hb0 ?_;rw[n7];refine H ?_;refine⟨(j,_,_),hst,by simp only;omega,O,O,?_,O,?_,?_,bh⟩
  .show PV.als 11 1 0 (Q.map eU).length=_;rw[<-y5 11 1 j Q (UInt16.ofNat qq),jF]
  .exact congrArg I (wrap_i64 J J)
  .exact ib 1 218 1 0 j Q (UInt16.ofNat qq)
 .have hge:k=0:=co h;subst hge;clear h;have hv:=hI.v;simp only[fO]at hv;have hd:nv a/b.toNat=nv Q/\nv a%b.toNat=c:=by
   rw[hv,Nat.mul_add_div hb,uk,ra hc,eE hc];omega
  have ht:=eY Q J;rw[bN,<-hd.1]at ht
  (refine cV 9 ?_;refine aR 1 ?_)
  refine H ?_;refine br O (gF (Ghost.takeF (enc:=eU) (t:=39) (Q) O O (O) O (fun _=>rfl)) ?_)
  (refine oX (gC O (ht) O ?_ O) ?_;.repeat' constructor)
  refine aT ?_;refine H ?_;rw[wrap_u16,bY,eE (show c<65536 by omega),<-hd.2];refine H ?_;exact DT O O O O O trivial trivial O
def nC:Nat->Nat->List UInt16
 |0,_=>[]
 |k+1,v=>UInt16.ofNat v::nC k (v/65536)
theorem nD:∀k v,(nC k v).length=k
 |0,_=>rfl
 |k+1,v=>by rw[nC,dl,nD k]
theorem zj:∀k v,v<65536^k->nv (nC k v)=v
 |0,v,h=>by simp at h;subst h;rfl
 |k+1,v,h=>by
  rw[nC,nv,bY,zj k (v/65536) (by rw[db]at h;exact mc (by rw[dg];exact h))];exact jE _ _
theorem zk:∀(l:List UInt16),l=nC l.length (nv l)
 |[]=>rfl
 |x::l=>by
  have hx:=cq x;rw[dl,nC,nv];have e1:UInt16.ofNat (x.toNat+65536*nv l)=x:=by apply w_;rw[bY];omega
  have e2:(x.toNat+65536*nv l)/65536=nv l:=J;rw[e1,e2,<-zk l]
structure SfI (A:List UInt16) (s:Nat) (q:Nat × List UInt16):Prop where
 i:q.1<=A.length
 l:q.2.length=A.length+1
 r:(q.2.getD q.1 0).toNat<2^s
 v:nv (q.2.take (q.1+1))=nv (A.take q.1)*2^s
theorem Lj {x s:Nat}(hs:s<=16):(x*2^s%65536)%2^s=0:=by
 rw[show 65536=2^s*2^(16-s) by rw[<-i4,show s+(16-s)=16 by omega]];rw[Nat.mod_mul_right_mod,Nat.mul_mod_left]
theorem GB {A:List UInt16}{s i:Nat}{R:List UInt16}{x:UInt16}(h:SfI A s (i,R))(hs:s<=16)(hx:A[i]?=some x) :
  ((R.getD i 0).toNat+x.toNat*2^s%65536<65536)/\SfI A s (i+1,(R.set i (UInt16.ofNat ((R.getD i 0).toNat+x.toNat*2^s%65536))).set (i+1) (UInt16.ofNat (x.toNat*2^s/65536))):=by
 obtain⟨h1,h2,h3,h4⟩:=h;simp only at h1 h2 h3 h4;have hk:=(cb hx).1;have hxl:=cq x;have hp:0<2^s:=iZ Y;have hw:x.toNat*2^s/65536<2^s:=by
  rw[ua Y];have:=(ox hp).2 hxl;rw[dg (2^s)];exact this
 have hp2:2^s<=65536:=gu (n:=2) Y hs;have hlo:=Lj (x:=x.toNat) hs;have hd:2^s*2^(16-s)=65536:=by rw[<-i4,show s+(16-s)=16 by omega]
 have hm:=ep (x.toNat*2^s) (show 65536>0 by decide);have hlt:(R.getD i 0).toNat+x.toNat*2^s%65536<65536:=by
  generalize x.toNat*2^s%65536=m at *
  obtain⟨c,hc⟩:=Nat.dvd_of_mod_eq_zero hlo;have hc2:c<2^(16-s):=by
   rw[hc,<-hd]at hm;exact FW hm
  have:=dE (2^s) (show c+1<=2^(16-s) by omega);rw[cy]at this;omega
 have hRi:R[i]?=some (R.getD i 0):=eo J;refine⟨hlt,hk,by simp[h2],?_,?_⟩
 .simp only;rw[cN,fA aS];show(UInt16.ofNat _).toNat<_;rw[bY,eE J];exact hw
 .simp only;rw[gy (i:=i+1) (fA aS),pY (aY),bY,eE (a:=x.toNat*2^s/65536) J];have e1:=Gl (t:=i+1) hRi J (UInt16.ofNat ((R.getD i 0).toNat+x.toNat*2^s%65536));rw[bY,eE hlt,h4]at e1;rw[gy hx,cg];have e2:=jE (x.toNat*2^s) 65536;have e3:65536^i*x.toNat*2^s=65536^i*(x.toNat*2^s%65536)+65536^(i+1)*(x.toNat*2^s/65536):=by
   rw[db,cY,cY,<-cy,e2]
  rw[e3];rw[cy]at e1;omega
theorem CY (a:List UInt16)(s:Nat)(ha:a.length<=100000000)(hs:s<=16):Ret Tryz.prog .fresh 274 [.sl (a.map eU),I s] (.sl ((nC (a.length+1) (nv a*2^s)).map eU)):=by
 have hal:(a.map eU).length=a.length:=ap;have hw0:IntKind.i64.wrap (((((a.map eU).length:Nat):Int))+1)=((a.length+1:Nat):Int):=by rw[hal,wrap_i64 J J];omega
 have hp2:2^s<=65536:=gu (n:=2) Y hs;refine aD Proofs.Tryz.func274 ?_;refine H ?_;rw[hw0];refine aC (mK O O O O O O O O J (by show(2:Int)*_<=_;omega) J ?_);rw[be,qc];refine H ?_;refine ai (SfI a s) (fun q=>[(1,I s),(5,.als 12 1 0 (q.2.map eU).length),(13,.sl (a.map eU)),(14,I a.length),(15,I q.1)])
  (fun q=>[(12,1,⟨218,1,q.2.map eU,0⟩)]) (fun q=>a.length-q.1) (0,List.replicate (a.length+1) 0) ⟨aP _,ap,by simp[cN];exact iZ Y,by simp[nv]⟩ ⟨O,O,O,?_,ah⟩ ?_
 .show I ((a.map eU).length)=_;rw[hal]
 rintro⟨i,R⟩ s1 hI;have hi:=hI.i;have hRl:=hI.l;have hrr:=hI.r;simp only at hi hRl hrr;dsimp only;refine D ?_ ?_<;>intro h
 .have hlt:i<a.length:=cw h;clear h;obtain⟨x,hx⟩:=ay hlt;have hxl:=cq x;obtain⟨hst0,hst⟩:=GB hI hs hx;have hr:(R.map eU)[i]?=some (eU (R.getD i 0)):=by rw[bw,eo J];rfl
  generalize hrd:R.getD i 0=r at *
  obtain⟨r2,hr2⟩:=r8 (R:=R.set i (UInt16.ofNat (r.toNat+x.toNat*2^s%65536))) (i:=i+1) aS;have hlo:=Lj (x:=x.toNat) hs;have hwb:x.toNat*2^s<4294967296:=by
   have:=eO (show x.toNat<=65535 by omega) hp2;omega
  have ex:IntKind.u32.wrap (x.toNat:Int)=(x.toNat:Int):=wrap_u32 J J;have esh:IntKind.u32.wrap ((x.toNat:Int)*2^(s:Int).toNat)=((x.toNat*2^s:Nat):Int):=by
   rw[be,show((x.toNat:Int)*2^s)=((x.toNat*2^s:Nat):Int) by push_cast;rfl,wrap_u32 J J]
  have e16:IntKind.u16.wrap ((x.toNat*2^s:Nat):Int)=((x.toNat*2^s%65536:Nat):Int):=by rw[wrap_u16,bY]
  have hor:bits .or .u16 (r.toNat:Int) ((x.toNat*2^s%65536:Nat):Int)=((UInt16.ofNat (r.toNat+x.toNat*2^s%65536)).toNat:Int):=by
   rw[bits_join_low .u16 16 Y wraps_u16 s _ _ J (by exact_mod_cast hrr) (by have:=cq r;omega) J (by exact_mod_cast hlo) (by have:=ep (x.toNat*2^s) (show 65536>0 by decide);omega),bY,eE hst0];omega
  have ei:IntKind.i64.wrap ((i:Int)+1)=((i+1:Nat):Int):=by rw[wrap_i64 J J];omega
  generalize x.toNat*2^s=w at *
  refine aN hx ?_;refine H ?_;rw[ex];refine H ?_;refine lY O (show(0:Int)<=(s:Int)/\(s:Int)<=(IntKind.u32.bits:Nat) by constructor;omega;show(s:Int)<=32;omega) ?_;rw[esh];refine H ?_;refine ci O O (cF O O O O O O O J (by rw[aF];omega)) ?_;rw[be,aM i];refine ci O O (du O O O hr O) ?_;refine H ?_;rw[e16];refine H ?_;rw[hor];refine ci O O (cF O O O O O O O J (by rw[aF];omega)) ?_;rw[be,aM i];refine eF (cP (kd':=0) O O O hr O O ah O O O O ?_);rw[show((R.map eU).set i (oZ (eU r) 0 ((PV.int IntKind.u16 ((UInt16.ofNat (r.toNat+w%65536)).toNat:Int)).cells.map (jP 0))))=(R.set i (UInt16.ofNat (r.toNat+w%65536))).map eU from kC _ _ _];refine H ?_;rw[ei];refine H ?_;rw[show IntKind.u16.wrap ((w:Int)/2^(16:Int).toNat)=((UInt16.ofNat (w/65536)).toNat:Int) from wrap_u16 (w/65536)];refine ci O O (cF O O O O O O O J (by rw[aF];omega)) ?_;rw[be,aM (i+1)];refine eF (cP (kd':=0) O O O hr2 O O ah O O O O ?_);refine H ?_;refine⟨(i+1,_),hst,by simp only;omega,O,?_,O,O,c9 J J,?_,bh⟩
  .show PV.als 12 1 0 (R.map eU).length=_;simp
  .exact ib 1 218 1 0 (i+1) (R.set i (UInt16.ofNat (r.toNat+w%65536))) (UInt16.ofNat (w/65536))
 .have hge:i=a.length:=co h;subst hge;clear h;have hv:=hI.v;simp only at hv;rw[bI,cT J]at hv;have hR:R=nC (a.length+1) (nv a*2^s):=by rw[<-hv,<-hRl];exact zk R
  rw[<-hR];refine H ?_;exact x8 O O O ⟨O,O,O⟩ O
theorem AT (a:List UInt16)(s:Nat)(ha:a.length<=100000000)(hs:s<=16):RetO Tryz.prog 274 [.sl (a.map eU),I s] 218 1 ((nC (a.length+1) (nv a*2^s)).map eU):=by
 have hal:(a.map eU).length=a.length:=ap;have hw0:IntKind.i64.wrap (((((a.map eU).length:Nat):Int))+1)=((a.length+1:Nat):Int):=by rw[hal,wrap_i64 J J];omega
 have hp2:2^s<=65536:=gu (n:=2) Y hs;refine RetO.of_pwp layOk mixed Go.Proofs.Tryz.func274 O Y O O ?_;refine H ?_;rw[hw0];refine aC (mK O O O O O O O O J (by show(2:Int)*_<=_;omega) J ?_);rw[be,qc];refine H ?_;refine ai (SfI a s) (fun q=>[(1,I s),(5,.als 12 1 0 (q.2.map eU).length),(13,.sl (a.map eU)),(14,I a.length),(15,I q.1)])
  (fun q=>[(12,1,⟨218,1,q.2.map eU,0⟩)]) (fun q=>a.length-q.1) (0,List.replicate (a.length+1) 0) ⟨aP _,ap,by simp[cN];exact iZ Y,by simp[nv]⟩ ⟨O,O,O,?_,ah⟩ ?_
 .show I ((a.map eU).length)=_;rw[hal]
 rintro⟨i,R⟩ s1 hI;have hi:=hI.i;have hRl:=hI.l;have hrr:=hI.r;simp only at hi hRl hrr;dsimp only;refine D ?_ ?_<;>intro h
 .have hlt:i<a.length:=cw h;clear h;obtain⟨x,hx⟩:=ay hlt;have hxl:=cq x;obtain⟨hst0,hst⟩:=GB hI hs hx;have hr:(R.map eU)[i]?=some (eU (R.getD i 0)):=by rw[bw,eo J];rfl
  generalize hrd:R.getD i 0=r at *
  obtain⟨r2,hr2⟩:=r8 (R:=R.set i (UInt16.ofNat (r.toNat+x.toNat*2^s%65536))) (i:=i+1) aS;have hlo:=Lj (x:=x.toNat) hs;have hwb:x.toNat*2^s<4294967296:=by
   have:=eO (show x.toNat<=65535 by omega) hp2;omega
  have ex:IntKind.u32.wrap (x.toNat:Int)=(x.toNat:Int):=wrap_u32 J J;have esh:IntKind.u32.wrap ((x.toNat:Int)*2^(s:Int).toNat)=((x.toNat*2^s:Nat):Int):=by
   rw[be,show((x.toNat:Int)*2^s)=((x.toNat*2^s:Nat):Int) by push_cast;rfl,wrap_u32 J J]
  have e16:IntKind.u16.wrap ((x.toNat*2^s:Nat):Int)=((x.toNat*2^s%65536:Nat):Int):=by rw[wrap_u16,bY]
  have hor:bits .or .u16 (r.toNat:Int) ((x.toNat*2^s%65536:Nat):Int)=((UInt16.ofNat (r.toNat+x.toNat*2^s%65536)).toNat:Int):=by
   rw[bits_join_low .u16 16 Y wraps_u16 s _ _ J (by exact_mod_cast hrr) (by have:=cq r;omega) J (by exact_mod_cast hlo) (by have:=ep (x.toNat*2^s) (show 65536>0 by decide);omega),bY,eE hst0];omega
  have ei:IntKind.i64.wrap ((i:Int)+1)=((i+1:Nat):Int):=by rw[wrap_i64 J J];omega
  generalize x.toNat*2^s=w at *
  refine aN hx ?_;refine H ?_;rw[ex];refine H ?_;refine lY O (show(0:Int)<=(s:Int)/\(s:Int)<=(IntKind.u32.bits:Nat) by constructor;omega;show(s:Int)<=32;omega) ?_;rw[esh];refine H ?_;refine ci O O (cF O O O O O O O J (by rw[aF];omega)) ?_;rw[be,aM i];refine ci O O (du O O O hr O) ?_;refine H ?_;rw[e16];refine H ?_;rw[hor];refine ci O O (cF O O O O O O O J (by rw[aF];omega)) ?_;rw[be,aM i];refine eF (cP (kd':=0) O O O hr O O ah O O O O ?_);rw[show((R.map eU).set i (oZ (eU r) 0 ((PV.int IntKind.u16 ((UInt16.ofNat (r.toNat+w%65536)).toNat:Int)).cells.map (jP 0))))=(R.set i (UInt16.ofNat (r.toNat+w%65536))).map eU from kC _ _ _];refine H ?_;rw[ei];refine H ?_;rw[show IntKind.u16.wrap ((w:Int)/2^(16:Int).toNat)=((UInt16.ofNat (w/65536)).toNat:Int) from wrap_u16 (w/65536)];refine ci O O (cF O O O O O O O J (by rw[aF];omega)) ?_;rw[be,aM (i+1)];refine eF (cP (kd':=0) O O O hr2 O O ah O O O O ?_);refine H ?_;refine⟨(i+1,_),hst,by simp only;omega,O,?_,O,O,c9 J J,?_,bh⟩
  .show PV.als 12 1 0 (R.map eU).length=_;simp
  .exact ib 1 218 1 0 (i+1) (R.set i (UInt16.ofNat (r.toNat+w%65536))) (UInt16.ofNat (w/65536))
 .have hge:i=a.length:=co h;subst hge;clear h;have hv:=hI.v;simp only at hv;rw[bI,cT J]at hv;have hR:R=nC (a.length+1) (nv a*2^s):=by rw[<-hv,<-hRl];exact zk R
  rw[<-hR];refine H ?_;exact SM O O O O (by rw[ct];intro row hr;obtain⟨y,_,rfl⟩:=aW.1 hr;rfl) O
def S9:List UInt8:=[0,1,2,2,3,3,3,3,4,4,4,4,4,4,4,4,5,5,5,5,5,5,5,5,5,5,5,5,5,5,5,5,6,6,6,6,6,6,6,6,6,6,6,6,6,6,6,6,6,6,6,6,6,6,6,6,6,6,6,6,6,6,6,6,7,7,7,7,7,7,7,7,7,7,7,7,7,7,7,7,7,7,7,7,7,7,7,7,7,7,7,7,7,7,7,7,7,7,7,7,7,7,7,7,7,7,7,7,7,7,7,7,7,7,7,7,7,7,7,7,7,7,7,7,7,7,7,7,8,8,8,8,8,8,8,8,8,8,8,8,8,8,8,8,8,8,8,8,8,8,8,8,8,8,8,8,8,8,8,8,8,8,8,8,8,8,8,8,8,8,8,8,8,8,8,8,8,8,8,8,8,8,8,8,8,8,8,8,8,8,8,8,8,8,8,8,8,8,8,8,8,8,8,8,8,8,8,8,8,8,8,8,8,8,8,8,8,8,8,8,8,8,8,8,8,8,8,8,8,8,8,8,8,8,8,8,8,8,8,8,8,8,8,8,8,8,8,8,8,8,8,8,8,8,8,8]
def tb (x:Nat):Nat:=(S9.getD x 0).toNat
theorem L6:∀x:Fin 256,x.val≠0->1<=tb x.val/\tb x.val<=8/\2^tb x.val<=2*x.val/\x.val<2^tb x.val:=by decide +kernel
def pg (x:Nat):Nat:=if 256<=x then 8+tb (x/256) else tb x
theorem BZ {x:Nat}(h0:x≠0)(h:x<65536):1<=pg x/\pg x<=16/\2^pg x<=2*x/\x<2^pg x:=by
 rw[pg];split
 .have:=L6 ⟨x/256,J⟩ (by show x/256≠0;omega);simp only at this;obtain⟨h1,h2,h3,h4⟩:=this;rw[i4,show 2^8=256 by decide];generalize 2^tb (x/256)=p at *
  generalize tb (x/256)=t at *
  omega
 .have:=L6 ⟨x,J⟩ h0;simp only at this;obtain⟨h1,h2,h3,h4⟩:=this;exact⟨h1,J,h3,h4⟩
theorem Pg {x:Nat}(h:x<256):tb x<=8:=by
 by_cases h0:x=0
 .subst h0;decide
 .exact(L6 ⟨x,h⟩ h0).2.1
theorem HC (x:UInt16):aU 308 [.int .u16 x.toNat] (I (pg x.toNat)):=by
 have hxl:=cq x;rw[pg];by_cases hx:256<=x.toNat
 .rw[if_pos hx];have ew:IntKind.u8.wrap ((x.toNat:Int)/2^(8:Int).toNat)=((x.toNat/256:Nat):Int):=by
   rw[show((2:Int)^(8:Int).toNat)=256 by decide,IntKind.wrap_u8];omega
  have hb:=Pg (x:=x.toNat/256) J;refine aD Proofs.Tryz.func308 ?_;refine D ?_ ?_<;>intro h
  .refine H ?_;rw[ew];refine lY (pv := .int .u8 ((tb (x.toNat/256):Nat):Int)) O (show(0:Int)<=((x.toNat/256:Nat):Int)/\((x.toNat/256:Nat):Int)<((256:Nat):Int) by omega) ?_;generalize tb (x.toNat/256)=t at *
   refine H ?_;rw[wrap_i64 (n:=(t:Int)) J J,wrap_i64 J J,show(8:Int)+(t:Int)=((8+t:Nat):Int) by omega];exact cB
  .have:=bS h;omega
 .rw[if_neg hx];have ew:IntKind.u8.wrap (x.toNat:Int)=(x.toNat:Int):=by rw[IntKind.wrap_u8];omega
  have hb:=Pg (x:=x.toNat) J;refine aD Proofs.Tryz.func308 ?_;refine D ?_ ?_<;>intro h
  .have:=bk h;omega
  .refine H ?_;rw[ew];refine lY (pv := .int .u8 ((tb x.toNat:Nat):Int)) O (show(0:Int)<=(x.toNat:Int)/\(x.toNat:Int)<((256:Nat):Int) by omega) ?_;generalize tb x.toNat=t at *
   refine H ?_;rw[wrap_i64 (n:=(t:Int)) J J,wrap_i64 J J,show(0:Int)+(t:Int)=(t:Int) by omega];exact cB
theorem Kd (x:UInt16)(h0:x.toNat≠0):aU 273 [.int .u16 x.toNat] (I ((16-pg x.toNat:Nat):Int)):=by
 have hl:=BZ h0 (cq x);have hr:=HC x;generalize pg x.toNat=t at *
 refine aD Proofs.Tryz.func273 ?_;refine ax hr ?_;refine H ?_;rw[wrap_i64 J J,show(16:Int)-(t:Int)=((16-t:Nat):Int) by omega];exact o9 O O O
def uw (R:List UInt16)(j m:Nat):Nat:=nv ((R.drop j).take m)
def ul (R:List UInt16)(i:Nat):Nat:=(R.getD i 0).toNat
theorem gH (R:List UInt16)(i:Nat):ul R i<65536:=cq _
theorem rK {R:List UInt16}{i:Nat}(h:i<R.length):R[i]?=some (R.getD i 0):=eo h
theorem GQ (R:List UInt16)(j:Nat):uw R j 0=0:=by rw[uw,dK];rfl
theorem gO {R:List UInt16}{j m:Nat}(h:j+m<R.length):uw R j (m+1)=uw R j m+65536^m*ul R (j+m):=by
 have h1:(R.drop j)[m]?=some (R.getD (j+m) 0):=by rw[dF];exact eo h
 rw[uw,gy h1];rfl
theorem yW (R:List UInt16)(j m:Nat):uw R j m<65536^m:=ju _ _
theorem n9 {R:List UInt16}{i:Nat}{y:UInt16}(h:i<R.length):ul (R.set i y) i=y.toNat:=by
 rw[ul,cN,fA h];rfl
theorem sV {R:List UInt16}{i k:Nat}{y:UInt16}(h:i≠k):ul (R.set i y) k=ul R k:=by
 rw[ul,ul,cN,cN,et h]
theorem sW {R:List UInt16}{j m i:Nat}{y:UInt16}(h:j+m<=i):uw (R.set i y) j m=uw R j m:=by
 rw[uw,uw];congr 1;apply i6;intro k;rw[cJ,cJ];split
 .rw[dF,dF,et J]
 .rfl
theorem Sn {R:List UInt16}{j n:Nat}(h:j+(n+2)<=R.length):uw R j (n+2)=uw R j n+65536^n*(ul R (j+n)+65536*ul R (j+(n+1))):=by
 rw[show n+2=n+1+1 by omega,gO J,gO J,db,cy,cY];omega
theorem S_ {R:List UInt16}{j n:Nat}(h:j+(n+3)<=R.length):uw R j (n+3)=uw R j n+65536^n*(ul R (j+n)+65536*(ul R (j+(n+1))+65536*ul R (j+(n+2)))):=by
 rw[show n+3=n+2+1 by omega,gO J,Sn J,db,db];have:65536^n*(ul R (j+n)+65536*(ul R (j+(n+1))+65536*ul R (j+(n+2))))=65536^n*(ul R (j+n)+65536*ul R (j+(n+1)))+65536^n*65536*65536*ul R (j+(n+2)):=by
  rw[cY,cY,<-cy];congr 1;omega
 rw[this];omega
structure Est (U V top u2 v1 v2 W:Nat):Prop where
 u0:(top*65536+u2)*W<=U
 u1:U<(top*65536+u2+1)*W
 v0:(v1*65536+v2)*W<=V
 v3:V<(v1*65536+v2+1)*W
 hv:32768<=v1
 v1l:v1<65536
 v2l:v2<65536
 u2l:u2<65536
 top:top<4294967296
 lt:U<65536*V
theorem PP {R V:List UInt16}{j n:Nat}(hR:j+(n+3)<=R.length)(hV:V.length=n+2)(ht:32768<=ul V (n+1))(hlt:uw R j (n+3)<65536*nv V) :
  Est (uw R j (n+3)) (nv V) (ul R (j+(n+2))*65536+ul R (j+(n+1))) (ul R (j+n)) (ul V (n+1)) (ul V n) (65536^n):=by
 have e1:=S_ hR;have e2:nv V=uw V 0 (n+2):=by rw[uw,fO,cT J]
 rw[e2]at hlt ⊢;have e3:=Sn (R:=V) (j:=0) (n:=n) J;simp only[aM]at e3;have l1:=yW R j n;have l2:=yW V 0 n;have a1:=gH R (j+n);have a2:=gH R (j+(n+1));have a3:=gH R (j+(n+2));have b1:=gH V n;have b2:=gH V (n+1);generalize 65536^n=W,ul R (j+n)=x0,ul R (j+(n+1))=x1,ul R (j+(n+2))=x2,ul V n=y0,ul V (n+1)=y1 at *
 have c1:W*(x0+65536*(x1+65536*x2))=((x2*65536+x1)*65536+x0)*W:=by rw[dg W];congr 1;omega
 have c2:W*(y0+65536*y1)=(y1*65536+y0)*W:=by rw[dg W];congr 1;omega
 rw[c1]at e1;rw[c2]at e3;refine⟨J,?_,J,?_,ht,b2,b1,a1,J,hlt⟩
 .rw[cg (_*65536+x0),fR];omega
 .rw[cg (_*65536+y0),fR];omega
structure Gs (U V top v1:Nat) (k:Nat × Nat):Prop where
 e:k.1*v1+k.2=top
 q:U/V<=k.1
 r:k.2<131072
 l:k.1<=top
section
variable {U V top u2 v1 v2 W:Nat}
theorem Est.V0 (h:Est U V top u2 v1 v2 W):0<V:=by
 have:=h.lt;rcases gc V with h0|h0
 .subst h0;omega
 .exact h0
theorem Est.W0 (h:Est U V top u2 v1 v2 W):0<W:=by
 rcases gc W with h0|h0
 .subst h0;have:=h.v3;rw[rg]at this;omega
 .exact h0
theorem Est.start (h:Est U V top u2 v1 v2 W):Gs U V top v1 (top/v1,top%v1):=by
 have hv:=h.hv;have hvl:=h.v1l;have h1:=h.u1;have h2:=h.v0;have e1:v1*(65536*W)<=V:=by
  have:v1*(65536*W)=v1*65536*W:=by rw[cY]
  rw[this];refine bK (cE W ?_) h2;omega
 have e2:U<(top+1)*(65536*W):=by
  have h3:=h.u2l;have:(top+1)*(65536*W)=(top+1)*65536*W:=by rw[cY]
  rw[this];refine gU h1 (cE W ?_);omega
 refine⟨by simp only;rw[dg];exact mn _ _,Hh e1 e2 J,?_,jr _ _⟩;have:=ep top (show v1>0 by omega);simp only;omega
theorem Est.quo (h:Est U V top u2 v1 v2 W):U/V<65536:=by
 have:=h.lt;exact mc (by rw[dg];exact this)
theorem Gs.less (h:Est U V top u2 v1 v2 W){q r:Nat}(g:Gs U V top v1 (q,r))(hr:r<65536)(hc:65535<q\/r*65536+u2<q*v2):1<=q/\Gs U V top v1 (q-1,r+v1):=by
 obtain⟨g1,g2,g3,g4⟩:=g;simp only at g1 g2 g3 g4;have hq:1<=q:=by
  rcases gc q with h0|h0
  .subst h0;rcases hc with hc|hc
   .omega
   .rw[gM]at hc;omega
  .exact h0
 have hv:=h.v1l;refine⟨hq,?_,?_,by simp only;omega,by simp only;omega⟩
 .simp only;obtain⟨p,rfl⟩:∃p,q=p+1:=⟨q-1,J⟩;rw[cg]at g1;rw[iC];omega
 .simp only;rcases hc with hc|hc
  .have:=h.quo;omega
  .exact Jq g1 h.v0 h.u1 hc
theorem Gs.near (h:Est U V top u2 v1 v2 W){q r:Nat}(g:Gs U V top v1 (q,r))(hc:65536<=r\/(q<=65535/\q*v2<=r*65536+u2)):q<=65535/\U/V<=q/\q*V<U+V:=by
 obtain⟨g1,g2,g3,g4⟩:=g;simp only at g1 g2 g3 g4;have hq:q<=65535:=by
  rcases hc with hc|hc
  .rcases bG 65535 q with h1|h1
   .exfalso;have e1:=cE v1 (show 65536<=q by omega);have e2:65536*(v1+1)<=top:=J;have e3:=h.u0;have e4:=h.v3;have e5:=h.lt;have e6:=h.v2l;have e7:V<(v1+1)*65536*W:=gU e4 (cE W J);have e8:top*65536*W<=U:=bK (cE W J) e3;have e9:65536*(v1+1)*65536*W<=top*65536*W:=cE W (cE 65536 e2);have e10:65536*((v1+1)*65536*W)=65536*(v1+1)*65536*W:=by simp only[cY]
    omega
   .exact h1
  .exact hc.1
 refine⟨hq,g2,Jr g1 h.v0 h.v3 h.u0 h.hv h.v2l hq (hc.imp id And.right)⟩
end
structure Sub (R V:List UInt16) (j n q:Nat) (k:Nat × List UInt16 × Nat × Int):Prop where
 i:k.1<=n+1
 l:k.2.1.length=R.length
 c:k.2.2.1<65536
 b:k.2.2.2=0\/k.2.2.2 = -1
 o:∀t,t<j\/j+k.1<=t->ul k.2.1 t=ul R t
 v:(uw k.2.1 j k.1:Int)=uw R j k.1-q*uw V 0 (min k.1 n)+65536^k.1*((k.2.2.1:Int)-k.2.2.2)
 z:k.1=n+1->k.2.2.1=0
theorem mI (n:Nat):((65536^n:Nat):Int)=(65536:Int)^n:=by rw[Int.natCast_pow];rfl
def RJ (d:Int):UInt16:=UInt16.ofNat (d%65536).toNat
theorem Gm (d:Int):((RJ d).toNat:Int)=d%65536:=by rw[RJ,bY];omega
theorem ID {R V:List UInt16}{j n q:Nat}:Sub R V j n q (0,R,0,0):=⟨aP _,O,Ae _,.inl O,fun _ _=>rfl,by simp[GQ],fun h=>by simp at h⟩
theorem LU {R V:List UInt16}{j n q i:Nat}{Q:List UInt16}{c:Nat}{b:Int}(h:Sub R V j n q (i,Q,c,b))(hi:i<=n)(hq:q<=65535)(hR:j+(n+1)<=R.length)(hV:n<=V.length){x:Nat}(hx:x=c+(if i<n then q*ul V i else 0)){d:Int}(hd:d=(ul R (j+i):Int)-(x%65536:Nat)+b) :
  Sub R V j n q (i+1,Q.set (j+i) (RJ d),x/65536,d/65536)/\x<4294967296 /\ -65536<=d/\d<=65535:=by
 obtain⟨h1,h2,h3,h4,h5,h6,h7⟩:=h;simp only at h1 h2 h3 h4 h5 h6 h7;have hr:=gH R (j+i);have hxb:x<4294901761:=by
  rw[hx];split
  .have:=eO hq (show ul V i<=65535 by have:=gH V i;omega);omega
  .omega
 have hm:=ep x (show 65536>0 by decide);refine⟨⟨by simp only;omega,by simp[h2],by simp only;omega,?_,fun t ht=>?_,?_,fun hz=>?_⟩,J,J,J⟩
 .simp only;rcases h4 with h4|h4<;>omega
 .simp only at ht ⊢;rw[sV J];exact h5 t J
 .simp only;rw[gO aS,sW J,n9 J,gO (R:=R) J,um,jG,Gm,h6,mI,um,jG,mI,Int.pow_succ];have e1:=Int.emod_add_mul_ediv d 65536;have e2:((x%65536:Nat):Int)+65536*((x/65536:Nat):Int)=x:=J;rw[hd]at e1;have e3:(uw V 0 (min (i+1) n):Int)*q=uw V 0 (min i n)*q+65536^i*((x:Int)-c):=by
   rw[hx];split
   .rename_i hlt;rw[jD J,jD J,gO J,aM,um,jG,mI,um,jG];grind
   .rw[Nat.min_eq_right J,Nat.min_eq_right J];grind
  rw[<-hd]at e1;generalize (65536:Int)^i=W,((x%65536:Nat):Int)=xm,((x/65536:Nat):Int)=xd,d%65536=dm,d/65536=dd at *
  grind
 .simp only at hz ⊢;rw[hx,if_neg J];omega
structure Adb (R V:List UInt16) (j n:Nat) (k:Nat × List UInt16 × Nat):Prop where
 i:k.1<=n
 l:k.2.1.length=R.length
 c:k.2.2<=1
 o:∀t,t<j\/j+k.1<=t->ul k.2.1 t=ul R t
 v:uw k.2.1 j k.1+65536^k.1*k.2.2=uw R j k.1+uw V 0 k.1
theorem GZ {R V:List UInt16}{j n:Nat}:Adb R V j n (0,R,0):=⟨aP _,O,aP _,fun _ _=>rfl,by simp[GQ]⟩
theorem I6 {R V:List UInt16}{j n i:Nat}{Q:List UInt16}{c:Nat}(h:Adb R V j n (i,Q,c))(hi:i<n)(hR:j+(n+1)<=R.length)(hV:n<=V.length){x:Nat}(hx:x=c+(ul R (j+i)+ul V i)) :
  Adb R V j n (i+1,Q.set (j+i) (UInt16.ofNat x),x/65536):=by
 obtain⟨h1,h2,h3,h4,h5⟩:=h;simp only at h1 h2 h3 h4 h5;have a1:=gH R (j+i);have a2:=gH V i;refine⟨by simp only;omega,by simp[h2],by simp only;omega,fun t ht=>?_,?_⟩
 .simp only at ht ⊢;rw[sV J];exact h4 t J
 .simp only;rw[gO aS,sW J,n9 J,gO (R:=R) J,gO (R:=V) J,bY,db,aM];have e:=jE x 65536;have e2:65536^i*(x%65536)+65536^i*65536*(x/65536)=65536^i*(c+(ul R (j+i)+ul V i)):=by rw[cY,<-cy,e,hx]
  simp only[cy]at e2;omega
structure Digd (R V:List UInt16) (j n:Nat) (R':List UInt16):Prop where
 l:R'.length=R.length
 o:∀t,t<j\/j+(n+1)<=t->ul R' t=ul R t
 v:uw R' j (n+1)=uw R j (n+1)%nv V
theorem xf {V:List UInt16}{n m:Nat}(h:V.length=n)(hm:n<=m):uw V 0 m=nv V:=by rw[uw,fO,cT J]
theorem MU {R V:List UInt16}{j n q c:Nat}{Q:List UInt16}(hVl:V.length=n)(hV0:0<nv V)(h:Sub R V j n q (n+1,Q,c,0))(hq1:uw R j (n+1)/nv V<=q):q=uw R j (n+1)/nv V/\Digd R V j n Q:=by
 have hc:=h.z O;simp only at hc;subst hc;have h6:=h.v;simp only at h6;rw[xf hVl J]at h6;have h8:uw Q j (n+1)+q*nv V=uw R j (n+1):=by
  have:((uw Q j (n+1):Nat):Int)+((q*nv V:Nat):Int)=(uw R j (n+1):Nat):=by rw[h6,jG];simp
  omega
 have h9:q<=uw R j (n+1)/nv V:=(tZ hV0).2 J;have hqe:q=uw R j (n+1)/nv V:=J;refine⟨hqe,h.l,h.o,?_⟩;have e:=mn (uw R j (n+1)) (nv V);rw[<-hqe,dg]at e;omega
theorem Js {R V:List UInt16}{j n q c c2:Nat}{Q Q2:List UInt16}(hVl:V.length=n)(hV0:0<nv V)(hR:j+(n+1)<=R.length)(h:Sub R V j n q (n+1,Q,c,-1))(hq1:uw R j (n+1)/nv V<=q)(hq2:q*nv V<uw R j (n+1)+nv V)(h2:Adb Q V j n (n,Q2,c2)) :
  1<=q/\q-1=uw R j (n+1)/nv V/\Digd R V j n (Q2.set (j+n) (UInt16.ofNat (ul Q2 (j+n)+c2))):=by
 have hc:=h.z O;simp only at hc;subst hc;have h6:=h.v;simp only at h6;rw[xf hVl J,<-mI]at h6;have hQl:=yW Q j (n+1);have h8:uw Q j (n+1)+q*nv V=uw R j (n+1)+65536^(n+1):=by
  have:((uw Q j (n+1):Nat):Int)+((q*nv V:Nat):Int)=(uw R j (n+1):Nat)+((65536^(n+1):Nat):Int):=by rw[h6,Int.natCast_mul];grind
  omega
 have hq:1<=q:=by
  rcases gc q with h0|h0
  .subst h0;rw[gM]at h8;omega
  .exact h0
 obtain⟨p,rfl⟩:∃p,q=p+1:=⟨q-1,J⟩;rw[cg,fR]at h8 hq2;have hpd:p=uw R j (n+1)/nv V:=by
  have a1:p<=uw R j (n+1)/nv V:=(tZ hV0).2 J;have a2:uw R j (n+1)/nv V<p+1:=(ua hV0).2 (by rw[cg,fR];omega);omega
 refine⟨hq,J,by simp[h2.l,h.l],fun t ht=>?_,?_⟩
 .rw[sV J,h2.o t (by simp only;omega),h.o t (by simp only;omega)]
 .have h2l:=h2.l;have hl:=h.l;have h5:=h2.v;have hc2:=h2.c;have ho:=h2.o (j+n) (.inr (aY));simp only at h2l hl h5 hc2 ho;rw[gO aS,sW J,n9 J,bY,ho];rw[xf hVl (aY)]at h5;have e1:=gO (R:=Q) (j:=j) (m:=n) J;have hmod:uw R j (n+1)%nv V=uw R j (n+1)-p*nv V:=by
   have e:=mn (uw R j (n+1)) (nv V);rw[<-hpd,dg]at e;omega
  rw[hmod];have hle:p*nv V<=uw R j (n+1):=by rw[hpd];exact ud _ _
  have hml:=ep (uw R j (n+1)) hV0;rw[hmod]at hml;have hVlt:nv V<65536^n:=by rw[<-hVl];exact dV V
  have hQ2:=yW Q2 j n;have hur:=gH Q (j+n);rw[db]at h8;generalize 65536^n=W,ul Q (j+n)=x at *
  have key:uw Q2 j n+W*(x+c2)=uw R j (n+1)-p*nv V+W*65536:=by rw[cy];omega
  have hx:65536<=x+c2:=by
   rcases bG (x+c2) 65536 with hlt|hge
   .exfalso;have:=dE W (show x+c2+1<=65536 by omega);rw[cy]at this;omega
   .exact hge
  have hx2:x+c2=65536:=J;rw[hx2]at key ⊢;rw[show 65536%65536=0 from O,rg];omega
theorem zr {L:dj}{fn:Func}{K:(Nat->Nat × Option Cont)->PV->Prop}{s:St}{t:Nat}{v:PV}{e:Exit}(owns:List (Nat × Nat × Cont))(he:e=.ret\/e=.normal)(h:fn.results.toList=[.tmp t])(h1:s.reg t=v)(ho:FitO s owns)
  (hk:∀s1:St,K (s1.over [] owns).own v):ak L fn (fun s' r=>K s'.own r) e s:=by
 have hk:=hk s;rw[Fit.over (l:=[]) ho]at hk;rcases he with rfl|rfl <;>
 .unfold ak;refine⟨[s.reg t],True/\True,by rw[h];rfl,⟨trivial,bh⟩,?_⟩;rw[h1];exact hk
theorem OF (x:Nat)(hx:x<18446744073709551616):bits .and .u64 (x:Int) 65535=((x-x/65536*65536:Nat):Int):=by
 have:=(bits_nat .u64 64 Y wraps_u64 x 65535 J Y).1;rw[show((65535:Nat):Int)=65535 by rfl]at this;rw[this,show(65535:Nat)=2^16-1 by decide,Nat.and_two_pow_sub_one_eq_mod];omega
theorem ta {n:Nat}(h:n<18446744073709551616):IntKind.u64.wrap (n:Int)=(n:Int):=wrap_u64 (Int.natCast_nonneg n) J
theorem qE {R:List UInt16}{i:Nat}(h:i<R.length):(R.map eU)[i]?=some [PV.int .u16 ((ul R i:Nat):Int)]:=by
 rw[bw,rK h];rfl
theorem vo {R:List UInt16}{i:Nat}(h:i<R.length):(R.map eU)[((i:Nat):Int).toNat]?=some [PV.int .u16 ((ul R i:Nat):Int)]:=by
 rw[be];exact qE h
theorem oP (R:List UInt16)(i:Nat):IntKind.u64.wrap ((ul R i:Nat):Int)=((ul R i:Nat):Int):=wrap_u64 J (by have:=gH R i;omega)
theorem uP (R:List UInt16)(i:Nat):IntKind.u32.wrap ((ul R i:Nat):Int)=((ul R i:Nat):Int):=wrap_u32 J (by have:=gH R i;omega)
theorem Oj (R:List UInt16)(i:Nat):IntKind.i64.wrap ((ul R i:Nat):Int)=((ul R i:Nat):Int):=wrap_i64 J (by have:=gH R i;omega)
def ON (g gq:Nat)(Q Qr:List UInt16):List (Nat × Nat × Cont):=[(44,g,⟨218,1,Q.map eU,0⟩),(57,gq,⟨218,1,Qr.map eU,0⟩)]
set_option maxRecDepth 40000 in
set_option maxHeartbeats 4000000 in
theorem Jt {K:St->Prop}{s:St}{d g gq:Nat}{x y:Operand}{tys:Array TypeId}{ty:TypeId}{pos:String}{af:Array Edge}{R V Qr:List UInt16}{j n:Nat}
  (hV:V.length=n+2) (hR:j+(n+3)<=R.length) (hRl:R.length<=200000000) (ht:32768<=ul V (n+1)) (hlt:uw R j (n+3)<65536*nv V)
  (hx:s.ev x=.als 44 g j (n+3)) (hy:s.ev y=.fsl (V.map eU)) (ho:FitO s [(44,g,⟨218,1,R.map eU,0⟩),(57,gq,⟨218,1,Qr.map eU,0⟩)])
  (hK:∀(s1:St) (R':List UInt16),Digd R V j (n+2) R'->K (({ reg:=s.reg,own:=(s1.over [] [(44,g,⟨218,1,R'.map eU,0⟩),(57,gq,⟨218,1,Qr.map eU,0⟩)]).own }:St).putR d (.int .u16 ((uw R j (n+3)/nv V:Nat):Int)))) :
  Sm Tryz.prog lay.get s ⟨some d,.call ⟨.value (.func 275),#[x,y],tys⟩,ty,pos,af,none⟩ K:=by
 have hE:=PP hR hV ht hlt;have hVml:(V.map eU).length=n+2:=by rw[aF,hV]
 have r0:=qE (R:=R) (i:=j+n) J;have r1:=qE (R:=R) (i:=j+(n+1)) J;have r2:=qE (R:=R) (i:=j+(n+2)) J;have v0:=vo (R:=V) (i:=n) J;have v1:=vo (R:=V) (i:=n+1) J;have w2:=oP R (j+(n+2));have w1:=oP R (j+(n+1));have w0:=oP R (j+n);have y1:=oP V (n+1);have y0:=oP V n
 have hfin:∀(s1:St) (R':List UInt16) (q:Nat),q=uw R j (n+3)/nv V->Digd R V j (n+2) R'->∀(e:Exit) (st:St),(e=.ret\/e=.normal)->st.reg 4=.int .u16 (q:Int)->FitO st [(44,g,⟨218,1,R'.map eU,0⟩),(57,gq,⟨218,1,Qr.map eU,0⟩)] ->
   ak lay.get Tryz.f275 (fun s' r=>K (({ reg:=s.reg,own:=s'.own }:St).put (some d) r)) e st:=by
  intro _ R' q hq hd e st he h1 h3;subst hq;exact zr (K:=fun o r=>K (({ reg:=s.reg,own:=o }:St).put (some d) r)) _ he O h1 h3 fun s2=>hK s2 R' hd
 clear hK;refine cz layOk O O Tryz.func275 O Y O O ?_;show PWP _ _ _ _ (bB s (([x,y]:List Operand).map s.ev++[]));rw[show(([x,y]:List Operand).map s.ev++([]:List PV))=[.als 44 g j (n+3),.fsl (V.map eU)] by simp[hx,hy]];rw[show bB s [.als 44 g j (n+3),.fsl (V.map eU)]=bB (s.over [] [(44,g,⟨218,1,R.map eU,0⟩),(57,gq,⟨218,1,Qr.map eU,0⟩)]) [.als 44 g j (n+3),.fsl (V.map eU)] by rw[Fit.over (l:=[]) ho]];generalize hfinK:ak lay.get Tryz.f275 (fun s' r=>K (({ reg:=s.reg,own:=s'.own }:St).put (some d) r))=FIN at *
 have c1:IntKind.i64.wrap (((n+2:Nat):Int)-1)=((n+1:Nat):Int):=by rw[wrap_i64 J J];omega
 have c2:IntKind.i64.wrap (((n+2:Nat):Int)-2)=((n:Nat):Int):=by rw[wrap_i64 J J];omega
 have a1:=gH R (j+(n+1));have a2:=gH R (j+(n+2));have hor1:=Qg (x:=ul R (j+(n+2))) (y:=ul R (j+(n+1))) J a1;have hst:=hE.start;have hv1l:=hE.v1l;have hv1h:=hE.hv;have hv2l:=hE.v2l;have hu2l:=hE.u2l;have htop:=hE.top;generalize hTop:ul R (j+(n+2))*65536+ul R (j+(n+1))=top at *
 generalize hV1:ul V (n+1)=vt at *
 refine H ?_;rw[hVml];refine mN 14 [18,19,20,21,22,23,24,25,26,27,28,29,30,6] aH ?_;refine H ?_;refine np O O O O O O O O O ?_;rw[be];refine ci O O (du O O O r2 O) ?_;refine H ?_;rw[w2];refine H ?_;rw[Lr J];refine H ?_;rw[c1];refine np O O O O O O O O O ?_;rw[be];refine ci O O (du O O O r1 O) ?_;refine H ?_;rw[w1];refine H ?_;rw[hor1];refine cX 18 [31,32,33,34,35,36,37,38,39,40,41,42,43,44,45,46,7,8] ?_;refine H ?_;rw[c1];refine ci O O (nP O O O O O J v1 O) ?_;refine H ?_;rw[y1];refine ci O O (QOp.v O (show ¬((vt:Nat):Int)=0 by omega)) ?_;rw[Dh];have hdq:=jr top vt;rw[ta (mz hdq J)];refine H ?_;rw[c1];refine ci O O (nP O O O O O J v1 O) ?_;refine H ?_;rw[y1];refine ci O O (QOp.v O (show ¬((vt:Nat):Int)=0 by omega)) ?_;rw[n7];refine H ?_;have e84:IntKind.i64.wrap (((n+2:Nat):Int)+1)=((n+3:Nat):Int):=by rw[wrap_i64 J J];omega
 refine wy (fun q:Nat=>q<=65535/\uw R j (n+3)/nv V<=q/\q*nv V<uw R j (n+3)+nv V) (fun q=>[(0,.als 44 g j (n+3)),(1,.fsl (V.map eU)),(5,I ((n+2:Nat):Int)),(7,.int .u64 (q:Nat))]) (fun _=>ON g gq R Qr) ?_ ?_
 .refine ai (Gs (uw R j (n+3)) (nv V) top vt) (fun q=>[(0,.als 44 g j (n+3)),(1,.fsl (V.map eU)),(5,I ((n+2:Nat):Int)),(7,.int .u64 (q.1:Nat)),(8,.int .u64 (q.2:Nat))])
   (fun _=>ON g gq R Qr) (fun q=>q.1) _ hst ah ?_
  rintro⟨q,rest⟩ s1 hG;have hrb:=hG.r;have hqt:=hG.l;simp only at hrb hqt;dsimp only;have hqb:q<=4294967295:=J;refine cX 26 [47,48,49,50,51,52,53,54,55,56,57,58,59,60,61,62,63,64,65,66,67,68,69,70,71,72] ?_;iterate 2 refine iQ O ?_
  generalize hB:decide ((rest:Int)<65536)=B;refine fi ?_ ?_<;>intro h
  .rw[h]at hB;have hr1:rest<65536:=cw hB;clear h hB;have hsh:=Lr (x:=rest) J;have hor2:=Qg (x:=rest) (y:=ul R (j+n)) J hu2l;iterate 2 refine iQ O ?_
   generalize hB:decide ((65535:Int)<(q:Int))=B2;refine fi ?_ ?_<;>intro h
   .rw[h]at hB;have hq1:65535<q:=cw hB;clear h hB;obtain⟨hq0,hst2⟩:=hG.less hE hr1 (.inl hq1);refine H ?_;rw[c1];refine ci O O (nP O O O O O J v1 O) ?_;refine H ?_;rw[y1];refine H ?_;refine⟨(q-1,rest+vt),hst2,by simp only;omega,O,O,O,?_,?_,ah⟩
    .show PV.int .u64 (IntKind.u64.wrap ((q:Int)-1))=PV.int .u64 ((q-1:Nat):Int);rw[wrap_u64 J J];congr 1;omega
    .show PV.int .u64 (IntKind.u64.wrap ((rest:Int)+(vt:Int)))=PV.int .u64 ((rest+vt:Nat):Int);rw[wrap_u64 J J];congr 1
   .rw[h]at hB;have hq1:q<=65535:=co hB;clear h hB;have hmb:=eO hq1 (show ul V n<=65535 by omega);have hmi:(q:Int)*((ul V n:Nat):Int)=((q*ul V n:Nat):Int):=by rw[jG]
    have hmw:IntKind.u64.wrap ((q*ul V n:Nat):Int)=((q*ul V n:Nat):Int):=ta J;refine H ?_;rw[c2];refine ci O O (nP O O O O O J v0 O) ?_;refine H ?_;rw[y0,hmi,hmw];refine H ?_;rw[hsh];refine H ?_;rw[c2];refine np O O O O O O O O O ?_;rw[be];refine ci O O (du O O O r0 O) ?_;refine H ?_;rw[w0];refine H ?_;rw[hor2];generalize hB:decide (((rest*65536+ul R (j+n):Nat):Int)<((q*ul V n:Nat):Int))=B3;refine D ?_ ?_<;>intro h
    .rw[h]at hB;have hc:rest*65536+ul R (j+n)<q*ul V n:=cw hB;clear h hB;obtain⟨hq0,hst2⟩:=hG.less hE hr1 (.inr hc);refine H ?_;rw[c1];refine ci O O (nP O O O O O J v1 O) ?_;refine H ?_;rw[y1];refine H ?_;refine⟨(q-1,rest+vt),hst2,by simp only;omega,O,O,O,?_,?_,ah⟩
     .show PV.int .u64 (IntKind.u64.wrap ((q:Int)-1))=PV.int .u64 ((q-1:Nat):Int);rw[wrap_u64 J J];congr 1;omega
     .show PV.int .u64 (IntKind.u64.wrap ((rest:Int)+(vt:Int)))=PV.int .u64 ((rest+vt:Nat):Int);rw[wrap_u64 J J];congr 1
    .rw[h]at hB;have hc:q*ul V n<=rest*65536+ul R (j+n):=co hB;clear h hB;refine H ?_;exact⟨q,hG.near hE (.inr ⟨hq1,hc⟩),ah⟩
  .rw[h]at hB;have hr1:65536<=rest:=co hB;clear h hB;refine H ?_;exact⟨q,hG.near hE (.inl hr1),ah⟩
 rintro q ⟨hq1,hq2,hq3⟩ s2;clear hst r0 r1 r2 w0 w1 w2 hor1;refine H ?_;rw[e84];refine H ?_;refine wy (fun k:List UInt16 × Nat × Int=>Sub R V j (n+2) q (n+3,k)) (fun k=>[(0,.als 44 g j (n+3)),(1,.fsl (V.map eU)),(5,I ((n+2:Nat):Int)),(7,.int .u64 (q:Nat)),(10,.int .i64 k.2.2)]) (fun k=>ON g gq k.1 Qr) ?_ ?_
 .refine ai (Sub R V j (n+2) q) (fun k=>[(0,.als 44 g j (n+3)),(1,.fsl (V.map eU)),(5,I ((n+2:Nat):Int)),(7,.int .u64 (q:Nat)),(9,.int .u64 (k.2.2.1:Nat)),(10,.int .i64 k.2.2.2),(84,I ((n+3:Nat):Int)),(85,I k.1)])
   (fun k=>ON g gq k.2.1 Qr) (fun k=>n+3-k.1) (0,R,0,0) ID ah ?_
  rintro⟨i,Q,c,bo⟩ s3 hS;have hil:=hS.i;have hQl:=hS.l;have hcb:=hS.c;have hbo:=hS.b;have ho2:=hS.o;simp only at hil hQl hcb hbo ho2;dsimp only;refine D ?_ ?_<;>intro h
  .have hi:i<n+3:=cw h;clear h;obtain⟨x,hx⟩:∃x,x=c+(if i<n+2 then q*ul V i else 0):=⟨_,O⟩;obtain⟨d',hd⟩:∃d':Int,d'=(ul R (j+i):Int)-(x-x/65536*65536:Nat)+bo:=⟨_,O⟩;have hxm:x%65536=x-x/65536*65536:=J;obtain⟨hst,hxb,hd1,hd2⟩:=LU hS J hq1 J J hx (d:=d') (by rw[hd,hxm]);have hrow:=qE (R:=Q) (i:=j+i) J;rw[ho2 (j+i) (.inr (aY))]at hrow;refine H ?_;refine uD [(0,.als 44 g j (n+3)),(1,.fsl (V.map eU)),(5,I ((n+2:Nat):Int)),(7,.int .u64 (q:Nat)),(9,.int .u64 (c:Nat)),(10,.int .i64 bo),(11,I i),(12,.int .u64 (x:Nat)),(84,I ((n+3:Nat):Int)),(85,I i)] (ON g gq Q Qr) ?_ (fun s4=>?_)
   .refine aV O ?_ ?_<;>intro h
    .have hi2:i<n+2:=cw h;clear h;rw[if_pos hi2]at hx;have hvi:=vo (R:=V) (i:=i) J;have hmb:=eO hq1 (show ul V i<=65535 by have:=gH V i;omega);have hmi:(q:Int)*((ul V i:Nat):Int)=((q*ul V i:Nat):Int):=by rw[jG]
     have hmw:IntKind.u64.wrap ((q*ul V i:Nat):Int)=((q*ul V i:Nat):Int):=ta J;have hxw:IntKind.u64.wrap ((c:Int)+((q*ul V i:Nat):Int))=(x:Int):=by rw[wrap_u64 J J];omega
     refine H ?_;refine ci O O (nP O O O O O J hvi O) ?_;refine H ?_;rw[oP V i,hmi,hmw];refine H ?_;rw[hxw];exact ah
    .have hi2:¬i<n+2:=co h;clear h;rw[if_neg hi2,jH]at hx;refine H ?_;rw[show((c:Nat):Int)=(x:Int) by omega];exact ah
   have e16:(x:Int)/2^(16:Int).toNat=((x/65536:Nat):Int):=by
    rw[show((2:Int)^(16:Int).toNat)=65536 by decide];omega
   have hand:=OF x J;have hmw:IntKind.i64.wrap ((x-x/65536*65536:Nat):Int)=((x-x/65536*65536:Nat):Int):=wrap_i64 J J;have hrl:=gH R (j+i);have hdw:IntKind.i64.wrap (IntKind.i64.wrap (((ul R (j+i):Nat):Int)-((x-x/65536*65536:Nat):Int))+bo)=d':=by
    rw[wrap_i64 (n:=((ul R (j+i):Nat):Int)-((x-x/65536*65536:Nat):Int)) J J,wrap_i64 J J,hd]
   have hd16:IntKind.u16.wrap d'=((RJ d').toNat:Int):=by rw[Gm,IntKind.wrap_u16]
   refine H ?_;rw[e16];refine H ?_;refine np O O O O O O O O O ?_;rw[be];refine ci O O (du O O O hrow O) ?_;refine H ?_;rw[Oj R (j+i)];refine H ?_;rw[hand];refine H ?_;rw[hmw,hdw,hd16];refine np O O O O O O O O O ?_;rw[be];refine eF (cP (kd':=0) O O O hrow O O ah O O O O ?_);refine H ?_;refine⟨(i+1,_,_,_),hst,by simp only;omega,O,O,O,O,O,?_,O,c9 J J,?_,O,bh⟩
   .show PV.int .i64 (d'/2^(16:Int).toNat)=PV.int .i64 (d'/65536);rw[show((2:Int)^(16:Int).toNat)=65536 by decide]
   .exact ib g 218 1 0 (j+i) Q (RJ d')
  .have hi:i=n+3:=co h;subst hi;clear h;refine H ?_;exact⟨(Q,c,bo),hS,ah⟩
 rintro⟨Q,c,bo⟩ hS s3;have hQl:=hS.l;have hbo:=hS.b;simp only at hQl hbo;dsimp only;rcases hbo with rfl|rfl
 .obtain⟨hqe,hdg⟩:=MU hV (by have:=hE.V0;exact this) hS hq2;refine H ?_;rw[show IntKind.u16.wrap ((q:Nat):Int)=((q:Nat):Int) by rw[IntKind.wrap_u16];omega];refine H ?_;exact hfin s3 Q q hqe hdg .ret _ (.inl O) O ⟨O,O,bh⟩
 .have hqw:IntKind.u64.wrap ((q:Int)-1)=IntKind.u64.wrap ((q:Int)-1):=O;generalize hqv:IntKind.u64.wrap ((q:Int)-1)=qv at hqw;refine H ?_;rw[hqv];refine wy (fun k:List UInt16 × Nat=>Adb Q V j (n+2) (n+2,k)) (fun k=>[(0,.als 44 g j (n+3)),(5,I ((n+2:Nat):Int)),(7,.int .u64 qv),(14,.int .u32 (k.2:Nat))]) (fun k=>ON g gq k.1 Qr) ?_ ?_
  .refine ai (Adb Q V j (n+2)) (fun k=>[(0,.als 44 g j (n+3)),(1,.fsl (V.map eU)),(5,I ((n+2:Nat):Int)),(7,.int .u64 qv),(14,.int .u32 (k.2.2:Nat)),(126,I ((n+2:Nat):Int)),(127,I k.1)])
    (fun k=>ON g gq k.2.1 Qr) (fun k=>n+2-k.1) (0,Q,0) GZ ah ?_
   rintro⟨i,Q2,c2⟩ s4 hA;have hil:=hA.i;have hQ2l:=hA.l;have hcb:=hA.c;have ho2:=hA.o;simp only at hil hQ2l hcb ho2;dsimp only;refine D ?_ ?_<;>intro h
   .have hi:i<n+2:=cw h;clear h;have hrow:=qE (R:=Q2) (i:=j+i) J;rw[ho2 (j+i) (.inr (aY))]at hrow;have hvi:=vo (R:=V) (i:=i) J;have hst:=I6 hA hi J J O;have b1:=gH Q (j+i);have b2:=gH V i;have ew:IntKind.u32.wrap ((c2:Int)+IntKind.u32.wrap (((ul Q (j+i):Nat):Int)+((ul V i:Nat):Int)))=((c2+(ul Q (j+i)+ul V i):Nat):Int):=by
     rw[wrap_u32 (n:=((ul Q (j+i):Nat):Int)+((ul V i:Nat):Int)) J J,wrap_u32 J J];omega
    refine cX 13 [130,131,132,133,134,135,136,137,138,139,140,141,142] ?_;refine H ?_;refine np O O O O O O O O O ?_;rw[be];refine ci O O (du O O O hrow O) ?_;refine H ?_;rw[uP Q (j+i)];refine H ?_;refine ci O O (nP O O O O O J hvi O) ?_;refine H ?_;rw[uP V i,ew];generalize c2+(ul Q (j+i)+ul V i)=sm at *
    refine H ?_;rw[wrap_u16];refine np O O O O O O O O O ?_;rw[be];refine eF (cP (kd':=0) O O O hrow O O ah O O O O ?_);refine H ?_;refine⟨(i+1,_,_),hst,by simp only;omega,O,O,O,O,?_,O,c9 J J,?_,O,bh⟩
    .show PV.int .u32 ((sm:Int)/2^(16:Int).toNat)=PV.int .u32 ((sm/65536:Nat):Int);rw[show((2:Int)^(16:Int).toNat)=65536 by decide];congr 1
    .exact ib g 218 1 0 (j+i) Q2 (UInt16.ofNat sm)
   .have hi:i=n+2:=co h;subst hi;clear h;refine H ?_;exact⟨(Q2,c2),hA,ah⟩
  rintro⟨Q2,c2⟩ hA s4;have hQ2l:=hA.l;have hcb:=hA.c;simp only at hQ2l hcb;dsimp only;obtain⟨hq0,hqe,hdg⟩:=Js hV (by have:=hE.V0;exact this) J hS hq2 hq3 hA;have hrow:=qE (R:=Q2) (i:=j+(n+2)) J;have b1:=gH Q2 (j+(n+2));have hc16:IntKind.u16.wrap ((c2:Nat):Int)=((c2:Nat):Int):=by rw[IntKind.wrap_u16];omega
  have hs16:IntKind.u16.wrap (((ul Q2 (j+(n+2)):Nat):Int)+((c2:Nat):Int))=((UInt16.ofNat (ul Q2 (j+(n+2))+c2)).toNat:Int):=by
   rw[show(((ul Q2 (j+(n+2)):Nat):Int)+((c2:Nat):Int))=((ul Q2 (j+(n+2))+c2:Nat):Int) by omega,wrap_u16]
  have hqf:IntKind.u16.wrap qv=((q-1:Nat):Int):=by
   rw[<-hqv,wrap_u64 J J,IntKind.wrap_u16];omega
  refine H ?_;refine np O O O O O O O O O ?_;rw[be];refine ci O O (du O O O hrow O) ?_;refine H ?_;rw[hc16];refine H ?_;rw[hs16];refine np O O O O O O O O O ?_;rw[be];refine eF (cP (kd':=0) O O O hrow O O ah O O O O ?_);refine H ?_;rw[hqf];refine H ?_;exact hfin s4 _ (q-1) hqe hdg .ret _ (.inl O) O ⟨ib g 218 1 0 (j+(n+2)) Q2 (UInt16.ofNat (ul Q2 (j+(n+2))+c2)),O,bh⟩
class HQ (q:Rat) (n:outParam Nat):Prop where
 ok:hq q n
class Vq (x:RR) (p:outParam Rat) (n:outParam Nat):Prop where
 val:x.val=p
 sz:x.n.l.length<=n/\x.d.l.length<=n
class Zb (z:Int):Prop where
 ok:z.natAbs<65536^4
theorem HQ.pos {q:Rat}{n:Nat}(h:HQ q n):1<=n:=JR h.ok
theorem HQ.mono {q:Rat}{n m:Nat}(h:HQ q n)(hm:n<=m):HQ q m:=⟨cx h.ok hm⟩
instance HQ.add {p q:Rat} {n m:Nat} [h1:HQ p n] [h2:HQ q m]:HQ (p+q) (n+m+1):=⟨zp h1.ok h2.ok⟩
instance HQ.sub {p q:Rat} {n m:Nat} [h1:HQ p n] [h2:HQ q m]:HQ (p-q) (n+m+1):=⟨by rw[mA];exact zp h1.ok (vN h2.ok)⟩
instance HQ.mul {p q:Rat} {n m:Nat} [h1:HQ p n] [h2:HQ q m]:HQ (p*q) (n+m):=⟨JQ h1.ok h2.ok⟩
instance HQ.div {p q:Rat} {n m:Nat} [h1:HQ p n] [h2:HQ q m]:HQ (p/q) (n+m):=⟨JP h1.ok h2.ok⟩
instance HQ.neg {q:Rat} {n:Nat} [h:HQ q n]:HQ (-q) n:=⟨vN h.ok⟩
instance HQ.int {z:Int} [h:Zb z]:HQ (z:Rat) 4:=⟨ma h.ok Y⟩
instance HQ.zero:HQ (0:Rat) 4:=⟨ma (z:=0) Y Y⟩
instance HQ.one:HQ (1:Rat) 4:=⟨ma (z:=1) Y Y⟩
instance HQ.two:HQ (2:Rat) 4:=⟨ma (z:=2) Y Y⟩
instance Vq.ofQ {q:Rat} {n:Nat} [h:HQ q n]:Vq (ofQ q) q n:=⟨Go.Pv.ofQ_val q,(o_ h.ok).ok⟩
instance Vq.zero:Vq RR.zero 0 0:=⟨RR.zero_val,aY,aY⟩
theorem Vq.hq {x:RR}{p:Rat}{n:Nat}(h:Vq x p n):HQ p (n+1):=⟨by rw[<-h.val];exact SZ.hq ⟨h.sz⟩⟩
theorem Vq.raw {x:RR}{n:Nat}(h1:x.n.l.length<=n)(h2:x.d.l.length<=n):Vq x x.val n:=⟨O,h1,h2⟩
theorem aI {z:Int}(h0 : -9223372036854775808<=z)(h1:z<=9223372036854775807):Zb z:=⟨by
 have:(65536:Nat)^4=18446744073709551616:=Y
 omega⟩
def aq (f:Nat->Rat):Nat->Rat
 |0=>0
 |n+1=>aq f n+f n
theorem eX {f g:Nat->Rat}:∀ {n:Nat},(∀k,k<n->f k=g k)->aq f n=aq g n
 |0,_=>rfl
 |n+1,h=>by rw[aq,aq,eX fun k hk=>h k J,h n J]
theorem cd {f:Nat->Rat}{m:Nat}:∀(n:Nat),(∀k,k<n->HQ (f k) m)->HQ (aq f n) (n*(m+1)+4)
 |0,_=>by rw[gM,aM];exact HQ.zero
 |n+1,h=>by
  have h1:=cd n fun k hk=>h k J;have h2:=h n J;exact(HQ.add (h1:=h1) (h2:=h2)).mono (by rw[cg];omega)
theorem lr {f:Nat->Rat}:∀ {n:Nat},(∀k,k<n->0<=f k)->0<=aq f n
 |0,_=>by rw[aq];exact eP
 |n+1,h=>by
  have h1:=lr (f:=f) (n:=n) fun k hk=>h k J;have h2:=h n J;rw[aq];grind
theorem DU {L:dj}{s:St}{fn:Func}{r d:PV}{l:List PV}{A Cd:Prop}{fl:Fl}(h:Lf L s fn.results.toList=some (l,A))(ha:A)(hres:i_ s 5 (mT l)=some (d,Cd,fl))(hc:Cd)(hd:d=r):aj L fn .shared r .ret s:=by
 unfold aj;exact⟨l,A,d,Cd,fl,h,ha,hres,hc,trivial,hd⟩
theorem MZ {L:dj}{s:St}{fn:Func}{r d:PV}{l:List PV}{A Cd:Prop}{fl:Fl}(h:Lf L s fn.results.toList=some (l,A))(hres:i_ s 5 (mT l)=some (d,Cd,fl))(hd:d=r)(ha:A:=by repeat' constructor)(hc:Cd:=by repeat' constructor):aj L fn .shared r .ret s:=DU h ha hres hc hd
theorem cA {G0:Prop}{L:dj}{s:St}{fn:Func}{r d:PV}{l:List PV}{A Cd:Prop}{fl:Fl}(hr:aj L fn .shared r .ret s->G0:=by(intro k;(repeat refine iQ O ?_);exact k))(h:Lf L s fn.results.toList=some (l,A):=by exact O)(hres:i_ s 5 (mT l)=some (d,Cd,fl):=by exact O)(hd:d=r:=by exact O)(ha:A:=by repeat' constructor)(hc:Cd:=by repeat' constructor):G0:=hr (MZ h hres hd ha hc)
def eI (a:RI):List PV:=[.bool a.neg,.sl (a.l.map eU)]
def eR (x:RR):List PV:=[.bool x.n.neg,.sl (x.n.l.map eU),.bool x.d.neg,.sl (x.d.l.map eU)]
theorem Ky:di 0=⟨false,[]⟩:=by rw[di];simp[cW]
def iP (neg:Bool)(n:Nat):Int:=if neg then -(n:Int) else n
theorem uC (neg:Bool)(n:Nat):di (iP neg n)=if n=0 then⟨false,[]⟩ else⟨neg,aJ n⟩:=by
 split
 .rename_i h;subst h;cases neg<;>exact Ky
 .rename_i h;cases neg
  .rw[di,iP];simp only[eu,if_false,gV];rw[decide_eq_false J]
  .rw[di,iP];simp only[if_true,uo,gV];rw[decide_eq_true J]
theorem RI.val_sgz (a:RI):a.val=iP a.neg (nv a.l):=rfl
theorem vf (l:List UInt16)(hl:l.length<=300000000):Ret Tryz.prog .fresh 270 [.sl (l.map eU)] (.sl (l.map eU)):=by
 refine aD Proofs.Tryz.func270 ?_
 (refine cV 1 ?_;refine aR 1 ?_)
 refine iQ O ?_;refine bJ ?_;refine br O (sP layOk O O O (fun h0=>?_) ?_)
 .rw[h0];refine aT ?_
  (repeat ((fail_if_success (with_reducible refine fh ?_));refine wV O ?_))
  refine ao (Ghost.nilfs (t:=2) O) ?_;refine H ?_;exact x8 O O O trivial O
 .refine aT ?_;refine H ?_;refine aC (bb 0 O O O O O O O O O O O ah O ?_);refine H ?_;refine aC (bO 1 O O O O O O O O O O O ah (by intro row hr;obtain⟨p,_,rfl⟩:=aW.1 hr;rfl) O O aS aS ?_)
  (repeat ((fail_if_success (with_reducible refine fh ?_));refine wV O ?_))
  refine ao (Ghost.takeF (k:=5) (t:=2) l O O O O (fun _=>rfl)) ?_;refine H ?_;exact x8 O O O ah O
theorem iF (neg:Bool)(l:List UInt16)(hl:l.length<=300000000):aU 206 [.bool neg,.sl (l.map eU)] (.agg (eI (di (iP neg (nv l))))):=by
 have ht:=eY l J;have hml:((bN l).map eU).length=(bN l).length:=ap;have htl:=dy l;rw[uC];by_cases h0:nv l=0
 .rw[if_pos h0];have hz:bN l=[]:=by rw[bN,h0,cW]
  rw[hz]at ht;refine aD Proofs.Tryz.func206 ?_;refine G ht ?_
  (repeat ((fail_if_success (with_reducible refine fh ?_));refine wV O ?_))
  refine ao (Ghost.nilcell (k:=1000) (k0:=4) (i:=0) (j:=1) 218 1 0 O O O O (row:=[.bool false,.nil]) O O O) ?_;exact cA
 .rw[if_neg h0];have hz:(bN l).length≠0:=by
   intro h;have h1:=fF l;rw[ov.1 h]at h1;exact h0 h1.symm
  have hc:=vf (bN l) J;rw[bN]at *
  generalize aJ (nv l)=t at *
  refine aD Proofs.Tryz.func206 ?_;refine G ht ?_;refine D ?_ ?_<;>intro h
  .have:=bk h;omega
  .clear h;refine RS hc ?_;exact cA
theorem Dq (l:List UInt16)(hl:l.length<=300000000):aU 271 [.sl (l.map eU)] (if l.length<=4 then .tup [.int .u64 (nv l:Nat),.bool true] else .tup [.int .u64 0,.bool false]):=by
 have hml:(l.map eU).length=l.length:=ap;by_cases h4:l.length<=4
 .rw[if_pos h4];have hw0:IntKind.i64.wrap (((((l.map eU).length:Nat):Int))-1)=(l.length:Int)-1:=by rw[hml,wrap_i64 J J]
  refine aD Proofs.Tryz.func271 ?_;refine D ?_ ?_<;>intro h
  .have:=bk h;omega
  clear h;refine H ?_;rw[hw0];refine ai (fun k:Nat=>k<=l.length) (fun k=>[(0,.sl (l.map eU)),(4,.int .u64 (nv (l.drop k):Nat)),(5,I ((k:Int)-1))]) (fun _=>[]) (fun k=>k) l.length (aY) ⟨O,?_,O,bh⟩ ?_
  .rw[gX];rfl
  intro k s hk;refine D ?_ ?_<;>intro h
  .have hk0:0<k:=cw h;clear h;obtain⟨j,rfl⟩:∃j,k=j+1:=⟨k-1,J⟩;have e1:(((j+1:Nat):Int)-1)=(j:Nat):=J;rw[e1];obtain⟨x,hx⟩:=ay (show j<l.length by omega);have hxl:=cq x;have hd:=i9 hx;have hlt:=dV (l.drop (j+1));have hp:65536^(l.drop (j+1)).length<=65536^3:=gu Y (by rw[gW];omega);have hp3:65536^3=281474976710656:=Y;generalize nv (l.drop (j+1))=a at *
   have hor:=Qg (x:=a) (y:=x.toNat) J hxl;have ex:IntKind.u64.wrap (x.toNat:Int)=(x.toNat:Int):=wrap_u64 J J;refine H ?_;rw[Lr J];refine tp O O O O O O O hx O ?_;refine H ?_;rw[ex,hor];refine H ?_;refine⟨j,J,J,O,?_,?_,bh⟩
   .show PV.int .u64 ((a*65536+x.toNat:Nat):Int)=_;rw[hd,show x.toNat+65536*a=a*65536+x.toNat by omega]
   .exact congrArg I (wrap_i64 J J)
  .have hk0:k=0:=co h;subst hk0;clear h;rw[fO];generalize nv l=v;refine H ?_;exact DT O O O O O trivial trivial O
 .rw[if_neg h4];refine aD Proofs.Tryz.func271 ?_;refine D ?_ ?_<;>intro h
  .refine H ?_;exact DT O O O O O trivial trivial O
  .have:=bS h;omega
theorem tk (n:Nat)(hn:n<18446744073709551616):aU 207 [.int .u64 (n:Nat)] (.sl ((aJ n).map eU)):=by
 refine aD Proofs.Tryz.func207 ?_
 ((repeat (first|refine bJ ?_ | refine eg ?_ | refine dO ?_ | refine dH ?_));refine bZ ?_)
 refine lY O trivial ?_
 ((repeat (first|refine bJ ?_ | refine eg ?_ | refine dO ?_ | refine dH ?_));refine bZ ?_)
 (first|refine aC (kF 218 1 0 O O ?_)|refine aC (kE 218 1 0 O O ?_))
 refine H ?_;refine ai (fun q:Nat × List UInt16=>aJ n=q.2++aJ q.1/\q.1*65536^q.2.length<=n) (fun q=>[(0,.int .u64 (q.1:Nat)),(3,.als 3 (1+q.2.length) 0 (q.2.map eU).length)]) (fun q=>[(3,1+q.2.length,⟨218,1,q.2.map eU,0⟩)]) (fun q=>q.1) (n,[]) ⟨O,ap⟩ ah ?_;rintro⟨m,L⟩ s ⟨hL,hb⟩;simp only at hL hb;dsimp only;refine D ?_ ?_<;>intro h
 .have hm:0<m:=cw h;clear h;have hLl:L.length<4:=by
   rcases bG L.length 4 with h|h
   .exact h
   .exfalso;have h1:65536^4<=65536^L.length:=gu Y h;have h2:=eO (show 1<=m by omega) h1;have:1*65536^4=18446744073709551616:=Y;omega
  have hL2:aJ n=(L++[UInt16.ofNat m])++aJ (m/65536):=by rw[hL,gN J];simp
  have hb2:m/65536*65536^(L++[UInt16.ofNat m]).length<=n:=by
   rw[bQ,zP,db,dg (65536^_),<-cY];exact bK (cE _ (ud _ _)) hb
  refine H ?_;rw[wrap_u16];refine ci O O (fE O O O O O O O O O O ah O) ?_;refine aC (bO 0 O O O O O O O O O O O ah fW O O aS aS ?_);refine H ?_;refine⟨(m/65536,L++[UInt16.ofNat m]),⟨hL2,hb2⟩,by simp only;omega,?_,?_,?_,bh⟩
  .show PV.int .u64 ((m:Int)/2^(16:Int).toNat)=PV.int .u64 ((m/65536:Nat):Int);rw[show((2:Int)^(16:Int).toNat)=65536 by decide];congr 1
  .exact tO eU 3 1 L (UInt16.ofNat m)
  .exact qB eU 1 218 1 0 L (UInt16.ofNat m)
 .have hm:m=0:=co h;subst hm;clear h;rw[cW,cu]at hL;rw[hL];refine H ?_;exact lC O O O ⟨O,O,O⟩ O
theorem GP {R:List UInt16}{j m:Nat}(h:nv ((R.drop j).drop m)=0):uw R j m=nv (R.drop j):=by
 rcases Nat.le_total m (R.drop j).length with hm|hm
 .rw[uw,fD (R.drop j) m hm,h];omega
 .rw[uw,cT hm]
theorem Av {l:List UInt16}{m:Nat}(h:nv l<65536^m):nv (l.drop m)=0:=by
 rcases Nat.le_total m l.length with hm|hm
 .rw[fD l m hm]at h;rcases gc (nv (l.drop m)) with h0|h0
  .exact h0
  .have:=dE (65536^m) h0;omega
 .rw[pT hm];rfl
theorem L5 {R R':List UInt16}{j:Nat}(hl:R'.length=R.length)(h:∀t,t<j->ul R' t=ul R t):R'.take j=R.take j:=by
 apply i6;intro k;rw[cJ,cJ];split
 .rcases bG k R.length with hk|hk
  .rw[rK J,rK hk];congr 1;exact w_ (h k ‹_›)
  .rw[fe hk,fe J]
 .rfl
theorem Jw {R R':List UInt16}{j:Nat}(hl:R'.length=R.length)(h:∀t,j<=t->ul R' t=ul R t):R'.drop j=R.drop j:=by
 apply i6;intro k;rw[dF,dF];rcases bG (j+k) R.length with hk|hk
 .rw[rK J,rK hk];congr 1;exact w_ (h (j+k) J)
 .rw[fe hk,fe J]
structure DivI (V:List UInt16) (N n A0:Nat) (z:Nat × List UInt16 × List UInt16):Prop where
 k:z.1<=N-n
 r:z.2.1.length=N
 q:z.2.2.length=N-n
 v:nv z.2.1+nv V*(65536^z.1*nv (z.2.2.drop z.1))=A0
 lt:nv (z.2.1.drop z.1)<nv V
theorem Ft {V:List UInt16}{N n A0 j:Nat}{R Q:List UInt16}(hV:V.length=n)(hn:n<N)(h:DivI V N n A0 (j+1,R,Q)):uw R j (n+1)=nv (R.drop j)/\uw R j (n+1)<65536*nv V/\j+(n+1)<=R.length:=by
 have h1:=h.k;have h2:=h.r;have h5:=h.lt;simp only at h1 h2 h5;have hlt:nv (R.drop (j+1))<65536^n:=Nat.lt_trans h5 (by rw[<-hV];exact dV V);have hz:=Av hlt;have e1:uw R j (n+1)=nv (R.drop j):=GP (by rw[oB,show j+(n+1)=(j+1)+n by omega,<-oB];exact hz);have e2:=i9 (rK (R:=R) (i:=j) J);have:=cq (R.getD j 0);exact⟨e1,by rw[e1,e2];omega,J⟩
theorem Ju {V:List UInt16}{N n A0 j:Nat}{R Q R':List UInt16}(hV:V.length=n)(hn:n<N)(hV0:0<nv V)(h:DivI V N n A0 (j+1,R,Q))(hd:Digd R V j n R') :
  uw R j (n+1)/nv V<65536/\DivI V N n A0 (j,R',Q.set j (UInt16.ofNat (uw R j (n+1)/nv V))):=by
 obtain⟨w1,w2,w3⟩:=Ft hV hn h;have h1:=h.k;have h2:=h.r;have h3:=h.q;have h4:=h.v;have h5:=h.lt;simp only at h1 h2 h3 h4 h5;have hql:uw R j (n+1)/nv V<65536:=mc (by rw[dg];exact w2);have hRl:=hd.l;have htk:R'.take j=R.take j:=L5 hRl fun t ht=>hd.o t (.inl ht);have hlt:nv (R.drop (j+1))<65536^n:=Nat.lt_trans h5 (by rw[<-hV];exact dV V);have hz:=Av hlt;have hdr:R'.drop (j+(n+1))=R.drop (j+(n+1)):=Jw hRl fun t ht=>hd.o t (.inr ht);have e1:uw R' j (n+1)=nv (R'.drop j):=GP (by rw[oB,hdr,show j+(n+1)=(j+1)+n by omega,<-oB];exact hz);have e2:nv (R'.drop j)=nv (R.drop j)%nv V:=by rw[<-e1,hd.v,w1]
 refine⟨hql,by simp only;omega,by simp only;omega,by simp[h3],?_,?_⟩
 .simp only;have s1:=fD R' j J;have s2:=fD R j J;rw[htk,e2]at s1;rw[w1]at hql ⊢;rw[drop_set_self' J,nv,bY,eE hql,s1,<-h4,s2];have e3:=mn (nv (R.drop j)) (nv V);have e4:nv V*(65536^j*(nv (R.drop j)/nv V+65536*nv (Q.drop (j+1))))=65536^j*(nv V*(nv (R.drop j)/nv V))+nv V*(65536^(j+1)*nv (Q.drop (j+1))):=by
   rw[cy,cy,db];congr 1
   .simp only[mj]
   .simp only[cY]
  rw[e4];have e5:65536^j*(nv (R.drop j)%nv V)+65536^j*(nv V*(nv (R.drop j)/nv V))=65536^j*nv (R.drop j):=by rw[<-cy];congr 1;omega
  omega
 .simp only;rw[e2];exact ep _ hV0
where
 drop_set_self' {l:List UInt16} {i:Nat} {y:UInt16} (h:i<l.length):(l.set i y).drop i=y::l.drop (i+1):=by
  have h1:(l.set i y)[i]?=some y:=fA h;have h2:=zy (l:=l.set i y) (i:=i);rw[h1]at h2;rw[h2];show y::(l.set i y).drop (i+1)=_;congr 1;apply i6;intro j;rw[dF,dF,et J]
theorem MW {V:List UInt16}{N n a b s:Nat}{R Q:List UInt16}(hV:nv V=b*2^s)(hb:0<b)(h:DivI V N n (a*2^s) (0,R,Q)):nv Q=a/b/\nv R=a%b*2^s:=by
 have h4:=h.v;have h5:=h.lt;simp only[fO,Nat.pow_zero,fR]at h4 h5;have hp:0<2^s:=iZ Y;rw[hV]at h4 h5;have e1:nv Q=a*2^s/(b*2^s):=by
  rw[<-h4,uc _ _ (mt hb hp),ra h5];omega
 have e2:nv R=a*2^s%(b*2^s):=by
  rw[<-h4,zG,eE h5]
 rw[Nat.mul_div_mul_right _ _ hp]at e1;rw[Nat.mul_mod_mul_right]at e2;exact⟨e1,e2⟩
theorem Hi {V a b R Q:List UInt16}{s:Nat}(hVl:V.length=b.length)(hV:nv V=nv b*2^s)(hbl:b.length<=a.length)(hs:s<=15)(htop:32768*65536^(b.length-1)<=nv V)(hb:1<=b.length)(hRl:R.length=a.length+1)(hR:nv R=nv a*2^s)(hQl:Q.length=a.length+1-b.length)(hQ:nv Q=0\/True) :
  DivI V (a.length+1) b.length (nv a*2^s) (a.length+1-b.length,R,Q):=by
 refine⟨aY,hRl,hQl,?_,?_⟩
 .simp only;rw[pT J,nv,rg,rg,hR];omega
 .simp only;refine gU ?_ htop;have h1:=fD R (a.length+1-b.length) J;have h2:=dV a;have hp:0<65536^(a.length+1-b.length):=p9 _;have hs2:2^s<=32768:=gu (n:=2) Y hs;have h3:nv a*2^s<65536^a.length*32768:=by
   have:=dE (nv a) hs2;have:=(ox (show 0<32768 by decide)).2 h2;omega
  have h4:65536^a.length=65536^(a.length+1-b.length)*65536^(b.length-1):=by rw[<-i4];congr 1;omega
  rw[h4,cY]at h3;rw[hR]at h1;rw[h1]at h3;have h5:65536^(a.length+1-b.length)*nv (R.drop (a.length+1-b.length))<65536^(a.length+1-b.length)*(65536^(b.length-1)*32768):=J;have:=FW h5;rw[dg];exact this
theorem Ls {R:List UInt16}{i s:Nat}(hs:s<=15)(hi:i+1<R.length):(ul R i+65536*ul R (i+1))/2^s%65536=nv R/2^s/65536^i%65536:=by
 have e1:nv R/65536^i=nv (R.drop i):=by
  rw[fD R i J,uc _ _ (p9 _),ra (ju R i)];omega
 rw[Nat.div_div_eq_div_mul (nv R),dg (2^s),<-Nat.div_div_eq_div_mul,e1,i9 (rK J),i9 (rK (i:=i+1) J)];show(ul R i+65536*ul R (i+1))/2^s%65536=(ul R i+65536*(ul R (i+1)+65536*nv (R.drop (i+1+1))))/2^s%65536;generalize nv (R.drop (i+1+1))=H0;have hd:2^s*2^(16-s)=65536:=by rw[<-i4,show s+(16-s)=16 by omega]
 have e2:ul R i+65536*(ul R (i+1)+65536*H0)=(ul R i+65536*ul R (i+1))+2^s*(65536*(2^(16-s)*H0)):=by
  have:2^s*(65536*(2^(16-s)*H0))=65536*(65536*H0):=by
   rw[mj,<-cY (2^s),hd]
  rw[this];omega
 rw[e2,uc _ _ (iZ Y),zG]
structure RemI (R:List UInt16) (n s:Nat) (k:Nat × List UInt16):Prop where
 i:k.1<=n
 l:k.2.length=n
 v:nv (k.2.take k.1)=nv R/2^s%65536^k.1
theorem KW {R Q:List UInt16}{n s i:Nat}(h:RemI R n s (i,Q))(hs:s<=15)(hR:n+1<=R.length)(hi:i<n):RemI R n s (i+1,Q.set i (UInt16.ofNat ((ul R i+65536*ul R (i+1))/2^s))):=by
 obtain⟨h1,h2,h3⟩:=h;simp only at h1 h2 h3;refine⟨hi,by simp[h2],?_⟩;simp only;rw[gy (i:=i) (fA J),take_set',h3,bY,Ls hs J,Nat.mod_pow_succ]
where
 take_set' {l:List UInt16} {i:Nat} {y:UInt16}:nv ((l.set i y).take i)=nv (l.take i):=by
  congr 1;apply i6;intro j;rw[cJ,cJ];split
  .rw[et J]
  .rfl
end Go.Pv
