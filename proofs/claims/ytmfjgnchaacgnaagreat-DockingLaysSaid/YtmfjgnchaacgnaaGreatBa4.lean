/- Texts of one hand, gathered: FcA, PvRg, FcB, FcC, FmC, FmD, FmE, FmF, FmG, FmH, FmI, FcD, FcE, FcF, FcG, FcH, FcI, FcJ, FcK, FcL, FcM, FcN, FcO, FcP, LeC, Shelf, FcQ, FcR, FcS, FcT, FcU, FcV, FdV, FcW, FcX, FcY, FcZ, FdA, FdB, FdC, FdD, FdE, FdF, FdG, FdH, FdI, FdK, FdL, FmK, FdN, FmL, FdT, FdO, FdP, FdQ, FdR, FmN, FdSn, FdUn, FdM, FsA, FsB, FsD, PvXw, FsE, FwA, FwB, FcLd, FwC. -/
import Derived.Test.YtmfjgnchaacgnaaGreatBa3
import Derived.Sort.Grow
import Derived.Shelf.GgSortFunc.RowK
import Derived.Shelf.Small.Bits
import Derived.Shelf.Small.Wraps
import Derived.Shelf.Strconv.Itoa0
import Derived.Shelf.Sort.Plain
import Derived.Ground.Names2Prog
import Derived.Shelf.Slices.Clone
import Derived.Shelf.Slices.CompactI
import Derived.Shelf.Slices.SearchI
import Derived.Shelf.Slices.Cells
import Derived.Shelf.Slices.In.SortNone
import Derived.Test.YtmfjgnchaacgnaaGreatProg
import Derived.Lib.SlicesCompact
set_option maxRecDepth 20000
set_option linter.unusedSectionVars false
set_option linter.unusedSimpArgs false
set_option linter.unusedVariables false
set_option linter.unnecessarySimpa false
set_option maxHeartbeats 2000000
namespace Go.Pv
attribute [local irreducible] PWP POps PQuiet PSem aF au ak aj
open Go.Proofs
structure CR where
 S:List Int
 M:List RR
structure SR where
 x:Int
 c:RR
 k:CR
structure BR where
 w:Int
 a:RR
 l:List SR
def eN (z:Int):List PV:=[I z]
def eC (c:CR):List PV:=[.sl (c.S.map eN),.sl (c.M.map eR)]
def eS (s:SR):List PV:=I s.x::(eR s.c++eC s.k)
def eB (b:BR):List PV:=I b.w::(eR b.a++[.sl (b.l.map eS)])
def RR.sz (x:RR)(n:Nat):Prop:=x.n.l.length<=n/\x.d.l.length<=n
theorem RR.sz.v {x:RR}{n:Nat}(h:x.sz n):Vq x x.val n:=Vq.raw h.1 h.2
def i64 (z:Int):Prop := -9223372036854775808<=z/\z<=9223372036854775807
structure CR.Lim (c:CR):Prop where
 s:∀z∈c.S,i64 z
 m:∀x∈c.M,x.sz 12
 ls:c.S.length<=1000000000
 lm:c.M.length<=1000000000
theorem gw (p:Rat):sgn p<0↔p<0:=by unfold sgn;split<;>(try split)<;>simp_all<;>omega
theorem gv (p:Rat):sgn p=0↔p=0:=by
 unfold sgn;split
 .rename_i h;constructor
  .intro h1;omega
  .intro h1;subst h1;grind
 .split<;>simp_all
theorem il (p:Rat):0<sgn p↔0<p:=by
 unfold sgn;split
 .rename_i h;constructor
  .intro h1;omega
  .intro h1;grind
 .rename_i h;split
  .rename_i h1;subst h1;simp
  .constructor
   .intro _;grind
   .intro _;omega
theorem Eh (p:Rat):0<=sgn p↔0<=p:=by
 have h1:=gw p;constructor
 .intro h;have:¬p<0:=fun h2=>by have:=h1.2 h2;omega
  grind
 .intro h;have:¬sgn p<0:=fun h2=>by have:=h1.1 h2;grind
  omega
theorem uE (p:Rat):sgn p<=0↔p<=0:=by
 have h1:=il p;constructor
 .intro h;have:¬0<p:=fun h2=>by have:=h1.2 h2;omega
  grind
 .intro h;have:¬0<sgn p:=fun h2=>by have:=h1.1 h2;grind
  omega
def fj (c:CR)(i:Nat):Int :=
 if c.S.getD i 0 < -10000000\/10000000<c.S.getD i 0\/(c.M.getD i RR.zero).val<0 then 2
 else if 0<i/\c.S.getD i 0<=c.S.getD (i-1) 0 then 10 else 0
def el (c:CR):Nat->Nat->Int
 |_,0=>0
 |i,k+1=>if fj c i=0 then el c (i+1) k else fj c i
def cz (c:CR):Int:=if 40<c.S.length then 8 else if c.M.length≠c.S.length then 11 else el c 0 c.S.length
theorem b_ {α:Type}{l:List α}{i:Nat}{d:α}(h:i<l.length):l[i]? = some (l.getD i d):=by
 rw[List.getD_eq_getElem?_getD,List.getElem?_eq_getElem h];rfl
set_option maxRecDepth 20000 in
theorem ek (c:CR)(hc:c.Lim):Ret Tryz.prog .shared 245 [.agg (eC c)] (I (cz c)):=by
 obtain⟨S,M⟩:=c;obtain⟨hs,hm,hls,hlm⟩:=hc;simp only at hs hm hls hlm;have hSl:(S.map eN).length=S.length:=ai;have hMl:(M.map eR).length=M.length:=ai;generalize hE:cz ⟨S,M⟩=E;simp only[cz]at hE;show Ret Tryz.prog .shared 245 [.agg [.sl (S.map eN),.sl (M.map eR)]] (I E);refine Ret.of_pwp layOk mixed Go.Proofs.Tryz.func245 O Y O O ?_;refine D ?_ ?_<;>intro h
 .have h1:=aB h;rw[if_pos J]at hE;subst hE;exact bq
 have h40:¬40<S.length:=by have h1:=aG h;omega
 rw[if_neg h40]at hE;clear h;refine D ?_ ?_<;>intro h
 .have h1:M.length≠S.length:=by simp at h;omega
  rw[if_pos h1]at hE;subst hE;exact bq
 have hSM:M.length=S.length:=by simp at h;omega
 rw[if_neg J]at hE;clear h;refine H ?_;refine ao (fun i:Nat=>i<=S.length/\el ⟨S,M⟩ i (S.length-i)=E) (fun i=>[(17,.sl (S.map eN)),(18,I S.length),(19,I (i:Nat)),(1,.ptr 1 1 0 0)]) (fun _=>[(1,1,⟨134,2,[[.sl (S.map eN),.sl (M.map eR)]],2⟩)]) (fun i=>S.length-i) 0 ⟨Nat.zero_le _,hE⟩ ⟨O,by rw[<-hSl];rfl,O,O,O,trivial⟩ ?_;intro i s ⟨hi,hF⟩;refine D ?_ ?_<;>intro h
 .have hlt:i<S.length:=by have:=aB h;omega
  clear h;obtain⟨k,hk⟩:∃k,S.length-i=k+1:=⟨S.length-i-1,J⟩;rw[hk,el]at hF;have hx:=b_ (d:=0) hlt;have hmx:=b_ (l:=M) (i:=i) (d:=RR.zero) J;have hse:fj ⟨S,M⟩ i=fj ⟨S,M⟩ i:=O
  conv at hse=>rhs;rw[fj]
  simp only at hse;generalize fj ⟨S,M⟩ i=se at *
  have hxb:=hs _ (a_ hx);have hmv:=(hm _ (a_ hmx)).v;have hsg:=Do (M.getD i RR.zero) (hx:=hmv) Y;have hsl:=gw (M.getD i RR.zero).val;generalize hx0:S.getD i 0=x at *
  generalize M.getD i RR.zero=m at *
  generalize sgn m.val=sg at *
  refine aN hx ?_;refine cV ?_ ?_<;>intro h
  .have h1:=aB h;clear h;have hS2:se=2:=by rw[hse,if_pos (.inl h1)]
   rw[hS2,if_neg Y]at hF;subst hF;exact bq
  .have h1:=aG h;clear h;refine cV ?_ ?_<;>intro h
   .have h2:=aB h;clear h;have hS2:se=2:=by rw[hse,if_pos (.inr (.inl h2))]
    rw[hS2,if_neg Y]at hF;subst hF;exact bq
   .have h2:=aG h;clear h;refine aN hmx ?_;refine ap hsg ?_;refine D ?_ ?_<;>intro h
    .have h3:=aB h;clear h;have hS2:se=2:=by rw[hse,if_pos (.inr (.inr (hsl.1 h3)))]
     rw[hS2,if_neg Y]at hF;subst hF;exact bq
    .have h3:=aG h;clear h;rw[if_neg (by rw[<-hsl];omega)]at hse;refine cV ?_ ?_<;>intro h
     .have h4:=aB h;clear h;obtain⟨j,rfl⟩:∃j,i=j+1:=⟨i-1,J⟩;have hw1:IntKind.i64.wrap (((j+1:Nat):Int)-1)=((j:Nat):Int):=by rw[wrap_i64 J J];omega
      have hy:=b_ (l:=S) (i:=j) (d:=0) J;rw[show j+1-1=j by omega]at hse;generalize S.getD j 0=y at *
      refine H ?_;rw[hw1];refine xD O O O O O O O hy O ?_;refine D ?_ ?_<;>intro h
      .have h5:=aB h;clear h;have hS2:se=10:=by rw[hse,if_pos ⟨J,h5⟩]
       rw[hS2,if_neg Y]at hF;subst hF;exact bq
      .have h5:=aG h;clear h;have hS2:se=0:=by rw[hse,if_neg (fun h=>h5 h.2)]
       rw[if_pos hS2]at hF;have hw:IntKind.i64.wrap (((j+1:Nat):Int)+1)=((j+1+1:Nat):Int):=by rw[wrap_i64 J J];omega
       refine H ?_;exact⟨j+1+1,⟨J,by rw[show S.length-(j+1+1)=k by omega];exact hF⟩,J,O,O,congrArg I hw,O,O,trivial⟩
     .have h4:=aG h;clear h;have hS2:se=0:=by rw[hse,if_neg (fun h=>h4 J)]
      rw[if_pos hS2]at hF;have hw:=c9 i;refine H ?_;exact⟨i+1,⟨J,by rw[show S.length-(i+1)=k by omega];exact hF⟩,J,O,O,congrArg I hw,O,O,trivial⟩
 .have hie:i=S.length:=by have:=aG h;omega
  rw[hie,Nat.sub_self,el]at hF;subst hF;exact bq
end Go.Pv
namespace Go.Pv
open Go.RowKit
variable [Globs]
def oB:List (Tmp × PV)->(Nat->PV)->Nat->PV
 |[],f=>f
 |(p,v)::l,f=>oB l fun r=>bif Nat.beq r p then v else f r
theorem oC {E:Env}:∀(ps:List Tmp) (cs:List PV) (vs:List Value) (f:Nat->PV) (tmps:Array Value),ps.length=cs.length->cs.length=vs.length->(∀p∈ps,p<tmps.size)->(∀t,Rep E (f t) (tmps.getD t undef)) ->
  (∀(i:Nat) (c:PV) (v:Value),cs[i]? = some c->vs[i]? = some v->Rep E c v) ->
  ((ps.zip vs).foldl (fun t q=>t.setIfInBounds q.1 q.2) tmps).size=tmps.size/\∀t,Rep E (oB (ps.zip cs) f t) (((ps.zip vs).foldl (fun t q=>t.setIfInBounds q.1 q.2) tmps).getD t undef)
 |[],[],[],f,tmps,_,_,_,hf,_=>⟨rfl,hf⟩
 |p::ps,c::cs,v::vs,f,tmps,h1,h2,hp,hf,hd=>by
  have hp0:p<tmps.size:=hp p (.head _);have ih:=oC ps cs vs (fun r=>bif Nat.beq r p then c else f r) (tmps.setIfInBounds p v) (by simpa using h1) (by simpa using h2) (fun q hq=>by simpa using hp q (.tail _ hq)) (fun t=>by
   by_cases ht:t=p
   .subst ht;have e1:(tmps.setIfInBounds t v).getD t undef=v:=by simp[hp0]
    rw[e1];simpa using hd 0 c v O O
   .have e1:(tmps.setIfInBounds p v).getD t undef=tmps.getD t undef:=by simp[Array.getElem?_setIfInBounds_ne (Ne.symm ht)]
    rw[e1,aZ ht]
    exact hf t) (fun i c' v' e1 e2=>hd (i+1) c' v' (by simpa using e1) (by simpa using e2))
  refine⟨?_,fun t=>?_⟩
  .rw[List.zip_cons_cons,List.foldl_cons,ih.1];simp
  .rw[List.zip_cons_cons,List.zip_cons_cons,List.foldl_cons];exact ih.2 t
 |[],_::_,_,_,_,h,_,_,_,_=>by simp at h
 |[],[],_::_,_,_,_,h,_,_,_=>by simp at h
 |_::_,[],_,_,_,h,_,_,_,_=>by simp at h
 |_::_,_::_,[],_,_,_,h,_,_,_=>by simp at h
def bX (ps:Array Tmp)(asg body:Code)(st:LoopState)(pend:Option Code)(regs:Nat->PV):Cont:=⟨0,0,[[.lbl ps asg body st pend regs]],4⟩
def wt (s:St)(kL g:Nat)(ps:Array Tmp)(asg body:Code)(regs:Nat->PV)(d:Nat)(K:St->Prop):Exit->St->Prop
 |.normal,s'=>s'.own kL=(g,some (bX ps asg body .busy none regs))/\K (({ reg:=s.reg,own:=(s'.setOwn kL g (some (bX ps asg body .ready none regs))).own }:St).putR d (.bool true))
 |.exit id,s'=>s'.own kL=(g,some (bX ps asg body .busy none regs))/\K (({ reg:=s.reg,own:=(s'.setOwn kL g (some (bX ps asg body .done (some (.exit id)) regs))).own }:St).putR d (.bool false))
 |.ret,s'=>s'.own kL=(g,some (bX ps asg body .busy none regs))/\K (({ reg:=s.reg,own:=(s'.setOwn kL g (some (bX ps asg body .done (some .ret) regs))).own }:St).putR d (.bool false))
 |_,_=>False
def k8 (s:St)(kL g:Nat)(ps:Array Tmp)(asg body:Code)(Q:Exit->St->Prop):Exit->St->Prop
 |.normal,s' | .ret,s'=>(s'.own kL=(g,some (bX ps asg body .ready none s.reg))/\Q .normal { reg:=s.reg,own:=(s'.setOwn kL (g+1) none).own }) \/
   (∃id,s'.own kL=(g,some (bX ps asg body .done (some (.exit id)) s.reg))/\Q (.exit id) { reg:=s.reg,own:=(s'.setOwn kL (g+1) none).own }) \/
   (s'.own kL=(g,some (bX ps asg body .done (some .ret) s.reg))/\Q .ret { reg:=s.reg,own:=(s'.setOwn kL (g+1) none).own })
 |_,_=>False
section
variable {P:Program}{L:Lay}{C:Ctx}{γ:Nat->Option Nat}{s:St}{a:Act}{w:World}
theorem Sim.yl_at (_h:Sim C γ s a w){k g:Nat}{c:Cont}{v:Value}(hr:Rep (am C γ s w) (.yl k g) v)(ho:s.own k=(g,some c)):∃b,γ k=some b/\v = .func (.yield b) #[] #[]:=by
 cases hr with
 |d h=>cases h
 |yl hg hl=>exact(hl (by simp[am,ho]) ⟨γ k,c.ty,c.sz,c.rows.length⟩ (by simp[am,ho])).2
theorem Sim.turnLoop {s':St}{a':Act}{w3:World}{C2:Ctx}{γ':Nat->Option Nat}(hs':Sim C2 γ' s' a' w3){kL g b:Nat}{ps:Array Tmp}{asg body:Code}{regs:Nat->PV}{st:LoopState}{pend:Option Code}(ho:s'.own kL=(g,some (bX ps asg body st pend regs)))(hb:γ' kL=some b) :
  ∃rec:Loop,w3.heap[b]? = some (.loop rec)/\rec.state=st/\rec.pending=pend/\∀(st2:LoopState) (pend2:Option Code),Sim C2 γ' (s'.setOwn kL g (some (bX ps asg body st2 pend2 regs))) a' (w3.putObj b (.loop { rec with state:=st2,pending:=pend2 })):=by
 have hit:=(hs'.sites kL _ (by rw[ho])).it b hb O (show(3:Nat)<=4 by decide);obtain⟨rec,regs',h1,h2,h3',h3,h4,h5⟩:mF (am C2 γ' s' w3) b (bX ps asg body st pend regs).rows:=hit;have h1:w3.heap[b]? = some (.loop rec):=h1;simp only[bX,List.cons.injEq,PV.lbl.injEq,and_true]at h2;obtain⟨e1,e2,e3,e4,e5,e6⟩:=h2;subst e6;refine⟨rec,h1,e4.symm,e5.symm,fun st2 pend2=>?_⟩;obtain⟨hp,hnew⟩:=f8 (o' := .loop { rec with state:=st2,pending:=pend2 }) h1;have hnc:∀cur T f,w3.heap[b]? ≠ some (.cells cur T f):=fun cur T f e=>by rw[h1]at e;cases e
 have hle:=iP (c':=bX ps asg body st2 pend2 regs) hs' ho hb hnc hp O O (aP);refine f9 hs' ho hb hnc hp O O (aP) ⟨(fun e=>by cases e),(fun b' _ _ hk=>by simp[bX]at hk),fun b' hb' _ _=>?_,(fun b' _ hz=>by simp[bX]at hz)⟩;cases hb';show mF _ _ _;exact⟨{ rec with state:=st2,pending:=pend2 },regs,hnew,by simp[bX,<-e1,<-e2,<-e3],h3',h3,h4,fun t=>(h5 t).mono hle⟩
theorem AN {o:Oper}{args:Array Operand}{tys:Array TypeId}{tf d kL g:Nat}{ps:Array Tmp}{asg body:Code}{regs:Nat->PV}{K:St->Prop}(ho:o.op = .call ⟨.value (.tmp tf),args,tys⟩)(hd:o.dst=some d)(hy:s.reg tf = .yl kL g)
  (hown:s.own kL=(g,some (bX ps asg body .ready none regs))) (hps:args.size=ps.size)
  (h:PWP P L asg (aF (fun s2=>s2.own kL=(g,some (bX ps asg body .ready none regs))/\PWP P L body (wt s kL g ps asg body regs d K) { reg:=s2.reg,own:=(s2.setOwn kL g (some (bX ps asg body .busy none regs))).own }) (fun _ _=>False)) { reg:=oB (ps.toList.zip (args.toList.map s.ev)) regs,own:=s.own }):FT P L s o K:=by
 intro ro n C a w Q hG ⟨γ,hs⟩ hN hQ;have hyr:=hs.ev (.tmp tf);rw[show s.ev (.tmp tf) = .yl kL g from hy]at hyr;obtain⟨b,hb,hv⟩:=hs.yl_at hyr hown;have hit:=(hs.sites kL _ (by rw[hown])).it b hb O (show(3:Nat)<=4 by decide);obtain⟨rec,regs',h1,h2,h3',h3,h4,h5⟩:mF (am C γ s w) b (bX ps asg body .ready none regs).rows:=hit;have h1:w.heap[b]? = some (.loop rec):=h1;simp only[bX,List.cons.injEq,PV.lbl.injEq,and_true]at h2;obtain⟨e1,e2,e3,e4,e5,e6⟩:=h2;subst e6;refine⟨fun _ _=>trivial,?_⟩;have hexec:(o.semAt (Fr ro).round a.eval).run P w = .ok (.round b rec.fn ((rec.params.zip (args.map a.eval)).foldl (fun tmps (t,a)=>tmps.setIfInBounds t a) rec.tmps) rec.assign rec.body) w:=by
  rw[Oper.semAt_eq _ _ _ (fun c e=>by rw[ho]at e;cases e)];simp only[execOp,ho,resolve,hv,Deferred.ofValue,Sem.run_bind,Sem.run_pure,Result.andThen_ok,invoke];rw[show(#[]++args.map a.eval:Array Value)=args.map a.eval by simp];exact run_yield h1 (by rw[<-e1];simpa using hps)
 rw[hexec,Oper.uponIn_round];refine⟨fun e=>by simp[Fr,Fence.wide]at e,?_⟩;refine roundIn_of_wpIn trivial ?_;rw[<-e2,<-e3];rw[<-e2]at h3';rw[<-e3]at h3;let C2:Ctx:=⟨C.B,C.X,C.w0,rec.tmps.size,fun c v=>C.keep c v\/∃t,c=s.reg t/\v=a.tmps.getD t undef,[]⟩;have hG2:Good P L C2:=⟨hG.lay,hG.x,hG.mixed,hG.glob⟩;have hfold:(rec.params.zip (args.map a.eval)).foldl (fun tmps (t,a)=>tmps.setIfInBounds t a) rec.tmps=(ps.toList.zip (args.toList.map a.eval)).foldl (fun t q=>t.setIfInBounds q.1 q.2) rec.tmps:=by
  rw[<-e1,<-Array.foldl_toList,Array.toList_zip,Array.toList_map]
 obtain⟨b1,b2⟩:=oC (E:=am C γ s w) ps.toList (args.toList.map s.ev) (args.toList.map a.eval) regs rec.tmps (by simpa using hps.symm) ai
  (fun p hp=>by rw[e1]at hp;simpa using List.all_eq_true.1 h4 p hp) (fun t=>h5 t) (fun i c v q1 q2=>by
   rw[List.getElem?_map]at q1 q2;cases hx:args.toList[i]? with
   |none=>rw[hx]at q1;simp at q1
   |some x=>rw[hx]at q1 q2;simp at q1 q2;subst q1;subst q2;exact hs.ev x)
 rw[hfold];have hsim2:SimE C2 { reg:=oB (ps.toList.zip (args.toList.map s.ev)) regs,own:=s.own } { tmps:=(ps.toList.zip (args.toList.map a.eval)).foldl (fun t q=>t.setIfInBounds q.1 q.2) rec.tmps,defers:=[] } w:=by
  refine⟨γ,O,b1,b2,hs.sites,hs.inj,hs.base,hs.below,hs.top,?_⟩;rintro c v (hk|⟨t,rfl,rfl⟩)
  .exact hs.kept c v hk
  .exact hs.regs t
 rw[zf];refine wpIn_mono (PWP.soundX (X:=fun A B=>A=B) (fun _=>rfl) (fun h k=>h.trans k) (fun h=>by subst h;exact .refl _) (r:=false) (fun h=>by cases h) asg _ C2 _ _ _ hG2 h3' (fun _ hq=>hq) hsim2 h) ?_;rintro e aA wA ⟨C',sA,rfl,⟨γA,hsA⟩,hq⟩;have he:e = .normal:=by
  cases e
  case normal=>rfl
  all_goals exact absurd hq id
 subst he;obtain⟨hownA,hbodyA⟩:=hq;show ∃w₂,_;have hkyA:=hsA.kept (.yl kL g) (.func (.yield b) #[] #[]) (.inr ⟨tf,hy.symm,hv.symm⟩);obtain⟨bA,hbA,hvA⟩:=hsA.yl_at hkyA hownA;have hbb:b=bA:=by injection hvA with q;injection q with q
 subst hbb;obtain⟨rec2,r1,r2,r3,r4⟩:=hsA.turnLoop hownA hbA;have hs1:=r4 .busy none;have hw2:wA.putObj b (.loop { rec2 with state := .busy,pending:=none })=wA.putObj b (.loop { rec2 with state := .busy }):=by
  have:({ rec2 with state := .busy,pending:=none }:Loop)={ rec2 with state := .busy }:=by rw[<-r3]
  rw[this]
 rw[hw2]at hs1;refine⟨_,run_beginRound r1 r2,?_⟩;have hsimB:SimE C2 { reg:=sA.reg,own:=(sA.setOwn kL g (some (bX ps asg body .busy none regs))).own } aA (wA.putObj b (.loop { rec2 with state := .busy })):=⟨γA,hs1⟩;refine wpIn_mono (PWP.soundX (X:=fun A B=>A=B) (fun _=>rfl) (fun h k=>h.trans k) (fun h=>by subst h;exact .refl _) (r:=false) (fun h=>by cases h) body _ C2 _ _ _ hG2 h3 (fun _ hq=>hq) hsimB hbodyA) ?_
 have fin:∀ {s':St} {a':Act} {w3:World} (jump:Option Code) (st:LoopState),st=(if jump.isNone then .ready else .done)->SimE C2 s' a' w3->s'.own kL=(g,some (bX ps asg body .busy none regs)) ->
   K (({ reg:=s.reg,own:=(s'.setOwn kL g (some (bX ps asg body st jump regs))).own }:St).putR d (.bool jump.isNone)) ->
   ∃v w4,(Instr.endRound b jump).run P w3 = .ok v w4/\∃s'',SimE C s'' (a.put o.dst v) w4/\K s'':=by
  rintro s' a' w3 jump st rfl ⟨γ',hs'⟩ hown' hk;have hky:=hs'.kept (.yl kL g) (.func (.yield b) #[] #[]) (.inr ⟨tf,hy.symm,hv.symm⟩);obtain⟨b',hb',hvb⟩:=hs'.yl_at hky hown';have hbb:b'=b:=by injection hvb with q;injection q with q;exact q.symm
  subst hbb;obtain⟨rec3,q1,q2,q3,q4⟩:=hs'.turnLoop hown' hb';have hs4:=q4 (if jump.isNone then .ready else .done) jump;refine⟨_,_,run_endRound jump q1,_,⟨γ',?_⟩,hk⟩;have hback:Sim C γ' { reg:=s.reg,own:=(s'.setOwn kL g (some (bX ps asg body (if jump.isNone then .ready else .done) jump regs))).own } a (w3.putObj b' (.loop { rec3 with state:=if jump.isNone then .ready else .done,pending:=jump })) :=
   ⟨hs.defers,hs.size,fun r=>hs4.kept _ _ (.inr ⟨r,O,O⟩),hs4.sites,hs4.inj,hs4.base,hs4.below,hs4.top,fun c v hk=>hs4.kept c v (.inl hk)⟩
  rw[hd];rw[hd]at hN;exact hback.put (d:=some d) hN (.d (.bool _))
 rintro e a' w3 ⟨C',s',rfl,h',hq⟩;cases e
 case normal=>exact fin none .ready O h' hq.1 hq.2
 case ret=>exact fin (some .ret) .done O h' hq.1 hq.2
 case exit id=>exact fin (some (.exit id)) .done O h' hq.1 hq.2
 all_goals exact hq.elim
theorem sN {Q:Exit->St->Prop}{g:Operand}{ps:Array Tmp}{assign body:Code}(h:tB P L g ps assign body Q s):PWP P L (.rangeFunc g ps assign body) Q s:=Gh.of h
theorem pr {Q:Exit->St->Prop}{g:Operand}{gf:FuncId}{caps:List PV}{fn:Func}{bodyI:Code}{ps:Array Tmp}{asg body:Code}(kL:Nat){gn:Nat}{oc:Option Cont}(hg:s.ev g = .clo gf caps)(hf:P.funcs[gf]? = some fn)(hb:fn.body=some bodyI)
  (hn : (fn.name == "runtime.NumGoroutine") = false) (hlen : Nat.ble (1 + caps.length) fn.ntmps = true) (hc : jC fn.ntmps bodyI = true) (hres : fn.results = #[]) (hown : s.own kL = (gn, oc))
  (h:PWP P L bodyI (k8 s kL (gn+1) ps asg body Q) { reg:=fun t=>((.yl kL (gn+1))::caps).getD t (.raw undef),own:=(s.setOwn kL (gn+1) (some (bX ps asg body .ready none s.reg))).own }):tB P L g ps asg body Q s:=by
 intro n C a w hG ⟨γ,hs⟩ hcode hQ;simp only[fh,Bool.true_and,Bool.and_eq_true]at hcode;obtain⟨⟨hpsN,hasg⟩,hbody⟩:=hcode;refine wpIn_rangeFunc fun fnid _=>?_;have hge:=hs.ev g;rw[hg]at hge;obtain⟨vs,hv,hl,hd⟩:=hge.clo_inv;have hcal:ej P gf:=⟨fn,hf,hn,by simp[hb]⟩;obtain⟨rec,hrec⟩:∃rec:Loop,rec={ state := .ready,pending:=none,fn:=fnid,tmps:=a.tmps,params:=ps,assign:=asg,body:=body,defers:=w.heap.size }:=⟨_,O⟩;refine⟨w.heap.size+1,[ua w.heap.size],(w.alloc (.deferred (some []))).alloc (.loop rec),{ target := .fn (.func gf) vs.toArray,args:=#[.func (.yield (w.heap.size+1)) #[] #[]] },(w.alloc (.deferred (some []))).alloc (.loop rec),gf,
  #[Value.func (.yield (w.heap.size+1)) #[] #[]]++vs.toArray,(w.alloc (.deferred (some []))).alloc (.loop rec),by rw[hrec];exact run_enterLoop_outer _ _ _ _ _,?_,fun _ _=>trivial,?_,fun e=>by simp[Fr,Fence.wide]at e,?_⟩
 .simp only[resolve,hv];simp[go_sem]
 .simp only[invoke];exact kQ hcal _
 refine callsIn_of_wp hf hb trivial ?_;have hbel:Below w.heap.size w (w.alloc (.deferred (some []))):=(Below.refl _ w).alloc (aP) _;have hD:=hs.ext hbel;have hsz:(w.alloc (.deferred (some []))).heap.size=w.heap.size+1:=ai;have hT:Turn C γ s (w.alloc (.deferred (some []))) ((w.alloc (.deferred (some []))).alloc (.loop rec)) kL (some (w.alloc (.deferred (some []))).heap.size):=Turn.alloc _ kL;have hle:=hT.le hD (bX ps asg body .ready none s.reg);have hfin:s.fin kL (bX ps asg body .ready none s.reg)=s.setOwn kL (gn+1) (some (bX ps asg body .ready none s.reg)):=by rw[St.fin,hown]
 have hs1:=hT.sim (c:=bX ps asg body .ready none s.reg) hD ⟨(fun e=>by cases e),(fun b' _ _ hk=>by simp[bX]at hk),fun b' hb' _ _=>by
  cases hb';show mF _ _ _;refine⟨rec,s.reg,be _ _,by rw[hrec];rfl,by rw[hrec];simpa [hs.size] using hasg,by rw[hrec];simpa [hs.size] using hbody,by rw[hrec];simpa [hs.size] using hpsN,fun t=>?_⟩
  rw[show rec.tmps=a.tmps by rw[hrec]];exact(hD.regs t).mono hle,(fun b' _ hz=>by simp[bX]at hz)⟩
 rw[hfin,hsz]at hs1;rw[hfin,hsz]at hle;have hDobj:((w.alloc (.deferred (some []))).alloc (.loop rec)).heap[w.heap.size]? = some (.deferred (some [])):=by
  rw[Below.heap_alloc _ _ _ ai];exact be w _
 have hDok:eg C (gS γ kL (some (w.heap.size+1))) (s.setOwn kL (gn+1) (some (bX ps asg body .ready none s.reg))) ((w.alloc (.deferred (some []))).alloc (.loop rec)) w.heap.size:=by
  refine⟨by simp;omega,fun hx=>?_,fun k c hk hb'=>?_⟩
  .have:=hG.x _ hx;have:=hs.top;omega
  .by_cases hkk:k=kL
   .subst hkk;rw[bK]at hb';injection hb' with q;omega
   .rw[ay hkk]at hk;rw[fg hkk]at hb';have:=(hs.base k c _ hk hb').2;omega
 let C1:Ctx:=⟨C.B,C.X,C.w0,fn.ntmps,fun c v=>C.keep c v\/(∃t,c=s.reg t/\v=a.tmps.getD t undef)\/(c = .dfd/\v = .pointer (some ⟨w.heap.size,0,none⟩))\/(c = .yl kL (gn+1)/\v = .func (.yield (w.heap.size+1)) #[] #[]),[]⟩;have hG1:Good P L C1:=⟨hG.lay,hG.x,hG.mixed,hG.glob⟩;have hyl:Rep (am C (gS γ kL (some (w.heap.size+1))) (s.setOwn kL (gn+1) (some (bX ps asg body .ready none s.reg))) ((w.alloc (.deferred (some []))).alloc (.loop rec))) (.yl kL (gn+1)) (.func (.yield (w.heap.size+1)) #[] #[]):=by
  refine .yl (by simp[am,ah]) fun _ l hl=>?_;simp only[am,ah,bK,Option.map_some,Option.some.injEq]at hl;subst hl;exact⟨O,_,O,O⟩
 have hlen':1+vs.length<=fn.ntmps:=by rw[<-hl];simpa using hlen
 have hargs:∀t,Rep (am C (gS γ kL (some (w.heap.size+1))) (s.setOwn kL (gn+1) (some (bX ps asg body .ready none s.reg))) ((w.alloc (.deferred (some []))).alloc (.loop rec))) (((.yl kL (gn+1))::caps).getD t (.raw undef))
   ((#[Value.func (.yield (w.heap.size+1)) #[] #[]]++vs.toArray++Array.replicate (fn.ntmps-(#[Value.func (.yield (w.heap.size+1)) #[] #[]]++vs.toArray).size) undef).getD t undef):=by
  intro t;cases t with
  |zero =>
   have e2:(#[Value.func (.yield (w.heap.size+1)) #[] #[]]++vs.toArray++Array.replicate (fn.ntmps-(#[Value.func (.yield (w.heap.size+1)) #[] #[]]++vs.toArray).size) undef).getD 0 undef=Value.func (.yield (w.heap.size+1)) #[] #[]:=by
    simp[Array.getElem?_append]
   rw[e2];exact hyl
  |succ t =>
   rcases Nat.lt_or_ge t vs.length with hlt|hge
   .have hlt':t<caps.length:=J;have e1:((PV.yl kL (gn+1))::caps).getD (t+1) (.raw undef)=caps[t]:=by simp[hlt']
    have e2:(#[Value.func (.yield (w.heap.size+1)) #[] #[]]++vs.toArray++Array.replicate (fn.ntmps-(#[Value.func (.yield (w.heap.size+1)) #[] #[]]++vs.toArray).size) undef).getD (t+1) undef=vs[t]:=by
     rw[Array.getD_eq_getD_getElem?,Array.getElem?_append_left aK,Array.getElem?_append_right ai];simp[hlt]
    rw[e1,e2];exact(hd t caps[t] vs[t] (List.getElem?_eq_getElem hlt') (List.getElem?_eq_getElem hlt)).mono ((fu hbel hs.base).trans' hle)
   .have e1:((PV.yl kL (gn+1))::caps).getD (t+1) (.raw undef) = .raw undef:=by simp[List.getElem?_eq_none (by omega:caps.length<=t)]
    have e2:(#[Value.func (.yield (w.heap.size+1)) #[] #[]]++vs.toArray++Array.replicate (fn.ntmps-(#[Value.func (.yield (w.heap.size+1)) #[] #[]]++vs.toArray).size) undef).getD (t+1) undef=undef:=by
     rw[Array.getD_eq_getD_getElem?,Array.getElem?_append_right aK];rcases Nat.lt_or_ge (t+1-(#[Value.func (.yield (w.heap.size+1)) #[] #[]]++vs.toArray).size) (fn.ntmps-(#[Value.func (.yield (w.heap.size+1)) #[] #[]]++vs.toArray).size) with h1|h1
     .rw[Array.getElem?_replicate,if_pos h1];rfl
     .rw[Array.getElem?_eq_none (by simpa using h1)];rfl
    rw[e1,e2];exact .d (.raw _)
 have hsim:SimE C1 { reg:=fun t=>((.yl kL (gn+1))::caps).getD t (.raw undef),own:=(s.setOwn kL (gn+1) (some (bX ps asg body .ready none s.reg))).own }
   { tmps:=#[Value.func (.yield (w.heap.size+1)) #[] #[]]++vs.toArray++Array.replicate (fn.ntmps-(#[Value.func (.yield (w.heap.size+1)) #[] #[]]++vs.toArray).size) undef,defers:=[] } ((w.alloc (.deferred (some []))).alloc (.loop rec)):=by
  refine⟨gS γ kL (some (w.heap.size+1)),O,by simp[C1];omega,hargs,hs1.sites,hs1.inj,hs1.base,hs1.below,hs1.top,?_⟩;rintro c v (hk|⟨t,rfl,rfl⟩|⟨rfl,rfl⟩|⟨rfl,rfl⟩)
  .exact hs1.kept c v hk
  .exact hs1.regs t
  .exact .dfd hDok hDobj
  .exact hyl
 refine wpIn_mono (PWP.soundX (X:=fun A B=>A=B) (fun _=>rfl) (fun h k=>h.trans k) (fun h=>by subst h;exact .refl _) (r:=false) (fun h=>by cases h) bodyI _ C1 _ _ _ hG1 hc (fun _ hq=>hq) hsim h) ?_
 have fin:∀ {s':St} {a':Act} {w3:World} (pend:Option Code) (st:LoopState),st ≠ .busy->SimE C1 s' a' w3->s'.own kL=(gn+1,some (bX ps asg body st pend s.reg)) ->
   ∃w4,(Instr.endLoop (w.heap.size+1)).run P w3 = .ok pend w4/\∃C4,Ext C C4/\SimE C4 { reg:=s.reg,own:=(s'.setOwn kL (gn+1+1) none).own } { a with defers:=[ua w.heap.size]++a.defers } w4:=by
  rintro s' a' w3 pend st hst ⟨γ',hs'⟩ hown';have hky:=hs'.kept (.yl kL (gn+1)) (.func (.yield (w.heap.size+1)) #[] #[]) (.inr (.inr (.inr ⟨O,O⟩)));obtain⟨b',hb',hvb⟩:=hs'.yl_at hky hown';have hbb:b'=w.heap.size+1:=by injection hvb with q;injection q with q;exact q.symm
  subst hbb;obtain⟨rec3,q1,q2,q3,q4⟩:=hs'.turnLoop hown' hb';have hs4:=q4 .exhausted pend;have hw4:w3.putObj (w.heap.size+1) (.loop { rec3 with state := .exhausted,pending:=pend })=w3.putObj (w.heap.size+1) (.loop { rec3 with state := .exhausted }):=by
   have:({ rec3 with state := .exhausted,pending:=pend }:Loop)={ rec3 with state := .exhausted }:=by rw[<-q3]
   rw[this]
  rw[hw4]at hs4;refine⟨_,by rw[<-q3];exact run_endLoop q1 (by rw[q2];exact hst),?_⟩;obtain⟨hs5,_,_⟩:=hs4.drop hG1.x (ah s' kL (gn+1) _);have hoo:((s'.setOwn kL (gn+1) (some (bX ps asg body .exhausted pend s.reg))).setOwn kL (gn+1+1) none).own=(s'.setOwn kL (gn+1+1) none).own:=by
   funext r;by_cases hr:r=kL
   .subst hr;rw[ah,ah]
   .rw[ay hr,ay hr,ay hr]
  have key:∀ow,ow=(s'.setOwn kL (gn+1+1) none).own->Sim C1 γ' { reg:=s'.reg,own:=ow } a' (w3.putObj (w.heap.size+1) (.loop { rec3 with state := .exhausted })) ->
    ∃C4,Ext C C4/\SimE C4 { reg:=s.reg,own:=(s'.setOwn kL (gn+1+1) none).own } { a with defers:=[ua w.heap.size]++a.defers } (w3.putObj (w.heap.size+1) (.loop { rec3 with state := .exhausted })):=by
   rintro ow rfl hs6;refine⟨⟨C.B,C.X,C.w0,C.N,fun c v=>C.keep c v\/(c = .dfd/\v = .pointer (some ⟨w.heap.size,0,none⟩)),w.heap.size::C.dfs⟩,⟨O,O,O,O,fun c v hk => .inl hk,fun hdk=>⟨?_,?_⟩⟩,γ',?_,hs.size,fun r=>hs6.kept _ _ (.inr (.inl ⟨r,O,O⟩)),hs6.sites,hs6.inj,hs6.base,hs6.below,hs6.top,?_⟩
   .rw[List.nodup_cons];refine⟨fun hm=>?_,hdk.1⟩;have:=hs.kept _ _ (hdk.2 _ hm).2;cases this with
    |d hd=>cases hd
    |dfd h1 _=>exact absurd h1.1 (Nat.lt_irrefl _)
   .intro D0 hDm;rcases List.mem_cons.1 hDm with rfl|hDm
    .exact⟨hs.top,.inr ⟨O,O⟩⟩
    .exact⟨(hdk.2 D0 hDm).1,.inl (hdk.2 D0 hDm).2⟩
   .show [ua w.heap.size]++a.defers=_;rw[hs.defers];rfl
   .rintro c v (hk|⟨rfl,rfl⟩)
    .exact hs6.kept c v (.inl hk)
    .exact hs6.kept _ _ (.inr (.inr (.inl ⟨O,O⟩)))
  exact key _ hoo hs5
 have ends:∀ {s':St} {a':Act} {w3:World},SimE C1 s' a' w3->k8 s kL (gn+1) ps asg body Q .ret s'->a'.defers=[]/\∃v,(results fn a'.tmps).run P w3 = .ok v w3 /\
   rangePost (Fr none) n P (w.heap.size+1) (yw Ext C Q) { a with defers:=[ua w.heap.size]++a.defers } (.returned v) w3:=by
  intro s' a' w3 h' hq;refine⟨by obtain⟨_,h'⟩:=h';exact h'.defers,.tuple #[],by simp[results,hres],?_⟩;rcases hq with⟨ho,hq⟩|⟨id,ho,hq⟩|⟨ho,hq⟩
  .obtain⟨w4,e1,C4,e2,e3⟩:=fin none .ready ai h' ho;exact⟨none,w4,e1,C4,_,e2,e3,hq⟩
  .obtain⟨w4,e1,C4,e2,e3⟩:=fin (some (.exit id)) .done ai h' ho;exact⟨some (.exit id),w4,e1,wpIn_exit ⟨C4,_,e2,e3,hq⟩⟩
  .obtain⟨w4,e1,C4,e2,e3⟩:=fin (some .ret) .done ai h' ho;exact⟨some .ret,w4,e1,wpIn_ret ⟨C4,_,e2,e3,hq⟩⟩
 rintro e a' w3 ⟨C',s',rfl,h',hq⟩;cases e
 case normal=>exact ends h' hq
 case ret=>exact ends h' hq
 all_goals exact hq.elim
end
end Go.Pv
set_option maxHeartbeats 2000000
namespace Go.Pv
attribute [local irreducible] PWP POps PQuiet PSem aF au ak aj
open Go.Proofs
def CR.s (c:CR)(k:Nat):Rat:=(c.S.getD k 0:Int)
def CR.m (c:CR)(k:Nat):Rat:=(c.M.getD k RR.zero).val
def Bt (c:CR):Nat->RR
 |0=>ofQ ((0:Int):Rat)
 |k+1=>c.M.getD k RR.zero
theorem si (c:CR)(hc:c.Lim)(k:Nat):Vq (c.M.getD k RR.zero) (c.m k) 12:=by
 refine⟨O,?_⟩;rw[List.getD_eq_getElem?_getD];cases h:c.M[k]? with
 |none=>exact⟨Nat.zero_le _,Nat.zero_le _⟩
 |some x=>exact hc.m x (a_ h)
theorem oA (c:CR)(hc:c.Lim)(k:Nat):Vq (Bt c k) (bG c.m k) 12:=by
 cases k with
 |zero =>
  refine⟨ofQ_val _,?_⟩;have:=(jm (HQ.int (z:=0) (h:=⟨Y⟩)).ok).ok;show(ofQ ((0:Int):Rat)).n.l.length<=12/\(ofQ ((0:Int):Rat)).d.l.length<=12;exact⟨by have:=this.1;omega,by have:=this.2;omega⟩
 |succ k=>exact si c hc k
theorem l_ {c:CR}(hc:c.Lim)(k:Nat):i64 (c.S.getD k 0):=by
 rw[List.getD_eq_getElem?_getD];cases h:c.S[k]? with
 |none=>exact⟨Y,Y⟩
 |some x=>exact hc.s x (a_ h)
def Dj (q0 q2 q3 g4 g7 b4:Nat)(rec x2 x3 x1004:Cont)(before sum:RR):List (Nat × Nat × Cont) :=
 [(2000,q0,rec),(2002,q2,x2),(2003,q3,x3),(4,b4,⟨42,4,[eR before],2⟩),(1004,g4,x1004),(1007,g7,⟨42,4,[eR sum],2⟩)]
theorem gH {s:St}(k:Nat):Ghost s (s.setOwn k ((s.own k).1+2) none):=Ghost.drop O
theorem qi {L:Lay}{fn:Func}{K:St->PV->Prop}{s:St}{t:Nat}{v:PV}(h:fn.results.toList=[.tmp t])(h1:s.reg t=v)(hk:K s v):aj L fn K .ret s:=by
 unfold aj;refine⟨[s.reg t],True/\True,by rw[h];rfl,⟨trivial,trivial⟩,?_⟩;rw[h1];exact hk
theorem bj {P:Program}{L:Lay}{x:Code}{Q:Exit->St->Prop}{s:St}(R:List (Nat × PV))(O0:List (Nat × Nat × Cont))(hf:Fit s R O0)(h:∀s1:St,PWP P L x Q (s1.over R O0)):PWP P L x Q s:=by
 have:=h s;rwa [Fit.over hf]at this
set_option maxRecDepth 20000 in
theorem nt {Q:Exit->St->Prop}{a b:Nat}{asg body:Code}{sc:St}(c:CR)(hc:c.Lim)(y:RR){q:Rat}{n:Nat}(hy:Vq y q n)(hn:n<=9000000)(hSM:c.M.length=c.S.length)(V:Nat->RR){q0 q2 q3 g4 g7:Nat}{x1004:Cont}(s0:St)
  (hown:Fit s0 [] [(2000,q0,bX #[a,b] asg body .ready none sc.reg),(2002,q2,⟨134,2,[eC c],2⟩),(2003,q3,⟨42,4,[eR y],2⟩),(1004,g4,x1004),(1007,g7,⟨42,4,[eR (V 0)],2⟩)])
  (hround:∀i,i<c.S.length->¬q-c.s i<0->∀(b4:Nat) (bf:RR) (own:Nat->Nat × Option Cont),Fit { reg:=fun _ => .raw undef,own:=own } [] (Dj q0 q2 q3 g4 g7 b4 (bX #[a,b] asg body .ready none sc.reg) ⟨134,2,[eC c],2⟩ ⟨42,4,[eR y],2⟩ x1004 bf (V i)) ->
   ∀mG:Exit->St->Prop,(∀s2,Fit s2 [] (Dj q0 q2 q3 g4 g7 b4 (bX #[a,b] asg body .busy none sc.reg) ⟨134,2,[eC c],2⟩ ⟨42,4,[eR y],2⟩ x1004 bf (V (i+1)))->mG .normal s2) ->
   PWP Tryz.prog lay.get asg (aF (fun s2=>s2.own 2000=(q0,some (bX #[a,b] asg body .ready none sc.reg))/\PWP Tryz.prog lay.get body mG { reg:=s2.reg,own:=(s2.setOwn 2000 q0 (some (bX #[a,b] asg body .busy none sc.reg))).own }) (fun _ _=>False))
    { reg:=oB [(a,.agg (eR (ofQ (c.m i-bG c.m i)))),(b,.agg (eR (ofQ (q-c.s i))))] sc.reg,own:=own })
  (hend:∀i,i<=c.S.length->(i=c.S.length\/(i<c.S.length/\q-c.s i<0))->∀(b4:Nat) (bf:RR) (s2:St),Fit s2 [] (Dj q0 q2 q3 g4 g7 b4 (bX #[a,b] asg body .ready none sc.reg) ⟨134,2,[eC c],2⟩ ⟨42,4,[eR y],2⟩ x1004 bf (V i)) ->
   Q .normal { reg:=sc.reg,own:=(s2.setOwn 2000 (q0+1) none).own }) :
  PWP Tryz.prog lay.get ((Tryz.f291.body).getD .skip) (k8 sc 2000 q0 #[a,b] asg body Q) { reg:=fun t=>[PV.yl 2000 q0,.ptr 2002 q2 0 0,.ptr 2003 q3 0 0].getD t (.raw undef),own:=s0.own }:=by
 have hz:=eQ 0 Y Y;have hSl:(c.S.map eN).length=c.S.length:=ai;rw[<-Fit.over (l:=[]) hown];generalize hrd:bX #[a,b] asg body .ready none sc.reg=rd at *
 refine G hz ?_;refine H ?_;refine ao (fun k:Nat × Nat × RR=>k.1<=c.S.length/\k.2.2=Bt c k.1) (fun k=>[(0,.yl 2000 q0),(1,.ptr 2002 q2 0 0),(2,.ptr 2003 q3 0 0),(4,.ptr 4 k.2.1 0 0),(10,.sl (c.S.map eN)),(11,I c.S.length),(12,I (k.1:Nat))])
  (fun k=>Dj q0 q2 q3 g4 g7 k.2.1 rd ⟨134,2,[eC c],2⟩ ⟨42,4,[eR y],2⟩ x1004 k.2.2 (V k.1)) (fun k=>c.S.length-k.1) (0,_,Bt c 0) ⟨Nat.zero_le _,O⟩ ⟨O,O,O,O,O,by rw[<-hSl];rfl,O,O,O,O,O,O,O,trivial⟩ ?_
 rintro⟨i,b4,bf⟩ st ⟨hi,hbf⟩;simp only at hi hbf;subst hbf;dsimp only;refine D ?_ ?_<;>intro h
 .have hlt:i<c.S.length:=by have:=aB h;omega
  clear h;have hx:=b_ (d:=0) hlt;have hxb:=l_ hc i;have hnum:=eQ (c.S.getD i 0) hxb.1 hxb.2;have hzb:Zb (c.S.getD i 0):=aU hxb.1 hxb.2;have hsub:=lL y (ofQ ((c.S.getD i 0:Int):Rat)) (hx:=hy) J Y;have hfar:Vq (ofQ (q-((c.S.getD i 0:Int):Rat))) (q-c.s i) (n+1+4+1):=Vq.ofQ (h:=@HQ.sub _ _ (n+1) 4 hy.hq HQ.int);have hsg:=Do (ofQ (q-((c.S.getD i 0:Int):Rat))) (hx:=hfar) J;have hsl:=gw (q-c.s i);have hw:IntKind.i64.wrap (((i:Nat):Int)+1)=((i+1:Nat):Int):=by
   have:=c.S.length;rw[wrap_i64 J (by have:=hc.ls;omega)];omega
  refine aN hx ?_
  (repeat ((fail_if_success (with_reducible refine aR 4 ?_));refine b9 O ?_))
  refine aq (gH 7) ?_;refine bC 4 1 [17,18,19,20,7] [] aS O ?_;refine G hnum ?_;refine G hsub ?_;refine H ?_;refine Ae 13 [21,22,23,24,25,26,27,28,29,30,31,32,33] aS ?_;refine ap hsg ?_;refine cV ?_ ?_<;>intro h
  .have hneg:q-c.s i<0:=hsl.1 (aB h);clear h;refine H ?_;refine po ?_;refine H ?_;refine .inl ⟨by rw[<-hrd];rfl,?_⟩;exact hend i J (.inr ⟨hlt,hneg⟩) b4 _ _ ⟨O,O,O,O,O,O,trivial⟩
  .have hpos:¬q-c.s i<0:=fun h2=>(aG h) (hsl.2 h2);clear h;have hmx:=b_ (l:=c.M) (i:=i) (d:=RR.zero) J;have hmv:=si c hc i;have hbv:=oA c hc i;have hsub2:=lL (c.M.getD i RR.zero) (Bt c i) (hx:=hmv) (hy:=hbv) Y Y;refine aN hmx ?_;refine G hsub2 ?_;refine H ?_;refine xC O O O (AN (ps:=#[a,b]) (asg:=asg) (body:=body) (regs:=sc.reg) O O O (by rw[hrd];rfl) O ?_);rw[hrd];refine hround i hlt hpos b4 (Bt c i) _ (by exact⟨O,O,O,O,O,O,trivial⟩) _ (fun s2 hf=>?_);rw[<-Fit.over (l:=[]) hf];refine⟨O,?_⟩;refine po ?_;refine aN hmx ?_;refine H ?_;exact⟨(i+1,b4,Bt c (i+1)),⟨by simp only;omega,O⟩,by simp only;omega,O,O,O,O,O,O,congrArg I hw,by rw[<-hrd];rfl,O,O,O,O,O,trivial⟩
 .have hie:i=c.S.length:=by have:=aG h;omega
  clear h;refine H ?_;refine .inl ⟨by rw[<-hrd];rfl,?_⟩;exact hend i J (.inl hie) b4 _ _ ⟨O,O,O,O,O,O,trivial⟩
def lW:Code->Option (Array Tmp × Code × Code)
 |.rangeFunc _ ps a b=>some (ps,a,b)
 |.seq x y=>match lW x with|some r=>some r|none=>lW y
 |.block _ c=>lW c
 |.loop c=>lW c
 |.cond _ x y=>match lW x with|some r=>some r|none=>lW y
 |_=>none
theorem nl {c:CR}(hc:c.Lim)(k:Nat):HQ (c.m k-bG c.m k) 27:=@HQ.sub _ _ 13 13 (si c hc k).hq (oA c hc k).hq
theorem Ah {c:CR}(hc:c.Lim){q:Rat}{n:Nat}(h:HQ q n)(k:Nat):HQ (q-c.s k) (n+5):=by
 have hb:=l_ hc k;have hzb:Zb (c.S.getD k 0):=aU hb.1 hb.2;exact @HQ.sub _ _ n 4 h HQ.int
theorem vN {c:CR}(hc:c.Lim){q:Rat}{n:Nat}(h:HQ q n)(k:Nat):HQ (cT c.s c.m q k) (n+32):=by
 rw[cT];split
 .exact HQ.zero.mono J
 .exact(@HQ.mul _ _ 27 (n+5) (nl hc k) (Ah hc h k)).mono J
theorem pq {c:CR}(ha:∀k,k+1<c.S.length->c.s k<c.s (k+1)){f:Nat->Rat}{q:Rat}(hf:∀k,q-c.s k<0->f k=0){i:Nat}(hi:i<=c.S.length)(h:i=c.S.length\/(i<c.S.length/\q-c.s i<0)):aw f i=aw f c.S.length:=by
 rcases h with h|⟨h1,h2⟩
 .rw[h]
 .have key:∀m,i+m<=c.S.length->aw f (i+m)=aw f i/\(i+m<c.S.length->q-c.s (i+m)<0):=by
   intro m
   induction m with
   |zero=>intro _;exact⟨rfl,fun _=>h2⟩
   |succ m ih =>
    intro hm;obtain⟨e1,e2⟩:=ih J;have h3:=e2 J;refine⟨by rw[Nat.add_succ,aw,e1,hf _ h3];grind,fun hl=>?_⟩;have h4:=ha (i+m) J;rw[show i+(m+1)=i+m+1 by omega];grind
  have:=(key (c.S.length-i) J).1;rw[show i+(c.S.length-i)=c.S.length by omega]at this;exact this.symm
theorem oM {c:CR}:∀(k i:Nat),el c i k=0->∀j,i<=j->j<i+k->fj c j=0
 |0,i,_,j,h1,h2=>by omega
 |k+1,i,h,j,h1,h2=>by
  rw[el]at h;by_cases hs:fj c i=0
  .rw[if_pos hs]at h;by_cases hj:j=i
   .subst hj;exact hs
   .exact oM k (i+1) h j J J
  .rw[if_neg hs]at h;exact absurd h hs
theorem eo {c:CR}(h:cz c=0):c.S.length<=40/\c.M.length=c.S.length/\(∀k,k<c.S.length -> -10000000<=c.S.getD k 0/\c.S.getD k 0<=10000000/\0<=c.m k)/\∀k,k+1<c.S.length->c.s k<c.s (k+1):=by
 rw[cz]at h;split at h
 .omega
 .rename_i h1;split at h
  .omega
  .rename_i h2;have hs:=oM _ _ h;refine⟨J,J,fun k hk=>?_,fun k hk=>?_⟩
   .have:=hs k J J;rw[fj]at this;split at this
    .omega
    .rename_i h3;refine⟨J,J,?_⟩;rw[CR.m];have:¬(c.M.getD k RR.zero).val<0:=fun h=>h3 (.inr (.inr h));grind
   .have:=hs (k+1) J J;rw[fj]at this;split at this
    .omega
    .split at this
     .omega
     .rename_i h4;have h5:c.S.getD k 0<c.S.getD (k+1) 0:=by
       rw[show k+1-1=k by omega]at h4;omega
      rw[CR.s,CR.s]
      exact_mod_cast h5
theorem wH {c:CR}(h:cz c=0):Crv c.S.length c.s c.m:=⟨(eo h).2.2.2,fun k hk=>((eo h).2.2.1 k hk).2.2⟩
noncomputable def EF:Array Tmp × Code × Code:=(lW ((Tryz.f258.body).getD .skip)).getD (#[],.skip,.skip)
def vO (P:Program)(sc:St)(q0 q2 q3 g4 g7 b4:Nat)(pa pb:Nat)(asg body:Code)(x2 x3 x1004:Cont)(bf V0 V1 CH FA:RR):Prop :=
 ∀own:Nat->Nat × Option Cont,Fit { reg:=fun _ => .raw undef,own:=own } [] (Dj q0 q2 q3 g4 g7 b4 (bX #[pa,pb] asg body .ready none sc.reg) x2 x3 x1004 bf V0) ->
  ∀mG:Exit->St->Prop,(∀s2,Fit s2 [] (Dj q0 q2 q3 g4 g7 b4 (bX #[pa,pb] asg body .busy none sc.reg) x2 x3 x1004 bf V1)->mG .normal s2) ->
  PWP P lay.get asg (aF (fun s2=>s2.own 2000=(q0,some (bX #[pa,pb] asg body .ready none sc.reg))/\PWP P lay.get body mG { reg:=s2.reg,own:=(s2.setOwn 2000 q0 (some (bX #[pa,pb] asg body .busy none sc.reg))).own }) (fun _ _=>False))
   { reg:=oB [(pa,.agg (eR CH)),(pb,.agg (eR FA))] sc.reg,own:=own }
set_option maxRecDepth 20000 in
theorem tp {s0:St}{q0 q2 q3 g4 g7 b4:Nat}{x2 x3 x1004:Cont}{bf V0 V1 CH FA PR:RR}(hmul:Ret Tryz.prog .shared 109 [.agg (eR CH),.agg (eR FA)] (.agg (eR PR)))(hadd:Ret Tryz.prog .shared 91 [.agg (eR V0),.agg (eR PR)] (.agg (eR V1))) :
  vO Tryz.prog (s0.over [(7,.ptr 1007 g7 0 0)] []) q0 q2 q3 g4 g7 b4 20 21 EF.2.1 EF.2.2 x2 x3 x1004 bf V0 V1 CH FA:=by
 intro own hf mG hPost;have ho:own=(St.over { reg:=fun _ => .raw undef,own:=own } [] (Dj q0 q2 q3 g4 g7 b4 (bX #[20,21] EF.2.1 EF.2.2 .ready none (s0.over [(7,.ptr 1007 g7 0 0)] []).reg) x2 x3 x1004 bf V0)).own:=congrArg St.own (Fit.over hf).symm;rw[ho];clear ho hf;generalize (St.mk (fun _ => .raw undef) own)=s1;refine H ?_;refine⟨O,?_⟩;refine bT 5 [22,23,24,25,26] ?_;refine G hmul ?_;refine G hadd ?_;refine H ?_;exact hPost _ ⟨O,O,O,O,O,O,trivial⟩
set_option maxRecDepth 20000 in
theorem yj (c:CR)(hc:c.Lim)(h0:cz c=0)(y:RR){q:Rat}{n:Nat}[hy:Vq y q n](hn:n<=100000):Ret Tryz.prog .shared 258 [.agg (eC c),.agg (eR y)] (.tup [.agg (eR (ofQ (iU c.S.length c.s c.m q))),I 0]):=by
 have hcc:=ek c hc;rw[h0]at hcc;obtain⟨h40,hSM,-,hasc⟩:=eo h0;have hz:=eQ 0 Y Y;rw[show(((0:Int):Rat))=0 from O]at hz;have hsum:∀i,i<=40->Vq (ofQ (aw (cT c.s c.m q) i)) (aw (cT c.s c.m q) i) (i*(n+1+32+1)+4):=fun i _=>Vq.ofQ (h:=bF i fun k _=>vN hc hy.hq k);refine Ret.of_pwpR layOk mixed Go.Proofs.Tryz.func258 O Y O O O ?_;refine ap hcc ?_;refine G hz ?_
 (repeat ((fail_if_success (with_reducible refine aR 5 ?_));refine b9 O ?_))
 refine aq (Ghost.move (k:=2) (k':=1002) (t:=2) O O O O) ?_;refine aq (Ghost.move (k:=3) (k':=1003) (t:=3) O O O O) ?_;refine aq (Ghost.move (k:=4) (k':=1004) (t:=4) O O O O) ?_;refine aq (Ghost.move (k:=7) (k':=1007) (t:=7) O O O O) ?_
 ((repeat ((fail_if_success (with_reducible refine aR 5 ?_));refine b9 O ?_));refine aM 2 ?_)
 iterate 2 refine dD O ?_
 refine aO ?_;refine aW O (cF layOk O O Go.Proofs.Tryz.func284 O Y O O ?_)
 (repeat ((fail_if_success (with_reducible refine aR 1 ?_));refine b9 O ?_))
 refine aq (Ghost.move (k:=2) (k':=2002) (t:=2) O O O O) ?_;refine aq (Ghost.move (k:=3) (k':=2003) (t:=3) O O O O) ?_;refine H ?_;refine qi O O ?_;refine aJ ?_;refine H ?_;refine bj [(7,.ptr 1007 1 0 0),(4,.ptr 1004 1 0 0),(19,.clo 291 [.ptr 2002 1 0 0,.ptr 2003 1 0 0])] [(2002,1,⟨134,2,[eC c],2⟩),(2003,1,⟨42,4,[eR y],2⟩),(1004,1,⟨42,4,[[.bool false,.nil,.bool false,.nil]],2⟩),(1007,1,⟨42,4,[eR (ofQ 0)],2⟩)] ⟨O,O,O,O,O,O,O,trivial⟩ ?_;intro s3;refine sN (pr (ps:=#[20,21]) (asg:=EF.2.1) (body:=EF.2.2) 2000 O Go.Proofs.Tryz.func291 O O O O O O ?_);generalize hq0:(s3.own 2000).1+1=q0;refine nt (q:=q) (n:=n) (q0:=q0) (q2:=1) (q3:=1) (g4:=1) (g7:=1) c hc y hy J hSM (fun i=>ofQ (aw (cT c.s c.m q) i)) _ ⟨by rw[<-hq0];rfl,O,O,O,O,trivial⟩ ?_ ?_
 .intro i hi hpos b4 bf;have hmul:=eJ (ofQ (c.m i-bG c.m i)) (ofQ (q-c.s i)) (hx:=Vq.ofQ (h:=nl hc i)) (hy:=Vq.ofQ (h:=Ah hc hy.hq i)) Y J;have hadd:=dy (ofQ (aw (cT c.s c.m q) i)) (ofQ ((c.m i-bG c.m i)*(q-c.s i))) (hx:=hsum i J) (hy:=Vq.ofQ (h:=@HQ.mul _ _ 27 (n+1+5) (nl hc i) (Ah hc hy.hq i))) (by have:=Nat.mul_le_mul (show i<=40 by omega) (show n+1+32+1<=100034 by omega);omega) J;rw[show aw (cT c.s c.m q) i+(c.m i-bG c.m i)*(q-c.s i)=aw (cT c.s c.m q) (i+1) by rw[aw,cT,if_neg hpos]]at hadd;exact tp (s0:=s3.over [(4,.ptr 1004 1 0 0),(19,.clo 291 [.ptr 2002 1 0 0,.ptr 2003 1 0 0])] []) hmul hadd
 .intro i hi hor b4 bf s2 hf;have hres:aw (cT c.s c.m q) i=iU c.S.length c.s c.m q:=pq hasc (fun k hk=>by rw[cT,if_pos hk]) hi hor;dsimp only at hf;rw[hres]at hf;rw[<-Fit.over (l:=[]) hf];exact bI
namespace Bd
variable {b:Bd}
end Bd
namespace Bd
variable {b:Bd}
def lim (b:Bd)(i:Nat):Prop:=bG (b.M i) (b.n i)=0
def cap (b:Bd)(i:Nat):Rat:=n8 (b.n i) (b.S i) (b.M i)
end Bd
def InR (n:Nat)(S:Nat->Rat)(p:Nat)(y:Rat):Prop:=p<=n/\(∀k,p=k+1->S k<=y)/\(p<n->y<S p)
section
variable {n:Nat}{S M:Nat->Rat}{y:Rat}{p:Nat}
theorem InR.c (h:InR n S p y):Ey n S p y:=⟨h.1,h.2.1,fun hp=>by have:=h.2.2 hp;grind⟩
theorem InR.some (h:Crv n S M)(y:Rat):∀(m:Nat),m<=n->∃p,p<=m/\(∀k,p=k+1->S k<=y)/\(p<m->y<S p)
 |0,_=>⟨0,aP,fun k hk=>by omega,fun hk=>by omega⟩
 |m+1,hm=>by
  by_cases hy:S m<=y
  .exact⟨m+1,aP,fun k hk=>by
    have:k=m:=J
    subst this;exact hy,fun hk=>by omega⟩
  .obtain⟨p,h1,h2,h3⟩:=InR.some h y m J;refine⟨p,J,h2,fun _=>?_⟩;by_cases hp:p<m
   .exact h3 hp
   .have:p=m:=J;subst this;grind
theorem InR.get (h:Crv n S M)(y:Rat):∃p,InR n S p y:=InR.some h y n (aP)
end
namespace Bd
variable {b:Bd}
theorem exclude (h:b.Ok){z t A B:Rat}(hb:b.Bal z t)(hl:∀i,i<b.N->0<A+B*b.X i->b.lim i):b.w*(A+B*b.A)<=aw (fun i=>if 0<A+B*b.X i then b.cap i*(A+B*b.X i) else 0) b.N:=by
 have h1:b.w*(A+B*b.A)=aw (fun i=>b.f z t i*(A+B*b.X i)) b.N:=by
  have h2:=tk (f:=fun i=>b.f z t i*A) (g:=fun i=>b.f z t i*b.X i*B) (n:=b.N);rw[nP (f:=b.f z t),nP (f:=fun i=>b.f z t i*b.X i)]at h2;have h3:aw (fun i=>b.f z t i*(A+B*b.X i)) b.N=aw (fun i=>b.f z t i*A+b.f z t i*b.X i*B) b.N:=fR fun i _=>by grind
  rw[h3,h2];have e1:aw (b.f z t) b.N=b.w:=hb.1;have e2:aw (fun i=>b.f z t i*b.X i) b.N=b.w*b.A:=hb.2;rw[e1,e2];grind
 rw[h1];refine my fun i hi=>?_;have hnn:=FZ h (z:=z) (t:=t) hi;split
 .rename_i hv;have hc:=h.crv i hi;have hle:b.f z t i<=b.cap i:=by
   obtain⟨q,hq⟩:∃q,b.y z t i<=q/\Ey (b.n i) (b.S i) (b.n i) q:=by
    cases hn:b.n i with
    |zero=>exact⟨b.y z t i,Rat.le_refl,⟨aP,fun k hk=>by omega,fun hk=>by omega⟩⟩
    |succ k=>exact⟨b.y z t i+fK (b.S i k-b.y z t i),by simp only[fK];grind,⟨aP,fun k' hk'=>by
      obtain rfl:k=k':=J
      simp only[fK];grind,fun hk=>by omega⟩⟩
   have:=to hc hq.1;rw[Bi hc hq.2 (hl i hi hv)]at this;exact this
  have:=Rat.mul_nonneg (show 0<=b.cap i-b.f z t i by grind) (Rat.le_of_lt hv);grind
 .rename_i hv;have:=Rat.mul_nonneg hnn (show 0 <= -(A+B*b.X i) by grind);grind
end Bd
namespace Bd
structure Sz (b:Bd):Prop where
 N:b.N<=10
 n:∀i,i<b.N->b.n i<=5
 X:∀i,i<b.N->hq (b.X i) 4
 C:∀i,i<b.N->hq (b.C i) 9
 S:∀i,i<b.N->∀k,k<b.n i->hq (b.S i k) 4
 M:∀i,i<b.N->∀k,k<b.n i->hq (b.M i k) 4
 w:hq b.w 4
 A:hq b.A 8
variable {b:Bd}
theorem Sz.k (h:b.Sz){p:Nat->Nat}(hp:∀i,i<b.N->p i<=b.n i){i:Nat}(hi:i<b.N):HQ (b.k p i) 4:=by
 rw[Bd.k];have h1:=hp i hi;cases hpi:p i with
 |zero=>rw[bG];exact HQ.zero
 |succ m=>exact⟨h.M i hi m J⟩
theorem Sz.bef (h:b.Sz){i:Nat}(hi:i<b.N){k:Nat}(hk:k<b.n i):HQ (bG (b.M i) k) 4:=by
 cases k with
 |zero=>rw[bG];exact HQ.zero
 |succ m=>exact⟨h.M i hi m J⟩
theorem Sz.o (h:b.Sz){p:Nat->Nat}(hp:∀i,i<b.N->p i<=b.n i){i:Nat}(hi:i<b.N):HQ (b.o p i) 74:=by
 rw[Bd.o,kG];have h1:=hp i hi;have h2:=h.n i hi;refine(bF (m:=13) (p i) fun k hk=>?_).mono J;have:=h.bef hi (k:=k) J;have:HQ (b.M i k) 4:=⟨h.M i hi k J⟩;have:HQ (b.S i k) 4:=⟨h.S i hi k J⟩;show HQ ((b.M i k-bG (b.M i) k)*b.S i k) 13;exact inferInstanceAs (HQ ((b.M i k-bG (b.M i) k)*b.S i k) (4+4+1+4))
theorem Sz.Kh (h:b.Sz){p:Nat->Nat}(hp:∀i,i<b.N->p i<=b.n i):HQ (b.Kh p) 54:=by
 have:=h.N;exact(bF (m:=4) b.N fun i hi=>h.k hp hi).mono J
theorem Sz.Kc (h:b.Sz){p:Nat->Nat}(hp:∀i,i<b.N->p i<=b.n i):HQ (b.Kc p) 94:=by
 have:=h.N;refine(bF (m:=8) b.N fun i hi=>?_).mono J;have:=h.k hp hi;have:HQ (b.X i) 4:=⟨h.X i hi⟩;exact inferInstanceAs (HQ (b.k p i*b.X i) (4+4))
theorem Sz.Kp (h:b.Sz){p:Nat->Nat}(hp:∀i,i<b.N->p i<=b.n i):HQ (b.Kp p) 134:=by
 have:=h.N;refine(bF (m:=12) b.N fun i hi=>?_).mono J;have:=h.k hp hi;have:HQ (b.X i) 4:=⟨h.X i hi⟩;exact inferInstanceAs (HQ (b.k p i*b.X i*b.X i) (4+4+4))
theorem Sz.Fo (h:b.Sz){p:Nat->Nat}(hp:∀i,i<b.N->p i<=b.n i):HQ (b.Fo p) 894:=by
 have:=h.N;refine(bF (m:=88) b.N fun i hi=>?_).mono J;have:=h.k hp hi;have:=h.o hp hi;have:HQ (b.C i) 9:=⟨h.C i hi⟩;exact inferInstanceAs (HQ (b.k p i*b.C i-b.o p i) (4+9+74+1))
theorem Sz.Go (h:b.Sz){p:Nat->Nat}(hp:∀i,i<b.N->p i<=b.n i):HQ (b.Go p) 934:=by
 have:=h.N;refine(bF (m:=92) b.N fun i hi=>?_).mono J;have:=h.k hp hi;have:=h.o hp hi;have:HQ (b.C i) 9:=⟨h.C i hi⟩;have:HQ (b.X i) 4:=⟨h.X i hi⟩;exact inferInstanceAs (HQ ((b.k p i*b.C i-b.o p i)*b.X i) (4+9+74+1+4))
end Bd
def pg (S:Nat->Rat)(y:Rat):Nat->Nat
 |0=>0
 |m+1=>if S m<y then m+1 else pg S y m
def l6 (S:Nat->Rat)(y:Rat):Nat->Nat
 |0=>0
 |m+1=>if S m<=y then m+1 else l6 S y m
theorem sE {S:Nat->Rat}{y:Rat}:∀m,pg S y m<=m/\(∀k,pg S y m=k+1->S k<y)/\(pg S y m<m->y<=S (pg S y m))
 |0=>⟨aP,fun k hk=>by simp[pg]at hk,fun h=>by simp[pg]at h⟩
 |m+1=>by
  obtain⟨h1,h2,h3⟩:=sE (S:=S) (y:=y) m;rw[pg];split
  .rename_i hy;exact⟨aP,fun k hk=>by
    have:k=m:=J
    subst this;exact hy,fun h=>by omega⟩
  .rename_i hy;refine⟨J,h2,fun _=>?_⟩;by_cases hp:pg S y m<m
   .exact h3 hp
   .rw[show pg S y m=m by omega];grind
theorem sH {S:Nat->Rat}{y:Rat}:∀m,l6 S y m<=m/\(∀k,l6 S y m=k+1->S k<=y)/\(l6 S y m<m->y<S (l6 S y m))
 |0=>⟨aP,fun k hk=>by simp[l6]at hk,fun h=>by simp[l6]at h⟩
 |m+1=>by
  obtain⟨h1,h2,h3⟩:=sH (S:=S) (y:=y) m;rw[l6];split
  .rename_i hy;exact⟨aP,fun k hk=>by
    have:k=m:=J
    subst this;exact hy,fun h=>by omega⟩
  .rename_i hy;refine⟨J,h2,fun _=>?_⟩;by_cases hp:l6 S y m<m
   .exact h3 hp
   .rw[show l6 S y m=m by omega];grind
theorem Aa {n:Nat}{S:Nat->Rat}{y:Rat}:InL n S (pg S y n) y:=sE n
theorem DV {n:Nat}{S:Nat->Rat}{y:Rat}:InR n S (l6 S y n) y:=sH n
theorem InL.uniq {n:Nat}{S M:Nat->Rat}(h:Crv n S M){p q:Nat}{y:Rat}(h1:InL n S p y)(h2:InL n S q y):p=q:=by
 have key:∀ {p q:Nat},InL n S p y->InL n S q y->p<q->False:=by
  intro p q h1 h2 hlt;obtain⟨k,rfl⟩:∃k,q=k+1:=⟨q-1,J⟩;have g1:=h2.2.1 k O;have g2:=h1.2.2 (by have:=h2.1;omega);have:=h.mono_st (i:=p) (j:=k) J (by have:=h2.1;omega);grind
 rcases Nat.lt_trichotomy p q with g|g|g
 .exact(key h1 h2 g).elim
 .exact g
 .exact(key h2 h1 g).elim
theorem InR.uniq {n:Nat}{S M:Nat->Rat}(h:Crv n S M){p q:Nat}{y:Rat}(h1:InR n S p y)(h2:InR n S q y):p=q:=by
 have key:∀ {p q:Nat},InR n S p y->InR n S q y->p<q->False:=by
  intro p q h1 h2 hlt;obtain⟨k,rfl⟩:∃k,q=k+1:=⟨q-1,J⟩;have g1:=h2.2.1 k O;have g2:=h1.2.2 (by have:=h2.1;omega);have:=h.mono_st (i:=p) (j:=k) J (by have:=h2.1;omega);grind
 rcases Nat.lt_trichotomy p q with g|g|g
 .exact(key h1 h2 g).elim
 .exact g
 .exact(key h2 h1 g).elim
namespace Bd
def pL (b:Bd)(z t:Rat)(i:Nat):Nat:=pg (b.S i) (b.y z t i) (b.n i)
def pR (b:Bd)(z t:Rat)(i:Nat):Nat:=l6 (b.S i) (b.y z t i) (b.n i)
def newt (kh kc kp fo mo:Rat):Option (Rat × Rat):=if kh*kp-kc*kc=0 then none else some ((kp*fo-kc*mo)/(kh*kp-kc*kc),(kh*mo-kc*fo)/(kh*kp-kc*kc))
def tryP (b:Bd)(z t:Rat)(p:Nat->Nat):Option (Rat × Rat):=match newt (b.Kh p) (b.Kc p) (b.Kp p) (b.w-b.F z t) (-(b.e z t)) with
 |none=>none
 |some d=>if b.F (z+d.1) (t+d.2)=b.w/\b.G0 (z+d.1) (t+d.2)=b.w*b.A then some (z+d.1,t+d.2) else none
def guess (b:Bd)(z t:Rat):Option (Rat × Rat):=match b.tryP z t (b.pR z t) with
 |some x=>some x
 |none=>b.tryP z t (b.pL z t)
noncomputable def sg (b:Bd)(t:Rat):Rat:=Classical.epsilon fun z=>b.Least z t
noncomputable def E (b:Bd)(t:Rat):Rat:=b.e (b.sg t) t
open Classical in
noncomputable def dbl (b:Bd)(s:Rat):Nat->Rat->Option Rat
 |0,_=>none
 |n+1,w=>if s*b.E (s*w)<0 then dbl b s n (w+w) else some w
noncomputable def at1 (b:Bd)(t:Rat):Option (Rat × Rat):=if b.E t=0 then some (b.sg t,t) else b.guess (b.sg t) t
noncomputable def bis (b:Bd):Nat->Rat->Rat->Option (Rat × Rat)
 |0,_,_=>none
 |n+1,lo,hi=>match b.at1 ((lo+hi)/2) with
  |some x=>some x
  |none=>if b.E ((lo+hi)/2)<0 then bis b n ((lo+hi)/2) hi else bis b n lo ((lo+hi)/2)
noncomputable def fst3 (b:Bd)(lo hi:Rat):Option (Rat × Rat):=match b.at1 0 with
 |some x=>some x
 |none=>match b.at1 lo with
  |some x=>some x
  |none=>b.at1 hi
variable {b:Bd}
theorem AF {t:Rat}(h:∃z,b.Least z t):b.Least (b.sg t) t:=Classical.epsilon_spec h
theorem sg_eq {z t:Rat}(h:b.Least z t):b.sg t=z:=Least.uniq (AF ⟨z,h⟩) h
noncomputable def eqQ (b:Bd)(n:Nat):Option (Rat × Rat):=match b.dbl (-1) n 1,b.dbl 1 n 1 with
 |some wl,some wh=>(match b.fst3 (-wl) wh with
  |some x=>some x
  |none=>b.bis n (-wl) wh)
 |_,_=>none
end Bd
def dK:List (Rat × Rat)->Rat->Rat
 |[],_=>0
 |x::l,z=>x.2*fK (z-x.1)+dK l z
def kn:List (Rat × Rat)->Rat
 |[]=>0
 |x::l=>x.2+kn l
theorem iK (l m:List (Rat × Rat))(z:Rat):dK (l++m) z=dK l z+dK m z:=by
 induction l with
 |nil=>rw[List.nil_append,dK];grind
 |cons x l ih=>rw[List.cons_append,dK,dK,ih];grind
theorem ry (l m:List (Rat × Rat)):kn (l++m)=kn l+kn m:=by
 induction l with
 |nil=>rw[List.nil_append,kn];grind
 |cons x l ih=>rw[List.cons_append,kn,kn,ih];grind
theorem xj {l m:List (Rat × Rat)}(h:l.Perm m)(z:Rat):dK l z=dK m z:=by
 induction h with
 |nil=>rfl
 |cons x _ ih=>rw[dK,dK,ih]
 |swap x y l=>simp only[dK];grind
 |trans _ _ h1 h2=>rw[h1,h2]
theorem jQ {l:List (Rat × Rat)}{z:Rat}(h:∀x∈l,z<=x.1):dK l z=0:=by
 induction l with
 |nil=>rfl
 |cons x l ih =>
  have h1:=h x ai;rw[dK,ih fun y hy=>h y (by simp[hy]),fK,if_neg cH];grind
theorem lX {l:List (Rat × Rat)}{a z:Rat}(h:∀x∈l,x.1<=a)(hz:a<=z):dK l z=dK l a+kn l*(z-a):=by
 induction l with
 |nil=>simp only[dK,kn];grind
 |cons x l ih =>
  have h1:=h x ai;have e1:fK (z-x.1)=z-x.1:=by rw[fK];grind
  have e2:fK (a-x.1)=a-x.1:=by rw[fK];grind
  simp only[dK,kn];rw[ih fun y hy=>h y (by simp[hy]),e1,e2];grind
def yz (w:Rat):List (Rat × Rat)->Rat->Rat->Rat->Rat
 |[],c,k,a=>if 0<k then a+(w-c)/k else a
 |x::l,c,k,a=>if 0<k then(if w<=c+k*(x.1-a) then a+(w-c)/k else yz w l (c+k*(x.1-a)) (k+x.2) x.1) else yz w l c (k+x.2) x.1
theorem Dh {Φ:Rat->Rat}{w c k a:Rat}(hm:∀x y,x<=y->Φ x<=Φ y)(ha:Φ a=c)(hc:c<w)(hk:0<k)(hu:∀z,a<=z->z<=a+(w-c)/k->Φ z=c+k*(z-a)):Φ (a+(w-c)/k)=w/\∀z',z'<a+(w-c)/k->Φ z'<w:=by
 have hq:(w-c)/k*k=w-c:=Rat.div_mul_cancel cH;have h0:0<=(w-c)/k:=by rw[Rat.div_def];exact Rat.mul_nonneg cH (Rat.le_of_lt (Rat.inv_pos.2 hk))
 generalize (w-c)/k=d at *
 refine⟨by rw[hu _ cH Rat.le_refl];grind,fun z' hz=>?_⟩;rcases Classical.em (a<=z') with h|h
 .rw[hu z' h cH];have:=Rat.mul_pos hk (show 0<a+d-z' by grind);grind
 .have:=hm z' a cH;grind
theorem Em {w:Rat}{Φ:Rat->Rat}(hm:∀x y,x<=y->Φ x<=Φ y)(hw:0<w)(hex:∃z,w<=Φ z):∀(R P:List (Rat × Rat)) (c k a:Rat),(∀z,Φ z=dK P z+dK R z)->R.Pairwise (fun x y=>x.1<=y.1) ->
  ((P=[]/\c=0/\k=0)\/((∀x∈P,x.1<=a)/\(∀x∈R,a<=x.1)/\Φ a=c/\c<w/\k=kn P))->Φ (yz w R c k a)=w/\∀z',z'<yz w R c k a->Φ z'<w:=by
 intro R
 induction R with
 |nil =>
  intro P c k a hΦ _ h;obtain⟨z0,hz0⟩:=hex;rcases h with⟨rfl,rfl,rfl⟩|⟨h1,_,h3,h4,h5⟩
  .exfalso;rw[hΦ]at hz0;simp only[dK]at hz0;grind
  .have hline:∀z,a<=z->Φ z=c+k*(z-a):=fun z hz=>by
    have e1:=hΦ z;have e2:=hΦ a;rw[lX h1 hz,<-h5]at e1;simp only[dK]at e1 e2;grind
   rw[yz];split
   .rename_i hk;exact Dh hm h3 h4 hk fun z hz _=>hline z hz
   .rename_i hk;exfalso;rcases Classical.em (a<=z0) with hz|hz
    .rw[hline z0 hz]at hz0;have:=Rat.mul_nonneg (show 0 <= -k by grind) (show 0<=z0-a by grind);grind
    .have:=hm z0 a cH;grind
 |cons x R ih =>
  intro P c k a hΦ hs h;rw[List.pairwise_cons]at hs;have hΦ':∀z,Φ z=dK (P++[x]) z+dK R z:=fun z=>by
   rw[hΦ,iK];simp only[dK];grind
  rcases h with⟨rfl,rfl,rfl⟩|⟨h1,h2,h3,h4,h5⟩
  .rw[yz,if_neg cH];refine ih ([]++[x]) 0 (0+x.2) x.1 hΦ' hs.2 (.inr ⟨fun y hy=>by simp at hy;subst hy;exact Rat.le_refl,fun y hy=>hs.1 y hy,?_,hw,by simp only[kn,List.nil_append];grind⟩);rw[hΦ,jQ (l:=x::R) fun y hy=>?_]
   .simp only[dK];grind
   .rcases List.mem_cons.1 hy with rfl|hy
    .exact Rat.le_refl
    .exact hs.1 y hy
  .have hax:=h2 x ai;have hline:∀z,a<=z->z<=x.1->Φ z=c+k*(z-a):=fun z hz hzx=>by
    have e1:=hΦ z;have e2:=hΦ a;rw[lX h1 hz,<-h5,jQ (l:=x::R) fun y hy=>?_]at e1
    .rw[jQ (l:=x::R) fun y hy=>h2 y hy]at e2;grind
    .rcases List.mem_cons.1 hy with rfl|hy
     .exact hzx
     .have:=hs.1 y hy;grind
   have hx1:=hline x.1 hax Rat.le_refl;have hP:∀y∈P++[x],y.1<=x.1:=fun y hy=>by
    rcases List.mem_append.1 hy with hy|hy
    .have:=h1 y hy;grind
    .simp at hy;subst hy;exact Rat.le_refl
   have hcs:k+x.2=kn (P++[x]):=by rw[ry,<-h5];simp only[kn];grind
   rw[yz];split
   .rename_i hk;split
    .rename_i hle;refine Dh hm h3 h4 hk fun z hz hz2=>hline z hz ?_;have hq:(w-c)/k*k=w-c:=Rat.div_mul_cancel cH;generalize (w-c)/k=d at *
     rcases Classical.em (z<=x.1) with hc|hc
     .exact hc
     .have:=Rat.mul_pos hk (show 0<a+d-x.1 by grind);grind
    .rename_i hlt;exact ih (P++[x]) _ _ _ hΦ' hs.2 (.inr ⟨hP,fun y hy=>hs.1 y hy,hx1,cH,hcs⟩)
   .rename_i hk;have h6:=hm a x.1 hax;have h7:=Rat.mul_nonneg (show 0 <= -k by grind) (show 0<=x.1-a by grind);exact ih (P++[x]) _ _ _ hΦ' hs.2 (.inr ⟨hP,fun y hy=>hs.1 y hy,cH,h4,hcs⟩)
namespace Bd
variable {b:Bd}
def bnd1 (b:Bd)(t:Rat)(i:Nat):List (Rat × Rat):=(List.range (b.n i)).map fun k=>(b.S i k-(b.C i+t*b.X i),b.M i k-bG (b.M i) k)
def bnds (b:Bd)(t:Rat):List (Rat × Rat):=(List.range b.N).flatMap (b.bnd1 t)
theorem yM (b:Bd)(z t:Rat)(i:Nat):dK (b.bnd1 t i) z=b.f z t i:=by
 have key:∀m,dK ((List.range m).map fun k=>(b.S i k-(b.C i+t*b.X i),b.M i k-bG (b.M i) k)) z=aw (cT (b.S i) (b.M i) (b.y z t i)) m:=by
  intro m
  induction m with
  |zero=>rfl
  |succ m ih =>
   rw[List.range_succ,List.map_append,iK,ih,aw,lD];simp only[List.map_cons,List.map_nil,dK];rw[show z-(b.S i m-(b.C i+t*b.X i))=b.y z t i-b.S i m by rw[y];grind];grind
 exact key (b.n i)
theorem yN (b:Bd)(z t:Rat):dK (b.bnds t) z=b.F z t:=by
 have key:∀m,dK ((List.range m).flatMap (b.bnd1 t)) z=aw (b.f z t) m:=by
  intro m
  induction m with
  |zero=>rfl
  |succ m ih =>
   rw[List.range_succ,List.flatMap_append,iK,ih,aw];simp only[List.flatMap_cons,List.flatMap_nil,List.append_nil,yM]
 exact key b.N
theorem settled_least (h:b.Ok){t:Rat}(hex:∃z,b.w<=b.F z t){l:List (Rat × Rat)}(hp:l.Perm (b.bnds t))(hs:l.Pairwise fun x y=>x.1<=y.1):b.Least (yz b.w l 0 0 0) t:=by
 refine Em (Φ:=fun z=>b.F z t) (fun x y hxy=>Dv h hxy) h.pos hex l [] 0 0 0 (fun z=>?_) hs (.inl ⟨O,O,O⟩);rw[xj hp,yN,dK];grind
end Bd
def uQ (n:Nat)(S:Nat->Rat)(y:Rat)(k:Nat):Rat:=fK (uO S n y k-S k)
def DU (n:Nat)(S M:Nat->Rat)(y:Rat)(k:Nat):Rat:=M k*(uQ n S y k*(y-S k)-uQ n S y k*uQ n S y k/2)
def GD (n:Nat)(S M:Nat->Rat)(y:Rat):Rat:=aw (DU n S M y) n
namespace Bd
variable {b:Bd}
def U (b:Bd)(z t:Rat):Rat:=aw (fun i=>GD (b.n i) (b.S i) (b.M i) (b.y z t i)) b.N-b.w*(z+t*b.A)
end Bd
def f_ (S M:Nat->Rat)(y:Rat)(k:Nat):Rat:=if y-S k<0 then 0 else M k-bG M k
def AJ (n:Nat)(S M:Nat->Rat)(y:Rat):Rat:=aw (f_ S M y) n
theorem Cw {c:CR}(hc:c.Lim)(q:Rat)(k:Nat):HQ (f_ c.s c.m q k) 27:=by
 rw[f_];split
 .exact HQ.zero.mono J
 .exact nl hc k
noncomputable def EB:Array Tmp × Code × Code:=(lW ((Tryz.f281.body).getD .skip)).getD (#[],.skip,.skip)
set_option maxRecDepth 20000 in
theorem th {s0:St}{q0 q2 q3 g4 g7 b4:Nat}{x2 x3 x1004:Cont}{bf V0 V1 CH FA:RR}(hadd:Ret Tryz.prog .shared 91 [.agg (eR V0),.agg (eR CH)] (.agg (eR V1))) :
  vO Tryz.prog (s0.over [(7,.ptr 1007 g7 0 0)] []) q0 q2 q3 g4 g7 b4 19 20 EB.2.1 EB.2.2 x2 x3 x1004 bf V0 V1 CH FA:=by
 intro own hf mG hPost;have ho:own=(St.over { reg:=fun _ => .raw undef,own:=own } [] (Dj q0 q2 q3 g4 g7 b4 (bX #[19,20] EB.2.1 EB.2.2 .ready none (s0.over [(7,.ptr 1007 g7 0 0)] []).reg) x2 x3 x1004 bf V0)).own:=congrArg St.own (Fit.over hf).symm;rw[ho];clear ho hf;generalize (St.mk (fun _ => .raw undef) own)=s1;refine H ?_;refine⟨O,?_⟩;refine G hadd ?_;refine H ?_;exact hPost _ ⟨O,O,O,O,O,O,trivial⟩
set_option maxRecDepth 20000 in
theorem x6 (c:CR)(hc:c.Lim)(h0:cz c=0)(y:RR){q:Rat}{n:Nat}[hy:Vq y q n](hn:n<=100000):Ret Tryz.prog .shared 281 [.agg (eC c),.agg (eR y)] (.tup [.agg (eR (ofQ (AJ c.S.length c.s c.m q))),I 0]):=by
 have hcc:=ek c hc;rw[h0]at hcc;obtain⟨h40,hSM,-,hasc⟩:=eo h0;have hz:=eQ 0 Y Y;rw[show(((0:Int):Rat))=0 from O]at hz;have hsum:∀i,i<=40->Vq (ofQ (aw (f_ c.s c.m q) i)) (aw (f_ c.s c.m q) i) (i*(27+1)+4):=fun i _=>Vq.ofQ (h:=bF i fun k _=>Cw hc q k);refine Ret.of_pwpR layOk mixed Go.Proofs.Tryz.func281 O Y O O O ?_;refine ap hcc ?_;refine G hz ?_
 (repeat ((fail_if_success (with_reducible refine aR 5 ?_));refine b9 O ?_))
 refine aq (Ghost.move (k:=2) (k':=1002) (t:=2) O O O O) ?_;refine aq (Ghost.move (k:=3) (k':=1003) (t:=3) O O O O) ?_;refine aq (Ghost.move (k:=4) (k':=1004) (t:=4) O O O O) ?_;refine aq (Ghost.move (k:=7) (k':=1007) (t:=7) O O O O) ?_
 ((repeat ((fail_if_success (with_reducible refine aR 5 ?_));refine b9 O ?_));refine aM 2 ?_)
 iterate 2 refine dD O ?_
 refine aO ?_;refine aW O (cF layOk O O Go.Proofs.Tryz.func284 O Y O O ?_)
 (repeat ((fail_if_success (with_reducible refine aR 1 ?_));refine b9 O ?_))
 refine aq (Ghost.move (k:=2) (k':=2002) (t:=2) O O O O) ?_;refine aq (Ghost.move (k:=3) (k':=2003) (t:=3) O O O O) ?_;refine H ?_;refine qi O O ?_;refine aJ ?_;refine H ?_;refine bj [(7,.ptr 1007 1 0 0),(4,.ptr 1004 1 0 0),(18,.clo 291 [.ptr 2002 1 0 0,.ptr 2003 1 0 0])] [(2002,1,⟨134,2,[eC c],2⟩),(2003,1,⟨42,4,[eR y],2⟩),(1004,1,⟨42,4,[[.bool false,.nil,.bool false,.nil]],2⟩),(1007,1,⟨42,4,[eR (ofQ 0)],2⟩)] ⟨O,O,O,O,O,O,O,trivial⟩ ?_;intro s3;refine sN (pr (ps:=#[19,20]) (asg:=EB.2.1) (body:=EB.2.2) 2000 O Go.Proofs.Tryz.func291 O O O O O O ?_);generalize hq0:(s3.own 2000).1+1=q0;refine nt (q:=q) (n:=n) (q0:=q0) (q2:=1) (q3:=1) (g4:=1) (g7:=1) c hc y hy J hSM (fun i=>ofQ (aw (f_ c.s c.m q) i)) _ ⟨by rw[<-hq0];rfl,O,O,O,O,trivial⟩ ?_ ?_
 .intro i hi hpos b4 bf;have hadd:=dy (ofQ (aw (f_ c.s c.m q) i)) (ofQ (c.m i-bG c.m i)) (hx:=hsum i J) (hy:=Vq.ofQ (h:=nl hc i)) J Y;rw[show aw (f_ c.s c.m q) i+(c.m i-bG c.m i)=aw (f_ c.s c.m q) (i+1) by rw[aw,f_,if_neg hpos]]at hadd;exact th (s0:=s3.over [(4,.ptr 1004 1 0 0),(18,.clo 291 [.ptr 2002 1 0 0,.ptr 2003 1 0 0])] []) hadd
 .intro i hi hor b4 bf s2 hf;have hres:aw (f_ c.s c.m q) i=AJ c.S.length c.s c.m q:=pq hasc (fun k hk=>by rw[f_,if_pos hk]) hi hor;dsimp only at hf;rw[hres]at hf;rw[<-Fit.over (l:=[]) hf];exact bI
def Weak (a b:PV):Prop:=∀(w:World) (ok:Nat->Prop) (v:Value),DRep w ok a v->DRep w ok b v
theorem Weak.rfl (a:PV):Weak a a:=fun _ _ _ h=>h
theorem Weak.nil:Weak .nil (.sl []):=fun w ok v h=>by cases h;exact .sl0 none 0
inductive WeakL:List PV->List PV->Prop
 |nil:WeakL [] []
 |cons {a b:PV} {l m:List PV}:Weak a b->WeakL l m->WeakL (a::l) (b::m)
theorem WeakL.refl:∀l,WeakL l l
 |[] => .nil
 |a::l => .cons (.rfl a) (WeakL.refl l)
theorem WeakL.spec {l m:List PV}(h:WeakL l m):l.length=m.length/\∀(i:Nat) (b:PV),m[i]? = some b->∃a,l[i]? = some a/\Weak a b:=by
 induction h with
 |nil=>exact⟨by rfl,fun i b hb=>by simp at hb⟩
 |cons h1 _ ih =>
  refine⟨by simp[ih.1],fun i b hb=>?_⟩;cases i with
  |zero=>simp at hb;subst hb;exact⟨_,by rfl,h1⟩
  |succ i=>simpa using ih.2 i b (by simpa using hb)
theorem WeakL.agg {l m:List PV}(h:WeakL l m):Weak (.agg l) (.agg m):=fun w ok v hv=>by
 cases hv with
 |agg _ vs hl hd =>
  refine .agg _ vs (by rw[<-h.spec.1];exact hl) fun i c u hc hu=>?_;obtain⟨a,ha,hw⟩:=h.spec.2 i c hc;exact hw _ _ _ (hd i a u ha hu)
theorem WeakL.tup {l m:List PV}(h:WeakL l m):Weak (.tup l) (.tup m):=fun w ok v hv=>by
 cases hv with
 |tup _ vs hl hd =>
  refine .tup _ vs (by rw[<-h.spec.1];exact hl) fun i c u hc hu=>?_;obtain⟨a,ha,hw⟩:=h.spec.2 i c hc;exact hw _ _ _ (hd i a u ha hu)
theorem Ret.weak {P:Program}{m:Mode}{f:FuncId}{pargs pargs':List PV}{r r':PV}(h:Ret P m f pargs r')(ha:WeakL pargs' pargs)(hr:Weak r' r):Ret P m f pargs' r:=by
 obtain⟨hc,h⟩:=h;refine⟨hc,fun w X args hg hX hl hargs=>?_⟩;refine(h w X args hg hX (by rw[<-ha.spec.1];exact hl) fun i c v e1 e2=>?_).mono ?_
 .obtain⟨a,e3,hw⟩:=ha.spec.2 i c e1;exact hw _ _ _ (hargs i a v e3 e2)
 .rintro e w' ⟨u,h1,h2,h3⟩;exact⟨u,h1,h2,hr _ _ _ h3⟩
def zN:List PV:=[.bool false,.nil,.bool false,.nil]
theorem dP:WeakL zN (eR RR.zero) := .cons (.rfl _) (.cons .nil (.cons (.rfl _) (.cons .nil .nil)))
theorem bx (z:Int)(h:i64 z):Ret Tryz.prog .shared 199 [I z] (.agg (eR (ofQ (z:Rat)))):=by
 have ho:=qr z h.1 h.2;have hw:=jd (ci z) (by have:=iO (z:=z) (by obtain⟨h1,h2⟩:=h;omega);omega);rw[cd]at hw;generalize ofQ (z:Rat)=X at *
 generalize ci z=Z at *
 refine Ret.of_pwp layOk mixed Go.Proofs.Tryz.func199 O Y O O ?_;refine G ho ?_;refine G hw ?_;exact bI
theorem nI (x:RR){p:Rat}{n:Nat}[hx:Vq x p n](hn:n<=8000000):Ret Tryz.prog .shared 202 [.agg (eR x)] (I (sgn p)):=by
 have hc:=mP x RR.zero hn Y;rw[Rat.sub_eq_add_neg,Rat.neg_zero,Rat.add_zero]at hc;have hc2:=hc.weak (.cons (.rfl _) (.cons dP.agg .nil)) (.rfl _);generalize sgn p=g at *
 refine Ret.of_pwp layOk mixed Go.Proofs.Tryz.func202 O Y O O ?_;refine ap hc2 ?_;exact bq
theorem sy (x y:RR){p q:Rat}{n m:Nat}[hx:Vq x p n][hy:Vq y q m](hn:n<=20000000)(hm:m<=20000000)(h0:q≠0):Ret Tryz.prog .shared 207 [.agg (eR x),.agg (eR y)] (.agg (eR (ofQ (p/q)))):=by
 have hq:=sP x y hn hm;rw[if_neg h0]at hq;generalize ofQ (p/q)=X at *
 refine Ret.of_pwp layOk mixed Go.Proofs.Tryz.func207 O Y O O ?_;refine G hq ?_;exact bI
theorem Fa (x:RR){p:Rat}{n:Nat}[hx:Vq x p n](hn:n<=10000000):Ret Tryz.prog .shared 205 [.agg (eR x)] (.agg (eR (ofQ (-p)))):=by
 have hs:=lL RR.zero x Y hn;rw[Rat.sub_eq_add_neg,Rat.zero_add]at hs;have hs2:=hs.weak (.cons dP.agg (.cons (.rfl _) .nil)) (.rfl _);generalize ofQ (-p)=X at *
 refine Ret.of_pwp layOk mixed Go.Proofs.Tryz.func205 O Y O O ?_;refine G hs2 ?_;exact bI
theorem BW (x:RR){p:Rat}{n:Nat}[hx:Vq x p n](hn:n<=10000000):Ret Tryz.prog .shared 233 [.agg (eR x)] (.agg (eR (ofQ p))):=by
 have hs:=dy x RR.zero J Y;rw[Rat.add_zero]at hs;have hs2:=hs.weak (.cons (.rfl _) (.cons dP.agg .nil)) (.rfl _);generalize ofQ p=X at *
 refine Ret.of_pwp layOk mixed Go.Proofs.Tryz.func233 O Y O O ?_;refine G hs2 ?_;exact bI
structure SR.Lim (s:SR):Prop where
 x:i64 s.x
 c:s.c.sz 12
 k:s.k.Lim
def yQ (s:SR)(z t:Rat):Rat:=s.c.val+(z+t*(s.x:Rat))
theorem wk {s:SR}(hs:s.Lim){z t:Rat}{n m:Nat}(hz:HQ z n)(ht:HQ t m):HQ (yQ s z t) (13+(n+(m+4)+1)+1):=by
 have hx:Zb s.x:=aU hs.x.1 hs.x.2;exact @HQ.add _ _ 13 (n+(m+4)+1) hs.c.v.hq (@HQ.add _ _ n (m+4) hz (@HQ.mul _ _ m 4 ht HQ.int))
structure AR where
 z:RR
 t:RR
def eA (a:AR):List PV:=eR a.z++eR a.t
class Va (a:AR) (z t:outParam Rat) (n m:outParam Nat):Prop where
 z:Vq a.z z n
 t:Vq a.t t m
theorem k_ (s:SR)(hs:s.Lim)(a:AR){z t:Rat}{n m:Nat}[ha:Va a z t n m](hn:n<=1000000)(hm:m<=1000000):Ret Tryz.prog .shared 259 [.agg (eS s),.agg (eA a)] (.agg (eR (ofQ (yQ s z t)))):=by
 have hx:Zb s.x:=aU hs.x.1 hs.x.2;have hzh:=ha.z.hq;have hth:=ha.t.hq;have hw:=bx s.x hs.x;have h1:=eJ a.t (ofQ (s.x:Rat)) (hx:=ha.t) J Y;have v1:Vq (ofQ (t*(s.x:Rat))) (t*(s.x:Rat)) (m+1+4):=Vq.ofQ (h:=@HQ.mul _ _ (m+1) 4 hth HQ.int);have h2:=dy a.z (ofQ (t*(s.x:Rat))) (hx:=ha.z) (hy:=v1) J J;have v2:Vq (ofQ (z+t*(s.x:Rat))) (z+t*(s.x:Rat)) (n+1+(m+1+4)+1):=Vq.ofQ (h:=@HQ.add _ _ (n+1) (m+1+4) hzh (@HQ.mul _ _ (m+1) 4 hth HQ.int));have h3:=dy s.c (ofQ (z+t*(s.x:Rat))) (hx:=hs.c.v) (hy:=v2) Y J;rw[yQ];obtain⟨x,c,k⟩:=s;obtain⟨az,at'⟩:=a;simp only at *
 generalize ofQ (c.val+(z+t*(x:Rat)))=X3 at *
 generalize ofQ (z+t*(x:Rat))=X2 at *
 generalize ofQ (t*(x:Rat))=X1 at *
 generalize ofQ (x:Rat)=X0 at *
 refine Ret.of_pwp layOk mixed Go.Proofs.Tryz.func259 O Y O O ?_;refine bT 12 [5,6,7,8,9,10,11,12,13,14,15,16] ?_;refine G hw ?_;refine G h1 ?_;refine G h2 ?_;refine G h3 ?_;exact bI
def fQ (s:SR)(z t:Rat):Rat:=iU s.k.S.length s.k.s s.k.m (yQ s z t)
theorem wU (s:SR)(hs:s.Lim)(hk:cz s.k=0)(a:AR){z t:Rat}{n m:Nat}[ha:Va a z t n m](hn:n+m<=90000):Ret Tryz.prog .shared 213 [.agg (eS s),.agg (eA a)] (.agg (eR (ofQ (fQ s z t)))):=by
 have h1:=k_ s hs a J J;have v1:Vq (ofQ (yQ s z t)) (yQ s z t) (13+(n+1+(m+1+4)+1)+1):=Vq.ofQ (h:=wk hs ha.z.hq ha.t.hq);have h2:=yj s.k hs.k hk (ofQ (yQ s z t)) (hy:=v1) J;rw[fQ];generalize ofQ (iU s.k.S.length s.k.s s.k.m (yQ s z t))=X2 at *
 generalize ofQ (yQ s z t)=X1 at *
 obtain⟨x,c,k⟩:=s;obtain⟨az,at'⟩:=a;simp only at *
 refine Ret.of_pwp layOk mixed Go.Proofs.Tryz.func213 O Y O O ?_;refine H ?_;refine bD [5] [9,10] aS ?_;refine G h1 ?_;refine G h2 ?_;exact bI
theorem BJ (x:Int):Ret Tryz.prog .shared 244 [I x] (.bool (decide (x < -1000000\/1000000<x))):=by
 by_cases h1:x < -1000000
 .rw[decide_eq_true (.inl h1)];refine Ret.of_pwp layOk mixed Go.Proofs.Tryz.func244 O Y O O ?_;refine cV ?_ ?_<;>intro h
  .exact ef
  .exact absurd h1 (aG h)
 .rw[show decide (x < -1000000\/1000000<x)=decide (1000000<x) by rw[decide_eq_decide];omega];refine Ret.of_pwp layOk mixed Go.Proofs.Tryz.func244 O Y O O ?_;refine cV ?_ ?_<;>intro h
  .exact absurd (aB h) h1
  .exact ef
theorem mK (x:RR){p:Rat}{m:Nat}[hx:Vq x p m](hm:m<=1000000)(n:Int)(h0:0<=n)(h1:n<=1000000000):Ret Tryz.prog .shared 197 [.agg (eR x),I n] (.bool (decide (p < -(n:Rat)\/(n:Rat)<p))):=by
 have hw1:=bx (-n) ⟨J,J⟩;have hw2:=bx n ⟨J,J⟩;have z1:Zb (-n):=aU J J;have z2:Zb n:=aU J J;have hc1:=mP x (ofQ ((-n:Int):Rat)) J Y;have hc2:=mP x (ofQ (n:Rat)) J Y;have hn:IntKind.i64.wrap (0-n) = -n:=by rw[wrap_i64 J J];omega
 have e1:=gw (p-((-n:Int):Rat));have e2:=il (p-(n:Rat));have en:(((-n:Int)):Rat) = -(n:Rat):=by push_cast;rfl
 have key:decide (p < -(n:Rat)\/(n:Rat)<p)=(decide (sgn (p-((-n:Int):Rat))<0)||decide (0<sgn (p-(n:Rat)))):=by
  rw[<-Bool.decide_or,decide_eq_decide,e1,e2,en];constructor
  .rintro(h|h)
   .left;grind
   .right;grind
  .rintro(h|h)
   .left;grind
   .right;grind
 rw[key];generalize sgn (p-((-n:Int):Rat))=g1 at *
 generalize sgn (p-(n:Rat))=g2 at *
 generalize ofQ ((-n:Int):Rat)=W1 at *
 generalize ofQ (n:Rat)=W2 at *
 refine Ret.of_pwp layOk mixed Go.Proofs.Tryz.func197 O Y O O ?_;refine bT 14 [5,6,7,8,9,10,11,12,13,14,15,16,17,4] ?_;refine H ?_;rw[hn];refine sO O O O hw1 O O ?_;refine ap hc1 ?_;refine cV ?_ ?_<;>intro h
 .rw[h];clear h;exact ef
 .rw[h];clear h;refine G hw2 ?_;refine ap hc2 ?_;exact ef
def cO {α:Type}(f:α->Int):List α->Int
 |[]=>0
 |s::r=>if f s=0 then cO f r else f s
theorem rJ {α:Type}(f:α->Int){l:List α}{i:Nat}{s:α}(h:l[i]? = some s):cO f (l.drop i)=if f s=0 then cO f (l.drop (i+1)) else f s:=by
 obtain⟨hl,rfl⟩:=bi h;rw[List.drop_eq_getElem_cons hl,cO]
theorem jH {α:Type}{f:α->Int}:∀ {l:List α},cO f l=0->∀s∈l,f s=0
 |[],_,s,hs=>by cases hs
 |a::l,h,s,hs=>by
  rw[cO]at h;by_cases ha:f a=0
  .rw[if_pos ha]at h;rcases List.mem_cons.1 hs with rfl|hs
   .exact ha
   .exact jH h s hs
  .rw[if_neg ha]at h;exact absurd h ha
def kV (s:SR):Int:=if (s.x < -1000000\/1000000<s.x)\/(s.c.val < -((10000000:Int):Rat)\/((10000000:Int):Rat)<s.c.val) then 2 else cz s.k
def cq (l:List SR):Int:=if 100<l.length then 8 else cO kV l
def ju (l:List SR):Prop:=(∀s∈l,s.Lim)/\l.length<=1000000000
set_option maxRecDepth 20000 in
theorem oF (l:List SR)(hl:ju l):Ret Tryz.prog .shared 198 [.sl (l.map eS)] (I (cq l)):=by
 have hml:(l.map eS).length=l.length:=ai;generalize hE:cq l=E;rw[cq]at hE;obtain⟨hs,hll⟩:=hl;refine Ret.of_pwp layOk mixed Go.Proofs.Tryz.func198 O Y O O ?_;refine D ?_ ?_<;>intro h
 .have h1:=aB h;rw[if_pos J]at hE;subst hE;exact bq
 have h1:¬100<l.length:=by have h1:=aG h;omega
 clear h;rw[if_neg h1]at hE;refine H ?_;refine ao (fun i:Nat=>i<=l.length/\cO kV (l.drop i)=E) (fun i=>[(9,.sl (l.map eS)),(10,I l.length),(11,I (i:Nat))]) (fun _=>[]) (fun i=>l.length-i) 0 ⟨Nat.zero_le _,by rw[List.drop_zero];exact hE⟩ ⟨O,by rw[<-hml];rfl,O,trivial⟩ ?_;intro i s ⟨hi,hF⟩;refine D ?_ ?_<;>intro h
 .have hlt:i<l.length:=by have:=aB h;omega
  clear h;obtain⟨x,hx⟩:=aH hlt;have hx':=hs x (a_ hx);rw[rJ _ hx]at hF;have hfa:=BJ x.x;have hbe:=mK x.c (hx:=hx'.c.v) Y 10000000 Y Y;have hcc:=ek x.k hx'.k;have hw:=c9 i;have hse:kV x=kV x:=O
  conv at hse=>rhs;rw[kV]
  generalize kV x=se at *
  generalize cz x.k=ce at *
  by_cases hq1:x.x < -1000000\/1000000<x.x
  .rw[decide_eq_true hq1]at hfa;rw[if_pos (.inl hq1)]at hse;subst hse;rw[if_neg Y]at hF;subst hF;refine aN hx ?_;refine ap hfa ?_;exact bq
  rw[decide_eq_false hq1]at hfa;by_cases hq2:x.c.val < -((10000000:Int):Rat)\/((10000000:Int):Rat)<x.c.val
  .rw[decide_eq_true hq2]at hbe;rw[if_pos (.inr hq2)]at hse;subst hse;rw[if_neg Y]at hF;subst hF;refine aN hx ?_;refine ap hfa ?_;refine ap hbe ?_;exact bq
  rw[decide_eq_false hq2]at hbe;rw[if_neg (fun h=>h.elim hq1 hq2)]at hse;subst hse;refine aN hx ?_;refine ap hfa ?_;refine ap hbe ?_;refine ap hcc ?_;refine D ?_ ?_<;>intro h
  .have h2:se≠0:=by simpa using h
   clear h;rw[if_neg h2]at hF;subst hF;exact bq
  .have h2:se=0:=by simpa using h
   clear h;rw[if_pos h2]at hF;refine H ?_;exact⟨i+1,⟨J,hF⟩,J,O,O,congrArg I hw,trivial⟩
 .have hie:i=l.length:=by have:=aG h;omega
  clear h;rw[hie,List.drop_length,cO]at hF;subst hF;exact bq
theorem br {α:Type}{l:List α}{k:Nat}{x:α}(hx:l[k]? = some x):l.take (k+1)=l.take k++[x]:=by
 rw[List.take_add_one,hx];rfl
structure BR.Lim (b:BR):Prop where
 w:i64 b.w
 a:b.a.sz 12
 l:ju b.l
def dF (b:BR):Int:=if (b.w<1\/1000000000<b.w)\/(b.a.val < -((1000000:Int):Rat)\/((1000000:Int):Rat)<b.a.val) then 2 else cq b.l
theorem jl (b:BR)(hb:b.Lim):Ret Tryz.prog .shared 140 [.agg (eB b)] (I (dF b)):=by
 have hbe:=mK b.a (hx:=hb.a.v) Y 1000000 Y Y;have hc:=oF b.l hb.l;generalize hE:dF b=E;rw[dF]at hE;obtain⟨w,a,l⟩:=b;simp only at *
 generalize cq l=ce at *
 by_cases h1:w<1
 .rw[if_pos (.inl (.inl h1))]at hE;subst hE;refine Ret.of_pwp layOk mixed Go.Proofs.Tryz.func140 O Y O O ?_;refine cV ?_ ?_<;>intro h
  .exact bq
  .exact absurd h1 (aG h)
 by_cases h2:1000000000<w
 .rw[if_pos (.inl (.inr h2))]at hE;subst hE;refine Ret.of_pwp layOk mixed Go.Proofs.Tryz.func140 O Y O O ?_;refine cV ?_ ?_<;>intro h
  .exact bq
  .clear h;refine cV ?_ ?_<;>intro h
   .exact bq
   .exact absurd h2 (aG h)
 by_cases h3:a.val < -((1000000:Int):Rat)\/((1000000:Int):Rat)<a.val
 .rw[decide_eq_true h3]at hbe;rw[if_pos (.inr h3)]at hE;subst hE;refine Ret.of_pwp layOk mixed Go.Proofs.Tryz.func140 O Y O O ?_;refine cV ?_ ?_<;>intro h
  .exact bq
  .clear h;refine cV ?_ ?_<;>intro h
   .exact bq
   .clear h;refine ap hbe ?_;exact bq
 .rw[decide_eq_false h3]at hbe;rw[if_neg (fun h=>h.elim (fun h=>h.elim h1 h2) h3)]at hE;subst hE;refine Ret.of_pwp layOk mixed Go.Proofs.Tryz.func140 O Y O O ?_;refine cV ?_ ?_<;>intro h
  .exact absurd (aB h) h1
  .clear h;refine cV ?_ ?_<;>intro h
   .exact absurd (aB h) h2
   .clear h;refine ap hbe ?_;refine ap hc ?_;exact bq
set_option maxRecDepth 20000 in
theorem n9 (l:List SR)(hl:ju l)(hc:cq l=0)(f:FuncId)(caps:List PV)(hcaps:∃c,caps=[.dref c 0])(g:SR->RR)(hg:∀s∈l,Ret Tryz.prog .shared f [.agg (eS s),caps.headD .nil] (.agg (eR (g s)))) :
  Ret Tryz.prog .shared 211 [.sl (l.map eS),.clo f caps] (.tup [.sl ((l.map g).map eR),I 0]):=by
 have hck:=oF l hl;rw[hc]at hck;have hml:(l.map eS).length=l.length:=ai;obtain⟨cc,rfl⟩:=hcaps;simp only[List.headD_cons]at hg;refine Ret.of_pwp layOk mixed Go.Proofs.Tryz.func211 O Y O O ?_;refine ap hck ?_;refine H ?_;refine aq (Ghost.nilreg (k:=7) (t:=7) 42 4 1 O O) ?_;have hrows:∀(k:Nat) x,l[k]? = some x->((l.take (k+1)).map g).map eR=((l.take k).map g).map eR++[eR (g x)]:=fun k x hx=>by rw[br hx,List.map_append,List.map_append];rfl
 refine ao (fun k=>k<=l.length) (fun k=>[(1,.clo f [.dref cc 0]),(7,.als 7 (k+1) 0 (((l.take k).map g).map eR).length),(15,.sl (l.map eS)),(16,I l.length),(17,I k)]) (fun k=>[(7,k+1,⟨42,4,((l.take k).map g).map eR,1⟩)]) (fun k=>l.length-k) 0 (Nat.zero_le _) ⟨O,O,O,by rw[<-hml];rfl,O,O,trivial⟩ ?_;intro k s hk;refine D ?_ ?_<;>intro h
 .have hlt:k<l.length:=by have:=aB h;omega
  clear h;obtain⟨x,hx⟩:=aH hlt;have hgx:=hg x (a_ hx);have hw:IntKind.i64.wrap (((k:Nat):Int)+1)=((k+1:Nat):Int):=by have:=hl.2;rw[wrap_i64 J J];omega
  have hll:=hl.2;refine aN hx ?_;refine G hgx ?_;refine H ?_;refine ax (aT 1 O O O O O O O O O O O aI O ?_);refine H ?_;refine ax (bb 1 O O O O O O O O O O O aI (by intro row hr;first|(simp at hr;subst hr;rfl)|simp at hr) O O aK aK ?_);refine H ?_;refine⟨k+1,hlt,J,O,?_,O,O,congrArg I hw,?_,trivial⟩
  .rw[hrows k x hx];rfl
  .rw[hrows k x hx];rfl
 .have hge:k=l.length:=by have:=aG h;omega
  clear h;refine H ?_;exact tV O aI O aI (by rw[hge,List.take_length];rfl)
theorem rL (s:SR)(hs:s.Lim)(hk:cz s.k=0)(a:AR){z t:Rat}{n m:Nat}[ha:Va a z t n m](hn:n+m<=90000):Ret Tryz.prog .shared 212 [.agg (eS s),.dref (eA a) 0] (.agg (eR (ofQ (fQ s z t)))):=by
 have h1:=wU s hs hk a hn;generalize ofQ (fQ s z t)=X at *
 obtain⟨x,c,k⟩:=s;obtain⟨az,at'⟩:=a;try simp only at *
 refine Ret.of_pwp layOk mixed Go.Proofs.Tryz.func212 O Y O O ?_;refine G h1 ?_;exact bI
theorem cM {l:List SR}(h:cq l=0):∀s∈l,cz s.k=0:=by
 intro s hs;rw[cq]at h;split at h
 .omega
 .have:=jH h s hs;rw[kV]at this;split at this
  .omega
  .exact this
def FL (l:List SR)(z t:Rat):List RR:=l.map fun s=>ofQ (fQ s z t)
theorem mV (l:List SR)(hl:ju l)(hc:cq l=0)(a:AR){z t:Rat}{n m:Nat}[ha:Va a z t n m](hn:n+m<=90000):Ret Tryz.prog .shared 144 [.sl (l.map eS),.agg (eA a)] (.tup [.sl ((FL l z t).map eR),I 0]):=by
 have h1:=n9 l hl hc 212 [.dref (eA a) 0] ⟨_,O⟩ (fun s=>ofQ (fQ s z t)) fun s hs=>rL s (hl.1 s hs) (cM hc s hs) a hn;rw[<-FL]at h1;generalize FL l z t=X at *
 obtain⟨az,at'⟩:=a;refine Ret.of_pwp layOk mixed Go.Proofs.Tryz.func144 O Y O O ?_
 (repeat ((fail_if_success (with_reducible refine aR 1 ?_));refine b9 O ?_))
 refine aq (Ghost.data (k:=3) (t:=3) O O O O) ?_;refine G h1 ?_;exact bI
def q9 (l:List SR):Prop:=l.length<=12/\∀s∈l,s.k.S.length<=8
theorem y_ {s:SR}(hs:s.Lim)(h8:s.k.S.length<=8){z t:Rat}{n m:Nat}(hz:HQ z n)(ht:HQ t m):HQ (fQ s z t) (8*(n+m+60)+4):=by
 rw[fQ,iU];exact(bF s.k.S.length fun k _=>vN hs.k (wk hs hz ht) k).mono (by have:=Nat.mul_le_mul h8 (show 13+(n+(m+4)+1)+1+32+1<=n+m+60 by omega);omega)
def dS:SR:=⟨0,RR.zero,⟨[],[]⟩⟩
def bd (b:BR):Bd:={ N:=b.l.length,X:=fun i=>((b.l.getD i dS).x:Rat),C:=fun i=>(b.l.getD i dS).c.val,n:=fun i=>(b.l.getD i dS).k.S.length,S:=fun i=>(b.l.getD i dS).k.s,M:=fun i=>(b.l.getD i dS).k.m,w:=b.w,A:=b.a.val }
def fI (l:List SR)(z t:Rat)(i:Nat):Rat:=fQ (l.getD i dS) z t
def gI (l:List SR)(z t:Rat)(i:Nat):Rat:=fQ (l.getD i dS) z t*((l.getD i dS).x:Rat)
theorem bw {l:List SR}{i:Nat}(h:i<l.length):l.getD i dS∈l:=a_ (b_ h)
set_option maxRecDepth 20000 in
theorem yg (l:List SR)(hl:ju l)(hf:q9 l){z t:Rat}{n m:Nat}(hz:HQ z n)(ht:HQ t m)(hn:n+m<=100000):Ret Tryz.prog .shared 277 [.sl (l.map eS),.sl ((FL l z t).map eR)] (.agg (eR (ofQ (aw (fI l z t) l.length))++eR (ofQ (aw (gI l z t) l.length)))):=by
 have hw0:=bx 0 ⟨Y,Y⟩;rw[show(((0:Int):Rat))=0 from O]at hw0;have hml:(l.map eS).length=l.length:=ai;have hFl:((FL l z t).map eR).length=l.length:=by simp[FL]
 have hFH:∀i,i<l.length->HQ (fI l z t i) (8*(n+m+60)+4):=fun i hi=>y_ (hl.1 _ (bw hi)) (hf.2 _ (bw hi)) hz ht;have hGH:∀i,i<l.length->HQ (gI l z t i) (8*(n+m+60)+4+4):=fun i hi=>by
  have hx:=(hl.1 _ (bw hi)).x;have hx:Zb (l.getD i dS).x:=aU hx.1 hx.2;exact @HQ.mul _ _ _ 4 (hFH i hi) HQ.int
 have hB:∀i,i<=l.length->i*(8*(n+m+60)+4+4+1)+4<=12000000:=fun i hi=>by
  have:=hf.1;have:=Nat.mul_le_mul (show i<=12 by omega) (show 8*(n+m+60)+4+4+1<=800489 by omega);omega
 refine Ret.of_pwp layOk mixed Go.Proofs.Tryz.func277 O Y O O ?_;refine G hw0 ?_;refine G hw0 ?_;refine H ?_;refine ao (fun i:Nat=>i<=l.length) (fun i=>[(1,.sl ((FL l z t).map eR)),(4,.ptr 4 1 0 0),(5,.ptr 5 1 0 0),(11,.sl (l.map eS)),(12,I l.length),(13,I (i:Nat))])
  (fun i=>[(4,1,⟨222,8,[zN++zN],2⟩),(5,1,⟨222,8,[eR (ofQ (aw (fI l z t) i))++eR (ofQ (aw (gI l z t) i))],2⟩)]) (fun i=>l.length-i) 0 (Nat.zero_le _) ⟨O,O,O,O,by rw[<-hml];rfl,O,O,O,trivial⟩ ?_
 intro i s hi;refine D ?_ ?_<;>intro h
 .have hlt:i<l.length:=by have:=aB h;omega
  clear h;have hx:=b_ (d:=dS) hlt;have hFi:(FL l z t)[i]? = some (ofQ (fI l z t i)):=by rw[FL,List.getElem?_map,hx];rfl
  have hxx:=(hl.1 _ (bw hlt)).x;have hzb:Zb (l.getD i dS).x:=aU hxx.1 hxx.2;have hw:IntKind.i64.wrap (((i:Nat):Int)+1)=((i+1:Nat):Int):=by have:=hf.1;rw[wrap_i64 J J];omega
  have hBi:=hB i hi;have v0:Vq (ofQ (fI l z t i)) (fI l z t i) (8*(n+m+60)+4):=Vq.ofQ (h:=hFH i hlt);have vg:Vq (ofQ (gI l z t i)) (gI l z t i) (8*(n+m+60)+4+4):=Vq.ofQ (h:=hGH i hlt);have v1:Vq (ofQ (aw (fI l z t) i)) (aw (fI l z t) i) (i*(8*(n+m+60)+4+1)+4):=Vq.ofQ (h:=bF i fun k hk=>hFH k J);have v2:Vq (ofQ (aw (gI l z t) i)) (aw (gI l z t) i) (i*(8*(n+m+60)+4+4+1)+4):=Vq.ofQ (h:=bF i fun k hk=>hGH k J);have h1:=dy (ofQ (aw (fI l z t) i)) (ofQ (fI l z t i)) (hx:=v1) (hy:=v0) (by have:=Nat.mul_le_mul (Nat.le_refl i) (show 8*(n+m+60)+4+1<=8*(n+m+60)+4+4+1 by omega);omega) J;have h2:=bx (l.getD i dS).x hxx;have h3:=eJ (ofQ (fI l z t i)) (ofQ ((l.getD i dS).x:Rat)) (hx:=v0) J Y;have h4:=dy (ofQ (aw (gI l z t) i)) (ofQ (gI l z t i)) (hx:=v2) (hy:=vg) J J;rw[show aw (fI l z t) i+fI l z t i=aw (fI l z t) (i+1) from O]at h1;rw[show aw (gI l z t) i+gI l z t i=aw (gI l z t) (i+1) from O]at h4;rw[show fI l z t i*((l.getD i dS).x:Rat)=gI l z t i from O]at h3;generalize hF1:ofQ (aw (fI l z t) (i+1))=F1 at *
  generalize hG1:ofQ (aw (gI l z t) (i+1))=G1 at *
  generalize ofQ (aw (fI l z t) i)=F0 at *
  generalize ofQ (aw (gI l z t) i)=G0 at *
  refine aN hx ?_;refine bT 8 [18,19,20,21,22,23,24,25] ?_;refine aN hFi ?_;refine G h1 ?_;refine bT 12 [26,27,28,29,30,31,32,33,34,35,36,37] ?_;refine aN hFi ?_;refine G h2 ?_;refine G h3 ?_;refine G h4 ?_;refine H ?_;refine⟨i+1,hlt,J,O,O,O,O,O,congrArg I hw,O,?_,trivial⟩;show(_:Nat × Option Cont)=(1,some (Cont.mk 222 8 [eR (ofQ (aw (fI l z t) (i+1)))++eR (ofQ (aw (gI l z t) (i+1)))] 2));rw[hF1,hG1];rfl
 .have hie:i=l.length:=by have:=aG h;omega
  clear h;subst hie;exact bI
structure BR.Ok (b:BR):Prop where
 lim:b.Lim
 chk:dF b=0
 few:q9 b.l
theorem rn {b:BR}(h:dF b=0):1<=b.w/\b.w<=1000000000/\cq b.l=0:=by
 rw[dF]at h;split at h
 .omega
 .rename_i h1;exact⟨J,J,h⟩
theorem BR.Ok.chkL {b:BR}(h:b.Ok):cq b.l=0:=(rn h.chk).2.2
set_option maxRecDepth 20000 in
theorem Du {l:List SR}(hl:ju l)(hf:q9 l){z t:Rat}{n m:Nat}(hz:HQ z n)(ht:HQ t m):HQ (aw (fI l z t) l.length) (96*(n+m+60)+200) :=
 (bF l.length fun i hi=>y_ (hl.1 _ (bw hi)) (hf.2 _ (bw hi)) hz ht).mono (by have:=Nat.mul_le_mul hf.1 (Nat.le_refl (8*(n+m+60)+4+1));omega)
set_option maxRecDepth 20000 in
theorem Dw {l:List SR}(hl:ju l)(hf:q9 l){z t:Rat}{n m:Nat}(hz:HQ z n)(ht:HQ t m):HQ (aw (gI l z t) l.length) (96*(n+m+60)+200) :=
 (bF (m:=8*(n+m+60)+4+4) l.length fun i hi=>by
  have hx:=(hl.1 _ (bw hi)).x;have hx:Zb (l.getD i dS).x:=aU hx.1 hx.2
  exact @HQ.mul _ _ _ 4 (y_ (hl.1 _ (bw hi)) (hf.2 _ (bw hi)) hz ht) HQ.int).mono (by have:=Nat.mul_le_mul hf.1 (Nat.le_refl (8*(n+m+60)+4+4+1));omega)
theorem j5 (l:List SR)(hl:ju l)(hc:cq l=0)(hf:q9 l)(a:AR){z t:Rat}{n m:Nat}[ha:Va a z t n m](hn:n+m<=90000) :
  Ret Tryz.prog .shared 249 [.sl (l.map eS),.agg (eA a)] (.tup [.agg (eR (ofQ (aw (fI l z t) l.length))++eR (ofQ (aw (gI l z t) l.length))),I 0]):=by
 have h1:=mV l hl hc a hn;have h2:=yg l hl hf ha.z.hq ha.t.hq J;generalize ofQ (aw (fI l z t) l.length)=X1 at *
 generalize ofQ (aw (gI l z t) l.length)=X2 at *
 generalize FL l z t=L at *
 obtain⟨az,at'⟩:=a;refine Ret.of_pwp layOk mixed Go.Proofs.Tryz.func249 O Y O O ?_;refine G h1 ?_;refine G h2 ?_;exact bI
theorem we {b:BR}(hb:b.Ok):HQ ((b.w:Rat)*b.a.val) 17:=by
 have hw:Zb b.w:=aU hb.lim.w.1 hb.lim.w.2;exact @HQ.mul _ _ 4 13 HQ.int hb.lim.a.v.hq
theorem mT (b:BR)(hb:b.Ok)(a:AR){z t:Rat}{n m:Nat}[ha:Va a z t n m](hn:n+m<=60000):Ret Tryz.prog .shared 203 [.agg (eB b),.agg (eA a)] (.agg (eR (ofQ ((bd b).e z t)))):=by
 have h1:=j5 b.l hb.lim.l hb.chkL hb.few a J;have h2:=bx b.w hb.lim.w;have hw:Zb b.w:=aU hb.lim.w.1 hb.lim.w.2;have h3:=eJ (ofQ (b.w:Rat)) b.a (hy:=hb.lim.a.v) Y Y;have v1:Vq (ofQ (aw (gI b.l z t) b.l.length)) (aw (gI b.l z t) b.l.length) (96*(n+1+(m+1)+60)+200):=Vq.ofQ (h:=Dw hb.lim.l hb.few ha.z.hq ha.t.hq);have v2:Vq (ofQ ((b.w:Rat)*b.a.val)) ((b.w:Rat)*b.a.val) 17:=Vq.ofQ (h:=we hb);have h4:=lL (ofQ (aw (gI b.l z t) b.l.length)) (ofQ ((b.w:Rat)*b.a.val)) (hx:=v1) (hy:=v2) J Y;rw[show aw (gI b.l z t) b.l.length-(b.w:Rat)*b.a.val=(bd b).e z t from O]at h4;generalize ofQ ((bd b).e z t)=X0 at *
 generalize ofQ (aw (fI b.l z t) b.l.length)=X1 at *
 generalize ofQ (aw (gI b.l z t) b.l.length)=X2 at *
 generalize ofQ ((b.w:Rat)*b.a.val)=X3 at *
 generalize ofQ (b.w:Rat)=X4 at *
 obtain⟨w,ba,l⟩:=b;obtain⟨az,at'⟩:=a;simp only at *
 refine Ret.of_pwp layOk mixed Go.Proofs.Tryz.func203 O Y O O ?_;refine G h1 ?_;refine bT 9 [14,15,16,17,18,19,20,21,22] ?_;refine G h2 ?_;refine G h3 ?_;refine G h4 ?_;exact bI
theorem DG {b:BR}(hb:b.Ok){z t:Rat}{n m:Nat}(hz:HQ z n)(ht:HQ t m):HQ ((bd b).e z t) (96*(n+m+60)+200+17+1):=@HQ.sub _ _ _ 17 (Dw hb.lim.l hb.few hz ht) (we hb)
instance (b:Bd) (z t:Rat):Decidable (b.Bal z t):=inferInstanceAs (Decidable (_/\_))
theorem pV (b:BR)(hb:b.Ok)(a:AR){z t:Rat}{n m:Nat}[ha:Va a z t n m](hn:n+m<=60000):Ret Tryz.prog .shared 255 [.agg (eB b),.agg (eA a)] (.bool (decide ((bd b).Bal z t))):=by
 have h1:=j5 b.l hb.lim.l hb.chkL hb.few a J;have h2:=bx b.w hb.lim.w;have hw:Zb b.w:=aU hb.lim.w.1 hb.lim.w.2;have v0:Vq (ofQ (aw (fI b.l z t) b.l.length)) (aw (fI b.l z t) b.l.length) (96*(n+1+(m+1)+60)+200):=Vq.ofQ (h:=Du hb.lim.l hb.few ha.z.hq ha.t.hq);have h5:=mP (ofQ (aw (fI b.l z t) b.l.length)) (ofQ (b.w:Rat)) (hx:=v0) J Y;have h3:=eJ (ofQ (b.w:Rat)) b.a (hy:=hb.lim.a.v) Y Y;have v1:Vq (ofQ (aw (gI b.l z t) b.l.length)) (aw (gI b.l z t) b.l.length) (96*(n+1+(m+1)+60)+200):=Vq.ofQ (h:=Dw hb.lim.l hb.few ha.z.hq ha.t.hq);have v2:Vq (ofQ ((b.w:Rat)*b.a.val)) ((b.w:Rat)*b.a.val) 17:=Vq.ofQ (h:=we hb);have h4:=mP (ofQ (aw (gI b.l z t) b.l.length)) (ofQ ((b.w:Rat)*b.a.val)) (hx:=v1) (hy:=v2) J Y;have key:decide ((bd b).Bal z t)=(decide (sgn (aw (fI b.l z t) b.l.length-(b.w:Rat))=0)&&decide (sgn (aw (gI b.l z t) b.l.length-(b.w:Rat)*b.a.val)=0)):=by
  rw[<-Bool.decide_and,decide_eq_decide,gv,gv];show aw (fI b.l z t) b.l.length=(b.w:Rat)/\aw (gI b.l z t) b.l.length=(b.w:Rat)*b.a.val↔_;constructor
  .rintro⟨e1,e2⟩;rw[e1,e2];constructor<;>grind
  .rintro⟨e1,e2⟩;constructor<;>grind
 rw[key];generalize sgn (aw (fI b.l z t) b.l.length-(b.w:Rat))=g1 at *
 generalize sgn (aw (gI b.l z t) b.l.length-(b.w:Rat)*b.a.val)=g2 at *
 generalize ofQ (aw (fI b.l z t) b.l.length)=X1 at *
 generalize ofQ (aw (gI b.l z t) b.l.length)=X2 at *
 generalize ofQ ((b.w:Rat)*b.a.val)=X3 at *
 generalize ofQ (b.w:Rat)=X4 at *
 obtain⟨w,ba,l⟩:=b;obtain⟨az,at'⟩:=a;simp only at *
 refine Ret.of_pwp layOk mixed Go.Proofs.Tryz.func255 O Y O O ?_;refine G h1 ?_;refine bT 20 [14,15,16,17,18,19,20,21,22,23,24,25,26,27,28,29,30,31,32,4] ?_;refine G h2 ?_;refine ap h5 ?_;refine cV ?_ ?_<;>intro h
 .rw[h];clear h;refine G h2 ?_;refine G h3 ?_;refine ap h4 ?_;exact ef
 .rw[h];clear h;exact ef
theorem vU {S M:Nat->Rat}{n:Nat}{y:Rat}(h:∀k,k+1<n->S k<S (k+1)):∀m,m<=n->aw (f_ S M y) m=bG M (l6 S y m)
 |0,_=>rfl
 |m+1,hm=>by
  rw[aw,vU h m J,l6,f_];by_cases hy:S m<=y
  .rw[if_pos hy,if_neg cH];have:l6 S y m=m:=by
    cases m with
    |zero=>rfl
    |succ j =>
     have:=h j J;rw[l6,if_pos cH]
   rw[this,bG];grind
  .rw[if_neg hy,if_pos cH];grind
def xe (c:CR)(y:Rat):Nat->RR
 |0=>ofQ 0
 |i+1=>if c.s i<y then c.M.getD i RR.zero else xe c y i
theorem zE {c:CR}(hc:c.Lim)(y:Rat):∀i,Vq (xe c y i) (bG c.m (pg c.s y i)) 12
 |0=>oA c hc 0
 |i+1=>by
  rw[xe,pg];split
  .exact si c hc i
  .exact zE hc y i
theorem nA (s:SR)(hs:s.Lim)(hk:cz s.k=0)(a:AR){z t:Rat}{n m:Nat}[ha:Va a z t n m](hn:n+m<=90000):Ret Tryz.prog .shared 280 [.agg (eS s),.dref (eA a) 0] (.agg (eR (ofQ (bG s.k.m (l6 s.k.s (yQ s z t) s.k.S.length))))):=by
 have h1:=k_ s hs a J J;have v1:Vq (ofQ (yQ s z t)) (yQ s z t) (13+(n+1+(m+1+4)+1)+1):=Vq.ofQ (h:=wk hs ha.z.hq ha.t.hq);have h2:=x6 s.k hs.k hk (ofQ (yQ s z t)) (hy:=v1) J;rw[AJ,vU (eo hk).2.2.2 _ (aP)]at h2;generalize ofQ (bG s.k.m (l6 s.k.s (yQ s z t) s.k.S.length))=X2 at *
 generalize ofQ (yQ s z t)=X1 at *
 obtain⟨x,c,k⟩:=s;obtain⟨az,at'⟩:=a;try simp only at *
 refine Ret.of_pwp layOk mixed Go.Proofs.Tryz.func280 O Y O O ?_;refine H ?_;refine bD [4] [9,10] aS ?_;refine G h1 ?_;refine G h2 ?_;exact bI
set_option maxRecDepth 20000 in
theorem oV (s:SR)(hs:s.Lim)(hk:cz s.k=0)(a:AR){z t:Rat}{n m:Nat}[ha:Va a z t n m](hn:n+m<=90000):Ret Tryz.prog .shared 282 [.agg (eS s),.dref (eA a) 0] (.agg (eR (xe s.k (yQ s z t) s.k.S.length))):=by
 have h1:=k_ s hs a J J;have v1:Vq (ofQ (yQ s z t)) (yQ s z t) (13+(n+1+(m+1+4)+1)+1):=Vq.ofQ (h:=wk hs ha.z.hq ha.t.hq);have hw0:=bx 0 ⟨Y,Y⟩;rw[show(((0:Int):Rat))=0 from O]at hw0;have hSM:=(eo hk).2.1;have h40:=(eo hk).1;have hkl:=hs.k;obtain⟨x,c,k⟩:=s;obtain⟨az,at'⟩:=a;simp only at hSM h40 hkl;dsimp only;generalize yQ ⟨x,c,k⟩ z t=y at *
 generalize ofQ y=Y0 at *
 have hSl:(k.S.map eN).length=k.S.length:=ai;refine Ret.of_pwp layOk mixed Go.Proofs.Tryz.func282 O Y O O ?_;refine G h1 ?_;refine G hw0 ?_;refine H ?_;refine ao (fun i:Nat=>i<=k.S.length) (fun i=>[(2,.ptr 2 1 0 0),(3,.ptr 3 1 0 0),(4,.ptr 4 1 0 0),(5,.ptr 5 1 0 0),(14,.sl (k.S.map eN)),(15,I k.S.length),(16,I (i:Nat))])
  (fun i=>[(2,1,⟨136,7,[eS ⟨x,c,k⟩],2⟩),(3,1,⟨42,4,[zN],2⟩),(4,1,⟨42,4,[eR Y0],2⟩),(5,1,⟨42,4,[eR (xe k y i)],2⟩)]) (fun i=>k.S.length-i) 0 (Nat.zero_le _) ⟨O,O,O,O,O,by rw[<-hSl];rfl,O,O,O,O,O,trivial⟩ ?_
 intro i s hi;refine D ?_ ?_<;>intro h
 .have hlt:i<k.S.length:=by have:=aB h;omega
  clear h;have hx:=b_ (d:=0) hlt;have hmx:=b_ (l:=k.M) (i:=i) (d:=RR.zero) J;have hxb:=l_ hkl i;have hnum:=bx (k.S.getD i 0) hxb;have hzb:Zb (k.S.getD i 0):=aU hxb.1 hxb.2;have hcm:=mP (ofQ ((k.S.getD i 0:Int):Rat)) Y0 (hy:=v1) Y J;have hsl:=gw (k.s i-y);rw[show((k.S.getD i 0:Int):Rat)=k.s i from O]at hnum hcm;have hw:=c9 i;have hst:xe k y (i+1)=if k.s i<y then k.M.getD i RR.zero else xe k y i:=O
  generalize ofQ (k.s i)=N at *
  refine aN hx ?_;refine bT 5 [21,22,23,24,25] ?_;refine G hnum ?_;refine ap hcm ?_;refine D ?_ ?_<;>intro h
  .have h3:k.s i<y:=by have:=hsl.1 (aB h);grind
   clear h;rw[if_pos h3]at hst;refine aN hmx ?_;refine H ?_;refine⟨i+1,hlt,J,O,O,O,O,O,O,congrArg I hw,O,O,O,?_,trivial⟩;show(_:Nat × Option Cont)=(1,some (Cont.mk 42 4 [eR (xe k y (i+1))] 2));rw[hst];rfl
  .have h3:¬k.s i<y:=fun h2=>(aG h) (hsl.2 cH);clear h;rw[if_neg h3]at hst;refine H ?_;refine⟨i+1,hlt,J,O,O,O,O,O,O,congrArg I hw,O,O,O,?_,trivial⟩;show(_:Nat × Option Cont)=(1,some (Cont.mk 42 4 [eR (xe k y (i+1))] 2));rw[hst];rfl
 .have hie:i=k.S.length:=by have:=aG h;omega
  clear h;subst hie;exact bI
theorem pC (a:AR):Ret Tryz.prog .shared 251 [.agg (eA a)] (.clo 280 [.dref (eA a) 0]):=by
 obtain⟨az,at'⟩:=a;refine Ret.of_pwp layOk mixed Go.Proofs.Tryz.func251 O Y O O ?_;exact bI
theorem r8 (a:AR):Ret Tryz.prog .shared 252 [.agg (eA a)] (.clo 282 [.dref (eA a) 0]):=by
 obtain⟨az,at'⟩:=a;refine Ret.of_pwp layOk mixed Go.Proofs.Tryz.func252 O Y O O ?_;exact bI
def xI (l:List SR)(i:Nat):Rat:=((l.getD i dS).x:Rat)
def eK (a b c:RR):List PV:=eR a++(eR b++eR c)
set_option maxRecDepth 20000 in
theorem pH (l:List SR)(hl:ju l)(hf:q9 l)(f:FuncId)(cc:List PV)(g:SR->RR)(κ:Nat->Rat)(hg:∀s∈l,Ret Tryz.prog .shared f [.agg (eS s),.dref cc 0] (.agg (eR (g s))))(hv:∀i,i<l.length->Vq (g (l.getD i dS)) (κ i) 1000) :
  Ret Tryz.prog .shared 254 [.sl (l.map eS),.clo f [.dref cc 0]] (.agg (eK (ofQ (aw κ l.length)) (ofQ (aw (fun i=>κ i*xI l i) l.length)) (ofQ (aw (fun i=>κ i*xI l i*xI l i) l.length)))):=by
 have hw0:=bx 0 ⟨Y,Y⟩;rw[show(((0:Int):Rat))=0 from O]at hw0;have hml:(l.map eS).length=l.length:=ai;have hX:∀i,i<l.length->HQ (xI l i) 4:=fun i hi=>by
  have hx:=(hl.1 _ (bw hi)).x;have hx:Zb (l.getD i dS).x:=aU hx.1 hx.2;exact HQ.int
 have hK:∀i,i<l.length->HQ (κ i) 1001:=fun i hi=>(hv i hi).hq;have hC:∀i,i<l.length->HQ (κ i*xI l i) 1005:=fun i hi=>@HQ.mul _ _ 1001 4 (hK i hi) (hX i hi);have hP:∀i,i<l.length->HQ (κ i*xI l i*xI l i) 1009:=fun i hi=>@HQ.mul _ _ 1005 4 (hC i hi) (hX i hi);have h12:=hf.1;generalize hc:(fun i=>κ i*xI l i)=C at *
 generalize hp:(fun i=>κ i*xI l i*xI l i)=Pq at *
 have hCi:∀i,κ i*xI l i=C i:=fun i=>by rw[<-hc]
 have hPi:∀i,C i*xI l i=Pq i:=fun i=>by rw[<-hc,<-hp]
 simp only[hCi,hPi]at hC hP;clear hc hp;refine Ret.of_pwp layOk mixed Go.Proofs.Tryz.func254 O Y O O ?_;refine G hw0 ?_;refine G hw0 ?_;refine G hw0 ?_;refine H ?_;refine ao (fun i:Nat=>i<=l.length) (fun i=>[(1,.clo f [.dref cc 0]),(4,.ptr 4 1 0 0),(5,.ptr 5 1 0 0),(13,.sl (l.map eS)),(14,I l.length),(15,I (i:Nat))])
  (fun i=>[(4,1,⟨308,12,[zN++(zN++zN)],2⟩),(5,1,⟨308,12,[eK (ofQ (aw κ i)) (ofQ (aw C i)) (ofQ (aw Pq i))],2⟩)]) (fun i=>l.length-i) 0 (Nat.zero_le _) ⟨O,O,O,O,by rw[<-hml];rfl,O,O,O,trivial⟩ ?_
 intro i s hi;refine D ?_ ?_<;>intro h
 .have hlt:i<l.length:=by have:=aB h;omega
  clear h;have hx:=b_ (d:=dS) hlt;have hxx:=(hl.1 _ (bw hlt)).x;have hgx:=hg _ (bw hlt);have hvi:=hv i hlt;have hw:=c9 i;have hwx:=bx (l.getD i dS).x hxx;rw[show((l.getD i dS).x:Rat)=xI l i from O]at hwx;have vx:Vq (ofQ (xI l i)) (xI l i) 4:=Vq.ofQ (h:=hX i hlt);have v1:Vq (ofQ (aw κ i)) (aw κ i) (i*(1001+1)+4):=Vq.ofQ (h:=bF i fun k hk=>hK k J);have v2:Vq (ofQ (aw C i)) (aw C i) (i*(1005+1)+4):=Vq.ofQ (h:=bF i fun k hk=>hC k J);have v3:Vq (ofQ (aw Pq i)) (aw Pq i) (i*(1009+1)+4):=Vq.ofQ (h:=bF i fun k hk=>hP k J);have w2:Vq (ofQ (C i)) (C i) 1005:=Vq.ofQ (h:=hC i hlt);have w3:Vq (ofQ (Pq i)) (Pq i) 1009:=Vq.ofQ (h:=hP i hlt);have a1:=dy (ofQ (aw κ i)) (g (l.getD i dS)) (hx:=v1) (hy:=hvi) J Y;have m1:=eJ (g (l.getD i dS)) (ofQ (xI l i)) (hx:=hvi) (hy:=vx) Y Y;rw[hCi]at m1;have a2:=dy (ofQ (aw C i)) (ofQ (C i)) (hx:=v2) (hy:=w2) J Y;have m2:=eJ (ofQ (C i)) (ofQ (xI l i)) (hx:=w2) (hy:=vx) Y Y;rw[hPi]at m2;have a3:=dy (ofQ (aw Pq i)) (ofQ (Pq i)) (hx:=v3) (hy:=w3) J Y;rw[show aw κ i+κ i=aw κ (i+1) from O]at a1;rw[show aw C i+C i=aw C (i+1) from O]at a2;rw[show aw Pq i+Pq i=aw Pq (i+1) from O]at a3;have hout:eK (ofQ (aw κ (i+1))) (ofQ (aw C (i+1))) (ofQ (aw Pq (i+1)))=eK (ofQ (aw κ (i+1))) (ofQ (aw C (i+1))) (ofQ (aw Pq (i+1))):=O;generalize ofQ (aw κ i)=K0 at *
  generalize ofQ (aw C i)=C0 at *
  generalize ofQ (aw Pq i)=P0 at *
  generalize hK1:ofQ (aw κ (i+1))=K1 at *
  generalize hC1:ofQ (aw C (i+1))=C1 at *
  generalize hP1:ofQ (aw Pq (i+1))=P1 at *
  generalize ofQ (xI l i)=XI at *
  generalize ofQ (C i)=CI at *
  generalize ofQ (Pq i)=PI at *
  refine aN hx ?_;refine G hgx ?_;refine G a1 ?_;refine bT 5 [27,28,29,30,31] ?_;refine G hwx ?_;refine G m1 ?_;refine G a2 ?_;refine bT 9 [37,38,39,40,41,42,43,44,45] ?_;refine G hwx ?_;refine G m2 ?_;refine G a3 ?_;refine H ?_;refine⟨i+1,hlt,J,O,O,O,O,O,congrArg I hw,O,?_,trivial⟩;show(_:Nat × Option Cont)=(1,some (Cont.mk 308 12 [eK (ofQ (aw κ (i+1))) (ofQ (aw C (i+1))) (ofQ (aw Pq (i+1)))] 2));rw[hK1,hC1,hP1];rfl
 .have hie:i=l.length:=by have:=aG h;omega
  clear h;subst hie;exact bI
theorem wv (a d:AR){z t:Rat}{n m:Nat}{z' t':Rat}{n' m':Nat}[ha:Va a z t n m][hd:Va d z' t' n' m'](h1:n<=8000000)(h2:m<=8000000)(h3:n'<=8000000)(h4:m'<=8000000):Ret Tryz.prog .shared 256 [.agg (eA a),.agg (eA d)] (.agg (eA ⟨ofQ (z+z'),ofQ (t+t')⟩)):=by
 have a1:=dy a.z d.z (hx:=ha.z) (hy:=hd.z) J J;have a2:=dy a.t d.t (hx:=ha.t) (hy:=hd.t) J J;generalize ofQ (z+z')=X at *
 generalize ofQ (t+t')=Y0 at *
 obtain⟨az,at'⟩:=a;obtain⟨dz,dt⟩:=d;try simp only at *
 refine Ret.of_pwp layOk mixed Go.Proofs.Tryz.func256 O Y O O ?_;refine bT 11 [5,6,7,8,9,10,11,12,13,14,15] ?_;refine G a1 ?_;refine G a2 ?_;exact bI
theorem dV {q:Rat}{n:Nat}(h:Vq (ofQ q) q n):HQ q n:=by
 refine⟨?_⟩;obtain⟨_,h1,h2⟩:=h;have e1:=bV (ofQ q).n.l;have e2:=bV (ofQ q).d.l;rw[show(ofQ q).n.l=aC q.num.natAbs from O]at e1 h1;rw[show(ofQ q).d.l=aC q.den from O]at e2 h2;rw[aQ]at e1 e2;exact⟨Nat.lt_of_lt_of_le e1 (cS h1),Nat.lt_of_lt_of_le e2 (cS h2)⟩
def nk (d:Option (Rat × Rat)):PV:=match d with
 |none => .tup [.agg (zN++zN),.bool false]
 |some d => .tup [.agg (eA ⟨ofQ d.1,ofQ d.2⟩),.bool true]
set_option maxRecDepth 20000 in
theorem xp (kh kc kp fo mo:RR){η c p u v:Rat}{a b:Nat}(hh:Vq kh η a)(hc:Vq kc c a)(hp:Vq kp p a)(hu:Vq fo u b)(hv:Vq mo v b)(ha:a<=20000)(hb:b<=7000000) :
  Ret Tryz.prog .shared 253 [.agg (eK kh kc kp),.agg (eR fo),.agg (eR mo)] (nk (Bd.newt η c p u v)):=by
 have m1:=eJ kh kp (hx:=hh) (hy:=hp) J J;have m2:=eJ kc kc (hx:=hc) (hy:=hc) J J;have v1:Vq (ofQ (η*p)) (η*p) (a+1+(a+1)):=Vq.ofQ (h:=@HQ.mul _ _ (a+1) (a+1) hh.hq hp.hq);have v2:Vq (ofQ (c*c)) (c*c) (a+1+(a+1)):=Vq.ofQ (h:=@HQ.mul _ _ (a+1) (a+1) hc.hq hc.hq);have s1:=lL (ofQ (η*p)) (ofQ (c*c)) (hx:=v1) (hy:=v2) J J;have v3:Vq (ofQ (η*p-c*c)) (η*p-c*c) (a+1+(a+1)+(a+1+(a+1))+1):=Vq.ofQ (h:=@HQ.sub _ _ _ _ (dV v1) (dV v2));have sg:=nI (ofQ (η*p-c*c)) (hx:=v3) J;have hs0:=gv (η*p-c*c);by_cases h0:η*p-c*c=0
 .have hn:Bd.newt η c p u v=none:=by rw[Bd.newt,if_pos h0]
  rw[hn];have e0:=hs0.2 h0;rw[e0]at sg;generalize ofQ (η*p-c*c)=D0 at *
  generalize ofQ (η*p)=D1 at *
  generalize ofQ (c*c)=D2 at *
  clear hn;refine Ret.of_pwp layOk mixed Go.Proofs.Tryz.func253 O Y O O ?_;refine H ?_;refine bC 11 1 [11,12,13,14,15,16,17,18,19,20,21,8] [] aS O ?_;refine G m1 ?_;refine G m2 ?_;refine G s1 ?_;refine ap sg ?_;exact bI
 .have hn:Bd.newt η c p u v=some ((p*u-c*v)/(η*p-c*c),(η*v-c*u)/(η*p-c*c)):=by rw[Bd.newt,if_neg h0]
  rw[hn];have m3:=eJ kp fo (hx:=hp) (hy:=hu) J J;have m4:=eJ kc mo (hx:=hc) (hy:=hv) J J;have m5:=eJ kh mo (hx:=hh) (hy:=hv) J J;have m6:=eJ kc fo (hx:=hc) (hy:=hu) J J;have w3:Vq (ofQ (p*u)) (p*u) (a+1+(b+1)):=Vq.ofQ (h:=@HQ.mul _ _ (a+1) (b+1) hp.hq hu.hq);have w4:Vq (ofQ (c*v)) (c*v) (a+1+(b+1)):=Vq.ofQ (h:=@HQ.mul _ _ (a+1) (b+1) hc.hq hv.hq);have w5:Vq (ofQ (η*v)) (η*v) (a+1+(b+1)):=Vq.ofQ (h:=@HQ.mul _ _ (a+1) (b+1) hh.hq hv.hq);have w6:Vq (ofQ (c*u)) (c*u) (a+1+(b+1)):=Vq.ofQ (h:=@HQ.mul _ _ (a+1) (b+1) hc.hq hu.hq);have s2:=lL (ofQ (p*u)) (ofQ (c*v)) (hx:=w3) (hy:=w4) J J;have s3:=lL (ofQ (η*v)) (ofQ (c*u)) (hx:=w5) (hy:=w6) J J;have x2:Vq (ofQ (p*u-c*v)) (p*u-c*v) (a+1+(b+1)+(a+1+(b+1))+1):=Vq.ofQ (h:=@HQ.sub _ _ _ _ (dV w3) (dV w4));have x3:Vq (ofQ (η*v-c*u)) (η*v-c*u) (a+1+(b+1)+(a+1+(b+1))+1):=Vq.ofQ (h:=@HQ.sub _ _ _ _ (dV w5) (dV w6));have q2:=sy (ofQ (p*u-c*v)) (ofQ (η*p-c*c)) (hx:=x2) (hy:=v3) J J h0;have q3:=sy (ofQ (η*v-c*u)) (ofQ (η*p-c*c)) (hx:=x3) (hy:=v3) J J h0;have hsn:sgn (η*p-c*c)≠0:=fun e=>h0 (hs0.1 e);simp only[nk];generalize ofQ ((p*u-c*v)/(η*p-c*c))=R1 at *
  generalize ofQ ((η*v-c*u)/(η*p-c*c))=R2 at *
  generalize sgn (η*p-c*c)=gs at *
  generalize ofQ (η*p-c*c)=D0 at *
  generalize ofQ (η*p)=D1 at *
  generalize ofQ (c*c)=D2 at *
  generalize ofQ (p*u-c*v)=D3 at *
  generalize ofQ (η*v-c*u)=D4 at *
  generalize ofQ (p*u)=D5 at *
  generalize ofQ (c*v)=D6 at *
  generalize ofQ (η*v)=D7 at *
  generalize ofQ (c*u)=D8 at *
  clear hn;refine Ret.of_pwp layOk mixed Go.Proofs.Tryz.func253 O Y O O ?_;refine H ?_;refine bC 11 1 [11,12,13,14,15,16,17,18,19,20,21,8] [] aS O ?_;refine G m1 ?_;refine G m2 ?_;refine G s1 ?_;refine ap sg ?_;refine D ?_ ?_<;>intro h
  .exact absurd (aB h) hsn
  clear h;refine H ?_;refine bC 9 1 [26,27,28,29,30,31,32,33,34,9] [] aS O ?_;refine G m3 ?_;refine G m4 ?_;refine G s2 ?_;refine H ?_;refine bC 9 1 [35,36,37,38,39,40,41,42,43,10] [] aS O ?_;refine G m5 ?_;refine G m6 ?_;refine G s3 ?_;refine bT 7 [44,45,46,47,48,49,50] ?_;refine G q2 ?_;refine G q3 ?_;exact bI
def gc (S M:Nat->Rat)(k:Nat):Rat:=M k*(S (k+1)-S k)
theorem sx (S M:Nat->Rat):∀m,kG S M (m+1)=M m*S m-aw (gc S M) m
 |0=>by rw[kG,aw,aw,aw,bG];grind
 |m+1=>by
  have:=sx S M m;rw[kG]at this ⊢;rw[aw,this,aw,bG,gc];grind
theorem u5 {S M:Nat->Rat}{n:Nat}(h:bG M n=0):n8 n S M=aw (gc S M) (n-1):=by
 cases n with
 |zero=>rw[n8,kG,aw,aw];grind
 |succ m =>
  rw[bG]at h;rw[n8,sx,h,show m+1-1=m by omega];grind
def By (c:CR):PV:=if bG c.m c.S.length=0 then .tup [.agg (eR (ofQ (n8 c.S.length c.s c.m))),.bool true,I 0] else .tup [.agg zN,.bool false,I 0]
theorem p8 {c:CR}(hc:c.Lim)(k:Nat):HQ (gc c.s c.m k) (13+(4+4+1)):=by
 have h1:=l_ hc k;have h2:=l_ hc (k+1);have z1:Zb (c.S.getD k 0):=aU h1.1 h1.2;have z2:Zb (c.S.getD (k+1) 0):=aU h2.1 h2.2;exact @HQ.mul _ _ 13 9 (si c hc k).hq (@HQ.sub _ _ 4 4 HQ.int HQ.int)
set_option maxRecDepth 20000 in
theorem p9 (c:CR)(hc:c.Lim)(h0:cz c=0):Ret Tryz.prog .shared 274 [.agg (eC c)] (By c):=by
 have hcc:=ek c hc;rw[h0]at hcc;obtain⟨h40,hSM,hrange,-⟩:=eo h0;have hz:=eQ 0 Y Y;rw[show(((0:Int):Rat))=0 from O]at hz;have hSl:(c.S.map eN).length=c.S.length:=ai;generalize hR:By c=R;rw[By]at hR;refine Ret.of_pwp layOk mixed Go.Proofs.Tryz.func274 O Y O O ?_;refine ap hcc ?_;refine G hz ?_;refine H ?_;refine ao (fun i:Nat=>i<=c.S.length/\(i=c.S.length->bG c.m c.S.length=0)) (fun i=>[(1,.ptr 1 1 0 0),(2,.ptr 2 1 0 0),(6,.ptr 6 1 0 0),(17,.sl (c.S.map eN)),(18,I c.S.length),(19,I (i:Nat))])
  (fun i=>[(1,1,⟨134,2,[eC c],2⟩),(2,1,⟨42,4,[zN],2⟩),(6,1,⟨42,4,[eR (ofQ (aw (gc c.s c.m) (min i (c.S.length-1))))],2⟩)]) (fun i=>c.S.length-i) 0 ⟨Nat.zero_le _,fun h=>by rw[<-h];rfl⟩ ⟨O,O,O,O,by rw[<-hSl];rfl,O,O,O,?_,trivial⟩ ?_
 .show(_:Nat × Option Cont)=(1,some (Cont.mk 42 4 [eR (ofQ (aw (gc c.s c.m) (min 0 (c.S.length-1))))] 2));rw[Nat.zero_min];rfl
 intro i s ⟨hi,hlast⟩;refine D ?_ ?_<;>intro h
 .have hlt:i<c.S.length:=by have:=aB h;omega
  clear h;have hx:=b_ (d:=0) hlt;have hmx:=b_ (l:=c.M) (i:=i) (d:=RR.zero) J;have hw:=c9 i;by_cases hn:i+1<c.S.length
  .have hy:=b_ (d:=0) hn;have r1:=(hrange i hlt);have r2:=(hrange (i+1) hn);have hd:IntKind.i64.wrap (c.S.getD (i+1) 0-c.S.getD i 0)=c.S.getD (i+1) 0-c.S.getD i 0:=wrap_i64 J J;have hnum:=eQ (c.S.getD (i+1) 0-c.S.getD i 0) J J;have ed:((c.S.getD (i+1) 0-c.S.getD i 0:Int):Rat)=c.s (i+1)-c.s i:=by rw[CR.s,CR.s];push_cast;rfl
   rw[ed]at hnum;have z1:Zb (c.S.getD i 0):=aU J J;have z2:Zb (c.S.getD (i+1) 0):=aU J J;have v1:Vq (ofQ (c.s (i+1)-c.s i)) (c.s (i+1)-c.s i) 9:=Vq.ofQ (h:=@HQ.sub _ _ 4 4 HQ.int HQ.int);have m1:=eJ (c.M.getD i RR.zero) (ofQ (c.s (i+1)-c.s i)) (hx:=si c hc i) (hy:=v1) Y Y;have v2:Vq (ofQ (aw (gc c.s c.m) i)) (aw (gc c.s c.m) i) (i*(13+(4+4+1)+1)+4):=Vq.ofQ (h:=bF i fun k _=>p8 hc k);have v3:Vq (ofQ (gc c.s c.m i)) (gc c.s c.m i) (13+(4+4+1)):=Vq.ofQ (h:=p8 hc i);rw[show c.m i*(c.s (i+1)-c.s i)=gc c.s c.m i from O]at m1;have a1:=dy (ofQ (aw (gc c.s c.m) i)) (ofQ (gc c.s c.m i)) (hx:=v2) (hy:=v3) J Y;rw[show aw (gc c.s c.m) i+gc c.s c.m i=aw (gc c.s c.m) (i+1) from O]at a1;rw[show min i (c.S.length-1)=i by omega];generalize ofQ (aw (gc c.s c.m) i)=K0 at *
   generalize hK1:ofQ (aw (gc c.s c.m) (i+1))=K1 at *
   generalize ofQ (gc c.s c.m i)=T0 at *
   generalize ofQ (c.s (i+1)-c.s i)=D0 at *
   refine aN hx ?_;refine H ?_;rw[hw];refine bh O ?_ ?_<;>intro h
   .clear h;refine bT 17 [30,31,32,33,34,35,36,37,38,39,40,41,42,43,44,45,46] ?_;refine aN hmx ?_;refine H ?_;rw[hw];refine xD O O O O O O O hy O ?_;refine H ?_;rw[hd];refine sO O O O hnum O O ?_;refine G m1 ?_;refine G a1 ?_;refine H ?_;refine⟨i+1,⟨J,fun h=>by omega⟩,J,O,O,O,O,O,congrArg I hw,O,O,?_,trivial⟩;show(_:Nat × Option Cont)=(1,some (Cont.mk 42 4 [eR (ofQ (aw (gc c.s c.m) (min (i+1) (c.S.length-1))))] 2));rw[show min (i+1) (c.S.length-1)=i+1 by omega,hK1];rfl
   .have:=aG h;exfalso;omega
  .have hie:i+1=c.S.length:=J;have hiz:=vm (c.M.getD i RR.zero) (hx:=si c hc i) Y;have hbf:bG c.m c.S.length=c.m i:=by rw[<-hie];rfl
   rw[show min i (c.S.length-1)=i by omega];by_cases hm:c.m i=0
   .rw[decide_eq_true hm]at hiz;refine aN hx ?_;refine H ?_;rw[hw];refine bh O ?_ ?_<;>intro h
    .have:=aB h;exfalso;omega
    .clear h;refine aN hmx ?_;refine ap hiz ?_;refine H ?_;refine⟨i+1,⟨J,fun _=>by rw[hbf];exact hm⟩,J,O,O,O,O,O,congrArg I hw,O,O,?_,trivial⟩;show(_:Nat × Option Cont)=(1,some (Cont.mk 42 4 [eR (ofQ (aw (gc c.s c.m) (min (i+1) (c.S.length-1))))] 2));rw[show min (i+1) (c.S.length-1)=i by omega];rfl
   .rw[decide_eq_false hm]at hiz;rw[if_neg (by rw[hbf];exact hm)]at hR;subst hR;refine aN hx ?_;refine H ?_;rw[hw];refine bh O ?_ ?_<;>intro h
    .have:=aB h;exfalso;omega
    .clear h;refine aN hmx ?_;refine ap hiz ?_;exact bI
 .have hie:i=c.S.length:=by have:=aG h;omega
  clear h;have hb:=hlast hie;rw[if_pos hb,u5 hb]at hR;subst hR;rw[show min i (c.S.length-1)=c.S.length-1 by omega];exact bI
theorem tR (w:Int)(hw:i64 w)(x:RR)(r:AR){p A B:Rat}{k n m:Nat}(hx:Vq x p k)(hr:Va r A B n m)(h1:k<=1000000)(h2:n<=1000000)(h3:m<=1000000):Ret Tryz.prog .shared 247 [I w,.agg (eR x),.agg (eA r)] (.agg (eR (ofQ ((w:Rat)*(A+B*p))))):=by
 have zw:Zb w:=aU hw.1 hw.2;have d1:=bx w hw;have d2:=eJ r.t x (hx:=hr.t) (hy:=hx) J J;have v2:Vq (ofQ (B*p)) (B*p) (m+1+(k+1)):=Vq.ofQ (h:=@HQ.mul _ _ (m+1) (k+1) hr.t.hq hx.hq);have d3:=dy r.z (ofQ (B*p)) (hx:=hr.z) (hy:=v2) J J;have v3:Vq (ofQ (A+B*p)) (A+B*p) (n+1+(m+1+(k+1))+1):=Vq.ofQ (h:=@HQ.add _ _ (n+1) _ hr.z.hq (dV v2));have d4:=eJ (ofQ (w:Rat)) (ofQ (A+B*p)) (hy:=v3) Y J;generalize ofQ ((w:Rat)*(A+B*p))=X4 at *
 generalize ofQ (A+B*p)=X3 at *
 generalize ofQ (B*p)=X2 at *
 generalize ofQ (w:Rat)=X1 at *
 obtain⟨az,at'⟩:=r;try simp only at *
 refine Ret.of_pwp layOk mixed Go.Proofs.Tryz.func247 O Y O O ?_;refine bT 10 [7,8,9,10,11,12,13,14,15,16] ?_;refine G d1 ?_;refine G d2 ?_;refine G d3 ?_;refine G d4 ?_;exact bI
def cI (l:List SR)(i:Nat):Rat:=n8 (l.getD i dS).k.S.length (l.getD i dS).k.s (l.getD i dS).k.m
def DO (l:List SR)(i:Nat):Prop:=bG (l.getD i dS).k.m (l.getD i dS).k.S.length=0
def yT (l:List SR)(A B:Rat)(i:Nat):Rat:=if 0<A+B*xI l i then cI l i*(A+B*xI l i) else 0
def jt (l:List SR)(A B:Rat)(n:Nat):Prop:=∀i,i<n->0<A+B*xI l i->DO l i
noncomputable def CO (l:List SR)(A B:Rat):PV:=@ite _ (jt l A B l.length) (Classical.propDecidable _) (.tup [.agg (eR (ofQ (aw (yT l A B) l.length))),.bool true]) (.tup [.agg zN,.bool false])
theorem yR {c:CR}(hc:c.Lim)(h8:c.S.length<=8)(h0:bG c.m c.S.length=0):HQ (n8 c.S.length c.s c.m) 200:=by
 rw[u5 h0];exact(bF (c.S.length-1) fun k _=>p8 hc k).mono J
theorem Dr {l:List SR}(hl:ju l)(hf:q9 l){A B:Rat}{n m:Nat}(hA:HQ A n)(hB:HQ B m){i:Nat}(hi:i<l.length)(ha:0<A+B*xI l i->DO l i):HQ (yT l A B i) (200+(n+(m+4)+1)):=by
 rw[yT];split
 .rename_i h;have hx:=(hl.1 _ (bw hi)).x;have hx:Zb (l.getD i dS).x:=aU hx.1 hx.2;exact @HQ.mul _ _ 200 (n+(m+4)+1) (yR (hl.1 _ (bw hi)).k (hf.2 _ (bw hi)) (ha h)) (@HQ.add _ _ n (m+4) hA (@HQ.mul _ _ m 4 hB HQ.int))
 .exact HQ.zero.mono J
set_option maxRecDepth 20000 in
theorem ym (l:List SR)(hl:ju l)(hf:q9 l)(hck:cq l=0)(r:AR){A B:Rat}{n m:Nat}(hr:Va r A B n m)(h2:n<=100000)(h3:m<=100000):Ret Tryz.prog .shared 246 [.sl (l.map eS),.agg (eA r)] (CO l A B):=by
 have hw0:=bx 0 ⟨Y,Y⟩;rw[show(((0:Int):Rat))=0 from O]at hw0;have hml:(l.map eS).length=l.length:=ai;have hz:=hr.z.hq;have ht:=hr.t.hq;have h12:=hf.1;generalize hR:CO l A B=R;rw[CO]at hR;obtain⟨rz,rt⟩:=r;have hrz:=hr.z;have hrt:=hr.t;simp only at hrz hrt;refine Ret.of_pwp layOk mixed Go.Proofs.Tryz.func246 O Y O O ?_;refine G hw0 ?_;refine H ?_;refine ao (fun i:Nat=>i<=l.length/\jt l A B i) (fun i=>[(3,.ptr 3 1 0 0),(4,.ptr 4 1 0 0),(6,.ptr 6 1 0 0),(14,.sl (l.map eS)),(15,I l.length),(16,I (i:Nat))])
  (fun i=>[(3,1,⟨71,8,[eA ⟨rz,rt⟩],2⟩),(4,1,⟨42,4,[zN],2⟩),(6,1,⟨42,4,[eR (ofQ (aw (yT l A B) i))],2⟩)]) (fun i=>l.length-i) 0 ⟨Nat.zero_le _,fun i hi=>by omega⟩ ⟨O,O,O,O,by rw[<-hml];rfl,O,O,O,O,trivial⟩ ?_
 intro i s ⟨hi,hall⟩;refine D ?_ ?_<;>intro h
 .have hlt:i<l.length:=by have:=aB h;omega
  clear h;have hx:=b_ (d:=dS) hlt;have hsl:=hl.1 _ (bw hlt);have h8:=hf.2 _ (bw hlt);have hkc:=cM hck _ (bw hlt);have hxx:=hsl.x;have hzb:Zb (l.getD i dS).x:=aU hxx.1 hxx.2;have hw:=c9 i;have e1:=bx (l.getD i dS).x hxx;rw[show((l.getD i dS).x:Rat)=xI l i from O]at e1;have vx:Vq (ofQ (xI l i)) (xI l i) 4:=Vq.ofQ (h:=HQ.int);have e2:=eJ rt (ofQ (xI l i)) (hx:=hrt) (hy:=vx) J Y;have v2:Vq (ofQ (B*xI l i)) (B*xI l i) (m+1+4):=Vq.ofQ (h:=@HQ.mul _ _ (m+1) 4 ht HQ.int);have e3:=dy rz (ofQ (B*xI l i)) (hx:=hrz) (hy:=v2) J J;have v3:Vq (ofQ (A+B*xI l i)) (A+B*xI l i) (n+1+(m+1+4)+1):=Vq.ofQ (h:=@HQ.add _ _ (n+1) _ hz (dV v2));have e4:=nI (ofQ (A+B*xI l i)) (hx:=v3) J;have hsg:=uE (A+B*xI l i);by_cases hd:0<A+B*xI l i
  .have hsn:¬sgn (A+B*xI l i)<=0:=fun h=>by have:=hsg.1 h;grind
   have e5:=p9 (l.getD i dS).k hsl.k hkc;rw[By]at e5;generalize sgn (A+B*xI l i)=g at *
   by_cases hlim:DO l i
   .rw[if_pos (show bG (l.getD i dS).k.m (l.getD i dS).k.S.length=0 from hlim)]at e5;have hcl:=yR hsl.k h8 hlim;rw[show n8 (l.getD i dS).k.S.length (l.getD i dS).k.s (l.getD i dS).k.m=cI l i from O]at e5 hcl;have vc:Vq (ofQ (cI l i)) (cI l i) 200:=Vq.ofQ (h:=hcl);have e6:=eJ (ofQ (cI l i)) (ofQ (A+B*xI l i)) (hx:=vc) (hy:=v3) Y J;have hall':jt l A B (i+1):=fun j hj hp=>by
     by_cases hje:j=i
     .subst hje;exact hlim
     .exact hall j J hp
    have v6:Vq (ofQ (cI l i*(A+B*xI l i))) (cI l i*(A+B*xI l i)) (200+(n+1+(m+1+4)+1)):=Vq.ofQ (h:=@HQ.mul _ _ 200 _ hcl (dV v3));have v7:Vq (ofQ (aw (yT l A B) i)) (aw (yT l A B) i) (i*(200+(n+1+(m+1+4)+1)+1)+4):=Vq.ofQ (h:=bF i fun k hk=>Dr hl hf hz ht J (hall k hk));have e7:=dy (ofQ (aw (yT l A B) i)) (ofQ (cI l i*(A+B*xI l i))) (hx:=v7) (hy:=v6) (by have:=Nat.mul_le_mul (show i<=12 by omega) (show 200+(n+1+(m+1+4)+1)+1<=200208 by omega);omega) J;rw[show aw (yT l A B) i+cI l i*(A+B*xI l i)=aw (yT l A B) (i+1) by rw[aw,yT,if_pos hd]]at e7;generalize ofQ (aw (yT l A B) i)=K0 at *
    generalize hK1:ofQ (aw (yT l A B) (i+1))=K1 at *
    generalize ofQ (cI l i*(A+B*xI l i))=P0 at *
    generalize ofQ (cI l i)=C0 at *
    generalize ofQ (A+B*xI l i)=D0 at *
    generalize ofQ (B*xI l i)=D1 at *
    generalize ofQ (xI l i)=D2 at *
    refine aN hx ?_
    (repeat ((fail_if_success (with_reducible refine aR 5 ?_));refine b9 O ?_))
    refine aq (gH 9) ?_;refine bC 9 1 [20,21,22,23,24,25,26,27,28,9] [] aS O ?_;refine G e1 ?_;refine G e2 ?_;refine G e3 ?_;refine ap e4 ?_;refine D ?_ ?_<;>intro h
    .exact absurd (aB h) hsn
    clear h;refine G e5 ?_;refine bT 5 [42,43,44,45,46] ?_;refine G e6 ?_;refine G e7 ?_;refine H ?_;refine⟨i+1,⟨J,hall'⟩,J,O,O,O,O,O,congrArg I hw,O,O,?_,trivial⟩;show(_:Nat × Option Cont)=(1,some (Cont.mk 42 4 [eR (ofQ (aw (yT l A B) (i+1)))] 2));rw[hK1];rfl
   .rw[if_neg (show ¬bG (l.getD i dS).k.m (l.getD i dS).k.S.length=0 from hlim)]at e5;rw[if_neg (fun h=>hlim (h i hlt hd))]at hR;subst hR;generalize ofQ (A+B*xI l i)=D0 at *
    generalize ofQ (B*xI l i)=D1 at *
    generalize ofQ (xI l i)=D2 at *
    refine aN hx ?_
    (repeat ((fail_if_success (with_reducible refine aR 5 ?_));refine b9 O ?_))
    refine aq (gH 9) ?_;refine bC 9 1 [20,21,22,23,24,25,26,27,28,9] [] aS O ?_;refine G e1 ?_;refine G e2 ?_;refine G e3 ?_;refine ap e4 ?_;refine D ?_ ?_<;>intro h
    .exact absurd (aB h) hsn
    clear h;refine G e5 ?_;exact bI
  .have hsn:sgn (A+B*xI l i)<=0:=hsg.2 cH;have hall':jt l A B (i+1):=fun j hj hp=>by
    by_cases hje:j=i
    .subst hje;exact absurd hp hd
    .exact hall j J hp
   have hsum:aw (yT l A B) (i+1)=aw (yT l A B) i:=by rw[aw,yT,if_neg hd];grind
   generalize sgn (A+B*xI l i)=g at *
   generalize ofQ (A+B*xI l i)=D0 at *
   generalize ofQ (B*xI l i)=D1 at *
   generalize ofQ (xI l i)=D2 at *
   refine aN hx ?_
   (repeat ((fail_if_success (with_reducible refine aR 5 ?_));refine b9 O ?_))
   refine aq (gH 9) ?_;refine bC 9 1 [20,21,22,23,24,25,26,27,28,9] [] aS O ?_;refine G e1 ?_;refine G e2 ?_;refine G e3 ?_;refine ap e4 ?_;refine D ?_ ?_<;>intro h
   .clear h;refine H ?_;refine⟨i+1,⟨J,hall'⟩,J,O,O,O,O,O,congrArg I hw,O,O,?_,trivial⟩;show(_:Nat × Option Cont)=(1,some (Cont.mk 42 4 [eR (ofQ (aw (yT l A B) (i+1)))] 2));rw[hsum];rfl
   .exact absurd hsn (aG h)
 .have hie:i=l.length:=by have:=aG h;omega
  clear h;subst hie;rw[if_pos hall]at hR;subst hR;exact bI
noncomputable def nu (b:BR)(A B:Rat):Bool:=@decide (jt b.l A B b.l.length/\aw (yT b.l A B) b.l.length<(b.w:Rat)*(A+B*b.a.val)) (Classical.propDecidable _)
set_option maxRecDepth 20000 in
theorem l8 (b:BR)(hb:b.Ok)(r:AR){A B:Rat}{n m:Nat}(hr:Va r A B n m)(h2:n<=90000)(h3:m<=90000):Ret Tryz.prog .shared 200 [.agg (eB b),.agg (eA r)] (.bool (nu b A B)):=by
 have h1:=ym b.l hb.lim.l hb.few hb.chkL r hr J J;have zw:Zb b.w:=aU hb.lim.w.1 hb.lim.w.2;have hd:=tR b.w hb.lim.w b.a r hb.lim.a.v hr Y J J;have vd:Vq (ofQ ((b.w:Rat)*(A+B*b.a.val))) ((b.w:Rat)*(A+B*b.a.val)) (4+(n+1+(m+1+13)+1)):=Vq.ofQ (h:=@HQ.mul _ _ 4 _ HQ.int (@HQ.add _ _ (n+1) _ hr.z.hq (@HQ.mul _ _ (m+1) 13 hr.t.hq hb.lim.a.v.hq)));rw[CO]at h1;by_cases hall:jt b.l A B b.l.length
 .rw[if_pos hall]at h1;have h12:=hb.few.1;have hs:=bF (m:=200+(n+1+(m+1+4)+1)) b.l.length fun k hk=>Dr hb.lim.l hb.few hr.z.hq hr.t.hq hk (hall k hk);have vs:Vq (ofQ (aw (yT b.l A B) b.l.length)) (aw (yT b.l A B) b.l.length) (b.l.length*(200+(n+1+(m+1+4)+1)+1)+4):=Vq.ofQ (h:=hs);have hc:=mP (ofQ (aw (yT b.l A B) b.l.length)) (ofQ ((b.w:Rat)*(A+B*b.a.val))) (hx:=vs) (hy:=vd) (by have:=Nat.mul_le_mul (show b.l.length<=12 by omega) (show 200+(n+1+(m+1+4)+1)+1<=180210 by omega);omega) J;have hsl:=gw (aw (yT b.l A B) b.l.length-(b.w:Rat)*(A+B*b.a.val));have key:nu b A B=decide (sgn (aw (yT b.l A B) b.l.length-(b.w:Rat)*(A+B*b.a.val))<0):=by
   rw[nu,decide_eq_decide,hsl];constructor
   .intro h;have:=h.2;grind
   .intro h;exact⟨hall,cH⟩
  rw[key];generalize sgn (aw (yT b.l A B) b.l.length-(b.w:Rat)*(A+B*b.a.val))=g at *
  generalize ofQ (aw (yT b.l A B) b.l.length)=S at *
  generalize ofQ ((b.w:Rat)*(A+B*b.a.val))=D0 at *
  obtain⟨w,ba,l⟩:=b;obtain⟨rz,rt⟩:=r;try simp only at *
  refine Ret.of_pwp layOk mixed Go.Proofs.Tryz.func200 O Y O O ?_;refine G h1 ?_;refine bT 13 [14,15,16,17,18,19,20,21,22,23,24,25,4] ?_;refine G hd ?_;refine ap hc ?_;exact ef
 .rw[if_neg hall]at h1;have key:nu b A B=false:=by
   unfold nu;exact @decide_eq_false _ (Classical.propDecidable _) (fun h=>hall h.1)
  rw[key];clear hd vd;obtain⟨w,ba,l⟩:=b;obtain⟨rz,rt⟩:=r;try simp only at *
  refine Ret.of_pwp layOk mixed Go.Proofs.Tryz.func200 O Y O O ?_;refine G h1 ?_;refine bT 13 [14,15,16,17,18,19,20,21,22,23,24,25,4] ?_;exact ef
end Go.Pv
namespace Go.Pv
open Go.RowKit Go.Sort
section
variable {P:Program}{L:Lay}{C:Ctx}{γ:Nat->Option Nat}{s:St}{a:Act}{w w':World}
structure Chg (w w':World) (b:Nat) (T:TypeId) (cur:Array Value):Prop where
 os:w'.os=w.os
 tape:w'.tape=w.tape
 output:w'.output=w.output
 size:w.heap.size<=w'.heap.size
 other:∀b',b'≠b->b'<w.heap.size->w'.heap[b']? = w.heap[b']?
 at_:w'.heap[b]? = some (.cells cur T (0,0))
theorem u7 (h:Sim C γ s a w){k g b:Nat}{c c':Cont}{cur cur':Array Value}(ho:s.own k=(g,some c))(hb:γ k=some b)(hh:w.heap[b]? = some (.cells cur c.ty (0,0)))(hsz:cur'.size=cur.size)
  (hc:Chg w w' b c.ty cur') (h1:c'.ty=c.ty) (h2:c'.sz=c.sz) (h3:c.rows.length<=c'.rows.length) (hs:SiteOk (am C γ (s.setOwn k g (some c')) (w.setRow b cur')) (some b) c'):Sim C γ (s.setOwn k g (some c')) a w':=by
 refine(pJ h ho hb hh hsz h1 h2 h3 hs).ext ⟨hc.os,hc.tape,hc.output,by simpa using hc.size,fun b' hb'=>?_⟩;have hb'':b'<w.heap.size:=by simpa using hb'
 by_cases he:b'=b
 .subst he;rw[hc.at_,setRow_heap w b' cur cur' c.ty (0,0) hh]
 .rw[hc.other b' he hb'',setRow_other w b b' cur' he]
theorem u6 {α:Type}[Inhabited α]{e:α->Value}{q b:Nat}{d':Array α}{os:Array Obj}{T:TypeId}{cur:Array Value}(hh:w.heap[b]? = some (.cells cur T (0,0)))(hw:w'=grow (putRow e (Sort.ahead w q) b 0 d') os):Chg w w' b T (putCells e 0 d' cur):=by
 have hlt:b<w.heap.size:=(cm hh).1;subst hw;refine⟨O,O,O,ai,fun b' hne hb'=>?_,?_⟩
 .rw[heap_grow_old _ _ (by simpa using hb')];show(w.heap.modify b _)[b']? = _;rw[Array.getElem?_modify,if_neg (Ne.symm hne)]
 .rw[heap_grow_old _ _ (by simpa using hlt)];show(w.heap.modify b _)[b]? = _;rw[Array.getElem?_modify,if_pos O,hh];rfl
theorem jo {α:Type}[Inhabited α](e:α->Value)(off:Nat)(d:Array α)(c:Array Value):(putCells e off d c).size=c.size:=by simp[putCells]
theorem jp {α:Type}[Inhabited α](e:α->Value)(d:Array α)(c:Array Value)(h:d.size<=c.size):(putCells e 0 d c).toList.take d.size=d.toList.map e:=by
 apply List.ext_getElem
 .simp[putCells];omega
 intro i h1 h2;have hi:i<d.size:=by simpa using h2
 simp[putCells,hi]
theorem uh {E:Env}{k:Nat}{c:PV}(h:ff c=true):KRep E k c (scv c):=by
 match k with
 |0=>exact(fJ h _ _).1
 |1=>exact(fJ h _ _).1
 |_+2=>exact .d (fJ h _ _).1
def iu {α:Type}(enc:α->List PV)(l:List α):List Value:=l.flatMap fun x=>(enc x).map scv
theorem wT {α:Type}{enc:α->List PV}{sz:Nat}(h:∀x,(enc x).length=sz)(l:List α):(iu enc l).length=l.length*sz:=by
 induction l with
 |nil=>simp[iu]
 |cons x l ih=>simp only[iu,List.flatMap_cons,List.length_append,List.length_map,List.length_cons,h,Nat.add_mul,Nat.one_mul]at ih ⊢;omega
theorem kw {α:Type}{enc:α->List PV}{sz:Nat}(h:∀x,(enc x).length=sz):∀(l:List α) (i j:Nat) (x:α) (c:PV),l[i]? = some x->(enc x)[j]? = some c->(iu enc l)[i*sz+j]? = some (scv c)
 |[],i,j,x,c,h1,_=>by simp at h1
 |y::l,0,j,x,c,h1,h2=>by
  simp at h1;subst h1;have hj:=(bi h2).1;rw[iu,List.flatMap_cons,List.getElem?_append_left aK,List.getElem?_map,Nat.zero_mul,Nat.zero_add,h2];rfl
 |y::l,i+1,j,x,c,h1,h2=>by
  have ih:=kw h l i j x c (by simpa using h1) h2;rw[iu,List.flatMap_cons,List.getElem?_append_right (by rw[List.length_map,h,Nat.add_mul];omega),List.length_map,h];rw[show(i+1)*sz+j-sz=i*sz+j by rw[Nat.add_mul];omega];exact ih
theorem vY {l m:List Value}{n i:Nat}{v:Value}(h:l.take n=m)(hi:m[i]? = some v):l[i]? = some v:=by
 rw[<-h,List.getElem?_take]at hi;split at hi
 .exact hi
 .cases hi
def F_ (ro:Option Nat)(a:Option Addr)(cap:Nat):Value:=match ro with
 |none => .tuple #[]
 |some n => .slice a n cap
def GF (ro:Option Nat)(k g:Nat):PV:=match ro with
 |none => .tup []
 |some n => .als k g 0 n
variable [Globs]
theorem nK {α:Type}{enc:α->List PV}{l:List α}{d k g m sz kd f:Nat}{T ty:TypeId}{pos:String}{af:Array Edge}{x fop:Operand}{more:List Operand}{mv:List FuncId}{tys:Array TypeId}{K:St->Prop}(ro:Option Nat)(Q:List α->Prop)
  (hpl:∀x,(enc x).all ff=true) (hlen:∀x,(enc x).length=sz) (hsz:0<sz) (hf:s.ev fop = .clo f []) (hx:s.ev x = .als k g 0 m) (hm:m=l.length) (ho:s.own k=(g,some ⟨T,sz,l.map enc,kd⟩)) (hmore:more.map s.ev=mv.map fun f => .clo f []) (hcal:ej P f) (hro:∀n,ro=some n->n<=l.length)
  (h0:l=[]->Q []/\∀w:World,Globs.glob w->Calls P f (Value.slice none 0 0::mv.map fun f => .func (.func f) #[] #[]).toArray w fun e w'=>e = .returned (F_ ro none 0)/\Below w.heap.size w w')
  (hcall:∀(w:World) (b cap:Nat) (cur:Array Value),w.heap[b]? = some (.cells cur T (0,0))->l.length<=cap->l.length*sz<=cur.size->cur.toList.take (l.length*sz)=iu enc l->Globs.glob w ->
   Calls P f (Value.slice (some ⟨b,0,none⟩) l.length cap::mv.map fun f => .func (.func f) #[] #[]).toArray w fun e w'=>∃l' cur',Q l'/\l'.length=l.length/\e = .returned (F_ ro (some ⟨b,0,none⟩) cap)/\Chg w w' b T cur'/\cur'.size=cur.size/\cur'.toList.take (l.length*sz)=iu enc l')
  (h:∀l',Q l'->l'.length=l.length->K ((s.setOwn k g (some ⟨T,sz,l'.map enc,kd⟩)).putR d (GF ro k g))):Sm P L s ⟨some d,.call ⟨.value fop,(x::more).toArray,tys⟩,ty,pos,af,none⟩ K:=by
 intro C a w Qp hG hs hN;obtain⟨γ,hs⟩:=hs;have hfv:=hs.ev fop;rw[hf]at hfv;obtain⟨vs,hv,hl,_⟩:=hfv.clo_inv;have hvs:vs=[]:=List.eq_nil_of_length_eq_zero (by simpa using hl.symm);subst hvs;have hmv:more.map a.eval=mv.map fun f=>Value.func (.func f) #[] #[]:=by
  clear h0 hcall h
  induction more generalizing mv with
  |nil=>cases mv with
   |nil=>rfl
   |cons f mv=>simp at hmore
  |cons y more ih=>cases mv with
   |nil=>simp at hmore
   |cons f mv =>
    simp only[List.map_cons,List.cons.injEq]at hmore ⊢;have hy:=hs.ev y;rw[hmore.1]at hy;obtain⟨vs,hv,hl,_⟩:=hy.clo_inv;have hvs:vs=[]:=List.eq_nil_of_length_eq_zero (by simpa using hl.symm);subst hvs;exact⟨hv,ih hmore.2 hN⟩
 have hxr:=hs.ev x;rw[hx]at hxr;have hals:=hs.als_at hxr ho;unfold Oper.wp;rw[gQ (f:=f) O hv hcal,Oper.upon_enter];simp only[List.map_cons,List.append_nil,hmv];have hglob:=hG.glob _ hs.below;rcases hals with⟨h1,_,h3,h4⟩|⟨b,cap,cur,h1,h2,h3,h4,h5,h6,h7⟩
 .have hnil:l=[]:=List.eq_nil_of_length_eq_zero J;rw[h4];refine((h0 hnil).2 w hglob).mono ?_;rintro e w' ⟨rfl,hbel⟩;have hs':=hs.ext hbel;have hst:s=s.setOwn k g (some ⟨T,sz,l.map enc,kd⟩):=by
   have:s.own=(s.setOwn k g (some ⟨T,sz,l.map enc,kd⟩)).own:=by
    funext r;by_cases hr:r=k
    .subst hr;rw[ah,ho]
    .rw[ay hr]
   cases s;simp only[St.setOwn]at this ⊢;rw[<-this]
  have hKs:=h [] (h0 hnil).1 (by rw[hnil]);rw[hnil]at hst;rw[<-hst]at hKs;refine⟨_,⟨γ,hs'.put (d:=some d) hN ?_⟩,hKs⟩;cases ro with
  |none=>exact .tup [] [] rfl fun i c v e=>by simp at e
  |some n =>
   have hn:=hro n O;rw[hnil]at hn;have hn0:n=0:=by simpa using hn
   subst hn0;refine .als (by simp[am,ho]) fun _ l2 hl2=>?_;simp only[am,ho,Option.map_some,Option.some.injEq]at hl2;subst hl2;exact .inl ⟨h1,O,O,O⟩
 .subst hm;rw[h2];simp only[Nat.zero_mul];have h3:w.heap[b]? = some (.cells cur T (0,0)):=h3;have hz:(0+cap)*sz=cap*sz:=by rw[Nat.zero_add]
  have hcs:cur.size=cap*sz:=by rw[<-hz];exact h6
  have hle:l.length*sz<=cur.size:=by rw[hcs];exact Nat.mul_le_mul_right _ h4
  obtain⟨cur0,g1,_,_,g4,g5⟩:=hs.site_at ho h1 hsz;have g1:w.heap[b]? = some (.cells cur0 T (0,0)):=g1;rw[h3]at g1;simp only[Option.some.injEq,Obj.cells.injEq,and_true]at g1;subst g1;have hflat:cur.toList.take (l.length*sz)=iu enc l:=by
   apply List.ext_getElem?;intro q;by_cases hq:q<l.length*sz
   .have hqi:q/sz<l.length:=(Nat.div_lt_iff_lt_mul hsz).2 hq;have hqj:q%sz<sz:=Nat.mod_lt _ hsz;have hqe:q/sz*sz+q%sz=q:=by rw[Nat.mul_comm];exact Nat.div_add_mod q sz
    have hx1:l[q/sz]? = some l[q/sz]:=List.getElem?_eq_getElem hqi;have hx2:(enc l[q/sz])[q%sz]? = some ((enc l[q/sz])[q%sz]'(by rw[hlen];exact hqj)):=List.getElem?_eq_getElem _;obtain⟨v,e1,_,e3⟩:=g5 (q/sz) (q%sz) (enc l[q/sz]) _ (by rw[List.getElem?_map,hx1];rfl) hx2;have hpv:=List.all_eq_true.1 (hpl l[q/sz]) _ (a_ hx2);have hv:=pj hpv (e3.rep aE);have:=kw hlen l (q/sz) (q%sz) _ _ hx1 hx2;rw[hqe]at this e1;rw[this,List.getElem?_take,if_pos hq,Array.getElem?_toList,e1,hv]
   .rw[List.getElem?_take,if_neg hq,List.getElem?_eq_none (by rw[wT hlen];omega)]
  refine(hcall w b cap cur h3 h4 hle hflat hglob).mono ?_;rintro e w' ⟨l',cur',hQ,hl',rfl,hchg,hcz,hfl⟩;have hsite:SiteOk (am C γ (s.setOwn k g (some ⟨T,sz,l'.map enc,kd⟩)) (w.setRow b cur')) (some b) ⟨T,sz,l'.map enc,kd⟩:=by
   refine⟨(fun e=>by cases e),(fun b' _ hz=>by simp only at hz;omega),(fun b' _ hz=>by simp only at hz;omega),fun b' hb' _=>?_⟩;simp at hb';subst hb';refine⟨cur',setRow_heap w b cur cur' T (0,0) h3,hsz,by simp only[List.length_map];rw[hl',hcz];exact hle,fun row hr=>?_,fun i j row pv e1 e2=>?_⟩
   .simp only[List.mem_map]at hr;obtain⟨y,_,rfl⟩:=hr;exact hlen y
   .simp only[List.getElem?_map,Option.map_eq_some_iff]at e1;obtain⟨y,hy,rfl⟩:=e1;have hpv:=List.all_eq_true.1 (hpl y) _ (a_ e2);have:=vY hfl (kw hlen l' i j y pv hy e2);exact⟨scv pv,by rw[<-Array.getElem?_toList];exact this,(fJ hpv w (fun _=>True)).2,uh hpv⟩
  have hsim:=u7 (c':=⟨T,sz,l'.map enc,kd⟩) hs ho h1 h3 hcz hchg O O (by simp[hl']) hsite;refine⟨_,⟨γ,hsim.put (d:=some d) hN ?_⟩,h l' hQ hl'⟩;cases ro with
  |none=>exact .tup [] [] rfl fun i c v e=>by simp at e
  |some n =>
   have hn:=hro n O;refine .als (by simp[am,ah]) fun _ l2 hl2=>?_;simp only[am,ah,Option.map_some,Option.some.injEq]at hl2;subst hl2;exact .inr ⟨b,cap,cur',h1,by simp[F_],hchg.at_,J,h5,by rw[hcz];exact h6,by simp;omega⟩
end
end Go.Pv
namespace Go.Proofs
open Go.Shelf
def Tryz.lays189_ren:Go.Shelf.Ren:=⟨fun|189=>275|125=>289|257=>288|128=>301|129=>302|294=>292|295=>293|296=>294|297=>295|298=>296|299=>297|216=>298|300=>299|301=>300|328=>305|329=>306|330=>307|331=>308|332=>309|215=>310|343=>312|n=>n,fun|28=>92|3=>3|46=>278|0=>0|51=>320|53=>226|4=>4|183=>337|182=>336|131=>89|5=>5|9=>9|218=>347|222=>351|228=>353|229=>354|n=>n,fun|n=>n⟩
theorem Tryz.lays189:Go.Proofs.Lays.n189 Tryz.prog Tryz.lays189_ren:={
 mixed:=by kernel_rfl
 f125:=Tryz.func289.trans (congrArg some (by kernel_rfl))
 f128:=Tryz.func301.trans (congrArg some (by kernel_rfl))
 f129:=Tryz.func302.trans (congrArg some (by kernel_rfl))
 f189:=Tryz.func275.trans (congrArg some (by kernel_rfl))
 f215:=Tryz.func310.trans (congrArg some (by kernel_rfl))
 f216:=Tryz.func298.trans (congrArg some (by kernel_rfl))
 f257:=Tryz.func288.trans (congrArg some (by kernel_rfl))
 f294:=Tryz.func292.trans (congrArg some (by kernel_rfl))
 f295:=Tryz.func293.trans (congrArg some (by kernel_rfl))
 f296:=Tryz.func294.trans (congrArg some (by kernel_rfl))
 f297:=Tryz.func295.trans (congrArg some (by kernel_rfl))
 f298:=Tryz.func296.trans (congrArg some (by kernel_rfl))
 f299:=Tryz.func297.trans (congrArg some (by kernel_rfl))
 f300:=Tryz.func299.trans (congrArg some (by kernel_rfl))
 f301:=Tryz.func300.trans (congrArg some (by kernel_rfl))
 f328:=Tryz.func305.trans (congrArg some (by kernel_rfl))
 f329:=Tryz.func306.trans (congrArg some (by kernel_rfl))
 f330:=Tryz.func307.trans (congrArg some (by kernel_rfl))
 f331:=Tryz.func308.trans (congrArg some (by kernel_rfl))
 f332:=Tryz.func309.trans (congrArg some (by kernel_rfl))
 f343:=Tryz.func312.trans (congrArg some (by kernel_rfl))
 t0:=Tryz.underlying0
 a0:=Tryz.isAgg0
 z0:=Tryz.sizeOf0
 v0:=Tryz.zeroValue0
 t3:=Tryz.underlying3
 a3:=Tryz.isAgg3
 z3:=Tryz.sizeOf3
 v3:=Tryz.zeroValue3
 t4:=Tryz.underlying4
 a4:=Tryz.isAgg4
 z4:=Tryz.sizeOf4
 v4:=Tryz.zeroValue4
 t5:=Tryz.underlying5
 a5:=Tryz.isAgg5
 z5:=Tryz.sizeOf5
 v5:=Tryz.zeroValue5
 t9:=Tryz.underlying9
 a9:=Tryz.isAgg9
 z9:=Tryz.sizeOf9
 v9:=Tryz.zeroValue9
 t28:=Tryz.underlying92
 a28:=Tryz.isAgg92
 z28:=Tryz.sizeOf92
 v28:=Tryz.zeroValue92
 t46:=Tryz.underlying278
 a46:=Tryz.isAgg278
 z46:=Tryz.sizeOf278
 v46:=Tryz.zeroValue278
 t51:=Tryz.underlying320
 a51:=Tryz.isAgg320
 z51:=Tryz.sizeOf320
 v51:=Tryz.zeroValue320
 t53:=Tryz.underlying226
 a53:=Tryz.isAgg226
 z53:=Tryz.sizeOf226
 v53:=Tryz.zeroValue226
 t131:=Tryz.underlying89
 a131:=Tryz.isAgg89
 z131:=Tryz.sizeOf89
 v131:=Tryz.zeroValue89
 t182:=Tryz.underlying336
 a182:=Tryz.isAgg336
 z182:=Tryz.sizeOf336
 v182:=Tryz.zeroValue336
 t183:=Tryz.underlying337
 a183:=Tryz.isAgg337
 z183:=Tryz.sizeOf337
 v183:=Tryz.zeroValue337
 t218:=Tryz.underlying347
 a218:=Tryz.isAgg347
 z218:=Tryz.sizeOf347
 v218:=Tryz.zeroValue347
 t222:=Tryz.underlying351
 a222:=Tryz.isAgg351
 z222:=Tryz.sizeOf351
 v222:=Tryz.zeroValue351
 t228:=Tryz.underlying353
 a228:=Tryz.isAgg353
 z228:=Tryz.sizeOf353
 v228:=Tryz.zeroValue353
 t229:=Tryz.underlying354
 a229:=Tryz.isAgg354
 z229:=Tryz.sizeOf354
 v229:=Tryz.zeroValue354 }
open Go.Sort Go.RowKit in
theorem Tryz.slices_Sort_int (blk off cap:Nat)(zs:List Int)(w:World)(hH:Holds (Value.int .i64) w blk off zs.toArray)(hblk:blk<w.heap.size)(hsz:zs.length<4611686018427387904) :
  Calls Tryz.prog 275 #[.slice (some ⟨blk,off,none⟩) zs.length cap] w fun e w' =>
   e = .returned (.tuple #[])/\∃n os,w'=grow (putRow (Value.int .i64) (Sort.ahead w n) blk off (zs.mergeSort fun x y=>decide (x<=y)).toArray) os:=Any.slices_Sort_int Tryz.lays189 blk off cap zs w hH hblk hsz
def Tryz.laysNm220_ren:Go.Shelf.Ren:=⟨fun|20=>276|n=>n,fun|22=>92|3=>3|4=>4|0=>0|n=>n,fun|n=>n⟩
theorem Tryz.laysNm220:Go.Proofs.Lays2.n20 Tryz.prog Tryz.laysNm220_ren:={
 mixed:=by kernel_rfl
 f20:=Tryz.func276.trans (congrArg some (by kernel_rfl))
 t0:=Tryz.underlying0
 a0:=Tryz.isAgg0
 z0:=Tryz.sizeOf0
 v0:=Tryz.zeroValue0
 t3:=Tryz.underlying3
 a3:=Tryz.isAgg3
 z3:=Tryz.sizeOf3
 v3:=Tryz.zeroValue3
 t4:=Tryz.underlying4
 a4:=Tryz.isAgg4
 z4:=Tryz.sizeOf4
 v4:=Tryz.zeroValue4
 t22:=Tryz.underlying92
 a22:=Tryz.isAgg92
 z22:=Tryz.sizeOf92
 v22:=Tryz.zeroValue92
 i3:=by kernel_rfl }
open Go.RowKit Go.Lib Go.Sort in
theorem Tryz.slices_Compact_int (blk off cap:Nat)(zs:List Int)(w:World)(hH:Holds (Value.int .i64) w blk off zs.toArray)(hsz:zs.length<=9223372036854775807)(hcap:zs.length<=cap) :
  Calls Tryz.prog 276 #[.slice (some ⟨blk,off,none⟩) zs.length cap] w fun e w'=>e = .returned (.slice (some ⟨blk,off,none⟩) (Lib.compact zs).length cap)/\∃q,w'=putRow (Value.int .i64) (Sort.ahead w q) blk off (Lib.compact zs++List.replicate (zs.length-(Lib.compact zs).length) 0).toArray:=Any.slices_Compact_int Tryz.laysNm220 blk off cap zs w hH hsz hcap
open Go.RowKit Go.Lib Go.Sort in
theorem Tryz.slices_Compact_int_empty (a:Option Addr)(cap:Nat)(w:World) :
  Calls Tryz.prog 276 #[.slice a 0 cap] w fun e w'=>e = .returned (.slice a 0 cap)/\w'=w:=Any.slices_Compact_int_empty Tryz.laysNm220 a cap w
open Go.RowKit Go.Sort in
theorem Tryz.slices_Sort_int_none (p:Option Addr)(cap:Nat)(w:World) :
  Calls Tryz.prog 275 #[.slice p 0 cap] w fun e w'=>e = .returned (.tuple #[])/\w'=w:=Any.slices_Sort_int_none Tryz.lays189 p cap w
end Go.Proofs
set_option maxHeartbeats 2000000
namespace Go.Pv
attribute [local irreducible] PWP POps PQuiet PSem aF au ak aj
open Go.Proofs Go.RowKit Go.Sort
theorem Sim.cutS {C:Ctx}{γ:Nat->Option Nat}{s:St}{a:Act}{w:World}(h:Sim C γ s a w){k g n:Nat}{c:Cont}(ho:s.own k=(g,some c))(hz:0<c.sz):Sim C γ (s.setOwn k (g+1) (some ⟨c.ty,c.sz,c.rows.take n,c.kind⟩)) a w:=by
 have hown:∀k' c'',((s.setOwn k (g+1) (some ⟨c.ty,c.sz,c.rows.take n,c.kind⟩)).own k').2=some c''->∃c3,(s.own k').2=some c3:=by
  intro k' c'' hc;by_cases hk:k'=k
  .subst hk;exact⟨c,by rw[ho]⟩
  .rw[ay hk]at hc;exact⟨c'',hc⟩
 have hok:∀b',eg C γ s w b'->eg C γ (s.setOwn k (g+1) (some ⟨c.ty,c.sz,c.rows.take n,c.kind⟩)) w b':=by
  rintro b' ⟨f1,f2,f3⟩;exact⟨f1,f2,fun k' c'' hc=>let ⟨c3,hc3⟩:=hown k' c'' hc;f3 k' c3 hc3⟩
 have hle:(am C γ s w).Le (am C γ (s.setOwn k (g+1) (some ⟨c.ty,c.sz,c.rows.take n,c.kind⟩)) w):=by
  refine⟨hok,fun b' hb'=>⟨hb'.1,hok b' hb'.2⟩,fun b' hb'=>hb'.2,fun b' _=>rfl,fun k'=>?_,fun k' l' hg hl=>?_,fun k' l' b' cur'' _ hl hb' hh'=>⟨cur'',hh',O⟩⟩
  .show(s.own k').1<=((s.setOwn k (g+1) _).own k').1;by_cases hk:k'=k
   .subst hk;rw[ah,ho];exact Nat.le_succ _
   .rw[ay hk];exact aP
  .by_cases hk:k'=k
   .subst hk;have:((s.setOwn k' (g+1) (some ⟨c.ty,c.sz,c.rows.take n,c.kind⟩)).own k').1=(s.own k').1:=hg;rw[ah,ho]at this;simp at this
   .simp only[am,ay hk]at hl;exact⟨l',hl,O,O,O,aP⟩
 refine⟨h.defers,h.size,fun r=>(h.regs r).mono hle,fun k' c'' hc=>?_,fun k1 k2 c1 c2 b' e1 e2 e3 e4=>?_,fun k' c'' b' e1 e2=>?_,h.below,h.top,fun c v hk=>(h.kept c v hk).mono hle⟩
 .by_cases hk:k'=k
  .subst hk;rw[ah]at hc;simp at hc;subst hc;have hs:=h.sites k' c (by rw[ho]);refine⟨fun hb=>by simp[hs.emp hb],(fun b' _ hz'=>by simp only at hz';omega),(fun b' _ hz'=>by simp only at hz';omega),fun b' hb' _=>?_⟩;obtain⟨cur,h1,h2,h3,h4,h5⟩:=hs.at_ b' hb' hz;refine⟨cur,h1,h2,?_,fun row hr=>h4 row (List.mem_of_mem_take hr),fun i j row pv e1 e2=>?_⟩
   .simp only[List.length_take];exact Nat.le_trans (Nat.mul_le_mul_right _ (Nat.min_le_right _ _)) h3
   .simp only[List.getElem?_take]at e1;split at e1
    .obtain⟨v,f1,f2,f3⟩:=h5 i j row pv e1 e2;exact⟨v,f1,f2,f3.mono hle⟩
    .cases e1
  .rw[ay hk]at hc;exact(h.sites k' c'' hc).mono hle fun b' hb'=>rfl
 .obtain⟨d1,f1⟩:=hown k1 c1 e1;obtain⟨d2,f2⟩:=hown k2 c2 e2;exact h.inj k1 k2 d1 d2 b' f1 f2 e3 e4
 .obtain⟨d1,f1⟩:=hown k' c'' e1;exact h.base k' d1 b' f1 e2
theorem Ghost.cut {s:St}{k g t n sz kd:Nat}{T:TypeId}{rows:List (List PV)}(ho:s.own k=(g,some ⟨T,sz,rows,kd⟩))(hr:s.reg t = .als k g 0 n)(hn:n<=rows.length)(hz:Nat.blt 0 sz=true) :
  Ghost s ((s.setOwn k (g+1) (some ⟨T,sz,rows.take n,kd⟩)).putR t (.als k (g+1) 0 n)):=by
 intro C a w hX ⟨γ,h⟩;have hz:0<sz:=by simpa using hz
 have h':=h.cutS (n:=n) ho hz;have hals:=h.als_at (by rw[<-hr];exact h.regs t) ho;refine⟨γ,h'.defers,h'.size,fun r=>?_,h'.sites,h'.inj,h'.base,h'.below,h'.top,h'.kept⟩;show Rep (am C γ (s.setOwn k (g+1) (some ⟨T,sz,rows.take n,kd⟩)) w) (bif Nat.beq r t then _ else _) _;by_cases hrt:r=t
 .subst hrt;rw[Nat.beq_refl,cond_true];refine .als (by simp[am,ah]) fun _ l hl=>?_;simp only[am,ah,Option.map_some,Option.some.injEq]at hl;subst hl;rcases hals with⟨h1,h2,h3,h4⟩|⟨b,cap,cur,h1,h2,h3,h4,h5,h6,h7⟩
  .exact .inl ⟨h1,h2,h3,h4⟩
  .exact .inr ⟨b,cap,cur,h1,h2,h3,h4,h5,h6,by simp;omega⟩
 .rw[aZ hrt,cond_false];exact h'.regs r
def cU (l:List Int):List Int:=l.mergeSort fun x y=>decide (x<=y)
def qw (l:List Int):List Int:=Lib.compact l++List.replicate (l.length-(Lib.compact l).length) 0
theorem rG (x:Int):(eN x).all ff=true:=rfl
theorem m7 {w:World}{b:Nat}{T:TypeId}{cur:Array Value}{l:List Int}(hh:w.heap[b]? = some (.cells cur T (0,0)))(hc:cur.toList.take (l.length*1)=iu eN l):Holds (Value.int .i64) w b 0 l.toArray:=fun j hj=>by
 have hj':j<l.length:=by simpa using hj
 have hx:l[j]? = some l[j]:=List.getElem?_eq_getElem hj';have h1:=vY hc (kw (sz:=1) (fun _=>rfl) l j 0 l[j] (I l[j]) hx O);rw[Nat.mul_one,Nat.add_zero]at h1;refine⟨?_,frozen_of_row w b _ cur T hh⟩;rw[aX hh,Nat.zero_add,<-Array.getElem?_toList,h1];simp[hj',scv]
theorem oQ (l:List Int):iu eN l=l.map (Value.int .i64):=by
 induction l with
 |nil=>rfl
 |cons x l ih=>rw[iu,List.flatMap_cons,List.map_cons,<-ih];rfl
theorem Bw:ej Tryz.prog 275:=⟨_,Go.Proofs.Tryz.func275,Y,O⟩
theorem Bx:ej Tryz.prog 276:=⟨_,Go.Proofs.Tryz.func276,Y,O⟩
section
variable {C:Ctx}{s:St}{d k g m kd:Nat}{ty:TypeId}{pos:String}{af:Array Edge}{x:Operand}{tys:Array TypeId}{K:St->Prop}
set_option maxRecDepth 20000 in
theorem AU (l:List Int)(hl:l.length<=1000000)(hx:s.ev x = .als k g 0 m)(hm:m=l.length)(ho:s.own k=(g,some ⟨3,1,l.map eN,kd⟩))
  (h:K ((s.setOwn k g (some ⟨3,1,(cU l).map eN,kd⟩)).putR d (.tup []))):Sm Tryz.prog lay.get s ⟨some d,.call ⟨.value (.func 275),#[x],tys⟩,ty,pos,af,none⟩ K:=by
 refine nK (enc:=eN) (l:=l) (sz:=1) (more:=[]) (mv:=[]) none (fun l'=>l'=cU l) rG (fun _=>rfl) Y O hx hm ho O Bw (fun n h=>by cases h) (fun hl0=>?_) (fun w b cap cur hh h1 h2 hc hg=>?_) (fun l' hQ _=>?_)
 .subst hl0;refine⟨by simp[cU],fun w _=>(Tryz.slices_Sort_int_none none 0 w).mono ?_⟩;rintro e w' ⟨rfl,rfl⟩;exact⟨O,Below.refl _ _⟩
 .have hb:b<w.heap.size:=(cm hh).1;refine(Tryz.slices_Sort_int b 0 cap l w (m7 hh hc) hb J).mono ?_;rintro e w' ⟨rfl,n,os,hw⟩;have hlen:(cU l).length=l.length:=by simp[cU]
  have hchg:=u6 (T:=3) hh hw;refine⟨cU l,_,O,hlen,O,hchg,jo _ _ _ _,?_⟩;have:=jp (Value.int .i64) (cU l).toArray cur (by simp[hlen];omega);rw[List.size_toArray,hlen]at this;rw[Nat.mul_one,oQ];exact this
 .subst hQ;exact h
theorem fk (l:List Int):(Lib.compact l).length<=l.length:=by
 rw[Lib.compact,Lib.compactUpTo,List.length_map];exact Nat.le_trans (List.length_filter_le _ _) ai
theorem kH (l:List Int):(qw l).length=l.length:=by
 have:=fk l;simp[qw];omega
set_option maxRecDepth 20000 in
theorem rq (l:List Int)(hl:l.length<=1000000)(hx:s.ev x = .als k g 0 m)(hm:m=l.length)(ho:s.own k=(g,some ⟨3,1,l.map eN,kd⟩))
  (h:K ((s.setOwn k g (some ⟨3,1,(qw l).map eN,kd⟩)).putR d (.als k g 0 (Lib.compact l).length))):Sm Tryz.prog lay.get s ⟨some d,.call ⟨.value (.func 276),#[x],tys⟩,ty,pos,af,none⟩ K:=by
 refine nK (enc:=eN) (l:=l) (sz:=1) (more:=[]) (mv:=[]) (some (Lib.compact l).length) (fun l'=>l'=qw l) rG (fun _=>rfl) Y O hx hm ho O Bx (fun n h=>by cases h;exact fk l) (fun hl0=>?_) (fun w b cap cur hh h1 h2 hc hg=>?_) (fun l' hQ _=>?_)
 .subst hl0;refine⟨O,fun w _=>(Tryz.slices_Compact_int_empty none 0 w).mono ?_⟩;rintro e w' ⟨rfl,rfl⟩;exact⟨O,Below.refl _ _⟩
 .refine(Tryz.slices_Compact_int b 0 cap l w (m7 hh hc) J h1).mono ?_;rintro e w' ⟨rfl,q,hw⟩;have hchg:=u6 (T:=3) hh (hw.trans (Go.Sort.grow_empty _).symm);refine⟨qw l,_,O,kH l,O,hchg,jo _ _ _ _,?_⟩;have:=jp (Value.int .i64) (qw l).toArray cur (by simp[kH];omega);rw[List.size_toArray,kH]at this;rw[Nat.mul_one,oQ];exact this
 .subst hQ;exact h
end
open Go.Proofs
def bR (l:List SR):List Int:=Lib.compact (cU (l.map (·.x)))
set_option maxRecDepth 20000 in
theorem np (l:List SR)(hl:ju l)(h12:l.length<=1000):Ret Tryz.prog .shared 248 [.sl (l.map eS)] (.sl ((bR l).map eN)):=by
 have hml:(l.map eS).length=l.length:=ai;have hrows:∀(k:Nat) x,l[k]? = some x->((l.take (k+1)).map (·.x)).map eN=((l.take k).map (·.x)).map eN++[eN x.x]:=fun k x hx=>by rw[br hx,List.map_append,List.map_append];rfl
 refine Ret.of_pwp layOk mixed Go.Proofs.Tryz.func248 O Y O O ?_
 ((repeat (first|refine aO ?_ | refine cf ?_ | refine bL ?_ | refine bS ?_));refine bc ?_)
 refine gN O trivial ?_
 ((repeat (first|refine aO ?_ | refine cf ?_ | refine bL ?_ | refine bS ?_));refine bc ?_)
 (first|refine ax (gp 3 1 0 O O ?_)|refine ax (gj 3 1 0 O O ?_))
 refine H ?_;refine ao (fun k=>k<=l.length) (fun k=>[(3,.als 3 (k+1) 0 (((l.take k).map (·.x)).map eN).length),(6,.sl (l.map eS)),(7,I l.length),(8,I k)]) (fun k=>[(3,k+1,⟨3,1,((l.take k).map (·.x)).map eN,0⟩)]) (fun k=>l.length-k) 0 (Nat.zero_le _) ⟨O,O,by rw[<-hml];rfl,O,O,trivial⟩ ?_;intro k s hk;refine D ?_ ?_<;>intro h
 .have hlt:k<l.length:=by have:=aB h;omega
  clear h;obtain⟨x,hx⟩:=aH hlt;have hw:=c9 k;refine aN hx ?_;refine H ?_;refine ax (aT 0 O O O O O O O O O O O aI O ?_);refine H ?_;refine ax (bb 0 O O O O O O O O O O O aI (by intro row hr;first|(simp at hr;subst hr;rfl)|simp at hr) O O aK aK ?_);refine H ?_;refine⟨k+1,hlt,J,?_,O,O,congrArg I hw,?_,trivial⟩
  .rw[hrows k x hx];rfl
  .rw[hrows k x hx];rfl
 .have hge:k=l.length:=by have:=aG h;omega
  subst hge;clear h;rw[List.take_length];have hal:(l.map (·.x)).length<=1000000:=by simp;omega
  generalize hX:l.map (·.x)=X at *
  have hsl:(cU X).length<=1000000:=by rw[cU,List.length_mergeSort];exact hal
  ((repeat ((fail_if_success (with_reducible refine aR 7 ?_));refine b9 O ?_));refine aM 1 ?_)
  refine dD O ?_;refine aO ?_;refine aW O (AU X hal O ai O ?_);refine aJ ?_
  ((repeat ((fail_if_success (with_reducible refine aR 8 ?_));refine b9 O ?_));refine aM 1 ?_)
  refine dD O ?_;refine aO ?_;refine aW O (rq (cU X) hsl O (by simp[cU]) O ?_);refine aJ ?_;refine gN O trivial ?_;refine aO ?_;refine bL ?_;refine aq (Ghost.cut (k:=3) (t:=2) (rows:=(qw (cU X)).map eN) O O (by rw[List.length_map,kH];exact fk _) O) ?_;have hc:((qw (cU X)).map eN).take (Lib.compact (cU X)).length=(bR l).map eN:=by
   rw[<-List.map_take,qw,List.take_left,bR,hX]
  have hcl:(Lib.compact (cU X)).length=(bR l).length:=by rw[bR,hX]
  rw[hc];refine H ?_;exact gF O O O ⟨O,O,by show _=(List.map eN (bR l)).length;rw[List.length_map,hcl]⟩ O
theorem ug {l:List SR}{x:Int}(h:x∈bR l):∃s∈l,s.x=x:=by
 have h1:x∈cU (l.map (·.x)):=by
  rw[bR,Lib.compact,Lib.compactUpTo]at h;obtain⟨i,hi,rfl⟩:=List.mem_map.1 h;have hi:=(List.mem_filter.1 hi).1;have hi:i<(cU (l.map (·.x))).length:=by simpa using hi
  have e:(cU (l.map (·.x))).toArray[i]! = (cU (l.map (·.x)))[i]:=by simp[hi]
  rw[e];exact List.getElem_mem hi
 rw[cU,List.mem_mergeSort]at h1;obtain⟨s,hs,rfl⟩:=List.mem_map.1 h1;exact⟨s,hs,O⟩
theorem f7 {l:List SR}(hc:cq l=0){x:Int}(h:x∈bR l) : -1000000<=x/\x<=1000000:=by
 obtain⟨s,hs,rfl⟩:=ug h;rw[cq]at hc;split at hc
 .omega
 .have:=jH hc s hs;rw[kV]at this;split at this
  .omega
  .rename_i h1;omega
theorem ic (l:List SR):(bR l).length<=l.length:=by
 have:=fk (cU (l.map (·.x)));rw[bR];simp[cU]at this ⊢;exact this
def qW (x:Int):AR:=⟨ofQ ((-x:Int):Rat),ofQ ((1:Int):Rat)⟩
def y4 (x:Int):AR:=⟨ofQ (x:Rat),ofQ ((-1:Int):Rat)⟩
def eO (l:List SR):List AR:=(bR l).map qW++(bR l).map y4
set_option maxRecDepth 20000 in
theorem tn (l:List SR)(hl:ju l)(h12:l.length<=1000)(hck:cq l=0):Ret Tryz.prog .shared 201 [.sl (l.map eS)] (.sl ((eO l).map eA)):=by
 have hp:=np l hl h12;have hrg:∀x∈bR l,-1000000<=x/\x<=1000000:=fun x hx=>f7 hck hx;have hpl:=ic l;have w1:=bx 1 ⟨Y,Y⟩;have w2:=bx (-1) ⟨Y,Y⟩;rw[eO];generalize bR l=Pl at *
 have hml:(Pl.map eN).length=Pl.length:=ai;have hrows:∀(k:Nat) x,Pl[k]? = some x->((Pl.take (k+1)).map qW).map eA=((Pl.take k).map qW).map eA++[eA (qW x)]:=fun k x hx=>by rw[br hx,List.map_append,List.map_append];rfl
 have hrows2:∀(k:Nat) x,Pl[k]? = some x->(Pl.map qW++(Pl.take (k+1)).map y4).map eA=(Pl.map qW++(Pl.take k).map y4).map eA++[eA (y4 x)]:=fun k x hx=>by rw[br hx];simp[List.map_append]
 refine Ret.of_pwp layOk mixed Go.Proofs.Tryz.func201 O Y O O ?_
 ((repeat (first|refine aO ?_ | refine cf ?_ | refine bL ?_ | refine bS ?_));refine bc ?_)
 refine gN O trivial ?_
 ((repeat (first|refine aO ?_ | refine cf ?_ | refine bL ?_ | refine bS ?_));refine bc ?_)
 (first|refine ax (gp 71 8 1 O O ?_)|refine ax (gj 71 8 1 O O ?_))
 refine G hp ?_;refine H ?_;refine ao (fun k=>k<=Pl.length) (fun k=>[(0,.sl (l.map eS)),(3,.als 3 (k+1) 0 (((Pl.take k).map qW).map eA).length),(9,.sl (Pl.map eN)),(10,I Pl.length),(11,I k)]) (fun k=>[(3,k+1,⟨71,8,((Pl.take k).map qW).map eA,1⟩)]) (fun k=>Pl.length-k) 0 (Nat.zero_le _) ⟨O,O,O,by rw[<-hml];rfl,O,O,trivial⟩ ?_;intro k s hk;refine D ?_ ?_<;>intro h
 .have hlt:k<Pl.length:=by have:=aB h;omega
  clear h;obtain⟨x,hx⟩:=aH hlt;have hr:=hrg x (a_ hx);have hnx:=bx (-x) ⟨J,J⟩;have hw:=c9 k;have hn:IntKind.i64.wrap (0-x) = -x:=by rw[wrap_i64 J J];omega
  refine aN hx ?_;refine H ?_;rw[hn];refine sO O O O hnx O O ?_;refine G w1 ?_;refine H ?_;refine ax (aT 1 O O O O O O O O O O O aI O ?_);refine H ?_;refine ax (bb 1 O O O O O O O O O O O aI (by intro row hr;first|(simp at hr;subst hr;rfl)|simp at hr) O O aK aK ?_);refine H ?_;refine⟨k+1,hlt,J,O,?_,O,O,congrArg I hw,?_,trivial⟩
  .rw[hrows k x hx];rfl
  .rw[hrows k x hx];rfl
 .have hge:k=Pl.length:=by have:=aG h;omega
  subst hge;clear h;rw[List.take_length];refine G hp ?_;refine H ?_;refine ao (fun k=>k<=Pl.length) (fun k=>[(3,.als 3 (Pl.length+k+1) 0 ((Pl.map qW++(Pl.take k).map y4).map eA).length),(25,.sl (Pl.map eN)),(26,I Pl.length),(27,I k)]) (fun k=>[(3,Pl.length+k+1,⟨71,8,(Pl.map qW++(Pl.take k).map y4).map eA,1⟩)]) (fun k=>Pl.length-k) 0 (Nat.zero_le _) ⟨by rw[List.take_zero,List.map_nil,List.append_nil];rfl,O,by rw[<-hml];rfl,O,by rw[List.take_zero,List.map_nil,List.append_nil];rfl,trivial⟩ ?_;intro k s hk;refine D ?_ ?_<;>intro h
  .have hlt:k<Pl.length:=by have:=aB h;omega
   clear h;obtain⟨x,hx⟩:=aH hlt;have hr:=hrg x (a_ hx);have hnx:=bx x ⟨J,J⟩;have hw:=c9 k;refine aN hx ?_;refine G hnx ?_;refine G w2 ?_;refine H ?_;refine ax (aT 1 O O O O O O O O O O O aI O ?_);refine H ?_;refine ax (bb 1 O O O O O O O O O O O aI (by intro row hr;first|(simp at hr;subst hr;rfl)|simp at hr) O O aK aK ?_);refine H ?_;refine⟨k+1,hlt,J,?_,O,O,congrArg I hw,?_,trivial⟩
   .rw[hrows2 k x hx];rfl
   .rw[hrows2 k x hx];rfl
  .have hge:k=Pl.length:=by have:=aG h;omega
   subst hge;clear h;rw[List.take_length];refine H ?_;exact gF O O O aI O
def gE:AR:=⟨ofQ ((1:Int):Rat),ofQ ((0:Int):Rat)⟩
noncomputable def un (b:BR)(r:AR):Bool:=nu b r.z.val r.t.val
noncomputable def kN (b:BR):PV:=if un b gE=true then .tup [.agg (eA gE),I 12] else match (eO b.l).find? (un b) with
 |some r => .tup [.agg (eA r),I 13]
 |none => .tup [.agg (zN++zN),I 0]
theorem vI {z:Int}(h:i64 z):Vq (ofQ (z:Rat)) ((ofQ (z:Rat)).val) 4:=by
 have hz:Zb z:=aU h.1 h.2;have:=Vq.ofQ (h:=HQ.int (z:=z));rw[ofQ_val];exact this
theorem v8 {l:List SR}(hck:cq l=0){r:AR}(h:r∈eO l):Va r r.z.val r.t.val 4 4:=by
 rw[eO,List.mem_append]at h;rcases h with h|h
 .obtain⟨x,hx,rfl⟩:=List.mem_map.1 h;have:=f7 hck hx;exact⟨vI ⟨J,J⟩,vI ⟨Y,Y⟩⟩
 .obtain⟨x,hx,rfl⟩:=List.mem_map.1 h;have:=f7 hck hx;exact⟨vI ⟨J,J⟩,vI ⟨Y,Y⟩⟩
theorem vh:Va gE gE.z.val gE.t.val 4 4:=⟨vI ⟨Y,Y⟩,vI ⟨Y,Y⟩⟩
theorem wR {α:Type}(p:α->Bool){l:List α}{i:Nat}{x:α}(h:l[i]? = some x):(l.drop i).find? p=if p x=true then some x else(l.drop (i+1)).find? p:=by
 obtain⟨hl,rfl⟩:=bi h;rw[List.drop_eq_getElem_cons hl,List.find?_cons];cases p l[i]<;>simp
set_option maxRecDepth 20000 in
theorem sY (b:BR)(hb:b.Ok):Ret Tryz.prog .shared 141 [.agg (eB b)] (kN b):=by
 have w1:=bx 1 ⟨Y,Y⟩;have w0:=bx 0 ⟨Y,Y⟩;have hd:=l8 b hb gE vh Y Y;have ht:=tn b.l hb.lim.l (by have:=hb.few.1;omega) hb.chkL;have hva:∀r∈eO b.l,Ret Tryz.prog .shared 200 [.agg (eB b),.agg (eA r)] (.bool (un b r)):=fun r hr=>l8 b hb r (v8 hb.chkL hr) Y Y;rw[show nu b gE.z.val gE.t.val=un b gE from O]at hd;have htl:(eO b.l).length<=1000:=by
  have:=ic b.l;have:=hb.few.1;rw[eO];simp;omega
 generalize hR:kN b=R;rw[kN]at hR;generalize eO b.l=T at *
 have hml:(T.map eA).length=T.length:=ai;generalize hfn:un b=fn at *
 clear hfn;obtain⟨w,ba,l⟩:=b;simp only at *
 rw[gE]at *
 by_cases h1:fn ⟨ofQ ((1:Int):Rat),ofQ ((0:Int):Rat)⟩=true
 .rw[if_pos h1]at hR;rw[h1]at hd;subst hR;refine Ret.of_pwp layOk mixed Go.Proofs.Tryz.func141 O Y O O ?_;refine G w1 ?_;refine G w0 ?_;refine ap hd ?_;exact bI
 .rw[if_neg h1]at hR;rw[Bool.not_eq_true]at h1;rw[h1]at hd;refine Ret.of_pwp layOk mixed Go.Proofs.Tryz.func141 O Y O O ?_;refine G w1 ?_;refine G w0 ?_;refine ap hd ?_;refine G ht ?_;refine H ?_;refine ao (fun i=>i<=T.length/\(T.drop i).find? fn=T.find? fn) (fun i=>[(1,.ptr 1 1 0 0),(2,.ptr 2 1 0 0),(16,.sl (T.map eA)),(17,I T.length),(18,I (i:Nat))]) (fun i=>[(1,1,⟨158,6,[eB ⟨w,ba,l⟩],2⟩),(2,1,⟨71,8,[zN++zN],2⟩)]) (fun i=>T.length-i) 0 ⟨Nat.zero_le _,by rw[List.drop_zero]⟩ ⟨O,O,O,by rw[<-hml];rfl,O,O,O,trivial⟩ ?_;intro i s ⟨hi,hF⟩;refine D ?_ ?_<;>intro h
  .have hlt:i<T.length:=by have:=aB h;omega
   clear h;obtain⟨r,hr⟩:=aH hlt;have hrr:=hva r (a_ hr);have hw:=c9 i;rw[wR fn hr]at hF;cases hfr:fn r with
   |true =>
    rw[hfr]at hrr;rw[if_pos hfr]at hF;rw[<-hF]at hR;simp only at hR;subst hR;refine aN hr ?_;refine ap hrr ?_;exact bI
   |false =>
    rw[hfr]at hrr;rw[if_neg (by rw[hfr];decide)]at hF;refine aN hr ?_;refine ap hrr ?_;refine H ?_;exact⟨i+1,⟨J,hF⟩,J,O,O,O,O,congrArg I hw,O,O,trivial⟩
  .have hie:i=T.length:=by have:=aG h;omega
   clear h;rw[hie,List.drop_length,List.find?_nil]at hF;rw[<-hF]at hR;simp only at hR;subst hR;exact bI
def nq {α:Type}(d:α->Rat)(l:List α)(x:α):Nat->Nat
 |0=>0
 |k+1=>match l[k]? with
  |some y=>if d x<d y then nq d l x k else k+1
  |none=>nq d l x k
def Ac {α:Type}(d:α->Rat)(l:List α)(x:α):Nat:=nq d l x l.length
def cB {α:Type}(l:List α)(x:α)(k:Nat):List α:=l.take k++x::l.drop k
def oe {α:Type}(d:α->Rat)(l:List α)(x:α):List α:=cB l x (Ac d l x)
def ee {α:Type}(d:α->Rat)(l:List α):List α:=l.foldl (oe d) []
theorem vF {α:Type}{d:α->Rat}{l:List α}{x:α}{j:Nat}(h2:j=0\/∃y,l[j-1]? = some y/\d y<=d x):∀k,j<=k->k<=l.length->(∀q y,j<=q->q<k->l[q]? = some y->d x<d y)->nq d l x k=j
 |0,hk,_,_=>by rw[nq];omega
 |k+1,hk,hl,h1=>by
  obtain⟨y,hy⟩:∃y,l[k]? = some y:=⟨l[k],List.getElem?_eq_getElem J⟩;rw[nq,hy];dsimp only;by_cases he:j=k+1
  .subst he;rcases h2 with h2|⟨z,hz,hd⟩
   .omega
   .rw[Nat.add_sub_cancel,hy]at hz;cases hz;rw[if_neg cH]
  .rw[if_pos (h1 k y J J hy)];exact vF h2 k J J fun q z hq hq2=>h1 q z hq J
theorem vG {α:Type}{d:α->Rat}{l:List α}{x:α}{j:Nat}(hj:j<=l.length)(h1:∀q y,j<=q->l[q]? = some y->d x<d y)(h2:j=0\/∃y,l[j-1]? = some y/\d y<=d x):Ac d l x=j :=
 vF h2 _ hj (aP) fun q y hq _=>h1 q y hq
theorem wZ {α:Type}(d:α->Rat)(l:List α)(x:α):(oe d l x).Perm (x::l):=by
 rw[oe,cB];exact List.perm_middle.trans (by rw[List.take_append_drop])
theorem nN {α:Type}(d:α->Rat)(l:List α)(x:α):ee d (l++[x])=oe d (ee d l) x:=by
 rw[ee,List.foldl_append];rfl
theorem im {α:Type}(d:α->Rat)(l:List α):(ee d l).Perm l:=by
 have:∀(l acc:List α),(l.foldl (oe d) acc).Perm (acc++l):=by
  intro l
  induction l with
  |nil=>intro acc;simp
  |cons x l ih =>
   intro acc;rw[List.foldl_cons];refine(ih _).trans (((wZ d acc x).append_right l).trans ?_);rw[List.cons_append];exact List.perm_middle.symm
 exact this l []
theorem lK {α:Type}(d:α->Rat)(l:List α):(ee d l).length=l.length:=(im d l).length_eq
theorem rQ {α:Type}{l:List α}{x:α}{k:Nat}(hk:k<=l.length):(cB l x k)[k]? = some x:=by
 rw[cB,List.getElem?_append_right aK];simp[Nat.min_eq_left hk]
theorem nc {α:Type}{l:List α}{x:α}{k q:Nat}(hk:k<=l.length)(h:q<k):(cB l x k)[q]? = l[q]? := by
 rw[cB,List.getElem?_append_left aK,List.getElem?_take,if_pos h]
theorem tY {α:Type}{l:List α}{x y:α}{k:Nat}(hk:k+1<=l.length)(hy:l[k]? = some y):((cB l x (k+1)).set (k+1) y).set k x=cB l x k:=by
 obtain⟨hlt,rfl⟩:=bi hy;apply List.ext_getElem?;intro q;have hl1:(cB l x (k+1)).length=l.length+1:=by simp[cB];omega
 simp only[List.getElem?_set,List.length_set,hl1];by_cases h1:k=q
 .subst h1;rw[if_pos O,if_pos J,rQ J]
 .rw[if_neg h1];by_cases h2:k+1=q
  .subst h2;rw[if_pos O,if_pos J,cB,List.getElem?_append_right aK];simp only[List.length_take,Nat.min_eq_left (show k<=l.length by omega),Nat.add_sub_cancel_left,List.getElem?_cons_succ,List.getElem?_drop,Nat.add_zero];exact(List.getElem?_eq_getElem hlt).symm
  .rw[if_neg h2];rcases Nat.lt_or_ge q k with h|h
   .rw[nc J h,nc hk J]
   .rw[cB,cB,List.getElem?_append_right aK,List.getElem?_append_right aK];simp only[List.length_take,Nat.min_eq_left hk,Nat.min_eq_left (show k<=l.length by omega)];obtain⟨r,rfl⟩:∃r,q=k+2+r:=⟨q-(k+2),J⟩;rw[show k+2+r-(k+1)=r+1 by omega,show k+2+r-k=r+1+1 by omega,List.getElem?_cons_succ,List.getElem?_cons_succ,List.getElem?_drop,List.getElem?_drop];congr 1;omega
theorem pn {α:Type}(d:α->Rat)(l:List α)(x:α):∀k,k<=l.length->(nq d l x k=0\/∃y,l[nq d l x k-1]? = some y/\d y<=d x)/\∀q y,nq d l x k<=q->q<k->l[q]? = some y->d x<d y
 |0,_=>⟨.inl rfl,fun q y _ hq=>by omega⟩
 |k+1,hk=>by
  obtain⟨y,hy⟩:∃y,l[k]? = some y:=⟨l[k],List.getElem?_eq_getElem J⟩;obtain⟨h1,h2⟩:=pn d l x k J;rw[nq,hy];dsimp only;split
  .rename_i hlt;refine⟨h1,fun q z hq hqk hz=>?_⟩;by_cases he:q=k
   .subst he;rw[hy]at hz;cases hz;exact hlt
   .exact h2 q z hq J hz
  .rename_i hlt;exact⟨.inr ⟨y,by rw[Nat.add_sub_cancel];exact hy,cH⟩,fun q z hq hqk=>by omega⟩
theorem rR {α:Type}{d:α->Rat}{l:List α}(x:α)(h:l.Pairwise fun a b=>d a<=d b):(oe d l x).Pairwise fun a b=>d a<=d b:=by
 obtain⟨h1,h2⟩:=pn d l x l.length (aP);rw[oe,cB,Ac];generalize nq d l x l.length=k at *
 have hbefore:∀a∈l.take k,d a<=d x:=by
  intro a ha;rcases h1 with h1|⟨y,hy,hyx⟩
  .subst h1;simp at ha
  .obtain⟨i,hi,rfl⟩:=List.getElem_of_mem ha;have hi':i<k:=by simp at hi;omega
   have hil:i<l.length:=by simp at hi;omega
   obtain⟨hk1,hk2⟩:=bi hy;rw[List.getElem_take];by_cases he:i=k-1
   .subst he;rw[hk2];exact hyx
   .have:=List.pairwise_iff_getElem.1 h i (k-1) hil hk1 J;rw[hk2]at this;grind
 have hbehind:∀a∈l.drop k,d x<=d a:=by
  intro a ha;obtain⟨i,hi,rfl⟩:=List.getElem_of_mem ha;have hil:k+i<l.length:=by simp at hi;omega
  have:=h2 (k+i) l[k+i] J hil (List.getElem?_eq_getElem hil);rw[List.getElem_drop];grind
 refine List.pairwise_append.2 ⟨h.sublist (List.take_sublist _ _),List.pairwise_cons.2 ⟨hbehind,h.sublist (List.drop_sublist _ _)⟩,fun a ha b hb=>?_⟩;rcases List.mem_cons.1 hb with rfl|hb
 .exact hbefore a ha
 .have:=hbefore a ha;have:=hbehind b hb;grind
theorem qP {α:Type}(d:α->Rat)(l:List α):(ee d l).Pairwise fun a b=>d a<=d b:=by
 have:∀(l acc:List α),acc.Pairwise (fun a b=>d a<=d b)->(l.foldl (oe d) acc).Pairwise fun a b=>d a<=d b:=by
  intro l
  induction l with
  |nil=>intro acc h;exact h
  |cons x l ih=>intro acc h;exact ih _ (rR x h)
 exact this l [] .nil
theorem kA {L:Lay}{fn:Func}{K:St->PV->Prop}{s:St}(h:fn.results.toList=[])(hk:K s (.tup [])):aj L fn K .normal s:=by
 unfold aj;exact⟨[],True,by rw[h];rfl,trivial,hk⟩
structure BN where
 at':RR
 up:RR
def eH (b:BN):List PV:=eR b.at'++eR b.up
def ji (b:BN):Rat:=b.at'.val
theorem yS {p q:BN}(h1:p.at'.sz 7000000)(h2:q.at'.sz 7000000):Ret Tryz.prog .shared 279 [.agg (eH p),.agg (eH q)] (I (sgn (ji p-ji q))):=by
 have hc:=mP p.at' q.at' (hx:=h1.v) (hy:=h2.v) Y Y;rw[show p.at'.val-q.at'.val=ji p-ji q from O]at hc;generalize sgn (ji p-ji q)=g at *
 obtain⟨pa,pu⟩:=p;obtain⟨qa,qu⟩:=q;simp only at *
 refine Ret.of_pwp layOk mixed Go.Proofs.Tryz.func279 O Y O O ?_;refine ap hc ?_;exact bq
set_option maxRecDepth 20000 in
theorem DK {K:St->Prop}{s:St}{d g:Nat}{x y z c:Operand}{tys:Array TypeId}{ty:TypeId}{pos:String}{af:Array Edge}(l:List BN)(hl:l.length<=1000)
  (hx:s.ev x = .als 5 g 0 (l.map eH).length) (hy:s.ev y=I 0) (hz:s.ev z=I l.length) (hc:s.ev c = .clo 279 [])
  (hd:∀p∈l,p.at'.sz 7000000)
  (ho:FitO s [(5,g,⟨303,8,l.map eH,1⟩)])
  (hK:∀s1:St,K (({ reg:=s.reg,own:=(s1.over [] [(5,g,⟨303,8,(ee ji l).map eH,1⟩)]).own }:St).putR d (.tup []))) :
  Sm Tryz.prog lay.get s ⟨some d,.call ⟨.value (.func 303),#[x,y,z,c],tys⟩,ty,pos,af,none⟩ K:=by
 refine cF layOk O O Tryz.func303 O Y O O ?_;show PWP _ _ _ _ (b8 s (([x,y,z,c]:List Operand).map s.ev++[]));rw[show(([x,y,z,c]:List Operand).map s.ev++([]:List PV))=[.als 5 g 0 (l.map eH).length,I 0,I l.length,.clo 279 []] by simp[hx,hy,hz,hc]];rw[show b8 s [.als 5 g 0 (l.map eH).length,I 0,I l.length,.clo 279 []]=b8 (s.over [] [(5,g,⟨303,8,l.map eH,1⟩)]) [.als 5 g 0 (l.map eH).length,I 0,I l.length,.clo 279 []] by rw[Fit.over (l:=[]) ho]];have hen:(l.map eH).length=l.length:=by rw[List.length_map]
 have h1s:ee ji (l.take 1)++l.drop 1=l:=by
  cases l with
  |nil=>rfl
  |cons x r=>rfl
 refine H ?_;refine ao (fun i=>1<=i/\(i<=l.length\/i=1)) (fun i=>[(0,.als 5 g 0 (l.map eH).length),(1,I 0),(2,I l.length),(3,.clo 279 []),(8,I i)])
  (fun i=>[(5,g,⟨303,8,(ee ji (l.take i)++l.drop i).map eH,1⟩)]) (fun i=>l.length+1-i) 1 ⟨aP,.inr O⟩ ⟨O,O,O,O,O,by rw[h1s];rfl,trivial⟩ ?_
 rintro i s1 ⟨hi1,hi⟩;refine D ?_ ?_<;>intro h
 .have hlt:i<l.length:=by have:=aB h;omega
  clear h;obtain⟨p,hp⟩:=aH hlt;have hx0:=hp;have htk:l.take (i+1)=l.take i++[p]:=br hx0;have hdr:l.drop i=p::l.drop (i+1):=by
   obtain⟨hl1,h2⟩:=bi hx0;rw[List.drop_eq_getElem_cons hl1,h2]
  generalize hP:ee ji (l.take i)=P at *
  have hPl:P.length=i:=by rw[<-hP,lK,List.length_take];omega
  have hstart:P++l.drop i=cB P p i++l.drop (i+1):=by
   have hti:P.take i=P:=List.take_of_length_le J;have hdi:P.drop i=[]:=List.drop_eq_nil_of_le J;rw[hdr,cB,hti,hdi];simp
  refine H ?_;refine ao (fun j=>j<=i/\∀q y,j<=q->P[q]? = some y->ji p<ji y) (fun j=>[(0,.als 5 g 0 (l.map eH).length),(1,I 0),(2,I l.length),(3,.clo 279 []),(8,I i),(9,I j)])
   (fun j=>[(5,g,⟨303,8,(cB P p j++l.drop (i+1)).map eH,1⟩)]) (fun j=>j) i ⟨aP,fun q y hq hy=>by rw[List.getElem?_eq_none J]at hy;cases hy⟩ ⟨O,O,O,O,O,O,by rw[hstart];rfl,trivial⟩ ?_
  rintro j s2 ⟨hj,hpre⟩;refine bT 17 [18,19,20,21,22,23,24,25,26,27,28,29,30,31,32,33,34] ?_;refine cV ?_ ?_<;>intro h
  .have hj0:0<j:=by have:=aB h;omega
   clear h;obtain⟨k,rfl⟩:∃k,j=k+1:=⟨j-1,J⟩;have hrow:((cB P p (k+1)++l.drop (i+1)).map eH)[k+1]? = some (eH p):=by
    rw[List.getElem?_map,List.getElem?_append_left (by simp[cB];omega),rQ J];rfl
   obtain⟨y,hy1⟩:=aH (show k<P.length by omega);have hrow2:((cB P p (k+1)++l.drop (i+1)).map eH)[k]? = some (eH y):=by
    rw[List.getElem?_map,List.getElem?_append_left (by simp[cB];omega),nc J J,hy1];rfl
   have hym:y∈l:=List.mem_of_mem_take ((im ji _).mem_iff.1 (hP▸a_ hy1));have hw1:IntKind.i64.wrap (((k+1:Nat):Int)-1)=(k:Nat):=by rw[wrap_i64 J J];omega
   refine H ?_;refine bJ O O (bE O O O O O O O J (by rw[hen];omega)) ?_;rw[Int.toNat_natCast,Nat.zero_add (k+1)];refine bJ O O (eM O O O hrow O) ?_;refine H ?_;rw[hw1];refine bJ O O (bE O O O O O O O J (by rw[hen];omega)) ?_;rw[Int.toNat_natCast,Nat.zero_add k];refine bJ O O (eM O O O hrow2 O) ?_;refine ap (yS (hd p (a_ hp)) (hd y hym)) ?_;refine D ?_ ?_<;>intro h
   .have hlt2:ji p<ji y:=by have:=(gw _).1 (aB h);grind
    clear h;refine H ?_;refine bC 15 0 [37,38,39,40,41,42,43,44,45,46,47,48,49,50,51] [2,3,4] aS O ?_;refine H ?_;rw[hw1];refine bJ O O (bE O O O O O O O J (by rw[hen];omega)) ?_;rw[Int.toNat_natCast,Nat.zero_add k];refine bJ O O (eM O O O hrow2 O) ?_;refine H ?_;refine bJ O O (bE O O O O O O O J (by rw[hen];omega)) ?_;rw[Int.toNat_natCast,Nat.zero_add (k+1)];refine bJ O O (eM O O O hrow O) ?_;refine H ?_;refine bJ O O (bE O O O O O O O J (by rw[hen];omega)) ?_;rw[Int.toNat_natCast,Nat.zero_add (k+1)];refine H ?_;refine bZ (cb (kd':=1) O O O hrow O O aI O O O O ?_);refine bJ O O (bE O O O O O O O J (by rw[hen];omega)) ?_;rw[Int.toNat_natCast,Nat.zero_add k];refine bZ (cb (kd':=1) O O O (row:=eH y) (by
     show(((cB P p (k+1)++l.drop (i+1)).map eH).set (k+1) _)[k]? = _
     rw[List.getElem?_set_ne J];exact hrow2) O O aI O O O O ?_)
    refine H ?_;refine⟨k,⟨J,fun q z hq hz=>?_⟩,J,O,O,O,O,O,?_,?_,trivial⟩
    .by_cases hqk:q=k
     .subst hqk;rw[hy1]at hz;cases hz;exact hlt2
     .exact hpre q z J hz
    .exact congrArg I hw1
    .refine Eq.trans (b:=(g,some (Cont.mk 303 8 ((((cB P p (k+1)++l.drop (i+1)).map eH).set (k+1) (eH y)).set k (eH p)) 1))) O ?_;rw[<-List.map_set,<-List.map_set,List.set_append_left _ _ (by simp[cB];omega),List.set_append_left _ _ (by simp[cB];omega),tY J hy1]
   .have hge2:ji y<=ji p:=by
     have h9:=aG h;rw[gw]at h9;grind
    clear h;have hpos:Ac ji P p=k+1:=vG J hpre (.inr ⟨y,hy1,hge2⟩);have hins:ee ji (l.take (i+1))=cB P p (k+1):=by rw[htk,nN,hP,oe,hpos]
    refine H ?_;refine⟨i+1,⟨J,.inl J⟩,J,O,O,O,O,bN J J,?_,trivial⟩;rw[hins];rfl
  .have hj0:j=0:=by have:=aG h;omega
   subst hj0;clear h;have hpos:Ac ji P p=0:=vG J hpre (.inl O);have hins:ee ji (l.take (i+1))=cB P p 0:=by rw[htk,nN,hP,oe,hpos]
   refine H ?_;refine⟨i+1,⟨J,.inl J⟩,J,O,O,O,O,bN J J,?_,trivial⟩;rw[hins];rfl
 .have hge:l.length<=i:=by have:=aG h;omega
  have hend:ee ji (l.take i)++l.drop i=ee ji l:=by
   rw[List.take_of_length_le hge,List.drop_eq_nil_of_le hge,List.append_nil]
  rw[hend];refine H ?_;exact kA O (hK s1)
set_option maxRecDepth 20000 in
theorem uJ {K:St->Prop}{s:St}{d g:Nat}{x z c:Operand}{tys:Array TypeId}{ty:TypeId}{pos:String}{af:Array Edge}(l:List BN)(hl:l.length<=19)
  (hx:s.ev x = .als 5 g 0 (l.map eH).length) (hz:s.ev z=I l.length) (hc:s.ev c = .clo 279 [])
  (hd:∀p∈l,p.at'.sz 7000000)
  (ho:FitO s [(5,g,⟨303,8,l.map eH,1⟩)])
  (hK:∀s1:St,K (({ reg:=s.reg,own:=(s1.over [] [(5,g,⟨303,8,(ee ji l).map eH,1⟩)]).own }:St).putR d (.tup []))) :
  Sm Tryz.prog lay.get s ⟨some d,.call ⟨.value (.func 290),#[x,z,c],tys⟩,ty,pos,af,none⟩ K:=by
 refine cF layOk O O Tryz.func290 O Y O O ?_;show PWP _ _ _ _ (b8 s (([x,z,c]:List Operand).map s.ev++[]));rw[show(([x,z,c]:List Operand).map s.ev++([]:List PV))=[.als 5 g 0 (l.map eH).length,I l.length,.clo 279 []] by simp[hx,hz,hc]];rw[show b8 s [.als 5 g 0 (l.map eH).length,I l.length,.clo 279 []]=b8 (s.over [] [(5,g,⟨303,8,l.map eH,1⟩)]) [.als 5 g 0 (l.map eH).length,I l.length,.clo 279 []] by rw[Fit.over (l:=[]) ho]];refine H ?_;refine ao (fun _:Unit=>True) (fun _=>[(0,.als 5 g 0 (l.map eH).length),(1,I l.length),(2,.clo 279 []),(6,I 20),(7,I 0),(8,I 20)])
  (fun _=>[(5,g,⟨303,8,l.map eH,1⟩)]) (fun _=>0) () trivial ⟨O,O,O,O,O,O,O,trivial⟩ ?_
 rintro _ s1 -
 refine D ?_ ?_<;>intro h
 .have:=aB h;omega
 clear h
 ((repeat ((fail_if_success (with_reducible refine aR 6 ?_));refine b9 O ?_));refine aM 4 ?_)
 refine H ?_;refine aW O (DK l J O O O O hd ⟨O,trivial⟩ fun s2=>?_);refine aJ ?_;refine H ?_;refine ao (fun _:Unit=>True) (fun _=>[(1,I l.length),(6,I 20)])
  (fun _=>[(5,g,⟨303,8,(ee ji l).map eH,1⟩)]) (fun _=>0) () trivial ⟨O,O,O,trivial⟩ ?_
 rintro _ s3 -
 refine D ?_ ?_<;>intro h
 .have:=aB h;omega
 clear h;refine H ?_;exact kA O (hK s3)
set_option maxRecDepth 20000 in
theorem AT {K:St->Prop}{s:St}{d g:Nat}{x c:Operand}{tys:Array TypeId}{ty:TypeId}{pos:String}{af:Array Edge}(l:List BN)(hl:l.length<=19)
  (hx:s.ev x = .als 5 g 0 (l.map eH).length) (hc:s.ev c = .clo 279 [])
  (hd:∀p∈l,p.at'.sz 7000000)
  (ho:FitO s [(5,g,⟨303,8,l.map eH,1⟩)])
  (hK:∀s1:St,K (({ reg:=s.reg,own:=(s1.over [] [(5,g,⟨303,8,(ee ji l).map eH,1⟩)]).own }:St).putR d (.tup []))) :
  Sm Tryz.prog lay.get s ⟨some d,.call ⟨.value (.func 278),#[x,c],tys⟩,ty,pos,af,none⟩ K:=by
 refine cF layOk O O Tryz.func278 O Y O O ?_;show PWP _ _ _ _ (b8 s (([x,c]:List Operand).map s.ev++[]));rw[show(([x,c]:List Operand).map s.ev++([]:List PV))=[.als 5 g 0 (l.map eH).length,.clo 279 []] by simp[hx,hc]];rw[show b8 s [.als 5 g 0 (l.map eH).length,.clo 279 []]=b8 (s.over [] [(5,g,⟨303,8,l.map eH,1⟩)]) [.als 5 g 0 (l.map eH).length,.clo 279 []] by rw[Fit.over (l:=[]) ho]];have hen:(l.map eH).length=l.length:=by rw[List.length_map]
 ((repeat ((fail_if_success (with_reducible refine aR 0 ?_));refine b9 O ?_));refine aM 4 ?_)
 refine H ?_;refine aW O (uJ l hl O (congrArg (fun n:Nat=>I n) hen) O hd ⟨O,trivial⟩ fun s2=>?_);refine aJ ?_;refine H ?_;exact kA O (hK s2)
def j_ (s:SR)(t:Rat):Rat:=s.c.val+t*(s.x:Rat)
def bn (s:SR)(t:Rat)(k:Nat):BN:=⟨ofQ (s.k.s k-j_ s t),ofQ (s.k.m k-bG s.k.m k)⟩
def jk (t:Rat)(s:SR):List BN:=(List.range s.k.S.length).map (bn s t)
def lS (l:List SR)(t:Rat):List BN:=l.flatMap (jk t)
theorem u4 (t:Rat)(s:SR):(jk t s).length=s.k.S.length:=by simp[jk]
theorem uW {s:SR}(hs:s.Lim){t:Rat}{m:Nat}(ht:HQ t m):HQ (j_ s t) (13+(m+4)+1):=by
 have hx:Zb s.x:=aU hs.x.1 hs.x.2;exact @HQ.add _ _ 13 (m+4) hs.c.v.hq (@HQ.mul _ _ m 4 ht HQ.int)
theorem uZ {s:SR}(hs:s.Lim){t:Rat}{m:Nat}(ht:HQ t m)(k:Nat):HQ (s.k.s k-j_ s t) (4+(13+(m+4)+1)+1):=by
 have hb:=l_ hs.k k;have hzb:Zb (s.k.S.getD k 0):=aU hb.1 hb.2;exact @HQ.sub _ _ 4 _ HQ.int (uW hs ht)
theorem yK {l:List SR}{t:Rat}{b:BN}(h:b∈lS l t):∃s∈l,∃k,k<s.k.S.length/\b=bn s t k:=by
 obtain⟨s,hs,hb⟩:=List.mem_flatMap.1 h;obtain⟨k,hk,rfl⟩:=List.mem_map.1 hb;exact⟨s,hs,k,List.mem_range.1 hk,O⟩
def yJ (l:List SR)(t:Rat):List BN:=ee ji (lS l t)
theorem uj (f:Nat->BN)(k:Nat):(List.range (k+1)).map f=(List.range k).map f++[f k]:=by rw[List.range_succ,List.map_append];rfl
set_option maxRecDepth 20000 in
structure SortC (l:List BN):Prop where
 run:∀ {K:St->Prop} {s:St} {d g:Nat} {x c:Operand} {tys:Array TypeId} {ty:TypeId} {pos:String} {af:Array Edge},s.ev x = .als 5 g 0 (l.map eH).length->s.ev c = .clo 279 []->(∀p∈l,p.at'.sz 7000000)->FitO s [(5,g,⟨303,8,l.map eH,1⟩)] ->
  (∀s1:St,K (({ reg:=s.reg,own:=(s1.over [] [(5,g,⟨303,8,(ee ji l).map eH,1⟩)]).own }:St).putR d (.tup [])))->Sm Tryz.prog lay.get s ⟨some d,.call ⟨.value (.func 278),#[x,c],tys⟩,ty,pos,af,none⟩ K
set_option maxRecDepth 20000 in
theorem Cz (l:List BN)(hl:l.length<=19):SortC l:=⟨fun hx hc hd ho hK=>AT l hl hx hc hd ho hK⟩
set_option maxRecDepth 20000 in
theorem rm (l:List SR)(hl:ju l)(hck:cq l=0)(h8:∀s∈l,s.k.S.length<=8)(h12:l.length<=12)(tr:RR){t:Rat}{m:Nat}[ht:Vq tr t m](hm:m<=1000000)(h40:(lS l t).length<=54)(hS:SortC (lS l t)) :
  Ret Tryz.prog .shared 250 [.sl (l.map eS),.agg (eR tr)] (.sl ((yJ l t).map eH)):=by
 have hw0:=bx 0 ⟨Y,Y⟩;have hml:(l.map eS).length=l.length:=ai;have hlen:∀i,i<=l.length->((l.take i).flatMap (jk t)).length<=54:=fun i hi=>by
  have:((l.take i).flatMap (jk t)).length<=(lS l t).length:=by
   conv=>rhs;rw[lS,<-List.take_append_drop i l,List.flatMap_append,List.length_append]
   omega
  omega
 refine Ret.of_pwp layOk mixed Go.Proofs.Tryz.func250 O Y O O ?_;refine H ?_;refine aq (Ghost.nilreg (k:=5) (t:=5) 303 8 1 O O) ?_;refine ao (fun i:Nat=>i<=l.length) (fun i=>[(3,.ptr 3 1 0 0),(5,.als 5 (((l.take i).flatMap (jk t)).length+1) 0 (((l.take i).flatMap (jk t)).map eH).length),(12,.sl (l.map eS)),(13,I l.length),(14,I (i:Nat))])
  (fun i=>[(3,1,⟨42,4,[eR tr],2⟩),(5,((l.take i).flatMap (jk t)).length+1,⟨303,8,((l.take i).flatMap (jk t)).map eH,1⟩)]) (fun i=>l.length-i) 0 (Nat.zero_le _) ⟨O,O,O,by rw[<-hml];rfl,O,O,O,trivial⟩ ?_
 intro i s hi;refine D ?_ ?_<;>intro h
 .have hlt:i<l.length:=by have:=aB h;omega
  clear h;obtain⟨x,hx⟩:=aH hlt;have hxm:=a_ hx;have hxl:=hl.1 x hxm;have hkc:=cM hck x hxm;obtain⟨h40,hSM,-,-⟩:=eo hkc;have hk8:=h8 x hxm;have hfl:(l.take (i+1)).flatMap (jk t)=(l.take i).flatMap (jk t)++jk t x:=by rw[br hx,List.flatMap_append];simp
  have hA:=hlen i hi;have hA1:=hlen (i+1) hlt;rw[hfl,List.length_append,u4]at hA1;generalize (l.take i).flatMap (jk t)=A at *
  have hw:=c9 i;have hzx:Zb x.x:=aU hxl.x.1 hxl.x.2;have e1:=bx x.x hxl.x;have e2:=eJ tr (ofQ (x.x:Rat)) J Y;have v2:Vq (ofQ (t*(x.x:Rat))) (t*(x.x:Rat)) (m+1+4):=Vq.ofQ (h:=@HQ.mul _ _ (m+1) 4 ht.hq HQ.int);have e3:=dy x.c (ofQ (t*(x.x:Rat))) (hx:=hxl.c.v) (hy:=v2) Y J;rw[show x.c.val+t*(x.x:Rat)=j_ x t from O]at e3;have vb:Vq (ofQ (j_ x t)) (j_ x t) (13+(m+1+4)+1):=Vq.ofQ (h:=uW hxl ht.hq);have hMl:(x.k.M.map eR).length=x.k.S.length:=by simp[hSM]
  refine aN hx ?_
  (repeat ((fail_if_success (with_reducible refine aR 5 ?_));refine b9 O ?_))
  refine aq (gH 8) ?_;refine bC 8 1 [18,19,20,21,22,23,24,25,8] [] aS O ?_;refine G e1 ?_;refine G e2 ?_;refine G e3 ?_;refine G hw0 ?_;refine H ?_;refine bj [(3,.ptr 3 1 0 0),(5,.als 5 (A.length+1) 0 (A.map eH).length),(7,.ptr 7 ((s.own 7).1+1) 0 0),(8,.ptr 8 ((s.own 8).1+2+1) 0 0),(9,.ptr 9 ((s.own 9).1+1) 0 0),(12,.sl (l.map eS)),(13,I l.length),(14,I (i:Nat)),(29,.sl (x.k.M.map eR)),(30,I (x.k.M.map eR).length),(31,I ((0:Nat):Int))]
   [(3,1,⟨42,4,[eR tr],2⟩),(5,A.length+1,⟨303,8,A.map eH,1⟩),(7,(s.own 7).1+1,⟨136,7,[eS x],2⟩),(8,(s.own 8).1+2+1,⟨42,4,[eR (ofQ (j_ x t))],2⟩),(9,(s.own 9).1+1,⟨42,4,[eR (Bt x.k 0)],2⟩)]
   ⟨O,O,O,O,O,O,O,O,O,O,O,O,O,O,O,O,trivial⟩ ?_
  generalize (s.own 7).1+1=g7;generalize (s.own 8).1+2+1=g8;generalize (s.own 9).1+1=g9;rw[hMl];intro s1;refine ao (fun k:Nat=>k<=x.k.S.length) (fun k=>[(3,.ptr 3 1 0 0),(5,.als 5 (A.length+k+1) 0 ((A++(List.range k).map (bn x t)).map eH).length),(7,.ptr 7 g7 0 0),(8,.ptr 8 g8 0 0),(9,.ptr 9 g9 0 0),(12,.sl (l.map eS)),(13,I l.length),(14,I (i:Nat)),(29,.sl (x.k.M.map eR)),(30,I x.k.S.length),(31,I (k:Nat))])
   (fun k=>[(3,1,⟨42,4,[eR tr],2⟩),(5,A.length+k+1,⟨303,8,(A++(List.range k).map (bn x t)).map eH,1⟩),(7,g7,⟨136,7,[eS x],2⟩),(8,g8,⟨42,4,[eR (ofQ (j_ x t))],2⟩),(9,g9,⟨42,4,[eR (Bt x.k k)],2⟩)]) (fun k=>x.k.S.length-k) 0 (Nat.zero_le _)
   ⟨O,by rw[List.range_zero,List.map_nil,List.append_nil];rfl,O,O,O,O,O,O,O,O,O,O,by rw[List.range_zero,List.map_nil,List.append_nil];rfl,O,O,O,trivial⟩ ?_
  intro k s2 hk;refine D ?_ ?_<;>intro h
  .have hlk:k<x.k.S.length:=by have:=aB h;omega
   clear h;have hsx:=b_ (d:=0) hlk;have hmx:=b_ (l:=x.k.M) (i:=k) (d:=RR.zero) J;have hxb:=l_ hxl.k k;have hzb:Zb (x.k.S.getD k 0):=aU hxb.1 hxb.2;have f1:=bx (x.k.S.getD k 0) hxb;rw[show((x.k.S.getD k 0:Int):Rat)=x.k.s k from O]at f1;have vs:Vq (ofQ (x.k.s k)) (x.k.s k) 4:=Vq.ofQ (h:=HQ.int);have f2:=lL (ofQ (x.k.s k)) (ofQ (j_ x t)) (hx:=vs) (hy:=vb) Y J;have f3:=lL (x.k.M.getD k RR.zero) (Bt x.k k) (hx:=si x.k hxl.k k) (hy:=oA x.k hxl.k k) Y Y;have hwk:IntKind.i64.wrap (((k:Nat):Int)+1)=((k+1:Nat):Int):=by rw[wrap_i64 J J];omega
   have hrow:(A++(List.range (k+1)).map (bn x t)).map eH=(A++(List.range k).map (bn x t)).map eH++[eR (ofQ (x.k.s k-j_ x t))++eR (ofQ (x.k.m k-bG x.k.m k))]:=by rw[uj,<-List.append_assoc,List.map_append];rfl
   have hal:(A++(List.range k).map (bn x t)).length<=54:=by simp;omega
   generalize A++(List.range k).map (bn x t)=Ak at *
   generalize ofQ (x.k.s k-j_ x t)=N1 at *
   generalize ofQ (x.k.m k-bG x.k.m k)=N2 at *
   generalize ofQ (x.k.s k)=N3 at *
   refine aN hmx ?_;refine H ?_;refine bD [50,5] [14,15,16] aS ?_;refine aN hsx ?_;refine G f1 ?_;refine G f2 ?_;refine G f3 ?_;refine H ?_;refine js O O O (aT 1 O O O O O O O O O O O aI O ⟨dR O,?_⟩);refine H ?_;refine js O O O (bb 1 O O O O O O O O O O O aI (by intro row hr;first|(simp at hr;subst hr;rfl)|(simp at hr;obtain⟨_,_,rfl⟩:=hr;rfl)|simp at hr) O O aK aK ⟨dR O,?_⟩);refine H ?_;refine⟨k+1,hlk,J,O,?_,O,O,O,O,O,O,O,O,congrArg I hwk,O,?_,O,O,O,trivial⟩
   .rw[hrow];rfl
   .rw[hrow];rfl
  .have hke:k=x.k.S.length:=by have:=aG h;omega
   clear h;subst hke;rw[show(List.range x.k.S.length).map (bn x t)=jk t x from O];have hgl:A.length+x.k.S.length=((l.take (i+1)).flatMap (jk t)).length:=by rw[hfl,List.length_append,u4]
   rw[<-hfl,hgl];refine H ?_;exact⟨i+1,hlt,J,O,O,O,O,congrArg I hw,O,O,trivial⟩
 .have hie:i=l.length:=by have:=aG h;omega
  clear h;subst hie;rw[List.take_length];rw[show l.flatMap (jk t)=lS l t from O];have hsz:∀p∈lS l t,p.at'.sz 7000000:=fun p hp=>by
   obtain⟨s,hs,k,hk,rfl⟩:=yK hp;have:=gW (uZ (hl.1 s hs) ht.hq k).ok;exact⟨by have:=this.1;show(ofQ (s.k.s k-j_ s t)).n.l.length<=7000000;omega,by have:=this.2;show(ofQ (s.k.s k-j_ s t)).d.l.length<=7000000;omega⟩
  ((repeat ((fail_if_success (with_reducible refine aR 14 ?_));refine b9 O ?_));refine aM 1 ?_)
  refine dD O ?_;refine aO ?_;refine aW O (hS.run O O hsz ⟨O,trivial⟩ fun s1=>?_);rw[show ee ji (lS l t)=yJ l t from O];have hol:(yJ l t).length=(lS l t).length:=lK _ _;have hol2:((lS l t).map eH).length=((yJ l t).map eH).length:=by simp[hol]
  rw[hol2];refine aJ ?_;refine H ?_;exact gF O O O aI O
def prB (n:BN):Rat × Rat:=(n.at'.val,n.up.val)
def fP (b:BR)(t:Rat):Rat:=yz (b.w:Rat) ((yJ b.l t).map prB) 0 0 0
theorem Bv {l:List SR}{t:Rat}{n:BN}(h:n∈yJ l t):∃s∈l,∃k,k<s.k.S.length/\n=bn s t k:=yK ((im ji _).mem_iff.1 h)
theorem sv {q:Rat}:ofQ (ofQ q).val=ofQ q:=by rw[ofQ_val]
set_option maxRecDepth 20000 in
theorem s_ (b:BR)(hb:b.Ok){t:Rat}{m:Nat}(h40:(lS b.l t).length<=54)(hS:SortC (lS b.l t))(tr:RR)[ht:Vq tr t m](hm:m<=60000):Ret Tryz.prog .shared 204 [.agg (eB b),.agg (eR tr)] (.agg (eA ⟨ofQ (fP b t),ofQ t⟩)):=by
 have hw0:=bx 0 ⟨Y,Y⟩;rw[show(((0:Int):Rat))=0 from O]at hw0;have hww:=bx b.w hb.lim.w;have zw:Zb b.w:=aU hb.lim.w.1 hb.lim.w.2;have vw:Vq (ofQ (b.w:Rat)) (b.w:Rat) 4:=Vq.ofQ (h:=HQ.int);have hbe:=rm b.l hb.lim.l hb.chkL hb.few.2 (by have:=hb.few.1;omega) tr (m:=m) J h40 hS;have hlow:=BW tr J;have hol:(yJ b.l t).length=(lS b.l t).length:=lK _ _;have hol40:(yJ b.l t).length<=54:=J;have hat:∀n∈yJ b.l t,n.at'=ofQ n.at'.val/\n.up=ofQ n.up.val/\HQ n.at'.val (m+30)/\HQ n.up.val 27:=fun n hn=>by
  obtain⟨s,hs,k,hk,rfl⟩:=Bv hn;refine⟨sv.symm,sv.symm,?_,?_⟩
  .show HQ (ofQ (s.k.s k-j_ s t)).val (m+30);rw[ofQ_val];exact(uZ (hb.lim.l.1 s hs) ht.hq k).mono J
  .show HQ (ofQ (s.k.m k-bG s.k.m k)).val 27;rw[ofQ_val];exact nl (hb.lim.l.1 s hs).k k
 generalize hZ:fP b t=Z;rw[fP]at hZ;generalize yJ b.l t=B at *
 have hml:(B.map eH).length=B.length:=ai;obtain⟨w,ba,l⟩:=b;simp only at *
 generalize (w:Rat)=W at *
 refine Ret.of_pwp layOk mixed Go.Proofs.Tryz.func204 O Y O O ?_;refine G hw0 ?_;refine G hw0 ?_;refine G hww ?_;refine G hw0 ?_;refine G hbe ?_;refine H ?_;refine ao (fun q:Nat × Rat × Rat × Rat=>q.1<=B.length/\yz W ((B.drop q.1).map prB) q.2.1 q.2.2.1 q.2.2.2=Z/\HQ q.2.1 (q.1*(2*m+1700)+4)/\HQ q.2.2.1 (q.1*28+4)/\HQ q.2.2.2 (m+30)) (fun q=>[(3,.ptr 3 1 0 0),(4,.ptr 4 1 0 0),(5,.ptr 5 1 0 0),(6,.ptr 6 1 0 0),(7,.ptr 7 1 0 0),(8,.ptr 8 1 0 0),(21,.sl (B.map eH)),(22,I B.length),(23,I (q.1:Nat))])
  (fun q=>[(3,1,⟨42,4,[eR tr],2⟩),(4,1,⟨45,8,[zN++zN],2⟩),(5,1,⟨42,4,[eR (ofQ q.2.1)],2⟩),(6,1,⟨42,4,[eR (ofQ q.2.2.1)],2⟩),(7,1,⟨42,4,[eR (ofQ W)],2⟩),(8,1,⟨42,4,[eR (ofQ q.2.2.2)],2⟩)]) (fun q=>B.length-q.1) (0,0,0,0)
  ⟨Nat.zero_le _,by rw[List.drop_zero];exact hZ,HQ.zero.mono J,HQ.zero.mono J,HQ.zero.mono J⟩ ⟨O,O,O,O,O,O,O,by rw[<-hml];rfl,O,O,O,O,O,O,O,trivial⟩ ?_
 rintro⟨i,c,k,a⟩ s ⟨hi,hS,hc,hk,ha⟩;simp only at hi hS hc hk ha;dsimp only;have hcb:i*(2*m+1700)+4<=54*(2*m+1700)+4:=by have:=Nat.mul_le_mul (show i<=54 by omega) (Nat.le_refl (2*m+1700));omega
 have vk:Vq (ofQ k) k (i*28+4):=Vq.ofQ (h:=hk);have vc:Vq (ofQ c) c (i*(2*m+1700)+4):=Vq.ofQ (h:=hc);have va:Vq (ofQ a) a (m+30):=Vq.ofQ (h:=ha);have sgk:=nI (ofQ k) (hx:=vk) J;have hsk:=il k;have t1:=lL (ofQ W) (ofQ c) (hx:=vw) (hy:=vc) Y J;have u1:Vq (ofQ (W-c)) (W-c) (4+(i*(2*m+1700)+4)+1):=Vq.ofQ (h:=@HQ.sub _ _ 4 _ (dV vw) hc);generalize hgk:sgn k=gk at *
 refine D ?_ ?_<;>intro h
 .have hlt:i<B.length:=by have:=aB h;omega
  clear h;obtain⟨x,hx⟩:=aH hlt;obtain⟨x1,x2,x3,x4⟩:=hat x (a_ hx);have hdr:(B.drop i).map prB=prB x::(B.drop (i+1)).map prB:=by
   obtain⟨hl1,h2⟩:=bi hx;rw[List.drop_eq_getElem_cons hl1,h2];rfl
  rw[hdr,yz]at hS;have hw:=c9 i;obtain⟨xa,xu⟩:=x;obtain⟨p,rfl⟩:∃p,xa=ofQ p:=⟨_,x1⟩;obtain⟨u,rfl⟩:∃u,xu=ofQ u:=⟨_,x2⟩;clear x1 x2;simp only[prB,ofQ_val]at hS x3 x4;have vp:Vq (ofQ p) p (m+30):=Vq.ofQ (h:=x3);have vu:Vq (ofQ u) u 27:=Vq.ofQ (h:=x4);have e1:=lL (ofQ p) (ofQ a) (hx:=vp) (hy:=va) J J;have w1:Vq (ofQ (p-a)) (p-a) (m+30+(m+30)+1):=Vq.ofQ (h:=@HQ.sub _ _ _ _ x3 ha);have e2:=eJ (ofQ k) (ofQ (p-a)) (hx:=vk) (hy:=w1) J J;have w2:Vq (ofQ (k*(p-a))) (k*(p-a)) (i*28+4+(m+30+(m+30)+1)):=Vq.ofQ (h:=@HQ.mul _ _ _ _ hk (dV w1));have e3:=dy (ofQ c) (ofQ (k*(p-a))) (hx:=vc) (hy:=w2) J J;have h3:HQ (c+k*(p-a)) ((i+1)*(2*m+1700)+4):=(@HQ.add _ _ _ _ hc (dV w2)).mono (by rw[Nat.add_mul];omega);have w3:Vq (ofQ (c+k*(p-a))) (c+k*(p-a)) ((i+1)*(2*m+1700)+4):=Vq.ofQ (h:=h3);have hcb1:(i+1)*(2*m+1700)+4<=55*(2*m+1700)+4:=by have:=Nat.mul_le_mul (show i+1<=55 by omega) (Nat.le_refl (2*m+1700));omega
  have e4:=mP (ofQ (c+k*(p-a))) (ofQ W) (hx:=w3) (hy:=vw) J Y;have hs4:=Eh (c+k*(p-a)-W);have e5:=dy (ofQ k) (ofQ u) (hx:=vk) (hy:=vu) J Y;have h5:HQ (k+u) ((i+1)*28+4):=(@HQ.add _ _ _ _ hk x4).mono J;have h6:HQ c ((i+1)*(2*m+1700)+4):=hc.mono (by rw[Nat.add_mul];omega);by_cases hkp:0<k
  .have hkg:0<gk:=by rw[<-hgk];exact(il k).2 hkp
   rw[if_pos hkp]at hS;by_cases hr:W<=c+k*(p-a)
   .rw[if_pos hr]at hS;have hr4:0<=sgn (c+k*(p-a)-W):=hs4.2 cH;have t2:=sy (ofQ (W-c)) (ofQ k) (hx:=u1) (hy:=vk) J J cH;have u2:Vq (ofQ ((W-c)/k)) ((W-c)/k) (4+(i*(2*m+1700)+4)+1+(i*28+4)):=Vq.ofQ (h:=@HQ.div _ _ _ _ (dV u1) hk);have t3:=dy (ofQ a) (ofQ ((W-c)/k)) (hx:=va) (hy:=u2) J J;rw[hS]at t3;generalize sgn (c+k*(p-a)-W)=g4 at *
    generalize ofQ (c+k*(p-a))=Y1 at *
    refine aN hx ?_;refine ap sgk ?_;refine D ?_ ?_<;>intro h
    .clear h
     (repeat ((fail_if_success (with_reducible refine aR 8 ?_));refine b9 O ?_))
     refine aq (gH 11) ?_;refine bC 8 1 [30,31,32,33,34,35,36,37,11] [] aS O ?_;refine G e1 ?_;refine G e2 ?_;refine G e3 ?_;refine ap e4 ?_;refine D ?_ ?_<;>intro h
     .clear h;refine ap sgk ?_;refine D ?_ ?_<;>intro h
      .clear h;refine bT 7 [53,54,55,56,57,58,59] ?_;refine G t1 ?_;refine G t2 ?_;refine G t3 ?_;refine bT 4 [60,61,62,63] ?_;refine G hlow ?_;exact bI
      .exact absurd hkg (aG h)
     .exact absurd hr4 (aG h)
    .exact absurd hkg (aG h)
   .rw[if_neg hr]at hS;have hr4:¬0<=sgn (c+k*(p-a)-W):=fun h=>by have:=hs4.1 h;grind
    generalize sgn (c+k*(p-a)-W)=g4 at *
    generalize hY1:ofQ (c+k*(p-a))=Y1 at *
    generalize hY2:ofQ (k+u)=Y2 at *
    refine aN hx ?_;refine ap sgk ?_;refine D ?_ ?_<;>intro h
    .clear h
     (repeat ((fail_if_success (with_reducible refine aR 8 ?_));refine b9 O ?_))
     refine aq (gH 11) ?_;refine bC 8 1 [30,31,32,33,34,35,36,37,11] [] aS O ?_;refine G e1 ?_;refine G e2 ?_;refine G e3 ?_;refine ap e4 ?_;refine D ?_ ?_<;>intro h
     .exact absurd (aB h) hr4
     .clear h;refine G e5 ?_;refine H ?_;refine⟨(i+1,c+k*(p-a),k+u,p),⟨hlt,hS,h3,h5,x3⟩,by simp only;omega,O,O,O,O,O,O,O,O,congrArg I hw,O,O,by rw[<-hY1];rfl,by rw[<-hY2];rfl,O,O,trivial⟩
    .exact absurd hkg (aG h)
  .have hkg:¬0<gk:=fun h=>hkp (by rw[<-hgk]at h;exact(il k).1 h);rw[if_neg hkp]at hS;generalize hY2:ofQ (k+u)=Y2 at *
   refine aN hx ?_;refine ap sgk ?_;refine D ?_ ?_<;>intro h
   .exact absurd (aB h) hkg
   .clear h;refine G e5 ?_;refine H ?_;refine⟨(i+1,c,k+u,p),⟨hlt,hS,h6,h5,x3⟩,by simp only;omega,O,O,O,O,O,O,O,O,congrArg I hw,O,O,O,by rw[<-hY2];rfl,O,O,trivial⟩
 .have hie:i=B.length:=by have:=aG h;omega
  clear h;rw[hie,List.drop_length,List.map_nil,yz]at hS;by_cases hkp:0<k
  .have hkg:0<gk:=by rw[<-hgk];exact(il k).2 hkp
   rw[if_pos hkp]at hS;have t2:=sy (ofQ (W-c)) (ofQ k) (hx:=u1) (hy:=vk) J J cH;have u2:Vq (ofQ ((W-c)/k)) ((W-c)/k) (4+(i*(2*m+1700)+4)+1+(i*28+4)):=Vq.ofQ (h:=@HQ.div _ _ _ _ (dV u1) hk);have t3:=dy (ofQ a) (ofQ ((W-c)/k)) (hx:=va) (hy:=u2) J J;rw[hS]at t3;refine ap sgk ?_;refine D ?_ ?_<;>intro h
   .clear h;refine bT 7 [53,54,55,56,57,58,59] ?_;refine G t1 ?_;refine G t2 ?_;refine G t3 ?_;refine bT 4 [60,61,62,63] ?_;refine G hlow ?_;exact bI
   .exact absurd hkg (aG h)
  .have hkg:¬0<gk:=fun h=>hkp (by rw[<-hgk]at h;exact(il k).1 h);rw[if_neg hkp]at hS;refine ap sgk ?_;refine D ?_ ?_<;>intro h
   .exact absurd (aB h) hkg
   .clear h;refine bT 4 [60,61,62,63] ?_;refine G hlow ?_;refine H ?_;exact tV O aI O aI (by rw[<-hS];rfl)
theorem oz {b:BR}(hb:b.Ok):(bd b).Ok:=by
 refine⟨fun i hi=>wH (cM hb.chkL _ (bw hi)),?_⟩;have:=(rn hb.chk).1;show(0:Rat)<(b.w:Rat);have h:(0:Int)<b.w:=J
 exact_mod_cast h
theorem DR {c:CR}(hc:c.Lim){p:Nat}(hp:p<=8):HQ (kG c.s c.m p) 300:=by
 rw[kG];refine(bF (m:=31) p fun k _=>?_).mono J;have hb:=l_ hc k;have hzb:Zb (c.S.getD k 0):=aU hb.1 hb.2;exact @HQ.mul _ _ 27 4 (nl hc k) HQ.int
theorem zt {b:BR}(hb:b.Ok)(p:Nat->Nat){i:Nat}(hi:i<b.l.length):HQ ((bd b).k p i) 13:=(oA _ (hb.lim.l.1 _ (bw hi)).k (p i)).hq
theorem CL {b:BR}(hb:b.Ok){i:Nat}(hi:i<b.l.length):HQ ((bd b).X i) 4:=by
 have hx:=(hb.lim.l.1 _ (bw hi)).x;have hx:Zb (b.l.getD i dS).x:=aU hx.1 hx.2;exact HQ.int
theorem yC {b:BR}(hb:b.Ok)(p:Nat->Nat):HQ ((bd b).Kh p) 300:=(bF (m:=13) b.l.length fun i hi=>zt hb p hi).mono (by have:=hb.few.1;omega)
theorem yB {b:BR}(hb:b.Ok)(p:Nat->Nat):HQ ((bd b).Kc p) 300:=(bF (m:=17) b.l.length fun i hi=>@HQ.mul _ _ 13 4 (zt hb p hi) (CL hb hi)).mono (by have:=hb.few.1;omega)
theorem CU {b:BR}(hb:b.Ok)(p:Nat->Nat):HQ ((bd b).Kp p) 300:=(bF (m:=21) b.l.length fun i hi=>@HQ.mul _ _ 17 4 (@HQ.mul _ _ 13 4 (zt hb p hi) (CL hb hi)) (CL hb hi)).mono (by have:=hb.few.1;omega)
theorem C_ {b:BR}(hb:b.Ok){p:Nat->Nat}(hp:∀i,i<b.l.length->p i<=(bd b).n i){i:Nat}(hi:i<b.l.length):HQ ((bd b).k p i*(bd b).C i-(bd b).o p i) 327:=by
 have h8:=hb.few.2 _ (bw hi);have hpi:=hp i hi;have hc:HQ ((bd b).C i) 13:=(hb.lim.l.1 _ (bw hi)).c.v.hq;exact @HQ.sub _ _ 26 300 (@HQ.mul _ _ 13 13 (zt hb p hi) hc) (DR (hb.lim.l.1 _ (bw hi)).k (Nat.le_trans hpi h8))
theorem CT {b:BR}(hb:b.Ok){p:Nat->Nat}(hp:∀i,i<b.l.length->p i<=(bd b).n i):HQ ((bd b).Fo p) 4100:=(bF (m:=327) b.l.length fun i hi=>C_ hb hp hi).mono (by have:=hb.few.1;omega)
theorem EK {b:BR}(hb:b.Ok){p:Nat->Nat}(hp:∀i,i<b.l.length->p i<=(bd b).n i):HQ ((bd b).Go p) 4100:=(bF (m:=331) b.l.length fun i hi=>@HQ.mul _ _ 327 4 (C_ hb hp hi) (CL hb hi)).mono (by have:=hb.few.1;omega)
theorem u_ {z X D0:Rat}(hd:D0≠0):z+(X-z*D0)/D0=X/D0:=by grind
theorem Bz {h c p z t F G0 w M:Rat}(hd:h*p-c*c≠0):z+(p*(w-(h*z+c*t+F))-c*(M-(c*z+p*t+G0)))/(h*p-c*c)=(p*(w-F)-c*(M-G0))/(h*p-c*c):=by
 rw[show p*(w-(h*z+c*t+F))-c*(M-(c*z+p*t+G0))=(p*(w-F)-c*(M-G0))-z*(h*p-c*c) by grind,u_ hd]
theorem BA {h c p z t F G0 w M:Rat}(hd:h*p-c*c≠0):t+(h*(M-(c*z+p*t+G0))-c*(w-(h*z+c*t+F)))/(h*p-c*c)=(h*(M-G0)-c*(w-F))/(h*p-c*c):=by
 rw[show h*(M-(c*z+p*t+G0))-c*(w-(h*z+c*t+F))=(h*(M-G0)-c*(w-F))-t*(h*p-c*c) by grind,u_ hd]
theorem BY {b:BR}(hb:b.Ok){p:Nat->Nat}{z t:Rat}(hp:(bd b).Inc p z t){d:Rat × Rat}(h:Bd.newt ((bd b).Kh p) ((bd b).Kc p) ((bd b).Kp p) ((bd b).w-(bd b).F z t) (-((bd b).e z t))=some d):HQ (z+d.1) 20000/\HQ (t+d.2) 20000:=by
 have hpn:∀i,i<b.l.length->p i<=(bd b).n i:=fun i hi=>(hp i hi).1;have hw:Zb b.w:=aU hb.lim.w.1 hb.lim.w.2;have e1:=Bd.F_at (oz hb) hp;have e2:=Bd.G_at (oz hb) hp;rw[Bd.newt]at h;split at h
 .cases h
 .rename_i hd;cases h;have hf : -((bd b).e z t)=(bd b).w*(bd b).A-(bd b).G0 z t:=by rw[Bd.e];grind
  simp only;rw[hf,e1,e2,Bz hd,BA hd];have kh:=yC hb p;have kc:=yB hb p;have kp:=CU hb p;have fo:=CT hb hpn;have go:=EK hb hpn;have wq:HQ ((bd b).w) 4:=HQ.int;have wa:HQ ((bd b).w*(bd b).A) 17:=we hb;have f1:=@HQ.sub _ _ 4 4100 wq fo;have g1:=@HQ.sub _ _ 17 4100 wa go;have dt:=@HQ.sub _ _ _ _ (@HQ.mul _ _ 300 300 kh kp) (@HQ.mul _ _ 300 300 kc kc);exact⟨(@HQ.div _ _ _ _ (@HQ.sub _ _ _ _ (@HQ.mul _ _ _ _ kp f1) (@HQ.mul _ _ _ _ kc g1)) dt).mono J,(@HQ.div _ _ _ _ (@HQ.sub _ _ _ _ (@HQ.mul _ _ _ _ kh g1) (@HQ.mul _ _ _ _ kc f1)) dt).mono J⟩
def C9 (o:Option (Rat × Rat)):PV:=match o with
 |none => .tup [.agg (zN++zN),.bool false]
 |some x => .tup [.agg (eA ⟨ofQ x.1,ofQ x.2⟩),.bool true]
theorem wc {x:RR}{p:Rat}{n m:Nat}(h:Vq x p n)(hm:n<=m):Vq x p m:=⟨h.val,Nat.le_trans h.sz.1 hm,Nat.le_trans h.sz.2 hm⟩
theorem E7 {b:BR}(hb:b.Ok)(z t:Rat):(bd b).Inc ((bd b).pR z t) z t:=fun i hi=>(DV (n:=(bd b).n i) (S:=(bd b).S i) (y:=(bd b).y z t i)).c
theorem E6 {b:BR}(hb:b.Ok)(z t:Rat):(bd b).Inc ((bd b).pL z t) z t:=fun i hi=>(Aa (n:=(bd b).n i) (S:=(bd b).S i) (y:=(bd b).y z t i)).c
def FR (b:BR)(p:Nat->Nat):PV := .agg (eK (ofQ ((bd b).Kh p)) (ofQ ((bd b).Kc p)) (ofQ ((bd b).Kp p)))
theorem uL (b:BR)(hb:b.Ok)(a:AR){z t:Rat}{n m:Nat}[ha:Va a z t n m](hn:n+m<=60000):Ret Tryz.prog .shared 254 [.sl (b.l.map eS),.clo 280 [.dref (eA a) 0]] (FR b ((bd b).pR z t)) :=
 pH b.l hb.lim.l hb.few 280 (eA a) (fun s=>ofQ (bG s.k.m (l6 s.k.s (yQ s z t) s.k.S.length))) ((bd b).k ((bd b).pR z t)) (fun s hs=>nA s (hb.lim.l.1 s hs) (cM hb.chkL s hs) a J)
  (fun i hi=>wc (Vq.ofQ (h:=zt hb ((bd b).pR z t) hi)) Y)
theorem uK (b:BR)(hb:b.Ok)(a:AR){z t:Rat}{n m:Nat}[ha:Va a z t n m](hn:n+m<=60000):Ret Tryz.prog .shared 254 [.sl (b.l.map eS),.clo 282 [.dref (eA a) 0]] (FR b ((bd b).pL z t)) :=
 pH b.l hb.lim.l hb.few 282 (eA a) (fun s=>xe s.k (yQ s z t) s.k.S.length) ((bd b).k ((bd b).pL z t)) (fun s hs=>oV s (hb.lim.l.1 s hs) (cM hb.chkL s hs) a J)
  (fun i hi=>wc (zE (hb.lim.l.1 _ (bw hi)).k _ _) Y)
structure TryC (b:BR) (a:AR) (z t:Rat) (fo mo:RR) (p:Nat->Nat) (d:Option (Rat × Rat)):Prop where
 mv:Ret Tryz.prog .shared 253 [FR b p,.agg (eR fo),.agg (eR mo)] (nk d)
 af:∀x,d=some x->Ret Tryz.prog .shared 256 [.agg (eA a),.agg (eA ⟨ofQ x.1,ofQ x.2⟩)] (.agg (eA ⟨ofQ (z+x.1),ofQ (t+x.2)⟩))
 ba:∀x,d=some x->Ret Tryz.prog .shared 255 [.agg (eB b),.agg (eA ⟨ofQ (z+x.1),ofQ (t+x.2)⟩)] (.bool (decide ((bd b).Bal (z+x.1) (t+x.2))))
theorem FK (b:BR)(hb:b.Ok)(a:AR){z t:Rat}{n m:Nat}(ha:Va a z t n m)(hn:n+m<=50000){p:Nat->Nat}(hp:(bd b).Inc p z t) :
  TryC b a z t (ofQ ((bd b).w-(bd b).F z t)) (ofQ (-((bd b).e z t))) p (Bd.newt ((bd b).Kh p) ((bd b).Kc p) ((bd b).Kp p) ((bd b).w-(bd b).F z t) (-((bd b).e z t))):=by
 have hw:Zb b.w:=aU hb.lim.w.1 hb.lim.w.2;have wq:HQ ((bd b).w) 4:=HQ.int;have hF:HQ ((bd b).w-(bd b).F z t) (96*(n+m+62)+400):=(@HQ.sub _ _ 4 (96*((n+1)+(m+1)+60)+200) wq (Du hb.lim.l hb.few ha.z.hq ha.t.hq)).mono J;have hE:HQ (-((bd b).e z t)) (96*(n+m+62)+400):=(@HQ.neg _ _ (DG hb ha.z.hq ha.t.hq)).mono J;have hd:∀x,Bd.newt ((bd b).Kh p) ((bd b).Kc p) ((bd b).Kp p) ((bd b).w-(bd b).F z t) (-((bd b).e z t))=some x->HQ (z+x.1) 20000/\HQ (t+x.2) 20000:=fun x hx=>BY hb hp hx;refine⟨xp _ _ _ _ _ (a:=300) (b:=96*(n+m+62)+400) (Vq.ofQ (h:=yC hb p)) (Vq.ofQ (h:=yB hb p)) (Vq.ofQ (h:=CU hb p)) (Vq.ofQ (h:=hF)) (Vq.ofQ (h:=hE)) Y J,fun x hx=>?_,fun x hx=>?_⟩
 .obtain⟨h1,h2⟩:=hd x hx;have q1:HQ x.1 (20000+(n+1)+1):=by
   have:=@HQ.sub _ _ 20000 (n+1) h1 ha.z.hq;rwa [show z+x.1-z=x.1 by grind]at this
  have q2:HQ x.2 (20000+(m+1)+1):=by
   have:=@HQ.sub _ _ 20000 (m+1) h2 ha.t.hq;rwa [show t+x.2-t=x.2 by grind]at this
  exact wv a ⟨ofQ x.1,ofQ x.2⟩ (hd:=⟨Vq.ofQ (h:=q1),Vq.ofQ (h:=q2)⟩) J J J J
 .obtain⟨h1,h2⟩:=hd x hx;exact pV b hb ⟨ofQ (z+x.1),ofQ (t+x.2)⟩ (ha:=⟨Vq.ofQ (h:=h1),Vq.ofQ (h:=h2)⟩) Y
def yi (b:BR)(z t:Rat):Option (Rat × Rat)->Option (Rat × Rat)
 |none=>none
 |some d=>if (bd b).Bal (z+d.1) (t+d.2) then some (z+d.1,t+d.2) else none
def Ez (b:BR)(z t:Rat)(p:Nat->Nat):Option (Rat × Rat):=Bd.newt ((bd b).Kh p) ((bd b).Kc p) ((bd b).Kp p) ((bd b).w-(bd b).F z t) (-((bd b).e z t))
theorem vZ (b:BR)(z t:Rat)(p:Nat->Nat):(bd b).tryP z t p=yi b z t (Ez b z t p):=by
 rw[Bd.tryP,Ez];cases Bd.newt ((bd b).Kh p) ((bd b).Kc p) ((bd b).Kp p) ((bd b).w-(bd b).F z t) (-((bd b).e z t))<;>rfl
set_option maxRecDepth 20000 in
theorem wV (b:BR)(hb:b.Ok)(a:AR){z t:Rat}{n m:Nat}[ha:Va a z t n m](hn:n+m<=50000):Ret Tryz.prog .shared 206 [.agg (eB b),.agg (eA a)] (C9 ((bd b).guess z t)):=by
 have h1:=j5 b.l hb.lim.l hb.chkL hb.few a J;have h2:=bx b.w hb.lim.w;have zw:Zb b.w:=aU hb.lim.w.1 hb.lim.w.2;have v1:Vq (ofQ (aw (fI b.l z t) b.l.length)) (aw (fI b.l z t) b.l.length) (96*(n+1+(m+1)+60)+200):=Vq.ofQ (h:=Du hb.lim.l hb.few ha.z.hq ha.t.hq);have h3:=lL (ofQ (b.w:Rat)) (ofQ (aw (fI b.l z t) b.l.length)) (hy:=v1) Y J;rw[show(b.w:Rat)-aw (fI b.l z t) b.l.length=(bd b).w-(bd b).F z t from O]at h3;have h4:=mT b hb a J;have v4:Vq (ofQ ((bd b).e z t)) ((bd b).e z t) (96*(n+1+(m+1)+60)+200+17+1):=Vq.ofQ (h:=DG hb ha.z.hq ha.t.hq);have h5:=Fa (ofQ ((bd b).e z t)) (hx:=v4) J;have h6:=pC a;have h7:=r8 a;have sR:=uL b hb a (z:=z) (t:=t) J;have sL:=uK b hb a (z:=z) (t:=t) J;have cR:=FK b hb a ha hn (E7 hb z t);have cL:=FK b hb a ha hn (E6 hb z t);rw[show Bd.newt ((bd b).Kh ((bd b).pR z t)) ((bd b).Kc ((bd b).pR z t)) ((bd b).Kp ((bd b).pR z t)) ((bd b).w-(bd b).F z t) (-((bd b).e z t))=Ez b z t ((bd b).pR z t) from O]at cR;rw[show Bd.newt ((bd b).Kh ((bd b).pL z t)) ((bd b).Kc ((bd b).pL z t)) ((bd b).Kp ((bd b).pL z t)) ((bd b).w-(bd b).F z t) (-((bd b).e z t))=Ez b z t ((bd b).pL z t) from O]at cL;generalize hG:(bd b).guess z t=G0;rw[Bd.guess,vZ,vZ]at hG;generalize hPR:(bd b).pR z t=pR at *
 generalize hPL:(bd b).pL z t=pL at *
 obtain⟨m1,m2,m3⟩:=cR;obtain⟨l1,l2,l3⟩:=cL;generalize Ez b z t pR=oR at *
 generalize Ez b z t pL=oL at *
 rw[FR]at sR sL m1 l1;generalize ofQ ((bd b).Kh pR)=R1 at *
 generalize ofQ ((bd b).Kc pR)=R2 at *
 generalize ofQ ((bd b).Kp pR)=R3 at *
 generalize ofQ ((bd b).Kh pL)=L1 at *
 generalize ofQ ((bd b).Kc pL)=L2 at *
 generalize ofQ ((bd b).Kp pL)=L3 at *
 generalize ofQ ((bd b).w-(bd b).F z t)=FO at *
 generalize ofQ (-((bd b).e z t))=MO at *
 generalize ofQ ((bd b).e z t)=EX at *
 generalize ofQ (aw (fI b.l z t) b.l.length)=TF at *
 generalize ofQ (aw (gI b.l z t) b.l.length)=TG at *
 refine Ret.of_pwp layOk mixed Go.Proofs.Tryz.func206 O Y O O ?_;refine G h1 ?_;refine H ?_;refine bC 6 1 [21,22,23,24,25,26,8] [] aS O ?_;refine G h2 ?_;refine G h3 ?_;refine G h4 ?_;refine G h5 ?_;refine H ?_;refine bD [35] [4,5] aS ?_;refine G h6 ?_;refine G h7 ?_;refine H ?_;refine js O O O (aT 2 O O O O O O O O O O O aI O ⟨dR O,?_⟩);refine H ?_;refine ao (fun i:Nat=>(i=0/\(match yi b z t oR with|some x=>some x|none=>yi b z t oL)=G0)\/(i=1/\yi b z t oL=G0)\/(i=2/\G0=none)) (fun i=>[(2,.ptr 2 1 0 0),(3,.ptr 3 1 0 0),(4,.ptr 4 1 0 0),(8,.ptr 8 1 0 0),(9,.ptr 9 1 0 0),(35,.als 35 1 0 2),(36,I 2),(37,I (i:Nat))])
  (fun _=>[(2,1,⟨158,6,[eB b],2⟩),(3,1,⟨45,8,[eA a],2⟩),(4,1,⟨45,8,[zN++zN],2⟩),(8,1,⟨42,4,[eR FO],2⟩),(9,1,⟨42,4,[eR MO],2⟩),(35,1,⟨273,1,[[.clo 280 [.dref (eA a) 0]],[.clo 282 [.dref (eA a) 0]]],2⟩)]) (fun i=>2-i) 0 (.inl ⟨O,hG⟩) ⟨O,O,O,O,O,O,O,O,O,O,O,O,O,O,trivial⟩ ?_
 intro i s hi;rcases hi with⟨rfl,hG⟩|⟨rfl,hG⟩|⟨rfl,hG⟩
 .cases oR with
  |none =>
   refine H ?_;refine bJ O O (bE O O O O O O O Y Y) ?_;refine H ?_;refine bD [12] [10,11] aS ?_;refine G sR ?_;refine G m1 ?_;refine bT 8 [51,52,53,54,55,56,57,58] ?_;refine H ?_;exact⟨1,.inr (.inl ⟨O,hG⟩),Y,O,O,O,O,O,O,O,O,O,O,O,O,O,O,trivial⟩
  |some d =>
   have k1:=m2 d O;have k2:=m3 d O;rw[nk]at m1;rw[yi]at hG;by_cases hbal:(bd b).Bal (z+d.1) (t+d.2)
   .rw[decide_eq_true hbal]at k2;rw[if_pos hbal]at hG;try simp only at hG
    subst hG;rw[C9];dsimp only;generalize ofQ (z+d.1)=Y1 at *
    generalize ofQ (t+d.2)=Y2 at *
    generalize ofQ d.1=Y3 at *
    generalize ofQ d.2=Y4 at *
    refine H ?_;refine bJ O O (bE O O O O O O O Y Y) ?_;refine H ?_;refine bD [12] [10,11] aS ?_;refine G sR ?_;refine G m1 ?_;refine bT 8 [51,52,53,54,55,56,57,58] ?_;refine G k1 ?_;refine ap k2 ?_;refine G k1 ?_;exact bI
   .rw[decide_eq_false hbal]at k2;rw[if_neg hbal]at hG;try simp only at hG
    generalize ofQ (z+d.1)=Y1 at *
    generalize ofQ (t+d.2)=Y2 at *
    generalize ofQ d.1=Y3 at *
    generalize ofQ d.2=Y4 at *
    refine H ?_;refine bJ O O (bE O O O O O O O Y Y) ?_;refine H ?_;refine bD [12] [10,11] aS ?_;refine G sR ?_;refine G m1 ?_;refine bT 8 [51,52,53,54,55,56,57,58] ?_;refine G k1 ?_;refine ap k2 ?_;refine H ?_;exact⟨1,.inr (.inl ⟨O,hG⟩),Y,O,O,O,O,O,O,O,O,O,O,O,O,O,O,trivial⟩
 .cases oL with
  |none =>
   refine H ?_;refine bJ O O (bE O O O O O O O Y Y) ?_;refine H ?_;refine bD [12] [10,11] aS ?_;refine G sL ?_;refine G l1 ?_;refine bT 8 [51,52,53,54,55,56,57,58] ?_;refine H ?_;exact⟨2,.inr (.inr ⟨O,hG.symm⟩),Y,O,O,O,O,O,O,O,O,O,O,O,O,O,O,trivial⟩
  |some d =>
   have k1:=l2 d O;have k2:=l3 d O;rw[nk]at l1;rw[yi]at hG;by_cases hbal:(bd b).Bal (z+d.1) (t+d.2)
   .rw[decide_eq_true hbal]at k2;rw[if_pos hbal]at hG;try simp only at hG
    subst hG;rw[C9];dsimp only;generalize ofQ (z+d.1)=Y1 at *
    generalize ofQ (t+d.2)=Y2 at *
    generalize ofQ d.1=Y3 at *
    generalize ofQ d.2=Y4 at *
    refine H ?_;refine bJ O O (bE O O O O O O O Y Y) ?_;refine H ?_;refine bD [12] [10,11] aS ?_;refine G sL ?_;refine G l1 ?_;refine bT 8 [51,52,53,54,55,56,57,58] ?_;refine G k1 ?_;refine ap k2 ?_;refine G k1 ?_;exact bI
   .rw[decide_eq_false hbal]at k2;rw[if_neg hbal]at hG;try simp only at hG
    generalize ofQ (z+d.1)=Y1 at *
    generalize ofQ (t+d.2)=Y2 at *
    generalize ofQ d.1=Y3 at *
    generalize ofQ d.2=Y4 at *
    refine H ?_;refine bJ O O (bE O O O O O O O Y Y) ?_;refine H ?_;refine bD [12] [10,11] aS ?_;refine G sL ?_;refine G l1 ?_;refine bT 8 [51,52,53,54,55,56,57,58] ?_;refine G k1 ?_;refine ap k2 ?_;refine H ?_;exact⟨2,.inr (.inr ⟨O,hG.symm⟩),Y,O,O,O,O,O,O,O,O,O,O,O,O,O,O,trivial⟩
 .subst hG;exact bI
def rV (s:SR)(z t:Rat):Rat:=bG s.k.m (l6 s.k.s (yQ s z t) s.k.S.length)
def lV (s:SR)(z t:Rat):Rat:=bG s.k.m (pg s.k.s (yQ s z t) s.k.S.length)
def o_ (z t A B:Rat)(s:SR):Bool:=decide (¬((0<A+B*(s.x:Rat)/\rV s z t≠0)\/(A+B*(s.x:Rat)<0/\lV s z t≠0)))
def iw (l:List SR)(z t A B:Rat):Bool:=l.all (o_ z t A B)
theorem vR {p:Rat}(h:0<p):sgn p=1:=by rw[sgn,if_neg cH,if_neg cH]
theorem vQ {p:Rat}(h:p<0):sgn p = -1:=by rw[sgn,if_pos h]
theorem nG {p:Rat}(h:p=0):sgn p=0:=(gv p).2 h
theorem AG {p:Rat}(h:p≠0):sgn p=1\/sgn p = -1:=by
 rcases Classical.em (0<p) with h1|h1
 .exact .inl (vR h1)
 .exact .inr (vQ cH)
set_option maxRecDepth 20000 in
theorem zg (b:BR)(hb:b.Ok)(a:AR){z t:Rat}{n m:Nat}[ha:Va a z t n m](hn:n+m<=50000)(r:AR){A B:Rat}{n' m':Nat}(hr:Va r A B n' m')(h2:n'<=100000)(h3:m'<=100000):Ret Tryz.prog .shared 210 [.agg (eB b),.agg (eA a),.agg (eA r)] (.bool (iw b.l z t A B)):=by
 have h6:=pC a;have h7:=r8 a;have hck:=hb.chkL;have hl:=hb.lim.l;have h12:=hb.few.1;have hrz:=hr.z;have hrt:=hr.t;generalize hF:iw b.l z t A B=F;rw[iw]at hF;obtain⟨w,ba,l⟩:=b;simp only at *
 have hml:(l.map eS).length=l.length:=ai;obtain⟨rz,rt⟩:=r;simp only at hrz hrt;refine Ret.of_pwp layOk mixed Go.Proofs.Tryz.func210 O Y O O ?_;refine H ?_;refine ao (fun i:Nat=>i<=l.length/\(l.drop i).all (o_ z t A B)=l.all (o_ z t A B)) (fun i=>[(4,.ptr 4 1 0 0),(5,.ptr 5 1 0 0),(11,.sl (l.map eS)),(12,I l.length),(13,I (i:Nat))])
  (fun i=>[(4,1,⟨45,8,[eA a],2⟩),(5,1,⟨71,8,[eA ⟨rz,rt⟩],2⟩)]) (fun i=>l.length-i) 0 ⟨Nat.zero_le _,by rw[List.drop_zero]⟩ ⟨O,O,O,by rw[<-hml];rfl,O,O,O,trivial⟩ ?_
 intro i s ⟨hi,hall⟩;refine D ?_ ?_<;>intro h
 .have hlt:i<l.length:=by have:=aB h;omega
  clear h;obtain⟨x,hx⟩:=aH hlt;have hxm:=a_ hx;have hxl:=hl.1 x hxm;have hkc:=cM hck x hxm;have zx:Zb x.x:=aU hxl.x.1 hxl.x.2;have hw:=c9 i;have hdr:(l.drop i).all (o_ z t A B)=(o_ z t A B x&&(l.drop (i+1)).all (o_ z t A B)):=by
   obtain⟨hl1,h2⟩:=bi hx;rw[List.drop_eq_getElem_cons hl1,h2,List.all_cons]
  rw[hdr]at hall;have hbd:o_ z t A B x=o_ z t A B x:=O
  conv at hbd=>rhs;rw[o_]
  have e1:=bx x.x hxl.x;have e2:=eJ rt (ofQ (x.x:Rat)) (hx:=hrt) J Y;have v2:Vq (ofQ (B*(x.x:Rat))) (B*(x.x:Rat)) (m'+1+4):=Vq.ofQ (h:=@HQ.mul _ _ (m'+1) 4 hrt.hq HQ.int);have e3:=dy rz (ofQ (B*(x.x:Rat))) (hx:=hrz) (hy:=v2) J J;have v3:Vq (ofQ (A+B*(x.x:Rat))) (A+B*(x.x:Rat)) (n'+1+(m'+1+4)+1):=Vq.ofQ (h:=@HQ.add _ _ (n'+1) _ hrz.hq (dV v2));have e4:=nI (ofQ (A+B*(x.x:Rat))) (hx:=v3) J;have cr:=nA x hxl hkc a (z:=z) (t:=t) J;have cl:=oV x hxl hkc a (z:=z) (t:=t) J;rw[show bG x.k.m (l6 x.k.s (yQ x z t) x.k.S.length)=rV x z t from O]at cr;have vr:Vq (ofQ (rV x z t)) (rV x z t) 13:=Vq.ofQ (h:=(oA x.k hxl.k _).hq);have vl:Vq (xe x.k (yQ x z t) x.k.S.length) (lV x z t) 12:=zE hxl.k _ _;have sr:=nI (ofQ (rV x z t)) (hx:=vr) Y;have sl:=nI (xe x.k (yQ x z t) x.k.S.length) (hx:=vl) Y;generalize ofQ (rV x z t)=RV at *
  generalize xe x.k (yQ x z t) x.k.S.length=LV at *
  generalize o_ z t A B x=ok at *
  generalize ofQ (A+B*(x.x:Rat))=D1 at *
  generalize ofQ (B*(x.x:Rat))=D2 at *
  generalize ofQ (x.x:Rat)=D3 at *
  rcases Classical.em (0<A+B*(x.x:Rat)) with hd|hd
  .rw[vR hd]at e4;rcases Classical.em (rV x z t=0) with hz|hz
   .rw[nG hz]at sr;have hbad:ok=true:=by rw[hbd,decide_eq_true];rintro(⟨_,h⟩|⟨h,_⟩);exact h hz;grind
    rw[hbad,Bool.true_and]at hall;refine aN hx ?_;refine bT 11 [17,18,19,20,21,22,23,24,25,26,9] ?_;refine G e1 ?_;refine G e2 ?_;refine G e3 ?_;refine ap e4 ?_;refine bT 22 [27,28,29,30,31,32,33,34,35,36,37,38,39,40,41,42,43,44,45,46,47,48] ?_;refine G h6 ?_;refine G cr ?_;refine ap sr ?_;refine H ?_;exact⟨i+1,⟨J,hall⟩,J,O,O,O,O,congrArg I hw,O,O,trivial⟩
   .have hbad:ok=false:=by rw[hbd,decide_eq_false];exact fun h=>h (.inl ⟨hd,hz⟩)
    rw[hbad,Bool.false_and]at hall;rcases AG hz with hs|hs
    .rw[hs]at sr;refine aN hx ?_;refine bT 11 [17,18,19,20,21,22,23,24,25,26,9] ?_;refine G e1 ?_;refine G e2 ?_;refine G e3 ?_;refine ap e4 ?_;refine bT 22 [27,28,29,30,31,32,33,34,35,36,37,38,39,40,41,42,43,44,45,46,47,48] ?_;refine G h6 ?_;refine G cr ?_;refine ap sr ?_;refine H ?_;exact cJ O O (by rw[<-hF,<-hall])
    .rw[hs]at sr;refine aN hx ?_;refine bT 11 [17,18,19,20,21,22,23,24,25,26,9] ?_;refine G e1 ?_;refine G e2 ?_;refine G e3 ?_;refine ap e4 ?_;refine bT 22 [27,28,29,30,31,32,33,34,35,36,37,38,39,40,41,42,43,44,45,46,47,48] ?_;refine G h6 ?_;refine G cr ?_;refine ap sr ?_;refine H ?_;exact cJ O O (by rw[<-hF,<-hall])
  .rcases Classical.em (A+B*(x.x:Rat)<0) with hd2|hd2
   .rw[vQ hd2]at e4;rcases Classical.em (lV x z t=0) with hz|hz
    .rw[nG hz]at sl;have hbad:ok=true:=by rw[hbd,decide_eq_true];rintro(⟨h,_⟩|⟨_,h⟩);exact hd h;exact h hz
     rw[hbad,Bool.true_and]at hall;refine aN hx ?_;refine bT 11 [17,18,19,20,21,22,23,24,25,26,9] ?_;refine G e1 ?_;refine G e2 ?_;refine G e3 ?_;refine ap e4 ?_;refine bT 22 [27,28,29,30,31,32,33,34,35,36,37,38,39,40,41,42,43,44,45,46,47,48] ?_;refine G h7 ?_;refine G cl ?_;refine ap sl ?_;refine H ?_;exact⟨i+1,⟨J,hall⟩,J,O,O,O,O,congrArg I hw,O,O,trivial⟩
    .have hbad:ok=false:=by rw[hbd,decide_eq_false];exact fun h=>h (.inr ⟨hd2,hz⟩)
     rw[hbad,Bool.false_and]at hall;rcases AG hz with hs|hs
     .rw[hs]at sl;refine aN hx ?_;refine bT 11 [17,18,19,20,21,22,23,24,25,26,9] ?_;refine G e1 ?_;refine G e2 ?_;refine G e3 ?_;refine ap e4 ?_;refine bT 22 [27,28,29,30,31,32,33,34,35,36,37,38,39,40,41,42,43,44,45,46,47,48] ?_;refine G h7 ?_;refine G cl ?_;refine ap sl ?_;refine H ?_;exact cJ O O (by rw[<-hF,<-hall])
     .rw[hs]at sl;refine aN hx ?_;refine bT 11 [17,18,19,20,21,22,23,24,25,26,9] ?_;refine G e1 ?_;refine G e2 ?_;refine G e3 ?_;refine ap e4 ?_;refine bT 22 [27,28,29,30,31,32,33,34,35,36,37,38,39,40,41,42,43,44,45,46,47,48] ?_;refine G h7 ?_;refine G cl ?_;refine ap sl ?_;refine H ?_;exact cJ O O (by rw[<-hF,<-hall])
   .rw[nG (show A+B*(x.x:Rat)=0 by grind)]at e4;have hbad:ok=true:=by rw[hbd,decide_eq_true];rintro(⟨h,_⟩|⟨h,_⟩);exact hd h;exact hd2 h
    rw[hbad,Bool.true_and]at hall;refine aN hx ?_;refine bT 11 [17,18,19,20,21,22,23,24,25,26,9] ?_;refine G e1 ?_;refine G e2 ?_;refine G e3 ?_;refine ap e4 ?_;refine bT 22 [27,28,29,30,31,32,33,34,35,36,37,38,39,40,41,42,43,44,45,46,47,48] ?_;refine H ?_;exact⟨i+1,⟨J,hall⟩,J,O,O,O,O,congrArg I hw,O,O,trivial⟩
 .have hie:i=l.length:=by have:=aG h;omega
  clear h;rw[hie,List.drop_length,List.all_nil]at hall;rw[<-hall]at hF;subst hF;exact ef
theorem t_ (b:BR)(hb:b.Ok)(a:AR){z t:Rat}{n m:Nat}[ha:Va a z t n m](hn:n+m<=50000)(r:AR){A B:Rat}{n' m':Nat}(hr:Va r A B n' m')(h2:n'<=100000)(h3:m'<=100000):Ret Tryz.prog .shared 209 [.agg (eA r),.dref (eB b) 0,.dref (eA a) 0] (.bool (iw b.l z t A B)):=by
 have h1:=zg b hb a (z:=z) (t:=t) hn r hr h2 h3;generalize iw b.l z t A B=F at *
 refine Ret.of_pwp layOk mixed Go.Proofs.Tryz.func209 O Y O O ?_;refine ap h1 ?_;exact ef
def m_ (p:AR->Bool):List AR->Nat->Int
 |[],_ => -1
 |d::l,i=>if p d=true then(i:Int) else m_ p l (i+1)
theorem rO (p:AR->Bool):∀(l:List AR) (i:Nat),decide (0<=m_ p l i)=l.any p
 |[],i=>rfl
 |d::l,i=>by
  rw[m_,List.any_cons];cases h:p d
  .rw[if_neg Y,rO p l (i+1),Bool.false_or]
  .rw[if_pos O,Bool.true_or,decide_eq_true];omega
theorem wW (p:AR->Bool){l:List AR}{i:Nat}{x:AR}(h:l[i]? = some x):m_ p (l.drop i) i=if p x=true then(i:Int) else m_ p (l.drop (i+1)) (i+1):=by
 obtain⟨hl,rfl⟩:=bi h;rw[List.drop_eq_getElem_cons hl,m_]
set_option maxRecDepth 20000 in
theorem tX (T:List AR)(hT:T.length<=1000)(f:FuncId)(c1 c2:List PV)(p:AR->Bool)(hg:∀d∈T,Ret Tryz.prog .shared f [.agg (eA d),.dref c1 0,.dref c2 0] (.bool (p d))):Ret Tryz.prog .shared 257 [.sl (T.map eA),.clo f [.dref c1 0,.dref c2 0]] (I (m_ p T 0)):=by
 have hml:(T.map eA).length=T.length:=ai;generalize hF:m_ p T 0=F;refine Ret.of_pwp layOk mixed Go.Proofs.Tryz.func257 O Y O O ?_;refine H ?_;refine ao (fun i:Nat=>i<=T.length/\m_ p (T.drop i) i=F) (fun i=>[(0,.sl (T.map eA)),(1,.clo f [.dref c1 0,.dref c2 0]),(7,I T.length),(8,I (i:Nat))])
  (fun _=>[]) (fun i=>T.length-i) 0 ⟨Nat.zero_le _,by rw[List.drop_zero];exact hF⟩ ⟨O,O,by rw[<-hml];rfl,O,trivial⟩ ?_
 intro i s ⟨hi,hall⟩;refine D ?_ ?_<;>intro h
 .have hlt:i<T.length:=by have:=aB h;omega
  clear h;obtain⟨x,hx⟩:=aH hlt;have hgx:=hg x (a_ hx);have hw:=c9 i;rw[wW p hx]at hall;cases hp:p x with
  |true =>
   rw[hp]at hgx;rw[if_pos hp]at hall;refine aN hx ?_;refine ap hgx ?_;refine H ?_;exact kt O O (by rw[<-hall])
  |false =>
   rw[hp]at hgx;rw[if_neg (by rw[hp];decide)]at hall;refine aN hx ?_;refine ap hgx ?_;refine H ?_;exact⟨i+1,⟨J,hall⟩,J,O,O,O,congrArg I hw,trivial⟩
 .have hie:i=T.length:=by have:=aG h;omega
  clear h;rw[hie,List.drop_length,m_]at hall;rw[<-hall];exact bq
theorem n_ (T:List AR)(hT:T.length<=1000)(f:FuncId)(c1 c2:List PV)(p:AR->Bool)(hg:∀d∈T,Ret Tryz.prog .shared f [.agg (eA d),.dref c1 0,.dref c2 0] (.bool (p d))):Ret Tryz.prog .shared 208 [.sl (T.map eA),.clo f [.dref c1 0,.dref c2 0]] (.bool (T.any p)):=by
 have h1:=tX T hT f c1 c2 p hg;rw[<-rO p T 0];generalize m_ p T 0=F at *
 refine Ret.of_pwp layOk mixed Go.Proofs.Tryz.func208 O Y O O ?_;refine ap h1 ?_;exact ef
set_option maxRecDepth 20000 in
theorem uS {K:St->Prop}{s:St}{d g2 g3:Nat}{R2 R3:Cont}{x:Operand}{tys:Array TypeId}{ty:TypeId}{pos:String}{af:Array Edge}(l:List SR)(hl:ju l)(h12:l.length<=1000)(hck:cq l=0)
  (hx:s.ev x = .sl (l.map eS)) (ho:FitO s [(2,g2,R2),(1003,g3,R3)])
  (hK:∀(s1:St) (g:Nat),K (({ reg:=s.reg,own:=(s1.over [] [(2,g2,R2),(1003,g3,R3),(3,g,⟨71,8,(eO l).map eA,1⟩)]).own }:St).putR d (.als 3 g 0 ((eO l).map eA).length))) :
  Sm Tryz.prog lay.get s ⟨some d,.call ⟨.value (.func 201),#[x],tys⟩,ty,pos,af,none⟩ K:=by
 have hp:=np l hl h12;have hrg:∀x∈bR l,-1000000<=x/\x<=1000000:=fun x hx=>f7 hck hx;have hpl:=ic l;have w1:=bx 1 ⟨Y,Y⟩;have w2:=bx (-1) ⟨Y,Y⟩;rw[eO]at hK;generalize bR l=Pl at *
 have hml:(Pl.map eN).length=Pl.length:=ai;have hrows:∀(k:Nat) x,Pl[k]? = some x->((Pl.take (k+1)).map qW).map eA=((Pl.take k).map qW).map eA++[eA (qW x)]:=fun k x hx=>by rw[br hx,List.map_append,List.map_append];rfl
 have hrows2:∀(k:Nat) x,Pl[k]? = some x->(Pl.map qW++(Pl.take (k+1)).map y4).map eA=(Pl.map qW++(Pl.take k).map y4).map eA++[eA (y4 x)]:=fun k x hx=>by rw[br hx];simp[List.map_append]
 refine cF layOk O O Tryz.func201 O Y O O ?_;show PWP _ _ _ _ (b8 s (([x]:List Operand).map s.ev++[]));rw[show(([x]:List Operand).map s.ev++([]:List PV))=[.sl (l.map eS)] by simp[hx]];rw[show b8 s [.sl (l.map eS)]=b8 (s.over [] [(2,g2,R2),(1003,g3,R3)]) [.sl (l.map eS)] by rw[Fit.over (l:=[]) ho]]
 ((repeat (first|refine aO ?_ | refine cf ?_ | refine bL ?_ | refine bS ?_));refine bc ?_)
 refine gN O trivial ?_
 ((repeat (first|refine aO ?_ | refine cf ?_ | refine bL ?_ | refine bS ?_));refine bc ?_)
 (first|refine ax (gp 71 8 1 O O ?_)|refine ax (gj 71 8 1 O O ?_))
 refine G hp ?_;refine H ?_;refine bj [(0,.sl (l.map eS)),(3,.als 3 ((s.own 3).1+1) 0 0),(9,.sl (Pl.map eN)),(10,I (Pl.map eN).length),(11,I ((0:Nat):Int))] [(2,g2,R2),(1003,g3,R3),(3,(s.own 3).1+1,⟨71,8,[],1⟩)] ⟨O,O,O,O,O,O,O,O,trivial⟩ ?_;generalize (s.own 3).1+1=g;rw[hml];intro s0;refine ao (fun k=>k<=Pl.length) (fun k=>[(0,.sl (l.map eS)),(3,.als 3 (g+k) 0 (((Pl.take k).map qW).map eA).length),(9,.sl (Pl.map eN)),(10,I Pl.length),(11,I k)]) (fun k=>[(2,g2,R2),(1003,g3,R3),(3,g+k,⟨71,8,((Pl.take k).map qW).map eA,1⟩)]) (fun k=>Pl.length-k) 0 (Nat.zero_le _) ⟨O,O,O,O,O,O,O,O,trivial⟩ ?_;intro k s1 hk;refine D ?_ ?_<;>intro h
 .have hlt:k<Pl.length:=by have:=aB h;omega
  clear h;obtain⟨x,hx⟩:=aH hlt;have hr:=hrg x (a_ hx);have hnx:=bx (-x) ⟨J,J⟩;have hw:=c9 k;have hn:IntKind.i64.wrap (0-x) = -x:=by rw[wrap_i64 J J];omega
  refine aN hx ?_;refine H ?_;rw[hn];refine sO O O O hnx O O ?_;refine G w1 ?_;refine H ?_;refine ax (aT 1 O O O O O O O O O O O aI O ?_);refine H ?_;refine ax (bb 1 O O O O O O O O O O O aI (by intro row hr;first|(simp at hr;subst hr;rfl)|simp at hr) O O aK aK ?_);refine H ?_;refine⟨k+1,hlt,J,O,?_,O,O,congrArg I hw,O,O,?_,trivial⟩
  .rw[hrows k x hx];rfl
  .rw[hrows k x hx];rfl
 .have hge:k=Pl.length:=by have:=aG h;omega
  subst hge;clear h;rw[List.take_length];refine G hp ?_;refine H ?_;refine ao (fun k=>k<=Pl.length) (fun k=>[(3,.als 3 (g+Pl.length+k) 0 ((Pl.map qW++(Pl.take k).map y4).map eA).length),(25,.sl (Pl.map eN)),(26,I Pl.length),(27,I k)]) (fun k=>[(2,g2,R2),(1003,g3,R3),(3,g+Pl.length+k,⟨71,8,(Pl.map qW++(Pl.take k).map y4).map eA,1⟩)]) (fun k=>Pl.length-k) 0 (Nat.zero_le _) ⟨by rw[List.take_zero,List.map_nil,List.append_nil];rfl,O,by rw[<-hml];rfl,O,O,O,by rw[List.take_zero,List.map_nil,List.append_nil];rfl,trivial⟩ ?_;intro k s2 hk;refine D ?_ ?_<;>intro h
  .have hlt:k<Pl.length:=by have:=aB h;omega
   clear h;obtain⟨x,hx⟩:=aH hlt;have hr:=hrg x (a_ hx);have hnx:=bx x ⟨J,J⟩;have hw:=c9 k;refine aN hx ?_;refine G hnx ?_;refine G w2 ?_;refine H ?_;refine ax (aT 1 O O O O O O O O O O O aI O ?_);refine H ?_;refine ax (bb 1 O O O O O O O O O O O aI (by intro row hr;first|(simp at hr;subst hr;rfl)|simp at hr) O O aK aK ?_);refine H ?_;refine⟨k+1,hlt,J,?_,O,O,congrArg I hw,O,O,?_,trivial⟩
   .rw[hrows2 k x hx];rfl
   .rw[hrows2 k x hx];rfl
  .have hge:k=Pl.length:=by have:=aG h;omega
   subst hge;clear h;rw[List.take_length];refine H ?_;exact qi O O (hK s2 (g+Pl.length+Pl.length))
def Di:AR:=⟨ofQ ((-1:Int):Rat),ofQ ((0:Int):Rat)⟩
def iG (l:List SR):List AR:=eO l++[gE,Di]
def lp (b:BR)(z t:Rat):Bool:=(iG b.l).any fun d=>iw b.l z t d.z.val d.t.val
theorem BE {l:List SR}(hck:cq l=0){r:AR}(h:r∈iG l):Va r r.z.val r.t.val 4 4:=by
 rw[iG,List.mem_append]at h;rcases h with h|h
 .exact v8 hck h
 .simp at h;rcases h with rfl|rfl
  .exact vh
  .exact⟨vI ⟨Y,Y⟩,vI ⟨Y,Y⟩⟩
theorem CD {r1 r2:List PV}{n:Nat}(h1:r1.length=n)(h2:r2.length=n):∀row∈[r1,r2],row.length=n:=by
 intro row hr;rcases List.mem_cons.1 hr with rfl|hr
 .exact h1
 .rcases List.mem_cons.1 hr with rfl|hr
  .exact h2
  .cases hr
set_option maxRecDepth 20000 in
theorem xi (b:BR)(hb:b.Ok)(a:AR){z t:Rat}{n m:Nat}[ha:Va a z t n m](hn:n+m<=50000):Ret Tryz.prog .shared 143 [.agg (eB b),.agg (eA a)] (.bool (lp b z t)):=by
 have hl:=hb.lim.l;have hck:=hb.chkL;have h12:=hb.few.1;have hlen:(iG b.l).length<=1000:=by
  have:=ic b.l;rw[iG,eO];simp;omega
 have hc:=n_ (iG b.l) hlen 209 (eB b) (eA a) (fun d=>iw b.l z t d.z.val d.t.val) fun d hd=>t_ b hb a (z:=z) (t:=t) hn d (BE hck hd) Y Y;rw[show(iG b.l).any (fun d=>iw b.l z t d.z.val d.t.val)=lp b z t from O]at hc;have w1:=bx 1 ⟨Y,Y⟩;have w0:=bx 0 ⟨Y,Y⟩;have w2:=bx (-1) ⟨Y,Y⟩;generalize lp b z t=F at *
 have hT:(eO b.l).length<=1000:=by rw[iG]at hlen;simp at hlen;omega
 have hrow:(eO b.l).map eA++[eA gE,eA Di]=(iG b.l).map eA:=by rw[iG,List.map_append];rfl
 refine Ret.of_pwp layOk mixed Go.Proofs.Tryz.func143 O Y O O ?_
 (repeat ((fail_if_success (with_reducible refine aR 1 ?_));refine b9 O ?_))
 refine aq (Ghost.move (k:=3) (k':=1003) (t:=3) O O O O) ?_
 ((repeat ((fail_if_success (with_reducible refine aR 1 ?_));refine b9 O ?_));refine aM 2 ?_)
 iterate 2 refine dD O ?_
 refine aO ?_;refine aW O (uS (g2:=1) (g3:=1) b.l hl J hck O ⟨O,O,trivial⟩ fun s1 g=>?_);refine aJ ?_;refine G w1 ?_;refine G w0 ?_;refine G w2 ?_;refine G w0 ?_;refine H ?_;refine ax (aT 1 O O O O O O O O O O O aI O ?_);refine H ?_;refine ax (bb 1 O O O O O O O O O O O aI (CD O O) O O aK aK ?_)
 (repeat ((fail_if_success (with_reducible refine aR 2 ?_));refine b9 O ?_))
 refine aq (Ghost.data (k:=2) (t:=2) O O O O) ?_;refine aq (Ghost.data (k:=1003) (t:=3) O O O O) ?_;refine H ?_;rw[<-hrow]at hc;refine EA O O O hc O O O ?_;exact ef
theorem ES (s:SR)(t:Rat)(k:Nat):prB (bn s t k)=(s.k.s k-(s.c.val+t*(s.x:Rat)),s.k.m k-bG s.k.m k):=by
 rw[prB,bn,ofQ_val,ofQ_val];rfl
theorem DA (b:BR)(t:Rat):(lS b.l t).map prB=(bd b).bnds t:=by
 rw[lS,Bd.bnds,List.map_flatMap];show _=(List.range b.l.length).flatMap ((bd b).bnd1 t);have e:∀s:SR,(jk t s).map prB=(List.range s.k.S.length).map fun k=>(s.k.s k-(s.c.val+t*(s.x:Rat)),s.k.m k-bG s.k.m k):=by
  intro s;rw[jk,List.map_map];exact List.map_congr_left fun k _=>ES s t k
 have key:∀(l:List SR),(l.flatMap fun s=>(jk t s).map prB)=(List.range l.length).flatMap fun i=>(jk t (l.getD i dS)).map prB:=by
  intro l
  induction l with
  |nil=>rfl
  |cons x l ih =>
   rw[List.flatMap_cons,ih,List.length_cons,List.range_succ_eq_map,List.flatMap_cons,List.flatMap_map];rfl
 rw[key];refine congrArg (fun f=>(List.range b.l.length).flatMap f) (funext fun i=>?_);rw[e];rfl
theorem pI {b:BR}(hb:b.Ok){t:Rat}(hex:∃z,(bd b).w<=(bd b).F z t):(bd b).Least (fP b t) t:=by
 refine Bd.settled_least (oz hb) hex ?_ ?_
 .rw[<-DA];exact(im ji (lS b.l t)).map prB
 .rw[yJ,List.pairwise_map];exact qP ji (lS b.l t)
theorem j4 {b:BR}(hb:b.Ok){t:Rat}(hex:∃z,(bd b).w<=(bd b).F z t):fP b t=(bd b).sg t:=(Bd.sg_eq (pI hb hex)).symm
theorem zo {b:BR}(z t:Rat):(bd b).Inl ((bd b).pL z t) z t:=fun i hi=>Aa
theorem AZ {b:BR}(hb:b.Ok){t:Rat}{m:Nat}(ht:HQ t m)(hex:∃z,(bd b).w<=(bd b).F z t):HQ (fP b t) (m+5000):=by
 have hl:=pI hb hex;have hK:=hl.K (oz hb) (zo _ _);have hz:=Bd.ln_at (oz hb) hl.1 (zo (b:=b) (fP b t) t).c hK;rw[hz,Bd.ln];have hw:Zb b.w:=aU hb.lim.w.1 hb.lim.w.2;have wq:HQ ((bd b).w) 4:=HQ.int;have hpn:∀i,i<b.l.length->(bd b).pL (fP b t) t i<=(bd b).n i:=fun i hi=>(zo (b:=b) (fP b t) t i hi).1;have fo:=CT hb hpn;have kc:=yB hb ((bd b).pL (fP b t) t);have kh:=yC hb ((bd b).pL (fP b t) t);exact(@HQ.div _ _ _ 300 (@HQ.sub _ _ _ _ (@HQ.sub _ _ 4 4100 wq fo) (@HQ.mul _ _ 300 m kc ht)) kh).mono J
theorem A1 {b:BR}(hb:b.Ok){t:Rat}{m:Nat}(ht:HQ t m)(hex:∃z,(bd b).w<=(bd b).F z t):Va ⟨ofQ (fP b t),ofQ t⟩ (fP b t) t (m+5000) m:=⟨Vq.ofQ (h:=AZ hb ht hex),Vq.ofQ (h:=ht)⟩
theorem rI {b:BR}(hb:b.Ok){t:Rat}{m:Nat}(ht:HQ t m)(hm:m<=20000)(hex:∃z,(bd b).w<=(bd b).F z t):Ret Tryz.prog .shared 203 [.agg (eB b),.agg (eA ⟨ofQ (fP b t),ofQ t⟩)] (.agg (eR (ofQ ((bd b).E t)))):=by
 have:=mT b hb ⟨ofQ (fP b t),ofQ t⟩ (ha:=A1 hb ht hex) J;rwa [show(bd b).e (fP b t) t=(bd b).E t by rw[Bd.E,j4 hb hex]]at this
theorem x5 {b:BR}(hb:b.Ok){t:Rat}{m:Nat}(ht:HQ t m)(hm:m<=20000)(hex:∃z,(bd b).w<=(bd b).F z t):Ret Tryz.prog .shared 202 [.agg (eR (ofQ ((bd b).E t)))] (I (sgn ((bd b).E t))):=by
 have h1:=DG hb (AZ hb ht hex) ht;rw[show(bd b).e (fP b t) t=(bd b).E t by rw[Bd.E,j4 hb hex]]at h1;exact nI (ofQ ((bd b).E t)) (hx:=Vq.ofQ (h:=h1)) J
theorem mX {b:BR}(hb:b.Ok){t:Rat}{m:Nat}(ht:HQ t m)(hm:m<=20000)(hex:∃z,(bd b).w<=(bd b).F z t):Ret Tryz.prog .shared 206 [.agg (eB b),.agg (eA ⟨ofQ (fP b t),ofQ t⟩)] (C9 ((bd b).guess ((bd b).sg t) t)):=by
 have:=wV b hb ⟨ofQ (fP b t),ofQ t⟩ (ha:=A1 hb ht hex) J;rwa [<-j4 hb hex]
def p2 (k:Nat):Rat:=((2^k:Nat):Int)
theorem ms (k:Nat):p2 (k+1)=p2 k+p2 k:=by
 rw[p2,p2,Nat.pow_succ,show((2^k*2:Nat):Int)=((2^k:Nat):Int)+((2^k:Nat):Int) by omega]
 push_cast
 rfl
theorem z8 {k:Nat}:HQ (p2 k) (k/16+1):=by
 refine⟨jK ?_ J⟩;rw[Int.natAbs_natCast,show(65536:Nat)=2^16 by decide,<-Nat.pow_mul];exact Nat.pow_lt_pow_right Y J
theorem BB {b:Bd}{n:Nat}{w:Rat}:b.dbl (-1) (n+1) w=if 0<b.E (-w) then b.dbl (-1) n (w+w) else some w:=by
 rw[Bd.dbl];have e:(-1:Rat)*w = -w:=cH;rw[e];by_cases h:0<b.E (-w)
 .rw[if_pos h,if_pos cH]
 .rw[if_neg h,if_neg cH]
theorem BC {b:Bd}{n:Nat}{w:Rat}:b.dbl 1 (n+1) w=if b.E w<0 then b.dbl 1 n (w+w) else some w:=by
 rw[Bd.dbl];have e:(1:Rat)*w=w:=cH;rw[e];by_cases h:b.E w<0
 .rw[if_pos h,if_pos cH]
 .rw[if_neg h,if_neg cH]
def Dy (N j:Nat)(t:Rat):Prop:=∃a:Int,t=(a:Rat)/((2^j:Nat):Int)/\a.natAbs<=2^(j+N)
theorem Bg (j:Nat):(((2^j:Nat):Int))≠0:=by have:=Nat.two_pow_pos j;omega
theorem Dy.hq {N j:Nat}{t:Rat}(h:Dy N j t):HQ t ((j+N)/16+1):=by
 obtain⟨a,rfl,ha⟩:=h;have key:2^(j+N)<65536^((j+N)/16+1):=by
  rw[show(65536:Nat)=2^16 by decide,<-Nat.pow_mul];exact Nat.pow_lt_pow_right Y J
 have h2:2^j<=2^(j+N):=Nat.pow_le_pow_right Y J;exact⟨m9 (Bg j) J (by rw[Int.natAbs_natCast];omega)⟩
theorem Dy.mid {N j:Nat}{lo hi:Rat}(h1:Dy N j lo)(h2:Dy N j hi):Dy N (j+1) ((lo+hi)/2):=by
 obtain⟨a,rfl,ha⟩:=h1;obtain⟨c,rfl,hc⟩:=h2;refine⟨a+c,?_,?_⟩
 .have e:(((2^(j+1):Nat):Int):Rat)=2*(((2^j:Nat):Int):Rat):=by
   rw[Nat.pow_succ,show((2^j*2:Nat):Int)=2*((2^j:Nat):Int) by omega];push_cast;rfl
  have hn:(((2^j:Nat):Int):Rat)≠0:=by have:=Bg j;exact_mod_cast this
  rw[e]
  push_cast
  generalize (((2^j:Nat):Int):Rat)=D0 at *
  grind
 .rw[show j+1+N=(j+N)+1 by omega,Nat.pow_succ];omega
theorem Dy.up {N j:Nat}{t:Rat}(h:Dy N j t):Dy N (j+1) t:=by
 have:=Dy.mid h h;rwa [show(t+t)/2=t by grind]at this
noncomputable def f3 (b:Bd):List Rat->Option (Rat × Rat)
 |[]=>none
 |t::r=>match b.at1 t with
  |some x=>some x
  |none=>f3 b r
theorem BP (b:Bd)(lo hi:Rat):b.fst3 lo hi=f3 b [0,lo,hi]:=by
 rw[Bd.fst3,f3,f3,f3,f3];cases b.at1 0<;>cases b.at1 lo<;>cases b.at1 hi<;>rfl
set_option maxRecDepth 20000 in
theorem wQ (b:BR)(hb:b.Ok)(h40:∀t,(lS b.l t).length<=54)(hS:∀t,SortC (lS b.l t))(hex:∀t,∃z,(bd b).w<=(bd b).F z t){N:Nat}(hN:N<=150000){x:Rat × Rat}(hx:(bd b).eqQ N=some x):Ret Tryz.prog .shared 142 [.agg (eB b)] (.agg (eA ⟨ofQ x.1,ofQ x.2⟩)):=by
 have w1:=bx 1 ⟨Y,Y⟩;have wm:=bx (-1) ⟨Y,Y⟩;rw[show(((1:Int):Int):Rat)=p2 0 from O]at w1;rw[show(((-1:Int):Int):Rat) = -p2 0 by rw[show p2 0=1 from O];rfl]at wm;rw[Bd.eqQ]at hx;obtain⟨Wl,hWl⟩:∃W,(bd b).dbl (-1) N 1=some W:=by
  cases h:(bd b).dbl (-1) N 1 with
  |none=>rw[h]at hx;cases hx
  |some W=>exact⟨W,rfl⟩
 obtain⟨Wh,hWh⟩:∃W,(bd b).dbl 1 N 1=some W:=by
  cases h:(bd b).dbl 1 N 1 with
  |none=>rw[hWl,h]at hx;cases hx
  |some W=>exact⟨W,rfl⟩
 rw[hWl,hWh]at hx;simp only at hx;have row:∀(t:Rat) (m:Nat),HQ t m->m<=20000->Ret Tryz.prog .shared 204 [.agg (eB b),.agg (eR (ofQ t))] (.agg (eA ⟨ofQ (fP b t),ofQ t⟩))/\Ret Tryz.prog .shared 203 [.agg (eB b),.agg (eA ⟨ofQ (fP b t),ofQ t⟩)] (.agg (eR (ofQ ((bd b).E t))))/\Ret Tryz.prog .shared 202 [.agg (eR (ofQ ((bd b).E t)))] (I (sgn ((bd b).E t))):=fun t m ht hm =>
  ⟨s_ b hb (h40 t) (hS t) (ofQ t) (ht:=Vq.ofQ (h:=ht)) J,rI hb ht hm (hex t),x5 hb ht hm (hex t)⟩
 refine Ret.of_pwp layOk mixed Go.Proofs.Tryz.func142 O Y O O ?_;refine G w1 ?_;refine G wm ?_;refine G w1 ?_;refine H ?_;refine ao (fun k:Nat=>k<N/\(bd b).dbl (-1) (N-k) (p2 k)=some Wl) (fun k=>[(1,.ptr 1 1 0 0),(2,.ptr 2 1 0 0),(3,.ptr 3 1 0 0),(4,.ptr 4 1 0 0),(5,.ptr 5 1 0 0)])
  (fun k=>[(1,1,⟨158,6,[eB b],2⟩),(2,1,⟨45,8,[zN++zN],2⟩),(3,1,⟨42,4,[eR (ofQ (p2 k))],2⟩),(4,1,⟨42,4,[eR (ofQ (-p2 k))],2⟩),(5,1,⟨42,4,[eR (ofQ (p2 0))],2⟩)]) (fun k=>N-k) 0
  ⟨by
   rcases Nat.eq_zero_or_pos N with h|h;· subst h;cases hWl
   exact h,hWl⟩ ⟨O,O,O,O,O,O,O,O,O,O,trivial⟩ ?_
 intro k s ⟨hk,hd⟩;obtain⟨j,hj⟩:∃j,N-k=j+1:=⟨N-k-1,J⟩;rw[hj,BB]at hd;have hq:HQ (p2 k) 10000:=z8.mono J;have hqn:HQ (-p2 k) 10000:=@HQ.neg _ _ hq;obtain⟨r1,r2,r3⟩:=row (-p2 k) 10000 hqn Y;have hsg:=il ((bd b).E (-p2 k));have n1:=dy (ofQ (p2 k)) (ofQ (p2 k)) (hx:=Vq.ofQ (h:=hq)) (hy:=Vq.ofQ (h:=hq)) Y Y;rw[<-ms]at n1;have hq1:HQ (p2 (k+1)) 10000:=z8.mono J;have n2:=Fa (ofQ (p2 (k+1))) (hx:=Vq.ofQ (h:=hq1)) Y;rw[<-ms]at hd;refine bT 7 [19,20,21,22,23,24,25] ?_;refine G r1 ?_;refine G r2 ?_;refine ap r3 ?_;refine D ?_ ?_<;>intro h
 .have h1:=hsg.1 (aB h);clear h;rw[if_pos h1]at hd;refine G n1 ?_;refine G n2 ?_;refine H ?_;have hk1:k+1<N:=by
   rcases Nat.lt_or_ge (k+1) N with h|h
   .exact h
   .rw[show j=0 by omega]at hd;cases hd
  have hd1:(bd b).dbl (-1) (N-(k+1)) (p2 (k+1))=some Wl:=by rw[show N-(k+1)=j by omega];exact hd
  exact⟨k+1,⟨hk1,hd1⟩,J,O,O,O,O,O,O,O,O,O,O,trivial⟩
 .have h1:¬0<(bd b).E (-p2 k):=fun h2=>(aG h) (hsg.2 h2);clear h;rw[if_neg h1]at hd;cases hd;clear hWl hj r1 r2 r3 hsg n1 n2 hq1;refine G w1 ?_;refine H ?_;refine ao (fun k':Nat=>k'<N/\(bd b).dbl 1 (N-k') (p2 k')=some Wh) (fun k'=>[(1,.ptr 1 1 0 0),(2,.ptr 2 1 0 0),(3,.ptr 3 1 0 0),(4,.ptr 4 1 0 0),(5,.ptr 5 1 0 0)])
   (fun k'=>[(1,1,⟨158,6,[eB b],2⟩),(2,1,⟨45,8,[zN++zN],2⟩),(3,1,⟨42,4,[eR (ofQ (p2 k'))],2⟩),(4,1,⟨42,4,[eR (ofQ (-p2 k))],2⟩),(5,1,⟨42,4,[eR (ofQ (p2 k'))],2⟩)]) (fun k'=>N-k') 0
   ⟨J,hWh⟩ ⟨O,O,O,O,O,O,O,O,O,O,trivial⟩ ?_
  intro q s2 ⟨hk',hd⟩;obtain⟨j,hj⟩:∃j,N-q=j+1:=⟨N-q-1,J⟩;rw[hj,BC]at hd;have hqq:HQ (p2 q) 10000:=z8.mono J;obtain⟨r1,r2,r3⟩:=row (p2 q) 10000 hqq Y;have hsg:=gw ((bd b).E (p2 q));have n1:=dy (ofQ (p2 q)) (ofQ (p2 q)) (hx:=Vq.ofQ (h:=hqq)) (hy:=Vq.ofQ (h:=hqq)) Y Y;rw[<-ms]at n1;rw[<-ms]at hd;refine bT 7 [32,33,34,35,36,37,38] ?_;refine G r1 ?_;refine G r2 ?_;refine ap r3 ?_;refine D ?_ ?_<;>intro h
  .have h1:=hsg.1 (aB h);clear h;rw[if_pos h1]at hd;refine G n1 ?_;refine H ?_;have hk1:q+1<N:=by
    rcases Nat.lt_or_ge (q+1) N with h|h
    .exact h
    .rw[show j=0 by omega]at hd;cases hd
   have hd1:(bd b).dbl 1 (N-(q+1)) (p2 (q+1))=some Wh:=by rw[show N-(q+1)=j by omega];exact hd
   exact⟨q+1,⟨hk1,hd1⟩,J,O,O,O,O,O,O,O,O,O,O,trivial⟩
  .have h1:¬(bd b).E (p2 q)<0:=fun h2=>(aG h) (hsg.2 h2);clear h;rw[if_neg h1]at hd;cases hd;clear hWh hj r1 r2 r3 hsg n1;have w0:=bx 0 ⟨Y,Y⟩;rw[show(((0:Int)):Rat)=0 from O]at w0;rw[BP]at hx;have hL:∀t∈[0,-p2 k,p2 q],HQ t 10000:=by
    intro t ht;simp at ht;rcases ht with rfl|rfl|rfl
    .exact HQ.zero.mono Y
    .exact hqn
    .exact hqq
   refine H ?_;refine bD [46] [3,4] aS ?_;refine G w0 ?_;refine H ?_;refine js O O O (aT 1 O O O O O O O O O O O aI O ⟨dR O,?_⟩);refine H ?_;have hrows:([0,-p2 k,p2 q]:List Rat).map (fun t=>eR (ofQ t))=[eR (ofQ 0),eR (ofQ (-p2 k)),eR (ofQ (p2 q))]:=O;refine bj [(1,.ptr 1 1 0 0),(2,.ptr 2 1 0 0),(4,.ptr 4 1 0 0),(5,.ptr 5 1 0 0),(46,.als 46 ((s2.own 46).1+1) 0 3),(47,I 3),(48,I ((0:Nat):Int))]
    [(1,1,⟨158,6,[eB b],2⟩),(2,1,⟨45,8,[zN++zN],2⟩),(4,1,⟨42,4,[eR (ofQ (-p2 k))],2⟩),(5,1,⟨42,4,[eR (ofQ (p2 q))],2⟩),(46,(s2.own 46).1+1,⟨42,4,[eR (ofQ 0),eR (ofQ (-p2 k)),eR (ofQ (p2 q))],1⟩)]
    ⟨O,O,O,O,O,O,O,O,O,O,O,O,trivial⟩ ?_
   generalize (s2.own 46).1+1=g;rw[<-hrows];intro s3;generalize hLL:([0,-p2 k,p2 q]:List Rat)=T3 at *
   have hT3:T3.length=3:=by rw[<-hLL];rfl
   refine ao (fun i:Nat=>i<=3/\(match f3 (bd b) (T3.drop i) with|some x=>some x|none=>(bd b).bis N (-p2 k) (p2 q))=some x) (fun i=>[(1,.ptr 1 1 0 0),(2,.ptr 2 1 0 0),(4,.ptr 4 1 0 0),(5,.ptr 5 1 0 0),(46,.als 46 g 0 3),(47,I 3),(48,I (i:Nat))])
    (fun i=>[(1,1,⟨158,6,[eB b],2⟩),(2,1,⟨45,8,[zN++zN],2⟩),(4,1,⟨42,4,[eR (ofQ (-p2 k))],2⟩),(5,1,⟨42,4,[eR (ofQ (p2 q))],2⟩),(46,g,⟨42,4,T3.map (fun t=>eR (ofQ t)),1⟩)]) (fun i=>3-i) 0
    ⟨Nat.zero_le _,hx⟩ ⟨O,O,O,O,O,O,O,O,O,O,O,O,trivial⟩ ?_
   intro i s4 ⟨hi,hF⟩;refine D ?_ ?_<;>intro h
   .have hlt:i<3:=by have:=aB h;omega
    clear h;obtain⟨t,ht⟩:=aH (show i<T3.length by omega);have hrow:(T3.map (fun t=>eR (ofQ t)))[i]? = some (eR (ofQ t)):=by rw[List.getElem?_map,ht];rfl
    have htq:=hL t (a_ ht);have hw:=c9 i;obtain⟨r1,r2,r3⟩:=row t 10000 htq Y;have hgs:=mX hb htq Y (hex t);have hdr:f3 (bd b) (T3.drop i)=match (bd b).at1 t with|some x=>some x|none=>f3 (bd b) (T3.drop (i+1)):=by
     obtain⟨hl1,h2⟩:=bi ht;rw[List.drop_eq_getElem_cons hl1,h2,f3]
    rw[hdr,Bd.at1,<-j4 hb (hex t)]at hF;rw[<-j4 hb (hex t)]at hgs;refine H ?_;refine Bp O O O O O O O O O ?_;rw[Int.toNat_natCast,Nat.zero_add i];refine bJ O O (eM O O O hrow O) ?_;refine G r1 ?_;refine G r2 ?_;refine ap r3 ?_;refine H ?_;have hs0:=gv ((bd b).E t);refine bh O ?_ ?_<;>intro h
    .have h1:=hs0.1 (aB h);clear h;rw[if_pos h1]at hF;simp only[Option.some.injEq]at hF;subst hF;exact bI
    .have h1:¬(bd b).E t=0:=fun h2=>(aG h) (hs0.2 h2);clear h;rw[if_neg h1]at hF;cases hgg:(bd b).guess (fP b t) t with
     |none =>
      rw[hgg]at hgs hF;simp only at hF;rw[C9]at hgs;refine G hgs ?_;refine H ?_;exact⟨i+1,⟨J,hF⟩,J,O,O,O,O,O,O,congrArg I hw,O,O,O,O,O,trivial⟩
     |some y =>
      rw[hgg]at hgs hF;simp only[Option.some.injEq]at hF;subst hF;rw[C9]at hgs;refine G hgs ?_;exact bI
   .have hie:i=3:=by have:=aG h;omega
    clear h;rw[hie,List.drop_eq_nil_of_le J,f3]at hF;simp only at hF;have hd0:Dy N 0 (-p2 k):=⟨-((2^k:Nat):Int),by rw[p2];push_cast;grind,by rw[Int.natAbs_neg,Int.natAbs_natCast];exact Nat.pow_le_pow_right Y J⟩;have hd1:Dy N 0 (p2 q):=⟨((2^q:Nat):Int),by rw[p2];push_cast;grind,by rw[Int.natAbs_natCast];exact Nat.pow_le_pow_right Y J⟩;have w2:=bx 2 ⟨Y,Y⟩;rw[show(((2:Int)):Rat)=2 from O]at w2;have v2:Vq (ofQ 2) 2 4:=Vq.ofQ (h:=HQ.two);refine H ?_;refine ao (fun u:Nat × Rat × Rat=>u.1<=N/\(bd b).bis (N-u.1) u.2.1 u.2.2=some x/\Dy N u.1 u.2.1/\Dy N u.1 u.2.2) (fun u=>[(1,.ptr 1 1 0 0),(2,.ptr 2 1 0 0),(4,.ptr 4 1 0 0),(5,.ptr 5 1 0 0)])
     (fun u=>[(1,1,⟨158,6,[eB b],2⟩),(2,1,⟨45,8,[zN++zN],2⟩),(4,1,⟨42,4,[eR (ofQ u.2.1)],2⟩),(5,1,⟨42,4,[eR (ofQ u.2.2)],2⟩)]) (fun u=>N-u.1) (0,-p2 k,p2 q)
     ⟨Nat.zero_le _,hF,hd0,hd1⟩ ⟨O,O,O,O,O,O,O,O,trivial⟩ ?_
    rintro⟨j,lo,hi⟩ s5 ⟨hj,hB,hlo,hhi⟩;simp only at hj hB hlo hhi;dsimp only;obtain⟨n,hn⟩:∃n,N-j=n+1:=by
     rcases Nat.eq_zero_or_pos (N-j) with h|h
     .rw[h]at hB;cases hB
     .exact⟨N-j-1,J⟩
    rw[hn,Bd.bis]at hB;have hm:=hlo.mid hhi;have hl2:=hlo.up;have hh2:=hhi.up;have ql:=hlo.hq;have qh:=hhi.hq;have qm:=hm.hq;have a1:=dy (ofQ lo) (ofQ hi) (hx:=Vq.ofQ (h:=ql)) (hy:=Vq.ofQ (h:=qh)) J J;have vs:Vq (ofQ (lo+hi)) (lo+hi) ((j+N)/16+1+((j+N)/16+1)+1):=Vq.ofQ (h:=@HQ.add _ _ _ _ ql qh);have a2:=sy (ofQ (lo+hi)) (ofQ 2) (hx:=vs) (hy:=v2) J Y Y;obtain⟨r1,r2,r3⟩:=row ((lo+hi)/2) _ qm J;have hgs:=mX hb qm J (hex ((lo+hi)/2));rw[Bd.at1,<-j4 hb (hex ((lo+hi)/2))]at hB;rw[<-j4 hb (hex ((lo+hi)/2))]at hgs;generalize (lo+hi)/2=t at *
    have hs0:=gv ((bd b).E t);have hs1:=gw ((bd b).E t);refine G a1 ?_;refine G w2 ?_;refine G a2 ?_;refine G r1 ?_;refine G r2 ?_;refine ap r3 ?_;refine D ?_ ?_<;>intro h
    .have h1:=hs0.1 (aB h);clear h;rw[if_pos h1]at hB;simp only[Option.some.injEq]at hB;subst hB;exact bI
    .have h1:¬(bd b).E t=0:=fun h2=>(aG h) (hs0.2 h2);clear h;rw[if_neg h1]at hB;cases hgg:(bd b).guess (fP b t) t with
     |none =>
      rw[hgg]at hgs hB;simp only at hB;rw[C9]at hgs;refine G hgs ?_;refine D ?_ ?_<;>intro h
      .have h2:=hs1.1 (aB h);clear h;rw[if_pos h2]at hB;refine H ?_;exact⟨(j+1,t,hi),⟨by simp only;omega,by simp only;rw[show N-(j+1)=n by omega];exact hB,hm,hh2⟩,by simp only;omega,O,O,O,O,O,O,O,O,trivial⟩
      .have h2:¬(bd b).E t<0:=fun h3=>(aG h) (hs1.2 h3);clear h;rw[if_neg h2]at hB;refine H ?_;exact⟨(j+1,lo,t),⟨by simp only;omega,by simp only;rw[show N-(j+1)=n by omega];exact hB,hl2,hm⟩,by simp only;omega,O,O,O,O,O,O,O,O,trivial⟩
     |some y =>
      rw[hgg]at hgs hB;simp only[Option.some.injEq]at hB;subst hB;rw[C9]at hgs;refine G hgs ?_;exact bI
def EM (b:BR):Prop:=un b gE=false/\∀r∈eO b.l,un b r=false
theorem Ap {b:BR}{A B:Rat}:nu b A B=true↔jt b.l A B b.l.length/\aw (yT b.l A B) b.l.length<(b.w:Rat)*(A+B*b.a.val):=by
 rw[nu,@decide_eq_true_iff _ (Classical.propDecidable _)]
theorem zero_val:(ofQ ((0:Int):Rat)).val=0:=by rw[ofQ_val];rfl
theorem uX {b:BR}(hb:b.Ok){z t:Rat}(h:(bd b).Bal z t)(A B:Rat):nu b A B=false:=by
 cases hr:nu b A B with
 |false=>rfl
 |true =>
  obtain⟨h1,h2⟩:=Ap.1 hr;have h3:=Bd.exclude (oz hb) h (A:=A) (B:=B) h1;have e:aw (yT b.l A B) b.l.length=aw (fun i=>if 0<A+B*(bd b).X i then(bd b).cap i*(A+B*(bd b).X i) else 0) (bd b).N:=O;rw[<-e]at h3;have h4:(b.w:Rat)*(A+B*b.a.val)<=aw (yT b.l A B) b.l.length:=h3;grind
theorem wC {b:BR}(hb:b.Ok){z t:Rat}(h:(bd b).Bal z t):EM b:=⟨uX hb h _ _,fun _ _=>uX hb h _ _⟩
def Gv (x:Int):SR:=⟨x,RR.zero,⟨[0],[ofQ ((2:Int):Rat)]⟩⟩
def Gt (x:Int):SR:=⟨x,RR.zero,⟨[0,10],[ofQ ((5:Int):Rat),ofQ ((0:Int):Rat)]⟩⟩
def b1:BR:=⟨40,ofQ ((25:Int):Rat),[Gv 0,Gv 100]⟩
def b2:BR:=⟨80,ofQ ((75:Int):Rat),[Gt 0,Gt 100]⟩
theorem jL {z:Int}(h:i64 z):(ofQ (z:Rat)).sz 12:=⟨Nat.le_trans (vI h).sz.1 Y,Nat.le_trans (vI h).sz.2 Y⟩
theorem qg (z:Int)(h:i64 z):hq (z:Rat) 4:=(@HQ.int z (aU h.1 h.2)).ok
def EI (s:SR):Prop:=i64 s.x/\∀z∈s.k.S,i64 z
def EH (l:List SR):Prop:=∀s∈l,EI s
theorem RR.sz.mono {x:RR}{n m:Nat}(h:x.sz n)(hm:n<=m):x.sz m:=⟨Nat.le_trans h.1 hm,Nat.le_trans h.2 hm⟩
section
variable {α:Type}
variable {key:α->Rat}
def FV (key:α->Rat)(l:List α):Prop:=l.Pairwise fun x y=>key x<=key y
end
section
variable {α:Type}{key:α->Rat}
end
variable {α:Type}{key:α->Rat}
end Go.Pv
set_option maxHeartbeats 2000000
namespace Go.Pv
attribute [local irreducible] PWP POps PQuiet PSem aF au ak aj
open Go.Proofs
theorem sK {P:Program}{L:Lay}{Q:Exit->St->Prop}{s:St}{ι:Type}{x y:Code}(X:ι->Prop)(regs:ι->List (Nat × PV))(owns:ι->List (Nat × Nat × Cont))(h1:PWP P L x (aF (fun s'=>∃i,X i/\Fit s' (regs i) (owns i)) Q) s)(h2:∀i,X i->∀s:St,PWP P L y Q (s.over (regs i) (owns i))):PWP P L x (aF (fun s'=>PWP P L y Q s') Q) s:=by
 refine PWP.mono ?_ _ h1;intro e s' h;unfold aF at h ⊢;cases e
 case normal =>
  obtain⟨i,hX,hF⟩:∃i,X i/\Fit s' (regs i) (owns i):=h;have:=h2 i hX s';rwa [Fit.over hF]at this
 all_goals exact h
section
variable {α:Type}{key:α->Rat}
inductive Bk (key:α->Rat) (n:Nat):List α->Prop
 |last {l:List α}:l.length<=n->FV key l->Bk key n l
 |cons {x l:List α}:x.length=n->FV key x->Bk key n l->Bk key n (x++l)
inductive Fk (key:α->Rat) (n:Nat):List α->Prop
 |nil:Fk key n []
 |snoc {p x:List α}:Fk key n p->x.length=n->FV key x->Fk key n (p++x)
end
def zA:AR:=⟨RR.zero,RR.zero⟩
def lg (a:AR)(F:List RR):List PV:=eA a++[.sl (F.map eR)]
def zS:List PV:=zN++zN++[.nil]
theorem WeakL.append {a b c d:List PV}(h1:WeakL a b)(h2:WeakL c d):WeakL (a++c) (b++d):=by
 induction h1 with
 |nil=>exact h2
 |cons h _ ih=>exact .cons h ih
theorem mD:WeakL (zN++zN) (eA zA):=dP.append dP
theorem CQ:WeakL zS (lg zA []):=mD.append (.cons .nil .nil)
structure SQ where
 a:AR
 F:List RR
 r:AR
 e:Int
def SQ.pv (q:SQ):PV := .tup [.agg (lg q.a q.F),.agg (eA q.r),I q.e]
def BR.Good (b:BR):Prop:=b.Lim/\(dF b=0->b.Ok/\(bd b).Sz/\∀t,(lS b.l t).length<=54)
set_option maxRecDepth 20000 in
theorem yd (b:BR)(hb:b.Lim)(h0:dF b=0)(h93:Ret Tryz.prog .shared 141 [.agg (eB b)] (.tup [.agg (zN++zN),I 0]))(a:AR)(F:List RR)(h120:Ret Tryz.prog .shared 142 [.agg (eB b)] (.agg (eA a)))
  (h121:Ret Tryz.prog .shared 143 [.agg (eB b),.agg (eA a)] (.bool false)) (h23:Ret Tryz.prog .shared 144 [.sl (b.l.map eS),.agg (eA a)] (.tup [.sl (F.map eR),I 0])):Ret Tryz.prog .shared 78 [.agg (eB b)] (.tup [.agg (lg a F),.agg (zN++zN),I 0]):=by
 have h1:=jl b hb;rw[h0]at h1;clear h0 hb;refine Ret.of_pwp layOk mixed Go.Proofs.Tryz.func78 O Y O O ?_;refine ap h1 ?_;refine G h93 ?_;refine G h120 ?_;refine ap h121 ?_;refine G h23 ?_;exact bI
set_option maxRecDepth 20000 in
theorem tF (n:Nat)(hn:n<18446744073709551616):Ret Tryz.prog .shared 151 [.int .u64 (n:Nat)] (.sl ((aC n).map eU)):=by
 refine Ret.of_pwp layOk mixed Go.Proofs.Tryz.func151 O Y O O ?_
 ((repeat (first|refine aO ?_ | refine cf ?_ | refine bL ?_ | refine bS ?_));refine bc ?_)
 refine gN O trivial ?_
 ((repeat (first|refine aO ?_ | refine cf ?_ | refine bL ?_ | refine bS ?_));refine bc ?_)
 (first|refine ax (gp 57 1 0 O O ?_)|refine ax (gj 57 1 0 O O ?_))
 refine H ?_;refine ao (fun q:Nat × List UInt16=>(aC n=q.2++aC q.1/\q.1<18446744073709551616)/\q.1*65536^q.2.length<=n) (fun q=>[(0,.int .u64 (q.1:Nat)),(3,.als 3 (1+q.2.length) 0 (q.2.map eU).length)]) (fun q=>[(3,1+q.2.length,⟨57,1,q.2.map eU,0⟩)]) (fun q=>q.1) (n,[]) ⟨⟨O,hn⟩,ai⟩ ⟨O,O,O,trivial⟩ ?_;rintro⟨m,L⟩ s ⟨⟨hL,hmn⟩,hb⟩;simp only at hL hb hmn;dsimp only;refine D ?_ ?_<;>intro h
 .have hm:0<m:=by have:=aB h;omega
  clear h;have hLl:L.length<4:=by
   rcases Nat.lt_or_ge L.length 4 with h|h
   .exact h
   .exfalso;have h1:65536^4<=65536^L.length:=Nat.pow_le_pow_right Y h;have h2:=Nat.mul_le_mul (show 1<=m by omega) h1;have:1*65536^4=18446744073709551616:=Y;omega
  have hL2:=nh hL hm;have hb2:m/65536*65536^(L++[UInt16.ofNat m]).length<=n:=by
   rw[List.length_append,List.length_singleton,Nat.pow_succ,Nat.mul_comm (65536^_),<-Nat.mul_assoc];exact Nat.le_trans (Nat.mul_le_mul_right _ (Nat.div_mul_le_self _ _)) hb
  have ha:=CW m hmn;have hcv:IntKind.u16.wrap ((m-m/65536*65536:Nat):Int)=((UInt16.ofNat m).toNat:Int):=by rw[wrap_u16,aY,aY];omega
  refine H ?_;rw[ha,hcv];refine bJ O O (cZ O O O O O O O O O O aI O) ?_;refine ax (bb 0 O O O O O O O O O O O aI (by intro row hr;first|(simp at hr;subst hr;rfl)|simp at hr) O O aK aK ?_);refine H ?_;refine⟨(m/65536,L++[UInt16.ofNat m]),⟨⟨hL2,by simp only;omega⟩,hb2⟩,by simp only;omega,?_,?_,?_,trivial⟩
  .show PV.int .u64 ((m:Int)/2^(16:Int).toNat)=PV.int .u64 ((m/65536:Nat):Int);rw[show((2:Int)^(16:Int).toNat)=65536 by decide];congr 1
  .exact ml eU 3 1 L (UInt16.ofNat m)
  .exact kj eU 1 57 1 0 L (UInt16.ofNat m)
 .have hm:m=0:=by have:=aG h;omega
  subst hm;clear h;rw[bB,List.append_nil]at hL;rw[hL];refine H ?_;exact gF O O O ⟨O,O,O⟩ O
set_option maxRecDepth 20000 in
theorem yG (z:Int)(hz:i64 z):Ret Tryz.prog .shared 82 [I z] (.agg (eI (ci z))):=by
 obtain⟨h0,h1⟩:=hz;have hn:=tF z.natAbs J;by_cases hz:z<0
 .rw[ci,decide_eq_true hz];have w1:IntKind.i64.wrap (z+1)=z+1:=wrap_i64 J J;have w2:IntKind.i64.wrap (0-(z+1))=0-(z+1):=wrap_i64 J J;have w3:IntKind.u64.wrap (0-(z+1))=0-(z+1):=wrap_u64 J J;have w4:IntKind.u64.wrap (0-(z+1)+1)=((z.natAbs:Nat):Int):=by rw[wrap_u64 J J];omega
  generalize aC z.natAbs=A at *
  generalize ((z.natAbs:Nat):Int)=na at *
  refine Ret.of_pwp layOk mixed Go.Proofs.Tryz.func82 O Y O O ?_;refine D ?_ ?_<;>intro h
  .clear h;refine H ?_;rw[w1];refine H ?_;rw[w2];refine H ?_;rw[w3];refine H ?_;rw[w4];refine G hn ?_;exact bI
  .exact absurd hz (aG h)
 .rw[ci,decide_eq_false hz];have w:IntKind.u64.wrap z=((z.natAbs:Nat):Int):=by rw[wrap_u64 J J];omega
  generalize aC z.natAbs=A at *
  refine Ret.of_pwp layOk mixed Go.Proofs.Tryz.func82 O Y O O ?_;refine D ?_ ?_<;>intro h
  .exact absurd (aB h) hz
  .clear h;refine H ?_;rw[w];refine sO O O O hn O O ?_;exact bI
theorem pU (z:Int)(hz:i64 z):Ret Tryz.prog .shared 25 [I z] (.agg (eR (ofQ (z:Rat)))):=by
 have h1:=yG z hz;have h2:=yG 1 ⟨Y,Y⟩;rw[ss];generalize ci z=X at *
 generalize ci 1=Y0 at *
 refine Ret.of_pwp layOk mixed Go.Proofs.Tryz.func25 O Y O O ?_;refine G h1 ?_;refine G h2 ?_;exact bI
set_option maxRecDepth 20000 in
theorem pE (a:RI)(ha:a.l.length<=1000000000):Ret Tryz.prog .shared 85 [.agg (eI a),.agg (eI a)] (.bool true):=by
 obtain⟨n,l⟩:=a;simp only at ha;have hml:(l.map eU).length=l.length:=ai;have hnn:(n != n)=false:=by cases n<;>rfl
 have main:∀nn:Bool,nn=n->Ret Tryz.prog .shared 85 [.agg [.bool nn,.sl (l.map eU)],.agg [.bool nn,.sl (l.map eU)]] (.bool true):=by
  intro nn _;cases nn <;>
  .refine Ret.of_pwp layOk mixed Go.Proofs.Tryz.func85 O Y O O ?_;refine D ?_ ?_<;>intro h
   .simp at h
   clear h;refine H ?_;refine ao (fun k=>k<=l.length) (fun k=>[(2,.ptr 2 1 0 0),(3,.ptr 3 1 0 0),(5,I (k:Nat))]) (fun _=>[(2,1,⟨40,2,[eI ⟨_,l⟩],2⟩),(3,1,⟨40,2,[eI ⟨_,l⟩],2⟩)]) (fun k=>l.length-k) 0 (Nat.zero_le _) ⟨O,O,O,O,O,trivial⟩ ?_;intro k s hk;refine D ?_ ?_<;>intro h
   .have hlt:k<l.length:=by have:=aB h;simp only[List.length_map]at this;omega
    clear h;obtain⟨x,hx⟩:=aH hlt;have hw:=c9 k;refine bT 11 [27,28,29,30,31,32,33,34,35,36,37] ?_;refine aN hx ?_;refine aN hx ?_;refine D ?_ ?_<;>intro h
    .simp at h
    clear h;refine H ?_;exact⟨k+1,hlt,J,O,O,congrArg I hw,O,O,trivial⟩
   .exact ef
 exact main n O
def RR.le (x:RR)(n:Nat):Prop:=x.n.l.length<=n/\x.d.l.length<=n
theorem pF (x:RR)(hx:x.le 1000000000):Ret Tryz.prog .shared 27 [.agg (eR x),.agg (eR x)] (.bool true):=by
 have h1:=pE x.n hx.1;have h2:=pE x.d hx.2;obtain⟨xn,xd⟩:=x;refine Ret.of_pwp layOk mixed Go.Proofs.Tryz.func27 O Y O O ?_;refine ap h1 ?_;refine ap h2 ?_;exact ef
theorem AD {p:Rat}{n:Nat}(h:HQ p n)(hn:n<=100000000):Ret Tryz.prog .shared 27 [.agg (eR (ofQ p)),.agg (eR (ofQ p))] (.bool true):=by
 have:=gW h.ok;exact pF _ ⟨J,J⟩
theorem uC (l:List RR)(hl:l.length<=1000000)(hs:∀x∈l,x.le 1000000000):Ret Tryz.prog .shared 64 [.sl (l.map eR),.sl (l.map eR)] (.bool true):=by
 have hml:(l.map eR).length=l.length:=ai;refine Ret.of_pwp layOk mixed Go.Proofs.Tryz.func64 O Y O O ?_;refine D ?_ ?_<;>intro h
 .simp at h
 clear h;refine H ?_;refine ao (fun k=>k<=l.length) (fun k=>[(0,.sl (l.map eR)),(1,.sl (l.map eR)),(5,I (k:Nat))]) (fun _=>[]) (fun k=>l.length-k) 0 (Nat.zero_le _) ⟨O,O,O,trivial⟩ ?_;intro k s hk;refine D ?_ ?_<;>intro h
 .have hlt:k<l.length:=by have:=aB h;omega
  clear h;obtain⟨x,hx⟩:=aH hlt;have hxr:=pF x (hs x (a_ hx));have hw:=c9 k;refine bT 10 [17,18,19,20,21,22,23,24,25,26] ?_;refine aN hx ?_;refine aN hx ?_;refine ap hxr ?_;refine H ?_;exact⟨k+1,hlt,J,O,O,congrArg I hw,trivial⟩
 .exact ef
theorem rS (l:List Int)(hl:l.length<=1000000):Ret Tryz.prog .shared 177 [.sl (l.map eN),.sl (l.map eN)] (.bool true):=by
 have hml:(l.map eN).length=l.length:=ai;refine Ret.of_pwp layOk mixed Go.Proofs.Tryz.func177 O Y O O ?_;refine D ?_ ?_<;>intro h
 .simp at h
 clear h;refine H ?_;refine ao (fun k=>k<=l.length) (fun k=>[(0,.sl (l.map eN)),(1,.sl (l.map eN)),(5,I (k:Nat))]) (fun _=>[]) (fun k=>l.length-k) 0 (Nat.zero_le _) ⟨O,O,O,trivial⟩ ?_;intro k s hk;refine D ?_ ?_<;>intro h
 .have hlt:k<l.length:=by have:=aB h;omega
  clear h;obtain⟨x,hx⟩:=aH hlt;have hw:=c9 k;refine bT 9 [17,18,19,20,21,22,23,24,25] ?_;refine aN hx ?_;refine aN hx ?_;refine D ?_ ?_<;>intro h
  .simp at h
  clear h;refine H ?_;exact⟨k+1,hlt,J,O,O,congrArg I hw,trivial⟩
 .exact ef
def Ei (x:RR)(n:Nat):Bool:=decide (x.n.l.length<=n)&&decide (x.d.l.length<=n)
theorem nH (x:RR)(n:Nat)(hn:n<=1000000):Ret Tryz.prog .shared 20 [.agg (eR x),I (n:Nat)] (.bool (Ei x n)):=by
 have e1:decide ((((x.n.l.map eU).length:Nat):Int)<=(n:Int))=decide (x.n.l.length<=n):=by rw[decide_eq_decide,List.length_map];omega
 have e2:decide ((((x.d.l.map eU).length:Nat):Int)<=(n:Int))=decide (x.d.l.length<=n):=by rw[decide_eq_decide,List.length_map];omega
 rw[Ei,<-e1,<-e2];obtain⟨⟨xn,xl⟩,⟨yn,yl⟩⟩:=x;refine Ret.of_pwp layOk mixed Go.Proofs.Tryz.func20 O Y O O ?_;refine cV ?_ ?_<;>intro h
 .rw[h];clear h;exact ef
 .rw[h];clear h;exact ef
def FS (l:List SR):Prop:=l.length<=9223372036854775807/\∀s∈l,s.k.S.length<=9223372036854775807/\s.k.M.length<=9223372036854775807
open Go.Proofs Go.RowKit
theorem Ghost.takeD {s:St}{k g t n sz:Nat}{T:TypeId}{rows:List (List PV)}(ho:s.own k=(g,some ⟨T,sz,rows,1⟩))(hr:s.reg t = .als k g 0 n)(hn:n=rows.length) :
  Ghost s ((s.setOwn k (g+1) none).putR t (.sl rows)):=by
 intro C a w hX ⟨γ,h⟩;subst hn;obtain⟨h1,hle,_⟩:=h.drop hX ho;refine⟨γ,h1.defers,h1.size,fun r=>?_,h1.sites,h1.inj,h1.base,h1.below,h1.top,h1.kept⟩;show Rep _ (bif Nat.beq r t then _ else(s.setOwn k (g+1) none).reg r) _;by_cases hrt:r=t
 .subst hrt;have hp:=h.regs r;rw[hr]at hp;simp only[Nat.beq_refl,cond_true];refine .d ?_;rcases h.als_at hp ho with⟨q1,_,q3,q4⟩|⟨b,cap,cur,q1,q2,q3,q4,q5,q6,q7⟩
  .have:rows=[]:=(h.sites k _ (by rw[ho])).emp q1;rw[this,q4];exact .sl0 _ _
  .obtain⟨cur',g1,g2,g3,g4,g5⟩:=h.site_at ho q1 (h.cells_sz ho q1 q3 q6);have hb:(am C γ (s.setOwn k (g+1) none) w).ok b:=by
    have hbase:=h.base k _ b (by rw[ho]) q1;refine⟨hbase.2,fun hx=>?_,fun k' c' hc' hb'=>?_⟩
    .have:=hX b hx;omega
    .by_cases hk':k'=k
     .subst hk';rw[ah]at hc';cases hc'
     .rw[ay hk']at hc';exact hk' (h.inj k' k c' _ b hc' (by rw[ho]) hb' q1)
   rw[q2];simp only[Nat.zero_mul];refine .sl rows b 0 cap sz (fun i j=>cur'.getD (i*sz+j) undef) hb g2 q4 g4 (fun i j row pv e1 e2=>?_) (fun i j row pv e1 e2=>?_)
   .obtain⟨u,f1,f2,_⟩:=g5 i j row pv e1 e2;have g1:w.heap[b]? = some (.cells cur' T (0,0)):=g1;show w.cell? _=_/\_;rw[aX g1,Nat.zero_add,f1];simp[f1,f2]
   .obtain⟨u,f1,_,f3⟩:=g5 i j row pv e1 e2;have hu:cur'.getD (i*sz+j) undef=u:=by simp[f1]
    simp only[hu];exact hle.drep f3
 .rw[aZ hrt];exact h1.regs r
def CK (l:List Int):List RR:=l.map fun z:Int=>ofQ (z:Rat)
set_option maxRecDepth 20000 in
theorem Bs (l:List Int)(hl:l.length<=1000000)(hz:∀z∈l,i64 z):Ret Tryz.prog .shared 65 [.sl (l.map eN)] (.sl ((CK l).map eR)):=by
 have hml:(l.map eN).length=l.length:=ai;refine Ret.of_pwp layOk mixed Go.Proofs.Tryz.func65 O Y O O ?_
 ((repeat (first|refine aO ?_ | refine cf ?_ | refine bL ?_ | refine bS ?_));refine bc ?_)
 refine gN O trivial ?_
 ((repeat (first|refine aO ?_ | refine cf ?_ | refine bL ?_ | refine bS ?_));refine bc ?_)
 (first|refine ax (gp 42 4 1 O O ?_)|refine ax (gj 42 4 1 O O ?_))
 refine H ?_;refine ao (fun k=>k<=l.length) (fun k=>[(0,.sl (l.map eN)),(3,.als 3 (k+1) 0 ((CK (l.take k)).map eR).length),(4,I (k:Nat))]) (fun k=>[(3,k+1,⟨42,4,(CK (l.take k)).map eR,1⟩)]) (fun k=>l.length-k) 0 (Nat.zero_le _) ⟨O,O,O,O,trivial⟩ ?_;intro k s hk;refine D ?_ ?_<;>intro h
 .have hlt:k<l.length:=by have:=aB h;omega
  clear h;obtain⟨x,hx⟩:=aH hlt;have hxr:=pU x (hz x (a_ hx));have hw:=c9 k;have hwl:(CK (l.take k)).length=k:=by rw[CK,List.length_map,List.length_take];omega
  have hrows:(CK (l.take (k+1))).map eR=(CK (l.take k)).map eR++[eR (ofQ (x:Rat))]:=by rw[dU hx,CK,List.map_append,List.map_append];rfl
  refine aN hx ?_;refine G hxr ?_;refine H ?_;refine ax (aT 1 O O O O O O O O O O O aI O ?_);refine H ?_;refine ax (bb 1 O O O O O O O O O O O aI (by intro row hr;first|(simp at hr;subst hr;rfl)|simp at hr) O O aK aK ?_);refine H ?_;refine⟨k+1,hlt,J,O,?_,congrArg I hw,?_,trivial⟩
  .rw[hrows];rfl
  .rw[hrows];rfl
 .have hge:k=l.length:=by have:=aG h;omega
  subst hge;clear h;rw[List.take_length];refine H ?_;exact gF O O O ⟨O,O,O⟩ O
end Go.Pv
namespace Go.Pv
open Go.RowKit Go.ChangeShapes Go.WideShapes Go.ChangeAt
section
variable {H0:Type}{enc:TypeId × Value->H0}{P:Program}{L:Lay}{w:World}{sp:Nat->Bool}{held:Bool}
def argW (L:Lay)(T:TypeId)(c:PV):Prop:=match L T with
 |some r=>bif r.sh.agg then ∃cs,c = .agg cs/\i_ L 12 T cs else i_ L 12 T [c]
 |none=>False
theorem yF (hL:gA P L){base:Nat}{T:TypeId}{v:Value}{d:DataW H0}{ps:List MemPlace}(hp:fH L 12 T=true)(h:DataW.Trod enc P w 0 sp held T v d ps)(hok:Value.okWide P w .any base T v):∃c,DRep w (fun b=>b<w.heap.size) c v/\argW L T c:=by
 obtain⟨fuel,h⟩:=h;obtain⟨pvs,h1,h2⟩:=nS hL 12 T _ fuel _ hp h;have hp':=hp;simp only[fH]at hp;split at hp
 .rename_i r hr;have hfit:=hL T r hr;have leaf:r.sh.agg=false->(∃c,pvs=[c])->(v.cells.toList.length=1->v.cells=#[v])->∃c,DRep w (fun b=>b<w.heap.size) c v/\argW L T c:=by
   rintro ha ⟨c,rfl⟩ hv;have hc:=hv (by rw[<-h1.1];rfl);have hd:=h1.2 0 c v O (by rw[hc];rfl);refine⟨c,hd.1,?_⟩;unfold argW;rw[hr];simp only[ha,cond_false];exact h2
  have nagg:(∀cs,v ≠ .agg cs)->v.cells=#[v]:=by
   intro h;cases v<;>first|rfl|exact absurd O (h _)
  have hty:∃r',L T=some r'/\_:=h2;obtain⟨r',hr',hty⟩:=hty;rw[hr]at hr';have hr':=Option.some.inj hr';subst hr';split at hp
  .rename_i hs;rw[hs]at hty;obtain⟨b,rfl⟩:=hty;obtain⟨b',rfl⟩:∃b',v = .bool b':=by
    have:=okWide_bool (nX hfit hs) hok;exact this
   exact leaf (by rw[hs];rfl) ⟨_,O⟩ (fun _=>rfl)
  .rename_i k hs;rw[hs]at hty;obtain⟨m,rfl,_⟩:=hty;obtain⟨m',rfl⟩:=okWide_int (kX hfit hs) hok;exact leaf (by rw[hs];rfl) ⟨_,O⟩ (fun _=>rfl)
  .rename_i hs;rw[hs]at hty;obtain⟨s,rfl,_⟩:=hty;obtain⟨s',rfl⟩:=okWide_string (jc hfit hs) hok;exact leaf (by rw[hs];rfl) ⟨_,O⟩ (fun _=>rfl)
  .rename_i e hs;rw[hs]at hty;obtain⟨rows,rfl,_⟩:=hty;obtain⟨a,l,c,rfl⟩:=okWide_slice (fS hfit hs) hok;exact leaf (by rw[hs];rfl) ⟨_,O⟩ (fun _=>rfl)
  .rename_i fs hs;obtain⟨fs',hu,_⟩:=nY hfit hs;obtain⟨cs,rfl,_⟩:=okWide_struct hu hok;refine⟨.agg pvs,?_,?_⟩
   .have:=DRep.agg (w:=w) (ok:=fun b=>b<w.heap.size) pvs cs.toList h1.1 (fun i c v e1 e2=>(h1.2 i c v e1 e2).1);simpa using this
   .unfold argW;rw[hr];simp only[hs,Sh.agg,cond_true];exact⟨pvs,O,h2⟩
  .cases hp
 .cases hp
theorem oy (hL:gA P L){base:Nat}:∀(ts:List TypeId) (vs:List Value) (ds:List (DataW H0)) (ps:List MemPlace),ts.all (fH L 12)=true->DataW.TrodAll enc P w 0 sp held ts vs ds ps ->
  (∀(j:Nat) t v,ts[j]? = some t->vs[j]? = some v->Value.okWide P w .any base t v) ->
  ∃pargs:List PV,pargs.length=vs.length/\ts.length=vs.length/\ds.length=vs.length/\(∀(i:Nat) (c:PV) (v:Value),pargs[i]? = some c->vs[i]? = some v->DRep w (fun b=>b<w.heap.size) c v)/\∀(i:Nat) t c,ts[i]? = some t->pargs[i]? = some c->argW L t c
 |[],vs,ds,ps,_,h,_=>by
  obtain⟨rfl,rfl,_⟩:=trodAll_nil h;exact⟨[],O,O,O,fun i c v e=>by simp at e,fun i t c e=>by simp at e⟩
 |t::ts,vs,ds,ps,hp,h,hok=>by
  obtain⟨v,vs',d,ds',p,q,rfl,rfl,rfl,h1,h2⟩:=trodAll_cons h;simp only[List.all_cons,Bool.and_eq_true]at hp;obtain⟨c,g1,g2⟩:=yF hL hp.1 h1 (hok 0 t v O O);obtain⟨pargs,e1,e2,e3,e4,e5⟩:=oy hL ts vs' ds' q hp.2 h2 (fun j t v a b=>hok (j+1) t v (by simpa using a) (by simpa using b));refine⟨c::pargs,by simp[e1],by simp[e2],by simp[e3],fun i c' v' a b=>?_,fun i t' c' a b=>?_⟩
  .cases i with
   |zero=>simp at a b;subst a;subst b;exact g1
   |succ i=>exact e4 i c' v' (by simpa using a) (by simpa using b)
  .cases i with
   |zero=>simp at a b;subst a;subst b;exact g2
   |succ i=>exact e5 i t' c' (by simpa using a) (by simpa using b)
theorem law_stepW [Globs](hL:gA P L)(hl:laidOutB P=true){f:FuncId}{fn:Func}{s:ChangeSpec}{ts:List TypeId}{T:TypeId}(hvars:s.vars=[])(hts:fn.params.toList=ts)(hplain:ts.all (fH L 12)=true)
  (hread:ts.all (fun t=>P.readableRec t&&decide (t<P.types.size))=true) (hres:fn.resultTypes=#[T]) (hT:P.underlying T=some .bool)
  (hspec:∀ds:List (DataW H0),ds.length=ts.length->(s.fn H0 ds).results=[.lit (.bool true)]/\(s.fn H0 ds).args=ds/\(s.fn H0 ds).vars=[])
  (law:∀pargs:List PV,pargs.length=ts.length->(∀(i:Nat) t c,ts[i]? = some t->pargs[i]? = some c->argW L t c)->Ret P .shared f pargs (.bool true))
  {W:World} {base:Nat} {args:Array Value} {ds gs:List (DataW H0)} {before:List MemPlace} (hval:∀(j:Nat) t v,fn.params[j]? = some t->args[j]? = some v->Value.okWide P W .any base t v)
  (hglob:Globs.glob W) (hW:DataW.Whole enc P fn.params.toList s.vars false W args.toList ds gs before) :
  Calls P f args W fun e W'=>∃v,e = .returned v/\s.post enc P fn false true false false W args v W':=by
 have hW':=hW;obtain⟨p,q,hA,hV,hpq,hfz,hnd⟩:=hW;rw[hvars]at hV;obtain⟨rfl,rfl⟩:=trodVars_none hV;rw[hts]at hA;obtain⟨pargs,e1,e2,e3,e4,e5⟩:=oy hL (base:=base) ts _ _ _ hplain hA (fun j t v a b=>hval j t v (by rw[<-hts]at a;simpa using a) (by simpa using b));have hret:=law pargs J e5;have hcall:=hret.2 W (fun _=>False) args.toList hglob (fun b hb=>hb.elim) J (fun i c v a b=>(e4 i c v a b).weaken fun b hb=>⟨hb,fun h=>h⟩);have hargs:args.toList.toArray=args:=ai;rw[hargs]at hcall;refine hcall.mono ?_;rintro e W' ⟨v,rfl,hb,hd⟩;refine⟨v,O,?_⟩;have hv:v = .bool true:=by cases hd;rfl
 subst hv;have hlt:∀x∈p,x.block<W.heap.size:=fun x hx=>by
  have:=hW'.lt x (by rw[hpq];simp[hx]);simpa using this
 obtain⟨s1,s2,s3⟩:=hspec ds J;have hgs:ds++([]:List (DataW H0))=ds:=List.append_nil ds;refine⟨ds,[],before,[],p,[],hW',?_,?_,?_,World.keptBut_mono (fun x hx=>hx.elim) (hb.frame (fun _=>False)),fun h=>by cases h⟩
 .rw[hgs,s1,hres];exact trodAll_mk1 (shut_bool hT true)
 .rw[hgs,s2,hts];exact jr hl hb ts _ _ _ (fun t ht=>by
   have:=List.all_eq_true.1 hread t ht
   simpa using this) hA hlt
 .rw[hgs,s3,hvars];exact O
end
end Go.Pv
set_option maxHeartbeats 2000000
namespace Go.Pv
attribute [local irreducible] PWP POps PQuiet PSem aF au ak aj
open Go.Proofs
theorem eW {α:Type}{f:α->List PV}{p:α->Prop}:∀ {rows:List (List PV)},(∀row∈rows,∃x,row=f x/\p x)->∃l:List α,rows=l.map f/\∀x∈l,p x
 |[],_=>⟨[],rfl,fun x h=>by cases h⟩
 |row::rows,h=>by
  obtain⟨x,rfl,hx⟩:=h row ai;obtain⟨l,rfl,hl⟩:=eW (rows:=rows) fun r hr=>h r (by simp[hr]);exact⟨x::l,O,fun y hy=>by
   rcases List.mem_cons.1 hy with rfl|hy
   .exact hx
   .exact hl y hy⟩
theorem oW {n:Nat}(h:n<=maxLen):n<=9223372036854775807:=by
 have e:maxLen=9223372036854775807:=Y;omega
theorem yV {n:Nat}{cs:List PV}(h:i_ lay.get (n+2) 38 cs):∃l:List UInt16,cs=[.sl (l.map eU)]:=by
 obtain⟨rows,rfl,hr⟩:=Eo h O;obtain⟨l,rfl,-⟩:=eW (f:=eU) (p:=fun _=>True) fun row hrow=>by
  obtain⟨m,rfl,h1,h2⟩:=nU (hr row hrow) O;have h1:(0:Int)<=m:=h1;have h2:m<=(65535:Int):=h2;refine⟨UInt16.ofNat m.toNat,?_,trivial⟩;rw[eU,aY];congr 2;omega
 exact⟨l,O⟩
theorem C5 {n:Nat}{cs:List PV}(h:i_ lay.get (n+3) 40 cs):∃a:RI,cs=eI a:=by
 obtain⟨parts,rfl,hl,hp⟩:=gy h O
 match parts,hl,hp with
 |[p0,p1],_,hp =>
  obtain⟨b,rfl⟩:=nT (hp 0 _ p0 O O) O;obtain⟨l,rfl⟩:=yV (hp 1 _ p1 O O);exact⟨⟨b,l⟩,O⟩
theorem C6 {n:Nat}{cs:List PV}(h:i_ lay.get (n+4) 42 cs):∃a:RR,cs=eR a:=by
 obtain⟨parts,rfl,hl,hp⟩:=gy h O
 match parts,hl,hp with
 |[p0,p1],_,hp =>
  obtain⟨a,rfl⟩:=C5 (hp 0 _ p0 O O);obtain⟨b,rfl⟩:=C5 (hp 1 _ p1 O O);exact⟨⟨a,b⟩,O⟩
theorem i2 {n:Nat}{cs:List PV}(h:i_ lay.get (n+1) 3 cs):∃z:Int,cs=eN z/\i64 z:=by
 obtain⟨m,rfl,h1,h2⟩:=nU h O;exact⟨m,O,h1,h2⟩
theorem rA {n:Nat}{cs:List PV}(h:i_ lay.get (n+2) 92 cs):∃l:List Int,cs=[.sl (l.map eN)]/\l.length<=9223372036854775807/\∀z∈l,i64 z:=by
 obtain⟨rows,rfl,hlen,hr⟩:=ja h O;obtain⟨l,rfl,hz⟩:=eW (f:=eN) (p:=i64) fun row hrow=>i2 (hr row hrow);exact⟨l,O,by rw[List.length_map]at hlen;exact oW hlen,hz⟩
structure ArgB (b:BR):Prop where
 w:i64 b.w
 len:FS b.l
 data:EH b.l
theorem dec_N {c:PV}(h:argW lay.get 3 c):∃z:Int,c=I z/\i64 z:=by
 obtain⟨z,hz,h1⟩:=i2 (n:=11) (show i_ lay.get 12 3 [c] from h);cases hz;exact⟨z,O,h1⟩
abbrev Str:=List UInt8
def e_ {α:Type}:List α->(Nat->α->Int)->Int
 |[],_=>0
 |a::l,f=>if f 0 a=0 then e_ l (fun i=>f (i+1)) else f 0 a
theorem mW {α:Type}:∀ {l:List α} {f:Nat->α->Int} {i:Nat} {a:α},l[i]? = some a->f i a≠0->(∀j b,j<i->l[j]? = some b->f j b=0)->e_ l f=f i a
 |[],f,i,a,h,_,_=>by simp at h
 |b::l,f,0,a,h,he,_=>by
  simp at h;subst h;simp[e_,he]
 |b::l,f,i+1,a,h,he,hn=>by
  have h0:=hn 0 b J O;rw[e_,if_pos h0];exact mW (f:=fun i=>f (i+1)) (by simpa using h) he fun j c hj hc=>hn (j+1) c J (by simpa using hc)
theorem oT {α:Type}:∀ {l:List α} {f:Nat->α->Int},(∀(j:Nat) b,l[j]? = some b->f j b=0)->e_ l f=0
 |[],f,_=>rfl
 |b::l,f,hn=>by
  rw[e_,if_pos (hn 0 b O)];exact oT fun j c hc=>hn (j+1) c (by simpa using hc)
theorem gG {α:Type}:∀ {l:List α} {f:Nat->α->Int},e_ l f=0->∀(j:Nat) b,l[j]? = some b->f j b=0
 |[],f,_,j,b,h=>by simp at h
 |a::l,f,h,j,b,hb=>by
  rw[e_]at h;split at h
  .rename_i hz;cases j with
   |zero=>simp at hb;subst hb;exact hz
   |succ j=>exact gG h j b (by simpa using hb)
  .contradiction
def ClearE {α:Type}(l:List α)(f:Nat->α->Int)(k:Nat):Prop:=k<=l.length/\∀j b,j<k->l[j]? = some b->f j b=0
theorem ClearE.zero' {α:Type}{l:List α}{p:Nat->α->Int}:ClearE l p 0:=⟨Nat.zero_le _,fun j b h=>by omega⟩
theorem ClearE.succ {α:Type}{l:List α}{p:Nat->α->Int}{k:Nat}{x:α}(h:ClearE l p k)(hx:l[k]? = some x)(hp:p k x=0):ClearE l p (k+1):=by
 have:=(bi hx).1;refine⟨this,fun j b hj hb=>?_⟩;rcases Nat.lt_or_ge j k with hlt|hge
 .exact h.2 j b hlt hb
 .have:j=k:=J;subst this;rw[hx]at hb;cases hb;exact hp
theorem ClearE.found {α:Type}{l:List α}{p:Nat->α->Int}{k:Nat}{x:α}{e:Int}(h:ClearE l p k)(hx:l[k]? = some x)(hp:p k x=e)(he:e≠0):e_ l p=e:=by
 subst hp;exact mW hx he h.2
theorem ClearE.none {α:Type}{l:List α}{p:Nat->α->Int}{k:Nat}(h:ClearE l p k)(hk:¬k<l.length):e_ l p=0 :=
 oT fun j b hb=>h.2 j b (by have:=(bi hb).1;have:=h.1;omega) hb
def iJ (c:UInt8):Bool:=(decide (97<=(c.toNat:Int))&&decide ((c.toNat:Int)<=122))||(decide (65<=(c.toNat:Int))&&decide ((c.toNat:Int)<=90))
def tE (i:Nat)(c:UInt8):Bool:=!iJ c&&(decide ((i:Int)=0)||(!decide ((c.toNat:Int)=45)&&(decide ((c.toNat:Int)<48)||decide (57<(c.toNat:Int)))))
def k9 (i:Nat)(c:UInt8):Int:=if tE i c then 1 else 0
def bU (s:Str):Bool:=decide (1<=s.length)&&decide (s.length<=12)&&decide (e_ s k9=0)
def EZ (c:UInt8):List PV:=[.int .u8 c.toNat]
def ar (n lo hi:Int):Bool:=decide (lo<=n)&&decide (n<=hi)
theorem bk (n lo hi:Int):Ret Tryz.prog .shared 126 [I n,I lo,I hi] (.bool (ar n lo hi)):=by
 refine Ret.of_pwp layOk mixed Go.Proofs.Tryz.func126 O Y O O ?_;refine cV ?_ ?_<;>intro h
 .refine H ?_;exact cJ O O (by simp[ar,aB h])
 .refine H ?_;exact cJ O O (by simp[ar,h])
theorem bW (n lo hi:Int):Ret Tryz.prog .shared 102 [I n,I lo,I hi] (.bool (ar n lo hi)):=by
 refine Ret.of_pwp layOk mixed Go.Proofs.Tryz.func102 O Y O O ?_;refine cV ?_ ?_<;>intro h
 .refine H ?_;exact cJ O O (by simp[ar,aB h])
 .refine H ?_;exact cJ O O (by simp[ar,h])
theorem jN (s:Str):Ret Tryz.prog .shared 125 [.str s] (.bool (bU s)):=by
 refine Ret.of_pwp layOk mixed Go.Proofs.Tryz.func125 O Y O O ?_
 repeat' (first|refine dD O ?_|refine cx O O (fun h=>?_) (fun h=>?_)|refine cw O O (fun h=>?_) (fun h=>?_)|refine cu O O (fun h=>?_) (fun h=>?_))
 .have:=aB h;exact cJ O O (by simp[bU];omega)
 have h1:=aG h;refine bh O ?_ ?_<;>intro h
 .have:=aB h;refine H ?_;exact cJ O O (by simp[bU];omega)
 have h2:=aG h;have hll:((s.map EZ).length:Int)=s.length:=ai;have hb:s.length<=12:=J;clear h;refine H ?_;refine bJ O O (Fg O O O O O O) ?_;refine H ?_;refine ao (ClearE s k9) (fun k=>[(15,.fsl (s.map EZ)),(16,I (s.map EZ).length),(17,I k)]) (fun _=>[]) (fun k=>s.length-k) 0 .zero' ⟨O,O,O,trivial⟩ ?_;intro k st hk;have hkl:=hk.1;refine D ?_ ?_<;>intro h
 .have hlt:k<s.length:=by simpa using h
  obtain⟨x,hx⟩:=aH hlt;have hkb:k<12:=J;clear h;refine H ?_;refine bJ O O (Cg O O O O O J hx O) ?_;repeat (refine Gi O ?_ ?_;· repeat' constructor)
  refine jU 100 [(3,I k),(4,.int .u8 x.toNat),(5,.bool (iJ x)),(15,.fsl (s.map EZ)),(16,I (s.map EZ).length),(17,I k)] [] ?_ ?_
  .clear h1 h2 hll hb
   repeat' (first|refine dD O ?_|refine cx O O (fun h=>?_) (fun h=>?_)|refine cw O O (fun h=>?_) (fun h=>?_)|refine cu O O (fun h=>?_) (fun h=>?_))
   all_goals exact⟨O,O,(congrArg PV.bool (by clear hk hx;simp_all [iJ]<;>omega)),O,O,O,trivial⟩
  clear h1 h2 hll hb;intro s
  repeat' (first|refine dD O ?_|refine cx O O (fun h=>?_) (fun h=>?_)|refine cw O O (fun h=>?_) (fun h=>?_)|refine cu O O (fun h=>?_) (fun h=>?_))
  all_goals try (refine bh O (fun hc=>?_) (fun hc=>?_))
  all_goals repeat refine dD O ?_
  all_goals first
   |(
    refine cJ O O ?_;have hb:k9 k x=1:=by simp_all [k9,tE]<;>omega
    have:=hk.found hx hb J
    simp[bU,this])
   |(
    refine⟨k+1,hk.succ hx (by simp_all [k9,tE]<;>omega),J,O,O,?_,trivial⟩
    exact bN J J)
 .refine H ?_;exact cJ O O (by simp only[bU,hk.none (by simpa using h)];simp;omega)
theorem jM (l:Str):Ret Tryz.prog .shared 71 [.str l] (.bool (bU l)):=by
 refine Ret.of_pwp layOk mixed Go.Proofs.Tryz.func71 O Y O O ?_
 repeat' (first|refine dD O ?_|refine cx O O (fun h=>?_) (fun h=>?_)|refine cw O O (fun h=>?_) (fun h=>?_)|refine cu O O (fun h=>?_) (fun h=>?_))
 .have:=aB h;exact cJ O O (by simp[bU];omega)
 have h1:=aG h;refine bh O ?_ ?_<;>intro h
 .have:=aB h;refine H ?_;exact cJ O O (by simp[bU];omega)
 have h2:=aG h;refine H ?_;refine ao (ClearE l k9) (fun k=>[(0,.str l),(3,I k)]) (fun _=>[]) (fun k=>l.length-k) 0 .zero' ⟨O,O,trivial⟩ ?_;intro k s hk;refine D ?_ ?_<;>intro h
 .have hlt:k<l.length:=by simpa using h
  obtain⟨x,hx⟩:=aH hlt;have hget:l.getD k 0=x:=by rw[List.getD_eq_getElem?_getD,hx];rfl
  refine H ?_;refine gN O ⟨J,J⟩ ?_;have hn:((l.getD (Int.toNat (k:Int)) 0).toNat:Int)=x.toNat:=by rw[Int.toNat_natCast,hget]
  rw[hn];have hkb:k<12:=J;clear h hn h1 h2;refine gN O trivial ?_
  ((repeat (first|refine aO ?_ | refine cf ?_ | refine bL ?_ | refine bS ?_));refine bc ?_)
  refine jU 100 [(0,.str l),(3,I k),(4,.int .u8 x.toNat),(5,.bool (iJ x))] [] ?_ ?_
  .repeat' (first|refine dD O ?_|refine cx O O (fun h=>?_) (fun h=>?_)|refine cw O O (fun h=>?_) (fun h=>?_)|refine cu O O (fun h=>?_) (fun h=>?_))
   all_goals exact⟨O,O,O,(congrArg PV.bool (by simp_all [iJ]<;>omega)),trivial⟩
  intro s
  repeat' (first|refine dD O ?_|refine cx O O (fun h=>?_) (fun h=>?_)|refine cw O O (fun h=>?_) (fun h=>?_)|refine cu O O (fun h=>?_) (fun h=>?_))
  all_goals try (refine bh O (fun hc=>?_) (fun hc=>?_))
  all_goals repeat refine dD O ?_
  all_goals first
   |(
    refine cJ O O ?_;have hb:k9 k x=1:=by simp_all [k9,tE]<;>omega
    have:=hk.found hx hb J
    simp[bU,this])
   |(
    refine⟨k+1,hk.succ hx (by simp_all [k9,tE]<;>omega),J,O,?_,trivial⟩
    exact bN J J)
 .refine H ?_;exact cJ O O (by simp only[bU,hk.none (by simpa using h)];simp;omega)
structure ST where
 x:Int
 w:Int
 L:List Int
 H0:List Int
def eT (t:ST):List PV:=[I t.x,I t.w,.sl (t.L.map eN),.sl (t.H0.map eN)]
def ie (t:ST):Int:=if (ar t.x (-1000000) 1000000&&ar t.w 1 100000)=true then 0 else 2
def je (t u:ST):Int:=if t.x-u.x<=0 then 10 else if 2*(t.x-u.x)<t.w+u.w then 17 else 0
def j7 (L:List Int)(i:Nat)(l:Int):Int:=if ar l 0 100000=true then(if 0<i/\l<=L.getD (i-1) 0 then 10 else 0) else 2
def rN (_:Nat)(h:Int):Int:=if ar h 0 100000=true then 0 else 2
def dw (t:ST):Int:=if ar t.L.length 2 30=true/\(t.H0.length:Int)=(t.L.length:Int)-1 then(if e_ t.L (j7 t.L)=0 then e_ t.H0 rN else e_ t.L (j7 t.L)) else 11
def iB (t:ST)(u:Option ST):Int:=if ie t=0 then(match u with
 |none=>dw t
 |some u=>if je t u=0 then dw t else je t u) else ie t
theorem nr {t:ST}(h:ie t=0):(-1000000<=t.x/\t.x<=1000000)/\(1<=t.w/\t.w<=100000):=by
 rw[ie]at h;split at h
 .rename_i h2;simp[ar]at h2;omega
 .omega
theorem fB {n:Nat}(h:ar (n:Int) 2 30=true):2<=n/\n<=30:=by
 simp[ar]at h;omega
theorem Az (t:ST):Ret Tryz.prog .shared 103 [.agg (eT t)] (I (ie t)):=by
 have h1:=bW t.x (-1000000) 1000000;have h2:=bW t.w 1 100000;rw[ie];generalize ar t.x (-1000000) 1000000=p at *
 generalize ar t.w 1 100000=q at *
 obtain⟨x,w,L,H0⟩:=t;simp only at *
 cases p
 .refine Ret.of_pwp layOk mixed Go.Proofs.Tryz.func103 O Y O O ?_;refine ap h1 ?_;exact bq
 .cases q;all_goals
   refine Ret.of_pwp layOk mixed Go.Proofs.Tryz.func103 O Y O O ?_;refine ap h1 ?_;refine ap h2 ?_;exact bq
set_option maxRecDepth 20000 in
theorem xL (t:ST)(hL:t.L.length<=9223372036854775807)(hH:t.H0.length<=9223372036854775807):Ret Tryz.prog .shared 104 [.agg (eT t)] (I (dw t)):=by
 generalize hf:dw t=E;have hml:((t.L.map eN).length:Int)=t.L.length:=ai;have hmh:((t.H0.map eN).length:Int)=t.H0.length:=ai;refine Ret.of_pwp layOk mixed Go.Proofs.Tryz.func104 O Y O O ?_;refine H ?_;rw[hml];refine AV O O O ?_ ?_<;>intro h
 .have h1:=aB h;clear h;have hE:11=E:=by rw[<-hf,dw,if_neg (fun g=>by have:=fB g.1;omega)]
  subst hE;exact bq
 have h1:=aG h;clear h;refine H ?_;rw[hml];refine AV O O O ?_ ?_<;>intro h
 .have h2:=aB h;clear h;have hE:11=E:=by rw[<-hf,dw,if_neg (fun g=>by have:=fB g.1;omega)]
  subst hE;exact bq
 have h2:=aG h;clear h;have hwl:IntKind.i64.wrap ((t.L.length:Int)-1)=(t.L.length:Int)-1:=wrap_i64 J J;refine H ?_;rw[hml,hmh,hwl];refine D ?_ ?_<;>intro h
 .have h3:¬(t.H0.length:Int)=(t.L.length:Int)-1:=by simpa using h
  clear h;have hE:11=E:=by rw[<-hf,dw,if_neg (fun g=>by have:=g.2;omega)]
  subst hE;exact bq
 have c2:(t.H0.length:Int)=(t.L.length:Int)-1:=by simpa using h
 clear h;rw[dw,if_pos ⟨by simp[ar];omega,c2⟩]at hf;refine H ?_;refine ao (ClearE t.L (j7 t.L)) (fun k=>[(1,.ptr 1 1 0 0),(3,I (k:Nat))]) (fun _=>[(1,1,⟨130,4,[eT t],2⟩)]) (fun k=>t.L.length-k) 0 .zero' ⟨O,O,O,trivial⟩ ?_;intro k s hk;have hkl:=hk.1;refine D ?_ ?_<;>intro h
 .have hlt:k<t.L.length:=by have:=aB h;omega
  clear h;obtain⟨x,hx⟩:=aH hlt;have h1:=bW x 0 100000;have hw:=c9 k;refine aN hx ?_;refine ap h1 ?_;by_cases d1:ar x 0 100000=true
  rotate_left
  .have hv:j7 t.L k x=2:=by rw[j7,if_neg d1]
   have hfl:=hk.found hx hv Y;have hE:2=E:=by rw[<-hf,hfl];rfl
   subst hE;rw[Bool.not_eq_true]at d1;rw[d1];exact bq
  rw[d1];refine bT 16 [39,40,41,42,43,44,45,46,47,48,49,50,51,52,53,54] ?_;refine cV ?_ ?_<;>intro h
  rotate_left
  .have h0:k=0:=by have:=aG h;omega
   clear h;have hv:j7 t.L k x=0:=by rw[j7,if_pos d1,if_neg J]
   refine H ?_;exact⟨k+1,hk.succ hx hv,J,O,congrArg I hw,O,trivial⟩
  .have h0:0<k:=by have:=aB h;omega
   clear h;obtain⟨j,rfl⟩:∃j,k=j+1:=⟨k-1,J⟩;obtain⟨y,hy⟩:=aH (show j<t.L.length by omega);have hgy:t.L.getD j 0=y:=by rw[List.getD_eq_getElem?_getD,hy];rfl
   have hwj:IntKind.i64.wrap (((j+1:Nat):Int)-1)=(j:Nat):=by rw[wrap_i64 J J];omega
   refine aN hx ?_;refine H ?_;rw[hwj];refine xD O O O O O O O hy O ?_;refine D ?_ ?_<;>intro h
   .have hle:x<=y:=aB h;clear h;have hv:j7 t.L (j+1) x=10:=by rw[j7,if_pos d1,if_pos ⟨J,by rw[Nat.add_sub_cancel,hgy];exact hle⟩]
    have hfl:=hk.found hx hv Y;have hE:10=E:=by rw[<-hf,hfl];rfl
    subst hE;exact bq
   .have hle:¬x<=y:=aG h;clear h;have hv:j7 t.L (j+1) x=0:=by rw[j7,if_pos d1,if_neg (fun g=>hle (by have:=g.2;rw[Nat.add_sub_cancel,hgy]at this;exact this))]
    refine H ?_;exact⟨j+1+1,hk.succ hx hv,J,O,congrArg I hw,O,trivial⟩
 .have hge:¬k<t.L.length:=by have:=aG h;omega
  clear h;rw[hk.none hge,if_pos O]at hf;refine H ?_;refine ao (ClearE t.H0 rN) (fun k=>[(1,.ptr 1 1 0 0),(4,I (k:Nat))]) (fun _=>[(1,1,⟨130,4,[eT t],2⟩)]) (fun k=>t.H0.length-k) 0 .zero' ⟨O,O,O,trivial⟩ ?_;intro k s hk;have hkl:=hk.1;refine D ?_ ?_<;>intro h
  .have hlt:k<t.H0.length:=by have:=aB h;omega
   clear h;obtain⟨x,hx⟩:=aH hlt;have h1:=bW x 0 100000;have hw:=c9 k;refine aN hx ?_;refine ap h1 ?_;by_cases d1:ar x 0 100000=true
   .have hv:rN k x=0:=by rw[rN,if_pos d1]
    rw[d1];refine H ?_;exact⟨k+1,hk.succ hx hv,J,O,congrArg I hw,O,trivial⟩
   .have hv:rN k x=2:=by rw[rN,if_neg d1]
    have hfl:=hk.found hx hv Y;have hE:2=E:=by rw[<-hf,hfl]
    subst hE;rw[Bool.not_eq_true]at d1;rw[d1];exact bq
  .have hge:¬k<t.H0.length:=by have:=aG h;omega
   clear h;rw[hk.none hge]at hf;subst hf;exact bq
set_option maxRecDepth 20000 in
theorem qS (t:ST)(hL:t.L.length<=9223372036854775807)(hH:t.H0.length<=9223372036854775807):Ret Tryz.prog .shared 127 [.agg (eT t),.raw (.pointer none)] (I (iB t none)):=by
 have h1:=bk t.x (-1000000) 1000000;have h2:=bk t.w 1 100000;generalize hf:iB t none=E;cases hp1:ar t.x (-1000000) 1000000 with
 |false =>
  have hE:2=E:=by rw[<-hf,iB,ie,hp1];rfl
  subst hE;rw[hp1]at h1;refine Ret.of_pwp layOk mixed Go.Proofs.Tryz.func127 O Y O O ?_;refine ap h1 ?_;exact bq
 |true =>
 cases hp2:ar t.w 1 100000 with
 |false =>
  have hE:2=E:=by rw[<-hf,iB,ie,hp1,hp2];rfl
  subst hE;rw[hp1]at h1;rw[hp2]at h2;refine Ret.of_pwp layOk mixed Go.Proofs.Tryz.func127 O Y O O ?_;refine ap h1 ?_;refine ap h2 ?_;exact bq
 |true =>
 have hpt:ie t=0:=by rw[ie,hp1,hp2];rfl
 rw[hp1]at h1;rw[hp2]at h2;rw[iB,if_pos hpt]at hf;refine Ret.of_pwp layOk mixed Go.Proofs.Tryz.func127 O Y O O ?_;refine ap h1 ?_;refine ap h2 ?_;refine H ?_;have hin:=bk t.L.length 2 30;have hml:((t.L.map eN).length:Int)=t.L.length:=ai;have hmh:((t.H0.map eN).length:Int)=t.H0.length:=ai;rw[hml];refine EA O O O hin O O O ?_;by_cases c1:ar t.L.length 2 30=true
 rotate_left
 .rw[Bool.not_eq_true]at c1;rw[c1];have hE:11=E:=by rw[<-hf,dw,if_neg (by rw[c1];simp)]
  subst hE;exact bq
 obtain⟨g1,g2⟩:=fB c1;have hwl:IntKind.i64.wrap ((t.L.length:Int)-1)=(t.L.length:Int)-1:=wrap_i64 J J;rw[c1];refine H ?_;rw[hml,hmh,hwl];refine D ?_ ?_<;>intro h
 .have hE:11=E:=by rw[<-hf,dw,if_neg (fun g=>absurd g.2 (by simpa using h))]
  subst hE;exact bq
 have c2:(t.H0.length:Int)=(t.L.length:Int)-1:=by simpa using h
 clear h;rw[dw,if_pos ⟨c1,c2⟩]at hf;refine H ?_;rw[hml];refine ao (ClearE t.L (j7 t.L)) (fun k=>[(2,.ptr 2 1 0 0),(59,.sl (t.L.map eN)),(60,I t.L.length),(61,I (k:Nat))]) (fun _=>[(2,1,⟨130,4,[eT t],2⟩)]) (fun k=>t.L.length-k) 0 .zero' ⟨O,O,by rw[<-hml];rfl,O,O,trivial⟩ ?_;intro k s hk;have hkl:=hk.1;refine D ?_ ?_<;>intro h
 .have hlt:k<t.L.length:=by have:=aB h;omega
  clear h;obtain⟨x,hx⟩:=aH hlt;have h1:=bk x 0 100000;have hw:=c9 k;refine aN hx ?_;refine ap h1 ?_;by_cases d1:ar x 0 100000=true
  rotate_left
  .have hv:j7 t.L k x=2:=by rw[j7,if_neg d1]
   have hfl:=hk.found hx hv Y;have hE:2=E:=by rw[<-hf,hfl];rfl
   subst hE;rw[Bool.not_eq_true]at d1;rw[d1];exact bq
  rw[d1];refine cV ?_ ?_<;>intro h
  rotate_left
  .have h0:k=0:=by have:=aG h;omega
   clear h;have hv:j7 t.L k x=0:=by rw[j7,if_pos d1,if_neg J]
   refine H ?_;exact⟨k+1,hk.succ hx hv,J,O,O,O,congrArg I hw,O,trivial⟩
  .have h0:0<k:=by have:=aB h;omega
   clear h;obtain⟨j,rfl⟩:∃j,k=j+1:=⟨k-1,J⟩;obtain⟨y,hy⟩:=aH (show j<t.L.length by omega);have hgy:t.L.getD j 0=y:=by rw[List.getD_eq_getElem?_getD,hy];rfl
   have hwj:IntKind.i64.wrap (((j+1:Nat):Int)-1)=(j:Nat):=by rw[wrap_i64 J J];omega
   refine H ?_;rw[hwj];refine xD O O O O O O O hy O ?_;refine D ?_ ?_<;>intro h
   .have hle:x<=y:=aB h;clear h;have hv:j7 t.L (j+1) x=10:=by rw[j7,if_pos d1,if_pos ⟨J,by rw[Nat.add_sub_cancel,hgy];exact hle⟩]
    have hfl:=hk.found hx hv Y;have hE:10=E:=by rw[<-hf,hfl];rfl
    subst hE;exact bq
   .have hle:¬x<=y:=aG h;clear h;have hv:j7 t.L (j+1) x=0:=by rw[j7,if_pos d1,if_neg (fun g=>hle (by have:=g.2;rw[Nat.add_sub_cancel,hgy]at this;exact this))]
    refine H ?_;exact⟨j+1+1,hk.succ hx hv,J,O,O,O,congrArg I hw,O,trivial⟩
 .have hge:¬k<t.L.length:=by have:=aG h;omega
  clear h;rw[hk.none hge,if_pos O]at hf;refine H ?_;rw[hmh];refine ao (ClearE t.H0 rN) (fun k=>[(2,.ptr 2 1 0 0),(83,.sl (t.H0.map eN)),(84,I t.H0.length),(85,I (k:Nat))]) (fun _=>[(2,1,⟨130,4,[eT t],2⟩)]) (fun k=>t.H0.length-k) 0 .zero' ⟨O,O,by rw[<-hmh];rfl,O,O,trivial⟩ ?_;intro k s hk;have hkl:=hk.1;refine D ?_ ?_<;>intro h
  .have hlt:k<t.H0.length:=by have:=aB h;omega
   clear h;obtain⟨x,hx⟩:=aH hlt;have h1:=bk x 0 100000;have hw:=c9 k;refine aN hx ?_;refine ap h1 ?_;by_cases d1:ar x 0 100000=true
   .have hv:rN k x=0:=by rw[rN,if_pos d1]
    rw[d1];refine H ?_;exact⟨k+1,hk.succ hx hv,J,O,O,O,congrArg I hw,O,trivial⟩
   .have hv:rN k x=2:=by rw[rN,if_neg d1]
    have hfl:=hk.found hx hv Y;have hE:2=E:=by rw[<-hf,hfl]
    subst hE;rw[Bool.not_eq_true]at d1;rw[d1];exact bq
  .have hge:¬k<t.H0.length:=by have:=aG h;omega
   clear h;rw[hk.none hge]at hf;subst hf;exact bq
set_option maxRecDepth 20000 in
theorem qT (t u:ST)(hu:ie u=0)(hL:t.L.length<=9223372036854775807)(hH:t.H0.length<=9223372036854775807):Ret Tryz.prog .shared 127 [.agg (eT t),.dref (eT u) 0] (I (iB t (some u))):=by
 have h1:=bk t.x (-1000000) 1000000;have h2:=bk t.w 1 100000;generalize hf:iB t (some u)=E;cases hp1:ar t.x (-1000000) 1000000 with
 |false =>
  have hE:2=E:=by rw[<-hf,iB,ie,hp1];rfl
  subst hE;rw[hp1]at h1;refine Ret.of_pwp layOk mixed Go.Proofs.Tryz.func127 O Y O O ?_;refine ap h1 ?_;exact bq
 |true =>
 cases hp2:ar t.w 1 100000 with
 |false =>
  have hE:2=E:=by rw[<-hf,iB,ie,hp1,hp2];rfl
  subst hE;rw[hp1]at h1;rw[hp2]at h2;refine Ret.of_pwp layOk mixed Go.Proofs.Tryz.func127 O Y O O ?_;refine ap h1 ?_;refine ap h2 ?_;exact bq
 |true =>
 have hpt:ie t=0:=by rw[ie,hp1,hp2];rfl
 rw[hp1]at h1;rw[hp2]at h2;rw[iB,if_pos hpt]at hf;obtain⟨⟨a1,a2⟩,a3,a4⟩:=nr hpt;obtain⟨⟨b1,b2⟩,b3,b4⟩:=nr hu;have k1:IntKind.i64.wrap (t.x-u.x)=t.x-u.x:=wrap_i64 J J;have k2:IntKind.i64.wrap (2*(t.x-u.x))=2*(t.x-u.x):=wrap_i64 J J;have k3:IntKind.i64.wrap (t.w+u.w)=t.w+u.w:=wrap_i64 J J;refine Ret.of_pwp layOk mixed Go.Proofs.Tryz.func127 O Y O O ?_;refine ap h1 ?_;refine ap h2 ?_;refine bT 8 [22,23,24,25,26,27,28,5] ?_;refine H ?_;rw[k1];refine D ?_ ?_<;>intro h
 .have d1:t.x-u.x<=0:=aB h;clear h;have hb:je t u=10:=by rw[je,if_pos d1]
  have hE:10=E:=by rw[<-hf,hb];rfl
  subst hE;exact bq
 have d1:¬t.x-u.x<=0:=aG h;clear h;refine bT 11 [33,34,35,36,37,38,39,40,41,42,32] ?_;refine H ?_;rw[k2];refine H ?_;rw[k3];refine D ?_ ?_<;>intro h
 .have d2:2*(t.x-u.x)<t.w+u.w:=aB h;clear h;have hb:je t u=17:=by rw[je,if_neg d1,if_pos d2]
  have hE:17=E:=by rw[<-hf,hb];rfl
  subst hE;exact bq
 have d2:¬2*(t.x-u.x)<t.w+u.w:=aG h;clear h;have hb:je t u=0:=by rw[je,if_neg d1,if_neg d2]
 rw[if_pos hb]at hf;clear k1 k2 k3 a1 a2 a3 a4 b1 b2 b3 b4 hb d1 d2 hu;refine H ?_;have hin:=bk t.L.length 2 30;have hml:((t.L.map eN).length:Int)=t.L.length:=ai;have hmh:((t.H0.map eN).length:Int)=t.H0.length:=ai;rw[hml];refine EA O O O hin O O O ?_;by_cases c1:ar t.L.length 2 30=true
 rotate_left
 .rw[Bool.not_eq_true]at c1;rw[c1];have hE:11=E:=by rw[<-hf,dw,if_neg (by rw[c1];simp)]
  subst hE;exact bq
 obtain⟨g1,g2⟩:=fB c1;have hwl:IntKind.i64.wrap ((t.L.length:Int)-1)=(t.L.length:Int)-1:=wrap_i64 J J;rw[c1];refine H ?_;rw[hml,hmh,hwl];refine D ?_ ?_<;>intro h
 .have hE:11=E:=by rw[<-hf,dw,if_neg (fun g=>absurd g.2 (by simpa using h))]
  subst hE;exact bq
 have c2:(t.H0.length:Int)=(t.L.length:Int)-1:=by simpa using h
 clear h;rw[dw,if_pos ⟨c1,c2⟩]at hf;refine H ?_;rw[hml];refine ao (ClearE t.L (j7 t.L)) (fun k=>[(2,.ptr 2 1 0 0),(59,.sl (t.L.map eN)),(60,I t.L.length),(61,I (k:Nat))]) (fun _=>[(2,1,⟨130,4,[eT t],2⟩)]) (fun k=>t.L.length-k) 0 .zero' ⟨O,O,by rw[<-hml];rfl,O,O,trivial⟩ ?_;intro k s hk;have hkl:=hk.1;refine D ?_ ?_<;>intro h
 .have hlt:k<t.L.length:=by have:=aB h;omega
  clear h;obtain⟨x,hx⟩:=aH hlt;have h1:=bk x 0 100000;have hw:=c9 k;refine aN hx ?_;refine ap h1 ?_;by_cases d1:ar x 0 100000=true
  rotate_left
  .have hv:j7 t.L k x=2:=by rw[j7,if_neg d1]
   have hfl:=hk.found hx hv Y;have hE:2=E:=by rw[<-hf,hfl];rfl
   subst hE;rw[Bool.not_eq_true]at d1;rw[d1];exact bq
  rw[d1];refine cV ?_ ?_<;>intro h
  rotate_left
  .have h0:k=0:=by have:=aG h;omega
   clear h;have hv:j7 t.L k x=0:=by rw[j7,if_pos d1,if_neg J]
   refine H ?_;exact⟨k+1,hk.succ hx hv,J,O,O,O,congrArg I hw,O,trivial⟩
  .have h0:0<k:=by have:=aB h;omega
   clear h;obtain⟨j,rfl⟩:∃j,k=j+1:=⟨k-1,J⟩;obtain⟨y,hy⟩:=aH (show j<t.L.length by omega);have hgy:t.L.getD j 0=y:=by rw[List.getD_eq_getElem?_getD,hy];rfl
   have hwj:IntKind.i64.wrap (((j+1:Nat):Int)-1)=(j:Nat):=by rw[wrap_i64 J J];omega
   refine H ?_;rw[hwj];refine xD O O O O O O O hy O ?_;refine D ?_ ?_<;>intro h
   .have hle:x<=y:=aB h;clear h;have hv:j7 t.L (j+1) x=10:=by rw[j7,if_pos d1,if_pos ⟨J,by rw[Nat.add_sub_cancel,hgy];exact hle⟩]
    have hfl:=hk.found hx hv Y;have hE:10=E:=by rw[<-hf,hfl];rfl
    subst hE;exact bq
   .have hle:¬x<=y:=aG h;clear h;have hv:j7 t.L (j+1) x=0:=by rw[j7,if_pos d1,if_neg (fun g=>hle (by have:=g.2;rw[Nat.add_sub_cancel,hgy]at this;exact this))]
    refine H ?_;exact⟨j+1+1,hk.succ hx hv,J,O,O,O,congrArg I hw,O,trivial⟩
 .have hge:¬k<t.L.length:=by have:=aG h;omega
  clear h;rw[hk.none hge,if_pos O]at hf;refine H ?_;rw[hmh];refine ao (ClearE t.H0 rN) (fun k=>[(2,.ptr 2 1 0 0),(83,.sl (t.H0.map eN)),(84,I t.H0.length),(85,I (k:Nat))]) (fun _=>[(2,1,⟨130,4,[eT t],2⟩)]) (fun k=>t.H0.length-k) 0 .zero' ⟨O,O,by rw[<-hmh];rfl,O,O,trivial⟩ ?_;intro k s hk;have hkl:=hk.1;refine D ?_ ?_<;>intro h
  .have hlt:k<t.H0.length:=by have:=aB h;omega
   clear h;obtain⟨x,hx⟩:=aH hlt;have h1:=bk x 0 100000;have hw:=c9 k;refine aN hx ?_;refine ap h1 ?_;by_cases d1:ar x 0 100000=true
   .have hv:rN k x=0:=by rw[rN,if_pos d1]
    rw[d1];refine H ?_;exact⟨k+1,hk.succ hx hv,J,O,O,O,congrArg I hw,O,trivial⟩
   .have hv:rN k x=2:=by rw[rN,if_neg d1]
    have hfl:=hk.found hx hv Y;have hE:2=E:=by rw[<-hf,hfl]
    subst hE;rw[Bool.not_eq_true]at d1;rw[d1];exact bq
  .have hge:¬k<t.H0.length:=by have:=aG h;omega
   clear h;rw[hk.none hge]at hf;subst hf;exact bq
structure LR where
 nm:List UInt8
 m:Int
 x:Int
 z:Int
 f:Int
def eLd (w:LR):List PV:=[.str w.nm,I w.m,I w.x,I w.z,I w.f]
def BZ (w:LR)(least:Int):Bool:=ar w.m least 1000000000&&ar w.x (-1000000) 1000000&&ar w.z (-100000) 100000&&ar w.f 0 1000000000
def lu (w:LR)(least:Int):Int:=if BZ w least=true then 0 else 2
def eL (w:LR)(before:List LR)(least:Int):Int:=if bU w.nm=true then(if w.nm∈before.map (·.nm) then 5 else lu w least) else 4
theorem l0 (w:LR)(least:Int):Ret Tryz.prog .shared 191 [.agg (eLd w),I least] (I (lu w least)):=by
 have h1:=bk w.m least 1000000000;have h2:=bk w.x (-1000000) 1000000;have h3:=bk w.z (-100000) 100000;have h4:=bk w.f 0 1000000000;rw[lu,BZ];generalize ar w.m least 1000000000=p1 at *
 generalize ar w.x (-1000000) 1000000=p2 at *
 generalize ar w.z (-100000) 100000=p3 at *
 generalize ar w.f 0 1000000000=p4 at *
 obtain⟨nm,m,x,z,f⟩:=w;simp only at *
 cases p1
 .refine Ret.of_pwp layOk mixed Go.Proofs.Tryz.func191 O Y O O ?_;refine ap h1 ?_;exact bq
 .cases p2
  .refine Ret.of_pwp layOk mixed Go.Proofs.Tryz.func191 O Y O O ?_;refine ap h1 ?_;refine ap h2 ?_;exact bq
  .cases p3
   .refine Ret.of_pwp layOk mixed Go.Proofs.Tryz.func191 O Y O O ?_;refine ap h1 ?_;refine ap h2 ?_;refine ap h3 ?_;exact bq
   .cases p4;all_goals
     refine Ret.of_pwp layOk mixed Go.Proofs.Tryz.func191 O Y O O ?_;refine ap h1 ?_;refine ap h2 ?_;refine ap h3 ?_;refine ap h4 ?_;exact bq
set_option maxRecDepth 20000 in
theorem pD (w:LR)(B:List LR)(hB:B.length<=1000000)(least:Int):Ret Tryz.prog .shared 105 [.agg (eLd w),.sl (B.map eLd),I least] (I (eL w B least)):=by
 have h0:=jM w.nm;have h1:=bW w.m least 1000000000;have h2:=bW w.x (-1000000) 1000000;have h3:=bW w.z (-100000) 100000;have h4:=bW w.f 0 1000000000;have hmB:(B.map eLd).length=B.length:=List.length_map _;generalize hf:eL w B least=E;rw[eL]at hf;obtain⟨nm,m,x,z,f⟩:=w;simp only at *
 refine Ret.of_pwp layOk mixed Go.Proofs.Tryz.func105 O Y O O ?_;refine ap h0 ?_;cases hn:bU nm with
 |false =>
  rw[hn]at hf;subst hf;exact bq
 |true =>
  rw[hn,if_pos O]at hf;refine H ?_;refine ao (fun k:Nat=>k<=B.length/\∀j u,j<k->B[j]? = some u->u.nm≠nm) (fun k=>[(1,.sl (B.map eLd)),(2,I least),(3,.ptr 3 1 0 0),(7,I (k:Nat))]) (fun _=>[(3,1,⟨24,5,[eLd ⟨nm,m,x,z,f⟩],2⟩)]) (fun k=>B.length-k) 0 ⟨Nat.zero_le _,fun j u hj=>absurd hj J⟩ ⟨O,O,O,O,O,trivial⟩ ?_;rintro k s ⟨hk,hall⟩;refine D ?_ ?_<;>intro h
  .have hlt:k<B.length:=by have:=aB h;simp only[hmB]at this;omega
   clear h;obtain⟨u,hu⟩:=aH hlt;have hw:=c9 k;refine bT 8 [18,19,20,21,22,23,24,25] ?_;refine aN hu ?_;refine D ?_ ?_<;>intro h
   .have he:u.nm=nm:=by simpa using h
    clear h;rw[if_pos (List.mem_map.2 ⟨u,a_ hu,he⟩)]at hf;subst hf;exact bq
   .have he:u.nm≠nm:=by simpa using h
    clear h;refine H ?_;refine⟨k+1,⟨hlt,fun j v hj hv=>?_⟩,J,O,O,O,congrArg I hw,O,trivial⟩;rcases Nat.lt_or_ge j k with g|g
    .exact hall j v g hv
    .rw[show j=k by omega,hu]at hv;cases hv;exact he
  .have hge:k=B.length:=by have:=aG h;simp only[hmB]at this;omega
   clear h;subst hge;rw[if_neg (fun g=>by
    obtain⟨u,hu,he⟩:=List.mem_map.1 g;obtain⟨j,hj⟩:=List.mem_iff_getElem?.1 hu
    exact hall j u (bi hj).1 hj he),lu,BZ]at hf
   generalize ar m least 1000000000=p1 at *
   generalize ar x (-1000000) 1000000=p2 at *
   generalize ar z (-100000) 100000=p3 at *
   generalize ar f 0 1000000000=p4 at *
   subst hf;refine ap h1 ?_;cases p1
   .exact bq
   refine ap h2 ?_;cases p2
   .exact bq
   refine ap h3 ?_;cases p3
   .exact bq
   refine ap h4 ?_;cases p4;all_goals
    exact bq
theorem xr (z k:PV)(row:List PV)(rows:List (List PV)):gi z k (row::rows)=bif tv k row then row.getD 1 z else gi z k rows:=by
 simp only[gi,fE];cases tv k row
 .simp only[cond_false];cases fE k rows<;>rfl
 .rfl
theorem xq (key v:PV)(row:List PV)(rows:List (List PV)):iN key v (row::rows)=bif tv key row then row.set 1 v::rows else row::iN key v rows:=by
 unfold iN;cases h:tv key row with
 |true=>simp[fE,h]
 |false =>
  simp only[fE,h,cond_false];cases hm:fE key rows with
  |none=>simp
  |some i =>
   have hi:=lr hm;simp[List.getElem?_eq_getElem hi]
theorem x8 [Globs]{P:Program}{L:Lay}{s:St}{T:TypeId}{x y v:Operand}{ty:TypeId}{pos:String}{af:Array Edge}{K:St->Prop}(h:POp P L s ⟨none,.mapUpdate T x y v,ty,pos,af,none⟩ K):Sm P L s ⟨none,.insert T x y v,ty,pos,af,none⟩ K:=by
 intro C a w Q hG hs hN;have h2:Oper.wp P ⟨none,.mapUpdate T x y v,ty,pos,af,none⟩ a w (fun a' w'=>∃s',SimE C s' a' w'/\K s') Q:=POp.wp (o:=⟨none,.mapUpdate T x y v,ty,pos,af,none⟩) hG hs hN h fun s' _ _ h' hk=>⟨s',h',hk⟩;exact h2
def Db (n:Str):List PV:=[.str n,.bool true]
theorem vz (d:Str):∀m:List Str,gi (.bool false) (.str d) (m.map Db) = .bool (decide (d∈m))
 |[]=>by simp;rfl
 |e::m=>by
  rw[List.map_cons,xr,vz d m];have:tv (.str d) (Db e)=decide (e=d):=O;rw[this];by_cases h:e=d
  .have h2:d∈e::m:=by rw[h];exact List.mem_cons_self
   rw[decide_eq_true h,decide_eq_true h2];rfl
  .rw[decide_eq_false h];have:decide (d∈e::m)=decide (d∈m):=by rw[decide_eq_decide,List.mem_cons];exact⟨fun g=>g.resolve_left fun e'=>h e'.symm,.inr⟩
   rw[this];rfl
theorem vv (d:Str):∀m:List Str,d∉m->iN (.str d) (.bool true) (m.map Db)=(m++[d]).map Db
 |[],_=>rfl
 |e::m,h=>by
  have h1:¬e=d:=fun g=>h (by simp[g]);have h2:d∉m:=fun g=>h (List.mem_cons_of_mem _ g);rw[List.map_cons,xq,vv d m h2];have:tv (.str d) (Db e)=decide (e=d):=O;rw[this,decide_eq_false h1];rfl
theorem rW (m:List Str):fZ .str (m.map Db)=true:=by
 induction m with
 |nil=>rfl
 |cons e m ih=>rw[List.map_cons];exact ih
structure SHP where
 nm:Str
 len:Int
 st:List ST
 light:LR
 it:List LR
def fi (s:SHP):List PV:=[.str s.nm,I s.len,.sl (s.st.map eT)]++eLd s.light++[.sl (s.it.map eLd)]
def DL (light:LR)(it:List LR)(i:Nat)(w:LR):Int:=eL w (light::it.take i) 0
def jP (s:SHP):Int:=if eL s.light [] 1=0 then(if 60<s.it.length then 8 else e_ s.it (DL s.light s.it)) else eL s.light [] 1
set_option maxRecDepth 20000 in
theorem mM (s:SHP)(h1:s.it.length<=9223372036854775807):Ret Tryz.prog .shared 128 [.agg (fi s)] (I (jP s)):=by
 have n0:=jN s.light.nm;have n1:=l0 s.light 1;have hmi:(s.it.map eLd).length=s.it.length:=List.length_map _;generalize hf:jP s=E;rw[jP]at hf;have hl:eL s.light [] 1=if bU s.light.nm=true then lu s.light 1 else 4:=by rw[eL];simp
 rw[hl]at hf;clear hl;obtain⟨nm,len,st,light,it⟩:=s;simp only at *
 refine Ret.of_pwp layOk mixed Go.Proofs.Tryz.func128 O Y O O ?_;refine ap n0 ?_;cases hn:bU light.nm with
 |false =>
  rw[hn]at hf;subst hf;exact bq
 |true =>
  rw[hn,if_pos O]at hf;refine ap n1 ?_;by_cases he:lu light 1=0
  rotate_left
  .rw[if_neg he]at hf;generalize lu light 1=e at *
   subst hf;refine D ?_ ?_<;>intro h
   .clear h;exact bq
   .simp at h;exact absurd h he
  rw[if_pos he]at hf;rw[he];refine H ?_;rw[hmi];refine bh O ?_ ?_<;>intro h
  .rw[if_pos (by have:=aB h;omega)]at hf;subst hf;exact bq
  have h60:¬60<it.length:=by have:=aG h;omega
  clear h;rw[if_neg h60]at hf
  ((repeat ((fail_if_success (with_reducible refine aR 8 ?_));refine b9 O ?_));refine aM 4 ?_)
  refine ax (B6 O ?_);iterate 3 refine dD O ?_
  refine aO ?_;refine aW O (x8 (zT 0 O O O O O O O O O O O O ?_));refine aJ ?_;refine H ?_;rw[hmi];refine bj [(1,.ptr 1 1 0 0),(4,.mp 23 1),(29,.sl (it.map eLd)),(30,I it.length),(31,I ((0:Nat):Int))] [(1,1,⟨27,9,[fi ⟨nm,len,st,light,it⟩],2⟩),(23,1,⟨257,0,[Db light.nm],0⟩)] ⟨O,O,O,O,O,O,O,trivial⟩ ?_;intro s0;refine ao (ClearE it (DL light it)) (fun k=>[(1,.ptr 1 1 0 0),(4,.mp 23 1),(29,.sl (it.map eLd)),(30,I it.length),(31,I (k:Nat))]) (fun k=>[(1,1,⟨27,9,[fi ⟨nm,len,st,light,it⟩],2⟩),(23,1,⟨257,0,((light::it.take k).map (·.nm)).map Db,0⟩)]) (fun k=>it.length-k) 0 .zero' ⟨O,O,O,O,O,O,O,trivial⟩ ?_;intro k s1 hk;have hkl:=hk.1;refine D ?_ ?_<;>intro h
  .have hlt:k<it.length:=by have:=aB h;omega
   clear h;obtain⟨w,hx⟩:=aH hlt;have m0:=jN w.nm;have m1:=l0 w 0;have hw:=c9 k;have hsn:(light::it.take (k+1)).map (·.nm)=(light::it.take k).map (·.nm)++[w.nm]:=by rw[br hx];simp
   have hv:DL light it k w=if bU w.nm=true then(if w.nm∈(light::it.take k).map (·.nm) then 5 else lu w 0) else 4:=O
   generalize (light::it.take k).map (·.nm)=D0 at *
   have hlook:=vz w.nm D0;obtain⟨wn,wm,wx,wz,wf⟩:=w;simp only at *
   refine aN hx ?_;refine ap m0 ?_;cases hn2:bU wn with
   |false =>
    rw[hn2,if_neg Y]at hv;have hfl:=hk.found hx hv Y;rw[hfl]at hf;subst hf;exact bq
   |true =>
    rw[hn2,if_pos O]at hv;refine H ?_;refine bJ O O (DY O O O O O aS O O O O O (rW _)) ?_;rw[hlook];by_cases hd:wn∈D0
    .rw[if_pos hd]at hv;rw[decide_eq_true hd];have hfl:=hk.found hx hv Y;rw[hfl]at hf;subst hf;exact bq
    .rw[if_neg hd]at hv;rw[decide_eq_false hd];have hput:=vv wn D0 hd;refine H ?_;refine bZ (zT 0 O O O O O O O O O (rW _) O O ?_);refine ap m1 ?_;by_cases hz:lu ⟨wn,wm,wx,wz,wf⟩ 0=0
     rotate_left
     .have hfl:=hk.found hx hv hz;rw[hfl]at hf;generalize lu ⟨wn,wm,wx,wz,wf⟩ 0=e at *
      subst hf;refine D ?_ ?_<;>intro h
      .clear h;exact bq
      .simp at h;exact absurd h hz
     rw[hz]at hv;rw[hz];refine H ?_;refine⟨k+1,hk.succ hx hv,J,O,O,O,O,congrArg I hw,O,?_,trivial⟩;rw[hsn,<-hput];rfl
  .have hge:¬k<it.length:=by have:=aG h;omega
   clear h;rw[hk.none hge]at hf;subst hf;exact bq
end Go.Pv
