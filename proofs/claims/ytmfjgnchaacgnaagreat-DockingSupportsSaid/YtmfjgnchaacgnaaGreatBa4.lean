/- Texts of one hand, gathered: PvRg, FcB, FcC, FmC, FmD, FmE, FmF, FmG, FmH, FmI, FcD, FcE, FcF, FcG, FcH, FcI, FcJ, FcK, FcL, FcM, FcN, FcO, FcP, LeC, Shelf, FcQ, FcR, FcS, FcT, FcU, FcV, FdV, FcW, FcX, FcY, FcZ, FdA, FdB, FdC, FdD, FdE, FdF, FdG, FdH, FdI, FdK, FdL, FmK, FdN, FmL, FdT, FdO, FdP, FdQ, FdR, FdS, FdU, FdM, FsA, FsB, FsD, PvXw, FsE, FwA, FwB, FcLd, FwC, FwD, Shelg. -/
import Derived.Test.YtmfjgnchaacgnaaGreatBa3
import Derived.Sort.Grow
import Derived.Shelf.GgSortFunc.RowK
import Derived.Shelf.Small.Bits
import Derived.Shelf.Small.Wraps
import Derived.Shelf.Strconv.Itoa0
import Derived.Shelf.Sort.Plain
import Derived.Ground.Names2Prog
import Derived.Shelf.Slices.Clone
import Derived.Shelf.Slices.CompactI
import Derived.Shelf.Slices.SearchI
import Derived.Shelf.Slices.Cells
import Derived.Shelf.Slices.In.SortNone
import Derived.Test.YtmfjgnchaacgnaaGreatProg
import Derived.Lib.SlicesCompact
import Derived.Shelf.Spec.SlicesGrow
set_option maxRecDepth 20000
set_option linter.unusedSectionVars false
set_option linter.unusedSimpArgs false
set_option linter.unusedVariables false
set_option linter.unnecessarySimpa false
namespace Go.Pv
open Go.RowKit
variable [Globs]
def oo:List (Tmp × PV)->(Nat->PV)->Nat->PV
 |[],f=>f
 |(p,v)::l,f=>oo l fun r=>bif Nat.beq r p then v else f r
theorem ou {E:Env}:∀(ps:List Tmp) (cs:List PV) (vs:List Value) (f:Nat->PV) (tmps:Array Value),ps.length=cs.length->cs.length=vs.length->(∀p∈ps,p<tmps.size)->(∀t,Rep E (f t) (tmps.getD t undef)) ->
  (∀(i:Nat) (c:PV) (v:Value),cs[i]? = some c->vs[i]? = some v->Rep E c v) ->
  ((ps.zip vs).foldl (fun t q=>t.setIfInBounds q.1 q.2) tmps).size=tmps.size/\∀t,Rep E (oo (ps.zip cs) f t) (((ps.zip vs).foldl (fun t q=>t.setIfInBounds q.1 q.2) tmps).getD t undef)
 |[],[],[],f,tmps,_,_,_,hf,_=>⟨rfl,hf⟩
 |p::ps,c::cs,v::vs,f,tmps,h1,h2,hp,hf,hd=>by
  have hp0:p<tmps.size:=hp p (.head _);have ih:=ou ps cs vs (fun r=>bif Nat.beq r p then c else f r) (tmps.setIfInBounds p v) (by simpa using h1) (by simpa using h2) (fun q hq=>by simpa using hp q (.tail _ hq)) (fun t=>by
   by_cases ht:t=p
   .subst ht;have e1:(tmps.setIfInBounds t v).getD t undef=v:=by simp[hp0]
    rw[e1];simpa using hd 0 c v O O
   .have e1:(tmps.setIfInBounds p v).getD t undef=tmps.getD t undef:=by simp[Array.getElem?_setIfInBounds_ne (Ne.symm ht)]
    rw[e1,aX ht]
    exact hf t) (fun i c' v' e1 e2=>hd (i+1) c' v' (by simpa using e1) (by simpa using e2))
  refine⟨?_,fun t=>?_⟩
  .rw[List.zip_cons_cons,List.foldl_cons,ih.1];simp
  .rw[List.zip_cons_cons,List.zip_cons_cons,List.foldl_cons];exact ih.2 t
 |[],_::_,_,_,_,h,_,_,_,_=>by simp at h
 |[],[],_::_,_,_,_,h,_,_,_=>by simp at h
 |_::_,[],_,_,_,h,_,_,_,_=>by simp at h
 |_::_,_::_,[],_,_,_,h,_,_,_=>by simp at h
def bV (ps:Array Tmp)(asg body:Code)(st:LoopState)(pend:Option Code)(regs:Nat->PV):Cont:=⟨0,0,[[.lbl ps asg body st pend regs]],4⟩
def vQ (s:St)(kL g:Nat)(ps:Array Tmp)(asg body:Code)(regs:Nat->PV)(d:Nat)(K:St->Prop):Exit->St->Prop
 |.normal,s'=>s'.own kL=(g,some (bV ps asg body .busy none regs))/\K (({ reg:=s.reg,own:=(s'.setOwn kL g (some (bV ps asg body .ready none regs))).own }:St).putR d (.bool true))
 |.exit id,s'=>s'.own kL=(g,some (bV ps asg body .busy none regs))/\K (({ reg:=s.reg,own:=(s'.setOwn kL g (some (bV ps asg body .done (some (.exit id)) regs))).own }:St).putR d (.bool false))
 |.ret,s'=>s'.own kL=(g,some (bV ps asg body .busy none regs))/\K (({ reg:=s.reg,own:=(s'.setOwn kL g (some (bV ps asg body .done (some .ret) regs))).own }:St).putR d (.bool false))
 |_,_=>False
def kS (s:St)(kL g:Nat)(ps:Array Tmp)(asg body:Code)(Q:Exit->St->Prop):Exit->St->Prop
 |.normal,s' | .ret,s'=>(s'.own kL=(g,some (bV ps asg body .ready none s.reg))/\Q .normal { reg:=s.reg,own:=(s'.setOwn kL (g+1) none).own }) \/
   (∃id,s'.own kL=(g,some (bV ps asg body .done (some (.exit id)) s.reg))/\Q (.exit id) { reg:=s.reg,own:=(s'.setOwn kL (g+1) none).own }) \/
   (s'.own kL=(g,some (bV ps asg body .done (some .ret) s.reg))/\Q .ret { reg:=s.reg,own:=(s'.setOwn kL (g+1) none).own })
 |_,_=>False
section
variable {P:Program}{L:Lay}{C:Ctx}{γ:Nat->Option Nat}{s:St}{a:Act}{w:World}
theorem Sim.yl_at (_h:Sim C γ s a w){k g:Nat}{c:Cont}{v:Value}(hr:Rep (ak C γ s w) (.yl k g) v)(ho:s.own k=(g,some c)):∃b,γ k=some b/\v = .func (.yield b) #[] #[]:=by
 cases hr with
 |d h=>cases h
 |yl hg hl=>exact(hl (by simp[ak,ho]) ⟨γ k,c.ty,c.sz,c.rows.length⟩ (by simp[ak,ho])).2
theorem Sim.turnLoop {s':St}{a':Act}{w3:World}{C2:Ctx}{γ':Nat->Option Nat}(hs':Sim C2 γ' s' a' w3){kL g b:Nat}{ps:Array Tmp}{asg body:Code}{regs:Nat->PV}{st:LoopState}{pend:Option Code}(ho:s'.own kL=(g,some (bV ps asg body st pend regs)))(hb:γ' kL=some b) :
  ∃rec:Loop,w3.heap[b]? = some (.loop rec)/\rec.state=st/\rec.pending=pend/\∀(st2:LoopState) (pend2:Option Code),Sim C2 γ' (s'.setOwn kL g (some (bV ps asg body st2 pend2 regs))) a' (w3.putObj b (.loop { rec with state:=st2,pending:=pend2 })):=by
 have hit:=(hs'.sites kL _ (by rw[ho])).it b hb O (show(3:Nat)<=4 by decide);obtain⟨rec,regs',h1,h2,h3',h3,h4,h5⟩:mz (ak C2 γ' s' w3) b (bV ps asg body st pend regs).rows:=hit;have h1:w3.heap[b]? = some (.loop rec):=h1;simp only[bV,List.cons.injEq,PV.lbl.injEq,and_true]at h2;obtain⟨e1,e2,e3,e4,e5,e6⟩:=h2;subst e6;refine⟨rec,h1,e4.symm,e5.symm,fun st2 pend2=>?_⟩;obtain⟨hp,hnew⟩:=fM (o' := .loop { rec with state:=st2,pending:=pend2 }) h1;have hnc:∀cur T f,w3.heap[b]? ≠ some (.cells cur T f):=fun cur T f e=>by rw[h1]at e;cases e
 have hle:=iG (c':=bV ps asg body st2 pend2 regs) hs' ho hb hnc hp O O (aO);refine fN hs' ho hb hnc hp O O (aO) ⟨(fun e=>by cases e),(fun b' _ _ hk=>by simp[bV]at hk),fun b' hb' _ _=>?_,(fun b' _ hz=>by simp[bV]at hz)⟩;cases hb';show mz _ _ _;exact⟨{ rec with state:=st2,pending:=pend2 },regs,hnew,by simp[bV,<-e1,<-e2,<-e3],h3',h3,h4,fun t=>(h5 t).mono hle⟩
theorem Ah {o:Oper}{args:Array Operand}{tys:Array TypeId}{tf d kL g:Nat}{ps:Array Tmp}{asg body:Code}{regs:Nat->PV}{K:St->Prop}(ho:o.op = .call ⟨.value (.tmp tf),args,tys⟩)(hd:o.dst=some d)(hy:s.reg tf = .yl kL g)
  (hown:s.own kL=(g,some (bV ps asg body .ready none regs))) (hps:args.size=ps.size)
  (h:PWP P L asg (aH (fun s2=>s2.own kL=(g,some (bV ps asg body .ready none regs))/\PWP P L body (vQ s kL g ps asg body regs d K) { reg:=s2.reg,own:=(s2.setOwn kL g (some (bV ps asg body .busy none regs))).own }) (fun _ _=>False)) { reg:=oo (ps.toList.zip (args.toList.map s.ev)) regs,own:=s.own }):Ff P L s o K:=by
 intro ro n C a w Q hG ⟨γ,hs⟩ hN hQ;have hyr:=hs.ev (.tmp tf);rw[show s.ev (.tmp tf) = .yl kL g from hy]at hyr;obtain⟨b,hb,hv⟩:=hs.yl_at hyr hown;have hit:=(hs.sites kL _ (by rw[hown])).it b hb O (show(3:Nat)<=4 by decide);obtain⟨rec,regs',h1,h2,h3',h3,h4,h5⟩:mz (ak C γ s w) b (bV ps asg body .ready none regs).rows:=hit;have h1:w.heap[b]? = some (.loop rec):=h1;simp only[bV,List.cons.injEq,PV.lbl.injEq,and_true]at h2;obtain⟨e1,e2,e3,e4,e5,e6⟩:=h2;subst e6;refine⟨fun _ _=>trivial,?_⟩;have hexec:(o.semAt (Fr ro).round a.eval).run P w = .ok (.round b rec.fn ((rec.params.zip (args.map a.eval)).foldl (fun tmps (t,a)=>tmps.setIfInBounds t a) rec.tmps) rec.assign rec.body) w:=by
  rw[Oper.semAt_eq _ _ _ (fun c e=>by rw[ho]at e;cases e)];simp only[execOp,ho,resolve,hv,Deferred.ofValue,Sem.run_bind,Sem.run_pure,Result.andThen_ok,invoke];rw[show(#[]++args.map a.eval:Array Value)=args.map a.eval by simp];exact run_yield h1 (by rw[<-e1];simpa using hps)
 rw[hexec,Oper.uponIn_round];refine⟨fun e=>by simp[Fr,Fence.wide]at e,?_⟩;refine roundIn_of_wpIn trivial ?_;rw[<-e2,<-e3];rw[<-e2]at h3';rw[<-e3]at h3;let C2:Ctx:=⟨C.B,C.X,C.w0,rec.tmps.size,fun c v=>C.keep c v\/∃t,c=s.reg t/\v=a.tmps.getD t undef,[]⟩;have hG2:Good P L C2:=⟨hG.lay,hG.x,hG.mixed,hG.glob⟩;have hfold:(rec.params.zip (args.map a.eval)).foldl (fun tmps (t,a)=>tmps.setIfInBounds t a) rec.tmps=(ps.toList.zip (args.toList.map a.eval)).foldl (fun t q=>t.setIfInBounds q.1 q.2) rec.tmps:=by
  rw[<-e1,<-Array.foldl_toList,Array.toList_zip,Array.toList_map]
 obtain⟨b1,b2⟩:=ou (E:=ak C γ s w) ps.toList (args.toList.map s.ev) (args.toList.map a.eval) regs rec.tmps (by simpa using hps.symm) ah
  (fun p hp=>by rw[e1]at hp;simpa using List.all_eq_true.1 h4 p hp) (fun t=>h5 t) (fun i c v q1 q2=>by
   rw[List.getElem?_map]at q1 q2;cases hx:args.toList[i]? with
   |none=>rw[hx]at q1;simp at q1
   |some x=>rw[hx]at q1 q2;simp at q1 q2;subst q1;subst q2;exact hs.ev x)
 rw[hfold];have hsim2:SimE C2 { reg:=oo (ps.toList.zip (args.toList.map s.ev)) regs,own:=s.own } { tmps:=(ps.toList.zip (args.toList.map a.eval)).foldl (fun t q=>t.setIfInBounds q.1 q.2) rec.tmps,defers:=[] } w:=by
  refine⟨γ,O,b1,b2,hs.sites,hs.inj,hs.base,hs.below,hs.top,?_⟩;rintro c v (hk|⟨t,rfl,rfl⟩)
  .exact hs.kept c v hk
  .exact hs.regs t
 rw[yH];refine wpIn_mono (PWP.soundX (X:=fun A B=>A=B) (fun _=>rfl) (fun h k=>h.trans k) (fun h=>by subst h;exact .refl _) (r:=false) (fun h=>by cases h) asg _ C2 _ _ _ hG2 h3' (fun _ hq=>hq) hsim2 h) ?_;rintro e aA wA ⟨C',sA,rfl,⟨γA,hsA⟩,hq⟩;have he:e = .normal:=by
  cases e
  case normal=>rfl
  all_goals exact absurd hq id
 subst he;obtain⟨hownA,hbodyA⟩:=hq;show ∃w₂,_;have hkyA:=hsA.kept (.yl kL g) (.func (.yield b) #[] #[]) (.inr ⟨tf,hy.symm,hv.symm⟩);obtain⟨bA,hbA,hvA⟩:=hsA.yl_at hkyA hownA;have hbb:b=bA:=by injection hvA with q;injection q with q
 subst hbb;obtain⟨rec2,r1,r2,r3,r4⟩:=hsA.turnLoop hownA hbA;have hs1:=r4 .busy none;have hw2:wA.putObj b (.loop { rec2 with state := .busy,pending:=none })=wA.putObj b (.loop { rec2 with state := .busy }):=by
  have:({ rec2 with state := .busy,pending:=none }:Loop)={ rec2 with state := .busy }:=by rw[<-r3]
  rw[this]
 rw[hw2]at hs1;refine⟨_,run_beginRound r1 r2,?_⟩;have hsimB:SimE C2 { reg:=sA.reg,own:=(sA.setOwn kL g (some (bV ps asg body .busy none regs))).own } aA (wA.putObj b (.loop { rec2 with state := .busy })):=⟨γA,hs1⟩;refine wpIn_mono (PWP.soundX (X:=fun A B=>A=B) (fun _=>rfl) (fun h k=>h.trans k) (fun h=>by subst h;exact .refl _) (r:=false) (fun h=>by cases h) body _ C2 _ _ _ hG2 h3 (fun _ hq=>hq) hsimB hbodyA) ?_
 have fin:∀ {s':St} {a':Act} {w3:World} (jump:Option Code) (st:LoopState),st=(if jump.isNone then .ready else .done)->SimE C2 s' a' w3->s'.own kL=(g,some (bV ps asg body .busy none regs)) ->
   K (({ reg:=s.reg,own:=(s'.setOwn kL g (some (bV ps asg body st jump regs))).own }:St).putR d (.bool jump.isNone)) ->
   ∃v w4,(Instr.endRound b jump).run P w3 = .ok v w4/\∃s'',SimE C s'' (a.put o.dst v) w4/\K s'':=by
  rintro s' a' w3 jump st rfl ⟨γ',hs'⟩ hown' hk;have hky:=hs'.kept (.yl kL g) (.func (.yield b) #[] #[]) (.inr ⟨tf,hy.symm,hv.symm⟩);obtain⟨b',hb',hvb⟩:=hs'.yl_at hky hown';have hbb:b'=b:=by injection hvb with q;injection q with q;exact q.symm
  subst hbb;obtain⟨rec3,q1,q2,q3,q4⟩:=hs'.turnLoop hown' hb';have hs4:=q4 (if jump.isNone then .ready else .done) jump;refine⟨_,_,run_endRound jump q1,_,⟨γ',?_⟩,hk⟩;have hback:Sim C γ' { reg:=s.reg,own:=(s'.setOwn kL g (some (bV ps asg body (if jump.isNone then .ready else .done) jump regs))).own } a (w3.putObj b' (.loop { rec3 with state:=if jump.isNone then .ready else .done,pending:=jump })) :=
   ⟨hs.defers,hs.size,fun r=>hs4.kept _ _ (.inr ⟨r,O,O⟩),hs4.sites,hs4.inj,hs4.base,hs4.below,hs4.top,fun c v hk=>hs4.kept c v (.inl hk)⟩
  rw[hd];rw[hd]at hN;exact hback.put (d:=some d) hN (.d (.bool _))
 rintro e a' w3 ⟨C',s',rfl,h',hq⟩;cases e
 case normal=>exact fin none .ready O h' hq.1 hq.2
 case ret=>exact fin (some .ret) .done O h' hq.1 hq.2
 case exit id=>exact fin (some (.exit id)) .done O h' hq.1 hq.2
 all_goals exact hq.elim
theorem sn {Q:Exit->St->Prop}{g:Operand}{ps:Array Tmp}{assign body:Code}(h:th P L g ps assign body Q s):PWP P L (.rangeFunc g ps assign body) Q s:=Gh.of h
theorem o_ {Q:Exit->St->Prop}{g:Operand}{gf:FuncId}{caps:List PV}{fn:Func}{bodyI:Code}{ps:Array Tmp}{asg body:Code}(kL:Nat){gn:Nat}{oc:Option Cont}(hg:s.ev g = .clo gf caps)(hf:P.funcs[gf]? = some fn)(hb:fn.body=some bodyI)
  (hn : (fn.name == "runtime.NumGoroutine") = false) (hlen : Nat.ble (1 + caps.length) fn.ntmps = true) (hc : ju fn.ntmps bodyI = true) (hres : fn.results = #[]) (hown : s.own kL = (gn, oc))
  (h:PWP P L bodyI (kS s kL (gn+1) ps asg body Q) { reg:=fun t=>((.yl kL (gn+1))::caps).getD t (.raw undef),own:=(s.setOwn kL (gn+1) (some (bV ps asg body .ready none s.reg))).own }):th P L g ps asg body Q s:=by
 intro n C a w hG ⟨γ,hs⟩ hcode hQ;simp only[eQ,Bool.true_and,Bool.and_eq_true]at hcode;obtain⟨⟨hpsN,hasg⟩,hbody⟩:=hcode;refine wpIn_rangeFunc fun fnid _=>?_;have hge:=hs.ev g;rw[hg]at hge;obtain⟨vs,hv,hl,hd⟩:=hge.clo_inv;have hcal:eF P gf:=⟨fn,hf,hn,by simp[hb]⟩;obtain⟨rec,hrec⟩:∃rec:Loop,rec={ state := .ready,pending:=none,fn:=fnid,tmps:=a.tmps,params:=ps,assign:=asg,body:=body,defers:=w.heap.size }:=⟨_,O⟩;refine⟨w.heap.size+1,[tG w.heap.size],(w.alloc (.deferred (some []))).alloc (.loop rec),{ target := .fn (.func gf) vs.toArray,args:=#[.func (.yield (w.heap.size+1)) #[] #[]] },(w.alloc (.deferred (some []))).alloc (.loop rec),gf,
  #[Value.func (.yield (w.heap.size+1)) #[] #[]]++vs.toArray,(w.alloc (.deferred (some []))).alloc (.loop rec),by rw[hrec];exact run_enterLoop_outer _ _ _ _ _,?_,fun _ _=>trivial,?_,fun e=>by simp[Fr,Fence.wide]at e,?_⟩
 .simp only[resolve,hv];simp[go_sem]
 .simp only[invoke];exact kG hcal _
 refine callsIn_of_wp hf hb trivial ?_;have hbel:Below w.heap.size w (w.alloc (.deferred (some []))):=(Below.refl _ w).alloc (aO) _;have hD:=hs.ext hbel;have hsz:(w.alloc (.deferred (some []))).heap.size=w.heap.size+1:=ah;have hT:Turn C γ s (w.alloc (.deferred (some []))) ((w.alloc (.deferred (some []))).alloc (.loop rec)) kL (some (w.alloc (.deferred (some []))).heap.size):=Turn.alloc _ kL;have hle:=hT.le hD (bV ps asg body .ready none s.reg);have hfin:s.fin kL (bV ps asg body .ready none s.reg)=s.setOwn kL (gn+1) (some (bV ps asg body .ready none s.reg)):=by rw[St.fin,hown]
 have hs1:=hT.sim (c:=bV ps asg body .ready none s.reg) hD ⟨(fun e=>by cases e),(fun b' _ _ hk=>by simp[bV]at hk),fun b' hb' _ _=>by
  cases hb';show mz _ _ _;refine⟨rec,s.reg,a_ _ _,by rw[hrec];rfl,by rw[hrec];simpa [hs.size] using hasg,by rw[hrec];simpa [hs.size] using hbody,by rw[hrec];simpa [hs.size] using hpsN,fun t=>?_⟩
  rw[show rec.tmps=a.tmps by rw[hrec]];exact(hD.regs t).mono hle,(fun b' _ hz=>by simp[bV]at hz)⟩
 rw[hfin,hsz]at hs1;rw[hfin,hsz]at hle;have hDobj:((w.alloc (.deferred (some []))).alloc (.loop rec)).heap[w.heap.size]? = some (.deferred (some [])):=by
  rw[Below.heap_alloc _ _ _ ah];exact a_ w _
 have hDok:dR C (gC γ kL (some (w.heap.size+1))) (s.setOwn kL (gn+1) (some (bV ps asg body .ready none s.reg))) ((w.alloc (.deferred (some []))).alloc (.loop rec)) w.heap.size:=by
  refine⟨by simp;omega,fun hx=>?_,fun k c hk hb'=>?_⟩
  .have:=hG.x _ hx;have:=hs.top;omega
  .by_cases hkk:k=kL
   .subst hkk;rw[bK]at hb';injection hb' with q;omega
   .rw[aB hkk]at hk;rw[eP hkk]at hb';have:=(hs.base k c _ hk hb').2;omega
 let C1:Ctx:=⟨C.B,C.X,C.w0,fn.ntmps,fun c v=>C.keep c v\/(∃t,c=s.reg t/\v=a.tmps.getD t undef)\/(c = .dfd/\v = .pointer (some ⟨w.heap.size,0,none⟩))\/(c = .yl kL (gn+1)/\v = .func (.yield (w.heap.size+1)) #[] #[]),[]⟩;have hG1:Good P L C1:=⟨hG.lay,hG.x,hG.mixed,hG.glob⟩;have hyl:Rep (ak C (gC γ kL (some (w.heap.size+1))) (s.setOwn kL (gn+1) (some (bV ps asg body .ready none s.reg))) ((w.alloc (.deferred (some []))).alloc (.loop rec))) (.yl kL (gn+1)) (.func (.yield (w.heap.size+1)) #[] #[]):=by
  refine .yl (by simp[ak,ai]) fun _ l hl=>?_;simp only[ak,ai,bK,Option.map_some,Option.some.injEq]at hl;subst hl;exact⟨O,_,O,O⟩
 have hlen':1+vs.length<=fn.ntmps:=by rw[<-hl];simpa using hlen
 have hargs:∀t,Rep (ak C (gC γ kL (some (w.heap.size+1))) (s.setOwn kL (gn+1) (some (bV ps asg body .ready none s.reg))) ((w.alloc (.deferred (some []))).alloc (.loop rec))) (((.yl kL (gn+1))::caps).getD t (.raw undef))
   ((#[Value.func (.yield (w.heap.size+1)) #[] #[]]++vs.toArray++Array.replicate (fn.ntmps-(#[Value.func (.yield (w.heap.size+1)) #[] #[]]++vs.toArray).size) undef).getD t undef):=by
  intro t;cases t with
  |zero =>
   have e2:(#[Value.func (.yield (w.heap.size+1)) #[] #[]]++vs.toArray++Array.replicate (fn.ntmps-(#[Value.func (.yield (w.heap.size+1)) #[] #[]]++vs.toArray).size) undef).getD 0 undef=Value.func (.yield (w.heap.size+1)) #[] #[]:=by
    simp[Array.getElem?_append]
   rw[e2];exact hyl
  |succ t =>
   rcases Nat.lt_or_ge t vs.length with hlt|hge
   .have hlt':t<caps.length:=J;have e1:((PV.yl kL (gn+1))::caps).getD (t+1) (.raw undef)=caps[t]:=by simp[hlt']
    have e2:(#[Value.func (.yield (w.heap.size+1)) #[] #[]]++vs.toArray++Array.replicate (fn.ntmps-(#[Value.func (.yield (w.heap.size+1)) #[] #[]]++vs.toArray).size) undef).getD (t+1) undef=vs[t]:=by
     rw[Array.getD_eq_getD_getElem?,Array.getElem?_append_left aK,Array.getElem?_append_right ah];simp[hlt]
    rw[e1,e2];exact(hd t caps[t] vs[t] (List.getElem?_eq_getElem hlt') (List.getElem?_eq_getElem hlt)).mono ((e_ hbel hs.base).trans' hle)
   .have e1:((PV.yl kL (gn+1))::caps).getD (t+1) (.raw undef) = .raw undef:=by simp[List.getElem?_eq_none (by omega:caps.length<=t)]
    have e2:(#[Value.func (.yield (w.heap.size+1)) #[] #[]]++vs.toArray++Array.replicate (fn.ntmps-(#[Value.func (.yield (w.heap.size+1)) #[] #[]]++vs.toArray).size) undef).getD (t+1) undef=undef:=by
     rw[Array.getD_eq_getD_getElem?,Array.getElem?_append_right aK];rcases Nat.lt_or_ge (t+1-(#[Value.func (.yield (w.heap.size+1)) #[] #[]]++vs.toArray).size) (fn.ntmps-(#[Value.func (.yield (w.heap.size+1)) #[] #[]]++vs.toArray).size) with h1|h1
     .rw[Array.getElem?_replicate,if_pos h1];rfl
     .rw[Array.getElem?_eq_none (by simpa using h1)];rfl
    rw[e1,e2];exact .d (.raw _)
 have hsim:SimE C1 { reg:=fun t=>((.yl kL (gn+1))::caps).getD t (.raw undef),own:=(s.setOwn kL (gn+1) (some (bV ps asg body .ready none s.reg))).own }
   { tmps:=#[Value.func (.yield (w.heap.size+1)) #[] #[]]++vs.toArray++Array.replicate (fn.ntmps-(#[Value.func (.yield (w.heap.size+1)) #[] #[]]++vs.toArray).size) undef,defers:=[] } ((w.alloc (.deferred (some []))).alloc (.loop rec)):=by
  refine⟨gC γ kL (some (w.heap.size+1)),O,by simp[C1];omega,hargs,hs1.sites,hs1.inj,hs1.base,hs1.below,hs1.top,?_⟩;rintro c v (hk|⟨t,rfl,rfl⟩|⟨rfl,rfl⟩|⟨rfl,rfl⟩)
  .exact hs1.kept c v hk
  .exact hs1.regs t
  .exact .dfd hDok hDobj
  .exact hyl
 refine wpIn_mono (PWP.soundX (X:=fun A B=>A=B) (fun _=>rfl) (fun h k=>h.trans k) (fun h=>by subst h;exact .refl _) (r:=false) (fun h=>by cases h) bodyI _ C1 _ _ _ hG1 hc (fun _ hq=>hq) hsim h) ?_
 have fin:∀ {s':St} {a':Act} {w3:World} (pend:Option Code) (st:LoopState),st ≠ .busy->SimE C1 s' a' w3->s'.own kL=(gn+1,some (bV ps asg body st pend s.reg)) ->
   ∃w4,(Instr.endLoop (w.heap.size+1)).run P w3 = .ok pend w4/\∃C4,Ext C C4/\SimE C4 { reg:=s.reg,own:=(s'.setOwn kL (gn+1+1) none).own } { a with defers:=[tG w.heap.size]++a.defers } w4:=by
  rintro s' a' w3 pend st hst ⟨γ',hs'⟩ hown';have hky:=hs'.kept (.yl kL (gn+1)) (.func (.yield (w.heap.size+1)) #[] #[]) (.inr (.inr (.inr ⟨O,O⟩)));obtain⟨b',hb',hvb⟩:=hs'.yl_at hky hown';have hbb:b'=w.heap.size+1:=by injection hvb with q;injection q with q;exact q.symm
  subst hbb;obtain⟨rec3,q1,q2,q3,q4⟩:=hs'.turnLoop hown' hb';have hs4:=q4 .exhausted pend;have hw4:w3.putObj (w.heap.size+1) (.loop { rec3 with state := .exhausted,pending:=pend })=w3.putObj (w.heap.size+1) (.loop { rec3 with state := .exhausted }):=by
   have:({ rec3 with state := .exhausted,pending:=pend }:Loop)={ rec3 with state := .exhausted }:=by rw[<-q3]
   rw[this]
  rw[hw4]at hs4;refine⟨_,by rw[<-q3];exact run_endLoop q1 (by rw[q2];exact hst),?_⟩;obtain⟨hs5,_,_⟩:=hs4.drop hG1.x (ai s' kL (gn+1) _);have hoo:((s'.setOwn kL (gn+1) (some (bV ps asg body .exhausted pend s.reg))).setOwn kL (gn+1+1) none).own=(s'.setOwn kL (gn+1+1) none).own:=by
   funext r;by_cases hr:r=kL
   .subst hr;rw[ai,ai]
   .rw[aB hr,aB hr,aB hr]
  have key:∀ow,ow=(s'.setOwn kL (gn+1+1) none).own->Sim C1 γ' { reg:=s'.reg,own:=ow } a' (w3.putObj (w.heap.size+1) (.loop { rec3 with state := .exhausted })) ->
    ∃C4,Ext C C4/\SimE C4 { reg:=s.reg,own:=(s'.setOwn kL (gn+1+1) none).own } { a with defers:=[tG w.heap.size]++a.defers } (w3.putObj (w.heap.size+1) (.loop { rec3 with state := .exhausted })):=by
   rintro ow rfl hs6;refine⟨⟨C.B,C.X,C.w0,C.N,fun c v=>C.keep c v\/(c = .dfd/\v = .pointer (some ⟨w.heap.size,0,none⟩)),w.heap.size::C.dfs⟩,⟨O,O,O,O,fun c v hk => .inl hk,fun hdk=>⟨?_,?_⟩⟩,γ',?_,hs.size,fun r=>hs6.kept _ _ (.inr (.inl ⟨r,O,O⟩)),hs6.sites,hs6.inj,hs6.base,hs6.below,hs6.top,?_⟩
   .rw[List.nodup_cons];refine⟨fun hm=>?_,hdk.1⟩;have:=hs.kept _ _ (hdk.2 _ hm).2;cases this with
    |d hd=>cases hd
    |dfd h1 _=>exact absurd h1.1 (Nat.lt_irrefl _)
   .intro D0 hDm;rcases List.mem_cons.1 hDm with rfl|hDm
    .exact⟨hs.top,.inr ⟨O,O⟩⟩
    .exact⟨(hdk.2 D0 hDm).1,.inl (hdk.2 D0 hDm).2⟩
   .show [tG w.heap.size]++a.defers=_;rw[hs.defers];rfl
   .rintro c v (hk|⟨rfl,rfl⟩)
    .exact hs6.kept c v (.inl hk)
    .exact hs6.kept _ _ (.inr (.inr (.inl ⟨O,O⟩)))
  exact key _ hoo hs5
 have ends:∀ {s':St} {a':Act} {w3:World},SimE C1 s' a' w3->kS s kL (gn+1) ps asg body Q .ret s'->a'.defers=[]/\∃v,(results fn a'.tmps).run P w3 = .ok v w3 /\
   rangePost (Fr none) n P (w.heap.size+1) (xW Ext C Q) { a with defers:=[tG w.heap.size]++a.defers } (.returned v) w3:=by
  intro s' a' w3 h' hq;refine⟨by obtain⟨_,h'⟩:=h';exact h'.defers,.tuple #[],by simp[results,hres],?_⟩;rcases hq with⟨ho,hq⟩|⟨id,ho,hq⟩|⟨ho,hq⟩
  .obtain⟨w4,e1,C4,e2,e3⟩:=fin none .ready ah h' ho;exact⟨none,w4,e1,C4,_,e2,e3,hq⟩
  .obtain⟨w4,e1,C4,e2,e3⟩:=fin (some (.exit id)) .done ah h' ho;exact⟨some (.exit id),w4,e1,wpIn_exit ⟨C4,_,e2,e3,hq⟩⟩
  .obtain⟨w4,e1,C4,e2,e3⟩:=fin (some .ret) .done ah h' ho;exact⟨some .ret,w4,e1,wpIn_ret ⟨C4,_,e2,e3,hq⟩⟩
 rintro e a' w3 ⟨C',s',rfl,h',hq⟩;cases e
 case normal=>exact ends h' hq
 case ret=>exact ends h' hq
 all_goals exact hq.elim
end
end Go.Pv
set_option maxHeartbeats 2000000
namespace Go.Pv
attribute [local irreducible] PWP POps PQuiet PSem aH au aj ao
open Go.Proofs
def CR.s (c:CR)(k:Nat):Rat:=(c.S.getD k 0:Int)
def CR.m (c:CR)(k:Nat):Rat:=(c.M.getD k RR.zero).val
def AS (c:CR):Nat->RR
 |0=>ofQ ((0:Int):Rat)
 |k+1=>c.M.getD k RR.zero
theorem rQ (c:CR)(hc:c.Lim)(k:Nat):Vq (c.M.getD k RR.zero) (c.m k) 12:=by
 refine⟨O,?_⟩;rw[List.getD_eq_getElem?_getD];cases h:c.M[k]? with
 |none=>exact⟨Nat.zero_le _,Nat.zero_le _⟩
 |some x=>exact hc.m x (aZ h)
theorem om (c:CR)(hc:c.Lim)(k:Nat):Vq (AS c k) (bE c.m k) 12:=by
 cases k with
 |zero =>
  refine⟨ofQ_val _,?_⟩;have:=(jd (HQ.int (z:=0) (h:=⟨Y⟩)).ok).ok;show(ofQ ((0:Int):Rat)).n.l.length<=12/\(ofQ ((0:Int):Rat)).d.l.length<=12;exact⟨by have:=this.1;omega,by have:=this.2;omega⟩
 |succ k=>exact rQ c hc k
theorem l7 {c:CR}(hc:c.Lim)(k:Nat):i64 (c.S.getD k 0):=by
 rw[List.getD_eq_getElem?_getD];cases h:c.S[k]? with
 |none=>exact⟨Y,Y⟩
 |some x=>exact hc.s x (aZ h)
def CC (q0 q2 q3 g4 g7 b4:Nat)(rec x2 x3 x1004:Cont)(before sum:RR):List (Nat × Nat × Cont) :=
 [(2000,q0,rec),(2002,q2,x2),(2003,q3,x3),(4,b4,⟨42,4,[eR before],2⟩),(1004,g4,x1004),(1007,g7,⟨42,4,[eR sum],2⟩)]
theorem gj {s:St}(k:Nat):Ghost s (s.setOwn k ((s.own k).1+2) none):=Ghost.drop O
theorem pW {L:Lay}{fn:Func}{K:St->PV->Prop}{s:St}{t:Nat}{v:PV}(h:fn.results.toList=[.tmp t])(h1:s.reg t=v)(hk:K s v):ao L fn K .ret s:=by
 unfold ao;refine⟨[s.reg t],True/\True,by rw[h];rfl,⟨trivial,trivial⟩,?_⟩;rw[h1];exact hk
theorem bq {P:Program}{L:Lay}{x:Code}{Q:Exit->St->Prop}{s:St}(R:List (Nat × PV))(O0:List (Nat × Nat × Cont))(hf:Fit s R O0)(h:∀s1:St,PWP P L x Q (s1.over R O0)):PWP P L x Q s:=by
 have:=h s;rwa [Fit.over hf]at this
set_option maxRecDepth 20000 in
theorem nq {Q:Exit->St->Prop}{a b:Nat}{asg body:Code}{sc:St}(c:CR)(hc:c.Lim)(y:RR){q:Rat}{n:Nat}(hy:Vq y q n)(hn:n<=9000000)(hSM:c.M.length=c.S.length)(V:Nat->RR){q0 q2 q3 g4 g7:Nat}{x1004:Cont}(s0:St)
  (hown:Fit s0 [] [(2000,q0,bV #[a,b] asg body .ready none sc.reg),(2002,q2,⟨134,2,[eC c],2⟩),(2003,q3,⟨42,4,[eR y],2⟩),(1004,g4,x1004),(1007,g7,⟨42,4,[eR (V 0)],2⟩)])
  (hround:∀i,i<c.S.length->¬q-c.s i<0->∀(b4:Nat) (bf:RR) (own:Nat->Nat × Option Cont),Fit { reg:=fun _ => .raw undef,own:=own } [] (CC q0 q2 q3 g4 g7 b4 (bV #[a,b] asg body .ready none sc.reg) ⟨134,2,[eC c],2⟩ ⟨42,4,[eR y],2⟩ x1004 bf (V i)) ->
   ∀mA:Exit->St->Prop,(∀s2,Fit s2 [] (CC q0 q2 q3 g4 g7 b4 (bV #[a,b] asg body .busy none sc.reg) ⟨134,2,[eC c],2⟩ ⟨42,4,[eR y],2⟩ x1004 bf (V (i+1)))->mA .normal s2) ->
   PWP Tryz.prog lay.get asg (aH (fun s2=>s2.own 2000=(q0,some (bV #[a,b] asg body .ready none sc.reg))/\PWP Tryz.prog lay.get body mA { reg:=s2.reg,own:=(s2.setOwn 2000 q0 (some (bV #[a,b] asg body .busy none sc.reg))).own }) (fun _ _=>False))
    { reg:=oo [(a,.agg (eR (ofQ (c.m i-bE c.m i)))),(b,.agg (eR (ofQ (q-c.s i))))] sc.reg,own:=own })
  (hend:∀i,i<=c.S.length->(i=c.S.length\/(i<c.S.length/\q-c.s i<0))->∀(b4:Nat) (bf:RR) (s2:St),Fit s2 [] (CC q0 q2 q3 g4 g7 b4 (bV #[a,b] asg body .ready none sc.reg) ⟨134,2,[eC c],2⟩ ⟨42,4,[eR y],2⟩ x1004 bf (V i)) ->
   Q .normal { reg:=sc.reg,own:=(s2.setOwn 2000 (q0+1) none).own }) :
  PWP Tryz.prog lay.get ((Tryz.f291.body).getD .skip) (kS sc 2000 q0 #[a,b] asg body Q) { reg:=fun t=>[PV.yl 2000 q0,.ptr 2002 q2 0 0,.ptr 2003 q3 0 0].getD t (.raw undef),own:=s0.own }:=by
 have hz:=et 0 Y Y;have hSl:(c.S.map eN).length=c.S.length:=ah;rw[<-Fit.over (l:=[]) hown];generalize hrd:bV #[a,b] asg body .ready none sc.reg=rd at *
 refine G hz ?_;refine H ?_;refine am (fun k:Nat × Nat × RR=>k.1<=c.S.length/\k.2.2=AS c k.1) (fun k=>[(0,.yl 2000 q0),(1,.ptr 2002 q2 0 0),(2,.ptr 2003 q3 0 0),(4,.ptr 4 k.2.1 0 0),(10,.sl (c.S.map eN)),(11,I c.S.length),(12,I (k.1:Nat))])
  (fun k=>CC q0 q2 q3 g4 g7 k.2.1 rd ⟨134,2,[eC c],2⟩ ⟨42,4,[eR y],2⟩ x1004 k.2.2 (V k.1)) (fun k=>c.S.length-k.1) (0,_,AS c 0) ⟨Nat.zero_le _,O⟩ ⟨O,O,O,O,O,by rw[<-hSl];rfl,O,O,O,O,O,O,O,trivial⟩ ?_
 rintro⟨i,b4,bf⟩ st ⟨hi,hbf⟩;simp only at hi hbf;subst hbf;dsimp only;refine D ?_ ?_<;>intro h
 .have hlt:i<c.S.length:=by have:=ax h;omega
  clear h;have hx:=bZ (d:=0) hlt;have hxb:=l7 hc i;have hnum:=et (c.S.getD i 0) hxb.1 hxb.2;have hzb:Zb (c.S.getD i 0):=aM hxb.1 hxb.2;have hsub:=lH y (ofQ ((c.S.getD i 0:Int):Rat)) (hx:=hy) J Y;have hfar:Vq (ofQ (q-((c.S.getD i 0:Int):Rat))) (q-c.s i) (n+1+4+1):=Vq.ofQ (h:=@HQ.sub _ _ (n+1) 4 hy.hq HQ.int);have hsg:=CG (ofQ (q-((c.S.getD i 0:Int):Rat))) (hx:=hfar) J;have hsl:=f_ (q-c.s i);have hw:IntKind.i64.wrap (((i:Nat):Int)+1)=((i+1:Nat):Int):=by
   have:=c.S.length;rw[wrap_i64 J (by have:=hc.ls;omega)];omega
  refine aJ hx ?_
  (repeat ((fail_if_success (with_reducible refine aR 4 ?_));refine cu O ?_))
  refine ar (gj 7) ?_;refine bB 4 1 [17,18,19,20,7] [] br O ?_;refine G hnum ?_;refine G hsub ?_;refine H ?_;refine zu 13 [21,22,23,24,25,26,27,28,29,30,31,32,33] br ?_;refine ap hsg ?_;refine cY ?_ ?_<;>intro h
  .have hneg:q-c.s i<0:=hsl.1 (ax h);clear h;refine H ?_;refine o0 ?_;refine H ?_;refine .inl ⟨by rw[<-hrd];rfl,?_⟩;exact hend i J (.inr ⟨hlt,hneg⟩) b4 _ _ ⟨O,O,O,O,O,O,trivial⟩
  .have hpos:¬q-c.s i<0:=fun h2=>(aF h) (hsl.2 h2);clear h;have hmx:=bZ (l:=c.M) (i:=i) (d:=RR.zero) J;have hmv:=rQ c hc i;have hbv:=om c hc i;have hsub2:=lH (c.M.getD i RR.zero) (AS c i) (hx:=hmv) (hy:=hbv) Y Y;refine aJ hmx ?_;refine G hsub2 ?_;refine H ?_;refine wZ O O O (Ah (ps:=#[a,b]) (asg:=asg) (body:=body) (regs:=sc.reg) O O O (by rw[hrd];rfl) O ?_);rw[hrd];refine hround i hlt hpos b4 (AS c i) _ (by exact⟨O,O,O,O,O,O,trivial⟩) _ (fun s2 hf=>?_);rw[<-Fit.over (l:=[]) hf];refine⟨O,?_⟩;refine o0 ?_;refine aJ hmx ?_;refine H ?_;exact⟨(i+1,b4,AS c (i+1)),⟨by simp only;omega,O⟩,by simp only;omega,O,O,O,O,O,O,congrArg I hw,by rw[<-hrd];rfl,O,O,O,O,O,trivial⟩
 .have hie:i=c.S.length:=by have:=aF h;omega
  clear h;refine H ?_;refine .inl ⟨by rw[<-hrd];rfl,?_⟩;exact hend i J (.inl hie) b4 _ _ ⟨O,O,O,O,O,O,trivial⟩
def lQ:Code->Option (Array Tmp × Code × Code)
 |.rangeFunc _ ps a b=>some (ps,a,b)
 |.seq x y=>match lQ x with|some r=>some r|none=>lQ y
 |.block _ c=>lQ c
 |.loop c=>lQ c
 |.cond _ x y=>match lQ x with|some r=>some r|none=>lQ y
 |_=>none
theorem ni {c:CR}(hc:c.Lim)(k:Nat):HQ (c.m k-bE c.m k) 27:=@HQ.sub _ _ 13 13 (rQ c hc k).hq (om c hc k).hq
theorem zC {c:CR}(hc:c.Lim){q:Rat}{n:Nat}(h:HQ q n)(k:Nat):HQ (q-c.s k) (n+5):=by
 have hb:=l7 hc k;have hzb:Zb (c.S.getD k 0):=aM hb.1 hb.2;exact @HQ.sub _ _ n 4 h HQ.int
theorem ve {c:CR}(hc:c.Lim){q:Rat}{n:Nat}(h:HQ q n)(k:Nat):HQ (cO c.s c.m q k) (n+32):=by
 rw[cO];split
 .exact HQ.zero.mono J
 .exact(@HQ.mul _ _ 27 (n+5) (ni hc k) (zC hc h k)).mono J
theorem o9 {c:CR}(ha:∀k,k+1<c.S.length->c.s k<c.s (k+1)){f:Nat->Rat}{q:Rat}(hf:∀k,q-c.s k<0->f k=0){i:Nat}(hi:i<=c.S.length)(h:i=c.S.length\/(i<c.S.length/\q-c.s i<0)):aq f i=aq f c.S.length:=by
 rcases h with h|⟨h1,h2⟩
 .rw[h]
 .have key:∀m,i+m<=c.S.length->aq f (i+m)=aq f i/\(i+m<c.S.length->q-c.s (i+m)<0):=by
   intro m
   induction m with
   |zero=>intro _;exact⟨rfl,fun _=>h2⟩
   |succ m ih =>
    intro hm;obtain⟨e1,e2⟩:=ih J;have h3:=e2 J;refine⟨by rw[Nat.add_succ,aq,e1,hf _ h3];grind,fun hl=>?_⟩;have h4:=ha (i+m) J;rw[show i+(m+1)=i+m+1 by omega];grind
  have:=(key (c.S.length-i) J).1;rw[show i+(c.S.length-i)=c.S.length by omega]at this;exact this.symm
theorem oC {c:CR}:∀(k i:Nat),dV c i k=0->∀j,i<=j->j<i+k->eW c j=0
 |0,i,_,j,h1,h2=>by omega
 |k+1,i,h,j,h1,h2=>by
  rw[dV]at h;by_cases hs:eW c i=0
  .rw[if_pos hs]at h;by_cases hj:j=i
   .subst hj;exact hs
   .exact oC k (i+1) h j J J
  .rw[if_neg hs]at h;exact absurd h hs
theorem dW {c:CR}(h:cx c=0):c.S.length<=40/\c.M.length=c.S.length/\(∀k,k<c.S.length -> -10000000<=c.S.getD k 0/\c.S.getD k 0<=10000000/\0<=c.m k)/\∀k,k+1<c.S.length->c.s k<c.s (k+1):=by
 rw[cx]at h;split at h
 .omega
 .rename_i h1;split at h
  .omega
  .rename_i h2;have hs:=oC _ _ h;refine⟨J,J,fun k hk=>?_,fun k hk=>?_⟩
   .have:=hs k J J;rw[eW]at this;split at this
    .omega
    .rename_i h3;refine⟨J,J,?_⟩;rw[CR.m];have:¬(c.M.getD k RR.zero).val<0:=fun h=>h3 (.inr (.inr h));grind
   .have:=hs (k+1) J J;rw[eW]at this;split at this
    .omega
    .split at this
     .omega
     .rename_i h4;have h5:c.S.getD k 0<c.S.getD (k+1) 0:=by
       rw[show k+1-1=k by omega]at h4;omega
      rw[CR.s,CR.s]
      exact_mod_cast h5
theorem vY {c:CR}(h:cx c=0):Crv c.S.length c.s c.m:=⟨(dW h).2.2.2,fun k hk=>((dW h).2.2.1 k hk).2.2⟩
noncomputable def DY:Array Tmp × Code × Code:=(lQ ((Tryz.f258.body).getD .skip)).getD (#[],.skip,.skip)
def vf (P:Program)(sc:St)(q0 q2 q3 g4 g7 b4:Nat)(pa pb:Nat)(asg body:Code)(x2 x3 x1004:Cont)(bf V0 V1 CH FA:RR):Prop :=
 ∀own:Nat->Nat × Option Cont,Fit { reg:=fun _ => .raw undef,own:=own } [] (CC q0 q2 q3 g4 g7 b4 (bV #[pa,pb] asg body .ready none sc.reg) x2 x3 x1004 bf V0) ->
  ∀mA:Exit->St->Prop,(∀s2,Fit s2 [] (CC q0 q2 q3 g4 g7 b4 (bV #[pa,pb] asg body .busy none sc.reg) x2 x3 x1004 bf V1)->mA .normal s2) ->
  PWP P lay.get asg (aH (fun s2=>s2.own 2000=(q0,some (bV #[pa,pb] asg body .ready none sc.reg))/\PWP P lay.get body mA { reg:=s2.reg,own:=(s2.setOwn 2000 q0 (some (bV #[pa,pb] asg body .busy none sc.reg))).own }) (fun _ _=>False))
   { reg:=oo [(pa,.agg (eR CH)),(pb,.agg (eR FA))] sc.reg,own:=own }
set_option maxRecDepth 20000 in
theorem s8 {s0:St}{q0 q2 q3 g4 g7 b4:Nat}{x2 x3 x1004:Cont}{bf V0 V1 CH FA PR:RR}(hmul:Ret Tryz.prog .shared 109 [.agg (eR CH),.agg (eR FA)] (.agg (eR PR)))(hadd:Ret Tryz.prog .shared 91 [.agg (eR V0),.agg (eR PR)] (.agg (eR V1))) :
  vf Tryz.prog (s0.over [(7,.ptr 1007 g7 0 0)] []) q0 q2 q3 g4 g7 b4 20 21 DY.2.1 DY.2.2 x2 x3 x1004 bf V0 V1 CH FA:=by
 intro own hf mA hPost;have ho:own=(St.over { reg:=fun _ => .raw undef,own:=own } [] (CC q0 q2 q3 g4 g7 b4 (bV #[20,21] DY.2.1 DY.2.2 .ready none (s0.over [(7,.ptr 1007 g7 0 0)] []).reg) x2 x3 x1004 bf V0)).own:=congrArg St.own (Fit.over hf).symm;rw[ho];clear ho hf;generalize (St.mk (fun _ => .raw undef) own)=s1;refine H ?_;refine⟨O,?_⟩;refine bU 5 [22,23,24,25,26] ?_;refine G hmul ?_;refine G hadd ?_;refine H ?_;exact hPost _ ⟨O,O,O,O,O,O,trivial⟩
set_option maxRecDepth 20000 in
theorem xN (c:CR)(hc:c.Lim)(h0:cx c=0)(y:RR){q:Rat}{n:Nat}[hy:Vq y q n](hn:n<=100000):Ret Tryz.prog .shared 258 [.agg (eC c),.agg (eR y)] (.tup [.agg (eR (ofQ (iO c.S.length c.s c.m q))),I 0]):=by
 have hcc:=dU c hc;rw[h0]at hcc;obtain⟨h40,hSM,-,hasc⟩:=dW h0;have hz:=et 0 Y Y;rw[show(((0:Int):Rat))=0 from O]at hz;have hsum:∀i,i<=40->Vq (ofQ (aq (cO c.s c.m q) i)) (aq (cO c.s c.m q) i) (i*(n+1+32+1)+4):=fun i _=>Vq.ofQ (h:=bD i fun k _=>ve hc hy.hq k);refine Ret.of_pwpR layOk mixed Go.Proofs.Tryz.func258 O Y O O O ?_;refine ap hcc ?_;refine G hz ?_
 (repeat ((fail_if_success (with_reducible refine aR 5 ?_));refine cu O ?_))
 refine ar (Ghost.move (k:=2) (k':=1002) (t:=2) O O O O) ?_;refine ar (Ghost.move (k:=3) (k':=1003) (t:=3) O O O O) ?_;refine ar (Ghost.move (k:=4) (k':=1004) (t:=4) O O O O) ?_;refine ar (Ghost.move (k:=7) (k':=1007) (t:=7) O O O O) ?_
 ((repeat ((fail_if_success (with_reducible refine aR 5 ?_));refine cu O ?_));refine aN 2 ?_)
 iterate 2 refine eg O ?_
 refine aT ?_;refine bc O (cG layOk O O Go.Proofs.Tryz.func284 O Y O O ?_)
 (repeat ((fail_if_success (with_reducible refine aR 1 ?_));refine cu O ?_))
 refine ar (Ghost.move (k:=2) (k':=2002) (t:=2) O O O O) ?_;refine ar (Ghost.move (k:=3) (k':=2003) (t:=3) O O O O) ?_;refine H ?_;refine pW O O ?_;refine aQ ?_;refine H ?_;refine bq [(7,.ptr 1007 1 0 0),(4,.ptr 1004 1 0 0),(19,.clo 291 [.ptr 2002 1 0 0,.ptr 2003 1 0 0])] [(2002,1,⟨134,2,[eC c],2⟩),(2003,1,⟨42,4,[eR y],2⟩),(1004,1,⟨42,4,[[.bool false,.nil,.bool false,.nil]],2⟩),(1007,1,⟨42,4,[eR (ofQ 0)],2⟩)] ⟨O,O,O,O,O,O,O,trivial⟩ ?_;intro s3;refine sn (o_ (ps:=#[20,21]) (asg:=DY.2.1) (body:=DY.2.2) 2000 O Go.Proofs.Tryz.func291 O O O O O O ?_);generalize hq0:(s3.own 2000).1+1=q0;refine nq (q:=q) (n:=n) (q0:=q0) (q2:=1) (q3:=1) (g4:=1) (g7:=1) c hc y hy J hSM (fun i=>ofQ (aq (cO c.s c.m q) i)) _ ⟨by rw[<-hq0];rfl,O,O,O,O,trivial⟩ ?_ ?_
 .intro i hi hpos b4 bf;have hmul:=ej (ofQ (c.m i-bE c.m i)) (ofQ (q-c.s i)) (hx:=Vq.ofQ (h:=ni hc i)) (hy:=Vq.ofQ (h:=zC hc hy.hq i)) Y J;have hadd:=di (ofQ (aq (cO c.s c.m q) i)) (ofQ ((c.m i-bE c.m i)*(q-c.s i))) (hx:=hsum i J) (hy:=Vq.ofQ (h:=@HQ.mul _ _ 27 (n+1+5) (ni hc i) (zC hc hy.hq i))) (by have:=Nat.mul_le_mul (show i<=40 by omega) (show n+1+32+1<=100034 by omega);omega) J;rw[show aq (cO c.s c.m q) i+(c.m i-bE c.m i)*(q-c.s i)=aq (cO c.s c.m q) (i+1) by rw[aq,cO,if_neg hpos]]at hadd;exact s8 (s0:=s3.over [(4,.ptr 1004 1 0 0),(19,.clo 291 [.ptr 2002 1 0 0,.ptr 2003 1 0 0])] []) hmul hadd
 .intro i hi hor b4 bf s2 hf;have hres:aq (cO c.s c.m q) i=iO c.S.length c.s c.m q:=o9 hasc (fun k hk=>by rw[cO,if_pos hk]) hi hor;dsimp only at hf;rw[hres]at hf;rw[<-Fit.over (l:=[]) hf];exact bL
namespace Bd
variable {b:Bd}
end Bd
namespace Bd
variable {b:Bd}
def lim (b:Bd)(i:Nat):Prop:=bE (b.M i) (b.n i)=0
def cap (b:Bd)(i:Nat):Rat:=nV (b.n i) (b.S i) (b.M i)
end Bd
def InR (n:Nat)(S:Nat->Rat)(p:Nat)(y:Rat):Prop:=p<=n/\(∀k,p=k+1->S k<=y)/\(p<n->y<S p)
section
variable {n:Nat}{S M:Nat->Rat}{y:Rat}{p:Nat}
theorem InR.c (h:InR n S p y):DS n S p y:=⟨h.1,h.2.1,fun hp=>by have:=h.2.2 hp;grind⟩
theorem InR.some (h:Crv n S M)(y:Rat):∀(m:Nat),m<=n->∃p,p<=m/\(∀k,p=k+1->S k<=y)/\(p<m->y<S p)
 |0,_=>⟨0,aO,fun k hk=>by omega,fun hk=>by omega⟩
 |m+1,hm=>by
  by_cases hy:S m<=y
  .exact⟨m+1,aO,fun k hk=>by
    have:k=m:=J
    subst this;exact hy,fun hk=>by omega⟩
  .obtain⟨p,h1,h2,h3⟩:=InR.some h y m J;refine⟨p,J,h2,fun _=>?_⟩;by_cases hp:p<m
   .exact h3 hp
   .have:p=m:=J;subst this;grind
theorem InR.get (h:Crv n S M)(y:Rat):∃p,InR n S p y:=InR.some h y n (aO)
end
namespace Bd
variable {b:Bd}
theorem exclude (h:b.Ok){z t A B:Rat}(hb:b.Bal z t)(hl:∀i,i<b.N->0<A+B*b.X i->b.lim i):b.w*(A+B*b.A)<=aq (fun i=>if 0<A+B*b.X i then b.cap i*(A+B*b.X i) else 0) b.N:=by
 have h1:b.w*(A+B*b.A)=aq (fun i=>b.f z t i*(A+B*b.X i)) b.N:=by
  have h2:=sU (f:=fun i=>b.f z t i*A) (g:=fun i=>b.f z t i*b.X i*B) (n:=b.N);rw[nK (f:=b.f z t),nK (f:=fun i=>b.f z t i*b.X i)]at h2;have h3:aq (fun i=>b.f z t i*(A+B*b.X i)) b.N=aq (fun i=>b.f z t i*A+b.f z t i*b.X i*B) b.N:=fB fun i _=>by grind
  rw[h3,h2];have e1:aq (b.f z t) b.N=b.w:=hb.1;have e2:aq (fun i=>b.f z t i*b.X i) b.N=b.w*b.A:=hb.2;rw[e1,e2];grind
 rw[h1];refine mq fun i hi=>?_;have hnn:=Fk h (z:=z) (t:=t) hi;split
 .rename_i hv;have hc:=h.crv i hi;have hle:b.f z t i<=b.cap i:=by
   obtain⟨q,hq⟩:∃q,b.y z t i<=q/\DS (b.n i) (b.S i) (b.n i) q:=by
    cases hn:b.n i with
    |zero=>exact⟨b.y z t i,Rat.le_refl,⟨aO,fun k hk=>by omega,fun hk=>by omega⟩⟩
    |succ k=>exact⟨b.y z t i+fv (b.S i k-b.y z t i),by simp only[fv];grind,⟨aO,fun k' hk'=>by
      obtain rfl:k=k':=J
      simp only[fv];grind,fun hk=>by omega⟩⟩
   have:=s7 hc hq.1;rw[AJ hc hq.2 (hl i hi hv)]at this;exact this
  have:=Rat.mul_nonneg (show 0<=b.cap i-b.f z t i by grind) (Rat.le_of_lt hv);grind
 .rename_i hv;have:=Rat.mul_nonneg hnn (show 0 <= -(A+B*b.X i) by grind);grind
end Bd
namespace Bd
structure Sz (b:Bd):Prop where
 N:b.N<=10
 n:∀i,i<b.N->b.n i<=5
 X:∀i,i<b.N->hq (b.X i) 4
 C:∀i,i<b.N->hq (b.C i) 9
 S:∀i,i<b.N->∀k,k<b.n i->hq (b.S i k) 4
 M:∀i,i<b.N->∀k,k<b.n i->hq (b.M i k) 4
 w:hq b.w 4
 A:hq b.A 8
variable {b:Bd}
theorem Sz.k (h:b.Sz){p:Nat->Nat}(hp:∀i,i<b.N->p i<=b.n i){i:Nat}(hi:i<b.N):HQ (b.k p i) 4:=by
 rw[Bd.k];have h1:=hp i hi;cases hpi:p i with
 |zero=>rw[bE];exact HQ.zero
 |succ m=>exact⟨h.M i hi m J⟩
theorem Sz.bef (h:b.Sz){i:Nat}(hi:i<b.N){k:Nat}(hk:k<b.n i):HQ (bE (b.M i) k) 4:=by
 cases k with
 |zero=>rw[bE];exact HQ.zero
 |succ m=>exact⟨h.M i hi m J⟩
theorem Sz.o (h:b.Sz){p:Nat->Nat}(hp:∀i,i<b.N->p i<=b.n i){i:Nat}(hi:i<b.N):HQ (b.o p i) 74:=by
 rw[Bd.o,kz];have h1:=hp i hi;have h2:=h.n i hi;refine(bD (m:=13) (p i) fun k hk=>?_).mono J;have:=h.bef hi (k:=k) J;have:HQ (b.M i k) 4:=⟨h.M i hi k J⟩;have:HQ (b.S i k) 4:=⟨h.S i hi k J⟩;show HQ ((b.M i k-bE (b.M i) k)*b.S i k) 13;exact inferInstanceAs (HQ ((b.M i k-bE (b.M i) k)*b.S i k) (4+4+1+4))
theorem Sz.Kh (h:b.Sz){p:Nat->Nat}(hp:∀i,i<b.N->p i<=b.n i):HQ (b.Kh p) 54:=by
 have:=h.N;exact(bD (m:=4) b.N fun i hi=>h.k hp hi).mono J
theorem Sz.Kc (h:b.Sz){p:Nat->Nat}(hp:∀i,i<b.N->p i<=b.n i):HQ (b.Kc p) 94:=by
 have:=h.N;refine(bD (m:=8) b.N fun i hi=>?_).mono J;have:=h.k hp hi;have:HQ (b.X i) 4:=⟨h.X i hi⟩;exact inferInstanceAs (HQ (b.k p i*b.X i) (4+4))
theorem Sz.Kp (h:b.Sz){p:Nat->Nat}(hp:∀i,i<b.N->p i<=b.n i):HQ (b.Kp p) 134:=by
 have:=h.N;refine(bD (m:=12) b.N fun i hi=>?_).mono J;have:=h.k hp hi;have:HQ (b.X i) 4:=⟨h.X i hi⟩;exact inferInstanceAs (HQ (b.k p i*b.X i*b.X i) (4+4+4))
theorem Sz.Fo (h:b.Sz){p:Nat->Nat}(hp:∀i,i<b.N->p i<=b.n i):HQ (b.Fo p) 894:=by
 have:=h.N;refine(bD (m:=88) b.N fun i hi=>?_).mono J;have:=h.k hp hi;have:=h.o hp hi;have:HQ (b.C i) 9:=⟨h.C i hi⟩;exact inferInstanceAs (HQ (b.k p i*b.C i-b.o p i) (4+9+74+1))
theorem Sz.Go (h:b.Sz){p:Nat->Nat}(hp:∀i,i<b.N->p i<=b.n i):HQ (b.Go p) 934:=by
 have:=h.N;refine(bD (m:=92) b.N fun i hi=>?_).mono J;have:=h.k hp hi;have:=h.o hp hi;have:HQ (b.C i) 9:=⟨h.C i hi⟩;have:HQ (b.X i) 4:=⟨h.X i hi⟩;exact inferInstanceAs (HQ ((b.k p i*b.C i-b.o p i)*b.X i) (4+9+74+1+4))
end Bd
def oW (S:Nat->Rat)(y:Rat):Nat->Nat
 |0=>0
 |m+1=>if S m<y then m+1 else oW S y m
def lY (S:Nat->Rat)(y:Rat):Nat->Nat
 |0=>0
 |m+1=>if S m<=y then m+1 else lY S y m
theorem r9 {S:Nat->Rat}{y:Rat}:∀m,oW S y m<=m/\(∀k,oW S y m=k+1->S k<y)/\(oW S y m<m->y<=S (oW S y m))
 |0=>⟨aO,fun k hk=>by simp[oW]at hk,fun h=>by simp[oW]at h⟩
 |m+1=>by
  obtain⟨h1,h2,h3⟩:=r9 (S:=S) (y:=y) m;rw[oW];split
  .rename_i hy;exact⟨aO,fun k hk=>by
    have:k=m:=J
    subst this;exact hy,fun h=>by omega⟩
  .rename_i hy;refine⟨J,h2,fun _=>?_⟩;by_cases hp:oW S y m<m
   .exact h3 hp
   .rw[show oW S y m=m by omega];grind
theorem sa {S:Nat->Rat}{y:Rat}:∀m,lY S y m<=m/\(∀k,lY S y m=k+1->S k<=y)/\(lY S y m<m->y<S (lY S y m))
 |0=>⟨aO,fun k hk=>by simp[lY]at hk,fun h=>by simp[lY]at h⟩
 |m+1=>by
  obtain⟨h1,h2,h3⟩:=sa (S:=S) (y:=y) m;rw[lY];split
  .rename_i hy;exact⟨aO,fun k hk=>by
    have:k=m:=J
    subst this;exact hy,fun h=>by omega⟩
  .rename_i hy;refine⟨J,h2,fun _=>?_⟩;by_cases hp:lY S y m<m
   .exact h3 hp
   .rw[show lY S y m=m by omega];grind
theorem zm {n:Nat}{S:Nat->Rat}{y:Rat}:InL n S (oW S y n) y:=r9 n
theorem Dl {n:Nat}{S:Nat->Rat}{y:Rat}:InR n S (lY S y n) y:=sa n
theorem InL.uniq {n:Nat}{S M:Nat->Rat}(h:Crv n S M){p q:Nat}{y:Rat}(h1:InL n S p y)(h2:InL n S q y):p=q:=by
 have key:∀ {p q:Nat},InL n S p y->InL n S q y->p<q->False:=by
  intro p q h1 h2 hlt;obtain⟨k,rfl⟩:∃k,q=k+1:=⟨q-1,J⟩;have g1:=h2.2.1 k O;have g2:=h1.2.2 (by have:=h2.1;omega);have:=h.mono_st (i:=p) (j:=k) J (by have:=h2.1;omega);grind
 rcases Nat.lt_trichotomy p q with g|g|g
 .exact(key h1 h2 g).elim
 .exact g
 .exact(key h2 h1 g).elim
theorem InR.uniq {n:Nat}{S M:Nat->Rat}(h:Crv n S M){p q:Nat}{y:Rat}(h1:InR n S p y)(h2:InR n S q y):p=q:=by
 have key:∀ {p q:Nat},InR n S p y->InR n S q y->p<q->False:=by
  intro p q h1 h2 hlt;obtain⟨k,rfl⟩:∃k,q=k+1:=⟨q-1,J⟩;have g1:=h2.2.1 k O;have g2:=h1.2.2 (by have:=h2.1;omega);have:=h.mono_st (i:=p) (j:=k) J (by have:=h2.1;omega);grind
 rcases Nat.lt_trichotomy p q with g|g|g
 .exact(key h1 h2 g).elim
 .exact g
 .exact(key h2 h1 g).elim
namespace Bd
def pL (b:Bd)(z t:Rat)(i:Nat):Nat:=oW (b.S i) (b.y z t i) (b.n i)
def pR (b:Bd)(z t:Rat)(i:Nat):Nat:=lY (b.S i) (b.y z t i) (b.n i)
def newt (kh kc kp fo mo:Rat):Option (Rat × Rat):=if kh*kp-kc*kc=0 then none else some ((kp*fo-kc*mo)/(kh*kp-kc*kc),(kh*mo-kc*fo)/(kh*kp-kc*kc))
def tryP (b:Bd)(z t:Rat)(p:Nat->Nat):Option (Rat × Rat):=match newt (b.Kh p) (b.Kc p) (b.Kp p) (b.w-b.F z t) (-(b.e z t)) with
 |none=>none
 |some d=>if b.F (z+d.1) (t+d.2)=b.w/\b.G0 (z+d.1) (t+d.2)=b.w*b.A then some (z+d.1,t+d.2) else none
def guess (b:Bd)(z t:Rat):Option (Rat × Rat):=match b.tryP z t (b.pR z t) with
 |some x=>some x
 |none=>b.tryP z t (b.pL z t)
noncomputable def sg (b:Bd)(t:Rat):Rat:=Classical.epsilon fun z=>b.Least z t
noncomputable def E (b:Bd)(t:Rat):Rat:=b.e (b.sg t) t
open Classical in
noncomputable def dbl (b:Bd)(s:Rat):Nat->Rat->Option Rat
 |0,_=>none
 |n+1,w=>if s*b.E (s*w)<0 then dbl b s n (w+w) else some w
noncomputable def at1 (b:Bd)(t:Rat):Option (Rat × Rat):=if b.E t=0 then some (b.sg t,t) else b.guess (b.sg t) t
noncomputable def bis (b:Bd):Nat->Rat->Rat->Option (Rat × Rat)
 |0,_,_=>none
 |n+1,lo,hi=>match b.at1 ((lo+hi)/2) with
  |some x=>some x
  |none=>if b.E ((lo+hi)/2)<0 then bis b n ((lo+hi)/2) hi else bis b n lo ((lo+hi)/2)
noncomputable def fst3 (b:Bd)(lo hi:Rat):Option (Rat × Rat):=match b.at1 0 with
 |some x=>some x
 |none=>match b.at1 lo with
  |some x=>some x
  |none=>b.at1 hi
variable {b:Bd}
theorem z_ {t:Rat}(h:∃z,b.Least z t):b.Least (b.sg t) t:=Classical.epsilon_spec h
theorem sg_eq {z t:Rat}(h:b.Least z t):b.sg t=z:=Least.uniq (z_ ⟨z,h⟩) h
noncomputable def eqQ (b:Bd)(n:Nat):Option (Rat × Rat):=match b.dbl (-1) n 1,b.dbl 1 n 1 with
 |some wl,some wh=>(match b.fst3 (-wl) wh with
  |some x=>some x
  |none=>b.bis n (-wl) wh)
 |_,_=>none
end Bd
def dB:List (Rat × Rat)->Rat->Rat
 |[],_=>0
 |x::l,z=>x.2*fv (z-x.1)+dB l z
def j6:List (Rat × Rat)->Rat
 |[]=>0
 |x::l=>x.2+j6 l
theorem iz (l m:List (Rat × Rat))(z:Rat):dB (l++m) z=dB l z+dB m z:=by
 induction l with
 |nil=>rw[List.nil_append,dB];grind
 |cons x l ih=>rw[List.cons_append,dB,dB,ih];grind
theorem q_ (l m:List (Rat × Rat)):j6 (l++m)=j6 l+j6 m:=by
 induction l with
 |nil=>rw[List.nil_append,j6];grind
 |cons x l ih=>rw[List.cons_append,j6,j6,ih];grind
theorem wN {l m:List (Rat × Rat)}(h:l.Perm m)(z:Rat):dB l z=dB m z:=by
 induction h with
 |nil=>rfl
 |cons x _ ih=>rw[dB,dB,ih]
 |swap x y l=>simp only[dB];grind
 |trans _ _ h1 h2=>rw[h1,h2]
theorem jJ {l:List (Rat × Rat)}{z:Rat}(h:∀x∈l,z<=x.1):dB l z=0:=by
 induction l with
 |nil=>rfl
 |cons x l ih =>
  have h1:=h x ah;rw[dB,ih fun y hy=>h y (by simp[hy]),fv,if_neg cH];grind
theorem lR {l:List (Rat × Rat)}{a z:Rat}(h:∀x∈l,x.1<=a)(hz:a<=z):dB l z=dB l a+j6 l*(z-a):=by
 induction l with
 |nil=>simp only[dB,j6];grind
 |cons x l ih =>
  have h1:=h x ah;have e1:fv (z-x.1)=z-x.1:=by rw[fv];grind
  have e2:fv (a-x.1)=a-x.1:=by rw[fv];grind
  simp only[dB,j6];rw[ih fun y hy=>h y (by simp[hy]),e1,e2];grind
def xZ (w:Rat):List (Rat × Rat)->Rat->Rat->Rat->Rat
 |[],c,k,a=>if 0<k then a+(w-c)/k else a
 |x::l,c,k,a=>if 0<k then(if w<=c+k*(x.1-a) then a+(w-c)/k else xZ w l (c+k*(x.1-a)) (k+x.2) x.1) else xZ w l c (k+x.2) x.1
theorem CA {Φ:Rat->Rat}{w c k a:Rat}(hm:∀x y,x<=y->Φ x<=Φ y)(ha:Φ a=c)(hc:c<w)(hk:0<k)(hu:∀z,a<=z->z<=a+(w-c)/k->Φ z=c+k*(z-a)):Φ (a+(w-c)/k)=w/\∀z',z'<a+(w-c)/k->Φ z'<w:=by
 have hq:(w-c)/k*k=w-c:=Rat.div_mul_cancel cH;have h0:0<=(w-c)/k:=by rw[Rat.div_def];exact Rat.mul_nonneg cH (Rat.le_of_lt (Rat.inv_pos.2 hk))
 generalize (w-c)/k=d at *
 refine⟨by rw[hu _ cH Rat.le_refl];grind,fun z' hz=>?_⟩;rcases Classical.em (a<=z') with h|h
 .rw[hu z' h cH];have:=Rat.mul_pos hk (show 0<a+d-z' by grind);grind
 .have:=hm z' a cH;grind
theorem DG {w:Rat}{Φ:Rat->Rat}(hm:∀x y,x<=y->Φ x<=Φ y)(hw:0<w)(hex:∃z,w<=Φ z):∀(R P:List (Rat × Rat)) (c k a:Rat),(∀z,Φ z=dB P z+dB R z)->R.Pairwise (fun x y=>x.1<=y.1) ->
  ((P=[]/\c=0/\k=0)\/((∀x∈P,x.1<=a)/\(∀x∈R,a<=x.1)/\Φ a=c/\c<w/\k=j6 P))->Φ (xZ w R c k a)=w/\∀z',z'<xZ w R c k a->Φ z'<w:=by
 intro R
 induction R with
 |nil =>
  intro P c k a hΦ _ h;obtain⟨z0,hz0⟩:=hex;rcases h with⟨rfl,rfl,rfl⟩|⟨h1,_,h3,h4,h5⟩
  .exfalso;rw[hΦ]at hz0;simp only[dB]at hz0;grind
  .have hline:∀z,a<=z->Φ z=c+k*(z-a):=fun z hz=>by
    have e1:=hΦ z;have e2:=hΦ a;rw[lR h1 hz,<-h5]at e1;simp only[dB]at e1 e2;grind
   rw[xZ];split
   .rename_i hk;exact CA hm h3 h4 hk fun z hz _=>hline z hz
   .rename_i hk;exfalso;rcases Classical.em (a<=z0) with hz|hz
    .rw[hline z0 hz]at hz0;have:=Rat.mul_nonneg (show 0 <= -k by grind) (show 0<=z0-a by grind);grind
    .have:=hm z0 a cH;grind
 |cons x R ih =>
  intro P c k a hΦ hs h;rw[List.pairwise_cons]at hs;have hΦ':∀z,Φ z=dB (P++[x]) z+dB R z:=fun z=>by
   rw[hΦ,iz];simp only[dB];grind
  rcases h with⟨rfl,rfl,rfl⟩|⟨h1,h2,h3,h4,h5⟩
  .rw[xZ,if_neg cH];refine ih ([]++[x]) 0 (0+x.2) x.1 hΦ' hs.2 (.inr ⟨fun y hy=>by simp at hy;subst hy;exact Rat.le_refl,fun y hy=>hs.1 y hy,?_,hw,by simp only[j6,List.nil_append];grind⟩);rw[hΦ,jJ (l:=x::R) fun y hy=>?_]
   .simp only[dB];grind
   .rcases List.mem_cons.1 hy with rfl|hy
    .exact Rat.le_refl
    .exact hs.1 y hy
  .have hax:=h2 x ah;have hline:∀z,a<=z->z<=x.1->Φ z=c+k*(z-a):=fun z hz hzx=>by
    have e1:=hΦ z;have e2:=hΦ a;rw[lR h1 hz,<-h5,jJ (l:=x::R) fun y hy=>?_]at e1
    .rw[jJ (l:=x::R) fun y hy=>h2 y hy]at e2;grind
    .rcases List.mem_cons.1 hy with rfl|hy
     .exact hzx
     .have:=hs.1 y hy;grind
   have hx1:=hline x.1 hax Rat.le_refl;have hP:∀y∈P++[x],y.1<=x.1:=fun y hy=>by
    rcases List.mem_append.1 hy with hy|hy
    .have:=h1 y hy;grind
    .simp at hy;subst hy;exact Rat.le_refl
   have hcs:k+x.2=j6 (P++[x]):=by rw[q_,<-h5];simp only[j6];grind
   rw[xZ];split
   .rename_i hk;split
    .rename_i hle;refine CA hm h3 h4 hk fun z hz hz2=>hline z hz ?_;have hq:(w-c)/k*k=w-c:=Rat.div_mul_cancel cH;generalize (w-c)/k=d at *
     rcases Classical.em (z<=x.1) with hc|hc
     .exact hc
     .have:=Rat.mul_pos hk (show 0<a+d-x.1 by grind);grind
    .rename_i hlt;exact ih (P++[x]) _ _ _ hΦ' hs.2 (.inr ⟨hP,fun y hy=>hs.1 y hy,hx1,cH,hcs⟩)
   .rename_i hk;have h6:=hm a x.1 hax;have h7:=Rat.mul_nonneg (show 0 <= -k by grind) (show 0<=x.1-a by grind);exact ih (P++[x]) _ _ _ hΦ' hs.2 (.inr ⟨hP,fun y hy=>hs.1 y hy,cH,h4,hcs⟩)
namespace Bd
variable {b:Bd}
def bnd1 (b:Bd)(t:Rat)(i:Nat):List (Rat × Rat):=(List.range (b.n i)).map fun k=>(b.S i k-(b.C i+t*b.X i),b.M i k-bE (b.M i) k)
def bnds (b:Bd)(t:Rat):List (Rat × Rat):=(List.range b.N).flatMap (b.bnd1 t)
theorem yh (b:Bd)(z t:Rat)(i:Nat):dB (b.bnd1 t i) z=b.f z t i:=by
 have key:∀m,dB ((List.range m).map fun k=>(b.S i k-(b.C i+t*b.X i),b.M i k-bE (b.M i) k)) z=aq (cO (b.S i) (b.M i) (b.y z t i)) m:=by
  intro m
  induction m with
  |zero=>rfl
  |succ m ih =>
   rw[List.range_succ,List.map_append,iz,ih,aq,lq];simp only[List.map_cons,List.map_nil,dB];rw[show z-(b.S i m-(b.C i+t*b.X i))=b.y z t i-b.S i m by rw[y];grind];grind
 exact key (b.n i)
theorem yi (b:Bd)(z t:Rat):dB (b.bnds t) z=b.F z t:=by
 have key:∀m,dB ((List.range m).flatMap (b.bnd1 t)) z=aq (b.f z t) m:=by
  intro m
  induction m with
  |zero=>rfl
  |succ m ih =>
   rw[List.range_succ,List.flatMap_append,iz,ih,aq];simp only[List.flatMap_cons,List.flatMap_nil,List.append_nil,yh]
 exact key b.N
theorem settled_least (h:b.Ok){t:Rat}(hex:∃z,b.w<=b.F z t){l:List (Rat × Rat)}(hp:l.Perm (b.bnds t))(hs:l.Pairwise fun x y=>x.1<=y.1):b.Least (xZ b.w l 0 0 0) t:=by
 refine DG (Φ:=fun z=>b.F z t) (fun x y hxy=>CS h hxy) h.pos hex l [] 0 0 0 (fun z=>?_) hs (.inl ⟨O,O,O⟩);rw[wN hp,yi,dB];grind
end Bd
def uQ (n:Nat)(S:Nat->Rat)(y:Rat)(k:Nat):Rat:=fv (uo S n y k-S k)
def Dj (n:Nat)(S M:Nat->Rat)(y:Rat)(k:Nat):Rat:=M k*(uQ n S y k*(y-S k)-uQ n S y k*uQ n S y k/2)
def F4 (n:Nat)(S M:Nat->Rat)(y:Rat):Rat:=aq (Dj n S M y) n
namespace Bd
variable {b:Bd}
def U (b:Bd)(z t:Rat):Rat:=aq (fun i=>F4 (b.n i) (b.S i) (b.M i) (b.y z t i)) b.N-b.w*(z+t*b.A)
end Bd
def fR (S M:Nat->Rat)(y:Rat)(k:Nat):Rat:=if y-S k<0 then 0 else M k-bE M k
def Ae (n:Nat)(S M:Nat->Rat)(y:Rat):Rat:=aq (fR S M y) n
theorem BW {c:CR}(hc:c.Lim)(q:Rat)(k:Nat):HQ (fR c.s c.m q k) 27:=by
 rw[fR];split
 .exact HQ.zero.mono J
 .exact ni hc k
noncomputable def DV:Array Tmp × Code × Code:=(lQ ((Tryz.f281.body).getD .skip)).getD (#[],.skip,.skip)
set_option maxRecDepth 20000 in
theorem sP {s0:St}{q0 q2 q3 g4 g7 b4:Nat}{x2 x3 x1004:Cont}{bf V0 V1 CH FA:RR}(hadd:Ret Tryz.prog .shared 91 [.agg (eR V0),.agg (eR CH)] (.agg (eR V1))) :
  vf Tryz.prog (s0.over [(7,.ptr 1007 g7 0 0)] []) q0 q2 q3 g4 g7 b4 19 20 DV.2.1 DV.2.2 x2 x3 x1004 bf V0 V1 CH FA:=by
 intro own hf mA hPost;have ho:own=(St.over { reg:=fun _ => .raw undef,own:=own } [] (CC q0 q2 q3 g4 g7 b4 (bV #[19,20] DV.2.1 DV.2.2 .ready none (s0.over [(7,.ptr 1007 g7 0 0)] []).reg) x2 x3 x1004 bf V0)).own:=congrArg St.own (Fit.over hf).symm;rw[ho];clear ho hf;generalize (St.mk (fun _ => .raw undef) own)=s1;refine H ?_;refine⟨O,?_⟩;refine G hadd ?_;refine H ?_;exact hPost _ ⟨O,O,O,O,O,O,trivial⟩
set_option maxRecDepth 20000 in
theorem xw (c:CR)(hc:c.Lim)(h0:cx c=0)(y:RR){q:Rat}{n:Nat}[hy:Vq y q n](hn:n<=100000):Ret Tryz.prog .shared 281 [.agg (eC c),.agg (eR y)] (.tup [.agg (eR (ofQ (Ae c.S.length c.s c.m q))),I 0]):=by
 have hcc:=dU c hc;rw[h0]at hcc;obtain⟨h40,hSM,-,hasc⟩:=dW h0;have hz:=et 0 Y Y;rw[show(((0:Int):Rat))=0 from O]at hz;have hsum:∀i,i<=40->Vq (ofQ (aq (fR c.s c.m q) i)) (aq (fR c.s c.m q) i) (i*(27+1)+4):=fun i _=>Vq.ofQ (h:=bD i fun k _=>BW hc q k);refine Ret.of_pwpR layOk mixed Go.Proofs.Tryz.func281 O Y O O O ?_;refine ap hcc ?_;refine G hz ?_
 (repeat ((fail_if_success (with_reducible refine aR 5 ?_));refine cu O ?_))
 refine ar (Ghost.move (k:=2) (k':=1002) (t:=2) O O O O) ?_;refine ar (Ghost.move (k:=3) (k':=1003) (t:=3) O O O O) ?_;refine ar (Ghost.move (k:=4) (k':=1004) (t:=4) O O O O) ?_;refine ar (Ghost.move (k:=7) (k':=1007) (t:=7) O O O O) ?_
 ((repeat ((fail_if_success (with_reducible refine aR 5 ?_));refine cu O ?_));refine aN 2 ?_)
 iterate 2 refine eg O ?_
 refine aT ?_;refine bc O (cG layOk O O Go.Proofs.Tryz.func284 O Y O O ?_)
 (repeat ((fail_if_success (with_reducible refine aR 1 ?_));refine cu O ?_))
 refine ar (Ghost.move (k:=2) (k':=2002) (t:=2) O O O O) ?_;refine ar (Ghost.move (k:=3) (k':=2003) (t:=3) O O O O) ?_;refine H ?_;refine pW O O ?_;refine aQ ?_;refine H ?_;refine bq [(7,.ptr 1007 1 0 0),(4,.ptr 1004 1 0 0),(18,.clo 291 [.ptr 2002 1 0 0,.ptr 2003 1 0 0])] [(2002,1,⟨134,2,[eC c],2⟩),(2003,1,⟨42,4,[eR y],2⟩),(1004,1,⟨42,4,[[.bool false,.nil,.bool false,.nil]],2⟩),(1007,1,⟨42,4,[eR (ofQ 0)],2⟩)] ⟨O,O,O,O,O,O,O,trivial⟩ ?_;intro s3;refine sn (o_ (ps:=#[19,20]) (asg:=DV.2.1) (body:=DV.2.2) 2000 O Go.Proofs.Tryz.func291 O O O O O O ?_);generalize hq0:(s3.own 2000).1+1=q0;refine nq (q:=q) (n:=n) (q0:=q0) (q2:=1) (q3:=1) (g4:=1) (g7:=1) c hc y hy J hSM (fun i=>ofQ (aq (fR c.s c.m q) i)) _ ⟨by rw[<-hq0];rfl,O,O,O,O,trivial⟩ ?_ ?_
 .intro i hi hpos b4 bf;have hadd:=di (ofQ (aq (fR c.s c.m q) i)) (ofQ (c.m i-bE c.m i)) (hx:=hsum i J) (hy:=Vq.ofQ (h:=ni hc i)) J Y;rw[show aq (fR c.s c.m q) i+(c.m i-bE c.m i)=aq (fR c.s c.m q) (i+1) by rw[aq,fR,if_neg hpos]]at hadd;exact sP (s0:=s3.over [(4,.ptr 1004 1 0 0),(18,.clo 291 [.ptr 2002 1 0 0,.ptr 2003 1 0 0])] []) hadd
 .intro i hi hor b4 bf s2 hf;have hres:aq (fR c.s c.m q) i=Ae c.S.length c.s c.m q:=o9 hasc (fun k hk=>by rw[fR,if_pos hk]) hi hor;dsimp only at hf;rw[hres]at hf;rw[<-Fit.over (l:=[]) hf];exact bL
def Weak (a b:PV):Prop:=∀(w:World) (ok:Nat->Prop) (v:Value),DRep w ok a v->DRep w ok b v
theorem Weak.rfl (a:PV):Weak a a:=fun _ _ _ h=>h
theorem Weak.nil:Weak .nil (.sl []):=fun w ok v h=>by cases h;exact .sl0 none 0
inductive WeakL:List PV->List PV->Prop
 |nil:WeakL [] []
 |cons {a b:PV} {l m:List PV}:Weak a b->WeakL l m->WeakL (a::l) (b::m)
theorem WeakL.refl:∀l,WeakL l l
 |[] => .nil
 |a::l => .cons (.rfl a) (WeakL.refl l)
theorem WeakL.spec {l m:List PV}(h:WeakL l m):l.length=m.length/\∀(i:Nat) (b:PV),m[i]? = some b->∃a,l[i]? = some a/\Weak a b:=by
 induction h with
 |nil=>exact⟨by rfl,fun i b hb=>by simp at hb⟩
 |cons h1 _ ih =>
  refine⟨by simp[ih.1],fun i b hb=>?_⟩;cases i with
  |zero=>simp at hb;subst hb;exact⟨_,by rfl,h1⟩
  |succ i=>simpa using ih.2 i b (by simpa using hb)
theorem WeakL.agg {l m:List PV}(h:WeakL l m):Weak (.agg l) (.agg m):=fun w ok v hv=>by
 cases hv with
 |agg _ vs hl hd =>
  refine .agg _ vs (by rw[<-h.spec.1];exact hl) fun i c u hc hu=>?_;obtain⟨a,ha,hw⟩:=h.spec.2 i c hc;exact hw _ _ _ (hd i a u ha hu)
theorem WeakL.tup {l m:List PV}(h:WeakL l m):Weak (.tup l) (.tup m):=fun w ok v hv=>by
 cases hv with
 |tup _ vs hl hd =>
  refine .tup _ vs (by rw[<-h.spec.1];exact hl) fun i c u hc hu=>?_;obtain⟨a,ha,hw⟩:=h.spec.2 i c hc;exact hw _ _ _ (hd i a u ha hu)
theorem Ret.weak {P:Program}{m:Mode}{f:FuncId}{pargs pargs':List PV}{r r':PV}(h:Ret P m f pargs r')(ha:WeakL pargs' pargs)(hr:Weak r' r):Ret P m f pargs' r:=by
 obtain⟨hc,h⟩:=h;refine⟨hc,fun w X args hg hX hl hargs=>?_⟩;refine(h w X args hg hX (by rw[<-ha.spec.1];exact hl) fun i c v e1 e2=>?_).mono ?_
 .obtain⟨a,e3,hw⟩:=ha.spec.2 i c e1;exact hw _ _ _ (hargs i a v e3 e2)
 .rintro e w' ⟨u,h1,h2,h3⟩;exact⟨u,h1,h2,hr _ _ _ h3⟩
def zN:List PV:=[.bool false,.nil,.bool false,.nil]
theorem dH:WeakL zN (eR RR.zero) := .cons (.rfl _) (.cons .nil (.cons (.rfl _) (.cons .nil .nil)))
theorem bx (z:Int)(h:i64 z):Ret Tryz.prog .shared 199 [I z] (.agg (eR (ofQ (z:Rat)))):=by
 have ho:=p_ z h.1 h.2;have hw:=i7 (cn z) (by have:=iE (z:=z) (by obtain⟨h1,h2⟩:=h;omega);omega);rw[co]at hw;generalize ofQ (z:Rat)=X at *
 generalize cn z=Z at *
 refine Ret.of_pwp layOk mixed Go.Proofs.Tryz.func199 O Y O O ?_;refine G ho ?_;refine G hw ?_;exact bL
theorem nE (x:RR){p:Rat}{n:Nat}[hx:Vq x p n](hn:n<=8000000):Ret Tryz.prog .shared 202 [.agg (eR x)] (I (sgn p)):=by
 have hc:=mL x RR.zero hn Y;rw[Rat.sub_eq_add_neg,Rat.neg_zero,Rat.add_zero]at hc;have hc2:=hc.weak (.cons (.rfl _) (.cons dH.agg .nil)) (.rfl _);generalize sgn p=g at *
 refine Ret.of_pwp layOk mixed Go.Proofs.Tryz.func202 O Y O O ?_;refine ap hc2 ?_;exact bm
theorem r5 (x y:RR){p q:Rat}{n m:Nat}[hx:Vq x p n][hy:Vq y q m](hn:n<=20000000)(hm:m<=20000000)(h0:q≠0):Ret Tryz.prog .shared 207 [.agg (eR x),.agg (eR y)] (.agg (eR (ofQ (p/q)))):=by
 have hq:=so x y hn hm;rw[if_neg h0]at hq;generalize ofQ (p/q)=X at *
 refine Ret.of_pwp layOk mixed Go.Proofs.Tryz.func207 O Y O O ?_;refine G hq ?_;exact bL
theorem EF (x:RR){p:Rat}{n:Nat}[hx:Vq x p n](hn:n<=10000000):Ret Tryz.prog .shared 205 [.agg (eR x)] (.agg (eR (ofQ (-p)))):=by
 have hs:=lH RR.zero x Y hn;rw[Rat.sub_eq_add_neg,Rat.zero_add]at hs;have hs2:=hs.weak (.cons dH.agg (.cons (.rfl _) .nil)) (.rfl _);generalize ofQ (-p)=X at *
 refine Ret.of_pwp layOk mixed Go.Proofs.Tryz.func205 O Y O O ?_;refine G hs2 ?_;exact bL
theorem Bi (x:RR){p:Rat}{n:Nat}[hx:Vq x p n](hn:n<=10000000):Ret Tryz.prog .shared 233 [.agg (eR x)] (.agg (eR (ofQ p))):=by
 have hs:=di x RR.zero J Y;rw[Rat.add_zero]at hs;have hs2:=hs.weak (.cons (.rfl _) (.cons dH.agg .nil)) (.rfl _);generalize ofQ p=X at *
 refine Ret.of_pwp layOk mixed Go.Proofs.Tryz.func233 O Y O O ?_;refine G hs2 ?_;exact bL
structure SR.Lim (s:SR):Prop where
 x:i64 s.x
 c:s.c.sz 12
 k:s.k.Lim
def yQ (s:SR)(z t:Rat):Rat:=s.c.val+(z+t*(s.x:Rat))
theorem vO {s:SR}(hs:s.Lim){z t:Rat}{n m:Nat}(hz:HQ z n)(ht:HQ t m):HQ (yQ s z t) (13+(n+(m+4)+1)+1):=by
 have hx:Zb s.x:=aM hs.x.1 hs.x.2;exact @HQ.add _ _ 13 (n+(m+4)+1) hs.c.v.hq (@HQ.add _ _ n (m+4) hz (@HQ.mul _ _ m 4 ht HQ.int))
structure AR where
 z:RR
 t:RR
def eA (a:AR):List PV:=eR a.z++eR a.t
class Va (a:AR) (z t:outParam Rat) (n m:outParam Nat):Prop where
 z:Vq a.z z n
 t:Vq a.t t m
theorem kU (s:SR)(hs:s.Lim)(a:AR){z t:Rat}{n m:Nat}[ha:Va a z t n m](hn:n<=1000000)(hm:m<=1000000):Ret Tryz.prog .shared 259 [.agg (eS s),.agg (eA a)] (.agg (eR (ofQ (yQ s z t)))):=by
 have hx:Zb s.x:=aM hs.x.1 hs.x.2;have hzh:=ha.z.hq;have hth:=ha.t.hq;have hw:=bx s.x hs.x;have h1:=ej a.t (ofQ (s.x:Rat)) (hx:=ha.t) J Y;have v1:Vq (ofQ (t*(s.x:Rat))) (t*(s.x:Rat)) (m+1+4):=Vq.ofQ (h:=@HQ.mul _ _ (m+1) 4 hth HQ.int);have h2:=di a.z (ofQ (t*(s.x:Rat))) (hx:=ha.z) (hy:=v1) J J;have v2:Vq (ofQ (z+t*(s.x:Rat))) (z+t*(s.x:Rat)) (n+1+(m+1+4)+1):=Vq.ofQ (h:=@HQ.add _ _ (n+1) (m+1+4) hzh (@HQ.mul _ _ (m+1) 4 hth HQ.int));have h3:=di s.c (ofQ (z+t*(s.x:Rat))) (hx:=hs.c.v) (hy:=v2) Y J;rw[yQ];obtain⟨x,c,k⟩:=s;obtain⟨az,at'⟩:=a;simp only at *
 generalize ofQ (c.val+(z+t*(x:Rat)))=X3 at *
 generalize ofQ (z+t*(x:Rat))=X2 at *
 generalize ofQ (t*(x:Rat))=X1 at *
 generalize ofQ (x:Rat)=X0 at *
 refine Ret.of_pwp layOk mixed Go.Proofs.Tryz.func259 O Y O O ?_;refine bU 12 [5,6,7,8,9,10,11,12,13,14,15,16] ?_;refine G hw ?_;refine G h1 ?_;refine G h2 ?_;refine G h3 ?_;exact bL
def fQ (s:SR)(z t:Rat):Rat:=iO s.k.S.length s.k.s s.k.m (yQ s z t)
theorem wr (s:SR)(hs:s.Lim)(hk:cx s.k=0)(a:AR){z t:Rat}{n m:Nat}[ha:Va a z t n m](hn:n+m<=90000):Ret Tryz.prog .shared 213 [.agg (eS s),.agg (eA a)] (.agg (eR (ofQ (fQ s z t)))):=by
 have h1:=kU s hs a J J;have v1:Vq (ofQ (yQ s z t)) (yQ s z t) (13+(n+1+(m+1+4)+1)+1):=Vq.ofQ (h:=vO hs ha.z.hq ha.t.hq);have h2:=xN s.k hs.k hk (ofQ (yQ s z t)) (hy:=v1) J;rw[fQ];generalize ofQ (iO s.k.S.length s.k.s s.k.m (yQ s z t))=X2 at *
 generalize ofQ (yQ s z t)=X1 at *
 obtain⟨x,c,k⟩:=s;obtain⟨az,at'⟩:=a;simp only at *
 refine Ret.of_pwp layOk mixed Go.Proofs.Tryz.func213 O Y O O ?_;refine H ?_;refine bj [5] [9,10] br ?_;refine G h1 ?_;refine G h2 ?_;exact bL
theorem Ba (x:Int):Ret Tryz.prog .shared 244 [I x] (.bool (decide (x < -1000000\/1000000<x))):=by
 by_cases h1:x < -1000000
 .rw[decide_eq_true (.inl h1)];refine Ret.of_pwp layOk mixed Go.Proofs.Tryz.func244 O Y O O ?_;refine cY ?_ ?_<;>intro h
  .exact fE
  .exact absurd h1 (aF h)
 .rw[show decide (x < -1000000\/1000000<x)=decide (1000000<x) by rw[decide_eq_decide];omega];refine Ret.of_pwp layOk mixed Go.Proofs.Tryz.func244 O Y O O ?_;refine cY ?_ ?_<;>intro h
  .exact absurd (ax h) h1
  .exact fE
theorem mE (x:RR){p:Rat}{m:Nat}[hx:Vq x p m](hm:m<=1000000)(n:Int)(h0:0<=n)(h1:n<=1000000000):Ret Tryz.prog .shared 197 [.agg (eR x),I n] (.bool (decide (p < -(n:Rat)\/(n:Rat)<p))):=by
 have hw1:=bx (-n) ⟨J,J⟩;have hw2:=bx n ⟨J,J⟩;have z1:Zb (-n):=aM J J;have z2:Zb n:=aM J J;have hc1:=mL x (ofQ ((-n:Int):Rat)) J Y;have hc2:=mL x (ofQ (n:Rat)) J Y;have hn:IntKind.i64.wrap (0-n) = -n:=by rw[wrap_i64 J J];omega
 have e1:=f_ (p-((-n:Int):Rat));have e2:=gX (p-(n:Rat));have en:(((-n:Int)):Rat) = -(n:Rat):=by push_cast;rfl
 have key:decide (p < -(n:Rat)\/(n:Rat)<p)=(decide (sgn (p-((-n:Int):Rat))<0)||decide (0<sgn (p-(n:Rat)))):=by
  rw[<-Bool.decide_or,decide_eq_decide,e1,e2,en];constructor
  .rintro(h|h)
   .left;grind
   .right;grind
  .rintro(h|h)
   .left;grind
   .right;grind
 rw[key];generalize sgn (p-((-n:Int):Rat))=g1 at *
 generalize sgn (p-(n:Rat))=g2 at *
 generalize ofQ ((-n:Int):Rat)=W1 at *
 generalize ofQ (n:Rat)=W2 at *
 refine Ret.of_pwp layOk mixed Go.Proofs.Tryz.func197 O Y O O ?_;refine bU 14 [5,6,7,8,9,10,11,12,13,14,15,16,17,4] ?_;refine H ?_;rw[hn];refine nT O O O hw1 O O ?_;refine ap hc1 ?_;refine cY ?_ ?_<;>intro h
 .rw[h];clear h;exact fE
 .rw[h];clear h;refine G hw2 ?_;refine ap hc2 ?_;exact fE
def cK {α:Type}(f:α->Int):List α->Int
 |[]=>0
 |s::r=>if f s=0 then cK f r else f s
theorem rm {α:Type}(f:α->Int){l:List α}{i:Nat}{s:α}(h:l[i]? = some s):cK f (l.drop i)=if f s=0 then cK f (l.drop (i+1)) else f s:=by
 obtain⟨hl,rfl⟩:=be h;rw[List.drop_eq_getElem_cons hl,cK]
theorem jz {α:Type}{f:α->Int}:∀ {l:List α},cK f l=0->∀s∈l,f s=0
 |[],_,s,hs=>by cases hs
 |a::l,h,s,hs=>by
  rw[cK]at h;by_cases ha:f a=0
  .rw[if_pos ha]at h;rcases List.mem_cons.1 hs with rfl|hs
   .exact ha
   .exact jz h s hs
  .rw[if_neg ha]at h;exact absurd h ha
def kK (s:SR):Int:=if (s.x < -1000000\/1000000<s.x)\/(s.c.val < -((10000000:Int):Rat)\/((10000000:Int):Rat)<s.c.val) then 2 else cx s.k
def cg (l:List SR):Int:=if 100<l.length then 8 else cK kK l
def jm (l:List SR):Prop:=(∀s∈l,s.Lim)/\l.length<=1000000000
set_option maxRecDepth 20000 in
theorem ox (l:List SR)(hl:jm l):Ret Tryz.prog .shared 198 [.sl (l.map eS)] (I (cg l)):=by
 have hml:(l.map eS).length=l.length:=ah;generalize hE:cg l=E;rw[cg]at hE;obtain⟨hs,hll⟩:=hl;refine Ret.of_pwp layOk mixed Go.Proofs.Tryz.func198 O Y O O ?_;refine D ?_ ?_<;>intro h
 .have h1:=ax h;rw[if_pos J]at hE;subst hE;exact bm
 have h1:¬100<l.length:=by have h1:=aF h;omega
 clear h;rw[if_neg h1]at hE;refine H ?_;refine am (fun i:Nat=>i<=l.length/\cK kK (l.drop i)=E) (fun i=>[(9,.sl (l.map eS)),(10,I l.length),(11,I (i:Nat))]) (fun _=>[]) (fun i=>l.length-i) 0 ⟨Nat.zero_le _,by rw[List.drop_zero];exact hE⟩ ⟨O,by rw[<-hml];rfl,O,trivial⟩ ?_;intro i s ⟨hi,hF⟩;refine D ?_ ?_<;>intro h
 .have hlt:i<l.length:=by have:=ax h;omega
  clear h;obtain⟨x,hx⟩:=aG hlt;have hx':=hs x (aZ hx);rw[rm _ hx]at hF;have hfa:=Ba x.x;have hbe:=mE x.c (hx:=hx'.c.v) Y 10000000 Y Y;have hcc:=dU x.k hx'.k;have hw:=c_ i;have hse:kK x=kK x:=O
  conv at hse=>rhs;rw[kK]
  generalize kK x=se at *
  generalize cx x.k=ce at *
  by_cases hq1:x.x < -1000000\/1000000<x.x
  .rw[decide_eq_true hq1]at hfa;rw[if_pos (.inl hq1)]at hse;subst hse;rw[if_neg Y]at hF;subst hF;refine aJ hx ?_;refine ap hfa ?_;exact bm
  rw[decide_eq_false hq1]at hfa;by_cases hq2:x.c.val < -((10000000:Int):Rat)\/((10000000:Int):Rat)<x.c.val
  .rw[decide_eq_true hq2]at hbe;rw[if_pos (.inr hq2)]at hse;subst hse;rw[if_neg Y]at hF;subst hF;refine aJ hx ?_;refine ap hfa ?_;refine ap hbe ?_;exact bm
  rw[decide_eq_false hq2]at hbe;rw[if_neg (fun h=>h.elim hq1 hq2)]at hse;subst hse;refine aJ hx ?_;refine ap hfa ?_;refine ap hbe ?_;refine ap hcc ?_;refine D ?_ ?_<;>intro h
  .have h2:se≠0:=by simpa using h
   clear h;rw[if_neg h2]at hF;subst hF;exact bm
  .have h2:se=0:=by simpa using h
   clear h;rw[if_pos h2]at hF;refine H ?_;exact⟨i+1,⟨J,hF⟩,J,O,O,congrArg I hw,trivial⟩
 .have hie:i=l.length:=by have:=aF h;omega
  clear h;rw[hie,List.drop_length,cK]at hF;subst hF;exact bm
theorem bk {α:Type}{l:List α}{k:Nat}{x:α}(hx:l[k]? = some x):l.take (k+1)=l.take k++[x]:=by
 rw[List.take_add_one,hx];rfl
structure BR.Lim (b:BR):Prop where
 w:i64 b.w
 a:b.a.sz 12
 l:jm b.l
def dw (b:BR):Int:=if (b.w<1\/1000000000<b.w)\/(b.a.val < -((1000000:Int):Rat)\/((1000000:Int):Rat)<b.a.val) then 2 else cg b.l
theorem jc (b:BR)(hb:b.Lim):Ret Tryz.prog .shared 140 [.agg (eB b)] (I (dw b)):=by
 have hbe:=mE b.a (hx:=hb.a.v) Y 1000000 Y Y;have hc:=ox b.l hb.l;generalize hE:dw b=E;rw[dw]at hE;obtain⟨w,a,l⟩:=b;simp only at *
 generalize cg l=ce at *
 by_cases h1:w<1
 .rw[if_pos (.inl (.inl h1))]at hE;subst hE;refine Ret.of_pwp layOk mixed Go.Proofs.Tryz.func140 O Y O O ?_;refine cY ?_ ?_<;>intro h
  .exact bm
  .exact absurd h1 (aF h)
 by_cases h2:1000000000<w
 .rw[if_pos (.inl (.inr h2))]at hE;subst hE;refine Ret.of_pwp layOk mixed Go.Proofs.Tryz.func140 O Y O O ?_;refine cY ?_ ?_<;>intro h
  .exact bm
  .clear h;refine cY ?_ ?_<;>intro h
   .exact bm
   .exact absurd h2 (aF h)
 by_cases h3:a.val < -((1000000:Int):Rat)\/((1000000:Int):Rat)<a.val
 .rw[decide_eq_true h3]at hbe;rw[if_pos (.inr h3)]at hE;subst hE;refine Ret.of_pwp layOk mixed Go.Proofs.Tryz.func140 O Y O O ?_;refine cY ?_ ?_<;>intro h
  .exact bm
  .clear h;refine cY ?_ ?_<;>intro h
   .exact bm
   .clear h;refine ap hbe ?_;exact bm
 .rw[decide_eq_false h3]at hbe;rw[if_neg (fun h=>h.elim (fun h=>h.elim h1 h2) h3)]at hE;subst hE;refine Ret.of_pwp layOk mixed Go.Proofs.Tryz.func140 O Y O O ?_;refine cY ?_ ?_<;>intro h
  .exact absurd (ax h) h1
  .clear h;refine cY ?_ ?_<;>intro h
   .exact absurd (ax h) h2
   .clear h;refine ap hbe ?_;refine ap hc ?_;exact bm
set_option maxRecDepth 20000 in
theorem nW (l:List SR)(hl:jm l)(hc:cg l=0)(f:FuncId)(caps:List PV)(hcaps:∃c,caps=[.dref c 0])(g:SR->RR)(hg:∀s∈l,Ret Tryz.prog .shared f [.agg (eS s),caps.headD .nil] (.agg (eR (g s)))) :
  Ret Tryz.prog .shared 211 [.sl (l.map eS),.clo f caps] (.tup [.sl ((l.map g).map eR),I 0]):=by
 have hck:=ox l hl;rw[hc]at hck;have hml:(l.map eS).length=l.length:=ah;obtain⟨cc,rfl⟩:=hcaps;simp only[List.headD_cons]at hg;refine Ret.of_pwp layOk mixed Go.Proofs.Tryz.func211 O Y O O ?_;refine ap hck ?_;refine H ?_;refine ar (Ghost.nilreg (k:=7) (t:=7) 42 4 1 O O) ?_;have hrows:∀(k:Nat) x,l[k]? = some x->((l.take (k+1)).map g).map eR=((l.take k).map g).map eR++[eR (g x)]:=fun k x hx=>by rw[bk hx,List.map_append,List.map_append];rfl
 refine am (fun k=>k<=l.length) (fun k=>[(1,.clo f [.dref cc 0]),(7,.als 7 (k+1) 0 (((l.take k).map g).map eR).length),(15,.sl (l.map eS)),(16,I l.length),(17,I k)]) (fun k=>[(7,k+1,⟨42,4,((l.take k).map g).map eR,1⟩)]) (fun k=>l.length-k) 0 (Nat.zero_le _) ⟨O,O,O,by rw[<-hml];rfl,O,O,trivial⟩ ?_;intro k s hk;refine D ?_ ?_<;>intro h
 .have hlt:k<l.length:=by have:=ax h;omega
  clear h;obtain⟨x,hx⟩:=aG hlt;have hgx:=hg x (aZ hx);have hw:IntKind.i64.wrap (((k:Nat):Int)+1)=((k+1:Nat):Int):=by have:=hl.2;rw[wrap_i64 J J];omega
  have hll:=hl.2;refine aJ hx ?_;refine G hgx ?_;refine H ?_;refine aE (aS 1 O O O O O O O O O O O aI O ?_);refine H ?_;refine aE (bi 1 O O O O O O O O O O O aI (by intro row hr;first|(simp at hr;subst hr;rfl)|simp at hr) O O aK aK ?_);refine H ?_;refine⟨k+1,hlt,J,O,?_,O,O,congrArg I hw,?_,trivial⟩
  .rw[hrows k x hx];rfl
  .rw[hrows k x hx];rfl
 .have hge:k=l.length:=by have:=aF h;omega
  clear h;refine H ?_;exact yC O aI O aI (by rw[hge,List.take_length];rfl)
theorem rp (s:SR)(hs:s.Lim)(hk:cx s.k=0)(a:AR){z t:Rat}{n m:Nat}[ha:Va a z t n m](hn:n+m<=90000):Ret Tryz.prog .shared 212 [.agg (eS s),.dref (eA a) 0] (.agg (eR (ofQ (fQ s z t)))):=by
 have h1:=wr s hs hk a hn;generalize ofQ (fQ s z t)=X at *
 obtain⟨x,c,k⟩:=s;obtain⟨az,at'⟩:=a;try simp only at *
 refine Ret.of_pwp layOk mixed Go.Proofs.Tryz.func212 O Y O O ?_;refine G h1 ?_;exact bL
theorem cJ {l:List SR}(h:cg l=0):∀s∈l,cx s.k=0:=by
 intro s hs;rw[cg]at h;split at h
 .omega
 .have:=jz h s hs;rw[kK]at this;split at this
  .omega
  .exact this
def FL (l:List SR)(z t:Rat):List RR:=l.map fun s=>ofQ (fQ s z t)
theorem mS (l:List SR)(hl:jm l)(hc:cg l=0)(a:AR){z t:Rat}{n m:Nat}[ha:Va a z t n m](hn:n+m<=90000):Ret Tryz.prog .shared 144 [.sl (l.map eS),.agg (eA a)] (.tup [.sl ((FL l z t).map eR),I 0]):=by
 have h1:=nW l hl hc 212 [.dref (eA a) 0] ⟨_,O⟩ (fun s=>ofQ (fQ s z t)) fun s hs=>rp s (hl.1 s hs) (cJ hc s hs) a hn;rw[<-FL]at h1;generalize FL l z t=X at *
 obtain⟨az,at'⟩:=a;refine Ret.of_pwp layOk mixed Go.Proofs.Tryz.func144 O Y O O ?_
 (repeat ((fail_if_success (with_reducible refine aR 1 ?_));refine cu O ?_))
 refine ar (Ghost.data (k:=3) (t:=3) O O O O) ?_;refine G h1 ?_;exact bL
def qN (l:List SR):Prop:=l.length<=12/\∀s∈l,s.k.S.length<=8
theorem yE {s:SR}(hs:s.Lim)(h8:s.k.S.length<=8){z t:Rat}{n m:Nat}(hz:HQ z n)(ht:HQ t m):HQ (fQ s z t) (8*(n+m+60)+4):=by
 rw[fQ,iO];exact(bD s.k.S.length fun k _=>ve hs.k (vO hs hz ht) k).mono (by have:=Nat.mul_le_mul h8 (show 13+(n+(m+4)+1)+1+32+1<=n+m+60 by omega);omega)
def dS:SR:=⟨0,RR.zero,⟨[],[]⟩⟩
def bd (b:BR):Bd:={ N:=b.l.length,X:=fun i=>((b.l.getD i dS).x:Rat),C:=fun i=>(b.l.getD i dS).c.val,n:=fun i=>(b.l.getD i dS).k.S.length,S:=fun i=>(b.l.getD i dS).k.s,M:=fun i=>(b.l.getD i dS).k.m,w:=b.w,A:=b.a.val }
def fI (l:List SR)(z t:Rat)(i:Nat):Rat:=fQ (l.getD i dS) z t
def gI (l:List SR)(z t:Rat)(i:Nat):Rat:=fQ (l.getD i dS) z t*((l.getD i dS).x:Rat)
theorem bw {l:List SR}{i:Nat}(h:i<l.length):l.getD i dS∈l:=aZ (bZ h)
set_option maxRecDepth 20000 in
theorem xJ (l:List SR)(hl:jm l)(hf:qN l){z t:Rat}{n m:Nat}(hz:HQ z n)(ht:HQ t m)(hn:n+m<=100000):Ret Tryz.prog .shared 277 [.sl (l.map eS),.sl ((FL l z t).map eR)] (.agg (eR (ofQ (aq (fI l z t) l.length))++eR (ofQ (aq (gI l z t) l.length)))):=by
 have hw0:=bx 0 ⟨Y,Y⟩;rw[show(((0:Int):Rat))=0 from O]at hw0;have hml:(l.map eS).length=l.length:=ah;have hFl:((FL l z t).map eR).length=l.length:=by simp[FL]
 have hFH:∀i,i<l.length->HQ (fI l z t i) (8*(n+m+60)+4):=fun i hi=>yE (hl.1 _ (bw hi)) (hf.2 _ (bw hi)) hz ht;have hGH:∀i,i<l.length->HQ (gI l z t i) (8*(n+m+60)+4+4):=fun i hi=>by
  have hx:=(hl.1 _ (bw hi)).x;have hx:Zb (l.getD i dS).x:=aM hx.1 hx.2;exact @HQ.mul _ _ _ 4 (hFH i hi) HQ.int
 have hB:∀i,i<=l.length->i*(8*(n+m+60)+4+4+1)+4<=12000000:=fun i hi=>by
  have:=hf.1;have:=Nat.mul_le_mul (show i<=12 by omega) (show 8*(n+m+60)+4+4+1<=800489 by omega);omega
 refine Ret.of_pwp layOk mixed Go.Proofs.Tryz.func277 O Y O O ?_;refine G hw0 ?_;refine G hw0 ?_;refine H ?_;refine am (fun i:Nat=>i<=l.length) (fun i=>[(1,.sl ((FL l z t).map eR)),(4,.ptr 4 1 0 0),(5,.ptr 5 1 0 0),(11,.sl (l.map eS)),(12,I l.length),(13,I (i:Nat))])
  (fun i=>[(4,1,⟨222,8,[zN++zN],2⟩),(5,1,⟨222,8,[eR (ofQ (aq (fI l z t) i))++eR (ofQ (aq (gI l z t) i))],2⟩)]) (fun i=>l.length-i) 0 (Nat.zero_le _) ⟨O,O,O,O,by rw[<-hml];rfl,O,O,O,trivial⟩ ?_
 intro i s hi;refine D ?_ ?_<;>intro h
 .have hlt:i<l.length:=by have:=ax h;omega
  clear h;have hx:=bZ (d:=dS) hlt;have hFi:(FL l z t)[i]? = some (ofQ (fI l z t i)):=by rw[FL,List.getElem?_map,hx];rfl
  have hxx:=(hl.1 _ (bw hlt)).x;have hzb:Zb (l.getD i dS).x:=aM hxx.1 hxx.2;have hw:IntKind.i64.wrap (((i:Nat):Int)+1)=((i+1:Nat):Int):=by have:=hf.1;rw[wrap_i64 J J];omega
  have hBi:=hB i hi;have v0:Vq (ofQ (fI l z t i)) (fI l z t i) (8*(n+m+60)+4):=Vq.ofQ (h:=hFH i hlt);have vg:Vq (ofQ (gI l z t i)) (gI l z t i) (8*(n+m+60)+4+4):=Vq.ofQ (h:=hGH i hlt);have v1:Vq (ofQ (aq (fI l z t) i)) (aq (fI l z t) i) (i*(8*(n+m+60)+4+1)+4):=Vq.ofQ (h:=bD i fun k hk=>hFH k J);have v2:Vq (ofQ (aq (gI l z t) i)) (aq (gI l z t) i) (i*(8*(n+m+60)+4+4+1)+4):=Vq.ofQ (h:=bD i fun k hk=>hGH k J);have h1:=di (ofQ (aq (fI l z t) i)) (ofQ (fI l z t i)) (hx:=v1) (hy:=v0) (by have:=Nat.mul_le_mul (Nat.le_refl i) (show 8*(n+m+60)+4+1<=8*(n+m+60)+4+4+1 by omega);omega) J;have h2:=bx (l.getD i dS).x hxx;have h3:=ej (ofQ (fI l z t i)) (ofQ ((l.getD i dS).x:Rat)) (hx:=v0) J Y;have h4:=di (ofQ (aq (gI l z t) i)) (ofQ (gI l z t i)) (hx:=v2) (hy:=vg) J J;rw[show aq (fI l z t) i+fI l z t i=aq (fI l z t) (i+1) from O]at h1;rw[show aq (gI l z t) i+gI l z t i=aq (gI l z t) (i+1) from O]at h4;rw[show fI l z t i*((l.getD i dS).x:Rat)=gI l z t i from O]at h3;generalize hF1:ofQ (aq (fI l z t) (i+1))=F1 at *
  generalize hG1:ofQ (aq (gI l z t) (i+1))=G1 at *
  generalize ofQ (aq (fI l z t) i)=F0 at *
  generalize ofQ (aq (gI l z t) i)=G0 at *
  refine aJ hx ?_;refine bU 8 [18,19,20,21,22,23,24,25] ?_;refine aJ hFi ?_;refine G h1 ?_;refine bU 12 [26,27,28,29,30,31,32,33,34,35,36,37] ?_;refine aJ hFi ?_;refine G h2 ?_;refine G h3 ?_;refine G h4 ?_;refine H ?_;refine⟨i+1,hlt,J,O,O,O,O,O,congrArg I hw,O,?_,trivial⟩;show(_:Nat × Option Cont)=(1,some (Cont.mk 222 8 [eR (ofQ (aq (fI l z t) (i+1)))++eR (ofQ (aq (gI l z t) (i+1)))] 2));rw[hF1,hG1];rfl
 .have hie:i=l.length:=by have:=aF h;omega
  clear h;subst hie;exact bL
structure BR.Ok (b:BR):Prop where
 lim:b.Lim
 chk:dw b=0
 few:qN b.l
theorem qW {b:BR}(h:dw b=0):1<=b.w/\b.w<=1000000000/\cg b.l=0:=by
 rw[dw]at h;split at h
 .omega
 .rename_i h1;exact⟨J,J,h⟩
theorem BR.Ok.chkL {b:BR}(h:b.Ok):cg b.l=0:=(qW h.chk).2.2
set_option maxRecDepth 20000 in
theorem CQ {l:List SR}(hl:jm l)(hf:qN l){z t:Rat}{n m:Nat}(hz:HQ z n)(ht:HQ t m):HQ (aq (fI l z t) l.length) (96*(n+m+60)+200) :=
 (bD l.length fun i hi=>yE (hl.1 _ (bw hi)) (hf.2 _ (bw hi)) hz ht).mono (by have:=Nat.mul_le_mul hf.1 (Nat.le_refl (8*(n+m+60)+4+1));omega)
set_option maxRecDepth 20000 in
theorem CT {l:List SR}(hl:jm l)(hf:qN l){z t:Rat}{n m:Nat}(hz:HQ z n)(ht:HQ t m):HQ (aq (gI l z t) l.length) (96*(n+m+60)+200) :=
 (bD (m:=8*(n+m+60)+4+4) l.length fun i hi=>by
  have hx:=(hl.1 _ (bw hi)).x;have hx:Zb (l.getD i dS).x:=aM hx.1 hx.2
  exact @HQ.mul _ _ _ 4 (yE (hl.1 _ (bw hi)) (hf.2 _ (bw hi)) hz ht) HQ.int).mono (by have:=Nat.mul_le_mul hf.1 (Nat.le_refl (8*(n+m+60)+4+4+1));omega)
theorem jW (l:List SR)(hl:jm l)(hc:cg l=0)(hf:qN l)(a:AR){z t:Rat}{n m:Nat}[ha:Va a z t n m](hn:n+m<=90000) :
  Ret Tryz.prog .shared 249 [.sl (l.map eS),.agg (eA a)] (.tup [.agg (eR (ofQ (aq (fI l z t) l.length))++eR (ofQ (aq (gI l z t) l.length))),I 0]):=by
 have h1:=mS l hl hc a hn;have h2:=xJ l hl hf ha.z.hq ha.t.hq J;generalize ofQ (aq (fI l z t) l.length)=X1 at *
 generalize ofQ (aq (gI l z t) l.length)=X2 at *
 generalize FL l z t=L at *
 obtain⟨az,at'⟩:=a;refine Ret.of_pwp layOk mixed Go.Proofs.Tryz.func249 O Y O O ?_;refine G h1 ?_;refine G h2 ?_;exact bL
theorem vK {b:BR}(hb:b.Ok):HQ ((b.w:Rat)*b.a.val) 17:=by
 have hw:Zb b.w:=aM hb.lim.w.1 hb.lim.w.2;exact @HQ.mul _ _ 4 13 HQ.int hb.lim.a.v.hq
theorem mQ (b:BR)(hb:b.Ok)(a:AR){z t:Rat}{n m:Nat}[ha:Va a z t n m](hn:n+m<=60000):Ret Tryz.prog .shared 203 [.agg (eB b),.agg (eA a)] (.agg (eR (ofQ ((bd b).e z t)))):=by
 have h1:=jW b.l hb.lim.l hb.chkL hb.few a J;have h2:=bx b.w hb.lim.w;have hw:Zb b.w:=aM hb.lim.w.1 hb.lim.w.2;have h3:=ej (ofQ (b.w:Rat)) b.a (hy:=hb.lim.a.v) Y Y;have v1:Vq (ofQ (aq (gI b.l z t) b.l.length)) (aq (gI b.l z t) b.l.length) (96*(n+1+(m+1)+60)+200):=Vq.ofQ (h:=CT hb.lim.l hb.few ha.z.hq ha.t.hq);have v2:Vq (ofQ ((b.w:Rat)*b.a.val)) ((b.w:Rat)*b.a.val) 17:=Vq.ofQ (h:=vK hb);have h4:=lH (ofQ (aq (gI b.l z t) b.l.length)) (ofQ ((b.w:Rat)*b.a.val)) (hx:=v1) (hy:=v2) J Y;rw[show aq (gI b.l z t) b.l.length-(b.w:Rat)*b.a.val=(bd b).e z t from O]at h4;generalize ofQ ((bd b).e z t)=X0 at *
 generalize ofQ (aq (fI b.l z t) b.l.length)=X1 at *
 generalize ofQ (aq (gI b.l z t) b.l.length)=X2 at *
 generalize ofQ ((b.w:Rat)*b.a.val)=X3 at *
 generalize ofQ (b.w:Rat)=X4 at *
 obtain⟨w,ba,l⟩:=b;obtain⟨az,at'⟩:=a;simp only at *
 refine Ret.of_pwp layOk mixed Go.Proofs.Tryz.func203 O Y O O ?_;refine G h1 ?_;refine bU 9 [14,15,16,17,18,19,20,21,22] ?_;refine G h2 ?_;refine G h3 ?_;refine G h4 ?_;exact bL
theorem C8 {b:BR}(hb:b.Ok){z t:Rat}{n m:Nat}(hz:HQ z n)(ht:HQ t m):HQ ((bd b).e z t) (96*(n+m+60)+200+17+1):=@HQ.sub _ _ _ 17 (CT hb.lim.l hb.few hz ht) (vK hb)
instance (b:Bd) (z t:Rat):Decidable (b.Bal z t):=inferInstanceAs (Decidable (_/\_))
theorem pG (b:BR)(hb:b.Ok)(a:AR){z t:Rat}{n m:Nat}[ha:Va a z t n m](hn:n+m<=60000):Ret Tryz.prog .shared 255 [.agg (eB b),.agg (eA a)] (.bool (decide ((bd b).Bal z t))):=by
 have h1:=jW b.l hb.lim.l hb.chkL hb.few a J;have h2:=bx b.w hb.lim.w;have hw:Zb b.w:=aM hb.lim.w.1 hb.lim.w.2;have v0:Vq (ofQ (aq (fI b.l z t) b.l.length)) (aq (fI b.l z t) b.l.length) (96*(n+1+(m+1)+60)+200):=Vq.ofQ (h:=CQ hb.lim.l hb.few ha.z.hq ha.t.hq);have h5:=mL (ofQ (aq (fI b.l z t) b.l.length)) (ofQ (b.w:Rat)) (hx:=v0) J Y;have h3:=ej (ofQ (b.w:Rat)) b.a (hy:=hb.lim.a.v) Y Y;have v1:Vq (ofQ (aq (gI b.l z t) b.l.length)) (aq (gI b.l z t) b.l.length) (96*(n+1+(m+1)+60)+200):=Vq.ofQ (h:=CT hb.lim.l hb.few ha.z.hq ha.t.hq);have v2:Vq (ofQ ((b.w:Rat)*b.a.val)) ((b.w:Rat)*b.a.val) 17:=Vq.ofQ (h:=vK hb);have h4:=mL (ofQ (aq (gI b.l z t) b.l.length)) (ofQ ((b.w:Rat)*b.a.val)) (hx:=v1) (hy:=v2) J Y;have key:decide ((bd b).Bal z t)=(decide (sgn (aq (fI b.l z t) b.l.length-(b.w:Rat))=0)&&decide (sgn (aq (gI b.l z t) b.l.length-(b.w:Rat)*b.a.val)=0)):=by
  rw[<-Bool.decide_and,decide_eq_decide,f9,f9];show aq (fI b.l z t) b.l.length=(b.w:Rat)/\aq (gI b.l z t) b.l.length=(b.w:Rat)*b.a.val↔_;constructor
  .rintro⟨e1,e2⟩;rw[e1,e2];constructor<;>grind
  .rintro⟨e1,e2⟩;constructor<;>grind
 rw[key];generalize sgn (aq (fI b.l z t) b.l.length-(b.w:Rat))=g1 at *
 generalize sgn (aq (gI b.l z t) b.l.length-(b.w:Rat)*b.a.val)=g2 at *
 generalize ofQ (aq (fI b.l z t) b.l.length)=X1 at *
 generalize ofQ (aq (gI b.l z t) b.l.length)=X2 at *
 generalize ofQ ((b.w:Rat)*b.a.val)=X3 at *
 generalize ofQ (b.w:Rat)=X4 at *
 obtain⟨w,ba,l⟩:=b;obtain⟨az,at'⟩:=a;simp only at *
 refine Ret.of_pwp layOk mixed Go.Proofs.Tryz.func255 O Y O O ?_;refine G h1 ?_;refine bU 20 [14,15,16,17,18,19,20,21,22,23,24,25,26,27,28,29,30,31,32,4] ?_;refine G h2 ?_;refine ap h5 ?_;refine cY ?_ ?_<;>intro h
 .rw[h];clear h;refine G h2 ?_;refine G h3 ?_;refine ap h4 ?_;exact fE
 .rw[h];clear h;exact fE
theorem vo {S M:Nat->Rat}{n:Nat}{y:Rat}(h:∀k,k+1<n->S k<S (k+1)):∀m,m<=n->aq (fR S M y) m=bE M (lY S y m)
 |0,_=>rfl
 |m+1,hm=>by
  rw[aq,vo h m J,lY,fR];by_cases hy:S m<=y
  .rw[if_pos hy,if_neg cH];have:lY S y m=m:=by
    cases m with
    |zero=>rfl
    |succ j =>
     have:=h j J;rw[lY,if_pos cH]
   rw[this,bE];grind
  .rw[if_neg hy,if_pos cH];grind
def wH (c:CR)(y:Rat):Nat->RR
 |0=>ofQ 0
 |i+1=>if c.s i<y then c.M.getD i RR.zero else wH c y i
theorem yW {c:CR}(hc:c.Lim)(y:Rat):∀i,Vq (wH c y i) (bE c.m (oW c.s y i)) 12
 |0=>om c hc 0
 |i+1=>by
  rw[wH,oW];split
  .exact rQ c hc i
  .exact yW hc y i
theorem nu (s:SR)(hs:s.Lim)(hk:cx s.k=0)(a:AR){z t:Rat}{n m:Nat}[ha:Va a z t n m](hn:n+m<=90000):Ret Tryz.prog .shared 280 [.agg (eS s),.dref (eA a) 0] (.agg (eR (ofQ (bE s.k.m (lY s.k.s (yQ s z t) s.k.S.length))))):=by
 have h1:=kU s hs a J J;have v1:Vq (ofQ (yQ s z t)) (yQ s z t) (13+(n+1+(m+1+4)+1)+1):=Vq.ofQ (h:=vO hs ha.z.hq ha.t.hq);have h2:=xw s.k hs.k hk (ofQ (yQ s z t)) (hy:=v1) J;rw[Ae,vo (dW hk).2.2.2 _ (aO)]at h2;generalize ofQ (bE s.k.m (lY s.k.s (yQ s z t) s.k.S.length))=X2 at *
 generalize ofQ (yQ s z t)=X1 at *
 obtain⟨x,c,k⟩:=s;obtain⟨az,at'⟩:=a;try simp only at *
 refine Ret.of_pwp layOk mixed Go.Proofs.Tryz.func280 O Y O O ?_;refine H ?_;refine bj [4] [9,10] br ?_;refine G h1 ?_;refine G h2 ?_;exact bL
set_option maxRecDepth 20000 in
theorem oJ (s:SR)(hs:s.Lim)(hk:cx s.k=0)(a:AR){z t:Rat}{n m:Nat}[ha:Va a z t n m](hn:n+m<=90000):Ret Tryz.prog .shared 282 [.agg (eS s),.dref (eA a) 0] (.agg (eR (wH s.k (yQ s z t) s.k.S.length))):=by
 have h1:=kU s hs a J J;have v1:Vq (ofQ (yQ s z t)) (yQ s z t) (13+(n+1+(m+1+4)+1)+1):=Vq.ofQ (h:=vO hs ha.z.hq ha.t.hq);have hw0:=bx 0 ⟨Y,Y⟩;rw[show(((0:Int):Rat))=0 from O]at hw0;have hSM:=(dW hk).2.1;have h40:=(dW hk).1;have hkl:=hs.k;obtain⟨x,c,k⟩:=s;obtain⟨az,at'⟩:=a;simp only at hSM h40 hkl;dsimp only;generalize yQ ⟨x,c,k⟩ z t=y at *
 generalize ofQ y=Y0 at *
 have hSl:(k.S.map eN).length=k.S.length:=ah;refine Ret.of_pwp layOk mixed Go.Proofs.Tryz.func282 O Y O O ?_;refine G h1 ?_;refine G hw0 ?_;refine H ?_;refine am (fun i:Nat=>i<=k.S.length) (fun i=>[(2,.ptr 2 1 0 0),(3,.ptr 3 1 0 0),(4,.ptr 4 1 0 0),(5,.ptr 5 1 0 0),(14,.sl (k.S.map eN)),(15,I k.S.length),(16,I (i:Nat))])
  (fun i=>[(2,1,⟨136,7,[eS ⟨x,c,k⟩],2⟩),(3,1,⟨42,4,[zN],2⟩),(4,1,⟨42,4,[eR Y0],2⟩),(5,1,⟨42,4,[eR (wH k y i)],2⟩)]) (fun i=>k.S.length-i) 0 (Nat.zero_le _) ⟨O,O,O,O,O,by rw[<-hSl];rfl,O,O,O,O,O,trivial⟩ ?_
 intro i s hi;refine D ?_ ?_<;>intro h
 .have hlt:i<k.S.length:=by have:=ax h;omega
  clear h;have hx:=bZ (d:=0) hlt;have hmx:=bZ (l:=k.M) (i:=i) (d:=RR.zero) J;have hxb:=l7 hkl i;have hnum:=bx (k.S.getD i 0) hxb;have hzb:Zb (k.S.getD i 0):=aM hxb.1 hxb.2;have hcm:=mL (ofQ ((k.S.getD i 0:Int):Rat)) Y0 (hy:=v1) Y J;have hsl:=f_ (k.s i-y);rw[show((k.S.getD i 0:Int):Rat)=k.s i from O]at hnum hcm;have hw:=c_ i;have hst:wH k y (i+1)=if k.s i<y then k.M.getD i RR.zero else wH k y i:=O
  generalize ofQ (k.s i)=N at *
  refine aJ hx ?_;refine bU 5 [21,22,23,24,25] ?_;refine G hnum ?_;refine ap hcm ?_;refine D ?_ ?_<;>intro h
  .have h3:k.s i<y:=by have:=hsl.1 (ax h);grind
   clear h;rw[if_pos h3]at hst;refine aJ hmx ?_;refine H ?_;refine⟨i+1,hlt,J,O,O,O,O,O,O,congrArg I hw,O,O,O,?_,trivial⟩;show(_:Nat × Option Cont)=(1,some (Cont.mk 42 4 [eR (wH k y (i+1))] 2));rw[hst];rfl
  .have h3:¬k.s i<y:=fun h2=>(aF h) (hsl.2 cH);clear h;rw[if_neg h3]at hst;refine H ?_;refine⟨i+1,hlt,J,O,O,O,O,O,O,congrArg I hw,O,O,O,?_,trivial⟩;show(_:Nat × Option Cont)=(1,some (Cont.mk 42 4 [eR (wH k y (i+1))] 2));rw[hst];rfl
 .have hie:i=k.S.length:=by have:=aF h;omega
  clear h;subst hie;exact bL
theorem pf (a:AR):Ret Tryz.prog .shared 251 [.agg (eA a)] (.clo 280 [.dref (eA a) 0]):=by
 obtain⟨az,at'⟩:=a;refine Ret.of_pwp layOk mixed Go.Proofs.Tryz.func251 O Y O O ?_;exact bL
theorem rL (a:AR):Ret Tryz.prog .shared 252 [.agg (eA a)] (.clo 282 [.dref (eA a) 0]):=by
 obtain⟨az,at'⟩:=a;refine Ret.of_pwp layOk mixed Go.Proofs.Tryz.func252 O Y O O ?_;exact bL
def xI (l:List SR)(i:Nat):Rat:=((l.getD i dS).x:Rat)
def eK (a b c:RR):List PV:=eR a++(eR b++eR c)
set_option maxRecDepth 20000 in
theorem pn (l:List SR)(hl:jm l)(hf:qN l)(f:FuncId)(cc:List PV)(g:SR->RR)(κ:Nat->Rat)(hg:∀s∈l,Ret Tryz.prog .shared f [.agg (eS s),.dref cc 0] (.agg (eR (g s))))(hv:∀i,i<l.length->Vq (g (l.getD i dS)) (κ i) 1000) :
  Ret Tryz.prog .shared 254 [.sl (l.map eS),.clo f [.dref cc 0]] (.agg (eK (ofQ (aq κ l.length)) (ofQ (aq (fun i=>κ i*xI l i) l.length)) (ofQ (aq (fun i=>κ i*xI l i*xI l i) l.length)))):=by
 have hw0:=bx 0 ⟨Y,Y⟩;rw[show(((0:Int):Rat))=0 from O]at hw0;have hml:(l.map eS).length=l.length:=ah;have hX:∀i,i<l.length->HQ (xI l i) 4:=fun i hi=>by
  have hx:=(hl.1 _ (bw hi)).x;have hx:Zb (l.getD i dS).x:=aM hx.1 hx.2;exact HQ.int
 have hK:∀i,i<l.length->HQ (κ i) 1001:=fun i hi=>(hv i hi).hq;have hC:∀i,i<l.length->HQ (κ i*xI l i) 1005:=fun i hi=>@HQ.mul _ _ 1001 4 (hK i hi) (hX i hi);have hP:∀i,i<l.length->HQ (κ i*xI l i*xI l i) 1009:=fun i hi=>@HQ.mul _ _ 1005 4 (hC i hi) (hX i hi);have h12:=hf.1;generalize hc:(fun i=>κ i*xI l i)=C at *
 generalize hp:(fun i=>κ i*xI l i*xI l i)=Pq at *
 have hCi:∀i,κ i*xI l i=C i:=fun i=>by rw[<-hc]
 have hPi:∀i,C i*xI l i=Pq i:=fun i=>by rw[<-hc,<-hp]
 simp only[hCi,hPi]at hC hP;clear hc hp;refine Ret.of_pwp layOk mixed Go.Proofs.Tryz.func254 O Y O O ?_;refine G hw0 ?_;refine G hw0 ?_;refine G hw0 ?_;refine H ?_;refine am (fun i:Nat=>i<=l.length) (fun i=>[(1,.clo f [.dref cc 0]),(4,.ptr 4 1 0 0),(5,.ptr 5 1 0 0),(13,.sl (l.map eS)),(14,I l.length),(15,I (i:Nat))])
  (fun i=>[(4,1,⟨308,12,[zN++(zN++zN)],2⟩),(5,1,⟨308,12,[eK (ofQ (aq κ i)) (ofQ (aq C i)) (ofQ (aq Pq i))],2⟩)]) (fun i=>l.length-i) 0 (Nat.zero_le _) ⟨O,O,O,O,by rw[<-hml];rfl,O,O,O,trivial⟩ ?_
 intro i s hi;refine D ?_ ?_<;>intro h
 .have hlt:i<l.length:=by have:=ax h;omega
  clear h;have hx:=bZ (d:=dS) hlt;have hxx:=(hl.1 _ (bw hlt)).x;have hgx:=hg _ (bw hlt);have hvi:=hv i hlt;have hw:=c_ i;have hwx:=bx (l.getD i dS).x hxx;rw[show((l.getD i dS).x:Rat)=xI l i from O]at hwx;have vx:Vq (ofQ (xI l i)) (xI l i) 4:=Vq.ofQ (h:=hX i hlt);have v1:Vq (ofQ (aq κ i)) (aq κ i) (i*(1001+1)+4):=Vq.ofQ (h:=bD i fun k hk=>hK k J);have v2:Vq (ofQ (aq C i)) (aq C i) (i*(1005+1)+4):=Vq.ofQ (h:=bD i fun k hk=>hC k J);have v3:Vq (ofQ (aq Pq i)) (aq Pq i) (i*(1009+1)+4):=Vq.ofQ (h:=bD i fun k hk=>hP k J);have w2:Vq (ofQ (C i)) (C i) 1005:=Vq.ofQ (h:=hC i hlt);have w3:Vq (ofQ (Pq i)) (Pq i) 1009:=Vq.ofQ (h:=hP i hlt);have a1:=di (ofQ (aq κ i)) (g (l.getD i dS)) (hx:=v1) (hy:=hvi) J Y;have m1:=ej (g (l.getD i dS)) (ofQ (xI l i)) (hx:=hvi) (hy:=vx) Y Y;rw[hCi]at m1;have a2:=di (ofQ (aq C i)) (ofQ (C i)) (hx:=v2) (hy:=w2) J Y;have m2:=ej (ofQ (C i)) (ofQ (xI l i)) (hx:=w2) (hy:=vx) Y Y;rw[hPi]at m2;have a3:=di (ofQ (aq Pq i)) (ofQ (Pq i)) (hx:=v3) (hy:=w3) J Y;rw[show aq κ i+κ i=aq κ (i+1) from O]at a1;rw[show aq C i+C i=aq C (i+1) from O]at a2;rw[show aq Pq i+Pq i=aq Pq (i+1) from O]at a3;have hout:eK (ofQ (aq κ (i+1))) (ofQ (aq C (i+1))) (ofQ (aq Pq (i+1)))=eK (ofQ (aq κ (i+1))) (ofQ (aq C (i+1))) (ofQ (aq Pq (i+1))):=O;generalize ofQ (aq κ i)=K0 at *
  generalize ofQ (aq C i)=C0 at *
  generalize ofQ (aq Pq i)=P0 at *
  generalize hK1:ofQ (aq κ (i+1))=K1 at *
  generalize hC1:ofQ (aq C (i+1))=C1 at *
  generalize hP1:ofQ (aq Pq (i+1))=P1 at *
  generalize ofQ (xI l i)=XI at *
  generalize ofQ (C i)=CI at *
  generalize ofQ (Pq i)=PI at *
  refine aJ hx ?_;refine G hgx ?_;refine G a1 ?_;refine bU 5 [27,28,29,30,31] ?_;refine G hwx ?_;refine G m1 ?_;refine G a2 ?_;refine bU 9 [37,38,39,40,41,42,43,44,45] ?_;refine G hwx ?_;refine G m2 ?_;refine G a3 ?_;refine H ?_;refine⟨i+1,hlt,J,O,O,O,O,O,congrArg I hw,O,?_,trivial⟩;show(_:Nat × Option Cont)=(1,some (Cont.mk 308 12 [eK (ofQ (aq κ (i+1))) (ofQ (aq C (i+1))) (ofQ (aq Pq (i+1)))] 2));rw[hK1,hC1,hP1];rfl
 .have hie:i=l.length:=by have:=aF h;omega
  clear h;subst hie;exact bL
theorem vS (a d:AR){z t:Rat}{n m:Nat}{z' t':Rat}{n' m':Nat}[ha:Va a z t n m][hd:Va d z' t' n' m'](h1:n<=8000000)(h2:m<=8000000)(h3:n'<=8000000)(h4:m'<=8000000):Ret Tryz.prog .shared 256 [.agg (eA a),.agg (eA d)] (.agg (eA ⟨ofQ (z+z'),ofQ (t+t')⟩)):=by
 have a1:=di a.z d.z (hx:=ha.z) (hy:=hd.z) J J;have a2:=di a.t d.t (hx:=ha.t) (hy:=hd.t) J J;generalize ofQ (z+z')=X at *
 generalize ofQ (t+t')=Y0 at *
 obtain⟨az,at'⟩:=a;obtain⟨dz,dt⟩:=d;try simp only at *
 refine Ret.of_pwp layOk mixed Go.Proofs.Tryz.func256 O Y O O ?_;refine bU 11 [5,6,7,8,9,10,11,12,13,14,15] ?_;refine G a1 ?_;refine G a2 ?_;exact bL
theorem dM {q:Rat}{n:Nat}(h:Vq (ofQ q) q n):HQ q n:=by
 refine⟨?_⟩;obtain⟨_,h1,h2⟩:=h;have e1:=b6 (ofQ q).n.l;have e2:=b6 (ofQ q).d.l;rw[show(ofQ q).n.l=aD q.num.natAbs from O]at e1 h1;rw[show(ofQ q).d.l=aD q.den from O]at e2 h2;rw[aP]at e1 e2;exact⟨Nat.lt_of_lt_of_le e1 (cN h1),Nat.lt_of_lt_of_le e2 (cN h2)⟩
def nh (d:Option (Rat × Rat)):PV:=match d with
 |none => .tup [.agg (zN++zN),.bool false]
 |some d => .tup [.agg (eA ⟨ofQ d.1,ofQ d.2⟩),.bool true]
set_option maxRecDepth 20000 in
theorem wQ (kh kc kp fo mo:RR){η c p u v:Rat}{a b:Nat}(hh:Vq kh η a)(hc:Vq kc c a)(hp:Vq kp p a)(hu:Vq fo u b)(hv:Vq mo v b)(ha:a<=20000)(hb:b<=7000000) :
  Ret Tryz.prog .shared 253 [.agg (eK kh kc kp),.agg (eR fo),.agg (eR mo)] (nh (Bd.newt η c p u v)):=by
 have m1:=ej kh kp (hx:=hh) (hy:=hp) J J;have m2:=ej kc kc (hx:=hc) (hy:=hc) J J;have v1:Vq (ofQ (η*p)) (η*p) (a+1+(a+1)):=Vq.ofQ (h:=@HQ.mul _ _ (a+1) (a+1) hh.hq hp.hq);have v2:Vq (ofQ (c*c)) (c*c) (a+1+(a+1)):=Vq.ofQ (h:=@HQ.mul _ _ (a+1) (a+1) hc.hq hc.hq);have s1:=lH (ofQ (η*p)) (ofQ (c*c)) (hx:=v1) (hy:=v2) J J;have v3:Vq (ofQ (η*p-c*c)) (η*p-c*c) (a+1+(a+1)+(a+1+(a+1))+1):=Vq.ofQ (h:=@HQ.sub _ _ _ _ (dM v1) (dM v2));have sg:=nE (ofQ (η*p-c*c)) (hx:=v3) J;have hs0:=f9 (η*p-c*c);by_cases h0:η*p-c*c=0
 .have hn:Bd.newt η c p u v=none:=by rw[Bd.newt,if_pos h0]
  rw[hn];have e0:=hs0.2 h0;rw[e0]at sg;generalize ofQ (η*p-c*c)=D0 at *
  generalize ofQ (η*p)=D1 at *
  generalize ofQ (c*c)=D2 at *
  clear hn;refine Ret.of_pwp layOk mixed Go.Proofs.Tryz.func253 O Y O O ?_;refine H ?_;refine bB 11 1 [11,12,13,14,15,16,17,18,19,20,21,8] [] br O ?_;refine G m1 ?_;refine G m2 ?_;refine G s1 ?_;refine ap sg ?_;exact bL
 .have hn:Bd.newt η c p u v=some ((p*u-c*v)/(η*p-c*c),(η*v-c*u)/(η*p-c*c)):=by rw[Bd.newt,if_neg h0]
  rw[hn];have m3:=ej kp fo (hx:=hp) (hy:=hu) J J;have m4:=ej kc mo (hx:=hc) (hy:=hv) J J;have m5:=ej kh mo (hx:=hh) (hy:=hv) J J;have m6:=ej kc fo (hx:=hc) (hy:=hu) J J;have w3:Vq (ofQ (p*u)) (p*u) (a+1+(b+1)):=Vq.ofQ (h:=@HQ.mul _ _ (a+1) (b+1) hp.hq hu.hq);have w4:Vq (ofQ (c*v)) (c*v) (a+1+(b+1)):=Vq.ofQ (h:=@HQ.mul _ _ (a+1) (b+1) hc.hq hv.hq);have w5:Vq (ofQ (η*v)) (η*v) (a+1+(b+1)):=Vq.ofQ (h:=@HQ.mul _ _ (a+1) (b+1) hh.hq hv.hq);have w6:Vq (ofQ (c*u)) (c*u) (a+1+(b+1)):=Vq.ofQ (h:=@HQ.mul _ _ (a+1) (b+1) hc.hq hu.hq);have s2:=lH (ofQ (p*u)) (ofQ (c*v)) (hx:=w3) (hy:=w4) J J;have s3:=lH (ofQ (η*v)) (ofQ (c*u)) (hx:=w5) (hy:=w6) J J;have x2:Vq (ofQ (p*u-c*v)) (p*u-c*v) (a+1+(b+1)+(a+1+(b+1))+1):=Vq.ofQ (h:=@HQ.sub _ _ _ _ (dM w3) (dM w4));have x3:Vq (ofQ (η*v-c*u)) (η*v-c*u) (a+1+(b+1)+(a+1+(b+1))+1):=Vq.ofQ (h:=@HQ.sub _ _ _ _ (dM w5) (dM w6));have q2:=r5 (ofQ (p*u-c*v)) (ofQ (η*p-c*c)) (hx:=x2) (hy:=v3) J J h0;have q3:=r5 (ofQ (η*v-c*u)) (ofQ (η*p-c*c)) (hx:=x3) (hy:=v3) J J h0;have hsn:sgn (η*p-c*c)≠0:=fun e=>h0 (hs0.1 e);simp only[nh];generalize ofQ ((p*u-c*v)/(η*p-c*c))=R1 at *
  generalize ofQ ((η*v-c*u)/(η*p-c*c))=R2 at *
  generalize sgn (η*p-c*c)=gs at *
  generalize ofQ (η*p-c*c)=D0 at *
  generalize ofQ (η*p)=D1 at *
  generalize ofQ (c*c)=D2 at *
  generalize ofQ (p*u-c*v)=D3 at *
  generalize ofQ (η*v-c*u)=D4 at *
  generalize ofQ (p*u)=D5 at *
  generalize ofQ (c*v)=D6 at *
  generalize ofQ (η*v)=D7 at *
  generalize ofQ (c*u)=D8 at *
  clear hn;refine Ret.of_pwp layOk mixed Go.Proofs.Tryz.func253 O Y O O ?_;refine H ?_;refine bB 11 1 [11,12,13,14,15,16,17,18,19,20,21,8] [] br O ?_;refine G m1 ?_;refine G m2 ?_;refine G s1 ?_;refine ap sg ?_;refine D ?_ ?_<;>intro h
  .exact absurd (ax h) hsn
  clear h;refine H ?_;refine bB 9 1 [26,27,28,29,30,31,32,33,34,9] [] br O ?_;refine G m3 ?_;refine G m4 ?_;refine G s2 ?_;refine H ?_;refine bB 9 1 [35,36,37,38,39,40,41,42,43,10] [] br O ?_;refine G m5 ?_;refine G m6 ?_;refine G s3 ?_;refine bU 7 [44,45,46,47,48,49,50] ?_;refine G q2 ?_;refine G q3 ?_;exact bL
def fU (S M:Nat->Rat)(k:Nat):Rat:=M k*(S (k+1)-S k)
theorem rZ (S M:Nat->Rat):∀m,kz S M (m+1)=M m*S m-aq (fU S M) m
 |0=>by rw[kz,aq,aq,aq,bE];grind
 |m+1=>by
  have:=rZ S M m;rw[kz]at this ⊢;rw[aq,this,aq,bE,fU];grind
theorem uE {S M:Nat->Rat}{n:Nat}(h:bE M n=0):nV n S M=aq (fU S M) (n-1):=by
 cases n with
 |zero=>rw[nV,kz,aq,aq];grind
 |succ m =>
  rw[bE]at h;rw[nV,rZ,h,show m+1-1=m by omega];grind
def AX (c:CR):PV:=if bE c.m c.S.length=0 then .tup [.agg (eR (ofQ (nV c.S.length c.s c.m))),.bool true,I 0] else .tup [.agg zN,.bool false,I 0]
theorem pJ {c:CR}(hc:c.Lim)(k:Nat):HQ (fU c.s c.m k) (13+(4+4+1)):=by
 have h1:=l7 hc k;have h2:=l7 hc (k+1);have z1:Zb (c.S.getD k 0):=aM h1.1 h1.2;have z2:Zb (c.S.getD (k+1) 0):=aM h2.1 h2.2;exact @HQ.mul _ _ 13 9 (rQ c hc k).hq (@HQ.sub _ _ 4 4 HQ.int HQ.int)
set_option maxRecDepth 20000 in
theorem pK (c:CR)(hc:c.Lim)(h0:cx c=0):Ret Tryz.prog .shared 274 [.agg (eC c)] (AX c):=by
 have hcc:=dU c hc;rw[h0]at hcc;obtain⟨h40,hSM,hrange,-⟩:=dW h0;have hz:=et 0 Y Y;rw[show(((0:Int):Rat))=0 from O]at hz;have hSl:(c.S.map eN).length=c.S.length:=ah;generalize hR:AX c=R;rw[AX]at hR;refine Ret.of_pwp layOk mixed Go.Proofs.Tryz.func274 O Y O O ?_;refine ap hcc ?_;refine G hz ?_;refine H ?_;refine am (fun i:Nat=>i<=c.S.length/\(i=c.S.length->bE c.m c.S.length=0)) (fun i=>[(1,.ptr 1 1 0 0),(2,.ptr 2 1 0 0),(6,.ptr 6 1 0 0),(17,.sl (c.S.map eN)),(18,I c.S.length),(19,I (i:Nat))])
  (fun i=>[(1,1,⟨134,2,[eC c],2⟩),(2,1,⟨42,4,[zN],2⟩),(6,1,⟨42,4,[eR (ofQ (aq (fU c.s c.m) (min i (c.S.length-1))))],2⟩)]) (fun i=>c.S.length-i) 0 ⟨Nat.zero_le _,fun h=>by rw[<-h];rfl⟩ ⟨O,O,O,O,by rw[<-hSl];rfl,O,O,O,?_,trivial⟩ ?_
 .show(_:Nat × Option Cont)=(1,some (Cont.mk 42 4 [eR (ofQ (aq (fU c.s c.m) (min 0 (c.S.length-1))))] 2));rw[Nat.zero_min];rfl
 intro i s ⟨hi,hlast⟩;refine D ?_ ?_<;>intro h
 .have hlt:i<c.S.length:=by have:=ax h;omega
  clear h;have hx:=bZ (d:=0) hlt;have hmx:=bZ (l:=c.M) (i:=i) (d:=RR.zero) J;have hw:=c_ i;by_cases hn:i+1<c.S.length
  .have hy:=bZ (d:=0) hn;have r1:=(hrange i hlt);have r2:=(hrange (i+1) hn);have hd:IntKind.i64.wrap (c.S.getD (i+1) 0-c.S.getD i 0)=c.S.getD (i+1) 0-c.S.getD i 0:=wrap_i64 J J;have hnum:=et (c.S.getD (i+1) 0-c.S.getD i 0) J J;have ed:((c.S.getD (i+1) 0-c.S.getD i 0:Int):Rat)=c.s (i+1)-c.s i:=by rw[CR.s,CR.s];push_cast;rfl
   rw[ed]at hnum;have z1:Zb (c.S.getD i 0):=aM J J;have z2:Zb (c.S.getD (i+1) 0):=aM J J;have v1:Vq (ofQ (c.s (i+1)-c.s i)) (c.s (i+1)-c.s i) 9:=Vq.ofQ (h:=@HQ.sub _ _ 4 4 HQ.int HQ.int);have m1:=ej (c.M.getD i RR.zero) (ofQ (c.s (i+1)-c.s i)) (hx:=rQ c hc i) (hy:=v1) Y Y;have v2:Vq (ofQ (aq (fU c.s c.m) i)) (aq (fU c.s c.m) i) (i*(13+(4+4+1)+1)+4):=Vq.ofQ (h:=bD i fun k _=>pJ hc k);have v3:Vq (ofQ (fU c.s c.m i)) (fU c.s c.m i) (13+(4+4+1)):=Vq.ofQ (h:=pJ hc i);rw[show c.m i*(c.s (i+1)-c.s i)=fU c.s c.m i from O]at m1;have a1:=di (ofQ (aq (fU c.s c.m) i)) (ofQ (fU c.s c.m i)) (hx:=v2) (hy:=v3) J Y;rw[show aq (fU c.s c.m) i+fU c.s c.m i=aq (fU c.s c.m) (i+1) from O]at a1;rw[show min i (c.S.length-1)=i by omega];generalize ofQ (aq (fU c.s c.m) i)=K0 at *
   generalize hK1:ofQ (aq (fU c.s c.m) (i+1))=K1 at *
   generalize ofQ (fU c.s c.m i)=T0 at *
   generalize ofQ (c.s (i+1)-c.s i)=D0 at *
   refine aJ hx ?_;refine H ?_;rw[hw];refine aV O ?_ ?_<;>intro h
   .clear h;refine bU 17 [30,31,32,33,34,35,36,37,38,39,40,41,42,43,44,45,46] ?_;refine aJ hmx ?_;refine H ?_;rw[hw];refine w7 O O O O O O O hy O ?_;refine H ?_;rw[hd];refine nT O O O hnum O O ?_;refine G m1 ?_;refine G a1 ?_;refine H ?_;refine⟨i+1,⟨J,fun h=>by omega⟩,J,O,O,O,O,O,congrArg I hw,O,O,?_,trivial⟩;show(_:Nat × Option Cont)=(1,some (Cont.mk 42 4 [eR (ofQ (aq (fU c.s c.m) (min (i+1) (c.S.length-1))))] 2));rw[show min (i+1) (c.S.length-1)=i+1 by omega,hK1];rfl
   .have:=aF h;exfalso;omega
  .have hie:i+1=c.S.length:=J;have hiz:=uM (c.M.getD i RR.zero) (hx:=rQ c hc i) Y;have hbf:bE c.m c.S.length=c.m i:=by rw[<-hie];rfl
   rw[show min i (c.S.length-1)=i by omega];by_cases hm:c.m i=0
   .rw[decide_eq_true hm]at hiz;refine aJ hx ?_;refine H ?_;rw[hw];refine aV O ?_ ?_<;>intro h
    .have:=ax h;exfalso;omega
    .clear h;refine aJ hmx ?_;refine ap hiz ?_;refine H ?_;refine⟨i+1,⟨J,fun _=>by rw[hbf];exact hm⟩,J,O,O,O,O,O,congrArg I hw,O,O,?_,trivial⟩;show(_:Nat × Option Cont)=(1,some (Cont.mk 42 4 [eR (ofQ (aq (fU c.s c.m) (min (i+1) (c.S.length-1))))] 2));rw[show min (i+1) (c.S.length-1)=i by omega];rfl
   .rw[decide_eq_false hm]at hiz;rw[if_neg (by rw[hbf];exact hm)]at hR;subst hR;refine aJ hx ?_;refine H ?_;rw[hw];refine aV O ?_ ?_<;>intro h
    .have:=ax h;exfalso;omega
    .clear h;refine aJ hmx ?_;refine ap hiz ?_;exact bL
 .have hie:i=c.S.length:=by have:=aF h;omega
  clear h;have hb:=hlast hie;rw[if_pos hb,uE hb]at hR;subst hR;rw[show min i (c.S.length-1)=c.S.length-1 by omega];exact bL
theorem tt (w:Int)(hw:i64 w)(x:RR)(r:AR){p A B:Rat}{k n m:Nat}(hx:Vq x p k)(hr:Va r A B n m)(h1:k<=1000000)(h2:n<=1000000)(h3:m<=1000000):Ret Tryz.prog .shared 247 [I w,.agg (eR x),.agg (eA r)] (.agg (eR (ofQ ((w:Rat)*(A+B*p))))):=by
 have zw:Zb w:=aM hw.1 hw.2;have d1:=bx w hw;have d2:=ej r.t x (hx:=hr.t) (hy:=hx) J J;have v2:Vq (ofQ (B*p)) (B*p) (m+1+(k+1)):=Vq.ofQ (h:=@HQ.mul _ _ (m+1) (k+1) hr.t.hq hx.hq);have d3:=di r.z (ofQ (B*p)) (hx:=hr.z) (hy:=v2) J J;have v3:Vq (ofQ (A+B*p)) (A+B*p) (n+1+(m+1+(k+1))+1):=Vq.ofQ (h:=@HQ.add _ _ (n+1) _ hr.z.hq (dM v2));have d4:=ej (ofQ (w:Rat)) (ofQ (A+B*p)) (hy:=v3) Y J;generalize ofQ ((w:Rat)*(A+B*p))=X4 at *
 generalize ofQ (A+B*p)=X3 at *
 generalize ofQ (B*p)=X2 at *
 generalize ofQ (w:Rat)=X1 at *
 obtain⟨az,at'⟩:=r;try simp only at *
 refine Ret.of_pwp layOk mixed Go.Proofs.Tryz.func247 O Y O O ?_;refine bU 10 [7,8,9,10,11,12,13,14,15,16] ?_;refine G d1 ?_;refine G d2 ?_;refine G d3 ?_;refine G d4 ?_;exact bL
def cI (l:List SR)(i:Nat):Rat:=nV (l.getD i dS).k.S.length (l.getD i dS).k.s (l.getD i dS).k.m
def Dd (l:List SR)(i:Nat):Prop:=bE (l.getD i dS).k.m (l.getD i dS).k.S.length=0
def yT (l:List SR)(A B:Rat)(i:Nat):Rat:=if 0<A+B*xI l i then cI l i*(A+B*xI l i) else 0
def jl (l:List SR)(A B:Rat)(n:Nat):Prop:=∀i,i<n->0<A+B*xI l i->Dd l i
noncomputable def Cb (l:List SR)(A B:Rat):PV:=@ite _ (jl l A B l.length) (Classical.propDecidable _) (.tup [.agg (eR (ofQ (aq (yT l A B) l.length))),.bool true]) (.tup [.agg zN,.bool false])
theorem yk {c:CR}(hc:c.Lim)(h8:c.S.length<=8)(h0:bE c.m c.S.length=0):HQ (nV c.S.length c.s c.m) 200:=by
 rw[uE h0];exact(bD (c.S.length-1) fun k _=>pJ hc k).mono J
theorem CO {l:List SR}(hl:jm l)(hf:qN l){A B:Rat}{n m:Nat}(hA:HQ A n)(hB:HQ B m){i:Nat}(hi:i<l.length)(ha:0<A+B*xI l i->Dd l i):HQ (yT l A B i) (200+(n+(m+4)+1)):=by
 rw[yT];split
 .rename_i h;have hx:=(hl.1 _ (bw hi)).x;have hx:Zb (l.getD i dS).x:=aM hx.1 hx.2;exact @HQ.mul _ _ 200 (n+(m+4)+1) (yk (hl.1 _ (bw hi)).k (hf.2 _ (bw hi)) (ha h)) (@HQ.add _ _ n (m+4) hA (@HQ.mul _ _ m 4 hB HQ.int))
 .exact HQ.zero.mono J
set_option maxRecDepth 20000 in
theorem xP (l:List SR)(hl:jm l)(hf:qN l)(hck:cg l=0)(r:AR){A B:Rat}{n m:Nat}(hr:Va r A B n m)(h2:n<=100000)(h3:m<=100000):Ret Tryz.prog .shared 246 [.sl (l.map eS),.agg (eA r)] (Cb l A B):=by
 have hw0:=bx 0 ⟨Y,Y⟩;rw[show(((0:Int):Rat))=0 from O]at hw0;have hml:(l.map eS).length=l.length:=ah;have hz:=hr.z.hq;have ht:=hr.t.hq;have h12:=hf.1;generalize hR:Cb l A B=R;rw[Cb]at hR;obtain⟨rz,rt⟩:=r;have hrz:=hr.z;have hrt:=hr.t;simp only at hrz hrt;refine Ret.of_pwp layOk mixed Go.Proofs.Tryz.func246 O Y O O ?_;refine G hw0 ?_;refine H ?_;refine am (fun i:Nat=>i<=l.length/\jl l A B i) (fun i=>[(3,.ptr 3 1 0 0),(4,.ptr 4 1 0 0),(6,.ptr 6 1 0 0),(14,.sl (l.map eS)),(15,I l.length),(16,I (i:Nat))])
  (fun i=>[(3,1,⟨71,8,[eA ⟨rz,rt⟩],2⟩),(4,1,⟨42,4,[zN],2⟩),(6,1,⟨42,4,[eR (ofQ (aq (yT l A B) i))],2⟩)]) (fun i=>l.length-i) 0 ⟨Nat.zero_le _,fun i hi=>by omega⟩ ⟨O,O,O,O,by rw[<-hml];rfl,O,O,O,O,trivial⟩ ?_
 intro i s ⟨hi,hall⟩;refine D ?_ ?_<;>intro h
 .have hlt:i<l.length:=by have:=ax h;omega
  clear h;have hx:=bZ (d:=dS) hlt;have hsl:=hl.1 _ (bw hlt);have h8:=hf.2 _ (bw hlt);have hkc:=cJ hck _ (bw hlt);have hxx:=hsl.x;have hzb:Zb (l.getD i dS).x:=aM hxx.1 hxx.2;have hw:=c_ i;have e1:=bx (l.getD i dS).x hxx;rw[show((l.getD i dS).x:Rat)=xI l i from O]at e1;have vx:Vq (ofQ (xI l i)) (xI l i) 4:=Vq.ofQ (h:=HQ.int);have e2:=ej rt (ofQ (xI l i)) (hx:=hrt) (hy:=vx) J Y;have v2:Vq (ofQ (B*xI l i)) (B*xI l i) (m+1+4):=Vq.ofQ (h:=@HQ.mul _ _ (m+1) 4 ht HQ.int);have e3:=di rz (ofQ (B*xI l i)) (hx:=hrz) (hy:=v2) J J;have v3:Vq (ofQ (A+B*xI l i)) (A+B*xI l i) (n+1+(m+1+4)+1):=Vq.ofQ (h:=@HQ.add _ _ (n+1) _ hz (dM v2));have e4:=nE (ofQ (A+B*xI l i)) (hx:=v3) J;have hsg:=uc (A+B*xI l i);by_cases hd:0<A+B*xI l i
  .have hsn:¬sgn (A+B*xI l i)<=0:=fun h=>by have:=hsg.1 h;grind
   have e5:=pK (l.getD i dS).k hsl.k hkc;rw[AX]at e5;generalize sgn (A+B*xI l i)=g at *
   by_cases hlim:Dd l i
   .rw[if_pos (show bE (l.getD i dS).k.m (l.getD i dS).k.S.length=0 from hlim)]at e5;have hcl:=yk hsl.k h8 hlim;rw[show nV (l.getD i dS).k.S.length (l.getD i dS).k.s (l.getD i dS).k.m=cI l i from O]at e5 hcl;have vc:Vq (ofQ (cI l i)) (cI l i) 200:=Vq.ofQ (h:=hcl);have e6:=ej (ofQ (cI l i)) (ofQ (A+B*xI l i)) (hx:=vc) (hy:=v3) Y J;have hall':jl l A B (i+1):=fun j hj hp=>by
     by_cases hje:j=i
     .subst hje;exact hlim
     .exact hall j J hp
    have v6:Vq (ofQ (cI l i*(A+B*xI l i))) (cI l i*(A+B*xI l i)) (200+(n+1+(m+1+4)+1)):=Vq.ofQ (h:=@HQ.mul _ _ 200 _ hcl (dM v3));have v7:Vq (ofQ (aq (yT l A B) i)) (aq (yT l A B) i) (i*(200+(n+1+(m+1+4)+1)+1)+4):=Vq.ofQ (h:=bD i fun k hk=>CO hl hf hz ht J (hall k hk));have e7:=di (ofQ (aq (yT l A B) i)) (ofQ (cI l i*(A+B*xI l i))) (hx:=v7) (hy:=v6) (by have:=Nat.mul_le_mul (show i<=12 by omega) (show 200+(n+1+(m+1+4)+1)+1<=200208 by omega);omega) J;rw[show aq (yT l A B) i+cI l i*(A+B*xI l i)=aq (yT l A B) (i+1) by rw[aq,yT,if_pos hd]]at e7;generalize ofQ (aq (yT l A B) i)=K0 at *
    generalize hK1:ofQ (aq (yT l A B) (i+1))=K1 at *
    generalize ofQ (cI l i*(A+B*xI l i))=P0 at *
    generalize ofQ (cI l i)=C0 at *
    generalize ofQ (A+B*xI l i)=D0 at *
    generalize ofQ (B*xI l i)=D1 at *
    generalize ofQ (xI l i)=D2 at *
    refine aJ hx ?_
    (repeat ((fail_if_success (with_reducible refine aR 5 ?_));refine cu O ?_))
    refine ar (gj 9) ?_;refine bB 9 1 [20,21,22,23,24,25,26,27,28,9] [] br O ?_;refine G e1 ?_;refine G e2 ?_;refine G e3 ?_;refine ap e4 ?_;refine D ?_ ?_<;>intro h
    .exact absurd (ax h) hsn
    clear h;refine G e5 ?_;refine bU 5 [42,43,44,45,46] ?_;refine G e6 ?_;refine G e7 ?_;refine H ?_;refine⟨i+1,⟨J,hall'⟩,J,O,O,O,O,O,congrArg I hw,O,O,?_,trivial⟩;show(_:Nat × Option Cont)=(1,some (Cont.mk 42 4 [eR (ofQ (aq (yT l A B) (i+1)))] 2));rw[hK1];rfl
   .rw[if_neg (show ¬bE (l.getD i dS).k.m (l.getD i dS).k.S.length=0 from hlim)]at e5;rw[if_neg (fun h=>hlim (h i hlt hd))]at hR;subst hR;generalize ofQ (A+B*xI l i)=D0 at *
    generalize ofQ (B*xI l i)=D1 at *
    generalize ofQ (xI l i)=D2 at *
    refine aJ hx ?_
    (repeat ((fail_if_success (with_reducible refine aR 5 ?_));refine cu O ?_))
    refine ar (gj 9) ?_;refine bB 9 1 [20,21,22,23,24,25,26,27,28,9] [] br O ?_;refine G e1 ?_;refine G e2 ?_;refine G e3 ?_;refine ap e4 ?_;refine D ?_ ?_<;>intro h
    .exact absurd (ax h) hsn
    clear h;refine G e5 ?_;exact bL
  .have hsn:sgn (A+B*xI l i)<=0:=hsg.2 cH;have hall':jl l A B (i+1):=fun j hj hp=>by
    by_cases hje:j=i
    .subst hje;exact absurd hp hd
    .exact hall j J hp
   have hsum:aq (yT l A B) (i+1)=aq (yT l A B) i:=by rw[aq,yT,if_neg hd];grind
   generalize sgn (A+B*xI l i)=g at *
   generalize ofQ (A+B*xI l i)=D0 at *
   generalize ofQ (B*xI l i)=D1 at *
   generalize ofQ (xI l i)=D2 at *
   refine aJ hx ?_
   (repeat ((fail_if_success (with_reducible refine aR 5 ?_));refine cu O ?_))
   refine ar (gj 9) ?_;refine bB 9 1 [20,21,22,23,24,25,26,27,28,9] [] br O ?_;refine G e1 ?_;refine G e2 ?_;refine G e3 ?_;refine ap e4 ?_;refine D ?_ ?_<;>intro h
   .clear h;refine H ?_;refine⟨i+1,⟨J,hall'⟩,J,O,O,O,O,O,congrArg I hw,O,O,?_,trivial⟩;show(_:Nat × Option Cont)=(1,some (Cont.mk 42 4 [eR (ofQ (aq (yT l A B) (i+1)))] 2));rw[hsum];rfl
   .exact absurd hsn (aF h)
 .have hie:i=l.length:=by have:=aF h;omega
  clear h;subst hie;rw[if_pos hall]at hR;subst hR;exact bL
noncomputable def nr (b:BR)(A B:Rat):Bool:=@decide (jl b.l A B b.l.length/\aq (yT b.l A B) b.l.length<(b.w:Rat)*(A+B*b.a.val)) (Classical.propDecidable _)
set_option maxRecDepth 20000 in
theorem l5 (b:BR)(hb:b.Ok)(r:AR){A B:Rat}{n m:Nat}(hr:Va r A B n m)(h2:n<=90000)(h3:m<=90000):Ret Tryz.prog .shared 200 [.agg (eB b),.agg (eA r)] (.bool (nr b A B)):=by
 have h1:=xP b.l hb.lim.l hb.few hb.chkL r hr J J;have zw:Zb b.w:=aM hb.lim.w.1 hb.lim.w.2;have hd:=tt b.w hb.lim.w b.a r hb.lim.a.v hr Y J J;have vd:Vq (ofQ ((b.w:Rat)*(A+B*b.a.val))) ((b.w:Rat)*(A+B*b.a.val)) (4+(n+1+(m+1+13)+1)):=Vq.ofQ (h:=@HQ.mul _ _ 4 _ HQ.int (@HQ.add _ _ (n+1) _ hr.z.hq (@HQ.mul _ _ (m+1) 13 hr.t.hq hb.lim.a.v.hq)));rw[Cb]at h1;by_cases hall:jl b.l A B b.l.length
 .rw[if_pos hall]at h1;have h12:=hb.few.1;have hs:=bD (m:=200+(n+1+(m+1+4)+1)) b.l.length fun k hk=>CO hb.lim.l hb.few hr.z.hq hr.t.hq hk (hall k hk);have vs:Vq (ofQ (aq (yT b.l A B) b.l.length)) (aq (yT b.l A B) b.l.length) (b.l.length*(200+(n+1+(m+1+4)+1)+1)+4):=Vq.ofQ (h:=hs);have hc:=mL (ofQ (aq (yT b.l A B) b.l.length)) (ofQ ((b.w:Rat)*(A+B*b.a.val))) (hx:=vs) (hy:=vd) (by have:=Nat.mul_le_mul (show b.l.length<=12 by omega) (show 200+(n+1+(m+1+4)+1)+1<=180210 by omega);omega) J;have hsl:=f_ (aq (yT b.l A B) b.l.length-(b.w:Rat)*(A+B*b.a.val));have key:nr b A B=decide (sgn (aq (yT b.l A B) b.l.length-(b.w:Rat)*(A+B*b.a.val))<0):=by
   rw[nr,decide_eq_decide,hsl];constructor
   .intro h;have:=h.2;grind
   .intro h;exact⟨hall,cH⟩
  rw[key];generalize sgn (aq (yT b.l A B) b.l.length-(b.w:Rat)*(A+B*b.a.val))=g at *
  generalize ofQ (aq (yT b.l A B) b.l.length)=S at *
  generalize ofQ ((b.w:Rat)*(A+B*b.a.val))=D0 at *
  obtain⟨w,ba,l⟩:=b;obtain⟨rz,rt⟩:=r;try simp only at *
  refine Ret.of_pwp layOk mixed Go.Proofs.Tryz.func200 O Y O O ?_;refine G h1 ?_;refine bU 13 [14,15,16,17,18,19,20,21,22,23,24,25,4] ?_;refine G hd ?_;refine ap hc ?_;exact fE
 .rw[if_neg hall]at h1;have key:nr b A B=false:=by
   unfold nr;exact @decide_eq_false _ (Classical.propDecidable _) (fun h=>hall h.1)
  rw[key];clear hd vd;obtain⟨w,ba,l⟩:=b;obtain⟨rz,rt⟩:=r;try simp only at *
  refine Ret.of_pwp layOk mixed Go.Proofs.Tryz.func200 O Y O O ?_;refine G h1 ?_;refine bU 13 [14,15,16,17,18,19,20,21,22,23,24,25,4] ?_;exact fE
end Go.Pv
namespace Go.Pv
open Go.RowKit Go.Sort
section
variable {P:Program}{L:Lay}{C:Ctx}{γ:Nat->Option Nat}{s:St}{a:Act}{w w':World}
structure Chg (w w':World) (b:Nat) (T:TypeId) (cur:Array Value):Prop where
 os:w'.os=w.os
 tape:w'.tape=w.tape
 output:w'.output=w.output
 size:w.heap.size<=w'.heap.size
 other:∀b',b'≠b->b'<w.heap.size->w'.heap[b']? = w.heap[b']?
 at_:w'.heap[b]? = some (.cells cur T (0,0))
theorem AY (h:Sim C γ s a w){k g b:Nat}{c c':Cont}{cur cur':Array Value}(ho:s.own k=(g,some c))(hb:γ k=some b)(hh:w.heap[b]? = some (.cells cur c.ty (0,0)))(hsz:cur'.size=cur.size)
  (hc:Chg w w' b c.ty cur') (h1:c'.ty=c.ty) (h2:c'.sz=c.sz) (h3:c.rows.length<=c'.rows.length) (hs:SiteOk (ak C γ (s.setOwn k g (some c')) (w.setRow b cur')) (some b) c'):Sim C γ (s.setOwn k g (some c')) a w':=by
 refine(pp h ho hb hh hsz h1 h2 h3 hs).ext ⟨hc.os,hc.tape,hc.output,by simpa using hc.size,fun b' hb'=>?_⟩;have hb'':b'<w.heap.size:=by simpa using hb'
 by_cases he:b'=b
 .subst he;rw[hc.at_,setRow_heap w b' cur cur' c.ty (0,0) hh]
 .rw[hc.other b' he hb'',setRow_other w b b' cur' he]
theorem uF {α:Type}[Inhabited α]{e:α->Value}{q b:Nat}{d':Array α}{os:Array Obj}{T:TypeId}{cur:Array Value}(hh:w.heap[b]? = some (.cells cur T (0,0)))(hw:w'=grow (putRow e (Sort.ahead w q) b 0 d') os):Chg w w' b T (putCells e 0 d' cur):=by
 have hlt:b<w.heap.size:=(b_ hh).1;subst hw;refine⟨O,O,O,ah,fun b' hne hb'=>?_,?_⟩
 .rw[heap_grow_old _ _ (by simpa using hb')];show(w.heap.modify b _)[b']? = _;rw[Array.getElem?_modify,if_neg (Ne.symm hne)]
 .rw[heap_grow_old _ _ (by simpa using hlt)];show(w.heap.modify b _)[b]? = _;rw[Array.getElem?_modify,if_pos O,hh];rfl
theorem jf {α:Type}[Inhabited α](e:α->Value)(off:Nat)(d:Array α)(c:Array Value):(putCells e off d c).size=c.size:=by simp[putCells]
theorem jg {α:Type}[Inhabited α](e:α->Value)(d:Array α)(c:Array Value)(h:d.size<=c.size):(putCells e 0 d c).toList.take d.size=d.toList.map e:=by
 apply List.ext_getElem
 .simp[putCells];omega
 intro i h1 h2;have hi:i<d.size:=by simpa using h2
 simp[putCells,hi]
theorem tP {E:Env}{k:Nat}{c:PV}(h:eO c=true):KRep E k c (scv c):=by
 match k with
 |0=>exact(fu h _ _).1
 |1=>exact(fu h _ _).1
 |_+2=>exact .d (fu h _ _).1
def ib {α:Type}(enc:α->List PV)(l:List α):List Value:=l.flatMap fun x=>(enc x).map scv
theorem wo {α:Type}{enc:α->List PV}{sz:Nat}(h:∀x,(enc x).length=sz)(l:List α):(ib enc l).length=l.length*sz:=by
 induction l with
 |nil=>simp[ib]
 |cons x l ih=>simp only[ib,List.flatMap_cons,List.length_append,List.length_map,List.length_cons,h,Nat.add_mul,Nat.one_mul]at ih ⊢;omega
theorem kn {α:Type}{enc:α->List PV}{sz:Nat}(h:∀x,(enc x).length=sz):∀(l:List α) (i j:Nat) (x:α) (c:PV),l[i]? = some x->(enc x)[j]? = some c->(ib enc l)[i*sz+j]? = some (scv c)
 |[],i,j,x,c,h1,_=>by simp at h1
 |y::l,0,j,x,c,h1,h2=>by
  simp at h1;subst h1;have hj:=(be h2).1;rw[ib,List.flatMap_cons,List.getElem?_append_left aK,List.getElem?_map,Nat.zero_mul,Nat.zero_add,h2];rfl
 |y::l,i+1,j,x,c,h1,h2=>by
  have ih:=kn h l i j x c (by simpa using h1) h2;rw[ib,List.flatMap_cons,List.getElem?_append_right (by rw[List.length_map,h,Nat.add_mul];omega),List.length_map,h];rw[show(i+1)*sz+j-sz=i*sz+j by rw[Nat.add_mul];omega];exact ih
theorem vD {l m:List Value}{n i:Nat}{v:Value}(h:l.take n=m)(hi:m[i]? = some v):l[i]? = some v:=by
 rw[<-h,List.getElem?_take]at hi;split at hi
 .exact hi
 .cases hi
def Fw (ro:Option Nat)(a:Option Addr)(cap:Nat):Value:=match ro with
 |none => .tuple #[]
 |some n => .slice a n cap
def F6 (ro:Option Nat)(k g:Nat):PV:=match ro with
 |none => .tup []
 |some n => .als k g 0 n
variable [Globs]
theorem nG {α:Type}{enc:α->List PV}{l:List α}{d k g m sz kd f:Nat}{T ty:TypeId}{pos:String}{af:Array Edge}{x fop:Operand}{more:List Operand}{mv:List FuncId}{tys:Array TypeId}{K:St->Prop}(ro:Option Nat)(Q:List α->Prop)
  (hpl:∀x,(enc x).all eO=true) (hlen:∀x,(enc x).length=sz) (hsz:0<sz) (hf:s.ev fop = .clo f []) (hx:s.ev x = .als k g 0 m) (hm:m=l.length) (ho:s.own k=(g,some ⟨T,sz,l.map enc,kd⟩)) (hmore:more.map s.ev=mv.map fun f => .clo f []) (hcal:eF P f) (hro:∀n,ro=some n->n<=l.length)
  (h0:l=[]->Q []/\∀w:World,Globs.glob w->Calls P f (Value.slice none 0 0::mv.map fun f => .func (.func f) #[] #[]).toArray w fun e w'=>e = .returned (Fw ro none 0)/\Below w.heap.size w w')
  (hcall:∀(w:World) (b cap:Nat) (cur:Array Value),w.heap[b]? = some (.cells cur T (0,0))->l.length<=cap->l.length*sz<=cur.size->cur.toList.take (l.length*sz)=ib enc l->Globs.glob w ->
   Calls P f (Value.slice (some ⟨b,0,none⟩) l.length cap::mv.map fun f => .func (.func f) #[] #[]).toArray w fun e w'=>∃l' cur',Q l'/\l'.length=l.length/\e = .returned (Fw ro (some ⟨b,0,none⟩) cap)/\Chg w w' b T cur'/\cur'.size=cur.size/\cur'.toList.take (l.length*sz)=ib enc l')
  (h:∀l',Q l'->l'.length=l.length->K ((s.setOwn k g (some ⟨T,sz,l'.map enc,kd⟩)).putR d (F6 ro k g))):Sm P L s ⟨some d,.call ⟨.value fop,(x::more).toArray,tys⟩,ty,pos,af,none⟩ K:=by
 intro C a w Qp hG hs hN;obtain⟨γ,hs⟩:=hs;have hfv:=hs.ev fop;rw[hf]at hfv;obtain⟨vs,hv,hl,_⟩:=hfv.clo_inv;have hvs:vs=[]:=List.eq_nil_of_length_eq_zero (by simpa using hl.symm);subst hvs;have hmv:more.map a.eval=mv.map fun f=>Value.func (.func f) #[] #[]:=by
  clear h0 hcall h
  induction more generalizing mv with
  |nil=>cases mv with
   |nil=>rfl
   |cons f mv=>simp at hmore
  |cons y more ih=>cases mv with
   |nil=>simp at hmore
   |cons f mv =>
    simp only[List.map_cons,List.cons.injEq]at hmore ⊢;have hy:=hs.ev y;rw[hmore.1]at hy;obtain⟨vs,hv,hl,_⟩:=hy.clo_inv;have hvs:vs=[]:=List.eq_nil_of_length_eq_zero (by simpa using hl.symm);subst hvs;exact⟨hv,ih hmore.2 hN⟩
 have hxr:=hs.ev x;rw[hx]at hxr;have hals:=hs.als_at hxr ho;unfold Oper.wp;rw[iJ (f:=f) O hv hcal,Oper.upon_enter];simp only[List.map_cons,List.append_nil,hmv];have hglob:=hG.glob _ hs.below;rcases hals with⟨h1,_,h3,h4⟩|⟨b,cap,cur,h1,h2,h3,h4,h5,h6,h7⟩
 .have hnil:l=[]:=List.eq_nil_of_length_eq_zero J;rw[h4];refine((h0 hnil).2 w hglob).mono ?_;rintro e w' ⟨rfl,hbel⟩;have hs':=hs.ext hbel;have hst:s=s.setOwn k g (some ⟨T,sz,l.map enc,kd⟩):=by
   have:s.own=(s.setOwn k g (some ⟨T,sz,l.map enc,kd⟩)).own:=by
    funext r;by_cases hr:r=k
    .subst hr;rw[ai,ho]
    .rw[aB hr]
   cases s;simp only[St.setOwn]at this ⊢;rw[<-this]
  have hKs:=h [] (h0 hnil).1 (by rw[hnil]);rw[hnil]at hst;rw[<-hst]at hKs;refine⟨_,⟨γ,hs'.put (d:=some d) hN ?_⟩,hKs⟩;cases ro with
  |none=>exact .tup [] [] rfl fun i c v e=>by simp at e
  |some n =>
   have hn:=hro n O;rw[hnil]at hn;have hn0:n=0:=by simpa using hn
   subst hn0;refine .als (by simp[ak,ho]) fun _ l2 hl2=>?_;simp only[ak,ho,Option.map_some,Option.some.injEq]at hl2;subst hl2;exact .inl ⟨h1,O,O,O⟩
 .subst hm;rw[h2];simp only[Nat.zero_mul];have h3:w.heap[b]? = some (.cells cur T (0,0)):=h3;have hz:(0+cap)*sz=cap*sz:=by rw[Nat.zero_add]
  have hcs:cur.size=cap*sz:=by rw[<-hz];exact h6
  have hle:l.length*sz<=cur.size:=by rw[hcs];exact Nat.mul_le_mul_right _ h4
  obtain⟨cur0,g1,_,_,g4,g5⟩:=hs.site_at ho h1 hsz;have g1:w.heap[b]? = some (.cells cur0 T (0,0)):=g1;rw[h3]at g1;simp only[Option.some.injEq,Obj.cells.injEq,and_true]at g1;subst g1;have hflat:cur.toList.take (l.length*sz)=ib enc l:=by
   apply List.ext_getElem?;intro q;by_cases hq:q<l.length*sz
   .have hqi:q/sz<l.length:=(Nat.div_lt_iff_lt_mul hsz).2 hq;have hqj:q%sz<sz:=Nat.mod_lt _ hsz;have hqe:q/sz*sz+q%sz=q:=by rw[Nat.mul_comm];exact Nat.div_add_mod q sz
    have hx1:l[q/sz]? = some l[q/sz]:=List.getElem?_eq_getElem hqi;have hx2:(enc l[q/sz])[q%sz]? = some ((enc l[q/sz])[q%sz]'(by rw[hlen];exact hqj)):=List.getElem?_eq_getElem _;obtain⟨v,e1,_,e3⟩:=g5 (q/sz) (q%sz) (enc l[q/sz]) _ (by rw[List.getElem?_map,hx1];rfl) hx2;have hpv:=List.all_eq_true.1 (hpl l[q/sz]) _ (aZ hx2);have hv:=oX hpv (e3.rep ay);have:=kn hlen l (q/sz) (q%sz) _ _ hx1 hx2;rw[hqe]at this e1;rw[this,List.getElem?_take,if_pos hq,Array.getElem?_toList,e1,hv]
   .rw[List.getElem?_take,if_neg hq,List.getElem?_eq_none (by rw[wo hlen];omega)]
  refine(hcall w b cap cur h3 h4 hle hflat hglob).mono ?_;rintro e w' ⟨l',cur',hQ,hl',rfl,hchg,hcz,hfl⟩;have hsite:SiteOk (ak C γ (s.setOwn k g (some ⟨T,sz,l'.map enc,kd⟩)) (w.setRow b cur')) (some b) ⟨T,sz,l'.map enc,kd⟩:=by
   refine⟨(fun e=>by cases e),(fun b' _ hz=>by simp only at hz;omega),(fun b' _ hz=>by simp only at hz;omega),fun b' hb' _=>?_⟩;simp at hb';subst hb';refine⟨cur',setRow_heap w b cur cur' T (0,0) h3,hsz,by simp only[List.length_map];rw[hl',hcz];exact hle,fun row hr=>?_,fun i j row pv e1 e2=>?_⟩
   .simp only[List.mem_map]at hr;obtain⟨y,_,rfl⟩:=hr;exact hlen y
   .simp only[List.getElem?_map,Option.map_eq_some_iff]at e1;obtain⟨y,hy,rfl⟩:=e1;have hpv:=List.all_eq_true.1 (hpl y) _ (aZ e2);have:=vD hfl (kn hlen l' i j y pv hy e2);exact⟨scv pv,by rw[<-Array.getElem?_toList];exact this,(fu hpv w (fun _=>True)).2,tP hpv⟩
  have hsim:=AY (c':=⟨T,sz,l'.map enc,kd⟩) hs ho h1 h3 hcz hchg O O (by simp[hl']) hsite;refine⟨_,⟨γ,hsim.put (d:=some d) hN ?_⟩,h l' hQ hl'⟩;cases ro with
  |none=>exact .tup [] [] rfl fun i c v e=>by simp at e
  |some n =>
   have hn:=hro n O;refine .als (by simp[ak,ai]) fun _ l2 hl2=>?_;simp only[ak,ai,Option.map_some,Option.some.injEq]at hl2;subst hl2;exact .inr ⟨b,cap,cur',h1,by simp[Fw],hchg.at_,J,h5,by rw[hcz];exact h6,by simp;omega⟩
end
end Go.Pv
namespace Go.Proofs
open Go.Shelf
def Tryz.lays189_ren:Go.Shelf.Ren:=⟨fun|189=>275|125=>289|257=>288|128=>301|129=>302|294=>292|295=>293|296=>294|297=>295|298=>296|299=>297|216=>298|300=>299|301=>300|328=>305|329=>306|330=>307|331=>308|332=>309|215=>310|343=>312|n=>n,fun|28=>92|3=>3|46=>278|0=>0|51=>320|53=>226|4=>4|183=>337|182=>336|131=>89|5=>5|9=>9|218=>347|222=>351|228=>353|229=>354|n=>n,fun|n=>n⟩
theorem Tryz.lays189:Go.Proofs.Lays.n189 Tryz.prog Tryz.lays189_ren:={
 mixed:=by kernel_rfl
 f125:=Tryz.func289.trans (congrArg some (by kernel_rfl))
 f128:=Tryz.func301.trans (congrArg some (by kernel_rfl))
 f129:=Tryz.func302.trans (congrArg some (by kernel_rfl))
 f189:=Tryz.func275.trans (congrArg some (by kernel_rfl))
 f215:=Tryz.func310.trans (congrArg some (by kernel_rfl))
 f216:=Tryz.func298.trans (congrArg some (by kernel_rfl))
 f257:=Tryz.func288.trans (congrArg some (by kernel_rfl))
 f294:=Tryz.func292.trans (congrArg some (by kernel_rfl))
 f295:=Tryz.func293.trans (congrArg some (by kernel_rfl))
 f296:=Tryz.func294.trans (congrArg some (by kernel_rfl))
 f297:=Tryz.func295.trans (congrArg some (by kernel_rfl))
 f298:=Tryz.func296.trans (congrArg some (by kernel_rfl))
 f299:=Tryz.func297.trans (congrArg some (by kernel_rfl))
 f300:=Tryz.func299.trans (congrArg some (by kernel_rfl))
 f301:=Tryz.func300.trans (congrArg some (by kernel_rfl))
 f328:=Tryz.func305.trans (congrArg some (by kernel_rfl))
 f329:=Tryz.func306.trans (congrArg some (by kernel_rfl))
 f330:=Tryz.func307.trans (congrArg some (by kernel_rfl))
 f331:=Tryz.func308.trans (congrArg some (by kernel_rfl))
 f332:=Tryz.func309.trans (congrArg some (by kernel_rfl))
 f343:=Tryz.func312.trans (congrArg some (by kernel_rfl))
 t0:=Tryz.underlying0
 a0:=Tryz.isAgg0
 z0:=Tryz.sizeOf0
 v0:=Tryz.zeroValue0
 t3:=Tryz.underlying3
 a3:=Tryz.isAgg3
 z3:=Tryz.sizeOf3
 v3:=Tryz.zeroValue3
 t4:=Tryz.underlying4
 a4:=Tryz.isAgg4
 z4:=Tryz.sizeOf4
 v4:=Tryz.zeroValue4
 t5:=Tryz.underlying5
 a5:=Tryz.isAgg5
 z5:=Tryz.sizeOf5
 v5:=Tryz.zeroValue5
 t9:=Tryz.underlying9
 a9:=Tryz.isAgg9
 z9:=Tryz.sizeOf9
 v9:=Tryz.zeroValue9
 t28:=Tryz.underlying92
 a28:=Tryz.isAgg92
 z28:=Tryz.sizeOf92
 v28:=Tryz.zeroValue92
 t46:=Tryz.underlying278
 a46:=Tryz.isAgg278
 z46:=Tryz.sizeOf278
 v46:=Tryz.zeroValue278
 t51:=Tryz.underlying320
 a51:=Tryz.isAgg320
 z51:=Tryz.sizeOf320
 v51:=Tryz.zeroValue320
 t53:=Tryz.underlying226
 a53:=Tryz.isAgg226
 z53:=Tryz.sizeOf226
 v53:=Tryz.zeroValue226
 t131:=Tryz.underlying89
 a131:=Tryz.isAgg89
 z131:=Tryz.sizeOf89
 v131:=Tryz.zeroValue89
 t182:=Tryz.underlying336
 a182:=Tryz.isAgg336
 z182:=Tryz.sizeOf336
 v182:=Tryz.zeroValue336
 t183:=Tryz.underlying337
 a183:=Tryz.isAgg337
 z183:=Tryz.sizeOf337
 v183:=Tryz.zeroValue337
 t218:=Tryz.underlying347
 a218:=Tryz.isAgg347
 z218:=Tryz.sizeOf347
 v218:=Tryz.zeroValue347
 t222:=Tryz.underlying351
 a222:=Tryz.isAgg351
 z222:=Tryz.sizeOf351
 v222:=Tryz.zeroValue351
 t228:=Tryz.underlying353
 a228:=Tryz.isAgg353
 z228:=Tryz.sizeOf353
 v228:=Tryz.zeroValue353
 t229:=Tryz.underlying354
 a229:=Tryz.isAgg354
 z229:=Tryz.sizeOf354
 v229:=Tryz.zeroValue354 }
open Go.Sort Go.RowKit in
theorem Tryz.slices_Sort_int (blk off cap:Nat)(zs:List Int)(w:World)(hH:Holds (Value.int .i64) w blk off zs.toArray)(hblk:blk<w.heap.size)(hsz:zs.length<4611686018427387904) :
  Calls Tryz.prog 275 #[.slice (some ⟨blk,off,none⟩) zs.length cap] w fun e w' =>
   e = .returned (.tuple #[])/\∃n os,w'=grow (putRow (Value.int .i64) (Sort.ahead w n) blk off (zs.mergeSort fun x y=>decide (x<=y)).toArray) os:=Any.slices_Sort_int Tryz.lays189 blk off cap zs w hH hblk hsz
def Tryz.laysNm220_ren:Go.Shelf.Ren:=⟨fun|20=>276|n=>n,fun|22=>92|3=>3|4=>4|0=>0|n=>n,fun|n=>n⟩
theorem Tryz.laysNm220:Go.Proofs.Lays2.n20 Tryz.prog Tryz.laysNm220_ren:={
 mixed:=by kernel_rfl
 f20:=Tryz.func276.trans (congrArg some (by kernel_rfl))
 t0:=Tryz.underlying0
 a0:=Tryz.isAgg0
 z0:=Tryz.sizeOf0
 v0:=Tryz.zeroValue0
 t3:=Tryz.underlying3
 a3:=Tryz.isAgg3
 z3:=Tryz.sizeOf3
 v3:=Tryz.zeroValue3
 t4:=Tryz.underlying4
 a4:=Tryz.isAgg4
 z4:=Tryz.sizeOf4
 v4:=Tryz.zeroValue4
 t22:=Tryz.underlying92
 a22:=Tryz.isAgg92
 z22:=Tryz.sizeOf92
 v22:=Tryz.zeroValue92
 i3:=by kernel_rfl }
open Go.RowKit Go.Lib Go.Sort in
theorem Tryz.slices_Compact_int (blk off cap:Nat)(zs:List Int)(w:World)(hH:Holds (Value.int .i64) w blk off zs.toArray)(hsz:zs.length<=9223372036854775807)(hcap:zs.length<=cap) :
  Calls Tryz.prog 276 #[.slice (some ⟨blk,off,none⟩) zs.length cap] w fun e w'=>e = .returned (.slice (some ⟨blk,off,none⟩) (Lib.compact zs).length cap)/\∃q,w'=putRow (Value.int .i64) (Sort.ahead w q) blk off (Lib.compact zs++List.replicate (zs.length-(Lib.compact zs).length) 0).toArray:=Any.slices_Compact_int Tryz.laysNm220 blk off cap zs w hH hsz hcap
open Go.RowKit Go.Lib Go.Sort in
theorem Tryz.slices_Compact_int_empty (a:Option Addr)(cap:Nat)(w:World) :
  Calls Tryz.prog 276 #[.slice a 0 cap] w fun e w'=>e = .returned (.slice a 0 cap)/\w'=w:=Any.slices_Compact_int_empty Tryz.laysNm220 a cap w
open Go.RowKit Go.Sort in
theorem Tryz.slices_Sort_int_none (p:Option Addr)(cap:Nat)(w:World) :
  Calls Tryz.prog 275 #[.slice p 0 cap] w fun e w'=>e = .returned (.tuple #[])/\w'=w:=Any.slices_Sort_int_none Tryz.lays189 p cap w
end Go.Proofs
set_option maxHeartbeats 2000000
namespace Go.Pv
attribute [local irreducible] PWP POps PQuiet PSem aH au aj ao
open Go.Proofs Go.RowKit Go.Sort
theorem Sim.cutS {C:Ctx}{γ:Nat->Option Nat}{s:St}{a:Act}{w:World}(h:Sim C γ s a w){k g n:Nat}{c:Cont}(ho:s.own k=(g,some c))(hz:0<c.sz):Sim C γ (s.setOwn k (g+1) (some ⟨c.ty,c.sz,c.rows.take n,c.kind⟩)) a w:=by
 have hown:∀k' c'',((s.setOwn k (g+1) (some ⟨c.ty,c.sz,c.rows.take n,c.kind⟩)).own k').2=some c''->∃c3,(s.own k').2=some c3:=by
  intro k' c'' hc;by_cases hk:k'=k
  .subst hk;exact⟨c,by rw[ho]⟩
  .rw[aB hk]at hc;exact⟨c'',hc⟩
 have hok:∀b',dR C γ s w b'->dR C γ (s.setOwn k (g+1) (some ⟨c.ty,c.sz,c.rows.take n,c.kind⟩)) w b':=by
  rintro b' ⟨f1,f2,f3⟩;exact⟨f1,f2,fun k' c'' hc=>let ⟨c3,hc3⟩:=hown k' c'' hc;f3 k' c3 hc3⟩
 have hle:(ak C γ s w).Le (ak C γ (s.setOwn k (g+1) (some ⟨c.ty,c.sz,c.rows.take n,c.kind⟩)) w):=by
  refine⟨hok,fun b' hb'=>⟨hb'.1,hok b' hb'.2⟩,fun b' hb'=>hb'.2,fun b' _=>rfl,fun k'=>?_,fun k' l' hg hl=>?_,fun k' l' b' cur'' _ hl hb' hh'=>⟨cur'',hh',O⟩⟩
  .show(s.own k').1<=((s.setOwn k (g+1) _).own k').1;by_cases hk:k'=k
   .subst hk;rw[ai,ho];exact Nat.le_succ _
   .rw[aB hk];exact aO
  .by_cases hk:k'=k
   .subst hk;have:((s.setOwn k' (g+1) (some ⟨c.ty,c.sz,c.rows.take n,c.kind⟩)).own k').1=(s.own k').1:=hg;rw[ai,ho]at this;simp at this
   .simp only[ak,aB hk]at hl;exact⟨l',hl,O,O,O,aO⟩
 refine⟨h.defers,h.size,fun r=>(h.regs r).mono hle,fun k' c'' hc=>?_,fun k1 k2 c1 c2 b' e1 e2 e3 e4=>?_,fun k' c'' b' e1 e2=>?_,h.below,h.top,fun c v hk=>(h.kept c v hk).mono hle⟩
 .by_cases hk:k'=k
  .subst hk;rw[ai]at hc;simp at hc;subst hc;have hs:=h.sites k' c (by rw[ho]);refine⟨fun hb=>by simp[hs.emp hb],(fun b' _ hz'=>by simp only at hz';omega),(fun b' _ hz'=>by simp only at hz';omega),fun b' hb' _=>?_⟩;obtain⟨cur,h1,h2,h3,h4,h5⟩:=hs.at_ b' hb' hz;refine⟨cur,h1,h2,?_,fun row hr=>h4 row (List.mem_of_mem_take hr),fun i j row pv e1 e2=>?_⟩
   .simp only[List.length_take];exact Nat.le_trans (Nat.mul_le_mul_right _ (Nat.min_le_right _ _)) h3
   .simp only[List.getElem?_take]at e1;split at e1
    .obtain⟨v,f1,f2,f3⟩:=h5 i j row pv e1 e2;exact⟨v,f1,f2,f3.mono hle⟩
    .cases e1
  .rw[aB hk]at hc;exact(h.sites k' c'' hc).mono hle fun b' hb'=>rfl
 .obtain⟨d1,f1⟩:=hown k1 c1 e1;obtain⟨d2,f2⟩:=hown k2 c2 e2;exact h.inj k1 k2 d1 d2 b' f1 f2 e3 e4
 .obtain⟨d1,f1⟩:=hown k' c'' e1;exact h.base k' d1 b' f1 e2
theorem Ghost.cut {s:St}{k g t n sz kd:Nat}{T:TypeId}{rows:List (List PV)}(ho:s.own k=(g,some ⟨T,sz,rows,kd⟩))(hr:s.reg t = .als k g 0 n)(hn:n<=rows.length)(hz:Nat.blt 0 sz=true) :
  Ghost s ((s.setOwn k (g+1) (some ⟨T,sz,rows.take n,kd⟩)).putR t (.als k (g+1) 0 n)):=by
 intro C a w hX ⟨γ,h⟩;have hz:0<sz:=by simpa using hz
 have h':=h.cutS (n:=n) ho hz;have hals:=h.als_at (by rw[<-hr];exact h.regs t) ho;refine⟨γ,h'.defers,h'.size,fun r=>?_,h'.sites,h'.inj,h'.base,h'.below,h'.top,h'.kept⟩;show Rep (ak C γ (s.setOwn k (g+1) (some ⟨T,sz,rows.take n,kd⟩)) w) (bif Nat.beq r t then _ else _) _;by_cases hrt:r=t
 .subst hrt;rw[Nat.beq_refl,cond_true];refine .als (by simp[ak,ai]) fun _ l hl=>?_;simp only[ak,ai,Option.map_some,Option.some.injEq]at hl;subst hl;rcases hals with⟨h1,h2,h3,h4⟩|⟨b,cap,cur,h1,h2,h3,h4,h5,h6,h7⟩
  .exact .inl ⟨h1,h2,h3,h4⟩
  .exact .inr ⟨b,cap,cur,h1,h2,h3,h4,h5,h6,by simp;omega⟩
 .rw[aX hrt,cond_false];exact h'.regs r
def cP (l:List Int):List Int:=l.mergeSort fun x y=>decide (x<=y)
def qd (l:List Int):List Int:=Lib.compact l++List.replicate (l.length-(Lib.compact l).length) 0
theorem ri (x:Int):(eN x).all eO=true:=rfl
theorem mX {w:World}{b:Nat}{T:TypeId}{cur:Array Value}{l:List Int}(hh:w.heap[b]? = some (.cells cur T (0,0)))(hc:cur.toList.take (l.length*1)=ib eN l):Holds (Value.int .i64) w b 0 l.toArray:=fun j hj=>by
 have hj':j<l.length:=by simpa using hj
 have hx:l[j]? = some l[j]:=List.getElem?_eq_getElem hj';have h1:=vD hc (kn (sz:=1) (fun _=>rfl) l j 0 l[j] (I l[j]) hx O);rw[Nat.mul_one,Nat.add_zero]at h1;refine⟨?_,frozen_of_row w b _ cur T hh⟩;rw[aW hh,Nat.zero_add,<-Array.getElem?_toList,h1];simp[hj',scv]
theorem oF (l:List Int):ib eN l=l.map (Value.int .i64):=by
 induction l with
 |nil=>rfl
 |cons x l ih=>rw[ib,List.flatMap_cons,List.map_cons,<-ih];rfl
theorem AV:eF Tryz.prog 275:=⟨_,Go.Proofs.Tryz.func275,Y,O⟩
theorem AW:eF Tryz.prog 276:=⟨_,Go.Proofs.Tryz.func276,Y,O⟩
section
variable {C:Ctx}{s:St}{d k g m kd:Nat}{ty:TypeId}{pos:String}{af:Array Edge}{x:Operand}{tys:Array TypeId}{K:St->Prop}
set_option maxRecDepth 20000 in
theorem Ao (l:List Int)(hl:l.length<=1000000)(hx:s.ev x = .als k g 0 m)(hm:m=l.length)(ho:s.own k=(g,some ⟨3,1,l.map eN,kd⟩))
  (h:K ((s.setOwn k g (some ⟨3,1,(cP l).map eN,kd⟩)).putR d (.tup []))):Sm Tryz.prog lay.get s ⟨some d,.call ⟨.value (.func 275),#[x],tys⟩,ty,pos,af,none⟩ K:=by
 refine nG (enc:=eN) (l:=l) (sz:=1) (more:=[]) (mv:=[]) none (fun l'=>l'=cP l) ri (fun _=>rfl) Y O hx hm ho O AV (fun n h=>by cases h) (fun hl0=>?_) (fun w b cap cur hh h1 h2 hc hg=>?_) (fun l' hQ _=>?_)
 .subst hl0;refine⟨by simp[cP],fun w _=>(Tryz.slices_Sort_int_none none 0 w).mono ?_⟩;rintro e w' ⟨rfl,rfl⟩;exact⟨O,Below.refl _ _⟩
 .have hb:b<w.heap.size:=(b_ hh).1;refine(Tryz.slices_Sort_int b 0 cap l w (mX hh hc) hb J).mono ?_;rintro e w' ⟨rfl,n,os,hw⟩;have hlen:(cP l).length=l.length:=by simp[cP]
  have hchg:=uF (T:=3) hh hw;refine⟨cP l,_,O,hlen,O,hchg,jf _ _ _ _,?_⟩;have:=jg (Value.int .i64) (cP l).toArray cur (by simp[hlen];omega);rw[List.size_toArray,hlen]at this;rw[Nat.mul_one,oF];exact this
 .subst hQ;exact h
theorem eX (l:List Int):(Lib.compact l).length<=l.length:=by
 rw[Lib.compact,Lib.compactUpTo,List.length_map];exact Nat.le_trans (List.length_filter_le _ _) ah
theorem kA (l:List Int):(qd l).length=l.length:=by
 have:=eX l;simp[qd];omega
set_option maxRecDepth 20000 in
theorem q8 (l:List Int)(hl:l.length<=1000000)(hx:s.ev x = .als k g 0 m)(hm:m=l.length)(ho:s.own k=(g,some ⟨3,1,l.map eN,kd⟩))
  (h:K ((s.setOwn k g (some ⟨3,1,(qd l).map eN,kd⟩)).putR d (.als k g 0 (Lib.compact l).length))):Sm Tryz.prog lay.get s ⟨some d,.call ⟨.value (.func 276),#[x],tys⟩,ty,pos,af,none⟩ K:=by
 refine nG (enc:=eN) (l:=l) (sz:=1) (more:=[]) (mv:=[]) (some (Lib.compact l).length) (fun l'=>l'=qd l) ri (fun _=>rfl) Y O hx hm ho O AW (fun n h=>by cases h;exact eX l) (fun hl0=>?_) (fun w b cap cur hh h1 h2 hc hg=>?_) (fun l' hQ _=>?_)
 .subst hl0;refine⟨O,fun w _=>(Tryz.slices_Compact_int_empty none 0 w).mono ?_⟩;rintro e w' ⟨rfl,rfl⟩;exact⟨O,Below.refl _ _⟩
 .refine(Tryz.slices_Compact_int b 0 cap l w (mX hh hc) J h1).mono ?_;rintro e w' ⟨rfl,q,hw⟩;have hchg:=uF (T:=3) hh (hw.trans (Go.Sort.grow_empty _).symm);refine⟨qd l,_,O,kA l,O,hchg,jf _ _ _ _,?_⟩;have:=jg (Value.int .i64) (qd l).toArray cur (by simp[kA];omega);rw[List.size_toArray,kA]at this;rw[Nat.mul_one,oF];exact this
 .subst hQ;exact h
end
open Go.Proofs
def bP (l:List SR):List Int:=Lib.compact (cP (l.map (·.x)))
set_option maxRecDepth 20000 in
theorem nj (l:List SR)(hl:jm l)(h12:l.length<=1000):Ret Tryz.prog .shared 248 [.sl (l.map eS)] (.sl ((bP l).map eN)):=by
 have hml:(l.map eS).length=l.length:=ah;have hrows:∀(k:Nat) x,l[k]? = some x->((l.take (k+1)).map (·.x)).map eN=((l.take k).map (·.x)).map eN++[eN x.x]:=fun k x hx=>by rw[bk hx,List.map_append,List.map_append];rfl
 refine Ret.of_pwp layOk mixed Go.Proofs.Tryz.func248 O Y O O ?_
 ((repeat (first|refine aT ?_ | refine ci ?_ | refine b9 ?_ | refine cd ?_));refine bg ?_)
 refine gV O trivial ?_
 ((repeat (first|refine aT ?_ | refine ci ?_ | refine b9 ?_ | refine cd ?_));refine bg ?_)
 (first|refine aE (gR 3 1 0 O O ?_)|refine aE (gQ 3 1 0 O O ?_))
 refine H ?_;refine am (fun k=>k<=l.length) (fun k=>[(3,.als 3 (k+1) 0 (((l.take k).map (·.x)).map eN).length),(6,.sl (l.map eS)),(7,I l.length),(8,I k)]) (fun k=>[(3,k+1,⟨3,1,((l.take k).map (·.x)).map eN,0⟩)]) (fun k=>l.length-k) 0 (Nat.zero_le _) ⟨O,O,by rw[<-hml];rfl,O,O,trivial⟩ ?_;intro k s hk;refine D ?_ ?_<;>intro h
 .have hlt:k<l.length:=by have:=ax h;omega
  clear h;obtain⟨x,hx⟩:=aG hlt;have hw:=c_ k;refine aJ hx ?_;refine H ?_;refine aE (aS 0 O O O O O O O O O O O aI O ?_);refine H ?_;refine aE (bi 0 O O O O O O O O O O O aI (by intro row hr;first|(simp at hr;subst hr;rfl)|simp at hr) O O aK aK ?_);refine H ?_;refine⟨k+1,hlt,J,?_,O,O,congrArg I hw,?_,trivial⟩
  .rw[hrows k x hx];rfl
  .rw[hrows k x hx];rfl
 .have hge:k=l.length:=by have:=aF h;omega
  subst hge;clear h;rw[List.take_length];have hal:(l.map (·.x)).length<=1000000:=by simp;omega
  generalize hX:l.map (·.x)=X at *
  have hsl:(cP X).length<=1000000:=by rw[cP,List.length_mergeSort];exact hal
  ((repeat ((fail_if_success (with_reducible refine aR 7 ?_));refine cu O ?_));refine aN 1 ?_)
  refine eg O ?_;refine aT ?_;refine bc O (Ao X hal O ah O ?_);refine aQ ?_
  ((repeat ((fail_if_success (with_reducible refine aR 8 ?_));refine cu O ?_));refine aN 1 ?_)
  refine eg O ?_;refine aT ?_;refine bc O (q8 (cP X) hsl O (by simp[cP]) O ?_);refine aQ ?_;refine gV O trivial ?_;refine aT ?_;refine b9 ?_;refine ar (Ghost.cut (k:=3) (t:=2) (rows:=(qd (cP X)).map eN) O O (by rw[List.length_map,kA];exact eX _) O) ?_;have hc:((qd (cP X)).map eN).take (Lib.compact (cP X)).length=(bP l).map eN:=by
   rw[<-List.map_take,qd,List.take_left,bP,hX]
  have hcl:(Lib.compact (cP X)).length=(bP l).length:=by rw[bP,hX]
  rw[hc];refine H ?_;exact gH O O O ⟨O,O,by show _=(List.map eN (bP l)).length;rw[List.length_map,hcl]⟩ O
theorem tO {l:List SR}{x:Int}(h:x∈bP l):∃s∈l,s.x=x:=by
 have h1:x∈cP (l.map (·.x)):=by
  rw[bP,Lib.compact,Lib.compactUpTo]at h;obtain⟨i,hi,rfl⟩:=List.mem_map.1 h;have hi:=(List.mem_filter.1 hi).1;have hi:i<(cP (l.map (·.x))).length:=by simpa using hi
  have e:(cP (l.map (·.x))).toArray[i]! = (cP (l.map (·.x)))[i]:=by simp[hi]
  rw[e];exact List.getElem_mem hi
 rw[cP,List.mem_mergeSort]at h1;obtain⟨s,hs,rfl⟩:=List.mem_map.1 h1;exact⟨s,hs,O⟩
theorem fL {l:List SR}(hc:cg l=0){x:Int}(h:x∈bP l) : -1000000<=x/\x<=1000000:=by
 obtain⟨s,hs,rfl⟩:=tO h;rw[cg]at hc;split at hc
 .omega
 .have:=jz hc s hs;rw[kK]at this;split at this
  .omega
  .rename_i h1;omega
theorem gT (l:List SR):(bP l).length<=l.length:=by
 have:=eX (cP (l.map (·.x)));rw[bP];simp[cP]at this ⊢;exact this
def qJ (x:Int):AR:=⟨ofQ ((-x:Int):Rat),ofQ ((1:Int):Rat)⟩
def yx (x:Int):AR:=⟨ofQ (x:Rat),ofQ ((-1:Int):Rat)⟩
def el (l:List SR):List AR:=(bP l).map qJ++(bP l).map yx
set_option maxRecDepth 20000 in
theorem sY (l:List SR)(hl:jm l)(h12:l.length<=1000)(hck:cg l=0):Ret Tryz.prog .shared 201 [.sl (l.map eS)] (.sl ((el l).map eA)):=by
 have hp:=nj l hl h12;have hrg:∀x∈bP l,-1000000<=x/\x<=1000000:=fun x hx=>fL hck hx;have hpl:=gT l;have w1:=bx 1 ⟨Y,Y⟩;have w2:=bx (-1) ⟨Y,Y⟩;rw[el];generalize bP l=Pl at *
 have hml:(Pl.map eN).length=Pl.length:=ah;have hrows:∀(k:Nat) x,Pl[k]? = some x->((Pl.take (k+1)).map qJ).map eA=((Pl.take k).map qJ).map eA++[eA (qJ x)]:=fun k x hx=>by rw[bk hx,List.map_append,List.map_append];rfl
 have hrows2:∀(k:Nat) x,Pl[k]? = some x->(Pl.map qJ++(Pl.take (k+1)).map yx).map eA=(Pl.map qJ++(Pl.take k).map yx).map eA++[eA (yx x)]:=fun k x hx=>by rw[bk hx];simp[List.map_append]
 refine Ret.of_pwp layOk mixed Go.Proofs.Tryz.func201 O Y O O ?_
 ((repeat (first|refine aT ?_ | refine ci ?_ | refine b9 ?_ | refine cd ?_));refine bg ?_)
 refine gV O trivial ?_
 ((repeat (first|refine aT ?_ | refine ci ?_ | refine b9 ?_ | refine cd ?_));refine bg ?_)
 (first|refine aE (gR 71 8 1 O O ?_)|refine aE (gQ 71 8 1 O O ?_))
 refine G hp ?_;refine H ?_;refine am (fun k=>k<=Pl.length) (fun k=>[(0,.sl (l.map eS)),(3,.als 3 (k+1) 0 (((Pl.take k).map qJ).map eA).length),(9,.sl (Pl.map eN)),(10,I Pl.length),(11,I k)]) (fun k=>[(3,k+1,⟨71,8,((Pl.take k).map qJ).map eA,1⟩)]) (fun k=>Pl.length-k) 0 (Nat.zero_le _) ⟨O,O,O,by rw[<-hml];rfl,O,O,trivial⟩ ?_;intro k s hk;refine D ?_ ?_<;>intro h
 .have hlt:k<Pl.length:=by have:=ax h;omega
  clear h;obtain⟨x,hx⟩:=aG hlt;have hr:=hrg x (aZ hx);have hnx:=bx (-x) ⟨J,J⟩;have hw:=c_ k;have hn:IntKind.i64.wrap (0-x) = -x:=by rw[wrap_i64 J J];omega
  refine aJ hx ?_;refine H ?_;rw[hn];refine nT O O O hnx O O ?_;refine G w1 ?_;refine H ?_;refine aE (aS 1 O O O O O O O O O O O aI O ?_);refine H ?_;refine aE (bi 1 O O O O O O O O O O O aI (by intro row hr;first|(simp at hr;subst hr;rfl)|simp at hr) O O aK aK ?_);refine H ?_;refine⟨k+1,hlt,J,O,?_,O,O,congrArg I hw,?_,trivial⟩
  .rw[hrows k x hx];rfl
  .rw[hrows k x hx];rfl
 .have hge:k=Pl.length:=by have:=aF h;omega
  subst hge;clear h;rw[List.take_length];refine G hp ?_;refine H ?_;refine am (fun k=>k<=Pl.length) (fun k=>[(3,.als 3 (Pl.length+k+1) 0 ((Pl.map qJ++(Pl.take k).map yx).map eA).length),(25,.sl (Pl.map eN)),(26,I Pl.length),(27,I k)]) (fun k=>[(3,Pl.length+k+1,⟨71,8,(Pl.map qJ++(Pl.take k).map yx).map eA,1⟩)]) (fun k=>Pl.length-k) 0 (Nat.zero_le _) ⟨by rw[List.take_zero,List.map_nil,List.append_nil];rfl,O,by rw[<-hml];rfl,O,by rw[List.take_zero,List.map_nil,List.append_nil];rfl,trivial⟩ ?_;intro k s hk;refine D ?_ ?_<;>intro h
  .have hlt:k<Pl.length:=by have:=ax h;omega
   clear h;obtain⟨x,hx⟩:=aG hlt;have hr:=hrg x (aZ hx);have hnx:=bx x ⟨J,J⟩;have hw:=c_ k;refine aJ hx ?_;refine G hnx ?_;refine G w2 ?_;refine H ?_;refine aE (aS 1 O O O O O O O O O O O aI O ?_);refine H ?_;refine aE (bi 1 O O O O O O O O O O O aI (by intro row hr;first|(simp at hr;subst hr;rfl)|simp at hr) O O aK aK ?_);refine H ?_;refine⟨k+1,hlt,J,?_,O,O,congrArg I hw,?_,trivial⟩
   .rw[hrows2 k x hx];rfl
   .rw[hrows2 k x hx];rfl
  .have hge:k=Pl.length:=by have:=aF h;omega
   subst hge;clear h;rw[List.take_length];refine H ?_;exact gH O O O aI O
def gi:AR:=⟨ofQ ((1:Int):Rat),ofQ ((0:Int):Rat)⟩
noncomputable def tS (b:BR)(r:AR):Bool:=nr b r.z.val r.t.val
noncomputable def kD (b:BR):PV:=if tS b gi=true then .tup [.agg (eA gi),I 12] else match (el b.l).find? (tS b) with
 |some r => .tup [.agg (eA r),I 13]
 |none => .tup [.agg (zN++zN),I 0]
theorem vI {z:Int}(h:i64 z):Vq (ofQ (z:Rat)) ((ofQ (z:Rat)).val) 4:=by
 have hz:Zb z:=aM h.1 h.2;have:=Vq.ofQ (h:=HQ.int (z:=z));rw[ofQ_val];exact this
theorem vF {l:List SR}(hck:cg l=0){r:AR}(h:r∈el l):Va r r.z.val r.t.val 4 4:=by
 rw[el,List.mem_append]at h;rcases h with h|h
 .obtain⟨x,hx,rfl⟩:=List.mem_map.1 h;have:=fL hck hx;exact⟨vI ⟨J,J⟩,vI ⟨Y,Y⟩⟩
 .obtain⟨x,hx,rfl⟩:=List.mem_map.1 h;have:=fL hck hx;exact⟨vI ⟨J,J⟩,vI ⟨Y,Y⟩⟩
theorem uK:Va gi gi.z.val gi.t.val 4 4:=⟨vI ⟨Y,Y⟩,vI ⟨Y,Y⟩⟩
theorem wj {α:Type}(p:α->Bool){l:List α}{i:Nat}{x:α}(h:l[i]? = some x):(l.drop i).find? p=if p x=true then some x else(l.drop (i+1)).find? p:=by
 obtain⟨hl,rfl⟩:=be h;rw[List.drop_eq_getElem_cons hl,List.find?_cons];cases p l[i]<;>simp
set_option maxRecDepth 20000 in
theorem sB (b:BR)(hb:b.Ok):Ret Tryz.prog .shared 141 [.agg (eB b)] (kD b):=by
 have w1:=bx 1 ⟨Y,Y⟩;have w0:=bx 0 ⟨Y,Y⟩;have hd:=l5 b hb gi uK Y Y;have ht:=sY b.l hb.lim.l (by have:=hb.few.1;omega) hb.chkL;have hva:∀r∈el b.l,Ret Tryz.prog .shared 200 [.agg (eB b),.agg (eA r)] (.bool (tS b r)):=fun r hr=>l5 b hb r (vF hb.chkL hr) Y Y;rw[show nr b gi.z.val gi.t.val=tS b gi from O]at hd;have htl:(el b.l).length<=1000:=by
  have:=gT b.l;have:=hb.few.1;rw[el];simp;omega
 generalize hR:kD b=R;rw[kD]at hR;generalize el b.l=T at *
 have hml:(T.map eA).length=T.length:=ah;generalize hfn:tS b=fn at *
 clear hfn;obtain⟨w,ba,l⟩:=b;simp only at *
 rw[gi]at *
 by_cases h1:fn ⟨ofQ ((1:Int):Rat),ofQ ((0:Int):Rat)⟩=true
 .rw[if_pos h1]at hR;rw[h1]at hd;subst hR;refine Ret.of_pwp layOk mixed Go.Proofs.Tryz.func141 O Y O O ?_;refine G w1 ?_;refine G w0 ?_;refine ap hd ?_;exact bL
 .rw[if_neg h1]at hR;rw[Bool.not_eq_true]at h1;rw[h1]at hd;refine Ret.of_pwp layOk mixed Go.Proofs.Tryz.func141 O Y O O ?_;refine G w1 ?_;refine G w0 ?_;refine ap hd ?_;refine G ht ?_;refine H ?_;refine am (fun i=>i<=T.length/\(T.drop i).find? fn=T.find? fn) (fun i=>[(1,.ptr 1 1 0 0),(2,.ptr 2 1 0 0),(16,.sl (T.map eA)),(17,I T.length),(18,I (i:Nat))]) (fun i=>[(1,1,⟨158,6,[eB ⟨w,ba,l⟩],2⟩),(2,1,⟨71,8,[zN++zN],2⟩)]) (fun i=>T.length-i) 0 ⟨Nat.zero_le _,by rw[List.drop_zero]⟩ ⟨O,O,O,by rw[<-hml];rfl,O,O,O,trivial⟩ ?_;intro i s ⟨hi,hF⟩;refine D ?_ ?_<;>intro h
  .have hlt:i<T.length:=by have:=ax h;omega
   clear h;obtain⟨r,hr⟩:=aG hlt;have hrr:=hva r (aZ hr);have hw:=c_ i;rw[wj fn hr]at hF;cases hfr:fn r with
   |true =>
    rw[hfr]at hrr;rw[if_pos hfr]at hF;rw[<-hF]at hR;simp only at hR;subst hR;refine aJ hr ?_;refine ap hrr ?_;exact bL
   |false =>
    rw[hfr]at hrr;rw[if_neg (by rw[hfr];decide)]at hF;refine aJ hr ?_;refine ap hrr ?_;refine H ?_;exact⟨i+1,⟨J,hF⟩,J,O,O,O,O,congrArg I hw,O,O,trivial⟩
  .have hie:i=T.length:=by have:=aF h;omega
   clear h;rw[hie,List.drop_length,List.find?_nil]at hF;rw[<-hF]at hR;simp only at hR;subst hR;exact bL
def nk {α:Type}(d:α->Rat)(l:List α)(x:α):Nat->Nat
 |0=>0
 |k+1=>match l[k]? with
  |some y=>if d x<d y then nk d l x k else k+1
  |none=>nk d l x k
def zp {α:Type}(d:α->Rat)(l:List α)(x:α):Nat:=nk d l x l.length
def cB {α:Type}(l:List α)(x:α)(k:Nat):List α:=l.take k++x::l.drop k
def nZ {α:Type}(d:α->Rat)(l:List α)(x:α):List α:=cB l x (zp d l x)
def dQ {α:Type}(d:α->Rat)(l:List α):List α:=l.foldl (nZ d) []
theorem uZ {α:Type}{d:α->Rat}{l:List α}{x:α}{j:Nat}(h2:j=0\/∃y,l[j-1]? = some y/\d y<=d x):∀k,j<=k->k<=l.length->(∀q y,j<=q->q<k->l[q]? = some y->d x<d y)->nk d l x k=j
 |0,hk,_,_=>by rw[nk];omega
 |k+1,hk,hl,h1=>by
  obtain⟨y,hy⟩:∃y,l[k]? = some y:=⟨l[k],List.getElem?_eq_getElem J⟩;rw[nk,hy];dsimp only;by_cases he:j=k+1
  .subst he;rcases h2 with h2|⟨z,hz,hd⟩
   .omega
   .rw[Nat.add_sub_cancel,hy]at hz;cases hz;rw[if_neg cH]
  .rw[if_pos (h1 k y J J hy)];exact uZ h2 k J J fun q z hq hq2=>h1 q z hq J
theorem u4 {α:Type}{d:α->Rat}{l:List α}{x:α}{j:Nat}(hj:j<=l.length)(h1:∀q y,j<=q->l[q]? = some y->d x<d y)(h2:j=0\/∃y,l[j-1]? = some y/\d y<=d x):zp d l x=j :=
 uZ h2 _ hj (aO) fun q y hq _=>h1 q y hq
theorem wy {α:Type}(d:α->Rat)(l:List α)(x:α):(nZ d l x).Perm (x::l):=by
 rw[nZ,cB];exact List.perm_middle.trans (by rw[List.take_append_drop])
theorem nJ {α:Type}(d:α->Rat)(l:List α)(x:α):dQ d (l++[x])=nZ d (dQ d l) x:=by
 rw[dQ,List.foldl_append];rfl
theorem gY {α:Type}(d:α->Rat)(l:List α):(dQ d l).Perm l:=by
 have:∀(l acc:List α),(l.foldl (nZ d) acc).Perm (acc++l):=by
  intro l
  induction l with
  |nil=>intro acc;simp
  |cons x l ih =>
   intro acc;rw[List.foldl_cons];refine(ih _).trans (((wy d acc x).append_right l).trans ?_);rw[List.cons_append];exact List.perm_middle.symm
 exact this l []
theorem lF {α:Type}(d:α->Rat)(l:List α):(dQ d l).length=l.length:=(gY d l).length_eq
theorem rB {α:Type}{l:List α}{x:α}{k:Nat}(hk:k<=l.length):(cB l x k)[k]? = some x:=by
 rw[cB,List.getElem?_append_right aK];simp[Nat.min_eq_left hk]
theorem m8 {α:Type}{l:List α}{x:α}{k q:Nat}(hk:k<=l.length)(h:q<k):(cB l x k)[q]? = l[q]? := by
 rw[cB,List.getElem?_append_left aK,List.getElem?_take,if_pos h]
theorem tD {α:Type}{l:List α}{x y:α}{k:Nat}(hk:k+1<=l.length)(hy:l[k]? = some y):((cB l x (k+1)).set (k+1) y).set k x=cB l x k:=by
 obtain⟨hlt,rfl⟩:=be hy;apply List.ext_getElem?;intro q;have hl1:(cB l x (k+1)).length=l.length+1:=by simp[cB];omega
 simp only[List.getElem?_set,List.length_set,hl1];by_cases h1:k=q
 .subst h1;rw[if_pos O,if_pos J,rB J]
 .rw[if_neg h1];by_cases h2:k+1=q
  .subst h2;rw[if_pos O,if_pos J,cB,List.getElem?_append_right aK];simp only[List.length_take,Nat.min_eq_left (show k<=l.length by omega),Nat.add_sub_cancel_left,List.getElem?_cons_succ,List.getElem?_drop,Nat.add_zero];exact(List.getElem?_eq_getElem hlt).symm
  .rw[if_neg h2];rcases Nat.lt_or_ge q k with h|h
   .rw[m8 J h,m8 hk J]
   .rw[cB,cB,List.getElem?_append_right aK,List.getElem?_append_right aK];simp only[List.length_take,Nat.min_eq_left hk,Nat.min_eq_left (show k<=l.length by omega)];obtain⟨r,rfl⟩:∃r,q=k+2+r:=⟨q-(k+2),J⟩;rw[show k+2+r-(k+1)=r+1 by omega,show k+2+r-k=r+1+1 by omega,List.getElem?_cons_succ,List.getElem?_cons_succ,List.getElem?_drop,List.getElem?_drop];congr 1;omega
theorem oZ {α:Type}(d:α->Rat)(l:List α)(x:α):∀k,k<=l.length->(nk d l x k=0\/∃y,l[nk d l x k-1]? = some y/\d y<=d x)/\∀q y,nk d l x k<=q->q<k->l[q]? = some y->d x<d y
 |0,_=>⟨.inl rfl,fun q y _ hq=>by omega⟩
 |k+1,hk=>by
  obtain⟨y,hy⟩:∃y,l[k]? = some y:=⟨l[k],List.getElem?_eq_getElem J⟩;obtain⟨h1,h2⟩:=oZ d l x k J;rw[nk,hy];dsimp only;split
  .rename_i hlt;refine⟨h1,fun q z hq hqk hz=>?_⟩;by_cases he:q=k
   .subst he;rw[hy]at hz;cases hz;exact hlt
   .exact h2 q z hq J hz
  .rename_i hlt;exact⟨.inr ⟨y,by rw[Nat.add_sub_cancel];exact hy,cH⟩,fun q z hq hqk=>by omega⟩
theorem rC {α:Type}{d:α->Rat}{l:List α}(x:α)(h:l.Pairwise fun a b=>d a<=d b):(nZ d l x).Pairwise fun a b=>d a<=d b:=by
 obtain⟨h1,h2⟩:=oZ d l x l.length (aO);rw[nZ,cB,zp];generalize nk d l x l.length=k at *
 have hbefore:∀a∈l.take k,d a<=d x:=by
  intro a ha;rcases h1 with h1|⟨y,hy,hyx⟩
  .subst h1;simp at ha
  .obtain⟨i,hi,rfl⟩:=List.getElem_of_mem ha;have hi':i<k:=by simp at hi;omega
   have hil:i<l.length:=by simp at hi;omega
   obtain⟨hk1,hk2⟩:=be hy;rw[List.getElem_take];by_cases he:i=k-1
   .subst he;rw[hk2];exact hyx
   .have:=List.pairwise_iff_getElem.1 h i (k-1) hil hk1 J;rw[hk2]at this;grind
 have hbehind:∀a∈l.drop k,d x<=d a:=by
  intro a ha;obtain⟨i,hi,rfl⟩:=List.getElem_of_mem ha;have hil:k+i<l.length:=by simp at hi;omega
  have:=h2 (k+i) l[k+i] J hil (List.getElem?_eq_getElem hil);rw[List.getElem_drop];grind
 refine List.pairwise_append.2 ⟨h.sublist (List.take_sublist _ _),List.pairwise_cons.2 ⟨hbehind,h.sublist (List.drop_sublist _ _)⟩,fun a ha b hb=>?_⟩;rcases List.mem_cons.1 hb with rfl|hb
 .exact hbefore a ha
 .have:=hbefore a ha;have:=hbehind b hb;grind
theorem qD {α:Type}(d:α->Rat)(l:List α):(dQ d l).Pairwise fun a b=>d a<=d b:=by
 have:∀(l acc:List α),acc.Pairwise (fun a b=>d a<=d b)->(l.foldl (nZ d) acc).Pairwise fun a b=>d a<=d b:=by
  intro l
  induction l with
  |nil=>intro acc h;exact h
  |cons x l ih=>intro acc h;exact ih _ (rC x h)
 exact this l [] .nil
theorem kt {L:Lay}{fn:Func}{K:St->PV->Prop}{s:St}(h:fn.results.toList=[])(hk:K s (.tup [])):ao L fn K .normal s:=by
 unfold ao;exact⟨[],True,by rw[h];rfl,trivial,hk⟩
structure BN where
 at':RR
 up:RR
def eh (b:BN):List PV:=eR b.at'++eR b.up
def ja (b:BN):Rat:=b.at'.val
theorem ym {p q:BN}(h1:p.at'.sz 7000000)(h2:q.at'.sz 7000000):Ret Tryz.prog .shared 279 [.agg (eh p),.agg (eh q)] (I (sgn (ja p-ja q))):=by
 have hc:=mL p.at' q.at' (hx:=h1.v) (hy:=h2.v) Y Y;rw[show p.at'.val-q.at'.val=ja p-ja q from O]at hc;generalize sgn (ja p-ja q)=g at *
 obtain⟨pa,pu⟩:=p;obtain⟨qa,qu⟩:=q;simp only at *
 refine Ret.of_pwp layOk mixed Go.Proofs.Tryz.func279 O Y O O ?_;refine ap hc ?_;exact bm
set_option maxRecDepth 20000 in
theorem Db {K:St->Prop}{s:St}{d g:Nat}{x y z c:Operand}{tys:Array TypeId}{ty:TypeId}{pos:String}{af:Array Edge}(l:List BN)(hl:l.length<=1000)
  (hx:s.ev x = .als 5 g 0 (l.map eh).length) (hy:s.ev y=I 0) (hz:s.ev z=I l.length) (hc:s.ev c = .clo 279 [])
  (hd:∀p∈l,p.at'.sz 7000000)
  (ho:FitO s [(5,g,⟨303,8,l.map eh,1⟩)])
  (hK:∀s1:St,K (({ reg:=s.reg,own:=(s1.over [] [(5,g,⟨303,8,(dQ ja l).map eh,1⟩)]).own }:St).putR d (.tup []))) :
  Sm Tryz.prog lay.get s ⟨some d,.call ⟨.value (.func 303),#[x,y,z,c],tys⟩,ty,pos,af,none⟩ K:=by
 refine cG layOk O O Tryz.func303 O Y O O ?_;show PWP _ _ _ _ (bQ s (([x,y,z,c]:List Operand).map s.ev++[]));rw[show(([x,y,z,c]:List Operand).map s.ev++([]:List PV))=[.als 5 g 0 (l.map eh).length,I 0,I l.length,.clo 279 []] by simp[hx,hy,hz,hc]];rw[show bQ s [.als 5 g 0 (l.map eh).length,I 0,I l.length,.clo 279 []]=bQ (s.over [] [(5,g,⟨303,8,l.map eh,1⟩)]) [.als 5 g 0 (l.map eh).length,I 0,I l.length,.clo 279 []] by rw[Fit.over (l:=[]) ho]];have hen:(l.map eh).length=l.length:=by rw[List.length_map]
 have h1s:dQ ja (l.take 1)++l.drop 1=l:=by
  cases l with
  |nil=>rfl
  |cons x r=>rfl
 refine H ?_;refine am (fun i=>1<=i/\(i<=l.length\/i=1)) (fun i=>[(0,.als 5 g 0 (l.map eh).length),(1,I 0),(2,I l.length),(3,.clo 279 []),(8,I i)])
  (fun i=>[(5,g,⟨303,8,(dQ ja (l.take i)++l.drop i).map eh,1⟩)]) (fun i=>l.length+1-i) 1 ⟨aO,.inr O⟩ ⟨O,O,O,O,O,by rw[h1s];rfl,trivial⟩ ?_
 rintro i s1 ⟨hi1,hi⟩;refine D ?_ ?_<;>intro h
 .have hlt:i<l.length:=by have:=ax h;omega
  clear h;obtain⟨p,hp⟩:=aG hlt;have hx0:=hp;have htk:l.take (i+1)=l.take i++[p]:=bk hx0;have hdr:l.drop i=p::l.drop (i+1):=by
   obtain⟨hl1,h2⟩:=be hx0;rw[List.drop_eq_getElem_cons hl1,h2]
  generalize hP:dQ ja (l.take i)=P at *
  have hPl:P.length=i:=by rw[<-hP,lF,List.length_take];omega
  have hstart:P++l.drop i=cB P p i++l.drop (i+1):=by
   have hti:P.take i=P:=List.take_of_length_le J;have hdi:P.drop i=[]:=List.drop_eq_nil_of_le J;rw[hdr,cB,hti,hdi];simp
  refine H ?_;refine am (fun j=>j<=i/\∀q y,j<=q->P[q]? = some y->ja p<ja y) (fun j=>[(0,.als 5 g 0 (l.map eh).length),(1,I 0),(2,I l.length),(3,.clo 279 []),(8,I i),(9,I j)])
   (fun j=>[(5,g,⟨303,8,(cB P p j++l.drop (i+1)).map eh,1⟩)]) (fun j=>j) i ⟨aO,fun q y hq hy=>by rw[List.getElem?_eq_none J]at hy;cases hy⟩ ⟨O,O,O,O,O,O,by rw[hstart];rfl,trivial⟩ ?_
  rintro j s2 ⟨hj,hpre⟩;refine bU 17 [18,19,20,21,22,23,24,25,26,27,28,29,30,31,32,33,34] ?_;refine cY ?_ ?_<;>intro h
  .have hj0:0<j:=by have:=ax h;omega
   clear h;obtain⟨k,rfl⟩:∃k,j=k+1:=⟨j-1,J⟩;have hrow:((cB P p (k+1)++l.drop (i+1)).map eh)[k+1]? = some (eh p):=by
    rw[List.getElem?_map,List.getElem?_append_left (by simp[cB];omega),rB J];rfl
   obtain⟨y,hy1⟩:=aG (show k<P.length by omega);have hrow2:((cB P p (k+1)++l.drop (i+1)).map eh)[k]? = some (eh y):=by
    rw[List.getElem?_map,List.getElem?_append_left (by simp[cB];omega),m8 J J,hy1];rfl
   have hym:y∈l:=List.mem_of_mem_take ((gY ja _).mem_iff.1 (hP▸aZ hy1));have hw1:IntKind.i64.wrap (((k+1:Nat):Int)-1)=(k:Nat):=by rw[wrap_i64 J J];omega
   refine H ?_;refine bI O O (bC O O O O O O O J (by rw[hen];omega)) ?_;rw[Int.toNat_natCast,Nat.zero_add (k+1)];refine bI O O (d9 O O O hrow O) ?_;refine H ?_;rw[hw1];refine bI O O (bC O O O O O O O J (by rw[hen];omega)) ?_;rw[Int.toNat_natCast,Nat.zero_add k];refine bI O O (d9 O O O hrow2 O) ?_;refine ap (ym (hd p (aZ hp)) (hd y hym)) ?_;refine D ?_ ?_<;>intro h
   .have hlt2:ja p<ja y:=by have:=(f_ _).1 (ax h);grind
    clear h;refine H ?_;refine bB 15 0 [37,38,39,40,41,42,43,44,45,46,47,48,49,50,51] [2,3,4] br O ?_;refine H ?_;rw[hw1];refine bI O O (bC O O O O O O O J (by rw[hen];omega)) ?_;rw[Int.toNat_natCast,Nat.zero_add k];refine bI O O (d9 O O O hrow2 O) ?_;refine H ?_;refine bI O O (bC O O O O O O O J (by rw[hen];omega)) ?_;rw[Int.toNat_natCast,Nat.zero_add (k+1)];refine bI O O (d9 O O O hrow O) ?_;refine H ?_;refine bI O O (bC O O O O O O O J (by rw[hen];omega)) ?_;rw[Int.toNat_natCast,Nat.zero_add (k+1)];refine H ?_;refine bR (bY (kd':=1) O O O hrow O O aI O O O O ?_);refine bI O O (bC O O O O O O O J (by rw[hen];omega)) ?_;rw[Int.toNat_natCast,Nat.zero_add k];refine bR (bY (kd':=1) O O O (row:=eh y) (by
     show(((cB P p (k+1)++l.drop (i+1)).map eh).set (k+1) _)[k]? = _
     rw[List.getElem?_set_ne J];exact hrow2) O O aI O O O O ?_)
    refine H ?_;refine⟨k,⟨J,fun q z hq hz=>?_⟩,J,O,O,O,O,O,?_,?_,trivial⟩
    .by_cases hqk:q=k
     .subst hqk;rw[hy1]at hz;cases hz;exact hlt2
     .exact hpre q z J hz
    .exact congrArg I hw1
    .refine Eq.trans (b:=(g,some (Cont.mk 303 8 ((((cB P p (k+1)++l.drop (i+1)).map eh).set (k+1) (eh y)).set k (eh p)) 1))) O ?_;rw[<-List.map_set,<-List.map_set,List.set_append_left _ _ (by simp[cB];omega),List.set_append_left _ _ (by simp[cB];omega),tD J hy1]
   .have hge2:ja y<=ja p:=by
     have h9:=aF h;rw[f_]at h9;grind
    clear h;have hpos:zp ja P p=k+1:=u4 J hpre (.inr ⟨y,hy1,hge2⟩);have hins:dQ ja (l.take (i+1))=cB P p (k+1):=by rw[htk,nJ,hP,nZ,hpos]
    refine H ?_;refine⟨i+1,⟨J,.inl J⟩,J,O,O,O,O,bN J J,?_,trivial⟩;rw[hins];rfl
  .have hj0:j=0:=by have:=aF h;omega
   subst hj0;clear h;have hpos:zp ja P p=0:=u4 J hpre (.inl O);have hins:dQ ja (l.take (i+1))=cB P p 0:=by rw[htk,nJ,hP,nZ,hpos]
   refine H ?_;refine⟨i+1,⟨J,.inl J⟩,J,O,O,O,O,bN J J,?_,trivial⟩;rw[hins];rfl
 .have hge:l.length<=i:=by have:=aF h;omega
  have hend:dQ ja (l.take i)++l.drop i=dQ ja l:=by
   rw[List.take_of_length_le hge,List.drop_eq_nil_of_le hge,List.append_nil]
  rw[hend];refine H ?_;exact kt O (hK s1)
set_option maxRecDepth 20000 in
theorem uh {K:St->Prop}{s:St}{d g:Nat}{x z c:Operand}{tys:Array TypeId}{ty:TypeId}{pos:String}{af:Array Edge}(l:List BN)(hl:l.length<=19)
  (hx:s.ev x = .als 5 g 0 (l.map eh).length) (hz:s.ev z=I l.length) (hc:s.ev c = .clo 279 [])
  (hd:∀p∈l,p.at'.sz 7000000)
  (ho:FitO s [(5,g,⟨303,8,l.map eh,1⟩)])
  (hK:∀s1:St,K (({ reg:=s.reg,own:=(s1.over [] [(5,g,⟨303,8,(dQ ja l).map eh,1⟩)]).own }:St).putR d (.tup []))) :
  Sm Tryz.prog lay.get s ⟨some d,.call ⟨.value (.func 290),#[x,z,c],tys⟩,ty,pos,af,none⟩ K:=by
 refine cG layOk O O Tryz.func290 O Y O O ?_;show PWP _ _ _ _ (bQ s (([x,z,c]:List Operand).map s.ev++[]));rw[show(([x,z,c]:List Operand).map s.ev++([]:List PV))=[.als 5 g 0 (l.map eh).length,I l.length,.clo 279 []] by simp[hx,hz,hc]];rw[show bQ s [.als 5 g 0 (l.map eh).length,I l.length,.clo 279 []]=bQ (s.over [] [(5,g,⟨303,8,l.map eh,1⟩)]) [.als 5 g 0 (l.map eh).length,I l.length,.clo 279 []] by rw[Fit.over (l:=[]) ho]];refine H ?_;refine am (fun _:Unit=>True) (fun _=>[(0,.als 5 g 0 (l.map eh).length),(1,I l.length),(2,.clo 279 []),(6,I 20),(7,I 0),(8,I 20)])
  (fun _=>[(5,g,⟨303,8,l.map eh,1⟩)]) (fun _=>0) () trivial ⟨O,O,O,O,O,O,O,trivial⟩ ?_
 rintro _ s1 -
 refine D ?_ ?_<;>intro h
 .have:=ax h;omega
 clear h
 ((repeat ((fail_if_success (with_reducible refine aR 6 ?_));refine cu O ?_));refine aN 4 ?_)
 refine H ?_;refine bc O (Db l J O O O O hd ⟨O,trivial⟩ fun s2=>?_);refine aQ ?_;refine H ?_;refine am (fun _:Unit=>True) (fun _=>[(1,I l.length),(6,I 20)])
  (fun _=>[(5,g,⟨303,8,(dQ ja l).map eh,1⟩)]) (fun _=>0) () trivial ⟨O,O,O,trivial⟩ ?_
 rintro _ s3 -
 refine D ?_ ?_<;>intro h
 .have:=ax h;omega
 clear h;refine H ?_;exact kt O (hK s3)
set_option maxRecDepth 20000 in
theorem An {K:St->Prop}{s:St}{d g:Nat}{x c:Operand}{tys:Array TypeId}{ty:TypeId}{pos:String}{af:Array Edge}(l:List BN)(hl:l.length<=19)
  (hx:s.ev x = .als 5 g 0 (l.map eh).length) (hc:s.ev c = .clo 279 [])
  (hd:∀p∈l,p.at'.sz 7000000)
  (ho:FitO s [(5,g,⟨303,8,l.map eh,1⟩)])
  (hK:∀s1:St,K (({ reg:=s.reg,own:=(s1.over [] [(5,g,⟨303,8,(dQ ja l).map eh,1⟩)]).own }:St).putR d (.tup []))) :
  Sm Tryz.prog lay.get s ⟨some d,.call ⟨.value (.func 278),#[x,c],tys⟩,ty,pos,af,none⟩ K:=by
 refine cG layOk O O Tryz.func278 O Y O O ?_;show PWP _ _ _ _ (bQ s (([x,c]:List Operand).map s.ev++[]));rw[show(([x,c]:List Operand).map s.ev++([]:List PV))=[.als 5 g 0 (l.map eh).length,.clo 279 []] by simp[hx,hc]];rw[show bQ s [.als 5 g 0 (l.map eh).length,.clo 279 []]=bQ (s.over [] [(5,g,⟨303,8,l.map eh,1⟩)]) [.als 5 g 0 (l.map eh).length,.clo 279 []] by rw[Fit.over (l:=[]) ho]];have hen:(l.map eh).length=l.length:=by rw[List.length_map]
 ((repeat ((fail_if_success (with_reducible refine aR 0 ?_));refine cu O ?_));refine aN 4 ?_)
 refine H ?_;refine bc O (uh l hl O (congrArg (fun n:Nat=>I n) hen) O hd ⟨O,trivial⟩ fun s2=>?_);refine aQ ?_;refine H ?_;exact kt O (hK s2)
def j1 (s:SR)(t:Rat):Rat:=s.c.val+t*(s.x:Rat)
def bn (s:SR)(t:Rat)(k:Nat):BN:=⟨ofQ (s.k.s k-j1 s t),ofQ (s.k.m k-bE s.k.m k)⟩
def jb (t:Rat)(s:SR):List BN:=(List.range s.k.S.length).map (bn s t)
def lO (l:List SR)(t:Rat):List BN:=l.flatMap (jb t)
theorem uD (t:Rat)(s:SR):(jb t s).length=s.k.S.length:=by simp[jb]
theorem uz {s:SR}(hs:s.Lim){t:Rat}{m:Nat}(ht:HQ t m):HQ (j1 s t) (13+(m+4)+1):=by
 have hx:Zb s.x:=aM hs.x.1 hs.x.2;exact @HQ.add _ _ 13 (m+4) hs.c.v.hq (@HQ.mul _ _ m 4 ht HQ.int)
theorem uC {s:SR}(hs:s.Lim){t:Rat}{m:Nat}(ht:HQ t m)(k:Nat):HQ (s.k.s k-j1 s t) (4+(13+(m+4)+1)+1):=by
 have hb:=l7 hs.k k;have hzb:Zb (s.k.S.getD k 0):=aM hb.1 hb.2;exact @HQ.sub _ _ 4 _ HQ.int (uz hs ht)
theorem yf {l:List SR}{t:Rat}{b:BN}(h:b∈lO l t):∃s∈l,∃k,k<s.k.S.length/\b=bn s t k:=by
 obtain⟨s,hs,hb⟩:=List.mem_flatMap.1 h;obtain⟨k,hk,rfl⟩:=List.mem_map.1 hb;exact⟨s,hs,k,List.mem_range.1 hk,O⟩
def ye (l:List SR)(t:Rat):List BN:=dQ ja (lO l t)
theorem tQ (f:Nat->BN)(k:Nat):(List.range (k+1)).map f=(List.range k).map f++[f k]:=by rw[List.range_succ,List.map_append];rfl
set_option maxRecDepth 20000 in
structure SortC (l:List BN):Prop where
 run:∀ {K:St->Prop} {s:St} {d g:Nat} {x c:Operand} {tys:Array TypeId} {ty:TypeId} {pos:String} {af:Array Edge},s.ev x = .als 5 g 0 (l.map eh).length->s.ev c = .clo 279 []->(∀p∈l,p.at'.sz 7000000)->FitO s [(5,g,⟨303,8,l.map eh,1⟩)] ->
  (∀s1:St,K (({ reg:=s.reg,own:=(s1.over [] [(5,g,⟨303,8,(dQ ja l).map eh,1⟩)]).own }:St).putR d (.tup [])))->Sm Tryz.prog lay.get s ⟨some d,.call ⟨.value (.func 278),#[x,c],tys⟩,ty,pos,af,none⟩ K
set_option maxRecDepth 20000 in
theorem BX (l:List BN)(hl:l.length<=19):SortC l:=⟨fun hx hc hd ho hK=>An l hl hx hc hd ho hK⟩
set_option maxRecDepth 20000 in
theorem qU (l:List SR)(hl:jm l)(hck:cg l=0)(h8:∀s∈l,s.k.S.length<=8)(h12:l.length<=12)(tr:RR){t:Rat}{m:Nat}[ht:Vq tr t m](hm:m<=1000000)(h40:(lO l t).length<=40)(hS:SortC (lO l t)) :
  Ret Tryz.prog .shared 250 [.sl (l.map eS),.agg (eR tr)] (.sl ((ye l t).map eh)):=by
 have hw0:=bx 0 ⟨Y,Y⟩;have hml:(l.map eS).length=l.length:=ah;have hlen:∀i,i<=l.length->((l.take i).flatMap (jb t)).length<=40:=fun i hi=>by
  have:((l.take i).flatMap (jb t)).length<=(lO l t).length:=by
   conv=>rhs;rw[lO,<-List.take_append_drop i l,List.flatMap_append,List.length_append]
   omega
  omega
 refine Ret.of_pwp layOk mixed Go.Proofs.Tryz.func250 O Y O O ?_;refine H ?_;refine ar (Ghost.nilreg (k:=5) (t:=5) 303 8 1 O O) ?_;refine am (fun i:Nat=>i<=l.length) (fun i=>[(3,.ptr 3 1 0 0),(5,.als 5 (((l.take i).flatMap (jb t)).length+1) 0 (((l.take i).flatMap (jb t)).map eh).length),(12,.sl (l.map eS)),(13,I l.length),(14,I (i:Nat))])
  (fun i=>[(3,1,⟨42,4,[eR tr],2⟩),(5,((l.take i).flatMap (jb t)).length+1,⟨303,8,((l.take i).flatMap (jb t)).map eh,1⟩)]) (fun i=>l.length-i) 0 (Nat.zero_le _) ⟨O,O,O,by rw[<-hml];rfl,O,O,O,trivial⟩ ?_
 intro i s hi;refine D ?_ ?_<;>intro h
 .have hlt:i<l.length:=by have:=ax h;omega
  clear h;obtain⟨x,hx⟩:=aG hlt;have hxm:=aZ hx;have hxl:=hl.1 x hxm;have hkc:=cJ hck x hxm;obtain⟨h40,hSM,-,-⟩:=dW hkc;have hk8:=h8 x hxm;have hfl:(l.take (i+1)).flatMap (jb t)=(l.take i).flatMap (jb t)++jb t x:=by rw[bk hx,List.flatMap_append];simp
  have hA:=hlen i hi;have hA1:=hlen (i+1) hlt;rw[hfl,List.length_append,uD]at hA1;generalize (l.take i).flatMap (jb t)=A at *
  have hw:=c_ i;have hzx:Zb x.x:=aM hxl.x.1 hxl.x.2;have e1:=bx x.x hxl.x;have e2:=ej tr (ofQ (x.x:Rat)) J Y;have v2:Vq (ofQ (t*(x.x:Rat))) (t*(x.x:Rat)) (m+1+4):=Vq.ofQ (h:=@HQ.mul _ _ (m+1) 4 ht.hq HQ.int);have e3:=di x.c (ofQ (t*(x.x:Rat))) (hx:=hxl.c.v) (hy:=v2) Y J;rw[show x.c.val+t*(x.x:Rat)=j1 x t from O]at e3;have vb:Vq (ofQ (j1 x t)) (j1 x t) (13+(m+1+4)+1):=Vq.ofQ (h:=uz hxl ht.hq);have hMl:(x.k.M.map eR).length=x.k.S.length:=by simp[hSM]
  refine aJ hx ?_
  (repeat ((fail_if_success (with_reducible refine aR 5 ?_));refine cu O ?_))
  refine ar (gj 8) ?_;refine bB 8 1 [18,19,20,21,22,23,24,25,8] [] br O ?_;refine G e1 ?_;refine G e2 ?_;refine G e3 ?_;refine G hw0 ?_;refine H ?_;refine bq [(3,.ptr 3 1 0 0),(5,.als 5 (A.length+1) 0 (A.map eh).length),(7,.ptr 7 ((s.own 7).1+1) 0 0),(8,.ptr 8 ((s.own 8).1+2+1) 0 0),(9,.ptr 9 ((s.own 9).1+1) 0 0),(12,.sl (l.map eS)),(13,I l.length),(14,I (i:Nat)),(29,.sl (x.k.M.map eR)),(30,I (x.k.M.map eR).length),(31,I ((0:Nat):Int))]
   [(3,1,⟨42,4,[eR tr],2⟩),(5,A.length+1,⟨303,8,A.map eh,1⟩),(7,(s.own 7).1+1,⟨136,7,[eS x],2⟩),(8,(s.own 8).1+2+1,⟨42,4,[eR (ofQ (j1 x t))],2⟩),(9,(s.own 9).1+1,⟨42,4,[eR (AS x.k 0)],2⟩)]
   ⟨O,O,O,O,O,O,O,O,O,O,O,O,O,O,O,O,trivial⟩ ?_
  generalize (s.own 7).1+1=g7;generalize (s.own 8).1+2+1=g8;generalize (s.own 9).1+1=g9;rw[hMl];intro s1;refine am (fun k:Nat=>k<=x.k.S.length) (fun k=>[(3,.ptr 3 1 0 0),(5,.als 5 (A.length+k+1) 0 ((A++(List.range k).map (bn x t)).map eh).length),(7,.ptr 7 g7 0 0),(8,.ptr 8 g8 0 0),(9,.ptr 9 g9 0 0),(12,.sl (l.map eS)),(13,I l.length),(14,I (i:Nat)),(29,.sl (x.k.M.map eR)),(30,I x.k.S.length),(31,I (k:Nat))])
   (fun k=>[(3,1,⟨42,4,[eR tr],2⟩),(5,A.length+k+1,⟨303,8,(A++(List.range k).map (bn x t)).map eh,1⟩),(7,g7,⟨136,7,[eS x],2⟩),(8,g8,⟨42,4,[eR (ofQ (j1 x t))],2⟩),(9,g9,⟨42,4,[eR (AS x.k k)],2⟩)]) (fun k=>x.k.S.length-k) 0 (Nat.zero_le _)
   ⟨O,by rw[List.range_zero,List.map_nil,List.append_nil];rfl,O,O,O,O,O,O,O,O,O,O,by rw[List.range_zero,List.map_nil,List.append_nil];rfl,O,O,O,trivial⟩ ?_
  intro k s2 hk;refine D ?_ ?_<;>intro h
  .have hlk:k<x.k.S.length:=by have:=ax h;omega
   clear h;have hsx:=bZ (d:=0) hlk;have hmx:=bZ (l:=x.k.M) (i:=k) (d:=RR.zero) J;have hxb:=l7 hxl.k k;have hzb:Zb (x.k.S.getD k 0):=aM hxb.1 hxb.2;have f1:=bx (x.k.S.getD k 0) hxb;rw[show((x.k.S.getD k 0:Int):Rat)=x.k.s k from O]at f1;have vs:Vq (ofQ (x.k.s k)) (x.k.s k) 4:=Vq.ofQ (h:=HQ.int);have f2:=lH (ofQ (x.k.s k)) (ofQ (j1 x t)) (hx:=vs) (hy:=vb) Y J;have f3:=lH (x.k.M.getD k RR.zero) (AS x.k k) (hx:=rQ x.k hxl.k k) (hy:=om x.k hxl.k k) Y Y;have hwk:IntKind.i64.wrap (((k:Nat):Int)+1)=((k+1:Nat):Int):=by rw[wrap_i64 J J];omega
   have hrow:(A++(List.range (k+1)).map (bn x t)).map eh=(A++(List.range k).map (bn x t)).map eh++[eR (ofQ (x.k.s k-j1 x t))++eR (ofQ (x.k.m k-bE x.k.m k))]:=by rw[tQ,<-List.append_assoc,List.map_append];rfl
   have hal:(A++(List.range k).map (bn x t)).length<=40:=by simp;omega
   generalize A++(List.range k).map (bn x t)=Ak at *
   generalize ofQ (x.k.s k-j1 x t)=N1 at *
   generalize ofQ (x.k.m k-bE x.k.m k)=N2 at *
   generalize ofQ (x.k.s k)=N3 at *
   refine aJ hmx ?_;refine H ?_;refine bj [50,5] [14,15,16] br ?_;refine aJ hsx ?_;refine G f1 ?_;refine G f2 ?_;refine G f3 ?_;refine H ?_;refine i8 O O O (aS 1 O O O O O O O O O O O aI O ⟨dj O,?_⟩);refine H ?_;refine i8 O O O (bi 1 O O O O O O O O O O O aI (by intro row hr;first|(simp at hr;subst hr;rfl)|(simp at hr;obtain⟨_,_,rfl⟩:=hr;rfl)|simp at hr) O O aK aK ⟨dj O,?_⟩);refine H ?_;refine⟨k+1,hlk,J,O,?_,O,O,O,O,O,O,O,O,congrArg I hwk,O,?_,O,O,O,trivial⟩
   .rw[hrow];rfl
   .rw[hrow];rfl
  .have hke:k=x.k.S.length:=by have:=aF h;omega
   clear h;subst hke;rw[show(List.range x.k.S.length).map (bn x t)=jb t x from O];have hgl:A.length+x.k.S.length=((l.take (i+1)).flatMap (jb t)).length:=by rw[hfl,List.length_append,uD]
   rw[<-hfl,hgl];refine H ?_;exact⟨i+1,hlt,J,O,O,O,O,congrArg I hw,O,O,trivial⟩
 .have hie:i=l.length:=by have:=aF h;omega
  clear h;subst hie;rw[List.take_length];rw[show l.flatMap (jb t)=lO l t from O];have hsz:∀p∈lO l t,p.at'.sz 7000000:=fun p hp=>by
   obtain⟨s,hs,k,hk,rfl⟩:=yf hp;have:=gJ (uC (hl.1 s hs) ht.hq k).ok;exact⟨by have:=this.1;show(ofQ (s.k.s k-j1 s t)).n.l.length<=7000000;omega,by have:=this.2;show(ofQ (s.k.s k-j1 s t)).d.l.length<=7000000;omega⟩
  ((repeat ((fail_if_success (with_reducible refine aR 14 ?_));refine cu O ?_));refine aN 1 ?_)
  refine eg O ?_;refine aT ?_;refine bc O (hS.run O O hsz ⟨O,trivial⟩ fun s1=>?_);rw[show dQ ja (lO l t)=ye l t from O];have hol:(ye l t).length=(lO l t).length:=lF _ _;have hol2:((lO l t).map eh).length=((ye l t).map eh).length:=by simp[hol]
  rw[hol2];refine aQ ?_;refine H ?_;exact gH O O O aI O
def prB (n:BN):Rat × Rat:=(n.at'.val,n.up.val)
def fA (b:BR)(t:Rat):Rat:=xZ (b.w:Rat) ((ye b.l t).map prB) 0 0 0
theorem AU {l:List SR}{t:Rat}{n:BN}(h:n∈ye l t):∃s∈l,∃k,k<s.k.S.length/\n=bn s t k:=yf ((gY ja _).mem_iff.1 h)
theorem rY {q:Rat}:ofQ (ofQ q).val=ofQ q:=by rw[ofQ_val]
set_option maxRecDepth 20000 in
theorem sI (b:BR)(hb:b.Ok){t:Rat}{m:Nat}(h40:(lO b.l t).length<=40)(hS:SortC (lO b.l t))(tr:RR)[ht:Vq tr t m](hm:m<=60000):Ret Tryz.prog .shared 204 [.agg (eB b),.agg (eR tr)] (.agg (eA ⟨ofQ (fA b t),ofQ t⟩)):=by
 have hw0:=bx 0 ⟨Y,Y⟩;rw[show(((0:Int):Rat))=0 from O]at hw0;have hww:=bx b.w hb.lim.w;have zw:Zb b.w:=aM hb.lim.w.1 hb.lim.w.2;have vw:Vq (ofQ (b.w:Rat)) (b.w:Rat) 4:=Vq.ofQ (h:=HQ.int);have hbe:=qU b.l hb.lim.l hb.chkL hb.few.2 (by have:=hb.few.1;omega) tr (m:=m) J h40 hS;have hlow:=Bi tr J;have hol:(ye b.l t).length=(lO b.l t).length:=lF _ _;have hol40:(ye b.l t).length<=40:=J;have hat:∀n∈ye b.l t,n.at'=ofQ n.at'.val/\n.up=ofQ n.up.val/\HQ n.at'.val (m+30)/\HQ n.up.val 27:=fun n hn=>by
  obtain⟨s,hs,k,hk,rfl⟩:=AU hn;refine⟨rY.symm,rY.symm,?_,?_⟩
  .show HQ (ofQ (s.k.s k-j1 s t)).val (m+30);rw[ofQ_val];exact(uC (hb.lim.l.1 s hs) ht.hq k).mono J
  .show HQ (ofQ (s.k.m k-bE s.k.m k)).val 27;rw[ofQ_val];exact ni (hb.lim.l.1 s hs).k k
 generalize hZ:fA b t=Z;rw[fA]at hZ;generalize ye b.l t=B at *
 have hml:(B.map eh).length=B.length:=ah;obtain⟨w,ba,l⟩:=b;simp only at *
 generalize (w:Rat)=W at *
 refine Ret.of_pwp layOk mixed Go.Proofs.Tryz.func204 O Y O O ?_;refine G hw0 ?_;refine G hw0 ?_;refine G hww ?_;refine G hw0 ?_;refine G hbe ?_;refine H ?_;refine am (fun q:Nat × Rat × Rat × Rat=>q.1<=B.length/\xZ W ((B.drop q.1).map prB) q.2.1 q.2.2.1 q.2.2.2=Z/\HQ q.2.1 (q.1*(2*m+1300)+4)/\HQ q.2.2.1 (q.1*28+4)/\HQ q.2.2.2 (m+30)) (fun q=>[(3,.ptr 3 1 0 0),(4,.ptr 4 1 0 0),(5,.ptr 5 1 0 0),(6,.ptr 6 1 0 0),(7,.ptr 7 1 0 0),(8,.ptr 8 1 0 0),(21,.sl (B.map eh)),(22,I B.length),(23,I (q.1:Nat))])
  (fun q=>[(3,1,⟨42,4,[eR tr],2⟩),(4,1,⟨45,8,[zN++zN],2⟩),(5,1,⟨42,4,[eR (ofQ q.2.1)],2⟩),(6,1,⟨42,4,[eR (ofQ q.2.2.1)],2⟩),(7,1,⟨42,4,[eR (ofQ W)],2⟩),(8,1,⟨42,4,[eR (ofQ q.2.2.2)],2⟩)]) (fun q=>B.length-q.1) (0,0,0,0)
  ⟨Nat.zero_le _,by rw[List.drop_zero];exact hZ,HQ.zero.mono J,HQ.zero.mono J,HQ.zero.mono J⟩ ⟨O,O,O,O,O,O,O,by rw[<-hml];rfl,O,O,O,O,O,O,O,trivial⟩ ?_
 rintro⟨i,c,k,a⟩ s ⟨hi,hS,hc,hk,ha⟩;simp only at hi hS hc hk ha;dsimp only;have hcb:i*(2*m+1300)+4<=40*(2*m+1300)+4:=by have:=Nat.mul_le_mul (show i<=40 by omega) (Nat.le_refl (2*m+1300));omega
 have vk:Vq (ofQ k) k (i*28+4):=Vq.ofQ (h:=hk);have vc:Vq (ofQ c) c (i*(2*m+1300)+4):=Vq.ofQ (h:=hc);have va:Vq (ofQ a) a (m+30):=Vq.ofQ (h:=ha);have sgk:=nE (ofQ k) (hx:=vk) J;have hsk:=gX k;have t1:=lH (ofQ W) (ofQ c) (hx:=vw) (hy:=vc) Y J;have u1:Vq (ofQ (W-c)) (W-c) (4+(i*(2*m+1300)+4)+1):=Vq.ofQ (h:=@HQ.sub _ _ 4 _ (dM vw) hc);generalize hgk:sgn k=gk at *
 refine D ?_ ?_<;>intro h
 .have hlt:i<B.length:=by have:=ax h;omega
  clear h;obtain⟨x,hx⟩:=aG hlt;obtain⟨x1,x2,x3,x4⟩:=hat x (aZ hx);have hdr:(B.drop i).map prB=prB x::(B.drop (i+1)).map prB:=by
   obtain⟨hl1,h2⟩:=be hx;rw[List.drop_eq_getElem_cons hl1,h2];rfl
  rw[hdr,xZ]at hS;have hw:=c_ i;obtain⟨xa,xu⟩:=x;obtain⟨p,rfl⟩:∃p,xa=ofQ p:=⟨_,x1⟩;obtain⟨u,rfl⟩:∃u,xu=ofQ u:=⟨_,x2⟩;clear x1 x2;simp only[prB,ofQ_val]at hS x3 x4;have vp:Vq (ofQ p) p (m+30):=Vq.ofQ (h:=x3);have vu:Vq (ofQ u) u 27:=Vq.ofQ (h:=x4);have e1:=lH (ofQ p) (ofQ a) (hx:=vp) (hy:=va) J J;have w1:Vq (ofQ (p-a)) (p-a) (m+30+(m+30)+1):=Vq.ofQ (h:=@HQ.sub _ _ _ _ x3 ha);have e2:=ej (ofQ k) (ofQ (p-a)) (hx:=vk) (hy:=w1) J J;have w2:Vq (ofQ (k*(p-a))) (k*(p-a)) (i*28+4+(m+30+(m+30)+1)):=Vq.ofQ (h:=@HQ.mul _ _ _ _ hk (dM w1));have e3:=di (ofQ c) (ofQ (k*(p-a))) (hx:=vc) (hy:=w2) J J;have h3:HQ (c+k*(p-a)) ((i+1)*(2*m+1300)+4):=(@HQ.add _ _ _ _ hc (dM w2)).mono (by rw[Nat.add_mul];omega);have w3:Vq (ofQ (c+k*(p-a))) (c+k*(p-a)) ((i+1)*(2*m+1300)+4):=Vq.ofQ (h:=h3);have hcb1:(i+1)*(2*m+1300)+4<=41*(2*m+1300)+4:=by have:=Nat.mul_le_mul (show i+1<=41 by omega) (Nat.le_refl (2*m+1300));omega
  have e4:=mL (ofQ (c+k*(p-a))) (ofQ W) (hx:=w3) (hy:=vw) J Y;have hs4:=Dz (c+k*(p-a)-W);have e5:=di (ofQ k) (ofQ u) (hx:=vk) (hy:=vu) J Y;have h5:HQ (k+u) ((i+1)*28+4):=(@HQ.add _ _ _ _ hk x4).mono J;have h6:HQ c ((i+1)*(2*m+1300)+4):=hc.mono (by rw[Nat.add_mul];omega);by_cases hkp:0<k
  .have hkg:0<gk:=by rw[<-hgk];exact(gX k).2 hkp
   rw[if_pos hkp]at hS;by_cases hr:W<=c+k*(p-a)
   .rw[if_pos hr]at hS;have hr4:0<=sgn (c+k*(p-a)-W):=hs4.2 cH;have t2:=r5 (ofQ (W-c)) (ofQ k) (hx:=u1) (hy:=vk) J J cH;have u2:Vq (ofQ ((W-c)/k)) ((W-c)/k) (4+(i*(2*m+1300)+4)+1+(i*28+4)):=Vq.ofQ (h:=@HQ.div _ _ _ _ (dM u1) hk);have t3:=di (ofQ a) (ofQ ((W-c)/k)) (hx:=va) (hy:=u2) J J;rw[hS]at t3;generalize sgn (c+k*(p-a)-W)=g4 at *
    generalize ofQ (c+k*(p-a))=Y1 at *
    refine aJ hx ?_;refine ap sgk ?_;refine D ?_ ?_<;>intro h
    .clear h
     (repeat ((fail_if_success (with_reducible refine aR 8 ?_));refine cu O ?_))
     refine ar (gj 11) ?_;refine bB 8 1 [30,31,32,33,34,35,36,37,11] [] br O ?_;refine G e1 ?_;refine G e2 ?_;refine G e3 ?_;refine ap e4 ?_;refine D ?_ ?_<;>intro h
     .clear h;refine ap sgk ?_;refine D ?_ ?_<;>intro h
      .clear h;refine bU 7 [53,54,55,56,57,58,59] ?_;refine G t1 ?_;refine G t2 ?_;refine G t3 ?_;refine bU 4 [60,61,62,63] ?_;refine G hlow ?_;exact bL
      .exact absurd hkg (aF h)
     .exact absurd hr4 (aF h)
    .exact absurd hkg (aF h)
   .rw[if_neg hr]at hS;have hr4:¬0<=sgn (c+k*(p-a)-W):=fun h=>by have:=hs4.1 h;grind
    generalize sgn (c+k*(p-a)-W)=g4 at *
    generalize hY1:ofQ (c+k*(p-a))=Y1 at *
    generalize hY2:ofQ (k+u)=Y2 at *
    refine aJ hx ?_;refine ap sgk ?_;refine D ?_ ?_<;>intro h
    .clear h
     (repeat ((fail_if_success (with_reducible refine aR 8 ?_));refine cu O ?_))
     refine ar (gj 11) ?_;refine bB 8 1 [30,31,32,33,34,35,36,37,11] [] br O ?_;refine G e1 ?_;refine G e2 ?_;refine G e3 ?_;refine ap e4 ?_;refine D ?_ ?_<;>intro h
     .exact absurd (ax h) hr4
     .clear h;refine G e5 ?_;refine H ?_;refine⟨(i+1,c+k*(p-a),k+u,p),⟨hlt,hS,h3,h5,x3⟩,by simp only;omega,O,O,O,O,O,O,O,O,congrArg I hw,O,O,by rw[<-hY1];rfl,by rw[<-hY2];rfl,O,O,trivial⟩
    .exact absurd hkg (aF h)
  .have hkg:¬0<gk:=fun h=>hkp (by rw[<-hgk]at h;exact(gX k).1 h);rw[if_neg hkp]at hS;generalize hY2:ofQ (k+u)=Y2 at *
   refine aJ hx ?_;refine ap sgk ?_;refine D ?_ ?_<;>intro h
   .exact absurd (ax h) hkg
   .clear h;refine G e5 ?_;refine H ?_;refine⟨(i+1,c,k+u,p),⟨hlt,hS,h6,h5,x3⟩,by simp only;omega,O,O,O,O,O,O,O,O,congrArg I hw,O,O,O,by rw[<-hY2];rfl,O,O,trivial⟩
 .have hie:i=B.length:=by have:=aF h;omega
  clear h;rw[hie,List.drop_length,List.map_nil,xZ]at hS;by_cases hkp:0<k
  .have hkg:0<gk:=by rw[<-hgk];exact(gX k).2 hkp
   rw[if_pos hkp]at hS;have t2:=r5 (ofQ (W-c)) (ofQ k) (hx:=u1) (hy:=vk) J J cH;have u2:Vq (ofQ ((W-c)/k)) ((W-c)/k) (4+(i*(2*m+1300)+4)+1+(i*28+4)):=Vq.ofQ (h:=@HQ.div _ _ _ _ (dM u1) hk);have t3:=di (ofQ a) (ofQ ((W-c)/k)) (hx:=va) (hy:=u2) J J;rw[hS]at t3;refine ap sgk ?_;refine D ?_ ?_<;>intro h
   .clear h;refine bU 7 [53,54,55,56,57,58,59] ?_;refine G t1 ?_;refine G t2 ?_;refine G t3 ?_;refine bU 4 [60,61,62,63] ?_;refine G hlow ?_;exact bL
   .exact absurd hkg (aF h)
  .have hkg:¬0<gk:=fun h=>hkp (by rw[<-hgk]at h;exact(gX k).1 h);rw[if_neg hkp]at hS;refine ap sgk ?_;refine D ?_ ?_<;>intro h
   .exact absurd (ax h) hkg
   .clear h;refine bU 4 [60,61,62,63] ?_;refine G hlow ?_;refine H ?_;exact yC O aI O aI (by rw[<-hS];rfl)
theorem ol {b:BR}(hb:b.Ok):(bd b).Ok:=by
 refine⟨fun i hi=>vY (cJ hb.chkL _ (bw hi)),?_⟩;have:=(qW hb.chk).1;show(0:Rat)<(b.w:Rat);have h:(0:Int)<b.w:=J
 exact_mod_cast h
theorem Dg {c:CR}(hc:c.Lim){p:Nat}(hp:p<=8):HQ (kz c.s c.m p) 300:=by
 rw[kz];refine(bD (m:=31) p fun k _=>?_).mono J;have hb:=l7 hc k;have hzb:Zb (c.S.getD k 0):=aM hb.1 hb.2;exact @HQ.mul _ _ 27 4 (ni hc k) HQ.int
theorem yS {b:BR}(hb:b.Ok)(p:Nat->Nat){i:Nat}(hi:i<b.l.length):HQ ((bd b).k p i) 13:=(om _ (hb.lim.l.1 _ (bw hi)).k (p i)).hq
theorem B9 {b:BR}(hb:b.Ok){i:Nat}(hi:i<b.l.length):HQ ((bd b).X i) 4:=by
 have hx:=(hb.lim.l.1 _ (bw hi)).x;have hx:Zb (b.l.getD i dS).x:=aM hx.1 hx.2;exact HQ.int
theorem x7 {b:BR}(hb:b.Ok)(p:Nat->Nat):HQ ((bd b).Kh p) 300:=(bD (m:=13) b.l.length fun i hi=>yS hb p hi).mono (by have:=hb.few.1;omega)
theorem x6 {b:BR}(hb:b.Ok)(p:Nat->Nat):HQ ((bd b).Kc p) 300:=(bD (m:=17) b.l.length fun i hi=>@HQ.mul _ _ 13 4 (yS hb p hi) (B9 hb hi)).mono (by have:=hb.few.1;omega)
theorem Ch {b:BR}(hb:b.Ok)(p:Nat->Nat):HQ ((bd b).Kp p) 300:=(bD (m:=21) b.l.length fun i hi=>@HQ.mul _ _ 17 4 (@HQ.mul _ _ 13 4 (yS hb p hi) (B9 hb hi)) (B9 hb hi)).mono (by have:=hb.few.1;omega)
theorem Cs {b:BR}(hb:b.Ok){p:Nat->Nat}(hp:∀i,i<b.l.length->p i<=(bd b).n i){i:Nat}(hi:i<b.l.length):HQ ((bd b).k p i*(bd b).C i-(bd b).o p i) 327:=by
 have h8:=hb.few.2 _ (bw hi);have hpi:=hp i hi;have hc:HQ ((bd b).C i) 13:=(hb.lim.l.1 _ (bw hi)).c.v.hq;exact @HQ.sub _ _ 26 300 (@HQ.mul _ _ 13 13 (yS hb p hi) hc) (Dg (hb.lim.l.1 _ (bw hi)).k (Nat.le_trans hpi h8))
theorem Cg {b:BR}(hb:b.Ok){p:Nat->Nat}(hp:∀i,i<b.l.length->p i<=(bd b).n i):HQ ((bd b).Fo p) 4100:=(bD (m:=327) b.l.length fun i hi=>Cs hb hp hi).mono (by have:=hb.few.1;omega)
theorem Eb {b:BR}(hb:b.Ok){p:Nat->Nat}(hp:∀i,i<b.l.length->p i<=(bd b).n i):HQ ((bd b).Go p) 4100:=(bD (m:=331) b.l.length fun i hi=>@HQ.mul _ _ 327 4 (Cs hb hp hi) (B9 hb hi)).mono (by have:=hb.few.1;omega)
theorem uH {z X D0:Rat}(hd:D0≠0):z+(X-z*D0)/D0=X/D0:=by grind
theorem AZ {h c p z t F G0 w M:Rat}(hd:h*p-c*c≠0):z+(p*(w-(h*z+c*t+F))-c*(M-(c*z+p*t+G0)))/(h*p-c*c)=(p*(w-F)-c*(M-G0))/(h*p-c*c):=by
 rw[show p*(w-(h*z+c*t+F))-c*(M-(c*z+p*t+G0))=(p*(w-F)-c*(M-G0))-z*(h*p-c*c) by grind,uH hd]
theorem A1 {h c p z t F G0 w M:Rat}(hd:h*p-c*c≠0):t+(h*(M-(c*z+p*t+G0))-c*(w-(h*z+c*t+F)))/(h*p-c*c)=(h*(M-G0)-c*(w-F))/(h*p-c*c):=by
 rw[show h*(M-(c*z+p*t+G0))-c*(w-(h*z+c*t+F))=(h*(M-G0)-c*(w-F))-t*(h*p-c*c) by grind,uH hd]
theorem Bm {b:BR}(hb:b.Ok){p:Nat->Nat}{z t:Rat}(hp:(bd b).Inc p z t){d:Rat × Rat}(h:Bd.newt ((bd b).Kh p) ((bd b).Kc p) ((bd b).Kp p) ((bd b).w-(bd b).F z t) (-((bd b).e z t))=some d):HQ (z+d.1) 20000/\HQ (t+d.2) 20000:=by
 have hpn:∀i,i<b.l.length->p i<=(bd b).n i:=fun i hi=>(hp i hi).1;have hw:Zb b.w:=aM hb.lim.w.1 hb.lim.w.2;have e1:=Bd.F_at (ol hb) hp;have e2:=Bd.G_at (ol hb) hp;rw[Bd.newt]at h;split at h
 .cases h
 .rename_i hd;cases h;have hf : -((bd b).e z t)=(bd b).w*(bd b).A-(bd b).G0 z t:=by rw[Bd.e];grind
  simp only;rw[hf,e1,e2,AZ hd,A1 hd];have kh:=x7 hb p;have kc:=x6 hb p;have kp:=Ch hb p;have fo:=Cg hb hpn;have go:=Eb hb hpn;have wq:HQ ((bd b).w) 4:=HQ.int;have wa:HQ ((bd b).w*(bd b).A) 17:=vK hb;have f1:=@HQ.sub _ _ 4 4100 wq fo;have g1:=@HQ.sub _ _ 17 4100 wa go;have dt:=@HQ.sub _ _ _ _ (@HQ.mul _ _ 300 300 kh kp) (@HQ.mul _ _ 300 300 kc kc);exact⟨(@HQ.div _ _ _ _ (@HQ.sub _ _ _ _ (@HQ.mul _ _ _ _ kp f1) (@HQ.mul _ _ _ _ kc g1)) dt).mono J,(@HQ.div _ _ _ _ (@HQ.sub _ _ _ _ (@HQ.mul _ _ _ _ kh g1) (@HQ.mul _ _ _ _ kc f1)) dt).mono J⟩
def Cr (o:Option (Rat × Rat)):PV:=match o with
 |none => .tup [.agg (zN++zN),.bool false]
 |some x => .tup [.agg (eA ⟨ofQ x.1,ofQ x.2⟩),.bool true]
theorem vJ {x:RR}{p:Rat}{n m:Nat}(h:Vq x p n)(hm:n<=m):Vq x p m:=⟨h.val,Nat.le_trans h.sz.1 hm,Nat.le_trans h.sz.2 hm⟩
theorem EB {b:BR}(hb:b.Ok)(z t:Rat):(bd b).Inc ((bd b).pR z t) z t:=fun i hi=>(Dl (n:=(bd b).n i) (S:=(bd b).S i) (y:=(bd b).y z t i)).c
theorem EA {b:BR}(hb:b.Ok)(z t:Rat):(bd b).Inc ((bd b).pL z t) z t:=fun i hi=>(zm (n:=(bd b).n i) (S:=(bd b).S i) (y:=(bd b).y z t i)).c
def Fd (b:BR)(p:Nat->Nat):PV := .agg (eK (ofQ ((bd b).Kh p)) (ofQ ((bd b).Kc p)) (ofQ ((bd b).Kp p)))
theorem uj (b:BR)(hb:b.Ok)(a:AR){z t:Rat}{n m:Nat}[ha:Va a z t n m](hn:n+m<=60000):Ret Tryz.prog .shared 254 [.sl (b.l.map eS),.clo 280 [.dref (eA a) 0]] (Fd b ((bd b).pR z t)) :=
 pn b.l hb.lim.l hb.few 280 (eA a) (fun s=>ofQ (bE s.k.m (lY s.k.s (yQ s z t) s.k.S.length))) ((bd b).k ((bd b).pR z t)) (fun s hs=>nu s (hb.lim.l.1 s hs) (cJ hb.chkL s hs) a J)
  (fun i hi=>vJ (Vq.ofQ (h:=yS hb ((bd b).pR z t) hi)) Y)
theorem ui (b:BR)(hb:b.Ok)(a:AR){z t:Rat}{n m:Nat}[ha:Va a z t n m](hn:n+m<=60000):Ret Tryz.prog .shared 254 [.sl (b.l.map eS),.clo 282 [.dref (eA a) 0]] (Fd b ((bd b).pL z t)) :=
 pn b.l hb.lim.l hb.few 282 (eA a) (fun s=>wH s.k (yQ s z t) s.k.S.length) ((bd b).k ((bd b).pL z t)) (fun s hs=>oJ s (hb.lim.l.1 s hs) (cJ hb.chkL s hs) a J)
  (fun i hi=>vJ (yW (hb.lim.l.1 _ (bw hi)).k _ _) Y)
structure TryC (b:BR) (a:AR) (z t:Rat) (fo mo:RR) (p:Nat->Nat) (d:Option (Rat × Rat)):Prop where
 mv:Ret Tryz.prog .shared 253 [Fd b p,.agg (eR fo),.agg (eR mo)] (nh d)
 af:∀x,d=some x->Ret Tryz.prog .shared 256 [.agg (eA a),.agg (eA ⟨ofQ x.1,ofQ x.2⟩)] (.agg (eA ⟨ofQ (z+x.1),ofQ (t+x.2)⟩))
 ba:∀x,d=some x->Ret Tryz.prog .shared 255 [.agg (eB b),.agg (eA ⟨ofQ (z+x.1),ofQ (t+x.2)⟩)] (.bool (decide ((bd b).Bal (z+x.1) (t+x.2))))
theorem E9 (b:BR)(hb:b.Ok)(a:AR){z t:Rat}{n m:Nat}(ha:Va a z t n m)(hn:n+m<=50000){p:Nat->Nat}(hp:(bd b).Inc p z t) :
  TryC b a z t (ofQ ((bd b).w-(bd b).F z t)) (ofQ (-((bd b).e z t))) p (Bd.newt ((bd b).Kh p) ((bd b).Kc p) ((bd b).Kp p) ((bd b).w-(bd b).F z t) (-((bd b).e z t))):=by
 have hw:Zb b.w:=aM hb.lim.w.1 hb.lim.w.2;have wq:HQ ((bd b).w) 4:=HQ.int;have hF:HQ ((bd b).w-(bd b).F z t) (96*(n+m+62)+400):=(@HQ.sub _ _ 4 (96*((n+1)+(m+1)+60)+200) wq (CQ hb.lim.l hb.few ha.z.hq ha.t.hq)).mono J;have hE:HQ (-((bd b).e z t)) (96*(n+m+62)+400):=(@HQ.neg _ _ (C8 hb ha.z.hq ha.t.hq)).mono J;have hd:∀x,Bd.newt ((bd b).Kh p) ((bd b).Kc p) ((bd b).Kp p) ((bd b).w-(bd b).F z t) (-((bd b).e z t))=some x->HQ (z+x.1) 20000/\HQ (t+x.2) 20000:=fun x hx=>Bm hb hp hx;refine⟨wQ _ _ _ _ _ (a:=300) (b:=96*(n+m+62)+400) (Vq.ofQ (h:=x7 hb p)) (Vq.ofQ (h:=x6 hb p)) (Vq.ofQ (h:=Ch hb p)) (Vq.ofQ (h:=hF)) (Vq.ofQ (h:=hE)) Y J,fun x hx=>?_,fun x hx=>?_⟩
 .obtain⟨h1,h2⟩:=hd x hx;have q1:HQ x.1 (20000+(n+1)+1):=by
   have:=@HQ.sub _ _ 20000 (n+1) h1 ha.z.hq;rwa [show z+x.1-z=x.1 by grind]at this
  have q2:HQ x.2 (20000+(m+1)+1):=by
   have:=@HQ.sub _ _ 20000 (m+1) h2 ha.t.hq;rwa [show t+x.2-t=x.2 by grind]at this
  exact vS a ⟨ofQ x.1,ofQ x.2⟩ (hd:=⟨Vq.ofQ (h:=q1),Vq.ofQ (h:=q2)⟩) J J J J
 .obtain⟨h1,h2⟩:=hd x hx;exact pG b hb ⟨ofQ (z+x.1),ofQ (t+x.2)⟩ (ha:=⟨Vq.ofQ (h:=h1),Vq.ofQ (h:=h2)⟩) Y
def xL (b:BR)(z t:Rat):Option (Rat × Rat)->Option (Rat × Rat)
 |none=>none
 |some d=>if (bd b).Bal (z+d.1) (t+d.2) then some (z+d.1,t+d.2) else none
def DT (b:BR)(z t:Rat)(p:Nat->Nat):Option (Rat × Rat):=Bd.newt ((bd b).Kh p) ((bd b).Kc p) ((bd b).Kp p) ((bd b).w-(bd b).F z t) (-((bd b).e z t))
theorem vE (b:BR)(z t:Rat)(p:Nat->Nat):(bd b).tryP z t p=xL b z t (DT b z t p):=by
 rw[Bd.tryP,DT];cases Bd.newt ((bd b).Kh p) ((bd b).Kc p) ((bd b).Kp p) ((bd b).w-(bd b).F z t) (-((bd b).e z t))<;>rfl
set_option maxRecDepth 20000 in
theorem wt (b:BR)(hb:b.Ok)(a:AR){z t:Rat}{n m:Nat}[ha:Va a z t n m](hn:n+m<=50000):Ret Tryz.prog .shared 206 [.agg (eB b),.agg (eA a)] (Cr ((bd b).guess z t)):=by
 have h1:=jW b.l hb.lim.l hb.chkL hb.few a J;have h2:=bx b.w hb.lim.w;have zw:Zb b.w:=aM hb.lim.w.1 hb.lim.w.2;have v1:Vq (ofQ (aq (fI b.l z t) b.l.length)) (aq (fI b.l z t) b.l.length) (96*(n+1+(m+1)+60)+200):=Vq.ofQ (h:=CQ hb.lim.l hb.few ha.z.hq ha.t.hq);have h3:=lH (ofQ (b.w:Rat)) (ofQ (aq (fI b.l z t) b.l.length)) (hy:=v1) Y J;rw[show(b.w:Rat)-aq (fI b.l z t) b.l.length=(bd b).w-(bd b).F z t from O]at h3;have h4:=mQ b hb a J;have v4:Vq (ofQ ((bd b).e z t)) ((bd b).e z t) (96*(n+1+(m+1)+60)+200+17+1):=Vq.ofQ (h:=C8 hb ha.z.hq ha.t.hq);have h5:=EF (ofQ ((bd b).e z t)) (hx:=v4) J;have h6:=pf a;have h7:=rL a;have sR:=uj b hb a (z:=z) (t:=t) J;have sL:=ui b hb a (z:=z) (t:=t) J;have cR:=E9 b hb a ha hn (EB hb z t);have cL:=E9 b hb a ha hn (EA hb z t);rw[show Bd.newt ((bd b).Kh ((bd b).pR z t)) ((bd b).Kc ((bd b).pR z t)) ((bd b).Kp ((bd b).pR z t)) ((bd b).w-(bd b).F z t) (-((bd b).e z t))=DT b z t ((bd b).pR z t) from O]at cR;rw[show Bd.newt ((bd b).Kh ((bd b).pL z t)) ((bd b).Kc ((bd b).pL z t)) ((bd b).Kp ((bd b).pL z t)) ((bd b).w-(bd b).F z t) (-((bd b).e z t))=DT b z t ((bd b).pL z t) from O]at cL;generalize hG:(bd b).guess z t=G0;rw[Bd.guess,vE,vE]at hG;generalize hPR:(bd b).pR z t=pR at *
 generalize hPL:(bd b).pL z t=pL at *
 obtain⟨m1,m2,m3⟩:=cR;obtain⟨l1,l2,l3⟩:=cL;generalize DT b z t pR=oR at *
 generalize DT b z t pL=oL at *
 rw[Fd]at sR sL m1 l1;generalize ofQ ((bd b).Kh pR)=R1 at *
 generalize ofQ ((bd b).Kc pR)=R2 at *
 generalize ofQ ((bd b).Kp pR)=R3 at *
 generalize ofQ ((bd b).Kh pL)=L1 at *
 generalize ofQ ((bd b).Kc pL)=L2 at *
 generalize ofQ ((bd b).Kp pL)=L3 at *
 generalize ofQ ((bd b).w-(bd b).F z t)=FO at *
 generalize ofQ (-((bd b).e z t))=MO at *
 generalize ofQ ((bd b).e z t)=EX at *
 generalize ofQ (aq (fI b.l z t) b.l.length)=TF at *
 generalize ofQ (aq (gI b.l z t) b.l.length)=TG at *
 refine Ret.of_pwp layOk mixed Go.Proofs.Tryz.func206 O Y O O ?_;refine G h1 ?_;refine H ?_;refine bB 6 1 [21,22,23,24,25,26,8] [] br O ?_;refine G h2 ?_;refine G h3 ?_;refine G h4 ?_;refine G h5 ?_;refine H ?_;refine bj [35] [4,5] br ?_;refine G h6 ?_;refine G h7 ?_;refine H ?_;refine i8 O O O (aS 2 O O O O O O O O O O O aI O ⟨dj O,?_⟩);refine H ?_;refine am (fun i:Nat=>(i=0/\(match xL b z t oR with|some x=>some x|none=>xL b z t oL)=G0)\/(i=1/\xL b z t oL=G0)\/(i=2/\G0=none)) (fun i=>[(2,.ptr 2 1 0 0),(3,.ptr 3 1 0 0),(4,.ptr 4 1 0 0),(8,.ptr 8 1 0 0),(9,.ptr 9 1 0 0),(35,.als 35 1 0 2),(36,I 2),(37,I (i:Nat))])
  (fun _=>[(2,1,⟨158,6,[eB b],2⟩),(3,1,⟨45,8,[eA a],2⟩),(4,1,⟨45,8,[zN++zN],2⟩),(8,1,⟨42,4,[eR FO],2⟩),(9,1,⟨42,4,[eR MO],2⟩),(35,1,⟨273,1,[[.clo 280 [.dref (eA a) 0]],[.clo 282 [.dref (eA a) 0]]],2⟩)]) (fun i=>2-i) 0 (.inl ⟨O,hG⟩) ⟨O,O,O,O,O,O,O,O,O,O,O,O,O,O,trivial⟩ ?_
 intro i s hi;rcases hi with⟨rfl,hG⟩|⟨rfl,hG⟩|⟨rfl,hG⟩
 .cases oR with
  |none =>
   refine H ?_;refine bI O O (bC O O O O O O O Y Y) ?_;refine H ?_;refine bj [12] [10,11] br ?_;refine G sR ?_;refine G m1 ?_;refine bU 8 [51,52,53,54,55,56,57,58] ?_;refine H ?_;exact⟨1,.inr (.inl ⟨O,hG⟩),Y,O,O,O,O,O,O,O,O,O,O,O,O,O,O,trivial⟩
  |some d =>
   have k1:=m2 d O;have k2:=m3 d O;rw[nh]at m1;rw[xL]at hG;by_cases hbal:(bd b).Bal (z+d.1) (t+d.2)
   .rw[decide_eq_true hbal]at k2;rw[if_pos hbal]at hG;try simp only at hG
    subst hG;rw[Cr];dsimp only;generalize ofQ (z+d.1)=Y1 at *
    generalize ofQ (t+d.2)=Y2 at *
    generalize ofQ d.1=Y3 at *
    generalize ofQ d.2=Y4 at *
    refine H ?_;refine bI O O (bC O O O O O O O Y Y) ?_;refine H ?_;refine bj [12] [10,11] br ?_;refine G sR ?_;refine G m1 ?_;refine bU 8 [51,52,53,54,55,56,57,58] ?_;refine G k1 ?_;refine ap k2 ?_;refine G k1 ?_;exact bL
   .rw[decide_eq_false hbal]at k2;rw[if_neg hbal]at hG;try simp only at hG
    generalize ofQ (z+d.1)=Y1 at *
    generalize ofQ (t+d.2)=Y2 at *
    generalize ofQ d.1=Y3 at *
    generalize ofQ d.2=Y4 at *
    refine H ?_;refine bI O O (bC O O O O O O O Y Y) ?_;refine H ?_;refine bj [12] [10,11] br ?_;refine G sR ?_;refine G m1 ?_;refine bU 8 [51,52,53,54,55,56,57,58] ?_;refine G k1 ?_;refine ap k2 ?_;refine H ?_;exact⟨1,.inr (.inl ⟨O,hG⟩),Y,O,O,O,O,O,O,O,O,O,O,O,O,O,O,trivial⟩
 .cases oL with
  |none =>
   refine H ?_;refine bI O O (bC O O O O O O O Y Y) ?_;refine H ?_;refine bj [12] [10,11] br ?_;refine G sL ?_;refine G l1 ?_;refine bU 8 [51,52,53,54,55,56,57,58] ?_;refine H ?_;exact⟨2,.inr (.inr ⟨O,hG.symm⟩),Y,O,O,O,O,O,O,O,O,O,O,O,O,O,O,trivial⟩
  |some d =>
   have k1:=l2 d O;have k2:=l3 d O;rw[nh]at l1;rw[xL]at hG;by_cases hbal:(bd b).Bal (z+d.1) (t+d.2)
   .rw[decide_eq_true hbal]at k2;rw[if_pos hbal]at hG;try simp only at hG
    subst hG;rw[Cr];dsimp only;generalize ofQ (z+d.1)=Y1 at *
    generalize ofQ (t+d.2)=Y2 at *
    generalize ofQ d.1=Y3 at *
    generalize ofQ d.2=Y4 at *
    refine H ?_;refine bI O O (bC O O O O O O O Y Y) ?_;refine H ?_;refine bj [12] [10,11] br ?_;refine G sL ?_;refine G l1 ?_;refine bU 8 [51,52,53,54,55,56,57,58] ?_;refine G k1 ?_;refine ap k2 ?_;refine G k1 ?_;exact bL
   .rw[decide_eq_false hbal]at k2;rw[if_neg hbal]at hG;try simp only at hG
    generalize ofQ (z+d.1)=Y1 at *
    generalize ofQ (t+d.2)=Y2 at *
    generalize ofQ d.1=Y3 at *
    generalize ofQ d.2=Y4 at *
    refine H ?_;refine bI O O (bC O O O O O O O Y Y) ?_;refine H ?_;refine bj [12] [10,11] br ?_;refine G sL ?_;refine G l1 ?_;refine bU 8 [51,52,53,54,55,56,57,58] ?_;refine G k1 ?_;refine ap k2 ?_;refine H ?_;exact⟨2,.inr (.inr ⟨O,hG.symm⟩),Y,O,O,O,O,O,O,O,O,O,O,O,O,O,O,trivial⟩
 .subst hG;exact bL
def rV (s:SR)(z t:Rat):Rat:=bE s.k.m (lY s.k.s (yQ s z t) s.k.S.length)
def lV (s:SR)(z t:Rat):Rat:=bE s.k.m (oW s.k.s (yQ s z t) s.k.S.length)
def oS (z t A B:Rat)(s:SR):Bool:=decide (¬((0<A+B*(s.x:Rat)/\rV s z t≠0)\/(A+B*(s.x:Rat)<0/\lV s z t≠0)))
def ic (l:List SR)(z t A B:Rat):Bool:=l.all (oS z t A B)
theorem vj {p:Rat}(h:0<p):sgn p=1:=by rw[sgn,if_neg cH,if_neg cH]
theorem vi {p:Rat}(h:p<0):sgn p = -1:=by rw[sgn,if_pos h]
theorem nC {p:Rat}(h:p=0):sgn p=0:=(f9 p).2 h
theorem Aa {p:Rat}(h:p≠0):sgn p=1\/sgn p = -1:=by
 rcases Classical.em (0<p) with h1|h1
 .exact .inl (vj h1)
 .exact .inr (vi cH)
set_option maxRecDepth 20000 in
theorem yI (b:BR)(hb:b.Ok)(a:AR){z t:Rat}{n m:Nat}[ha:Va a z t n m](hn:n+m<=50000)(r:AR){A B:Rat}{n' m':Nat}(hr:Va r A B n' m')(h2:n'<=100000)(h3:m'<=100000):Ret Tryz.prog .shared 210 [.agg (eB b),.agg (eA a),.agg (eA r)] (.bool (ic b.l z t A B)):=by
 have h6:=pf a;have h7:=rL a;have hck:=hb.chkL;have hl:=hb.lim.l;have h12:=hb.few.1;have hrz:=hr.z;have hrt:=hr.t;generalize hF:ic b.l z t A B=F;rw[ic]at hF;obtain⟨w,ba,l⟩:=b;simp only at *
 have hml:(l.map eS).length=l.length:=ah;obtain⟨rz,rt⟩:=r;simp only at hrz hrt;refine Ret.of_pwp layOk mixed Go.Proofs.Tryz.func210 O Y O O ?_;refine H ?_;refine am (fun i:Nat=>i<=l.length/\(l.drop i).all (oS z t A B)=l.all (oS z t A B)) (fun i=>[(4,.ptr 4 1 0 0),(5,.ptr 5 1 0 0),(11,.sl (l.map eS)),(12,I l.length),(13,I (i:Nat))])
  (fun i=>[(4,1,⟨45,8,[eA a],2⟩),(5,1,⟨71,8,[eA ⟨rz,rt⟩],2⟩)]) (fun i=>l.length-i) 0 ⟨Nat.zero_le _,by rw[List.drop_zero]⟩ ⟨O,O,O,by rw[<-hml];rfl,O,O,O,trivial⟩ ?_
 intro i s ⟨hi,hall⟩;refine D ?_ ?_<;>intro h
 .have hlt:i<l.length:=by have:=ax h;omega
  clear h;obtain⟨x,hx⟩:=aG hlt;have hxm:=aZ hx;have hxl:=hl.1 x hxm;have hkc:=cJ hck x hxm;have zx:Zb x.x:=aM hxl.x.1 hxl.x.2;have hw:=c_ i;have hdr:(l.drop i).all (oS z t A B)=(oS z t A B x&&(l.drop (i+1)).all (oS z t A B)):=by
   obtain⟨hl1,h2⟩:=be hx;rw[List.drop_eq_getElem_cons hl1,h2,List.all_cons]
  rw[hdr]at hall;have hbd:oS z t A B x=oS z t A B x:=O
  conv at hbd=>rhs;rw[oS]
  have e1:=bx x.x hxl.x;have e2:=ej rt (ofQ (x.x:Rat)) (hx:=hrt) J Y;have v2:Vq (ofQ (B*(x.x:Rat))) (B*(x.x:Rat)) (m'+1+4):=Vq.ofQ (h:=@HQ.mul _ _ (m'+1) 4 hrt.hq HQ.int);have e3:=di rz (ofQ (B*(x.x:Rat))) (hx:=hrz) (hy:=v2) J J;have v3:Vq (ofQ (A+B*(x.x:Rat))) (A+B*(x.x:Rat)) (n'+1+(m'+1+4)+1):=Vq.ofQ (h:=@HQ.add _ _ (n'+1) _ hrz.hq (dM v2));have e4:=nE (ofQ (A+B*(x.x:Rat))) (hx:=v3) J;have cr:=nu x hxl hkc a (z:=z) (t:=t) J;have cl:=oJ x hxl hkc a (z:=z) (t:=t) J;rw[show bE x.k.m (lY x.k.s (yQ x z t) x.k.S.length)=rV x z t from O]at cr;have vr:Vq (ofQ (rV x z t)) (rV x z t) 13:=Vq.ofQ (h:=(om x.k hxl.k _).hq);have vl:Vq (wH x.k (yQ x z t) x.k.S.length) (lV x z t) 12:=yW hxl.k _ _;have sr:=nE (ofQ (rV x z t)) (hx:=vr) Y;have sl:=nE (wH x.k (yQ x z t) x.k.S.length) (hx:=vl) Y;generalize ofQ (rV x z t)=RV at *
  generalize wH x.k (yQ x z t) x.k.S.length=LV at *
  generalize oS z t A B x=ok at *
  generalize ofQ (A+B*(x.x:Rat))=D1 at *
  generalize ofQ (B*(x.x:Rat))=D2 at *
  generalize ofQ (x.x:Rat)=D3 at *
  rcases Classical.em (0<A+B*(x.x:Rat)) with hd|hd
  .rw[vj hd]at e4;rcases Classical.em (rV x z t=0) with hz|hz
   .rw[nC hz]at sr;have hbad:ok=true:=by rw[hbd,decide_eq_true];rintro(⟨_,h⟩|⟨h,_⟩);exact h hz;grind
    rw[hbad,Bool.true_and]at hall;refine aJ hx ?_;refine bU 11 [17,18,19,20,21,22,23,24,25,26,9] ?_;refine G e1 ?_;refine G e2 ?_;refine G e3 ?_;refine ap e4 ?_;refine bU 22 [27,28,29,30,31,32,33,34,35,36,37,38,39,40,41,42,43,44,45,46,47,48] ?_;refine G h6 ?_;refine G cr ?_;refine ap sr ?_;refine H ?_;exact⟨i+1,⟨J,hall⟩,J,O,O,O,O,congrArg I hw,O,O,trivial⟩
   .have hbad:ok=false:=by rw[hbd,decide_eq_false];exact fun h=>h (.inl ⟨hd,hz⟩)
    rw[hbad,Bool.false_and]at hall;rcases Aa hz with hs|hs
    .rw[hs]at sr;refine aJ hx ?_;refine bU 11 [17,18,19,20,21,22,23,24,25,26,9] ?_;refine G e1 ?_;refine G e2 ?_;refine G e3 ?_;refine ap e4 ?_;refine bU 22 [27,28,29,30,31,32,33,34,35,36,37,38,39,40,41,42,43,44,45,46,47,48] ?_;refine G h6 ?_;refine G cr ?_;refine ap sr ?_;refine H ?_;exact bW O O (by rw[<-hF,<-hall])
    .rw[hs]at sr;refine aJ hx ?_;refine bU 11 [17,18,19,20,21,22,23,24,25,26,9] ?_;refine G e1 ?_;refine G e2 ?_;refine G e3 ?_;refine ap e4 ?_;refine bU 22 [27,28,29,30,31,32,33,34,35,36,37,38,39,40,41,42,43,44,45,46,47,48] ?_;refine G h6 ?_;refine G cr ?_;refine ap sr ?_;refine H ?_;exact bW O O (by rw[<-hF,<-hall])
  .rcases Classical.em (A+B*(x.x:Rat)<0) with hd2|hd2
   .rw[vi hd2]at e4;rcases Classical.em (lV x z t=0) with hz|hz
    .rw[nC hz]at sl;have hbad:ok=true:=by rw[hbd,decide_eq_true];rintro(⟨h,_⟩|⟨_,h⟩);exact hd h;exact h hz
     rw[hbad,Bool.true_and]at hall;refine aJ hx ?_;refine bU 11 [17,18,19,20,21,22,23,24,25,26,9] ?_;refine G e1 ?_;refine G e2 ?_;refine G e3 ?_;refine ap e4 ?_;refine bU 22 [27,28,29,30,31,32,33,34,35,36,37,38,39,40,41,42,43,44,45,46,47,48] ?_;refine G h7 ?_;refine G cl ?_;refine ap sl ?_;refine H ?_;exact⟨i+1,⟨J,hall⟩,J,O,O,O,O,congrArg I hw,O,O,trivial⟩
    .have hbad:ok=false:=by rw[hbd,decide_eq_false];exact fun h=>h (.inr ⟨hd2,hz⟩)
     rw[hbad,Bool.false_and]at hall;rcases Aa hz with hs|hs
     .rw[hs]at sl;refine aJ hx ?_;refine bU 11 [17,18,19,20,21,22,23,24,25,26,9] ?_;refine G e1 ?_;refine G e2 ?_;refine G e3 ?_;refine ap e4 ?_;refine bU 22 [27,28,29,30,31,32,33,34,35,36,37,38,39,40,41,42,43,44,45,46,47,48] ?_;refine G h7 ?_;refine G cl ?_;refine ap sl ?_;refine H ?_;exact bW O O (by rw[<-hF,<-hall])
     .rw[hs]at sl;refine aJ hx ?_;refine bU 11 [17,18,19,20,21,22,23,24,25,26,9] ?_;refine G e1 ?_;refine G e2 ?_;refine G e3 ?_;refine ap e4 ?_;refine bU 22 [27,28,29,30,31,32,33,34,35,36,37,38,39,40,41,42,43,44,45,46,47,48] ?_;refine G h7 ?_;refine G cl ?_;refine ap sl ?_;refine H ?_;exact bW O O (by rw[<-hF,<-hall])
   .rw[nC (show A+B*(x.x:Rat)=0 by grind)]at e4;have hbad:ok=true:=by rw[hbd,decide_eq_true];rintro(⟨h,_⟩|⟨h,_⟩);exact hd h;exact hd2 h
    rw[hbad,Bool.true_and]at hall;refine aJ hx ?_;refine bU 11 [17,18,19,20,21,22,23,24,25,26,9] ?_;refine G e1 ?_;refine G e2 ?_;refine G e3 ?_;refine ap e4 ?_;refine bU 22 [27,28,29,30,31,32,33,34,35,36,37,38,39,40,41,42,43,44,45,46,47,48] ?_;refine H ?_;exact⟨i+1,⟨J,hall⟩,J,O,O,O,O,congrArg I hw,O,O,trivial⟩
 .have hie:i=l.length:=by have:=aF h;omega
  clear h;rw[hie,List.drop_length,List.all_nil]at hall;rw[<-hall]at hF;subst hF;exact fE
theorem tF (b:BR)(hb:b.Ok)(a:AR){z t:Rat}{n m:Nat}[ha:Va a z t n m](hn:n+m<=50000)(r:AR){A B:Rat}{n' m':Nat}(hr:Va r A B n' m')(h2:n'<=100000)(h3:m'<=100000):Ret Tryz.prog .shared 209 [.agg (eA r),.dref (eB b) 0,.dref (eA a) 0] (.bool (ic b.l z t A B)):=by
 have h1:=yI b hb a (z:=z) (t:=t) hn r hr h2 h3;generalize ic b.l z t A B=F at *
 refine Ret.of_pwp layOk mixed Go.Proofs.Tryz.func209 O Y O O ?_;refine ap h1 ?_;exact fE
def mZ (p:AR->Bool):List AR->Nat->Int
 |[],_ => -1
 |d::l,i=>if p d=true then(i:Int) else mZ p l (i+1)
theorem ry (p:AR->Bool):∀(l:List AR) (i:Nat),decide (0<=mZ p l i)=l.any p
 |[],i=>rfl
 |d::l,i=>by
  rw[mZ,List.any_cons];cases h:p d
  .rw[if_neg Y,ry p l (i+1),Bool.false_or]
  .rw[if_pos O,Bool.true_or,decide_eq_true];omega
theorem wu (p:AR->Bool){l:List AR}{i:Nat}{x:AR}(h:l[i]? = some x):mZ p (l.drop i) i=if p x=true then(i:Int) else mZ p (l.drop (i+1)) (i+1):=by
 obtain⟨hl,rfl⟩:=be h;rw[List.drop_eq_getElem_cons hl,mZ]
set_option maxRecDepth 20000 in
theorem tC (T:List AR)(hT:T.length<=1000)(f:FuncId)(c1 c2:List PV)(p:AR->Bool)(hg:∀d∈T,Ret Tryz.prog .shared f [.agg (eA d),.dref c1 0,.dref c2 0] (.bool (p d))):Ret Tryz.prog .shared 257 [.sl (T.map eA),.clo f [.dref c1 0,.dref c2 0]] (I (mZ p T 0)):=by
 have hml:(T.map eA).length=T.length:=ah;generalize hF:mZ p T 0=F;refine Ret.of_pwp layOk mixed Go.Proofs.Tryz.func257 O Y O O ?_;refine H ?_;refine am (fun i:Nat=>i<=T.length/\mZ p (T.drop i) i=F) (fun i=>[(0,.sl (T.map eA)),(1,.clo f [.dref c1 0,.dref c2 0]),(7,I T.length),(8,I (i:Nat))])
  (fun _=>[]) (fun i=>T.length-i) 0 ⟨Nat.zero_le _,by rw[List.drop_zero];exact hF⟩ ⟨O,O,by rw[<-hml];rfl,O,trivial⟩ ?_
 intro i s ⟨hi,hall⟩;refine D ?_ ?_<;>intro h
 .have hlt:i<T.length:=by have:=ax h;omega
  clear h;obtain⟨x,hx⟩:=aG hlt;have hgx:=hg x (aZ hx);have hw:=c_ i;rw[wu p hx]at hall;cases hp:p x with
  |true =>
   rw[hp]at hgx;rw[if_pos hp]at hall;refine aJ hx ?_;refine ap hgx ?_;refine H ?_;exact ke O O (by rw[<-hall])
  |false =>
   rw[hp]at hgx;rw[if_neg (by rw[hp];decide)]at hall;refine aJ hx ?_;refine ap hgx ?_;refine H ?_;exact⟨i+1,⟨J,hall⟩,J,O,O,O,congrArg I hw,trivial⟩
 .have hie:i=T.length:=by have:=aF h;omega
  clear h;rw[hie,List.drop_length,mZ]at hall;rw[<-hall];exact bm
theorem nX (T:List AR)(hT:T.length<=1000)(f:FuncId)(c1 c2:List PV)(p:AR->Bool)(hg:∀d∈T,Ret Tryz.prog .shared f [.agg (eA d),.dref c1 0,.dref c2 0] (.bool (p d))):Ret Tryz.prog .shared 208 [.sl (T.map eA),.clo f [.dref c1 0,.dref c2 0]] (.bool (T.any p)):=by
 have h1:=tC T hT f c1 c2 p hg;rw[<-ry p T 0];generalize mZ p T 0=F at *
 refine Ret.of_pwp layOk mixed Go.Proofs.Tryz.func208 O Y O O ?_;refine ap h1 ?_;exact fE
set_option maxRecDepth 20000 in
theorem ut {K:St->Prop}{s:St}{d g2 g3:Nat}{R2 R3:Cont}{x:Operand}{tys:Array TypeId}{ty:TypeId}{pos:String}{af:Array Edge}(l:List SR)(hl:jm l)(h12:l.length<=1000)(hck:cg l=0)
  (hx:s.ev x = .sl (l.map eS)) (ho:FitO s [(2,g2,R2),(1003,g3,R3)])
  (hK:∀(s1:St) (g:Nat),K (({ reg:=s.reg,own:=(s1.over [] [(2,g2,R2),(1003,g3,R3),(3,g,⟨71,8,(el l).map eA,1⟩)]).own }:St).putR d (.als 3 g 0 ((el l).map eA).length))) :
  Sm Tryz.prog lay.get s ⟨some d,.call ⟨.value (.func 201),#[x],tys⟩,ty,pos,af,none⟩ K:=by
 have hp:=nj l hl h12;have hrg:∀x∈bP l,-1000000<=x/\x<=1000000:=fun x hx=>fL hck hx;have hpl:=gT l;have w1:=bx 1 ⟨Y,Y⟩;have w2:=bx (-1) ⟨Y,Y⟩;rw[el]at hK;generalize bP l=Pl at *
 have hml:(Pl.map eN).length=Pl.length:=ah;have hrows:∀(k:Nat) x,Pl[k]? = some x->((Pl.take (k+1)).map qJ).map eA=((Pl.take k).map qJ).map eA++[eA (qJ x)]:=fun k x hx=>by rw[bk hx,List.map_append,List.map_append];rfl
 have hrows2:∀(k:Nat) x,Pl[k]? = some x->(Pl.map qJ++(Pl.take (k+1)).map yx).map eA=(Pl.map qJ++(Pl.take k).map yx).map eA++[eA (yx x)]:=fun k x hx=>by rw[bk hx];simp[List.map_append]
 refine cG layOk O O Tryz.func201 O Y O O ?_;show PWP _ _ _ _ (bQ s (([x]:List Operand).map s.ev++[]));rw[show(([x]:List Operand).map s.ev++([]:List PV))=[.sl (l.map eS)] by simp[hx]];rw[show bQ s [.sl (l.map eS)]=bQ (s.over [] [(2,g2,R2),(1003,g3,R3)]) [.sl (l.map eS)] by rw[Fit.over (l:=[]) ho]]
 ((repeat (first|refine aT ?_ | refine ci ?_ | refine b9 ?_ | refine cd ?_));refine bg ?_)
 refine gV O trivial ?_
 ((repeat (first|refine aT ?_ | refine ci ?_ | refine b9 ?_ | refine cd ?_));refine bg ?_)
 (first|refine aE (gR 71 8 1 O O ?_)|refine aE (gQ 71 8 1 O O ?_))
 refine G hp ?_;refine H ?_;refine bq [(0,.sl (l.map eS)),(3,.als 3 ((s.own 3).1+1) 0 0),(9,.sl (Pl.map eN)),(10,I (Pl.map eN).length),(11,I ((0:Nat):Int))] [(2,g2,R2),(1003,g3,R3),(3,(s.own 3).1+1,⟨71,8,[],1⟩)] ⟨O,O,O,O,O,O,O,O,trivial⟩ ?_;generalize (s.own 3).1+1=g;rw[hml];intro s0;refine am (fun k=>k<=Pl.length) (fun k=>[(0,.sl (l.map eS)),(3,.als 3 (g+k) 0 (((Pl.take k).map qJ).map eA).length),(9,.sl (Pl.map eN)),(10,I Pl.length),(11,I k)]) (fun k=>[(2,g2,R2),(1003,g3,R3),(3,g+k,⟨71,8,((Pl.take k).map qJ).map eA,1⟩)]) (fun k=>Pl.length-k) 0 (Nat.zero_le _) ⟨O,O,O,O,O,O,O,O,trivial⟩ ?_;intro k s1 hk;refine D ?_ ?_<;>intro h
 .have hlt:k<Pl.length:=by have:=ax h;omega
  clear h;obtain⟨x,hx⟩:=aG hlt;have hr:=hrg x (aZ hx);have hnx:=bx (-x) ⟨J,J⟩;have hw:=c_ k;have hn:IntKind.i64.wrap (0-x) = -x:=by rw[wrap_i64 J J];omega
  refine aJ hx ?_;refine H ?_;rw[hn];refine nT O O O hnx O O ?_;refine G w1 ?_;refine H ?_;refine aE (aS 1 O O O O O O O O O O O aI O ?_);refine H ?_;refine aE (bi 1 O O O O O O O O O O O aI (by intro row hr;first|(simp at hr;subst hr;rfl)|simp at hr) O O aK aK ?_);refine H ?_;refine⟨k+1,hlt,J,O,?_,O,O,congrArg I hw,O,O,?_,trivial⟩
  .rw[hrows k x hx];rfl
  .rw[hrows k x hx];rfl
 .have hge:k=Pl.length:=by have:=aF h;omega
  subst hge;clear h;rw[List.take_length];refine G hp ?_;refine H ?_;refine am (fun k=>k<=Pl.length) (fun k=>[(3,.als 3 (g+Pl.length+k) 0 ((Pl.map qJ++(Pl.take k).map yx).map eA).length),(25,.sl (Pl.map eN)),(26,I Pl.length),(27,I k)]) (fun k=>[(2,g2,R2),(1003,g3,R3),(3,g+Pl.length+k,⟨71,8,(Pl.map qJ++(Pl.take k).map yx).map eA,1⟩)]) (fun k=>Pl.length-k) 0 (Nat.zero_le _) ⟨by rw[List.take_zero,List.map_nil,List.append_nil];rfl,O,by rw[<-hml];rfl,O,O,O,by rw[List.take_zero,List.map_nil,List.append_nil];rfl,trivial⟩ ?_;intro k s2 hk;refine D ?_ ?_<;>intro h
  .have hlt:k<Pl.length:=by have:=ax h;omega
   clear h;obtain⟨x,hx⟩:=aG hlt;have hr:=hrg x (aZ hx);have hnx:=bx x ⟨J,J⟩;have hw:=c_ k;refine aJ hx ?_;refine G hnx ?_;refine G w2 ?_;refine H ?_;refine aE (aS 1 O O O O O O O O O O O aI O ?_);refine H ?_;refine aE (bi 1 O O O O O O O O O O O aI (by intro row hr;first|(simp at hr;subst hr;rfl)|simp at hr) O O aK aK ?_);refine H ?_;refine⟨k+1,hlt,J,?_,O,O,congrArg I hw,O,O,?_,trivial⟩
   .rw[hrows2 k x hx];rfl
   .rw[hrows2 k x hx];rfl
  .have hge:k=Pl.length:=by have:=aF h;omega
   subst hge;clear h;rw[List.take_length];refine H ?_;exact pW O O (hK s2 (g+Pl.length+Pl.length))
def CB:AR:=⟨ofQ ((-1:Int):Rat),ofQ ((0:Int):Rat)⟩
def ir (l:List SR):List AR:=el l++[gi,CB]
def k8 (b:BR)(z t:Rat):Bool:=(ir b.l).any fun d=>ic b.l z t d.z.val d.t.val
theorem A7 {l:List SR}(hck:cg l=0){r:AR}(h:r∈ir l):Va r r.z.val r.t.val 4 4:=by
 rw[ir,List.mem_append]at h;rcases h with h|h
 .exact vF hck h
 .simp at h;rcases h with rfl|rfl
  .exact uK
  .exact⟨vI ⟨Y,Y⟩,vI ⟨Y,Y⟩⟩
theorem B4 {r1 r2:List PV}{n:Nat}(h1:r1.length=n)(h2:r2.length=n):∀row∈[r1,r2],row.length=n:=by
 intro row hr;rcases List.mem_cons.1 hr with rfl|hr
 .exact h1
 .rcases List.mem_cons.1 hr with rfl|hr
  .exact h2
  .cases hr
set_option maxRecDepth 20000 in
theorem wL (b:BR)(hb:b.Ok)(a:AR){z t:Rat}{n m:Nat}[ha:Va a z t n m](hn:n+m<=50000):Ret Tryz.prog .shared 143 [.agg (eB b),.agg (eA a)] (.bool (k8 b z t)):=by
 have hl:=hb.lim.l;have hck:=hb.chkL;have h12:=hb.few.1;have hlen:(ir b.l).length<=1000:=by
  have:=gT b.l;rw[ir,el];simp;omega
 have hc:=nX (ir b.l) hlen 209 (eB b) (eA a) (fun d=>ic b.l z t d.z.val d.t.val) fun d hd=>tF b hb a (z:=z) (t:=t) hn d (A7 hck hd) Y Y;rw[show(ir b.l).any (fun d=>ic b.l z t d.z.val d.t.val)=k8 b z t from O]at hc;have w1:=bx 1 ⟨Y,Y⟩;have w0:=bx 0 ⟨Y,Y⟩;have w2:=bx (-1) ⟨Y,Y⟩;generalize k8 b z t=F at *
 have hT:(el b.l).length<=1000:=by rw[ir]at hlen;simp at hlen;omega
 have hrow:(el b.l).map eA++[eA gi,eA CB]=(ir b.l).map eA:=by rw[ir,List.map_append];rfl
 refine Ret.of_pwp layOk mixed Go.Proofs.Tryz.func143 O Y O O ?_
 (repeat ((fail_if_success (with_reducible refine aR 1 ?_));refine cu O ?_))
 refine ar (Ghost.move (k:=3) (k':=1003) (t:=3) O O O O) ?_
 ((repeat ((fail_if_success (with_reducible refine aR 1 ?_));refine cu O ?_));refine aN 2 ?_)
 iterate 2 refine eg O ?_
 refine aT ?_;refine bc O (ut (g2:=1) (g3:=1) b.l hl J hck O ⟨O,O,trivial⟩ fun s1 g=>?_);refine aQ ?_;refine G w1 ?_;refine G w0 ?_;refine G w2 ?_;refine G w0 ?_;refine H ?_;refine aE (aS 1 O O O O O O O O O O O aI O ?_);refine H ?_;refine aE (bi 1 O O O O O O O O O O O aI (B4 O O) O O aK aK ?_)
 (repeat ((fail_if_success (with_reducible refine aR 2 ?_));refine cu O ?_))
 refine ar (Ghost.data (k:=2) (t:=2) O O O O) ?_;refine ar (Ghost.data (k:=1003) (t:=3) O O O O) ?_;refine H ?_;rw[<-hrow]at hc;refine DU O O O hc O O O ?_;exact fE
theorem Ej (s:SR)(t:Rat)(k:Nat):prB (bn s t k)=(s.k.s k-(s.c.val+t*(s.x:Rat)),s.k.m k-bE s.k.m k):=by
 rw[prB,bn,ofQ_val,ofQ_val];rfl
theorem CX (b:BR)(t:Rat):(lO b.l t).map prB=(bd b).bnds t:=by
 rw[lO,Bd.bnds,List.map_flatMap];show _=(List.range b.l.length).flatMap ((bd b).bnd1 t);have e:∀s:SR,(jb t s).map prB=(List.range s.k.S.length).map fun k=>(s.k.s k-(s.c.val+t*(s.x:Rat)),s.k.m k-bE s.k.m k):=by
  intro s;rw[jb,List.map_map];exact List.map_congr_left fun k _=>Ej s t k
 have key:∀(l:List SR),(l.flatMap fun s=>(jb t s).map prB)=(List.range l.length).flatMap fun i=>(jb t (l.getD i dS)).map prB:=by
  intro l
  induction l with
  |nil=>rfl
  |cons x l ih =>
   rw[List.flatMap_cons,ih,List.length_cons,List.range_succ_eq_map,List.flatMap_cons,List.flatMap_map];rfl
 rw[key];refine congrArg (fun f=>(List.range b.l.length).flatMap f) (funext fun i=>?_);rw[e];rfl
theorem po {b:BR}(hb:b.Ok){t:Rat}(hex:∃z,(bd b).w<=(bd b).F z t):(bd b).Least (fA b t) t:=by
 refine Bd.settled_least (ol hb) hex ?_ ?_
 .rw[<-CX];exact(gY ja (lO b.l t)).map prB
 .rw[ye,List.pairwise_map];exact qD ja (lO b.l t)
theorem jV {b:BR}(hb:b.Ok){t:Rat}(hex:∃z,(bd b).w<=(bd b).F z t):fA b t=(bd b).sg t:=(Bd.sg_eq (po hb hex)).symm
theorem yP {b:BR}(z t:Rat):(bd b).Inl ((bd b).pL z t) z t:=fun i hi=>zm
theorem At {b:BR}(hb:b.Ok){t:Rat}{m:Nat}(ht:HQ t m)(hex:∃z,(bd b).w<=(bd b).F z t):HQ (fA b t) (m+5000):=by
 have hl:=po hb hex;have hK:=hl.K (ol hb) (yP _ _);have hz:=Bd.ln_at (ol hb) hl.1 (yP (b:=b) (fA b t) t).c hK;rw[hz,Bd.ln];have hw:Zb b.w:=aM hb.lim.w.1 hb.lim.w.2;have wq:HQ ((bd b).w) 4:=HQ.int;have hpn:∀i,i<b.l.length->(bd b).pL (fA b t) t i<=(bd b).n i:=fun i hi=>(yP (b:=b) (fA b t) t i hi).1;have fo:=Cg hb hpn;have kc:=x6 hb ((bd b).pL (fA b t) t);have kh:=x7 hb ((bd b).pL (fA b t) t);exact(@HQ.div _ _ _ 300 (@HQ.sub _ _ _ _ (@HQ.sub _ _ 4 4100 wq fo) (@HQ.mul _ _ 300 m kc ht)) kh).mono J
theorem Au {b:BR}(hb:b.Ok){t:Rat}{m:Nat}(ht:HQ t m)(hex:∃z,(bd b).w<=(bd b).F z t):Va ⟨ofQ (fA b t),ofQ t⟩ (fA b t) t (m+5000) m:=⟨Vq.ofQ (h:=At hb ht hex),Vq.ofQ (h:=ht)⟩
theorem rl {b:BR}(hb:b.Ok){t:Rat}{m:Nat}(ht:HQ t m)(hm:m<=20000)(hex:∃z,(bd b).w<=(bd b).F z t):Ret Tryz.prog .shared 203 [.agg (eB b),.agg (eA ⟨ofQ (fA b t),ofQ t⟩)] (.agg (eR (ofQ ((bd b).E t)))):=by
 have:=mQ b hb ⟨ofQ (fA b t),ofQ t⟩ (ha:=Au hb ht hex) J;rwa [show(bd b).e (fA b t) t=(bd b).E t by rw[Bd.E,jV hb hex]]at this
theorem xt {b:BR}(hb:b.Ok){t:Rat}{m:Nat}(ht:HQ t m)(hm:m<=20000)(hex:∃z,(bd b).w<=(bd b).F z t):Ret Tryz.prog .shared 202 [.agg (eR (ofQ ((bd b).E t)))] (I (sgn ((bd b).E t))):=by
 have h1:=C8 hb (At hb ht hex) ht;rw[show(bd b).e (fA b t) t=(bd b).E t by rw[Bd.E,jV hb hex]]at h1;exact nE (ofQ ((bd b).E t)) (hx:=Vq.ofQ (h:=h1)) J
theorem mU {b:BR}(hb:b.Ok){t:Rat}{m:Nat}(ht:HQ t m)(hm:m<=20000)(hex:∃z,(bd b).w<=(bd b).F z t):Ret Tryz.prog .shared 206 [.agg (eB b),.agg (eA ⟨ofQ (fA b t),ofQ t⟩)] (Cr ((bd b).guess ((bd b).sg t) t)):=by
 have:=wt b hb ⟨ofQ (fA b t),ofQ t⟩ (ha:=Au hb ht hex) J;rwa [<-jV hb hex]
def p2 (k:Nat):Rat:=((2^k:Nat):Int)
theorem ml (k:Nat):p2 (k+1)=p2 k+p2 k:=by
 rw[p2,p2,Nat.pow_succ,show((2^k*2:Nat):Int)=((2^k:Nat):Int)+((2^k:Nat):Int) by omega]
 push_cast
 rfl
theorem zk {k:Nat}:HQ (p2 k) (k/16+1):=by
 refine⟨jC ?_ J⟩;rw[Int.natAbs_natCast,show(65536:Nat)=2^16 by decide,<-Nat.pow_mul];exact Nat.pow_lt_pow_right Y J
theorem A4 {b:Bd}{n:Nat}{w:Rat}:b.dbl (-1) (n+1) w=if 0<b.E (-w) then b.dbl (-1) n (w+w) else some w:=by
 rw[Bd.dbl];have e:(-1:Rat)*w = -w:=cH;rw[e];by_cases h:0<b.E (-w)
 .rw[if_pos h,if_pos cH]
 .rw[if_neg h,if_neg cH]
theorem A5 {b:Bd}{n:Nat}{w:Rat}:b.dbl 1 (n+1) w=if b.E w<0 then b.dbl 1 n (w+w) else some w:=by
 rw[Bd.dbl];have e:(1:Rat)*w=w:=cH;rw[e];by_cases h:b.E w<0
 .rw[if_pos h,if_pos cH]
 .rw[if_neg h,if_neg cH]
def Dy (N j:Nat)(t:Rat):Prop:=∃a:Int,t=(a:Rat)/((2^j:Nat):Int)/\a.natAbs<=2^(j+N)
theorem AH (j:Nat):(((2^j:Nat):Int))≠0:=by have:=Nat.two_pow_pos j;omega
theorem Dy.hq {N j:Nat}{t:Rat}(h:Dy N j t):HQ t ((j+N)/16+1):=by
 obtain⟨a,rfl,ha⟩:=h;have key:2^(j+N)<65536^((j+N)/16+1):=by
  rw[show(65536:Nat)=2^16 by decide,<-Nat.pow_mul];exact Nat.pow_lt_pow_right Y J
 have h2:2^j<=2^(j+N):=Nat.pow_le_pow_right Y J;exact⟨k5 (AH j) J (by rw[Int.natAbs_natCast];omega)⟩
theorem Dy.mid {N j:Nat}{lo hi:Rat}(h1:Dy N j lo)(h2:Dy N j hi):Dy N (j+1) ((lo+hi)/2):=by
 obtain⟨a,rfl,ha⟩:=h1;obtain⟨c,rfl,hc⟩:=h2;refine⟨a+c,?_,?_⟩
 .have e:(((2^(j+1):Nat):Int):Rat)=2*(((2^j:Nat):Int):Rat):=by
   rw[Nat.pow_succ,show((2^j*2:Nat):Int)=2*((2^j:Nat):Int) by omega];push_cast;rfl
  have hn:(((2^j:Nat):Int):Rat)≠0:=by have:=AH j;exact_mod_cast this
  rw[e]
  push_cast
  generalize (((2^j:Nat):Int):Rat)=D0 at *
  grind
 .rw[show j+1+N=(j+N)+1 by omega,Nat.pow_succ];omega
theorem Dy.up {N j:Nat}{t:Rat}(h:Dy N j t):Dy N (j+1) t:=by
 have:=Dy.mid h h;rwa [show(t+t)/2=t by grind]at this
noncomputable def f3 (b:Bd):List Rat->Option (Rat × Rat)
 |[]=>none
 |t::r=>match b.at1 t with
  |some x=>some x
  |none=>f3 b r
theorem Be (b:Bd)(lo hi:Rat):b.fst3 lo hi=f3 b [0,lo,hi]:=by
 rw[Bd.fst3,f3,f3,f3,f3];cases b.at1 0<;>cases b.at1 lo<;>cases b.at1 hi<;>rfl
set_option maxRecDepth 20000 in
theorem wi (b:BR)(hb:b.Ok)(h40:∀t,(lO b.l t).length<=40)(hS:∀t,SortC (lO b.l t))(hex:∀t,∃z,(bd b).w<=(bd b).F z t){N:Nat}(hN:N<=150000){x:Rat × Rat}(hx:(bd b).eqQ N=some x):Ret Tryz.prog .shared 142 [.agg (eB b)] (.agg (eA ⟨ofQ x.1,ofQ x.2⟩)):=by
 have w1:=bx 1 ⟨Y,Y⟩;have wm:=bx (-1) ⟨Y,Y⟩;rw[show(((1:Int):Int):Rat)=p2 0 from O]at w1;rw[show(((-1:Int):Int):Rat) = -p2 0 by rw[show p2 0=1 from O];rfl]at wm;rw[Bd.eqQ]at hx;obtain⟨Wl,hWl⟩:∃W,(bd b).dbl (-1) N 1=some W:=by
  cases h:(bd b).dbl (-1) N 1 with
  |none=>rw[h]at hx;cases hx
  |some W=>exact⟨W,rfl⟩
 obtain⟨Wh,hWh⟩:∃W,(bd b).dbl 1 N 1=some W:=by
  cases h:(bd b).dbl 1 N 1 with
  |none=>rw[hWl,h]at hx;cases hx
  |some W=>exact⟨W,rfl⟩
 rw[hWl,hWh]at hx;simp only at hx;have row:∀(t:Rat) (m:Nat),HQ t m->m<=20000->Ret Tryz.prog .shared 204 [.agg (eB b),.agg (eR (ofQ t))] (.agg (eA ⟨ofQ (fA b t),ofQ t⟩))/\Ret Tryz.prog .shared 203 [.agg (eB b),.agg (eA ⟨ofQ (fA b t),ofQ t⟩)] (.agg (eR (ofQ ((bd b).E t))))/\Ret Tryz.prog .shared 202 [.agg (eR (ofQ ((bd b).E t)))] (I (sgn ((bd b).E t))):=fun t m ht hm =>
  ⟨sI b hb (h40 t) (hS t) (ofQ t) (ht:=Vq.ofQ (h:=ht)) J,rl hb ht hm (hex t),xt hb ht hm (hex t)⟩
 refine Ret.of_pwp layOk mixed Go.Proofs.Tryz.func142 O Y O O ?_;refine G w1 ?_;refine G wm ?_;refine G w1 ?_;refine H ?_;refine am (fun k:Nat=>k<N/\(bd b).dbl (-1) (N-k) (p2 k)=some Wl) (fun k=>[(1,.ptr 1 1 0 0),(2,.ptr 2 1 0 0),(3,.ptr 3 1 0 0),(4,.ptr 4 1 0 0),(5,.ptr 5 1 0 0)])
  (fun k=>[(1,1,⟨158,6,[eB b],2⟩),(2,1,⟨45,8,[zN++zN],2⟩),(3,1,⟨42,4,[eR (ofQ (p2 k))],2⟩),(4,1,⟨42,4,[eR (ofQ (-p2 k))],2⟩),(5,1,⟨42,4,[eR (ofQ (p2 0))],2⟩)]) (fun k=>N-k) 0
  ⟨by
   rcases Nat.eq_zero_or_pos N with h|h;· subst h;cases hWl
   exact h,hWl⟩ ⟨O,O,O,O,O,O,O,O,O,O,trivial⟩ ?_
 intro k s ⟨hk,hd⟩;obtain⟨j,hj⟩:∃j,N-k=j+1:=⟨N-k-1,J⟩;rw[hj,A4]at hd;have hq:HQ (p2 k) 10000:=zk.mono J;have hqn:HQ (-p2 k) 10000:=@HQ.neg _ _ hq;obtain⟨r1,r2,r3⟩:=row (-p2 k) 10000 hqn Y;have hsg:=gX ((bd b).E (-p2 k));have n1:=di (ofQ (p2 k)) (ofQ (p2 k)) (hx:=Vq.ofQ (h:=hq)) (hy:=Vq.ofQ (h:=hq)) Y Y;rw[<-ml]at n1;have hq1:HQ (p2 (k+1)) 10000:=zk.mono J;have n2:=EF (ofQ (p2 (k+1))) (hx:=Vq.ofQ (h:=hq1)) Y;rw[<-ml]at hd;refine bU 7 [19,20,21,22,23,24,25] ?_;refine G r1 ?_;refine G r2 ?_;refine ap r3 ?_;refine D ?_ ?_<;>intro h
 .have h1:=hsg.1 (ax h);clear h;rw[if_pos h1]at hd;refine G n1 ?_;refine G n2 ?_;refine H ?_;have hk1:k+1<N:=by
   rcases Nat.lt_or_ge (k+1) N with h|h
   .exact h
   .rw[show j=0 by omega]at hd;cases hd
  have hd1:(bd b).dbl (-1) (N-(k+1)) (p2 (k+1))=some Wl:=by rw[show N-(k+1)=j by omega];exact hd
  exact⟨k+1,⟨hk1,hd1⟩,J,O,O,O,O,O,O,O,O,O,O,trivial⟩
 .have h1:¬0<(bd b).E (-p2 k):=fun h2=>(aF h) (hsg.2 h2);clear h;rw[if_neg h1]at hd;cases hd;clear hWl hj r1 r2 r3 hsg n1 n2 hq1;refine G w1 ?_;refine H ?_;refine am (fun k':Nat=>k'<N/\(bd b).dbl 1 (N-k') (p2 k')=some Wh) (fun k'=>[(1,.ptr 1 1 0 0),(2,.ptr 2 1 0 0),(3,.ptr 3 1 0 0),(4,.ptr 4 1 0 0),(5,.ptr 5 1 0 0)])
   (fun k'=>[(1,1,⟨158,6,[eB b],2⟩),(2,1,⟨45,8,[zN++zN],2⟩),(3,1,⟨42,4,[eR (ofQ (p2 k'))],2⟩),(4,1,⟨42,4,[eR (ofQ (-p2 k))],2⟩),(5,1,⟨42,4,[eR (ofQ (p2 k'))],2⟩)]) (fun k'=>N-k') 0
   ⟨J,hWh⟩ ⟨O,O,O,O,O,O,O,O,O,O,trivial⟩ ?_
  intro q s2 ⟨hk',hd⟩;obtain⟨j,hj⟩:∃j,N-q=j+1:=⟨N-q-1,J⟩;rw[hj,A5]at hd;have hqq:HQ (p2 q) 10000:=zk.mono J;obtain⟨r1,r2,r3⟩:=row (p2 q) 10000 hqq Y;have hsg:=f_ ((bd b).E (p2 q));have n1:=di (ofQ (p2 q)) (ofQ (p2 q)) (hx:=Vq.ofQ (h:=hqq)) (hy:=Vq.ofQ (h:=hqq)) Y Y;rw[<-ml]at n1;rw[<-ml]at hd;refine bU 7 [32,33,34,35,36,37,38] ?_;refine G r1 ?_;refine G r2 ?_;refine ap r3 ?_;refine D ?_ ?_<;>intro h
  .have h1:=hsg.1 (ax h);clear h;rw[if_pos h1]at hd;refine G n1 ?_;refine H ?_;have hk1:q+1<N:=by
    rcases Nat.lt_or_ge (q+1) N with h|h
    .exact h
    .rw[show j=0 by omega]at hd;cases hd
   have hd1:(bd b).dbl 1 (N-(q+1)) (p2 (q+1))=some Wh:=by rw[show N-(q+1)=j by omega];exact hd
   exact⟨q+1,⟨hk1,hd1⟩,J,O,O,O,O,O,O,O,O,O,O,trivial⟩
  .have h1:¬(bd b).E (p2 q)<0:=fun h2=>(aF h) (hsg.2 h2);clear h;rw[if_neg h1]at hd;cases hd;clear hWh hj r1 r2 r3 hsg n1;have w0:=bx 0 ⟨Y,Y⟩;rw[show(((0:Int)):Rat)=0 from O]at w0;rw[Be]at hx;have hL:∀t∈[0,-p2 k,p2 q],HQ t 10000:=by
    intro t ht;simp at ht;rcases ht with rfl|rfl|rfl
    .exact HQ.zero.mono Y
    .exact hqn
    .exact hqq
   refine H ?_;refine bj [46] [3,4] br ?_;refine G w0 ?_;refine H ?_;refine i8 O O O (aS 1 O O O O O O O O O O O aI O ⟨dj O,?_⟩);refine H ?_;have hrows:([0,-p2 k,p2 q]:List Rat).map (fun t=>eR (ofQ t))=[eR (ofQ 0),eR (ofQ (-p2 k)),eR (ofQ (p2 q))]:=O;refine bq [(1,.ptr 1 1 0 0),(2,.ptr 2 1 0 0),(4,.ptr 4 1 0 0),(5,.ptr 5 1 0 0),(46,.als 46 ((s2.own 46).1+1) 0 3),(47,I 3),(48,I ((0:Nat):Int))]
    [(1,1,⟨158,6,[eB b],2⟩),(2,1,⟨45,8,[zN++zN],2⟩),(4,1,⟨42,4,[eR (ofQ (-p2 k))],2⟩),(5,1,⟨42,4,[eR (ofQ (p2 q))],2⟩),(46,(s2.own 46).1+1,⟨42,4,[eR (ofQ 0),eR (ofQ (-p2 k)),eR (ofQ (p2 q))],1⟩)]
    ⟨O,O,O,O,O,O,O,O,O,O,O,O,trivial⟩ ?_
   generalize (s2.own 46).1+1=g;rw[<-hrows];intro s3;generalize hLL:([0,-p2 k,p2 q]:List Rat)=T3 at *
   have hT3:T3.length=3:=by rw[<-hLL];rfl
   refine am (fun i:Nat=>i<=3/\(match f3 (bd b) (T3.drop i) with|some x=>some x|none=>(bd b).bis N (-p2 k) (p2 q))=some x) (fun i=>[(1,.ptr 1 1 0 0),(2,.ptr 2 1 0 0),(4,.ptr 4 1 0 0),(5,.ptr 5 1 0 0),(46,.als 46 g 0 3),(47,I 3),(48,I (i:Nat))])
    (fun i=>[(1,1,⟨158,6,[eB b],2⟩),(2,1,⟨45,8,[zN++zN],2⟩),(4,1,⟨42,4,[eR (ofQ (-p2 k))],2⟩),(5,1,⟨42,4,[eR (ofQ (p2 q))],2⟩),(46,g,⟨42,4,T3.map (fun t=>eR (ofQ t)),1⟩)]) (fun i=>3-i) 0
    ⟨Nat.zero_le _,hx⟩ ⟨O,O,O,O,O,O,O,O,O,O,O,O,trivial⟩ ?_
   intro i s4 ⟨hi,hF⟩;refine D ?_ ?_<;>intro h
   .have hlt:i<3:=by have:=ax h;omega
    clear h;obtain⟨t,ht⟩:=aG (show i<T3.length by omega);have hrow:(T3.map (fun t=>eR (ofQ t)))[i]? = some (eR (ofQ t)):=by rw[List.getElem?_map,ht];rfl
    have htq:=hL t (aZ ht);have hw:=c_ i;obtain⟨r1,r2,r3⟩:=row t 10000 htq Y;have hgs:=mU hb htq Y (hex t);have hdr:f3 (bd b) (T3.drop i)=match (bd b).at1 t with|some x=>some x|none=>f3 (bd b) (T3.drop (i+1)):=by
     obtain⟨hl1,h2⟩:=be ht;rw[List.drop_eq_getElem_cons hl1,h2,f3]
    rw[hdr,Bd.at1,<-jV hb (hex t)]at hF;rw[<-jV hb (hex t)]at hgs;refine H ?_;refine xX O O O O O O O O O ?_;rw[Int.toNat_natCast,Nat.zero_add i];refine bI O O (d9 O O O hrow O) ?_;refine G r1 ?_;refine G r2 ?_;refine ap r3 ?_;refine H ?_;have hs0:=f9 ((bd b).E t);refine aV O ?_ ?_<;>intro h
    .have h1:=hs0.1 (ax h);clear h;rw[if_pos h1]at hF;simp only[Option.some.injEq]at hF;subst hF;exact bL
    .have h1:¬(bd b).E t=0:=fun h2=>(aF h) (hs0.2 h2);clear h;rw[if_neg h1]at hF;cases hgg:(bd b).guess (fA b t) t with
     |none =>
      rw[hgg]at hgs hF;simp only at hF;rw[Cr]at hgs;refine G hgs ?_;refine H ?_;exact⟨i+1,⟨J,hF⟩,J,O,O,O,O,O,O,congrArg I hw,O,O,O,O,O,trivial⟩
     |some y =>
      rw[hgg]at hgs hF;simp only[Option.some.injEq]at hF;subst hF;rw[Cr]at hgs;refine G hgs ?_;exact bL
   .have hie:i=3:=by have:=aF h;omega
    clear h;rw[hie,List.drop_eq_nil_of_le J,f3]at hF;simp only at hF;have hd0:Dy N 0 (-p2 k):=⟨-((2^k:Nat):Int),by rw[p2];push_cast;grind,by rw[Int.natAbs_neg,Int.natAbs_natCast];exact Nat.pow_le_pow_right Y J⟩;have hd1:Dy N 0 (p2 q):=⟨((2^q:Nat):Int),by rw[p2];push_cast;grind,by rw[Int.natAbs_natCast];exact Nat.pow_le_pow_right Y J⟩;have w2:=bx 2 ⟨Y,Y⟩;rw[show(((2:Int)):Rat)=2 from O]at w2;have v2:Vq (ofQ 2) 2 4:=Vq.ofQ (h:=HQ.two);refine H ?_;refine am (fun u:Nat × Rat × Rat=>u.1<=N/\(bd b).bis (N-u.1) u.2.1 u.2.2=some x/\Dy N u.1 u.2.1/\Dy N u.1 u.2.2) (fun u=>[(1,.ptr 1 1 0 0),(2,.ptr 2 1 0 0),(4,.ptr 4 1 0 0),(5,.ptr 5 1 0 0)])
     (fun u=>[(1,1,⟨158,6,[eB b],2⟩),(2,1,⟨45,8,[zN++zN],2⟩),(4,1,⟨42,4,[eR (ofQ u.2.1)],2⟩),(5,1,⟨42,4,[eR (ofQ u.2.2)],2⟩)]) (fun u=>N-u.1) (0,-p2 k,p2 q)
     ⟨Nat.zero_le _,hF,hd0,hd1⟩ ⟨O,O,O,O,O,O,O,O,trivial⟩ ?_
    rintro⟨j,lo,hi⟩ s5 ⟨hj,hB,hlo,hhi⟩;simp only at hj hB hlo hhi;dsimp only;obtain⟨n,hn⟩:∃n,N-j=n+1:=by
     rcases Nat.eq_zero_or_pos (N-j) with h|h
     .rw[h]at hB;cases hB
     .exact⟨N-j-1,J⟩
    rw[hn,Bd.bis]at hB;have hm:=hlo.mid hhi;have hl2:=hlo.up;have hh2:=hhi.up;have ql:=hlo.hq;have qh:=hhi.hq;have qm:=hm.hq;have a1:=di (ofQ lo) (ofQ hi) (hx:=Vq.ofQ (h:=ql)) (hy:=Vq.ofQ (h:=qh)) J J;have vs:Vq (ofQ (lo+hi)) (lo+hi) ((j+N)/16+1+((j+N)/16+1)+1):=Vq.ofQ (h:=@HQ.add _ _ _ _ ql qh);have a2:=r5 (ofQ (lo+hi)) (ofQ 2) (hx:=vs) (hy:=v2) J Y Y;obtain⟨r1,r2,r3⟩:=row ((lo+hi)/2) _ qm J;have hgs:=mU hb qm J (hex ((lo+hi)/2));rw[Bd.at1,<-jV hb (hex ((lo+hi)/2))]at hB;rw[<-jV hb (hex ((lo+hi)/2))]at hgs;generalize (lo+hi)/2=t at *
    have hs0:=f9 ((bd b).E t);have hs1:=f_ ((bd b).E t);refine G a1 ?_;refine G w2 ?_;refine G a2 ?_;refine G r1 ?_;refine G r2 ?_;refine ap r3 ?_;refine D ?_ ?_<;>intro h
    .have h1:=hs0.1 (ax h);clear h;rw[if_pos h1]at hB;simp only[Option.some.injEq]at hB;subst hB;exact bL
    .have h1:¬(bd b).E t=0:=fun h2=>(aF h) (hs0.2 h2);clear h;rw[if_neg h1]at hB;cases hgg:(bd b).guess (fA b t) t with
     |none =>
      rw[hgg]at hgs hB;simp only at hB;rw[Cr]at hgs;refine G hgs ?_;refine D ?_ ?_<;>intro h
      .have h2:=hs1.1 (ax h);clear h;rw[if_pos h2]at hB;refine H ?_;exact⟨(j+1,t,hi),⟨by simp only;omega,by simp only;rw[show N-(j+1)=n by omega];exact hB,hm,hh2⟩,by simp only;omega,O,O,O,O,O,O,O,O,trivial⟩
      .have h2:¬(bd b).E t<0:=fun h3=>(aF h) (hs1.2 h3);clear h;rw[if_neg h2]at hB;refine H ?_;exact⟨(j+1,lo,t),⟨by simp only;omega,by simp only;rw[show N-(j+1)=n by omega];exact hB,hl2,hm⟩,by simp only;omega,O,O,O,O,O,O,O,O,trivial⟩
     |some y =>
      rw[hgg]at hgs hB;simp only[Option.some.injEq]at hB;subst hB;rw[Cr]at hgs;refine G hgs ?_;exact bL
def Ed (b:BR):Prop:=tS b gi=false/\∀r∈el b.l,tS b r=false
theorem zI {b:BR}{A B:Rat}:nr b A B=true↔jl b.l A B b.l.length/\aq (yT b.l A B) b.l.length<(b.w:Rat)*(A+B*b.a.val):=by
 rw[nr,@decide_eq_true_iff _ (Classical.propDecidable _)]
theorem zero_val:(ofQ ((0:Int):Rat)).val=0:=by rw[ofQ_val];rfl
theorem uA {b:BR}(hb:b.Ok){z t:Rat}(h:(bd b).Bal z t)(A B:Rat):nr b A B=false:=by
 cases hr:nr b A B with
 |false=>rfl
 |true =>
  obtain⟨h1,h2⟩:=zI.1 hr;have h3:=Bd.exclude (ol hb) h (A:=A) (B:=B) h1;have e:aq (yT b.l A B) b.l.length=aq (fun i=>if 0<A+B*(bd b).X i then(bd b).cap i*(A+B*(bd b).X i) else 0) (bd b).N:=O;rw[<-e]at h3;have h4:(b.w:Rat)*(A+B*b.a.val)<=aq (yT b.l A B) b.l.length:=h3;grind
theorem vU {b:BR}(hb:b.Ok){z t:Rat}(h:(bd b).Bal z t):Ed b:=⟨uA hb h _ _,fun _ _=>uA hb h _ _⟩
def FS (x:Int):SR:=⟨x,RR.zero,⟨[0],[ofQ ((2:Int):Rat)]⟩⟩
def FQ (x:Int):SR:=⟨x,RR.zero,⟨[0,10],[ofQ ((5:Int):Rat),ofQ ((0:Int):Rat)]⟩⟩
def b1:BR:=⟨40,ofQ ((25:Int):Rat),[FS 0,FS 100]⟩
def b2:BR:=⟨80,ofQ ((75:Int):Rat),[FQ 0,FQ 100]⟩
theorem jD {z:Int}(h:i64 z):(ofQ (z:Rat)).sz 12:=⟨Nat.le_trans (vI h).sz.1 Y,Nat.le_trans (vI h).sz.2 Y⟩
theorem pU (z:Int)(h:i64 z):hq (z:Rat) 4:=(@HQ.int z (aM h.1 h.2)).ok
def D_ (s:SR):Prop:=i64 s.x/\∀z∈s.k.S,i64 z
def D9 (l:List SR):Prop:=∀s∈l,D_ s
theorem RR.sz.mono {x:RR}{n m:Nat}(h:x.sz n)(hm:n<=m):x.sz m:=⟨Nat.le_trans h.1 hm,Nat.le_trans h.2 hm⟩
section
variable {α:Type}
theorem tz {l:List α}{k:Nat}{x:α}(hx:l[k]? = some x):l.drop k=x::l.drop (k+1):=by
 obtain⟨hl,e⟩:=be hx;rw[List.drop_eq_getElem_cons hl,e]
variable {key:α->Rat}
end
section
variable {α:Type}{key:α->Rat}
end
variable {α:Type}{key:α->Rat}
end Go.Pv
set_option maxHeartbeats 2000000
namespace Go.Pv
attribute [local irreducible] PWP POps PQuiet PSem aH au aj ao
open Go.Proofs
def zA:AR:=⟨RR.zero,RR.zero⟩
def kY (a:AR)(F:List RR):List PV:=eA a++[.sl (F.map eR)]
def zS:List PV:=zN++zN++[.nil]
theorem WeakL.append {a b c d:List PV}(h1:WeakL a b)(h2:WeakL c d):WeakL (a++c) (b++d):=by
 induction h1 with
 |nil=>exact h2
 |cons h _ ih=>exact .cons h ih
theorem mw:WeakL (zN++zN) (eA zA):=dH.append dH
theorem Ce:WeakL zS (kY zA []):=mw.append (.cons .nil .nil)
structure SQ where
 a:AR
 F:List RR
 r:AR
 e:Int
def SQ.pv (q:SQ):PV := .tup [.agg (kY q.a q.F),.agg (eA q.r),I q.e]
def BR.Good (b:BR):Prop:=b.Lim/\(dw b=0->b.Ok/\(bd b).Sz/\∀t,(lO b.l t).length<=40)
set_option maxRecDepth 20000 in
theorem xF (b:BR)(hb:b.Lim)(h0:dw b=0)(h93:Ret Tryz.prog .shared 141 [.agg (eB b)] (.tup [.agg (zN++zN),I 0]))(a:AR)(F:List RR)(h120:Ret Tryz.prog .shared 142 [.agg (eB b)] (.agg (eA a)))
  (h121:Ret Tryz.prog .shared 143 [.agg (eB b),.agg (eA a)] (.bool false)) (h23:Ret Tryz.prog .shared 144 [.sl (b.l.map eS),.agg (eA a)] (.tup [.sl (F.map eR),I 0])):Ret Tryz.prog .shared 78 [.agg (eB b)] (.tup [.agg (kY a F),.agg (zN++zN),I 0]):=by
 have h1:=jc b hb;rw[h0]at h1;clear h0 hb;refine Ret.of_pwp layOk mixed Go.Proofs.Tryz.func78 O Y O O ?_;refine ap h1 ?_;refine G h93 ?_;refine G h120 ?_;refine ap h121 ?_;refine G h23 ?_;exact bL
set_option maxRecDepth 20000 in
theorem tk (n:Nat)(hn:n<18446744073709551616):Ret Tryz.prog .shared 151 [.int .u64 (n:Nat)] (.sl ((aD n).map eU)):=by
 refine Ret.of_pwp layOk mixed Go.Proofs.Tryz.func151 O Y O O ?_
 ((repeat (first|refine aT ?_ | refine ci ?_ | refine b9 ?_ | refine cd ?_));refine bg ?_)
 refine gV O trivial ?_
 ((repeat (first|refine aT ?_ | refine ci ?_ | refine b9 ?_ | refine cd ?_));refine bg ?_)
 (first|refine aE (gR 57 1 0 O O ?_)|refine aE (gQ 57 1 0 O O ?_))
 refine H ?_;refine am (fun q:Nat × List UInt16=>(aD n=q.2++aD q.1/\q.1<18446744073709551616)/\q.1*65536^q.2.length<=n) (fun q=>[(0,.int .u64 (q.1:Nat)),(3,.als 3 (1+q.2.length) 0 (q.2.map eU).length)]) (fun q=>[(3,1+q.2.length,⟨57,1,q.2.map eU,0⟩)]) (fun q=>q.1) (n,[]) ⟨⟨O,hn⟩,ah⟩ ⟨O,O,O,trivial⟩ ?_;rintro⟨m,L⟩ s ⟨⟨hL,hmn⟩,hb⟩;simp only at hL hb hmn;dsimp only;refine D ?_ ?_<;>intro h
 .have hm:0<m:=by have:=ax h;omega
  clear h;have hLl:L.length<4:=by
   rcases Nat.lt_or_ge L.length 4 with h|h
   .exact h
   .exfalso;have h1:65536^4<=65536^L.length:=Nat.pow_le_pow_right Y h;have h2:=Nat.mul_le_mul (show 1<=m by omega) h1;have:1*65536^4=18446744073709551616:=Y;omega
  have hL2:=nc hL hm;have hb2:m/65536*65536^(L++[UInt16.ofNat m]).length<=n:=by
   rw[List.length_append,List.length_singleton,Nat.pow_succ,Nat.mul_comm (65536^_),<-Nat.mul_assoc];exact Nat.le_trans (Nat.mul_le_mul_right _ (Nat.div_mul_le_self _ _)) hb
  have ha:=Cj m hmn;have hcv:IntKind.u16.wrap ((m-m/65536*65536:Nat):Int)=((UInt16.ofNat m).toNat:Int):=by rw[wrap_u16,aY,aY];omega
  refine H ?_;rw[ha,hcv];refine bI O O (cm O O O O O O O O O O aI O) ?_;refine aE (bi 0 O O O O O O O O O O O aI (by intro row hr;first|(simp at hr;subst hr;rfl)|simp at hr) O O aK aK ?_);refine H ?_;refine⟨(m/65536,L++[UInt16.ofNat m]),⟨⟨hL2,by simp only;omega⟩,hb2⟩,by simp only;omega,?_,?_,?_,trivial⟩
  .show PV.int .u64 ((m:Int)/2^(16:Int).toNat)=PV.int .u64 ((m/65536:Nat):Int);rw[show((2:Int)^(16:Int).toNat)=65536 by decide];congr 1
  .exact mf eU 3 1 L (UInt16.ofNat m)
  .exact j5 eU 1 57 1 0 L (UInt16.ofNat m)
 .have hm:m=0:=by have:=aF h;omega
  subst hm;clear h;rw[bz,List.append_nil]at hL;rw[hL];refine H ?_;exact gH O O O ⟨O,O,O⟩ O
set_option maxRecDepth 20000 in
theorem pF (z:Int)(hz:i64 z):Ret Tryz.prog .shared 82 [I z] (.agg (eI (cn z))):=by
 obtain⟨h0,h1⟩:=hz;have hn:=tk z.natAbs J;by_cases hz:z<0
 .rw[cn,decide_eq_true hz];have w1:IntKind.i64.wrap (z+1)=z+1:=wrap_i64 J J;have w2:IntKind.i64.wrap (0-(z+1))=0-(z+1):=wrap_i64 J J;have w3:IntKind.u64.wrap (0-(z+1))=0-(z+1):=wrap_u64 J J;have w4:IntKind.u64.wrap (0-(z+1)+1)=((z.natAbs:Nat):Int):=by rw[wrap_u64 J J];omega
  generalize aD z.natAbs=A at *
  generalize ((z.natAbs:Nat):Int)=na at *
  refine Ret.of_pwp layOk mixed Go.Proofs.Tryz.func82 O Y O O ?_;refine D ?_ ?_<;>intro h
  .clear h;refine H ?_;rw[w1];refine H ?_;rw[w2];refine H ?_;rw[w3];refine H ?_;rw[w4];refine G hn ?_;exact bL
  .exact absurd hz (aF h)
 .rw[cn,decide_eq_false hz];have w:IntKind.u64.wrap z=((z.natAbs:Nat):Int):=by rw[wrap_u64 J J];omega
  generalize aD z.natAbs=A at *
  refine Ret.of_pwp layOk mixed Go.Proofs.Tryz.func82 O Y O O ?_;refine D ?_ ?_<;>intro h
  .exact absurd (ax h) hz
  .clear h;refine H ?_;rw[w];refine nT O O O hn O O ?_;exact bL
theorem fS (z:Int)(hz:i64 z):Ret Tryz.prog .shared 25 [I z] (.agg (eR (ofQ (z:Rat)))):=by
 have h1:=pF z hz;have h2:=pF 1 ⟨Y,Y⟩;rw[rW];generalize cn z=X at *
 generalize cn 1=Y0 at *
 refine Ret.of_pwp layOk mixed Go.Proofs.Tryz.func25 O Y O O ?_;refine G h1 ?_;refine G h2 ?_;exact bL
set_option maxRecDepth 20000 in
theorem pj (a:RI)(ha:a.l.length<=1000000000):Ret Tryz.prog .shared 85 [.agg (eI a),.agg (eI a)] (.bool true):=by
 obtain⟨n,l⟩:=a;simp only at ha;have hml:(l.map eU).length=l.length:=ah;have hnn:(n != n)=false:=by cases n<;>rfl
 have main:∀nn:Bool,nn=n->Ret Tryz.prog .shared 85 [.agg [.bool nn,.sl (l.map eU)],.agg [.bool nn,.sl (l.map eU)]] (.bool true):=by
  intro nn _;cases nn <;>
  .refine Ret.of_pwp layOk mixed Go.Proofs.Tryz.func85 O Y O O ?_;refine D ?_ ?_<;>intro h
   .simp at h
   clear h;refine H ?_;refine am (fun k=>k<=l.length) (fun k=>[(2,.ptr 2 1 0 0),(3,.ptr 3 1 0 0),(5,I (k:Nat))]) (fun _=>[(2,1,⟨40,2,[eI ⟨_,l⟩],2⟩),(3,1,⟨40,2,[eI ⟨_,l⟩],2⟩)]) (fun k=>l.length-k) 0 (Nat.zero_le _) ⟨O,O,O,O,O,trivial⟩ ?_;intro k s hk;refine D ?_ ?_<;>intro h
   .have hlt:k<l.length:=by have:=ax h;simp only[List.length_map]at this;omega
    clear h;obtain⟨x,hx⟩:=aG hlt;have hw:=c_ k;refine bU 11 [27,28,29,30,31,32,33,34,35,36,37] ?_;refine aJ hx ?_;refine aJ hx ?_;refine D ?_ ?_<;>intro h
    .simp at h
    clear h;refine H ?_;exact⟨k+1,hlt,J,O,O,congrArg I hw,O,O,trivial⟩
   .exact fE
 exact main n O
def RR.le (x:RR)(n:Nat):Prop:=x.n.l.length<=n/\x.d.l.length<=n
theorem lB (x:RR)(hx:x.le 1000000000):Ret Tryz.prog .shared 27 [.agg (eR x),.agg (eR x)] (.bool true):=by
 have h1:=pj x.n hx.1;have h2:=pj x.d hx.2;obtain⟨xn,xd⟩:=x;refine Ret.of_pwp layOk mixed Go.Proofs.Tryz.func27 O Y O O ?_;refine ap h1 ?_;refine ap h2 ?_;exact fE
theorem z7 {p:Rat}{n:Nat}(h:HQ p n)(hn:n<=100000000):Ret Tryz.prog .shared 27 [.agg (eR (ofQ p)),.agg (eR (ofQ p))] (.bool true):=by
 have:=gJ h.ok;exact lB _ ⟨J,J⟩
theorem nB (l:List RR)(hl:l.length<=1000000)(hs:∀x∈l,x.le 1000000000):Ret Tryz.prog .shared 64 [.sl (l.map eR),.sl (l.map eR)] (.bool true):=by
 have hml:(l.map eR).length=l.length:=ah;refine Ret.of_pwp layOk mixed Go.Proofs.Tryz.func64 O Y O O ?_;refine D ?_ ?_<;>intro h
 .simp at h
 clear h;refine H ?_;refine am (fun k=>k<=l.length) (fun k=>[(0,.sl (l.map eR)),(1,.sl (l.map eR)),(5,I (k:Nat))]) (fun _=>[]) (fun k=>l.length-k) 0 (Nat.zero_le _) ⟨O,O,O,trivial⟩ ?_;intro k s hk;refine D ?_ ?_<;>intro h
 .have hlt:k<l.length:=by have:=ax h;omega
  clear h;obtain⟨x,hx⟩:=aG hlt;have hxr:=lB x (hs x (aZ hx));have hw:=c_ k;refine bU 10 [17,18,19,20,21,22,23,24,25,26] ?_;refine aJ hx ?_;refine aJ hx ?_;refine ap hxr ?_;refine H ?_;exact⟨k+1,hlt,J,O,O,congrArg I hw,trivial⟩
 .exact fE
theorem yR (l:List Int)(hl:l.length<=1000000):Ret Tryz.prog .shared 177 [.sl (l.map eN),.sl (l.map eN)] (.bool true):=by
 have hml:(l.map eN).length=l.length:=ah;refine Ret.of_pwp layOk mixed Go.Proofs.Tryz.func177 O Y O O ?_;refine D ?_ ?_<;>intro h
 .simp at h
 clear h;refine H ?_;refine am (fun k=>k<=l.length) (fun k=>[(0,.sl (l.map eN)),(1,.sl (l.map eN)),(5,I (k:Nat))]) (fun _=>[]) (fun k=>l.length-k) 0 (Nat.zero_le _) ⟨O,O,O,trivial⟩ ?_;intro k s hk;refine D ?_ ?_<;>intro h
 .have hlt:k<l.length:=by have:=ax h;omega
  clear h;obtain⟨x,hx⟩:=aG hlt;have hw:=c_ k;refine bU 9 [17,18,19,20,21,22,23,24,25] ?_;refine aJ hx ?_;refine aJ hx ?_;refine D ?_ ?_<;>intro h
  .simp at h
  clear h;refine H ?_;exact⟨k+1,hlt,J,O,O,congrArg I hw,trivial⟩
 .exact fE
def DA (x:RR)(n:Nat):Bool:=decide (x.n.l.length<=n)&&decide (x.d.l.length<=n)
theorem nD (x:RR)(n:Nat)(hn:n<=1000000):Ret Tryz.prog .shared 20 [.agg (eR x),I (n:Nat)] (.bool (DA x n)):=by
 have e1:decide ((((x.n.l.map eU).length:Nat):Int)<=(n:Int))=decide (x.n.l.length<=n):=by rw[decide_eq_decide,List.length_map];omega
 have e2:decide ((((x.d.l.map eU).length:Nat):Int)<=(n:Int))=decide (x.d.l.length<=n):=by rw[decide_eq_decide,List.length_map];omega
 rw[DA,<-e1,<-e2];obtain⟨⟨xn,xl⟩,⟨yn,yl⟩⟩:=x;refine Ret.of_pwp layOk mixed Go.Proofs.Tryz.func20 O Y O O ?_;refine cY ?_ ?_<;>intro h
 .rw[h];clear h;exact fE
 .rw[h];clear h;exact fE
def Fe (l:List SR):Prop:=l.length<=9223372036854775807/\∀s∈l,s.k.S.length<=9223372036854775807/\s.k.M.length<=9223372036854775807
open Go.Proofs Go.RowKit
theorem Ghost.takeD {s:St}{k g t n sz:Nat}{T:TypeId}{rows:List (List PV)}(ho:s.own k=(g,some ⟨T,sz,rows,1⟩))(hr:s.reg t = .als k g 0 n)(hn:n=rows.length) :
  Ghost s ((s.setOwn k (g+1) none).putR t (.sl rows)):=by
 intro C a w hX ⟨γ,h⟩;subst hn;obtain⟨h1,hle,_⟩:=h.drop hX ho;refine⟨γ,h1.defers,h1.size,fun r=>?_,h1.sites,h1.inj,h1.base,h1.below,h1.top,h1.kept⟩;show Rep _ (bif Nat.beq r t then _ else(s.setOwn k (g+1) none).reg r) _;by_cases hrt:r=t
 .subst hrt;have hp:=h.regs r;rw[hr]at hp;simp only[Nat.beq_refl,cond_true];refine .d ?_;rcases h.als_at hp ho with⟨q1,_,q3,q4⟩|⟨b,cap,cur,q1,q2,q3,q4,q5,q6,q7⟩
  .have:rows=[]:=(h.sites k _ (by rw[ho])).emp q1;rw[this,q4];exact .sl0 _ _
  .obtain⟨cur',g1,g2,g3,g4,g5⟩:=h.site_at ho q1 (h.cells_sz ho q1 q3 q6);have hb:(ak C γ (s.setOwn k (g+1) none) w).ok b:=by
    have hbase:=h.base k _ b (by rw[ho]) q1;refine⟨hbase.2,fun hx=>?_,fun k' c' hc' hb'=>?_⟩
    .have:=hX b hx;omega
    .by_cases hk':k'=k
     .subst hk';rw[ai]at hc';cases hc'
     .rw[aB hk']at hc';exact hk' (h.inj k' k c' _ b hc' (by rw[ho]) hb' q1)
   rw[q2];simp only[Nat.zero_mul];refine .sl rows b 0 cap sz (fun i j=>cur'.getD (i*sz+j) undef) hb g2 q4 g4 (fun i j row pv e1 e2=>?_) (fun i j row pv e1 e2=>?_)
   .obtain⟨u,f1,f2,_⟩:=g5 i j row pv e1 e2;have g1:w.heap[b]? = some (.cells cur' T (0,0)):=g1;show w.cell? _=_/\_;rw[aW g1,Nat.zero_add,f1];simp[f1,f2]
   .obtain⟨u,f1,_,f3⟩:=g5 i j row pv e1 e2;have hu:cur'.getD (i*sz+j) undef=u:=by simp[f1]
    simp only[hu];exact hle.drep f3
 .rw[aX hrt];exact h1.regs r
def B8 (l:List Int):List RR:=l.map fun z:Int=>ofQ (z:Rat)
set_option maxRecDepth 20000 in
theorem AQ (l:List Int)(hl:l.length<=1000000)(hz:∀z∈l,i64 z):Ret Tryz.prog .shared 65 [.sl (l.map eN)] (.sl ((B8 l).map eR)):=by
 have hml:(l.map eN).length=l.length:=ah;refine Ret.of_pwp layOk mixed Go.Proofs.Tryz.func65 O Y O O ?_
 ((repeat (first|refine aT ?_ | refine ci ?_ | refine b9 ?_ | refine cd ?_));refine bg ?_)
 refine gV O trivial ?_
 ((repeat (first|refine aT ?_ | refine ci ?_ | refine b9 ?_ | refine cd ?_));refine bg ?_)
 (first|refine aE (gR 42 4 1 O O ?_)|refine aE (gQ 42 4 1 O O ?_))
 refine H ?_;refine am (fun k=>k<=l.length) (fun k=>[(0,.sl (l.map eN)),(3,.als 3 (k+1) 0 ((B8 (l.take k)).map eR).length),(4,I (k:Nat))]) (fun k=>[(3,k+1,⟨42,4,(B8 (l.take k)).map eR,1⟩)]) (fun k=>l.length-k) 0 (Nat.zero_le _) ⟨O,O,O,O,trivial⟩ ?_;intro k s hk;refine D ?_ ?_<;>intro h
 .have hlt:k<l.length:=by have:=ax h;omega
  clear h;obtain⟨x,hx⟩:=aG hlt;have hxr:=fS x (hz x (aZ hx));have hw:=c_ k;have hwl:(B8 (l.take k)).length=k:=by rw[B8,List.length_map,List.length_take];omega
  have hrows:(B8 (l.take (k+1))).map eR=(B8 (l.take k)).map eR++[eR (ofQ (x:Rat))]:=by rw[dL hx,B8,List.map_append,List.map_append];rfl
  refine aJ hx ?_;refine G hxr ?_;refine H ?_;refine aE (aS 1 O O O O O O O O O O O aI O ?_);refine H ?_;refine aE (bi 1 O O O O O O O O O O O aI (by intro row hr;first|(simp at hr;subst hr;rfl)|simp at hr) O O aK aK ?_);refine H ?_;refine⟨k+1,hlt,J,O,?_,congrArg I hw,?_,trivial⟩
  .rw[hrows];rfl
  .rw[hrows];rfl
 .have hge:k=l.length:=by have:=aF h;omega
  subst hge;clear h;rw[List.take_length];refine H ?_;exact gH O O O ⟨O,O,O⟩ O
end Go.Pv
namespace Go.Pv
open Go.RowKit Go.ChangeShapes Go.WideShapes Go.ChangeAt
section
variable {H0:Type}{enc:TypeId × Value->H0}{P:Program}{L:Lay}{w:World}{sp:Nat->Bool}{held:Bool}
def argW (L:Lay)(T:TypeId)(c:PV):Prop:=match L T with
 |some r=>bif r.sh.agg then ∃cs,c = .agg cs/\iL L 12 T cs else iL L 12 T [c]
 |none=>False
theorem ya (hL:gd P L){base:Nat}{T:TypeId}{v:Value}{d:DataW H0}{ps:List MemPlace}(hp:fq L 12 T=true)(h:DataW.Trod enc P w 0 sp held T v d ps)(hok:Value.okWide P w .any base T v):∃c,DRep w (fun b=>b<w.heap.size) c v/\argW L T c:=by
 obtain⟨fuel,h⟩:=h;obtain⟨pvs,h1,h2⟩:=nM hL 12 T _ fuel _ hp h;have hp':=hp;simp only[fq]at hp;split at hp
 .rename_i r hr;have hfit:=hL T r hr;have leaf:r.sh.agg=false->(∃c,pvs=[c])->(v.cells.toList.length=1->v.cells=#[v])->∃c,DRep w (fun b=>b<w.heap.size) c v/\argW L T c:=by
   rintro ha ⟨c,rfl⟩ hv;have hc:=hv (by rw[<-h1.1];rfl);have hd:=h1.2 0 c v O (by rw[hc];rfl);refine⟨c,hd.1,?_⟩;unfold argW;rw[hr];simp only[ha,cond_false];exact h2
  have nagg:(∀cs,v ≠ .agg cs)->v.cells=#[v]:=by
   intro h;cases v<;>first|rfl|exact absurd O (h _)
  have hty:∃r',L T=some r'/\_:=h2;obtain⟨r',hr',hty⟩:=hty;rw[hr]at hr';have hr':=Option.some.inj hr';subst hr';split at hp
  .rename_i hs;rw[hs]at hty;obtain⟨b,rfl⟩:=hty;obtain⟨b',rfl⟩:∃b',v = .bool b':=by
    have:=okWide_bool (nQ hfit hs) hok;exact this
   exact leaf (by rw[hs];rfl) ⟨_,O⟩ (fun _=>rfl)
  .rename_i k hs;rw[hs]at hty;obtain⟨m,rfl,_⟩:=hty;obtain⟨m',rfl⟩:=okWide_int (kO hfit hs) hok;exact leaf (by rw[hs];rfl) ⟨_,O⟩ (fun _=>rfl)
  .rename_i hs;rw[hs]at hty;obtain⟨s,rfl,_⟩:=hty;obtain⟨s',rfl⟩:=okWide_string (i6 hfit hs) hok;exact leaf (by rw[hs];rfl) ⟨_,O⟩ (fun _=>rfl)
  .rename_i e hs;rw[hs]at hty;obtain⟨rows,rfl,_⟩:=hty;obtain⟨a,l,c,rfl⟩:=okWide_slice (fC hfit hs) hok;exact leaf (by rw[hs];rfl) ⟨_,O⟩ (fun _=>rfl)
  .rename_i fs hs;obtain⟨fs',hu,_⟩:=nR hfit hs;obtain⟨cs,rfl,_⟩:=okWide_struct hu hok;refine⟨.agg pvs,?_,?_⟩
   .have:=DRep.agg (w:=w) (ok:=fun b=>b<w.heap.size) pvs cs.toList h1.1 (fun i c v e1 e2=>(h1.2 i c v e1 e2).1);simpa using this
   .unfold argW;rw[hr];simp only[hs,Sh.agg,cond_true];exact⟨pvs,O,h2⟩
  .cases hp
 .cases hp
theorem og (hL:gd P L){base:Nat}:∀(ts:List TypeId) (vs:List Value) (ds:List (DataW H0)) (ps:List MemPlace),ts.all (fq L 12)=true->DataW.TrodAll enc P w 0 sp held ts vs ds ps ->
  (∀(j:Nat) t v,ts[j]? = some t->vs[j]? = some v->Value.okWide P w .any base t v) ->
  ∃pargs:List PV,pargs.length=vs.length/\ts.length=vs.length/\ds.length=vs.length/\(∀(i:Nat) (c:PV) (v:Value),pargs[i]? = some c->vs[i]? = some v->DRep w (fun b=>b<w.heap.size) c v)/\∀(i:Nat) t c,ts[i]? = some t->pargs[i]? = some c->argW L t c
 |[],vs,ds,ps,_,h,_=>by
  obtain⟨rfl,rfl,_⟩:=trodAll_nil h;exact⟨[],O,O,O,fun i c v e=>by simp at e,fun i t c e=>by simp at e⟩
 |t::ts,vs,ds,ps,hp,h,hok=>by
  obtain⟨v,vs',d,ds',p,q,rfl,rfl,rfl,h1,h2⟩:=trodAll_cons h;simp only[List.all_cons,Bool.and_eq_true]at hp;obtain⟨c,g1,g2⟩:=ya hL hp.1 h1 (hok 0 t v O O);obtain⟨pargs,e1,e2,e3,e4,e5⟩:=og hL ts vs' ds' q hp.2 h2 (fun j t v a b=>hok (j+1) t v (by simpa using a) (by simpa using b));refine⟨c::pargs,by simp[e1],by simp[e2],by simp[e3],fun i c' v' a b=>?_,fun i t' c' a b=>?_⟩
  .cases i with
   |zero=>simp at a b;subst a;subst b;exact g1
   |succ i=>exact e4 i c' v' (by simpa using a) (by simpa using b)
  .cases i with
   |zero=>simp at a b;subst a;subst b;exact g2
   |succ i=>exact e5 i t' c' (by simpa using a) (by simpa using b)
theorem law_stepW [Globs](hL:gd P L)(hl:laidOutB P=true){f:FuncId}{fn:Func}{s:ChangeSpec}{ts:List TypeId}{T:TypeId}(hvars:s.vars=[])(hts:fn.params.toList=ts)(hplain:ts.all (fq L 12)=true)
  (hread:ts.all (fun t=>P.readableRec t&&decide (t<P.types.size))=true) (hres:fn.resultTypes=#[T]) (hT:P.underlying T=some .bool)
  (hspec:∀ds:List (DataW H0),ds.length=ts.length->(s.fn H0 ds).results=[.lit (.bool true)]/\(s.fn H0 ds).args=ds/\(s.fn H0 ds).vars=[])
  (law:∀pargs:List PV,pargs.length=ts.length->(∀(i:Nat) t c,ts[i]? = some t->pargs[i]? = some c->argW L t c)->Ret P .shared f pargs (.bool true))
  {W:World} {base:Nat} {args:Array Value} {ds gs:List (DataW H0)} {before:List MemPlace} (hval:∀(j:Nat) t v,fn.params[j]? = some t->args[j]? = some v->Value.okWide P W .any base t v)
  (hglob:Globs.glob W) (hW:DataW.Whole enc P fn.params.toList s.vars false W args.toList ds gs before) :
  Calls P f args W fun e W'=>∃v,e = .returned v/\s.post enc P fn false true false false W args v W':=by
 have hW':=hW;obtain⟨p,q,hA,hV,hpq,hfz,hnd⟩:=hW;rw[hvars]at hV;obtain⟨rfl,rfl⟩:=trodVars_none hV;rw[hts]at hA;obtain⟨pargs,e1,e2,e3,e4,e5⟩:=og hL (base:=base) ts _ _ _ hplain hA (fun j t v a b=>hval j t v (by rw[<-hts]at a;simpa using a) (by simpa using b));have hret:=law pargs J e5;have hcall:=hret.2 W (fun _=>False) args.toList hglob (fun b hb=>hb.elim) J (fun i c v a b=>(e4 i c v a b).weaken fun b hb=>⟨hb,fun h=>h⟩);have hargs:args.toList.toArray=args:=ah;rw[hargs]at hcall;refine hcall.mono ?_;rintro e W' ⟨v,rfl,hb,hd⟩;refine⟨v,O,?_⟩;have hv:v = .bool true:=by cases hd;rfl
 subst hv;have hlt:∀x∈p,x.block<W.heap.size:=fun x hx=>by
  have:=hW'.lt x (by rw[hpq];simp[hx]);simpa using this
 obtain⟨s1,s2,s3⟩:=hspec ds J;have hgs:ds++([]:List (DataW H0))=ds:=List.append_nil ds;refine⟨ds,[],before,[],p,[],hW',?_,?_,?_,World.keptBut_mono (fun x hx=>hx.elim) (hb.frame (fun _=>False)),fun h=>by cases h⟩
 .rw[hgs,s1,hres];exact trodAll_mk1 (shut_bool hT true)
 .rw[hgs,s2,hts];exact jk hl hb ts _ _ _ (fun t ht=>by
   have:=List.all_eq_true.1 hread t ht
   simpa using this) hA hlt
 .rw[hgs,s3,hvars];exact O
end
end Go.Pv
set_option maxHeartbeats 2000000
namespace Go.Pv
attribute [local irreducible] PWP POps PQuiet PSem aH au aj ao
open Go.Proofs
theorem ez {α:Type}{f:α->List PV}{p:α->Prop}:∀ {rows:List (List PV)},(∀row∈rows,∃x,row=f x/\p x)->∃l:List α,rows=l.map f/\∀x∈l,p x
 |[],_=>⟨[],rfl,fun x h=>by cases h⟩
 |row::rows,h=>by
  obtain⟨x,rfl,hx⟩:=h row ah;obtain⟨l,rfl,hl⟩:=ez (rows:=rows) fun r hr=>h r (by simp[hr]);exact⟨x::l,O,fun y hy=>by
   rcases List.mem_cons.1 hy with rfl|hy
   .exact hx
   .exact hl y hy⟩
theorem rS {n:Nat}(h:n<=maxLen):n<=9223372036854775807:=by
 have e:maxLen=9223372036854775807:=Y;omega
theorem yo {n:Nat}{cs:List PV}(h:iL lay.get (n+2) 38 cs):∃l:List UInt16,cs=[.sl (l.map eU)]:=by
 obtain⟨rows,rfl,hr⟩:=DI h O;obtain⟨l,rfl,-⟩:=ez (f:=eU) (p:=fun _=>True) fun row hrow=>by
  obtain⟨m,rfl,h1,h2⟩:=nN (hr row hrow) O;have h1:(0:Int)<=m:=h1;have h2:m<=(65535:Int):=h2;refine⟨UInt16.ofNat m.toNat,?_,trivial⟩;rw[eU,aY];congr 2;omega
 exact⟨l,O⟩
theorem Cn {n:Nat}{cs:List PV}(h:iL lay.get (n+3) 40 cs):∃a:RI,cs=eI a:=by
 obtain⟨parts,rfl,hl,hp⟩:=iM h O
 match parts,hl,hp with
 |[p0,p1],_,hp =>
  obtain⟨b,rfl⟩:=s6 (hp 0 _ p0 O O) O;obtain⟨l,rfl⟩:=yo (hp 1 _ p1 O O);exact⟨⟨b,l⟩,O⟩
theorem Co {n:Nat}{cs:List PV}(h:iL lay.get (n+4) 42 cs):∃a:RR,cs=eR a:=by
 obtain⟨parts,rfl,hl,hp⟩:=iM h O
 match parts,hl,hp with
 |[p0,p1],_,hp =>
  obtain⟨a,rfl⟩:=Cn (hp 0 _ p0 O O);obtain⟨b,rfl⟩:=Cn (hp 1 _ p1 O O);exact⟨⟨a,b⟩,O⟩
theorem j8 {n:Nat}{cs:List PV}(h:iL lay.get (n+1) 3 cs):∃z:Int,cs=eN z/\i64 z:=by
 obtain⟨m,rfl,h1,h2⟩:=nN h O;exact⟨m,O,h1,h2⟩
theorem ra {n:Nat}{cs:List PV}(h:iL lay.get (n+2) 92 cs):∃l:List Int,cs=[.sl (l.map eN)]/\l.length<=9223372036854775807/\∀z∈l,i64 z:=by
 obtain⟨rows,rfl,hlen,hr⟩:=i4 h O;obtain⟨l,rfl,hz⟩:=ez (f:=eN) (p:=i64) fun row hrow=>j8 (hr row hrow);exact⟨l,O,by rw[List.length_map]at hlen;exact rS hlen,hz⟩
structure ArgB (b:BR):Prop where
 w:i64 b.w
 len:Fe b.l
 data:D9 b.l
theorem dec_RR {c:PV}(h:argW lay.get 42 c):∃a:RR,c = .agg (eR a):=by
 obtain⟨cs,rfl,h⟩:∃cs,c = .agg cs/\iL lay.get 12 42 cs:=h;obtain⟨a,rfl⟩:=Co h;exact⟨a,O⟩
theorem dec_N {c:PV}(h:argW lay.get 3 c):∃z:Int,c=I z/\i64 z:=by
 obtain⟨z,hz,h1⟩:=j8 (n:=11) (show iL lay.get 12 3 [c] from h);cases hz;exact⟨z,O,h1⟩
abbrev Str:=List UInt8
def eG {α:Type}:List α->(Nat->α->Int)->Int
 |[],_=>0
 |a::l,f=>if f 0 a=0 then eG l (fun i=>f (i+1)) else f 0 a
theorem mT {α:Type}:∀ {l:List α} {f:Nat->α->Int} {i:Nat} {a:α},l[i]? = some a->f i a≠0->(∀j b,j<i->l[j]? = some b->f j b=0)->eG l f=f i a
 |[],f,i,a,h,_,_=>by simp at h
 |b::l,f,0,a,h,he,_=>by
  simp at h;subst h;simp[eG,he]
 |b::l,f,i+1,a,h,he,hn=>by
  have h0:=hn 0 b J O;rw[eG,if_pos h0];exact mT (f:=fun i=>f (i+1)) (by simpa using h) he fun j c hj hc=>hn (j+1) c J (by simpa using hc)
theorem oH {α:Type}:∀ {l:List α} {f:Nat->α->Int},(∀(j:Nat) b,l[j]? = some b->f j b=0)->eG l f=0
 |[],f,_=>rfl
 |b::l,f,hn=>by
  rw[eG,if_pos (hn 0 b O)];exact oH fun j c hc=>hn (j+1) c (by simpa using hc)
theorem iU {α:Type}:∀ {l:List α} {f:Nat->α->Int},eG l f=0->∀(j:Nat) b,l[j]? = some b->f j b=0
 |[],f,_,j,b,h=>by simp at h
 |a::l,f,h,j,b,hb=>by
  rw[eG]at h;split at h
  .rename_i hz;cases j with
   |zero=>simp at hb;subst hb;exact hz
   |succ j=>exact iU h j b (by simpa using hb)
  .contradiction
def ClearE {α:Type}(l:List α)(f:Nat->α->Int)(k:Nat):Prop:=k<=l.length/\∀j b,j<k->l[j]? = some b->f j b=0
theorem ClearE.zero' {α:Type}{l:List α}{p:Nat->α->Int}:ClearE l p 0:=⟨Nat.zero_le _,fun j b h=>by omega⟩
theorem ClearE.succ {α:Type}{l:List α}{p:Nat->α->Int}{k:Nat}{x:α}(h:ClearE l p k)(hx:l[k]? = some x)(hp:p k x=0):ClearE l p (k+1):=by
 have:=(be hx).1;refine⟨this,fun j b hj hb=>?_⟩;rcases Nat.lt_or_ge j k with hlt|hge
 .exact h.2 j b hlt hb
 .have:j=k:=J;subst this;rw[hx]at hb;cases hb;exact hp
theorem ClearE.found {α:Type}{l:List α}{p:Nat->α->Int}{k:Nat}{x:α}{e:Int}(h:ClearE l p k)(hx:l[k]? = some x)(hp:p k x=e)(he:e≠0):eG l p=e:=by
 subst hp;exact mT hx he h.2
theorem ClearE.none {α:Type}{l:List α}{p:Nat->α->Int}{k:Nat}(h:ClearE l p k)(hk:¬k<l.length):eG l p=0 :=
 oH fun j b hb=>h.2 j b (by have:=(be hb).1;have:=h.1;omega) hb
def iy (c:UInt8):Bool:=(decide (97<=(c.toNat:Int))&&decide ((c.toNat:Int)<=122))||(decide (65<=(c.toNat:Int))&&decide ((c.toNat:Int)<=90))
def tj (i:Nat)(c:UInt8):Bool:=!iy c&&(decide ((i:Int)=0)||(!decide ((c.toNat:Int)=45)&&(decide ((c.toNat:Int)<48)||decide (57<(c.toNat:Int)))))
def kT (i:Nat)(c:UInt8):Int:=if tj i c then 1 else 0
def bS (s:Str):Bool:=decide (1<=s.length)&&decide (s.length<=12)&&decide (eG s kT=0)
def Eu (c:UInt8):List PV:=[.int .u8 c.toNat]
def aw (n lo hi:Int):Bool:=decide (lo<=n)&&decide (n<=hi)
theorem bh (n lo hi:Int):Ret Tryz.prog .shared 126 [I n,I lo,I hi] (.bool (aw n lo hi)):=by
 refine Ret.of_pwp layOk mixed Go.Proofs.Tryz.func126 O Y O O ?_;refine cY ?_ ?_<;>intro h
 .refine H ?_;exact bW O O (by simp[aw,ax h])
 .refine H ?_;exact bW O O (by simp[aw,h])
theorem bT (n lo hi:Int):Ret Tryz.prog .shared 102 [I n,I lo,I hi] (.bool (aw n lo hi)):=by
 refine Ret.of_pwp layOk mixed Go.Proofs.Tryz.func102 O Y O O ?_;refine cY ?_ ?_<;>intro h
 .refine H ?_;exact bW O O (by simp[aw,ax h])
 .refine H ?_;exact bW O O (by simp[aw,h])
theorem jF (s:Str):Ret Tryz.prog .shared 125 [.str s] (.bool (bS s)):=by
 refine Ret.of_pwp layOk mixed Go.Proofs.Tryz.func125 O Y O O ?_
 repeat' (first|refine eg O ?_|refine ct O O (fun h=>?_) (fun h=>?_)|refine cq O O (fun h=>?_) (fun h=>?_)|refine cp O O (fun h=>?_) (fun h=>?_))
 .have:=ax h;exact bW O O (by simp[bS];omega)
 have h1:=aF h;refine aV O ?_ ?_<;>intro h
 .have:=ax h;refine H ?_;exact bW O O (by simp[bS];omega)
 have h2:=aF h;have hll:((s.map Eu).length:Int)=s.length:=ah;have hb:s.length<=12:=J;clear h;refine H ?_;refine bI O O (EL O O O O O O) ?_;refine H ?_;refine am (ClearE s kT) (fun k=>[(15,.fsl (s.map Eu)),(16,I (s.map Eu).length),(17,I k)]) (fun _=>[]) (fun k=>s.length-k) 0 .zero' ⟨O,O,O,trivial⟩ ?_;intro k st hk;have hkl:=hk.1;refine D ?_ ?_<;>intro h
 .have hlt:k<s.length:=by simpa using h
  obtain⟨x,hx⟩:=aG hlt;have hkb:k<12:=J;clear h;refine H ?_;refine bI O O (BE O O O O O J hx O) ?_;repeat (refine FG O ?_ ?_;· repeat' constructor)
  refine jO 100 [(3,I k),(4,.int .u8 x.toNat),(5,.bool (iy x)),(15,.fsl (s.map Eu)),(16,I (s.map Eu).length),(17,I k)] [] ?_ ?_
  .clear h1 h2 hll hb
   repeat' (first|refine eg O ?_|refine ct O O (fun h=>?_) (fun h=>?_)|refine cq O O (fun h=>?_) (fun h=>?_)|refine cp O O (fun h=>?_) (fun h=>?_))
   all_goals exact⟨O,O,(congrArg PV.bool (by clear hk hx;simp_all [iy]<;>omega)),O,O,O,trivial⟩
  clear h1 h2 hll hb;intro s
  repeat' (first|refine eg O ?_|refine ct O O (fun h=>?_) (fun h=>?_)|refine cq O O (fun h=>?_) (fun h=>?_)|refine cp O O (fun h=>?_) (fun h=>?_))
  all_goals try (refine aV O (fun hc=>?_) (fun hc=>?_))
  all_goals repeat refine eg O ?_
  all_goals first
   |(
    refine bW O O ?_;have hb:kT k x=1:=by simp_all [kT,tj]<;>omega
    have:=hk.found hx hb J
    simp[bS,this])
   |(
    refine⟨k+1,hk.succ hx (by simp_all [kT,tj]<;>omega),J,O,O,?_,trivial⟩
    exact bN J J)
 .refine H ?_;exact bW O O (by simp only[bS,hk.none (by simpa using h)];simp;omega)
theorem jE (l:Str):Ret Tryz.prog .shared 71 [.str l] (.bool (bS l)):=by
 refine Ret.of_pwp layOk mixed Go.Proofs.Tryz.func71 O Y O O ?_
 repeat' (first|refine eg O ?_|refine ct O O (fun h=>?_) (fun h=>?_)|refine cq O O (fun h=>?_) (fun h=>?_)|refine cp O O (fun h=>?_) (fun h=>?_))
 .have:=ax h;exact bW O O (by simp[bS];omega)
 have h1:=aF h;refine aV O ?_ ?_<;>intro h
 .have:=ax h;refine H ?_;exact bW O O (by simp[bS];omega)
 have h2:=aF h;refine H ?_;refine am (ClearE l kT) (fun k=>[(0,.str l),(3,I k)]) (fun _=>[]) (fun k=>l.length-k) 0 .zero' ⟨O,O,trivial⟩ ?_;intro k s hk;refine D ?_ ?_<;>intro h
 .have hlt:k<l.length:=by simpa using h
  obtain⟨x,hx⟩:=aG hlt;have hget:l.getD k 0=x:=by rw[List.getD_eq_getElem?_getD,hx];rfl
  refine H ?_;refine gV O ⟨J,J⟩ ?_;have hn:((l.getD (Int.toNat (k:Int)) 0).toNat:Int)=x.toNat:=by rw[Int.toNat_natCast,hget]
  rw[hn];have hkb:k<12:=J;clear h hn h1 h2;refine gV O trivial ?_
  ((repeat (first|refine aT ?_ | refine ci ?_ | refine b9 ?_ | refine cd ?_));refine bg ?_)
  refine jO 100 [(0,.str l),(3,I k),(4,.int .u8 x.toNat),(5,.bool (iy x))] [] ?_ ?_
  .repeat' (first|refine eg O ?_|refine ct O O (fun h=>?_) (fun h=>?_)|refine cq O O (fun h=>?_) (fun h=>?_)|refine cp O O (fun h=>?_) (fun h=>?_))
   all_goals exact⟨O,O,O,(congrArg PV.bool (by simp_all [iy]<;>omega)),trivial⟩
  intro s
  repeat' (first|refine eg O ?_|refine ct O O (fun h=>?_) (fun h=>?_)|refine cq O O (fun h=>?_) (fun h=>?_)|refine cp O O (fun h=>?_) (fun h=>?_))
  all_goals try (refine aV O (fun hc=>?_) (fun hc=>?_))
  all_goals repeat refine eg O ?_
  all_goals first
   |(
    refine bW O O ?_;have hb:kT k x=1:=by simp_all [kT,tj]<;>omega
    have:=hk.found hx hb J
    simp[bS,this])
   |(
    refine⟨k+1,hk.succ hx (by simp_all [kT,tj]<;>omega),J,O,?_,trivial⟩
    exact bN J J)
 .refine H ?_;exact bW O O (by simp only[bS,hk.none (by simpa using h)];simp;omega)
structure ST where
 x:Int
 w:Int
 L:List Int
 H0:List Int
def eT (t:ST):List PV:=[I t.x,I t.w,.sl (t.L.map eN),.sl (t.H0.map eN)]
def gU (t:ST):Int:=if (aw t.x (-1000000) 1000000&&aw t.w 1 100000)=true then 0 else 2
def i9 (t u:ST):Int:=if t.x-u.x<=0 then 10 else if 2*(t.x-u.x)<t.w+u.w then 17 else 0
def jY (L:List Int)(i:Nat)(l:Int):Int:=if aw l 0 100000=true then(if 0<i/\l<=L.getD (i-1) 0 then 10 else 0) else 2
def rx (_:Nat)(h:Int):Int:=if aw h 0 100000=true then 0 else 2
def dg (t:ST):Int:=if aw t.L.length 2 30=true/\(t.H0.length:Int)=(t.L.length:Int)-1 then(if eG t.L (jY t.L)=0 then eG t.H0 rx else eG t.L (jY t.L)) else 11
def ij (t:ST)(u:Option ST):Int:=if gU t=0 then(match u with
 |none=>dg t
 |some u=>if i9 t u=0 then dg t else i9 t u) else gU t
theorem nl {t:ST}(h:gU t=0):(-1000000<=t.x/\t.x<=1000000)/\(1<=t.w/\t.w<=100000):=by
 rw[gU]at h;split at h
 .rename_i h2;simp[aw]at h2;omega
 .omega
theorem fh {n:Nat}(h:aw (n:Int) 2 30=true):2<=n/\n<=30:=by
 simp[aw]at h;omega
theorem zU (t:ST):Ret Tryz.prog .shared 103 [.agg (eT t)] (I (gU t)):=by
 have h1:=bT t.x (-1000000) 1000000;have h2:=bT t.w 1 100000;rw[gU];generalize aw t.x (-1000000) 1000000=p at *
 generalize aw t.w 1 100000=q at *
 obtain⟨x,w,L,H0⟩:=t;simp only at *
 cases p
 .refine Ret.of_pwp layOk mixed Go.Proofs.Tryz.func103 O Y O O ?_;refine ap h1 ?_;exact bm
 .cases q;all_goals
   refine Ret.of_pwp layOk mixed Go.Proofs.Tryz.func103 O Y O O ?_;refine ap h1 ?_;refine ap h2 ?_;exact bm
set_option maxRecDepth 20000 in
theorem xe (t:ST)(hL:t.L.length<=9223372036854775807)(hH:t.H0.length<=9223372036854775807):Ret Tryz.prog .shared 104 [.agg (eT t)] (I (dg t)):=by
 generalize hf:dg t=E;have hml:((t.L.map eN).length:Int)=t.L.length:=ah;have hmh:((t.H0.map eN).length:Int)=t.H0.length:=ah;refine Ret.of_pwp layOk mixed Go.Proofs.Tryz.func104 O Y O O ?_;refine H ?_;rw[hml];refine Ap O O O ?_ ?_<;>intro h
 .have h1:=ax h;clear h;have hE:11=E:=by rw[<-hf,dg,if_neg (fun g=>by have:=fh g.1;omega)]
  subst hE;exact bm
 have h1:=aF h;clear h;refine H ?_;rw[hml];refine Ap O O O ?_ ?_<;>intro h
 .have h2:=ax h;clear h;have hE:11=E:=by rw[<-hf,dg,if_neg (fun g=>by have:=fh g.1;omega)]
  subst hE;exact bm
 have h2:=aF h;clear h;have hwl:IntKind.i64.wrap ((t.L.length:Int)-1)=(t.L.length:Int)-1:=wrap_i64 J J;refine H ?_;rw[hml,hmh,hwl];refine D ?_ ?_<;>intro h
 .have h3:¬(t.H0.length:Int)=(t.L.length:Int)-1:=by simpa using h
  clear h;have hE:11=E:=by rw[<-hf,dg,if_neg (fun g=>by have:=g.2;omega)]
  subst hE;exact bm
 have c2:(t.H0.length:Int)=(t.L.length:Int)-1:=by simpa using h
 clear h;rw[dg,if_pos ⟨by simp[aw];omega,c2⟩]at hf;refine H ?_;refine am (ClearE t.L (jY t.L)) (fun k=>[(1,.ptr 1 1 0 0),(3,I (k:Nat))]) (fun _=>[(1,1,⟨130,4,[eT t],2⟩)]) (fun k=>t.L.length-k) 0 .zero' ⟨O,O,O,trivial⟩ ?_;intro k s hk;have hkl:=hk.1;refine D ?_ ?_<;>intro h
 .have hlt:k<t.L.length:=by have:=ax h;omega
  clear h;obtain⟨x,hx⟩:=aG hlt;have h1:=bT x 0 100000;have hw:=c_ k;refine aJ hx ?_;refine ap h1 ?_;by_cases d1:aw x 0 100000=true
  rotate_left
  .have hv:jY t.L k x=2:=by rw[jY,if_neg d1]
   have hfl:=hk.found hx hv Y;have hE:2=E:=by rw[<-hf,hfl];rfl
   subst hE;rw[Bool.not_eq_true]at d1;rw[d1];exact bm
  rw[d1];refine bU 16 [39,40,41,42,43,44,45,46,47,48,49,50,51,52,53,54] ?_;refine cY ?_ ?_<;>intro h
  rotate_left
  .have h0:k=0:=by have:=aF h;omega
   clear h;have hv:jY t.L k x=0:=by rw[jY,if_pos d1,if_neg J]
   refine H ?_;exact⟨k+1,hk.succ hx hv,J,O,congrArg I hw,O,trivial⟩
  .have h0:0<k:=by have:=ax h;omega
   clear h;obtain⟨j,rfl⟩:∃j,k=j+1:=⟨k-1,J⟩;obtain⟨y,hy⟩:=aG (show j<t.L.length by omega);have hgy:t.L.getD j 0=y:=by rw[List.getD_eq_getElem?_getD,hy];rfl
   have hwj:IntKind.i64.wrap (((j+1:Nat):Int)-1)=(j:Nat):=by rw[wrap_i64 J J];omega
   refine aJ hx ?_;refine H ?_;rw[hwj];refine w7 O O O O O O O hy O ?_;refine D ?_ ?_<;>intro h
   .have hle:x<=y:=ax h;clear h;have hv:jY t.L (j+1) x=10:=by rw[jY,if_pos d1,if_pos ⟨J,by rw[Nat.add_sub_cancel,hgy];exact hle⟩]
    have hfl:=hk.found hx hv Y;have hE:10=E:=by rw[<-hf,hfl];rfl
    subst hE;exact bm
   .have hle:¬x<=y:=aF h;clear h;have hv:jY t.L (j+1) x=0:=by rw[jY,if_pos d1,if_neg (fun g=>hle (by have:=g.2;rw[Nat.add_sub_cancel,hgy]at this;exact this))]
    refine H ?_;exact⟨j+1+1,hk.succ hx hv,J,O,congrArg I hw,O,trivial⟩
 .have hge:¬k<t.L.length:=by have:=aF h;omega
  clear h;rw[hk.none hge,if_pos O]at hf;refine H ?_;refine am (ClearE t.H0 rx) (fun k=>[(1,.ptr 1 1 0 0),(4,I (k:Nat))]) (fun _=>[(1,1,⟨130,4,[eT t],2⟩)]) (fun k=>t.H0.length-k) 0 .zero' ⟨O,O,O,trivial⟩ ?_;intro k s hk;have hkl:=hk.1;refine D ?_ ?_<;>intro h
  .have hlt:k<t.H0.length:=by have:=ax h;omega
   clear h;obtain⟨x,hx⟩:=aG hlt;have h1:=bT x 0 100000;have hw:=c_ k;refine aJ hx ?_;refine ap h1 ?_;by_cases d1:aw x 0 100000=true
   .have hv:rx k x=0:=by rw[rx,if_pos d1]
    rw[d1];refine H ?_;exact⟨k+1,hk.succ hx hv,J,O,congrArg I hw,O,trivial⟩
   .have hv:rx k x=2:=by rw[rx,if_neg d1]
    have hfl:=hk.found hx hv Y;have hE:2=E:=by rw[<-hf,hfl]
    subst hE;rw[Bool.not_eq_true]at d1;rw[d1];exact bm
  .have hge:¬k<t.H0.length:=by have:=aF h;omega
   clear h;rw[hk.none hge]at hf;subst hf;exact bm
set_option maxRecDepth 20000 in
theorem qF (t:ST)(hL:t.L.length<=9223372036854775807)(hH:t.H0.length<=9223372036854775807):Ret Tryz.prog .shared 127 [.agg (eT t),.raw (.pointer none)] (I (ij t none)):=by
 have h1:=bh t.x (-1000000) 1000000;have h2:=bh t.w 1 100000;generalize hf:ij t none=E;cases hp1:aw t.x (-1000000) 1000000 with
 |false =>
  have hE:2=E:=by rw[<-hf,ij,gU,hp1];rfl
  subst hE;rw[hp1]at h1;refine Ret.of_pwp layOk mixed Go.Proofs.Tryz.func127 O Y O O ?_;refine ap h1 ?_;exact bm
 |true =>
 cases hp2:aw t.w 1 100000 with
 |false =>
  have hE:2=E:=by rw[<-hf,ij,gU,hp1,hp2];rfl
  subst hE;rw[hp1]at h1;rw[hp2]at h2;refine Ret.of_pwp layOk mixed Go.Proofs.Tryz.func127 O Y O O ?_;refine ap h1 ?_;refine ap h2 ?_;exact bm
 |true =>
 have hpt:gU t=0:=by rw[gU,hp1,hp2];rfl
 rw[hp1]at h1;rw[hp2]at h2;rw[ij,if_pos hpt]at hf;refine Ret.of_pwp layOk mixed Go.Proofs.Tryz.func127 O Y O O ?_;refine ap h1 ?_;refine ap h2 ?_;refine H ?_;have hin:=bh t.L.length 2 30;have hml:((t.L.map eN).length:Int)=t.L.length:=ah;have hmh:((t.H0.map eN).length:Int)=t.H0.length:=ah;rw[hml];refine DU O O O hin O O O ?_;by_cases c1:aw t.L.length 2 30=true
 rotate_left
 .rw[Bool.not_eq_true]at c1;rw[c1];have hE:11=E:=by rw[<-hf,dg,if_neg (by rw[c1];simp)]
  subst hE;exact bm
 obtain⟨g1,g2⟩:=fh c1;have hwl:IntKind.i64.wrap ((t.L.length:Int)-1)=(t.L.length:Int)-1:=wrap_i64 J J;rw[c1];refine H ?_;rw[hml,hmh,hwl];refine D ?_ ?_<;>intro h
 .have hE:11=E:=by rw[<-hf,dg,if_neg (fun g=>absurd g.2 (by simpa using h))]
  subst hE;exact bm
 have c2:(t.H0.length:Int)=(t.L.length:Int)-1:=by simpa using h
 clear h;rw[dg,if_pos ⟨c1,c2⟩]at hf;refine H ?_;rw[hml];refine am (ClearE t.L (jY t.L)) (fun k=>[(2,.ptr 2 1 0 0),(59,.sl (t.L.map eN)),(60,I t.L.length),(61,I (k:Nat))]) (fun _=>[(2,1,⟨130,4,[eT t],2⟩)]) (fun k=>t.L.length-k) 0 .zero' ⟨O,O,by rw[<-hml];rfl,O,O,trivial⟩ ?_;intro k s hk;have hkl:=hk.1;refine D ?_ ?_<;>intro h
 .have hlt:k<t.L.length:=by have:=ax h;omega
  clear h;obtain⟨x,hx⟩:=aG hlt;have h1:=bh x 0 100000;have hw:=c_ k;refine aJ hx ?_;refine ap h1 ?_;by_cases d1:aw x 0 100000=true
  rotate_left
  .have hv:jY t.L k x=2:=by rw[jY,if_neg d1]
   have hfl:=hk.found hx hv Y;have hE:2=E:=by rw[<-hf,hfl];rfl
   subst hE;rw[Bool.not_eq_true]at d1;rw[d1];exact bm
  rw[d1];refine cY ?_ ?_<;>intro h
  rotate_left
  .have h0:k=0:=by have:=aF h;omega
   clear h;have hv:jY t.L k x=0:=by rw[jY,if_pos d1,if_neg J]
   refine H ?_;exact⟨k+1,hk.succ hx hv,J,O,O,O,congrArg I hw,O,trivial⟩
  .have h0:0<k:=by have:=ax h;omega
   clear h;obtain⟨j,rfl⟩:∃j,k=j+1:=⟨k-1,J⟩;obtain⟨y,hy⟩:=aG (show j<t.L.length by omega);have hgy:t.L.getD j 0=y:=by rw[List.getD_eq_getElem?_getD,hy];rfl
   have hwj:IntKind.i64.wrap (((j+1:Nat):Int)-1)=(j:Nat):=by rw[wrap_i64 J J];omega
   refine H ?_;rw[hwj];refine w7 O O O O O O O hy O ?_;refine D ?_ ?_<;>intro h
   .have hle:x<=y:=ax h;clear h;have hv:jY t.L (j+1) x=10:=by rw[jY,if_pos d1,if_pos ⟨J,by rw[Nat.add_sub_cancel,hgy];exact hle⟩]
    have hfl:=hk.found hx hv Y;have hE:10=E:=by rw[<-hf,hfl];rfl
    subst hE;exact bm
   .have hle:¬x<=y:=aF h;clear h;have hv:jY t.L (j+1) x=0:=by rw[jY,if_pos d1,if_neg (fun g=>hle (by have:=g.2;rw[Nat.add_sub_cancel,hgy]at this;exact this))]
    refine H ?_;exact⟨j+1+1,hk.succ hx hv,J,O,O,O,congrArg I hw,O,trivial⟩
 .have hge:¬k<t.L.length:=by have:=aF h;omega
  clear h;rw[hk.none hge,if_pos O]at hf;refine H ?_;rw[hmh];refine am (ClearE t.H0 rx) (fun k=>[(2,.ptr 2 1 0 0),(83,.sl (t.H0.map eN)),(84,I t.H0.length),(85,I (k:Nat))]) (fun _=>[(2,1,⟨130,4,[eT t],2⟩)]) (fun k=>t.H0.length-k) 0 .zero' ⟨O,O,by rw[<-hmh];rfl,O,O,trivial⟩ ?_;intro k s hk;have hkl:=hk.1;refine D ?_ ?_<;>intro h
  .have hlt:k<t.H0.length:=by have:=ax h;omega
   clear h;obtain⟨x,hx⟩:=aG hlt;have h1:=bh x 0 100000;have hw:=c_ k;refine aJ hx ?_;refine ap h1 ?_;by_cases d1:aw x 0 100000=true
   .have hv:rx k x=0:=by rw[rx,if_pos d1]
    rw[d1];refine H ?_;exact⟨k+1,hk.succ hx hv,J,O,O,O,congrArg I hw,O,trivial⟩
   .have hv:rx k x=2:=by rw[rx,if_neg d1]
    have hfl:=hk.found hx hv Y;have hE:2=E:=by rw[<-hf,hfl]
    subst hE;rw[Bool.not_eq_true]at d1;rw[d1];exact bm
  .have hge:¬k<t.H0.length:=by have:=aF h;omega
   clear h;rw[hk.none hge]at hf;subst hf;exact bm
set_option maxRecDepth 20000 in
theorem qG (t u:ST)(hu:gU u=0)(hL:t.L.length<=9223372036854775807)(hH:t.H0.length<=9223372036854775807):Ret Tryz.prog .shared 127 [.agg (eT t),.dref (eT u) 0] (I (ij t (some u))):=by
 have h1:=bh t.x (-1000000) 1000000;have h2:=bh t.w 1 100000;generalize hf:ij t (some u)=E;cases hp1:aw t.x (-1000000) 1000000 with
 |false =>
  have hE:2=E:=by rw[<-hf,ij,gU,hp1];rfl
  subst hE;rw[hp1]at h1;refine Ret.of_pwp layOk mixed Go.Proofs.Tryz.func127 O Y O O ?_;refine ap h1 ?_;exact bm
 |true =>
 cases hp2:aw t.w 1 100000 with
 |false =>
  have hE:2=E:=by rw[<-hf,ij,gU,hp1,hp2];rfl
  subst hE;rw[hp1]at h1;rw[hp2]at h2;refine Ret.of_pwp layOk mixed Go.Proofs.Tryz.func127 O Y O O ?_;refine ap h1 ?_;refine ap h2 ?_;exact bm
 |true =>
 have hpt:gU t=0:=by rw[gU,hp1,hp2];rfl
 rw[hp1]at h1;rw[hp2]at h2;rw[ij,if_pos hpt]at hf;obtain⟨⟨a1,a2⟩,a3,a4⟩:=nl hpt;obtain⟨⟨b1,b2⟩,b3,b4⟩:=nl hu;have k1:IntKind.i64.wrap (t.x-u.x)=t.x-u.x:=wrap_i64 J J;have k2:IntKind.i64.wrap (2*(t.x-u.x))=2*(t.x-u.x):=wrap_i64 J J;have k3:IntKind.i64.wrap (t.w+u.w)=t.w+u.w:=wrap_i64 J J;refine Ret.of_pwp layOk mixed Go.Proofs.Tryz.func127 O Y O O ?_;refine ap h1 ?_;refine ap h2 ?_;refine bU 8 [22,23,24,25,26,27,28,5] ?_;refine H ?_;rw[k1];refine D ?_ ?_<;>intro h
 .have d1:t.x-u.x<=0:=ax h;clear h;have hb:i9 t u=10:=by rw[i9,if_pos d1]
  have hE:10=E:=by rw[<-hf,hb];rfl
  subst hE;exact bm
 have d1:¬t.x-u.x<=0:=aF h;clear h;refine bU 11 [33,34,35,36,37,38,39,40,41,42,32] ?_;refine H ?_;rw[k2];refine H ?_;rw[k3];refine D ?_ ?_<;>intro h
 .have d2:2*(t.x-u.x)<t.w+u.w:=ax h;clear h;have hb:i9 t u=17:=by rw[i9,if_neg d1,if_pos d2]
  have hE:17=E:=by rw[<-hf,hb];rfl
  subst hE;exact bm
 have d2:¬2*(t.x-u.x)<t.w+u.w:=aF h;clear h;have hb:i9 t u=0:=by rw[i9,if_neg d1,if_neg d2]
 rw[if_pos hb]at hf;clear k1 k2 k3 a1 a2 a3 a4 b1 b2 b3 b4 hb d1 d2 hu;refine H ?_;have hin:=bh t.L.length 2 30;have hml:((t.L.map eN).length:Int)=t.L.length:=ah;have hmh:((t.H0.map eN).length:Int)=t.H0.length:=ah;rw[hml];refine DU O O O hin O O O ?_;by_cases c1:aw t.L.length 2 30=true
 rotate_left
 .rw[Bool.not_eq_true]at c1;rw[c1];have hE:11=E:=by rw[<-hf,dg,if_neg (by rw[c1];simp)]
  subst hE;exact bm
 obtain⟨g1,g2⟩:=fh c1;have hwl:IntKind.i64.wrap ((t.L.length:Int)-1)=(t.L.length:Int)-1:=wrap_i64 J J;rw[c1];refine H ?_;rw[hml,hmh,hwl];refine D ?_ ?_<;>intro h
 .have hE:11=E:=by rw[<-hf,dg,if_neg (fun g=>absurd g.2 (by simpa using h))]
  subst hE;exact bm
 have c2:(t.H0.length:Int)=(t.L.length:Int)-1:=by simpa using h
 clear h;rw[dg,if_pos ⟨c1,c2⟩]at hf;refine H ?_;rw[hml];refine am (ClearE t.L (jY t.L)) (fun k=>[(2,.ptr 2 1 0 0),(59,.sl (t.L.map eN)),(60,I t.L.length),(61,I (k:Nat))]) (fun _=>[(2,1,⟨130,4,[eT t],2⟩)]) (fun k=>t.L.length-k) 0 .zero' ⟨O,O,by rw[<-hml];rfl,O,O,trivial⟩ ?_;intro k s hk;have hkl:=hk.1;refine D ?_ ?_<;>intro h
 .have hlt:k<t.L.length:=by have:=ax h;omega
  clear h;obtain⟨x,hx⟩:=aG hlt;have h1:=bh x 0 100000;have hw:=c_ k;refine aJ hx ?_;refine ap h1 ?_;by_cases d1:aw x 0 100000=true
  rotate_left
  .have hv:jY t.L k x=2:=by rw[jY,if_neg d1]
   have hfl:=hk.found hx hv Y;have hE:2=E:=by rw[<-hf,hfl];rfl
   subst hE;rw[Bool.not_eq_true]at d1;rw[d1];exact bm
  rw[d1];refine cY ?_ ?_<;>intro h
  rotate_left
  .have h0:k=0:=by have:=aF h;omega
   clear h;have hv:jY t.L k x=0:=by rw[jY,if_pos d1,if_neg J]
   refine H ?_;exact⟨k+1,hk.succ hx hv,J,O,O,O,congrArg I hw,O,trivial⟩
  .have h0:0<k:=by have:=ax h;omega
   clear h;obtain⟨j,rfl⟩:∃j,k=j+1:=⟨k-1,J⟩;obtain⟨y,hy⟩:=aG (show j<t.L.length by omega);have hgy:t.L.getD j 0=y:=by rw[List.getD_eq_getElem?_getD,hy];rfl
   have hwj:IntKind.i64.wrap (((j+1:Nat):Int)-1)=(j:Nat):=by rw[wrap_i64 J J];omega
   refine H ?_;rw[hwj];refine w7 O O O O O O O hy O ?_;refine D ?_ ?_<;>intro h
   .have hle:x<=y:=ax h;clear h;have hv:jY t.L (j+1) x=10:=by rw[jY,if_pos d1,if_pos ⟨J,by rw[Nat.add_sub_cancel,hgy];exact hle⟩]
    have hfl:=hk.found hx hv Y;have hE:10=E:=by rw[<-hf,hfl];rfl
    subst hE;exact bm
   .have hle:¬x<=y:=aF h;clear h;have hv:jY t.L (j+1) x=0:=by rw[jY,if_pos d1,if_neg (fun g=>hle (by have:=g.2;rw[Nat.add_sub_cancel,hgy]at this;exact this))]
    refine H ?_;exact⟨j+1+1,hk.succ hx hv,J,O,O,O,congrArg I hw,O,trivial⟩
 .have hge:¬k<t.L.length:=by have:=aF h;omega
  clear h;rw[hk.none hge,if_pos O]at hf;refine H ?_;rw[hmh];refine am (ClearE t.H0 rx) (fun k=>[(2,.ptr 2 1 0 0),(83,.sl (t.H0.map eN)),(84,I t.H0.length),(85,I (k:Nat))]) (fun _=>[(2,1,⟨130,4,[eT t],2⟩)]) (fun k=>t.H0.length-k) 0 .zero' ⟨O,O,by rw[<-hmh];rfl,O,O,trivial⟩ ?_;intro k s hk;have hkl:=hk.1;refine D ?_ ?_<;>intro h
  .have hlt:k<t.H0.length:=by have:=ax h;omega
   clear h;obtain⟨x,hx⟩:=aG hlt;have h1:=bh x 0 100000;have hw:=c_ k;refine aJ hx ?_;refine ap h1 ?_;by_cases d1:aw x 0 100000=true
   .have hv:rx k x=0:=by rw[rx,if_pos d1]
    rw[d1];refine H ?_;exact⟨k+1,hk.succ hx hv,J,O,O,O,congrArg I hw,O,trivial⟩
   .have hv:rx k x=2:=by rw[rx,if_neg d1]
    have hfl:=hk.found hx hv Y;have hE:2=E:=by rw[<-hf,hfl]
    subst hE;rw[Bool.not_eq_true]at d1;rw[d1];exact bm
  .have hge:¬k<t.H0.length:=by have:=aF h;omega
   clear h;rw[hk.none hge]at hf;subst hf;exact bm
structure LR where
 nm:List UInt8
 m:Int
 x:Int
 z:Int
 f:Int
def eLd (w:LR):List PV:=[.str w.nm,I w.m,I w.x,I w.z,I w.f]
def Bn (w:LR)(least:Int):Bool:=aw w.m least 1000000000&&aw w.x (-1000000) 1000000&&aw w.z (-100000) 100000&&aw w.f 0 1000000000
def lg (w:LR)(least:Int):Int:=if Bn w least=true then 0 else 2
def ek (w:LR)(before:List LR)(least:Int):Int:=if bS w.nm=true then(if w.nm∈before.map (·.nm) then 5 else lg w least) else 4
theorem lU (w:LR)(least:Int):Ret Tryz.prog .shared 191 [.agg (eLd w),I least] (I (lg w least)):=by
 have h1:=bh w.m least 1000000000;have h2:=bh w.x (-1000000) 1000000;have h3:=bh w.z (-100000) 100000;have h4:=bh w.f 0 1000000000;rw[lg,Bn];generalize aw w.m least 1000000000=p1 at *
 generalize aw w.x (-1000000) 1000000=p2 at *
 generalize aw w.z (-100000) 100000=p3 at *
 generalize aw w.f 0 1000000000=p4 at *
 obtain⟨nm,m,x,z,f⟩:=w;simp only at *
 cases p1
 .refine Ret.of_pwp layOk mixed Go.Proofs.Tryz.func191 O Y O O ?_;refine ap h1 ?_;exact bm
 .cases p2
  .refine Ret.of_pwp layOk mixed Go.Proofs.Tryz.func191 O Y O O ?_;refine ap h1 ?_;refine ap h2 ?_;exact bm
  .cases p3
   .refine Ret.of_pwp layOk mixed Go.Proofs.Tryz.func191 O Y O O ?_;refine ap h1 ?_;refine ap h2 ?_;refine ap h3 ?_;exact bm
   .cases p4;all_goals
     refine Ret.of_pwp layOk mixed Go.Proofs.Tryz.func191 O Y O O ?_;refine ap h1 ?_;refine ap h2 ?_;refine ap h3 ?_;refine ap h4 ?_;exact bm
set_option maxRecDepth 20000 in
theorem pg (w:LR)(B:List LR)(hB:B.length<=1000000)(least:Int):Ret Tryz.prog .shared 105 [.agg (eLd w),.sl (B.map eLd),I least] (I (ek w B least)):=by
 have h0:=jE w.nm;have h1:=bT w.m least 1000000000;have h2:=bT w.x (-1000000) 1000000;have h3:=bT w.z (-100000) 100000;have h4:=bT w.f 0 1000000000;have hmB:(B.map eLd).length=B.length:=List.length_map _;generalize hf:ek w B least=E;rw[ek]at hf;obtain⟨nm,m,x,z,f⟩:=w;simp only at *
 refine Ret.of_pwp layOk mixed Go.Proofs.Tryz.func105 O Y O O ?_;refine ap h0 ?_;cases hn:bS nm with
 |false =>
  rw[hn]at hf;subst hf;exact bm
 |true =>
  rw[hn,if_pos O]at hf;refine H ?_;refine am (fun k:Nat=>k<=B.length/\∀j u,j<k->B[j]? = some u->u.nm≠nm) (fun k=>[(1,.sl (B.map eLd)),(2,I least),(3,.ptr 3 1 0 0),(7,I (k:Nat))]) (fun _=>[(3,1,⟨24,5,[eLd ⟨nm,m,x,z,f⟩],2⟩)]) (fun k=>B.length-k) 0 ⟨Nat.zero_le _,fun j u hj=>absurd hj J⟩ ⟨O,O,O,O,O,trivial⟩ ?_;rintro k s ⟨hk,hall⟩;refine D ?_ ?_<;>intro h
  .have hlt:k<B.length:=by have:=ax h;simp only[hmB]at this;omega
   clear h;obtain⟨u,hu⟩:=aG hlt;have hw:=c_ k;refine bU 8 [18,19,20,21,22,23,24,25] ?_;refine aJ hu ?_;refine D ?_ ?_<;>intro h
   .have he:u.nm=nm:=by simpa using h
    clear h;rw[if_pos (List.mem_map.2 ⟨u,aZ hu,he⟩)]at hf;subst hf;exact bm
   .have he:u.nm≠nm:=by simpa using h
    clear h;refine H ?_;refine⟨k+1,⟨hlt,fun j v hj hv=>?_⟩,J,O,O,O,congrArg I hw,O,trivial⟩;rcases Nat.lt_or_ge j k with g|g
    .exact hall j v g hv
    .rw[show j=k by omega,hu]at hv;cases hv;exact he
  .have hge:k=B.length:=by have:=aF h;simp only[hmB]at this;omega
   clear h;subst hge;rw[if_neg (fun g=>by
    obtain⟨u,hu,he⟩:=List.mem_map.1 g;obtain⟨j,hj⟩:=List.mem_iff_getElem?.1 hu
    exact hall j u (be hj).1 hj he),lg,Bn]at hf
   generalize aw m least 1000000000=p1 at *
   generalize aw x (-1000000) 1000000=p2 at *
   generalize aw z (-100000) 100000=p3 at *
   generalize aw f 0 1000000000=p4 at *
   subst hf;refine ap h1 ?_;cases p1
   .exact bm
   refine ap h2 ?_;cases p2
   .exact bm
   refine ap h3 ?_;cases p3
   .exact bm
   refine ap h4 ?_;cases p4;all_goals
    exact bm
theorem wS (z k:PV)(row:List PV)(rows:List (List PV)):fY z k (row::rows)=bif td k row then row.getD 1 z else fY z k rows:=by
 simp only[fY,fk];cases td k row
 .simp only[cond_false];cases fk k rows<;>rfl
 .rfl
theorem wR (key v:PV)(row:List PV)(rows:List (List PV)):iD key v (row::rows)=bif td key row then row.set 1 v::rows else row::iD key v rows:=by
 unfold iD;cases h:td key row with
 |true=>simp[fk,h]
 |false =>
  simp only[fk,h,cond_false];cases hm:fk key rows with
  |none=>simp
  |some i =>
   have hi:=k_ hm;simp[List.getElem?_eq_getElem hi]
theorem xz [Globs]{P:Program}{L:Lay}{s:St}{T:TypeId}{x y v:Operand}{ty:TypeId}{pos:String}{af:Array Edge}{K:St->Prop}(h:POp P L s ⟨none,.mapUpdate T x y v,ty,pos,af,none⟩ K):Sm P L s ⟨none,.insert T x y v,ty,pos,af,none⟩ K:=by
 intro C a w Q hG hs hN;have h2:Oper.wp P ⟨none,.mapUpdate T x y v,ty,pos,af,none⟩ a w (fun a' w'=>∃s',SimE C s' a' w'/\K s') Q:=POp.wp (o:=⟨none,.mapUpdate T x y v,ty,pos,af,none⟩) hG hs hN h fun s' _ _ h' hk=>⟨s',h',hk⟩;exact h2
def Cu (n:Str):List PV:=[.str n,.bool true]
theorem uS (d:Str):∀m:List Str,fY (.bool false) (.str d) (m.map Cu) = .bool (decide (d∈m))
 |[]=>by simp;rfl
 |e::m=>by
  rw[List.map_cons,wS,uS d m];have:td (.str d) (Cu e)=decide (e=d):=O;rw[this];by_cases h:e=d
  .have h2:d∈e::m:=by rw[h];exact List.mem_cons_self
   rw[decide_eq_true h,decide_eq_true h2];rfl
  .rw[decide_eq_false h];have:decide (d∈e::m)=decide (d∈m):=by rw[decide_eq_decide,List.mem_cons];exact⟨fun g=>g.resolve_left fun e'=>h e'.symm,.inr⟩
   rw[this];rfl
theorem uR (d:Str):∀m:List Str,d∉m->iD (.str d) (.bool true) (m.map Cu)=(m++[d]).map Cu
 |[],_=>rfl
 |e::m,h=>by
  have h1:¬e=d:=fun g=>h (by simp[g]);have h2:d∉m:=fun g=>h (List.mem_cons_of_mem _ g);rw[List.map_cons,wR,uR d m h2];have:td (.str d) (Cu e)=decide (e=d):=O;rw[this,decide_eq_false h1];rfl
theorem rF (m:List Str):fJ .str (m.map Cu)=true:=by
 induction m with
 |nil=>rfl
 |cons e m ih=>rw[List.map_cons];exact ih
structure SHP where
 nm:Str
 len:Int
 st:List ST
 light:LR
 it:List LR
def ep (s:SHP):List PV:=[.str s.nm,I s.len,.sl (s.st.map eT)]++eLd s.light++[.sl (s.it.map eLd)]
def Dc (light:LR)(it:List LR)(i:Nat)(w:LR):Int:=ek w (light::it.take i) 0
def jI (s:SHP):Int:=if ek s.light [] 1=0 then(if 60<s.it.length then 8 else eG s.it (Dc s.light s.it)) else ek s.light [] 1
set_option maxRecDepth 20000 in
theorem mI (s:SHP)(h1:s.it.length<=9223372036854775807):Ret Tryz.prog .shared 128 [.agg (ep s)] (I (jI s)):=by
 have n0:=jF s.light.nm;have n1:=lU s.light 1;have hmi:(s.it.map eLd).length=s.it.length:=List.length_map _;generalize hf:jI s=E;rw[jI]at hf;have hl:ek s.light [] 1=if bS s.light.nm=true then lg s.light 1 else 4:=by rw[ek];simp
 rw[hl]at hf;clear hl;obtain⟨nm,len,st,light,it⟩:=s;simp only at *
 refine Ret.of_pwp layOk mixed Go.Proofs.Tryz.func128 O Y O O ?_;refine ap n0 ?_;cases hn:bS light.nm with
 |false =>
  rw[hn]at hf;subst hf;exact bm
 |true =>
  rw[hn,if_pos O]at hf;refine ap n1 ?_;by_cases he:lg light 1=0
  rotate_left
  .rw[if_neg he]at hf;generalize lg light 1=e at *
   subst hf;refine D ?_ ?_<;>intro h
   .clear h;exact bm
   .simp at h;exact absurd h he
  rw[if_pos he]at hf;rw[he];refine H ?_;rw[hmi];refine aV O ?_ ?_<;>intro h
  .rw[if_pos (by have:=ax h;omega)]at hf;subst hf;exact bm
  have h60:¬60<it.length:=by have:=aF h;omega
  clear h;rw[if_neg h60]at hf
  ((repeat ((fail_if_success (with_reducible refine aR 8 ?_));refine cu O ?_));refine aN 4 ?_)
  refine aE (Bs O ?_);iterate 3 refine eg O ?_
  refine aT ?_;refine bc O (xz (y_ 0 O O O O O O O O O O O O ?_));refine aQ ?_;refine H ?_;rw[hmi];refine bq [(1,.ptr 1 1 0 0),(4,.mp 23 1),(29,.sl (it.map eLd)),(30,I it.length),(31,I ((0:Nat):Int))] [(1,1,⟨27,9,[ep ⟨nm,len,st,light,it⟩],2⟩),(23,1,⟨257,0,[Cu light.nm],0⟩)] ⟨O,O,O,O,O,O,O,trivial⟩ ?_;intro s0;refine am (ClearE it (Dc light it)) (fun k=>[(1,.ptr 1 1 0 0),(4,.mp 23 1),(29,.sl (it.map eLd)),(30,I it.length),(31,I (k:Nat))]) (fun k=>[(1,1,⟨27,9,[ep ⟨nm,len,st,light,it⟩],2⟩),(23,1,⟨257,0,((light::it.take k).map (·.nm)).map Cu,0⟩)]) (fun k=>it.length-k) 0 .zero' ⟨O,O,O,O,O,O,O,trivial⟩ ?_;intro k s1 hk;have hkl:=hk.1;refine D ?_ ?_<;>intro h
  .have hlt:k<it.length:=by have:=ax h;omega
   clear h;obtain⟨w,hx⟩:=aG hlt;have m0:=jF w.nm;have m1:=lU w 0;have hw:=c_ k;have hsn:(light::it.take (k+1)).map (·.nm)=(light::it.take k).map (·.nm)++[w.nm]:=by rw[bk hx];simp
   have hv:Dc light it k w=if bS w.nm=true then(if w.nm∈(light::it.take k).map (·.nm) then 5 else lg w 0) else 4:=O
   generalize (light::it.take k).map (·.nm)=D0 at *
   have hlook:=uS w.nm D0;obtain⟨wn,wm,wx,wz,wf⟩:=w;simp only at *
   refine aJ hx ?_;refine ap m0 ?_;cases hn2:bS wn with
   |false =>
    rw[hn2,if_neg Y]at hv;have hfl:=hk.found hx hv Y;rw[hfl]at hf;subst hf;exact bm
   |true =>
    rw[hn2,if_pos O]at hv;refine H ?_;refine bI O O (Do O O O O O br O O O O O (rF _)) ?_;rw[hlook];by_cases hd:wn∈D0
    .rw[if_pos hd]at hv;rw[decide_eq_true hd];have hfl:=hk.found hx hv Y;rw[hfl]at hf;subst hf;exact bm
    .rw[if_neg hd]at hv;rw[decide_eq_false hd];have hput:=uR wn D0 hd;refine H ?_;refine bR (y_ 0 O O O O O O O O O (rF _) O O ?_);refine ap m1 ?_;by_cases hz:lg ⟨wn,wm,wx,wz,wf⟩ 0=0
     rotate_left
     .have hfl:=hk.found hx hv hz;rw[hfl]at hf;generalize lg ⟨wn,wm,wx,wz,wf⟩ 0=e at *
      subst hf;refine D ?_ ?_<;>intro h
      .clear h;exact bm
      .simp at h;exact absurd h hz
     rw[hz]at hv;rw[hz];refine H ?_;refine⟨k+1,hk.succ hx hv,J,O,O,O,O,congrArg I hw,O,?_,trivial⟩;rw[hsn,<-hput];rfl
  .have hge:¬k<it.length:=by have:=aF h;omega
   clear h;rw[hk.none hge]at hf;subst hf;exact bm
def sd (st:List ST)(i:Nat):Option ST:=if i=0 then none else st[i-1]?
def te (st:List ST)(i:Nat)(t:ST):Int:=ij t (sd st i)
def cE (s:SHP):Int:=if bS s.nm=true then(if aw s.len 1 1000000=true/\aw s.st.length 1 40=true then(if eG s.st (te s.st)=0 then jI s else eG s.st (te s.st)) else 2) else 4
structure SHP.Len (s:SHP):Prop where
 st:s.st.length<=9223372036854775807
 it:s.it.length<=9223372036854775807
 L:∀t∈s.st,t.L.length<=9223372036854775807/\t.H0.length<=9223372036854775807
theorem qE {t:ST}{u:Option ST}(h:ij t u=0):gU t=0:=by
 unfold ij at h;split at h
 .assumption
 .assumption
theorem lj {st:List ST}{j:Nat}{u:ST}(h:st[j]? = some u):sd st (j+1)=some u:=by rw[sd,if_neg J,Nat.add_sub_cancel,h]
def AO (st:List ST)(i:Nat):PV:=match sd st i with
 |none => .raw (.pointer none)
 |some u => .dref (eT u) 0
theorem k6 {n:Nat}(h:aw (n:Int) 1 40=true):n<=40:=by
 simp[aw]at h;omega
set_option maxRecDepth 20000 in
theorem gF (s:SHP)(hs:s.Len):Ret Tryz.prog .shared 66 [.agg (ep s)] (I (cE s)):=by
 have n0:=jF s.nm;have n1:=bh s.len 1 1000000;have n2:=bh s.st.length 1 40;have hml:((s.st.map eT).length:Int)=s.st.length:=ah;have hld:=mI s hs.it;have hL:=hs.L;generalize hf:cE s=E;rw[cE]at hf;generalize jI s=le at *
 obtain⟨nm,len,st,light,it⟩:=s;simp only at *
 refine Ret.of_pwp layOk mixed Go.Proofs.Tryz.func66 O Y O O ?_;refine ap n0 ?_;cases hn:bS nm with
 |false =>
  rw[hn,if_neg Y]at hf;subst hf;exact bm
 |true =>
  rw[hn,if_pos O]at hf;refine ap n1 ?_;cases h1:aw len 1 1000000 with
  |false =>
   rw[h1,if_neg ah]at hf;subst hf;exact bm
  |true =>
   refine H ?_;rw[hml];refine DU O O O n2 O O O ?_;cases h2:aw st.length 1 40 with
   |false =>
    rw[h2,if_neg ah]at hf;subst hf;exact bm
   |true =>
    have h40:=k6 h2;rw[h1,h2,if_pos ⟨O,O⟩]at hf;refine H ?_;rw[hml];refine am (ClearE st (te st)) (fun k=>[(1,.ptr 1 1 0 0),(3,AO st k),(23,.sl (st.map eT)),(24,I st.length),(25,I (k:Nat))]) (fun _=>[(1,1,⟨27,9,[ep ⟨nm,len,st,light,it⟩],2⟩)]) (fun k=>st.length-k) 0 .zero' ⟨O,O,O,O,O,O,trivial⟩ ?_;intro k s1 hk;have hkl:=hk.1;refine D ?_ ?_<;>intro h
    .have hlt:k<st.length:=by have:=ax h;omega
     clear h;obtain⟨t,hx⟩:=aG hlt;obtain⟨l1,l2⟩:=hL t (aZ hx);have hw:=c_ k;have hnb:PV.dref (eT t) 0=AO st (k+1):=by rw[AO,lj hx]
     have hc:Ret Tryz.prog .shared 127 [.agg (eT t),AO st k] (I (te st k t)):=by
      cases k with
      |zero=>exact qF t l1 l2
      |succ j =>
       obtain⟨u,hu⟩:=aG (show j<st.length by omega);rw[te,AO,lj hu];exact qG t u (qE (hk.2 j u J hu)) l1 l2
     have hfb:(AO st k = .raw (.pointer none))\/∃u,AO st k = .dref (eT u) 0:=by
      rw[AO];cases sd st k with
      |none=>exact .inl rfl
      |some u=>exact .inr ⟨u,rfl⟩
     have hfl:=fun e (h:te st k t=e) (he:e≠0)=>hk.found hx h he;have hsu:=fun(h:te st k t=0)=>hk.succ hx h;generalize te st k t=e at *
     generalize AO st k=bp at *
     rcases hfb with rfl|⟨u,rfl⟩
     .refine aJ hx ?_;refine ap hc ?_;refine D ?_ ?_<;>intro h
      .have he:e≠0:=by simpa using h
       clear h;rw[hfl e O he,if_neg he]at hf;subst hf;exact bm
      .have he:e=0:=by simpa using h
       clear h;refine aJ hx ?_;refine H ?_;exact⟨k+1,hsu he,J,O,hnb,O,O,congrArg I hw,O,trivial⟩
     .refine aJ hx ?_;refine ap hc ?_;refine D ?_ ?_<;>intro h
      .have he:e≠0:=by simpa using h
       clear h;rw[hfl e O he,if_neg he]at hf;subst hf;exact bm
      .have he:e=0:=by simpa using h
       clear h;refine aJ hx ?_;refine H ?_;exact⟨k+1,hsu he,J,O,hnb,O,O,congrArg I hw,O,trivial⟩
    .have hge:¬k<st.length:=by have:=aF h;omega
     clear h;rw[hk.none hge,if_pos O]at hf;subst hf;refine ap hld ?_;exact bm
theorem rb (d:Int):Ret Tryz.prog .shared 232 [I d] (I (if aw d 900 1100=true then 0 else 2)):=by
 have h1:=bh d 900 1100;generalize aw d 900 1100=p at *
 cases p;all_goals
  refine Ret.of_pwp layOk mixed Go.Proofs.Tryz.func232 O Y O O ?_;refine ap h1 ?_;exact bm
theorem qn (d:Int):Ret Tryz.prog .shared 70 [I d] (I (if aw d 900 1100=true then 0 else 2)):=by
 have h1:=bT d 900 1100;generalize aw d 900 1100=p at *
 cases p;all_goals
  refine Ret.of_pwp layOk mixed Go.Proofs.Tryz.func70 O Y O O ?_;refine ap h1 ?_;exact bm
def jA (s:SHP)(d:Int):Int:=if cE s=0 then(if aw d 900 1100=true then 0 else 2) else cE s
theorem rn (s:SHP)(hs:s.Len)(d:Int):Ret Tryz.prog .shared 170 [.agg (ep s),I d] (I (jA s d)):=by
 have h1:=gF s hs;have h2:=rb d;rw[jA];generalize (if aw d 900 1100=true then(0:Int) else 2)=e2 at *
 generalize cE s=e at *
 by_cases he:e=0
 .subst he;rw[if_pos O];refine Ret.of_pwp layOk mixed Go.Proofs.Tryz.func170 O Y O O ?_;refine ap h1 ?_;refine ap h2 ?_;exact bm
 .rw[if_neg he];refine Ret.of_pwp layOk mixed Go.Proofs.Tryz.func170 O Y O O ?_;refine ap h1 ?_;refine D ?_ ?_<;>intro h
  .clear h;exact bm
  .simp at h;exact absurd h he
set_option maxRecDepth 20000 in
theorem lZ (s:SHP)(hs:s.Len):Ret Tryz.prog .shared 41 [.agg (ep s)] (I (cE s)):=by
 have n0:=jE s.nm;have n1:=bT s.len 1 1000000;have n2:=bT s.st.length 1 40;have hml:((s.st.map eT).length:Int)=s.st.length:=ah;have hmi:((s.it.map eLd).length:Int)=s.it.length:=ah;have hL:=hs.L;have hld0:=pg s.light [] Y 1;have hld0:Ret Tryz.prog .shared 105 [.agg (eLd s.light),.nil,I 1] (I (ek s.light [] 1)):=hld0.weak (.cons (.rfl _) (.cons .nil (.cons (.rfl _) .nil))) (.rfl _);generalize hf:cE s=E;rw[cE]at hf;have hle:jI s=if ek s.light [] 1=0 then(if 60<s.it.length then 8 else eG s.it (Dc s.light s.it)) else ek s.light [] 1:=O
 obtain⟨nm,len,st,light,it⟩:=s;simp only at *
 refine Ret.of_pwp layOk mixed Go.Proofs.Tryz.func41 O Y O O ?_;refine ap n0 ?_;cases hn:bS nm with
 |false =>
  rw[hn,if_neg Y]at hf;subst hf;exact bm
 |true =>
  rw[hn,if_pos O]at hf;refine ap n1 ?_;cases h1:aw len 1 1000000 with
  |false =>
   rw[h1,if_neg ah]at hf;subst hf;exact bm
  |true =>
   refine H ?_;rw[hml];refine DU O O O n2 O O O ?_;cases h2:aw st.length 1 40 with
   |false =>
    rw[h2,if_neg ah]at hf;subst hf;exact bm
   |true =>
    have h40:=k6 h2;rw[h1,h2,if_pos ⟨O,O⟩]at hf;refine H ?_;refine am (ClearE st (te st)) (fun k=>[(1,.ptr 1 1 0 0),(3,I (k:Nat))]) (fun _=>[(1,1,⟨27,9,[ep ⟨nm,len,st,light,it⟩],2⟩)]) (fun k=>st.length-k) 0 .zero' ⟨O,O,O,trivial⟩ ?_;intro k s1 hk;have hkl:=hk.1;refine H ?_;rw[hml];refine aV O ?_ ?_<;>intro h
    .have hlt:k<st.length:=by have:=ax h;omega
     clear h;obtain⟨t,hx⟩:=aG hlt;obtain⟨l1,l2⟩:=hL t (aZ hx);have hw:=c_ k;have c1:=zU t;have c2:=xe t l1 l2;refine aJ hx ?_;refine ap c1 ?_;refine D ?_ ?_<;>intro h
     .have he:gU t≠0:=by simpa using h
      clear h;have hfl:=hk.found hx (show te st k t=gU t by rw[te,ij.eq_def,if_neg he]) he;rw[hfl,if_neg he]at hf;subst hf;exact bm
     have hpt:gU t=0:=by simpa using h
     clear h c1;refine bU 14 [43,44,45,46,47,48,49,50,51,52,53,54,55,56] ?_;refine H ?_;cases k with
     |zero =>
      have hst:te st 0 t=dg t:=by rw[te,ij.eq_def,if_pos hpt];rfl
      refine bU 26 [57,58,59,60,61,62,63,64,65,66,67,68,69,70,71,72,73,74,75,76,77,78,79,80,81,82] ?_;refine ap c2 ?_;refine D ?_ ?_<;>intro h
      .have he:dg t≠0:=by simpa using h
       clear h;rw[hk.found hx hst he,if_neg he]at hf;subst hf;exact bm
      .have he:dg t=0:=by simpa using h
       clear h;rw[he]at hst;refine H ?_;exact⟨0+1,hk.succ hx hst,J,O,congrArg I hw,O,trivial⟩
     |succ j =>
      obtain⟨u,hu⟩:=aG (show j<st.length by omega);have hpu:=qE (hk.2 j u J hu);obtain⟨⟨a1,a2⟩,a3,a4⟩:=nl hpt;obtain⟨⟨b1,b2⟩,b3,b4⟩:=nl hpu;have k1:IntKind.i64.wrap (t.x-u.x)=t.x-u.x:=wrap_i64 J J;have k2:IntKind.i64.wrap (2*(t.x-u.x))=2*(t.x-u.x):=wrap_i64 J J;have k3:IntKind.i64.wrap (t.w+u.w)=t.w+u.w:=wrap_i64 J J;have hwj:IntKind.i64.wrap (((j+1:Nat):Int)-1)=(j:Nat):=by rw[wrap_i64 J J];omega
      have hse:te st (j+1) t=if i9 t u=0 then dg t else i9 t u:=by rw[te,ij.eq_def,if_pos hpt,lj hu]
      refine Ap O O O ?_ ?_<;>intro h
      rotate_left
      .exfalso;have:=aF h;omega
      clear h;refine H ?_;rw[hwj];refine w7 O O O O O O O hu O ?_;refine D ?_ ?_<;>intro h
      .have d1:t.x<=u.x:=ax h;clear h;have hb:i9 t u=10:=by rw[i9,if_pos J]
       rw[hb,if_neg Y]at hse;rw[hk.found hx hse Y,if_neg Y]at hf;subst hf;exact bm
      have d1:¬t.x<=u.x:=aF h;clear h;refine bU 26 [57,58,59,60,61,62,63,64,65,66,67,68,69,70,71,72,73,74,75,76,77,78,79,80,81,82] ?_;refine cY ?_ ?_<;>intro h
      rotate_left
      .exfalso;have:=aF h;omega
      clear h;refine H ?_;rw[hwj];refine w7 O O O O O O O hu O ?_;refine H ?_;rw[k1];refine H ?_;rw[k2];refine H ?_;rw[hwj];refine w7 O O O O O O O hu O ?_;refine H ?_;rw[k3];refine D ?_ ?_<;>intro h
      .have d2:2*(t.x-u.x)<t.w+u.w:=ax h;clear h;have hb:i9 t u=17:=by rw[i9,if_neg J,if_pos d2]
       rw[hb,if_neg Y]at hse;rw[hk.found hx hse Y,if_neg Y]at hf;subst hf;exact bm
      have d2:¬2*(t.x-u.x)<t.w+u.w:=aF h;clear h;have hb:i9 t u=0:=by rw[i9,if_neg J,if_neg d2]
      rw[if_pos hb]at hse;have hst:=hse;refine ap c2 ?_;refine D ?_ ?_<;>intro h
      .have he:dg t≠0:=by simpa using h
       clear h;rw[hk.found hx hst he,if_neg he]at hf;subst hf;exact bm
      .have he:dg t=0:=by simpa using h
       clear h;rw[he]at hst;refine H ?_;exact⟨j+1+1,hk.succ hx hst,J,O,congrArg I hw,O,trivial⟩
    .have hge:¬k<st.length:=by have:=aF h;omega
     clear h;rw[hk.none hge,if_pos O,hle]at hf;refine ap hld0 ?_;refine H ?_;by_cases hz:ek light [] 1=0
     rotate_left
     .rw[if_neg hz]at hf;generalize ek light [] 1=e at *
      subst hf;refine aV O ?_ ?_<;>intro h
      .clear h;exact bm
      .simp at h;exact absurd h hz
     rw[if_pos hz]at hf;rw[hz];refine H ?_;rw[hmi];refine aV O ?_ ?_<;>intro h
     .rw[if_pos (by have:=ax h;omega)]at hf;subst hf;exact bm
     have h60:¬60<it.length:=by have:=aF h;omega
     clear h;rw[if_neg h60]at hf;refine H ?_;refine aE (aS 1 O O O O O O O O O O O aI O ?_);refine H ?_;refine bq [(1,.ptr 1 1 0 0),(8,.als 100 ((s1.own 100).1+1) 0 ([eLd light]).length),(9,I ((0:Nat):Int))] [(1,1,⟨27,9,[ep ⟨nm,len,st,light,it⟩],2⟩),(100,(s1.own 100).1+1,⟨24,5,[eLd light],1⟩)] ⟨O,O,O,O,O,trivial⟩ ?_;generalize (s1.own 100).1+1=g;intro s2;refine am (fun q:Nat × Nat=>ClearE it (Dc light it) q.1) (fun q=>[(1,.ptr 1 1 0 0),(8,.als 100 q.2 0 ((light::it.take q.1).map eLd).length),(9,I (q.1:Nat))]) (fun q=>[(1,1,⟨27,9,[ep ⟨nm,len,st,light,it⟩],2⟩),(100,q.2,⟨24,5,(light::it.take q.1).map eLd,1⟩)]) (fun q=>it.length-q.1) (0,g) .zero' ⟨O,O,O,O,O,trivial⟩ ?_;rintro⟨k,g⟩ s3 hk2;dsimp only at hk2 ⊢;have hkl:=hk2.1;refine H ?_;rw[hmi];refine aV O ?_ ?_<;>intro h
     .have hlt:k<it.length:=by have:=ax h;omega
      clear h;obtain⟨w,hx⟩:=aG hlt;have hw:=c_ k;have hBl:(light::it.take k).length<=61:=by rw[List.length_cons,List.length_take];omega
      have c1:=pg w (light::it.take k) J 0;have hfl:=hk2.found hx (show Dc light it k w=ek w (light::it.take k) 0 from O);have hsu:=fun h=>hk2.succ hx (show Dc light it k w=0 from h);have hsn:(light::it.take (k+1)).map eLd=(light::it.take k).map eLd++[eLd w]:=by rw[bk hx];simp
      have hsu:=fun(h:ek w (light::it.take k) 0=0)=>hsu h;generalize ek w (light::it.take k) 0=e at *
      generalize light::it.take k=D0 at *
      refine aJ hx ?_;refine ap c1 ?_;refine D ?_ ?_<;>intro h
      .have he:e≠0:=by simpa using h
       clear h;rw[hfl he]at hf;subst hf;exact bm
      .have he:e=0:=by simpa using h
       clear h;refine aJ hx ?_;refine H ?_;refine aE (aS 1 O O O O O O O O O O O aI O ?_);refine H ?_;refine aE (bi 1 O O O O O O O O O O O aI (by intro row hr;first|(simp at hr;subst hr;rfl)|simp at hr) O O aK aK ?_);refine H ?_;refine⟨(k+1,g+1),hsu he,by simp only;omega,O,?_,congrArg I hw,O,?_,trivial⟩
       .dsimp only;rw[hsn];rfl
       .dsimp only;rw[hsn];rfl
     .have hge:¬k<it.length:=by have:=aF h;omega
      clear h;rw[hk2.none hge]at hf;subst hf;exact bm
end Go.Pv
namespace Go.Proofs
open Go.Shelf
def Tryz.growL_ren:Go.Shelf.Ren:=⟨fun|4=>287|n=>n,fun|22=>25|25=>24|3=>3|4=>4|9=>9|20=>20|0=>0|n=>n,fun|n=>n⟩
theorem Tryz.growL:Go.Proofs.Lays8.n4 Tryz.prog Tryz.growL_ren:={
 mixed:=by kernel_rfl
 f4:=⟨Tryz.f287.name,by decide,Tryz.func287.trans (congrArg some (by kernel_rfl))⟩
 t0:=Tryz.underlying0
 a0:=Tryz.isAgg0
 z0:=Tryz.sizeOf0
 v0:=Tryz.zeroValue0
 t3:=Tryz.underlying3
 a3:=Tryz.isAgg3
 z3:=Tryz.sizeOf3
 v3:=Tryz.zeroValue3
 t4:=Tryz.underlying4
 a4:=Tryz.isAgg4
 z4:=Tryz.sizeOf4
 v4:=Tryz.zeroValue4
 t9:=Tryz.underlying9
 a9:=Tryz.isAgg9
 z9:=Tryz.sizeOf9
 v9:=Tryz.zeroValue9
 t20:=Tryz.underlying20
 a20:=Tryz.isAgg20
 z20:=Tryz.sizeOf20
 v20:=Tryz.zeroValue20
 t22:=Tryz.underlying25
 a22:=Tryz.isAgg25
 z22:=Tryz.sizeOf25
 v22:=Tryz.zeroValue25 }
end Go.Proofs
