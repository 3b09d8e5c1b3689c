/- Texts of one hand, gathered: PvZ, PvEnd, PvTk, PvX, PvT, FbA, PvGq, FbB, FbC, PvEq, FbD, FbE, FbF, FbG, FaD, FbH, FbI, FbJ, FbK, FbL, FbM, FbN, FbO, FbP, FbQ, FrA, FrB, FrC, FrD, FrE, FrF, FrG, FrH, FaE, FmA. -/
import Derived.Test.YtmfjgnchaacgnaaGreatBa2
import Derived.ProofKit
import Derived.OpenShut
import Derived.Carry
import Derived.Test.YtmfjgnchaacgnaaGreatProg
import Derived.KernelRfl
import Derived.Laws.BitsLemmas
import Derived.Lib.EndianBits
set_option maxRecDepth 20000
set_option linter.unusedSectionVars false
set_option linter.unusedSimpArgs false
set_option linter.unusedVariables false
set_option linter.unnecessarySimpa false
namespace Go.Pv
open Go.RowKit
variable [Globs]
def gB (ops:Array Oper)(s:St):Option (Nat × Bool)->Option Bool
 |none=>some true
 |some (j,want)=>match (ops[j]?).bind (·.dst) with
  |some e=>match s.reg e with
   |.bool b=>match b,want with
    |true,true=>some true
    |false,false=>some true
    |true,false=>some false
    |false,true=>some false
   |.raw u=>match u with
    |.tuple a=>match a with
     |⟨[]⟩=>some false
     |_=>none
    |_=>none
   |_=>none
  |none=>none
def HH (L:Lay)(s:St):Option Nat->Op->Option (St × Prop)
 |some d,.box T x=>match (s.ev x).fz,s.own d with
  |some v,(gn,_)=>match du s v.cells with
   |some Pr=>some ((s.setOwn d (gn+1) (some ⟨T,v.cells.length,[v.cells],2⟩)).putR d (.ptr d (gn+1) 0 0),Nat.blt 0 v.cells.length=true/\Pr)
   |none=>none
  |none,_=>none
 |some d,.alloc T=>match L T with
  |some r=>match r.zero,s.own d with
   |some z,(gn,_)=>some ((s.setOwn d (gn+1) (some ⟨T,z.length,[z],2⟩)).putR d (.ptr d (gn+1) 0 0),Nat.blt 0 z.length=true)
   |none,_=>none
  |none=>none
 |none,.store T x y=>match L T with
  |some r=>match s.ev x with
   |.ptr k gn i jj=>match i with
    |0=>match s.own k with
     |(gn',some ⟨tc,sz,rows,kd⟩)=>match rows,kd with
      |[row],2=>match (s.ev y).fz with
       |some v=>match du s v.cells with
        |some Pr=>some (s.setOwn k gn (some ⟨tc,sz,[mg row jj v.cells],2⟩),gn'=gn/\v.cells.length=r.size/\Nat.ble (jj+r.size) row.length=true/\Pr)
        |none=>none
       |none=>none
      |_,_=>none
     |(_,none)=>none
    |_=>none
   |_=>none
  |none=>none
 |some d,op=>match qv L s op with
  |some (pv,Cd)=>some (s.putR d pv,Cd)
  |none=>none
 |none,_=>none
section
variable {P:Program}{L:Lay}{s s':St}{ops:Array Oper}{K:St->Prop}{Q:Exit->St->Prop}{rest:List Oper}
theorem eO {o:Oper}(h:gB ops s o.guard=some true):Wants ops s o true:=by
 cases hg:o.guard with
 |none=>exact .none hg
 |some p =>
  obtain⟨j,want⟩:=p;rw[hg]at h;simp only[gB]at h;split at h
  .rename_i e hd;split at h
   .rename_i b hr;cases b<;>cases want<;>simp at h
    .exact .yes hg hd hr
    .exact .yes hg hd hr
   .split at h
    .split at h<;>cases h
    .cases h
   .cases h
  .cases h
theorem yx {o:Oper}(h:gB ops s o.guard=some false):Wants ops s o false:=by
 cases hg:o.guard with
 |none=>rw[hg]at h;cases h
 |some p =>
  obtain⟨j,want⟩:=p;rw[hg]at h;simp only[gB]at h;split at h
  .rename_i e hd;split at h
   .rename_i b hr;cases b<;>cases want<;>simp at h
    .exact .no hg hd hr ah
    .exact .no hg hd hr ah
   .rename_i hr;split at h
    .split at h
     .exact .junk hg hd hr
     .cases h
    .cases h
   .cases h
  .cases h
theorem Ea {d:Option Nat}{op:Op}{Cd:Prop}{ty:TypeId}{pos:String}{af:Array Edge}{g:Option (Nat × Bool)}(h:HH L s d op=some (s',Cd))(hc:Cd)(hk:K s'):POp P L s ⟨d,op,ty,pos,af,g⟩ K:=by
 unfold HH at h;split at h
 .split at h
  .rename_i hx hown;split at h
   .rename_i h1;cases h;exact JL hx hown h1 hc.2 hc.1 hk
   .cases h
  .cases h
 .split at h
  .rename_i hr;split at h
   .rename_i hz hown;cases h;exact FU hr hz hown hc hk
   .cases h
  .cases h
 .split at h
  .rename_i r hr;split at h
   .rename_i hx;split at h
    .split at h
     .rename_i hown;split at h
      .split at h
       .rename_i hv;split at h
        .rename_i h1;cases h;obtain⟨c1,c2,c3,c4⟩:=hc;subst c1;exact Do hr hx hown hv h1 c4 c2 c3 O hk
        .cases h
       .cases h
      .cases h
     .cases h
    .cases h
   .cases h
  .cases h
 .split at h
  .rename_i hq;cases h;exact JM hq hc hk
  .cases h
 .cases h
def KV (P:Program)(L:Lay)(ops:Array Oper)(K:St->Prop):List Oper->St->Option (Prop × Prop)
 |[],s=>some (True,K s)
 |o::rest,s=>match o with
  |⟨d,op,_,_,_,g⟩=>match gB ops s g with
   |some true=>match HH L s d op with
    |some (s',Cd)=>some (Cd,POps P L ops K rest s')
    |none=>none
   |some false=>some (True,POps P L ops K rest (s.put d (.raw undef)))
   |none=>none
theorem zs {l:List Oper}{Cd A:Prop}(h:KV P L ops K l s=some (Cd,A))(hc:Cd)(k:A):POps P L ops K l s:=by
 cases l with
 |nil=>cases h;exact k
 |cons o rest =>
  obtain⟨d,op,ty,pos,af,g⟩:=o;unfold KV at h;dsimp only at h;split at h
  .rename_i hg;split at h
   .rename_i hs;cases h;exact .inl ⟨eO hg,Ea hs hc k⟩
   .cases h
  .rename_i hg;cases h;exact .inr ⟨yx hg,k⟩
  .cases h
def KU (P:Program)(L:Lay)(ops:Array Oper)(K:St->Prop):List Oper->St->Option (Prop × Prop)
 |[],s=>some (True,K s)
 |o::rest,s=>match o with
  |⟨d,op,_,_,_,g⟩=>match gB ops s g with
   |some true=>match d with
    |some d=>match qv L s op with
     |some (pv,Cd)=>some (Cd,PQuiet P L ops K rest (s.putR d pv))
     |none=>none
    |none=>none
   |some false=>some (True,PQuiet P L ops K rest (s.put d (.raw undef)))
   |none=>none
theorem zq {l:List Oper}{Cd A:Prop}(h:KU P L ops K l s=some (Cd,A))(hc:Cd)(k:A):PQuiet P L ops K l s:=by
 cases l with
 |nil=>cases h;exact k
 |cons o rest =>
  obtain⟨d,op,ty,pos,af,g⟩:=o;unfold KU at h;dsimp only at h;split at h
  .rename_i hg;split at h
   .split at h
    .rename_i hs;cases h;exact .inl ⟨eO hg,_,.v hs hc,k⟩
    .cases h
   .cases h
  .rename_i hg;cases h;exact .inr ⟨yx hg,k⟩
  .cases h
def KW (P:Program)(L:Lay):Code->(Exit->St->Prop)->St->Option Prop
 |.skip,Q,s=>some (Q .normal s)
 |.region _ ops false,Q,s=>match ops with|⟨l⟩=>some (POps P L ops (Q .normal) l s)
 |.seq x y,Q,s=>some (PWP P L x (aw (fun s'=>PWP P L y Q s') Q) s)
 |.cond c x y,Q,s=>match s.ev c with
  |.bool b=>match b with
   |true=>some (PWP P L x Q s)
   |false=>some (PWP P L y Q s)
  |_=>none
 |.block id c,Q,s=>some (PWP P L c (aq id Q) s)
 |.exit id,Q,s=>some (Q (.exit id) s)
 |.ret,Q,s=>some (Q .ret s)
 |_,_,_=>none
theorem zw {c:Code}{A:Prop}(h:KW P L c Q s=some A)(k:A):PWP P L c Q s:=by
 unfold KW at h;split at h
 .cases h;exact Gd k
 .cases h;exact bq k
 .cases h;exact k
 .split at h
  .rename_i hc;split at h
   .cases h;exact Gf hc k
   .cases h;exact DC hc k
  .cases h
 .cases h;exact k
 .cases h;exact Gc k
 .cases h;exact IE k
 .cases h
def KX (next:St->Prop)(Q:Exit->St->Prop):Exit->St->Option Prop
 |.normal,s=>some (next s)
 |.ret,s=>some (Q .ret s)
 |.exit id,s=>some (Q (.exit id) s)
 |_,_=>none
theorem zx {next:St->Prop}{e:Exit}{A:Prop}(h:KX next Q e s=some A)(k:A):aw next Q e s:=by
 unfold KX at h;split at h<;>cases h<;>exact k
def KT (id:Nat)(Q:Exit->St->Prop):Exit->St->Option Prop
 |.normal,s=>some (Q .normal s)
 |.ret,s=>some (Q .ret s)
 |.exit id',s=>match Nat.beq id' id with
  |true=>some (Q .normal s)
  |false=>some (Q (.exit id') s)
 |_,_=>none
theorem zb {id:Nat}{e:Exit}{A:Prop}(h:KT id Q e s=some A)(k:A):aq id Q e s:=by
 unfold KT at h;split at h
 .cases h;exact k
 .cases h;exact k
 .split at h
  .rename_i he;cases h;have:=Nat.eq_of_beq_eq_true he;subst this;exact GZ k
  .rename_i he;cases h;exact GY he k
 .cases h
theorem Lp {d:Nat}{op:Op}{ty:TypeId}{pos:String}{af:Array Edge}{g:Option (Nat × Bool)}{pv:PV}(hg:gB ops s g=some true)(hq:QOp P L s ⟨some d,op,ty,pos,af,g⟩ pv)(k:POps P L ops K rest (s.putR d pv)):POps P L ops K (⟨some d,op,ty,pos,af,g⟩::rest) s :=
 .inl ⟨eO hg,kj hq k⟩
theorem Lo {d:Nat}{op:Op}{ty:TypeId}{pos:String}{af:Array Edge}{g:Option (Nat × Bool)}{pv:PV}(hg:gB ops s g=some true)(hq:QOp P L s ⟨some d,op,ty,pos,af,g⟩ pv)(k:PQuiet P L ops K rest (s.putR d pv)):PQuiet P L ops K (⟨some d,op,ty,pos,af,g⟩::rest) s :=
 .inl ⟨eO hg,_,hq,k⟩
def JF:Op->Bool
 |.next _ _=>true
 |_=>false
def KR (P:Program)(L:Lay)(ops:Array Oper)(Z:Nat->List Nat)(cls:Nat->Bool)(K:St->Prop)(i:Nat):List Oper->St->Option (Prop × Prop)
 |[],s=>some (True,K s)
 |o::rest,s=>match o with
  |⟨d,op,_,_,_,g⟩=>match gB ops s g with
   |some true=>match d with
    |some d=>match cls i with
     |true=>match qv L s op with
      |some (pv,Cd)=>some (Cd,P3 P L ops Z cls K (i+1) rest (s.putR d pv))
      |none=>none
     |false=>match qv L (s.erase (Z i)) op with
      |some (pv,Cd)=>some (Cd,P3 P L ops Z cls K (i+1) rest (s.putR d pv))
      |none=>none
    |none=>none
   |some false=>some (True,P3 P L ops Z cls K (i+1) rest (s.put d (.raw undef)))
   |none=>none
theorem z3 {Z:Nat->List Nat}{cls:Nat->Bool}{i:Nat}{l:List Oper}{Cd A:Prop}(h:KR P L ops Z cls K i l s=some (Cd,A))(hc:Cd)(k:A):P3 P L ops Z cls K i l s:=by
 cases l with
 |nil=>cases h;exact k
 |cons o rest =>
  obtain⟨d,op,ty,pos,af,g⟩:=o;unfold KR at h;dsimp only at h;split at h
  .rename_i hg;split at h
   .rename_i dd;split at h
    .rename_i hcl;split at h
     .rename_i hs;cases h;refine⟨_,?_,k⟩;rw[hcl];exact Step3.quiet (o:=⟨some dd,op,ty,pos,af,g⟩) (eO hg) (.v hs hc)
     .cases h
    .rename_i hcl;split at h
     .rename_i hs;cases h;refine⟨_,?_,k⟩;rw[hcl];exact Step3.free (o:=⟨some dd,op,ty,pos,af,g⟩) (eO hg) (.v hs hc)
     .cases h
   .cases h
  .rename_i hg;cases h;exact⟨_,.no (yx hg),k⟩
  .cases h
theorem Lm {Z:Nat->List Nat}{cls:Nat->Bool}{i d:Nat}{op:Op}{ty:TypeId}{pos:String}{af:Array Edge}{g:Option (Nat × Bool)}{pv:PV}(hg:gB ops s g=some true)(hc:cls i=false)(hq:QOp P L (s.erase (Z i)) ⟨some d,op,ty,pos,af,g⟩ pv)
  (k:P3 P L ops Z cls K (i+1) rest (s.putR d pv)):P3 P L ops Z cls K i (⟨some d,op,ty,pos,af,g⟩::rest) s:=by
 refine⟨_,?_,k⟩;rw[hc];exact Step3.free (o:=⟨some d,op,ty,pos,af,g⟩) (eO hg) hq
theorem Ll {Z:Nat->List Nat}{cls:Nat->Bool}{i d:Nat}{op:Op}{ty:TypeId}{pos:String}{af:Array Edge}{g:Option (Nat × Bool)}{pv:PV}(hg:gB ops s g=some true)(hc:cls i=true)(hq:QOp P L s ⟨some d,op,ty,pos,af,g⟩ pv)
  (k:P3 P L ops Z cls K (i+1) rest (s.putR d pv)):P3 P L ops Z cls K i (⟨some d,op,ty,pos,af,g⟩::rest) s:=by
 refine⟨_,?_,k⟩;rw[hc];exact Step3.quiet (o:=⟨some d,op,ty,pos,af,g⟩) (eO hg) hq
theorem qj {Z:Nat->List Nat}{cls:Nat->Bool}{i:Nat}{d:Option Nat}{op:Op}{ty:TypeId}{pos:String}{af:Array Edge}{g:Option (Nat × Bool)}(hg:gB ops s g=some true)(hc:cls i=true)(hn:JF op=false)
  (h:POp P L s ⟨d,op,ty,pos,af,g⟩ (fun s'=>(∀k,eH (Z i) k=false->s'.own k=s.own k)/\P3 P L ops Z cls K (i+1) rest s')):P3 P L ops Z cls K i (⟨d,op,ty,pos,af,g⟩::rest) s:=by
 rcases h with⟨pv,h1,h2⟩|⟨s',h1,h2⟩|h1
 .refine⟨_,?_,h2.2⟩;rw[hc];exact Step3.quiet (o:=⟨d,op,ty,pos,af,g⟩) (eO hg) h1
 .refine⟨_,?_,h2.2⟩;rw[hc];exact Step3.eff (o:=⟨d,op,ty,pos,af,g⟩) (eO hg) h1 h2.1
 .exfalso;cases h1 with
  |next ho =>
   simp only at ho;rw[ho]at hn;cases hn
theorem g_ {Z:List Nat}{k g d:Nat}{c:Option Cont}{v:PV}(hz:eH Z k=true):∀q,eH Z q=false->((s.setOwn k g c).putR d v).own q=s.own q:=fun q hq=>by
 have hne:q≠k:=fun e=>by rw[e,hz]at hq;cases hq
 show(bif Nat.beq q k then _ else s.own q)=_;rw[bm hne];rfl
def EN (s:St):Option Nat->Op->Option Nat
 |some d,.box _ _=>some d
 |some d,.alloc _=>some d
 |none,.store _ x _=>match s.ev x with | .ptr k _ _ _=>some k | _=>none
 |_,_=>none
def IU (P:Program)(L:Lay)(ops:Array Oper)(Z:Nat->List Nat)(cls:Nat->Bool)(K:St->Prop)(i:Nat):List Oper->St->Option (Prop × Prop)
 |[],_=>none
 |o::rest,s=>match o with
  |⟨d,op,_,_,_,g⟩=>match gB ops s g,cls i,EN s d op,JF op with
   |some true,true,some t,false=>match eH (Z i) t,HH L s d op with
    |true,some (s',Cd)=>some (Cd,P3 P L ops Z cls K (i+1) rest s')
    |_,_=>none
   |_,_,_,_=>none
theorem Bx {d:Option Nat}{op:Op}{t:Nat}{Cd:Prop}(ht:EN s d op=some t)(h:HH L s d op=some (s',Cd)):∀q,q≠t->s'.own q=s.own q:=by
 intro q hq;have one:∀(g:Nat) (c:Option Cont),(s.setOwn t g c).own q=s.own q:=fun g c=>by
  show(bif Nat.beq q t then _ else s.own q)=_;rw[bm hq];rfl
 unfold EN at ht;split at ht
 .cases ht;unfold HH at h;dsimp only at h;split at h
  .split at h
   .cases h;exact one _ _
   .cases h
  .cases h
 .cases ht;unfold HH at h;dsimp only at h;split at h
  .split at h
   .cases h;exact one _ _
   .cases h
  .cases h
 .split at ht
  .rename_i hx;cases ht;unfold HH at h;dsimp only at h;split at h
   .rw[hx]at h;dsimp only at h;split at h
    .split at h
     .split at h
      .split at h
       .split at h
        .cases h;exact one _ _
        .cases h
       .cases h
      .cases h
     .cases h
    .cases h
   .cases h
  .cases ht
 .cases ht
theorem Ln {Z:Nat->List Nat}{cls:Nat->Bool}{i:Nat}{l:List Oper}{Cd A:Prop}(h:IU P L ops Z cls K i l s=some (Cd,A))(hc:Cd)(k:A):P3 P L ops Z cls K i l s:=by
 cases l with
 |nil=>cases h
 |cons o rest =>
  obtain⟨d,op,ty,pos,af,g⟩:=o;unfold IU at h;dsimp only at h;split at h
  .rename_i hg hcl ht hn;split at h
   .rename_i hz hs;cases h;exact qj hg hcl hn (Ea hs hc ⟨fun q hq=>Bx ht hs q (fun e=>by rw[e,hz]at hq;cases hq),k⟩)
   .cases h
  .cases h
theorem dw {Z:Nat->List Nat}{cls:Nat->Bool}{i d e j:Nat}{op:Op}{ty:TypeId}{pos:String}{af:Array Edge}{want b:Bool}(_hd:(ops[j]?).bind (·.dst)=some e)(hr:s.reg e = .bool b)
  (h1:b=true->P3 P L ops Z cls K i (⟨some d,op,ty,pos,af,some (j,want)⟩::rest) (s.putR e (.bool true))) (h0:b=false->P3 P L ops Z cls K i (⟨some d,op,ty,pos,af,some (j,want)⟩::rest) (s.putR e (.bool false))) :
  P3 P L ops Z cls K i (⟨some d,op,ty,pos,af,some (j,want)⟩::rest) s:=by
 have:=jW hr;cases b
 .rw[<-this];exact h0 O
 .rw[<-this];exact h1 O
class Nx (G0:Prop) where
 nx:Option (Prop × Prop)
 ok:∀Cd A,nx=some (Cd,A)->Cd->A->G0
theorem KY {G0:Prop}[i:Nx G0]{Cd A:Prop}(h:i.nx=some (Cd,A))(hc:Cd)(k:A):G0:=i.ok Cd A h hc k
instance {l:List Oper}:Nx (POps P L ops K l s):=⟨KV P L ops K l s,fun _ _ h hc k=>zs h hc k⟩
instance {l:List Oper}:Nx (PQuiet P L ops K l s):=⟨KU P L ops K l s,fun _ _ h hc k=>zq h hc k⟩
def K9 (a b:Option (Prop × Prop)):Option (Prop × Prop):=match a with
 |some x=>some x
 |none=>b
instance {Z:Nat->List Nat} {cls:Nat->Bool} {i:Nat} {l:List Oper}:Nx (P3 P L ops Z cls K i l s):=⟨K9 (KR P L ops Z cls K i l s) (IU P L ops Z cls K i l s),fun _ _ h hc k=>by
 unfold K9 at h;split at h
 .cases h;exact z3 ‹_› hc k
 .exact Ln h hc k⟩
def Ks:Option Prop->Option (Prop × Prop)
 |some A=>some (True,A)
 |none=>none
theorem pZ {a:Option Prop}{Cd A:Prop}(h:Ks a=some (Cd,A)):a=some A:=by
 unfold Ks at h;split at h
 .cases h;rfl
 .cases h
instance {c:Code}:Nx (PWP P L c Q s):=⟨Ks (KW P L c Q s),fun _ _ h _ k=>zw (pZ h) k⟩
instance {next:St->Prop} {e:Exit}:Nx (aw next Q e s):=⟨Ks (KX next Q e s),fun _ _ h _ k=>zx (pZ h) k⟩
instance {id:Nat} {e:Exit}:Nx (aq id Q e s):=⟨Ks (KT id Q e s),fun _ _ h _ k=>zb (pZ h) k⟩
def K7 (b:Bool)(A:Prop):Option (Prop × Prop):=match b with
 |true=>some (True,A)
 |false=>none
instance {nm:Nat} {F:List Nat} {G0:Prop}:Nx (FD ops nm F s=true/\G0):=⟨K7 (FD ops nm F s) G0,fun _ _ h _ k=>by
 unfold K7 at h;split at h
 .cases h;exact⟨‹_›,k⟩
 .cases h⟩
class Qx (G0:Prop) (P:outParam Program) (L:outParam Lay) (s:outParam St) (ops:outParam (Array Oper)) (l:outParam (List Oper)) (K:outParam (List Oper->Nat->PV->Prop)) where
 ok:∀(d:Nat) (op:Op) (ty:TypeId) (pos:String) (af:Array Edge) (g:Option (Nat × Bool)) (rest:List Oper) (pv:PV),l=⟨some d,op,ty,pos,af,g⟩::rest->gB ops s g=some true->QOp P L s ⟨some d,op,ty,pos,af,g⟩ pv->K rest d pv->G0
instance {l:List Oper}:Qx (POps P L ops K l s) P L s ops l (fun rest d pv=>POps P L ops K rest (s.putR d pv)) :=
 ⟨fun _ _ _ _ _ _ _ _ hl hg hq k=>by subst hl;exact Lp hg hq k⟩
instance {l:List Oper}:Qx (PQuiet P L ops K l s) P L s ops l (fun rest d pv=>PQuiet P L ops K rest (s.putR d pv)) :=
 ⟨fun _ _ _ _ _ _ _ _ hl hg hq k=>by subst hl;exact Lo hg hq k⟩
def St.era (Z:List Nat)(c:Bool)(s:St):St:=match c with
 |true=>s
 |false=>s.erase Z
theorem Ip {Z:List Nat}{c:Bool}{g:Option (Nat × Bool)}:gB ops (s.era Z c) g=gB ops s g:=by cases c<;>rfl
instance {Z:Nat->List Nat} {cls:Nat->Bool} {i:Nat} {l:List Oper}:Qx (P3 P L ops Z cls K i l s) P L (s.era (Z i) (cls i)) ops l (fun rest d pv=>P3 P L ops Z cls K (i+1) rest (s.putR d pv)) :=
 ⟨fun _ _ _ _ _ _ _ _ hl hg hq k=>by
  subst hl;rw[Ip]at hg;cases hc:cls i with
  |true=>rw[hc]at hq;exact Ll hg hc hq k
  |false=>rw[hc]at hq;exact Lm hg hc hq k⟩
def KS (P:Program)(L:Lay)(ops:Array Oper)(Z:List Nat)(lc:Nat->Option Nat)(K:St->Prop)(i:Nat):List Oper->St->Option (Prop × Prop)
 |[],s=>some (True,K s)
 |o::rest,s=>match o with
  |⟨d,op,_,_,_,g⟩=>match gB ops s g with
   |some true=>match d with
    |some d=>match qv L (s.erase Z) op with
     |some (pv,Cd)=>some (Cd,P5 P L ops Z lc K (i+1) rest (s.putR d pv))
     |none=>none
    |none=>none
   |some false=>some (True,P5 P L ops Z lc K (i+1) rest (s.put d (.raw undef)))
   |none=>none
theorem z5 {Z:List Nat}{lc:Nat->Option Nat}{i:Nat}{l:List Oper}{Cd A:Prop}(h:KS P L ops Z lc K i l s=some (Cd,A))(hc:Cd)(k:A):P5 P L ops Z lc K i l s:=by
 cases l with
 |nil=>cases h;exact k
 |cons o rest =>
  obtain⟨d,op,ty,pos,af,g⟩:=o;unfold KS at h;dsimp only at h;split at h
  .rename_i hg;split at h
   .rename_i dd;split at h
    .rename_i hs;cases h;exact⟨_,Step5.free (o:=⟨some dd,op,ty,pos,af,g⟩) (eO hg) (.v hs hc),k⟩
    .cases h
   .cases h
  .rename_i hg;cases h;exact⟨_,.no (yx hg),k⟩
  .cases h
instance {Z:List Nat} {lc:Nat->Option Nat} {i:Nat} {l:List Oper}:Nx (P5 P L ops Z lc K i l s):=⟨KS P L ops Z lc K i l s,fun _ _ h hc k=>z5 h hc k⟩
theorem CM {Z:List Nat}{g:Option (Nat × Bool)}:gB ops (s.erase Z) g=gB ops s g:=rfl
instance {Z:List Nat} {lc:Nat->Option Nat} {i:Nat} {l:List Oper}:Qx (P5 P L ops Z lc K i l s) P L (s.erase Z) ops l (fun rest d pv=>P5 P L ops Z lc K (i+1) rest (s.putR d pv)) :=
 ⟨fun _ _ _ _ _ _ _ _ hl hg hq k=>by
  subst hl;rw[CM]at hg
  exact⟨_,Step5.free (o:=⟨some _,_,_,_,_,_⟩) (eO hg) hq,k⟩⟩
theorem EZ {Z:List Nat}{lc:Nat->Option Nat}{i d:Nat}{T ty:TypeId}{r:LRow}{z:List PV}{pos:String}{af:Array Edge}{g:Option (Nat × Bool)}(hg:gB ops s g=some true)(hc:lc i=some d)(hr:L T=some r)(hz:r.zero=some z)(h0:Nat.blt 0 z.length=true)
  (h:P5 P L ops Z lc K (i+1) rest ((s.setOwn d ((s.own d).1+1) (some ⟨T,z.length,[z],2⟩)).putR d (.ptr d ((s.own d).1+1) 0 0))):P5 P L ops Z lc K i (⟨some d,.alloc T,ty,pos,af,g⟩::rest) s:=by
 refine⟨_,?_,h⟩;rw[hc];exact Step5.loc (o:=⟨some d,.alloc T,ty,pos,af,g⟩) (eO hg) (.alloc O O hr hz (by simpa using h0))
theorem E0 {Z:List Nat}{lc:Nat->Option Nat}{i k gn ii j:Nat}{T ty:TypeId}{r:LRow}{x y:Operand}{c:Cont}{row:List PV}{Pr:Prop}{pos:String}{af:Array Edge}{g:Option (Nat × Bool)}(kd:Nat)(hg:gB ops s g=some true)(hc:lc i=some k)(hr:L T=some r)(hx:s.ev x = .ptr k gn ii j)(hown:s.own k=(gn,some c))
  (hrow:c.rows[ii]? = some row) (h1:∀s':St,du s' (s.ev y).cells=some Pr) (h2:Pr) (hsz:(s.ev y).cells.length=r.size) (hle:Nat.ble (j+r.size) row.length=true) (hk:Nat.ble c.kind kd=true) (hkd:(s.ev y).cells.all (mA kd)=true)
  (h:P5 P L ops Z lc K (i+1) rest (s.setOwn k gn (some ⟨c.ty,c.sz,c.rows.set ii (mg row j ((s.ev y).cells.map (dY kd))),kd⟩))):P5 P L ops Z lc K i (⟨none,.store T x y,ty,pos,af,g⟩::rest) s:=by
 refine⟨_,?_,h⟩;rw[hc];exact Step5.loc (o:=⟨none,.store T x y,ty,pos,af,g⟩) (eO hg) (.store kd O O hr hx hown hrow h1 h2 hsz (by simpa using hle) (by simpa using hk) hkd)
theorem bE {G0:Prop}{P:Program}{L:Lay}{s:St}{ops:Array Oper}{l:List Oper}{K:List Oper->Nat->PV->Prop}[i:Qx G0 P L s ops l K]{d:Nat}{op:Op}{ty:TypeId}{pos:String}{af:Array Edge}{g:Option (Nat × Bool)}{rest:List Oper}{pv:PV}
  (hl:l=⟨some d,op,ty,pos,af,g⟩::rest) (hb:gB ops s g=some true) (hq:QOp P L s ⟨some d,op,ty,pos,af,g⟩ pv) (k:K rest d pv):G0:=i.ok d op ty pos af g rest pv hl hb hq k
end
theorem fB {G0:Prop}[i:Nx G0]{Cd A:Prop}(h:i.nx=some (Cd,A))(k:A)(hc:Cd:=by((repeat' constructor);first|done|fail)):G0:=KY h hc k
theorem cx {G0:Prop}[i:Nx G0]{Cd A:Prop}(h:i.nx=some (Cd,A))(k:A)(hc:Cd:=by((repeat' (first|exact True.intro|exact rfl|refine And.intro ?_ ?_));first|done|fail)):G0:=KY h hc k
theorem KP {P:Program}{L:Lay}{s:St}{d:Nat}{ty:TypeId}{pos:String}{af:Array Edge}{g:Option (Nat × Bool)}{fop:Operand}{args:Array Operand}{tys:Array TypeId}{f:FuncId}{caps pargs:List PV}{Cd:Prop}{b:Fl}{rr:PV}(hf:s.ev fop = .clo f caps)(hret:Ret P .shared f pargs rr)(hres:e_ (eZ s 4) (args.toList.map s.ev++caps)=some (pargs,Cd,b))(hb:b.cl=true)(hc:Cd:=by((repeat' constructor);first|done|fail)):QOp P L s ⟨some d,.call ⟨.value fop,args,tys⟩,ty,pos,af,g⟩ rr:=dA hf hret hres hc hb
theorem JT {G0:Prop}{P:Program}{L:Lay}{s:St}{ops:Array Oper}{l:List Oper}{K:List Oper->Nat->PV->Prop}[i:Qx G0 P L s ops l K]{d:Nat}{ty:TypeId}{pos:String}{af:Array Edge}{g:Option (Nat × Bool)}{rest:List Oper}{fop:Operand}{args:Array Operand}{tys:Array TypeId}{f:FuncId}{caps pargs:List PV}{Cd:Prop}{b:Fl}{rr rf:PV}(hl:l=⟨some d,.call ⟨.value fop,args,tys⟩,ty,pos,af,g⟩::rest)(hb:gB ops s g=some true)(hf:s.ev fop = .clo f caps)(hret:Ret P .shared f pargs rr)(hres:e_ (eZ s 4) (args.toList.map s.ev++caps)=some (pargs,Cd,b))(hfl:rr.flat=true)(hrf:rr.frs.fz=some rf)(k:K rest d rf)(hc:Cd:=by((repeat' constructor);first|done|fail)):G0:=bE hl hb (n_ hf hret hres hc hfl hrf) k
theorem La {G0:Prop}{P:Program}{L:Lay}{s:St}{ops:Array Oper}{l:List Oper}{K:List Oper->Nat->PV->Prop}[i:Qx G0 P L s ops l K]{d:Nat}{ty:TypeId}{pos:String}{af:Array Edge}{g:Option (Nat × Bool)}{rest:List Oper}{fop:Operand}{args:Array Operand}{tys:Array TypeId}{f:FuncId}{caps pargs:List PV}{Cd:Prop}{b:Fl}{rr rf:PV}(hl:l=⟨some d,.call ⟨.value fop,args,tys⟩,ty,pos,af,g⟩::rest)(hb:gB ops s g=some true)(hf:s.ev fop = .clo f caps)(hret:Ret P .fresh f pargs rr)(hres:e_ (eZ s 4) (args.toList.map s.ev++caps)=some (pargs,Cd,b))(hrf:rr.frs.fz=some rf)(k:K rest d rf)(hc:Cd:=by((repeat' constructor);first|done|fail)):G0:=bE hl hb (yX hf hret hres hc hrf) k
theorem nR {G0:Prop}{P:Program}{L:Lay}{s:St}{ops:Array Oper}{l:List Oper}{K:List Oper->Nat->PV->Prop}[i:Qx G0 P L s ops l K]{d:Nat}{ty:TypeId}{pos:String}{af:Array Edge}{g:Option (Nat × Bool)}{rest:List Oper}{fop:Operand}{args:Array Operand}{tys:Array TypeId}{f:FuncId}{caps pargs:List PV}{Cd:Prop}{b:Fl}{rr:PV}(hl:l=⟨some d,.call ⟨.value fop,args,tys⟩,ty,pos,af,g⟩::rest)(hb:gB ops s g=some true)(hf:s.ev fop = .clo f caps)(hret:Ret P .shared f pargs rr)(hres:e_ (eZ s 4) (args.toList.map s.ev++caps)=some (pargs,Cd,b))(hb2:b.cl=true)(k:K rest d rr)(hc:Cd:=by((repeat' constructor);first|done|fail)):G0:=bE hl hb (dA hf hret hres hc hb2) k
theorem Gj {G0:Prop}{P:Program}{L:Lay}{s:St}{ops:Array Oper}{l:List Oper}{K:List Oper->Nat->PV->Prop}[i:Qx G0 P L s ops l K]{d:Nat}{ty:TypeId}{pos:String}{af:Array Edge}{g:Option (Nat × Bool)}{rest:List Oper}{T E:TypeId}{r re:LRow}{x ix:Operand}{kk:IntKind}{n:Int}{α:Type}{enc:α->List PV}{ls:List α}{a:α}(hl:l=⟨some d,.indexAddr T x ix,ty,pos,af,g⟩::rest)(hb:gB ops s g=some true)(hr:L T=some r)(hs:r.sh = .sl E)(hre:L E=some re)(hx:s.ev x = .sl (ls.map enc))(hix:s.ev ix = .int kk n)(hget:ls[n.toNat]? = some a)(hlen:(enc a).length=re.size)(k:K rest d (.dref (enc a) 0))(h0:0<=n:=by omega):G0:=bE hl hb (jz hr hs hre hx hix h0 hget hlen) k
theorem jY {G0:Prop}{P:Program}{L:Lay}{s:St}{ops:Array Oper}{l:List Oper}{K:List Oper->Nat->PV->Prop}[i:Qx G0 P L s ops l K]{d:Nat}{ty:TypeId}{pos:String}{af:Array Edge}{g:Option (Nat × Bool)}{rest:List Oper}{T E:TypeId}{r re:LRow}{x ix:Operand}{kk:IntKind}{n:Int}{st gn i0 m:Nat}{c:Cont}(hl:l=⟨some d,.indexAddr T x ix,ty,pos,af,g⟩::rest)(hb:gB ops s g=some true)(hr:L T=some r)(hs:r.sh = .sl E)(hre:L E=some re)(hx:s.ev x = .als st gn i0 m)(hown:s.own st=(gn,some c))(hsz:c.sz=re.size)(hix:s.ev ix = .int kk n)(k:K rest d (.ptr st gn (i0+n.toNat) 0))(h0:0<=n:=by omega)(hlt:n<m:=by omega):G0:=bE hl hb (bO hr hs hre hx hown hsz hix h0 hlt) k
class Sx (G0:Prop) (ops:outParam (Array Oper)) (l:outParam (List Oper)) (s:outParam St) (F:outParam (St->Prop)):Prop where
 ok:F s->G0
instance {P:Program} {L:Lay} {ops:Array Oper} {K:St->Prop} {l:List Oper} {s:St}:Sx (POps P L ops K l s) ops l s (fun s'=>POps P L ops K l s'):=⟨fun h=>h⟩
instance {P:Program} {L:Lay} {ops:Array Oper} {K:St->Prop} {l:List Oper} {s:St}:Sx (PQuiet P L ops K l s) ops l s (fun s'=>PQuiet P L ops K l s'):=⟨fun h=>h⟩
instance {P:Program} {L:Lay} {ops:Array Oper} {K:St->Prop} {l:List Oper} {s:St} {Z:Nat->List Nat} {cls:Nat->Bool} {i:Nat}:Sx (P3 P L ops Z cls K i l s) ops l s (fun s'=>P3 P L ops Z cls K i l s'):=⟨fun h=>h⟩
theorem Km {G0:Prop}{ops:Array Oper}{l:List Oper}{s:St}{F:St->Prop}[i:Sx G0 ops l s F]{j e:Nat}{want b:Bool}(_hl:l.head?.bind (·.guard)=some (j,want))(_hd:(ops[j]?).bind (·.dst)=some e)(hr:s.reg e = .bool b)(h1:b=true->F (s.putR e (.bool true)))(h0:b=false->F (s.putR e (.bool false))):G0:=by
 have:=jW hr;cases b
 .have q:=h0 O;rw[this]at q;exact i.ok q
 .have q:=h1 O;rw[this]at q;exact i.ok q
theorem fc (k:Nat)(h:k<=9223372036854775806:=by omega):IntKind.i64.wrap (((k:Nat):Int)+1)=((k+1:Nat):Int):=by rw[wrap_i64 J J];omega
theorem H {G0 G':Prop}(k:G')(hr:G'->G0:=by(intro k;(repeat refine fB O ?_);exact k)):G0:=hr k
theorem ar {G0 G':Prop}{P:Program}{L:Lay}{s:St}{ops:Array Oper}{l:List Oper}{K:List Oper->Nat->PV->Prop}{d:Nat}{ty:TypeId}{pos:String}{af:Array Edge}{g:Option (Nat × Bool)}{rest:List Oper}{fop:Operand}{args:Array Operand}{tys:Array TypeId}{f:FuncId}{caps pargs:List PV}{Cd:Prop}{b:Fl}{rr rf:PV}(hret:Ret P .shared f pargs rr)(k:K rest d rf)(hr:G'->G0:=by(intro k;(repeat refine fB O ?_);exact k))(i:Qx G' P L s ops l K:=by infer_instance)(hl:l=⟨some d,.call ⟨.value fop,args,tys⟩,ty,pos,af,g⟩::rest:=by exact O)(hb:gB ops s g=some true:=by exact O)(hf:s.ev fop = .clo f caps:=by exact O)(hres:e_ (eZ s 4) (args.toList.map s.ev++caps)=some (pargs,Cd,b):=by exact O)(hfl:rr.flat=true:=by exact O)(hrf:rr.frs.fz=some rf:=by exact O)(hc:Cd:=by((repeat' constructor);first|done|fail)):G0:=hr (JT (i:=i) hl hb hf hret hres hfl hrf k hc)
theorem JS {G0 G':Prop}{P:Program}{L:Lay}{s:St}{ops:Array Oper}{l:List Oper}{K:List Oper->Nat->PV->Prop}{d:Nat}{ty:TypeId}{pos:String}{af:Array Edge}{g:Option (Nat × Bool)}{rest:List Oper}{fop:Operand}{args:Array Operand}{tys:Array TypeId}{f:FuncId}{caps pargs:List PV}{Cd:Prop}{b:Fl}{rr rf:PV}(hret:Ret P .fresh f pargs rr)(k:K rest d rf)(hr:G'->G0:=by(intro k;(repeat refine fB O ?_);exact k))(i:Qx G' P L s ops l K:=by infer_instance)(hl:l=⟨some d,.call ⟨.value fop,args,tys⟩,ty,pos,af,g⟩::rest:=by exact O)(hb:gB ops s g=some true:=by exact O)(hf:s.ev fop = .clo f caps:=by exact O)(hres:e_ (eZ s 4) (args.toList.map s.ev++caps)=some (pargs,Cd,b):=by exact O)(hrf:rr.frs.fz=some rf:=by exact O)(hc:Cd:=by((repeat' constructor);first|done|fail)):G0:=hr (La (i:=i) hl hb hf hret hres hrf k hc)
theorem G {G0 G':Prop}{P:Program}{L:Lay}{s:St}{ops:Array Oper}{l:List Oper}{K:List Oper->Nat->PV->Prop}{d:Nat}{ty:TypeId}{pos:String}{af:Array Edge}{g:Option (Nat × Bool)}{rest:List Oper}{fop:Operand}{args:Array Operand}{tys:Array TypeId}{f:FuncId}{caps pargs:List PV}{Cd:Prop}{b:Fl}{rr:PV}(hret:Ret P .shared f pargs rr)(k:K rest d rr)(hr:G'->G0:=by(intro k;(repeat refine fB O ?_);exact k))(i:Qx G' P L s ops l K:=by infer_instance)(hl:l=⟨some d,.call ⟨.value fop,args,tys⟩,ty,pos,af,g⟩::rest:=by exact O)(hb:gB ops s g=some true:=by exact O)(hf:s.ev fop = .clo f caps:=by exact O)(hres:e_ (eZ s 4) (args.toList.map s.ev++caps)=some (pargs,Cd,b):=by exact O)(hb2:b.cl=true:=by exact O)(hc:Cd:=by((repeat' constructor);first|done|fail)):G0:=hr (nR (i:=i) hl hb hf hret hres hb2 k hc)
theorem aS {G0 G':Prop}{P:Program}{L:Lay}{s:St}{ops:Array Oper}{l:List Oper}{K:List Oper->Nat->PV->Prop}{d:Nat}{ty:TypeId}{pos:String}{af:Array Edge}{g:Option (Nat × Bool)}{rest:List Oper}{T E:TypeId}{r re:LRow}{x ix:Operand}{kk:IntKind}{n:Int}{α:Type}{enc:α->List PV}{ls:List α}{a:α}{m:Nat}(hget:ls[m]? = some a)(k:K rest d (.dref (enc a) 0))(hr:G'->G0:=by(intro k;(repeat refine fB O ?_);exact k))(i:Qx G' P L s ops l K:=by infer_instance)(hl:l=⟨some d,.indexAddr T x ix,ty,pos,af,g⟩::rest:=by exact O)(hb:gB ops s g=some true:=by exact O)(hr2:L T=some r:=by exact O)(hs:r.sh = .sl E:=by exact O)(hre:L E=some re:=by exact O)(hx:s.ev x = .sl (ls.map enc):=by exact O)(hix:s.ev ix = .int kk n:=by exact O)(hm:n.toNat=m:=by exact O)(hlen:(enc a).length=re.size:=by exact O)(h0:0<=n:=by omega):G0:=by subst hm;exact hr (Gj (i:=i) hl hb hr2 hs hre hx hix hget hlen k h0)
theorem D {G0:Prop}{P:Program}{L:Lay}{Q:Exit->St->Prop}{s:St}{c:Operand}{x y:Code}{b:Bool}(h1:b=true->PWP P L x Q s)(h2:b=false->PWP P L y Q s)(hr:PWP P L (.cond c x y) Q s->G0:=by(intro k;(repeat refine fB O ?_);exact k))(hc:s.ev c = .bool b:=by exact O):G0:=hr (bP hc h1 h2)
theorem dE {G0 G':Prop}{ops:Array Oper}{l:List Oper}{s:St}{F:St->Prop}{j e:Nat}{want b:Bool}(h1:b=true->F (s.putR e (.bool true)))(h0:b=false->F (s.putR e (.bool false)))(hr:G'->G0:=by(intro k;(repeat refine fB O ?_);exact k))(i:Sx G' ops l s F:=by infer_instance)(hl:l.head?.bind (·.guard)=some (j,want):=by exact O)(hd:(ops[j]?).bind (·.dst)=some e:=by exact O)(hg:s.reg e = .bool b:=by exact O):G0:=hr (Km (i:=i) hl hd hg h1 h0)
theorem cp {G0:Prop}{fn:Func}{L:Lay}{s:St}{r:PV}{t:Nat}{k:IntKind}{n:Int}(hr:ai L fn .shared r .ret s->G0:=by(intro k;(repeat refine fB O ?_);exact k))(h:fn.results.toList=[.tmp t]:=by exact O)(hv:s.reg t = .int k n:=by exact O)(hd:PV.int k n=r:=by exact O):G0:=hr (nu h hv hd)
theorem gV {G0:Prop}{fn:Func}{L:Lay}{s:St}{r:PV}{t:Nat}{b:Bool}(hr:ai L fn .shared r .ret s->G0:=by(intro k;(repeat refine fB O ?_);exact k))(h:fn.results.toList=[.tmp t]:=by exact O)(hv:s.reg t = .bool b:=by exact O)(hd:PV.bool b=r:=by exact O):G0:=hr (fe h hv hd)
theorem cn {G0:Prop}{P:Program}{L:Lay}{Q:Exit->St->Prop}{s:St}{id:Nat}{l:List Oper}(n:Nat)(ds:List Nat)(h:PQuiet P L l.toArray (fun s'=>POps P L l.toArray (Q .normal) (l.drop n) s') (l.take n) s)(hr:PWP P L (.region id l.toArray true) Q s->G0:=by(intro k;(repeat refine fB O ?_);exact k))(hok:kM l.toArray n ds=true:=by decide +kernel):G0:=hr (jX n ds hok h)
end Go.Pv
namespace Go.Pv
open Go.RowKit
variable [Globs]
section
variable {L:Lay}{s:St}{fn:Func}{r:PV}
end
end Go.Pv
namespace Go.Pv
open Go.RowKit
def jv:PV->Bool
 |.int _ _ | .bool _ | .str _=>true
 |_=>false
theorem rA {E:Env}{c:PV}{v:Value}(h:jv c=true)(hr:Rep E c v):v=scv c:=by
 cases c<;>simp only[jv,Bool.false_eq_true]at h
 .exact hr.bool_inv
 .exact hr.int_inv
 .exact hr.str_inv
theorem gw {c:PV}(h:jv c=true)(w:World)(ok:Nat->Prop):DRep w ok c (scv c)/\(scv c).oneCell'=true:=by
 cases c<;>simp only[jv,Bool.false_eq_true]at h
 .exact⟨.bool _,O⟩
 .exact⟨.int _ _,O⟩
 .exact⟨.str _,O⟩
variable [Globs]
theorem mT {P:Program}{L:Lay}{s:St}{d:Nat}{ty:TypeId}{pos:String}{af:Array Edge}{g:Option (Nat × Bool)}{T E:TypeId}{x hi:Operand}{r re:LRow}{α:Type}{enc:α->List PV}{l:List α}{k:IntKind}{n:Int}(hr:L T=some r)(hs:r.sh = .sl E)(hre:L E=some re)
  (hx:s.ev x = .sl (l.map enc)) (hix:s.ev hi = .int k n) (h0:0<=n) (hle:n<=l.length) (hlen:∀a,(enc a).length=re.size):QOp P L s ⟨some d,.slice T x none (some hi) none,ty,pos,af,g⟩ (.sl ((l.take n.toNat).map enc)):=by
 have:=QOp.slh (P:=P) (L:=L) (s:=s) (o:=⟨some d,.slice T x none (some hi) none,ty,pos,af,g⟩) O hr hs hre hx hix h0 (by simpa using hle) (by intro row h;obtain⟨a,_,rfl⟩:=List.mem_map.1 h;exact hlen a);rwa [<-List.map_take]at this
theorem Ghost.nilfs {s:St}{t:Nat}(hr:s.reg t = .nil):Ghost s (s.putR t (.fsl [])):=by
 intro C a w hX ⟨γ,h⟩;refine⟨γ,h.defers,h.size,fun r=>?_,h.sites,h.inj,h.base,h.below,h.top,h.kept⟩;show Rep _ (bif Nat.beq r t then _ else s.reg r) _;by_cases hrt:r=t
 .subst hrt;have hp:=h.regs r;rw[hr]at hp;simp only[Nat.beq_refl,cond_true];rw[hp.nil_inv];exact .fsl (.sl0 _ _)
 .rw[bm hrt];exact h.regs r
theorem Ghost.takeF {s:St}{k g t n kd sz:Nat}{T:TypeId}{rows:List (List PV)}{α:Type}{enc:α->List PV}(l:List α)(ho:s.own k=(g,some ⟨T,sz,rows,kd⟩))(hr:s.reg t = .als k g 0 n)(he:rows=l.map enc)(hn:n=rows.length)(hpl:∀x,(enc x).all jv=true) :
  Ghost s ((s.setOwn k (g+1) none).putR t (.fsl (l.map enc))):=by
 intro C a w hX ⟨γ,h⟩;subst hn;subst he;obtain⟨h1,hle,_⟩:=h.drop hX ho;refine⟨γ,h1.defers,h1.size,fun r=>?_,h1.sites,h1.inj,h1.base,h1.below,h1.top,h1.kept⟩;show Rep _ (bif Nat.beq r t then _ else(s.setOwn k (g+1) none).reg r) _;by_cases hrt:r=t
 .subst hrt;have hp:=h.regs r;rw[hr]at hp;simp only[Nat.beq_refl,cond_true];refine .fsl ?_;rcases h.als_at hp ho with⟨q1,_,q3,q4⟩|⟨b,cap,cur,q1,q2,q3,q4,q5,q6,q7⟩
  .have:l.map enc=[]:=(h.sites k _ (by rw[ho])).emp q1;rw[this,q4];exact .sl0 _ _
  .obtain⟨cur',g1,g2,g3,g4,g5⟩:=h.site_at ho q1 (h.cells_sz ho q1 q3 q6);have hb:(ao C γ (s.setOwn k (g+1) none) w).okf b:=by
    have hbase:=h.base k _ b (by rw[ho]) q1;refine⟨hbase.1,hbase.2,fun hx=>?_,fun k' c' hc' hb'=>?_⟩
    .have:=hX b hx;omega
    .by_cases hk':k'=k
     .subst hk';rw[ak]at hc';cases hc'
     .rw[aF hk']at hc';exact hk' (h.inj k' k c' _ b hc' (by rw[ho]) hb' q1)
   rw[q2];simp only[Nat.zero_mul];refine .sl (l.map enc) b 0 cap sz (fun i j=>cur'.getD (i*sz+j) undef) hb g2 q4 g4 (fun i j row pv e1 e2=>?_) (fun i j row pv e1 e2=>?_)
   .obtain⟨u,f1,f2,_⟩:=g5 i j row pv e1 e2;have g1:w.heap[b]? = some (.cells cur' T (0,0)):=g1;show w.cell? _=_/\_;rw[bg g1,Nat.zero_add,f1];simp[f1,f2]
   .obtain⟨u,f1,_,f3⟩:=g5 i j row pv e1 e2;have hu:cur'.getD (i*sz+j) undef=u:=by simp[f1]
    simp only[hu];rw[List.getElem?_map,Option.map_eq_some_iff]at e1;obtain⟨y,_,rfl⟩:=e1;have hpv:=List.all_eq_true.1 (hpl y) _ (bc e2);rw[rA hpv (f3.rep ax)];exact(gw hpv _ _).1
 .rw[bm hrt];exact h1.regs r
theorem Ret.shared_of_fresh {P:Program}{f:FuncId}{pargs:List PV}{r:PV}(h:Ret P .fresh f pargs r):Ret P .shared f pargs r :=
 ⟨h.1,fun w X args h0 h1 h2 h3=>(h.2 w X args h0 h1 h2 h3).mono fun _ _ ⟨v,e1,e2,e3⟩=>⟨v,e1,e2,e3.weaken fun b hb=>⟨hb.2,fun hx=>by have:=h1 b hx;have:=hb.1;omega⟩⟩⟩
section
variable {P:Program}{L:Lay}{Q:Exit->St->Prop}{s:St}
theorem pA {ι:Type}{c:Code}{id:Nat}{next:St->Prop}(X:ι->Prop)(regs:ι->List (Nat × PV))(owns:ι->List (Nat × Nat × Cont))(h1:PWP P L c (aq id (aw (fun s'=>∃i,X i/\Fit s' (regs i) (owns i)) Q)) s)(h2:∀i,X i->∀s:St,next (s.over (regs i) (owns i))):PWP P L c (aq id (aw next Q)) s:=by
 refine PWP.mono ?_ _ h1;intro e s' h;have key:(∃i,X i/\Fit s' (regs i) (owns i))->next s':=by
  rintro⟨i,hX,hf⟩;have:=h2 i hX s';rwa [Fit.over hf]at this
 cases e
 case normal=>exact key h
 case exit id' =>
  show if id'=id then _ else _
  have h:if id'=id then _ else _:=h
  split
  .rename_i he;rw[if_pos he]at h;exact key h
  .rename_i he;rw[if_neg he]at h;exact h
 all_goals exact h
end
theorem aQ (id:Nat){P:Program}{L:Lay}{s:St}{ops:Array Oper}{d:Bool}{Q:Exit->St->Prop}(h:PWP P L (.region id ops d) Q s):PWP P L (.region id ops d) Q s:=h
end Go.Pv
namespace Go.Pv
open Go.RowKit Go.ChangeShapes Go.WideShapes Go.ChangeAt
def jh (L:Lay):List (Nat × TypeId)->Nat->Nat->Bool
 |[],o,tot=>Nat.beq o tot
 |(off,T)::fs,o,tot=>match L T with|some r=>Nat.beq off o&&jh L fs (o+r.size) tot|none=>false
def gv (L:Lay):Nat->TypeId->Bool
 |0,_=>false
 |n+1,T=>match L T with
  |some r=>(match r.sh with
   |.bool | .int _ | .str=>true
   |.sl e=>(match L e with|some re=>Nat.blt 0 re.size&&gv L n e|none=>false)
   |.st fs=>jh L fs 0 r.size&&fs.all (fun f=>gv L n f.2)
   |_=>false)
  |none=>false
def j4 (L:Lay):Nat->TypeId->List PV->Prop
 |0,_,_=>False
 |n+1,T,cs=>∃r,L T=some r/\(match r.sh with
  |.bool=>∃b,cs=[.bool b]
  |.int k=>∃m,cs=[.int k m]/\k.min<=m/\m<=k.max
  |.str=>∃s:List UInt8,cs=[.str s]/\s.length<=maxLen
  |.sl e=>∃rows,cs=[.sl rows]/\rows.length<=maxLen/\∀row∈rows,j4 L n e row
  |.st fs=>∃parts:List (List PV),cs=parts.flatten/\parts.length=fs.length/\∀(i:Nat) f p,fs[i]? = some f->parts[i]? = some p->j4 L n f.2 p
  |_=>False)
section
variable {L:Lay}{n:Nat}{T:TypeId}{cs:List PV}
theorem p9 {r:LRow}{sh:Sh}(hr:L T=some r)(hs:(L T).map (·.sh)=some sh):r.sh=sh:=by rw[hr]at hs;exact Option.some.inj hs
theorem v_ (h:j4 L (n+1) T cs)(hs:(L T).map (·.sh)=some .bool):∃b,cs=[.bool b]:=by
 obtain⟨r,hr,h⟩:=h;rw[p9 hr hs]at h;exact h
theorem ms {k:IntKind}(h:j4 L (n+1) T cs)(hs:(L T).map (·.sh)=some (.int k)):∃m,cs=[.int k m]/\k.min<=m/\m<=k.max:=by
 obtain⟨r,hr,h⟩:=h;rw[p9 hr hs]at h;exact h
theorem cQ {k:IntKind}(h:j4 L (n+1) T cs)(hs:(L T).map (·.sh)=some (.int k)):∃m,cs=[.int k m]:=let ⟨m,e,_⟩:=ms h hs;⟨m,e⟩
theorem ES (h:j4 L (n+1) T cs)(hs:(L T).map (·.sh)=some .str):∃s:List UInt8,cs=[.str s]/\s.length<=maxLen:=by
 obtain⟨r,hr,h⟩:=h;rw[p9 hr hs]at h;exact h
theorem tz (h:j4 L (n+1) T cs)(hs:(L T).map (·.sh)=some .str):∃s,cs=[.str s]:=let ⟨m,e,_⟩:=ES h hs;⟨m,e⟩
theorem j5 {e:TypeId}(h:j4 L (n+1) T cs)(hs:(L T).map (·.sh)=some (.sl e)):∃rows,cs=[.sl rows]/\rows.length<=maxLen/\∀row∈rows,j4 L n e row:=by
 obtain⟨r,hr,h⟩:=h;rw[p9 hr hs]at h;exact h
theorem I3 {e:TypeId}(h:j4 L (n+1) T cs)(hs:(L T).map (·.sh)=some (.sl e)):∃rows,cs=[.sl rows]/\∀row∈rows,j4 L n e row:=let ⟨m,e,_,h⟩:=j5 h hs;⟨m,e,h⟩
theorem jJ {fs:List (Nat × TypeId)}(h:j4 L (n+1) T cs)(hs:(L T).map (·.sh)=some (.st fs)):∃parts:List (List PV),cs=parts.flatten/\parts.length=fs.length/\∀(i:Nat) f p,fs[i]? = some f->parts[i]? = some p->j4 L n f.2 p:=by
 obtain⟨r,hr,h⟩:=h;rw[p9 hr hs]at h;exact h
end
def Reads (w:World)(pvs:List PV)(cs:List Value):Prop :=
 pvs.length=cs.length/\∀(i:Nat) (c:PV) (v:Value),pvs[i]? = some c->cs[i]? = some v->DRep w (fun b=>b<w.heap.size) c v/\v.oneCell'=true
theorem Reads.append {w:World}{p1 p2:List PV}{c1 c2:List Value}(h1:Reads w p1 c1)(h2:Reads w p2 c2):Reads w (p1++p2) (c1++c2):=by
 refine⟨by simp[h1.1,h2.1],fun i c v e1 e2=>?_⟩;rw[List.getElem?_append]at e1 e2;split at e1
 .rename_i hlt;rw[if_pos (by rw[<-h1.1];exact hlt)]at e2;exact h1.2 i c v e1 e2
 .rename_i hlt;rw[if_neg (by rw[<-h1.1];exact hlt),<-h1.1]at e2;exact h2.2 _ c v e1 e2
section
variable {H0:Type}{enc:TypeId × Value->H0}{P:Program}{L:Lay}{w:World}{sp:Nat->Bool}{held:Bool}
theorem kE (hL:ig P L){T:TypeId}{r:LRow}(hr:L T=some r):P.cellsOf T=r.size:=by
 obtain⟨i,d,hi,_,hs,_⟩:=LRow.spec (hL T r hr);simp[Program.cellsOf,hi,hs]
theorem qR:∀(fs:List (Nat × TypeId)) (o tot:Nat),jh L fs o tot=true->o<=tot
 |[],o,tot,h=>by simp[jh]at h;omega
 |(off,T)::fs,o,tot,h=>by
  simp only[jh]at h;split at h
  .rename_i r hr;simp only[Bool.and_eq_true]at h;have:=qR fs _ _ h.2;omega
  .cases h
theorem oO (hL:ig P L){n:Nat}{cs:List Value}
  (IH:∀(T:TypeId) (cs:List Value) (fuel:Nat) x,gv L n T=true->DataW.trod enc P w 0 sp held fuel T cs=some x->∃pvs,Reads w pvs cs/\j4 L n T pvs) :
  ∀(fs:List (Nat × TypeId)) (o:Nat),jh L fs o cs.length=true->fs.all (fun f=>gv L n f.2)=true ->
   (∀f∈fs,∃m x,DataW.trod enc P w 0 sp held m f.2 ((cs.drop f.1).take (P.cellsOf f.2))=some x) ->
   ∃parts:List (List PV),Reads w parts.flatten (cs.drop o)/\parts.length=fs.length/\∀(i:Nat) f p,fs[i]? = some f->parts[i]? = some p->j4 L n f.2 p
 |[],o,h,_,_=>by
  simp[jh]at h;refine⟨[],⟨by simp[h],fun i c v e=>by simp at e⟩,O,fun i f p e=>by simp at e⟩
 |(off,T)::fs,o,h,hall,hd=>by
  simp only[jh]at h;split at h
  .rename_i r hr;simp only[Bool.and_eq_true,Nat.beq_eq]at h;obtain⟨rfl,h⟩:=h;simp only[List.all_cons,Bool.and_eq_true]at hall;have hle:=qR fs _ _ h;obtain⟨m,x,hx⟩:=hd (off,T) ah;obtain⟨pvs,hp1,hp2⟩:=IH T _ m x hall.1 hx;obtain⟨parts,g1,g2,g3⟩:=oO hL IH fs (off+r.size) h hall.2 (fun f hf=>hd f (by simp[hf]));rw[kE hL hr]at hp1;refine⟨pvs::parts,?_,by simp[g2],fun i f p e1 e2=>?_⟩
   .have hsplit:cs.drop off=(cs.drop off).take r.size++cs.drop (off+r.size):=by rw[<-List.drop_drop,List.take_append_drop]
    rw[hsplit,List.flatten_cons];exact hp1.append g1
   .cases i with
    |zero=>simp at e1 e2;subst e1;subst e2;exact hp2
    |succ i=>exact g3 i f p (by simpa using e1) (by simpa using e2)
  .cases h
theorem p8 (hL:ig P L):∀(n:Nat) (T:TypeId) (cs:List Value) (fuel:Nat) (x:DataW H0 × List MemPlace),gv L n T=true->DataW.trod enc P w 0 sp held fuel T cs=some x->∃pvs,Reads w pvs cs/\j4 L n T pvs
 |0,_,_,_,_,h,_=>by simp[gv]at h
 |n+1,T,cs,fuel,x,h,ht=>by
  simp only[gv]at h;split at h
  .rename_i r hr;have hfit:=hL T r hr;have one:∀ {c:PV} {v:Value},DRep w (fun b=>b<w.heap.size) c v->v.oneCell'=true->Reads w [c] [v]:=fun h1 h2=>⟨O,fun i c v e1 e2=>by
    cases i with
    |zero=>simp at e1 e2;subst e1;subst e2;exact⟨h1,h2⟩
    |succ i=>simp at e1⟩
   split at h
   .rename_i hs;obtain⟨b,rfl,_⟩:=DataW.trod_bool (qb hfit hs) ht;exact⟨[.bool b],one (.bool b) O,r,hr,by rw[hs];exact⟨b,O⟩⟩
   .rename_i k hs;obtain⟨m,rfl,_,hwf⟩:=DataW.trod_int (mu hfit hs) ht;simp only[Lit.wf,Bool.and_eq_true,decide_eq_true_eq]at hwf;exact⟨[.int k m],one (.int k m) O,r,hr,by rw[hs];exact⟨m,O,hwf⟩⟩
   .rename_i hs;obtain⟨s,rfl,_,hsz⟩:=DataW.trod_string (j7 hfit hs) ht;exact⟨[.str s.data.toList],one (.str s.data.toList) O,r,hr,by rw[hs];exact⟨_,O,by rw[Array.length_toList];exact hsz⟩⟩
   .rename_i e hs;split at h
    .rename_i re hre;simp only[Bool.and_eq_true]at h;have hsz:0<re.size:=by simpa using h.1
     have hce:=kE hL hre;rcases DataW.trod_slice (gE hfit hs) ht with⟨rfl,_⟩|⟨a,len,cap,elems,rest,m,rfl,rfl,_,_,hlc,hcm,hel,hat,_⟩
     .exact⟨[.sl []],one (.sl0 none 0) O,r,hr,by rw[hs];exact⟨[],O,Nat.zero_le _,fun row hrow=>by cases hrow⟩⟩
     .rw[hce]at hat;have key:∀i,i<len->∃ecs,w.cells? 0 (a.add (i*re.size)) re.size=some ecs/\∃pvs,Reads w pvs ecs/\j4 L n e pvs:=by
       intro i hi;have h1:=hat i hi;rw[List.getElem?_eq_getElem J]at h1;obtain⟨ecs,e1,e2⟩:=Option.bind_eq_some_iff.1 h1;obtain⟨pvs,g1,g2⟩:=p8 hL n e ecs m _ h.2 e2;exact⟨ecs,e1,pvs,g1,g2⟩
      by_cases h0:len=0
      .subst h0;exact⟨[.sl []],one (.sl0 _ _) O,r,hr,by rw[hs];exact⟨[],O,Nat.zero_le _,fun row hrow=>by cases hrow⟩⟩
      ·
       have cellAt:∀(i:Nat) ecs,w.cells? 0 (a.add (i*re.size)) re.size=some ecs->ecs.length=re.size/\∀j v,ecs[j]? = some v->w.cell? ((a.add (i*re.size)).add j)=some v:=by
        intro i ecs he;unfold World.cells? at he;rw[if_pos (Nat.zero_le _)]at he;refine⟨by simpa using mapM_some_length he,fun j v hv=>?_⟩;have hj:j<re.size:=by have:=mapM_some_length he;have:=(bb hv).1;simp at *;omega
        have:=mapM_some_get he j j (by simp[hj]);rw[hv]at this;exact this
       obtain⟨b,off,spot⟩:=a;obtain⟨ecs0,f1,pvs0,f2,_⟩:=key 0 J;obtain⟨f3,f4⟩:=cellAt 0 ecs0 f1;have hc0:∃v,w.cell? (((⟨b,off,spot⟩:Addr).add (0*re.size)).add 0)=some v:=⟨ecs0[0],f4 0 _ (List.getElem?_eq_getElem J)⟩;have hspot:spot=none:=by
        obtain⟨v,hv⟩:=hc0;simpa [Addr.add] using World.cell?_spot hv
       subst hspot;have hbl:b<w.heap.size:=by
        obtain⟨v,hv⟩:=hc0;simp only[Nat.zero_mul,Addr.add_mk,Nat.add_zero]at hv;rcases Nat.lt_or_ge b w.heap.size with hlt|hge
        .exact hlt
        .simp[World.cell?,Array.getElem?_eq_none hge]at hv
       have hch:∀i:Nat,∃p:List PV × List Value,i<len->w.cells? 0 ((⟨b,off,none⟩:Addr).add (i*re.size)) re.size=some p.2/\Reads w p.1 p.2/\j4 L n e p.1:=by
        intro i;by_cases hi:i<len
        .obtain⟨ecs,e1,pvs,e2,e3⟩:=key i hi;exact⟨(pvs,ecs),fun _=>⟨e1,e2,e3⟩⟩
        .exact⟨([],[]),fun h=>absurd h hi⟩
       let g:Nat->List PV × List Value:=fun i=>Classical.choose (hch i);have hg:∀i,i<len->w.cells? 0 ((⟨b,off,none⟩:Addr).add (i*re.size)) re.size=some (g i).2/\Reads w (g i).1 (g i).2/\j4 L n e (g i).1:=fun i hi=>Classical.choose_spec (hch i) hi;have hrow:∀(i:Nat) (row:List PV),((List.range len).map fun i=>(g i).1)[i]? = some row->i<len/\row=(g i).1:=by
        intro i row hrow;rw[List.getElem?_map]at hrow;rcases Nat.lt_or_ge i len with hlt|hge
        .rw[List.getElem?_range hlt]at hrow;simp at hrow;exact⟨hlt,hrow.symm⟩
        .rw[List.getElem?_eq_none (by simpa using hge)]at hrow;simp at hrow
       have hmem:∀row∈(List.range len).map fun i=>(g i).1,∃i,i<len/\row=(g i).1:=by
        intro row hrow;obtain⟨i,hi,rfl⟩:=List.mem_map.1 hrow;exact⟨i,List.mem_range.1 hi,O⟩
       have hlen:((List.range len).map fun i=>(g i).1).length=len:=ah;have hlen':∀i,i<len->(g i).1.length=re.size:=fun i hi=>by
        rw[(hg i hi).2.1.1];exact(cellAt i _ (hg i hi).1).1
       have hD:DRep w (fun b=>b<w.heap.size) (.sl ((List.range len).map fun i=>(g i).1)) (.slice (some ⟨b,off,none⟩) len cap):=by
        have:=DRep.sl (w:=w) (ok:=fun b=>b<w.heap.size) ((List.range len).map fun i=>(g i).1) b off cap re.size (fun i j=>((g i).2[j]?).getD undef) hbl hsz (by rw[hlen];exact hlc)
         (fun row hr=>by obtain⟨i,hi,rfl⟩:=hmem row hr;exact hlen' i hi)
         (fun i j row c e1 e2=>by
          obtain⟨hi,rfl⟩:=hrow i row e1;have hj:j<(g i).2.length:=by rw[<-(hg i hi).2.1.1];exact(bb e2).1
          have hv:(g i).2[j]? = some (g i).2[j]:=List.getElem?_eq_getElem hj;have:=(cellAt i _ (hg i hi).1).2 j _ hv;rw[Addr.add_mk,Addr.add_mk]at this;rw[hv]
          exact⟨this,((hg i hi).2.1.2 j c _ e2 hv).2⟩)
         (fun i j row c e1 e2=>by
          obtain⟨hi,rfl⟩:=hrow i row e1;have hj:j<(g i).2.length:=by rw[<-(hg i hi).2.1.1];exact(bb e2).1
          have hv:(g i).2[j]? = some (g i).2[j]:=List.getElem?_eq_getElem hj;rw[hv]
          exact((hg i hi).2.1.2 j c _ e2 hv).1)
        rw[hlen]at this;exact this
       exact⟨[.sl ((List.range len).map fun i=>(g i).1)],one hD O,r,hr,by
        rw[hs]
        exact⟨_,O,by rw[hlen];exact Nat.le_trans hlc hcm,fun row hr=>by obtain⟨i,hi,rfl⟩:=hmem row hr;exact(hg i hi).2.2⟩⟩
    .cases h
   .rename_i fs hs;simp only[Bool.and_eq_true]at h;obtain⟨fs',hu,hm⟩:=qc hfit hs;obtain⟨xs,m,_,_,hlen,hxl,hf⟩:=DataW.trod_struct hu ht;rw[kE hL hr]at hlen;obtain⟨parts,g1,g2,g3⟩:=oO hL (cs:=cs) (fun T cs fuel x a b=>p8 hL n T cs fuel x a b) fs 0 (by rw[hlen];exact h.1) h.2 (fun f hf'=>by
     rw[<-hm]at hf';obtain⟨fd,hfd,rfl⟩:=List.mem_map.1 hf';obtain⟨i,hi,hie⟩:=List.getElem_of_mem hfd;have hi':i<fs'.size:=by simpa using hi
     have h1:fs'[i]? = some fd:=by rw[Array.getElem?_eq_getElem hi'];simpa using hie
     have h2:=hf i fd h1;rw[List.getElem?_eq_getElem J]at h2
     exact⟨m,_,h2⟩)
    exact⟨parts.flatten,by simpa using g1,r,hr,by rw[hs];exact⟨parts,O,g2,g3⟩⟩
   .cases h
  .cases h
theorem ky (hl:laidOutB P=true){W W':World}(hb:Below W.heap.size W W'):∀(ts:List TypeId) (vs:List Value) (ds:List (DataW H0)) (ps:List MemPlace),(∀t∈ts,P.readableRec t=true/\t<P.types.size) ->
  DataW.TrodAll enc P W 0 (fun _=>true) true ts vs ds ps->(∀x∈ps,x.block<W.heap.size)->DataW.TrodAll enc P W' 0 (fun b=>decide (b<W.heap.size)) true ts vs ds ps
 |[],vs,ds,ps,_,h,_=>by
  obtain⟨rfl,rfl,rfl⟩:=trodAll_nil h;exact trodAll_mk0
 |t::ts,vs,ds,ps,hr,h,hlt=>by
  obtain⟨v,vs',d,ds',p,q,rfl,rfl,rfl,h1,h2⟩:=trodAll_cons h;have ht:=hr t ah;exact⟨p,q,Below.trod hl ht.1 ht.2 h1 hb (fun x hx=>hlt x (by simp[hx])),ky hl hb ts vs' ds' q (fun t ht=>hr t (by simp[ht])) h2 (fun x hx=>hlt x (by simp[hx])),O⟩
end
end Go.Pv
namespace Go.Pv
open Go.Proofs Go.RowKit
set_option maxRecDepth 100000
def lay:Tr:=(.nd 186 (.nd 93 (.nd 46 (.nd 23 (.nd 11 (.nd 5 (.nd 2 (.nd 1 (.lf 0 ⟨1,0,.other,none⟩)
 (.lf 1 ⟨1,8,.other,(some [(.raw .nilFunc)])⟩))
 (.nd 3 (.lf 2 ⟨1,8,(.int .i64),(some [(.int .i64 0)])⟩)
 (.nd 4 (.lf 3 ⟨1,8,(.int .i64),(some [(.int .i64 0)])⟩)
 (.lf 4 ⟨1,1,.bool,(some [(.bool false)])⟩))))
 (.nd 8 (.nd 6 (.lf 5 ⟨1,1,(.int .u8),(some [(.int .u8 0)])⟩)
 (.nd 7 (.lf 6 ⟨1,1,(.int .u8),(some [(.int .u8 0)])⟩)
 (.lf 7 ⟨4,24,(.st [(0,2),(1,3),(2,4),(3,6)]),(some [(.int .i64 0),(.int .i64 0),(.bool false),(.int .u8 0)])⟩)))
 (.nd 9 (.lf 8 ⟨4,24,(.st [(0,2),(1,3),(2,4),(3,6)]),(some [(.int .i64 0),(.int .i64 0),(.bool false),(.int .u8 0)])⟩)
 (.nd 10 (.lf 9 ⟨1,16,.str,(some [(.str [])])⟩)
 (.lf 10 ⟨1,16,.str,(some [(.str [])])⟩)))))
 (.nd 17 (.nd 14 (.nd 12 (.lf 11 ⟨1,16,.str,(some [(.str [])])⟩)
 (.nd 13 (.lf 12 ⟨1,8,(.int .u64),(some [(.int .u64 0)])⟩)
 (.lf 13 ⟨2,24,(.st [(0,9),(1,12)]),(some [(.str []),(.int .u64 0)])⟩)))
 (.nd 15 (.lf 14 ⟨2,24,(.st [(0,9),(1,12)]),(some [(.str []),(.int .u64 0)])⟩)
 (.nd 16 (.lf 15 ⟨1,8,(.ptr 358),(some [(.raw (.pointer none))])⟩)
 (.lf 16 ⟨1,8,(.ptr 361),(some [(.raw (.pointer none))])⟩))))
 (.nd 20 (.nd 18 (.lf 17 ⟨1,8,(.ptr 370),(some [(.raw (.pointer none))])⟩)
 (.nd 19 (.lf 18 ⟨1,8,(.st [(0,17)]),(some [(.raw (.pointer none))])⟩)
 (.lf 19 ⟨1,8,(.st [(0,17)]),(some [(.raw (.pointer none))])⟩)))
 (.nd 21 (.lf 20 ⟨1,16,.other,(some [(.raw .nilIface)])⟩)
 (.nd 22 (.lf 21 ⟨1,4,(.int .i32),(some [(.int .i32 0)])⟩)
 (.lf 22 ⟨1,24,(.sl 130),(some [.nil])⟩))))))
 (.nd 34 (.nd 28 (.nd 25 (.nd 24 (.lf 23 ⟨5,48,(.st [(0,9),(1,3),(2,3),(3,3),(4,3)]),(some [(.str []),(.int .i64 0),(.int .i64 0),(.int .i64 0),(.int .i64 0)])⟩)
 (.lf 24 ⟨5,48,(.st [(0,9),(1,3),(2,3),(3,3),(4,3)]),(some [(.str []),(.int .i64 0),(.int .i64 0),(.int .i64 0),(.int .i64 0)])⟩))
 (.nd 26 (.lf 25 ⟨1,24,(.sl 24),(some [.nil])⟩)
 (.nd 27 (.lf 26 ⟨9,120,(.st [(0,9),(1,3),(2,22),(3,24),(8,25)]),(some [(.str []),(.int .i64 0),.nil,(.str []),(.int .i64 0),(.int .i64 0),(.int .i64 0),(.int .i64 0),.nil])⟩)
 (.lf 27 ⟨9,120,(.st [(0,9),(1,3),(2,22),(3,24),(8,25)]),(some [(.str []),(.int .i64 0),.nil,(.str []),(.int .i64 0),(.int .i64 0),(.int .i64 0),(.int .i64 0),.nil])⟩))))
 (.nd 31 (.nd 29 (.lf 28 ⟨1,24,(.sl 108),(some [.nil])⟩)
 (.nd 30 (.lf 29 ⟨1,24,(.sl 132),(some [.nil])⟩)
 (.lf 30 ⟨14,192,(.st [(0,27),(9,3),(10,28),(11,29),(12,3),(13,3)]),(some [(.str []),(.int .i64 0),.nil,(.str []),(.int .i64 0),(.int .i64 0),(.int .i64 0),(.int .i64 0),.nil,(.int .i64 0),.nil,.nil,(.int .i64 0),(.int .i64 0)])⟩)))
 (.nd 32 (.lf 31 ⟨14,192,(.st [(0,27),(9,3),(10,28),(11,29),(12,3),(13,3)]),(some [(.str []),(.int .i64 0),.nil,(.str []),(.int .i64 0),(.int .i64 0),(.int .i64 0),(.int .i64 0),.nil,(.int .i64 0),.nil,.nil,(.int .i64 0),(.int .i64 0)])⟩)
 (.nd 33 (.lf 32 ⟨1,8,.other,(some [(.raw .nilFunc)])⟩)
 (.lf 33 ⟨1,8,.other,(some [(.raw .nilFunc)])⟩)))))
 (.nd 40 (.nd 37 (.nd 35 (.lf 34 ⟨1,8,(.int .i64),(some [(.int .i64 0)])⟩)
 (.nd 36 (.lf 35 ⟨1,8,.other,(some [(.raw .nilFunc)])⟩)
 (.lf 36 ⟨1,8,.other,(some [(.raw .nilFunc)])⟩)))
 (.nd 38 (.lf 37 ⟨1,8,.other,(some [(.raw .nilFunc)])⟩)
 (.nd 39 (.lf 38 ⟨1,24,(.sl 57),(some [.nil])⟩)
 (.lf 39 ⟨2,32,(.st [(0,4),(1,38)]),(some [(.bool false),.nil])⟩))))
 (.nd 43 (.nd 41 (.lf 40 ⟨2,32,(.st [(0,4),(1,38)]),(some [(.bool false),.nil])⟩)
 (.nd 42 (.lf 41 ⟨4,64,(.st [(0,40),(2,40)]),(some [(.bool false),.nil,(.bool false),.nil])⟩)
 (.lf 42 ⟨4,64,(.st [(0,40),(2,40)]),(some [(.bool false),.nil,(.bool false),.nil])⟩)))
 (.nd 44 (.lf 43 ⟨1,8,.other,(some [(.raw .nilFunc)])⟩)
 (.nd 45 (.lf 44 ⟨8,128,(.st [(0,42),(4,42)]),(some [(.bool false),.nil,(.bool false),.nil,(.bool false),.nil,(.bool false),.nil])⟩)
 (.lf 45 ⟨8,128,(.st [(0,42),(4,42)]),(some [(.bool false),.nil,(.bool false),.nil,(.bool false),.nil,(.bool false),.nil])⟩)))))))
 (.nd 69 (.nd 57 (.nd 51 (.nd 48 (.nd 47 (.lf 46 ⟨1,24,(.sl 42),(some [.nil])⟩)
 (.lf 47 ⟨16,256,(.st [(0,42),(4,42),(8,42),(12,42)]),(some [(.bool false),.nil,(.bool false),.nil,(.bool false),.nil,(.bool false),.nil,(.bool false),.nil,(.bool false),.nil,(.bool false),.nil,(.bool false),.nil])⟩))
 (.nd 49 (.lf 48 ⟨16,256,(.st [(0,42),(4,42),(8,42),(12,42)]),(some [(.bool false),.nil,(.bool false),.nil,(.bool false),.nil,(.bool false),.nil,(.bool false),.nil,(.bool false),.nil,(.bool false),.nil,(.bool false),.nil])⟩)
 (.nd 50 (.lf 49 ⟨39,616,(.st [(0,42),(4,45),(12,46),(13,42),(17,42),(21,48),(37,4),(38,3)]),(some [(.bool false),.nil,(.bool false),.nil,(.bool false),.nil,(.bool false),.nil,(.bool false),.nil,(.bool false),.nil,.nil,(.bool false),.nil,(.bool false),.nil,(.bool false),.nil,(.bool false),.nil,(.bool false),.nil,(.bool false),.nil,(.bool false),.nil,(.bool false),.nil,(.bool false),.nil,(.bool false),.nil,(.bool false),.nil,(.bool false),.nil,(.bool false),(.int .i64 0)])⟩)
 (.lf 50 ⟨39,616,(.st [(0,42),(4,45),(12,46),(13,42),(17,42),(21,48),(37,4),(38,3)]),(some [(.bool false),.nil,(.bool false),.nil,(.bool false),.nil,(.bool false),.nil,(.bool false),.nil,(.bool false),.nil,.nil,(.bool false),.nil,(.bool false),.nil,(.bool false),.nil,(.bool false),.nil,(.bool false),.nil,(.bool false),.nil,(.bool false),.nil,(.bool false),.nil,(.bool false),.nil,(.bool false),.nil,(.bool false),.nil,(.bool false),.nil,(.bool false),(.int .i64 0)])⟩))))
 (.nd 54 (.nd 52 (.lf 51 ⟨1,0,.other,none⟩)
 (.nd 53 (.lf 52 ⟨1,8,.other,(some [(.raw .nilFunc)])⟩)
 (.lf 53 ⟨1,8,.other,(some [(.raw .nilFunc)])⟩)))
 (.nd 55 (.lf 54 ⟨1,0,.other,none⟩)
 (.nd 56 (.lf 55 ⟨1,8,.other,(some [(.raw .nilFunc)])⟩)
 (.lf 56 ⟨1,8,.other,(some [(.raw .nilFunc)])⟩)))))
 (.nd 63 (.nd 60 (.nd 58 (.lf 57 ⟨1,2,(.int .u16),(some [(.int .u16 0)])⟩)
 (.nd 59 (.lf 58 ⟨1,8,.other,(some [(.raw .nilFunc)])⟩)
 (.lf 59 ⟨1,8,.other,(some [(.raw .nilFunc)])⟩)))
 (.nd 61 (.lf 60 ⟨10,144,(.st [(0,3),(1,42),(5,42),(9,3)]),(some [(.int .i64 0),(.bool false),.nil,(.bool false),.nil,(.bool false),.nil,(.bool false),.nil,(.int .i64 0)])⟩)
 (.nd 62 (.lf 61 ⟨10,144,(.st [(0,3),(1,42),(5,42),(9,3)]),(some [(.int .i64 0),(.bool false),.nil,(.bool false),.nil,(.bool false),.nil,(.bool false),.nil,(.int .i64 0)])⟩)
 (.lf 62 ⟨1,8,.other,(some [(.raw .nilFunc)])⟩))))
 (.nd 66 (.nd 64 (.lf 63 ⟨1,8,.other,(some [(.raw .nilFunc)])⟩)
 (.nd 65 (.lf 64 ⟨1,8,.other,(some [(.raw .nilFunc)])⟩)
 (.lf 65 ⟨1,8,.other,(some [(.raw .nilFunc)])⟩)))
 (.nd 67 (.lf 66 ⟨1,0,.other,none⟩)
 (.nd 68 (.lf 67 ⟨1,8,.other,(some [(.raw .nilFunc)])⟩)
 (.lf 68 ⟨9,152,(.st [(0,45),(8,46)]),(some [(.bool false),.nil,(.bool false),.nil,(.bool false),.nil,(.bool false),.nil,.nil])⟩))))))
 (.nd 81 (.nd 75 (.nd 72 (.nd 70 (.lf 69 ⟨9,152,(.st [(0,45),(8,46)]),(some [(.bool false),.nil,(.bool false),.nil,(.bool false),.nil,(.bool false),.nil,.nil])⟩)
 (.nd 71 (.lf 70 ⟨8,128,(.st [(0,42),(4,42)]),(some [(.bool false),.nil,(.bool false),.nil,(.bool false),.nil,(.bool false),.nil])⟩)
 (.lf 71 ⟨8,128,(.st [(0,42),(4,42)]),(some [(.bool false),.nil,(.bool false),.nil,(.bool false),.nil,(.bool false),.nil])⟩)))
 (.nd 73 (.lf 72 ⟨1,0,.other,none⟩)
 (.nd 74 (.lf 73 ⟨1,8,.other,(some [(.raw .nilFunc)])⟩)
 (.lf 74 ⟨1,0,.other,none⟩))))
 (.nd 78 (.nd 76 (.lf 75 ⟨1,8,.other,(some [(.raw .nilFunc)])⟩)
 (.nd 77 (.lf 76 ⟨1,8,.other,(some [(.raw .nilFunc)])⟩)
 (.lf 77 ⟨1,8,.other,(some [(.raw .nilFunc)])⟩)))
 (.nd 79 (.lf 78 ⟨1,24,(.sl 136),(some [.nil])⟩)
 (.nd 80 (.lf 79 ⟨1,0,.other,none⟩)
 (.lf 80 ⟨1,8,.other,(some [(.raw .nilFunc)])⟩)))))
 (.nd 87 (.nd 84 (.nd 82 (.lf 81 ⟨1,8,.other,(some [(.raw .nilFunc)])⟩)
 (.nd 83 (.lf 82 ⟨1,8,.other,(some [(.raw .nilFunc)])⟩)
 (.lf 83 ⟨1,8,.other,(some [(.raw .nilFunc)])⟩)))
 (.nd 85 (.lf 84 ⟨1,8,.other,(some [(.raw .nilFunc)])⟩)
 (.nd 86 (.lf 85 ⟨1,8,.other,(some [(.raw .nilFunc)])⟩)
 (.lf 86 ⟨1,0,.other,none⟩))))
 (.nd 90 (.nd 88 (.lf 87 ⟨1,8,.other,(some [(.raw .nilFunc)])⟩)
 (.nd 89 (.lf 88 ⟨1,8,.other,(some [(.raw .nilFunc)])⟩)
 (.lf 89 ⟨1,0,.other,none⟩)))
 (.nd 91 (.lf 90 ⟨1,8,.other,(some [(.raw .nilFunc)])⟩)
 (.nd 92 (.lf 91 ⟨1,8,.other,(some [(.raw .nilFunc)])⟩)
 (.lf 92 ⟨1,24,(.sl 3),(some [.nil])⟩))))))))
 (.nd 139 (.nd 116 (.nd 104 (.nd 98 (.nd 95 (.nd 94 (.lf 93 ⟨1,24,(.sl 50),(some [.nil])⟩)
 (.lf 94 ⟨1,0,.other,none⟩))
 (.nd 96 (.lf 95 ⟨1,8,.other,(some [(.raw .nilFunc)])⟩)
 (.nd 97 (.lf 96 ⟨1,8,.other,(some [(.raw .nilFunc)])⟩)
 (.lf 97 ⟨1,8,.other,(some [(.raw .nilFunc)])⟩))))
 (.nd 101 (.nd 99 (.lf 98 ⟨1,8,.other,(some [(.raw .nilFunc)])⟩)
 (.nd 100 (.lf 99 ⟨1,8,.other,(some [(.raw .nilFunc)])⟩)
 (.lf 100 ⟨1,24,(.sl 105),(some [.nil])⟩)))
 (.nd 102 (.lf 101 ⟨1,0,.other,none⟩)
 (.nd 103 (.lf 102 ⟨1,8,.other,(some [(.raw .nilFunc)])⟩)
 (.lf 103 ⟨1,8,.other,(some [(.raw .nilFunc)])⟩)))))
 (.nd 110 (.nd 107 (.nd 105 (.lf 104 ⟨9,136,(.st [(0,3),(1,42),(5,42)]),(some [(.int .i64 0),(.bool false),.nil,(.bool false),.nil,(.bool false),.nil,(.bool false),.nil])⟩)
 (.nd 106 (.lf 105 ⟨9,136,(.st [(0,3),(1,42),(5,42)]),(some [(.int .i64 0),(.bool false),.nil,(.bool false),.nil,(.bool false),.nil,(.bool false),.nil])⟩)
 (.lf 106 ⟨1,8,.other,(some [(.raw .nilFunc)])⟩)))
 (.nd 108 (.lf 107 ⟨11,120,(.st [(0,3),(1,3),(2,3),(3,3),(4,3),(5,42),(9,3),(10,4)]),(some [(.int .i64 0),(.int .i64 0),(.int .i64 0),(.int .i64 0),(.int .i64 0),(.bool false),.nil,(.bool false),.nil,(.int .i64 0),(.bool false)])⟩)
 (.nd 109 (.lf 108 ⟨11,120,(.st [(0,3),(1,3),(2,3),(3,3),(4,3),(5,42),(9,3),(10,4)]),(some [(.int .i64 0),(.int .i64 0),(.int .i64 0),(.int .i64 0),(.int .i64 0),(.bool false),.nil,(.bool false),.nil,(.int .i64 0),(.bool false)])⟩)
 (.lf 109 ⟨13,136,(.st [(0,108),(11,3),(12,3)]),(some [(.int .i64 0),(.int .i64 0),(.int .i64 0),(.int .i64 0),(.int .i64 0),(.bool false),.nil,(.bool false),.nil,(.int .i64 0),(.bool false),(.int .i64 0),(.int .i64 0)])⟩))))
 (.nd 113 (.nd 111 (.lf 110 ⟨13,136,(.st [(0,108),(11,3),(12,3)]),(some [(.int .i64 0),(.int .i64 0),(.int .i64 0),(.int .i64 0),(.int .i64 0),(.bool false),.nil,(.bool false),.nil,(.int .i64 0),(.bool false),(.int .i64 0),(.int .i64 0)])⟩)
 (.nd 112 (.lf 111 ⟨1,0,.other,none⟩)
 (.lf 112 ⟨1,8,.other,(some [(.raw .nilFunc)])⟩)))
 (.nd 114 (.lf 113 ⟨1,8,.other,(some [(.raw .nilFunc)])⟩)
 (.nd 115 (.lf 114 ⟨1,8,.other,(some [(.raw .nilFunc)])⟩)
 (.lf 115 ⟨1,8,.other,(some [(.raw .nilFunc)])⟩))))))
 (.nd 127 (.nd 121 (.nd 118 (.nd 117 (.lf 116 ⟨1,8,.other,(some [(.raw .nilFunc)])⟩)
 (.lf 117 ⟨1,8,.other,(some [(.raw .nilFunc)])⟩))
 (.nd 119 (.lf 118 ⟨1,24,(.sl 195),(some [.nil])⟩)
 (.nd 120 (.lf 119 ⟨1,0,.other,none⟩)
 (.lf 120 ⟨1,8,.other,(some [(.raw .nilFunc)])⟩))))
 (.nd 124 (.nd 122 (.lf 121 ⟨1,0,.other,none⟩)
 (.nd 123 (.lf 122 ⟨1,8,.other,(some [(.raw .nilFunc)])⟩)
 (.lf 123 ⟨1,0,.other,none⟩)))
 (.nd 125 (.lf 124 ⟨1,8,.other,(some [(.raw .nilFunc)])⟩)
 (.nd 126 (.lf 125 ⟨1,0,.other,none⟩)
 (.lf 126 ⟨1,8,.other,(some [(.raw .nilFunc)])⟩)))))
 (.nd 133 (.nd 130 (.nd 128 (.lf 127 ⟨1,8,.other,(some [(.raw .nilFunc)])⟩)
 (.nd 129 (.lf 128 ⟨28,384,(.arr 2 31),(some [(.str []),(.int .i64 0),.nil,(.str []),(.int .i64 0),(.int .i64 0),(.int .i64 0),(.int .i64 0),.nil,(.int .i64 0),.nil,.nil,(.int .i64 0),(.int .i64 0),(.str []),(.int .i64 0),.nil,(.str []),(.int .i64 0),(.int .i64 0),(.int .i64 0),(.int .i64 0),.nil,(.int .i64 0),.nil,.nil,(.int .i64 0),(.int .i64 0)])⟩)
 (.lf 129 ⟨4,64,(.st [(0,3),(1,3),(2,92),(3,92)]),(some [(.int .i64 0),(.int .i64 0),.nil,.nil])⟩)))
 (.nd 131 (.lf 130 ⟨4,64,(.st [(0,3),(1,3),(2,92),(3,92)]),(some [(.int .i64 0),(.int .i64 0),.nil,.nil])⟩)
 (.nd 132 (.lf 131 ⟨4,40,(.st [(0,9),(1,3),(2,3),(3,3)]),(some [(.str []),(.int .i64 0),(.int .i64 0),(.int .i64 0)])⟩)
 (.lf 132 ⟨4,40,(.st [(0,9),(1,3),(2,3),(3,3)]),(some [(.str []),(.int .i64 0),(.int .i64 0),(.int .i64 0)])⟩))))
 (.nd 136 (.nd 134 (.lf 133 ⟨2,48,(.st [(0,92),(1,46)]),(some [.nil,.nil])⟩)
 (.nd 135 (.lf 134 ⟨2,48,(.st [(0,92),(1,46)]),(some [.nil,.nil])⟩)
 (.lf 135 ⟨7,120,(.st [(0,3),(1,42),(5,134)]),(some [(.int .i64 0),(.bool false),.nil,(.bool false),.nil,.nil,.nil])⟩)))
 (.nd 137 (.lf 136 ⟨7,120,(.st [(0,3),(1,42),(5,134)]),(some [(.int .i64 0),(.bool false),.nil,(.bool false),.nil,.nil,.nil])⟩)
 (.nd 138 (.lf 137 ⟨1,8,.other,(some [(.raw .nilFunc)])⟩)
 (.lf 138 ⟨3,40,(.st [(0,4),(1,3),(2,118)]),(some [(.bool false),(.int .i64 0),.nil])⟩)))))))
 (.nd 162 (.nd 150 (.nd 144 (.nd 141 (.nd 140 (.lf 139 ⟨3,40,(.st [(0,4),(1,3),(2,118)]),(some [(.bool false),(.int .i64 0),.nil])⟩)
 (.lf 140 ⟨1,0,.other,none⟩))
 (.nd 142 (.lf 141 ⟨1,8,.other,(some [(.raw .nilFunc)])⟩)
 (.nd 143 (.lf 142 ⟨1,8,.other,(some [(.raw .nilFunc)])⟩)
 (.lf 143 ⟨1,0,.other,none⟩))))
 (.nd 147 (.nd 145 (.lf 144 ⟨1,8,.other,(some [(.raw .nilFunc)])⟩)
 (.nd 146 (.lf 145 ⟨1,8,.other,(some [(.raw .nilFunc)])⟩)
 (.lf 146 ⟨1,8,.other,(some [(.raw .nilFunc)])⟩)))
 (.nd 148 (.lf 147 ⟨1,8,.other,(some [(.raw .nilFunc)])⟩)
 (.nd 149 (.lf 148 ⟨1,8,.other,(some [(.raw .nilFunc)])⟩)
 (.lf 149 ⟨1,8,.other,(some [(.raw .nilFunc)])⟩)))))
 (.nd 156 (.nd 153 (.nd 151 (.lf 150 ⟨1,8,.other,(some [(.raw .nilFunc)])⟩)
 (.nd 152 (.lf 151 ⟨1,8,.other,(some [(.raw .nilFunc)])⟩)
 (.lf 152 ⟨1,8,.other,(some [(.raw .nilFunc)])⟩)))
 (.nd 154 (.lf 153 ⟨1,8,.other,(some [(.raw .nilFunc)])⟩)
 (.nd 155 (.lf 154 ⟨1,8,.other,(some [(.raw .nilFunc)])⟩)
 (.lf 155 ⟨1,8,.other,(some [(.raw .nilFunc)])⟩))))
 (.nd 159 (.nd 157 (.lf 156 ⟨1,8,.other,(some [(.raw .nilFunc)])⟩)
 (.nd 158 (.lf 157 ⟨6,96,(.st [(0,3),(1,42),(5,78)]),(some [(.int .i64 0),(.bool false),.nil,(.bool false),.nil,.nil])⟩)
 (.lf 158 ⟨6,96,(.st [(0,3),(1,42),(5,78)]),(some [(.int .i64 0),(.bool false),.nil,(.bool false),.nil,.nil])⟩)))
 (.nd 160 (.lf 159 ⟨1,8,.other,(some [(.raw .nilFunc)])⟩)
 (.nd 161 (.lf 160 ⟨1,8,.other,(some [(.raw .nilFunc)])⟩)
 (.lf 161 ⟨1,8,.other,(some [(.raw .nilFunc)])⟩))))))
 (.nd 174 (.nd 168 (.nd 165 (.nd 163 (.lf 162 ⟨1,8,.other,(some [(.raw .nilFunc)])⟩)
 (.nd 164 (.lf 163 ⟨1,8,.other,(some [(.raw .nilFunc)])⟩)
 (.lf 164 ⟨1,8,.other,(some [(.raw .nilFunc)])⟩)))
 (.nd 166 (.lf 165 ⟨1,8,.other,(some [(.raw .nilFunc)])⟩)
 (.nd 167 (.lf 166 ⟨1,8,.other,(some [(.raw .nilFunc)])⟩)
 (.lf 167 ⟨1,8,.other,(some [(.raw .nilFunc)])⟩))))
 (.nd 171 (.nd 169 (.lf 168 ⟨1,8,.other,(some [(.raw .nilFunc)])⟩)
 (.nd 170 (.lf 169 ⟨1,8,.other,(some [(.raw .nilFunc)])⟩)
 (.lf 170 ⟨1,8,.other,(some [(.raw .nilFunc)])⟩)))
 (.nd 172 (.lf 171 ⟨1,0,.other,none⟩)
 (.nd 173 (.lf 172 ⟨1,8,.other,(some [(.raw .nilFunc)])⟩)
 (.lf 173 ⟨1,8,.other,(some [(.raw .nilFunc)])⟩)))))
 (.nd 180 (.nd 177 (.nd 175 (.lf 174 ⟨1,8,.other,(some [(.raw .nilFunc)])⟩)
 (.nd 176 (.lf 175 ⟨1,8,.other,(some [(.raw .nilFunc)])⟩)
 (.lf 176 ⟨1,8,.other,(some [(.raw .nilFunc)])⟩)))
 (.nd 178 (.lf 177 ⟨1,24,(.sl 181),(some [.nil])⟩)
 (.nd 179 (.lf 178 ⟨1,8,.other,(some [(.raw .nilFunc)])⟩)
 (.lf 179 ⟨1,8,.other,(some [(.raw .nilFunc)])⟩))))
 (.nd 183 (.nd 181 (.lf 180 ⟨5,72,(.st [(0,3),(1,42)]),(some [(.int .i64 0),(.bool false),.nil,(.bool false),.nil])⟩)
 (.nd 182 (.lf 181 ⟨5,72,(.st [(0,3),(1,42)]),(some [(.int .i64 0),(.bool false),.nil,(.bool false),.nil])⟩)
 (.lf 182 ⟨1,8,.other,(some [(.raw .nilFunc)])⟩)))
 (.nd 184 (.lf 183 ⟨1,8,.other,(some [(.raw .nilFunc)])⟩)
 (.nd 185 (.lf 184 ⟨1,8,.other,(some [(.raw .nilFunc)])⟩)
 (.lf 185 ⟨1,8,.other,(some [(.raw .nilFunc)])⟩)))))))))
 (.nd 279 (.nd 232 (.nd 209 (.nd 197 (.nd 191 (.nd 188 (.nd 187 (.lf 186 ⟨1,8,.other,(some [(.raw .nilFunc)])⟩)
 (.lf 187 ⟨1,8,.other,(some [(.raw .nilFunc)])⟩))
 (.nd 189 (.lf 188 ⟨1,8,.other,(some [(.raw .nilFunc)])⟩)
 (.nd 190 (.lf 189 ⟨1,8,.other,(some [(.raw .nilFunc)])⟩)
 (.lf 190 ⟨1,8,.other,(some [(.raw .nilFunc)])⟩))))
 (.nd 194 (.nd 192 (.lf 191 ⟨1,8,.other,(some [(.raw .nilFunc)])⟩)
 (.nd 193 (.lf 192 ⟨1,8,.other,(some [(.raw .nilFunc)])⟩)
 (.lf 193 ⟨1,8,.other,(some [(.raw .nilFunc)])⟩)))
 (.nd 195 (.lf 194 ⟨2,16,(.st [(0,3),(1,3)]),(some [(.int .i64 0),(.int .i64 0)])⟩)
 (.nd 196 (.lf 195 ⟨2,16,(.st [(0,3),(1,3)]),(some [(.int .i64 0),(.int .i64 0)])⟩)
 (.lf 196 ⟨1,8,(.ptr 130),(some [(.raw (.pointer none))])⟩)))))
 (.nd 203 (.nd 200 (.nd 198 (.lf 197 ⟨1,8,.other,(some [(.raw .nilFunc)])⟩)
 (.nd 199 (.lf 198 ⟨1,8,.other,(some [(.raw .nilFunc)])⟩)
 (.lf 199 ⟨1,8,.other,(some [(.raw .nilFunc)])⟩)))
 (.nd 201 (.lf 200 ⟨1,8,.other,(some [(.raw .nilFunc)])⟩)
 (.nd 202 (.lf 201 ⟨1,8,.other,(some [(.raw .nilFunc)])⟩)
 (.lf 202 ⟨1,8,.other,(some [(.raw .nilFunc)])⟩))))
 (.nd 206 (.nd 204 (.lf 203 ⟨1,8,.other,(some [(.raw .nilFunc)])⟩)
 (.nd 205 (.lf 204 ⟨1,0,.other,none⟩)
 (.lf 205 ⟨1,8,.other,(some [(.raw .nilFunc)])⟩)))
 (.nd 207 (.lf 206 ⟨5,72,(.st [(0,3),(1,42)]),(some [(.int .i64 0),(.bool false),.nil,(.bool false),.nil])⟩)
 (.nd 208 (.lf 207 ⟨5,72,(.st [(0,3),(1,42)]),(some [(.int .i64 0),(.bool false),.nil,(.bool false),.nil])⟩)
 (.lf 208 ⟨1,8,.other,(some [(.raw .nilFunc)])⟩))))))
 (.nd 220 (.nd 214 (.nd 211 (.nd 210 (.lf 209 ⟨1,8,.other,(some [(.raw .nilFunc)])⟩)
 (.lf 210 ⟨1,0,.other,none⟩))
 (.nd 212 (.lf 211 ⟨1,8,.other,(some [(.raw .nilFunc)])⟩)
 (.nd 213 (.lf 212 ⟨1,8,.other,(some [(.raw .nilFunc)])⟩)
 (.lf 213 ⟨1,0,.other,none⟩))))
 (.nd 217 (.nd 215 (.lf 214 ⟨1,8,.other,(some [(.raw .nilFunc)])⟩)
 (.nd 216 (.lf 215 ⟨1,8,.other,(some [(.raw .nilFunc)])⟩)
 (.lf 216 ⟨36,576,(.st [(0,42),(4,42),(8,42),(12,42),(16,42),(20,42),(24,42),(28,42),(32,42)]),(some [(.bool false),.nil,(.bool false),.nil,(.bool false),.nil,(.bool false),.nil,(.bool false),.nil,(.bool false),.nil,(.bool false),.nil,(.bool false),.nil,(.bool false),.nil,(.bool false),.nil,(.bool false),.nil,(.bool false),.nil,(.bool false),.nil,(.bool false),.nil,(.bool false),.nil,(.bool false),.nil,(.bool false),.nil,(.bool false),.nil])⟩)))
 (.nd 218 (.lf 217 ⟨36,576,(.st [(0,42),(4,42),(8,42),(12,42),(16,42),(20,42),(24,42),(28,42),(32,42)]),(some [(.bool false),.nil,(.bool false),.nil,(.bool false),.nil,(.bool false),.nil,(.bool false),.nil,(.bool false),.nil,(.bool false),.nil,(.bool false),.nil,(.bool false),.nil,(.bool false),.nil,(.bool false),.nil,(.bool false),.nil,(.bool false),.nil,(.bool false),.nil,(.bool false),.nil,(.bool false),.nil,(.bool false),.nil,(.bool false),.nil])⟩)
 (.nd 219 (.lf 218 ⟨1,0,.other,none⟩)
 (.lf 219 ⟨1,8,.other,(some [(.raw .nilFunc)])⟩)))))
 (.nd 226 (.nd 223 (.nd 221 (.lf 220 ⟨1,8,.other,(some [(.raw .nilFunc)])⟩)
 (.nd 222 (.lf 221 ⟨8,128,(.st [(0,42),(4,42)]),(some [(.bool false),.nil,(.bool false),.nil,(.bool false),.nil,(.bool false),.nil])⟩)
 (.lf 222 ⟨8,128,(.st [(0,42),(4,42)]),(some [(.bool false),.nil,(.bool false),.nil,(.bool false),.nil,(.bool false),.nil])⟩)))
 (.nd 224 (.lf 223 ⟨1,8,.other,(some [(.raw .nilFunc)])⟩)
 (.nd 225 (.lf 224 ⟨1,8,.other,(some [(.raw .nilFunc)])⟩)
 (.lf 225 ⟨1,8,.other,(some [(.raw .nilFunc)])⟩))))
 (.nd 229 (.nd 227 (.lf 226 ⟨1,8,(.int .u64),(some [(.int .u64 0)])⟩)
 (.nd 228 (.lf 227 ⟨1,24,(.sl 3),(some [.nil])⟩)
 (.lf 228 ⟨1,8,.other,(some [(.raw .nilFunc)])⟩)))
 (.nd 230 (.lf 229 ⟨1,8,.other,(some [(.raw .nilFunc)])⟩)
 (.nd 231 (.lf 230 ⟨1,8,.other,(some [(.raw .nilFunc)])⟩)
 (.lf 231 ⟨1,0,.other,none⟩)))))))
 (.nd 255 (.nd 243 (.nd 237 (.nd 234 (.nd 233 (.lf 232 ⟨1,8,.other,(some [(.raw .nilFunc)])⟩)
 (.lf 233 ⟨1,8,.other,(some [(.raw .nilFunc)])⟩))
 (.nd 235 (.lf 234 ⟨1,8,.other,(some [(.raw .nilFunc)])⟩)
 (.nd 236 (.lf 235 ⟨1,8,.other,(some [(.raw .nilFunc)])⟩)
 (.lf 236 ⟨1,8,.other,(some [(.raw .nilFunc)])⟩))))
 (.nd 240 (.nd 238 (.lf 237 ⟨1,8,.other,(some [(.raw .nilFunc)])⟩)
 (.nd 239 (.lf 238 ⟨1,0,.other,none⟩)
 (.lf 239 ⟨1,8,.other,(some [(.raw .nilFunc)])⟩)))
 (.nd 241 (.lf 240 ⟨1,8,.other,(some [(.raw .nilFunc)])⟩)
 (.nd 242 (.lf 241 ⟨1,8,.other,(some [(.raw .nilFunc)])⟩)
 (.lf 242 ⟨1,8,.other,(some [(.raw .nilFunc)])⟩)))))
 (.nd 249 (.nd 246 (.nd 244 (.lf 243 ⟨1,8,.other,(some [(.raw .nilFunc)])⟩)
 (.nd 245 (.lf 244 ⟨1,8,.other,(some [(.raw .nilFunc)])⟩)
 (.lf 245 ⟨8,128,(.st [(0,42),(4,42)]),(some [(.bool false),.nil,(.bool false),.nil,(.bool false),.nil,(.bool false),.nil])⟩)))
 (.nd 247 (.lf 246 ⟨8,128,(.st [(0,42),(4,42)]),(some [(.bool false),.nil,(.bool false),.nil,(.bool false),.nil,(.bool false),.nil])⟩)
 (.nd 248 (.lf 247 ⟨1,8,.other,(some [(.raw .nilFunc)])⟩)
 (.lf 248 ⟨1,8,.other,(some [(.raw .nilFunc)])⟩))))
 (.nd 252 (.nd 250 (.lf 249 ⟨1,8,.other,(some [(.raw .nilFunc)])⟩)
 (.nd 251 (.lf 250 ⟨1,8,.other,(some [(.raw .nilFunc)])⟩)
 (.lf 251 ⟨1,8,.other,(some [(.raw .nilFunc)])⟩)))
 (.nd 253 (.lf 252 ⟨1,8,.other,(some [(.raw .nilFunc)])⟩)
 (.nd 254 (.lf 253 ⟨1,8,.other,(some [(.raw .nilFunc)])⟩)
 (.lf 254 ⟨1,8,.other,(some [(.raw .nilFunc)])⟩))))))
 (.nd 267 (.nd 261 (.nd 258 (.nd 256 (.lf 255 ⟨1,24,(.sl 5),(some [.nil])⟩)
 (.nd 257 (.lf 256 ⟨1,8,.other,(some [(.raw .nilFunc)])⟩)
 (.lf 257 ⟨1,8,(.map 9 4),(some [(.raw (.map none))])⟩)))
 (.nd 259 (.lf 258 ⟨1,8,.other,(some [(.raw .nilFunc)])⟩)
 (.nd 260 (.lf 259 ⟨1,8,.other,(some [(.raw .nilFunc)])⟩)
 (.lf 260 ⟨1,8,.other,(some [(.raw .nilFunc)])⟩))))
 (.nd 264 (.nd 262 (.lf 261 ⟨1,8,.other,(some [(.raw .nilFunc)])⟩)
 (.nd 263 (.lf 262 ⟨1,24,(.sl 71),(some [.nil])⟩)
 (.lf 263 ⟨1,8,.other,(some [(.raw .nilFunc)])⟩)))
 (.nd 265 (.lf 264 ⟨1,8,.other,(some [(.raw .nilFunc)])⟩)
 (.nd 266 (.lf 265 ⟨1,8,.other,(some [(.raw .nilFunc)])⟩)
 (.lf 266 ⟨1,0,.other,none⟩)))))
 (.nd 273 (.nd 270 (.nd 268 (.lf 267 ⟨1,8,.other,(some [(.raw .nilFunc)])⟩)
 (.nd 269 (.lf 268 ⟨1,8,.other,(some [(.raw .nilFunc)])⟩)
 (.lf 269 ⟨1,8,.other,(some [(.raw .nilFunc)])⟩)))
 (.nd 271 (.lf 270 ⟨1,8,.other,(some [(.raw .nilFunc)])⟩)
 (.nd 272 (.lf 271 ⟨1,8,.other,(some [(.raw .nilFunc)])⟩)
 (.lf 272 ⟨1,8,.other,(some [(.raw .nilFunc)])⟩))))
 (.nd 276 (.nd 274 (.lf 273 ⟨1,8,.other,(some [(.raw .nilFunc)])⟩)
 (.nd 275 (.lf 274 ⟨1,8,.other,(some [(.raw .nilFunc)])⟩)
 (.lf 275 ⟨1,8,.other,(some [(.raw .nilFunc)])⟩)))
 (.nd 277 (.lf 276 ⟨1,8,.other,(some [(.raw .nilFunc)])⟩)
 (.nd 278 (.lf 277 ⟨1,8,.other,(some [(.raw .nilFunc)])⟩)
 (.lf 278 ⟨1,8,(.int .u64),(some [(.int .u64 0)])⟩))))))))
 (.nd 325 (.nd 302 (.nd 290 (.nd 284 (.nd 281 (.nd 280 (.lf 279 ⟨1,8,.other,(some [(.raw .nilFunc)])⟩)
 (.lf 280 ⟨1,8,.other,(some [(.raw .nilFunc)])⟩))
 (.nd 282 (.lf 281 ⟨1,8,.other,(some [(.raw .nilFunc)])⟩)
 (.nd 283 (.lf 282 ⟨1,0,.other,none⟩)
 (.lf 283 ⟨1,8,.other,(some [(.raw .nilFunc)])⟩))))
 (.nd 287 (.nd 285 (.lf 284 ⟨1,8,.other,(some [(.raw .nilFunc)])⟩)
 (.nd 286 (.lf 285 ⟨1,8,.other,(some [(.raw .nilFunc)])⟩)
 (.lf 286 ⟨1,8,.other,(some [(.raw .nilFunc)])⟩)))
 (.nd 288 (.lf 287 ⟨1,8,(.ptr 136),(some [(.raw (.pointer none))])⟩)
 (.nd 289 (.lf 288 ⟨1,8,.other,(some [(.raw .nilFunc)])⟩)
 (.lf 289 ⟨1,8,.other,(some [(.raw .nilFunc)])⟩)))))
 (.nd 296 (.nd 293 (.nd 291 (.lf 290 ⟨1,8,.other,(some [(.raw .nilFunc)])⟩)
 (.nd 292 (.lf 291 ⟨1,8,.other,(some [(.raw .nilFunc)])⟩)
 (.lf 292 ⟨1,8,.other,(some [(.raw .nilFunc)])⟩)))
 (.nd 294 (.lf 293 ⟨1,8,.other,(some [(.raw .nilFunc)])⟩)
 (.nd 295 (.lf 294 ⟨1,8,.other,(some [(.raw .nilFunc)])⟩)
 (.lf 295 ⟨1,8,.other,(some [(.raw .nilFunc)])⟩))))
 (.nd 299 (.nd 297 (.lf 296 ⟨1,8,.other,(some [(.raw .nilFunc)])⟩)
 (.nd 298 (.lf 297 ⟨1,8,.other,(some [(.raw .nilFunc)])⟩)
 (.lf 298 ⟨1,0,.other,none⟩)))
 (.nd 300 (.lf 299 ⟨1,8,.other,(some [(.raw .nilFunc)])⟩)
 (.nd 301 (.lf 300 ⟨1,24,(.sl 303),(some [.nil])⟩)
 (.lf 301 ⟨1,8,.other,(some [(.raw .nilFunc)])⟩))))))
 (.nd 313 (.nd 307 (.nd 304 (.nd 303 (.lf 302 ⟨8,128,(.st [(0,42),(4,42)]),(some [(.bool false),.nil,(.bool false),.nil,(.bool false),.nil,(.bool false),.nil])⟩)
 (.lf 303 ⟨8,128,(.st [(0,42),(4,42)]),(some [(.bool false),.nil,(.bool false),.nil,(.bool false),.nil,(.bool false),.nil])⟩))
 (.nd 305 (.lf 304 ⟨1,8,.other,(some [(.raw .nilFunc)])⟩)
 (.nd 306 (.lf 305 ⟨1,24,(.sl 273),(some [.nil])⟩)
 (.lf 306 ⟨1,8,.other,(some [(.raw .nilFunc)])⟩))))
 (.nd 310 (.nd 308 (.lf 307 ⟨12,192,(.st [(0,42),(4,42),(8,42)]),(some [(.bool false),.nil,(.bool false),.nil,(.bool false),.nil,(.bool false),.nil,(.bool false),.nil,(.bool false),.nil])⟩)
 (.nd 309 (.lf 308 ⟨12,192,(.st [(0,42),(4,42),(8,42)]),(some [(.bool false),.nil,(.bool false),.nil,(.bool false),.nil,(.bool false),.nil,(.bool false),.nil,(.bool false),.nil])⟩)
 (.lf 309 ⟨1,8,.other,(some [(.raw .nilFunc)])⟩)))
 (.nd 311 (.lf 310 ⟨1,8,.other,(some [(.raw .nilFunc)])⟩)
 (.nd 312 (.lf 311 ⟨1,8,.other,(some [(.raw .nilFunc)])⟩)
 (.lf 312 ⟨1,8,.other,(some [(.raw .nilFunc)])⟩)))))
 (.nd 319 (.nd 316 (.nd 314 (.lf 313 ⟨1,0,.other,none⟩)
 (.nd 315 (.lf 314 ⟨1,8,.other,(some [(.raw .nilFunc)])⟩)
 (.lf 315 ⟨1,0,.other,none⟩)))
 (.nd 317 (.lf 316 ⟨1,8,.other,(some [(.raw .nilFunc)])⟩)
 (.nd 318 (.lf 317 ⟨1,8,.other,(some [(.raw .nilFunc)])⟩)
 (.lf 318 ⟨1,8,.other,(some [(.raw .nilFunc)])⟩))))
 (.nd 322 (.nd 320 (.lf 319 ⟨1,8,.other,(some [(.raw .nilFunc)])⟩)
 (.nd 321 (.lf 320 ⟨1,4,(.int .u32),(some [(.int .u32 0)])⟩)
 (.lf 321 ⟨1,8,.other,(some [(.raw .nilFunc)])⟩)))
 (.nd 323 (.lf 322 ⟨1,8,.other,(some [(.raw .nilFunc)])⟩)
 (.nd 324 (.lf 323 ⟨1,0,.other,none⟩)
 (.lf 324 ⟨1,8,.other,(some [(.raw .nilFunc)])⟩)))))))
 (.nd 348 (.nd 336 (.nd 330 (.nd 327 (.nd 326 (.lf 325 ⟨1,8,.other,(some [(.raw .nilFunc)])⟩)
 (.lf 326 ⟨1,8,.other,(some [(.raw .nilFunc)])⟩))
 (.nd 328 (.lf 327 ⟨1,8,.other,(some [(.raw .nilFunc)])⟩)
 (.nd 329 (.lf 328 ⟨1,8,.other,(some [(.raw .nilFunc)])⟩)
 (.lf 329 ⟨1,8,.other,(some [(.raw .nilFunc)])⟩))))
 (.nd 333 (.nd 331 (.lf 330 ⟨1,24,(.sl 25),(some [.nil])⟩)
 (.nd 332 (.lf 331 ⟨1,8,.other,(some [(.raw .nilFunc)])⟩)
 (.lf 332 ⟨1,8,.other,(some [(.raw .nilFunc)])⟩)))
 (.nd 334 (.lf 333 ⟨1,8,.other,(some [(.raw .nilFunc)])⟩)
 (.nd 335 (.lf 334 ⟨1,8,.other,(some [(.raw .nilFunc)])⟩)
 (.lf 335 ⟨1,8,.other,(some [(.raw .nilFunc)])⟩)))))
 (.nd 342 (.nd 339 (.nd 337 (.lf 336 ⟨1,8,(.int .i64),(some [(.int .i64 0)])⟩)
 (.nd 338 (.lf 337 ⟨1,0,.other,none⟩)
 (.lf 338 ⟨1,8,.other,(some [(.raw .nilFunc)])⟩)))
 (.nd 340 (.lf 339 ⟨1,8,.other,(some [(.raw .nilFunc)])⟩)
 (.nd 341 (.lf 340 ⟨1,8,.other,(some [(.raw .nilFunc)])⟩)
 (.lf 341 ⟨1,8,.other,(some [(.raw .nilFunc)])⟩))))
 (.nd 345 (.nd 343 (.lf 342 ⟨1,8,.other,(some [(.raw .nilFunc)])⟩)
 (.nd 344 (.lf 343 ⟨1,8,.other,(some [(.raw .nilFunc)])⟩)
 (.lf 344 ⟨1,8,.other,(some [(.raw .nilFunc)])⟩)))
 (.nd 346 (.lf 345 ⟨1,8,.other,(some [(.raw .nilFunc)])⟩)
 (.nd 347 (.lf 346 ⟨1,8,.other,(some [(.raw .nilFunc)])⟩)
 (.lf 347 ⟨1,8,(.int .u64),(some [(.int .u64 0)])⟩))))))
 (.nd 360 (.nd 354 (.nd 351 (.nd 349 (.lf 348 ⟨1,8,.other,(some [(.raw .nilFunc)])⟩)
 (.nd 350 (.lf 349 ⟨1,8,.other,(some [(.raw .nilFunc)])⟩)
 (.lf 350 ⟨1,8,.other,(some [(.raw .nilFunc)])⟩)))
 (.nd 352 (.lf 351 ⟨1,8,(.ptr 3),(some [(.raw (.pointer none))])⟩)
 (.nd 353 (.lf 352 ⟨1,8,.other,(some [(.raw .nilFunc)])⟩)
 (.lf 353 ⟨1,8,(.ptr 347),(some [(.raw (.pointer none))])⟩))))
 (.nd 357 (.nd 355 (.lf 354 ⟨1,0,.other,none⟩)
 (.nd 356 (.lf 355 ⟨1,8,.other,(some [(.raw .nilFunc)])⟩)
 (.lf 356 ⟨1,8,.other,(some [(.raw .nilFunc)])⟩)))
 (.nd 358 (.lf 357 ⟨4,40,(.st [(0,17),(1,17),(2,17),(3,9)]),(some [(.raw (.pointer none)),(.raw (.pointer none)),(.raw (.pointer none)),(.str [])])⟩)
 (.nd 359 (.lf 358 ⟨4,40,(.st [(0,17),(1,17),(2,17),(3,9)]),(some [(.raw (.pointer none)),(.raw (.pointer none)),(.raw (.pointer none)),(.str [])])⟩)
 (.lf 359 ⟨0,0,(.arr 0 16),(some [])⟩)))))
 (.nd 366 (.nd 363 (.nd 361 (.lf 360 ⟨0,0,(.st [(0,359)]),(some [])⟩)
 (.nd 362 (.lf 361 ⟨0,0,(.st [(0,359)]),(some [])⟩)
 (.lf 362 ⟨1,8,.other,(some [(.raw .nilFunc)])⟩)))
 (.nd 364 (.lf 363 ⟨1,1,(.int .u8),(some [(.int .u8 0)])⟩)
 (.nd 365 (.lf 364 ⟨1,1,(.int .u8),(some [(.int .u8 0)])⟩)
 (.lf 365 ⟨1,8,.other,(some [(.raw .nilFunc)])⟩))))
 (.nd 369 (.nd 367 (.lf 366 ⟨1,8,(.ptr 5),(some [(.raw (.pointer none))])⟩)
 (.nd 368 (.lf 367 ⟨1,4,(.int .i32),(some [(.int .i32 0)])⟩)
 (.lf 368 ⟨1,4,(.int .i32),(some [(.int .i32 0)])⟩)))
 (.nd 370 (.lf 369 ⟨11,48,(.st [(0,12),(1,12),(2,320),(3,363),(4,5),(5,5),(6,364),(7,365),(8,366),(9,367),(10,368)]),(some [(.int .u64 0),(.int .u64 0),(.int .u32 0),(.int .u8 0),(.int .u8 0),(.int .u8 0),(.int .u8 0),(.raw .nilFunc),(.raw (.pointer none)),(.int .i32 0),(.int .i32 0)])⟩)
 (.nd 371 (.lf 370 ⟨11,48,(.st [(0,12),(1,12),(2,320),(3,363),(4,5),(5,5),(6,364),(7,365),(8,366),(9,367),(10,368)]),(some [(.int .u64 0),(.int .u64 0),(.int .u32 0),(.int .u8 0),(.int .u8 0),(.int .u8 0),(.int .u8 0),(.raw .nilFunc),(.raw (.pointer none)),(.int .i32 0),(.int .i32 0)])⟩)
 (.lf 371 ⟨1,8,.other,(some [(.raw (.pointer none))])⟩))))))))))
theorem C8:lay.fits Tryz.prog=true:=by kernel_rfl
theorem layOk:ig Tryz.prog lay.get:=Tr.ok C8
theorem mixed:Tryz.prog.follows .mixedOrders=true:=by kernel_rfl
instance:Globs:=⟨fun _=>True,fun _ _ _ _=>trivial⟩
end Go.Pv
set_option maxHeartbeats 2000000
namespace Go.Pv
attribute [local irreducible] PWP POps PQuiet PSem aw aq ai aj
open Go.Proofs
abbrev I (n:Int):PV := .int .i64 n
def eU (x:UInt16):List PV:=[.int .u16 x.toNat]
theorem fp (l:List UInt16):Trm (aX l):=bK _
theorem cW (l:List UInt16):nv (aX l)=nv l:=aR _
theorem cb (l:List UInt16):(aX l).length<=l.length:=ct (co l)
theorem wrap_u16 (n:Nat):IntKind.u16.wrap (n:Int)=((UInt16.ofNat n).toNat:Int):=by
 rw[be,IntKind.wrap_u16];omega
theorem wrap_u32 {n:Int}(h0:0<=n)(h1:n<4294967296):IntKind.u32.wrap n=n:=by
 rw[IntKind.wrap_u32];omega
theorem wrap_u64 {n:Int}(h0:0<=n)(h1:n<18446744073709551616):IntKind.u64.wrap n=n:=by
 rw[IntKind.wrap_u64];omega
theorem nV {α:Type}(e:α->List PV)(k g:Nat)(l:List α)(a:α):PV.als k (g+l.length+1) 0 (l.map e++[e a]).length=PV.als k (g+(l++[a]).length) 0 ((l++[a]).map e).length:=by simp[Nat.add_assoc]
theorem lH {α:Type}(e:α->List PV)(g T sz kd:Nat)(l:List α)(a:α):(g+l.length+1,some (Cont.mk T sz (l.map e++[e a]) kd))=(g+(l++[a]).length,some (Cont.mk T sz ((l++[a]).map e) kd)):=by simp[Nat.add_assoc]
theorem cF (l:List UInt16)(hl:l.length<=1000000000):Ret Tryz.prog .shared 223 [.sl (l.map eU)] (.sl ((aX l).map eU)):=by
 refine Ret.of_pwp layOk mixed Go.Proofs.Tryz.func223 O Y O O ?_;refine H ?_;refine ap (fun k=>k<=l.length/\nv (l.take k)=nv l) (fun k=>[(0,.sl ((l.take k).map eU))]) (fun _=>[]) (fun k=>k) l.length ⟨aP,by rw[List.take_length]⟩ ⟨?_,trivial⟩ ?_
 .rw[List.take_length];rfl
 rintro k s ⟨hk,hv⟩;have hkl:(l.take k).length=k:=by rw[List.length_take];omega
 have hml:((l.take k).map eU).length=k:=by rw[List.length_map,hkl]
 refine dE ?_ ?_<;>intro h
 .have hk0:0<k:=by have:=aC h;rw[hml]at this;omega
  clear h;obtain⟨j,rfl⟩:∃j,k=j+1:=⟨k-1,J⟩;obtain⟨x,hx⟩:=aJ (show j<l.length by omega);have hx2:(l.take (j+1))[j]? = some x:=by rw[List.getElem?_take,if_pos J];exact hx
  have hw1:IntKind.i64.wrap (((((l.take (j+1)).map eU).length:Nat):Int)-1)=(j:Nat):=by rw[hml,wrap_i64 J J];omega
  refine H ?_;rw[hw1];refine bE O O (jz (n:=((j:Nat):Int)) O O O O O J (by rw[Int.toNat_natCast];exact hx2) O) ?_;refine D ?_ ?_<;>intro h
  .have hx0:x.toNat=0:=by have:=aC h;omega
   clear h;refine H ?_;rw[hw1];refine bE O O (mT (n:=((j:Nat):Int)) O O O O O J (by rw[hkl];omega) (fun _=>rfl)) ?_;refine H ?_;refine⟨j,⟨J,?_⟩,J,?_,trivial⟩
   .rw[<-hv,dr hx,hx0];omega
   .rw[Int.toNat_natCast,List.take_take,Nat.min_eq_left J];rfl
  .have hx0:x.toNat≠0:=by have:=aG h;omega
   clear h;have ht:l.take (j+1)=aX l:=by
    rw[aX,<-hv];exact(gh fun y hy=>by
     rw[List.getLast?_eq_getElem?,hkl,Nat.add_sub_cancel,hx2]at hy
     cases hy;exact hx0).symm
   rw[ht];refine H ?_;exact iq O O O trivial O
 .have hk0:k=0:=by have:=aG h;rw[hml]at this;omega
  subst hk0;clear h;have ht:l.take 0=aX l:=by
   rw[aX,<-hv];simp[nv,bM]
  rw[ht];refine H ?_;exact iq O O O trivial O
theorem gH (a b:List UInt16)(ha:a.length<=1000000000)(hb:b.length<=1000000000):Ret Tryz.prog .shared 228 [.sl (a.map eU),.sl (b.map eU)] (I (j9 a b)):=by
 have hal:(a.map eU).length=a.length:=ah;have hbl:(b.map eU).length=b.length:=ah;by_cases he:a.length=b.length
 .rw[j9,if_pos he];have hw0:IntKind.i64.wrap (((((a.map eU).length:Nat):Int))-1)=(a.length:Int)-1:=by rw[hal,wrap_i64 J J]
  refine Ret.of_pwp layOk mixed Go.Proofs.Tryz.func228 O Y O O ?_;refine D ?_ ?_<;>intro h
  .simp at h;omega
  clear h;refine H ?_;rw[hw0];refine ap (fun k:Nat=>k<=a.length/\lG a b k=lG a b a.length) (fun k=>[(0,.sl (a.map eU)),(1,.sl (b.map eU)),(5,I ((k:Int)-1))]) (fun _=>[]) (fun k=>k) a.length ⟨aP,O⟩ ⟨O,O,O,trivial⟩ ?_;rintro k s ⟨hk,hc⟩;rw[<-hc];refine D ?_ ?_<;>intro h
  .have hk0:0<k:=by have:=aC h;omega
   clear h;obtain⟨j,rfl⟩:∃j,k=j+1:=⟨k-1,J⟩;have e1:(((j+1:Nat):Int)-1)=(j:Nat):=J;rw[e1];have hx:=cA (l:=a) (i:=j) J;have hy:=cA (l:=b) (i:=j) J;have hc1:lG a b (j+1)=if (a.getD j 0).toNat=(b.getD j 0).toNat then lG a b j else((a.getD j 0).toNat:Int)-(b.getD j 0).toNat:=O
   have hxl:=bk (a.getD j 0);have hyl:=bk (b.getD j 0);generalize a.getD j 0=x at *
   generalize b.getD j 0=y at *
   refine cn 9 [23,24,25,26,27,28,29,30,31] ?_;refine aS hx ?_;refine aS hy ?_;refine D ?_ ?_<;>intro h
   .have hne:¬x.toNat=y.toNat:=by simp at h;intro he;apply h;omega
    clear h;rw[if_neg hne]at hc1;rw[hc1];refine cn 12 [32,33,34,35,36,37,38,39,40,41,42,4] ?_;refine aS hx ?_;refine aS hy ?_;refine H ?_;rw[wrap_i64 (n:=(x.toNat:Int)) J J,wrap_i64 (n:=(y.toNat:Int)) J J,wrap_i64 J J];exact cp
   .have hne:x.toNat=y.toNat:=by simp at h;omega
    clear h;rw[if_pos hne]at hc1;refine H ?_;refine⟨j,⟨J,by rw[<-hc1,hc]⟩,J,O,O,?_,trivial⟩;exact congrArg I (wrap_i64 J J)
  .have hk0:k=0:=by have:=aG h;omega
   subst hk0;clear h;exact cp
 .rw[j9,if_neg he];refine Ret.of_pwp layOk mixed Go.Proofs.Tryz.func228 O Y O O ?_;refine D ?_ ?_<;>intro h
  .refine H ?_;rw[hal,hbl,wrap_i64 J J];exact nu O O O
  .simp at h;omega
end Go.Pv
namespace Go.Pv
open Go.RowKit
variable [Globs]
theorem dD {P:Program}{L:Lay}{s s1:St}{o:Oper}{K:St->Prop}(hg:Ghost s s1)(h:POp P L s1 o K):Sm P L s o K :=
 fun _ _ _ _ hG hs hN=>POp.wp hG (hg _ _ _ hG.x hs) hN h fun s' _ _ h' hk=>⟨s',h',hk⟩
end Go.Pv
set_option maxHeartbeats 2000000
namespace Go.Pv
attribute [local irreducible] PWP POps PQuiet PSem aw aq ai aj
open Go.Proofs
theorem n7 (l:List UInt16)(d:UInt16):nv (l++[d])=nv l+65536^l.length*d.toNat:=by
 rw[jU];simp[nv]
theorem ep {l:List UInt16}{k:Nat}(h:l.length<=k):nv (l.take k)=nv l:=by rw[List.take_of_length_le h]
theorem yO {l:List UInt16}{i t:Nat}{x:UInt16}(h:l[i]? = some x)(hi:i<t)(y:UInt16):nv ((l.set i y).take t)+65536^i*x.toNat=nv (l.take t)+65536^i*y.toNat:=by
 have e:(l.set i y).take t=(l.take t).set i y:=by
  apply List.ext_getElem?;intro j;rw[List.getElem?_take,List.getElem?_set,List.getElem?_set,List.getElem?_take,List.length_take];have:=(bb h).1;by_cases hj:j<t
  .rw[if_pos hj];by_cases hij:i=j
   .subst hij;rw[if_pos O,if_pos O,if_pos J,if_pos J]
   .rw[if_neg hij,if_neg hij,if_pos hj]
  .rw[if_neg hj,if_neg J,if_neg hj]
 rw[e];exact Dm (by rw[List.getElem?_take,if_pos hi];exact h) y
theorem k8 {l:List UInt16}{i t:Nat}(hi:t<=i)(y:UInt16):nv ((l.set i y).take t)=nv (l.take t):=by
 have e:(l.set i y).take t=l.take t:=by
  apply List.ext_getElem?;intro j;rw[List.getElem?_take,List.getElem?_take];split
  .rw[List.getElem?_set_ne J]
  .rfl
 rw[e]
theorem gi (l:List UInt16)(i:Nat)(y:UInt16):(l.map eU).set i (eU y)=(l.set i y).map eU:=by rw[List.map_set]
structure PlusI (A B:List UInt16) (q:Nat × List UInt16 × Nat):Prop where
 k:q.1<=A.length
 l:q.2.1.length=q.1
 c:q.2.2<=1
 v:nv q.2.1+65536^q.1*q.2.2=nv (A.take q.1)+nv (B.take q.1)
theorem rB {A B:List UInt16}{k:Nat}{L:List UInt16}{c y:Nat}{x:UInt16}(h:PlusI A B (k,L,c))(hx:A[k]? = some x)(hy:nv (B.take (k+1))=nv (B.take k)+65536^k*y)(hy2:y<65536) :
  PlusI A B (k+1,L++[UInt16.ofNat (c+x.toNat+y)],(c+x.toNat+y)/65536):=by
 obtain⟨h1,h2,h3,h4⟩:=h;simp only at h1 h2 h3 h4;have hk:=(bb hx).1;have hx2:=bk x;refine⟨hk,by simp[h2],by simp only;omega,?_⟩;simp only;rw[n7,dr hx,hy,h2,be,Nat.pow_succ];have e:(c+x.toNat+y)%65536+65536*((c+x.toNat+y)/65536)=c+x.toNat+y:=Nat.mod_add_div _ _;generalize 65536^k=W at *
 generalize (c+x.toNat+y)%65536=m at *
 generalize (c+x.toNat+y)/65536=d at *
 have:W*(m+65536*d)=W*(c+x.toNat+y):=by rw[e]
 simp only[Nat.mul_add]at this;rw[Nat.mul_assoc];omega
set_option maxRecDepth 20000 in
theorem Dx (a b:List UInt16)(ha:a.length<=100000000)(hb:b.length<=100000000):Ret Tryz.prog .shared 227 [.sl (a.map eU),.sl (b.map eU)] (.sl ((ay (nv a+nv b)).map eU)):=by
 have hal:(a.map eU).length=a.length:=ah;have hbl:(b.map eU).length=b.length:=ah;obtain⟨A,B,hAB,hsum,hle,hA,hsw⟩:∃A B:List UInt16,(if a.length<b.length then A=b/\B=a else A=a/\B=b)/\nv A+nv B=nv a+nv b/\B.length<=A.length/\A.length<=100000000/\True:=by
  by_cases h:a.length<b.length
  .exact⟨b,a,by rw[if_pos h];exact⟨O,O⟩,J,J,hb,trivial⟩
  .exact⟨a,b,by rw[if_neg h];exact⟨O,O⟩,O,J,ha,trivial⟩
 have hAl:(A.map eU).length=A.length:=ah;have hBl:(B.map eU).length=B.length:=ah;refine Ret.of_pwp layOk mixed Go.Proofs.Tryz.func227 O Y O O ?_;refine H ?_;refine sU [(0,.sl (A.map eU)),(1,.sl (B.map eU))] [] ?_ (fun s1=>?_)
 .refine bP O ?_ ?_<;>intro h
  .have hlt:a.length<b.length:=by have:=aC h;rw[hal,hbl]at this;omega
   clear h;rw[if_pos hlt]at hAB;obtain⟨rfl,rfl⟩:=hAB;refine H ?_;exact⟨O,O,trivial⟩
  .have hlt:¬a.length<b.length:=by have:=aG h;rw[hal,hbl]at this;omega
   clear h;rw[if_neg hlt]at hAB;obtain⟨rfl,rfl⟩:=hAB;refine H ?_;exact⟨O,O,trivial⟩
 clear hAB hsw hal hbl ha hb;have hw1:IntKind.i64.wrap ((((A.map eU).length:Nat):Int)+1)=((A.length+1:Nat):Int):=by rw[hAl,wrap_i64 J J];omega
 refine H ?_;rw[hw1];refine aH (FW (n:=0) O O O O O O O O J J (by show(2:Int)*((A.length+1:Nat):Int)<=_;omega) J ?_);generalize (s1.own 19).1=g0;refine H ?_;refine ap (PlusI A B) (fun q=>[(1,.sl (B.map eU)),(5,.als 19 (g0+1+q.2.1.length) 0 (q.2.1.map eU).length),(6,.int .u32 (q.2.2:Nat)),(20,.sl (A.map eU)),(21,I A.length),(22,I q.1)])
  (fun q=>[(19,g0+1+q.2.1.length,⟨57,1,q.2.1.map eU,0⟩)]) (fun q=>A.length-q.1) (0,[],0) ⟨Nat.zero_le _,O,Y,by simp[nv]⟩ ⟨O,O,O,O,?_,O,O,trivial⟩ ?_
 .show I ((A.map eU).length)=_;rw[hAl]
 rintro⟨k,L,c⟩ s2 hI;have hk:=hI.k;have hc:=hI.c;have hLl:=hI.l;simp only at hk hc hLl;dsimp only;refine D ?_ ?_<;>intro h
 .have hlt:k<A.length:=by have:=aC h;omega
  clear h;obtain⟨x,hx⟩:=aJ hlt;have hxl:=bk x;have e1:IntKind.u32.wrap ((c:Nat)+IntKind.u32.wrap (x.toNat:Int))=((c+x.toNat:Nat):Int):=by rw[wrap_u32 (n:=(x.toNat:Int)) J J,wrap_u32 J J];omega
  refine aS hx ?_;refine H ?_;rw[e1];by_cases hb:k<B.length
  .obtain⟨y,hy⟩:=aJ hb;have hyl:=bk y;have hst:=rB hI hx (dr hy) hyl;have e2:IntKind.u32.wrap (((c+x.toNat:Nat):Int)+IntKind.u32.wrap (y.toNat:Int))=((c+x.toNat+y.toNat:Nat):Int):=by rw[wrap_u32 (n:=(y.toNat:Int)) J J,wrap_u32 J J];omega
   generalize hs:c+x.toNat+y.toNat=sm at *
   refine D ?_ ?_<;>intro h
   .clear h;refine aS hy ?_;refine H ?_;rw[e2,wrap_u16];refine H ?_;refine bE O O (dj O O O O O O O O O O aI O) ?_;refine aH (bQ 0 O O O O O O O O O O O aI (by intro row hr;first|(simp at hr;subst hr;rfl)|simp at hr) O O aU aU ?_);refine H ?_;refine⟨(k+1,L++[UInt16.ofNat sm],sm/65536),hst,by simp only;omega,O,?_,?_,O,O,cg J J,?_,trivial⟩
    .exact nV eU 19 (g0+1) L (UInt16.ofNat sm)
    .show PV.int .u32 ((sm:Int)/2^16)=PV.int .u32 ((sm/65536:Nat):Int);congr 1
    .exact lH eU (g0+1) 57 1 0 L (UInt16.ofNat sm)
   .have:=aG h;rw[hBl]at this;omega
  .have hst:=rB (y:=0) hI hx (by rw[ep J,ep J];omega) J;rw[Nat.add_zero]at hst;generalize hs:c+x.toNat=sm at *
   refine D ?_ ?_<;>intro h
   .have:=aC h;rw[hBl]at this;omega
   .clear h;refine H ?_;rw[wrap_u16];refine H ?_;refine bE O O (dj O O O O O O O O O O aI O) ?_;refine aH (bQ 0 O O O O O O O O O O O aI (by intro row hr;first|(simp at hr;subst hr;rfl)|simp at hr) O O aU aU ?_);refine H ?_;refine⟨(k+1,L++[UInt16.ofNat sm],sm/65536),hst,by simp only;omega,O,?_,?_,O,O,cg J J,?_,trivial⟩
    .exact nV eU 19 (g0+1) L (UInt16.ofNat sm)
    .show PV.int .u32 ((sm:Int)/2^16)=PV.int .u32 ((sm/65536:Nat):Int);congr 1
    .exact lH eU (g0+1) 57 1 0 L (UInt16.ofNat sm)
 .have hge:k=A.length:=by have:=aG h;omega
  subst hge;clear h;have hv:=hI.v;simp only at hv;rw[List.take_length,ep hle]at hv;have hfin:aX (L++[UInt16.ofNat c])=ay (nv a+nv b):=by
   rw[aX,n7,be,Nat.mod_eq_of_lt J,hLl,hv,hsum]
  have ht:=cF (L++[UInt16.ofNat c]) aU;rw[hfin]at ht
  ((repeat ((fail_if_success (with_reducible refine aQ 14 ?_));refine cx O ?_));refine aM 5 ?_)
  refine H ?_;rw[wrap_u16];refine bE O O (dj O O O O O O O O O O aI O) ?_;refine aH (bQ 0 O O O O O O O O O O O aI (by intro row hr;first|(simp at hr;subst hr;rfl)|simp at hr) O O aU aU ?_);refine H ?_;refine aV O (dD (Ghost.takeF (enc:=eU) (t:=54) (L++[UInt16.ofNat c]) O O (by rw[List.map_append];rfl) O (fun _=>rfl)) ?_)
  (refine kj (dA O (ht) O ?_ O) ?_;.repeat' constructor)
  refine aO ?_;refine H ?_;exact iq O O O trivial O
structure MinI (A B:List UInt16) (q:Nat × List UInt16 × Nat):Prop where
 k:q.1<=A.length
 l:q.2.1.length=A.length
 c:q.2.2<=1
 v:nv (q.2.1.take q.1)+nv (B.take q.1)=nv (A.take q.1)+65536^q.1*q.2.2
theorem Dd {A B:List UInt16}{k:Nat}{R:List UInt16}{c y:Nat}{x:UInt16}(h:MinI A B (k,R,c))(hx:A[k]? = some x)(hy:nv (B.take (k+1))=nv (B.take k)+65536^k*y)(hy2:y<65536) :
  MinI A B (k+1,R.set k (UInt16.ofNat (x.toNat+(if x.toNat<c+y then 65536 else 0)-(c+y))),if x.toNat<c+y then 1 else 0):=by
 obtain⟨h1,h2,h3,h4⟩:=h;simp only at h1 h2 h3 h4;have hk:=(bb hx).1;have hx2:=bk x;refine⟨hk,by simp[h2],by simp only;split<;>omega,?_⟩;simp only;obtain⟨r,hr⟩:∃r,R[k]? = some r:=⟨R[k],List.getElem?_eq_getElem J⟩;have e1:nv ((R.set k (UInt16.ofNat (x.toNat+(if x.toNat<c+y then 65536 else 0)-(c+y)))).take (k+1))=nv (R.take k)+65536^k*(x.toNat+(if x.toNat<c+y then 65536 else 0)-(c+y)):=by
  rw[dr (List.getElem?_set_self J),k8 (aP),be,Nat.mod_eq_of_lt (by split<;>omega)]
 rw[e1,dr hx,hy,Nat.pow_succ];generalize 65536^k=W at *
 split
 .rename_i hlt;have:W*(x.toNat+65536-(c+y))+W*c+W*y=W*x.toNat+W*65536:=by rw[<-Nat.mul_add,<-Nat.mul_add,<-Nat.mul_add];congr 1;omega
  omega
 .rename_i hlt;have:W*(x.toNat+0-(c+y))+W*c+W*y=W*x.toNat:=by rw[<-Nat.mul_add,<-Nat.mul_add];congr 1;omega
  omega
theorem FN {A B:List UInt16}{R:List UInt16}{c:Nat}(h:MinI A B (A.length,R,c))(hle:nv B<=nv A):nv R=nv A-nv B:=by
 obtain⟨h1,h2,h3,h4⟩:=h;simp only at h1 h2 h3 h4;rw[List.take_length,List.take_of_length_le J]at h4;have hA:=co A;have hR:=co R;rw[h2]at hR;rcases Nat.lt_or_ge B.length A.length with hb|hb
 .rw[ep J]at h4;generalize 65536^A.length=W at *
  have:c=0:=by
   rcases Nat.eq_zero_or_pos c with h|h
   .exact h
   .have:c=1:=J;subst this;omega
  subst this;omega
 .have hs:=cT B A.length hb;generalize 65536^A.length=W at *
  have hz:nv (B.drop A.length)=0:=by
   rcases Nat.eq_zero_or_pos (nv (B.drop A.length)) with h|h
   .exact h
   .have:=Nat.mul_le_mul_left W h;omega
  rw[hz]at hs;have:c=0:=by
   rcases Nat.eq_zero_or_pos c with h|h
   .exact h
   .have:c=1:=J;subst this;omega
  subst this;omega
theorem mH {R:List UInt16}{i:Nat}(h:i<R.length):∃r,(R.map eU)[i]? = some (eU r):=by
 obtain⟨r,hr⟩:=aJ h;exact⟨r,by rw[List.getElem?_map,hr];rfl⟩
theorem li (n:Nat):List.replicate n [PV.int .u16 0]=(List.replicate n (0:UInt16)).map eU:=by rw[List.map_replicate];rfl
set_option maxRecDepth 20000 in
theorem ri (a b:List UInt16)(ha:a.length<=100000000)(hb:b.length<=100000000)(hle:nv b<=nv a):Ret Tryz.prog .shared 229 [.sl (a.map eU),.sl (b.map eU)] (.sl ((ay (nv a-nv b)).map eU)):=by
 have hal:(a.map eU).length=a.length:=ah;have hbl:(b.map eU).length=b.length:=ah;refine Ret.of_pwp layOk mixed Go.Proofs.Tryz.func229 O Y O O ?_;refine H ?_;refine aH (iN O O O O O O O O J (by show(2:Int)*_<=_;omega) J ?_);rw[show(((a.map eU).length:Nat):Int).toNat=a.length by omega,li];refine H ?_;refine ap (MinI a b) (fun q=>[(1,.sl (b.map eU)),(5,.als 12 1 0 (q.2.1.map eU).length),(6,.int .u32 (q.2.2:Nat)),(13,.sl (a.map eU)),(14,I a.length),(15,I q.1)])
  (fun q=>[(12,1,⟨57,1,q.2.1.map eU,0⟩)]) (fun q=>a.length-q.1) (0,List.replicate a.length 0,0) ⟨Nat.zero_le _,ah,Nat.zero_le _,by simp[nv]⟩ ⟨O,O,O,O,?_,O,O,trivial⟩ ?_
 .show I ((a.map eU).length)=_;rw[hal]
 rintro⟨k,R,c⟩ s2 hI;have hk:=hI.k;have hc:=hI.c;have hRl:=hI.l;simp only at hk hc hRl;dsimp only;refine D ?_ ?_<;>intro h
 .have hlt:k<a.length:=by have:=aC h;omega
  clear h;obtain⟨x,hx⟩:=aJ hlt;have hxl:=bk x;obtain⟨r,hr⟩:=mH (R:=R) (i:=k) J;obtain⟨y,hyl,hy,hyb⟩:∃y:Nat,y<65536/\nv (b.take (k+1))=nv (b.take k)+65536^k*y/\(if k<b.length then ∃u:UInt16,b[k]? = some u/\u.toNat=y else y=0):=by
   by_cases hb:k<b.length
   .obtain⟨u,hu⟩:=aJ hb;exact⟨u.toNat,bk u,dr hu,by rw[if_pos hb];exact⟨u,hu,O⟩⟩
   .exact⟨0,Y,by rw[ep J,ep J];omega,by rw[if_neg hb]⟩
  have hst:=Dd hI hx hy hyl;have e0:IntKind.u32.wrap (x.toNat:Int)=(x.toNat:Int):=wrap_u32 J J;refine aS hx ?_;refine H ?_;refine sU [(1,.sl (b.map eU)),(5,.als 12 1 0 (R.map eU).length),(6,.int .u32 (c:Nat)),(7,I k),(8,.int .u16 x.toNat),(9,.int .u32 ((c+y:Nat):Int)),(13,.sl (a.map eU)),(14,I a.length),(15,I k)] [(12,1,⟨57,1,R.map eU,0⟩)] ?_ (fun s3=>?_)
  .refine bP O ?_ ?_<;>intro h
   .have hb:k<b.length:=by have:=aC h;rw[hbl]at this;omega
    clear h;rw[if_pos hb]at hyb;obtain⟨u,hu,rfl⟩:=hyb;have e1:IntKind.u32.wrap ((c:Int)+IntKind.u32.wrap (u.toNat:Int))=((c+u.toNat:Nat):Int):=by rw[wrap_u32 (n:=(u.toNat:Int)) J J,wrap_u32 J J];omega
    refine aS hu ?_;refine H ?_;rw[e1];exact⟨O,O,O,O,O,O,O,O,O,O,trivial⟩
   .have hb:¬k<b.length:=by have:=aG h;rw[hbl]at this;omega
    clear h;rw[if_neg hb]at hyb;subst hyb;refine H ?_;exact⟨O,O,O,O,O,O,O,O,O,O,trivial⟩
  by_cases hlt2:x.toNat<c+y
  .rw[if_pos hlt2,if_pos hlt2]at hst;have e2:IntKind.u16.wrap (IntKind.u32.wrap (IntKind.u32.wrap ((x.toNat:Int)+IntKind.u32.wrap ((1:Int)*2^(16:Int).toNat))-((c+y:Nat):Int)))=((UInt16.ofNat (x.toNat+65536-(c+y))).toNat:Int):=by
    rw[show IntKind.u32.wrap ((1:Int)*2^(16:Int).toNat)=65536 by decide,wrap_u32 (n:=(x.toNat:Int)+65536) J J,wrap_u32 J J,<-wrap_u16];congr 1;omega
   refine H ?_;rw[e0];refine D ?_ ?_<;>intro h
   .clear h;refine H ?_;rw[e0];refine H ?_;rw[e2];refine bE O O (bO O O O O O O O J (by rw[List.length_map];omega)) ?_;rw[Int.toNat_natCast,Nat.zero_add k];refine bL (bN (kd':=0) O O O hr O O aI O O O O ?_);refine H ?_;refine⟨(k+1,_,_),hst,by simp only;omega,O,?_,O,O,O,cg J J,?_,trivial⟩
    .show PV.als 12 1 0 _=PV.als 12 1 0 _;rw[List.length_map,List.length_map,List.length_set]
    .refine Eq.trans (b:=(1,some (Cont.mk 57 1 ((R.map eU).set k (eU (UInt16.ofNat (x.toNat+65536-(c+y))))) 0))) O ?_;rw[gi]
   .have:=aG h;omega
  .rw[if_neg hlt2,if_neg hlt2]at hst;have e2:IntKind.u16.wrap (IntKind.u32.wrap (IntKind.u32.wrap ((x.toNat:Int)+IntKind.u32.wrap ((0:Int)*2^(16:Int).toNat))-((c+y:Nat):Int)))=((UInt16.ofNat (x.toNat+0-(c+y))).toNat:Int):=by
    rw[show IntKind.u32.wrap ((0:Int)*2^(16:Int).toNat)=0 by decide,wrap_u32 (n:=(x.toNat:Int)+0) J J,wrap_u32 J J,<-wrap_u16];congr 1;omega
   refine H ?_;rw[e0];refine D ?_ ?_<;>intro h
   .have:=aC h;omega
   .clear h;refine H ?_;rw[e0];refine H ?_;rw[e2];refine bE O O (bO O O O O O O O J (by rw[List.length_map];omega)) ?_;rw[Int.toNat_natCast,Nat.zero_add k];refine bL (bN (kd':=0) O O O hr O O aI O O O O ?_);refine H ?_;refine⟨(k+1,_,_),hst,by simp only;omega,O,?_,O,O,O,cg J J,?_,trivial⟩
    .show PV.als 12 1 0 _=PV.als 12 1 0 _;rw[List.length_map,List.length_map,List.length_set]
    .refine Eq.trans (b:=(1,some (Cont.mk 57 1 ((R.map eU).set k (eU (UInt16.ofNat (x.toNat+0-(c+y))))) 0))) O ?_;rw[gi]
 .have hge:k=a.length:=by have:=aG h;omega
  subst hge;clear h;have hfin:aX R=ay (nv a-nv b):=by rw[aX,FN hI hle]
  have ht:=cF R J;rw[hfin]at ht
  ((repeat ((fail_if_success (with_reducible refine aQ 14 ?_));refine cx O ?_));refine aM 1 ?_)
  refine H ?_;refine aV O (dD (Ghost.takeF (enc:=eU) (t:=48) (R) O O (O) O (fun _=>rfl)) ?_)
  (refine kj (dA O (ht) O ?_ O) ?_;.repeat' constructor)
  refine aO ?_;refine H ?_;exact iq O O O trivial O
theorem r5 (k g i:Nat)(R:List UInt16)(y:UInt16):PV.als k g 0 (((R.map eU).set i (eU y))).length=PV.als k g 0 ((R.set i y).map eU).length:=by simp
theorem dQ (g T sz kd i:Nat)(R:List UInt16)(y:UInt16):(g,some (Cont.mk T sz ((R.map eU).set i (eU y)) kd))=(g,some (Cont.mk T sz ((R.set i y).map eU) kd)):=by rw[gi]
structure TimO (A B:List UInt16) (q:Nat × List UInt16):Prop where
 i:q.1<=A.length
 l:q.2.length=A.length+B.length
 v:nv (q.2.take (q.1+B.length))=nv (A.take q.1)*nv B
structure TimI (A B:List UInt16) (i x:Nat) (q:Nat × List UInt16 × Nat):Prop where
 k:q.1<=B.length
 l:q.2.1.length=A.length+B.length
 c:q.2.2<65536
 v:nv (q.2.1.take (i+B.length))+65536^(i+q.1)*q.2.2=nv (A.take i)*nv B+65536^i*(x*nv (B.take q.1))
theorem uN {x y:Nat}(hx:x<65536)(hy:y<65536):x*y<=4294836225:=by
 have:=Nat.mul_le_mul (show x<=65535 by omega) (show y<=65535 by omega);omega
theorem EM {A B:List UInt16}{i x k:Nat}{R:List UInt16}{c:Nat}{y r:UInt16}(h:TimI A B i x (k,R,c))(hx:x<65536)(hy:B[k]? = some y)(hr:R[i+k]? = some r) :
  TimI A B i x (k+1,R.set (i+k) (UInt16.ofNat (c+(x*y.toNat+r.toNat))),(c+(x*y.toNat+r.toNat))/65536):=by
 obtain⟨h1,h2,h3,h4⟩:=h;simp only at h1 h2 h3 h4;have hk:=(bb hy).1;have hyl:=bk y;have hrl:=bk r;have hm:=uN hx hyl;refine⟨hk,by simp[h2],by simp only;omega,?_⟩;simp only;have hs:=yO (t:=i+B.length) hr J (UInt16.ofNat (c+(x*y.toNat+r.toNat)));rw[be]at hs;rw[dr hy,show i+(k+1)=(i+k)+1 by omega,Nat.pow_succ];have e:=Nat.mod_add_div (c+(x*y.toNat+r.toNat)) 65536;generalize (c+(x*y.toNat+r.toNat))%65536=m at *
 generalize (c+(x*y.toNat+r.toNat))/65536=d at *
 have e2:65536^i*(x*(nv (B.take k)+65536^k*y.toNat))=65536^i*(x*nv (B.take k))+65536^(i+k)*(x*y.toNat):=by
  rw[Nat.mul_add,Nat.mul_add,Nat.pow_add];congr 1;simp only[Nat.mul_assoc,Nat.mul_left_comm,Nat.mul_comm]
 rw[e2];generalize 65536^(i+k)=W at *
 have e3:W*(m+65536*d)=W*(c+(x*y.toNat+r.toNat)):=by rw[e]
 simp only[Nat.mul_add]at e3;rw[Nat.mul_assoc];omega
theorem EL {A B:List UInt16}{i:Nat}{x r:UInt16}{R:List UInt16}{c:Nat}(hx:A[i]? = some x)(h:TimI A B i x.toNat (B.length,R,c))(hr:R[i+B.length]? = some r):TimO A B (i+1,R.set (i+B.length) (UInt16.ofNat c)):=by
 obtain⟨h1,h2,h3,h4⟩:=h;simp only at h1 h2 h3 h4;have hk:=(bb hx).1;refine⟨hk,by simp[h2],?_⟩;simp only;rw[show i+1+B.length=i+B.length+1 by omega,dr (List.getElem?_set_self J),k8 (aP),be,Nat.mod_eq_of_lt h3,h4,List.take_length,dr hx,Nat.add_mul,Nat.mul_assoc]
theorem GO {A B R:List UInt16}(h:TimO A B (A.length,R)):nv R=nv A*nv B:=by
 have h1:=h.l;have h2:=h.v;simp only at h1 h2;rwa [List.take_length,List.take_of_length_le J]at h2
set_option maxRecDepth 20000 in
theorem Bv (a b:List UInt16)(ha:a.length<=100000000)(hb:b.length<=100000000):Ret Tryz.prog .shared 230 [.sl (a.map eU),.sl (b.map eU)] (.sl ((ay (nv a*nv b)).map eU)):=by
 have hal:(a.map eU).length=a.length:=ah;have hbl:(b.map eU).length=b.length:=ah;have hw0:IntKind.i64.wrap ((((a.map eU).length:Nat):Int)+(((b.map eU).length:Nat):Int))=((a.length+b.length:Nat):Int):=by rw[hal,hbl,wrap_i64 J J];omega
 refine Ret.of_pwp layOk mixed Go.Proofs.Tryz.func230 O Y O O ?_;refine H ?_;rw[hw0];refine aH (iN O O O O O O O O J (by show(2:Int)*_<=_;omega) J ?_);rw[Int.toNat_natCast,li];refine H ?_;refine ap (TimO a b) (fun q=>[(1,.sl (b.map eU)),(5,.als 16 1 0 (q.2.map eU).length),(17,.sl (a.map eU)),(18,I a.length),(19,I q.1)])
  (fun q=>[(16,1,⟨57,1,q.2.map eU,0⟩)]) (fun q=>a.length-q.1) (0,List.replicate (a.length+b.length) 0) ⟨Nat.zero_le _,ah,by simp[nv];exact sN _⟩ ⟨O,O,O,?_,O,O,trivial⟩ ?_
 .show I ((a.map eU).length)=_;rw[hal]
 rintro⟨i,R⟩ s1 hO;have hi:=hO.i;have hRl:=hO.l;have hOv:=hO.v;simp only at hi hRl hOv;dsimp only;refine D ?_ ?_<;>intro h
 .have hlt:i<a.length:=by have:=aC h;omega
  clear h;obtain⟨x,hx⟩:=aJ hlt;have hxl:=bk x;have ex:IntKind.u32.wrap (x.toNat:Int)=(x.toNat:Int):=wrap_u32 J J;refine aS hx ?_;refine H ?_;refine ap (TimI a b i x.toNat) (fun q=>[(1,.sl (b.map eU)),(5,.als 16 1 0 (q.2.1.map eU).length),(6,I i),(7,.int .u16 x.toNat),(8,.int .u32 (q.2.2:Nat)),(17,.sl (a.map eU)),(18,I a.length),(19,I i),(24,.sl (b.map eU)),(25,I b.length),(26,I q.1)])
   (fun q=>[(16,1,⟨57,1,q.2.1.map eU,0⟩)]) (fun q=>b.length-q.1) (0,R,0) ⟨Nat.zero_le _,hRl,Nat.zero_lt_succ _,by simp[nv];exact hOv⟩ ⟨O,O,O,O,O,O,O,O,O,?_,O,O,trivial⟩ ?_
  .show I ((b.map eU).length)=_;rw[hbl]
  rintro⟨k,Q,c⟩ s2 hI;have hk:=hI.k;have hQl:=hI.l;have hc:=hI.c;simp only at hk hQl hc;dsimp only;refine D ?_ ?_<;>intro h
  .have hlt2:k<b.length:=by have:=aC h;omega
   clear h;obtain⟨y,hy⟩:=aJ hlt2;obtain⟨r,hr⟩:=aJ (show i+k<Q.length by omega);have hr2:(Q.map eU)[i+k]? = some (eU r):=by rw[List.getElem?_map,hr];rfl
   have hst:=EM hI hxl hy hr;have hyl:=bk y;have hrl:=bk r;have hm:=uN hxl hyl;have hmi:(x.toNat:Int)*(y.toNat:Int)=((x.toNat*y.toNat:Nat):Int):=by rw[Int.natCast_mul]
   have ey:IntKind.u32.wrap (y.toNat:Int)=(y.toNat:Int):=wrap_u32 J J;have er:IntKind.u32.wrap (r.toNat:Int)=(r.toNat:Int):=wrap_u32 J J;have e1:IntKind.u32.wrap ((c:Int)+IntKind.u32.wrap (IntKind.u32.wrap ((x.toNat:Int)*(y.toNat:Int))+(r.toNat:Int)))=((c+(x.toNat*y.toNat+r.toNat):Nat):Int):=by
    rw[hmi,wrap_u32 (n:=((x.toNat*y.toNat:Nat):Int)) J J,wrap_u32 (n:=((x.toNat*y.toNat:Nat):Int)+(r.toNat:Int)) J J,wrap_u32 J J];omega
   have ei:IntKind.i64.wrap ((i:Int)+(k:Int))=((i+k:Nat):Int):=by rw[wrap_i64 J J];omega
   generalize hsm:c+(x.toNat*y.toNat+r.toNat)=sm at *
   refine aS hy ?_;refine H ?_;rw[ex];refine H ?_;rw[ey];refine H ?_;rw[ei];refine bE O O (bO O O O O O O O J (by rw[List.length_map];omega)) ?_;rw[Int.toNat_natCast,Nat.zero_add (i+k)];refine bE O O (cu O O O hr2 O) ?_;refine H ?_;rw[er];refine H ?_;rw[e1];refine H ?_;rw[ei];refine H ?_;rw[wrap_u16];refine bE O O (bO O O O O O O O J (by rw[List.length_map];omega)) ?_;rw[Int.toNat_natCast,Nat.zero_add (i+k)];refine bL (bN (kd':=0) O O O hr2 O O aI O O O O ?_);refine H ?_;refine⟨(k+1,_,_),hst,by simp only;omega,O,?_,O,O,?_,O,O,O,O,O,cg J J,?_,trivial⟩
   .exact r5 16 1 (i+k) Q (UInt16.ofNat sm) |> fun h=>by
     show PV.als 16 1 0 (Q.map eU).length=_;rw[<-h,List.length_set]
   .show PV.int .u32 ((sm:Int)/2^16)=PV.int .u32 ((sm/65536:Nat):Int);congr 1
   .exact dQ 1 57 1 0 (i+k) Q (UInt16.ofNat sm)
  .have hge:k=b.length:=by have:=aG h;omega
   subst hge;clear h;obtain⟨r,hr⟩:=aJ (show i+b.length<Q.length by omega);have hr2:(Q.map eU)[i+b.length]? = some (eU r):=by rw[List.getElem?_map,hr];rfl
   have hst:=EL hx hI hr;have ei:IntKind.i64.wrap ((i:Int)+(((b.map eU).length:Nat):Int))=((i+b.length:Nat):Int):=by rw[hbl,wrap_i64 J J];omega
   refine H ?_;rw[ei];refine H ?_;rw[wrap_u16];refine bE O O (bO O O O O O O O J (by rw[List.length_map];omega)) ?_;rw[Int.toNat_natCast,Nat.zero_add (i+b.length)];refine bL (bN (kd':=0) O O O hr2 O O aI O O O O ?_);refine H ?_;refine⟨(i+1,_),hst,by simp only;omega,O,?_,O,O,cg J J,?_,trivial⟩
   .show PV.als 16 1 0 (Q.map eU).length=_;rw[<-r5 16 1 (i+b.length) Q (UInt16.ofNat c),List.length_set]
   .exact dQ 1 57 1 0 (i+b.length) Q (UInt16.ofNat c)
 .have hge:i=a.length:=by have:=aG h;omega
  subst hge;clear h;have hfin:aX R=ay (nv a*nv b):=by rw[aX,GO hO]
  have ht:=cF R J;rw[hfin]at ht
  ((repeat ((fail_if_success (with_reducible refine aQ 15 ?_));refine cx O ?_));refine aM 1 ?_)
  refine H ?_;refine aV O (dD (Ghost.takeF (enc:=eU) (t:=65) (R) O O (O) O (fun _=>rfl)) ?_)
  (refine kj (dA O (ht) O ?_ O) ?_;.repeat' constructor)
  refine aO ?_;refine H ?_;exact iq O O O trivial O
end Go.Pv
namespace Go.Pv
open Go.RowKit
theorem I7 {P:Program}{w:World}{m:Sem Value}{v:Value}(h:m.run P w = .ok v w):(do pure (Next.value (<-m)):Sem Next).run P w = .ok (.value v) w:=by simp[h]
section
variable {P:Program}{L:Lay}{s:St}
theorem nc [Globs]{T T':TypeId}{d:Nat}{x:Operand}{r:LRow}{E:TypeId}{ty:TypeId}{pos:String}{af:Array Edge}{rows:List (List PV)}{K:St->Prop}(hL:ig P L)(hr:L T=some r)(hs:r.sh = .sl E)(hx:s.ev x = .sl rows)
  (h1:rows=[]->K (s.putR d (.bool true))) (h2:K (s.putR d (.bool false))):Sm P L s ⟨some d,.binOp .eql T x (.const (.slice none 0 0)) T',ty,pos,af,none⟩ K:=by
 intro C a w Q hG ⟨γ,hs'⟩ hN;have hv:=hs'.ev x;rw[hx]at hv;have hu:=gE (hL T r hr) hs
 have run:∀(v:Value) (b:Bool),a.eval x=v->((v = .slice none 0 0\/∃c,v = .slice none 0 c)/\b=true\/(∃q n c,v = .slice (some q) n c)/\b=false) ->
   (execOp a.eval ⟨some d,.binOp .eql T x (.const (.slice none 0 0)) T',ty,pos,af,none⟩).run P w = .ok (.value (.bool b)) w:=by
  intro v b hv hb;have e2:a.eval (.const (.slice none 0 0)) = .slice none 0 0:=O;simp only[execOp,hv,e2];refine I7 ?_;rcases hb with⟨rfl|⟨c,rfl⟩,rfl⟩|⟨⟨q,n,c,rfl⟩,rfl⟩
  .have hg:eqGuard .eql T x (.const (.slice none 0 0)) (.slice none 0 0) (.slice none 0 0)=pure ():=by cases x<;>rfl
   rw[hg];have h:∀d:Nat,(Op.equalIn (d+1) T (.slice none 0 0) (.slice none 0 0)).run P w = .ok true w:=fun d=>by simp[Op.equalIn,run_underlying hu]
   simp only[Sem.run_bind,Sem.run_pure,Result.andThen_ok,binOp];simp[Op.equal,Op.maxDepth,h 9999]
  .have hg:eqGuard .eql T x (.const (.slice none 0 0)) (.slice none 0 c) (.slice none 0 0)=pure ():=by cases x<;>rfl
   rw[hg];have h:∀d:Nat,(Op.equalIn (d+1) T (.slice none 0 c) (.slice none 0 0)).run P w = .ok true w:=fun d=>by simp[Op.equalIn,run_underlying hu]
   simp only[Sem.run_bind,Sem.run_pure,Result.andThen_ok,binOp];simp[Op.equal,Op.maxDepth,h 9999]
  .have hg:eqGuard .eql T x (.const (.slice none 0 0)) (.slice (some q) n c) (.slice none 0 0)=pure ():=by cases x<;>rfl
   rw[hg];have h:∀d:Nat,(Op.equalIn (d+1) T (.slice (some q) n c) (.slice none 0 0)).run P w = .ok false w:=fun d=>by simp[Op.equalIn,run_underlying hu]
   simp only[Sem.run_bind,Sem.run_pure,Result.andThen_ok,binOp];simp[Op.equal,Op.maxDepth,h 9999]
 generalize hev:a.eval x=v0 at hv;cases hv with
 |d hd =>
  cases hd with
  |sl0 q cap =>
   cases q with
   |none =>
    unfold Oper.wp;rw[run _ true hev (.inl ⟨.inr ⟨_,O⟩,O⟩),Oper.upon_value];exact⟨_,⟨_,hs'.put (d:=some d) hN (.d (.bool _))⟩,h1 O⟩
   |some q =>
    unfold Oper.wp;rw[run _ false hev (.inr ⟨⟨_,_,_,O⟩,O⟩),Oper.upon_value];exact⟨_,⟨_,hs'.put (d:=some d) hN (.d (.bool _))⟩,h2⟩
  |sl rows b off cap sz vals =>
   unfold Oper.wp;rw[run _ false hev (.inr ⟨⟨_,_,_,O⟩,O⟩),Oper.upon_value];exact⟨_,⟨_,hs'.put (d:=some d) hN (.d (.bool _))⟩,h2⟩
end
theorem eY [Globs]{P:Program}{L:Lay}{Q:Exit->St->Prop}{s:St}(h:PWP P L .ret Q s):PWP P L .ret Q s:=h
end Go.Pv
set_option maxHeartbeats 2000000
namespace Go.Pv
attribute [local irreducible] PWP POps PQuiet PSem aw aq ai aj
open Go.Proofs
theorem vX (a b:Nat):(a:Int).tdiv (b:Int)=((a/b:Nat):Int):=rfl
theorem pX (a b:Nat):(a:Int).tmod (b:Int)=((a%b:Nat):Int):=rfl
theorem KM {x y:Nat}(hx:x<65536)(hy:y<65536):bits .or .u32 ((x*65536:Nat):Int) (y:Int)=((x*65536+y:Nat):Int):=by
 rw[bits_join .u32 32 Y wraps_u32 16 _ _ J J J J J J];omega
theorem Iz {x y:Nat}(hx:x<281474976710656)(hy:y<65536):bits .or .u64 ((x*65536:Nat):Int) (y:Int)=((x*65536+y:Nat):Int):=by
 rw[bits_join .u64 64 Y wraps_u64 16 _ _ J J J J J J];omega
theorem HJ {x:Nat}(hx:x<65536):IntKind.u32.wrap ((x:Int)*2^(16:Int).toNat)=((x*65536:Nat):Int):=by
 rw[show((2:Int)^(16:Int).toNat)=65536 by decide,wrap_u32 J J];omega
theorem Eg {x:Nat}(hx:x<281474976710656):IntKind.u64.wrap ((x:Int)*2^(16:Int).toNat)=((x*65536:Nat):Int):=by
 rw[show((2:Int)^(16:Int).toNat)=65536 by decide,wrap_u64 J J];omega
structure ShI (A:List UInt16) (b:Nat) (q:Nat × List UInt16 × Nat):Prop where
 k:q.1<=A.length
 l:q.2.1.length=A.length
 c:q.2.2<b
 v:nv (A.drop q.1)=b*nv (q.2.1.drop q.1)+q.2.2
theorem qr {l:List UInt16}{i:Nat}{y:UInt16}(h:i<l.length):(l.set i y).drop i=y::l.drop (i+1):=by
 have h1:(l.set i y)[i]? = some y:=List.getElem?_set_self h;have h2:=List.drop_eq_getElem?_toList_append (l:=l.set i y) (i:=i);rw[h1]at h2;rw[h2];show y::(l.set i y).drop (i+1)=_;congr 1;apply List.ext_getElem?;intro j;rw[List.getElem?_drop,List.getElem?_drop,List.getElem?_set_ne J]
theorem Gx {A:List UInt16}{b j:Nat}{Q:List UInt16}{c:Nat}{x:UInt16}(h:ShI A b (j+1,Q,c))(hb:b<65536)(hx:A[j]? = some x) :
  ShI A b (j,Q.set j (UInt16.ofNat ((c*65536+x.toNat)/b)),(c*65536+x.toNat)%b):=by
 obtain⟨h1,h2,h3,h4⟩:=h;simp only at h1 h2 h3 h4;have hj:=(bb hx).1;have hxl:=bk x;refine⟨by simp only;omega,by simp[h2],Nat.mod_lt _ J,?_⟩;simp only;have hq:(c*65536+x.toNat)/b<65536:=by
  rw[Nat.div_lt_iff_lt_mul J];have:=Nat.mul_le_mul_right 65536 (show c+1<=b by omega);omega
 rw[eX hx,h4,qr J,nv,be,Nat.mod_eq_of_lt hq,Nat.mul_add 65536,Nat.mul_add b];have e:=Nat.div_add_mod (c*65536+x.toNat) b;have e2:b*(65536*nv (Q.drop (j+1)))=65536*(b*nv (Q.drop (j+1))):=by rw[Nat.mul_left_comm]
 rw[e2];omega
set_option maxRecDepth 20000 in
theorem Be (a:List UInt16)(b:UInt16)(ha:a.length<=100000000)(hb:0<b.toNat):Ret Tryz.prog .shared 264 [.sl (a.map eU),.int .u16 b.toNat] (.tup [.sl ((ay (nv a/b.toNat)).map eU),.int .u16 ((nv a%b.toNat:Nat):Int)]):=by
 have hal:(a.map eU).length=a.length:=ah;have hbl:=bk b;have hw0:IntKind.i64.wrap (((((a.map eU).length:Nat):Int))-1)=(a.length:Int)-1:=by rw[hal,wrap_i64 J J]
 have eb:IntKind.u32.wrap (b.toNat:Int)=(b.toNat:Int):=wrap_u32 J J;have hb0:¬((b.toNat:Nat):Int)=0:=J;refine Ret.of_pwp layOk mixed Go.Proofs.Tryz.func264 O Y O O ?_;refine H ?_;refine aH (iN O O O O O O O O J (by show(2:Int)*_<=_;omega) J ?_);rw[show(((a.map eU).length:Nat):Int).toNat=a.length by omega,li];refine H ?_;rw[hw0];refine ap (ShI a b.toNat) (fun q=>[(0,.sl (a.map eU)),(1,.int .u16 b.toNat),(6,.als 11 1 0 (q.2.1.map eU).length),(7,.int .u32 (q.2.2:Nat)),(8,I ((q.1:Int)-1))])
  (fun q=>[(11,1,⟨57,1,q.2.1.map eU,0⟩)]) (fun q=>q.1) (a.length,List.replicate a.length 0,0) ⟨aP,ah,hb,by simp[nv]⟩ ⟨O,O,O,O,O,O,trivial⟩ ?_
 rintro⟨k,Q,c⟩ s1 hI;have hk:=hI.k;have hQl:=hI.l;have hc:=hI.c;simp only at hk hQl hc;dsimp only;refine D ?_ ?_<;>intro h
 .have hk0:0<k:=by have:=aC h;omega
  clear h;obtain⟨j,rfl⟩:∃j,k=j+1:=⟨k-1,J⟩;have e1:(((j+1:Nat):Int)-1)=(j:Nat):=J;obtain⟨x,hx⟩:=aJ (show j<a.length by omega);have hxl:=bk x;obtain⟨r,hr⟩:=mH (R:=Q) (i:=j) J;have hst:=Gx hI hbl hx;have hst2:=hst.c;simp only at hst2;have ex:IntKind.u32.wrap (x.toNat:Int)=(x.toNat:Int):=wrap_u32 J J;have hsmb:c*65536+x.toNat<4294967296:=J;have hor:=KM (x:=c) (y:=x.toNat) J hxl;have hq:(c*65536+x.toNat)/b.toNat<=c*65536+x.toNat:=Nat.div_le_self _ _;rw[e1];refine H ?_;rw[HJ J];refine Gj O O O O O O O hx O ?_;refine H ?_;rw[ex,hor];generalize c*65536+x.toNat=sm at *
  refine H ?_;rw[eb];refine jb O hb0 ?_;rw[vX];generalize hqq:sm/b.toNat=qq at *
  rw[wrap_u32 (n:=(qq:Int)) J J];refine H ?_;rw[wrap_u16];refine bE O O (bO O O O O O O O J (by rw[List.length_map];omega)) ?_;rw[Int.toNat_natCast,Nat.zero_add j];refine bL (bN (kd':=0) O O O hr O O aI O O O O ?_);refine H ?_;rw[eb];refine jb O hb0 ?_;rw[pX];refine H ?_;refine⟨(j,_,_),hst,by simp only;omega,O,O,?_,O,?_,?_,trivial⟩
  .show PV.als 11 1 0 (Q.map eU).length=_;rw[<-r5 11 1 j Q (UInt16.ofNat qq),List.length_set]
  .exact congrArg I (wrap_i64 J J)
  .exact dQ 1 57 1 0 j Q (UInt16.ofNat qq)
 .have hge:k=0:=by have:=aG h;omega
  subst hge;clear h;have hv:=hI.v;simp only[List.drop_zero]at hv;have hd:nv a/b.toNat=nv Q/\nv a%b.toNat=c:=by
   rw[hv,Nat.mul_add_div hb,Nat.mul_add_mod,Nat.div_eq_of_lt hc,Nat.mod_eq_of_lt hc];omega
  have ht:=cF Q J;rw[aX,<-hd.1]at ht
  ((repeat ((fail_if_success (with_reducible refine aQ 9 ?_));refine cx O ?_));refine aM 1 ?_)
  refine H ?_;refine aV O (dD (Ghost.takeF (enc:=eU) (t:=39) (Q) O O (O) O (fun _=>rfl)) ?_)
  (refine kj (dA O (ht) O ?_ O) ?_;.repeat' constructor)
  refine aO ?_;refine H ?_;rw[wrap_u16,be,Nat.mod_eq_of_lt (show c<65536 by omega),<-hd.2];refine H ?_;exact wO O O O O O trivial trivial O
def ji:Nat->Nat->List UInt16
 |0,_=>[]
 |k+1,v=>UInt16.ofNat v::ji k (v/65536)
theorem jk:∀k v,(ji k v).length=k
 |0,_=>rfl
 |k+1,v=>by rw[ji,List.length_cons,jk k]
theorem sn:∀k v,v<65536^k->nv (ji k v)=v
 |0,v,h=>by simp at h;subst h;rfl
 |k+1,v,h=>by
  rw[ji,nv,be,sn k (v/65536) (by rw[Nat.pow_succ]at h;exact Nat.div_lt_of_lt_mul (by rw[Nat.mul_comm];exact h))];exact Nat.mod_add_div _ _
theorem so:∀(l:List UInt16),l=ji l.length (nv l)
 |[]=>rfl
 |x::l=>by
  have hx:=bk x;rw[List.length_cons,ji,nv];have e1:UInt16.ofNat (x.toNat+65536*nv l)=x:=by apply p_;rw[be];omega
  have e2:(x.toNat+65536*nv l)/65536=nv l:=J;rw[e1,e2,<-so l]
structure SfI (A:List UInt16) (s:Nat) (q:Nat × List UInt16):Prop where
 i:q.1<=A.length
 l:q.2.length=A.length+1
 r:(q.2.getD q.1 0).toNat<2^s
 v:nv (q.2.take (q.1+1))=nv (A.take q.1)*2^s
theorem Ed {x s:Nat}(hs:s<=16):(x*2^s%65536)%2^s=0:=by
 rw[show 65536=2^s*2^(16-s) by rw[<-Nat.pow_add,show s+(16-s)=16 by omega]];rw[Nat.mod_mul_right_mod,Nat.mul_mod_left]
theorem y4 {A:List UInt16}{s i:Nat}{R:List UInt16}{x:UInt16}(h:SfI A s (i,R))(hs:s<=16)(hx:A[i]? = some x) :
  ((R.getD i 0).toNat+x.toNat*2^s%65536<65536)/\SfI A s (i+1,(R.set i (UInt16.ofNat ((R.getD i 0).toNat+x.toNat*2^s%65536))).set (i+1) (UInt16.ofNat (x.toNat*2^s/65536))):=by
 obtain⟨h1,h2,h3,h4⟩:=h;simp only at h1 h2 h3 h4;have hk:=(bb hx).1;have hxl:=bk x;have hp:0<2^s:=Nat.pow_pos Y;have hw:x.toNat*2^s/65536<2^s:=by
  rw[Nat.div_lt_iff_lt_mul Y];have:=(Nat.mul_lt_mul_right hp).2 hxl;rw[Nat.mul_comm (2^s)];exact this
 have hp2:2^s<=65536:=Nat.pow_le_pow_right (n:=2) Y hs;have hlo:=Ed (x:=x.toNat) hs;have hd:2^s*2^(16-s)=65536:=by rw[<-Nat.pow_add,show s+(16-s)=16 by omega]
 have hm:=Nat.mod_lt (x.toNat*2^s) (show 65536>0 by decide);have hlt:(R.getD i 0).toNat+x.toNat*2^s%65536<65536:=by
  generalize x.toNat*2^s%65536=m at *
  obtain⟨c,hc⟩:=Nat.dvd_of_mod_eq_zero hlo;have hc2:c<2^(16-s):=by
   rw[hc,<-hd]at hm;exact Nat.lt_of_mul_lt_mul_left hm
  have:=Nat.mul_le_mul_left (2^s) (show c+1<=2^(16-s) by omega);rw[Nat.mul_add]at this;omega
 have hRi:R[i]? = some (R.getD i 0):=cA J;refine⟨hlt,hk,by simp[h2],?_,?_⟩
 .simp only;rw[List.getD_eq_getElem?_getD,List.getElem?_set_self aU];show(UInt16.ofNat _).toNat<_;rw[be,Nat.mod_eq_of_lt J];exact hw
 .simp only;rw[dr (i:=i+1) (List.getElem?_set_self aU),k8 (aP),be,Nat.mod_eq_of_lt (a:=x.toNat*2^s/65536) J];have e1:=yO (t:=i+1) hRi J (UInt16.ofNat ((R.getD i 0).toNat+x.toNat*2^s%65536));rw[be,Nat.mod_eq_of_lt hlt,h4]at e1;rw[dr hx,Nat.add_mul];have e2:=Nat.mod_add_div (x.toNat*2^s) 65536;have e3:65536^i*x.toNat*2^s=65536^i*(x.toNat*2^s%65536)+65536^(i+1)*(x.toNat*2^s/65536):=by
   rw[Nat.pow_succ,Nat.mul_assoc,Nat.mul_assoc,<-Nat.mul_add,e2]
  rw[e3];rw[Nat.mul_add]at e1;omega
set_option maxRecDepth 20000 in
theorem vH (a:List UInt16)(s:Nat)(ha:a.length<=100000000)(hs:s<=16):Ret Tryz.prog .fresh 266 [.sl (a.map eU),I s] (.sl ((ji (a.length+1) (nv a*2^s)).map eU)):=by
 have hal:(a.map eU).length=a.length:=ah;have hw0:IntKind.i64.wrap (((((a.map eU).length:Nat):Int))+1)=((a.length+1:Nat):Int):=by rw[hal,wrap_i64 J J];omega
 have hp2:2^s<=65536:=Nat.pow_le_pow_right (n:=2) Y hs;refine Ret.of_pwp layOk mixed Go.Proofs.Tryz.func266 O Y O O ?_;refine H ?_;rw[hw0];refine aH (iN O O O O O O O O J (by show(2:Int)*_<=_;omega) J ?_);rw[Int.toNat_natCast,li];refine H ?_;refine ap (SfI a s) (fun q=>[(1,I s),(5,.als 12 1 0 (q.2.map eU).length),(13,.sl (a.map eU)),(14,I a.length),(15,I q.1)])
  (fun q=>[(12,1,⟨57,1,q.2.map eU,0⟩)]) (fun q=>a.length-q.1) (0,List.replicate (a.length+1) 0) ⟨Nat.zero_le _,ah,by simp[List.getD_eq_getElem?_getD];exact Nat.pow_pos Y,by simp[nv]⟩ ⟨O,O,O,?_,O,O,trivial⟩ ?_
 .show I ((a.map eU).length)=_;rw[hal]
 rintro⟨i,R⟩ s1 hI;have hi:=hI.i;have hRl:=hI.l;have hrr:=hI.r;simp only at hi hRl hrr;dsimp only;refine D ?_ ?_<;>intro h
 .have hlt:i<a.length:=by have:=aC h;omega
  clear h;obtain⟨x,hx⟩:=aJ hlt;have hxl:=bk x;obtain⟨hst0,hst⟩:=y4 hI hs hx;have hr:(R.map eU)[i]? = some (eU (R.getD i 0)):=by rw[List.getElem?_map,cA J];rfl
  generalize hrd:R.getD i 0=r at *
  obtain⟨r2,hr2⟩:=mH (R:=R.set i (UInt16.ofNat (r.toNat+x.toNat*2^s%65536))) (i:=i+1) aU;have hlo:=Ed (x:=x.toNat) hs;have hwb:x.toNat*2^s<4294967296:=by
   have:=Nat.mul_le_mul (show x.toNat<=65535 by omega) hp2;omega
  have ex:IntKind.u32.wrap (x.toNat:Int)=(x.toNat:Int):=wrap_u32 J J;have esh:IntKind.u32.wrap ((x.toNat:Int)*2^(s:Int).toNat)=((x.toNat*2^s:Nat):Int):=by
   rw[Int.toNat_natCast,show((x.toNat:Int)*2^s)=((x.toNat*2^s:Nat):Int) by push_cast;rfl,wrap_u32 J J]
  have e16:IntKind.u16.wrap ((x.toNat*2^s:Nat):Int)=((x.toNat*2^s%65536:Nat):Int):=by rw[wrap_u16,be]
  have hor:bits .or .u16 (r.toNat:Int) ((x.toNat*2^s%65536:Nat):Int)=((UInt16.ofNat (r.toNat+x.toNat*2^s%65536)).toNat:Int):=by
   rw[bits_join_low .u16 16 Y wraps_u16 s _ _ J (by exact_mod_cast hrr) (by have:=bk r;omega) J (by exact_mod_cast hlo) (by have:=Nat.mod_lt (x.toNat*2^s) (show 65536>0 by decide);omega),be,Nat.mod_eq_of_lt hst0];omega
  have ei:IntKind.i64.wrap ((i:Int)+1)=((i+1:Nat):Int):=by rw[wrap_i64 J J];omega
  generalize x.toNat*2^s=w at *
  refine aS hx ?_;refine H ?_;rw[ex];refine H ?_;refine jb O (show(0:Int)<=(s:Int)/\(s:Int)<=(IntKind.u32.bits:Nat) by constructor;omega;show(s:Int)<=32;omega) ?_;rw[esh];refine H ?_;refine bE O O (bO O O O O O O O J (by rw[List.length_map];omega)) ?_;rw[Int.toNat_natCast,Nat.zero_add i];refine bE O O (cu O O O hr O) ?_;refine H ?_;rw[e16];refine H ?_;rw[hor];refine bE O O (bO O O O O O O O J (by rw[List.length_map];omega)) ?_;rw[Int.toNat_natCast,Nat.zero_add i];refine bL (bN (kd':=0) O O O hr O O aI O O O O ?_);rw[show((R.map eU).set i (mg (eU r) 0 ((PV.int IntKind.u16 ((UInt16.ofNat (r.toNat+w%65536)).toNat:Int)).cells.map (dY 0))))=(R.set i (UInt16.ofNat (r.toNat+w%65536))).map eU from gi _ _ _];refine H ?_;rw[ei];refine H ?_;rw[show IntKind.u16.wrap ((w:Int)/2^(16:Int).toNat)=((UInt16.ofNat (w/65536)).toNat:Int) from wrap_u16 (w/65536)];refine bE O O (bO O O O O O O O J (by rw[List.length_map];omega)) ?_;rw[Int.toNat_natCast,Nat.zero_add (i+1)];refine bL (bN (kd':=0) O O O hr2 O O aI O O O O ?_);refine H ?_;refine⟨(i+1,_),hst,by simp only;omega,O,?_,O,O,cg J J,?_,trivial⟩
  .show PV.als 12 1 0 (R.map eU).length=_;simp
  .exact dQ 1 57 1 0 (i+1) (R.set i (UInt16.ofNat (r.toNat+w%65536))) (UInt16.ofNat (w/65536))
 .have hge:i=a.length:=by have:=aG h;omega
  subst hge;clear h;have hv:=hI.v;simp only at hv;rw[List.take_length,List.take_of_length_le J]at hv;have hR:R=ji (a.length+1) (nv a*2^s):=by rw[<-hv,<-hRl];exact so R
  rw[<-hR];refine H ?_;exact ue O O O ⟨O,O,O⟩ O
set_option maxRecDepth 20000 in
theorem tn (a:List UInt16)(s:Nat)(ha:a.length<=100000000)(hs:s<=16):RetO Tryz.prog 266 [.sl (a.map eU),I s] 57 1 ((ji (a.length+1) (nv a*2^s)).map eU):=by
 have hal:(a.map eU).length=a.length:=ah;have hw0:IntKind.i64.wrap (((((a.map eU).length:Nat):Int))+1)=((a.length+1:Nat):Int):=by rw[hal,wrap_i64 J J];omega
 have hp2:2^s<=65536:=Nat.pow_le_pow_right (n:=2) Y hs;refine RetO.of_pwp layOk mixed Go.Proofs.Tryz.func266 O Y O O ?_;refine H ?_;rw[hw0];refine aH (iN O O O O O O O O J (by show(2:Int)*_<=_;omega) J ?_);rw[Int.toNat_natCast,li];refine H ?_;refine ap (SfI a s) (fun q=>[(1,I s),(5,.als 12 1 0 (q.2.map eU).length),(13,.sl (a.map eU)),(14,I a.length),(15,I q.1)])
  (fun q=>[(12,1,⟨57,1,q.2.map eU,0⟩)]) (fun q=>a.length-q.1) (0,List.replicate (a.length+1) 0) ⟨Nat.zero_le _,ah,by simp[List.getD_eq_getElem?_getD];exact Nat.pow_pos Y,by simp[nv]⟩ ⟨O,O,O,?_,O,O,trivial⟩ ?_
 .show I ((a.map eU).length)=_;rw[hal]
 rintro⟨i,R⟩ s1 hI;have hi:=hI.i;have hRl:=hI.l;have hrr:=hI.r;simp only at hi hRl hrr;dsimp only;refine D ?_ ?_<;>intro h
 .have hlt:i<a.length:=by have:=aC h;omega
  clear h;obtain⟨x,hx⟩:=aJ hlt;have hxl:=bk x;obtain⟨hst0,hst⟩:=y4 hI hs hx;have hr:(R.map eU)[i]? = some (eU (R.getD i 0)):=by rw[List.getElem?_map,cA J];rfl
  generalize hrd:R.getD i 0=r at *
  obtain⟨r2,hr2⟩:=mH (R:=R.set i (UInt16.ofNat (r.toNat+x.toNat*2^s%65536))) (i:=i+1) aU;have hlo:=Ed (x:=x.toNat) hs;have hwb:x.toNat*2^s<4294967296:=by
   have:=Nat.mul_le_mul (show x.toNat<=65535 by omega) hp2;omega
  have ex:IntKind.u32.wrap (x.toNat:Int)=(x.toNat:Int):=wrap_u32 J J;have esh:IntKind.u32.wrap ((x.toNat:Int)*2^(s:Int).toNat)=((x.toNat*2^s:Nat):Int):=by
   rw[Int.toNat_natCast,show((x.toNat:Int)*2^s)=((x.toNat*2^s:Nat):Int) by push_cast;rfl,wrap_u32 J J]
  have e16:IntKind.u16.wrap ((x.toNat*2^s:Nat):Int)=((x.toNat*2^s%65536:Nat):Int):=by rw[wrap_u16,be]
  have hor:bits .or .u16 (r.toNat:Int) ((x.toNat*2^s%65536:Nat):Int)=((UInt16.ofNat (r.toNat+x.toNat*2^s%65536)).toNat:Int):=by
   rw[bits_join_low .u16 16 Y wraps_u16 s _ _ J (by exact_mod_cast hrr) (by have:=bk r;omega) J (by exact_mod_cast hlo) (by have:=Nat.mod_lt (x.toNat*2^s) (show 65536>0 by decide);omega),be,Nat.mod_eq_of_lt hst0];omega
  have ei:IntKind.i64.wrap ((i:Int)+1)=((i+1:Nat):Int):=by rw[wrap_i64 J J];omega
  generalize x.toNat*2^s=w at *
  refine aS hx ?_;refine H ?_;rw[ex];refine H ?_;refine jb O (show(0:Int)<=(s:Int)/\(s:Int)<=(IntKind.u32.bits:Nat) by constructor;omega;show(s:Int)<=32;omega) ?_;rw[esh];refine H ?_;refine bE O O (bO O O O O O O O J (by rw[List.length_map];omega)) ?_;rw[Int.toNat_natCast,Nat.zero_add i];refine bE O O (cu O O O hr O) ?_;refine H ?_;rw[e16];refine H ?_;rw[hor];refine bE O O (bO O O O O O O O J (by rw[List.length_map];omega)) ?_;rw[Int.toNat_natCast,Nat.zero_add i];refine bL (bN (kd':=0) O O O hr O O aI O O O O ?_);rw[show((R.map eU).set i (mg (eU r) 0 ((PV.int IntKind.u16 ((UInt16.ofNat (r.toNat+w%65536)).toNat:Int)).cells.map (dY 0))))=(R.set i (UInt16.ofNat (r.toNat+w%65536))).map eU from gi _ _ _];refine H ?_;rw[ei];refine H ?_;rw[show IntKind.u16.wrap ((w:Int)/2^(16:Int).toNat)=((UInt16.ofNat (w/65536)).toNat:Int) from wrap_u16 (w/65536)];refine bE O O (bO O O O O O O O J (by rw[List.length_map];omega)) ?_;rw[Int.toNat_natCast,Nat.zero_add (i+1)];refine bL (bN (kd':=0) O O O hr2 O O aI O O O O ?_);refine H ?_;refine⟨(i+1,_),hst,by simp only;omega,O,?_,O,O,cg J J,?_,trivial⟩
  .show PV.als 12 1 0 (R.map eU).length=_;simp
  .exact dQ 1 57 1 0 (i+1) (R.set i (UInt16.ofNat (r.toNat+w%65536))) (UInt16.ofNat (w/65536))
 .have hge:i=a.length:=by have:=aG h;omega
  subst hge;clear h;have hv:=hI.v;simp only at hv;rw[List.take_length,List.take_of_length_le J]at hv;have hR:R=ji (a.length+1) (nv a*2^s):=by rw[<-hv,<-hRl];exact so R
  rw[<-hR];refine H ?_;exact KH O O O O (by rw[List.all_eq_true];intro row hr;obtain⟨y,_,rfl⟩:=List.mem_map.1 hr;rfl) O
def KZ:List UInt8:=[0,1,2,2,3,3,3,3,4,4,4,4,4,4,4,4,5,5,5,5,5,5,5,5,5,5,5,5,5,5,5,5,6,6,6,6,6,6,6,6,6,6,6,6,6,6,6,6,6,6,6,6,6,6,6,6,6,6,6,6,6,6,6,6,7,7,7,7,7,7,7,7,7,7,7,7,7,7,7,7,7,7,7,7,7,7,7,7,7,7,7,7,7,7,7,7,7,7,7,7,7,7,7,7,7,7,7,7,7,7,7,7,7,7,7,7,7,7,7,7,7,7,7,7,7,7,7,7,8,8,8,8,8,8,8,8,8,8,8,8,8,8,8,8,8,8,8,8,8,8,8,8,8,8,8,8,8,8,8,8,8,8,8,8,8,8,8,8,8,8,8,8,8,8,8,8,8,8,8,8,8,8,8,8,8,8,8,8,8,8,8,8,8,8,8,8,8,8,8,8,8,8,8,8,8,8,8,8,8,8,8,8,8,8,8,8,8,8,8,8,8,8,8,8,8,8,8,8,8,8,8,8,8,8,8,8,8,8,8,8,8,8,8,8,8,8,8,8,8,8,8,8,8,8,8,8]
def tb (x:Nat):Nat:=(KZ.getD x 0).toNat
theorem EK:∀x:Fin 256,x.val≠0->1<=tb x.val/\tb x.val<=8/\2^tb x.val<=2*x.val/\x.val<2^tb x.val:=by decide +kernel
def kt (x:Nat):Nat:=if 256<=x then 8+tb (x/256) else tb x
theorem uG {x:Nat}(h0:x≠0)(h:x<65536):1<=kt x/\kt x<=16/\2^kt x<=2*x/\x<2^kt x:=by
 rw[kt];split
 .have:=EK ⟨x/256,J⟩ (by show x/256≠0;omega);simp only at this;obtain⟨h1,h2,h3,h4⟩:=this;rw[Nat.pow_add,show 2^8=256 by decide];generalize 2^tb (x/256)=p at *
  generalize tb (x/256)=t at *
  omega
 .have:=EK ⟨x,J⟩ h0;simp only at this;obtain⟨h1,h2,h3,h4⟩:=this;exact⟨h1,J,h3,h4⟩
theorem HP {x:Nat}(h:x<256):tb x<=8:=by
 by_cases h0:x=0
 .subst h0;decide
 .exact(EK ⟨x,h⟩ h0).2.1
set_option maxRecDepth 20000 in
theorem Ay (x:UInt16):Ret Tryz.prog .shared 285 [.int .u16 x.toNat] (I (kt x.toNat)):=by
 have hxl:=bk x;rw[kt];by_cases hx:256<=x.toNat
 .rw[if_pos hx];have ew:IntKind.u8.wrap ((x.toNat:Int)/2^(8:Int).toNat)=((x.toNat/256:Nat):Int):=by
   rw[show((2:Int)^(8:Int).toNat)=256 by decide,IntKind.wrap_u8];omega
  have hb:=HP (x:=x.toNat/256) J;refine Ret.of_pwp layOk mixed Go.Proofs.Tryz.func285 O Y O O ?_;refine D ?_ ?_<;>intro h
  .refine H ?_;rw[ew];refine jb (pv := .int .u8 ((tb (x.toNat/256):Nat):Int)) O (show(0:Int)<=((x.toNat/256:Nat):Int)/\((x.toNat/256:Nat):Int)<((256:Nat):Int) by omega) ?_;generalize tb (x.toNat/256)=t at *
   refine H ?_;rw[wrap_i64 (n:=(t:Int)) J J,wrap_i64 J J,show(8:Int)+(t:Int)=((8+t:Nat):Int) by omega];exact cp
  .have:=aG h;omega
 .rw[if_neg hx];have ew:IntKind.u8.wrap (x.toNat:Int)=(x.toNat:Int):=by rw[IntKind.wrap_u8];omega
  have hb:=HP (x:=x.toNat) J;refine Ret.of_pwp layOk mixed Go.Proofs.Tryz.func285 O Y O O ?_;refine D ?_ ?_<;>intro h
  .have:=aC h;omega
  .refine H ?_;rw[ew];refine jb (pv := .int .u8 ((tb x.toNat:Nat):Int)) O (show(0:Int)<=(x.toNat:Int)/\(x.toNat:Int)<((256:Nat):Int) by omega) ?_;generalize tb x.toNat=t at *
   refine H ?_;rw[wrap_i64 (n:=(t:Int)) J J,wrap_i64 J J,show(0:Int)+(t:Int)=(t:Int) by omega];exact cp
theorem C9 (x:UInt16)(h0:x.toNat≠0):Ret Tryz.prog .shared 265 [.int .u16 x.toNat] (I ((16-kt x.toNat:Nat):Int)):=by
 have hl:=uG h0 (bk x);have hr:=Ay x;generalize kt x.toNat=t at *
 refine Ret.of_pwp layOk mixed Go.Proofs.Tryz.func265 O Y O O ?_;refine ar hr ?_;refine H ?_;rw[wrap_i64 J J,show(16:Int)-(t:Int)=((16-t:Nat):Int) by omega];exact nu O O O
def uw (R:List UInt16)(j m:Nat):Nat:=nv ((R.drop j).take m)
def ul (R:List UInt16)(i:Nat):Nat:=(R.getD i 0).toNat
theorem dF (R:List UInt16)(i:Nat):ul R i<65536:=bk _
theorem mt {R:List UInt16}{i:Nat}(h:i<R.length):R[i]? = some (R.getD i 0):=cA h
theorem zt (R:List UInt16)(j:Nat):uw R j 0=0:=by rw[uw,List.take_zero];rfl
theorem dK {R:List UInt16}{j m:Nat}(h:j+m<R.length):uw R j (m+1)=uw R j m+65536^m*ul R (j+m):=by
 have h1:(R.drop j)[m]? = some (R.getD (j+m) 0):=by rw[List.getElem?_drop];exact cA h
 rw[uw,dr h1];rfl
theorem rT (R:List UInt16)(j m:Nat):uw R j m<65536^m:=fj _ _
theorem jK {R:List UInt16}{i:Nat}{y:UInt16}(h:i<R.length):ul (R.set i y) i=y.toNat:=by
 rw[ul,List.getD_eq_getElem?_getD,List.getElem?_set_self h];rfl
theorem nl {R:List UInt16}{i k:Nat}{y:UInt16}(h:i≠k):ul (R.set i y) k=ul R k:=by
 rw[ul,ul,List.getD_eq_getElem?_getD,List.getD_eq_getElem?_getD,List.getElem?_set_ne h]
theorem np {R:List UInt16}{j m i:Nat}{y:UInt16}(h:j+m<=i):uw (R.set i y) j m=uw R j m:=by
 rw[uw,uw];congr 1;apply List.ext_getElem?;intro k;rw[List.getElem?_take,List.getElem?_take];split
 .rw[List.getElem?_drop,List.getElem?_drop,List.getElem?_set_ne J]
 .rfl
theorem Kr {R:List UInt16}{j n:Nat}(h:j+(n+2)<=R.length):uw R j (n+2)=uw R j n+65536^n*(ul R (j+n)+65536*ul R (j+(n+1))):=by
 rw[show n+2=n+1+1 by omega,dK J,dK J,Nat.pow_succ,Nat.mul_add,Nat.mul_assoc];omega
theorem K2 {R:List UInt16}{j n:Nat}(h:j+(n+3)<=R.length):uw R j (n+3)=uw R j n+65536^n*(ul R (j+n)+65536*(ul R (j+(n+1))+65536*ul R (j+(n+2)))):=by
 rw[show n+3=n+2+1 by omega,dK J,Kr J,Nat.pow_succ,Nat.pow_succ];have:65536^n*(ul R (j+n)+65536*(ul R (j+(n+1))+65536*ul R (j+(n+2))))=65536^n*(ul R (j+n)+65536*ul R (j+(n+1)))+65536^n*65536*65536*ul R (j+(n+2)):=by
  rw[Nat.mul_assoc,Nat.mul_assoc,<-Nat.mul_add];congr 1;omega
 rw[this];omega
structure Est (U V top u2 v1 v2 W:Nat):Prop where
 u0:(top*65536+u2)*W<=U
 u1:U<(top*65536+u2+1)*W
 v0:(v1*65536+v2)*W<=V
 v3:V<(v1*65536+v2+1)*W
 hv:32768<=v1
 v1l:v1<65536
 v2l:v2<65536
 u2l:u2<65536
 top:top<4294967296
 lt:U<65536*V
theorem In {R V:List UInt16}{j n:Nat}(hR:j+(n+3)<=R.length)(hV:V.length=n+2)(ht:32768<=ul V (n+1))(hlt:uw R j (n+3)<65536*nv V) :
  Est (uw R j (n+3)) (nv V) (ul R (j+(n+2))*65536+ul R (j+(n+1))) (ul R (j+n)) (ul V (n+1)) (ul V n) (65536^n):=by
 have e1:=K2 hR;have e2:nv V=uw V 0 (n+2):=by rw[uw,List.drop_zero,List.take_of_length_le J]
 rw[e2]at hlt ⊢;have e3:=Kr (R:=V) (j:=0) (n:=n) J;simp only[Nat.zero_add]at e3;have l1:=rT R j n;have l2:=rT V 0 n;have a1:=dF R (j+n);have a2:=dF R (j+(n+1));have a3:=dF R (j+(n+2));have b1:=dF V n;have b2:=dF V (n+1);generalize 65536^n=W at *
 generalize ul R (j+n)=x0 at *
 generalize ul R (j+(n+1))=x1 at *
 generalize ul R (j+(n+2))=x2 at *
 generalize ul V n=y0 at *
 generalize ul V (n+1)=y1 at *
 have c1:W*(x0+65536*(x1+65536*x2))=((x2*65536+x1)*65536+x0)*W:=by rw[Nat.mul_comm W];congr 1;omega
 have c2:W*(y0+65536*y1)=(y1*65536+y0)*W:=by rw[Nat.mul_comm W];congr 1;omega
 rw[c1]at e1;rw[c2]at e3;refine⟨J,?_,J,?_,ht,b2,b1,a1,J,hlt⟩
 .rw[Nat.add_mul (_*65536+x0),Nat.one_mul];omega
 .rw[Nat.add_mul (_*65536+y0),Nat.one_mul];omega
structure Gs (U V top v1:Nat) (k:Nat × Nat):Prop where
 e:k.1*v1+k.2=top
 q:U/V<=k.1
 r:k.2<131072
 l:k.1<=top
section
variable {U V top u2 v1 v2 W:Nat}
theorem Est.V0 (h:Est U V top u2 v1 v2 W):0<V:=by
 have:=h.lt;rcases Nat.eq_zero_or_pos V with h0|h0
 .subst h0;omega
 .exact h0
theorem Est.W0 (h:Est U V top u2 v1 v2 W):0<W:=by
 rcases Nat.eq_zero_or_pos W with h0|h0
 .subst h0;have:=h.v3;rw[Nat.mul_zero]at this;omega
 .exact h0
theorem Est.start (h:Est U V top u2 v1 v2 W):Gs U V top v1 (top/v1,top%v1):=by
 have hv:=h.hv;have hvl:=h.v1l;have h1:=h.u1;have h2:=h.v0;have e1:v1*(65536*W)<=V:=by
  have:v1*(65536*W)=v1*65536*W:=by rw[Nat.mul_assoc]
  rw[this];refine Nat.le_trans (Nat.mul_le_mul_right W ?_) h2;omega
 have e2:U<(top+1)*(65536*W):=by
  have h3:=h.u2l;have:(top+1)*(65536*W)=(top+1)*65536*W:=by rw[Nat.mul_assoc]
  rw[this];refine Nat.lt_of_lt_of_le h1 (Nat.mul_le_mul_right W ?_);omega
 refine⟨by simp only;rw[Nat.mul_comm];exact Nat.div_add_mod _ _,z6 e1 e2 J,?_,Nat.div_le_self _ _⟩;have:=Nat.mod_lt top (show v1>0 by omega);simp only;omega
theorem Est.quo (h:Est U V top u2 v1 v2 W):U/V<65536:=by
 have:=h.lt;exact Nat.div_lt_of_lt_mul (by rw[Nat.mul_comm];exact this)
theorem Gs.less (h:Est U V top u2 v1 v2 W){q r:Nat}(g:Gs U V top v1 (q,r))(hr:r<65536)(hc:65535<q\/r*65536+u2<q*v2):1<=q/\Gs U V top v1 (q-1,r+v1):=by
 obtain⟨g1,g2,g3,g4⟩:=g;simp only at g1 g2 g3 g4;have hq:1<=q:=by
  rcases Nat.eq_zero_or_pos q with h0|h0
  .subst h0;rcases hc with hc|hc
   .omega
   .rw[Nat.zero_mul]at hc;omega
  .exact h0
 have hv:=h.v1l;refine⟨hq,?_,?_,by simp only;omega,by simp only;omega⟩
 .simp only;obtain⟨p,rfl⟩:∃p,q=p+1:=⟨q-1,J⟩;rw[Nat.add_mul]at g1;rw[Nat.add_sub_cancel];omega
 .simp only;rcases hc with hc|hc
  .have:=h.quo;omega
  .exact Cn g1 h.v0 h.u1 hc
theorem Gs.near (h:Est U V top u2 v1 v2 W){q r:Nat}(g:Gs U V top v1 (q,r))(hc:65536<=r\/(q<=65535/\q*v2<=r*65536+u2)):q<=65535/\U/V<=q/\q*V<U+V:=by
 obtain⟨g1,g2,g3,g4⟩:=g;simp only at g1 g2 g3 g4;have hq:q<=65535:=by
  rcases hc with hc|hc
  .rcases Nat.lt_or_ge 65535 q with h1|h1
   .exfalso;have e1:=Nat.mul_le_mul_right v1 (show 65536<=q by omega);have e2:65536*(v1+1)<=top:=J;have e3:=h.u0;have e4:=h.v3;have e5:=h.lt;have e6:=h.v2l;have e7:V<(v1+1)*65536*W:=Nat.lt_of_lt_of_le e4 (Nat.mul_le_mul_right W J);have e8:top*65536*W<=U:=Nat.le_trans (Nat.mul_le_mul_right W J) e3;have e9:65536*(v1+1)*65536*W<=top*65536*W:=Nat.mul_le_mul_right W (Nat.mul_le_mul_right 65536 e2);have e10:65536*((v1+1)*65536*W)=65536*(v1+1)*65536*W:=by simp only[Nat.mul_assoc]
    omega
   .exact h1
  .exact hc.1
 refine⟨hq,g2,Co g1 h.v0 h.v3 h.u0 h.hv h.v2l hq (hc.imp id And.right)⟩
end
structure Sub (R V:List UInt16) (j n q:Nat) (k:Nat × List UInt16 × Nat × Int):Prop where
 i:k.1<=n+1
 l:k.2.1.length=R.length
 c:k.2.2.1<65536
 b:k.2.2.2=0\/k.2.2.2 = -1
 o:∀t,t<j\/j+k.1<=t->ul k.2.1 t=ul R t
 v:(uw k.2.1 j k.1:Int)=uw R j k.1-q*uw V 0 (min k.1 n)+65536^k.1*((k.2.2.1:Int)-k.2.2.2)
 z:k.1=n+1->k.2.2.1=0
theorem iL (n:Nat):((65536^n:Nat):Int)=(65536:Int)^n:=by rw[Int.natCast_pow];rfl
def JK (d:Int):UInt16:=UInt16.ofNat (d%65536).toNat
theorem yP (d:Int):((JK d).toNat:Int)=d%65536:=by rw[JK,be];omega
theorem Bt {R V:List UInt16}{j n q:Nat}:Sub R V j n q (0,R,0,0):=⟨Nat.zero_le _,O,Nat.zero_lt_succ _,.inl O,fun _ _=>rfl,by simp[zt],fun h=>by simp at h⟩
theorem EB {R V:List UInt16}{j n q i:Nat}{Q:List UInt16}{c:Nat}{b:Int}(h:Sub R V j n q (i,Q,c,b))(hi:i<=n)(hq:q<=65535)(hR:j+(n+1)<=R.length)(hV:n<=V.length){x:Nat}(hx:x=c+(if i<n then q*ul V i else 0)){d:Int}(hd:d=(ul R (j+i):Int)-(x%65536:Nat)+b) :
  Sub R V j n q (i+1,Q.set (j+i) (JK d),x/65536,d/65536)/\x<4294967296 /\ -65536<=d/\d<=65535:=by
 obtain⟨h1,h2,h3,h4,h5,h6,h7⟩:=h;simp only at h1 h2 h3 h4 h5 h6 h7;have hr:=dF R (j+i);have hxb:x<4294901761:=by
  rw[hx];split
  .have:=Nat.mul_le_mul hq (show ul V i<=65535 by have:=dF V i;omega);omega
  .omega
 have hm:=Nat.mod_lt x (show 65536>0 by decide);refine⟨⟨by simp only;omega,by simp[h2],by simp only;omega,?_,fun t ht=>?_,?_,fun hz=>?_⟩,J,J,J⟩
 .simp only;rcases h4 with h4|h4<;>omega
 .simp only at ht ⊢;rw[nl J];exact h5 t J
 .simp only;rw[dK aU,np J,jK J,dK (R:=R) J,Int.natCast_add,Int.natCast_mul,yP,h6,iL,Int.natCast_add,Int.natCast_mul,iL,Int.pow_succ];have e1:=Int.emod_add_mul_ediv d 65536;have e2:((x%65536:Nat):Int)+65536*((x/65536:Nat):Int)=x:=J;rw[hd]at e1;have e3:(uw V 0 (min (i+1) n):Int)*q=uw V 0 (min i n)*q+65536^i*((x:Int)-c):=by
   rw[hx];split
   .rename_i hlt;rw[Nat.min_eq_left J,Nat.min_eq_left J,dK J,Nat.zero_add,Int.natCast_add,Int.natCast_mul,iL,Int.natCast_add,Int.natCast_mul];grind
   .rw[Nat.min_eq_right J,Nat.min_eq_right J];grind
  rw[<-hd]at e1;generalize (65536:Int)^i=W at *
  generalize ((x%65536:Nat):Int)=xm at *
  generalize ((x/65536:Nat):Int)=xd at *
  generalize d%65536=dm at *
  generalize d/65536=dd at *
  grind
 .simp only at hz ⊢;rw[hx,if_neg J];omega
structure Adb (R V:List UInt16) (j n:Nat) (k:Nat × List UInt16 × Nat):Prop where
 i:k.1<=n
 l:k.2.1.length=R.length
 c:k.2.2<=1
 o:∀t,t<j\/j+k.1<=t->ul k.2.1 t=ul R t
 v:uw k.2.1 j k.1+65536^k.1*k.2.2=uw R j k.1+uw V 0 k.1
theorem zK {R V:List UInt16}{j n:Nat}:Adb R V j n (0,R,0):=⟨Nat.zero_le _,O,Nat.zero_le _,fun _ _=>rfl,by simp[zt]⟩
theorem BX {R V:List UInt16}{j n i:Nat}{Q:List UInt16}{c:Nat}(h:Adb R V j n (i,Q,c))(hi:i<n)(hR:j+(n+1)<=R.length)(hV:n<=V.length){x:Nat}(hx:x=c+(ul R (j+i)+ul V i)) :
  Adb R V j n (i+1,Q.set (j+i) (UInt16.ofNat x),x/65536):=by
 obtain⟨h1,h2,h3,h4,h5⟩:=h;simp only at h1 h2 h3 h4 h5;have a1:=dF R (j+i);have a2:=dF V i;refine⟨by simp only;omega,by simp[h2],by simp only;omega,fun t ht=>?_,?_⟩
 .simp only at ht ⊢;rw[nl J];exact h4 t J
 .simp only;rw[dK aU,np J,jK J,dK (R:=R) J,dK (R:=V) J,be,Nat.pow_succ,Nat.zero_add];have e:=Nat.mod_add_div x 65536;have e2:65536^i*(x%65536)+65536^i*65536*(x/65536)=65536^i*(c+(ul R (j+i)+ul V i)):=by rw[Nat.mul_assoc,<-Nat.mul_add,e,hx]
  simp only[Nat.mul_add]at e2;omega
structure Digd (R V:List UInt16) (j n:Nat) (R':List UInt16):Prop where
 l:R'.length=R.length
 o:∀t,t<j\/j+(n+1)<=t->ul R' t=ul R t
 v:uw R' j (n+1)=uw R j (n+1)%nv V
theorem qd {V:List UInt16}{n m:Nat}(h:V.length=n)(hm:n<=m):uw V 0 m=nv V:=by rw[uw,List.drop_zero,List.take_of_length_le J]
theorem Fs {R V:List UInt16}{j n q c:Nat}{Q:List UInt16}(hVl:V.length=n)(hV0:0<nv V)(h:Sub R V j n q (n+1,Q,c,0))(hq1:uw R j (n+1)/nv V<=q):q=uw R j (n+1)/nv V/\Digd R V j n Q:=by
 have hc:=h.z O;simp only at hc;subst hc;have h6:=h.v;simp only at h6;rw[qd hVl J]at h6;have h8:uw Q j (n+1)+q*nv V=uw R j (n+1):=by
  have:((uw Q j (n+1):Nat):Int)+((q*nv V:Nat):Int)=(uw R j (n+1):Nat):=by rw[h6,Int.natCast_mul];simp
  omega
 have h9:q<=uw R j (n+1)/nv V:=(Nat.le_div_iff_mul_le hV0).2 J;have hqe:q=uw R j (n+1)/nv V:=J;refine⟨hqe,h.l,h.o,?_⟩;have e:=Nat.div_add_mod (uw R j (n+1)) (nv V);rw[<-hqe,Nat.mul_comm]at e;omega
theorem Cp {R V:List UInt16}{j n q c c2:Nat}{Q Q2:List UInt16}(hVl:V.length=n)(hV0:0<nv V)(hR:j+(n+1)<=R.length)(h:Sub R V j n q (n+1,Q,c,-1))(hq1:uw R j (n+1)/nv V<=q)(hq2:q*nv V<uw R j (n+1)+nv V)(h2:Adb Q V j n (n,Q2,c2)) :
  1<=q/\q-1=uw R j (n+1)/nv V/\Digd R V j n (Q2.set (j+n) (UInt16.ofNat (ul Q2 (j+n)+c2))):=by
 have hc:=h.z O;simp only at hc;subst hc;have h6:=h.v;simp only at h6;rw[qd hVl J,<-iL]at h6;have hQl:=rT Q j (n+1);have h8:uw Q j (n+1)+q*nv V=uw R j (n+1)+65536^(n+1):=by
  have:((uw Q j (n+1):Nat):Int)+((q*nv V:Nat):Int)=(uw R j (n+1):Nat)+((65536^(n+1):Nat):Int):=by rw[h6,Int.natCast_mul];grind
  omega
 have hq:1<=q:=by
  rcases Nat.eq_zero_or_pos q with h0|h0
  .subst h0;rw[Nat.zero_mul]at h8;omega
  .exact h0
 obtain⟨p,rfl⟩:∃p,q=p+1:=⟨q-1,J⟩;rw[Nat.add_mul,Nat.one_mul]at h8 hq2;have hpd:p=uw R j (n+1)/nv V:=by
  have a1:p<=uw R j (n+1)/nv V:=(Nat.le_div_iff_mul_le hV0).2 J;have a2:uw R j (n+1)/nv V<p+1:=(Nat.div_lt_iff_lt_mul hV0).2 (by rw[Nat.add_mul,Nat.one_mul];omega);omega
 refine⟨hq,J,by simp[h2.l,h.l],fun t ht=>?_,?_⟩
 .rw[nl J,h2.o t (by simp only;omega),h.o t (by simp only;omega)]
 .have h2l:=h2.l;have hl:=h.l;have h5:=h2.v;have hc2:=h2.c;have ho:=h2.o (j+n) (.inr (aP));simp only at h2l hl h5 hc2 ho;rw[dK aU,np J,jK J,be,ho];rw[qd hVl (aP)]at h5;have e1:=dK (R:=Q) (j:=j) (m:=n) J;have hmod:uw R j (n+1)%nv V=uw R j (n+1)-p*nv V:=by
   have e:=Nat.div_add_mod (uw R j (n+1)) (nv V);rw[<-hpd,Nat.mul_comm]at e;omega
  rw[hmod];have hle:p*nv V<=uw R j (n+1):=by rw[hpd];exact Nat.div_mul_le_self _ _
  have hml:=Nat.mod_lt (uw R j (n+1)) hV0;rw[hmod]at hml;have hVlt:nv V<65536^n:=by rw[<-hVl];exact co V
  have hQ2:=rT Q2 j n;have hur:=dF Q (j+n);rw[Nat.pow_succ]at h8;generalize 65536^n=W at *
  generalize ul Q (j+n)=x at *
  have key:uw Q2 j n+W*(x+c2)=uw R j (n+1)-p*nv V+W*65536:=by rw[Nat.mul_add];omega
  have hx:65536<=x+c2:=by
   rcases Nat.lt_or_ge (x+c2) 65536 with hlt|hge
   .exfalso;have:=Nat.mul_le_mul_left W (show x+c2+1<=65536 by omega);rw[Nat.mul_add]at this;omega
   .exact hge
  have hx2:x+c2=65536:=J;rw[hx2]at key ⊢;rw[show 65536%65536=0 from O,Nat.mul_zero];omega
theorem C5 {L:Lay}{fn:Func}{K:(Nat->Nat × Option Cont)->PV->Prop}{s:St}{t:Nat}{v:PV}{e:Exit}(owns:List (Nat × Nat × Cont))(he:e = .ret\/e = .normal)(h:fn.results.toList=[.tmp t])(h1:s.reg t=v)(ho:FitO s owns)
  (hk:∀s1:St,K (s1.over [] owns).own v):aj L fn (fun s' r=>K s'.own r) e s:=by
 have hk:=hk s;rw[Fit.over (l:=[]) ho]at hk;rcases he with rfl|rfl <;>
 .unfold aj;refine⟨[s.reg t],True/\True,by rw[h];rfl,⟨trivial,trivial⟩,?_⟩;rw[h1];exact hk
theorem Hi (x:Nat)(hx:x<18446744073709551616):bits .and .u64 (x:Int) 65535=((x-x/65536*65536:Nat):Int):=by
 have:=(bits_nat .u64 64 Y wraps_u64 x 65535 J Y).1;rw[show((65535:Nat):Int)=65535 by rfl]at this;rw[this,show(65535:Nat)=2^16-1 by decide,Nat.and_two_pow_sub_one_eq_mod];omega
theorem nr {n:Nat}(h:n<18446744073709551616):IntKind.u64.wrap (n:Int)=(n:Int):=wrap_u64 (Int.natCast_nonneg n) J
theorem lM {R:List UInt16}{i:Nat}(h:i<R.length):(R.map eU)[i]? = some [PV.int .u16 ((ul R i:Nat):Int)]:=by
 rw[List.getElem?_map,mt h];rfl
theorem oQ {R:List UInt16}{i:Nat}(h:i<R.length):(R.map eU)[((i:Nat):Int).toNat]? = some [PV.int .u16 ((ul R i:Nat):Int)]:=by
 rw[Int.toNat_natCast];exact lM h
theorem j6 (R:List UInt16)(i:Nat):IntKind.u64.wrap ((ul R i:Nat):Int)=((ul R i:Nat):Int):=wrap_u64 J (by have:=dF R i;omega)
theorem ov (R:List UInt16)(i:Nat):IntKind.u32.wrap ((ul R i:Nat):Int)=((ul R i:Nat):Int):=wrap_u32 J (by have:=dF R i;omega)
theorem GT (R:List UInt16)(i:Nat):IntKind.i64.wrap ((ul R i:Nat):Int)=((ul R i:Nat):Int):=wrap_i64 J (by have:=dF R i;omega)
def Hp (g gq:Nat)(Q Qr:List UInt16):List (Nat × Nat × Cont):=[(44,g,⟨57,1,Q.map eU,0⟩),(57,gq,⟨57,1,Qr.map eU,0⟩)]
set_option maxRecDepth 40000 in
set_option maxHeartbeats 4000000 in
theorem Cq {K:St->Prop}{s:St}{d g gq:Nat}{x y:Operand}{tys:Array TypeId}{ty:TypeId}{pos:String}{af:Array Edge}{R V Qr:List UInt16}{j n:Nat}
  (hV:V.length=n+2) (hR:j+(n+3)<=R.length) (hRl:R.length<=200000000) (ht:32768<=ul V (n+1)) (hlt:uw R j (n+3)<65536*nv V)
  (hx:s.ev x = .als 44 g j (n+3)) (hy:s.ev y = .fsl (V.map eU)) (ho:FitO s [(44,g,⟨57,1,R.map eU,0⟩),(57,gq,⟨57,1,Qr.map eU,0⟩)])
  (hK:∀(s1:St) (R':List UInt16),Digd R V j (n+2) R'->K (({ reg:=s.reg,own:=(s1.over [] [(44,g,⟨57,1,R'.map eU,0⟩),(57,gq,⟨57,1,Qr.map eU,0⟩)]).own }:St).putR d (.int .u16 ((uw R j (n+3)/nv V:Nat):Int)))) :
  Sm Tryz.prog lay.get s ⟨some d,.call ⟨.value (.func 267),#[x,y],tys⟩,ty,pos,af,none⟩ K:=by
 have hE:=In hR hV ht hlt;have hVml:(V.map eU).length=n+2:=by rw[List.length_map,hV]
 have r0:=lM (R:=R) (i:=j+n) J;have r1:=lM (R:=R) (i:=j+(n+1)) J;have r2:=lM (R:=R) (i:=j+(n+2)) J;have v0:=oQ (R:=V) (i:=n) J;have v1:=oQ (R:=V) (i:=n+1) J;have w2:=j6 R (j+(n+2));have w1:=j6 R (j+(n+1));have w0:=j6 R (j+n);have y1:=j6 V (n+1);have y0:=j6 V n
 have hfin:∀(s1:St) (R':List UInt16) (q:Nat),q=uw R j (n+3)/nv V->Digd R V j (n+2) R'->∀(e:Exit) (st:St),(e = .ret\/e = .normal)->st.reg 4 = .int .u16 (q:Int)->FitO st [(44,g,⟨57,1,R'.map eU,0⟩),(57,gq,⟨57,1,Qr.map eU,0⟩)] ->
   aj lay.get Tryz.f267 (fun s' r=>K (({ reg:=s.reg,own:=s'.own }:St).put (some d) r)) e st:=by
  intro _ R' q hq hd e st he h1 h3;subst hq;exact C5 (K:=fun o r=>K (({ reg:=s.reg,own:=o }:St).put (some d) r)) _ he O h1 h3 fun s2=>hK s2 R' hd
 clear hK;refine bT layOk O O Tryz.func267 O Y O O ?_;show PWP _ _ _ _ (bh s (([x,y]:List Operand).map s.ev++[]));rw[show(([x,y]:List Operand).map s.ev++([]:List PV))=[.als 44 g j (n+3),.fsl (V.map eU)] by simp[hx,hy]];rw[show bh s [.als 44 g j (n+3),.fsl (V.map eU)]=bh (s.over [] [(44,g,⟨57,1,R.map eU,0⟩),(57,gq,⟨57,1,Qr.map eU,0⟩)]) [.als 44 g j (n+3),.fsl (V.map eU)] by rw[Fit.over (l:=[]) ho]];generalize hfinK:aj lay.get Tryz.f267 (fun s' r=>K (({ reg:=s.reg,own:=s'.own }:St).put (some d) r))=FIN at *
 have c1:IntKind.i64.wrap (((n+2:Nat):Int)-1)=((n+1:Nat):Int):=by rw[wrap_i64 J J];omega
 have c2:IntKind.i64.wrap (((n+2:Nat):Int)-2)=((n:Nat):Int):=by rw[wrap_i64 J J];omega
 have a1:=dF R (j+(n+1));have a2:=dF R (j+(n+2));have hor1:=Iz (x:=ul R (j+(n+2))) (y:=ul R (j+(n+1))) J a1;have hst:=hE.start;have hv1l:=hE.v1l;have hv1h:=hE.hv;have hv2l:=hE.v2l;have hu2l:=hE.u2l;have htop:=hE.top;generalize hTop:ul R (j+(n+2))*65536+ul R (j+(n+1))=top at *
 generalize hV1:ul V (n+1)=vt at *
 refine H ?_;rw[hVml];refine jX 14 [18,19,20,21,22,23,24,25,26,27,28,29,30,6] aT ?_;refine H ?_;refine jY O O O O O O O O O ?_;rw[Int.toNat_natCast];refine bE O O (cu O O O r2 O) ?_;refine H ?_;rw[w2];refine H ?_;rw[Eg J];refine H ?_;rw[c1];refine jY O O O O O O O O O ?_;rw[Int.toNat_natCast];refine bE O O (cu O O O r1 O) ?_;refine H ?_;rw[w1];refine H ?_;rw[hor1];refine cn 18 [31,32,33,34,35,36,37,38,39,40,41,42,43,44,45,46,7,8] ?_;refine H ?_;rw[c1];refine bE O O (jy O O O O O J v1 O) ?_;refine H ?_;rw[y1];refine bE O O (QOp.v O (show ¬((vt:Nat):Int)=0 by omega)) ?_;rw[vX];have hdq:=Nat.div_le_self top vt;rw[nr (Nat.lt_of_le_of_lt hdq J)];refine H ?_;rw[c1];refine bE O O (jy O O O O O J v1 O) ?_;refine H ?_;rw[y1];refine bE O O (QOp.v O (show ¬((vt:Nat):Int)=0 by omega)) ?_;rw[pX];refine H ?_;have e84:IntKind.i64.wrap (((n+2:Nat):Int)+1)=((n+3:Nat):Int):=by rw[wrap_i64 J J];omega
 refine pA (fun q:Nat=>q<=65535/\uw R j (n+3)/nv V<=q/\q*nv V<uw R j (n+3)+nv V) (fun q=>[(0,.als 44 g j (n+3)),(1,.fsl (V.map eU)),(5,I ((n+2:Nat):Int)),(7,.int .u64 (q:Nat))]) (fun _=>Hp g gq R Qr) ?_ ?_
 .refine ap (Gs (uw R j (n+3)) (nv V) top vt) (fun q=>[(0,.als 44 g j (n+3)),(1,.fsl (V.map eU)),(5,I ((n+2:Nat):Int)),(7,.int .u64 (q.1:Nat)),(8,.int .u64 (q.2:Nat))])
   (fun _=>Hp g gq R Qr) (fun q=>q.1) _ hst ⟨O,O,O,O,O,O,O,trivial⟩ ?_
  rintro⟨q,rest⟩ s1 hG;have hrb:=hG.r;have hqt:=hG.l;simp only at hrb hqt;dsimp only;have hqb:q<=4294967295:=J;refine cn 26 [47,48,49,50,51,52,53,54,55,56,57,58,59,60,61,62,63,64,65,66,67,68,69,70,71,72] ?_;iterate 2 refine fB O ?_
  generalize hB:decide ((rest:Int)<65536)=B;refine dE ?_ ?_<;>intro h
  .rw[h]at hB;have hr1:rest<65536:=by have:=aC hB;omega
   clear h hB;have hsh:=Eg (x:=rest) J;have hor2:=Iz (x:=rest) (y:=ul R (j+n)) J hu2l;iterate 2 refine fB O ?_
   generalize hB:decide ((65535:Int)<(q:Int))=B2;refine dE ?_ ?_<;>intro h
   .rw[h]at hB;have hq1:65535<q:=by have:=aC hB;omega
    clear h hB;obtain⟨hq0,hst2⟩:=hG.less hE hr1 (.inl hq1);refine H ?_;rw[c1];refine bE O O (jy O O O O O J v1 O) ?_;refine H ?_;rw[y1];refine H ?_;refine⟨(q-1,rest+vt),hst2,by simp only;omega,O,O,O,?_,?_,O,O,trivial⟩
    .show PV.int .u64 (IntKind.u64.wrap ((q:Int)-1))=PV.int .u64 ((q-1:Nat):Int);rw[wrap_u64 J J];congr 1;omega
    .show PV.int .u64 (IntKind.u64.wrap ((rest:Int)+(vt:Int)))=PV.int .u64 ((rest+vt:Nat):Int);rw[wrap_u64 J J];congr 1
   .rw[h]at hB;have hq1:q<=65535:=by have:=aG hB;omega
    clear h hB;have hmb:=Nat.mul_le_mul hq1 (show ul V n<=65535 by omega);have hmi:(q:Int)*((ul V n:Nat):Int)=((q*ul V n:Nat):Int):=by rw[Int.natCast_mul]
    have hmw:IntKind.u64.wrap ((q*ul V n:Nat):Int)=((q*ul V n:Nat):Int):=nr J;refine H ?_;rw[c2];refine bE O O (jy O O O O O J v0 O) ?_;refine H ?_;rw[y0,hmi,hmw];refine H ?_;rw[hsh];refine H ?_;rw[c2];refine jY O O O O O O O O O ?_;rw[Int.toNat_natCast];refine bE O O (cu O O O r0 O) ?_;refine H ?_;rw[w0];refine H ?_;rw[hor2];generalize hB:decide (((rest*65536+ul R (j+n):Nat):Int)<((q*ul V n:Nat):Int))=B3;refine D ?_ ?_<;>intro h
    .rw[h]at hB;have hc:rest*65536+ul R (j+n)<q*ul V n:=by have:=aC hB;omega
     clear h hB;obtain⟨hq0,hst2⟩:=hG.less hE hr1 (.inr hc);refine H ?_;rw[c1];refine bE O O (jy O O O O O J v1 O) ?_;refine H ?_;rw[y1];refine H ?_;refine⟨(q-1,rest+vt),hst2,by simp only;omega,O,O,O,?_,?_,O,O,trivial⟩
     .show PV.int .u64 (IntKind.u64.wrap ((q:Int)-1))=PV.int .u64 ((q-1:Nat):Int);rw[wrap_u64 J J];congr 1;omega
     .show PV.int .u64 (IntKind.u64.wrap ((rest:Int)+(vt:Int)))=PV.int .u64 ((rest+vt:Nat):Int);rw[wrap_u64 J J];congr 1
    .rw[h]at hB;have hc:q*ul V n<=rest*65536+ul R (j+n):=by have:=aG hB;omega
     clear h hB;refine H ?_;exact⟨q,hG.near hE (.inr ⟨hq1,hc⟩),O,O,O,O,O,O,trivial⟩
  .rw[h]at hB;have hr1:65536<=rest:=by have:=aG hB;omega
   clear h hB;refine H ?_;exact⟨q,hG.near hE (.inl hr1),O,O,O,O,O,O,trivial⟩
 rintro q ⟨hq1,hq2,hq3⟩ s2;clear hst r0 r1 r2 w0 w1 w2 hor1;refine H ?_;rw[e84];refine H ?_;refine pA (fun k:List UInt16 × Nat × Int=>Sub R V j (n+2) q (n+3,k)) (fun k=>[(0,.als 44 g j (n+3)),(1,.fsl (V.map eU)),(5,I ((n+2:Nat):Int)),(7,.int .u64 (q:Nat)),(10,.int .i64 k.2.2)]) (fun k=>Hp g gq k.1 Qr) ?_ ?_
 .refine ap (Sub R V j (n+2) q) (fun k=>[(0,.als 44 g j (n+3)),(1,.fsl (V.map eU)),(5,I ((n+2:Nat):Int)),(7,.int .u64 (q:Nat)),(9,.int .u64 (k.2.2.1:Nat)),(10,.int .i64 k.2.2.2),(84,I ((n+3:Nat):Int)),(85,I k.1)])
   (fun k=>Hp g gq k.2.1 Qr) (fun k=>n+3-k.1) (0,R,0,0) Bt ⟨O,O,O,O,O,O,O,O,O,O,trivial⟩ ?_
  rintro⟨i,Q,c,bo⟩ s3 hS;have hil:=hS.i;have hQl:=hS.l;have hcb:=hS.c;have hbo:=hS.b;have ho2:=hS.o;simp only at hil hQl hcb hbo ho2;dsimp only;refine D ?_ ?_<;>intro h
  .have hi:i<n+3:=by have:=aC h;omega
   clear h;obtain⟨x,hx⟩:∃x,x=c+(if i<n+2 then q*ul V i else 0):=⟨_,O⟩;obtain⟨d',hd⟩:∃d':Int,d'=(ul R (j+i):Int)-(x-x/65536*65536:Nat)+bo:=⟨_,O⟩;have hxm:x%65536=x-x/65536*65536:=J;obtain⟨hst,hxb,hd1,hd2⟩:=EB hS J hq1 J J hx (d:=d') (by rw[hd,hxm]);have hrow:=lM (R:=Q) (i:=j+i) J;rw[ho2 (j+i) (.inr (aP))]at hrow;refine H ?_;refine sU [(0,.als 44 g j (n+3)),(1,.fsl (V.map eU)),(5,I ((n+2:Nat):Int)),(7,.int .u64 (q:Nat)),(9,.int .u64 (c:Nat)),(10,.int .i64 bo),(11,I i),(12,.int .u64 (x:Nat)),(84,I ((n+3:Nat):Int)),(85,I i)] (Hp g gq Q Qr) ?_ (fun s4=>?_)
   .refine bP O ?_ ?_<;>intro h
    .have hi2:i<n+2:=by have:=aC h;omega
     clear h;rw[if_pos hi2]at hx;have hvi:=oQ (R:=V) (i:=i) J;have hmb:=Nat.mul_le_mul hq1 (show ul V i<=65535 by have:=dF V i;omega);have hmi:(q:Int)*((ul V i:Nat):Int)=((q*ul V i:Nat):Int):=by rw[Int.natCast_mul]
     have hmw:IntKind.u64.wrap ((q*ul V i:Nat):Int)=((q*ul V i:Nat):Int):=nr J;have hxw:IntKind.u64.wrap ((c:Int)+((q*ul V i:Nat):Int))=(x:Int):=by rw[wrap_u64 J J];omega
     refine H ?_;refine bE O O (jy O O O O O J hvi O) ?_;refine H ?_;rw[j6 V i,hmi,hmw];refine H ?_;rw[hxw];exact⟨O,O,O,O,O,O,O,O,O,O,O,O,trivial⟩
    .have hi2:¬i<n+2:=by have:=aG h;omega
     clear h;rw[if_neg hi2,Nat.add_zero]at hx;refine H ?_;rw[show((c:Nat):Int)=(x:Int) by omega];exact⟨O,O,O,O,O,O,O,O,O,O,O,O,trivial⟩
   have e16:(x:Int)/2^(16:Int).toNat=((x/65536:Nat):Int):=by
    rw[show((2:Int)^(16:Int).toNat)=65536 by decide];omega
   have hand:=Hi x J;have hmw:IntKind.i64.wrap ((x-x/65536*65536:Nat):Int)=((x-x/65536*65536:Nat):Int):=wrap_i64 J J;have hrl:=dF R (j+i);have hdw:IntKind.i64.wrap (IntKind.i64.wrap (((ul R (j+i):Nat):Int)-((x-x/65536*65536:Nat):Int))+bo)=d':=by
    rw[wrap_i64 (n:=((ul R (j+i):Nat):Int)-((x-x/65536*65536:Nat):Int)) J J,wrap_i64 J J,hd]
   have hd16:IntKind.u16.wrap d'=((JK d').toNat:Int):=by rw[yP,IntKind.wrap_u16]
   refine H ?_;rw[e16];refine H ?_;refine jY O O O O O O O O O ?_;rw[Int.toNat_natCast];refine bE O O (cu O O O hrow O) ?_;refine H ?_;rw[GT R (j+i)];refine H ?_;rw[hand];refine H ?_;rw[hmw,hdw,hd16];refine jY O O O O O O O O O ?_;rw[Int.toNat_natCast];refine bL (bN (kd':=0) O O O hrow O O aI O O O O ?_);refine H ?_;refine⟨(i+1,_,_,_),hst,by simp only;omega,O,O,O,O,O,?_,O,cg J J,?_,O,trivial⟩
   .show PV.int .i64 (d'/2^(16:Int).toNat)=PV.int .i64 (d'/65536);rw[show((2:Int)^(16:Int).toNat)=65536 by decide]
   .exact dQ g 57 1 0 (j+i) Q (JK d')
  .have hi:i=n+3:=by have:=aG h;omega
   subst hi;clear h;refine H ?_;exact⟨(Q,c,bo),hS,O,O,O,O,O,O,O,trivial⟩
 rintro⟨Q,c,bo⟩ hS s3;have hQl:=hS.l;have hbo:=hS.b;simp only at hQl hbo;dsimp only;rcases hbo with rfl|rfl
 .obtain⟨hqe,hdg⟩:=Fs hV (by have:=hE.V0;exact this) hS hq2;refine H ?_;rw[show IntKind.u16.wrap ((q:Nat):Int)=((q:Nat):Int) by rw[IntKind.wrap_u16];omega];refine H ?_;exact hfin s3 Q q hqe hdg .ret _ (.inl O) O ⟨O,O,trivial⟩
 .have hqw:IntKind.u64.wrap ((q:Int)-1)=IntKind.u64.wrap ((q:Int)-1):=O;generalize hqv:IntKind.u64.wrap ((q:Int)-1)=qv at hqw;refine H ?_;rw[hqv];refine pA (fun k:List UInt16 × Nat=>Adb Q V j (n+2) (n+2,k)) (fun k=>[(0,.als 44 g j (n+3)),(5,I ((n+2:Nat):Int)),(7,.int .u64 qv),(14,.int .u32 (k.2:Nat))]) (fun k=>Hp g gq k.1 Qr) ?_ ?_
  .refine ap (Adb Q V j (n+2)) (fun k=>[(0,.als 44 g j (n+3)),(1,.fsl (V.map eU)),(5,I ((n+2:Nat):Int)),(7,.int .u64 qv),(14,.int .u32 (k.2.2:Nat)),(126,I ((n+2:Nat):Int)),(127,I k.1)])
    (fun k=>Hp g gq k.2.1 Qr) (fun k=>n+2-k.1) (0,Q,0) zK ⟨O,O,O,O,O,O,O,O,O,trivial⟩ ?_
   rintro⟨i,Q2,c2⟩ s4 hA;have hil:=hA.i;have hQ2l:=hA.l;have hcb:=hA.c;have ho2:=hA.o;simp only at hil hQ2l hcb ho2;dsimp only;refine D ?_ ?_<;>intro h
   .have hi:i<n+2:=by have:=aC h;omega
    clear h;have hrow:=lM (R:=Q2) (i:=j+i) J;rw[ho2 (j+i) (.inr (aP))]at hrow;have hvi:=oQ (R:=V) (i:=i) J;have hst:=BX hA hi J J O;have b1:=dF Q (j+i);have b2:=dF V i;have ew:IntKind.u32.wrap ((c2:Int)+IntKind.u32.wrap (((ul Q (j+i):Nat):Int)+((ul V i:Nat):Int)))=((c2+(ul Q (j+i)+ul V i):Nat):Int):=by
     rw[wrap_u32 (n:=((ul Q (j+i):Nat):Int)+((ul V i:Nat):Int)) J J,wrap_u32 J J];omega
    refine cn 13 [130,131,132,133,134,135,136,137,138,139,140,141,142] ?_;refine H ?_;refine jY O O O O O O O O O ?_;rw[Int.toNat_natCast];refine bE O O (cu O O O hrow O) ?_;refine H ?_;rw[ov Q (j+i)];refine H ?_;refine bE O O (jy O O O O O J hvi O) ?_;refine H ?_;rw[ov V i,ew];generalize c2+(ul Q (j+i)+ul V i)=sm at *
    refine H ?_;rw[wrap_u16];refine jY O O O O O O O O O ?_;rw[Int.toNat_natCast];refine bL (bN (kd':=0) O O O hrow O O aI O O O O ?_);refine H ?_;refine⟨(i+1,_,_),hst,by simp only;omega,O,O,O,O,?_,O,cg J J,?_,O,trivial⟩
    .show PV.int .u32 ((sm:Int)/2^(16:Int).toNat)=PV.int .u32 ((sm/65536:Nat):Int);rw[show((2:Int)^(16:Int).toNat)=65536 by decide];congr 1
    .exact dQ g 57 1 0 (j+i) Q2 (UInt16.ofNat sm)
   .have hi:i=n+2:=by have:=aG h;omega
    subst hi;clear h;refine H ?_;exact⟨(Q2,c2),hA,O,O,O,O,O,O,trivial⟩
  rintro⟨Q2,c2⟩ hA s4;have hQ2l:=hA.l;have hcb:=hA.c;simp only at hQ2l hcb;dsimp only;obtain⟨hq0,hqe,hdg⟩:=Cp hV (by have:=hE.V0;exact this) J hS hq2 hq3 hA;have hrow:=lM (R:=Q2) (i:=j+(n+2)) J;have b1:=dF Q2 (j+(n+2));have hc16:IntKind.u16.wrap ((c2:Nat):Int)=((c2:Nat):Int):=by rw[IntKind.wrap_u16];omega
  have hs16:IntKind.u16.wrap (((ul Q2 (j+(n+2)):Nat):Int)+((c2:Nat):Int))=((UInt16.ofNat (ul Q2 (j+(n+2))+c2)).toNat:Int):=by
   rw[show(((ul Q2 (j+(n+2)):Nat):Int)+((c2:Nat):Int))=((ul Q2 (j+(n+2))+c2:Nat):Int) by omega,wrap_u16]
  have hqf:IntKind.u16.wrap qv=((q-1:Nat):Int):=by
   rw[<-hqv,wrap_u64 J J,IntKind.wrap_u16];omega
  refine H ?_;refine jY O O O O O O O O O ?_;rw[Int.toNat_natCast];refine bE O O (cu O O O hrow O) ?_;refine H ?_;rw[hc16];refine H ?_;rw[hs16];refine jY O O O O O O O O O ?_;rw[Int.toNat_natCast];refine bL (bN (kd':=0) O O O hrow O O aI O O O O ?_);refine H ?_;rw[hqf];refine H ?_;exact hfin s4 _ (q-1) hqe hdg .ret _ (.inl O) O ⟨dQ g 57 1 0 (j+(n+2)) Q2 (UInt16.ofNat (ul Q2 (j+(n+2))+c2)),O,trivial⟩
class HQ (q:Rat) (n:outParam Nat):Prop where
 ok:hq q n
class Vq (x:RR) (p:outParam Rat) (n:outParam Nat):Prop where
 val:x.val=p
 sz:x.n.l.length<=n/\x.d.l.length<=n
class Zb (z:Int):Prop where
 ok:z.natAbs<65536^4
theorem HQ.pos {q:Rat}{n:Nat}(h:HQ q n):1<=n:=CX h.ok
theorem HQ.mono {q:Rat}{n m:Nat}(h:HQ q n)(hm:n<=m):HQ q m:=⟨dl h.ok hm⟩
instance HQ.add {p q:Rat} {n m:Nat} [h1:HQ p n] [h2:HQ q m]:HQ (p+q) (n+m+1):=⟨sv h1.ok h2.ok⟩
instance HQ.sub {p q:Rat} {n m:Nat} [h1:HQ p n] [h2:HQ q m]:HQ (p-q) (n+m+1):=⟨by rw[Rat.sub_eq_add_neg];exact sv h1.ok (o9 h2.ok)⟩
instance HQ.mul {p q:Rat} {n m:Nat} [h1:HQ p n] [h2:HQ q m]:HQ (p*q) (n+m):=⟨CW h1.ok h2.ok⟩
instance HQ.div {p q:Rat} {n m:Nat} [h1:HQ p n] [h2:HQ q m]:HQ (p/q) (n+m):=⟨CV h1.ok h2.ok⟩
instance HQ.neg {q:Rat} {n:Nat} [h:HQ q n]:HQ (-q) n:=⟨o9 h.ok⟩
instance HQ.int {z:Int} [h:Zb z]:HQ (z:Rat) 4:=⟨iG h.ok Y⟩
instance HQ.zero:HQ (0:Rat) 4:=⟨iG (z:=0) Y Y⟩
instance HQ.one:HQ (1:Rat) 4:=⟨iG (z:=1) Y Y⟩
instance HQ.two:HQ (2:Rat) 4:=⟨iG (z:=2) Y Y⟩
instance Vq.ofQ {q:Rat} {n:Nat} [h:HQ q n]:Vq (ofQ q) q n:=⟨Go.Pv.ofQ_val q,(kr h.ok).ok⟩
instance Vq.zero:Vq RR.zero 0 0:=⟨RR.zero_val,aP,aP⟩
theorem Vq.hq {x:RR}{p:Rat}{n:Nat}(h:Vq x p n):HQ p (n+1):=⟨by rw[<-h.val];exact SZ.hq ⟨h.sz⟩⟩
theorem Vq.raw {x:RR}{n:Nat}(h1:x.n.l.length<=n)(h2:x.d.l.length<=n):Vq x x.val n:=⟨O,h1,h2⟩
theorem aK {z:Int}(h0 : -9223372036854775808<=z)(h1:z<=9223372036854775807):Zb z:=⟨by
 have:(65536:Nat)^4=18446744073709551616:=Y
 omega⟩
def am (f:Nat->Rat):Nat->Rat
 |0=>0
 |n+1=>am f n+f n
theorem cy {f g:Nat->Rat}:∀ {n:Nat},(∀k,k<n->f k=g k)->am f n=am g n
 |0,_=>rfl
 |n+1,h=>by rw[am,am,cy fun k hk=>h k J,h n J]
theorem bw {f:Nat->Rat}{m:Nat}:∀(n:Nat),(∀k,k<n->HQ (f k) m)->HQ (am f n) (n*(m+1)+4)
 |0,_=>by rw[Nat.zero_mul,Nat.zero_add];exact HQ.zero
 |n+1,h=>by
  have h1:=bw n fun k hk=>h k J;have h2:=h n J;exact(HQ.add (h1:=h1) (h2:=h2)).mono (by rw[Nat.add_mul];omega)
theorem fC {f:Nat->Rat}:∀ {n:Nat},(∀k,k<n->0<=f k)->0<=am f n
 |0,_=>by rw[am];exact Rat.le_refl
 |n+1,h=>by
  have h1:=fC (f:=f) (n:=n) fun k hk=>h k J;have h2:=h n J;rw[am];grind
theorem wP {L:Lay}{s:St}{fn:Func}{r d:PV}{l:List PV}{A Cd:Prop}{fl:Fl}(h:D_ L s fn.results.toList=some (l,A))(ha:A)(hres:eZ s 5 (iW l)=some (d,Cd,fl))(hc:Cd)(hd:d=r):ai L fn .shared r .ret s:=by
 unfold ai;exact⟨l,A,d,Cd,fl,h,ha,hres,hc,trivial,hd⟩
theorem KI {L:Lay}{s:St}{fn:Func}{r d:PV}{l:List PV}{A Cd:Prop}{fl:Fl}(h:D_ L s fn.results.toList=some (l,A))(hres:eZ s 5 (iW l)=some (d,Cd,fl))(hd:d=r)(ha:A:=by repeat' constructor)(hc:Cd:=by repeat' constructor):ai L fn .shared r .ret s:=wP h ha hres hc hd
theorem bV {G0:Prop}{L:Lay}{s:St}{fn:Func}{r d:PV}{l:List PV}{A Cd:Prop}{fl:Fl}(hr:ai L fn .shared r .ret s->G0:=by(intro k;(repeat refine fB O ?_);exact k))(h:D_ L s fn.results.toList=some (l,A):=by exact O)(hres:eZ s 5 (iW l)=some (d,Cd,fl):=by exact O)(hd:d=r:=by exact O)(ha:A:=by repeat' constructor)(hc:Cd:=by repeat' constructor):G0:=hr (KI h hres hd ha hc)
def eI (a:RI):List PV:=[.bool a.neg,.sl (a.l.map eU)]
def eR (x:RR):List PV:=[.bool x.n.neg,.sl (x.n.l.map eU),.bool x.d.neg,.sl (x.d.l.map eU)]
theorem Dr:cw 0=⟨false,[]⟩:=by rw[cw];simp[bM]
def ez (neg:Bool)(n:Nat):Int:=if neg then -(n:Int) else n
theorem n8 (neg:Bool)(n:Nat):cw (ez neg n)=if n=0 then⟨false,[]⟩ else⟨neg,ay n⟩:=by
 split
 .rename_i h;subst h;cases neg<;>exact Dr
 .rename_i h;cases neg
  .rw[cw,ez];simp only[Bool.false_eq_true,if_false,Int.natAbs_natCast];rw[decide_eq_false J]
  .rw[cw,ez];simp only[if_true,Int.natAbs_neg,Int.natAbs_natCast];rw[decide_eq_true J]
theorem RI.val_sgz (a:RI):a.val=ez a.neg (nv a.l):=rfl
set_option maxRecDepth 20000 in
theorem oN (l:List UInt16)(hl:l.length<=300000000):Ret Tryz.prog .fresh 188 [.sl (l.map eU)] (.sl (l.map eU)):=by
 refine Ret.of_pwp layOk mixed Go.Proofs.Tryz.func188 O Y O O ?_
 ((repeat ((fail_if_success (with_reducible refine aQ 1 ?_));refine cx O ?_));refine aM 1 ?_)
 refine fB O ?_;refine aY ?_;refine aV O (nc layOk O O O (fun h0=>?_) ?_)
 .rw[h0];refine aO ?_
  (repeat ((fail_if_success (with_reducible refine eY ?_));refine cx O ?_))
  refine aE (Ghost.nilfs (t:=2) O) ?_;refine H ?_;exact ue O O O trivial O
 .refine aO ?_;refine H ?_;refine aH (bx 0 O O O O O O O O O O O aI O ?_);refine H ?_;refine aH (bQ 1 O O O O O O O O O O O aI (by intro row hr;obtain⟨p,_,rfl⟩:=List.mem_map.1 hr;rfl) O O aU aU ?_)
  (repeat ((fail_if_success (with_reducible refine eY ?_));refine cx O ?_))
  refine aE (Ghost.takeF (k:=5) (t:=2) l O O O O (fun _=>rfl)) ?_;refine H ?_;exact ue O O O aI O
set_option maxRecDepth 20000 in
theorem ef (neg:Bool)(l:List UInt16)(hl:l.length<=300000000):Ret Tryz.prog .shared 226 [.bool neg,.sl (l.map eU)] (.agg (eI (cw (ez neg (nv l))))):=by
 have ht:=cF l J;have hml:((aX l).map eU).length=(aX l).length:=ah;have htl:=cb l;rw[n8];by_cases h0:nv l=0
 .rw[if_pos h0];have hz:aX l=[]:=by rw[aX,h0,bM]
  rw[hz]at ht;refine Ret.of_pwp layOk mixed Go.Proofs.Tryz.func226 O Y O O ?_;refine G ht ?_
  (repeat ((fail_if_success (with_reducible refine eY ?_));refine cx O ?_))
  refine aE (Ghost.nilcell (k:=1000) (k0:=4) (i:=0) (j:=1) 57 1 0 O O O O (row:=[.bool false,.nil]) O O O) ?_;exact bV
 .rw[if_neg h0];have hz:(aX l).length≠0:=by
   intro h;have h1:=cW l;rw[List.length_eq_zero_iff.1 h]at h1;exact h0 h1.symm
  have hc:=oN (aX l) J;rw[aX]at *
  generalize ay (nv l)=t at *
  refine Ret.of_pwp layOk mixed Go.Proofs.Tryz.func226 O Y O O ?_;refine G ht ?_;refine D ?_ ?_<;>intro h
  .have:=aC h;omega
  .clear h;refine JS hc ?_;exact bV
set_option maxRecDepth 20000 in
theorem wi (l:List UInt16)(hl:l.length<=300000000):Ret Tryz.prog .shared 263 [.sl (l.map eU)] (if l.length<=4 then .tup [.int .u64 (nv l:Nat),.bool true] else .tup [.int .u64 0,.bool false]):=by
 have hml:(l.map eU).length=l.length:=ah;by_cases h4:l.length<=4
 .rw[if_pos h4];have hw0:IntKind.i64.wrap (((((l.map eU).length:Nat):Int))-1)=(l.length:Int)-1:=by rw[hml,wrap_i64 J J]
  refine Ret.of_pwp layOk mixed Go.Proofs.Tryz.func263 O Y O O ?_;refine D ?_ ?_<;>intro h
  .have:=aC h;omega
  clear h;refine H ?_;rw[hw0];refine ap (fun k:Nat=>k<=l.length) (fun k=>[(0,.sl (l.map eU)),(4,.int .u64 (nv (l.drop k):Nat)),(5,I ((k:Int)-1))]) (fun _=>[]) (fun k=>k) l.length (aP) ⟨O,?_,O,trivial⟩ ?_
  .rw[List.drop_length];rfl
  intro k s hk;refine D ?_ ?_<;>intro h
  .have hk0:0<k:=by have:=aC h;omega
   clear h;obtain⟨j,rfl⟩:∃j,k=j+1:=⟨k-1,J⟩;have e1:(((j+1:Nat):Int)-1)=(j:Nat):=J;rw[e1];obtain⟨x,hx⟩:=aJ (show j<l.length by omega);have hxl:=bk x;have hd:=eX hx;have hlt:=co (l.drop (j+1));have hp:65536^(l.drop (j+1)).length<=65536^3:=Nat.pow_le_pow_right Y (by rw[List.length_drop];omega);have hp3:65536^3=281474976710656:=Y;generalize nv (l.drop (j+1))=a at *
   have hor:=Iz (x:=a) (y:=x.toNat) J hxl;have ex:IntKind.u64.wrap (x.toNat:Int)=(x.toNat:Int):=wrap_u64 J J;refine H ?_;rw[Eg J];refine Gj O O O O O O O hx O ?_;refine H ?_;rw[ex,hor];refine H ?_;refine⟨j,J,J,O,?_,?_,trivial⟩
   .show PV.int .u64 ((a*65536+x.toNat:Nat):Int)=_;rw[hd,show x.toNat+65536*a=a*65536+x.toNat by omega]
   .exact congrArg I (wrap_i64 J J)
  .have hk0:k=0:=by have:=aG h;omega
   subst hk0;clear h;rw[List.drop_zero];generalize nv l=v;refine H ?_;exact wO O O O O O trivial trivial O
 .rw[if_neg h4];refine Ret.of_pwp layOk mixed Go.Proofs.Tryz.func263 O Y O O ?_;refine D ?_ ?_<;>intro h
  .refine H ?_;exact wO O O O O O trivial trivial O
  .have:=aG h;omega
set_option maxRecDepth 20000 in
theorem nC (n:Nat)(hn:n<18446744073709551616):Ret Tryz.prog .shared 234 [.int .u64 (n:Nat)] (.sl ((ay n).map eU)):=by
 refine Ret.of_pwp layOk mixed Go.Proofs.Tryz.func234 O Y O O ?_
 ((repeat (first|refine aY ?_ | refine cE ?_ | refine cz ?_ | refine cB ?_));refine bq ?_)
 refine jb O trivial ?_
 ((repeat (first|refine aY ?_ | refine cE ?_ | refine cz ?_ | refine cB ?_));refine bq ?_)
 (first|refine aH (gZ 57 1 0 O O ?_)|refine aH (gY 57 1 0 O O ?_))
 refine H ?_;refine ap (fun q:Nat × List UInt16=>ay n=q.2++ay q.1/\q.1*65536^q.2.length<=n) (fun q=>[(0,.int .u64 (q.1:Nat)),(3,.als 3 (1+q.2.length) 0 (q.2.map eU).length)]) (fun q=>[(3,1+q.2.length,⟨57,1,q.2.map eU,0⟩)]) (fun q=>q.1) (n,[]) ⟨O,ah⟩ ⟨O,O,O,trivial⟩ ?_;rintro⟨m,L⟩ s ⟨hL,hb⟩;simp only at hL hb;dsimp only;refine D ?_ ?_<;>intro h
 .have hm:0<m:=by have:=aC h;omega
  clear h;have hLl:L.length<4:=by
   rcases Nat.lt_or_ge L.length 4 with h|h
   .exact h
   .exfalso;have h1:65536^4<=65536^L.length:=Nat.pow_le_pow_right Y h;have h2:=Nat.mul_le_mul (show 1<=m by omega) h1;have:1*65536^4=18446744073709551616:=Y;omega
  have hL2:ay n=(L++[UInt16.ofNat m])++ay (m/65536):=by rw[hL,dI J];simp
  have hb2:m/65536*65536^(L++[UInt16.ofNat m]).length<=n:=by
   rw[List.length_append,List.length_singleton,Nat.pow_succ,Nat.mul_comm (65536^_),<-Nat.mul_assoc];exact Nat.le_trans (Nat.mul_le_mul_right _ (Nat.div_mul_le_self _ _)) hb
  refine H ?_;rw[wrap_u16];refine bE O O (dj O O O O O O O O O O aI O) ?_;refine aH (bQ 0 O O O O O O O O O O O aI (by intro row hr;first|(simp at hr;subst hr;rfl)|simp at hr) O O aU aU ?_);refine H ?_;refine⟨(m/65536,L++[UInt16.ofNat m]),⟨hL2,hb2⟩,by simp only;omega,?_,?_,?_,trivial⟩
  .show PV.int .u64 ((m:Int)/2^(16:Int).toNat)=PV.int .u64 ((m/65536:Nat):Int);rw[show((2:Int)^(16:Int).toNat)=65536 by decide];congr 1
  .exact nV eU 3 1 L (UInt16.ofNat m)
  .exact lH eU 1 57 1 0 L (UInt16.ofNat m)
 .have hm:m=0:=by have:=aG h;omega
  subst hm;clear h;rw[bM,List.append_nil]at hL;rw[hL];refine H ?_;exact iq O O O ⟨O,O,O⟩ O
theorem zr {R:List UInt16}{j m:Nat}(h:nv ((R.drop j).drop m)=0):uw R j m=nv (R.drop j):=by
 rcases Nat.le_total m (R.drop j).length with hm|hm
 .rw[uw,cT (R.drop j) m hm,h];omega
 .rw[uw,List.take_of_length_le hm]
theorem sK {l:List UInt16}{m:Nat}(h:nv l<65536^m):nv (l.drop m)=0:=by
 rcases Nat.le_total m l.length with hm|hm
 .rw[cT l m hm]at h;rcases Nat.eq_zero_or_pos (nv (l.drop m)) with h0|h0
  .exact h0
  .have:=Nat.mul_le_mul_left (65536^m) h0;omega
 .rw[List.drop_of_length_le hm];rfl
theorem EJ {R R':List UInt16}{j:Nat}(hl:R'.length=R.length)(h:∀t,t<j->ul R' t=ul R t):R'.take j=R.take j:=by
 apply List.ext_getElem?;intro k;rw[List.getElem?_take,List.getElem?_take];split
 .rcases Nat.lt_or_ge k R.length with hk|hk
  .rw[mt J,mt hk];congr 1;exact p_ (h k ‹_›)
  .rw[List.getElem?_eq_none hk,List.getElem?_eq_none J]
 .rfl
theorem Cv {R R':List UInt16}{j:Nat}(hl:R'.length=R.length)(h:∀t,j<=t->ul R' t=ul R t):R'.drop j=R.drop j:=by
 apply List.ext_getElem?;intro k;rw[List.getElem?_drop,List.getElem?_drop];rcases Nat.lt_or_ge (j+k) R.length with hk|hk
 .rw[mt J,mt hk];congr 1;exact p_ (h (j+k) J)
 .rw[List.getElem?_eq_none hk,List.getElem?_eq_none J]
structure DivI (V:List UInt16) (N n A0:Nat) (z:Nat × List UInt16 × List UInt16):Prop where
 k:z.1<=N-n
 r:z.2.1.length=N
 q:z.2.2.length=N-n
 v:nv z.2.1+nv V*(65536^z.1*nv (z.2.2.drop z.1))=A0
 lt:nv (z.2.1.drop z.1)<nv V
theorem yq {V:List UInt16}{N n A0 j:Nat}{R Q:List UInt16}(hV:V.length=n)(hn:n<N)(h:DivI V N n A0 (j+1,R,Q)):uw R j (n+1)=nv (R.drop j)/\uw R j (n+1)<65536*nv V/\j+(n+1)<=R.length:=by
 have h1:=h.k;have h2:=h.r;have h5:=h.lt;simp only at h1 h2 h5;have hlt:nv (R.drop (j+1))<65536^n:=Nat.lt_trans h5 (by rw[<-hV];exact co V);have hz:=sK hlt;have e1:uw R j (n+1)=nv (R.drop j):=zr (by rw[List.drop_drop,show j+(n+1)=(j+1)+n by omega,<-List.drop_drop];exact hz);have e2:=eX (mt (R:=R) (i:=j) J);have:=bk (R.getD j 0);exact⟨e1,by rw[e1,e2];omega,J⟩
theorem Cr {V:List UInt16}{N n A0 j:Nat}{R Q R':List UInt16}(hV:V.length=n)(hn:n<N)(hV0:0<nv V)(h:DivI V N n A0 (j+1,R,Q))(hd:Digd R V j n R') :
  uw R j (n+1)/nv V<65536/\DivI V N n A0 (j,R',Q.set j (UInt16.ofNat (uw R j (n+1)/nv V))):=by
 obtain⟨w1,w2,w3⟩:=yq hV hn h;have h1:=h.k;have h2:=h.r;have h3:=h.q;have h4:=h.v;have h5:=h.lt;simp only at h1 h2 h3 h4 h5;have hql:uw R j (n+1)/nv V<65536:=Nat.div_lt_of_lt_mul (by rw[Nat.mul_comm];exact w2);have hRl:=hd.l;have htk:R'.take j=R.take j:=EJ hRl fun t ht=>hd.o t (.inl ht);have hlt:nv (R.drop (j+1))<65536^n:=Nat.lt_trans h5 (by rw[<-hV];exact co V);have hz:=sK hlt;have hdr:R'.drop (j+(n+1))=R.drop (j+(n+1)):=Cv hRl fun t ht=>hd.o t (.inr ht);have e1:uw R' j (n+1)=nv (R'.drop j):=zr (by rw[List.drop_drop,hdr,show j+(n+1)=(j+1)+n by omega,<-List.drop_drop];exact hz);have e2:nv (R'.drop j)=nv (R.drop j)%nv V:=by rw[<-e1,hd.v,w1]
 refine⟨hql,by simp only;omega,by simp only;omega,by simp[h3],?_,?_⟩
 .simp only;have s1:=cT R' j J;have s2:=cT R j J;rw[htk,e2]at s1;rw[w1]at hql ⊢;rw[drop_set_self' J,nv,be,Nat.mod_eq_of_lt hql,s1,<-h4,s2];have e3:=Nat.div_add_mod (nv (R.drop j)) (nv V);have e4:nv V*(65536^j*(nv (R.drop j)/nv V+65536*nv (Q.drop (j+1))))=65536^j*(nv V*(nv (R.drop j)/nv V))+nv V*(65536^(j+1)*nv (Q.drop (j+1))):=by
   rw[Nat.mul_add,Nat.mul_add,Nat.pow_succ];congr 1
   .simp only[Nat.mul_left_comm]
   .simp only[Nat.mul_assoc]
  rw[e4];have e5:65536^j*(nv (R.drop j)%nv V)+65536^j*(nv V*(nv (R.drop j)/nv V))=65536^j*nv (R.drop j):=by rw[<-Nat.mul_add];congr 1;omega
  omega
 .simp only;rw[e2];exact Nat.mod_lt _ hV0
where
 drop_set_self' {l:List UInt16} {i:Nat} {y:UInt16} (h:i<l.length):(l.set i y).drop i=y::l.drop (i+1):=by
  have h1:(l.set i y)[i]? = some y:=List.getElem?_set_self h;have h2:=List.drop_eq_getElem?_toList_append (l:=l.set i y) (i:=i);rw[h1]at h2;rw[h2];show y::(l.set i y).drop (i+1)=_;congr 1;apply List.ext_getElem?;intro j;rw[List.getElem?_drop,List.getElem?_drop,List.getElem?_set_ne J]
theorem Fu {V:List UInt16}{N n a b s:Nat}{R Q:List UInt16}(hV:nv V=b*2^s)(hb:0<b)(h:DivI V N n (a*2^s) (0,R,Q)):nv Q=a/b/\nv R=a%b*2^s:=by
 have h4:=h.v;have h5:=h.lt;simp only[List.drop_zero,Nat.pow_zero,Nat.one_mul]at h4 h5;have hp:0<2^s:=Nat.pow_pos Y;rw[hV]at h4 h5;have e1:nv Q=a*2^s/(b*2^s):=by
  rw[<-h4,Nat.add_mul_div_left _ _ (Nat.mul_pos hb hp),Nat.div_eq_of_lt h5];omega
 have e2:nv R=a*2^s%(b*2^s):=by
  rw[<-h4,Nat.add_mul_mod_self_left,Nat.mod_eq_of_lt h5]
 rw[Nat.mul_div_mul_right _ _ hp]at e1;rw[Nat.mul_mod_mul_right]at e2;exact⟨e1,e2⟩
theorem z7 {V a b R Q:List UInt16}{s:Nat}(hVl:V.length=b.length)(hV:nv V=nv b*2^s)(hbl:b.length<=a.length)(hs:s<=15)(htop:32768*65536^(b.length-1)<=nv V)(hb:1<=b.length)(hRl:R.length=a.length+1)(hR:nv R=nv a*2^s)(hQl:Q.length=a.length+1-b.length)(hQ:nv Q=0\/True) :
  DivI V (a.length+1) b.length (nv a*2^s) (a.length+1-b.length,R,Q):=by
 refine⟨aP,hRl,hQl,?_,?_⟩
 .simp only;rw[List.drop_of_length_le J,nv,Nat.mul_zero,Nat.mul_zero,hR];omega
 .simp only;refine Nat.lt_of_lt_of_le ?_ htop;have h1:=cT R (a.length+1-b.length) J;have h2:=co a;have hp:0<65536^(a.length+1-b.length):=k_ _;have hs2:2^s<=32768:=Nat.pow_le_pow_right (n:=2) Y hs;have h3:nv a*2^s<65536^a.length*32768:=by
   have:=Nat.mul_le_mul_left (nv a) hs2;have:=(Nat.mul_lt_mul_right (show 0<32768 by decide)).2 h2;omega
  have h4:65536^a.length=65536^(a.length+1-b.length)*65536^(b.length-1):=by rw[<-Nat.pow_add];congr 1;omega
  rw[h4,Nat.mul_assoc]at h3;rw[hR]at h1;rw[h1]at h3;have h5:65536^(a.length+1-b.length)*nv (R.drop (a.length+1-b.length))<65536^(a.length+1-b.length)*(65536^(b.length-1)*32768):=J;have:=Nat.lt_of_mul_lt_mul_left h5;rw[Nat.mul_comm];exact this
theorem Eh {R:List UInt16}{i s:Nat}(hs:s<=15)(hi:i+1<R.length):(ul R i+65536*ul R (i+1))/2^s%65536=nv R/2^s/65536^i%65536:=by
 have e1:nv R/65536^i=nv (R.drop i):=by
  rw[cT R i J,Nat.add_mul_div_left _ _ (k_ _),Nat.div_eq_of_lt (fj R i)];omega
 rw[Nat.div_div_eq_div_mul (nv R),Nat.mul_comm (2^s),<-Nat.div_div_eq_div_mul,e1,eX (mt J),eX (mt (i:=i+1) J)];show(ul R i+65536*ul R (i+1))/2^s%65536=(ul R i+65536*(ul R (i+1)+65536*nv (R.drop (i+1+1))))/2^s%65536;generalize nv (R.drop (i+1+1))=H0;have hd:2^s*2^(16-s)=65536:=by rw[<-Nat.pow_add,show s+(16-s)=16 by omega]
 have e2:ul R i+65536*(ul R (i+1)+65536*H0)=(ul R i+65536*ul R (i+1))+2^s*(65536*(2^(16-s)*H0)):=by
  have:2^s*(65536*(2^(16-s)*H0))=65536*(65536*H0):=by
   rw[Nat.mul_left_comm,<-Nat.mul_assoc (2^s),hd]
  rw[this];omega
 rw[e2,Nat.add_mul_div_left _ _ (Nat.pow_pos Y),Nat.add_mul_mod_self_left]
structure RemI (R:List UInt16) (n s:Nat) (k:Nat × List UInt16):Prop where
 i:k.1<=n
 l:k.2.length=n
 v:nv (k.2.take k.1)=nv R/2^s%65536^k.1
theorem DM {R Q:List UInt16}{n s i:Nat}(h:RemI R n s (i,Q))(hs:s<=15)(hR:n+1<=R.length)(hi:i<n):RemI R n s (i+1,Q.set i (UInt16.ofNat ((ul R i+65536*ul R (i+1))/2^s))):=by
 obtain⟨h1,h2,h3⟩:=h;simp only at h1 h2 h3;refine⟨hi,by simp[h2],?_⟩;simp only;rw[dr (i:=i) (List.getElem?_set_self J),take_set',h3,be,Eh hs J,Nat.mod_pow_succ]
where
 take_set' {l:List UInt16} {i:Nat} {y:UInt16}:nv ((l.set i y).take i)=nv (l.take i):=by
  congr 1;apply List.ext_getElem?;intro j;rw[List.getElem?_take,List.getElem?_take];split
  .rw[List.getElem?_set_ne J]
  .rfl
theorem I4 {x y:Nat}(hx:x<65536)(hy:y<65536):bits .or .u32 (x:Int) ((y*65536:Nat):Int)=((x+65536*y:Nat):Int):=by
 rw[bits_join_low .u32 32 Y wraps_u32 16 _ _ J J J J J J];omega
def Fw (a b:List UInt16):PV := .tup [.sl ((ay (nv a/nv b)).map eU),.sl ((ay (nv a%nv b)).map eU)]
set_option maxRecDepth 20000 in
theorem z8 (a b:List UInt16)(ha:a.length<=100000000)(hb:b.length<=100000000)(hta:Trm a)(htb:Trm b)(hlt:nv a<nv b):Ret Tryz.prog .shared 225 [.sl (a.map eU),.sl (b.map eU)] (Fw a b):=by
 have hc:=gH a b J J;have hneg:=(fW hta htb).1.2 hlt;rw[Fw,Nat.div_eq_of_lt hlt,Nat.mod_eq_of_lt hlt,bM,gh hta];generalize j9 a b=c at *
 refine Ret.of_pwp layOk mixed Go.Proofs.Tryz.func225 O Y O O ?_;refine ar hc ?_;refine D ?_ ?_<;>intro h
 .clear h;refine H ?_;refine La O O O (oN a J) O O ?_
  (repeat ((fail_if_success (with_reducible refine eY ?_));refine cx O ?_))
  refine aE (Ghost.nilsl (t:=4) O) ?_;refine H ?_;exact wO O O O O O trivial trivial O
 .have:=aG h;omega
set_option maxRecDepth 20000 in
theorem wL (a:List UInt16)(b:UInt16)(ha:a.length<=100000000)(hta:Trm a)(htb:Trm [b])(hge:nv [b]<=nv a):Ret Tryz.prog .shared 225 [.sl (a.map eU),.sl [eU b]] (Fw a [b]):=by
 have hc:=gH a [b] J ah;have hneg:¬j9 a [b]<0:=fun h=>by have:=(fW hta htb).1.1 h;omega
 have hb0:0<b.toNat:=by have:=htb b O;omega
 have hs:=Be a b ha hb0;have hnb:nv [b]=b.toNat:=by simp[nv]
 rw[Fw,hnb];have hml:=Nat.mod_lt (nv a) hb0;have hbl:=bk b;have hx:=cF [UInt16.ofNat (nv a%b.toNat)] ah;have hxv:aX [UInt16.ofNat (nv a%b.toNat)]=ay (nv a%b.toNat):=by
  rw[aX];congr 1;simp[nv];omega
 rw[hxv]at hx;have hxe:([UInt16.ofNat (nv a%b.toNat)].map eU)=[[PV.int .u16 ((nv a%b.toNat:Nat):Int)]]:=by
  show [[PV.int .u16 _]]=_;rw[be,Nat.mod_eq_of_lt J]
 rw[hxe]at hx;generalize j9 a [b]=c at *
 generalize nv a%b.toNat=m at *
 refine Ret.of_pwp layOk mixed Go.Proofs.Tryz.func225 O Y O O ?_;refine ar hc ?_;refine D ?_ ?_<;>intro h
 .have:=aC h;omega
 clear h;refine H ?_;refine bE O O (DD O O O O O Y O O) ?_;refine G hs ?_;refine H ?_;refine bE O O (dj O O O O O O O O O O aI O) ?_;refine G hx ?_;refine H ?_;exact wO O O O O O trivial trivial O
set_option maxRecDepth 40000 in
set_option maxHeartbeats 4000000 in
theorem ub (a b:List UInt16){n:Nat}(ha:a.length<=100000000)(hb:b.length=n+2)(hta:Trm a)(htb:Trm b)(hge:nv b<=nv a):Ret Tryz.prog .shared 225 [.sl (a.map eU),.sl (b.map eU)] (Fw a b):=by
 have hba:b.length<=a.length:=by
  rcases Nat.lt_or_ge a.length b.length with h|h
  .exfalso;have h1:=x6 htb (k:=n+1) hb;have h2:=co a;have h3:65536^a.length<=65536^(n+1):=da J;omega
  .exact h
 have hc:=gH a b J J;have hneg:¬j9 a b<0:=fun h=>by have:=(fW hta htb).1.1 h;omega
 have hbml:(b.map eU).length=n+2:=by rw[List.length_map,hb]
 have hbt:=mt (R:=b) (i:=n+1) J;have ht0:ul b (n+1)≠0:=htb _ (by rw[List.getLast?_eq_getElem?,hb,show n+2-1=n+1 by omega];exact hbt);have hlead:=C9 (b.getD (n+1) 0) ht0;have hl16:=uG ht0 (bk _);rw[show(b.getD (n+1) 0).toNat=ul b (n+1) from O]at hlead;have hb0:0<nv b:=by
  have h1:=x6 htb (k:=n+1) hb;have:=k_ (n+1);omega
 have hbtl:=dF b (n+1);have hbtop:nv b=uw b 0 (n+1)+65536^(n+1)*ul b (n+1):=by
  have h1:=dK (R:=b) (j:=0) (m:=n+1) J;rw[qd hb (aP),Nat.zero_add]at h1;exact h1
 generalize hlt:kt (ul b (n+1))=t at *
 obtain⟨s,hs⟩:∃s,s=16-t:=⟨_,O⟩;rw[<-hs]at hlead;have hs15:s<=15:=J;have hgs:32768<=ul b (n+1)*2^s/\ul b (n+1)*2^s<65536:=by
  have e1:2^t*2^s=65536:=by rw[<-Nat.pow_add,show t+s=16 by omega]
  have h1:=Nat.mul_le_mul_right (2^s) hl16.2.2.1;have h2:=(Nat.mul_lt_mul_right (Nat.pow_pos (show 0<2 by decide):0<2^s)).2 hl16.2.2.2;rw[e1]at h1 h2;rw[Nat.mul_assoc]at h1;omega
 have hsO:=tn a s ha J;have hsF:=vH b s J J;obtain⟨V,hVd⟩:∃V,V=(ji (b.length+1) (nv b*2^s)).take (n+2):=⟨_,O⟩;have hp:0<2^s:=Nat.pow_pos Y;have hblt:nv b*2^s<65536^(n+2):=by
  have h1:=rT b 0 (n+1);have h2:nv b<65536^(n+1)*(ul b (n+1)+1):=by rw[hbtop,Nat.mul_add];omega
  have h3:=(Nat.mul_lt_mul_right hp).2 h2;have h4:(ul b (n+1)+1)*2^s<=65536:=by
   have e1:2^t*2^s=65536:=by rw[<-Nat.pow_add,show t+s=16 by omega]
   rw[<-e1];exact Nat.mul_le_mul_right _ hl16.2.2.2
  have h5:=Nat.mul_le_mul_left (65536^(n+1)) h4;rw[<-Nat.mul_assoc]at h5;rw[Nat.pow_succ];omega
 have hVl:V.length=n+2:=by rw[hVd,List.length_take,jk,hb];omega
 have hVv:nv V=nv b*2^s:=by
  have h1:=cT (ji (b.length+1) (nv b*2^s)) (n+2) (by rw[jk];omega);have h2:nv (ji (b.length+1) (nv b*2^s))=nv b*2^s:=sn _ _ (Nat.lt_of_lt_of_le hblt (da J));have h3:nv ((ji (b.length+1) (nv b*2^s)).drop (n+2))=0:=sK (by rw[h2];exact hblt);rw[h2,h3,<-hVd]at h1;omega
 have hVtop:32768<=ul V (n+1):=by
  have h1:=dK (R:=V) (j:=0) (m:=n+1) J;rw[qd hVl (aP),Nat.zero_add]at h1;have h2:=rT V 0 (n+1);have h3:65536^(n+1)*32768<=nv V:=by
   rw[hVv,hbtop,Nat.add_mul,Nat.mul_assoc];have:=Nat.mul_le_mul_left (65536^(n+1)) hgs.1;omega
  rcases Nat.lt_or_ge (ul V (n+1)) 32768 with h|h
  .exfalso;have:=Nat.mul_le_mul_left (65536^(n+1)) (show ul V (n+1)+1<=32768 by omega);rw[Nat.mul_add]at this;omega
  .exact h
 have hV32:32768*65536^(b.length-1)<=nv V:=by
  rw[hVv,hbtop,hb,show n+2-1=n+1 by omega,Nat.add_mul,Nat.mul_assoc];have:=Nat.mul_le_mul_left (65536^(n+1)) hgs.1;rw[Nat.mul_comm (65536^(n+1)) 32768]at this;omega
 have hV0:0<nv V:=by rw[hVv];exact Nat.mul_pos hb0 hp
 have hRl:=jk (a.length+1) (nv a*2^s);have hRv:nv (ji (a.length+1) (nv a*2^s))=nv a*2^s:=sn _ _ (by
  have h1:=(Nat.mul_lt_mul_right hp).2 (co a);have h2:2^s<=2^16:=Nat.pow_le_pow_right (n:=2) Y (show s<=16 by omega);rw[show 2^16=65536 by decide]at h2;have:=Nat.mul_le_mul_left (65536^a.length) h2
  rw[Nat.pow_succ];omega)
 have hstart:=fun Q hQ=>z7 (V:=V) (a:=a) (b:=b) (Q:=Q) (hVl.trans hb.symm) hVv hba hs15 hV32 J hRl hRv hQ (.inr trivial);generalize ji (a.length+1) (nv a*2^s)=R0 at *
 rw[Fw];generalize j9 a b=c at *
 have c1:IntKind.i64.wrap (((n+2:Nat):Int)-1)=((n+1:Nat):Int):=by rw[wrap_i64 J J];omega
 have c2:IntKind.i64.wrap (((R0.map eU).length:Nat)-((n+2:Nat):Int))=((a.length+1-(n+2):Nat):Int):=by rw[List.length_map,hRl,wrap_i64 J J];omega
 have c3:IntKind.i64.wrap (((a.length+1-(n+2):Nat):Int)-1)=((a.length+1-(n+2):Nat):Int)-1:=by rw[wrap_i64 J J]
 have hbi:(b.map eU)[((n+1:Nat):Int).toNat]? = some [PV.int .u16 ((ul b (n+1):Nat):Int)]:=oQ J;refine Ret.of_pwp layOk mixed Go.Proofs.Tryz.func225 O Y O O ?_;refine ar hc ?_;refine D ?_ ?_<;>intro h
 .have:=aC h;omega
 clear h;refine H ?_;rw[hbml];refine H ?_;rw[hbml,c1];refine bE O O (DD O O O O O J hbi O) ?_;refine ar hlead ?_;refine H ?_;refine bS [44] [2] aT ?_;refine H ?_;refine qj O O O (FV O hsO O aI O ⟨g_ O,?_⟩);refine JS hsF ?_;refine H ?_;rw[hbml];refine bE O O (JR 0 (n+2) O O O O (.inl ⟨O,O⟩) (.inr ⟨_,_,O,O⟩) J (by rw[jk];omega) (fun _=>rfl)) ?_;rw[List.drop_zero,<-hVd];have hVml:(V.map eU).length=n+2:=by rw[List.length_map,hVl]
 refine H ?_;rw[hVml];refine H ?_;rw[c2];refine aH (iN O O O O O O O O J (by show(2:Int)*_<=_;omega) J ?_);rw[Int.toNat_natCast,li];refine H ?_;rw[c2];refine H ?_;rw[c3];rw[hb]at hstart hba;have hst0:=hstart (List.replicate (a.length+1-(n+2)) 0) ah;clear hstart;refine ap (DivI V (a.length+1) (n+2) (nv a*2^s)) (fun z=>[(4,.als 57 1 0 (z.2.2.map eU).length),(8,I s),(9,.als 44 1 0 (z.2.1.map eU).length),(10,.fsl (V.map eU)),(11,I ((n+2:Nat):Int)),(12,I ((z.1:Int)-1))])
  (fun z=>Hp 1 1 z.2.1 z.2.2) (fun z=>z.1) (a.length+1-(n+2),R0,List.replicate (a.length+1-(n+2)) 0) hst0 ⟨O,O,O,O,O,O,O,O,trivial⟩ ?_
 rintro⟨k,R,Q⟩ s1 hI;have hk:=hI.k;have hRl2:=hI.r;have hQl:=hI.q;simp only at hk hRl2 hQl;dsimp only;refine D ?_ ?_<;>intro h
 .have hk0:0<k:=by have:=aC h;omega
  clear h;obtain⟨j,rfl⟩:∃j,k=j+1:=⟨k-1,J⟩;have e1:(((j+1:Nat):Int)-1)=(j:Nat):=J;rw[e1];obtain⟨w1,w2,w3⟩:=yq hVl J hI;have hRml:(R.map eU).length=a.length+1:=by rw[List.length_map,hRl2]
  have e2:IntKind.i64.wrap (IntKind.i64.wrap ((j:Int)+((n+2:Nat):Int))+1)=((j+(n+3):Nat):Int):=by
   rw[wrap_i64 (n:=(j:Int)+((n+2:Nat):Int)) J J,wrap_i64 J J];omega
  obtain⟨r,hr⟩:=mH (R:=Q) (i:=j) J
  ((repeat ((fail_if_success (with_reducible refine aQ 13 ?_));refine cx O ?_));refine aM 10 ?_)
  refine H ?_;rw[e2];refine bE O O (JQ j (j+(n+3)) O O O O O O (.inr ⟨_,_,O,O⟩) (.inr ⟨_,_,O,O⟩) J (by rw[hRml];omega)) ?_;rw[Nat.zero_add j,show j+(n+3)-j=n+3 by omega];refine H ?_;refine aV O (Cq (n:=n) (j:=j) (R:=R) (V:=V) (Qr:=Q) hVl J J hVtop w2 O O ⟨O,O,trivial⟩ fun s3 R' hd=>?_);obtain⟨hq16,hnx⟩:=Cr hVl J hV0 hI hd;refine aO ?_;refine H ?_;refine bE O O (bO O O O O O O O J (by rw[List.length_map];omega)) ?_;rw[Int.toNat_natCast,Nat.zero_add j];rw[show PV.int .u16 ((uw R j (n+3)/nv V:Nat):Int)=PV.int .u16 ((UInt16.ofNat (uw R j (n+3)/nv V)).toNat:Int) by rw[be,Nat.mod_eq_of_lt hq16]];refine bL (bN (kd':=0) O O O hr O O aI O O O O ?_);refine H ?_;refine⟨(j,R',Q.set j (UInt16.ofNat (uw R j (n+3)/nv V))),hnx,by simp only;omega,?_,O,?_,O,O,?_,O,?_,trivial⟩
  .show PV.als 57 1 0 (Q.map eU).length=_;simp
  .show PV.als 44 1 0 (R.map eU).length=_;rw[List.length_map,List.length_map,hd.l]
  .exact congrArg I (wrap_i64 J J)
  .exact dQ 1 57 1 0 j Q (UInt16.ofNat (uw R j (n+3)/nv V))
 .have hk0:k=0:=by have:=aG h;omega
  subst hk0;clear h;obtain⟨hQv,hRv2⟩:=Fu hVv hb0 hI;refine H ?_;refine aH (iN O O O O O O O O J (by show(2:Int)*_<=_;omega) J ?_);generalize (s1.own 80).1=g8;rw[Int.toNat_natCast,li];refine H ?_;refine ap (RemI R (n+2) s) (fun q=>[(4,.als 57 1 0 (Q.map eU).length),(5,.als 80 (g8+1) 0 (q.2.map eU).length),(8,I s),(9,.als 44 1 0 (R.map eU).length),(81,I ((n+2:Nat):Int)),(82,I q.1)])
   (fun q=>[(44,1,⟨57,1,R.map eU,0⟩),(57,1,⟨57,1,Q.map eU,0⟩),(80,g8+1,⟨57,1,q.2.map eU,0⟩)]) (fun q=>n+2-q.1) (0,List.replicate (n+2) 0) ⟨Nat.zero_le _,ah,by simp[nv];omega⟩ ⟨O,O,O,O,O,O,O,O,O,trivial⟩ ?_
  rintro⟨i,P⟩ s3 hJ;have hi:=hJ.i;have hPl:=hJ.l;simp only at hi hPl;dsimp only;refine D ?_ ?_<;>intro h
  .have hi2:i<n+2:=by have:=aC h;omega
   clear h;have hst:=DM hJ hs15 J hi2;have h1:=lM (R:=R) (i:=i) J;have h2:=lM (R:=R) (i:=i+1) J;have b1:=dF R i;have b2:=dF R (i+1);have hsh:=HJ (x:=ul R (i+1)) b2;have hor:=I4 b1 b2;obtain⟨r,hr⟩:=mH (R:=P) (i:=i) J;have ei:IntKind.i64.wrap ((i:Int)+1)=((i+1:Nat):Int):=by rw[wrap_i64 J J];omega
   refine cn 19 [85,86,87,88,89,90,91,92,93,94,95,96,97,98,99,100,101,102,103] ?_;refine H ?_;refine bE O O (bO O O O O O O O J (by rw[List.length_map];omega)) ?_;rw[Int.toNat_natCast,Nat.zero_add i];refine bE O O (cu O O O h1 O) ?_;refine H ?_;rw[ov R i];refine H ?_;rw[ei];refine bE O O (bO O O O O O O O J (by rw[List.length_map];omega)) ?_;rw[Int.toNat_natCast,Nat.zero_add (i+1)];refine bE O O (cu O O O h2 O) ?_;refine H ?_;rw[ov R (i+1)];refine H ?_;rw[hsh];refine H ?_;rw[hor];refine H ?_;refine bE O O (QOp.v O (show(0:Int)<=(s:Int)/\(s:Int)<=(IntKind.u32.bits:Nat) by constructor;omega;show(s:Int)<=32;omega)) ?_;rw[show((ul R i+65536*ul R (i+1):Nat):Int)/2^((s:Nat):Int).toNat=(((ul R i+65536*ul R (i+1))/2^s:Nat):Int) by rw[Int.toNat_natCast,Int.natCast_ediv,Int.natCast_pow];rfl];refine H ?_;rw[wrap_u16];refine bE O O (bO O O O O O O O J (by rw[List.length_map];omega)) ?_;rw[Int.toNat_natCast,Nat.zero_add i];refine H ?_;refine bL (bN (kd':=0) O O O hr O O aI O O O O ?_);refine H ?_;refine⟨(i+1,_),hst,by simp only;omega,O,?_,O,O,O,cg J J,O,O,?_,trivial⟩
   .show PV.als 80 (g8+1) 0 (P.map eU).length=_;simp
   .exact dQ (g8+1) 57 1 0 i P (UInt16.ofNat ((ul R i+65536*ul R (i+1))/2^s))
  .have hi2:i=n+2:=by have:=aG h;omega
   subst hi2;clear h;have hPv:nv P=nv a%nv b:=by
    have h1:=hJ.v;simp only at h1;rw[List.take_of_length_le J,hRv2,Nat.mul_div_cancel _ hp]at h1;rw[h1];refine Nat.mod_eq_of_lt (Nat.lt_trans (Nat.mod_lt _ hb0) ?_);rw[<-hb];exact co b
   have ht1:=cF Q J;rw[aX,hQv]at ht1;have ht2:=cF P J;rw[aX,hPv]at ht2
   ((repeat ((fail_if_success (with_reducible refine aQ 20 ?_));refine cx O ?_));refine aM 1 ?_)
   refine H ?_;refine aV O (dD (Ghost.takeF (enc:=eU) (t:=105) (Q) O O (O) O (fun _=>rfl)) ?_)
   (refine kj (dA O (ht1) O ?_ O) ?_;.repeat' constructor)
   refine aV O (dD (Ghost.refl _) (JM O trivial ?_));refine aV O (dD (Ghost.takeF (enc:=eU) (t:=107) (P) O O (O) O (fun _=>rfl)) ?_)
   (refine kj (dA O (ht2) O ?_ O) ?_;.repeat' constructor)
   refine aO ?_;refine H ?_;exact wO O O O O O trivial trivial O
theorem kJ (a b:List UInt16)(ha:a.length<=100000000)(hb:b.length<=100000000)(hta:Trm a)(htb:Trm b)(hb0:nv b≠0):Ret Tryz.prog .shared 225 [.sl (a.map eU),.sl (b.map eU)] (Fw a b):=by
 rcases Nat.lt_or_ge (nv a) (nv b) with h|h
 .exact z8 a b ha hb hta htb h
 .match b,hb,htb,hb0,h with
  |[],_,_,hb0,_=>exact absurd rfl hb0
  |[x],_,htb,_,h=>exact wL a x ha hta htb h
  |x::y::l,hb,htb,_,h=>exact ub a (x::y::l) (n:=l.length) ha rfl hta htb h
theorem AA:ay 1=[1]:=by rw[dI Y,show 1/65536=0 by decide,bM];rfl
theorem dV {n m:Nat}(h:n<=m):(ay n).length<=(ay m).length:=by
 refine ct ?_;have:=co (ay m);rw[aR]at this;omega
theorem c9 (l:List UInt16):(ay (nv l)).length<=l.length:=ct (co l)
set_option maxRecDepth 20000 in
theorem wG (a b:List UInt16)(ha:a.length<=100000000)(hb:b.length<=100000000)(hta:Trm a)(htb:Trm b):Ret Tryz.prog .shared 224 [.sl (a.map eU),.sl (b.map eU)] (.sl ((ay (Nat.gcd (nv a) (nv b))).map eU)):=by
 generalize hg:Nat.gcd (nv a) (nv b)=g;refine Ret.of_pwp layOk mixed Go.Proofs.Tryz.func224 O Y O O ?_;refine H ?_;refine ap (fun q:List UInt16 × List UInt16=>q.1.length<=100000000/\q.2.length<=100000000/\Trm q.1/\Trm q.2/\Nat.gcd (nv q.1) (nv q.2)=g) (fun q=>[(0,.sl (q.1.map eU)),(1,.sl (q.2.map eU))]) (fun _=>[]) (fun q=>nv q.2) (a,b) ⟨ha,hb,hta,htb,hg⟩ ⟨O,O,trivial⟩ ?_;rintro⟨A,B⟩ s ⟨hA,hB,htA,htB,hG⟩;simp only at hA hB htA htB hG;dsimp only;have hBm:(B.map eU).length=B.length:=ah;refine D ?_ ?_<;>intro h
 .have hB0:0<B.length:=by have:=aC h;omega
  clear h;have hB0v:nv B≠0:=by
   match B,hB0,htB with
   |x::l,_,h=>exact ou h
  have hw1:=wi A J;have hw2:=wi B J;have main:(A.length<=4/\B.length<=4)\/¬(A.length<=4/\B.length<=4):=Classical.em _;have hd:=kJ A B hA hB htA htB hB0v;rw[Fw]at hd;have hml:=Nat.mod_lt (nv A) (Nat.pos_of_ne_zero hB0v);have hnext:(ay (nv A%nv B)).length<=100000000:=by
   have h1:=dV (Nat.le_of_lt hml);have h2:=c9 B;omega
  have hG2:Nat.gcd (nv B) (nv (ay (nv A%nv B)))=g:=by rw[aR,Nat.gcd_comm,<-Nat.gcd_rec,Nat.gcd_comm];exact hG
  by_cases h1:A.length<=4
  .rw[if_pos h1]at hw1;have hAl:nv A<18446744073709551616:=by
    have:=co A;have h3:65536^A.length<=65536^4:=da h1;have:(65536:Nat)^4=18446744073709551616:=Y;omega
   by_cases h2:B.length<=4
   .rw[if_pos h2]at hw2;have hBl:nv B<18446744073709551616:=by
     have:=co B;have h3:65536^B.length<=65536^4:=da h2;have:(65536:Nat)^4=18446744073709551616:=Y;omega
    clear main hd;generalize nv A=av at *
    generalize nv B=bv at *
    refine ar hw1 ?_;refine ar hw2 ?_;refine H ?_;refine ap (fun q:Nat × Nat=>q.1<18446744073709551616/\q.2<18446744073709551616/\Nat.gcd q.1 q.2=g) (fun q=>[(5,.int .u64 (q.1:Nat)),(7,.int .u64 (q.2:Nat))]) (fun _=>[]) (fun q=>q.2) (av,bv) ⟨hAl,hBl,hG⟩ ⟨O,O,trivial⟩ ?_;rintro⟨x,y⟩ s2 ⟨hx,hy,hg2⟩;simp only at hx hy hg2;dsimp only;refine D ?_ ?_<;>intro h
    .have hy0:0<y:=by have:=aC h;omega
     clear h;have hm:=Nat.mod_lt x hy0;refine H ?_;refine bS [] [] aT ?_;refine H ?_;refine bE O O (QOp.v O (show ¬((y:Nat):Int)=0 by omega)) ?_;rw[pX];refine H ?_;exact⟨(y,x%y),⟨hy,by simp only;omega,by simp only;rw[Nat.gcd_comm,<-Nat.gcd_rec,Nat.gcd_comm];exact hg2⟩,hm,O,O,trivial⟩
    .have hy0:y=0:=by have:=aG h;omega
     subst hy0;clear h;rw[Nat.gcd_zero_right]at hg2;subst hg2;refine G (nC x hx) ?_;refine H ?_;exact iq O O O trivial O
   .rw[if_neg h2]at hw2;refine ar hw1 ?_;refine ar hw2 ?_;refine G hd ?_;refine H ?_;exact⟨(B,ay (nv A%nv B)),⟨hB,hnext,htB,bK _,hG2⟩,by simp only;rw[aR];exact hml,O,O,trivial⟩
  .rw[if_neg h1]at hw1;by_cases h2:B.length<=4
   .rw[if_pos h2]at hw2;refine ar hw1 ?_;refine ar hw2 ?_;refine G hd ?_;refine H ?_;exact⟨(B,ay (nv A%nv B)),⟨hB,hnext,htB,bK _,hG2⟩,by simp only;rw[aR];exact hml,O,O,trivial⟩
   .rw[if_neg h2]at hw2;refine ar hw1 ?_;refine ar hw2 ?_;refine G hd ?_;refine H ?_;exact⟨(B,ay (nv A%nv B)),⟨hB,hnext,htB,bK _,hG2⟩,by simp only;rw[aR];exact hml,O,O,trivial⟩
 .have hB0:B.length=0:=by have:=aG h;omega
  clear h;have hB0v:=List.length_eq_zero_iff.1 hB0;subst hB0v;rw[nv,Nat.gcd_zero_right]at hG;rw[<-hG,gh htA];refine H ?_;exact iq O O O trivial O
theorem uS (a b:RI)(hb:nv b.l≠0):ofQ ((a.val:Rat)/(b.val:Rat))=⟨cw (ez (a.neg != b.neg) (nv a.l/Nat.gcd (nv a.l) (nv b.l))),cw (ez false (nv b.l/Nat.gcd (nv a.l) (nv b.l)))⟩:=by
 have hbv:b.val≠0:=by intro h;have:=b.val_abs;rw[h]at this;exact hb this.symm
 rw[FZ _ _ hbv,a.val_abs,b.val_abs,n8,n8];have hg:0<Nat.gcd (nv a.l) (nv b.l):=Nat.gcd_pos_of_pos_right _ (Nat.pos_of_ne_zero hb);have hbg:nv b.l/Nat.gcd (nv a.l) (nv b.l)≠0:=by
  have:=Nat.div_pos (Nat.le_of_dvd (Nat.pos_of_ne_zero hb) (Nat.gcd_dvd_right (nv a.l) (nv b.l))) hg;omega
 rw[if_neg hbg];congr 1;by_cases ha:nv a.l=0
 .rw[ha,Nat.zero_div,if_pos O,bM];congr 1;have hav:a.val=0:=by rw[RI.val,ha];simp
  rw[hav];simp
 .have hag:nv a.l/Nat.gcd (nv a.l) (nv b.l)≠0:=by
   have:=Nat.div_pos (Nat.le_of_dvd (Nat.pos_of_ne_zero ha) (Nat.gcd_dvd_left (nv a.l) (nv b.l))) hg;omega
  rw[if_neg hag];congr 1;have e1:a.val<0↔a.neg=true:=by rw[RI.val];split<;>simp_all<;>omega
  have e2:0<a.val↔a.neg=false:=by rw[RI.val];split<;>simp_all<;>omega
  have e3:b.val<0↔b.neg=true:=by rw[RI.val];split<;>simp_all<;>omega
  have e4:0<b.val↔b.neg=false:=by rw[RI.val];split<;>simp_all<;>omega
  simp only[e1,e2,e3,e4];cases a.neg<;>cases b.neg<;>rfl
set_option maxRecDepth 20000 in
theorem dH (a b:RI)(ha:a.l.length<=90000000)(hb:b.l.length<=90000000)(hb0:nv b.l≠0):Ret Tryz.prog .shared 164 [.agg (eI a),.agg (eI b)] (.agg (eR (ofQ ((a.val:Rat)/(b.val:Rat))))):=by
 rw[uS a b hb0];obtain⟨an,al⟩:=a;obtain⟨bn,bl⟩:=b;simp only at ha hb hb0;dsimp only;have hta:=cF al J;have htb:=cF bl J;have hla:=c9 al;have hlb:=c9 bl;have hc:=wG (ay (nv al)) (ay (nv bl)) J J (bK _) (bK _);rw[aR,aR]at hc;have hg0:0<Nat.gcd (nv al) (nv bl):=Nat.gcd_pos_of_pos_right _ (Nat.pos_of_ne_zero hb0);have hgl:Nat.gcd (nv al) (nv bl)<=nv bl:=Nat.gcd_le_right _ (Nat.pos_of_ne_zero hb0);generalize Nat.gcd (nv al) (nv bl)=g at *
 rw[aX]at hta htb;have hgs:(ay g).length<=90000000:=by have:=dV hgl;omega
 have hda:=kJ (ay (nv al)) (ay g) J J (bK _) (bK _) (by rw[aR];omega);have hdb:=kJ (ay (nv bl)) (ay g) J J (bK _) (bK _) (by rw[aR];omega);rw[Fw,aR,aR]at hda hdb;have hsa:=ef (an != bn) (ay (nv al/g)) (by have:=dV (Nat.div_le_self (nv al) g);omega);have hsb:=ef false (ay (nv bl/g)) (by have:=dV (Nat.div_le_self (nv bl) g);omega);rw[aR]at hsa hsb;have hm:((ay g).map eU).length=(ay g).length:=ah;by_cases hg1:g=1
 .subst hg1;rw[Nat.div_one]at hsa hsb;rw[Nat.div_one,Nat.div_one];rw[AA]at hc;generalize ay (nv al)=A at *
  generalize ay (nv bl)=B at *
  generalize cw (ez (an != bn) (nv al))=X at *
  generalize cw (ez false (nv bl))=Y0 at *
  refine Ret.of_pwp layOk mixed Go.Proofs.Tryz.func164 O Y O O ?_;refine cn 8 [8,9,10,11,12,13,5,6] ?_;refine G hta ?_;refine G htb ?_;refine G hc ?_;refine H ?_;refine bE O O (jz O O O O O J (show([1]:List UInt16)[0]? = some 1 from O) O) ?_;refine G hsa ?_;refine G hsb ?_;exact bV
 .have hne:ay g≠[1]:=by
   intro h;have:=aR g;rw[h]at this;exact hg1 (by rw[<-this];rfl)
  generalize ay (nv al)=A at *
  generalize ay (nv bl)=B at *
  generalize cw (ez (an != bn) (nv al/g))=X at *
  generalize cw (ez false (nv bl/g))=Y0 at *
  generalize ay g=G0 at *
  generalize ay (nv al/g)=A2 at *
  generalize ay (nv bl/g)=B2 at *
  refine Ret.of_pwp layOk mixed Go.Proofs.Tryz.func164 O Y O O ?_;refine cn 8 [8,9,10,11,12,13,5,6] ?_;refine G hta ?_;refine G htb ?_;refine G hc ?_;refine H ?_;by_cases hl:G0.length=1
  .obtain⟨x,rfl⟩:=List.length_eq_one_iff.1 hl;have hx:x.toNat≠1:=fun h=>hne (by have h2:x=1:=p_ h;rw[h2]);refine H ?_;refine bE O O (jz O O O O O J (show [x][0]? = some x from O) O) ?_;refine D ?_ ?_<;>intro h
   .clear h;refine G hda ?_;refine G hdb ?_;refine G hsa ?_;refine G hsb ?_;exact bV
   .exfalso;simp at h;omega
  .refine Km O O O ?_ ?_<;>intro h
   .refine G hda ?_;refine G hdb ?_;refine G hsa ?_;refine G hsb ?_;exact bV
   .exfalso;simp at h;omega
def mB (z:Int):Int:=if z=0 then 0 else if z<0 then -1 else 1
theorem RI.val_zero (a:RI):a.val=0↔nv a.l=0:=by rw[RI.val];split<;>omega
theorem nk {l:List UInt16}:(aX l).length=0↔nv l=0:=by
 constructor
 .intro h;have h1:=cW l;rw[List.length_eq_zero_iff.1 h]at h1;exact h1.symm
 .intro h;rw[aX,h,bM];rfl
set_option maxRecDepth 20000 in
theorem mc (a:RI)(ha:a.l.length<=300000000):Ret Tryz.prog .shared 222 [.agg (eI a)] (I (mB a.val)):=by
 have ht:=cF a.l J;have hm:((aX a.l).map eU).length=(aX a.l).length:=ah;have h0:=nk (l:=a.l);have hz:=a.val_zero;have hv:a.val=if a.neg then -(nv a.l:Int) else(nv a.l:Int):=O
 generalize aX a.l=T at *
 obtain⟨an,al⟩:=a;simp only at *
 refine Ret.of_pwp layOk mixed Go.Proofs.Tryz.func222 O Y O O ?_;refine G ht ?_;refine D ?_ ?_<;>intro h
 .have h1:nv al=0:=h0.1 (by have:=aC h;omega);rw[mB,if_pos (hz.2 h1)];exact cp
 .have h1:nv al≠0:=by
   intro h1;have h2:=aG h;have:=h0.2 h1;omega
  rw[mB,if_neg (fun h=>h1 (hz.1 h))];clear h;cases an
  .rw[if_neg (by rw[hv];simp only[Bool.false_eq_true,if_false];omega)];exact cp
  .rw[if_pos (by rw[hv];simp only[if_true];omega)];exact cp
def dn (x:RR):RI:=if nv x.d.l=0 then⟨false,[1]⟩ else x.d
theorem Ik (x:RR):(dn x).val=x.d.den:=by
 rw[dn,RI.den];split
 .rfl
 .rfl
theorem yt (x:RR):nv (dn x).l≠0:=by
 rw[dn];split
 .decide
 .assumption
theorem Ij {x:RR}{n:Nat}(h:x.d.l.length<=n)(hn:1<=n):(dn x).l.length<=n:=by
 rw[dn];split
 .exact hn
 .exact h
theorem RR.val_dn (x:RR):x.val=(x.n.val:Rat)/((dn x).val:Rat):=by rw[Ik];rfl
set_option maxRecDepth 20000 in
theorem dG (x:RR)(hx:x.d.l.length<=300000000):Ret Tryz.prog .shared 163 [.agg (eR x)] (.agg (eI (dn x))):=by
 have hs:=mc x.d hx;rw[dn];by_cases h0:nv x.d.l=0
 .rw[if_pos h0];rw[mB,if_pos (x.d.val_zero.2 h0)]at hs;refine Ret.of_pwp layOk mixed Go.Proofs.Tryz.func163 O Y O O ?_;refine ar hs ?_;refine H ?_;refine aH (bx 0 O O O O O O O O O O O aI O ?_);exact bV
 .rw[if_neg h0];have h1:mB x.d.val≠0:=by rw[mB,if_neg (fun h=>h0 (x.d.val_zero.1 h))];split<;>decide
  generalize mB x.d.val=v at *
  refine Ret.of_pwp layOk mixed Go.Proofs.Tryz.func163 O Y O O ?_;refine ar hs ?_;refine D ?_ ?_<;>intro h
  .exact absurd (aC h) h1
  .exact bV
theorem kV (x:RR)(hx:x.n.l.length<=300000000):Ret Tryz.prog .shared 161 [.agg (eR x)] (.bool (decide (x.val=0))):=by
 have hs:=mc x.n hx;have e:decide (x.val=0)=decide (mB x.n.val=0):=by
  have h1:=x.n.val_zero;by_cases h:nv x.n.l=0
  .rw[decide_eq_true (x.zero_iff.2 h),mB,if_pos (h1.2 h)];rfl
  .rw[decide_eq_false (fun h2=>h (x.zero_iff.1 h2)),mB,if_neg (fun h2=>h (h1.1 h2))];split<;>rfl
 rw[e];refine Ret.of_pwp layOk mixed Go.Proofs.Tryz.func161 O Y O O ?_;refine ar hs ?_;exact gV
theorem Gv (a b:Int)(hb:b≠0):mB a*mB b=if a=0 then 0 else if (a<0/\0<b)\/(0<a/\b<0) then -1 else 1:=by
 unfold mB;rw[if_neg hb];by_cases h0:a=0
 .rw[if_pos h0,if_pos h0];omega
 .rw[if_neg h0,if_neg h0];split<;>split<;>split<;>omega
theorem y7 (x:RR):sgn x.val=mB x.n.val*mB (dn x).val:=by
 have hd:(dn x).val≠0:=by rw[Ne,RI.val_zero];exact yt x
 rw[Gv _ _ hd,RR.val_dn];generalize x.n.val=a;generalize (dn x).val=b at *
 have h:=(sY a b hd).2.2;rw[sgn];have hq:(a:Rat)/(b:Rat)=0↔a=0:=by
  have hb:(b:Rat)≠0:=by exact_mod_cast hd
  constructor
  .intro h;have:(a:Rat)=0:=aW
   exact_mod_cast this
  .intro h;subst h;grind
 have hlt:(a:Rat)/(b:Rat)<0↔(a<0/\0<b)\/(0<a/\b<0):=by
  rw[<-h];have h1:=Rat.num_nonneg (q:=(a:Rat)/(b:Rat));grind
 by_cases h0:a=0
 .rw[if_pos h0,if_neg (by rw[hlt];omega),if_pos (hq.2 h0)]
 .rw[if_neg h0];by_cases h1:(a<0/\0<b)\/(0<a/\b<0)
  .rw[if_pos h1,if_pos (hlt.2 h1)]
  .rw[if_neg h1,if_neg (fun h=>h1 (hlt.1 h)),if_neg (fun h=>h0 (hq.1 h))]
theorem pw (z:Int):(cw z).l=ay z.natAbs:=rfl
theorem RI.lt (a:RI):a.val.natAbs<65536^a.l.length:=by rw[RI.val_abs];exact co _
theorem cU (a b:RI):(cw (a.val*b.val)).l.length<=a.l.length+b.l.length:=by
 rw[pw,Int.natAbs_mul];exact ct (fG a.lt b.lt)
theorem uU (a b:RI){n:Nat}(ha:a.l.length<=n)(hb:b.l.length<=n):(cw (a.val+b.val)).l.length<=n+1:=by
 rw[pw];refine ct ?_;have h1:=a.lt;have h2:=b.lt;have h3:=da ha;have h4:=da hb;rw[Nat.pow_succ];omega
theorem tI {A B:List UInt16}{n:Nat}(hA:A.length<=n)(hB:B.length<=n):(ay (nv A+nv B)).length<=n+1:=by
 refine ct ?_;have h1:=co A;have h2:=co B;have h3:=da hA;have h4:=da hB;rw[Nat.pow_succ];omega
set_option maxRecDepth 20000 in
theorem gp (a b:RI)(ha:a.l.length<=90000000)(hb:b.l.length<=90000000):Ret Tryz.prog .shared 166 [.agg (eI a),.agg (eI b)] (.agg (eI (cw (a.val*b.val)))):=by
 have e:a.val*b.val=ez (a.neg != b.neg) (nv a.l*nv b.l):=by
  rw[a.val_sgz,b.val_sgz];cases a.neg<;>cases b.neg<;>simp[ez,Int.neg_mul,Int.mul_neg]
 have hl:=cU a b;rw[e]at hl ⊢;have hta:=cF a.l J;have htb:=cF b.l J;have hla:=cb a.l;have hlb:=cb b.l;have ht:=Bv (aX a.l) (aX b.l) J J;rw[cW,cW]at ht;have hs:=ef (a.neg != b.neg) (ay (nv a.l*nv b.l)) (by
  have:=ct (fG (co a.l) (co b.l));omega)
 rw[aR]at hs;obtain⟨an,al⟩:=a;obtain⟨bn,bl⟩:=b;simp only at *
 generalize aX al=A at *
 generalize aX bl=B at *
 generalize ay (nv al*nv bl)=C at *
 generalize cw (ez (an != bn) (nv al*nv bl))=X at *
 refine Ret.of_pwp layOk mixed Go.Proofs.Tryz.func166 O Y O O ?_;refine cn 13 [5,6,7,8,9,10,11,12,13,14,15,16,17] ?_;refine G hta ?_;refine G htb ?_;refine G ht ?_;refine G hs ?_;exact bV
set_option maxRecDepth 20000 in
theorem BY (a b:RI)(ha:a.l.length<=90000000)(hb:b.l.length<=90000000):Ret Tryz.prog .shared 165 [.agg (eI a),.agg (eI b)] (.agg (eI (cw (a.val+b.val)))):=by
 have hta:=cF a.l J;have htb:=cF b.l J;have hla:=cb a.l;have hlb:=cb b.l;have hA:=fp a.l;have hB:=fp b.l;have hnA:=cW a.l;have hnB:=cW b.l;rw[a.val_sgz,b.val_sgz];obtain⟨an,al⟩:=a;obtain⟨bn,bl⟩:=b;simp only at *
 rw[<-hnA,<-hnB];generalize aX al=A at *
 generalize aX bl=B at *
 have hp:=Dx A B J J;have hcm:=gH A B J J;have hcs:=(fW hA hB).1;have hlA:=c9 A;have hlB:=c9 B;have hlp:(ay (nv A+nv B)).length<=300000000:=by
  have:=tI (n:=100000000) (A:=A) (B:=B) J J;omega
 by_cases hs:an=bn
 .subst hs;have hd:=ef an (ay (nv A+nv B)) hlp;rw[aR]at hd;have e:ez an (nv A)+ez an (nv B)=ez an (nv A+nv B):=by cases an<;>simp only[ez,Bool.false_eq_true,if_false,if_true]<;>omega
  rw[e];generalize ay (nv A+nv B)=C at *
  generalize cw (ez an (nv A+nv B))=X at *
  refine Ret.of_pwp layOk mixed Go.Proofs.Tryz.func165 O Y O O ?_;refine cn 8 [7,8,9,10,11,12,5,6] ?_;refine G hta ?_;refine G htb ?_;refine D ?_ ?_<;>intro h
  .clear h;refine cn 6 [18,19,20,21,22,23] ?_;refine G hp ?_;refine G hd ?_;exact bV
  .exfalso;simp at h
 .have hmA:nv B<=nv A->Ret Tryz.prog .shared 229 [.sl (A.map eU),.sl (B.map eU)] (.sl ((ay (nv A-nv B)).map eU)):=ri A B J J;have hmB:nv A<=nv B->Ret Tryz.prog .shared 229 [.sl (B.map eU),.sl (A.map eU)] (.sl ((ay (nv B-nv A)).map eU)):=ri B A J J;have hlm:(ay (nv A-nv B)).length<=300000000:=by have:=dV (Nat.sub_le (nv A) (nv B));omega
  have hlm2:(ay (nv B-nv A)).length<=300000000:=by have:=dV (Nat.sub_le (nv B) (nv A));omega
  have hdA:=ef an (ay (nv A-nv B)) hlm;have hdB:=ef bn (ay (nv B-nv A)) hlm2;rw[aR]at hdA hdB;have eA:nv B<=nv A->ez an (nv A)+ez bn (nv B)=ez an (nv A-nv B):=by intro h;cases an<;>cases bn<;>simp_all only [ez,Bool.false_eq_true,if_false,if_true,not_true_eq_false,reduceCtorEq,not_false_eq_true]<;>omega
  have eB:nv A<=nv B->ez an (nv A)+ez bn (nv B)=ez bn (nv B-nv A):=by intro h;cases an<;>cases bn<;>simp_all only [ez,Bool.false_eq_true,if_false,if_true,not_true_eq_false,reduceCtorEq,not_false_eq_true]<;>omega
  generalize ez an (nv A)+ez bn (nv B)=Z at *
  generalize ay (nv A-nv B)=C at *
  generalize ay (nv B-nv A)=D0 at *
  generalize hX:cw (ez an (nv A-nv B))=X at *
  generalize hY:cw (ez bn (nv B-nv A))=Y0 at *
  refine Ret.of_pwp layOk mixed Go.Proofs.Tryz.func165 O Y O O ?_;refine cn 8 [7,8,9,10,11,12,5,6] ?_;refine G hta ?_;refine G htb ?_;refine D ?_ ?_<;>intro h
  .exfalso;simp at h;exact hs h
  .clear h;refine ar hcm ?_;refine D ?_ ?_<;>intro h
   .have hge:nv B<=nv A:=by
     have h1:=aC h;omega
    clear h;refine cn 6 [28,29,30,31,32,33] ?_;refine G (hmA hge) ?_;refine G hdA ?_;refine H ?_;exact wP O aI O aI (by rw[eA hge,hX];rfl)
   .have hge:nv A<=nv B:=by
     have h1:=aG h;omega
    clear h;refine cn 6 [34,35,36,37,38,39] ?_;refine G (hmB hge) ?_;refine G hdB ?_;refine H ?_;exact wP O aI O aI (by rw[eB hge,hY];rfl)
theorem fR {x:RR}{n:Nat}(h:x.d.l.length<=n):(dn x).l.length<=n+1:=Ij J J
theorem kK (x:RR):(dn x).val≠0:=by rw[Ne,RI.val_zero];exact yt x
theorem w9 {z:Int}(h:z≠0):nv (cw z).l≠0:=by rw[pw,aR];omega
theorem sS (a:RI):Ret Tryz.prog .shared 268 [.agg (eI a)] (.agg (eI ⟨!a.neg,a.l⟩)):=by
 obtain⟨an,al⟩:=a;refine Ret.of_pwp layOk mixed Go.Proofs.Tryz.func268 O Y O O ?_;exact bV
theorem pn (x:RR)(hn:x.n.l.length<=80000000)(hd:x.d.l.length<=80000000):Ret Tryz.prog .shared 162 [.agg (eR x)] (.agg (eR (ofQ x.val))):=by
 have hb:=dG x J;have hf:=dH x.n (dn x) J (by have:=fR hd;omega) (yt x);rw[<-RR.val_dn]at hf;generalize dn x=D0 at *
 generalize ofQ x.val=X at *
 refine Ret.of_pwp layOk mixed Go.Proofs.Tryz.func162 O Y O O ?_;refine cn 5 [3,4,5,6,7] ?_;refine G hb ?_;refine G hf ?_;exact bV
theorem sJ (x:RR)(hn:x.n.l.length<=80000000)(hd:x.d.l.length<=80000000):Ret Tryz.prog .shared 231 [.agg (eR x)] (.agg (eR (ofQ (-x.val)))):=by
 have hb:=dG x J;have ho:=sS x.n;have hf:=dH ⟨!x.n.neg,x.n.l⟩ (dn x) (by simp only;omega) (by have:=fR hd;omega) (yt x);have e:(RI.mk (!x.n.neg) x.n.l).val = -x.n.val:=by unfold RI.val;cases x.n.neg<;>simp
 rw[e,<-Gk,<-RR.val_dn]at hf;generalize dn x=D0 at *
 generalize ofQ (-x.val)=X at *
 generalize RI.mk (!x.n.neg) x.n.l=N at *
 refine Ret.of_pwp layOk mixed Go.Proofs.Tryz.func231 O Y O O ?_;refine cn 6 [3,4,5,6,7,8] ?_;refine G ho ?_;refine G hb ?_;refine G hf ?_;exact bV
theorem tG (x y:RR)(hxn:x.n.l.length<=20000000)(hxd:x.d.l.length<=20000000)(hyn:y.n.l.length<=20000000)(hyd:y.d.l.length<=20000000):Ret Tryz.prog .shared 91 [.agg (eR x),.agg (eR y)] (.agg (eR (ofQ (x.val+y.val)))):=by
 have hzx:=kV x J;have hzy:=kV y J;have hlx:=pn x J J;have hly:=pn y J J;have hbx:=dG x J;have hby:=dG y J;have hdx:=fR hxd;have hdy:=fR hyd;have l1:=cU x.n (dn y);have l2:=cU y.n (dn x);have l3:=cU (dn x) (dn y);have m1:=gp x.n (dn y) J J;have m2:=gp y.n (dn x) J J;have m3:=gp (dn x) (dn y) J J;have l4:=uU (cw (x.n.val*(dn y).val)) (cw (y.n.val*(dn x).val)) (n:=45000000) J J;have m4:=BY (cw (x.n.val*(dn y).val)) (cw (y.n.val*(dn x).val)) J J;rw[cm,cm]at m4 l4;have m5:=dH (cw (x.n.val*(dn y).val+y.n.val*(dn x).val)) (cw ((dn x).val*(dn y).val)) J J (w9 (Int.mul_ne_zero (kK x) (kK y)));rw[cm,cm,<-sV _ _ _ _ (kK x) (kK y),<-RR.val_dn,<-RR.val_dn]at m5;have e0:x.val=0->ofQ (x.val+y.val)=ofQ y.val:=fun h=>by rw[h,Rat.zero_add]
 have e1:y.val=0->ofQ (x.val+y.val)=ofQ x.val:=fun h=>by rw[h,Rat.add_zero]
 generalize cw (x.n.val*(dn y).val+y.n.val*(dn x).val)=W5 at *
 generalize cw (x.n.val*(dn y).val)=W1 at *
 generalize cw (y.n.val*(dn x).val)=W2 at *
 generalize cw ((dn x).val*(dn y).val)=W3 at *
 generalize dn x=A at *
 generalize dn y=B at *
 generalize ofQ (x.val+y.val)=X at *
 generalize ofQ x.val=X1 at *
 generalize ofQ y.val=X2 at *
 generalize x.val=xv at *
 generalize y.val=yv at *
 refine Ret.of_pwp layOk mixed Go.Proofs.Tryz.func91 O Y O O ?_;refine ar hzx ?_;refine D ?_ ?_<;>intro h
 .have e:=e0 (aC h);subst e;clear h;refine G hly ?_;exact bV
 clear h;refine ar hzy ?_;refine D ?_ ?_<;>intro h
 .have e:=e1 (aC h);subst e;clear h;refine G hlx ?_;exact bV
 clear h;refine H ?_;refine aZ 4 2 [15,16,17,18,5,6] [] aT O ?_;refine G hbx ?_;refine G hby ?_;refine cn 13 [19,20,21,22,23,24,25,26,27,28,29,30,31] ?_;refine G m1 ?_;refine G m2 ?_;refine G m4 ?_;refine G m3 ?_;refine G m5 ?_;exact bV
theorem eP {q:Rat}{n:Nat}(h:hq q n):(ofQ q).n.l.length<=n/\(ofQ q).d.l.length<=n:=(kr h).ok
theorem cJ (x y:RR){p q:Rat}{n m:Nat}[hx:Vq x p n][hy:Vq y q m](hn:n<=20000000)(hm:m<=20000000):Ret Tryz.prog .shared 91 [.agg (eR x),.agg (eR y)] (.agg (eR (ofQ (p+q)))):=by
 have h1:=hx.sz;have h2:=hy.sz;have:=tG x y J J J J;rwa [hx.val,hy.val]at this
theorem Dp {x:RR}{n:Nat}(h1:x.n.l.length<=n)(h2:x.d.l.length<=n):(ofQ (-x.val)).n.l.length<=n+1/\(ofQ (-x.val)).d.l.length<=n+1 :=
 eP (o9 (SZ.hq (x:=x) ⟨h1,h2⟩))
theorem EA (x y:RR)(hxn:x.n.l.length<=10000000)(hxd:x.d.l.length<=10000000)(hyn:y.n.l.length<=10000000)(hyd:y.d.l.length<=10000000):Ret Tryz.prog .shared 169 [.agg (eR x),.agg (eR y)] (.agg (eR (ofQ (x.val-y.val)))):=by
 have hneg:=sJ y J J;have hl:=Dp hyn hyd;have ha:=tG x (ofQ (-y.val)) J J J J;rw[ofQ_val,<-Rat.sub_eq_add_neg]at ha;generalize ofQ (-y.val)=Y0 at *
 generalize ofQ (x.val-y.val)=X at *
 refine Ret.of_pwp layOk mixed Go.Proofs.Tryz.func169 O Y O O ?_;refine cn 4 [5,6,7,8] ?_;refine G hneg ?_;refine G ha ?_;exact bV
theorem jc (x y:RR){p q:Rat}{n m:Nat}[hx:Vq x p n][hy:Vq y q m](hn:n<=10000000)(hm:m<=10000000):Ret Tryz.prog .shared 169 [.agg (eR x),.agg (eR y)] (.agg (eR (ofQ (p-q)))):=by
 have h1:=hx.sz;have h2:=hy.sz;have:=EA x y J J J J;rwa [hx.val,hy.val]at this
theorem Dh (x y:RR)(hxn:x.n.l.length<=20000000)(hxd:x.d.l.length<=20000000)(hyn:y.n.l.length<=20000000)(hyd:y.d.l.length<=20000000):Ret Tryz.prog .shared 109 [.agg (eR x),.agg (eR y)] (.agg (eR (ofQ (x.val*y.val)))):=by
 have hbx:=dG x J;have hby:=dG y J;have hdx:=fR hxd;have hdy:=fR hyd;have l1:=cU x.n y.n;have l3:=cU (dn x) (dn y);have m1:=gp x.n y.n J J;have m3:=gp (dn x) (dn y) J J;have m5:=dH (cw (x.n.val*y.n.val)) (cw ((dn x).val*(dn y).val)) J J (w9 (Int.mul_ne_zero (kK x) (kK y)));rw[cm,cm,<-yY,<-RR.val_dn,<-RR.val_dn]at m5;generalize cw (x.n.val*y.n.val)=W1 at *
 generalize cw ((dn x).val*(dn y).val)=W3 at *
 generalize dn x=A at *
 generalize dn y=B at *
 generalize ofQ (x.val*y.val)=X at *
 refine Ret.of_pwp layOk mixed Go.Proofs.Tryz.func109 O Y O O ?_;refine cn 11 [5,6,7,8,9,10,11,12,13,14,15] ?_;refine G m1 ?_;refine G hbx ?_;refine G hby ?_;refine G m3 ?_;refine G m5 ?_;exact bV
theorem eW (x y:RR){p q:Rat}{n m:Nat}[hx:Vq x p n][hy:Vq y q m](hn:n<=20000000)(hm:m<=20000000):Ret Tryz.prog .shared 109 [.agg (eR x),.agg (eR y)] (.agg (eR (ofQ (p*q)))):=by
 have h1:=hx.sz;have h2:=hy.sz;have:=Dh x y J J J J;rwa [hx.val,hy.val]at this
theorem AO (x y:RR)(hxn:x.n.l.length<=20000000)(hxd:x.d.l.length<=20000000)(hyn:y.n.l.length<=20000000)(hyd:y.d.l.length<=20000000)(h0:y.val≠0):Ret Tryz.prog .shared 273 [.agg (eR x),.agg (eR y)] (.agg (eR (ofQ (x.val/y.val)))):=by
 have hbx:=dG x J;have hby:=dG y J;have hdx:=fR hxd;have hdy:=fR hyd;have hy0:y.n.val≠0:=by rw[Ne,RI.val_zero,<-RR.zero_iff];exact h0
 have l1:=cU x.n (dn y);have l3:=cU (dn x) y.n;have m1:=gp x.n (dn y) J J;have m3:=gp (dn x) y.n J J;have m5:=dH (cw (x.n.val*(dn y).val)) (cw ((dn x).val*y.n.val)) J J (w9 (Int.mul_ne_zero (kK x) hy0));rw[cm,cm,<-sW,<-RR.val_dn,<-RR.val_dn]at m5;generalize cw (x.n.val*(dn y).val)=W1 at *
 generalize cw ((dn x).val*y.n.val)=W3 at *
 generalize dn x=A at *
 generalize dn y=B at *
 generalize ofQ (x.val/y.val)=X at *
 refine Ret.of_pwp layOk mixed Go.Proofs.Tryz.func273 O Y O O ?_;refine cn 11 [5,6,7,8,9,10,11,12,13,14,15] ?_;refine G hby ?_;refine G m1 ?_;refine G hbx ?_;refine G m3 ?_;refine G m5 ?_;exact bV
theorem JN (x y:RR){p q:Rat}{n m:Nat}[hx:Vq x p n][hy:Vq y q m](hn:n<=20000000)(hm:m<=20000000)(h0:q≠0):Ret Tryz.prog .shared 273 [.agg (eR x),.agg (eR y)] (.agg (eR (ofQ (p/q)))):=by
 have h1:=hx.sz;have h2:=hy.sz;have:=AO x y J J J J (by rw[hy.val];exact h0);rwa [hx.val,hy.val]at this
theorem pN (x:RR)(hn:x.n.l.length<=20000000)(hd:x.d.l.length<=20000000):Ret Tryz.prog .shared 168 [.agg (eR x)] (I (sgn x.val)):=by
 have hb:=dG x J;have h1:=mc x.n J;have h2:=mc (dn x) (by have:=fR hd;omega);rw[y7];have hw:IntKind.i64.wrap (mB x.n.val*mB (dn x).val)=mB x.n.val*mB (dn x).val:=by
  refine wrap_i64 ?_ ?_<;>(unfold mB;split<;>split<;>(try split)<;>(try split)<;>omega)
 generalize mB x.n.val=s1 at *
 generalize mB (dn x).val=s2 at *
 generalize dn x=D0 at *
 refine Ret.of_pwp layOk mixed Go.Proofs.Tryz.func168 O Y O O ?_;refine cn 8 [3,4,5,6,7,8,9,2] ?_;refine ar h1 ?_;refine G hb ?_;refine ar h2 ?_;refine H ?_;rw[hw];exact nu O O O
theorem HK (x:RR){p:Rat}{n:Nat}[hx:Vq x p n](hn:n<=20000000):Ret Tryz.prog .shared 168 [.agg (eR x)] (I (sgn p)):=by
 have h1:=hx.sz;have:=pN x J J;rwa [hx.val]at this
theorem yB (x:RR){p:Rat}{n:Nat}[hx:Vq x p n](hn:n<=20000000):Ret Tryz.prog .shared 161 [.agg (eR x)] (.bool (decide (p=0))):=by
 have h1:=hx.sz;have:=kV x J;rwa [hx.val]at this
theorem i9 (x y:RR){p q:Rat}{n m:Nat}[hx:Vq x p n][hy:Vq y q m](hn:n<=8000000)(hm:m<=8000000):Ret Tryz.prog .shared 93 [.agg (eR x),.agg (eR y)] (I (sgn (p-q))):=by
 have h1:=hx.sz;have h2:=hy.sz;have hs:=jc x y J J;have hh:hq (p-q) (n+1+(m+1)+1):=(HQ.sub (h1:=hx.hq) (h2:=hy.hq)).ok;have hl:=eP hh;have hg:=pN (ofQ (p-q)) J J;rw[ofQ_val]at hg;generalize ofQ (p-q)=X at *
 generalize sgn (p-q)=g at *
 refine Ret.of_pwp layOk mixed Go.Proofs.Tryz.func93 O Y O O ?_;refine G hs ?_;refine ar hg ?_;exact cp
theorem vj (x y:RR){p q:Rat}{n m:Nat}[hx:Vq x p n][hy:Vq y q m](hn:n<=20000000)(hm:m<=20000000):Ret Tryz.prog .shared 243 [.agg (eR x),.agg (eR y)] (if q=0 then .tup [.agg (eR RR.zero),I 9] else .tup [.agg (eR (ofQ (p/q))),I 0]):=by
 have hz:=yB y hm;by_cases h0:q=0
 .rw[if_pos h0];rw[decide_eq_true h0]at hz;refine Ret.of_pwp layOk mixed Go.Proofs.Tryz.func243 O Y O O ?_;refine ar hz ?_
  ((repeat ((fail_if_success (with_reducible refine eY ?_));refine cx O ?_));refine aE (Ghost.nilcell (k:=1007) (k0:=4) (i:=0) (j:=1) 57 1 0 O O O O (row:=[.bool false,.nil,.bool false,.nil]) O O O) ?_;refine aE (Ghost.nilcell (k:=1021) (k0:=4) (i:=0) (j:=3) 57 1 0 O O O O (row:=[.bool false,_,.bool false,.nil]) O O O) ?_)
  exact bV
 .rw[if_neg h0];rw[decide_eq_false h0]at hz;have ho:=JN x y hn hm h0;generalize ofQ (p/q)=X at *
  refine Ret.of_pwp layOk mixed Go.Proofs.Tryz.func243 O Y O O ?_;refine ar hz ?_;refine G ho ?_;exact bV
theorem ju {z:Int}(h:z.natAbs<18446744073709551616):(cw z).l.length<=4:=by
 rw[pw];refine ct ?_;have:(65536:Nat)^4=18446744073709551616:=Y;omega
theorem nL (z:Int):IntKind.u64.wrap z=z%18446744073709551616:=by
 have e:(2:Int)^64=18446744073709551616:=Y;simp only[IntKind.wrap,IntKind.bits,IntKind.signed,Bool.false_and,Bool.false_eq_true,if_false,e]
theorem wj {z:Int}(h0 : -9223372036854775808<=z)(h1:z<0):IntKind.u64.wrap (0-(IntKind.u64.wrap z))=((z.natAbs:Nat):Int):=by
 rw[nL,nL];omega
set_option maxRecDepth 20000 in
theorem sP (z:Int)(h0 : -9223372036854775808<=z)(h1:z<=9223372036854775807):Ret Tryz.prog .shared 180 [I z] (.agg (eI (cw z))):=by
 have hn:=nC z.natAbs J;have hl:=ju (z:=z) J;rw[pw]at hl;have hs:=ef (decide (z<0)) (ay z.natAbs) J;rw[aR]at hs;have e:ez (decide (z<0)) z.natAbs=z:=by
  by_cases h:z<0
  .rw[decide_eq_true h,ez,if_pos O];omega
  .rw[decide_eq_false h,ez,if_neg Y];omega
 rw[e]at hs;generalize cw z=X at *
 by_cases hz:z<0
 .have hw:=wj h0 hz;rw[decide_eq_true hz]at hs;generalize ay z.natAbs=A at *
  refine Ret.of_pwp layOk mixed Go.Proofs.Tryz.func180 O Y O O ?_;refine D ?_ ?_<;>intro h
  .clear h;refine H ?_;rw[hw];refine nR O O O hn O O ?_;refine G hs ?_;exact bV
  .exact absurd hz (aG h)
 .have hw:IntKind.u64.wrap z=((z.natAbs:Nat):Int):=by
   rw[wrap_u64 J J];omega
  rw[decide_eq_false hz]at hs;generalize ay z.natAbs=A at *
  refine Ret.of_pwp layOk mixed Go.Proofs.Tryz.func180 O Y O O ?_;refine D ?_ ?_<;>intro h
  .exact absurd (aC h) hz
  .clear h;refine H ?_;rw[hw];refine nR O O O hn O O ?_;refine G hs ?_;exact bV
theorem j8 (a:RI)(ha:a.l.length<=90000000):Ret Tryz.prog .shared 179 [.agg (eI a)] (.agg (eR (ofQ (a.val:Rat)))):=by
 have hf:=dH a ⟨false,[1]⟩ ha Y Y;rw[show(RI.mk false [1]).val=1 by rfl]at hf;rw[show((a.val:Rat)/((1:Int):Rat))=(a.val:Rat) by grind]at hf;generalize ofQ (a.val:Rat)=X at *
 refine Ret.of_pwp layOk mixed Go.Proofs.Tryz.func179 O Y O O ?_;refine H ?_;refine bE O O (dj O O O O O O O O O O aI O) ?_;refine G hf ?_;exact bV
theorem fi (z:Int)(h0 : -9223372036854775808<=z)(h1:z<=9223372036854775807):Ret Tryz.prog .shared 283 [I z] (.agg (eR (ofQ (z:Rat)))):=by
 have ho:=sP z h0 h1;have hw:=j8 (cw z) (by have:=ju (z:=z) J;omega);rw[cm]at hw;generalize ofQ (z:Rat)=X at *
 generalize cw z=Z at *
 refine Ret.of_pwp layOk mixed Go.Proofs.Tryz.func283 O Y O O ?_;refine G ho ?_;refine G hw ?_;exact bV
def dg (l:List UInt16)(i:Nat):Nat:=(l.getD i 0).toNat
theorem ee (l:List UInt16)(i:Nat):dg l i<65536:=bk _
theorem Cm {l:List UInt16}{i:Nat}(h:l.length<=i):dg l i=0:=by
 rw[dg,List.getD_eq_getElem?_getD,List.getElem?_eq_none h];rfl
theorem rl (l:List UInt16)(i:Nat):nv (l.take (i+1))=nv (l.take i)+65536^i*dg l i:=by
 rcases Nat.lt_or_ge i l.length with h|h
 .exact dr (cA h)
 .rw[Cm h,List.take_of_length_le h,List.take_of_length_le J];omega
structure RPlus (A B:List UInt16) (q:Nat × List UInt16 × Nat):Prop where
 l:q.2.1.length=q.1
 c:q.2.2<=1
 k:q.1<=A.length+B.length+1
 v:nv q.2.1+65536^q.1*q.2.2=nv (A.take q.1)+nv (B.take q.1)
theorem xy {A B:List UInt16}{k:Nat}{L:List UInt16}{c:Nat}(h:RPlus A B (k,L,c))(hk:k<A.length\/k<B.length\/0<c) :
  RPlus A B (k+1,L++[UInt16.ofNat (dg A k+dg B k+c)],(dg A k+dg B k+c)/65536)/\k<A.length+B.length+1:=by
 obtain⟨h1,h2,h3,h4⟩:=h;simp only at h1 h2 h3 h4;have hx:=ee A k;have hy:=ee B k;have hkk:k<A.length+B.length+1:=by
  rcases Nat.lt_or_ge k (A.length+B.length+1) with g|g
  .exact g
  .exfalso;have hc:0<c:=J;have e1:=co A;have e2:=co B;rw[List.take_of_length_le (l:=A) J,List.take_of_length_le (l:=B) J]at h4;have p1:65536^A.length*65536<=65536^k:=by rw[<-Nat.pow_succ];exact Nat.pow_le_pow_right Y J
   have p2:65536^B.length*65536<=65536^k:=by rw[<-Nat.pow_succ];exact Nat.pow_le_pow_right Y J
   have p3:65536^k*1<=65536^k*c:=Nat.mul_le_mul_left _ hc;omega
 refine⟨⟨by simp[h1],by simp only;omega,by simp only;omega,?_⟩,hkk⟩;simp only;rw[n7,rl A,rl B,h1,be,Nat.pow_succ];have e:(dg A k+dg B k+c)%65536+65536*((dg A k+dg B k+c)/65536)=dg A k+dg B k+c:=Nat.mod_add_div _ _;generalize (dg A k+dg B k+c)%65536=m at *
 generalize (dg A k+dg B k+c)/65536=d at *
 generalize 65536^k=W at *
 have:W*(m+65536*d)=W*(dg A k+dg B k+c):=by rw[e]
 simp only[Nat.mul_add]at this;rw[Nat.mul_assoc];omega
theorem A8 {A B:List UInt16}{k:Nat}{L:List UInt16}{c:Nat}(h:RPlus A B (k,L,c))(hk:¬(k<A.length\/k<B.length\/0<c)):nv L=nv A+nv B:=by
 obtain⟨h1,h2,h3,h4⟩:=h;simp only at h1 h2 h3 h4;rw[List.take_of_length_le (l:=A) J,List.take_of_length_le (l:=B) J,show c=0 by omega]at h4;omega
structure RMin (A B:List UInt16) (q:Nat × List UInt16 × Nat):Prop where
 l:q.2.1.length=q.1
 c:q.2.2<=1
 k:q.1<=A.length
 v:nv q.2.1+nv (B.take q.1)=nv (A.take q.1)+65536^q.1*q.2.2
def BQ (x y c:Nat):Nat:=if x<y+c then x+65536-y-c else x-y-c
def Gt (x y c:Nat):Nat:=if x<y+c then 1 else 0
theorem HI {x y c:Nat}(hx:x<65536)(hy:y<65536)(hc:c<=1):BQ x y c+y+c=x+65536*Gt x y c/\BQ x y c<65536/\Gt x y c<=1:=by
 unfold BQ Gt;split<;>omega
theorem A4 {A B:List UInt16}{k:Nat}{L:List UInt16}{c:Nat}(h:RMin A B (k,L,c))(hk:k<A.length) :
  RMin A B (k+1,L++[UInt16.ofNat (BQ (dg A k) (dg B k) c)],Gt (dg A k) (dg B k) c):=by
 obtain⟨h1,h2,h3,h4⟩:=h;simp only at h1 h2 h3 h4;obtain⟨e,e2,e3⟩:=HI (ee A k) (ee B k) h2;refine⟨by simp[h1],e3,hk,?_⟩;simp only;rw[n7,rl A,rl B,h1,be,Nat.mod_eq_of_lt e2,Nat.pow_succ];generalize BQ (dg A k) (dg B k) c=m at *
 generalize Gt (dg A k) (dg B k) c=d at *
 generalize 65536^k=W at *
 have:W*(m+dg B k+c)=W*(dg A k+65536*d):=by rw[e]
 simp only[Nat.mul_add]at this;rw[Nat.mul_assoc];omega
theorem DT {A B L:List UInt16}{c:Nat}(h:RMin A B (A.length,L,c))(hle:nv B<=nv A):nv L=nv A-nv B:=by
 obtain⟨h1,h2,h3,h4⟩:=h;simp only at h1 h2 h3 h4;rw[List.take_length]at h4;have e1:=co L;rw[h1]at e1;have e2:=w8 B A.length;have e3:nv (B.take A.length)=nv B/\c=0:=by
  have e4:65536^A.length≠0:=Nat.ne_of_gt (k_ _);have hc:c=0:=by
   rcases Nat.eq_zero_or_pos c with g|g
   .exact g
   .have:c=1:=J;subst this;have:=fj B A.length;omega
  refine⟨?_,hc⟩;subst hc;rcases Nat.lt_or_ge A.length B.length with g|g
  .have e5:=cT B A.length J;have e6:=co A;rcases Nat.eq_zero_or_pos (nv (B.drop A.length)) with g2|g2
   .rw[g2]at e5;omega
   .have:65536^A.length*1<=65536^A.length*nv (B.drop A.length):=Nat.mul_le_mul_left _ g2;omega
  .rw[List.take_of_length_le g]
 rw[e3.1,e3.2]at h4;omega
structure RTimO (A B:List UInt16) (q:Nat × List UInt16):Prop where
 i:q.1<=A.length
 l:q.2.length=A.length+B.length+1
 v:nv q.2=nv (A.take q.1)*nv B
structure RTimI (A B:List UInt16) (i:Nat) (q:Nat × List UInt16 × Nat):Prop where
 k:q.1<=B.length+1
 l:q.2.1.length=A.length+B.length+1
 c:q.2.2<65536
 v:nv q.2.1+65536^(i+q.1)*q.2.2=nv (A.take i)*nv B+65536^i*(dg A i*nv (B.take q.1))
theorem xA {A B:List UInt16}{i:Nat}{R:List UInt16}(h:RTimO A B (i,R)):RTimI A B i (0,R,0):=⟨Nat.zero_le _,h.l,Nat.zero_lt_succ _,by
 have:=h.v;simp only at this ⊢
 rw[List.take_zero,nv];omega⟩
theorem IR {A B:List UInt16}{i k:Nat}{R:List UInt16}{c:Nat}(h:RTimI A B i (k,R,c))(hk:k<B.length\/0<c):k<=B.length:=by
 rcases hk with hk|hk
 .omega
 .obtain⟨h1,h2,h3,h4⟩:=h;simp only at h1 h2 h3 h4;rcases Nat.lt_or_ge B.length k with g|g
  .exfalso;rw[List.take_of_length_le (l:=B) J]at h4;have e1:=fj A i;have e2:=ee A i;have e3:=co B;have e4:nv (A.take i)*nv B+65536^i*(dg A i*nv B)=(nv (A.take i)+65536^i*dg A i)*nv B:=by rw[Nat.add_mul,Nat.mul_assoc]
   have e5:nv (A.take i)+65536^i*dg A i<65536^(i+1):=by
    have:65536^i*dg A i<=65536^i*65535:=Nat.mul_le_mul_left _ J;rw[Nat.pow_succ];omega
   have e6:(nv (A.take i)+65536^i*dg A i)*nv B<65536^(i+1+B.length):=fG e5 e3;have e7:65536^(i+1+B.length)<=65536^(i+k):=Nat.pow_le_pow_right Y J;have e8:65536^(i+k)*1<=65536^(i+k)*c:=Nat.mul_le_mul_left _ hk;omega
  .exact g
theorem Bb {A B:List UInt16}{i k:Nat}{R:List UInt16}{c:Nat}{r:UInt16}(h:RTimI A B i (k,R,c))(hkB:k<=B.length)(hr:R[i+k]? = some r) :
  RTimI A B i (k+1,R.set (i+k) (UInt16.ofNat (r.toNat+dg A i*dg B k+c)),(r.toNat+dg A i*dg B k+c)/65536):=by
 obtain⟨h1,h2,h3,h4⟩:=h;simp only at h1 h2 h3 h4;have hx:=ee A i;have hyl:=ee B k;have hrl:=bk r;have hm:=uN hx hyl;refine⟨by simp only;omega,by simp[h2],by simp only;omega,?_⟩;simp only;have hs:=Dm hr (UInt16.ofNat (r.toNat+dg A i*dg B k+c));rw[be]at hs;rw[rl B,show i+(k+1)=(i+k)+1 by omega,Nat.pow_succ];have e:=Nat.mod_add_div (r.toNat+dg A i*dg B k+c) 65536;generalize (r.toNat+dg A i*dg B k+c)%65536=m at *
 generalize (r.toNat+dg A i*dg B k+c)/65536=d at *
 have e2:65536^i*(dg A i*(nv (B.take k)+65536^k*dg B k))=65536^i*(dg A i*nv (B.take k))+65536^(i+k)*(dg A i*dg B k):=by
  rw[Nat.mul_add,Nat.mul_add,Nat.pow_add];congr 1;simp only[Nat.mul_assoc,Nat.mul_left_comm,Nat.mul_comm]
 rw[e2];generalize 65536^(i+k)=W at *
 have e3:W*(m+65536*d)=W*(r.toNat+dg A i*dg B k+c):=by rw[e]
 simp only[Nat.mul_add]at e3;rw[Nat.mul_assoc];omega
theorem Ba {A B:List UInt16}{i k:Nat}{R:List UInt16}{c:Nat}(h:RTimI A B i (k,R,c))(hi:i<A.length)(hk:¬(k<B.length\/0<c)):RTimO A B (i+1,R):=by
 obtain⟨h1,h2,h3,h4⟩:=h;simp only at h1 h2 h3 h4;rw[List.take_of_length_le (l:=B) J,show c=0 by omega]at h4;refine⟨hi,h2,?_⟩;simp only;rw[rl A,Nat.add_mul,Nat.mul_assoc];omega
structure ROvr (A B:List UInt16) (q:Nat × List UInt16 × Nat):Prop where
 i:q.1<=A.length
 l:q.2.1.length=A.length
 u:nv (q.2.1.drop q.1)=nv (A.drop q.1)/nv B
 r:q.2.2=nv (A.drop q.1)%nv B
theorem xr {A B:List UInt16}:ROvr A B (A.length,List.replicate A.length 0,0) :=
 ⟨aP,ah,by simp[nv],by simp[nv]⟩
theorem A7 {A B:List UInt16}{i:Nat}{Q:List UInt16}{r:Nat}{x:UInt16}(hb:0<nv B)(h:ROvr A B (i+1,Q,r))(hx:A[i]? = some x) :
  (x.toNat+65536*r)/nv B<65536/\ROvr A B (i,Q.set i (UInt16.ofNat ((x.toNat+65536*r)/nv B)),(x.toNat+65536*r)%nv B):=by
 obtain⟨h1,h2,h3,h4⟩:=h;simp only at h1 h2 h3 h4;have hxl:=bk x;have hrb:r<nv B:=by rw[h4];exact Nat.mod_lt _ hb
 have hq:(x.toNat+65536*r)/nv B<65536:=by
  refine Nat.div_lt_of_lt_mul ?_;have:65536*(r+1)<=65536*nv B:=Nat.mul_le_mul_left _ hrb;rw[Nat.mul_comm (nv B)];omega
 refine⟨hq,by simp only;omega,by simp[h2],?_,?_⟩
 .simp only;have hget:(Q.set i (UInt16.ofNat ((x.toNat+65536*r)/nv B)))[i]? = some (UInt16.ofNat ((x.toNat+65536*r)/nv B)):=List.getElem?_set_self J;rw[eX hget,eX hx,be,Nat.mod_eq_of_lt hq];have e2:(Q.set i (UInt16.ofNat ((x.toNat+65536*r)/nv B))).drop (i+1)=Q.drop (i+1):=by
   apply List.ext_getElem?;intro j;rw[List.getElem?_drop,List.getElem?_drop,List.getElem?_set_ne J]
  rw[e2,h3];generalize nv (A.drop (i+1))=D0 at *
  have e3:=Nat.mod_add_div D0 (nv B);rw[<-h4]at e3;have e4:x.toNat+65536*D0=(x.toNat+65536*r)+nv B*(65536*(D0/nv B)):=by
   have e5:nv B*(65536*(D0/nv B))=65536*(nv B*(D0/nv B)):=by rw[Nat.mul_left_comm]
   rw[e5];omega
  rw[e4,Nat.add_mul_div_left _ _ hb]
 .simp only;rw[eX hx];generalize nv (A.drop (i+1))=D0 at *
  have e3:=Nat.mod_add_div D0 (nv B);rw[<-h4]at e3;have e4:x.toNat+65536*D0=(x.toNat+65536*r)+nv B*(65536*(D0/nv B)):=by
   have e5:nv B*(65536*(D0/nv B))=65536*(nv B*(D0/nv B)):=by rw[Nat.mul_left_comm]
   rw[e5];omega
  rw[e4,Nat.add_mul_mod_self_left]
theorem DW {A B Q:List UInt16}{r:Nat}(h:ROvr A B (0,Q,r)):nv Q=nv A/nv B/\r=nv A%nv B:=by
 have h1:=h.u;have h2:=h.r;simp only[List.drop_zero]at h1 h2;exact⟨h1,h2⟩
def eD (x:UInt16):List PV:=[I x.toNat]
theorem ip (a:List UInt16)(i:Nat)(ha:a.length<=1000000000)(hi:i<=4000000000):Ret Tryz.prog .shared 221 [.sl (a.map eD),I i] (I (dg a i)):=by
 have hal:(a.map eD).length=a.length:=ah;by_cases hlt:i<a.length
 .have hx:=cA (l:=a) (i:=i) hlt;rw[dg];generalize a.getD i 0=x at *
  refine Ret.of_pwp layOk mixed Go.Proofs.Tryz.func221 O Y O O ?_;refine D ?_ ?_<;>intro h
  .clear h;refine aS hx ?_;exact cp
  .have:=aG h;omega
 .rw[Cm J];refine Ret.of_pwp layOk mixed Go.Proofs.Tryz.func221 O Y O O ?_;refine D ?_ ?_<;>intro h
  .have:=aC h;omega
  .exact cp
theorem fZ (l:List UInt16)(hl:l.length<=1000000000):Ret Tryz.prog .shared 220 [.sl (l.map eD)] (.sl ((aX l).map eD)):=by
 have hml:(l.map eD).length=l.length:=ah;refine Ret.of_pwp layOk mixed Go.Proofs.Tryz.func220 O Y O O ?_;refine H ?_;refine ap (fun k=>k<=l.length/\nv (l.take k)=nv l) (fun k=>[(0,.sl (l.map eD)),(3,I (k:Nat))]) (fun _=>[]) (fun k=>k) l.length ⟨aP,by rw[List.take_length]⟩ ⟨O,by rw[<-hml];rfl,trivial⟩ ?_;rintro k s ⟨hk,hv⟩;have hkl:(l.take k).length=k:=by rw[List.length_take];omega
 have fin:(∀j,k=j+1->∀x,l[j]? = some x->x.toNat≠0)->l.take k=aX l:=by
  intro h0;rw[aX,<-hv];refine(gh fun y hy=>?_).symm;rw[List.getLast?_eq_getElem?,hkl]at hy;have hk0:0<k:=by
   rcases Nat.eq_zero_or_pos k with h|h
   .subst h;rw[List.take_zero]at hy;cases hy
   .exact h
  rw[List.getElem?_take,if_pos J]at hy;exact h0 (k-1) J y hy
 have ending:(l.take k).map eD=(l.map eD).take k:=by rw[List.map_take]
 refine dE ?_ ?_<;>intro h
 .have hk0:0<k:=by have:=aC h;omega
  clear h;obtain⟨j,rfl⟩:∃j,k=j+1:=⟨k-1,J⟩;obtain⟨x,hx⟩:=aJ (show j<l.length by omega);have hw1:IntKind.i64.wrap (((j+1:Nat):Int)-1)=(j:Nat):=by rw[wrap_i64 J J];omega
  refine H ?_;rw[hw1];refine Gj O O O O O O O hx O ?_;refine D ?_ ?_<;>intro h
  .have hx0:x.toNat=0:=by have:=aC h;omega
   clear h;refine H ?_;refine⟨j,⟨J,?_⟩,J,O,congrArg I hw1,trivial⟩;rw[<-hv,dr hx,hx0];omega
  .have hx0:x.toNat≠0:=by have:=aG h;omega
   clear h;have ht:=fin fun j' hj' x' hx'=>by
    obtain rfl:j=j':=J;rw[hx]at hx';cases hx';exact hx0
   rw[ht]at ending;have htl:((aX l).map eD).length=j+1:=by rw[List.length_map,<-ht,hkl]
   refine H ?_;refine aH (bx 0 O O O O O O O O O O O aI O ?_);refine H ?_;refine bE O O (mT (n:=((j+1:Nat):Int)) O O O O O J J (fun _=>rfl)) ?_;rw[Int.toNat_natCast,List.map_take,<-ending];refine H ?_;refine aH (bQ 1 O O O O O O O O O O O aI (by intro row hr;obtain⟨p,_,rfl⟩:=List.mem_map.1 hr;rfl) O O (by simp;have:=cb l;omega) (by simp;have:=cb l;omega) ?_);exact bV
 .have hk0:k=0:=by have:=aG h;omega
  subst hk0;clear h;have ht:=fin fun j' hj'=>by omega
  rw[ht]at ending;refine H ?_;refine aH (bx 0 O O O O O O O O O O O aI O ?_);refine H ?_;refine bE O O (mT (n:=((0:Nat):Int)) O O O O O J J (fun _=>rfl)) ?_;rw[Int.toNat_natCast,List.map_take,<-ending];refine H ?_;refine aH (bQ 1 O O O O O O O O O O O aI (by intro row hr;obtain⟨p,_,rfl⟩:=List.mem_map.1 hr;rfl) O O (by simp;have:=cb l;omega) (by simp;have:=cb l;omega) ?_);exact bV
theorem eg {α:Type}{l:List α}{k:Nat}{x:α}(h:l[k]? = some x):l.take (k+1)=l.take k++[x]:=by
 rw[List.take_add_one,h];rfl
set_option maxRecDepth 20000 in
theorem fA (l:List UInt16)(hl:l.length<=900000000):Ret Tryz.prog .shared 152 [.sl (l.map eU)] (.sl ((aX l).map eD)):=by
 have hml:(l.map eU).length=l.length:=ah;have ht:=fZ l J;refine Ret.of_pwp layOk mixed Go.Proofs.Tryz.func152 O Y O O ?_
 ((repeat (first|refine aY ?_ | refine cE ?_ | refine cz ?_ | refine cB ?_));refine bq ?_)
 refine jb O trivial ?_
 ((repeat (first|refine aY ?_ | refine cE ?_ | refine cz ?_ | refine cB ?_));refine bq ?_)
 (first|refine aH (gZ 3 1 0 O O ?_)|refine aH (gY 3 1 0 O O ?_))
 refine H ?_;refine ap (fun k=>k<=l.length) (fun k=>[(0,.sl (l.map eU)),(3,.als 3 (k+1) 0 ((l.take k).map eD).length),(4,I (k:Nat))]) (fun k=>[(3,k+1,⟨3,1,(l.take k).map eD,0⟩)]) (fun k=>l.length-k) 0 (Nat.zero_le _) ⟨O,O,O,O,trivial⟩ ?_;intro k s hk;refine D ?_ ?_<;>intro h
 .have hlt:k<l.length:=by have:=aC h;omega
  clear h;obtain⟨x,hx⟩:=aJ hlt;have hxl:=bk x;have hkl:(l.take k).length=k:=by rw[List.length_take];omega
  have hw:=fc k;have hcx:IntKind.i64.wrap (x.toNat:Int)=(x.toNat:Int):=wrap_i64 J J;refine aS hx ?_;refine H ?_;rw[hcx];refine aH (bx 0 O O O O O O O O O O O aI O ?_);refine H ?_;refine aH (bQ 0 O O O O O O O O O O O aI (by intro row hr;first|(simp at hr;subst hr;rfl)|simp at hr) O O aU aU ?_);refine H ?_;refine⟨k+1,hlt,J,O,?_,congrArg I hw,?_,trivial⟩
  .rw[eg hx,List.map_append];rfl
  .rw[eg hx,List.map_append];rfl
 .have hge:k=l.length:=by have:=aG h;omega
  subst hge;clear h;rw[List.take_length]
  ((repeat ((fail_if_success (with_reducible refine aQ 6 ?_));refine cx O ?_));refine aM 1 ?_)
  refine fB O ?_;refine aY ?_;refine aV O (dD (Ghost.takeF (enc:=eD) (t:=19) (l) O O (O) O (fun _=>rfl)) ?_)
  (refine kj (dA O (ht) O ?_ O) ?_;.repeat' constructor)
  refine aO ?_;refine H ?_;exact iq O O O trivial O
theorem l8 (a b:List UInt16)(ha:a.length<=1000000000)(hb:b.length<=1000000000):Ret Tryz.prog .shared 158 [.sl (a.map eD),.sl (b.map eD)] (I (j9 a b)):=by
 have hal:(a.map eD).length=a.length:=ah;have hbl:(b.map eD).length=b.length:=ah;by_cases he:a.length=b.length
 .rw[j9,if_pos he];have hw0:IntKind.i64.wrap (((((a.map eD).length:Nat):Int))-1)=(a.length:Int)-1:=by rw[hal,wrap_i64 J J]
  refine Ret.of_pwp layOk mixed Go.Proofs.Tryz.func158 O Y O O ?_;refine D ?_ ?_<;>intro h
  .simp at h;omega
  clear h;refine H ?_;rw[hw0];refine ap (fun k:Nat=>k<=a.length/\lG a b k=lG a b a.length) (fun k=>[(0,.sl (a.map eD)),(1,.sl (b.map eD)),(5,I ((k:Int)-1))]) (fun _=>[]) (fun k=>k) a.length ⟨aP,O⟩ ⟨O,O,O,trivial⟩ ?_;rintro k s ⟨hk,hc⟩;rw[<-hc];refine D ?_ ?_<;>intro h
  .have hk0:0<k:=by have:=aC h;omega
   clear h;obtain⟨j,rfl⟩:∃j,k=j+1:=⟨k-1,J⟩;have e1:(((j+1:Nat):Int)-1)=(j:Nat):=J;rw[e1];have hx:=cA (l:=a) (i:=j) J;have hy:=cA (l:=b) (i:=j) J;have hc1:lG a b (j+1)=if (a.getD j 0).toNat=(b.getD j 0).toNat then lG a b j else((a.getD j 0).toNat:Int)-(b.getD j 0).toNat:=O
   have hxl:=bk (a.getD j 0);have hyl:=bk (b.getD j 0);generalize a.getD j 0=x at *
   generalize b.getD j 0=y at *
   refine cn 9 [23,24,25,26,27,28,29,30,31] ?_;refine aS hx ?_;refine aS hy ?_;refine D ?_ ?_<;>intro h
   .have hne:¬x.toNat=y.toNat:=by simp at h;intro he;apply h;omega
    clear h;rw[if_neg hne]at hc1;rw[hc1];refine cn 10 [32,33,34,35,36,37,38,39,40,4] ?_;refine aS hx ?_;refine aS hy ?_;refine H ?_;rw[wrap_i64 (n:=(x.toNat:Int)-(y.toNat:Int)) J J];exact cp
   .have hne:x.toNat=y.toNat:=by simp at h;omega
    clear h;rw[if_pos hne]at hc1;refine H ?_;refine⟨j,⟨J,by rw[<-hc1,hc]⟩,J,O,O,?_,trivial⟩;exact congrArg I (wrap_i64 J J)
  .have hk0:k=0:=by have:=aG h;omega
   subst hk0;clear h;exact cp
 .rw[j9,if_neg he];refine Ret.of_pwp layOk mixed Go.Proofs.Tryz.func158 O Y O O ?_;refine D ?_ ?_<;>intro h
  .refine H ?_;rw[hal,hbl,wrap_i64 J J];exact nu O O O
  .simp at h;omega
theorem od (a:Nat):Int.tmod (a:Int) 65536=((UInt16.ofNat a).toNat:Int):=by
 rw[be,Int.tmod_eq_emod_of_nonneg J];omega
theorem oa (a:Nat):Int.tdiv (a:Int) 65536=((a/65536:Nat):Int):=by
 rw[Int.tdiv_eq_ediv_of_nonneg J];omega
theorem jN (k:Nat)(l:List UInt16)(a:UInt16):PV.als k (l.length+1+1) 0 (l.map eD++[eD a]).length=PV.als k ((l++[a]).length+1) 0 ((l++[a]).map eD).length:=by simp
theorem io (T sz kd:Nat)(l:List UInt16)(a:UInt16):(l.length+1+1,some (Cont.mk T sz (l.map eD++[eD a]) kd))=((l++[a]).length+1,some (Cont.mk T sz ((l++[a]).map eD) kd)):=by simp
set_option maxRecDepth 20000 in
theorem A9 (a b:List UInt16)(ha:a.length<=400000000)(hb:b.length<=400000000):Ret Tryz.prog .shared 157 [.sl (a.map eD),.sl (b.map eD)] (.sl ((ay (nv a+nv b)).map eD)):=by
 have hal:(a.map eD).length=a.length:=ah;have hbl:(b.map eD).length=b.length:=ah;refine Ret.of_pwp layOk mixed Go.Proofs.Tryz.func157 O Y O O ?_
 ((repeat (first|refine aY ?_ | refine cE ?_ | refine cz ?_ | refine cB ?_));refine bq ?_)
 refine jb O trivial ?_
 ((repeat (first|refine aY ?_ | refine cE ?_ | refine cz ?_ | refine cB ?_));refine bq ?_)
 (first|refine aH (gZ 3 1 0 O O ?_)|refine aH (gY 3 1 0 O O ?_))
 refine H ?_;refine ap (RPlus a b) (fun q=>[(0,.sl (a.map eD)),(1,.sl (b.map eD)),(5,.als 5 (q.2.1.length+1) 0 (q.2.1.map eD).length),(6,I (q.2.2:Nat)),(7,I (q.1:Nat))]) (fun q=>[(5,q.2.1.length+1,⟨3,1,q.2.1.map eD,0⟩)]) (fun q=>a.length+b.length+1-q.1) (0,[],0)
  ⟨O,Y,by simp only;omega,by simp[nv]⟩ ⟨O,O,O,O,O,O,trivial⟩ ?_
 rintro⟨k,L,c⟩ s hI;have hc:=hI.c;have hLl:=hI.l;have hkk:=hI.k;simp only at hc hLl hkk;dsimp only;have hstep:=fun h=>xy hI h;have hend:=fun h=>A8 hI h;have e1:=ip a k J J;have e2:=ip b k J J;have hxl:=ee a k;have hyl:=ee b k;have hw:=fc k;have s1:IntKind.i64.wrap ((dg a k:Int)+(dg b k:Int))=((dg a k+dg b k:Nat):Int):=by rw[wrap_i64 J J];omega
 have s2:IntKind.i64.wrap (((dg a k+dg b k:Nat):Int)+(c:Int))=((dg a k+dg b k+c:Nat):Int):=by rw[wrap_i64 J J];omega
 generalize dg a k=x at *
 generalize dg b k=y at *
 have hr:Int.tmod ((x+y+c:Nat):Int) 65536=((UInt16.ofNat (x+y+c)).toNat:Int):=od _;have hq:IntKind.i64.wrap (Int.tdiv ((x+y+c:Nat):Int) 65536)=(((x+y+c)/65536:Nat):Int):=by rw[oa,wrap_i64]<;>omega
 refine dE ?_ ?_<;>intro h
 .have hyes:k<a.length\/k<b.length\/0<c := .inl (by have:=aC h;rw[hal]at this;omega);clear h;have hst:=(hstep hyes).1;have hlt:=(hstep hyes).2;refine ar e1 ?_;refine ar e2 ?_;refine H ?_;rw[s1];refine H ?_;rw[s2];refine H ?_;refine bE O O (QOp.v O (show ¬(65536:Int)=0 by decide)) ?_;rw[hr];refine aH (bx 0 O O O O O O O O O O O aI O ?_);refine H ?_;refine aH (bQ 0 O O O O O O O O O O O aI (by intro row hr;first|(simp at hr;subst hr;rfl)|simp at hr) O O aU aU ?_);refine H ?_;refine bE O O (QOp.v O (show ¬(65536:Int)=0 by decide)) ?_;rw[hq];refine H ?_;refine⟨(k+1,L++[UInt16.ofNat (x+y+c)],(x+y+c)/65536),hst,by simp only;omega,O,O,?_,O,congrArg I hw,?_,trivial⟩
  .exact jN 5 L (UInt16.ofNat (x+y+c))
  .exact io 3 1 0 L (UInt16.ofNat (x+y+c))
 .have h1:¬k<a.length:=by have:=aG h;rw[hal]at this;omega
  clear h;refine dE ?_ ?_<;>intro h
  .have hyes:k<a.length\/k<b.length\/0<c := .inr (.inl (by have:=aC h;rw[hbl]at this;omega));clear h;have hst:=(hstep hyes).1;have hlt:=(hstep hyes).2;refine ar e1 ?_;refine ar e2 ?_;refine H ?_;rw[s1];refine H ?_;rw[s2];refine H ?_;refine bE O O (QOp.v O (show ¬(65536:Int)=0 by decide)) ?_;rw[hr];refine aH (bx 0 O O O O O O O O O O O aI O ?_);refine H ?_;refine aH (bQ 0 O O O O O O O O O O O aI (by intro row hr;first|(simp at hr;subst hr;rfl)|simp at hr) O O aU aU ?_);refine H ?_;refine bE O O (QOp.v O (show ¬(65536:Int)=0 by decide)) ?_;rw[hq];refine H ?_;refine⟨(k+1,L++[UInt16.ofNat (x+y+c)],(x+y+c)/65536),hst,by simp only;omega,O,O,?_,O,congrArg I hw,?_,trivial⟩
   .exact jN 5 L (UInt16.ofNat (x+y+c))
   .exact io 3 1 0 L (UInt16.ofNat (x+y+c))
  .have h2:¬k<b.length:=by have:=aG h;rw[hbl]at this;omega
   clear h;refine D ?_ ?_<;>intro h
   .have hyes:k<a.length\/k<b.length\/0<c := .inr (.inr (by have:=aC h;omega));clear h;have hst:=(hstep hyes).1;have hlt:=(hstep hyes).2;refine ar e1 ?_;refine ar e2 ?_;refine H ?_;rw[s1];refine H ?_;rw[s2];refine H ?_;refine bE O O (QOp.v O (show ¬(65536:Int)=0 by decide)) ?_;rw[hr];refine aH (bx 0 O O O O O O O O O O O aI O ?_);refine H ?_;refine aH (bQ 0 O O O O O O O O O O O aI (by intro row hr;first|(simp at hr;subst hr;rfl)|simp at hr) O O aU aU ?_);refine H ?_;refine bE O O (QOp.v O (show ¬(65536:Int)=0 by decide)) ?_;rw[hq];refine H ?_;refine⟨(k+1,L++[UInt16.ofNat (x+y+c)],(x+y+c)/65536),hst,by simp only;omega,O,O,?_,O,congrArg I hw,?_,trivial⟩
    .exact jN 5 L (UInt16.ofNat (x+y+c))
    .exact io 3 1 0 L (UInt16.ofNat (x+y+c))
   .have h3:¬0<c:=by have:=aG h;omega
    clear h;have hfin:=hend J;have ht:=fZ L J;rw[aX,hfin]at ht
    ((repeat ((fail_if_success (with_reducible refine aQ 9 ?_));refine cx O ?_));refine aM 1 ?_)
    refine fB O ?_;refine aY ?_;refine aV O (dD (Ghost.takeF (enc:=eD) (t:=41) (L) O O (O) O (fun _=>rfl)) ?_)
    (refine kj (dA O (ht) O ?_ O) ?_;.repeat' constructor)
    refine aO ?_;refine H ?_;exact iq O O O trivial O
set_option maxRecDepth 20000 in
theorem lj (a b:List UInt16)(ha:a.length<=900000000)(hb:b.length<=900000000)(hle:nv b<=nv a):Ret Tryz.prog .shared 159 [.sl (a.map eD),.sl (b.map eD)] (.sl ((ay (nv a-nv b)).map eD)):=by
 have hal:(a.map eD).length=a.length:=ah;refine Ret.of_pwp layOk mixed Go.Proofs.Tryz.func159 O Y O O ?_
 ((repeat (first|refine aY ?_ | refine cE ?_ | refine cz ?_ | refine cB ?_));refine bq ?_)
 refine jb O trivial ?_
 ((repeat (first|refine aY ?_ | refine cE ?_ | refine cz ?_ | refine cB ?_));refine bq ?_)
 (first|refine aH (gZ 3 1 0 O O ?_)|refine aH (gY 3 1 0 O O ?_))
 refine H ?_;refine ap (RMin a b) (fun q=>[(0,.sl (a.map eD)),(1,.sl (b.map eD)),(5,.als 5 (q.2.1.length+1) 0 (q.2.1.map eD).length),(6,I (q.2.2:Nat)),(7,I (q.1:Nat))]) (fun q=>[(5,q.2.1.length+1,⟨3,1,q.2.1.map eD,0⟩)]) (fun q=>a.length-q.1) (0,[],0)
  ⟨O,Y,Nat.zero_le _,by simp[nv]⟩ ⟨O,O,O,O,O,O,trivial⟩ ?_
 rintro⟨k,L,c⟩ s hI;have hc:=hI.c;have hLl:=hI.l;have hkk:=hI.k;simp only at hc hLl hkk;dsimp only;refine D ?_ ?_<;>intro h
 .have hlt:k<a.length:=by have:=aC h;omega
  clear h;have hst:=A4 hI hlt;have hx:=cA (l:=a) (i:=k) hlt;have e2:=ip b k J J;have hxl:=ee a k;have hyl:=ee b k;have hw:=fc k;have hX:(a.getD k 0).toNat=dg a k:=O;generalize dg b k=y at *
  generalize dg a k=X at *
  generalize a.getD k 0=x at *
  subst hX;have s1:IntKind.i64.wrap ((x.toNat:Int)-(y:Int))=(x.toNat:Int)-(y:Int):=by rw[wrap_i64 J J]
  have s2:IntKind.i64.wrap ((x.toNat:Int)-(y:Int)-(c:Int))=(x.toNat:Int)-(y:Int)-(c:Int):=by rw[wrap_i64 J J]
  have hlen:(L.map eD).length=L.length:=ah;have hsd:=HI hxl hyl hc;have hrow:∀m:Nat,m<65536->eD (UInt16.ofNat m)=[I (m:Nat)]:=fun m hm=>by rw[eD,be,Nat.mod_eq_of_lt hm]
  by_cases hn:x.toNat<y+c
  .have hd:(x.toNat:Int)-(y:Int)-(c:Int)+65536=((BQ x.toNat y c:Nat):Int):=by rw[BQ,if_pos hn];omega
   have s3:IntKind.i64.wrap ((x.toNat:Int)-(y:Int)-(c:Int)+65536)=((BQ x.toNat y c:Nat):Int):=by rw[hd,wrap_i64 J J]
   have hcc:Gt x.toNat y c=1:=by rw[Gt,if_pos hn]
   rw[hcc]at hst;have hrw:=hrow _ hsd.2.1;generalize BQ x.toNat y c=D0 at *
   refine cn 11 [15,16,17,18,19,20,21,22,23,24,8] ?_;refine aS hx ?_;refine ar e2 ?_;refine H ?_;rw[s1];refine H ?_;rw[s2];refine D ?_ ?_<;>intro h
   .clear h;refine H ?_;rw[s3];refine H ?_;refine aH (bx 0 O O O O O O O O O O O aI O ?_);refine H ?_;refine aH (bQ 0 O O O O O O O O O O O aI (by intro row hr;first|(simp at hr;subst hr;rfl)|simp at hr) O O aU aU ?_);refine H ?_;refine⟨(k+1,L++[UInt16.ofNat D0],1),hst,by simp only;omega,O,O,?_,O,congrArg I hw,?_,trivial⟩
    .have:=jN 5 L (UInt16.ofNat D0);rw[hrw]at this;exact this
    .have:=io 3 1 0 L (UInt16.ofNat D0);rw[hrw]at this;exact this
   .have:=aG h;omega
  .have hd:(x.toNat:Int)-(y:Int)-(c:Int)=((BQ x.toNat y c:Nat):Int):=by rw[BQ,if_neg hn];omega
   rw[hd]at s2;have hcc:Gt x.toNat y c=0:=by rw[Gt,if_neg hn]
   rw[hcc]at hst;have hrw:=hrow _ hsd.2.1;generalize BQ x.toNat y c=D0 at *
   refine cn 11 [15,16,17,18,19,20,21,22,23,24,8] ?_;refine aS hx ?_;refine ar e2 ?_;refine H ?_;rw[s1];refine H ?_;rw[hd,s2];refine H ?_;refine aH (bx 0 O O O O O O O O O O O aI O ?_);refine H ?_;refine aH (bQ 0 O O O O O O O O O O O aI (by intro row hr;first|(simp at hr;subst hr;rfl)|simp at hr) O O aU aU ?_);refine H ?_;refine⟨(k+1,L++[UInt16.ofNat D0],0),hst,by simp only;omega,O,O,?_,O,congrArg I hw,?_,trivial⟩
   .have:=jN 5 L (UInt16.ofNat D0);rw[hrw]at this;exact this
   .have:=io 3 1 0 L (UInt16.ofNat D0);rw[hrw]at this;exact this
 .have hge:k=a.length:=by have:=aG h;omega
  subst hge;clear h;have hfin:=DT hI hle;have ht:=fZ L J;rw[aX,hfin]at ht
  ((repeat ((fail_if_success (with_reducible refine aQ 12 ?_));refine cx O ?_));refine aM 1 ?_)
  refine fB O ?_;refine aY ?_;refine aV O (dD (Ghost.takeF (enc:=eD) (t:=33) (L) O O (O) O (fun _=>rfl)) ?_)
  (refine kj (dA O (ht) O ?_ O) ?_;.repeat' constructor)
  refine aO ?_;refine H ?_;exact iq O O O trivial O
theorem DN (n:Nat):List.replicate n [PV.int .i64 0]=(List.replicate n (0:UInt16)).map eD:=by rw[List.map_replicate];rfl
theorem tK (k g i:Nat)(R:List UInt16)(y:UInt16):PV.als k g 0 (((R.map eD).set i (eD y))).length=PV.als k g 0 ((R.set i y).map eD).length:=by simp
theorem qQ (g T sz kd i:Nat)(R:List UInt16)(y:UInt16):(g,some (Cont.mk T sz ((R.map eD).set i (eD y)) kd))=(g,some (Cont.mk T sz ((R.set i y).map eD) kd)):=by rw[List.map_set]
set_option maxRecDepth 20000 in
theorem lp (a b:List UInt16)(ha:a.length<=400000000)(hb:b.length<=400000000):Ret Tryz.prog .shared 160 [.sl (a.map eD),.sl (b.map eD)] (.sl ((ay (nv a*nv b)).map eD)):=by
 have hal:(a.map eD).length=a.length:=ah;have hbl:(b.map eD).length=b.length:=ah;have hw0:IntKind.i64.wrap ((((a.map eD).length:Nat):Int)+(((b.map eD).length:Nat):Int))=((a.length+b.length:Nat):Int):=by rw[hal,hbl,wrap_i64 J J];omega
 have hw1:IntKind.i64.wrap (((a.length+b.length:Nat):Int)+1)=((a.length+b.length+1:Nat):Int):=by rw[wrap_i64 J J];omega
 refine Ret.of_pwp layOk mixed Go.Proofs.Tryz.func160 O Y O O ?_;refine H ?_;rw[hw0];refine H ?_;rw[hw1];refine aH (iN O O O O O O O O J (by show(8:Int)*_<=_;omega) J ?_);rw[Int.toNat_natCast,DN];refine H ?_;refine ap (RTimO a b) (fun q=>[(0,.sl (a.map eD)),(1,.sl (b.map eD)),(5,.als 16 1 0 (q.2.map eD).length),(6,I q.1)])
  (fun q=>[(16,1,⟨3,1,q.2.map eD,0⟩)]) (fun q=>a.length-q.1) (0,List.replicate (a.length+b.length+1) 0) ⟨Nat.zero_le _,ah,by simp[nv];exact sN _⟩ ⟨O,O,O,O,O,trivial⟩ ?_
 rintro⟨i,R⟩ s1 hO;have hi:=hO.i;have hRl:=hO.l;simp only at hi hRl;dsimp only;refine D ?_ ?_<;>intro h
 .have hlt:i<a.length:=by have:=aC h;omega
  clear h;refine H ?_;refine ap (RTimI a b i) (fun q=>[(0,.sl (a.map eD)),(1,.sl (b.map eD)),(5,.als 16 1 0 (q.2.1.map eD).length),(6,I i),(7,I (q.2.2:Nat)),(8,I (q.1:Nat))])
   (fun q=>[(16,1,⟨3,1,q.2.1.map eD,0⟩)]) (fun q=>b.length+1-q.1) (0,R,0) (xA hO) ⟨O,O,O,O,O,O,O,trivial⟩ ?_
  rintro⟨k,Q,c⟩ s2 hI;have hk:=hI.k;have hc:=hI.c;have hQl:=hI.l;simp only at hk hc hQl;dsimp only;have hQm:(Q.map eD).length=Q.length:=ah;have body:∀_:k<b.length\/0<c,True:=fun _=>trivial;clear body;have hkB:=fun h=>IR hI h;have hstep:=fun h=>Bb (r:=Q.getD (i+k) 0) hI h;have hnext:=fun h=>Ba hI hlt h;refine dE ?_ ?_<;>intro h
  .have hyes:k<b.length\/0<c := .inl (by have:=aC h;omega);clear h;have hkb:=hkB hyes;have hr:=cA (l:=Q) (i:=i+k) J;have hst:=hstep hkb hr;have hx:=cA (l:=a) (i:=i) hlt;have hX:(a.getD i 0).toNat=dg a i:=O;have hxl:=ee a i;have hyl:=ee b k;have e2:=ip b k J J;have hm:=uN hxl hyl;have hrl:=bk (Q.getD (i+k) 0);have hr2:(Q.map eD)[i+k]? = some (eD (Q.getD (i+k) 0)):=by rw[List.getElem?_map,hr];rfl
   have ei:IntKind.i64.wrap ((i:Int)+(k:Int))=((i+k:Nat):Int):=by rw[wrap_i64 J J];omega
   generalize Q.getD (i+k) 0=r at *
   generalize dg b k=y at *
   generalize dg a i=X at *
   generalize a.getD i 0=x at *
   subst hX;have s1:IntKind.i64.wrap ((x.toNat:Int)*(y:Int))=((x.toNat*y:Nat):Int):=by rw[<-Int.natCast_mul,wrap_i64 J J]
   have s2:IntKind.i64.wrap ((r.toNat:Int)+((x.toNat*y:Nat):Int))=((r.toNat+x.toNat*y:Nat):Int):=by rw[wrap_i64 J J];omega
   have s3:IntKind.i64.wrap (((r.toNat+x.toNat*y:Nat):Int)+(c:Int))=((r.toNat+x.toNat*y+c:Nat):Int):=by rw[wrap_i64 J J];omega
   generalize x.toNat*y=P at *
   have hrm:Int.tmod ((r.toNat+P+c:Nat):Int) 65536=((UInt16.ofNat (r.toNat+P+c)).toNat:Int):=od _;have hq:IntKind.i64.wrap (Int.tdiv ((r.toNat+P+c:Nat):Int) 65536)=(((r.toNat+P+c)/65536:Nat):Int):=by rw[oa,wrap_i64]<;>omega
   generalize hsm:r.toNat+P+c=sm at *
   refine cn 18 [33,34,35,36,37,38,39,40,41,42,43,44,45,46,47,48,49,9] ?_;refine H ?_;rw[ei];refine bE O O (bO O O O O O O O J (by rw[List.length_map];omega)) ?_;rw[Int.toNat_natCast,Nat.zero_add (i+k)];refine bE O O (cu O O O hr2 O) ?_;refine aS hx ?_;refine ar e2 ?_;refine H ?_;rw[s1];refine H ?_;rw[s2];refine H ?_;rw[s3];refine H ?_;rw[ei];refine H ?_;refine bE O O (QOp.v O (show ¬(65536:Int)=0 by decide)) ?_;rw[hrm];refine H ?_;refine bE O O (bO O O O O O O O J (by rw[List.length_map];omega)) ?_;rw[Int.toNat_natCast,Nat.zero_add (i+k)];refine bL (bN (kd':=0) O O O hr2 O O aI O O O O ?_);refine H ?_;refine bE O O (QOp.v O (show ¬(65536:Int)=0 by decide)) ?_;rw[hq];refine H ?_;refine⟨(k+1,_,_),hst,by simp only;omega,O,O,?_,O,O,cg J J,?_,trivial⟩
   .show PV.als 16 1 0 (Q.map eD).length=_;rw[<-tK 16 1 (i+k) Q (UInt16.ofNat sm),List.length_set]
   .exact qQ 1 3 1 0 (i+k) Q (UInt16.ofNat sm)
  .have h1:¬k<b.length:=by have:=aG h;omega
   clear h;refine D ?_ ?_<;>intro h
   .have hyes:k<b.length\/0<c := .inr (by have:=aC h;omega);clear h;have hkb:=hkB hyes;have hr:=cA (l:=Q) (i:=i+k) J;have hst:=hstep hkb hr;have hx:=cA (l:=a) (i:=i) hlt;have hX:(a.getD i 0).toNat=dg a i:=O;have hxl:=ee a i;have hyl:=ee b k;have e2:=ip b k J J;have hm:=uN hxl hyl;have hrl:=bk (Q.getD (i+k) 0);have hr2:(Q.map eD)[i+k]? = some (eD (Q.getD (i+k) 0)):=by rw[List.getElem?_map,hr];rfl
    have ei:IntKind.i64.wrap ((i:Int)+(k:Int))=((i+k:Nat):Int):=by rw[wrap_i64 J J];omega
    generalize Q.getD (i+k) 0=r at *
    generalize dg b k=y at *
    generalize dg a i=X at *
    generalize a.getD i 0=x at *
    subst hX;have s1:IntKind.i64.wrap ((x.toNat:Int)*(y:Int))=((x.toNat*y:Nat):Int):=by rw[<-Int.natCast_mul,wrap_i64 J J]
    have s2:IntKind.i64.wrap ((r.toNat:Int)+((x.toNat*y:Nat):Int))=((r.toNat+x.toNat*y:Nat):Int):=by rw[wrap_i64 J J];omega
    have s3:IntKind.i64.wrap (((r.toNat+x.toNat*y:Nat):Int)+(c:Int))=((r.toNat+x.toNat*y+c:Nat):Int):=by rw[wrap_i64 J J];omega
    generalize x.toNat*y=P at *
    have hrm:Int.tmod ((r.toNat+P+c:Nat):Int) 65536=((UInt16.ofNat (r.toNat+P+c)).toNat:Int):=od _;have hq:IntKind.i64.wrap (Int.tdiv ((r.toNat+P+c:Nat):Int) 65536)=(((r.toNat+P+c)/65536:Nat):Int):=by rw[oa,wrap_i64]<;>omega
    generalize hsm:r.toNat+P+c=sm at *
    refine cn 18 [33,34,35,36,37,38,39,40,41,42,43,44,45,46,47,48,49,9] ?_;refine H ?_;rw[ei];refine bE O O (bO O O O O O O O J (by rw[List.length_map];omega)) ?_;rw[Int.toNat_natCast,Nat.zero_add (i+k)];refine bE O O (cu O O O hr2 O) ?_;refine aS hx ?_;refine ar e2 ?_;refine H ?_;rw[s1];refine H ?_;rw[s2];refine H ?_;rw[s3];refine H ?_;rw[ei];refine H ?_;refine bE O O (QOp.v O (show ¬(65536:Int)=0 by decide)) ?_;rw[hrm];refine H ?_;refine bE O O (bO O O O O O O O J (by rw[List.length_map];omega)) ?_;rw[Int.toNat_natCast,Nat.zero_add (i+k)];refine bL (bN (kd':=0) O O O hr2 O O aI O O O O ?_);refine H ?_;refine bE O O (QOp.v O (show ¬(65536:Int)=0 by decide)) ?_;rw[hq];refine H ?_;refine⟨(k+1,_,_),hst,by simp only;omega,O,O,?_,O,O,cg J J,?_,trivial⟩
    .show PV.als 16 1 0 (Q.map eD).length=_;rw[<-tK 16 1 (i+k) Q (UInt16.ofNat sm),List.length_set]
    .exact qQ 1 3 1 0 (i+k) Q (UInt16.ofNat sm)
   .have h2:¬0<c:=by have:=aG h;omega
    clear h;have hst:=hnext J;refine H ?_;refine⟨(i+1,Q),hst,by simp only;omega,O,O,O,cg J J,O,trivial⟩
 .have hge:i=a.length:=by have:=aG h;omega
  subst hge;clear h;have hv:=hO.v;simp only[List.take_length]at hv;have ht:=fZ R J;rw[aX,hv]at ht
  ((repeat ((fail_if_success (with_reducible refine aQ 12 ?_));refine cx O ?_));refine aM 1 ?_)
  refine fB O ?_;refine aY ?_;refine aV O (dD (Ghost.takeF (enc:=eD) (t:=59) (R) O O (O) O (fun _=>rfl)) ?_)
  (refine kj (dA O (ht) O ?_ O) ?_;.repeat' constructor)
  refine aO ?_;refine H ?_;exact iq O O O trivial O
theorem Ds {m:Nat}(h:m<65536):nv [UInt16.ofNat m]=m:=by simp[nv];omega
theorem Cx {m:Nat}(h:m<65536):eD (UInt16.ofNat m)=[I (m:Nat)]:=by rw[eD,be,Nat.mod_eq_of_lt h]
theorem yN (x:UInt16)(l:List UInt16):nv (x::l)=x.toNat+65536*nv l:=rfl
theorem iI {n:Nat}{L:List UInt16}(h:n<=nv L):(ay n).length<=L.length:=ct (Nat.lt_of_le_of_lt h (co L))
def Jy (a b:List UInt16):PV := .tup [.sl ((ay (nv a/nv b)).map eD),.sl ((ay (nv a%nv b)).map eD)]
structure RHalf (q lo hi:Nat):Prop where
 l:lo<=q
 h:q<=hi
 m:hi<=65535
set_option maxRecDepth 20000 in
theorem mX (a b:List UInt16)(ha:a.length<=200000000)(hb:b.length<=200000000)(hb0:nv b≠0):Ret Tryz.prog .shared 156 [.sl (a.map eD),.sl (b.map eD)] (Jy a b):=by
 have hal:(a.map eD).length=a.length:=ah;have hbp:0<nv b:=Nat.pos_of_ne_zero hb0;rw[Jy];have hw0:IntKind.i64.wrap ((((a.map eD).length:Nat):Int)-1)=((a.length:Nat):Int)-1:=by rw[hal,wrap_i64 J J]
 refine Ret.of_pwp layOk mixed Go.Proofs.Tryz.func156 O Y O O ?_
 (repeat ((fail_if_success (with_reducible refine aQ 2 ?_));refine cx O ?_))
 refine aE (Ghost.nilsl (t:=6) O) ?_;refine H ?_;refine aH (iN O O O O O O O O J (by show(8:Int)*_<=_;omega) J ?_);rw[hal,Int.toNat_natCast,DN];refine H ?_;rw[hw0];refine ap (ROvr a b) (fun q=>[(0,.sl (a.map eD)),(1,.sl (b.map eD)),(6,.sl ((ay q.2.2).map eD)),(7,.als 14 1 0 (q.2.1.map eD).length),(8,I ((q.1:Int)-1))])
  (fun q=>[(14,1,⟨3,1,q.2.1.map eD,0⟩)]) (fun q=>q.1) (a.length,List.replicate a.length 0,0) xr ⟨O,O,by rw[bM];rfl,O,O,O,trivial⟩ ?_
 rintro⟨k,Q,r⟩ s1 hO;have hk:=hO.i;have hQl:=hO.l;simp only at hk hQl;dsimp only;refine D ?_ ?_<;>intro h
 .have hk0:0<k:=by have:=aC h;omega
  clear h;obtain⟨i,rfl⟩:∃i,k=i+1:=⟨k-1,J⟩;have e1:(((i+1:Nat):Int)-1)=(i:Nat):=J;rw[e1];obtain⟨x,hx⟩:=aJ (show i<a.length by omega);have hxl:=bk x;obtain⟨hq,hst⟩:=A7 hbp hO hx;have hrb:r<nv b:=by have:=hO.r;simp only at this;rw[this];exact Nat.mod_lt _ hbp
  have hrl:(ay r).length<=200000000:=by have:=iI (L:=b) (Nat.le_of_lt hrb);omega
  have htr:=fZ (x::ay r) aU;rw[aX,yN,aR]at htr;have hRl:(ay (x.toNat+65536*r)).length<=200000001:=by
   have:=c9 (x::ay r);rw[yN,aR]at this;simp at this;omega
  generalize hR:x.toNat+65536*r=R at *
  have hRm:R%nv b=R-nv b*(R/nv b):=by have:=Nat.mod_add_div R (nv b);omega
  have hQm:(Q.map eD).length=Q.length:=ah;have hQi:=cA (l:=Q) (i:=i) J;have hQ2:(Q.map eD)[i]? = some (eD (Q.getD i 0)):=by rw[List.getElem?_map,hQi];rfl
  have hrow:(x::ay r).map eD=[eD x]++(ay r).map eD:=O
  ((repeat ((fail_if_success (with_reducible refine aQ 6 ?_));refine cx O ?_));refine aM 7 ?_)
  iterate 2 refine fB O ?_
  refine Gj O O O O O O O hx O ?_;refine fB O ?_;refine aH (bx 0 O O O O O O O O O O O aI O ?_);refine fB O ?_;refine aH (bQ 1 O O O O O O O O O O O aI (by intro row hr;obtain⟨p,_,rfl⟩:=List.mem_map.1 hr;rfl) O O aU aU ?_);refine aY ?_;refine aV O (dD (Ghost.takeF (enc:=eD) (t:=28) (x::ay r) O O (O) O (fun _=>rfl)) ?_)
  (refine kj (dA O (htr) O ?_ O) ?_;.repeat' constructor)
  refine aO ?_;refine H ?_;refine ap (fun q:Nat × Nat=>RHalf (R/nv b) q.1 q.2) (fun q=>[(0,.sl (a.map eD)),(1,.sl (b.map eD)),(6,.sl ((ay R).map eD)),(7,.als 14 1 0 (Q.map eD).length),(8,I (i:Nat)),(9,I (q.1:Nat)),(10,I (q.2:Nat))])
   (fun q=>[(14,1,⟨3,1,Q.map eD,0⟩)]) (fun q=>q.2-q.1) (0,65535) ⟨Nat.zero_le _,by simp only;omega,aP⟩ ⟨O,O,O,O,O,O,O,O,trivial⟩ ?_
  rintro⟨lo,hi⟩ s2 ⟨hl,hh,hm⟩;simp only at hl hh hm;dsimp only;refine D ?_ ?_<;>intro h
  .have hlt:lo<hi:=by have:=aC h;omega
   clear h;have w1:IntKind.i64.wrap ((lo:Int)+(hi:Int))=((lo+hi:Nat):Int):=by rw[wrap_i64 J J];omega
   have w2:IntKind.i64.wrap (((lo+hi:Nat):Int)+1)=((lo+hi+1:Nat):Int):=by rw[wrap_i64 J J];omega
   have w3:IntKind.i64.wrap (Int.tdiv ((lo+hi+1:Nat):Int) 2)=(((lo+hi+1)/2:Nat):Int):=by rw[Int.tdiv_eq_ediv_of_nonneg J,wrap_i64]<;>omega
   generalize hmm:(lo+hi+1)/2=m at *
   have w4:IntKind.i64.wrap ((m:Int)-1)=((m-1:Nat):Int):=by rw[wrap_i64 J J];omega
   have hm1:m<65536:=J;have ht:=lp b [UInt16.ofNat m] J ah;rw[Ds hm1,show [UInt16.ofNat m].map eD=[eD (UInt16.ofNat m)] from O,Cx hm1]at ht;have hbm:(ay (nv b*m)).length<=300000000:=by
    have h1:nv b*m<65536^(b.length+1):=by
     have:=fG (co b) (show m<65536^1 by omega);exact this
    have:=ct h1;omega
   have hc:=l8 (ay (nv b*m)) (ay R) J J;have hcs:=fW (bK (nv b*m)) (bK R);rw[aR,aR]at hcs;have hle:j9 (ay (nv b*m)) (ay R)<=0↔m<=R/nv b:=by
    rw[Nat.le_div_iff_mul_le hbp,Nat.mul_comm m];omega
   generalize j9 (ay (nv b*m)) (ay R)=cv at *
   generalize ay (nv b*m)=BM at *
   refine H ?_;rw[w1];refine H ?_;rw[w2];refine H ?_;refine bE O O (QOp.v O (show ¬(2:Int)=0 by decide)) ?_;rw[w3];refine H ?_;refine bE O O (dj O O O O O O O O O O aI O) ?_;refine G ht ?_;refine ar hc ?_;refine D ?_ ?_<;>intro h
   .have h1:=hle.1 (aC h);clear h;refine H ?_;exact⟨(m,hi),⟨h1,hh,hm⟩,by simp only;omega,O,O,O,O,O,O,O,O,trivial⟩
   .have h1:¬m<=R/nv b:=fun h2=>(aG h) (hle.2 h2);clear h;refine H ?_;exact⟨(lo,m-1),⟨hl,by simp only;omega,by simp only;omega⟩,by simp only;omega,O,O,O,O,O,O,congrArg I w4,O,trivial⟩
  .have hge:lo=R/nv b:=by have:=aG h;omega
   clear h;have hw:IntKind.i64.wrap ((i:Int)-1)=(i:Int)-1:=wrap_i64 J J;rw[<-hge]at hst hRm;have hlo:lo<65536:=J;have hlb:nv b*lo<=R:=by rw[hge];exact Nat.mul_div_le R (nv b)
   have hbl:(ay (nv b*lo)).length<=200000001:=by have:=dV hlb;omega
   have ht:=lp b [UInt16.ofNat lo] J ah;rw[Ds hlo,show [UInt16.ofNat lo].map eD=[eD (UInt16.ofNat lo)] from O,Cx hlo]at ht;have hmn:=lj (ay R) (ay (nv b*lo)) J J (by rw[aR,aR];exact hlb);rw[aR,aR,<-hRm]at hmn;have hset:(Q.map eD).set i [I (lo:Nat)]=(Q.set i (UInt16.ofNat lo)).map eD:=by rw[List.map_set,Cx hlo]
   have hsetl:(Q.map eD).length=((Q.set i (UInt16.ofNat lo)).map eD).length:=ah;generalize ay (nv b*lo)=BL at *
   refine H ?_;refine bE O O (bO O O O O O O O J (by rw[List.length_map];omega)) ?_;rw[Int.toNat_natCast,Nat.zero_add i];refine bL (bN (kd':=0) O O O hQ2 O O aI O O O O ?_);refine D ?_ ?_<;>intro h
   .have h1:0<lo:=by have:=aC h;omega
    clear h;refine H ?_;refine bE O O (dj O O O O O O O O O O aI O) ?_;refine G ht ?_;refine G hmn ?_;refine H ?_;refine⟨(i,Q.set i (UInt16.ofNat lo),R%nv b),hst,by simp only;omega,O,O,O,?_,congrArg I hw,?_,trivial⟩
    .exact congrArg (PV.als 14 1 0) hsetl
    .show(1,some (Cont.mk 3 1 ((Q.map eD).set i [I (lo:Nat)]) 0))=_;rw[hset]
   .have h1:lo=0:=by have:=aG h;omega
    clear h;have hRR:R%nv b=R:=by rw[hRm,h1];omega
    refine H ?_;refine⟨(i,Q.set i (UInt16.ofNat lo),R%nv b),hst,by simp only;omega,O,O,by rw[hRR];rfl,?_,congrArg I hw,?_,trivial⟩
    .exact congrArg (PV.als 14 1 0) hsetl
    .show(1,some (Cont.mk 3 1 ((Q.map eD).set i [I (lo:Nat)]) 0))=_;rw[hset]
 .have hk0:k=0:=by have:=aG h;omega
  subst hk0;clear h;obtain⟨hv,hr⟩:=DW hO;subst hr;have ht:=fZ Q J;rw[aX,hv]at ht
  ((repeat ((fail_if_success (with_reducible refine aQ 16 ?_));refine cx O ?_));refine aM 1 ?_)
  refine fB O ?_;refine aY ?_;refine aV O (dD (Ghost.takeF (enc:=eD) (t:=60) (Q) O O (O) O (fun _=>rfl)) ?_)
  (refine kj (dA O (ht) O ?_ O) ?_;.repeat' constructor)
  refine aO ?_;refine H ?_;exact wO O O O O O trivial trivial O
set_option maxRecDepth 20000 in
theorem DS (a b:List UInt16)(ha:a.length<=100000000)(hb:b.length<=100000000)(hta:Trm a)(htb:Trm b):Ret Tryz.prog .shared 155 [.sl (a.map eD),.sl (b.map eD)] (.sl ((ay (Nat.gcd (nv a) (nv b))).map eD)):=by
 generalize hg:Nat.gcd (nv a) (nv b)=g;refine Ret.of_pwp layOk mixed Go.Proofs.Tryz.func155 O Y O O ?_;refine H ?_;refine ap (fun q:List UInt16 × List UInt16=>q.1.length<=100000000/\q.2.length<=100000000/\Trm q.1/\Trm q.2/\Nat.gcd (nv q.1) (nv q.2)=g) (fun q=>[(0,.sl (q.1.map eD)),(1,.sl (q.2.map eD))]) (fun _=>[]) (fun q=>nv q.2) (a,b) ⟨ha,hb,hta,htb,hg⟩ ⟨O,O,trivial⟩ ?_;rintro⟨A,B⟩ s ⟨hA,hB,htA,htB,hG⟩;simp only at hA hB htA htB hG;dsimp only;have hBm:(B.map eD).length=B.length:=ah;refine D ?_ ?_<;>intro h
 .have hB0:0<B.length:=by have:=aC h;omega
  clear h;have hB0v:nv B≠0:=by
   match B,hB0,htB with
   |x::l,_,h=>exact ou h
  have hd:=mX A B J J hB0v;rw[Jy]at hd;have hml:=Nat.mod_lt (nv A) (Nat.pos_of_ne_zero hB0v);have hnext:(ay (nv A%nv B)).length<=100000000:=by
   have h1:=dV (Nat.le_of_lt hml);have h2:=c9 B;omega
  have hG2:Nat.gcd (nv B) (nv (ay (nv A%nv B)))=g:=by rw[aR,Nat.gcd_comm,<-Nat.gcd_rec,Nat.gcd_comm];exact hG
  refine G hd ?_;refine H ?_;exact⟨(B,ay (nv A%nv B)),⟨hB,hnext,htB,bK _,hG2⟩,by simp only;rw[aR];exact hml,O,O,trivial⟩
 .have hB0:B.length=0:=by have:=aG h;omega
  clear h;have hB0v:=List.length_eq_zero_iff.1 hB0;subst hB0v;rw[nv,Nat.gcd_zero_right]at hG;rw[<-hG,gh htA];refine H ?_;exact iq O O O trivial O
theorem Dq (neg:Bool)(l:List UInt16)(h:Trm l):cw (ez neg (nv l))=⟨neg&&decide (0<l.length),l⟩:=by
 rw[n8];cases l with
 |nil=>rw[nv,if_pos rfl];simp
 |cons x l =>
  rw[if_neg (ou h),gh h];simp
set_option maxRecDepth 20000 in
theorem eQ (neg:Bool)(l:List UInt16)(hl:l.length<=900000000)(ht:Trm l):Ret Tryz.prog .shared 153 [.bool neg,.sl (l.map eD)] (.agg (eI (cw (ez neg (nv l))))):=by
 have hml:(l.map eD).length=l.length:=ah;rw[Dq neg l ht];cases neg with
 |false =>
  rw[Bool.false_and];refine Ret.of_pwp layOk mixed Go.Proofs.Tryz.func153 O Y O O ?_
  (repeat ((fail_if_success (with_reducible refine aQ 2 ?_));refine cx O ?_))
  refine aE (Ghost.nilcell (k:=1007) (k0:=5) (i:=0) (j:=1) 57 1 0 O O O O (row:=[.bool false,.nil]) O O O) ?_;refine H ?_;refine ap (fun k=>k<=l.length) (fun k=>[(1,.sl (l.map eD)),(4,.ptr 4 1 0 0),(5,.ptr 5 1 0 0),(6,I (k:Nat))])
   (fun k=>[(4,1,⟨40,2,[[.bool false,.nil]],2⟩),(5,1,⟨40,2,[[.bool false,.als 1007 (k+1) 0 ((l.take k).map eU).length]],2⟩),(1007,k+1,⟨57,1,(l.take k).map eU,0⟩)]) (fun k=>l.length-k) 0 (Nat.zero_le _) ⟨O,O,O,O,O,O,O,trivial⟩ ?_
  intro k s hk;refine D ?_ ?_<;>intro h
  .have hlt:k<l.length:=by have:=aC h;omega
   clear h;obtain⟨x,hx⟩:=aJ hlt;have hxl:=bk x;have hkl:(l.take k).length=k:=by rw[List.length_take];omega
   have hw:=fc k;have hcx:IntKind.u16.wrap (x.toNat:Int)=(x.toNat:Int):=by rw[IntKind.wrap_u16];omega
   refine cn 8 [20,21,22,23,24,25,26,27] ?_;refine aS hx ?_;refine H ?_;rw[hcx];refine bE O O (dj O O O O O O O O O O aI O) ?_;refine H ?_;refine aH (bQ 0 O O O O O O O O O O O aI (by intro row hr;first|(simp at hr;subst hr;rfl)|simp at hr) O O aU aU ?_);refine H ?_;refine⟨k+1,hlt,J,O,O,O,congrArg I hw,O,?_,?_,trivial⟩
   .rw[eg hx,List.map_append];rfl
   .rw[eg hx,List.map_append];rfl
  .have hge:k=l.length:=by have:=aG h;omega
   subst hge;clear h;rw[List.take_length];exact bV
 |true =>
  rw[Bool.true_and];have hd:decide ((0:Int)<(((l.map eD).length:Nat):Int))=decide (0<l.length):=by rw[hml,decide_eq_decide];omega
  rw[<-hd];generalize hP:decide ((0:Int)<(((l.map eD).length:Nat):Int))=P;refine Ret.of_pwp layOk mixed Go.Proofs.Tryz.func153 O Y O O ?_
  ((repeat (first|refine aY ?_ | refine cE ?_ | refine cz ?_ | refine cB ?_));refine bq ?_)
  (repeat ((fail_if_success (with_reducible refine aQ 2 ?_));refine cx O ?_))
  rw[hP];refine aE (Ghost.nilcell (k:=1007) (k0:=5) (i:=0) (j:=1) 57 1 0 O O O O (row:=[.bool P,.nil]) O O O) ?_;refine H ?_;refine ap (fun k=>k<=l.length) (fun k=>[(1,.sl (l.map eD)),(4,.ptr 4 1 0 0),(5,.ptr 5 1 0 0),(6,I (k:Nat))])
   (fun k=>[(4,1,⟨40,2,[[.bool false,.nil]],2⟩),(5,1,⟨40,2,[[.bool P,.als 1007 (k+1) 0 ((l.take k).map eU).length]],2⟩),(1007,k+1,⟨57,1,(l.take k).map eU,0⟩)]) (fun k=>l.length-k) 0 (Nat.zero_le _) ⟨O,O,O,O,O,O,O,trivial⟩ ?_
  intro k s hk;refine D ?_ ?_<;>intro h
  .have hlt:k<l.length:=by have:=aC h;omega
   clear h;obtain⟨x,hx⟩:=aJ hlt;have hxl:=bk x;have hkl:(l.take k).length=k:=by rw[List.length_take];omega
   have hw:=fc k;have hcx:IntKind.u16.wrap (x.toNat:Int)=(x.toNat:Int):=by rw[IntKind.wrap_u16];omega
   refine cn 8 [20,21,22,23,24,25,26,27] ?_;refine aS hx ?_;refine H ?_;rw[hcx];refine bE O O (dj O O O O O O O O O O aI O) ?_;refine H ?_;refine aH (bQ 0 O O O O O O O O O O O aI (by intro row hr;first|(simp at hr;subst hr;rfl)|simp at hr) O O aU aU ?_);refine H ?_;refine⟨k+1,hlt,J,O,O,O,congrArg I hw,O,?_,?_,trivial⟩
   .rw[eg hx,List.map_append];rfl
   .rw[eg hx,List.map_append];rfl
  .have hge:k=l.length:=by have:=aG h;omega
   subst hge;clear h;rw[List.take_length];exact bV
theorem pl {n:Nat}{L:List UInt16}{u:Nat}(h:ay n=L++ay u)(hu:0<u):ay n=(L++[UInt16.ofNat u])++ay (u/65536):=by
 rw[h,dI J,List.append_assoc];rfl
theorem pj {n:Nat}(h:n<18446744073709551616):(ay n).length<=4:=by
 have e:(65536:Nat)^4=18446744073709551616:=Y;exact ct J
set_option maxRecDepth 20000 in
theorem Gp (n:Int)(h0:0<=n)(h1:n<=9223372036854775807):Ret Tryz.prog .shared 154 [I n] (.agg (eI (cw n))):=by
 have hm:=eQ false (ay n.toNat) (by have:=pj (n:=n.toNat) J;omega) (bK _);rw[aR,show ez false n.toNat=n by rw[ez];simp;omega]at hm;have hcv:IntKind.u64.wrap n=((n.toNat:Nat):Int):=by rw[wrap_u64 J J];omega
 have hnl:=pj (n:=n.toNat) J;have hlt:decide (n<0)=false:=decide_eq_false J;generalize cw n=Z at *
 refine Ret.of_pwp layOk mixed Go.Proofs.Tryz.func154 O Y O O ?_
 (repeat ((fail_if_success (with_reducible refine aQ 1 ?_));refine cx O ?_))
 ((repeat (first|refine aY ?_ | refine cE ?_ | refine cz ?_ | refine cB ?_));refine bq ?_)
 (first|refine aH (gZ 3 1 0 O O ?_)|refine aH (gY 3 1 0 O O ?_))
 refine H ?_;rw[hcv];refine D ?_ ?_<;>intro h
 .have:=aC h;omega
 clear h;refine H ?_;refine ap (fun q:List UInt16 × Nat=>q.2<18446744073709551616/\ay n.toNat=q.1++ay q.2) (fun q=>[(0,I n),(2,.ptr 2 1 0 0),(3,.als 3 (q.1.length+1) 0 (q.1.map eD).length),(4,.int .u64 (q.2:Nat))])
  (fun q=>[(2,1,⟨40,2,[[.bool false,.nil]],2⟩),(3,q.1.length+1,⟨3,1,q.1.map eD,0⟩)]) (fun q=>q.2) ([],n.toNat) ⟨by simp only;omega,O⟩ ⟨O,O,O,O,O,O,trivial⟩ ?_
 rintro⟨L,u⟩ s ⟨hu,hL⟩;simp only at hu hL;dsimp only;have hLl:L.length<=4:=by rw[hL]at hnl;simp at hnl;omega
 refine D ?_ ?_<;>intro h
 .have hu0:0<u:=by have:=aC h;omega
  clear h;have hst:=pl hL hu0;have hr:IntKind.i64.wrap (Int.tmod ((u:Nat):Int) 65536)=((UInt16.ofNat u).toNat:Int):=by rw[od,wrap_i64]<;>(have:=bk (UInt16.ofNat u);omega)
  have hq:IntKind.u64.wrap (Int.tdiv ((u:Nat):Int) 65536)=((u/65536:Nat):Int):=by rw[oa,wrap_u64]<;>omega
  refine H ?_;refine bE O O (QOp.v O (show ¬(65536:Int)=0 by decide)) ?_;refine H ?_;rw[hr];refine aH (bx 0 O O O O O O O O O O O aI O ?_);refine H ?_;refine aH (bQ 0 O O O O O O O O O O O aI (by intro row hr;first|(simp at hr;subst hr;rfl)|simp at hr) O O aU aU ?_);refine H ?_;refine bE O O (QOp.v O (show ¬(65536:Int)=0 by decide)) ?_;rw[hq];refine H ?_;refine⟨(L++[UInt16.ofNat u],u/65536),⟨by simp only;omega,hst⟩,by simp only;omega,O,O,?_,O,O,?_,trivial⟩
  .exact jN 3 L (UInt16.ofNat u)
  .exact io 3 1 0 L (UInt16.ofNat u)
 .have hu0:u=0:=by have:=aG h;omega
  clear h;subst hu0;rw[bM,List.append_nil]at hL;rw[hL]at hm
  ((repeat ((fail_if_success (with_reducible refine aQ 8 ?_));refine cx O ?_));refine aM 3 ?_)
  iterate 2 refine fB O ?_
  rw[hlt];refine fB O ?_;refine aY ?_;refine aV O (dD (Ghost.takeF (enc:=eD) (t:=23) (L) O O (O) O (fun _=>rfl)) ?_)
  (refine kj (dA O (hm) O ?_ O) ?_;.repeat' constructor)
  refine aO ?_;exact bV
theorem DU (a:RI)(ha:a.l.length<=800000000):Ret Tryz.prog .shared 150 [.agg (eI a)] (.agg (eI (cw (-a.val)))):=by
 have hr:=fA a.l J;have hm:=eQ (!a.neg) (aX a.l) (by have:=cb a.l;omega) (fp _);rw[cW,show ez (!a.neg) (nv a.l) = -a.val by rw[a.val_sgz];cases a.neg<;>simp[ez]]at hm;generalize cw (-a.val)=Z at *
 generalize aX a.l=T at *
 obtain⟨an,al⟩:=a;simp only at *
 refine Ret.of_pwp layOk mixed Go.Proofs.Tryz.func150 O Y O O ?_;refine cn 7 [3,4,5,6,7,8,9] ?_;refine G hr ?_;refine G hm ?_;exact bV
theorem A_ (a:RI)(ha:a.l.length<=800000000):Ret Tryz.prog .shared 114 [.agg (eI a)] (I (mB a.val)):=by
 have ht:=fA a.l J;have hm:((aX a.l).map eD).length=(aX a.l).length:=ah;have h0:=nk (l:=a.l);have hz:=a.val_zero;have hv:a.val=if a.neg then -(nv a.l:Int) else(nv a.l:Int):=O
 generalize aX a.l=T at *
 obtain⟨an,al⟩:=a;simp only at *
 refine Ret.of_pwp layOk mixed Go.Proofs.Tryz.func114 O Y O O ?_;refine G ht ?_;refine D ?_ ?_<;>intro h
 .have h1:nv al=0:=h0.1 (by have:=aC h;omega);rw[mB,if_pos (hz.2 h1)];exact cp
 .have h1:nv al≠0:=by
   intro h1;have h2:=aG h;have:=h0.2 h1;omega
  rw[mB,if_neg (fun h=>h1 (hz.1 h))];clear h;cases an
  .rw[if_neg (by rw[hv];simp only[Bool.false_eq_true,if_false];omega)];exact cp
  .rw[if_pos (by rw[hv];simp only[if_true];omega)];exact cp
set_option maxRecDepth 20000 in
theorem jB (a b:RI)(ha:a.l.length<=300000000)(hb:b.l.length<=300000000):Ret Tryz.prog .shared 89 [.agg (eI a),.agg (eI b)] (.agg (eI (cw (a.val*b.val)))):=by
 have e:a.val*b.val=ez (a.neg != b.neg) (nv a.l*nv b.l):=by
  rw[a.val_sgz,b.val_sgz];cases a.neg<;>cases b.neg<;>simp[ez,Int.neg_mul,Int.mul_neg]
 rw[e];have hta:=fA a.l J;have htb:=fA b.l J;have hla:=cb a.l;have hlb:=cb b.l;have ht:=lp (aX a.l) (aX b.l) J J;rw[cW,cW]at ht;have hs:=eQ (a.neg != b.neg) (ay (nv a.l*nv b.l)) (by
  have:=ct (fG (co a.l) (co b.l));omega) (bK _)
 rw[aR]at hs;obtain⟨an,al⟩:=a;obtain⟨bn,bl⟩:=b;simp only at *
 generalize aX al=A at *
 generalize aX bl=B at *
 generalize ay (nv al*nv bl)=C at *
 generalize cw (ez (an != bn) (nv al*nv bl))=X at *
 refine Ret.of_pwp layOk mixed Go.Proofs.Tryz.func89 O Y O O ?_;refine cn 13 [5,6,7,8,9,10,11,12,13,14,15,16,17] ?_;refine G hta ?_;refine G htb ?_;refine G ht ?_;refine G hs ?_;exact bV
set_option maxRecDepth 20000 in
theorem DJ (a b:RI)(ha:a.l.length<=300000000)(hb:b.l.length<=300000000):Ret Tryz.prog .shared 88 [.agg (eI a),.agg (eI b)] (.agg (eI (cw (a.val+b.val)))):=by
 have hta:=fA a.l J;have htb:=fA b.l J;have hla:=cb a.l;have hlb:=cb b.l;have hA:=fp a.l;have hB:=fp b.l;have hnA:=cW a.l;have hnB:=cW b.l;rw[a.val_sgz,b.val_sgz];obtain⟨an,al⟩:=a;obtain⟨bn,bl⟩:=b;simp only at *
 rw[<-hnA,<-hnB];generalize aX al=A at *
 generalize aX bl=B at *
 have hp:=A9 A B J J;have hcm:=l8 A B J J;have hcs:=(fW hA hB).1;have hlA:=c9 A;have hlB:=c9 B;have hlp:(ay (nv A+nv B)).length<=900000000:=by
  have:=tI (n:=400000000) (A:=A) (B:=B) J J;omega
 by_cases hs:an=bn
 .subst hs;have hd:=eQ an (ay (nv A+nv B)) hlp (bK _);rw[aR]at hd;have e:ez an (nv A)+ez an (nv B)=ez an (nv A+nv B):=by cases an<;>simp only[ez,Bool.false_eq_true,if_false,if_true]<;>omega
  rw[e];generalize ay (nv A+nv B)=C at *
  generalize cw (ez an (nv A+nv B))=X at *
  refine Ret.of_pwp layOk mixed Go.Proofs.Tryz.func88 O Y O O ?_;refine cn 8 [7,8,9,10,11,12,5,6] ?_;refine G hta ?_;refine G htb ?_;refine D ?_ ?_<;>intro h
  .clear h;refine cn 6 [18,19,20,21,22,23] ?_;refine G hp ?_;refine G hd ?_;exact bV
  .exfalso;simp at h
 .have hmA:nv B<=nv A->Ret Tryz.prog .shared 159 [.sl (A.map eD),.sl (B.map eD)] (.sl ((ay (nv A-nv B)).map eD)):=lj A B J J;have hmB:nv A<=nv B->Ret Tryz.prog .shared 159 [.sl (B.map eD),.sl (A.map eD)] (.sl ((ay (nv B-nv A)).map eD)):=lj B A J J;have hlm:(ay (nv A-nv B)).length<=900000000:=by have:=dV (Nat.sub_le (nv A) (nv B));omega
  have hlm2:(ay (nv B-nv A)).length<=900000000:=by have:=dV (Nat.sub_le (nv B) (nv A));omega
  have hdA:=eQ an (ay (nv A-nv B)) hlm (bK _);have hdB:=eQ bn (ay (nv B-nv A)) hlm2 (bK _);rw[aR]at hdA hdB;have eA:nv B<=nv A->ez an (nv A)+ez bn (nv B)=ez an (nv A-nv B):=by intro h;cases an<;>cases bn<;>simp_all only [ez,Bool.false_eq_true,if_false,if_true,not_true_eq_false,reduceCtorEq,not_false_eq_true]<;>omega
  have eB:nv A<=nv B->ez an (nv A)+ez bn (nv B)=ez bn (nv B-nv A):=by intro h;cases an<;>cases bn<;>simp_all only [ez,Bool.false_eq_true,if_false,if_true,not_true_eq_false,reduceCtorEq,not_false_eq_true]<;>omega
  generalize ez an (nv A)+ez bn (nv B)=Z at *
  generalize ay (nv A-nv B)=C at *
  generalize ay (nv B-nv A)=D0 at *
  generalize hX:cw (ez an (nv A-nv B))=X at *
  generalize hY:cw (ez bn (nv B-nv A))=Y0 at *
  refine Ret.of_pwp layOk mixed Go.Proofs.Tryz.func88 O Y O O ?_;refine cn 8 [7,8,9,10,11,12,5,6] ?_;refine G hta ?_;refine G htb ?_;refine D ?_ ?_<;>intro h
  .exfalso;simp at h;exact hs h
  .clear h;refine ar hcm ?_;refine D ?_ ?_<;>intro h
   .have hge:nv B<=nv A:=by
     have h1:=aC h;omega
    clear h;refine cn 6 [28,29,30,31,32,33] ?_;refine G (hmA hge) ?_;refine G hdA ?_;refine H ?_;exact wP O aI O aI (by rw[eA hge,hX];rfl)
   .have hge:nv A<=nv B:=by
     have h1:=aG h;omega
    clear h;refine cn 6 [34,35,36,37,38,39] ?_;refine G (hmB hge) ?_;refine G hdB ?_;refine H ?_;exact wP O aI O aI (by rw[eB hge,hY];rfl)
theorem uR (z:Int):ofQ ((z:Rat))=⟨cw z,cw 1⟩:=by
 rw[ofQ,Rat.num_intCast,Rat.den_intCast];rfl
theorem sO (q:Rat):ofQ q=⟨cw q.num,cw (q.den:Int)⟩:=by
 rw[ofQ,cw,cw];congr 2
set_option maxRecDepth 20000 in
theorem lk (a b:RI)(ha:a.l.length<=90000000)(hb:b.l.length<=90000000):Ret Tryz.prog .shared 87 [.agg (eI a),.agg (eI b)] (.agg (eR (ofQ ((a.val:Rat)/(b.den:Rat))))):=by
 have hta:=fA a.l J;have htb:=fA b.l J;have hla:=cb a.l;have hlb:=cb b.l;have hb0:=nk (l:=b.l);have hAn:=cW a.l;have hBn:=cW b.l;have hAt:=fp a.l;have hBt:=fp b.l;have h1:=Gp 1 Y Y;by_cases h0:nv b.l=0
 .have e:ofQ ((a.val:Rat)/(b.den:Rat))=⟨cw a.val,cw 1⟩:=by
   rw[RI.den,if_pos h0,<-uR];congr 1;rw[show((1:Int):Rat)=1 from O];grind
  rw[e];have hm:=eQ a.neg (aX a.l) J hAt;rw[hAn,<-a.val_sgz]at hm;have hz:aX b.l=[]:=by rw[aX,h0,bM]
  rw[hz]at htb;generalize cw a.val=X at *
  generalize cw 1=Y0 at *
  generalize aX a.l=A at *
  obtain⟨an,al⟩:=a;obtain⟨bn,bl⟩:=b;simp only at *
  refine Ret.of_pwp layOk mixed Go.Proofs.Tryz.func87 O Y O O ?_;refine cn 8 [12,13,14,15,16,17,5,6] ?_;refine G hta ?_;refine G htb ?_;refine G hm ?_;refine G h1 ?_;exact bV
 .have hbp:0<nv b.l:=Nat.pos_of_ne_zero h0;rw[RI.den,if_neg h0,uS a b h0];have hg:=DS (aX a.l) (aX b.l) J J hAt hBt;rw[hAn,hBn]at hg;have hgp:0<Nat.gcd (nv a.l) (nv b.l):=Nat.gcd_pos_of_pos_right _ hbp;have hgl:Nat.gcd (nv a.l) (nv b.l)<=nv b.l:=Nat.gcd_le_right _ hbp;have hgs:(ay (Nat.gcd (nv a.l) (nv b.l))).length<=90000000:=by
   have:=iI (L:=b.l) hgl;omega
  generalize Nat.gcd (nv a.l) (nv b.l)=g at *
  have d1:=mX (aX a.l) (ay g) J J (by rw[aR];omega);have d2:=mX (aX b.l) (ay g) J J (by rw[aR];omega);rw[Jy,aR,hAn]at d1;rw[Jy,aR,hBn]at d2;have m1:=eQ (a.neg != b.neg) (ay (nv a.l/g)) (by have:=iI (L:=a.l) (Nat.div_le_self (nv a.l) g);omega) (bK _);have m2:=eQ false (ay (nv b.l/g)) (by have:=iI (L:=b.l) (Nat.div_le_self (nv b.l) g);omega) (bK _);rw[aR]at m1 m2;have hbl:¬((aX b.l).length=0):=fun h=>h0 (hb0.1 h);have hbm:((aX b.l).map eD).length=(aX b.l).length:=ah;generalize cw (ez (a.neg != b.neg) (nv a.l/g))=X at *
  generalize cw (ez false (nv b.l/g))=Y0 at *
  generalize ay (nv a.l/g)=A2 at *
  generalize ay (nv b.l/g)=B2 at *
  generalize ay (nv a.l%g)=A3 at *
  generalize ay (nv b.l%g)=B3 at *
  generalize ay g=G0 at *
  generalize aX a.l=A at *
  generalize aX b.l=B at *
  obtain⟨an,al⟩:=a;obtain⟨bn,bl⟩:=b;simp only at *
  refine Ret.of_pwp layOk mixed Go.Proofs.Tryz.func87 O Y O O ?_;refine cn 8 [12,13,14,15,16,17,5,6] ?_;refine G hta ?_;refine G htb ?_;refine D ?_ ?_<;>intro h
  .exact absurd (by have:=aC h;omega) hbl
  clear h;refine G hg ?_;refine G d1 ?_;refine G d2 ?_;refine G m1 ?_;refine G m2 ?_;exact bV
theorem fY (x:RR)(hn:x.n.l.length<=90000000)(hd:x.d.l.length<=90000000):Ret Tryz.prog .shared 86 [.agg (eR x)] (.agg (eR (ofQ x.val))):=by
 have h:=lk x.n x.d hn hd;rw[show(x.n.val:Rat)/(x.d.den:Rat)=x.val from O]at h;generalize ofQ x.val=X at *
 refine Ret.of_pwp layOk mixed Go.Proofs.Tryz.func86 O Y O O ?_;refine G h ?_;exact bV
theorem gN (q:Rat):(ofQ q).n.val=q.num:=cm _
theorem fv (q:Rat):(ofQ q).d.val=(q.den:Int):=by rw[sO];exact cm _
theorem A5 (x:RR){p:Rat}{n:Nat}[hx:Vq x p n](hn:n<=50000000):Ret Tryz.prog .shared 81 [.agg (eR x)] (.agg (eR (ofQ (-p)))):=by
 have h1:=hx.sz;have hh:=hx.hq;have hl:=eP hh.ok;have hnm:=fY x J J;rw[hx.val]at hnm;have hng:=DU (ofQ p).n J;rw[gN]at hng;have e:ofQ (-p)=⟨cw (-p.num),(ofQ p).d⟩:=by rw[sO,sO];simp
 rw[e];generalize cw (-p.num)=Z at *
 generalize ofQ p=P at *
 refine Ret.of_pwp layOk mixed Go.Proofs.Tryz.func81 O Y O O ?_;refine G hnm ?_;refine cn 6 [6,7,8,9,10,11] ?_;refine G hng ?_;exact bV
theorem Gi (q:Rat):nv (ofQ q).d.l≠0:=by
 have:=fv q;have h2:=(ofQ q).d.val_abs;rw[this]at h2;have:=q.den_pos;omega
theorem qT {a:RI}(h:nv a.l≠0):a.den=a.val:=by rw[RI.den,if_neg h]
set_option maxRecDepth 20000 in
theorem rM (x y:RR){p q:Rat}{n m:Nat}[hx:Vq x p n][hy:Vq y q m](hn:n<=20000000)(hm:m<=20000000)(h0:q≠0):Ret Tryz.prog .shared 84 [.agg (eR x),.agg (eR y)] (.agg (eR (ofQ (p/q)))):=by
 have h1:=hx.sz;have h2:=hy.sz;have l1:=eP hx.hq.ok;have l2:=eP hy.hq.ok;have n1:=fY x J J;have n2:=fY y J J;rw[hx.val]at n1;rw[hy.val]at n2;have m1:=jB (ofQ p).n (ofQ q).d J J;have m2:=jB (ofQ p).d (ofQ q).n J J;have k1:=cU (ofQ p).n (ofQ q).d;have k2:=cU (ofQ p).d (ofQ q).n;have m3:=lk (cw ((ofQ p).n.val*(ofQ q).d.val)) (cw ((ofQ p).d.val*(ofQ q).n.val)) J J;have hne:nv (cw ((ofQ p).d.val*(ofQ q).n.val)).l≠0:=by
  rw[pw,aR,fv,gN,Int.natAbs_mul];have hq:q.num≠0:=fun h=>h0 (Rat.num_eq_zero.1 h);have:=Nat.mul_pos p.den_pos (show 0<q.num.natAbs by omega);simp only[Int.natAbs_natCast];omega
 rw[qT hne,cm,cm,gN,gN,fv,fv,<-sW,<-ga,<-ga]at m3;rw[gN,fv]at m1;rw[fv,gN]at m2;generalize cw (p.num*(q.den:Int))=Z1 at *
 generalize cw ((p.den:Int)*q.num)=Z2 at *
 generalize ofQ (p/q)=R at *
 generalize ofQ p=P at *
 generalize ofQ q=Q at *
 refine Ret.of_pwp layOk mixed Go.Proofs.Tryz.func84 O Y O O ?_;refine H ?_;refine aZ 4 2 [7,8,9,10,5,6] [] aT O ?_;refine G n1 ?_;refine G n2 ?_;refine cn 11 [11,12,13,14,15,16,17,18,19,20,21] ?_;refine G m1 ?_;refine G m2 ?_;refine G m3 ?_;exact bV
set_option maxRecDepth 20000 in
theorem iw (x y:RR){p q:Rat}{n m:Nat}[hx:Vq x p n][hy:Vq y q m](hn:n<=20000000)(hm:m<=20000000):Ret Tryz.prog .shared 28 [.agg (eR x),.agg (eR y)] (.agg (eR (ofQ (p+q)))):=by
 have h1:=hx.sz;have h2:=hy.sz;have l1:=eP hx.hq.ok;have l2:=eP hy.hq.ok;have n1:=fY x J J;have n2:=fY y J J;rw[hx.val]at n1;rw[hy.val]at n2;have m1:=jB (ofQ p).n (ofQ q).d J J;have m2:=jB (ofQ q).n (ofQ p).d J J;have m4:=jB (ofQ p).d (ofQ q).d J J;have k1:=cU (ofQ p).n (ofQ q).d;have k2:=cU (ofQ q).n (ofQ p).d;have k4:=cU (ofQ p).d (ofQ q).d;have m5:=DJ (cw ((ofQ p).n.val*(ofQ q).d.val)) (cw ((ofQ q).n.val*(ofQ p).d.val)) J J;have k5:=uU (cw ((ofQ p).n.val*(ofQ q).d.val)) (cw ((ofQ q).n.val*(ofQ p).d.val)) (n:=50000000) J J;rw[cm,cm]at m5 k5;have m3:=lk (cw ((ofQ p).n.val*(ofQ q).d.val+(ofQ q).n.val*(ofQ p).d.val)) (cw ((ofQ p).d.val*(ofQ q).d.val)) J J;have hne:nv (cw ((ofQ p).d.val*(ofQ q).d.val)).l≠0:=by
  rw[pw,aR,fv,fv,Int.natAbs_mul];have:=Nat.mul_pos p.den_pos q.den_pos;simp only[Int.natAbs_natCast];omega
 rw[qT hne,cm,cm,gN,gN,fv,fv,<-sV _ _ _ _ (cO p) (cO q),<-ga,<-ga]at m3;rw[gN,fv]at m1;rw[gN,fv]at m2;rw[fv,fv]at m4;rw[gN,gN,fv,fv]at m5;generalize cw (p.num*(q.den:Int)+q.num*(p.den:Int))=Z5 at *
 generalize cw (p.num*(q.den:Int))=Z1 at *
 generalize cw (q.num*(p.den:Int))=Z2 at *
 generalize cw ((p.den:Int)*(q.den:Int))=Z4 at *
 generalize ofQ (p+q)=R at *
 generalize ofQ p=P at *
 generalize ofQ q=Q at *
 refine Ret.of_pwp layOk mixed Go.Proofs.Tryz.func28 O Y O O ?_;refine H ?_;refine aZ 4 2 [7,8,9,10,5,6] [] aT O ?_;refine G n1 ?_;refine G n2 ?_;refine cn 17 [11,12,13,14,15,16,17,18,19,20,21,22,23,24,25,26,27] ?_;refine G m1 ?_;refine G m2 ?_;refine G m5 ?_;refine G m4 ?_;refine G m3 ?_;exact bV
theorem rN (x y:RR){p q:Rat}{n m:Nat}[hx:Vq x p n][hy:Vq y q m](hn:n<=10000000)(hm:m<=10000000):Ret Tryz.prog .shared 24 [.agg (eR x),.agg (eR y)] (.agg (eR (ofQ (p-q)))):=by
 have h1:=A5 y J;have vn:Vq (ofQ (-q)) (-q) (m+1):=Vq.ofQ (h:=@HQ.neg _ _ hy.hq);have h2:=iw x (ofQ (-q)) (hy:=vn) J J;rw[<-Rat.sub_eq_add_neg]at h2;generalize ofQ (-q)=Y0 at *
 generalize ofQ (p-q)=X at *
 refine Ret.of_pwp layOk mixed Go.Proofs.Tryz.func24 O Y O O ?_;refine cn 4 [5,6,7,8] ?_;refine G h1 ?_;refine G h2 ?_;exact bV
theorem Gw (p:Rat):mB p.num=sgn p:=by
 have h1:(ofQ p).val=p:=ofQ_val p;have h2:=y7 (ofQ p);rw[h1,gN]at h2;have h3:(dn (ofQ p)).val=(p.den:Int):=by rw[dn,if_neg (Gi p),fv]
 rw[h3]at h2;rw[h2];have:=p.den_pos;have h4:mB (p.den:Int)=1:=by unfold mB;split<;>(try split)<;>omega
 rw[h4];omega
theorem xz (x:RR){p:Rat}{n:Nat}[hx:Vq x p n](hn:n<=50000000):Ret Tryz.prog .shared 49 [.agg (eR x)] (I (sgn p)):=by
 have h1:=hx.sz;have hl:=eP hx.hq.ok;have hnm:=fY x J J;rw[hx.val]at hnm;have hs:=A_ (ofQ p).n J;rw[gN,Gw]at hs;generalize sgn p=g at *
 generalize ofQ p=P at *
 obtain⟨Pn,Pd⟩:=P;simp only at *
 refine Ret.of_pwp layOk mixed Go.Proofs.Tryz.func49 O Y O O ?_;refine G hnm ?_;refine ar hs ?_;exact cp
theorem AY (x y:RR){p q:Rat}{n m:Nat}[hx:Vq x p n][hy:Vq y q m](hn:n<=10000000)(hm:m<=10000000):Ret Tryz.prog .shared 29 [.agg (eR x),.agg (eR y)] (I (sgn (p-q))):=by
 have h1:=rN x y hn hm;have vs:Vq (ofQ (p-q)) (p-q) (n+1+(m+1)+1):=Vq.ofQ (h:=@HQ.sub _ _ _ _ hx.hq hy.hq);have h2:=xz (ofQ (p-q)) (hx:=vs) J;generalize ofQ (p-q)=X at *
 generalize sgn (p-q)=g at *
 refine Ret.of_pwp layOk mixed Go.Proofs.Tryz.func29 O Y O O ?_;refine G h1 ?_;refine ar h2 ?_;exact cp
def eF (x:Rat):Rat:=if 0<x then x else 0
def sH (x y:Rat):Rat:=if y<x then y else x
def bI (M:Nat->Rat):Nat->Rat
 |0=>0
 |k+1=>M k
def dc (S M:Nat->Rat)(y:Rat)(k:Nat):Rat:=if y-S k<0 then 0 else(M k-bI M k)*(y-S k)
def vY (S:Nat->Rat)(n:Nat)(y:Rat)(k:Nat):Rat:=if k+1<n then sH y (S (k+1)) else y
def h_ (S M:Nat->Rat)(n:Nat)(y:Rat)(k:Nat):Rat:=M k*eF (vY S n y k-S k)
theorem mU {S M:Nat->Rat}{y:Rat}(k:Nat):dc S M y k=(M k-bI M k)*eF (y-S k):=by
 rw[dc,eF];grind
theorem rE (S M:Nat->Rat)(y:Rat):∀(k n:Nat),(∀i,i<k->S i<S (i+1))->k<n->am (dc S M y) (k+1)=am (h_ S M n y) k+M k*eF (y-S k)
 |0,n,_,_=>by
  rw[am,am,am,mU,bI];grind
 |k+1,n,h,hk=>by
  have ih:=rE S M y k n (fun i hi=>h i J) J;have hs:=h k J;rw[am,ih,mU,bI,am,h_,vY,if_pos hk];have key:eF (y-S k)=eF (sH y (S (k+1))-S k)+eF (y-S (k+1)):=by
   simp only[eF,sH];grind
  rw[key];grind
theorem iQ {S M:Nat->Rat}{y:Rat}{n:Nat}(h:∀i,i+1<n->S i<S (i+1)):am (dc S M y) n=am (h_ S M n y) n:=by
 cases n with
 |zero=>rfl
 |succ k =>
  rw[rE S M y k (k+1) (fun i hi=>h i J) J];rw[am,h_,vY,if_neg J]
theorem oo {f g:Nat->Rat}:∀ {n:Nat},(∀k,k<n->f k<=g k)->am f n<=am g n
 |0,_=>Rat.le_refl
 |n+1,h=>by
  have h1:=oo (n:=n) fun k hk=>h k J;have h2:=h n J;rw[am,am];grind
theorem pU {f g:Nat->Rat}:∀ {n:Nat},am (fun k=>f k+g k) n=am f n+am g n
 |0=>by rw[am,am,am];grind
 |n+1=>by rw[am,am,am,pU];grind
theorem jG {f:Nat->Rat}{c:Rat}:∀ {n:Nat},am (fun k=>f k*c) n=am f n*c
 |0=>by rw[am,am];grind
 |n+1=>by rw[am,am,jG];grind
theorem nh {f:Nat->Rat}:∀ {n:Nat},(∀k,k<n->f k=0)->am f n=0
 |0,_=>rfl
 |n+1,h=>by rw[am,nh fun k hk=>h k J,h n J];grind
theorem mn {f:Nat->Rat}:∀ {n i:Nat},(∀k,k<n->0<=f k)->i<n->f i<=am f n
 |0,_,_,hi=>by omega
 |n+1,i,h,hi=>by
  have h0:=fC (f:=f) (n:=n) fun k hk=>h k J;rw[am];by_cases he:i=n
  .subst he;grind
  .have:=mn (f:=f) (n:=n) (i:=i) (fun k hk=>h k J) J;have:=h n J;grind
theorem EC {f:Nat->Rat}{n:Nat}(h:0<am f n)(h0:∀k,k<n->0<=f k):∃k,k<n/\0<f k:=by
 by_cases hx:∃k,k<n/\0<f k
 .exact hx
 .have:am f n=0:=nh fun k hk=>by
   have h1:=h0 k hk;have h2:¬0<f k:=fun h=>hx ⟨k,hk,h⟩;grind
  rw[this]at h;exact absurd h aW
structure Crv (n:Nat) (S M:Nat->Rat):Prop where
 asc:∀k,k+1<n->S k<S (k+1)
 nn:∀k,k<n->0<=M k
def fK (n:Nat)(S M:Nat->Rat)(y:Rat):Rat:=am (dc S M y) n
def ke (S M:Nat->Rat)(p:Nat):Rat:=am (fun k=>(M k-bI M k)*S k) p
def InL (n:Nat)(S:Nat->Rat)(p:Nat)(y:Rat):Prop:=p<=n/\(∀k,p=k+1->S k<y)/\(p<n->y<=S p)
def BU (n:Nat)(S:Nat->Rat)(p:Nat)(y:Rat):Prop:=p<=n/\(∀k,p=k+1->S k<=y)/\(p<n->y<=S p)
section
variable {n:Nat}{S M:Nat->Rat}{y:Rat}{p:Nat}
theorem InL.c (h:InL n S p y):BU n S p y:=⟨h.1,fun k hk=>by have:=h.2.1 k hk;grind,h.2.2⟩
theorem Crv.mono_st (h:Crv n S M):∀ {j i:Nat},i<=j->j<n->S i<=S j
 |0,i,h1,_=>by
  have:i=0:=J;subst this;exact Rat.le_refl
 |j+1,i,h1,h2=>by
  by_cases he:i=j+1
  .subst he;exact Rat.le_refl
  .have:=h.mono_st (j:=j) (i:=i) J J;have:=h.asc j J;grind
theorem InL.some (h:Crv n S M)(y:Rat):∀(m:Nat),m<=n->∃p,p<=m/\(∀k,p=k+1->S k<y)/\(p<m->y<=S p)
 |0,_=>⟨0,aP,fun k hk=>by omega,fun hk=>by omega⟩
 |m+1,hm=>by
  by_cases hy:S m<y
  .exact⟨m+1,aP,fun k hk=>by
    have:k=m:=J
    subst this;exact hy,fun hk=>by omega⟩
  .obtain⟨p,h1,h2,h3⟩:=InL.some h y m J;refine⟨p,J,h2,fun _=>?_⟩;by_cases hp:p<m
   .exact h3 hp
   .have:p=m:=J;subst this;grind
theorem InL.get (h:Crv n S M)(y:Rat):∃p,InL n S p y:=InL.some h y n (aP)
theorem rm:∀(p:Nat),am (fun k=>(M k-bI M k)*(y-S k)) p=bI M p*y-ke S M p
 |0=>by rw[am,ke,am,bI];grind
 |p+1=>by rw[am,rm p,ke,ke,am,bI];grind
theorem nq (h:Crv n S M)(hp:BU n S p y):fK n S M y=bI M p*y-ke S M p:=by
 obtain⟨h1,h2,h3⟩:=hp;rw[<-rm,fK];have key:∀m,p+m<=n->am (dc S M y) (p+m)=am (fun k=>(M k-bI M k)*(y-S k)) p:=by
  intro m
  induction m with
  |zero =>
   intro _;refine cy fun k hk=>?_;have:S k<=y:=by
    cases p with
    |zero=>omega
    |succ p =>
     have:=h2 p O;have:=h.mono_st (i:=k) (j:=p) J J;grind
   rw[dc,if_neg aW]
  |succ m ih =>
   intro hm;rw[Nat.add_succ,am,ih J,dc];have h4:=h3 J;have h5:=h.mono_st (i:=p) (j:=p+m) J J;split
   .grind
   .have:y-S (p+m)=0:=aW;rw[this];grind
 have:=key (n-p) J;rwa [show p+(n-p)=n by omega]at this
theorem B_ (h:Crv n S M)(hp:p<=n):0<=bI M p:=by
 cases p with
 |zero=>rw[bI];exact Rat.le_refl
 |succ p=>exact h.nn p J
theorem Ga (x:Rat):0<=eF x:=by rw[eF];grind
theorem AS {x z:Rat}(h:x<=z):eF x<=eF z:=by simp only[eF];grind
theorem I5 (h:Crv n S M):0<=fK n S M y:=by
 rw[fK,iQ h.asc];refine fC fun k hk=>?_;rw[h_];exact Rat.mul_nonneg (h.nn k hk) (Ga _)
theorem iB (h:Crv n S M){x z:Rat}(hx:x<=z):fK n S M x<=fK n S M z:=by
 rw[fK,fK,iQ h.asc,iQ h.asc];refine oo fun k hk=>?_;rw[h_,h_];refine Rat.mul_le_mul_of_nonneg_left (AS ?_) (h.nn k hk);have:vY S n x k<=vY S n z k:=by
  simp only[vY,sH];grind
 grind
def qk (n:Nat)(S M:Nat->Rat):Rat:=ke S M n*(-1)
theorem qe (h:Crv n S M)(hl:BU n S n y)(h0:bI M n=0):fK n S M y=qk n S M:=by
 rw[nq h hl,h0,qk];grind
theorem Bz (h:Crv n S M)(hl:BU n S 0 y):fK n S M y=0:=by
 rw[nq h hl,bI,ke,am];grind
end
end Go.Pv
