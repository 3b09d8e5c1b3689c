/- Texts of one hand, gathered: PvZ, PvEnd, PvTk, PvX, PvT, FbA, PvGq, FbB, FbC, PvEq, FbD, FbE, FbF, FbG, FaD, FbH, FbI, FbJ, FbK, FbL, FbM, FbN, FbO, FbP, FbQ, FrA, FrB, FrC, FrD, FrE, FrF. -/
import Derived.Test.YtcnpaheefnefoaaGreatBa2
import Derived.ProofKit
import Derived.OpenShut
import Derived.Carry
import Derived.Test.YtcnpaheefnefoaaGreatProg
import Derived.KernelRfl
import Derived.Laws.BitsLemmas
import Derived.Lib.EndianBits
set_option linter.unusedSectionVars false
set_option linter.unusedSimpArgs false
set_option linter.unusedVariables false
set_option linter.unnecessarySimpa false
namespace Go.Pv
open Go.RowKit
variable [Globs]
def gB (ops:Array Oper) (s:St):Option (Nat × Bool)→Option Bool
 |none=>some true
 |some (j,want)=>match (ops[j]?).bind (·.dst) with
  |some e=>match s.reg e with
   |.bool b=>match b,want with
    |true,true=>some true
    |false,false=>some true
    |true,false=>some false
    |false,true=>some false
   |.raw u=>match u with
    |.tuple a=>match a with
     |⟨[]⟩=>some false
     |_=>none
    |_=>none
   |_=>none
  |none=>none
def CB (L:Lay) (s:St):Option Nat→Op→Option (St × Prop)
 |some d,.box T x=>match (s.ev x).fz,s.own d with
  |some v,(gn,_)=>match cZ s v.cells with
   |some Pr=>some ((s.setOwn d (gn+1) (some ⟨T,v.cells.length,[v.cells],2⟩)).putR d (.ptr d (gn+1) 0 0),Nat.blt 0 v.cells.length=true∧Pr)
   |none=>none
  |none,_=>none
 |some d,.alloc T=>match L T with
  |some r=>match r.zero,s.own d with
   |some z,(gn,_)=>some ((s.setOwn d (gn+1) (some ⟨T,z.length,[z],2⟩)).putR d (.ptr d (gn+1) 0 0),Nat.blt 0 z.length=true)
   |none,_=>none
  |none=>none
 |none,.store T x y=>match L T with
  |some r=>match s.ev x with
   |.ptr k gn i jj=>match i with
    |0=>match s.own k with
     |(gn',some ⟨tc,sz,rows,kd⟩)=>match rows,kd with
      |[row],2=>match (s.ev y).fz with
       |some v=>match cZ s v.cells with
        |some Pr=>some (s.setOwn k gn (some ⟨tc,sz,[i6 row jj v.cells],2⟩),gn'=gn∧v.cells.length=r.size∧Nat.ble (jj+r.size) row.length=true∧Pr)
        |none=>none
       |none=>none
      |_,_=>none
     |(_,none)=>none
    |_=>none
   |_=>none
  |none=>none
 |some d,op=>match qv L s op with
  |some (pv,Cd)=>some (s.putR d pv,Cd)
  |none=>none
 |none,_=>none
section
variable {P:Program} {L:Lay} {s s':St} {ops:Array Oper} {K:St→Prop} {Q:Exit→St→Prop} {rest:List Oper}
theorem dN {o:Oper} (h:gB ops s o.guard=some true):Wants ops s o true:=by
 cases hg:o.guard with
 |none=>exact .none hg
 |some p =>
  obtain⟨j,want⟩:=p
  rw[hg]at h
  simp only[gB]at h
  split at h
  ·rename_i e hd
   split at h
   ·rename_i b hr
    cases b<;>cases want<;>simp at h
    ·exact .yes hg hd hr
    ·exact .yes hg hd hr
   ·split at h
    ·split at h<;>cases h
    ·cases h
   ·cases h
  ·cases h
theorem uz {o:Oper} (h:gB ops s o.guard=some false):Wants ops s o false:=by
 cases hg:o.guard with
 |none=>rw[hg]at h;cases h
 |some p =>
  obtain⟨j,want⟩:=p
  rw[hg]at h
  simp only[gB]at h
  split at h
  ·rename_i e hd
   split at h
   ·rename_i b hr
    cases b<;>cases want<;>simp at h
    ·exact .no hg hd hr (by simp)
    ·exact .no hg hd hr (by simp)
   ·rename_i hr
    split at h
    ·split at h
     ·exact .junk hg hd hr
     ·cases h
    ·cases h
   ·cases h
  ·cases h
theorem Ab {d:Option Nat} {op:Op} {Cd:Prop} {ty:TypeId} {pos:String} {af:Array Edge} {g:Option (Nat × Bool)} (h:CB L s d op=some (s',Cd)) (hc:Cd) (hk:K s'):POp P L s ⟨d,op,ty,pos,af,g⟩ K:=by
 unfold CB at h
 split at h
 ·split at h
  ·rename_i hx hown
   split at h
   ·rename_i h1
    cases h
    exact Eg hx hown h1 hc.2 hc.1 hk
   ·cases h
  ·cases h
 ·split at h
  ·rename_i hr
   split at h
   ·rename_i hz hown
    cases h
    exact BA hr hz hown hc hk
   ·cases h
  ·cases h
 ·split at h
  ·rename_i r hr
   split at h
   ·rename_i hx
    split at h
    ·split at h
     ·rename_i hown
      split at h
      ·split at h
       ·rename_i hv
        split at h
        ·rename_i h1
         cases h
         obtain⟨c1,c2,c3,c4⟩:=hc
         subst c1
         exact zj hr hx hown hv h1 c4 c2 c3 rfl hk
        ·cases h
       ·cases h
      ·cases h
     ·cases h
    ·cases h
   ·cases h
  ·cases h
 ·split at h
  ·rename_i hq
   cases h
   exact BG hq hc hk
  ·cases h
 ·cases h
def EJ (P:Program) (L:Lay) (ops:Array Oper) (K:St→Prop):List Oper→St→Option (Prop × Prop)
 |[],s=>some (True,K s)
 |o::rest,s=>match o with
  |⟨d,op,_,_,_,g⟩=>match gB ops s g with
   |some true=>match CB L s d op with
    |some (s',Cd)=>some (Cd,POps P L ops K rest s')
    |none=>none
   |some false=>some (True,POps P L ops K rest (s.put d (.raw undef)))
   |none=>none
theorem zs {l:List Oper} {Cd A:Prop} (h:EJ P L ops K l s=some (Cd,A)) (hc:Cd) (k:A):POps P L ops K l s:=by
 cases l with
 |nil=>cases h;exact k
 |cons o rest =>
  obtain⟨d,op,ty,pos,af,g⟩:=o
  unfold EJ at h
  dsimp only at h
  split at h
  ·rename_i hg
   split at h
   ·rename_i hs
    cases h
    exact .inl ⟨dN hg,Ab hs hc k⟩
   ·cases h
  ·rename_i hg
   cases h
   exact .inr ⟨uz hg,k⟩
  ·cases h
def EI (P:Program) (L:Lay) (ops:Array Oper) (K:St→Prop):List Oper→St→Option (Prop × Prop)
 |[],s=>some (True,K s)
 |o::rest,s=>match o with
  |⟨d,op,_,_,_,g⟩=>match gB ops s g with
   |some true=>match d with
    |some d=>match qv L s op with
     |some (pv,Cd)=>some (Cd,PQuiet P L ops K rest (s.putR d pv))
     |none=>none
    |none=>none
   |some false=>some (True,PQuiet P L ops K rest (s.put d (.raw undef)))
   |none=>none
theorem zq {l:List Oper} {Cd A:Prop} (h:EI P L ops K l s=some (Cd,A)) (hc:Cd) (k:A):PQuiet P L ops K l s:=by
 cases l with
 |nil=>cases h;exact k
 |cons o rest =>
  obtain⟨d,op,ty,pos,af,g⟩:=o
  unfold EI at h
  dsimp only at h
  split at h
  ·rename_i hg
   split at h
   ·split at h
    ·rename_i hs
     cases h
     exact .inl ⟨dN hg,_,.v hs hc,k⟩
    ·cases h
   ·cases h
  ·rename_i hg
   cases h
   exact .inr ⟨uz hg,k⟩
  ·cases h
def EK (P:Program) (L:Lay):Code→(Exit→St→Prop)→St→Option Prop
 |.skip,Q,s=>some (Q .normal s)
 |.region _ ops false,Q,s=>match ops with|⟨l⟩=>some (POps P L ops (Q .normal) l s)
 |.seq x y,Q,s=>some (PWP P L x (ax (fun s'=>PWP P L y Q s') Q) s)
 |.cond c x y,Q,s=>match s.ev c with
  |.bool b=>match b with
   |true=>some (PWP P L x Q s)
   |false=>some (PWP P L y Q s)
  |_=>none
 |.block id c,Q,s=>some (PWP P L c (ao id Q) s)
 |.exit id,Q,s=>some (Q (.exit id) s)
 |.ret,Q,s=>some (Q .ret s)
 |_,_,_=>none
theorem zw {c:Code} {A:Prop} (h:EK P L c Q s=some A) (k:A):PWP P L c Q s:=by
 unfold EK at h
 split at h
 ·cases h;exact BP k
 ·cases h;exact aS k
 ·cases h;exact k
 ·split at h
  ·rename_i hc
   split at h
   ·cases h;exact BS hc k
   ·cases h;exact zK hc k
  ·cases h
 ·cases h;exact k
 ·cases h;exact BO k
 ·cases h;exact Dm k
 ·cases h
def EL (next:St→Prop) (Q:Exit→St→Prop):Exit→St→Option Prop
 |.normal,s=>some (next s)
 |.ret,s=>some (Q .ret s)
 |.exit id,s=>some (Q (.exit id) s)
 |_,_=>none
theorem zx {next:St→Prop} {e:Exit} {A:Prop} (h:EL next Q e s=some A) (k:A):ax next Q e s:=by
 unfold EL at h
 split at h<;>cases h<;>exact k
def EH (id:Nat) (Q:Exit→St→Prop):Exit→St→Option Prop
 |.normal,s=>some (Q .normal s)
 |.ret,s=>some (Q .ret s)
 |.exit id',s=>match Nat.beq id' id with
  |true=>some (Q .normal s)
  |false=>some (Q (.exit id') s)
 |_,_=>none
theorem zb {id:Nat} {e:Exit} {A:Prop} (h:EH id Q e s=some A) (k:A):ao id Q e s:=by
 unfold EH at h
 split at h
 ·cases h;exact k
 ·cases h;exact k
 ·split at h
  ·rename_i he
   cases h
   have:=Nat.eq_of_beq_eq_true he
   subst this
   exact Cj k
  ·rename_i he
   cases h
   exact Ci he k
 ·cases h
theorem E4 {d:Nat} {op:Op} {ty:TypeId} {pos:String} {af:Array Edge} {g:Option (Nat × Bool)} {pv:PV} (hg:gB ops s g=some true) (hq:QOp P L s ⟨some d,op,ty,pos,af,g⟩ pv) (k:POps P L ops K rest (s.putR d pv)):POps P L ops K (⟨some d,op,ty,pos,af,g⟩::rest) s :=
 .inl ⟨dN hg,j3 hq k⟩
theorem E3 {d:Nat} {op:Op} {ty:TypeId} {pos:String} {af:Array Edge} {g:Option (Nat × Bool)} {pv:PV} (hg:gB ops s g=some true) (hq:QOp P L s ⟨some d,op,ty,pos,af,g⟩ pv) (k:PQuiet P L ops K rest (s.putR d pv)):PQuiet P L ops K (⟨some d,op,ty,pos,af,g⟩::rest) s :=
 .inl ⟨dN hg,_,hq,k⟩
def Ec:Op→Bool
 |.next _ _=>true
 |_=>false
def EF (P:Program) (L:Lay) (ops:Array Oper) (Z:Nat→List Nat) (cls:Nat→Bool) (K:St→Prop) (i:Nat):List Oper→St→Option (Prop × Prop)
 |[],s=>some (True,K s)
 |o::rest,s=>match o with
  |⟨d,op,_,_,_,g⟩=>match gB ops s g with
   |some true=>match d with
    |some d=>match cls i with
     |true=>match qv L s op with
      |some (pv,Cd)=>some (Cd,P3 P L ops Z cls K (i+1) rest (s.putR d pv))
      |none=>none
     |false=>match qv L (s.erase (Z i)) op with
      |some (pv,Cd)=>some (Cd,P3 P L ops Z cls K (i+1) rest (s.putR d pv))
      |none=>none
    |none=>none
   |some false=>some (True,P3 P L ops Z cls K (i+1) rest (s.put d (.raw undef)))
   |none=>none
theorem z3 {Z:Nat→List Nat} {cls:Nat→Bool} {i:Nat} {l:List Oper} {Cd A:Prop} (h:EF P L ops Z cls K i l s=some (Cd,A)) (hc:Cd) (k:A):P3 P L ops Z cls K i l s:=by
 cases l with
 |nil=>cases h;exact k
 |cons o rest =>
  obtain⟨d,op,ty,pos,af,g⟩:=o
  unfold EF at h
  dsimp only at h
  split at h
  ·rename_i hg
   split at h
   ·rename_i dd
    split at h
    ·rename_i hcl
     split at h
     ·rename_i hs
      cases h
      refine⟨_,?_,k⟩
      rw[hcl]
      exact Step3.quiet (o:=⟨some dd,op,ty,pos,af,g⟩) (dN hg) (.v hs hc)
     ·cases h
    ·rename_i hcl
     split at h
     ·rename_i hs
      cases h
      refine⟨_,?_,k⟩
      rw[hcl]
      exact Step3.free (o:=⟨some dd,op,ty,pos,af,g⟩) (dN hg) (.v hs hc)
     ·cases h
   ·cases h
  ·rename_i hg
   cases h
   exact⟨_,.no (uz hg),k⟩
  ·cases h
theorem EY {Z:Nat→List Nat} {cls:Nat→Bool} {i d:Nat} {op:Op} {ty:TypeId} {pos:String} {af:Array Edge} {g:Option (Nat × Bool)} {pv:PV} (hg:gB ops s g=some true) (hc:cls i=false) (hq:QOp P L (s.erase (Z i)) ⟨some d,op,ty,pos,af,g⟩ pv)
  (k:P3 P L ops Z cls K (i+1) rest (s.putR d pv)):P3 P L ops Z cls K i (⟨some d,op,ty,pos,af,g⟩::rest) s:=by
 refine⟨_,?_,k⟩
 rw[hc]
 exact Step3.free (o:=⟨some d,op,ty,pos,af,g⟩) (dN hg) hq
theorem EW {Z:Nat→List Nat} {cls:Nat→Bool} {i d:Nat} {op:Op} {ty:TypeId} {pos:String} {af:Array Edge} {g:Option (Nat × Bool)} {pv:PV} (hg:gB ops s g=some true) (hc:cls i=true) (hq:QOp P L s ⟨some d,op,ty,pos,af,g⟩ pv)
  (k:P3 P L ops Z cls K (i+1) rest (s.putR d pv)):P3 P L ops Z cls K i (⟨some d,op,ty,pos,af,g⟩::rest) s:=by
 refine⟨_,?_,k⟩
 rw[hc]
 exact Step3.quiet (o:=⟨some d,op,ty,pos,af,g⟩) (dN hg) hq
theorem AT {Z:Nat→List Nat} {cls:Nat→Bool} {i:Nat} {d:Option Nat} {op:Op} {ty:TypeId} {pos:String} {af:Array Edge} {g:Option (Nat × Bool)} (hg:gB ops s g=some true) (hc:cls i=true) (hn:Ec op=false)
  (h:POp P L s ⟨d,op,ty,pos,af,g⟩ (fun s'=>(∀k,dH (Z i) k=false→s'.own k=s.own k)∧P3 P L ops Z cls K (i+1) rest s')):P3 P L ops Z cls K i (⟨d,op,ty,pos,af,g⟩::rest) s:=by
 rcases h with⟨pv,h1,h2⟩|⟨s',h1,h2⟩|h1
 ·refine⟨_,?_,h2.2⟩
  rw[hc]
  exact Step3.quiet (o:=⟨d,op,ty,pos,af,g⟩) (dN hg) h1
 ·refine⟨_,?_,h2.2⟩
  rw[hc]
  exact Step3.eff (o:=⟨d,op,ty,pos,af,g⟩) (dN hg) h1 h2.1
 ·exfalso
  cases h1 with
  |next ho =>
   simp only at ho
   rw[ho]at hn
   cases hn
theorem pW {Z:List Nat} {k g d:Nat} {c:Option Cont} {v:PV} (hz:dH Z k=true):∀q,dH Z q=false→((s.setOwn k g c).putR d v).own q=s.own q:=fun q hq=>by
 have hne:q≠k:=fun e=>by rw[e,hz]at hq;cases hq
 show(bif Nat.beq q k then _ else s.own q)=_
 rw[aV hne];rfl
def AH (s:St):Option Nat→Op→Option Nat
 |some d,.box _ _=>some d
 |some d,.alloc _=>some d
 |none,.store _ x _=>match s.ev x with | .ptr k _ _ _=>some k | _=>none
 |_,_=>none
def Do (P:Program) (L:Lay) (ops:Array Oper) (Z:Nat→List Nat) (cls:Nat→Bool) (K:St→Prop) (i:Nat):List Oper→St→Option (Prop × Prop)
 |[],_=>none
 |o::rest,s=>match o with
  |⟨d,op,_,_,_,g⟩=>match gB ops s g,cls i,AH s d op,Ec op with
   |some true,true,some t,false=>match dH (Z i) t,CB L s d op with
    |true,some (s',Cd)=>some (Cd,P3 P L ops Z cls K (i+1) rest s')
    |_,_=>none
   |_,_,_,_=>none
theorem xC {d:Option Nat} {op:Op} {t:Nat} {Cd:Prop} (ht:AH s d op=some t) (h:CB L s d op=some (s',Cd)):∀q,q≠t→s'.own q=s.own q:=by
 intro q hq
 have one:∀(g:Nat) (c:Option Cont),(s.setOwn t g c).own q=s.own q:=fun g c=>by
  show(bif Nat.beq q t then _ else s.own q)=_
  rw[aV hq];rfl
 unfold AH at ht
 split at ht
 ·cases ht
  unfold CB at h
  dsimp only at h
  split at h
  ·split at h
   ·cases h;exact one _ _
   ·cases h
  ·cases h
 ·cases ht
  unfold CB at h
  dsimp only at h
  split at h
  ·split at h
   ·cases h;exact one _ _
   ·cases h
  ·cases h
 ·split at ht
  ·rename_i hx
   cases ht
   unfold CB at h
   dsimp only at h
   split at h
   ·rw[hx]at h
    dsimp only at h
    split at h
    ·split at h
     ·split at h
      ·split at h
       ·split at h
        ·cases h;exact one _ _
        ·cases h
       ·cases h
      ·cases h
     ·cases h
    ·cases h
   ·cases h
  ·cases ht
 ·cases ht
theorem EZ {Z:Nat→List Nat} {cls:Nat→Bool} {i:Nat} {l:List Oper} {Cd A:Prop} (h:Do P L ops Z cls K i l s=some (Cd,A)) (hc:Cd) (k:A):P3 P L ops Z cls K i l s:=by
 cases l with
 |nil=>cases h
 |cons o rest =>
  obtain⟨d,op,ty,pos,af,g⟩:=o
  unfold Do at h
  dsimp only at h
  split at h
  ·rename_i hg hcl ht hn
   split at h
   ·rename_i hz hs
    cases h
    exact AT hg hcl hn (Ab hs hc ⟨fun q hq=>xC ht hs q (fun e=>by rw[e,hz]at hq;cases hq),k⟩)
   ·cases h
  ·cases h
class Nx (G:Prop) where
 nx:Option (Prop × Prop)
 ok:∀Cd A,nx=some (Cd,A)→Cd→A→G
theorem ES {G:Prop} [i:Nx G] {Cd A:Prop} (h:i.nx=some (Cd,A)) (hc:Cd) (k:A):G:=i.ok Cd A h hc k
instance {l:List Oper}:Nx (POps P L ops K l s):=⟨EJ P L ops K l s,fun _ _ h hc k=>zs h hc k⟩
instance {l:List Oper}:Nx (PQuiet P L ops K l s):=⟨EI P L ops K l s,fun _ _ h hc k=>zq h hc k⟩
def ER (a b:Option (Prop × Prop)):Option (Prop × Prop):=match a with
 |some x=>some x
 |none=>b
instance {Z:Nat→List Nat} {cls:Nat→Bool} {i:Nat} {l:List Oper}:Nx (P3 P L ops Z cls K i l s):=⟨ER (EF P L ops Z cls K i l s) (Do P L ops Z cls K i l s),fun _ _ h hc k=>by
 unfold ER at h
 split at h
 ·cases h;exact z3 ‹_› hc k
 ·exact EZ h hc k⟩
def Er:Option Prop→Option (Prop × Prop)
 |some A=>some (True,A)
 |none=>none
theorem nJ {a:Option Prop} {Cd A:Prop} (h:Er a=some (Cd,A)):a=some A:=by
 unfold Er at h
 split at h
 ·cases h;rfl
 ·cases h
instance {c:Code}:Nx (PWP P L c Q s):=⟨Er (EK P L c Q s),fun _ _ h _ k=>zw (nJ h) k⟩
instance {next:St→Prop} {e:Exit}:Nx (ax next Q e s):=⟨Er (EL next Q e s),fun _ _ h _ k=>zx (nJ h) k⟩
instance {id:Nat} {e:Exit}:Nx (ao id Q e s):=⟨Er (EH id Q e s),fun _ _ h _ k=>zb (nJ h) k⟩
def EP (b:Bool) (A:Prop):Option (Prop × Prop):=match b with
 |true=>some (True,A)
 |false=>none
instance {nm:Nat} {F:List Nat} {G:Prop}:Nx (FD ops nm F s=true∧G):=⟨EP (FD ops nm F s) G,fun _ _ h _ k=>by
 unfold EP at h
 split at h
 ·cases h;exact⟨‹_›,k⟩
 ·cases h⟩
class Qx (G:Prop) (P:outParam Program) (L:outParam Lay) (s:outParam St) (ops:outParam (Array Oper)) (l:outParam (List Oper)) (K:outParam (List Oper→Nat→PV→Prop)) where
 ok:∀(d:Nat) (op:Op) (ty:TypeId) (pos:String) (af:Array Edge) (g:Option (Nat × Bool)) (rest:List Oper) (pv:PV),l=⟨some d,op,ty,pos,af,g⟩::rest→gB ops s g=some true→QOp P L s ⟨some d,op,ty,pos,af,g⟩ pv→K rest d pv→G
instance {l:List Oper}:Qx (POps P L ops K l s) P L s ops l (fun rest d pv=>POps P L ops K rest (s.putR d pv)) :=
 ⟨fun _ _ _ _ _ _ _ _ hl hg hq k=>by subst hl;exact E4 hg hq k⟩
instance {l:List Oper}:Qx (PQuiet P L ops K l s) P L s ops l (fun rest d pv=>PQuiet P L ops K rest (s.putR d pv)) :=
 ⟨fun _ _ _ _ _ _ _ _ hl hg hq k=>by subst hl;exact E3 hg hq k⟩
def St.era (Z:List Nat) (c:Bool) (s:St):St:=match c with
 |true=>s
 |false=>s.erase Z
theorem De {Z:List Nat} {c:Bool} {g:Option (Nat × Bool)}:gB ops (s.era Z c) g=gB ops s g:=by cases c<;>rfl
instance {Z:Nat→List Nat} {cls:Nat→Bool} {i:Nat} {l:List Oper}:Qx (P3 P L ops Z cls K i l s) P L (s.era (Z i) (cls i)) ops l (fun rest d pv=>P3 P L ops Z cls K (i+1) rest (s.putR d pv)) :=
 ⟨fun _ _ _ _ _ _ _ _ hl hg hq k=>by
  subst hl
  rw[De]at hg
  cases hc:cls i with
  |true=>rw[hc]at hq;exact EW hg hc hq k
  |false=>rw[hc]at hq;exact EY hg hc hq k⟩
def EG (P:Program) (L:Lay) (ops:Array Oper) (Z:List Nat) (lc:Nat→Option Nat) (K:St→Prop) (i:Nat):List Oper→St→Option (Prop × Prop)
 |[],s=>some (True,K s)
 |o::rest,s=>match o with
  |⟨d,op,_,_,_,g⟩=>match gB ops s g with
   |some true=>match d with
    |some d=>match qv L (s.erase Z) op with
     |some (pv,Cd)=>some (Cd,P5 P L ops Z lc K (i+1) rest (s.putR d pv))
     |none=>none
    |none=>none
   |some false=>some (True,P5 P L ops Z lc K (i+1) rest (s.put d (.raw undef)))
   |none=>none
theorem z5 {Z:List Nat} {lc:Nat→Option Nat} {i:Nat} {l:List Oper} {Cd A:Prop} (h:EG P L ops Z lc K i l s=some (Cd,A)) (hc:Cd) (k:A):P5 P L ops Z lc K i l s:=by
 cases l with
 |nil=>cases h;exact k
 |cons o rest =>
  obtain⟨d,op,ty,pos,af,g⟩:=o
  unfold EG at h
  dsimp only at h
  split at h
  ·rename_i hg
   split at h
   ·rename_i dd
    split at h
    ·rename_i hs
     cases h
     exact⟨_,Step5.free (o:=⟨some dd,op,ty,pos,af,g⟩) (dN hg) (.v hs hc),k⟩
    ·cases h
   ·cases h
  ·rename_i hg
   cases h
   exact⟨_,.no (uz hg),k⟩
  ·cases h
instance {Z:List Nat} {lc:Nat→Option Nat} {i:Nat} {l:List Oper}:Nx (P5 P L ops Z lc K i l s):=⟨EG P L ops Z lc K i l s,fun _ _ h hc k=>z5 h hc k⟩
theorem yO {Z:List Nat} {g:Option (Nat × Bool)}:gB ops (s.erase Z) g=gB ops s g:=rfl
instance {Z:List Nat} {lc:Nat→Option Nat} {i:Nat} {l:List Oper}:Qx (P5 P L ops Z lc K i l s) P L (s.erase Z) ops l (fun rest d pv=>P5 P L ops Z lc K (i+1) rest (s.putR d pv)) :=
 ⟨fun _ _ _ _ _ _ _ _ hl hg hq k=>by
  subst hl
  rw[yO]at hg
  exact⟨_,Step5.free (o:=⟨some _,_,_,_,_,_⟩) (dN hg) hq,k⟩⟩
theorem CL {Z:List Nat} {lc:Nat→Option Nat} {i d:Nat} {T ty:TypeId} {r:LRow} {z:List PV} {pos:String} {af:Array Edge} {g:Option (Nat × Bool)} (hg:gB ops s g=some true) (hc:lc i=some d) (hr:L T=some r) (hz:r.zero=some z) (h0:Nat.blt 0 z.length=true)
  (h:P5 P L ops Z lc K (i+1) rest ((s.setOwn d ((s.own d).1+1) (some ⟨T,z.length,[z],2⟩)).putR d (.ptr d ((s.own d).1+1) 0 0))):P5 P L ops Z lc K i (⟨some d,.alloc T,ty,pos,af,g⟩::rest) s:=by
 refine⟨_,?_,h⟩
 rw[hc]
 exact Step5.loc (o:=⟨some d,.alloc T,ty,pos,af,g⟩) (dN hg) (.alloc rfl rfl hr hz (by simpa using h0))
theorem CM {Z:List Nat} {lc:Nat→Option Nat} {i k gn ii j:Nat} {T ty:TypeId} {r:LRow} {x y:Operand} {c:Cont} {row:List PV} {Pr:Prop} {pos:String} {af:Array Edge} {g:Option (Nat × Bool)} (kd:Nat) (hg:gB ops s g=some true) (hc:lc i=some k) (hr:L T=some r) (hx:s.ev x = .ptr k gn ii j) (hown:s.own k=(gn,some c))
  (hrow:c.rows[ii]? = some row) (h1:∀s':St,cZ s' (s.ev y).cells=some Pr) (h2:Pr) (hsz:(s.ev y).cells.length=r.size) (hle:Nat.ble (j+r.size) row.length=true) (hk:Nat.ble c.kind kd=true) (hkd:(s.ev y).cells.all (lX kd)=true)
  (h:P5 P L ops Z lc K (i+1) rest (s.setOwn k gn (some ⟨c.ty,c.sz,c.rows.set ii (i6 row j ((s.ev y).cells.map (dJ kd))),kd⟩))):P5 P L ops Z lc K i (⟨none,.store T x y,ty,pos,af,g⟩::rest) s:=by
 refine⟨_,?_,h⟩
 rw[hc]
 exact Step5.loc (o:=⟨none,.store T x y,ty,pos,af,g⟩) (dN hg) (.store kd rfl rfl hr hx hown hrow h1 h2 hsz (by simpa using hle) (by simpa using hk) hkd)
theorem bH {G:Prop} {P:Program} {L:Lay} {s:St} {ops:Array Oper} {l:List Oper} {K:List Oper→Nat→PV→Prop} [i:Qx G P L s ops l K] {d:Nat} {op:Op} {ty:TypeId} {pos:String} {af:Array Edge} {g:Option (Nat × Bool)} {rest:List Oper} {pv:PV}
  (hl:l=⟨some d,op,ty,pos,af,g⟩::rest) (hb:gB ops s g=some true) (hq:QOp P L s ⟨some d,op,ty,pos,af,g⟩ pv) (k:K rest d pv):G:=i.ok d op ty pos af g rest pv hl hb hq k
end
theorem aa {G:Prop} [i:Nx G] {Cd A:Prop} (h:i.nx=some (Cd,A)) (k:A) (hc:Cd:=by((repeat' constructor);first|done|fail)):G:=ES h hc k
theorem dh {G:Prop} [i:Nx G] {Cd A:Prop} (h:i.nx=some (Cd,A)) (k:A) (hc:Cd:=by((repeat' (first|exact True.intro|exact rfl|refine And.intro ?_ ?_));first|done|fail)):G:=ES h hc k
theorem aP {G:Prop} {P:Program} {L:Lay} {s:St} {ops:Array Oper} {l:List Oper} {K:List Oper→Nat→PV→Prop} [i:Qx G P L s ops l K] {d:Nat} {ty:TypeId} {pos:String} {af:Array Edge} {g:Option (Nat × Bool)} {rest:List Oper} {fop:Operand} {args:Array Operand} {tys:Array TypeId} {f:FuncId} {caps pargs:List PV} {Cd:Prop} {b:Fl} {rr rf:PV} (hl:l=⟨some d,.call ⟨.value fop,args,tys⟩,ty,pos,af,g⟩::rest) (hb:gB ops s g=some true) (hf:s.ev fop = .clo f caps) (hret:Ret P .shared f pargs rr) (hres:eQ (ek s 4) (args.toList.map s.ev++caps)=some (pargs,Cd,b)) (hfl:rr.flat=true) (hrf:rr.frs.fz=some rf) (k:K rest d rf) (hc:Cd:=by((repeat' constructor);first|done|fail)):G:=bH hl hb (BT hf hret hres hc hfl hrf) k
theorem EC {G:Prop} {P:Program} {L:Lay} {s:St} {ops:Array Oper} {l:List Oper} {K:List Oper→Nat→PV→Prop} [i:Qx G P L s ops l K] {d:Nat} {ty:TypeId} {pos:String} {af:Array Edge} {g:Option (Nat × Bool)} {rest:List Oper} {fop:Operand} {args:Array Operand} {tys:Array TypeId} {f:FuncId} {caps pargs:List PV} {Cd:Prop} {b:Fl} {rr rf:PV} (hl:l=⟨some d,.call ⟨.value fop,args,tys⟩,ty,pos,af,g⟩::rest) (hb:gB ops s g=some true) (hf:s.ev fop = .clo f caps) (hret:Ret P .fresh f pargs rr) (hres:eQ (ek s 4) (args.toList.map s.ev++caps)=some (pargs,Cd,b)) (hrf:rr.frs.fz=some rf) (k:K rest d rf) (hc:Cd:=by((repeat' constructor);first|done|fail)):G:=bH hl hb (uR hf hret hres hc hrf) k
theorem ak {G:Prop} {P:Program} {L:Lay} {s:St} {ops:Array Oper} {l:List Oper} {K:List Oper→Nat→PV→Prop} [i:Qx G P L s ops l K] {d:Nat} {ty:TypeId} {pos:String} {af:Array Edge} {g:Option (Nat × Bool)} {rest:List Oper} {fop:Operand} {args:Array Operand} {tys:Array TypeId} {f:FuncId} {caps pargs:List PV} {Cd:Prop} {b:Fl} {rr:PV} (hl:l=⟨some d,.call ⟨.value fop,args,tys⟩,ty,pos,af,g⟩::rest) (hb:gB ops s g=some true) (hf:s.ev fop = .clo f caps) (hret:Ret P .shared f pargs rr) (hres:eQ (ek s 4) (args.toList.map s.ev++caps)=some (pargs,Cd,b)) (hb2:b.cl=true) (k:K rest d rr) (hc:Cd:=by((repeat' constructor);first|done|fail)):G:=bH hl hb (dQ hf hret hres hc hb2) k
theorem aZ {G:Prop} {P:Program} {L:Lay} {s:St} {ops:Array Oper} {l:List Oper} {K:List Oper→Nat→PV→Prop} [i:Qx G P L s ops l K] {d:Nat} {ty:TypeId} {pos:String} {af:Array Edge} {g:Option (Nat × Bool)} {rest:List Oper} {T E:TypeId} {r re:LRow} {x ix:Operand} {kk:IntKind} {n:Int} {α:Type} {enc:α→List PV} {ls:List α} {a:α} (hl:l=⟨some d,.indexAddr T x ix,ty,pos,af,g⟩::rest) (hb:gB ops s g=some true) (hr:L T=some r) (hs:r.sh = .sl E) (hre:L E=some re) (hx:s.ev x = .sl (ls.map enc)) (hix:s.ev ix = .int kk n) (hget:ls[n.toNat]? = some a) (hlen:(enc a).length=re.size) (k:K rest d (.dref (enc a) 0)) (h0:0≤n:=by omega):G:=bH hl hb (p7 hr hs hre hx hix h0 hget hlen) k
theorem sF {G:Prop} {P:Program} {L:Lay} {s:St} {ops:Array Oper} {l:List Oper} {K:List Oper→Nat→PV→Prop} [i:Qx G P L s ops l K] {d:Nat} {ty:TypeId} {pos:String} {af:Array Edge} {g:Option (Nat × Bool)} {rest:List Oper} {T E:TypeId} {r re:LRow} {x ix:Operand} {kk:IntKind} {n:Int} {st gn i0 m:Nat} {c:Cont} (hl:l=⟨some d,.indexAddr T x ix,ty,pos,af,g⟩::rest) (hb:gB ops s g=some true) (hr:L T=some r) (hs:r.sh = .sl E) (hre:L E=some re) (hx:s.ev x = .als st gn i0 m) (hown:s.own st=(gn,some c)) (hsz:c.sz=re.size) (hix:s.ev ix = .int kk n) (k:K rest d (.ptr st gn (i0+n.toNat) 0)) (h0:0≤n:=by omega) (hlt:n<m:=by omega):G:=bH hl hb (bp hr hs hre hx hown hsz hix h0 hlt) k
class Sx (G:Prop) (ops:outParam (Array Oper)) (l:outParam (List Oper)) (s:outParam St) (F:outParam (St→Prop)):Prop where
 ok:F s→G
instance {P:Program} {L:Lay} {ops:Array Oper} {K:St→Prop} {l:List Oper} {s:St}:Sx (POps P L ops K l s) ops l s (fun s'=>POps P L ops K l s'):=⟨fun h=>h⟩
instance {P:Program} {L:Lay} {ops:Array Oper} {K:St→Prop} {l:List Oper} {s:St}:Sx (PQuiet P L ops K l s) ops l s (fun s'=>PQuiet P L ops K l s'):=⟨fun h=>h⟩
instance {P:Program} {L:Lay} {ops:Array Oper} {K:St→Prop} {l:List Oper} {s:St} {Z:Nat→List Nat} {cls:Nat→Bool} {i:Nat}:Sx (P3 P L ops Z cls K i l s) ops l s (fun s'=>P3 P L ops Z cls K i l s'):=⟨fun h=>h⟩
theorem dr {G:Prop} {ops:Array Oper} {l:List Oper} {s:St} {F:St→Prop} [i:Sx G ops l s F] {j e:Nat} {want b:Bool} (_hl:l.head?.bind (·.guard)=some (j,want)) (_hd:(ops[j]?).bind (·.dst)=some e) (hr:s.reg e = .bool b) (h1:b=true→F (s.putR e (.bool true))) (h0:b=false→F (s.putR e (.bool false))):G:=by
 have:=wI hr
 cases b
 ·have q:=h0 rfl;rw[this]at q;exact i.ok q
 ·have q:=h1 rfl;rw[this]at q;exact i.ok q
theorem gz (k:Nat) (h:k≤9223372036854775806:=by omega):IntKind.i64.wrap (((k:Nat):Int)+1)=((k+1:Nat):Int):=by rw[wrap_i64 (by omega) (by omega)];omega
end Go.Pv
namespace Go.Pv
open Go.RowKit
variable [Globs]
section
variable {L:Lay} {s:St} {fn:Func} {r:PV}
end
end Go.Pv
namespace Go.Pv
open Go.RowKit
def gN:PV→Bool
 |.int _ _ | .bool _ | .str _=>true
 |_=>false
theorem kS {E:Env} {c:PV} {v:Value} (h:gN c=true) (hr:Rep E c v):v=scv c:=by
 cases c<;>simp only[gN,Bool.false_eq_true]at h
 ·exact hr.bool_inv
 ·exact hr.int_inv
 ·exact hr.str_inv
theorem d8 {c:PV} (h:gN c=true) (w:World) (ok:Nat→Prop):DRep w ok c (scv c)∧(scv c).oneCell'=true:=by
 cases c<;>simp only[gN,Bool.false_eq_true]at h
 ·exact⟨.bool _,rfl⟩
 ·exact⟨.int _ _,rfl⟩
 ·exact⟨.str _,rfl⟩
variable [Globs]
theorem tu {P:Program} {L:Lay} {s:St} {d:Nat} {ty:TypeId} {pos:String} {af:Array Edge} {g:Option (Nat × Bool)} {T E:TypeId} {x hi:Operand} {r re:LRow} {α:Type} {enc:α→List PV} {l:List α} {k:IntKind} {n:Int} (hr:L T=some r) (hs:r.sh = .sl E) (hre:L E=some re)
  (hx:s.ev x = .sl (l.map enc)) (hix:s.ev hi = .int k n) (h0:0≤n) (hle:n≤l.length) (hlen:∀a,(enc a).length=re.size):QOp P L s ⟨some d,.slice T x none (some hi) none,ty,pos,af,g⟩ (.sl ((l.take n.toNat).map enc)):=by
 have:=QOp.slh (P:=P) (L:=L) (s:=s) (o:=⟨some d,.slice T x none (some hi) none,ty,pos,af,g⟩) rfl hr hs hre hx hix h0 (by simpa using hle) (by intro row h;obtain⟨a,_,rfl⟩:=List.mem_map.1 h;exact hlen a)
 rwa [←List.map_take]at this
theorem Ghost.takeL {s:St} {k g t n kd sz:Nat} {T:TypeId} {rows:List (List PV)} {α:Type} {enc:α→List PV} (l:List α) (ho:s.own k=(g,some ⟨T,sz,rows,kd⟩)) (hr:s.reg t = .als k g 0 n) (he:rows=l.map enc) (hn:n=rows.length) (hpl:∀x,(enc x).all gN=true) :
  Ghost s ((s.setOwn k (g+1) none).putR t (.sl (l.map enc))):=by
 intro C a w hX ⟨γ,h⟩
 subst hn
 subst he
 obtain⟨h1,hle,_⟩:=h.drop hX ho
 refine⟨γ,h1.defers,h1.size,fun r=>?_,h1.sites,h1.inj,h1.base,h1.below,h1.top,h1.kept⟩
 show Rep _ (bif Nat.beq r t then _ else(s.setOwn k (g+1) none).reg r) _
 by_cases hrt:r=t
 ·subst hrt
  have hp:=h.regs r
  rw[hr]at hp
  simp only[Nat.beq_refl,cond_true]
  refine .d ?_
  rcases h.als_at hp ho with⟨q1,_,q3,q4⟩|⟨b,cap,cur,q1,q2,q3,q4,q5,q6,q7⟩
  ·have:l.map enc=[]:=(h.sites k _ (by rw[ho])).emp q1
   rw[this,q4]
   exact .sl0 _ _
  ·obtain⟨cur',g1,g2,g3,g4,g5⟩:=h.site_at ho q1 (h.cells_sz ho q1 q3 q6)
   have hb:(ag C γ (s.setOwn k (g+1) none) w).ok b:=by
    have hbase:=h.base k _ b (by rw[ho]) q1
    refine⟨hbase.2,fun hx=>?_,fun k' c' hc' hb'=>?_⟩
    ·have:=hX b hx;omega
    ·by_cases hk':k'=k
     ·subst hk';rw[ae]at hc';cases hc'
     ·rw[au hk']at hc'
      exact hk' (h.inj k' k c' _ b hc' (by rw[ho]) hb' q1)
   rw[q2]
   simp only[Nat.zero_mul]
   refine .sl (l.map enc) b 0 cap sz (fun i j=>cur'.getD (i*sz+j) undef) hb g2 q4 g4 (fun i j row pv e1 e2=>?_) (fun i j row pv e1 e2=>?_)
   ·obtain⟨u,f1,f2,_⟩:=g5 i j row pv e1 e2
    have g1:w.heap[b]? = some (.cells cur' T (0,0)):=g1
    show w.cell? _=_∧_
    rw[aQ g1,Nat.zero_add,f1]
    simp[f1,f2]
   ·obtain⟨u,f1,_,f3⟩:=g5 i j row pv e1 e2
    have hu:cur'.getD (i*sz+j) undef=u:=by simp[f1]
    simp only[hu]
    rw[List.getElem?_map,Option.map_eq_some_iff]at e1
    obtain⟨y,_,rfl⟩:=e1
    have hpv:=List.all_eq_true.1 (hpl y) _ (List.mem_of_getElem? e2)
    rw[kS hpv (f3.rep ap)]
    exact(d8 hpv _ _).1
 ·rw[aV hrt];exact h1.regs r
theorem Ghost.nilfs {s:St} {t:Nat} (hr:s.reg t = .nil):Ghost s (s.putR t (.fsl [])):=by
 intro C a w hX ⟨γ,h⟩
 refine⟨γ,h.defers,h.size,fun r=>?_,h.sites,h.inj,h.base,h.below,h.top,h.kept⟩
 show Rep _ (bif Nat.beq r t then _ else s.reg r) _
 by_cases hrt:r=t
 ·subst hrt
  have hp:=h.regs r
  rw[hr]at hp
  simp only[Nat.beq_refl,cond_true]
  rw[hp.nil_inv]
  exact .fsl (.sl0 _ _)
 ·rw[aV hrt];exact h.regs r
theorem Ghost.takeF {s:St} {k g t n kd sz:Nat} {T:TypeId} {rows:List (List PV)} {α:Type} {enc:α→List PV} (l:List α) (ho:s.own k=(g,some ⟨T,sz,rows,kd⟩)) (hr:s.reg t = .als k g 0 n) (he:rows=l.map enc) (hn:n=rows.length) (hpl:∀x,(enc x).all gN=true) :
  Ghost s ((s.setOwn k (g+1) none).putR t (.fsl (l.map enc))):=by
 intro C a w hX ⟨γ,h⟩
 subst hn
 subst he
 obtain⟨h1,hle,_⟩:=h.drop hX ho
 refine⟨γ,h1.defers,h1.size,fun r=>?_,h1.sites,h1.inj,h1.base,h1.below,h1.top,h1.kept⟩
 show Rep _ (bif Nat.beq r t then _ else(s.setOwn k (g+1) none).reg r) _
 by_cases hrt:r=t
 ·subst hrt
  have hp:=h.regs r
  rw[hr]at hp
  simp only[Nat.beq_refl,cond_true]
  refine .fsl ?_
  rcases h.als_at hp ho with⟨q1,_,q3,q4⟩|⟨b,cap,cur,q1,q2,q3,q4,q5,q6,q7⟩
  ·have:l.map enc=[]:=(h.sites k _ (by rw[ho])).emp q1
   rw[this,q4]
   exact .sl0 _ _
  ·obtain⟨cur',g1,g2,g3,g4,g5⟩:=h.site_at ho q1 (h.cells_sz ho q1 q3 q6)
   have hb:(ag C γ (s.setOwn k (g+1) none) w).okf b:=by
    have hbase:=h.base k _ b (by rw[ho]) q1
    refine⟨hbase.1,hbase.2,fun hx=>?_,fun k' c' hc' hb'=>?_⟩
    ·have:=hX b hx;omega
    ·by_cases hk':k'=k
     ·subst hk';rw[ae]at hc';cases hc'
     ·rw[au hk']at hc'
      exact hk' (h.inj k' k c' _ b hc' (by rw[ho]) hb' q1)
   rw[q2]
   simp only[Nat.zero_mul]
   refine .sl (l.map enc) b 0 cap sz (fun i j=>cur'.getD (i*sz+j) undef) hb g2 q4 g4 (fun i j row pv e1 e2=>?_) (fun i j row pv e1 e2=>?_)
   ·obtain⟨u,f1,f2,_⟩:=g5 i j row pv e1 e2
    have g1:w.heap[b]? = some (.cells cur' T (0,0)):=g1
    show w.cell? _=_∧_
    rw[aQ g1,Nat.zero_add,f1]
    simp[f1,f2]
   ·obtain⟨u,f1,_,f3⟩:=g5 i j row pv e1 e2
    have hu:cur'.getD (i*sz+j) undef=u:=by simp[f1]
    simp only[hu]
    rw[List.getElem?_map,Option.map_eq_some_iff]at e1
    obtain⟨y,_,rfl⟩:=e1
    have hpv:=List.all_eq_true.1 (hpl y) _ (List.mem_of_getElem? e2)
    rw[kS hpv (f3.rep ap)]
    exact(d8 hpv _ _).1
 ·rw[aV hrt];exact h1.regs r
section
variable {P:Program} {L:Lay} {Q:Exit→St→Prop} {s:St}
theorem nl {ι:Type} {c:Code} {id:Nat} {next:St→Prop} (X:ι→Prop) (regs:ι→List (Nat × PV)) (owns:ι→List (Nat × Nat × Cont)) (h1:PWP P L c (ao id (ax (fun s'=>∃i,X i∧Fit s' (regs i) (owns i)) Q)) s) (h2:∀i,X i→∀s:St,next (s.over (regs i) (owns i))):PWP P L c (ao id (ax next Q)) s:=by
 refine PWP.mono ?_ _ h1
 intro e s' h
 have key:(∃i,X i∧Fit s' (regs i) (owns i))→next s':=by
  rintro⟨i,hX,hf⟩
  have:=h2 i hX s'
  rwa [Fit.over hf]at this
 cases e
 case normal=>exact key h
 case exit id' =>
  show if id'=id then _ else _
  have h:if id'=id then _ else _:=h
  split
  ·rename_i he
   rw[if_pos he]at h
   exact key h
  ·rename_i he
   rw[if_neg he]at h
   exact h
 all_goals exact h
end
theorem aT (id:Nat) {P:Program} {L:Lay} {s:St} {ops:Array Oper} {d:Bool} {Q:Exit→St→Prop} (h:PWP P L (.region id ops d) Q s):PWP P L (.region id ops d) Q s:=h
end Go.Pv
namespace Go.Pv
open Go.RowKit Go.ChangeShapes Go.WideShapes Go.ChangeAt
def ig (L:Lay):List (Nat × TypeId)→Nat→Nat→Bool
 |[],o,tot=>Nat.beq o tot
 |(off,T)::fs,o,tot=>match L T with|some r=>Nat.beq off o&&ig L fs (o+r.size) tot|none=>false
def fk (L:Lay):Nat→TypeId→Bool
 |0,_=>false
 |n+1,T=>match L T with
  |some r=>(match r.sh with
   |.bool | .int _ | .str=>true
   |.sl e=>(match L e with|some re=>Nat.blt 0 re.size&&fk L n e|none=>false)
   |.st fs=>ig L fs 0 r.size&&fs.all (fun f=>fk L n f.2)
   |_=>false)
  |none=>false
def kE (L:Lay):Nat→TypeId→List PV→Prop
 |0,_,_=>False
 |n+1,T,cs=>∃r,L T=some r∧(match r.sh with
  |.bool=>∃b,cs=[.bool b]
  |.int k=>∃m,cs=[.int k m]∧k.min≤m∧m≤k.max
  |.str=>∃s:List UInt8,cs=[.str s]∧s.length≤maxLen
  |.sl e=>∃rows,cs=[.sl rows]∧rows.length≤maxLen∧∀row∈rows,kE L n e row
  |.st fs=>∃parts:List (List PV),cs=parts.flatten∧parts.length=fs.length∧∀(i:Nat) f p,fs[i]? = some f→parts[i]? = some p→kE L n f.2 p
  |_=>False)
section
variable {L:Lay} {n:Nat} {T:TypeId} {cs:List PV}
theorem qw {r:LRow} {sh:Sh} (hr:L T=some r) (hs:(L T).map (·.sh)=some sh):r.sh=sh:=by rw[hr]at hs;exact Option.some.inj hs
theorem AM (h:kE L (n+1) T cs) (hs:(L T).map (·.sh)=some .bool):∃b,cs=[.bool b]:=by
 obtain⟨r,hr,h⟩:=h
 rw[qw hr hs]at h;exact h
theorem sy {k:IntKind} (h:kE L (n+1) T cs) (hs:(L T).map (·.sh)=some (.int k)):∃m,cs=[.int k m]∧k.min≤m∧m≤k.max:=by
 obtain⟨r,hr,h⟩:=h
 rw[qw hr hs]at h;exact h
theorem mc {e:TypeId} (h:kE L (n+1) T cs) (hs:(L T).map (·.sh)=some (.sl e)):∃rows,cs=[.sl rows]∧rows.length≤maxLen∧∀row∈rows,kE L n e row:=by
 obtain⟨r,hr,h⟩:=h
 rw[qw hr hs]at h;exact h
theorem Ds {e:TypeId} (h:kE L (n+1) T cs) (hs:(L T).map (·.sh)=some (.sl e)):∃rows,cs=[.sl rows]∧∀row∈rows,kE L n e row:=let ⟨m,e,_,h⟩:=mc h hs;⟨m,e,h⟩
theorem nL {fs:List (Nat × TypeId)} (h:kE L (n+1) T cs) (hs:(L T).map (·.sh)=some (.st fs)):∃parts:List (List PV),cs=parts.flatten∧parts.length=fs.length∧∀(i:Nat) f p,fs[i]? = some f→parts[i]? = some p→kE L n f.2 p:=by
 obtain⟨r,hr,h⟩:=h
 rw[qw hr hs]at h;exact h
end
def Reads (w:World) (pvs:List PV) (cs:List Value):Prop :=
 pvs.length=cs.length∧∀(i:Nat) (c:PV) (v:Value),pvs[i]? = some c→cs[i]? = some v→DRep w (fun b=>b<w.heap.size) c v∧v.oneCell'=true
theorem Reads.append {w:World} {p1 p2:List PV} {c1 c2:List Value} (h1:Reads w p1 c1) (h2:Reads w p2 c2):Reads w (p1++p2) (c1++c2):=by
 refine⟨by simp[h1.1,h2.1],fun i c v e1 e2=>?_⟩
 rw[List.getElem?_append]at e1 e2
 split at e1
 ·rename_i hlt
  rw[if_pos (by rw[←h1.1];exact hlt)]at e2
  exact h1.2 i c v e1 e2
 ·rename_i hlt
  rw[if_neg (by rw[←h1.1];exact hlt),←h1.1]at e2
  exact h2.2 _ c v e1 e2
section
variable {H:Type} {enc:TypeId × Value→H} {P:Program} {L:Lay} {w:World} {sp:Nat→Bool} {held:Bool}
theorem jg (hL:fX P L) {T:TypeId} {r:LRow} (hr:L T=some r):P.cellsOf T=r.size:=by
 obtain⟨i,d,hi,_,hs,_⟩:=LRow.spec (hL T r hr)
 simp[Program.cellsOf,hi,hs]
theorem oa:∀(fs:List (Nat × TypeId)) (o tot:Nat),ig L fs o tot=true→o≤tot
 |[],o,tot,h=>by simp[ig]at h;omega
 |(off,T)::fs,o,tot,h=>by
  simp only[ig]at h
  split at h
  ·rename_i r hr
   simp only[Bool.and_eq_true]at h
   have:=oa fs _ _ h.2
   omega
  ·cases h
theorem mB (hL:fX P L) {n:Nat} {cs:List Value}
  (IH:∀(T:TypeId) (cs:List Value) (fuel:Nat) x,fk L n T=true→DataW.trod enc P w 0 sp held fuel T cs=some x→∃pvs,Reads w pvs cs∧kE L n T pvs) :
  ∀(fs:List (Nat × TypeId)) (o:Nat),ig L fs o cs.length=true→fs.all (fun f=>fk L n f.2)=true →
   (∀f∈fs,∃m x,DataW.trod enc P w 0 sp held m f.2 ((cs.drop f.1).take (P.cellsOf f.2))=some x) →
   ∃parts:List (List PV),Reads w parts.flatten (cs.drop o)∧parts.length=fs.length∧∀(i:Nat) f p,fs[i]? = some f→parts[i]? = some p→kE L n f.2 p
 |[],o,h,_,_=>by
  simp[ig]at h
  refine⟨[],⟨by simp[h],fun i c v e=>by simp at e⟩,rfl,fun i f p e=>by simp at e⟩
 |(off,T)::fs,o,h,hall,hd=>by
  simp only[ig]at h
  split at h
  ·rename_i r hr
   simp only[Bool.and_eq_true,Nat.beq_eq]at h
   obtain⟨rfl,h⟩:=h
   simp only[List.all_cons,Bool.and_eq_true]at hall
   have hle:=oa fs _ _ h
   obtain⟨m,x,hx⟩:=hd (off,T) (by simp)
   obtain⟨pvs,hp1,hp2⟩:=IH T _ m x hall.1 hx
   obtain⟨parts,g1,g2,g3⟩:=mB hL IH fs (off+r.size) h hall.2 (fun f hf=>hd f (by simp[hf]))
   rw[jg hL hr]at hp1
   refine⟨pvs::parts,?_,by simp[g2],fun i f p e1 e2=>?_⟩
   ·have hsplit:cs.drop off=(cs.drop off).take r.size++cs.drop (off+r.size):=by rw[←List.drop_drop,List.take_append_drop]
    rw[hsplit,List.flatten_cons]
    exact hp1.append g1
   ·cases i with
    |zero=>simp at e1 e2;subst e1;subst e2;exact hp2
    |succ i=>exact g3 i f p (by simpa using e1) (by simpa using e2)
  ·cases h
theorem nK (hL:fX P L):∀(n:Nat) (T:TypeId) (cs:List Value) (fuel:Nat) (x:DataW H × List MemPlace),fk L n T=true→DataW.trod enc P w 0 sp held fuel T cs=some x→∃pvs,Reads w pvs cs∧kE L n T pvs
 |0,_,_,_,_,h,_=>by simp[fk]at h
 |n+1,T,cs,fuel,x,h,ht=>by
  simp only[fk]at h
  split at h
  ·rename_i r hr
   have hfit:=hL T r hr
   have one:∀ {c:PV} {v:Value},DRep w (fun b=>b<w.heap.size) c v→v.oneCell'=true→Reads w [c] [v]:=fun h1 h2=>⟨rfl,fun i c v e1 e2=>by
    cases i with
    |zero=>simp at e1 e2;subst e1;subst e2;exact⟨h1,h2⟩
    |succ i=>simp at e1⟩
   split at h
   ·rename_i hs
    obtain⟨b,rfl,_⟩:=DataW.trod_bool (nN hfit hs) ht
    exact⟨[.bool b],one (.bool b) rfl,r,hr,by rw[hs];exact⟨b,rfl⟩⟩
   ·rename_i k hs
    obtain⟨m,rfl,_,hwf⟩:=DataW.trod_int (kx hfit hs) ht
    simp only[Lit.wf,Bool.and_eq_true,decide_eq_true_eq]at hwf
    exact⟨[.int k m],one (.int k m) rfl,r,hr,by rw[hs];exact⟨m,rfl,hwf⟩⟩
   ·rename_i hs
    obtain⟨s,rfl,_,hsz⟩:=DataW.trod_string (i2 hfit hs) ht
    exact⟨[.str s.data.toList],one (.str s.data.toList) rfl,r,hr,by rw[hs];exact⟨_,rfl,by rw[Array.length_toList];exact hsz⟩⟩
   ·rename_i e hs
    split at h
    ·rename_i re hre
     simp only[Bool.and_eq_true]at h
     have hsz:0<re.size:=by simpa using h.1
     have hce:=jg hL hre
     rcases DataW.trod_slice (fA hfit hs) ht with⟨rfl,_⟩|⟨a,len,cap,elems,rest,m,rfl,rfl,_,_,hlc,hcm,hel,hat,_⟩
     ·exact⟨[.sl []],one (.sl0 none 0) rfl,r,hr,by rw[hs];exact⟨[],rfl,Nat.zero_le _,fun row hrow=>by cases hrow⟩⟩
     ·rw[hce]at hat
      have key:∀i,i<len→∃ecs,w.cells? 0 (a.add (i*re.size)) re.size=some ecs∧∃pvs,Reads w pvs ecs∧kE L n e pvs:=by
       intro i hi
       have h1:=hat i hi
       rw[List.getElem?_eq_getElem (by omega)]at h1
       obtain⟨ecs,e1,e2⟩:=Option.bind_eq_some_iff.1 h1
       obtain⟨pvs,g1,g2⟩:=nK hL n e ecs m _ h.2 e2
       exact⟨ecs,e1,pvs,g1,g2⟩
      by_cases h0:len=0
      ·subst h0
       exact⟨[.sl []],one (.sl0 _ _) rfl,r,hr,by rw[hs];exact⟨[],rfl,Nat.zero_le _,fun row hrow=>by cases hrow⟩⟩
      ·
       have cellAt:∀(i:Nat) ecs,w.cells? 0 (a.add (i*re.size)) re.size=some ecs→ecs.length=re.size∧∀j v,ecs[j]? = some v→w.cell? ((a.add (i*re.size)).add j)=some v:=by
        intro i ecs he
        unfold World.cells? at he
        rw[if_pos (Nat.zero_le _)]at he
        refine⟨by simpa using mapM_some_length he,fun j v hv=>?_⟩
        have hj:j<re.size:=by have:=mapM_some_length he;have:=(List.getElem?_eq_some_iff.1 hv).1;simp at *;omega
        have:=mapM_some_get he j j (by simp[hj])
        rw[hv]at this
        exact this
       obtain⟨b,off,spot⟩:=a
       obtain⟨ecs0,f1,pvs0,f2,_⟩:=key 0 (by omega)
       obtain⟨f3,f4⟩:=cellAt 0 ecs0 f1
       have hc0:∃v,w.cell? (((⟨b,off,spot⟩:Addr).add (0*re.size)).add 0)=some v:=⟨ecs0[0],f4 0 _ (List.getElem?_eq_getElem (by omega))⟩
       have hspot:spot=none:=by
        obtain⟨v,hv⟩:=hc0
        simpa [Addr.add] using World.cell?_spot hv
       subst hspot
       have hbl:b<w.heap.size:=by
        obtain⟨v,hv⟩:=hc0
        simp only[Nat.zero_mul,Addr.add_mk,Nat.add_zero]at hv
        rcases Nat.lt_or_ge b w.heap.size with hlt|hge
        ·exact hlt
        ·simp[World.cell?,Array.getElem?_eq_none hge]at hv
       have hch:∀i:Nat,∃p:List PV × List Value,i<len→w.cells? 0 ((⟨b,off,none⟩:Addr).add (i*re.size)) re.size=some p.2∧Reads w p.1 p.2∧kE L n e p.1:=by
        intro i
        by_cases hi:i<len
        ·obtain⟨ecs,e1,pvs,e2,e3⟩:=key i hi
         exact⟨(pvs,ecs),fun _=>⟨e1,e2,e3⟩⟩
        ·exact⟨([],[]),fun h=>absurd h hi⟩
       let g:Nat→List PV × List Value:=fun i=>Classical.choose (hch i)
       have hg:∀i,i<len→w.cells? 0 ((⟨b,off,none⟩:Addr).add (i*re.size)) re.size=some (g i).2∧Reads w (g i).1 (g i).2∧kE L n e (g i).1:=fun i hi=>Classical.choose_spec (hch i) hi
       have hrow:∀(i:Nat) (row:List PV),((List.range len).map fun i=>(g i).1)[i]? = some row→i<len∧row=(g i).1:=by
        intro i row hrow
        rw[List.getElem?_map]at hrow
        rcases Nat.lt_or_ge i len with hlt|hge
        ·rw[List.getElem?_range hlt]at hrow
         simp at hrow
         exact⟨hlt,hrow.symm⟩
        ·rw[List.getElem?_eq_none (by simpa using hge)]at hrow
         simp at hrow
       have hmem:∀row∈(List.range len).map fun i=>(g i).1,∃i,i<len∧row=(g i).1:=by
        intro row hrow
        obtain⟨i,hi,rfl⟩:=List.mem_map.1 hrow
        exact⟨i,List.mem_range.1 hi,rfl⟩
       have hlen:((List.range len).map fun i=>(g i).1).length=len:=by simp
       have hlen':∀i,i<len→(g i).1.length=re.size:=fun i hi=>by
        rw[(hg i hi).2.1.1];exact(cellAt i _ (hg i hi).1).1
       have hD:DRep w (fun b=>b<w.heap.size) (.sl ((List.range len).map fun i=>(g i).1)) (.slice (some ⟨b,off,none⟩) len cap):=by
        have:=DRep.sl (w:=w) (ok:=fun b=>b<w.heap.size) ((List.range len).map fun i=>(g i).1) b off cap re.size (fun i j=>((g i).2[j]?).getD undef) hbl hsz (by rw[hlen];exact hlc)
         (fun row hr=>by obtain⟨i,hi,rfl⟩:=hmem row hr;exact hlen' i hi)
         (fun i j row c e1 e2=>by
          obtain⟨hi,rfl⟩:=hrow i row e1
          have hj:j<(g i).2.length:=by rw[←(hg i hi).2.1.1];exact(List.getElem?_eq_some_iff.1 e2).1
          have hv:(g i).2[j]? = some (g i).2[j]:=List.getElem?_eq_getElem hj
          have:=(cellAt i _ (hg i hi).1).2 j _ hv
          rw[Addr.add_mk,Addr.add_mk]at this
          rw[hv]
          exact⟨this,((hg i hi).2.1.2 j c _ e2 hv).2⟩)
         (fun i j row c e1 e2=>by
          obtain⟨hi,rfl⟩:=hrow i row e1
          have hj:j<(g i).2.length:=by rw[←(hg i hi).2.1.1];exact(List.getElem?_eq_some_iff.1 e2).1
          have hv:(g i).2[j]? = some (g i).2[j]:=List.getElem?_eq_getElem hj
          rw[hv]
          exact((hg i hi).2.1.2 j c _ e2 hv).1)
        rw[hlen]at this
        exact this
       exact⟨[.sl ((List.range len).map fun i=>(g i).1)],one hD rfl,r,hr,by
        rw[hs]
        exact⟨_,rfl,by rw[hlen];exact Nat.le_trans hlc hcm,fun row hr=>by obtain⟨i,hi,rfl⟩:=hmem row hr;exact(hg i hi).2.2⟩⟩
    ·cases h
   ·rename_i fs hs
    simp only[Bool.and_eq_true]at h
    obtain⟨fs',hu,hm⟩:=nO hfit hs
    obtain⟨xs,m,_,_,hlen,hxl,hf⟩:=DataW.trod_struct hu ht
    rw[jg hL hr]at hlen
    obtain⟨parts,g1,g2,g3⟩:=mB hL (cs:=cs) (fun T cs fuel x a b=>nK hL n T cs fuel x a b) fs 0 (by rw[hlen];exact h.1) h.2 (fun f hf'=>by
     rw[←hm]at hf'
     obtain⟨fd,hfd,rfl⟩:=List.mem_map.1 hf'
     obtain⟨i,hi,hie⟩:=List.getElem_of_mem hfd
     have hi':i<fs'.size:=by simpa using hi
     have h1:fs'[i]? = some fd:=by rw[Array.getElem?_eq_getElem hi'];simpa using hie
     have h2:=hf i fd h1
     rw[List.getElem?_eq_getElem (by omega)]at h2
     exact⟨m,_,h2⟩)
    exact⟨parts.flatten,by simpa using g1,r,hr,by rw[hs];exact⟨parts,rfl,g2,g3⟩⟩
   ·cases h
  ·cases h
theorem jd (hl:laidOutB P=true) {W W':World} (hb:Below W.heap.size W W'):∀(ts:List TypeId) (vs:List Value) (ds:List (DataW H)) (ps:List MemPlace),(∀t∈ts,P.readableRec t=true∧t<P.types.size) →
  DataW.TrodAll enc P W 0 (fun _=>true) true ts vs ds ps→(∀x∈ps,x.block<W.heap.size)→DataW.TrodAll enc P W' 0 (fun b=>decide (b<W.heap.size)) true ts vs ds ps
 |[],vs,ds,ps,_,h,_=>by
  obtain⟨rfl,rfl,rfl⟩:=trodAll_nil h
  exact trodAll_mk0
 |t::ts,vs,ds,ps,hr,h,hlt=>by
  obtain⟨v,vs',d,ds',p,q,rfl,rfl,rfl,h1,h2⟩:=trodAll_cons h
  have ht:=hr t (by simp)
  exact⟨p,q,Below.trod hl ht.1 ht.2 h1 hb (fun x hx=>hlt x (by simp[hx])),jd hl hb ts vs' ds' q (fun t ht=>hr t (by simp[ht])) h2 (fun x hx=>hlt x (by simp[hx])),rfl⟩
end
end Go.Pv
namespace Go.Pv
open Go.Proofs Go.RowKit
set_option maxRecDepth 100000
def lay:Tr:=(.nd 140 (.nd 70 (.nd 35 (.nd 17 (.nd 8 (.nd 4 (.nd 2 (.nd 1 (.lf 0 ⟨1,0,.other,none⟩)
 (.lf 1 ⟨1,8,.other,(some [(.raw .nilFunc)])⟩))
 (.nd 3 (.lf 2 ⟨1,8,(.int .i64),(some [(.int .i64 0)])⟩)
 (.lf 3 ⟨1,8,(.int .i64),(some [(.int .i64 0)])⟩)))
 (.nd 6 (.nd 5 (.lf 4 ⟨1,1,.bool,(some [(.bool false)])⟩)
 (.lf 5 ⟨1,1,(.int .u8),(some [(.int .u8 0)])⟩))
 (.nd 7 (.lf 6 ⟨1,1,(.int .u8),(some [(.int .u8 0)])⟩)
 (.lf 7 ⟨4,24,(.st [(0,2),(1,3),(2,4),(3,6)]),(some [(.int .i64 0),(.int .i64 0),(.bool false),(.int .u8 0)])⟩))))
 (.nd 12 (.nd 10 (.nd 9 (.lf 8 ⟨4,24,(.st [(0,2),(1,3),(2,4),(3,6)]),(some [(.int .i64 0),(.int .i64 0),(.bool false),(.int .u8 0)])⟩)
 (.lf 9 ⟨1,16,.str,(some [(.str [])])⟩))
 (.nd 11 (.lf 10 ⟨1,16,.str,(some [(.str [])])⟩)
 (.lf 11 ⟨1,16,.str,(some [(.str [])])⟩)))
 (.nd 14 (.nd 13 (.lf 12 ⟨1,8,(.int .u64),(some [(.int .u64 0)])⟩)
 (.lf 13 ⟨2,24,(.st [(0,9),(1,12)]),(some [(.str []),(.int .u64 0)])⟩))
 (.nd 15 (.lf 14 ⟨2,24,(.st [(0,9),(1,12)]),(some [(.str []),(.int .u64 0)])⟩)
 (.nd 16 (.lf 15 ⟨1,8,(.ptr 267),(some [(.raw (.pointer none))])⟩)
 (.lf 16 ⟨1,8,(.ptr 270),(some [(.raw (.pointer none))])⟩))))))
 (.nd 26 (.nd 21 (.nd 19 (.nd 18 (.lf 17 ⟨1,8,(.ptr 279),(some [(.raw (.pointer none))])⟩)
 (.lf 18 ⟨1,8,(.st [(0,17)]),(some [(.raw (.pointer none))])⟩))
 (.nd 20 (.lf 19 ⟨1,8,(.st [(0,17)]),(some [(.raw (.pointer none))])⟩)
 (.lf 20 ⟨1,16,.other,(some [(.raw .nilIface)])⟩)))
 (.nd 23 (.nd 22 (.lf 21 ⟨1,4,(.int .i32),(some [(.int .i32 0)])⟩)
 (.lf 22 ⟨1,24,(.sl 177),(some [.nil])⟩))
 (.nd 24 (.lf 23 ⟨2,32,(.st [(0,4),(1,22)]),(some [(.bool false),.nil])⟩)
 (.nd 25 (.lf 24 ⟨2,32,(.st [(0,4),(1,22)]),(some [(.bool false),.nil])⟩)
 (.lf 25 ⟨4,64,(.st [(0,24),(2,24)]),(some [(.bool false),.nil,(.bool false),.nil])⟩)))))
 (.nd 30 (.nd 28 (.nd 27 (.lf 26 ⟨4,64,(.st [(0,24),(2,24)]),(some [(.bool false),.nil,(.bool false),.nil])⟩)
 (.lf 27 ⟨1,24,(.sl 71),(some [.nil])⟩))
 (.nd 29 (.lf 28 ⟨6,96,(.st [(0,3),(1,26),(5,27)]),(some [(.int .i64 0),(.bool false),.nil,(.bool false),.nil,.nil])⟩)
 (.lf 29 ⟨6,96,(.st [(0,3),(1,26),(5,27)]),(some [(.int .i64 0),(.bool false),.nil,(.bool false),.nil,.nil])⟩)))
 (.nd 32 (.nd 31 (.lf 30 ⟨1,8,.other,(some [(.raw .nilFunc)])⟩)
 (.lf 31 ⟨1,8,.other,(some [(.raw .nilFunc)])⟩))
 (.nd 33 (.lf 32 ⟨8,128,(.st [(0,26),(4,26)]),(some [(.bool false),.nil,(.bool false),.nil,(.bool false),.nil,(.bool false),.nil])⟩)
 (.nd 34 (.lf 33 ⟨8,128,(.st [(0,26),(4,26)]),(some [(.bool false),.nil,(.bool false),.nil,(.bool false),.nil,(.bool false),.nil])⟩)
 (.lf 34 ⟨1,24,(.sl 26),(some [.nil])⟩)))))))
 (.nd 52 (.nd 43 (.nd 39 (.nd 37 (.nd 36 (.lf 35 ⟨9,152,(.st [(0,33),(8,34)]),(some [(.bool false),.nil,(.bool false),.nil,(.bool false),.nil,(.bool false),.nil,.nil])⟩)
 (.lf 36 ⟨9,152,(.st [(0,33),(8,34)]),(some [(.bool false),.nil,(.bool false),.nil,(.bool false),.nil,(.bool false),.nil,.nil])⟩))
 (.nd 38 (.lf 37 ⟨8,128,(.st [(0,26),(4,26)]),(some [(.bool false),.nil,(.bool false),.nil,(.bool false),.nil,(.bool false),.nil])⟩)
 (.lf 38 ⟨8,128,(.st [(0,26),(4,26)]),(some [(.bool false),.nil,(.bool false),.nil,(.bool false),.nil,(.bool false),.nil])⟩)))
 (.nd 41 (.nd 40 (.lf 39 ⟨1,8,(.int .i64),(some [(.int .i64 0)])⟩)
 (.lf 40 ⟨1,0,.other,none⟩))
 (.nd 42 (.lf 41 ⟨1,8,.other,(some [(.raw .nilFunc)])⟩)
 (.lf 42 ⟨1,0,.other,none⟩))))
 (.nd 47 (.nd 45 (.nd 44 (.lf 43 ⟨1,8,.other,(some [(.raw .nilFunc)])⟩)
 (.lf 44 ⟨1,8,.other,(some [(.raw .nilFunc)])⟩))
 (.nd 46 (.lf 45 ⟨1,8,.other,(some [(.raw .nilFunc)])⟩)
 (.lf 46 ⟨1,8,.other,(some [(.raw .nilFunc)])⟩)))
 (.nd 49 (.nd 48 (.lf 47 ⟨1,0,.other,none⟩)
 (.lf 48 ⟨1,8,.other,(some [(.raw .nilFunc)])⟩))
 (.nd 50 (.lf 49 ⟨1,0,.other,none⟩)
 (.nd 51 (.lf 50 ⟨1,8,.other,(some [(.raw .nilFunc)])⟩)
 (.lf 51 ⟨1,8,.other,(some [(.raw .nilFunc)])⟩))))))
 (.nd 61 (.nd 56 (.nd 54 (.nd 53 (.lf 52 ⟨1,8,.other,(some [(.raw .nilFunc)])⟩)
 (.lf 53 ⟨1,0,.other,none⟩))
 (.nd 55 (.lf 54 ⟨1,8,.other,(some [(.raw .nilFunc)])⟩)
 (.lf 55 ⟨1,0,.other,none⟩)))
 (.nd 58 (.nd 57 (.lf 56 ⟨1,8,.other,(some [(.raw .nilFunc)])⟩)
 (.lf 57 ⟨1,0,.other,none⟩))
 (.nd 59 (.lf 58 ⟨1,8,.other,(some [(.raw .nilFunc)])⟩)
 (.nd 60 (.lf 59 ⟨1,8,.other,(some [(.raw .nilFunc)])⟩)
 (.lf 60 ⟨1,8,.other,(some [(.raw .nilFunc)])⟩)))))
 (.nd 65 (.nd 63 (.nd 62 (.lf 61 ⟨1,8,.other,(some [(.raw .nilFunc)])⟩)
 (.lf 62 ⟨1,0,.other,none⟩))
 (.nd 64 (.lf 63 ⟨1,8,.other,(some [(.raw .nilFunc)])⟩)
 (.lf 64 ⟨5,48,(.st [(0,9),(1,3),(2,3),(3,3),(4,3)]),(some [(.str []),(.int .i64 0),(.int .i64 0),(.int .i64 0),(.int .i64 0)])⟩)))
 (.nd 67 (.nd 66 (.lf 65 ⟨5,48,(.st [(0,9),(1,3),(2,3),(3,3),(4,3)]),(some [(.str []),(.int .i64 0),(.int .i64 0),(.int .i64 0),(.int .i64 0)])⟩)
 (.lf 66 ⟨1,8,.other,(some [(.raw .nilFunc)])⟩))
 (.nd 68 (.lf 67 ⟨1,24,(.sl 3),(some [.nil])⟩)
 (.nd 69 (.lf 68 ⟨2,48,(.st [(0,67),(1,34)]),(some [.nil,.nil])⟩)
 (.lf 69 ⟨2,48,(.st [(0,67),(1,34)]),(some [.nil,.nil])⟩))))))))
 (.nd 105 (.nd 87 (.nd 78 (.nd 74 (.nd 72 (.nd 71 (.lf 70 ⟨7,120,(.st [(0,3),(1,26),(5,69)]),(some [(.int .i64 0),(.bool false),.nil,(.bool false),.nil,.nil,.nil])⟩)
 (.lf 71 ⟨7,120,(.st [(0,3),(1,26),(5,69)]),(some [(.int .i64 0),(.bool false),.nil,(.bool false),.nil,.nil,.nil])⟩))
 (.nd 73 (.lf 72 ⟨1,8,.other,(some [(.raw .nilFunc)])⟩)
 (.lf 73 ⟨1,8,.other,(some [(.raw .nilFunc)])⟩)))
 (.nd 76 (.nd 75 (.lf 74 ⟨1,8,.other,(some [(.raw .nilFunc)])⟩)
 (.lf 75 ⟨1,8,.other,(some [(.raw .nilFunc)])⟩))
 (.nd 77 (.lf 76 ⟨1,8,.other,(some [(.raw .nilFunc)])⟩)
 (.lf 77 ⟨1,24,(.sl 135),(some [.nil])⟩))))
 (.nd 82 (.nd 80 (.nd 79 (.lf 78 ⟨1,24,(.sl 65),(some [.nil])⟩)
 (.lf 79 ⟨9,120,(.st [(0,9),(1,3),(2,77),(3,65),(8,78)]),(some [(.str []),(.int .i64 0),.nil,(.str []),(.int .i64 0),(.int .i64 0),(.int .i64 0),(.int .i64 0),.nil])⟩))
 (.nd 81 (.lf 80 ⟨9,120,(.st [(0,9),(1,3),(2,77),(3,65),(8,78)]),(some [(.str []),(.int .i64 0),.nil,(.str []),(.int .i64 0),(.int .i64 0),(.int .i64 0),(.int .i64 0),.nil])⟩)
 (.lf 81 ⟨1,8,.other,(some [(.raw .nilFunc)])⟩)))
 (.nd 84 (.nd 83 (.lf 82 ⟨1,8,.other,(some [(.raw .nilFunc)])⟩)
 (.lf 83 ⟨1,8,.other,(some [(.raw .nilFunc)])⟩))
 (.nd 85 (.lf 84 ⟨1,0,.other,none⟩)
 (.nd 86 (.lf 85 ⟨1,8,.other,(some [(.raw .nilFunc)])⟩)
 (.lf 86 ⟨1,8,.other,(some [(.raw .nilFunc)])⟩))))))
 (.nd 96 (.nd 91 (.nd 89 (.nd 88 (.lf 87 ⟨1,8,.other,(some [(.raw .nilFunc)])⟩)
 (.lf 88 ⟨1,8,.other,(some [(.raw .nilFunc)])⟩))
 (.nd 90 (.lf 89 ⟨1,8,.other,(some [(.raw .nilFunc)])⟩)
 (.lf 90 ⟨1,8,.other,(some [(.raw .nilFunc)])⟩)))
 (.nd 93 (.nd 92 (.lf 91 ⟨1,8,.other,(some [(.raw .nilFunc)])⟩)
 (.lf 92 ⟨1,8,.other,(some [(.raw .nilFunc)])⟩))
 (.nd 94 (.lf 93 ⟨1,8,.other,(some [(.raw .nilFunc)])⟩)
 (.nd 95 (.lf 94 ⟨1,8,.other,(some [(.raw .nilFunc)])⟩)
 (.lf 95 ⟨1,0,.other,none⟩)))))
 (.nd 100 (.nd 98 (.nd 97 (.lf 96 ⟨1,8,.other,(some [(.raw .nilFunc)])⟩)
 (.lf 97 ⟨1,8,.other,(some [(.raw .nilFunc)])⟩))
 (.nd 99 (.lf 98 ⟨1,8,.other,(some [(.raw .nilFunc)])⟩)
 (.lf 99 ⟨1,8,.other,(some [(.raw .nilFunc)])⟩)))
 (.nd 102 (.nd 101 (.lf 100 ⟨1,8,.other,(some [(.raw .nilFunc)])⟩)
 (.lf 101 ⟨1,0,.other,none⟩))
 (.nd 103 (.lf 102 ⟨1,8,.other,(some [(.raw .nilFunc)])⟩)
 (.nd 104 (.lf 103 ⟨1,0,.other,none⟩)
 (.lf 104 ⟨1,8,.other,(some [(.raw .nilFunc)])⟩)))))))
 (.nd 122 (.nd 113 (.nd 109 (.nd 107 (.nd 106 (.lf 105 ⟨1,8,.other,(some [(.raw .nilFunc)])⟩)
 (.lf 106 ⟨1,8,.other,(some [(.raw .nilFunc)])⟩))
 (.nd 108 (.lf 107 ⟨1,8,.other,(some [(.raw .nilFunc)])⟩)
 (.lf 108 ⟨1,24,(.sl 38),(some [.nil])⟩)))
 (.nd 111 (.nd 110 (.lf 109 ⟨1,8,.other,(some [(.raw .nilFunc)])⟩)
 (.lf 110 ⟨1,0,.other,none⟩))
 (.nd 112 (.lf 111 ⟨1,8,.other,(some [(.raw .nilFunc)])⟩)
 (.lf 112 ⟨1,8,.other,(some [(.raw .nilFunc)])⟩))))
 (.nd 117 (.nd 115 (.nd 114 (.lf 113 ⟨1,8,.other,(some [(.raw .nilFunc)])⟩)
 (.lf 114 ⟨1,8,.other,(some [(.raw .nilFunc)])⟩))
 (.nd 116 (.lf 115 ⟨1,8,.other,(some [(.raw .nilFunc)])⟩)
 (.lf 116 ⟨1,8,.other,(some [(.raw .nilFunc)])⟩)))
 (.nd 119 (.nd 118 (.lf 117 ⟨1,24,(.sl 3),(some [.nil])⟩)
 (.lf 118 ⟨1,8,.other,(some [(.raw .nilFunc)])⟩))
 (.nd 120 (.lf 119 ⟨1,8,(.int .u64),(some [(.int .u64 0)])⟩)
 (.nd 121 (.lf 120 ⟨1,8,.other,(some [(.raw .nilFunc)])⟩)
 (.lf 121 ⟨1,0,.other,none⟩))))))
 (.nd 131 (.nd 126 (.nd 124 (.nd 123 (.lf 122 ⟨1,8,.other,(some [(.raw .nilFunc)])⟩)
 (.lf 123 ⟨1,8,.other,(some [(.raw .nilFunc)])⟩))
 (.nd 125 (.lf 124 ⟨1,8,.other,(some [(.raw .nilFunc)])⟩)
 (.lf 125 ⟨12,192,(.st [(0,26),(4,26),(8,26)]),(some [(.bool false),.nil,(.bool false),.nil,(.bool false),.nil,(.bool false),.nil,(.bool false),.nil,(.bool false),.nil])⟩)))
 (.nd 128 (.nd 127 (.lf 126 ⟨12,192,(.st [(0,26),(4,26),(8,26)]),(some [(.bool false),.nil,(.bool false),.nil,(.bool false),.nil,(.bool false),.nil,(.bool false),.nil,(.bool false),.nil])⟩)
 (.lf 127 ⟨1,8,.other,(some [(.raw .nilFunc)])⟩))
 (.nd 129 (.lf 128 ⟨1,8,.other,(some [(.raw .nilFunc)])⟩)
 (.nd 130 (.lf 129 ⟨1,8,.other,(some [(.raw .nilFunc)])⟩)
 (.lf 130 ⟨1,8,.other,(some [(.raw .nilFunc)])⟩)))))
 (.nd 135 (.nd 133 (.nd 132 (.lf 131 ⟨1,8,.other,(some [(.raw .nilFunc)])⟩)
 (.lf 132 ⟨1,8,.other,(some [(.raw .nilFunc)])⟩))
 (.nd 134 (.lf 133 ⟨1,8,.other,(some [(.raw .nilFunc)])⟩)
 (.lf 134 ⟨4,64,(.st [(0,3),(1,3),(2,67),(3,67)]),(some [(.int .i64 0),(.int .i64 0),.nil,.nil])⟩)))
 (.nd 137 (.nd 136 (.lf 135 ⟨4,64,(.st [(0,3),(1,3),(2,67),(3,67)]),(some [(.int .i64 0),(.int .i64 0),.nil,.nil])⟩)
 (.lf 136 ⟨1,8,.other,(some [(.raw .nilFunc)])⟩))
 (.nd 138 (.lf 137 ⟨10,144,(.st [(0,3),(1,26),(5,26),(9,3)]),(some [(.int .i64 0),(.bool false),.nil,(.bool false),.nil,(.bool false),.nil,(.bool false),.nil,(.int .i64 0)])⟩)
 (.nd 139 (.lf 138 ⟨10,144,(.st [(0,3),(1,26),(5,26),(9,3)]),(some [(.int .i64 0),(.bool false),.nil,(.bool false),.nil,(.bool false),.nil,(.bool false),.nil,(.int .i64 0)])⟩)
 (.lf 139 ⟨1,0,.other,none⟩)))))))))
 (.nd 210 (.nd 175 (.nd 157 (.nd 148 (.nd 144 (.nd 142 (.nd 141 (.lf 140 ⟨1,8,.other,(some [(.raw .nilFunc)])⟩)
 (.lf 141 ⟨1,8,.other,(some [(.raw .nilFunc)])⟩))
 (.nd 143 (.lf 142 ⟨1,8,.other,(some [(.raw .nilFunc)])⟩)
 (.lf 143 ⟨1,0,.other,none⟩)))
 (.nd 146 (.nd 145 (.lf 144 ⟨1,8,.other,(some [(.raw .nilFunc)])⟩)
 (.lf 145 ⟨1,8,.other,(some [(.raw .nilFunc)])⟩))
 (.nd 147 (.lf 146 ⟨1,8,.other,(some [(.raw .nilFunc)])⟩)
 (.lf 147 ⟨1,8,.other,(some [(.raw .nilFunc)])⟩))))
 (.nd 152 (.nd 150 (.nd 149 (.lf 148 ⟨1,8,.other,(some [(.raw .nilFunc)])⟩)
 (.lf 149 ⟨1,8,.other,(some [(.raw .nilFunc)])⟩))
 (.nd 151 (.lf 150 ⟨1,8,.other,(some [(.raw .nilFunc)])⟩)
 (.lf 151 ⟨1,8,.other,(some [(.raw .nilFunc)])⟩)))
 (.nd 154 (.nd 153 (.lf 152 ⟨1,8,.other,(some [(.raw .nilFunc)])⟩)
 (.lf 153 ⟨1,8,.other,(some [(.raw .nilFunc)])⟩))
 (.nd 155 (.lf 154 ⟨1,8,.other,(some [(.raw .nilFunc)])⟩)
 (.nd 156 (.lf 155 ⟨1,8,.other,(some [(.raw .nilFunc)])⟩)
 (.lf 156 ⟨1,8,.other,(some [(.raw .nilFunc)])⟩))))))
 (.nd 166 (.nd 161 (.nd 159 (.nd 158 (.lf 157 ⟨1,8,.other,(some [(.raw .nilFunc)])⟩)
 (.lf 158 ⟨1,24,(.sl 164),(some [.nil])⟩))
 (.nd 160 (.lf 159 ⟨1,8,.other,(some [(.raw .nilFunc)])⟩)
 (.lf 160 ⟨1,8,.other,(some [(.raw .nilFunc)])⟩)))
 (.nd 163 (.nd 162 (.lf 161 ⟨1,24,(.sl 33),(some [.nil])⟩)
 (.lf 162 ⟨1,8,.other,(some [(.raw .nilFunc)])⟩))
 (.nd 164 (.lf 163 ⟨12,192,(.st [(0,26),(4,26),(8,26)]),(some [(.bool false),.nil,(.bool false),.nil,(.bool false),.nil,(.bool false),.nil,(.bool false),.nil,(.bool false),.nil])⟩)
 (.nd 165 (.lf 164 ⟨12,192,(.st [(0,26),(4,26),(8,26)]),(some [(.bool false),.nil,(.bool false),.nil,(.bool false),.nil,(.bool false),.nil,(.bool false),.nil,(.bool false),.nil])⟩)
 (.lf 165 ⟨1,8,.other,(some [(.raw .nilFunc)])⟩)))))
 (.nd 170 (.nd 168 (.nd 167 (.lf 166 ⟨1,8,.other,(some [(.raw .nilFunc)])⟩)
 (.lf 167 ⟨1,8,.other,(some [(.raw .nilFunc)])⟩))
 (.nd 169 (.lf 168 ⟨1,8,.other,(some [(.raw .nilFunc)])⟩)
 (.lf 169 ⟨1,8,.other,(some [(.raw .nilFunc)])⟩)))
 (.nd 172 (.nd 171 (.lf 170 ⟨1,0,.other,none⟩)
 (.lf 171 ⟨1,8,.other,(some [(.raw .nilFunc)])⟩))
 (.nd 173 (.lf 172 ⟨1,8,.other,(some [(.raw .nilFunc)])⟩)
 (.nd 174 (.lf 173 ⟨1,8,(.ptr 71),(some [(.raw (.pointer none))])⟩)
 (.lf 174 ⟨1,8,.other,(some [(.raw .nilFunc)])⟩)))))))
 (.nd 192 (.nd 183 (.nd 179 (.nd 177 (.nd 176 (.lf 175 ⟨1,8,.other,(some [(.raw .nilFunc)])⟩)
 (.lf 176 ⟨1,8,.other,(some [(.raw .nilFunc)])⟩))
 (.nd 178 (.lf 177 ⟨1,2,(.int .u16),(some [(.int .u16 0)])⟩)
 (.lf 178 ⟨1,8,.other,(some [(.raw .nilFunc)])⟩)))
 (.nd 181 (.nd 180 (.lf 179 ⟨1,0,.other,none⟩)
 (.lf 180 ⟨1,8,.other,(some [(.raw .nilFunc)])⟩))
 (.nd 182 (.lf 181 ⟨1,8,.other,(some [(.raw .nilFunc)])⟩)
 (.lf 182 ⟨1,8,.other,(some [(.raw .nilFunc)])⟩))))
 (.nd 187 (.nd 185 (.nd 184 (.lf 183 ⟨1,8,.other,(some [(.raw .nilFunc)])⟩)
 (.lf 184 ⟨8,128,(.st [(0,26),(4,26)]),(some [(.bool false),.nil,(.bool false),.nil,(.bool false),.nil,(.bool false),.nil])⟩))
 (.nd 186 (.lf 185 ⟨8,128,(.st [(0,26),(4,26)]),(some [(.bool false),.nil,(.bool false),.nil,(.bool false),.nil,(.bool false),.nil])⟩)
 (.lf 186 ⟨1,0,.other,none⟩)))
 (.nd 189 (.nd 188 (.lf 187 ⟨1,8,.other,(some [(.raw .nilFunc)])⟩)
 (.lf 188 ⟨1,8,.other,(some [(.raw .nilFunc)])⟩))
 (.nd 190 (.lf 189 ⟨1,8,.other,(some [(.raw .nilFunc)])⟩)
 (.nd 191 (.lf 190 ⟨1,8,.other,(some [(.raw .nilFunc)])⟩)
 (.lf 191 ⟨1,8,.other,(some [(.raw .nilFunc)])⟩))))))
 (.nd 201 (.nd 196 (.nd 194 (.nd 193 (.lf 192 ⟨1,8,.other,(some [(.raw .nilFunc)])⟩)
 (.lf 193 ⟨1,8,.other,(some [(.raw .nilFunc)])⟩))
 (.nd 195 (.lf 194 ⟨1,8,.other,(some [(.raw .nilFunc)])⟩)
 (.lf 195 ⟨1,8,.other,(some [(.raw .nilFunc)])⟩)))
 (.nd 198 (.nd 197 (.lf 196 ⟨1,24,(.sl 199),(some [.nil])⟩)
 (.lf 197 ⟨1,8,.other,(some [(.raw .nilFunc)])⟩))
 (.nd 199 (.lf 198 ⟨8,128,(.st [(0,26),(4,26)]),(some [(.bool false),.nil,(.bool false),.nil,(.bool false),.nil,(.bool false),.nil])⟩)
 (.nd 200 (.lf 199 ⟨8,128,(.st [(0,26),(4,26)]),(some [(.bool false),.nil,(.bool false),.nil,(.bool false),.nil,(.bool false),.nil])⟩)
 (.lf 200 ⟨1,24,(.sl 128),(some [.nil])⟩)))))
 (.nd 205 (.nd 203 (.nd 202 (.lf 201 ⟨1,8,.other,(some [(.raw .nilFunc)])⟩)
 (.lf 202 ⟨1,8,.other,(some [(.raw .nilFunc)])⟩))
 (.nd 204 (.lf 203 ⟨1,0,.other,none⟩)
 (.lf 204 ⟨1,8,.other,(some [(.raw .nilFunc)])⟩)))
 (.nd 207 (.nd 206 (.lf 205 ⟨1,8,.other,(some [(.raw .nilFunc)])⟩)
 (.lf 206 ⟨1,8,.other,(some [(.raw .nilFunc)])⟩))
 (.nd 208 (.lf 207 ⟨1,8,.other,(some [(.raw .nilFunc)])⟩)
 (.nd 209 (.lf 208 ⟨1,8,.other,(some [(.raw .nilFunc)])⟩)
 (.lf 209 ⟨1,8,.other,(some [(.raw .nilFunc)])⟩))))))))
 (.nd 245 (.nd 227 (.nd 218 (.nd 214 (.nd 212 (.nd 211 (.lf 210 ⟨1,8,.other,(some [(.raw .nilFunc)])⟩)
 (.lf 211 ⟨1,0,.other,none⟩))
 (.nd 213 (.lf 212 ⟨1,8,.other,(some [(.raw .nilFunc)])⟩)
 (.lf 213 ⟨1,8,.other,(some [(.raw .nilFunc)])⟩)))
 (.nd 216 (.nd 215 (.lf 214 ⟨1,8,.other,(some [(.raw .nilFunc)])⟩)
 (.lf 215 ⟨1,8,.other,(some [(.raw .nilFunc)])⟩))
 (.nd 217 (.lf 216 ⟨1,8,.other,(some [(.raw .nilFunc)])⟩)
 (.lf 217 ⟨1,8,.other,(some [(.raw .nilFunc)])⟩))))
 (.nd 222 (.nd 220 (.nd 219 (.lf 218 ⟨1,8,(.int .u64),(some [(.int .u64 0)])⟩)
 (.lf 219 ⟨1,8,.other,(some [(.raw .nilFunc)])⟩))
 (.nd 221 (.lf 220 ⟨1,8,(.ptr 135),(some [(.raw (.pointer none))])⟩)
 (.lf 221 ⟨1,8,.other,(some [(.raw .nilFunc)])⟩)))
 (.nd 224 (.nd 223 (.lf 222 ⟨1,8,.other,(some [(.raw .nilFunc)])⟩)
 (.lf 223 ⟨1,8,.other,(some [(.raw .nilFunc)])⟩))
 (.nd 225 (.lf 224 ⟨1,8,.other,(some [(.raw .nilFunc)])⟩)
 (.nd 226 (.lf 225 ⟨1,8,.other,(some [(.raw .nilFunc)])⟩)
 (.lf 226 ⟨1,8,.other,(some [(.raw .nilFunc)])⟩))))))
 (.nd 236 (.nd 231 (.nd 229 (.nd 228 (.lf 227 ⟨1,8,.other,(some [(.raw .nilFunc)])⟩)
 (.lf 228 ⟨1,0,.other,none⟩))
 (.nd 230 (.lf 229 ⟨1,8,.other,(some [(.raw .nilFunc)])⟩)
 (.lf 230 ⟨1,0,.other,none⟩)))
 (.nd 233 (.nd 232 (.lf 231 ⟨1,8,.other,(some [(.raw .nilFunc)])⟩)
 (.lf 232 ⟨1,8,.other,(some [(.raw .nilFunc)])⟩))
 (.nd 234 (.lf 233 ⟨1,8,.other,(some [(.raw .nilFunc)])⟩)
 (.nd 235 (.lf 234 ⟨1,8,.other,(some [(.raw .nilFunc)])⟩)
 (.lf 235 ⟨1,4,(.int .u32),(some [(.int .u32 0)])⟩)))))
 (.nd 240 (.nd 238 (.nd 237 (.lf 236 ⟨1,8,.other,(some [(.raw .nilFunc)])⟩)
 (.lf 237 ⟨1,24,(.sl 5),(some [.nil])⟩))
 (.nd 239 (.lf 238 ⟨1,8,.other,(some [(.raw .nilFunc)])⟩)
 (.lf 239 ⟨1,8,(.map 9 4),(some [(.raw (.map none))])⟩)))
 (.nd 242 (.nd 241 (.lf 240 ⟨1,8,.other,(some [(.raw .nilFunc)])⟩)
 (.lf 241 ⟨1,8,.other,(some [(.raw .nilFunc)])⟩))
 (.nd 243 (.lf 242 ⟨1,8,.other,(some [(.raw .nilFunc)])⟩)
 (.nd 244 (.lf 243 ⟨1,8,(.int .i64),(some [(.int .i64 0)])⟩)
 (.lf 244 ⟨1,0,.other,none⟩)))))))
 (.nd 263 (.nd 254 (.nd 249 (.nd 247 (.nd 246 (.lf 245 ⟨1,8,.other,(some [(.raw .nilFunc)])⟩)
 (.lf 246 ⟨1,8,.other,(some [(.raw .nilFunc)])⟩))
 (.nd 248 (.lf 247 ⟨1,8,.other,(some [(.raw .nilFunc)])⟩)
 (.lf 248 ⟨1,8,.other,(some [(.raw .nilFunc)])⟩)))
 (.nd 251 (.nd 250 (.lf 249 ⟨1,8,.other,(some [(.raw .nilFunc)])⟩)
 (.lf 250 ⟨1,8,.other,(some [(.raw .nilFunc)])⟩))
 (.nd 252 (.lf 251 ⟨1,8,.other,(some [(.raw .nilFunc)])⟩)
 (.nd 253 (.lf 252 ⟨1,24,(.sl 78),(some [.nil])⟩)
 (.lf 253 ⟨1,8,.other,(some [(.raw .nilFunc)])⟩)))))
 (.nd 258 (.nd 256 (.nd 255 (.lf 254 ⟨1,8,.other,(some [(.raw .nilFunc)])⟩)
 (.lf 255 ⟨1,8,.other,(some [(.raw .nilFunc)])⟩))
 (.nd 257 (.lf 256 ⟨1,8,(.int .u64),(some [(.int .u64 0)])⟩)
 (.lf 257 ⟨1,8,.other,(some [(.raw .nilFunc)])⟩)))
 (.nd 260 (.nd 259 (.lf 258 ⟨1,8,.other,(some [(.raw .nilFunc)])⟩)
 (.lf 259 ⟨1,8,.other,(some [(.raw .nilFunc)])⟩))
 (.nd 261 (.lf 260 ⟨1,8,(.ptr 3),(some [(.raw (.pointer none))])⟩)
 (.nd 262 (.lf 261 ⟨1,8,.other,(some [(.raw .nilFunc)])⟩)
 (.lf 262 ⟨1,8,(.ptr 256),(some [(.raw (.pointer none))])⟩))))))
 (.nd 272 (.nd 267 (.nd 265 (.nd 264 (.lf 263 ⟨1,0,.other,none⟩)
 (.lf 264 ⟨1,8,.other,(some [(.raw .nilFunc)])⟩))
 (.nd 266 (.lf 265 ⟨1,8,.other,(some [(.raw .nilFunc)])⟩)
 (.lf 266 ⟨4,40,(.st [(0,17),(1,17),(2,17),(3,9)]),(some [(.raw (.pointer none)),(.raw (.pointer none)),(.raw (.pointer none)),(.str [])])⟩)))
 (.nd 269 (.nd 268 (.lf 267 ⟨4,40,(.st [(0,17),(1,17),(2,17),(3,9)]),(some [(.raw (.pointer none)),(.raw (.pointer none)),(.raw (.pointer none)),(.str [])])⟩)
 (.lf 268 ⟨0,0,(.arr 0 16),(some [])⟩))
 (.nd 270 (.lf 269 ⟨0,0,(.st [(0,268)]),(some [])⟩)
 (.nd 271 (.lf 270 ⟨0,0,(.st [(0,268)]),(some [])⟩)
 (.lf 271 ⟨1,8,.other,(some [(.raw .nilFunc)])⟩)))))
 (.nd 276 (.nd 274 (.nd 273 (.lf 272 ⟨1,1,(.int .u8),(some [(.int .u8 0)])⟩)
 (.lf 273 ⟨1,1,(.int .u8),(some [(.int .u8 0)])⟩))
 (.nd 275 (.lf 274 ⟨1,8,.other,(some [(.raw .nilFunc)])⟩)
 (.lf 275 ⟨1,8,(.ptr 5),(some [(.raw (.pointer none))])⟩)))
 (.nd 278 (.nd 277 (.lf 276 ⟨1,4,(.int .i32),(some [(.int .i32 0)])⟩)
 (.lf 277 ⟨1,4,(.int .i32),(some [(.int .i32 0)])⟩))
 (.nd 279 (.lf 278 ⟨11,48,(.st [(0,12),(1,12),(2,235),(3,272),(4,5),(5,5),(6,273),(7,274),(8,275),(9,276),(10,277)]),(some [(.int .u64 0),(.int .u64 0),(.int .u32 0),(.int .u8 0),(.int .u8 0),(.int .u8 0),(.int .u8 0),(.raw .nilFunc),(.raw (.pointer none)),(.int .i32 0),(.int .i32 0)])⟩)
 (.nd 280 (.lf 279 ⟨11,48,(.st [(0,12),(1,12),(2,235),(3,272),(4,5),(5,5),(6,273),(7,274),(8,275),(9,276),(10,277)]),(some [(.int .u64 0),(.int .u64 0),(.int .u32 0),(.int .u8 0),(.int .u8 0),(.int .u8 0),(.int .u8 0),(.raw .nilFunc),(.raw (.pointer none)),(.int .i32 0),(.int .i32 0)])⟩)
 (.lf 280 ⟨1,8,.other,(some [(.raw (.pointer none))])⟩))))))))))
theorem y4:lay.fits Tryz.prog=true:=by kernel_rfl
theorem layOk:fX Tryz.prog lay.get:=Tr.ok y4
theorem mixed:Tryz.prog.follows .mixedOrders=true:=by kernel_rfl
instance:Globs:=⟨fun _=>True,fun _ _ _ _=>trivial⟩
end Go.Pv
set_option maxHeartbeats 2000000
namespace Go.Pv
attribute [local irreducible] PWP POps PQuiet PSem ax ao aj ai
open Go.Proofs
abbrev I (n:Int):PV := .int .i64 n
def eU (x:UInt16):List PV:=[.int .u16 x.toNat]
theorem d_ (l:List UInt16):Trm (aH l):=bg _
theorem cq (l:List UInt16):nv (aH l)=nv l:=aD _
theorem bG (l:List UInt16):(aH l).length≤l.length:=bU (bQ l)
theorem wrap_u16 (n:Nat):IntKind.u16.wrap (n:Int)=((UInt16.ofNat n).toNat:Int):=by
 rw[aN,IntKind.wrap_u16];omega
theorem wrap_u32 {n:Int} (h0:0≤n) (h1:n<4294967296):IntKind.u32.wrap n=n:=by
 rw[IntKind.wrap_u32];omega
theorem wrap_u64 {n:Int} (h0:0≤n) (h1:n<18446744073709551616):IntKind.u64.wrap n=n:=by
 rw[IntKind.wrap_u64];omega
theorem lO {α:Type} (e:α→List PV) (k g:Nat) (l:List α) (a:α):PV.als k (g+l.length+1) 0 (l.map e++[e a]).length=PV.als k (g+(l++[a]).length) 0 ((l++[a]).map e).length:=by simp[Nat.add_assoc]
theorem jQ {α:Type} (e:α→List PV) (g T sz kd:Nat) (l:List α) (a:α):(g+l.length+1,some (Cont.mk T sz (l.map e++[e a]) kd))=(g+(l++[a]).length,some (Cont.mk T sz ((l++[a]).map e) kd)):=by simp[Nat.add_assoc]
theorem b6 (l:List UInt16) (hl:l.length≤1000000000):Ret Tryz.prog .shared 178 [.sl (l.map eU)] (.sl ((aH l).map eU)):=by
 refine Ret.of_pwp layOk mixed Go.Proofs.Tryz.func178 rfl (by decide) rfl rfl ?_
 repeat refine aa rfl ?_
 refine am (fun k=>k≤l.length∧nv (l.take k)=nv l) (fun k=>[(0,.sl ((l.take k).map eU))]) (fun _=>[]) (fun k=>k) l.length ⟨Nat.le_refl _,by rw[List.take_length]⟩ ⟨?_,trivial⟩ ?_
 ·rw[List.take_length];rfl
 rintro k s ⟨hk,hv⟩
 have hkl:(l.take k).length=k:=by rw[List.length_take];omega
 have hml:((l.take k).map eU).length=k:=by rw[List.length_map,hkl]
 repeat refine aa rfl ?_
 refine dr rfl rfl rfl ?_ ?_<;>intro h
 ·have hk0:0<k:=by have:=of_decide_eq_true h;rw[hml]at this;omega
  clear h
  obtain⟨j,rfl⟩:∃j,k=j+1:=⟨k-1,by omega⟩
  obtain⟨x,hx⟩:=aL (show j<l.length by omega)
  have hx2:(l.take (j+1))[j]? = some x:=by rw[List.getElem?_take,if_pos (by omega)];exact hx
  have hw1:IntKind.i64.wrap (((((l.take (j+1)).map eU).length:Nat):Int)-1)=(j:Nat):=by rw[hml,wrap_i64 (by omega) (by omega)];omega
  repeat refine aa rfl ?_
  rw[hw1]
  refine bH rfl rfl (p7 (n:=((j:Nat):Int)) rfl rfl rfl rfl rfl (by omega) (by rw[Int.toNat_natCast];exact hx2) rfl) ?_
  repeat refine aa rfl ?_
  refine ab rfl ?_ ?_<;>intro h
  ·have hx0:x.toNat=0:=by have:=of_decide_eq_true h;omega
   clear h
   repeat refine aa rfl ?_
   rw[hw1]
   refine bH rfl rfl (tu (n:=((j:Nat):Int)) rfl rfl rfl rfl rfl (by omega) (by rw[hkl];omega) (fun _=>rfl)) ?_
   repeat refine aa rfl ?_
   refine⟨j,⟨by omega,?_⟩,by omega,?_,trivial⟩
   ·rw[←hv,cG hx,hx0];omega
   ·rw[Int.toNat_natCast,List.take_take,Nat.min_eq_left (by omega)];rfl
  ·have hx0:x.toNat≠0:=by have:=of_decide_eq_false h;omega
   clear h
   have ht:l.take (j+1)=aH l:=by
    rw[aH,←hv]
    exact(fa fun y hy=>by
     rw[List.getLast?_eq_getElem?,hkl,Nat.add_sub_cancel,hx2]at hy
     cases hy;exact hx0).symm
   rw[ht]
   repeat refine aa rfl ?_
   exact fP rfl rfl rfl trivial rfl
 ·have hk0:k=0:=by have:=of_decide_eq_false h;rw[hml]at this;omega
  subst hk0
  clear h
  have ht:l.take 0=aH l:=by
   rw[aH,←hv];simp[nv,bj]
  rw[ht]
  repeat refine aa rfl ?_
  exact fP rfl rfl rfl trivial rfl
theorem fC (a b:List UInt16) (ha:a.length≤1000000000) (hb:b.length≤1000000000):Ret Tryz.prog .shared 182 [.sl (a.map eU),.sl (b.map eU)] (I (i4 a b)):=by
 have hal:(a.map eU).length=a.length:=by simp
 have hbl:(b.map eU).length=b.length:=by simp
 by_cases he:a.length=b.length
 ·rw[i4,if_pos he]
  have hw0:IntKind.i64.wrap (((((a.map eU).length:Nat):Int))-1)=(a.length:Int)-1:=by rw[hal,wrap_i64 (by omega) (by omega)]
  refine Ret.of_pwp layOk mixed Go.Proofs.Tryz.func182 rfl (by decide) rfl rfl ?_
  repeat refine aa rfl ?_
  refine ab rfl ?_ ?_<;>intro h
  ·simp at h;omega
  clear h
  repeat refine aa rfl ?_
  rw[hw0]
  refine am (fun k:Nat=>k≤a.length∧jP a b k=jP a b a.length) (fun k=>[(0,.sl (a.map eU)),(1,.sl (b.map eU)),(5,I ((k:Int)-1))]) (fun _=>[]) (fun k=>k) a.length ⟨Nat.le_refl _,rfl⟩ ⟨rfl,rfl,rfl,trivial⟩ ?_
  rintro k s ⟨hk,hc⟩
  rw[←hc]
  repeat refine aa rfl ?_
  refine ab rfl ?_ ?_<;>intro h
  ·have hk0:0<k:=by have:=of_decide_eq_true h;omega
   clear h
   obtain⟨j,rfl⟩:∃j,k=j+1:=⟨k-1,by omega⟩
   have e1:(((j+1:Nat):Int)-1)=(j:Nat):=by omega
   rw[e1]
   have hx:=bW (l:=a) (i:=j) (by omega)
   have hy:=bW (l:=b) (i:=j) (by omega)
   have hc1:jP a b (j+1)=if (a.getD j 0).toNat=(b.getD j 0).toNat then jP a b j else((a.getD j 0).toNat:Int)-(b.getD j 0).toNat:=rfl
   have hxl:=aR (a.getD j 0)
   have hyl:=aR (b.getD j 0)
   generalize a.getD j 0=x at *
   generalize b.getD j 0=y at *
   repeat refine aa rfl ?_
   refine ah 9 [23,24,25,26,27,28,29,30,31] (by decide +kernel) ?_
   repeat refine aa rfl ?_
   refine aZ rfl rfl rfl rfl rfl rfl rfl hx rfl ?_
   repeat refine aa rfl ?_
   refine aZ rfl rfl rfl rfl rfl rfl rfl hy rfl ?_
   repeat refine aa rfl ?_
   refine ab rfl ?_ ?_<;>intro h
   ·have hne:¬x.toNat=y.toNat:=by simp at h;intro he;apply h;omega
    clear h
    rw[if_neg hne]at hc1
    rw[hc1]
    repeat refine aa rfl ?_
    refine ah 12 [32,33,34,35,36,37,38,39,40,41,42,4] (by decide +kernel) ?_
    repeat refine aa rfl ?_
    refine aZ rfl rfl rfl rfl rfl rfl rfl hx rfl ?_
    repeat refine aa rfl ?_
    refine aZ rfl rfl rfl rfl rfl rfl rfl hy rfl ?_
    repeat refine aa rfl ?_
    rw[wrap_i64 (n:=(x.toNat:Int)) (by omega) (by omega),wrap_i64 (n:=(y.toNat:Int)) (by omega) (by omega),wrap_i64 (by omega) (by omega)]
    repeat refine aa rfl ?_
    exact aO rfl rfl rfl
   ·have hne:x.toNat=y.toNat:=by simp at h;omega
    clear h
    rw[if_pos hne]at hc1
    repeat refine aa rfl ?_
    refine⟨j,⟨by omega,by rw[←hc1,hc]⟩,by omega,rfl,rfl,?_,trivial⟩
    exact congrArg I (wrap_i64 (by omega) (by omega))
  ·have hk0:k=0:=by have:=of_decide_eq_false h;omega
   subst hk0
   clear h
   repeat refine aa rfl ?_
   exact aO rfl rfl rfl
 ·rw[i4,if_neg he]
  refine Ret.of_pwp layOk mixed Go.Proofs.Tryz.func182 rfl (by decide) rfl rfl ?_
  repeat refine aa rfl ?_
  refine ab rfl ?_ ?_<;>intro h
  ·repeat refine aa rfl ?_
   rw[hal,hbl,wrap_i64 (by omega) (by omega)]
   exact aO rfl rfl rfl
  ·simp at h;omega
end Go.Pv
namespace Go.Pv
open Go.RowKit
variable [Globs]
theorem c9 {P:Program} {L:Lay} {s s1:St} {o:Oper} {K:St→Prop} (hg:Ghost s s1) (h:POp P L s1 o K):Sm P L s o K :=
 fun _ _ _ _ hG hs hN=>POp.wp hG (hg _ _ _ hG.x hs) hN h fun s' _ _ h' hk=>⟨s',h',hk⟩
end Go.Pv
set_option maxHeartbeats 2000000
namespace Go.Pv
attribute [local irreducible] PWP POps PQuiet PSem ax ao aj ai
open Go.Proofs
theorem lZ (l:List UInt16) (d:UInt16):nv (l++[d])=nv l+65536^l.length*d.toNat:=by
 rw[iS];simp[nv]
theorem du {l:List UInt16} {k:Nat} (h:l.length≤k):nv (l.take k)=nv l:=by rw[List.take_of_length_le h]
theorem uF {l:List UInt16} {i t:Nat} {x:UInt16} (h:l[i]? = some x) (hi:i<t) (y:UInt16):nv ((l.set i y).take t)+65536^i*x.toNat=nv (l.take t)+65536^i*y.toNat:=by
 have e:(l.set i y).take t=(l.take t).set i y:=by
  apply List.ext_getElem?;intro j
  rw[List.getElem?_take,List.getElem?_set,List.getElem?_set,List.getElem?_take,List.length_take]
  have:=(List.getElem?_eq_some_iff.1 h).1
  by_cases hj:j<t
  ·rw[if_pos hj]
   by_cases hij:i=j
   ·subst hij;rw[if_pos rfl,if_pos rfl,if_pos (by omega),if_pos (by omega)]
   ·rw[if_neg hij,if_neg hij,if_pos hj]
  ·rw[if_neg hj,if_neg (by omega),if_neg hj]
 rw[e]
 exact zg (by rw[List.getElem?_take,if_pos hi];exact h) y
theorem jw {l:List UInt16} {i t:Nat} (hi:t≤i) (y:UInt16):nv ((l.set i y).take t)=nv (l.take t):=by
 have e:(l.set i y).take t=l.take t:=by
  apply List.ext_getElem?;intro j
  rw[List.getElem?_take,List.getElem?_take]
  split
  ·rw[List.getElem?_set_ne (by omega)]
  ·rfl
 rw[e]
theorem fc (l:List UInt16) (i:Nat) (y:UInt16):(l.map eU).set i (eU y)=(l.set i y).map eU:=by rw[List.map_set]
structure PlusI (A B:List UInt16) (q:Nat × List UInt16 × Nat):Prop where
 k:q.1≤A.length
 l:q.2.1.length=q.1
 c:q.2.2≤1
 v:nv q.2.1+65536^q.1*q.2.2=nv (A.take q.1)+nv (B.take q.1)
theorem oJ {A B:List UInt16} {k:Nat} {L:List UInt16} {c y:Nat} {x:UInt16} (h:PlusI A B (k,L,c)) (hx:A[k]? = some x) (hy:nv (B.take (k+1))=nv (B.take k)+65536^k*y) (hy2:y<65536) :
  PlusI A B (k+1,L++[UInt16.ofNat (c+x.toNat+y)],(c+x.toNat+y)/65536):=by
 obtain⟨h1,h2,h3,h4⟩:=h
 simp only at h1 h2 h3 h4
 have hk:=(List.getElem?_eq_some_iff.1 hx).1
 have hx2:=aR x
 refine⟨hk,by simp[h2],by simp only;omega,?_⟩
 simp only
 rw[lZ,cG hx,hy,h2,aN,Nat.pow_succ]
 have e:(c+x.toNat+y)%65536+65536*((c+x.toNat+y)/65536)=c+x.toNat+y:=Nat.mod_add_div _ _
 generalize 65536^k=W at *
 generalize (c+x.toNat+y)%65536=m at *
 generalize (c+x.toNat+y)/65536=d at *
 have:W*(m+65536*d)=W*(c+x.toNat+y):=by rw[e]
 simp only[Nat.mul_add]at this
 rw[Nat.mul_assoc]
 omega
set_option maxRecDepth 20000 in
theorem zE (a b:List UInt16) (ha:a.length≤100000000) (hb:b.length≤100000000):Ret Tryz.prog .shared 181 [.sl (a.map eU),.sl (b.map eU)] (.sl ((aq (nv a+nv b)).map eU)):=by
 have hal:(a.map eU).length=a.length:=by simp
 have hbl:(b.map eU).length=b.length:=by simp
 obtain⟨A,B,hAB,hsum,hle,hA,hsw⟩:∃A B:List UInt16,(if a.length<b.length then A=b∧B=a else A=a∧B=b)∧nv A+nv B=nv a+nv b∧B.length≤A.length∧A.length≤100000000∧True:=by
  by_cases h:a.length<b.length
  ·exact⟨b,a,by rw[if_pos h];exact⟨rfl,rfl⟩,by omega,by omega,hb,trivial⟩
  ·exact⟨a,b,by rw[if_neg h];exact⟨rfl,rfl⟩,rfl,by omega,ha,trivial⟩
 have hAl:(A.map eU).length=A.length:=by simp
 have hBl:(B.map eU).length=B.length:=by simp
 refine Ret.of_pwp layOk mixed Go.Proofs.Tryz.func181 rfl (by decide) rfl rfl ?_
 repeat refine aa rfl ?_
 refine p6 [(0,.sl (A.map eU)),(1,.sl (B.map eU))] [] ?_ (fun s1=>?_)
 ·refine ab rfl ?_ ?_<;>intro h
  ·have hlt:a.length<b.length:=by have:=of_decide_eq_true h;rw[hal,hbl]at this;omega
   clear h
   rw[if_pos hlt]at hAB
   obtain⟨rfl,rfl⟩:=hAB
   repeat refine aa rfl ?_
   exact⟨rfl,rfl,trivial⟩
  ·have hlt:¬a.length<b.length:=by have:=of_decide_eq_false h;rw[hal,hbl]at this;omega
   clear h
   rw[if_neg hlt]at hAB
   obtain⟨rfl,rfl⟩:=hAB
   repeat refine aa rfl ?_
   exact⟨rfl,rfl,trivial⟩
 clear hAB hsw hal hbl ha hb
 have hw1:IntKind.i64.wrap ((((A.map eU).length:Nat):Int)+1)=((A.length+1:Nat):Int):=by rw[hAl,wrap_i64 (by omega) (by omega)];omega
 repeat refine aa rfl ?_
 rw[hw1]
 refine ar (BC (n:=0) rfl rfl rfl rfl rfl rfl rfl rfl (by omega) (by omega) (by show(2:Int)*((A.length+1:Nat):Int)≤_;omega) (by omega) ?_)
 generalize (s1.own 19).1=g0
 repeat refine aa rfl ?_
 refine am (PlusI A B) (fun q=>[(1,.sl (B.map eU)),(5,.als 19 (g0+1+q.2.1.length) 0 (q.2.1.map eU).length),(6,.int .u32 (q.2.2:Nat)),(20,.sl (A.map eU)),(21,I A.length),(22,I q.1)])
  (fun q=>[(19,g0+1+q.2.1.length,⟨177,1,q.2.1.map eU,0⟩)]) (fun q=>A.length-q.1) (0,[],0) ⟨Nat.zero_le _,rfl,by decide,by simp[nv]⟩ ⟨rfl,rfl,rfl,rfl,?_,rfl,rfl,trivial⟩ ?_
 ·show I ((A.map eU).length)=_
  rw[hAl]
 rintro⟨k,L,c⟩ s2 hI
 have hk:=hI.k
 have hc:=hI.c
 have hLl:=hI.l
 simp only at hk hc hLl
 dsimp only
 repeat refine aa rfl ?_
 refine ab rfl ?_ ?_<;>intro h
 ·have hlt:k<A.length:=by have:=of_decide_eq_true h;omega
  clear h
  obtain⟨x,hx⟩:=aL hlt
  have hxl:=aR x
  have e1:IntKind.u32.wrap ((c:Nat)+IntKind.u32.wrap (x.toNat:Int))=((c+x.toNat:Nat):Int):=by rw[wrap_u32 (n:=(x.toNat:Int)) (by omega) (by omega),wrap_u32 (by omega) (by omega)];omega
  repeat refine aa rfl ?_
  refine aZ rfl rfl rfl rfl rfl rfl rfl hx rfl ?_
  repeat refine aa rfl ?_
  rw[e1]
  by_cases hb:k<B.length
  ·obtain⟨y,hy⟩:=aL hb
   have hyl:=aR y
   have hst:=oJ hI hx (cG hy) hyl
   have e2:IntKind.u32.wrap (((c+x.toNat:Nat):Int)+IntKind.u32.wrap (y.toNat:Int))=((c+x.toNat+y.toNat:Nat):Int):=by rw[wrap_u32 (n:=(y.toNat:Int)) (by omega) (by omega),wrap_u32 (by omega) (by omega)];omega
   generalize hs:c+x.toNat+y.toNat=sm at *
   repeat refine aa rfl ?_
   refine ab rfl ?_ ?_<;>intro h
   ·clear h
    repeat refine aa rfl ?_
    refine aZ rfl rfl rfl rfl rfl rfl rfl hy rfl ?_
    repeat refine aa rfl ?_
    rw[e2,wrap_u16]
    repeat refine aa rfl ?_
    refine bH rfl rfl (c8 rfl rfl rfl rfl rfl rfl rfl rfl rfl rfl (by repeat' constructor) rfl) ?_
    refine ar (bE 0 rfl rfl rfl rfl rfl rfl rfl rfl rfl rfl rfl (by repeat' constructor) (by intro row hr;first|(simp at hr;subst hr;rfl)|simp at hr) rfl rfl (by simp;omega) (by simp;omega) ?_)
    repeat refine aa rfl ?_
    refine⟨(k+1,L++[UInt16.ofNat sm],sm/65536),hst,by simp only;omega,rfl,?_,?_,rfl,rfl,bV (by omega) (by omega),?_,trivial⟩
    ·exact lO eU 19 (g0+1) L (UInt16.ofNat sm)
    ·show PV.int .u32 ((sm:Int)/2^16)=PV.int .u32 ((sm/65536:Nat):Int)
     congr 1
    ·exact jQ eU (g0+1) 177 1 0 L (UInt16.ofNat sm)
   ·have:=of_decide_eq_false h;rw[hBl]at this;omega
  ·have hst:=oJ (y:=0) hI hx (by rw[du (by omega),du (by omega)];omega) (by omega)
   rw[Nat.add_zero]at hst
   generalize hs:c+x.toNat=sm at *
   repeat refine aa rfl ?_
   refine ab rfl ?_ ?_<;>intro h
   ·have:=of_decide_eq_true h;rw[hBl]at this;omega
   ·clear h
    repeat refine aa rfl ?_
    rw[wrap_u16]
    repeat refine aa rfl ?_
    refine bH rfl rfl (c8 rfl rfl rfl rfl rfl rfl rfl rfl rfl rfl (by repeat' constructor) rfl) ?_
    refine ar (bE 0 rfl rfl rfl rfl rfl rfl rfl rfl rfl rfl rfl (by repeat' constructor) (by intro row hr;first|(simp at hr;subst hr;rfl)|simp at hr) rfl rfl (by simp;omega) (by simp;omega) ?_)
    repeat refine aa rfl ?_
    refine⟨(k+1,L++[UInt16.ofNat sm],sm/65536),hst,by simp only;omega,rfl,?_,?_,rfl,rfl,bV (by omega) (by omega),?_,trivial⟩
    ·exact lO eU 19 (g0+1) L (UInt16.ofNat sm)
    ·show PV.int .u32 ((sm:Int)/2^16)=PV.int .u32 ((sm/65536:Nat):Int)
     congr 1
    ·exact jQ eU (g0+1) 177 1 0 L (UInt16.ofNat sm)
 ·have hge:k=A.length:=by have:=of_decide_eq_false h;omega
  subst hge
  clear h
  have hv:=hI.v
  simp only at hv
  rw[List.take_length,du hle]at hv
  have hfin:aH (L++[UInt16.ofNat c])=aq (nv a+nv b):=by
   rw[aH,lZ,aN,Nat.mod_eq_of_lt (by omega),hLl,hv,hsum]
  have ht:=b6 (L++[UInt16.ofNat c]) (by simp;omega)
  rw[hfin]at ht
  ((repeat ((fail_if_success (with_reducible refine aT 14 ?_));refine dh rfl ?_));refine aG 5 ?_)
  repeat refine aa rfl ?_
  rw[wrap_u16]
  refine bH rfl rfl (c8 rfl rfl rfl rfl rfl rfl rfl rfl rfl rfl (by repeat' constructor) rfl) ?_
  refine ar (bE 0 rfl rfl rfl rfl rfl rfl rfl rfl rfl rfl rfl (by repeat' constructor) (by intro row hr;first|(simp at hr;subst hr;rfl)|simp at hr) rfl rfl (by simp;omega) (by simp;omega) ?_)
  repeat refine aa rfl ?_
  refine a_ rfl (c9 (Ghost.takeF (enc:=eU) (t:=54) (L++[UInt16.ofNat c]) rfl rfl (by rw[List.map_append];rfl) rfl (fun _=>rfl)) ?_)
  (refine j3 (dQ rfl (ht) rfl ?_ rfl) ?_;·repeat' constructor)
  refine aM ?_
  repeat refine aa rfl ?_
  exact fP rfl rfl rfl trivial rfl
structure MinI (A B:List UInt16) (q:Nat × List UInt16 × Nat):Prop where
 k:q.1≤A.length
 l:q.2.1.length=A.length
 c:q.2.2≤1
 v:nv (q.2.1.take q.1)+nv (B.take q.1)=nv (A.take q.1)+65536^q.1*q.2.2
theorem y9 {A B:List UInt16} {k:Nat} {R:List UInt16} {c y:Nat} {x:UInt16} (h:MinI A B (k,R,c)) (hx:A[k]? = some x) (hy:nv (B.take (k+1))=nv (B.take k)+65536^k*y) (hy2:y<65536) :
  MinI A B (k+1,R.set k (UInt16.ofNat (x.toNat+(if x.toNat<c+y then 65536 else 0)-(c+y))),if x.toNat<c+y then 1 else 0):=by
 obtain⟨h1,h2,h3,h4⟩:=h
 simp only at h1 h2 h3 h4
 have hk:=(List.getElem?_eq_some_iff.1 hx).1
 have hx2:=aR x
 refine⟨hk,by simp[h2],by simp only;split<;>omega,?_⟩
 simp only
 obtain⟨r,hr⟩:∃r,R[k]? = some r:=⟨R[k],List.getElem?_eq_getElem (by omega)⟩
 have e1:nv ((R.set k (UInt16.ofNat (x.toNat+(if x.toNat<c+y then 65536 else 0)-(c+y)))).take (k+1))=nv (R.take k)+65536^k*(x.toNat+(if x.toNat<c+y then 65536 else 0)-(c+y)):=by
  rw[cG (List.getElem?_set_self (by omega)),jw (Nat.le_refl _),aN,Nat.mod_eq_of_lt (by split<;>omega)]
 rw[e1,cG hx,hy,Nat.pow_succ]
 generalize 65536^k=W at *
 split
 ·rename_i hlt
  have:W*(x.toNat+65536-(c+y))+W*c+W*y=W*x.toNat+W*65536:=by rw[←Nat.mul_add,←Nat.mul_add,←Nat.mul_add];congr 1;omega
  omega
 ·rename_i hlt
  have:W*(x.toNat+0-(c+y))+W*c+W*y=W*x.toNat:=by rw[←Nat.mul_add,←Nat.mul_add];congr 1;omega
  omega
theorem By {A B:List UInt16} {R:List UInt16} {c:Nat} (h:MinI A B (A.length,R,c)) (hle:nv B≤nv A):nv R=nv A-nv B:=by
 obtain⟨h1,h2,h3,h4⟩:=h
 simp only at h1 h2 h3 h4
 rw[List.take_length,List.take_of_length_le (by omega)]at h4
 have hA:=bQ A
 have hR:=bQ R
 rw[h2]at hR
 rcases Nat.lt_or_ge B.length A.length with hb|hb
 ·rw[du (by omega)]at h4
  generalize 65536^A.length=W at *
  have:c=0:=by
   rcases Nat.eq_zero_or_pos c with h|h
   ·exact h
   ·have:c=1:=by omega
    subst this
    omega
  subst this
  omega
 ·have hs:=cn B A.length hb
  generalize 65536^A.length=W at *
  have hz:nv (B.drop A.length)=0:=by
   rcases Nat.eq_zero_or_pos (nv (B.drop A.length)) with h|h
   ·exact h
   ·have:=Nat.mul_le_mul_left W h
    omega
  rw[hz]at hs
  have:c=0:=by
   rcases Nat.eq_zero_or_pos c with h|h
   ·exact h
   ·have:c=1:=by omega
    subst this
    omega
  subst this
  omega
theorem kO {R:List UInt16} {i:Nat} (h:i<R.length):∃r,(R.map eU)[i]? = some (eU r):=by
 obtain⟨r,hr⟩:=aL h
 exact⟨r,by rw[List.getElem?_map,hr];rfl⟩
theorem jC (n:Nat):List.replicate n [PV.int .u16 0]=(List.replicate n (0:UInt16)).map eU:=by rw[List.map_replicate];rfl
set_option maxRecDepth 20000 in
theorem oz (a b:List UInt16) (ha:a.length≤100000000) (hb:b.length≤100000000) (hle:nv b≤nv a):Ret Tryz.prog .shared 183 [.sl (a.map eU),.sl (b.map eU)] (.sl ((aq (nv a-nv b)).map eU)):=by
 have hal:(a.map eU).length=a.length:=by simp
 have hbl:(b.map eU).length=b.length:=by simp
 refine Ret.of_pwp layOk mixed Go.Proofs.Tryz.func183 rfl (by decide) rfl rfl ?_
 repeat refine aa rfl ?_
 refine ar (fS rfl rfl rfl rfl rfl rfl rfl rfl (by omega) (by show(2:Int)*_≤_;omega) (by omega) ?_)
 rw[show(((a.map eU).length:Nat):Int).toNat=a.length by omega,jC]
 repeat refine aa rfl ?_
 refine am (MinI a b) (fun q=>[(1,.sl (b.map eU)),(5,.als 12 1 0 (q.2.1.map eU).length),(6,.int .u32 (q.2.2:Nat)),(13,.sl (a.map eU)),(14,I a.length),(15,I q.1)])
  (fun q=>[(12,1,⟨177,1,q.2.1.map eU,0⟩)]) (fun q=>a.length-q.1) (0,List.replicate a.length 0,0) ⟨Nat.zero_le _,by simp,Nat.zero_le _,by simp[nv]⟩ ⟨rfl,rfl,rfl,rfl,?_,rfl,rfl,trivial⟩ ?_
 ·show I ((a.map eU).length)=_
  rw[hal]
 rintro⟨k,R,c⟩ s2 hI
 have hk:=hI.k
 have hc:=hI.c
 have hRl:=hI.l
 simp only at hk hc hRl
 dsimp only
 repeat refine aa rfl ?_
 refine ab rfl ?_ ?_<;>intro h
 ·have hlt:k<a.length:=by have:=of_decide_eq_true h;omega
  clear h
  obtain⟨x,hx⟩:=aL hlt
  have hxl:=aR x
  obtain⟨r,hr⟩:=kO (R:=R) (i:=k) (by omega)
  obtain⟨y,hyl,hy,hyb⟩:∃y:Nat,y<65536∧nv (b.take (k+1))=nv (b.take k)+65536^k*y∧(if k<b.length then ∃u:UInt16,b[k]? = some u∧u.toNat=y else y=0):=by
   by_cases hb:k<b.length
   ·obtain⟨u,hu⟩:=aL hb
    exact⟨u.toNat,aR u,cG hu,by rw[if_pos hb];exact⟨u,hu,rfl⟩⟩
   ·exact⟨0,by decide,by rw[du (by omega),du (by omega)];omega,by rw[if_neg hb]⟩
  have hst:=y9 hI hx hy hyl
  have e0:IntKind.u32.wrap (x.toNat:Int)=(x.toNat:Int):=wrap_u32 (by omega) (by omega)
  repeat refine aa rfl ?_
  refine aZ rfl rfl rfl rfl rfl rfl rfl hx rfl ?_
  repeat refine aa rfl ?_
  refine p6 [(1,.sl (b.map eU)),(5,.als 12 1 0 (R.map eU).length),(6,.int .u32 (c:Nat)),(7,I k),(8,.int .u16 x.toNat),(9,.int .u32 ((c+y:Nat):Int)),(13,.sl (a.map eU)),(14,I a.length),(15,I k)] [(12,1,⟨177,1,R.map eU,0⟩)] ?_ (fun s3=>?_)
  ·refine ab rfl ?_ ?_<;>intro h
   ·have hb:k<b.length:=by have:=of_decide_eq_true h;rw[hbl]at this;omega
    clear h
    rw[if_pos hb]at hyb
    obtain⟨u,hu,rfl⟩:=hyb
    have e1:IntKind.u32.wrap ((c:Int)+IntKind.u32.wrap (u.toNat:Int))=((c+u.toNat:Nat):Int):=by rw[wrap_u32 (n:=(u.toNat:Int)) (by omega) (by omega),wrap_u32 (by omega) (by omega)];omega
    repeat refine aa rfl ?_
    refine aZ rfl rfl rfl rfl rfl rfl rfl hu rfl ?_
    repeat refine aa rfl ?_
    rw[e1]
    exact⟨rfl,rfl,rfl,rfl,rfl,rfl,rfl,rfl,rfl,rfl,trivial⟩
   ·have hb:¬k<b.length:=by have:=of_decide_eq_false h;rw[hbl]at this;omega
    clear h
    rw[if_neg hb]at hyb
    subst hyb
    repeat refine aa rfl ?_
    exact⟨rfl,rfl,rfl,rfl,rfl,rfl,rfl,rfl,rfl,rfl,trivial⟩
  by_cases hlt2:x.toNat<c+y
  ·rw[if_pos hlt2,if_pos hlt2]at hst
   have e2:IntKind.u16.wrap (IntKind.u32.wrap (IntKind.u32.wrap ((x.toNat:Int)+IntKind.u32.wrap ((1:Int)*2^(16:Int).toNat))-((c+y:Nat):Int)))=((UInt16.ofNat (x.toNat+65536-(c+y))).toNat:Int):=by
    rw[show IntKind.u32.wrap ((1:Int)*2^(16:Int).toNat)=65536 by decide,wrap_u32 (n:=(x.toNat:Int)+65536) (by omega) (by omega),wrap_u32 (by omega) (by omega),←wrap_u16]
    congr 1;omega
   repeat refine aa rfl ?_
   rw[e0]
   repeat refine aa rfl ?_
   refine ab rfl ?_ ?_<;>intro h
   ·clear h
    repeat refine aa rfl ?_
    rw[e0]
    repeat refine aa rfl ?_
    rw[e2]
    refine bH rfl rfl (bp rfl rfl rfl rfl rfl rfl rfl (by omega) (by rw[List.length_map];omega)) ?_
    rw[Int.toNat_natCast,Nat.zero_add k]
    refine bN (bL (kd':=0) rfl rfl rfl hr rfl rfl (by repeat' constructor) rfl rfl rfl rfl ?_)
    repeat refine aa rfl ?_
    refine⟨(k+1,_,_),hst,by simp only;omega,rfl,?_,rfl,rfl,rfl,bV (by omega) (by omega),?_,trivial⟩
    ·show PV.als 12 1 0 _=PV.als 12 1 0 _
     rw[List.length_map,List.length_map,List.length_set]
    ·refine Eq.trans (b:=(1,some (Cont.mk 177 1 ((R.map eU).set k (eU (UInt16.ofNat (x.toNat+65536-(c+y))))) 0))) rfl ?_
     rw[fc]
   ·have:=of_decide_eq_false h;omega
  ·rw[if_neg hlt2,if_neg hlt2]at hst
   have e2:IntKind.u16.wrap (IntKind.u32.wrap (IntKind.u32.wrap ((x.toNat:Int)+IntKind.u32.wrap ((0:Int)*2^(16:Int).toNat))-((c+y:Nat):Int)))=((UInt16.ofNat (x.toNat+0-(c+y))).toNat:Int):=by
    rw[show IntKind.u32.wrap ((0:Int)*2^(16:Int).toNat)=0 by decide,wrap_u32 (n:=(x.toNat:Int)+0) (by omega) (by omega),wrap_u32 (by omega) (by omega),←wrap_u16]
    congr 1;omega
   repeat refine aa rfl ?_
   rw[e0]
   repeat refine aa rfl ?_
   refine ab rfl ?_ ?_<;>intro h
   ·have:=of_decide_eq_true h;omega
   ·clear h
    repeat refine aa rfl ?_
    rw[e0]
    repeat refine aa rfl ?_
    rw[e2]
    refine bH rfl rfl (bp rfl rfl rfl rfl rfl rfl rfl (by omega) (by rw[List.length_map];omega)) ?_
    rw[Int.toNat_natCast,Nat.zero_add k]
    refine bN (bL (kd':=0) rfl rfl rfl hr rfl rfl (by repeat' constructor) rfl rfl rfl rfl ?_)
    repeat refine aa rfl ?_
    refine⟨(k+1,_,_),hst,by simp only;omega,rfl,?_,rfl,rfl,rfl,bV (by omega) (by omega),?_,trivial⟩
    ·show PV.als 12 1 0 _=PV.als 12 1 0 _
     rw[List.length_map,List.length_map,List.length_set]
    ·refine Eq.trans (b:=(1,some (Cont.mk 177 1 ((R.map eU).set k (eU (UInt16.ofNat (x.toNat+0-(c+y))))) 0))) rfl ?_
     rw[fc]
 ·have hge:k=a.length:=by have:=of_decide_eq_false h;omega
  subst hge
  clear h
  have hfin:aH R=aq (nv a-nv b):=by rw[aH,By hI hle]
  have ht:=b6 R (by omega)
  rw[hfin]at ht
  ((repeat ((fail_if_success (with_reducible refine aT 14 ?_));refine dh rfl ?_));refine aG 1 ?_)
  repeat refine aa rfl ?_
  refine a_ rfl (c9 (Ghost.takeF (enc:=eU) (t:=48) (R) rfl rfl (rfl) rfl (fun _=>rfl)) ?_)
  (refine j3 (dQ rfl (ht) rfl ?_ rfl) ?_;·repeat' constructor)
  refine aM ?_
  repeat refine aa rfl ?_
  exact fP rfl rfl rfl trivial rfl
theorem ph (k g i:Nat) (R:List UInt16) (y:UInt16):PV.als k g 0 (((R.map eU).set i (eU y))).length=PV.als k g 0 ((R.set i y).map eU).length:=by simp
theorem c_ (g T sz kd i:Nat) (R:List UInt16) (y:UInt16):(g,some (Cont.mk T sz ((R.map eU).set i (eU y)) kd))=(g,some (Cont.mk T sz ((R.set i y).map eU) kd)):=by rw[fc]
structure TimO (A B:List UInt16) (q:Nat × List UInt16):Prop where
 i:q.1≤A.length
 l:q.2.length=A.length+B.length
 v:nv (q.2.take (q.1+B.length))=nv (A.take q.1)*nv B
structure TimI (A B:List UInt16) (i x:Nat) (q:Nat × List UInt16 × Nat):Prop where
 k:q.1≤B.length
 l:q.2.1.length=A.length+B.length
 c:q.2.2<65536
 v:nv (q.2.1.take (i+B.length))+65536^(i+q.1)*q.2.2=nv (A.take i)*nv B+65536^i*(x*nv (B.take q.1))
theorem rA {x y:Nat} (hx:x<65536) (hy:y<65536):x*y≤4294836225:=by
 have:=Nat.mul_le_mul (show x≤65535 by omega) (show y≤65535 by omega)
 omega
theorem AG {A B:List UInt16} {i x k:Nat} {R:List UInt16} {c:Nat} {y r:UInt16} (h:TimI A B i x (k,R,c)) (hx:x<65536) (hy:B[k]? = some y) (hr:R[i+k]? = some r) :
  TimI A B i x (k+1,R.set (i+k) (UInt16.ofNat (c+(x*y.toNat+r.toNat))),(c+(x*y.toNat+r.toNat))/65536):=by
 obtain⟨h1,h2,h3,h4⟩:=h
 simp only at h1 h2 h3 h4
 have hk:=(List.getElem?_eq_some_iff.1 hy).1
 have hyl:=aR y
 have hrl:=aR r
 have hm:=rA hx hyl
 refine⟨hk,by simp[h2],by simp only;omega,?_⟩
 simp only
 have hs:=uF (t:=i+B.length) hr (by omega) (UInt16.ofNat (c+(x*y.toNat+r.toNat)))
 rw[aN]at hs
 rw[cG hy,show i+(k+1)=(i+k)+1 by omega,Nat.pow_succ]
 have e:=Nat.mod_add_div (c+(x*y.toNat+r.toNat)) 65536
 generalize (c+(x*y.toNat+r.toNat))%65536=m at *
 generalize (c+(x*y.toNat+r.toNat))/65536=d at *
 have e2:65536^i*(x*(nv (B.take k)+65536^k*y.toNat))=65536^i*(x*nv (B.take k))+65536^(i+k)*(x*y.toNat):=by
  rw[Nat.mul_add,Nat.mul_add,Nat.pow_add]
  congr 1
  simp only[Nat.mul_assoc,Nat.mul_left_comm,Nat.mul_comm]
 rw[e2]
 generalize 65536^(i+k)=W at *
 have e3:W*(m+65536*d)=W*(c+(x*y.toNat+r.toNat)):=by rw[e]
 simp only[Nat.mul_add]at e3
 rw[Nat.mul_assoc]
 omega
theorem AF {A B:List UInt16} {i:Nat} {x r:UInt16} {R:List UInt16} {c:Nat} (hx:A[i]? = some x) (h:TimI A B i x.toNat (B.length,R,c)) (hr:R[i+B.length]? = some r):TimO A B (i+1,R.set (i+B.length) (UInt16.ofNat c)):=by
 obtain⟨h1,h2,h3,h4⟩:=h
 simp only at h1 h2 h3 h4
 have hk:=(List.getElem?_eq_some_iff.1 hx).1
 refine⟨hk,by simp[h2],?_⟩
 simp only
 rw[show i+1+B.length=i+B.length+1 by omega,cG (List.getElem?_set_self (by omega)),jw (Nat.le_refl _),aN,Nat.mod_eq_of_lt h3,h4,List.take_length,cG hx,Nat.add_mul,Nat.mul_assoc]
theorem Ca {A B R:List UInt16} (h:TimO A B (A.length,R)):nv R=nv A*nv B:=by
 have h1:=h.l
 have h2:=h.v
 simp only at h1 h2
 rwa [List.take_length,List.take_of_length_le (by omega)]at h2
set_option maxRecDepth 20000 in
theorem xA (a b:List UInt16) (ha:a.length≤100000000) (hb:b.length≤100000000):Ret Tryz.prog .shared 184 [.sl (a.map eU),.sl (b.map eU)] (.sl ((aq (nv a*nv b)).map eU)):=by
 have hal:(a.map eU).length=a.length:=by simp
 have hbl:(b.map eU).length=b.length:=by simp
 have hw0:IntKind.i64.wrap ((((a.map eU).length:Nat):Int)+(((b.map eU).length:Nat):Int))=((a.length+b.length:Nat):Int):=by rw[hal,hbl,wrap_i64 (by omega) (by omega)];omega
 refine Ret.of_pwp layOk mixed Go.Proofs.Tryz.func184 rfl (by decide) rfl rfl ?_
 repeat refine aa rfl ?_
 rw[hw0]
 refine ar (fS rfl rfl rfl rfl rfl rfl rfl rfl (by omega) (by show(2:Int)*_≤_;omega) (by omega) ?_)
 rw[Int.toNat_natCast,jC]
 repeat refine aa rfl ?_
 refine am (TimO a b) (fun q=>[(1,.sl (b.map eU)),(5,.als 16 1 0 (q.2.map eU).length),(17,.sl (a.map eU)),(18,I a.length),(19,I q.1)])
  (fun q=>[(16,1,⟨177,1,q.2.map eU,0⟩)]) (fun q=>a.length-q.1) (0,List.replicate (a.length+b.length) 0) ⟨Nat.zero_le _,by simp,by simp[nv];exact pV _⟩ ⟨rfl,rfl,rfl,?_,rfl,rfl,trivial⟩ ?_
 ·show I ((a.map eU).length)=_
  rw[hal]
 rintro⟨i,R⟩ s1 hO
 have hi:=hO.i
 have hRl:=hO.l
 have hOv:=hO.v
 simp only at hi hRl hOv
 dsimp only
 repeat refine aa rfl ?_
 refine ab rfl ?_ ?_<;>intro h
 ·have hlt:i<a.length:=by have:=of_decide_eq_true h;omega
  clear h
  obtain⟨x,hx⟩:=aL hlt
  have hxl:=aR x
  have ex:IntKind.u32.wrap (x.toNat:Int)=(x.toNat:Int):=wrap_u32 (by omega) (by omega)
  repeat refine aa rfl ?_
  refine aZ rfl rfl rfl rfl rfl rfl rfl hx rfl ?_
  repeat refine aa rfl ?_
  refine am (TimI a b i x.toNat) (fun q=>[(1,.sl (b.map eU)),(5,.als 16 1 0 (q.2.1.map eU).length),(6,I i),(7,.int .u16 x.toNat),(8,.int .u32 (q.2.2:Nat)),(17,.sl (a.map eU)),(18,I a.length),(19,I i),(24,.sl (b.map eU)),(25,I b.length),(26,I q.1)])
   (fun q=>[(16,1,⟨177,1,q.2.1.map eU,0⟩)]) (fun q=>b.length-q.1) (0,R,0) ⟨Nat.zero_le _,hRl,Nat.zero_lt_succ _,by simp[nv];exact hOv⟩ ⟨rfl,rfl,rfl,rfl,rfl,rfl,rfl,rfl,rfl,?_,rfl,rfl,trivial⟩ ?_
  ·show I ((b.map eU).length)=_
   rw[hbl]
  rintro⟨k,Q,c⟩ s2 hI
  have hk:=hI.k
  have hQl:=hI.l
  have hc:=hI.c
  simp only at hk hQl hc
  dsimp only
  repeat refine aa rfl ?_
  refine ab rfl ?_ ?_<;>intro h
  ·have hlt2:k<b.length:=by have:=of_decide_eq_true h;omega
   clear h
   obtain⟨y,hy⟩:=aL hlt2
   obtain⟨r,hr⟩:=aL (show i+k<Q.length by omega)
   have hr2:(Q.map eU)[i+k]? = some (eU r):=by rw[List.getElem?_map,hr];rfl
   have hst:=AG hI hxl hy hr
   have hyl:=aR y
   have hrl:=aR r
   have hm:=rA hxl hyl
   have hmi:(x.toNat:Int)*(y.toNat:Int)=((x.toNat*y.toNat:Nat):Int):=by rw[Int.natCast_mul]
   have ey:IntKind.u32.wrap (y.toNat:Int)=(y.toNat:Int):=wrap_u32 (by omega) (by omega)
   have er:IntKind.u32.wrap (r.toNat:Int)=(r.toNat:Int):=wrap_u32 (by omega) (by omega)
   have e1:IntKind.u32.wrap ((c:Int)+IntKind.u32.wrap (IntKind.u32.wrap ((x.toNat:Int)*(y.toNat:Int))+(r.toNat:Int)))=((c+(x.toNat*y.toNat+r.toNat):Nat):Int):=by
    rw[hmi,wrap_u32 (n:=((x.toNat*y.toNat:Nat):Int)) (by omega) (by omega),wrap_u32 (n:=((x.toNat*y.toNat:Nat):Int)+(r.toNat:Int)) (by omega) (by omega),wrap_u32 (by omega) (by omega)];omega
   have ei:IntKind.i64.wrap ((i:Int)+(k:Int))=((i+k:Nat):Int):=by rw[wrap_i64 (by omega) (by omega)];omega
   generalize hsm:c+(x.toNat*y.toNat+r.toNat)=sm at *
   repeat refine aa rfl ?_
   refine aZ rfl rfl rfl rfl rfl rfl rfl hy rfl ?_
   repeat refine aa rfl ?_
   rw[ex]
   repeat refine aa rfl ?_
   rw[ey]
   repeat refine aa rfl ?_
   rw[ei]
   refine bH rfl rfl (bp rfl rfl rfl rfl rfl rfl rfl (by omega) (by rw[List.length_map];omega)) ?_
   rw[Int.toNat_natCast,Nat.zero_add (i+k)]
   refine bH rfl rfl (cW rfl rfl rfl hr2 rfl) ?_
   repeat refine aa rfl ?_
   rw[er]
   repeat refine aa rfl ?_
   rw[e1]
   repeat refine aa rfl ?_
   rw[ei]
   repeat refine aa rfl ?_
   rw[wrap_u16]
   refine bH rfl rfl (bp rfl rfl rfl rfl rfl rfl rfl (by omega) (by rw[List.length_map];omega)) ?_
   rw[Int.toNat_natCast,Nat.zero_add (i+k)]
   refine bN (bL (kd':=0) rfl rfl rfl hr2 rfl rfl (by repeat' constructor) rfl rfl rfl rfl ?_)
   repeat refine aa rfl ?_
   refine⟨(k+1,_,_),hst,by simp only;omega,rfl,?_,rfl,rfl,?_,rfl,rfl,rfl,rfl,rfl,bV (by omega) (by omega),?_,trivial⟩
   ·exact ph 16 1 (i+k) Q (UInt16.ofNat sm) |> fun h=>by
     show PV.als 16 1 0 (Q.map eU).length=_
     rw[←h,List.length_set]
   ·show PV.int .u32 ((sm:Int)/2^16)=PV.int .u32 ((sm/65536:Nat):Int)
    congr 1
   ·exact c_ 1 177 1 0 (i+k) Q (UInt16.ofNat sm)
  ·have hge:k=b.length:=by have:=of_decide_eq_false h;omega
   subst hge
   clear h
   obtain⟨r,hr⟩:=aL (show i+b.length<Q.length by omega)
   have hr2:(Q.map eU)[i+b.length]? = some (eU r):=by rw[List.getElem?_map,hr];rfl
   have hst:=AF hx hI hr
   have ei:IntKind.i64.wrap ((i:Int)+(((b.map eU).length:Nat):Int))=((i+b.length:Nat):Int):=by rw[hbl,wrap_i64 (by omega) (by omega)];omega
   repeat refine aa rfl ?_
   rw[ei]
   repeat refine aa rfl ?_
   rw[wrap_u16]
   refine bH rfl rfl (bp rfl rfl rfl rfl rfl rfl rfl (by omega) (by rw[List.length_map];omega)) ?_
   rw[Int.toNat_natCast,Nat.zero_add (i+b.length)]
   refine bN (bL (kd':=0) rfl rfl rfl hr2 rfl rfl (by repeat' constructor) rfl rfl rfl rfl ?_)
   repeat refine aa rfl ?_
   refine⟨(i+1,_),hst,by simp only;omega,rfl,?_,rfl,rfl,bV (by omega) (by omega),?_,trivial⟩
   ·show PV.als 16 1 0 (Q.map eU).length=_
    rw[←ph 16 1 (i+b.length) Q (UInt16.ofNat c),List.length_set]
   ·exact c_ 1 177 1 0 (i+b.length) Q (UInt16.ofNat c)
 ·have hge:i=a.length:=by have:=of_decide_eq_false h;omega
  subst hge
  clear h
  have hfin:aH R=aq (nv a*nv b):=by rw[aH,Ca hO]
  have ht:=b6 R (by omega)
  rw[hfin]at ht
  ((repeat ((fail_if_success (with_reducible refine aT 15 ?_));refine dh rfl ?_));refine aG 1 ?_)
  repeat refine aa rfl ?_
  refine a_ rfl (c9 (Ghost.takeF (enc:=eU) (t:=65) (R) rfl rfl (rfl) rfl (fun _=>rfl)) ?_)
  (refine j3 (dQ rfl (ht) rfl ?_ rfl) ?_;·repeat' constructor)
  refine aM ?_
  repeat refine aa rfl ?_
  exact fP rfl rfl rfl trivial rfl
end Go.Pv
namespace Go.Pv
open Go.RowKit
theorem Dv {P:Program} {w:World} {m:Sem Value} {v:Value} (h:m.run P w = .ok v w):(do pure (Next.value (←m)):Sem Next).run P w = .ok (.value v) w:=by simp[h]
section
variable {P:Program} {L:Lay} {s:St}
theorem xj [Globs] {T T':TypeId} {d:Nat} {x:Operand} {r:LRow} {E:TypeId} {ty:TypeId} {pos:String} {af:Array Edge} {rows:List (List PV)} {K:St→Prop} (hL:fX P L) (hr:L T=some r) (hs:r.sh = .sl E) (hx:s.ev x = .sl rows)
  (h1:rows=[]→K (s.putR d (.bool true))) (h2:K (s.putR d (.bool false))):Sm P L s ⟨some d,.binOp .eql T x (.const (.slice none 0 0)) T',ty,pos,af,none⟩ K:=by
 intro C a w Q hG ⟨γ,hs'⟩ hN
 have hv:=hs'.ev x
 rw[hx]at hv
 have hu:=fA (hL T r hr) hs
 have run:∀(v:Value) (b:Bool),a.eval x=v→((v = .slice none 0 0∨∃c,v = .slice none 0 c)∧b=true∨(∃q n c,v = .slice (some q) n c)∧b=false) →
   (execOp a.eval ⟨some d,.binOp .eql T x (.const (.slice none 0 0)) T',ty,pos,af,none⟩).run P w = .ok (.value (.bool b)) w:=by
  intro v b hv hb
  have e2:a.eval (.const (.slice none 0 0)) = .slice none 0 0:=rfl
  simp only[execOp,hv,e2]
  refine Dv ?_
  rcases hb with⟨rfl|⟨c,rfl⟩,rfl⟩|⟨⟨q,n,c,rfl⟩,rfl⟩
  ·have hg:eqGuard .eql T x (.const (.slice none 0 0)) (.slice none 0 0) (.slice none 0 0)=pure ():=by cases x<;>rfl
   rw[hg]
   have h:∀d:Nat,(Op.equalIn (d+1) T (.slice none 0 0) (.slice none 0 0)).run P w = .ok true w:=fun d=>by simp[Op.equalIn,run_underlying hu]
   simp only[Sem.run_bind,Sem.run_pure,Result.andThen_ok,binOp]
   simp[Op.equal,Op.maxDepth,h 9999]
  ·have hg:eqGuard .eql T x (.const (.slice none 0 0)) (.slice none 0 c) (.slice none 0 0)=pure ():=by cases x<;>rfl
   rw[hg]
   have h:∀d:Nat,(Op.equalIn (d+1) T (.slice none 0 c) (.slice none 0 0)).run P w = .ok true w:=fun d=>by simp[Op.equalIn,run_underlying hu]
   simp only[Sem.run_bind,Sem.run_pure,Result.andThen_ok,binOp]
   simp[Op.equal,Op.maxDepth,h 9999]
  ·have hg:eqGuard .eql T x (.const (.slice none 0 0)) (.slice (some q) n c) (.slice none 0 0)=pure ():=by cases x<;>rfl
   rw[hg]
   have h:∀d:Nat,(Op.equalIn (d+1) T (.slice (some q) n c) (.slice none 0 0)).run P w = .ok false w:=fun d=>by simp[Op.equalIn,run_underlying hu]
   simp only[Sem.run_bind,Sem.run_pure,Result.andThen_ok,binOp]
   simp[Op.equal,Op.maxDepth,h 9999]
 generalize hev:a.eval x=v0 at hv
 cases hv with
 |d hd =>
  cases hd with
  |sl0 q cap =>
   cases q with
   |none =>
    unfold Oper.wp
    rw[run _ true hev (.inl ⟨.inr ⟨_,rfl⟩,rfl⟩),Oper.upon_value]
    exact⟨_,⟨_,hs'.put (d:=some d) hN (.d (.bool _))⟩,h1 rfl⟩
   |some q =>
    unfold Oper.wp
    rw[run _ false hev (.inr ⟨⟨_,_,_,rfl⟩,rfl⟩),Oper.upon_value]
    exact⟨_,⟨_,hs'.put (d:=some d) hN (.d (.bool _))⟩,h2⟩
  |sl rows b off cap sz vals =>
   unfold Oper.wp
   rw[run _ false hev (.inr ⟨⟨_,_,_,rfl⟩,rfl⟩),Oper.upon_value]
   exact⟨_,⟨_,hs'.put (d:=some d) hN (.d (.bool _))⟩,h2⟩
end
theorem jA [Globs] {P:Program} {L:Lay} {Q:Exit→St→Prop} {s:St} (h:PWP P L .ret Q s):PWP P L .ret Q s:=h
end Go.Pv
set_option maxHeartbeats 2000000
namespace Go.Pv
attribute [local irreducible] PWP POps PQuiet PSem ax ao aj ai
open Go.Proofs
theorem ss (a b:Nat):(a:Int).tdiv (b:Int)=((a/b:Nat):Int):=rfl
theorem kt (a b:Nat):(a:Int).tmod (b:Int)=((a%b:Nat):Int):=rfl
theorem EB {x y:Nat} (hx:x<65536) (hy:y<65536):bits .or .u32 ((x*65536:Nat):Int) (y:Int)=((x*65536+y:Nat):Int):=by
 rw[bits_join .u32 32 (by decide) wraps_u32 16 _ _ (by omega) (by omega) (by omega) (by omega) (by omega) (by omega)];omega
theorem Di {x y:Nat} (hx:x<281474976710656) (hy:y<65536):bits .or .u64 ((x*65536:Nat):Int) (y:Int)=((x*65536+y:Nat):Int):=by
 rw[bits_join .u64 64 (by decide) wraps_u64 16 _ _ (by omega) (by omega) (by omega) (by omega) (by omega) (by omega)];omega
theorem CE {x:Nat} (hx:x<65536):IntKind.u32.wrap ((x:Int)*2^(16:Int).toNat)=((x*65536:Nat):Int):=by
 rw[show((2:Int)^(16:Int).toNat)=65536 by decide,wrap_u32 (by omega) (by omega)];omega
theorem Ag {x:Nat} (hx:x<281474976710656):IntKind.u64.wrap ((x:Int)*2^(16:Int).toNat)=((x*65536:Nat):Int):=by
 rw[show((2:Int)^(16:Int).toNat)=65536 by decide,wrap_u64 (by omega) (by omega)];omega
structure ShI (A:List UInt16) (b:Nat) (q:Nat × List UInt16 × Nat):Prop where
 k:q.1≤A.length
 l:q.2.1.length=A.length
 c:q.2.2<b
 v:nv (A.drop q.1)=b*nv (q.2.1.drop q.1)+q.2.2
theorem nW {l:List UInt16} {i:Nat} {y:UInt16} (h:i<l.length):(l.set i y).drop i=y::l.drop (i+1):=by
 have h1:(l.set i y)[i]? = some y:=List.getElem?_set_self h
 have h2:=List.drop_eq_getElem?_toList_append (l:=l.set i y) (i:=i)
 rw[h1]at h2
 rw[h2]
 show y::(l.set i y).drop (i+1)=_
 congr 1
 apply List.ext_getElem?;intro j
 rw[List.getElem?_drop,List.getElem?_drop,List.getElem?_set_ne (by omega)]
theorem B7 {A:List UInt16} {b j:Nat} {Q:List UInt16} {c:Nat} {x:UInt16} (h:ShI A b (j+1,Q,c)) (hb:b<65536) (hx:A[j]? = some x) :
  ShI A b (j,Q.set j (UInt16.ofNat ((c*65536+x.toNat)/b)),(c*65536+x.toNat)%b):=by
 obtain⟨h1,h2,h3,h4⟩:=h
 simp only at h1 h2 h3 h4
 have hj:=(List.getElem?_eq_some_iff.1 hx).1
 have hxl:=aR x
 refine⟨by simp only;omega,by simp[h2],Nat.mod_lt _ (by omega),?_⟩
 simp only
 have hq:(c*65536+x.toNat)/b<65536:=by
  rw[Nat.div_lt_iff_lt_mul (by omega)]
  have:=Nat.mul_le_mul_right 65536 (show c+1≤b by omega)
  omega
 rw[dP hx,h4,nW (by omega),nv,aN,Nat.mod_eq_of_lt hq,Nat.mul_add 65536,Nat.mul_add b]
 have e:=Nat.div_add_mod (c*65536+x.toNat) b
 have e2:b*(65536*nv (Q.drop (j+1)))=65536*(b*nv (Q.drop (j+1))):=by rw[Nat.mul_left_comm]
 rw[e2]
 omega
set_option maxRecDepth 20000 in
theorem xg (a:List UInt16) (b:UInt16) (ha:a.length≤100000000) (hb:0<b.toNat):Ret Tryz.prog .shared 210 [.sl (a.map eU),.int .u16 b.toNat] (.tup [.sl ((aq (nv a/b.toNat)).map eU),.int .u16 ((nv a%b.toNat:Nat):Int)]):=by
 have hal:(a.map eU).length=a.length:=by simp
 have hbl:=aR b
 have hw0:IntKind.i64.wrap (((((a.map eU).length:Nat):Int))-1)=(a.length:Int)-1:=by rw[hal,wrap_i64 (by omega) (by omega)]
 have eb:IntKind.u32.wrap (b.toNat:Int)=(b.toNat:Int):=wrap_u32 (by omega) (by omega)
 have hb0:¬((b.toNat:Nat):Int)=0:=by omega
 refine Ret.of_pwp layOk mixed Go.Proofs.Tryz.func210 rfl (by decide) rfl rfl ?_
 repeat refine aa rfl ?_
 refine ar (fS rfl rfl rfl rfl rfl rfl rfl rfl (by omega) (by show(2:Int)*_≤_;omega) (by omega) ?_)
 rw[show(((a.map eU).length:Nat):Int).toNat=a.length by omega,jC]
 repeat refine aa rfl ?_
 rw[hw0]
 refine am (ShI a b.toNat) (fun q=>[(0,.sl (a.map eU)),(1,.int .u16 b.toNat),(6,.als 11 1 0 (q.2.1.map eU).length),(7,.int .u32 (q.2.2:Nat)),(8,I ((q.1:Int)-1))])
  (fun q=>[(11,1,⟨177,1,q.2.1.map eU,0⟩)]) (fun q=>q.1) (a.length,List.replicate a.length 0,0) ⟨Nat.le_refl _,by simp,hb,by simp[nv]⟩ ⟨rfl,rfl,rfl,rfl,rfl,rfl,trivial⟩ ?_
 rintro⟨k,Q,c⟩ s1 hI
 have hk:=hI.k
 have hQl:=hI.l
 have hc:=hI.c
 simp only at hk hQl hc
 dsimp only
 repeat refine aa rfl ?_
 refine ab rfl ?_ ?_<;>intro h
 ·have hk0:0<k:=by have:=of_decide_eq_true h;omega
  clear h
  obtain⟨j,rfl⟩:∃j,k=j+1:=⟨k-1,by omega⟩
  have e1:(((j+1:Nat):Int)-1)=(j:Nat):=by omega
  obtain⟨x,hx⟩:=aL (show j<a.length by omega)
  have hxl:=aR x
  obtain⟨r,hr⟩:=kO (R:=Q) (i:=j) (by omega)
  have hst:=B7 hI hbl hx
  have hst2:=hst.c
  simp only at hst2
  have ex:IntKind.u32.wrap (x.toNat:Int)=(x.toNat:Int):=wrap_u32 (by omega) (by omega)
  have hsmb:c*65536+x.toNat<4294967296:=by omega
  have hor:=EB (x:=c) (y:=x.toNat) (by omega) hxl
  have hq:(c*65536+x.toNat)/b.toNat≤c*65536+x.toNat:=Nat.div_le_self _ _
  rw[e1]
  repeat refine aa rfl ?_
  rw[CE (by omega)]
  refine aZ rfl rfl rfl rfl rfl rfl rfl hx rfl ?_
  repeat refine aa rfl ?_
  rw[ex,hor]
  generalize c*65536+x.toNat=sm at *
  repeat refine aa rfl ?_
  rw[eb]
  refine ia rfl hb0 ?_
  rw[ss]
  generalize hqq:sm/b.toNat=qq at *
  rw[wrap_u32 (n:=(qq:Int)) (by omega) (by omega)]
  repeat refine aa rfl ?_
  rw[wrap_u16]
  refine bH rfl rfl (bp rfl rfl rfl rfl rfl rfl rfl (by omega) (by rw[List.length_map];omega)) ?_
  rw[Int.toNat_natCast,Nat.zero_add j]
  refine bN (bL (kd':=0) rfl rfl rfl hr rfl rfl (by repeat' constructor) rfl rfl rfl rfl ?_)
  repeat refine aa rfl ?_
  rw[eb]
  refine ia rfl hb0 ?_
  rw[kt]
  repeat refine aa rfl ?_
  refine⟨(j,_,_),hst,by simp only;omega,rfl,rfl,?_,rfl,?_,?_,trivial⟩
  ·show PV.als 11 1 0 (Q.map eU).length=_
   rw[←ph 11 1 j Q (UInt16.ofNat qq),List.length_set]
  ·exact congrArg I (wrap_i64 (by omega) (by omega))
  ·exact c_ 1 177 1 0 j Q (UInt16.ofNat qq)
 ·have hge:k=0:=by have:=of_decide_eq_false h;omega
  subst hge
  clear h
  have hv:=hI.v
  simp only[List.drop_zero]at hv
  have hd:nv a/b.toNat=nv Q∧nv a%b.toNat=c:=by
   rw[hv,Nat.mul_add_div hb,Nat.mul_add_mod,Nat.div_eq_of_lt hc,Nat.mod_eq_of_lt hc];omega
  have ht:=b6 Q (by omega)
  rw[aH,←hd.1]at ht
  ((repeat ((fail_if_success (with_reducible refine aT 9 ?_));refine dh rfl ?_));refine aG 1 ?_)
  repeat refine aa rfl ?_
  refine a_ rfl (c9 (Ghost.takeF (enc:=eU) (t:=39) (Q) rfl rfl (rfl) rfl (fun _=>rfl)) ?_)
  (refine j3 (dQ rfl (ht) rfl ?_ rfl) ?_;·repeat' constructor)
  refine aM ?_
  repeat refine aa rfl ?_
  rw[wrap_u16,aN,Nat.mod_eq_of_lt (show c<65536 by omega),←hd.2]
  repeat refine aa rfl ?_
  exact sY rfl rfl rfl rfl rfl trivial trivial rfl
def ij:Nat→Nat→List UInt16
 |0,_=>[]
 |k+1,v=>UInt16.ofNat v::ij k (v/65536)
theorem il:∀k v,(ij k v).length=k
 |0,_=>rfl
 |k+1,v=>by rw[ij,List.length_cons,il k]
theorem pB:∀k v,v<65536^k→nv (ij k v)=v
 |0,v,h=>by simp at h;subst h;rfl
 |k+1,v,h=>by
  rw[ij,nv,aN,pB k (v/65536) (by rw[Nat.pow_succ]at h;exact Nat.div_lt_of_lt_mul (by rw[Nat.mul_comm];exact h))]
  exact Nat.mod_add_div _ _
theorem pC:∀(l:List UInt16),l=ij l.length (nv l)
 |[]=>rfl
 |x::l=>by
  have hx:=aR x
  rw[List.length_cons,ij,nv]
  have e1:UInt16.ofNat (x.toNat+65536*nv l)=x:=by apply nM;rw[aN];omega
  have e2:(x.toNat+65536*nv l)/65536=nv l:=by omega
  rw[e1,e2,←pC l]
structure SfI (A:List UInt16) (s:Nat) (q:Nat × List UInt16):Prop where
 i:q.1≤A.length
 l:q.2.length=A.length+1
 r:(q.2.getD q.1 0).toNat<2^s
 v:nv (q.2.take (q.1+1))=nv (A.take q.1)*2^s
theorem Ad {x s:Nat} (hs:s≤16):(x*2^s%65536)%2^s=0:=by
 rw[show 65536=2^s*2^(16-s) by rw[←Nat.pow_add,show s+(16-s)=16 by omega]]
 rw[Nat.mod_mul_right_mod,Nat.mul_mod_left]
theorem uV {A:List UInt16} {s i:Nat} {R:List UInt16} {x:UInt16} (h:SfI A s (i,R)) (hs:s≤16) (hx:A[i]? = some x) :
  ((R.getD i 0).toNat+x.toNat*2^s%65536<65536)∧SfI A s (i+1,(R.set i (UInt16.ofNat ((R.getD i 0).toNat+x.toNat*2^s%65536))).set (i+1) (UInt16.ofNat (x.toNat*2^s/65536))):=by
 obtain⟨h1,h2,h3,h4⟩:=h
 simp only at h1 h2 h3 h4
 have hk:=(List.getElem?_eq_some_iff.1 hx).1
 have hxl:=aR x
 have hp:0<2^s:=Nat.pow_pos (by decide)
 have hw:x.toNat*2^s/65536<2^s:=by
  rw[Nat.div_lt_iff_lt_mul (by decide)]
  have:=(Nat.mul_lt_mul_right hp).2 hxl
  rw[Nat.mul_comm (2^s)];exact this
 have hp2:2^s≤65536:=Nat.pow_le_pow_right (n:=2) (by decide) hs
 have hlo:=Ad (x:=x.toNat) hs
 have hd:2^s*2^(16-s)=65536:=by rw[←Nat.pow_add,show s+(16-s)=16 by omega]
 have hm:=Nat.mod_lt (x.toNat*2^s) (show 65536>0 by decide)
 have hlt:(R.getD i 0).toNat+x.toNat*2^s%65536<65536:=by
  generalize x.toNat*2^s%65536=m at *
  obtain⟨c,hc⟩:=Nat.dvd_of_mod_eq_zero hlo
  have hc2:c<2^(16-s):=by
   rw[hc,←hd]at hm
   exact Nat.lt_of_mul_lt_mul_left hm
  have:=Nat.mul_le_mul_left (2^s) (show c+1≤2^(16-s) by omega)
  rw[Nat.mul_add]at this
  omega
 have hRi:R[i]? = some (R.getD i 0):=bW (by omega)
 refine⟨hlt,hk,by simp[h2],?_,?_⟩
 ·simp only
  rw[List.getD_eq_getElem?_getD,List.getElem?_set_self (by simp;omega)]
  show(UInt16.ofNat _).toNat<_
  rw[aN,Nat.mod_eq_of_lt (by omega)];exact hw
 ·simp only
  rw[cG (i:=i+1) (List.getElem?_set_self (by simp;omega)),jw (Nat.le_refl _),aN,Nat.mod_eq_of_lt (a:=x.toNat*2^s/65536) (by omega)]
  have e1:=uF (t:=i+1) hRi (by omega) (UInt16.ofNat ((R.getD i 0).toNat+x.toNat*2^s%65536))
  rw[aN,Nat.mod_eq_of_lt hlt,h4]at e1
  rw[cG hx,Nat.add_mul]
  have e2:=Nat.mod_add_div (x.toNat*2^s) 65536
  have e3:65536^i*x.toNat*2^s=65536^i*(x.toNat*2^s%65536)+65536^(i+1)*(x.toNat*2^s/65536):=by
   rw[Nat.pow_succ,Nat.mul_assoc,Nat.mul_assoc,←Nat.mul_add,e2]
  rw[e3]
  rw[Nat.mul_add]at e1
  omega
set_option maxRecDepth 20000 in
theorem r8 (a:List UInt16) (s:Nat) (ha:a.length≤100000000) (hs:s≤16):Ret Tryz.prog .fresh 212 [.sl (a.map eU),I s] (.sl ((ij (a.length+1) (nv a*2^s)).map eU)):=by
 have hal:(a.map eU).length=a.length:=by simp
 have hw0:IntKind.i64.wrap (((((a.map eU).length:Nat):Int))+1)=((a.length+1:Nat):Int):=by rw[hal,wrap_i64 (by omega) (by omega)];omega
 have hp2:2^s≤65536:=Nat.pow_le_pow_right (n:=2) (by decide) hs
 refine Ret.of_pwp layOk mixed Go.Proofs.Tryz.func212 rfl (by decide) rfl rfl ?_
 repeat refine aa rfl ?_
 rw[hw0]
 refine ar (fS rfl rfl rfl rfl rfl rfl rfl rfl (by omega) (by show(2:Int)*_≤_;omega) (by omega) ?_)
 rw[Int.toNat_natCast,jC]
 repeat refine aa rfl ?_
 refine am (SfI a s) (fun q=>[(1,I s),(5,.als 12 1 0 (q.2.map eU).length),(13,.sl (a.map eU)),(14,I a.length),(15,I q.1)])
  (fun q=>[(12,1,⟨177,1,q.2.map eU,0⟩)]) (fun q=>a.length-q.1) (0,List.replicate (a.length+1) 0) ⟨Nat.zero_le _,by simp,by simp[List.getD_eq_getElem?_getD];exact Nat.pow_pos (by decide),by simp[nv]⟩ ⟨rfl,rfl,rfl,?_,rfl,rfl,trivial⟩ ?_
 ·show I ((a.map eU).length)=_
  rw[hal]
 rintro⟨i,R⟩ s1 hI
 have hi:=hI.i
 have hRl:=hI.l
 have hrr:=hI.r
 simp only at hi hRl hrr
 dsimp only
 repeat refine aa rfl ?_
 refine ab rfl ?_ ?_<;>intro h
 ·have hlt:i<a.length:=by have:=of_decide_eq_true h;omega
  clear h
  obtain⟨x,hx⟩:=aL hlt
  have hxl:=aR x
  obtain⟨hst0,hst⟩:=uV hI hs hx
  have hr:(R.map eU)[i]? = some (eU (R.getD i 0)):=by rw[List.getElem?_map,bW (by omega)];rfl
  generalize hrd:R.getD i 0=r at *
  obtain⟨r2,hr2⟩:=kO (R:=R.set i (UInt16.ofNat (r.toNat+x.toNat*2^s%65536))) (i:=i+1) (by simp;omega)
  have hlo:=Ad (x:=x.toNat) hs
  have hwb:x.toNat*2^s<4294967296:=by
   have:=Nat.mul_le_mul (show x.toNat≤65535 by omega) hp2
   omega
  have ex:IntKind.u32.wrap (x.toNat:Int)=(x.toNat:Int):=wrap_u32 (by omega) (by omega)
  have esh:IntKind.u32.wrap ((x.toNat:Int)*2^(s:Int).toNat)=((x.toNat*2^s:Nat):Int):=by
   rw[Int.toNat_natCast,show((x.toNat:Int)*2^s)=((x.toNat*2^s:Nat):Int) by push_cast;rfl,wrap_u32 (by omega) (by omega)]
  have e16:IntKind.u16.wrap ((x.toNat*2^s:Nat):Int)=((x.toNat*2^s%65536:Nat):Int):=by rw[wrap_u16,aN]
  have hor:bits .or .u16 (r.toNat:Int) ((x.toNat*2^s%65536:Nat):Int)=((UInt16.ofNat (r.toNat+x.toNat*2^s%65536)).toNat:Int):=by
   rw[bits_join_low .u16 16 (by decide) wraps_u16 s _ _ (by omega) (by exact_mod_cast hrr) (by have:=aR r;omega) (by omega) (by exact_mod_cast hlo) (by have:=Nat.mod_lt (x.toNat*2^s) (show 65536>0 by decide);omega),aN,Nat.mod_eq_of_lt hst0];omega
  have ei:IntKind.i64.wrap ((i:Int)+1)=((i+1:Nat):Int):=by rw[wrap_i64 (by omega) (by omega)];omega
  generalize x.toNat*2^s=w at *
  repeat refine aa rfl ?_
  refine aZ rfl rfl rfl rfl rfl rfl rfl hx rfl ?_
  repeat refine aa rfl ?_
  rw[ex]
  repeat refine aa rfl ?_
  refine ia rfl (show(0:Int)≤(s:Int)∧(s:Int)≤(IntKind.u32.bits:Nat) by constructor;omega;show(s:Int)≤32;omega) ?_
  rw[esh]
  repeat refine aa rfl ?_
  refine bH rfl rfl (bp rfl rfl rfl rfl rfl rfl rfl (by omega) (by rw[List.length_map];omega)) ?_
  rw[Int.toNat_natCast,Nat.zero_add i]
  refine bH rfl rfl (cW rfl rfl rfl hr rfl) ?_
  repeat refine aa rfl ?_
  rw[e16]
  repeat refine aa rfl ?_
  rw[hor]
  refine bH rfl rfl (bp rfl rfl rfl rfl rfl rfl rfl (by omega) (by rw[List.length_map];omega)) ?_
  rw[Int.toNat_natCast,Nat.zero_add i]
  refine bN (bL (kd':=0) rfl rfl rfl hr rfl rfl (by repeat' constructor) rfl rfl rfl rfl ?_)
  rw[show((R.map eU).set i (i6 (eU r) 0 ((PV.int IntKind.u16 ((UInt16.ofNat (r.toNat+w%65536)).toNat:Int)).cells.map (dJ 0))))=(R.set i (UInt16.ofNat (r.toNat+w%65536))).map eU from fc _ _ _]
  repeat refine aa rfl ?_
  rw[ei]
  repeat refine aa rfl ?_
  rw[show IntKind.u16.wrap ((w:Int)/2^(16:Int).toNat)=((UInt16.ofNat (w/65536)).toNat:Int) from wrap_u16 (w/65536)]
  refine bH rfl rfl (bp rfl rfl rfl rfl rfl rfl rfl (by omega) (by rw[List.length_map];omega)) ?_
  rw[Int.toNat_natCast,Nat.zero_add (i+1)]
  refine bN (bL (kd':=0) rfl rfl rfl hr2 rfl rfl (by repeat' constructor) rfl rfl rfl rfl ?_)
  repeat refine aa rfl ?_
  refine⟨(i+1,_),hst,by simp only;omega,rfl,?_,rfl,rfl,bV (by omega) (by omega),?_,trivial⟩
  ·show PV.als 12 1 0 (R.map eU).length=_
   simp
  ·exact c_ 1 177 1 0 (i+1) (R.set i (UInt16.ofNat (r.toNat+w%65536))) (UInt16.ofNat (w/65536))
 ·have hge:i=a.length:=by have:=of_decide_eq_false h;omega
  subst hge
  clear h
  have hv:=hI.v
  simp only at hv
  rw[List.take_length,List.take_of_length_le (by omega)]at hv
  have hR:R=ij (a.length+1) (nv a*2^s):=by rw[←hv,←hRl];exact pC R
  rw[←hR]
  repeat refine aa rfl ?_
  exact yG rfl rfl rfl ⟨rfl,rfl,rfl⟩ rfl
set_option maxRecDepth 20000 in
theorem qp (a:List UInt16) (s:Nat) (ha:a.length≤100000000) (hs:s≤16):RetO Tryz.prog 212 [.sl (a.map eU),I s] 177 1 ((ij (a.length+1) (nv a*2^s)).map eU):=by
 have hal:(a.map eU).length=a.length:=by simp
 have hw0:IntKind.i64.wrap (((((a.map eU).length:Nat):Int))+1)=((a.length+1:Nat):Int):=by rw[hal,wrap_i64 (by omega) (by omega)];omega
 have hp2:2^s≤65536:=Nat.pow_le_pow_right (n:=2) (by decide) hs
 refine RetO.of_pwp layOk mixed Go.Proofs.Tryz.func212 rfl (by decide) rfl rfl ?_
 repeat refine aa rfl ?_
 rw[hw0]
 refine ar (fS rfl rfl rfl rfl rfl rfl rfl rfl (by omega) (by show(2:Int)*_≤_;omega) (by omega) ?_)
 rw[Int.toNat_natCast,jC]
 repeat refine aa rfl ?_
 refine am (SfI a s) (fun q=>[(1,I s),(5,.als 12 1 0 (q.2.map eU).length),(13,.sl (a.map eU)),(14,I a.length),(15,I q.1)])
  (fun q=>[(12,1,⟨177,1,q.2.map eU,0⟩)]) (fun q=>a.length-q.1) (0,List.replicate (a.length+1) 0) ⟨Nat.zero_le _,by simp,by simp[List.getD_eq_getElem?_getD];exact Nat.pow_pos (by decide),by simp[nv]⟩ ⟨rfl,rfl,rfl,?_,rfl,rfl,trivial⟩ ?_
 ·show I ((a.map eU).length)=_
  rw[hal]
 rintro⟨i,R⟩ s1 hI
 have hi:=hI.i
 have hRl:=hI.l
 have hrr:=hI.r
 simp only at hi hRl hrr
 dsimp only
 repeat refine aa rfl ?_
 refine ab rfl ?_ ?_<;>intro h
 ·have hlt:i<a.length:=by have:=of_decide_eq_true h;omega
  clear h
  obtain⟨x,hx⟩:=aL hlt
  have hxl:=aR x
  obtain⟨hst0,hst⟩:=uV hI hs hx
  have hr:(R.map eU)[i]? = some (eU (R.getD i 0)):=by rw[List.getElem?_map,bW (by omega)];rfl
  generalize hrd:R.getD i 0=r at *
  obtain⟨r2,hr2⟩:=kO (R:=R.set i (UInt16.ofNat (r.toNat+x.toNat*2^s%65536))) (i:=i+1) (by simp;omega)
  have hlo:=Ad (x:=x.toNat) hs
  have hwb:x.toNat*2^s<4294967296:=by
   have:=Nat.mul_le_mul (show x.toNat≤65535 by omega) hp2
   omega
  have ex:IntKind.u32.wrap (x.toNat:Int)=(x.toNat:Int):=wrap_u32 (by omega) (by omega)
  have esh:IntKind.u32.wrap ((x.toNat:Int)*2^(s:Int).toNat)=((x.toNat*2^s:Nat):Int):=by
   rw[Int.toNat_natCast,show((x.toNat:Int)*2^s)=((x.toNat*2^s:Nat):Int) by push_cast;rfl,wrap_u32 (by omega) (by omega)]
  have e16:IntKind.u16.wrap ((x.toNat*2^s:Nat):Int)=((x.toNat*2^s%65536:Nat):Int):=by rw[wrap_u16,aN]
  have hor:bits .or .u16 (r.toNat:Int) ((x.toNat*2^s%65536:Nat):Int)=((UInt16.ofNat (r.toNat+x.toNat*2^s%65536)).toNat:Int):=by
   rw[bits_join_low .u16 16 (by decide) wraps_u16 s _ _ (by omega) (by exact_mod_cast hrr) (by have:=aR r;omega) (by omega) (by exact_mod_cast hlo) (by have:=Nat.mod_lt (x.toNat*2^s) (show 65536>0 by decide);omega),aN,Nat.mod_eq_of_lt hst0];omega
  have ei:IntKind.i64.wrap ((i:Int)+1)=((i+1:Nat):Int):=by rw[wrap_i64 (by omega) (by omega)];omega
  generalize x.toNat*2^s=w at *
  repeat refine aa rfl ?_
  refine aZ rfl rfl rfl rfl rfl rfl rfl hx rfl ?_
  repeat refine aa rfl ?_
  rw[ex]
  repeat refine aa rfl ?_
  refine ia rfl (show(0:Int)≤(s:Int)∧(s:Int)≤(IntKind.u32.bits:Nat) by constructor;omega;show(s:Int)≤32;omega) ?_
  rw[esh]
  repeat refine aa rfl ?_
  refine bH rfl rfl (bp rfl rfl rfl rfl rfl rfl rfl (by omega) (by rw[List.length_map];omega)) ?_
  rw[Int.toNat_natCast,Nat.zero_add i]
  refine bH rfl rfl (cW rfl rfl rfl hr rfl) ?_
  repeat refine aa rfl ?_
  rw[e16]
  repeat refine aa rfl ?_
  rw[hor]
  refine bH rfl rfl (bp rfl rfl rfl rfl rfl rfl rfl (by omega) (by rw[List.length_map];omega)) ?_
  rw[Int.toNat_natCast,Nat.zero_add i]
  refine bN (bL (kd':=0) rfl rfl rfl hr rfl rfl (by repeat' constructor) rfl rfl rfl rfl ?_)
  rw[show((R.map eU).set i (i6 (eU r) 0 ((PV.int IntKind.u16 ((UInt16.ofNat (r.toNat+w%65536)).toNat:Int)).cells.map (dJ 0))))=(R.set i (UInt16.ofNat (r.toNat+w%65536))).map eU from fc _ _ _]
  repeat refine aa rfl ?_
  rw[ei]
  repeat refine aa rfl ?_
  rw[show IntKind.u16.wrap ((w:Int)/2^(16:Int).toNat)=((UInt16.ofNat (w/65536)).toNat:Int) from wrap_u16 (w/65536)]
  refine bH rfl rfl (bp rfl rfl rfl rfl rfl rfl rfl (by omega) (by rw[List.length_map];omega)) ?_
  rw[Int.toNat_natCast,Nat.zero_add (i+1)]
  refine bN (bL (kd':=0) rfl rfl rfl hr2 rfl rfl (by repeat' constructor) rfl rfl rfl rfl ?_)
  repeat refine aa rfl ?_
  refine⟨(i+1,_),hst,by simp only;omega,rfl,?_,rfl,rfl,bV (by omega) (by omega),?_,trivial⟩
  ·show PV.als 12 1 0 (R.map eU).length=_
   simp
  ·exact c_ 1 177 1 0 (i+1) (R.set i (UInt16.ofNat (r.toNat+w%65536))) (UInt16.ofNat (w/65536))
 ·have hge:i=a.length:=by have:=of_decide_eq_false h;omega
  subst hge
  clear h
  have hv:=hI.v
  simp only at hv
  rw[List.take_length,List.take_of_length_le (by omega)]at hv
  have hR:R=ij (a.length+1) (nv a*2^s):=by rw[←hv,←hRl];exact pC R
  rw[←hR]
  repeat refine aa rfl ?_
  exact Ex rfl rfl rfl rfl (by rw[List.all_eq_true];intro row hr;obtain⟨y,_,rfl⟩:=List.mem_map.1 hr;rfl) rfl
def EM:List UInt8:=[0,1,2,2,3,3,3,3,4,4,4,4,4,4,4,4,5,5,5,5,5,5,5,5,5,5,5,5,5,5,5,5,6,6,6,6,6,6,6,6,6,6,6,6,6,6,6,6,6,6,6,6,6,6,6,6,6,6,6,6,6,6,6,6,7,7,7,7,7,7,7,7,7,7,7,7,7,7,7,7,7,7,7,7,7,7,7,7,7,7,7,7,7,7,7,7,7,7,7,7,7,7,7,7,7,7,7,7,7,7,7,7,7,7,7,7,7,7,7,7,7,7,7,7,7,7,7,7,8,8,8,8,8,8,8,8,8,8,8,8,8,8,8,8,8,8,8,8,8,8,8,8,8,8,8,8,8,8,8,8,8,8,8,8,8,8,8,8,8,8,8,8,8,8,8,8,8,8,8,8,8,8,8,8,8,8,8,8,8,8,8,8,8,8,8,8,8,8,8,8,8,8,8,8,8,8,8,8,8,8,8,8,8,8,8,8,8,8,8,8,8,8,8,8,8,8,8,8,8,8,8,8,8,8,8,8,8,8,8,8,8,8,8,8,8,8,8,8,8,8,8,8,8,8,8,8]
def tb (x:Nat):Nat:=(EM.getD x 0).toNat
theorem AE:∀x:Fin 256,x.val≠0→1≤tb x.val∧tb x.val≤8∧2^tb x.val≤2*x.val∧x.val<2^tb x.val:=by decide +kernel
def ja (x:Nat):Nat:=if 256≤x then 8+tb (x/256) else tb x
theorem rm {x:Nat} (h0:x≠0) (h:x<65536):1≤ja x∧ja x≤16∧2^ja x≤2*x∧x<2^ja x:=by
 rw[ja]
 split
 ·have:=AE ⟨x/256,by omega⟩ (by show x/256≠0;omega)
  simp only at this
  obtain⟨h1,h2,h3,h4⟩:=this
  rw[Nat.pow_add,show 2^8=256 by decide]
  generalize 2^tb (x/256)=p at *
  generalize tb (x/256)=t at *
  omega
 ·have:=AE ⟨x,by omega⟩ h0
  simp only at this
  obtain⟨h1,h2,h3,h4⟩:=this
  exact⟨h1,by omega,h3,h4⟩
theorem CK {x:Nat} (h:x<256):tb x≤8:=by
 by_cases h0:x=0
 ·subst h0;decide
 ·exact(AE ⟨x,h⟩ h0).2.1
set_option maxRecDepth 20000 in
theorem wj (x:UInt16):Ret Tryz.prog .shared 230 [.int .u16 x.toNat] (I (ja x.toNat)):=by
 have hxl:=aR x
 rw[ja]
 by_cases hx:256≤x.toNat
 ·rw[if_pos hx]
  have ew:IntKind.u8.wrap ((x.toNat:Int)/2^(8:Int).toNat)=((x.toNat/256:Nat):Int):=by
   rw[show((2:Int)^(8:Int).toNat)=256 by decide,IntKind.wrap_u8];omega
  have hb:=CK (x:=x.toNat/256) (by omega)
  refine Ret.of_pwp layOk mixed Go.Proofs.Tryz.func230 rfl (by decide) rfl rfl ?_
  repeat refine aa rfl ?_
  refine ab rfl ?_ ?_<;>intro h
  ·repeat refine aa rfl ?_
   rw[ew]
   refine ia (pv := .int .u8 ((tb (x.toNat/256):Nat):Int)) rfl (show(0:Int)≤((x.toNat/256:Nat):Int)∧((x.toNat/256:Nat):Int)<((256:Nat):Int) by omega) ?_
   generalize tb (x.toNat/256)=t at *
   repeat refine aa rfl ?_
   rw[wrap_i64 (n:=(t:Int)) (by omega) (by omega),wrap_i64 (by omega) (by omega),show(8:Int)+(t:Int)=((8+t:Nat):Int) by omega]
   repeat refine aa rfl ?_
   exact aO rfl rfl rfl
  ·have:=of_decide_eq_false h;omega
 ·rw[if_neg hx]
  have ew:IntKind.u8.wrap (x.toNat:Int)=(x.toNat:Int):=by rw[IntKind.wrap_u8];omega
  have hb:=CK (x:=x.toNat) (by omega)
  refine Ret.of_pwp layOk mixed Go.Proofs.Tryz.func230 rfl (by decide) rfl rfl ?_
  repeat refine aa rfl ?_
  refine ab rfl ?_ ?_<;>intro h
  ·have:=of_decide_eq_true h;omega
  ·repeat refine aa rfl ?_
   rw[ew]
   refine ia (pv := .int .u8 ((tb x.toNat:Nat):Int)) rfl (show(0:Int)≤(x.toNat:Int)∧(x.toNat:Int)<((256:Nat):Int) by omega) ?_
   generalize tb x.toNat=t at *
   repeat refine aa rfl ?_
   rw[wrap_i64 (n:=(t:Int)) (by omega) (by omega),wrap_i64 (by omega) (by omega),show(0:Int)+(t:Int)=(t:Int) by omega]
   repeat refine aa rfl ?_
   exact aO rfl rfl rfl
theorem y5 (x:UInt16) (h0:x.toNat≠0):Ret Tryz.prog .shared 211 [.int .u16 x.toNat] (I ((16-ja x.toNat:Nat):Int)):=by
 have hl:=rm h0 (aR x)
 have hr:=wj x
 generalize ja x.toNat=t at *
 refine Ret.of_pwp layOk mixed Go.Proofs.Tryz.func211 rfl (by decide) rfl rfl ?_
 repeat refine aa rfl ?_
 refine aP rfl rfl rfl hr rfl rfl rfl ?_
 repeat refine aa rfl ?_
 rw[wrap_i64 (by omega) (by omega),show(16:Int)-(t:Int)=((16-t:Nat):Int) by omega]
 exact aO rfl rfl rfl
def uw (R:List UInt16) (j m:Nat):Nat:=nv ((R.drop j).take m)
def ul (R:List UInt16) (i:Nat):Nat:=(R.getD i 0).toNat
theorem cN (R:List UInt16) (i:Nat):ul R i<65536:=aR _
theorem kw {R:List UInt16} {i:Nat} (h:i<R.length):R[i]? = some (R.getD i 0):=bW h
theorem u_ (R:List UInt16) (j:Nat):uw R j 0=0:=by rw[uw,List.take_zero];rfl
theorem cU {R:List UInt16} {j m:Nat} (h:j+m<R.length):uw R j (m+1)=uw R j m+65536^m*ul R (j+m):=by
 have h1:(R.drop j)[m]? = some (R.getD (j+m) 0):=by rw[List.getElem?_drop];exact bW h
 rw[uw,cG h1];rfl
theorem o9 (R:List UInt16) (j m:Nat):uw R j m<65536^m:=d6 _ _
theorem iI {R:List UInt16} {i:Nat} {y:UInt16} (h:i<R.length):ul (R.set i y) i=y.toNat:=by
 rw[ul,List.getD_eq_getElem?_getD,List.getElem?_set_self h];rfl
theorem k9 {R:List UInt16} {i k:Nat} {y:UInt16} (h:i≠k):ul (R.set i y) k=ul R k:=by
 rw[ul,ul,List.getD_eq_getElem?_getD,List.getD_eq_getElem?_getD,List.getElem?_set_ne h]
theorem k_ {R:List UInt16} {j m i:Nat} {y:UInt16} (h:j+m≤i):uw (R.set i y) j m=uw R j m:=by
 rw[uw,uw]
 congr 1
 apply List.ext_getElem?;intro k
 rw[List.getElem?_take,List.getElem?_take]
 split
 ·rw[List.getElem?_drop,List.getElem?_drop,List.getElem?_set_ne (by omega)]
 ·rfl
theorem Eo {R:List UInt16} {j n:Nat} (h:j+(n+2)≤R.length):uw R j (n+2)=uw R j n+65536^n*(ul R (j+n)+65536*ul R (j+(n+1))):=by
 rw[show n+2=n+1+1 by omega,cU (by omega),cU (by omega),Nat.pow_succ,Nat.mul_add,Nat.mul_assoc]
 omega
theorem EN {R:List UInt16} {j n:Nat} (h:j+(n+3)≤R.length):uw R j (n+3)=uw R j n+65536^n*(ul R (j+n)+65536*(ul R (j+(n+1))+65536*ul R (j+(n+2)))):=by
 rw[show n+3=n+2+1 by omega,cU (by omega),Eo (by omega),Nat.pow_succ,Nat.pow_succ]
 have:65536^n*(ul R (j+n)+65536*(ul R (j+(n+1))+65536*ul R (j+(n+2))))=65536^n*(ul R (j+n)+65536*ul R (j+(n+1)))+65536^n*65536*65536*ul R (j+(n+2)):=by
  rw[Nat.mul_assoc,Nat.mul_assoc,←Nat.mul_add]
  congr 1;omega
 rw[this];omega
structure Est (U V top u2 v1 v2 W:Nat):Prop where
 u0:(top*65536+u2)*W≤U
 u1:U<(top*65536+u2+1)*W
 v0:(v1*65536+v2)*W≤V
 v3:V<(v1*65536+v2+1)*W
 hv:32768≤v1
 v1l:v1<65536
 v2l:v2<65536
 u2l:u2<65536
 top:top<4294967296
 lt:U<65536*V
theorem Db {R V:List UInt16} {j n:Nat} (hR:j+(n+3)≤R.length) (hV:V.length=n+2) (ht:32768≤ul V (n+1)) (hlt:uw R j (n+3)<65536*nv V) :
  Est (uw R j (n+3)) (nv V) (ul R (j+(n+2))*65536+ul R (j+(n+1))) (ul R (j+n)) (ul V (n+1)) (ul V n) (65536^n):=by
 have e1:=EN hR
 have e2:nv V=uw V 0 (n+2):=by rw[uw,List.drop_zero,List.take_of_length_le (by omega)]
 rw[e2]at hlt ⊢
 have e3:=Eo (R:=V) (j:=0) (n:=n) (by omega)
 simp only[Nat.zero_add]at e3
 have l1:=o9 R j n
 have l2:=o9 V 0 n
 have a1:=cN R (j+n)
 have a2:=cN R (j+(n+1))
 have a3:=cN R (j+(n+2))
 have b1:=cN V n
 have b2:=cN V (n+1)
 generalize 65536^n=W at *
 generalize ul R (j+n)=x0 at *
 generalize ul R (j+(n+1))=x1 at *
 generalize ul R (j+(n+2))=x2 at *
 generalize ul V n=y0 at *
 generalize ul V (n+1)=y1 at *
 have c1:W*(x0+65536*(x1+65536*x2))=((x2*65536+x1)*65536+x0)*W:=by rw[Nat.mul_comm W];congr 1;omega
 have c2:W*(y0+65536*y1)=(y1*65536+y0)*W:=by rw[Nat.mul_comm W];congr 1;omega
 rw[c1]at e1
 rw[c2]at e3
 refine⟨by omega,?_,by omega,?_,ht,b2,b1,a1,by omega,hlt⟩
 ·rw[Nat.add_mul (_*65536+x0),Nat.one_mul];omega
 ·rw[Nat.add_mul (_*65536+y0),Nat.one_mul];omega
structure Gs (U V top v1:Nat) (k:Nat × Nat):Prop where
 e:k.1*v1+k.2=top
 q:U/V≤k.1
 r:k.2<131072
 l:k.1≤top
section
variable {U V top u2 v1 v2 W:Nat}
theorem Est.V0 (h:Est U V top u2 v1 v2 W):0<V:=by
 have:=h.lt
 rcases Nat.eq_zero_or_pos V with h0|h0
 ·subst h0;omega
 ·exact h0
theorem Est.W0 (h:Est U V top u2 v1 v2 W):0<W:=by
 rcases Nat.eq_zero_or_pos W with h0|h0
 ·subst h0
  have:=h.v3
  rw[Nat.mul_zero]at this;omega
 ·exact h0
theorem Est.start (h:Est U V top u2 v1 v2 W):Gs U V top v1 (top/v1,top%v1):=by
 have hv:=h.hv
 have hvl:=h.v1l
 have h1:=h.u1
 have h2:=h.v0
 have e1:v1*(65536*W)≤V:=by
  have:v1*(65536*W)=v1*65536*W:=by rw[Nat.mul_assoc]
  rw[this]
  refine Nat.le_trans (Nat.mul_le_mul_right W ?_) h2
  omega
 have e2:U<(top+1)*(65536*W):=by
  have h3:=h.u2l
  have:(top+1)*(65536*W)=(top+1)*65536*W:=by rw[Nat.mul_assoc]
  rw[this]
  refine Nat.lt_of_lt_of_le h1 (Nat.mul_le_mul_right W ?_)
  omega
 refine⟨by simp only;rw[Nat.mul_comm];exact Nat.div_add_mod _ _,vL e1 e2 (by omega),?_,Nat.div_le_self _ _⟩
 have:=Nat.mod_lt top (show v1>0 by omega)
 simp only;omega
theorem Est.quo (h:Est U V top u2 v1 v2 W):U/V<65536:=by
 have:=h.lt
 exact Nat.div_lt_of_lt_mul (by rw[Nat.mul_comm];exact this)
theorem Gs.less (h:Est U V top u2 v1 v2 W) {q r:Nat} (g:Gs U V top v1 (q,r)) (hr:r<65536) (hc:65535<q∨r*65536+u2<q*v2):1≤q∧Gs U V top v1 (q-1,r+v1):=by
 obtain⟨g1,g2,g3,g4⟩:=g
 simp only at g1 g2 g3 g4
 have hq:1≤q:=by
  rcases Nat.eq_zero_or_pos q with h0|h0
  ·subst h0;rcases hc with hc|hc
   ·omega
   ·rw[Nat.zero_mul]at hc;omega
  ·exact h0
 have hv:=h.v1l
 refine⟨hq,?_,?_,by simp only;omega,by simp only;omega⟩
 ·simp only
  obtain⟨p,rfl⟩:∃p,q=p+1:=⟨q-1,by omega⟩
  rw[Nat.add_mul]at g1
  rw[Nat.add_sub_cancel];omega
 ·simp only
  rcases hc with hc|hc
  ·have:=h.quo;omega
  ·exact yt g1 h.v0 h.u1 hc
theorem Gs.near (h:Est U V top u2 v1 v2 W) {q r:Nat} (g:Gs U V top v1 (q,r)) (hc:65536≤r∨(q≤65535∧q*v2≤r*65536+u2)):q≤65535∧U/V≤q∧q*V<U+V:=by
 obtain⟨g1,g2,g3,g4⟩:=g
 simp only at g1 g2 g3 g4
 have hq:q≤65535:=by
  rcases hc with hc|hc
  ·rcases Nat.lt_or_ge 65535 q with h1|h1
   ·exfalso
    have e1:=Nat.mul_le_mul_right v1 (show 65536≤q by omega)
    have e2:65536*(v1+1)≤top:=by omega
    have e3:=h.u0
    have e4:=h.v3
    have e5:=h.lt
    have e6:=h.v2l
    have e7:V<(v1+1)*65536*W:=Nat.lt_of_lt_of_le e4 (Nat.mul_le_mul_right W (by omega))
    have e8:top*65536*W≤U:=Nat.le_trans (Nat.mul_le_mul_right W (by omega)) e3
    have e9:65536*(v1+1)*65536*W≤top*65536*W:=Nat.mul_le_mul_right W (Nat.mul_le_mul_right 65536 e2)
    have e10:65536*((v1+1)*65536*W)=65536*(v1+1)*65536*W:=by simp only[Nat.mul_assoc]
    omega
   ·exact h1
  ·exact hc.1
 refine⟨hq,g2,yu g1 h.v0 h.v3 h.u0 h.hv h.v2l hq (hc.imp id And.right)⟩
end
structure Sub (R V:List UInt16) (j n q:Nat) (k:Nat × List UInt16 × Nat × Int):Prop where
 i:k.1≤n+1
 l:k.2.1.length=R.length
 c:k.2.2.1<65536
 b:k.2.2.2=0∨k.2.2.2 = -1
 o:∀t,t<j∨j+k.1≤t→ul k.2.1 t=ul R t
 v:(uw k.2.1 j k.1:Int)=uw R j k.1-q*uw V 0 (min k.1 n)+65536^k.1*((k.2.2.1:Int)-k.2.2.2)
 z:k.1=n+1→k.2.2.1=0
theorem gM (n:Nat):((65536^n:Nat):Int)=(65536:Int)^n:=by rw[Int.natCast_pow];rfl
def Ef (d:Int):UInt16:=UInt16.ofNat (d%65536).toNat
theorem uG (d:Int):((Ef d).toNat:Int)=d%65536:=by rw[Ef,aN];omega
theorem xz {R V:List UInt16} {j n q:Nat}:Sub R V j n q (0,R,0,0):=⟨Nat.zero_le _,rfl,Nat.zero_lt_succ _,.inl rfl,fun _ _=>rfl,by simp[u_],fun h=>by simp at h⟩
theorem AA {R V:List UInt16} {j n q i:Nat} {Q:List UInt16} {c:Nat} {b:Int} (h:Sub R V j n q (i,Q,c,b)) (hi:i≤n) (hq:q≤65535) (hR:j+(n+1)≤R.length) (hV:n≤V.length) {x:Nat} (hx:x=c+(if i<n then q*ul V i else 0)) {d:Int} (hd:d=(ul R (j+i):Int)-(x%65536:Nat)+b) :
  Sub R V j n q (i+1,Q.set (j+i) (Ef d),x/65536,d/65536)∧x<4294967296 ∧ -65536≤d∧d≤65535:=by
 obtain⟨h1,h2,h3,h4,h5,h6,h7⟩:=h
 simp only at h1 h2 h3 h4 h5 h6 h7
 have hr:=cN R (j+i)
 have hxb:x<4294901761:=by
  rw[hx]
  split
  ·have:=Nat.mul_le_mul hq (show ul V i≤65535 by have:=cN V i;omega)
   omega
  ·omega
 have hm:=Nat.mod_lt x (show 65536>0 by decide)
 refine⟨⟨by simp only;omega,by simp[h2],by simp only;omega,?_,fun t ht=>?_,?_,fun hz=>?_⟩,by omega,by omega,by omega⟩
 ·simp only
  rcases h4 with h4|h4<;>omega
 ·simp only at ht ⊢
  rw[k9 (by omega)]
  exact h5 t (by omega)
 ·simp only
  rw[cU (by simp;omega),k_ (by omega),iI (by omega),cU (R:=R) (by omega),Int.natCast_add,Int.natCast_mul,uG,h6,gM,Int.natCast_add,Int.natCast_mul,gM,Int.pow_succ]
  have e1:=Int.emod_add_mul_ediv d 65536
  have e2:((x%65536:Nat):Int)+65536*((x/65536:Nat):Int)=x:=by omega
  rw[hd]at e1
  have e3:(uw V 0 (min (i+1) n):Int)*q=uw V 0 (min i n)*q+65536^i*((x:Int)-c):=by
   rw[hx]
   split
   ·rename_i hlt
    rw[Nat.min_eq_left (by omega),Nat.min_eq_left (by omega),cU (by omega),Nat.zero_add,Int.natCast_add,Int.natCast_mul,gM,Int.natCast_add,Int.natCast_mul]
    grind
   ·rw[Nat.min_eq_right (by omega),Nat.min_eq_right (by omega)]
    grind
  rw[←hd]at e1
  generalize (65536:Int)^i=W at *
  generalize ((x%65536:Nat):Int)=xm at *
  generalize ((x/65536:Nat):Int)=xd at *
  generalize d%65536=dm at *
  generalize d/65536=dd at *
  grind
 ·simp only at hz ⊢
  rw[hx,if_neg (by omega)];omega
structure Adb (R V:List UInt16) (j n:Nat) (k:Nat × List UInt16 × Nat):Prop where
 i:k.1≤n
 l:k.2.1.length=R.length
 c:k.2.2≤1
 o:∀t,t<j∨j+k.1≤t→ul k.2.1 t=ul R t
 v:uw k.2.1 j k.1+65536^k.1*k.2.2=uw R j k.1+uw V 0 k.1
theorem vo {R V:List UInt16} {j n:Nat}:Adb R V j n (0,R,0):=⟨Nat.zero_le _,rfl,Nat.zero_le _,fun _ _=>rfl,by simp[u_]⟩
theorem xW {R V:List UInt16} {j n i:Nat} {Q:List UInt16} {c:Nat} (h:Adb R V j n (i,Q,c)) (hi:i<n) (hR:j+(n+1)≤R.length) (hV:n≤V.length) {x:Nat} (hx:x=c+(ul R (j+i)+ul V i)) :
  Adb R V j n (i+1,Q.set (j+i) (UInt16.ofNat x),x/65536):=by
 obtain⟨h1,h2,h3,h4,h5⟩:=h
 simp only at h1 h2 h3 h4 h5
 have a1:=cN R (j+i)
 have a2:=cN V i
 refine⟨by simp only;omega,by simp[h2],by simp only;omega,fun t ht=>?_,?_⟩
 ·simp only at ht ⊢
  rw[k9 (by omega)]
  exact h4 t (by omega)
 ·simp only
  rw[cU (by simp;omega),k_ (by omega),iI (by omega),cU (R:=R) (by omega),cU (R:=V) (by omega),aN,Nat.pow_succ,Nat.zero_add]
  have e:=Nat.mod_add_div x 65536
  have e2:65536^i*(x%65536)+65536^i*65536*(x/65536)=65536^i*(c+(ul R (j+i)+ul V i)):=by rw[Nat.mul_assoc,←Nat.mul_add,e,hx]
  simp only[Nat.mul_add]at e2
  omega
structure Digd (R V:List UInt16) (j n:Nat) (R':List UInt16):Prop where
 l:R'.length=R.length
 o:∀t,t<j∨j+(n+1)≤t→ul R' t=ul R t
 v:uw R' j (n+1)=uw R j (n+1)%nv V
theorem nP {V:List UInt16} {n m:Nat} (h:V.length=n) (hm:n≤m):uw V 0 m=nv V:=by rw[uw,List.drop_zero,List.take_of_length_le (by omega)]
theorem Bg {R V:List UInt16} {j n q c:Nat} {Q:List UInt16} (hVl:V.length=n) (hV0:0<nv V) (h:Sub R V j n q (n+1,Q,c,0)) (hq1:uw R j (n+1)/nv V≤q):q=uw R j (n+1)/nv V∧Digd R V j n Q:=by
 have hc:=h.z rfl
 simp only at hc
 subst hc
 have h6:=h.v
 simp only at h6
 rw[nP hVl (by omega)]at h6
 have h8:uw Q j (n+1)+q*nv V=uw R j (n+1):=by
  have:((uw Q j (n+1):Nat):Int)+((q*nv V:Nat):Int)=(uw R j (n+1):Nat):=by rw[h6,Int.natCast_mul];simp
  omega
 have h9:q≤uw R j (n+1)/nv V:=(Nat.le_div_iff_mul_le hV0).2 (by omega)
 have hqe:q=uw R j (n+1)/nv V:=by omega
 refine⟨hqe,h.l,h.o,?_⟩
 have e:=Nat.div_add_mod (uw R j (n+1)) (nv V)
 rw[←hqe,Nat.mul_comm]at e
 omega
theorem yw {R V:List UInt16} {j n q c c2:Nat} {Q Q2:List UInt16} (hVl:V.length=n) (hV0:0<nv V) (hR:j+(n+1)≤R.length) (h:Sub R V j n q (n+1,Q,c,-1)) (hq1:uw R j (n+1)/nv V≤q) (hq2:q*nv V<uw R j (n+1)+nv V) (h2:Adb Q V j n (n,Q2,c2)) :
  1≤q∧q-1=uw R j (n+1)/nv V∧Digd R V j n (Q2.set (j+n) (UInt16.ofNat (ul Q2 (j+n)+c2))):=by
 have hc:=h.z rfl
 simp only at hc
 subst hc
 have h6:=h.v
 simp only at h6
 rw[nP hVl (by omega),←gM]at h6
 have hQl:=o9 Q j (n+1)
 have h8:uw Q j (n+1)+q*nv V=uw R j (n+1)+65536^(n+1):=by
  have:((uw Q j (n+1):Nat):Int)+((q*nv V:Nat):Int)=(uw R j (n+1):Nat)+((65536^(n+1):Nat):Int):=by rw[h6,Int.natCast_mul];grind
  omega
 have hq:1≤q:=by
  rcases Nat.eq_zero_or_pos q with h0|h0
  ·subst h0;rw[Nat.zero_mul]at h8;omega
  ·exact h0
 obtain⟨p,rfl⟩:∃p,q=p+1:=⟨q-1,by omega⟩
 rw[Nat.add_mul,Nat.one_mul]at h8 hq2
 have hpd:p=uw R j (n+1)/nv V:=by
  have a1:p≤uw R j (n+1)/nv V:=(Nat.le_div_iff_mul_le hV0).2 (by omega)
  have a2:uw R j (n+1)/nv V<p+1:=(Nat.div_lt_iff_lt_mul hV0).2 (by rw[Nat.add_mul,Nat.one_mul];omega)
  omega
 refine⟨hq,by omega,by simp[h2.l,h.l],fun t ht=>?_,?_⟩
 ·rw[k9 (by omega),h2.o t (by simp only;omega),h.o t (by simp only;omega)]
 ·have h2l:=h2.l
  have hl:=h.l
  have h5:=h2.v
  have hc2:=h2.c
  have ho:=h2.o (j+n) (.inr (Nat.le_refl _))
  simp only at h2l hl h5 hc2 ho
  rw[cU (by simp;omega),k_ (by omega),iI (by omega),aN,ho]
  rw[nP hVl (Nat.le_refl _)]at h5
  have e1:=cU (R:=Q) (j:=j) (m:=n) (by omega)
  have hmod:uw R j (n+1)%nv V=uw R j (n+1)-p*nv V:=by
   have e:=Nat.div_add_mod (uw R j (n+1)) (nv V)
   rw[←hpd,Nat.mul_comm]at e
   omega
  rw[hmod]
  have hle:p*nv V≤uw R j (n+1):=by rw[hpd];exact Nat.div_mul_le_self _ _
  have hml:=Nat.mod_lt (uw R j (n+1)) hV0
  rw[hmod]at hml
  have hVlt:nv V<65536^n:=by rw[←hVl];exact bQ V
  have hQ2:=o9 Q2 j n
  have hur:=cN Q (j+n)
  rw[Nat.pow_succ]at h8
  generalize 65536^n=W at *
  generalize ul Q (j+n)=x at *
  have key:uw Q2 j n+W*(x+c2)=uw R j (n+1)-p*nv V+W*65536:=by rw[Nat.mul_add];omega
  have hx:65536≤x+c2:=by
   rcases Nat.lt_or_ge (x+c2) 65536 with hlt|hge
   ·exfalso
    have:=Nat.mul_le_mul_left W (show x+c2+1≤65536 by omega)
    rw[Nat.mul_add]at this
    omega
   ·exact hge
  have hx2:x+c2=65536:=by omega
  rw[hx2]at key ⊢
  rw[show 65536%65536=0 from rfl,Nat.mul_zero]
  omega
theorem mN {L:Lay} {fn:Func} {K:(Nat→Nat × Option Cont)→PV→Prop} {s:St} {t:Nat} {v:PV} {e:Exit} (owns:List (Nat × Nat × Cont)) (he:e = .ret∨e = .normal) (h:fn.results.toList=[.tmp t]) (h1:s.reg t=v) (ho:FitO s owns)
  (hk:∀s1:St,K (s1.over [] owns).own v):ai L fn (fun s' r=>K s'.own r) e s:=by
 have hk:=hk s
 rw[Fit.over (l:=[]) ho]at hk
 rcases he with rfl|rfl <;>
 ·unfold ai
  refine⟨[s.reg t],True∧True,by rw[h];rfl,⟨trivial,trivial⟩,?_⟩
  rw[h1];exact hk
theorem Cp (x:Nat) (hx:x<18446744073709551616):bits .and .u64 (x:Int) 65535=((x-x/65536*65536:Nat):Int):=by
 have:=(bits_nat .u64 64 (by decide) wraps_u64 x 65535 (by omega) (by decide)).1
 rw[show((65535:Nat):Int)=65535 by rfl]at this
 rw[this,show(65535:Nat)=2^16-1 by decide,Nat.and_two_pow_sub_one_eq_mod]
 omega
theorem ld {n:Nat} (h:n<18446744073709551616):IntKind.u64.wrap (n:Int)=(n:Int):=wrap_u64 (Int.natCast_nonneg n) (by omega)
theorem jV {R:List UInt16} {i:Nat} (h:i<R.length):(R.map eU)[i]? = some [PV.int .u16 ((ul R i:Nat):Int)]:=by
 rw[List.getElem?_map,kw h];rfl
theorem mD {R:List UInt16} {i:Nat} (h:i<R.length):(R.map eU)[((i:Nat):Int).toNat]? = some [PV.int .u16 ((ul R i:Nat):Int)]:=by
 rw[Int.toNat_natCast];exact jV h
theorem iZ (R:List UInt16) (i:Nat):IntKind.u64.wrap ((ul R i:Nat):Int)=((ul R i:Nat):Int):=wrap_u64 (by omega) (by have:=cN R i;omega)
theorem me (R:List UInt16) (i:Nat):IntKind.u32.wrap ((ul R i:Nat):Int)=((ul R i:Nat):Int):=wrap_u32 (by omega) (by have:=cN R i;omega)
theorem Cf (R:List UInt16) (i:Nat):IntKind.i64.wrap ((ul R i:Nat):Int)=((ul R i:Nat):Int):=wrap_i64 (by omega) (by have:=cN R i;omega)
def Ct (g gq:Nat) (Q Qr:List UInt16):List (Nat × Nat × Cont):=[(44,g,⟨177,1,Q.map eU,0⟩),(57,gq,⟨177,1,Qr.map eU,0⟩)]
set_option maxRecDepth 40000 in
set_option maxHeartbeats 4000000 in
theorem yx {K:St→Prop} {s:St} {d g gq:Nat} {x y:Operand} {tys:Array TypeId} {ty:TypeId} {pos:String} {af:Array Edge} {R V Qr:List UInt16} {j n:Nat}
  (hV:V.length=n+2) (hR:j+(n+3)≤R.length) (hRl:R.length≤200000000) (ht:32768≤ul V (n+1)) (hlt:uw R j (n+3)<65536*nv V)
  (hx:s.ev x = .als 44 g j (n+3)) (hy:s.ev y = .fsl (V.map eU)) (ho:FitO s [(44,g,⟨177,1,R.map eU,0⟩),(57,gq,⟨177,1,Qr.map eU,0⟩)])
  (hK:∀(s1:St) (R':List UInt16),Digd R V j (n+2) R'→K (({ reg:=s.reg,own:=(s1.over [] [(44,g,⟨177,1,R'.map eU,0⟩),(57,gq,⟨177,1,Qr.map eU,0⟩)]).own }:St).putR d (.int .u16 ((uw R j (n+3)/nv V:Nat):Int)))) :
  Sm Tryz.prog lay.get s ⟨some d,.call ⟨.value (.func 213),#[x,y],tys⟩,ty,pos,af,none⟩ K:=by
 have hE:=Db hR hV ht hlt
 have hVml:(V.map eU).length=n+2:=by rw[List.length_map,hV]
 have r0:=jV (R:=R) (i:=j+n) (by omega)
 have r1:=jV (R:=R) (i:=j+(n+1)) (by omega)
 have r2:=jV (R:=R) (i:=j+(n+2)) (by omega)
 have v0:=mD (R:=V) (i:=n) (by omega)
 have v1:=mD (R:=V) (i:=n+1) (by omega)
 have w2:=iZ R (j+(n+2))
 have w1:=iZ R (j+(n+1))
 have w0:=iZ R (j+n)
 have y1:=iZ V (n+1)
 have y0:=iZ V n
 have hfin:∀(s1:St) (R':List UInt16) (q:Nat),q=uw R j (n+3)/nv V→Digd R V j (n+2) R'→∀(e:Exit) (st:St),(e = .ret∨e = .normal)→st.reg 4 = .int .u16 (q:Int)→FitO st [(44,g,⟨177,1,R'.map eU,0⟩),(57,gq,⟨177,1,Qr.map eU,0⟩)] →
   ai lay.get Tryz.f213 (fun s' r=>K (({ reg:=s.reg,own:=s'.own }:St).put (some d) r)) e st:=by
  intro _ R' q hq hd e st he h1 h3
  subst hq
  exact mN (K:=fun o r=>K (({ reg:=s.reg,own:=o }:St).put (some d) r)) _ he rfl h1 h3 fun s2=>hK s2 R' hd
 clear hK
 refine cp layOk rfl rfl Tryz.func213 rfl (by decide) rfl rfl ?_
 show PWP _ _ _ _ (bC s (([x,y]:List Operand).map s.ev++[]))
 rw[show(([x,y]:List Operand).map s.ev++([]:List PV))=[.als 44 g j (n+3),.fsl (V.map eU)] by simp[hx,hy]]
 rw[show bC s [.als 44 g j (n+3),.fsl (V.map eU)]=bC (s.over [] [(44,g,⟨177,1,R.map eU,0⟩),(57,gq,⟨177,1,Qr.map eU,0⟩)]) [.als 44 g j (n+3),.fsl (V.map eU)] by rw[Fit.over (l:=[]) ho]]
 generalize hfinK:ai lay.get Tryz.f213 (fun s' r=>K (({ reg:=s.reg,own:=s'.own }:St).put (some d) r))=FIN at *
 have c1:IntKind.i64.wrap (((n+2:Nat):Int)-1)=((n+1:Nat):Int):=by rw[wrap_i64 (by omega) (by omega)];omega
 have c2:IntKind.i64.wrap (((n+2:Nat):Int)-2)=((n:Nat):Int):=by rw[wrap_i64 (by omega) (by omega)];omega
 have a1:=cN R (j+(n+1))
 have a2:=cN R (j+(n+2))
 have hor1:=Di (x:=ul R (j+(n+2))) (y:=ul R (j+(n+1))) (by omega) a1
 have hst:=hE.start
 have hv1l:=hE.v1l
 have hv1h:=hE.hv
 have hv2l:=hE.v2l
 have hu2l:=hE.u2l
 have htop:=hE.top
 generalize hTop:ul R (j+(n+2))*65536+ul R (j+(n+1))=top at *
 generalize hV1:ul V (n+1)=vt at *
 repeat refine aa rfl ?_
 rw[hVml]
 refine ah 14 [18,19,20,21,22,23,24,25,26,27,28,29,30,6] (by decide +kernel) ?_
 repeat refine aa rfl ?_
 refine sF rfl rfl rfl rfl rfl rfl rfl rfl rfl ?_
 rw[Int.toNat_natCast]
 refine bH rfl rfl (cW rfl rfl rfl r2 rfl) ?_
 repeat refine aa rfl ?_
 rw[w2]
 repeat refine aa rfl ?_
 rw[Ag (by omega)]
 repeat refine aa rfl ?_
 rw[c1]
 refine sF rfl rfl rfl rfl rfl rfl rfl rfl rfl ?_
 rw[Int.toNat_natCast]
 refine bH rfl rfl (cW rfl rfl rfl r1 rfl) ?_
 repeat refine aa rfl ?_
 rw[w1]
 repeat refine aa rfl ?_
 rw[hor1]
 repeat refine aa rfl ?_
 refine ah 18 [31,32,33,34,35,36,37,38,39,40,41,42,43,44,45,46,7,8] (by decide +kernel) ?_
 repeat refine aa rfl ?_
 rw[c1]
 refine bH rfl rfl (jB rfl rfl rfl rfl rfl (by omega) v1 rfl) ?_
 repeat refine aa rfl ?_
 rw[y1]
 refine bH rfl rfl (QOp.v rfl (show ¬((vt:Nat):Int)=0 by omega)) ?_
 rw[ss]
 have hdq:=Nat.div_le_self top vt
 rw[ld (Nat.lt_of_le_of_lt hdq (by omega))]
 repeat refine aa rfl ?_
 rw[c1]
 refine bH rfl rfl (jB rfl rfl rfl rfl rfl (by omega) v1 rfl) ?_
 repeat refine aa rfl ?_
 rw[y1]
 refine bH rfl rfl (QOp.v rfl (show ¬((vt:Nat):Int)=0 by omega)) ?_
 rw[kt]
 repeat refine aa rfl ?_
 have e84:IntKind.i64.wrap (((n+2:Nat):Int)+1)=((n+3:Nat):Int):=by rw[wrap_i64 (by omega) (by omega)];omega
 refine nl (fun q:Nat=>q≤65535∧uw R j (n+3)/nv V≤q∧q*nv V<uw R j (n+3)+nv V) (fun q=>[(0,.als 44 g j (n+3)),(1,.fsl (V.map eU)),(5,I ((n+2:Nat):Int)),(7,.int .u64 (q:Nat))]) (fun _=>Ct g gq R Qr) ?_ ?_
 ·refine am (Gs (uw R j (n+3)) (nv V) top vt) (fun q=>[(0,.als 44 g j (n+3)),(1,.fsl (V.map eU)),(5,I ((n+2:Nat):Int)),(7,.int .u64 (q.1:Nat)),(8,.int .u64 (q.2:Nat))])
   (fun _=>Ct g gq R Qr) (fun q=>q.1) _ hst ⟨rfl,rfl,rfl,rfl,rfl,rfl,rfl,trivial⟩ ?_
  rintro⟨q,rest⟩ s1 hG
  have hrb:=hG.r
  have hqt:=hG.l
  simp only at hrb hqt
  dsimp only
  have hqb:q≤4294967295:=by omega
  repeat refine aa rfl ?_
  refine ah 26 [47,48,49,50,51,52,53,54,55,56,57,58,59,60,61,62,63,64,65,66,67,68,69,70,71,72] (by decide +kernel) ?_
  iterate 2 refine aa rfl ?_
  generalize hB:decide ((rest:Int)<65536)=B
  repeat refine aa rfl ?_
  refine dr rfl rfl rfl ?_ ?_<;>intro h
  ·rw[h]at hB
   have hr1:rest<65536:=by have:=of_decide_eq_true hB;omega
   clear h hB
   have hsh:=Ag (x:=rest) (by omega)
   have hor2:=Di (x:=rest) (y:=ul R (j+n)) (by omega) hu2l
   iterate 2 refine aa rfl ?_
   generalize hB:decide ((65535:Int)<(q:Int))=B2
   repeat refine aa rfl ?_
   refine dr rfl rfl rfl ?_ ?_<;>intro h
   ·rw[h]at hB
    have hq1:65535<q:=by have:=of_decide_eq_true hB;omega
    clear h hB
    obtain⟨hq0,hst2⟩:=hG.less hE hr1 (.inl hq1)
    repeat refine aa rfl ?_
    rw[c1]
    refine bH rfl rfl (jB rfl rfl rfl rfl rfl (by omega) v1 rfl) ?_
    repeat refine aa rfl ?_
    rw[y1]
    repeat refine aa rfl ?_
    refine⟨(q-1,rest+vt),hst2,by simp only;omega,rfl,rfl,rfl,?_,?_,rfl,rfl,trivial⟩
    ·show PV.int .u64 (IntKind.u64.wrap ((q:Int)-1))=PV.int .u64 ((q-1:Nat):Int)
     rw[wrap_u64 (by omega) (by omega)];congr 1;omega
    ·show PV.int .u64 (IntKind.u64.wrap ((rest:Int)+(vt:Int)))=PV.int .u64 ((rest+vt:Nat):Int)
     rw[wrap_u64 (by omega) (by omega)];congr 1
   ·rw[h]at hB
    have hq1:q≤65535:=by have:=of_decide_eq_false hB;omega
    clear h hB
    have hmb:=Nat.mul_le_mul hq1 (show ul V n≤65535 by omega)
    have hmi:(q:Int)*((ul V n:Nat):Int)=((q*ul V n:Nat):Int):=by rw[Int.natCast_mul]
    have hmw:IntKind.u64.wrap ((q*ul V n:Nat):Int)=((q*ul V n:Nat):Int):=ld (by omega)
    repeat refine aa rfl ?_
    rw[c2]
    refine bH rfl rfl (jB rfl rfl rfl rfl rfl (by omega) v0 rfl) ?_
    repeat refine aa rfl ?_
    rw[y0,hmi,hmw]
    repeat refine aa rfl ?_
    rw[hsh]
    repeat refine aa rfl ?_
    rw[c2]
    refine sF rfl rfl rfl rfl rfl rfl rfl rfl rfl ?_
    rw[Int.toNat_natCast]
    refine bH rfl rfl (cW rfl rfl rfl r0 rfl) ?_
    repeat refine aa rfl ?_
    rw[w0]
    repeat refine aa rfl ?_
    rw[hor2]
    generalize hB:decide (((rest*65536+ul R (j+n):Nat):Int)<((q*ul V n:Nat):Int))=B3
    repeat refine aa rfl ?_
    refine ab rfl ?_ ?_<;>intro h
    ·rw[h]at hB
     have hc:rest*65536+ul R (j+n)<q*ul V n:=by have:=of_decide_eq_true hB;omega
     clear h hB
     obtain⟨hq0,hst2⟩:=hG.less hE hr1 (.inr hc)
     repeat refine aa rfl ?_
     rw[c1]
     refine bH rfl rfl (jB rfl rfl rfl rfl rfl (by omega) v1 rfl) ?_
     repeat refine aa rfl ?_
     rw[y1]
     repeat refine aa rfl ?_
     refine⟨(q-1,rest+vt),hst2,by simp only;omega,rfl,rfl,rfl,?_,?_,rfl,rfl,trivial⟩
     ·show PV.int .u64 (IntKind.u64.wrap ((q:Int)-1))=PV.int .u64 ((q-1:Nat):Int)
      rw[wrap_u64 (by omega) (by omega)];congr 1;omega
     ·show PV.int .u64 (IntKind.u64.wrap ((rest:Int)+(vt:Int)))=PV.int .u64 ((rest+vt:Nat):Int)
      rw[wrap_u64 (by omega) (by omega)];congr 1
    ·rw[h]at hB
     have hc:q*ul V n≤rest*65536+ul R (j+n):=by have:=of_decide_eq_false hB;omega
     clear h hB
     repeat refine aa rfl ?_
     exact⟨q,hG.near hE (.inr ⟨hq1,hc⟩),rfl,rfl,rfl,rfl,rfl,rfl,trivial⟩
  ·rw[h]at hB
   have hr1:65536≤rest:=by have:=of_decide_eq_false hB;omega
   clear h hB
   repeat refine aa rfl ?_
   exact⟨q,hG.near hE (.inl hr1),rfl,rfl,rfl,rfl,rfl,rfl,trivial⟩
 rintro q ⟨hq1,hq2,hq3⟩ s2
 clear hst r0 r1 r2 w0 w1 w2 hor1
 repeat refine aa rfl ?_
 rw[e84]
 repeat refine aa rfl ?_
 refine nl (fun k:List UInt16 × Nat × Int=>Sub R V j (n+2) q (n+3,k)) (fun k=>[(0,.als 44 g j (n+3)),(1,.fsl (V.map eU)),(5,I ((n+2:Nat):Int)),(7,.int .u64 (q:Nat)),(10,.int .i64 k.2.2)]) (fun k=>Ct g gq k.1 Qr) ?_ ?_
 ·refine am (Sub R V j (n+2) q) (fun k=>[(0,.als 44 g j (n+3)),(1,.fsl (V.map eU)),(5,I ((n+2:Nat):Int)),(7,.int .u64 (q:Nat)),(9,.int .u64 (k.2.2.1:Nat)),(10,.int .i64 k.2.2.2),(84,I ((n+3:Nat):Int)),(85,I k.1)])
   (fun k=>Ct g gq k.2.1 Qr) (fun k=>n+3-k.1) (0,R,0,0) xz ⟨rfl,rfl,rfl,rfl,rfl,rfl,rfl,rfl,rfl,rfl,trivial⟩ ?_
  rintro⟨i,Q,c,bo⟩ s3 hS
  have hil:=hS.i
  have hQl:=hS.l
  have hcb:=hS.c
  have hbo:=hS.b
  have ho2:=hS.o
  simp only at hil hQl hcb hbo ho2
  dsimp only
  repeat refine aa rfl ?_
  refine ab rfl ?_ ?_<;>intro h
  ·have hi:i<n+3:=by have:=of_decide_eq_true h;omega
   clear h
   obtain⟨x,hx⟩:∃x,x=c+(if i<n+2 then q*ul V i else 0):=⟨_,rfl⟩
   obtain⟨d',hd⟩:∃d':Int,d'=(ul R (j+i):Int)-(x-x/65536*65536:Nat)+bo:=⟨_,rfl⟩
   have hxm:x%65536=x-x/65536*65536:=by omega
   obtain⟨hst,hxb,hd1,hd2⟩:=AA hS (by omega) hq1 (by omega) (by omega) hx (d:=d') (by rw[hd,hxm])
   have hrow:=jV (R:=Q) (i:=j+i) (by omega)
   rw[ho2 (j+i) (.inr (Nat.le_refl _))]at hrow
   repeat refine aa rfl ?_
   refine p6 [(0,.als 44 g j (n+3)),(1,.fsl (V.map eU)),(5,I ((n+2:Nat):Int)),(7,.int .u64 (q:Nat)),(9,.int .u64 (c:Nat)),(10,.int .i64 bo),(11,I i),(12,.int .u64 (x:Nat)),(84,I ((n+3:Nat):Int)),(85,I i)] (Ct g gq Q Qr) ?_ (fun s4=>?_)
   ·refine ab rfl ?_ ?_<;>intro h
    ·have hi2:i<n+2:=by have:=of_decide_eq_true h;omega
     clear h
     rw[if_pos hi2]at hx
     have hvi:=mD (R:=V) (i:=i) (by omega)
     have hmb:=Nat.mul_le_mul hq1 (show ul V i≤65535 by have:=cN V i;omega)
     have hmi:(q:Int)*((ul V i:Nat):Int)=((q*ul V i:Nat):Int):=by rw[Int.natCast_mul]
     have hmw:IntKind.u64.wrap ((q*ul V i:Nat):Int)=((q*ul V i:Nat):Int):=ld (by omega)
     have hxw:IntKind.u64.wrap ((c:Int)+((q*ul V i:Nat):Int))=(x:Int):=by rw[wrap_u64 (by omega) (by omega)];omega
     repeat refine aa rfl ?_
     refine bH rfl rfl (jB rfl rfl rfl rfl rfl (by omega) hvi rfl) ?_
     repeat refine aa rfl ?_
     rw[iZ V i,hmi,hmw]
     repeat refine aa rfl ?_
     rw[hxw]
     exact⟨rfl,rfl,rfl,rfl,rfl,rfl,rfl,rfl,rfl,rfl,rfl,rfl,trivial⟩
    ·have hi2:¬i<n+2:=by have:=of_decide_eq_false h;omega
     clear h
     rw[if_neg hi2,Nat.add_zero]at hx
     repeat refine aa rfl ?_
     rw[show((c:Nat):Int)=(x:Int) by omega]
     exact⟨rfl,rfl,rfl,rfl,rfl,rfl,rfl,rfl,rfl,rfl,rfl,rfl,trivial⟩
   have e16:(x:Int)/2^(16:Int).toNat=((x/65536:Nat):Int):=by
    rw[show((2:Int)^(16:Int).toNat)=65536 by decide];omega
   have hand:=Cp x (by omega)
   have hmw:IntKind.i64.wrap ((x-x/65536*65536:Nat):Int)=((x-x/65536*65536:Nat):Int):=wrap_i64 (by omega) (by omega)
   have hrl:=cN R (j+i)
   have hdw:IntKind.i64.wrap (IntKind.i64.wrap (((ul R (j+i):Nat):Int)-((x-x/65536*65536:Nat):Int))+bo)=d':=by
    rw[wrap_i64 (n:=((ul R (j+i):Nat):Int)-((x-x/65536*65536:Nat):Int)) (by omega) (by omega),wrap_i64 (by omega) (by omega),hd]
   have hd16:IntKind.u16.wrap d'=((Ef d').toNat:Int):=by rw[uG,IntKind.wrap_u16]
   repeat refine aa rfl ?_
   rw[e16]
   repeat refine aa rfl ?_
   refine sF rfl rfl rfl rfl rfl rfl rfl rfl rfl ?_
   rw[Int.toNat_natCast]
   refine bH rfl rfl (cW rfl rfl rfl hrow rfl) ?_
   repeat refine aa rfl ?_
   rw[Cf R (j+i)]
   repeat refine aa rfl ?_
   rw[hand]
   repeat refine aa rfl ?_
   rw[hmw,hdw,hd16]
   refine sF rfl rfl rfl rfl rfl rfl rfl rfl rfl ?_
   rw[Int.toNat_natCast]
   refine bN (bL (kd':=0) rfl rfl rfl hrow rfl rfl (by repeat' constructor) rfl rfl rfl rfl ?_)
   repeat refine aa rfl ?_
   refine⟨(i+1,_,_,_),hst,by simp only;omega,rfl,rfl,rfl,rfl,rfl,?_,rfl,bV (by omega) (by omega),?_,rfl,trivial⟩
   ·show PV.int .i64 (d'/2^(16:Int).toNat)=PV.int .i64 (d'/65536)
    rw[show((2:Int)^(16:Int).toNat)=65536 by decide]
   ·exact c_ g 177 1 0 (j+i) Q (Ef d')
  ·have hi:i=n+3:=by have:=of_decide_eq_false h;omega
   subst hi
   clear h
   repeat refine aa rfl ?_
   exact⟨(Q,c,bo),hS,rfl,rfl,rfl,rfl,rfl,rfl,rfl,trivial⟩
 rintro⟨Q,c,bo⟩ hS s3
 have hQl:=hS.l
 have hbo:=hS.b
 simp only at hQl hbo
 dsimp only
 rcases hbo with rfl|rfl
 ·obtain⟨hqe,hdg⟩:=Bg hV (by have:=hE.V0;exact this) hS hq2
  repeat refine aa rfl ?_
  rw[show IntKind.u16.wrap ((q:Nat):Int)=((q:Nat):Int) by rw[IntKind.wrap_u16];omega]
  repeat refine aa rfl ?_
  exact hfin s3 Q q hqe hdg .ret _ (.inl rfl) rfl ⟨rfl,rfl,trivial⟩
 ·have hqw:IntKind.u64.wrap ((q:Int)-1)=IntKind.u64.wrap ((q:Int)-1):=rfl
  generalize hqv:IntKind.u64.wrap ((q:Int)-1)=qv at hqw
  repeat refine aa rfl ?_
  rw[hqv]
  refine nl (fun k:List UInt16 × Nat=>Adb Q V j (n+2) (n+2,k)) (fun k=>[(0,.als 44 g j (n+3)),(5,I ((n+2:Nat):Int)),(7,.int .u64 qv),(14,.int .u32 (k.2:Nat))]) (fun k=>Ct g gq k.1 Qr) ?_ ?_
  ·refine am (Adb Q V j (n+2)) (fun k=>[(0,.als 44 g j (n+3)),(1,.fsl (V.map eU)),(5,I ((n+2:Nat):Int)),(7,.int .u64 qv),(14,.int .u32 (k.2.2:Nat)),(126,I ((n+2:Nat):Int)),(127,I k.1)])
    (fun k=>Ct g gq k.2.1 Qr) (fun k=>n+2-k.1) (0,Q,0) vo ⟨rfl,rfl,rfl,rfl,rfl,rfl,rfl,rfl,rfl,trivial⟩ ?_
   rintro⟨i,Q2,c2⟩ s4 hA
   have hil:=hA.i
   have hQ2l:=hA.l
   have hcb:=hA.c
   have ho2:=hA.o
   simp only at hil hQ2l hcb ho2
   dsimp only
   repeat refine aa rfl ?_
   refine ab rfl ?_ ?_<;>intro h
   ·have hi:i<n+2:=by have:=of_decide_eq_true h;omega
    clear h
    have hrow:=jV (R:=Q2) (i:=j+i) (by omega)
    rw[ho2 (j+i) (.inr (Nat.le_refl _))]at hrow
    have hvi:=mD (R:=V) (i:=i) (by omega)
    have hst:=xW hA hi (by omega) (by omega) rfl
    have b1:=cN Q (j+i)
    have b2:=cN V i
    have ew:IntKind.u32.wrap ((c2:Int)+IntKind.u32.wrap (((ul Q (j+i):Nat):Int)+((ul V i:Nat):Int)))=((c2+(ul Q (j+i)+ul V i):Nat):Int):=by
     rw[wrap_u32 (n:=((ul Q (j+i):Nat):Int)+((ul V i:Nat):Int)) (by omega) (by omega),wrap_u32 (by omega) (by omega)];omega
    repeat refine aa rfl ?_
    refine ah 13 [130,131,132,133,134,135,136,137,138,139,140,141,142] (by decide +kernel) ?_
    repeat refine aa rfl ?_
    refine sF rfl rfl rfl rfl rfl rfl rfl rfl rfl ?_
    rw[Int.toNat_natCast]
    refine bH rfl rfl (cW rfl rfl rfl hrow rfl) ?_
    repeat refine aa rfl ?_
    rw[me Q (j+i)]
    repeat refine aa rfl ?_
    refine bH rfl rfl (jB rfl rfl rfl rfl rfl (by omega) hvi rfl) ?_
    repeat refine aa rfl ?_
    rw[me V i,ew]
    generalize c2+(ul Q (j+i)+ul V i)=sm at *
    repeat refine aa rfl ?_
    rw[wrap_u16]
    refine sF rfl rfl rfl rfl rfl rfl rfl rfl rfl ?_
    rw[Int.toNat_natCast]
    refine bN (bL (kd':=0) rfl rfl rfl hrow rfl rfl (by repeat' constructor) rfl rfl rfl rfl ?_)
    repeat refine aa rfl ?_
    refine⟨(i+1,_,_),hst,by simp only;omega,rfl,rfl,rfl,rfl,?_,rfl,bV (by omega) (by omega),?_,rfl,trivial⟩
    ·show PV.int .u32 ((sm:Int)/2^(16:Int).toNat)=PV.int .u32 ((sm/65536:Nat):Int)
     rw[show((2:Int)^(16:Int).toNat)=65536 by decide];congr 1
    ·exact c_ g 177 1 0 (j+i) Q2 (UInt16.ofNat sm)
   ·have hi:i=n+2:=by have:=of_decide_eq_false h;omega
    subst hi
    clear h
    repeat refine aa rfl ?_
    exact⟨(Q2,c2),hA,rfl,rfl,rfl,rfl,rfl,rfl,trivial⟩
  rintro⟨Q2,c2⟩ hA s4
  have hQ2l:=hA.l
  have hcb:=hA.c
  simp only at hQ2l hcb
  dsimp only
  obtain⟨hq0,hqe,hdg⟩:=yw hV (by have:=hE.V0;exact this) (by omega) hS hq2 hq3 hA
  have hrow:=jV (R:=Q2) (i:=j+(n+2)) (by omega)
  have b1:=cN Q2 (j+(n+2))
  have hc16:IntKind.u16.wrap ((c2:Nat):Int)=((c2:Nat):Int):=by rw[IntKind.wrap_u16];omega
  have hs16:IntKind.u16.wrap (((ul Q2 (j+(n+2)):Nat):Int)+((c2:Nat):Int))=((UInt16.ofNat (ul Q2 (j+(n+2))+c2)).toNat:Int):=by
   rw[show(((ul Q2 (j+(n+2)):Nat):Int)+((c2:Nat):Int))=((ul Q2 (j+(n+2))+c2:Nat):Int) by omega,wrap_u16]
  have hqf:IntKind.u16.wrap qv=((q-1:Nat):Int):=by
   rw[←hqv,wrap_u64 (by omega) (by omega),IntKind.wrap_u16];omega
  repeat refine aa rfl ?_
  refine sF rfl rfl rfl rfl rfl rfl rfl rfl rfl ?_
  rw[Int.toNat_natCast]
  refine bH rfl rfl (cW rfl rfl rfl hrow rfl) ?_
  repeat refine aa rfl ?_
  rw[hc16]
  repeat refine aa rfl ?_
  rw[hs16]
  refine sF rfl rfl rfl rfl rfl rfl rfl rfl rfl ?_
  rw[Int.toNat_natCast]
  refine bN (bL (kd':=0) rfl rfl rfl hrow rfl rfl (by repeat' constructor) rfl rfl rfl rfl ?_)
  repeat refine aa rfl ?_
  rw[hqf]
  repeat refine aa rfl ?_
  exact hfin s4 _ (q-1) hqe hdg .ret _ (.inl rfl) rfl ⟨c_ g 177 1 0 (j+(n+2)) Q2 (UInt16.ofNat (ul Q2 (j+(n+2))+c2)),rfl,trivial⟩
class HQ (q:Rat) (n:outParam Nat):Prop where
 ok:hq q n
class Vq (x:RR) (p:outParam Rat) (n:outParam Nat):Prop where
 val:x.val=p
 sz:x.n.l.length≤n∧x.d.l.length≤n
class Zb (z:Int):Prop where
 ok:z.natAbs<65536^4
theorem HQ.pos {q:Rat} {n:Nat} (h:HQ q n):1≤n:=yX h.ok
theorem HQ.mono {q:Rat} {n m:Nat} (h:HQ q n) (hm:n≤m):HQ q m:=⟨eO h.ok hm⟩
instance HQ.add {p q:Rat} {n m:Nat} [h1:HQ p n] [h2:HQ q m]:HQ (p+q) (n+m+1):=⟨pM h1.ok h2.ok⟩
instance HQ.sub {p q:Rat} {n m:Nat} [h1:HQ p n] [h2:HQ q m]:HQ (p-q) (n+m+1):=⟨by rw[Rat.sub_eq_add_neg];exact pM h1.ok (mK h2.ok)⟩
instance HQ.mul {p q:Rat} {n m:Nat} [h1:HQ p n] [h2:HQ q m]:HQ (p*q) (n+m):=⟨yW h1.ok h2.ok⟩
instance HQ.div {p q:Rat} {n m:Nat} [h1:HQ p n] [h2:HQ q m]:HQ (p/q) (n+m):=⟨yV h1.ok h2.ok⟩
instance HQ.neg {q:Rat} {n:Nat} [h:HQ q n]:HQ (-q) n:=⟨mK h.ok⟩
instance HQ.int {z:Int} [h:Zb z]:HQ (z:Rat) 4:=⟨jp h.ok (by decide)⟩
instance HQ.zero:HQ (0:Rat) 4:=⟨jp (z:=0) (by decide) (by decide)⟩
instance HQ.one:HQ (1:Rat) 4:=⟨jp (z:=1) (by decide) (by decide)⟩
instance HQ.two:HQ (2:Rat) 4:=⟨jp (z:=2) (by decide) (by decide)⟩
instance Vq.ofQ {q:Rat} {n:Nat} [h:HQ q n]:Vq (ofQ q) q n:=⟨Go.Pv.ofQ_val q,(i_ h.ok).ok⟩
instance Vq.zero:Vq RR.zero 0 0:=⟨RR.zero_val,Nat.le_refl _,Nat.le_refl _⟩
theorem Vq.hq {x:RR} {p:Rat} {n:Nat} (h:Vq x p n):HQ p (n+1):=⟨by rw[←h.val];exact SZ.hq ⟨h.sz⟩⟩
theorem Vq.raw {x:RR} {n:Nat} (h1:x.n.l.length≤n) (h2:x.d.l.length≤n):Vq x x.val n:=⟨rfl,h1,h2⟩
theorem aE {z:Int} (h0 : -9223372036854775808≤z) (h1:z≤9223372036854775807):Zb z:=⟨by
 have:(65536:Nat)^4=18446744073709551616:=by decide
 omega⟩
def ac (f:Nat→Rat):Nat→Rat
 |0=>0
 |n+1=>ac f n+f n
theorem aY {f g:Nat→Rat}:∀ {n:Nat},(∀k,k<n→f k=g k)→ac f n=ac g n
 |0,_=>rfl
 |n+1,h=>by rw[ac,ac,aY fun k hk=>h k (by omega),h n (by omega)]
theorem aK {f:Nat→Rat} {m:Nat}:∀(n:Nat),(∀k,k<n→HQ (f k) m)→HQ (ac f n) (n*(m+1)+4)
 |0,_=>by rw[Nat.zero_mul,Nat.zero_add];exact HQ.zero
 |n+1,h=>by
  have h1:=aK n fun k hk=>h k (by omega)
  have h2:=h n (by omega)
  exact(HQ.add (h1:=h1) (h2:=h2)).mono (by rw[Nat.add_mul];omega)
theorem dE {f:Nat→Rat}:∀ {n:Nat},(∀k,k<n→0≤f k)→0≤ac f n
 |0,_=>by rw[ac];exact Rat.le_refl
 |n+1,h=>by
  have h1:=dE (f:=f) (n:=n) fun k hk=>h k (by omega)
  have h2:=h n (by omega)
  rw[ac];grind
theorem sZ {L:Lay} {s:St} {fn:Func} {r d:PV} {l:List PV} {A Cd:Prop} {fl:Fl} (h:Aa L s fn.results.toList=some (l,A)) (ha:A) (hres:ek s 5 (gS l)=some (d,Cd,fl)) (hc:Cd) (hd:d=r):aj L fn .shared r .ret s:=by
 unfold aj
 exact⟨l,A,d,Cd,fl,h,ha,hres,hc,trivial,hd⟩
theorem aF {L:Lay} {s:St} {fn:Func} {r d:PV} {l:List PV} {A Cd:Prop} {fl:Fl} (h:Aa L s fn.results.toList=some (l,A)) (hres:ek s 5 (gS l)=some (d,Cd,fl)) (hd:d=r) (ha:A:=by repeat' constructor) (hc:Cd:=by repeat' constructor):aj L fn .shared r .ret s:=sZ h ha hres hc hd
def eI (a:RI):List PV:=[.bool a.neg,.sl (a.l.map eU)]
def eR (x:RR):List PV:=[.bool x.n.neg,.sl (x.n.l.map eU),.bool x.d.neg,.sl (x.d.l.map eU)]
theorem zo:bO 0=⟨false,[]⟩:=by rw[bO];simp[bj]
def dB (neg:Bool) (n:Nat):Int:=if neg then -(n:Int) else n
theorem l5 (neg:Bool) (n:Nat):bO (dB neg n)=if n=0 then⟨false,[]⟩ else⟨neg,aq n⟩:=by
 split
 ·rename_i h;subst h;cases neg<;>exact zo
 ·rename_i h
  cases neg
  ·rw[bO,dB]
   simp only[Bool.false_eq_true,if_false,Int.natAbs_natCast]
   rw[decide_eq_false (by omega)]
  ·rw[bO,dB]
   simp only[if_true,Int.natAbs_neg,Int.natAbs_natCast]
   rw[decide_eq_true (by omega)]
theorem RI.val_sgz (a:RI):a.val=dB a.neg (nv a.l):=rfl
set_option maxRecDepth 20000 in
theorem my (l:List UInt16) (hl:l.length≤300000000):Ret Tryz.prog .fresh 208 [.sl (l.map eU)] (.sl (l.map eU)):=by
 refine Ret.of_pwp layOk mixed Go.Proofs.Tryz.func208 rfl (by decide) rfl rfl ?_
 ((repeat ((fail_if_success (with_reducible refine aT 1 ?_));refine dh rfl ?_));refine aG 1 ?_)
 refine aa rfl ?_
 refine aJ ?_
 refine a_ rfl (xj layOk rfl rfl rfl (fun h0=>?_) ?_)
 ·rw[h0]
  refine aM ?_
  (repeat ((fail_if_success (with_reducible refine jA ?_));refine dh rfl ?_))
  refine ay (Ghost.nilfs (t:=2) rfl) ?_
  repeat refine aa rfl ?_
  exact yG rfl rfl rfl trivial rfl
 ·refine aM ?_
  repeat refine aa rfl ?_
  refine ar (be 0 rfl rfl rfl rfl rfl rfl rfl rfl rfl rfl rfl (by repeat' constructor) rfl ?_)
  repeat refine aa rfl ?_
  refine ar (bE 1 rfl rfl rfl rfl rfl rfl rfl rfl rfl rfl rfl (by repeat' constructor) (by intro row hr;obtain⟨p,_,rfl⟩:=List.mem_map.1 hr;rfl) rfl rfl (by simp;omega) (by simp;omega) ?_)
  (repeat ((fail_if_success (with_reducible refine jA ?_));refine dh rfl ?_))
  refine ay (Ghost.takeF (k:=5) (t:=2) l rfl rfl rfl rfl (fun _=>rfl)) ?_
  repeat refine aa rfl ?_
  exact yG rfl rfl rfl (by repeat' constructor) rfl
set_option maxRecDepth 20000 in
theorem dq (neg:Bool) (l:List UInt16) (hl:l.length≤300000000):Ret Tryz.prog .shared 172 [.bool neg,.sl (l.map eU)] (.agg (eI (bO (dB neg (nv l))))):=by
 have ht:=b6 l (by omega)
 have hml:((aH l).map eU).length=(aH l).length:=by simp
 have htl:=bG l
 rw[l5]
 by_cases h0:nv l=0
 ·rw[if_pos h0]
  have hz:aH l=[]:=by rw[aH,h0,bj]
  rw[hz]at ht
  refine Ret.of_pwp layOk mixed Go.Proofs.Tryz.func172 rfl (by decide) rfl rfl ?_
  repeat refine aa rfl ?_
  refine ak rfl rfl rfl ht rfl rfl ?_
  (repeat ((fail_if_success (with_reducible refine jA ?_));refine dh rfl ?_))
  refine ay (Ghost.nilcell (k:=1000) (k0:=4) (i:=0) (j:=1) 177 1 0 rfl rfl rfl rfl (row:=[.bool false,.nil]) rfl rfl rfl) ?_
  repeat refine aa rfl ?_
  exact aF rfl rfl rfl
 ·rw[if_neg h0]
  have hz:(aH l).length≠0:=by
   intro h
   have h1:=cq l
   rw[List.length_eq_zero_iff.1 h]at h1
   exact h0 h1.symm
  have hc:=my (aH l) (by omega)
  rw[aH]at *
  generalize aq (nv l)=t at *
  refine Ret.of_pwp layOk mixed Go.Proofs.Tryz.func172 rfl (by decide) rfl rfl ?_
  repeat refine aa rfl ?_
  refine ak rfl rfl rfl ht rfl rfl ?_
  repeat refine aa rfl ?_
  refine ab rfl ?_ ?_<;>intro h
  ·have:=of_decide_eq_true h;omega
  ·clear h
   repeat refine aa rfl ?_
   refine EC rfl rfl rfl hc rfl rfl ?_
   repeat refine aa rfl ?_
   exact aF rfl rfl rfl
set_option maxRecDepth 20000 in
theorem sD (l:List UInt16) (hl:l.length≤300000000):Ret Tryz.prog .shared 209 [.sl (l.map eU)] (if l.length≤4 then .tup [.int .u64 (nv l:Nat),.bool true] else .tup [.int .u64 0,.bool false]):=by
 have hml:(l.map eU).length=l.length:=by simp
 by_cases h4:l.length≤4
 ·rw[if_pos h4]
  have hw0:IntKind.i64.wrap (((((l.map eU).length:Nat):Int))-1)=(l.length:Int)-1:=by rw[hml,wrap_i64 (by omega) (by omega)]
  refine Ret.of_pwp layOk mixed Go.Proofs.Tryz.func209 rfl (by decide) rfl rfl ?_
  repeat refine aa rfl ?_
  refine ab rfl ?_ ?_<;>intro h
  ·have:=of_decide_eq_true h;omega
  clear h
  repeat refine aa rfl ?_
  rw[hw0]
  refine am (fun k:Nat=>k≤l.length) (fun k=>[(0,.sl (l.map eU)),(4,.int .u64 (nv (l.drop k):Nat)),(5,I ((k:Int)-1))]) (fun _=>[]) (fun k=>k) l.length (Nat.le_refl _) ⟨rfl,?_,rfl,trivial⟩ ?_
  ·rw[List.drop_length];rfl
  intro k s hk
  repeat refine aa rfl ?_
  refine ab rfl ?_ ?_<;>intro h
  ·have hk0:0<k:=by have:=of_decide_eq_true h;omega
   clear h
   obtain⟨j,rfl⟩:∃j,k=j+1:=⟨k-1,by omega⟩
   have e1:(((j+1:Nat):Int)-1)=(j:Nat):=by omega
   rw[e1]
   obtain⟨x,hx⟩:=aL (show j<l.length by omega)
   have hxl:=aR x
   have hd:=dP hx
   have hlt:=bQ (l.drop (j+1))
   have hp:65536^(l.drop (j+1)).length≤65536^3:=Nat.pow_le_pow_right (by decide) (by rw[List.length_drop];omega)
   have hp3:65536^3=281474976710656:=by decide
   generalize nv (l.drop (j+1))=a at *
   have hor:=Di (x:=a) (y:=x.toNat) (by omega) hxl
   have ex:IntKind.u64.wrap (x.toNat:Int)=(x.toNat:Int):=wrap_u64 (by omega) (by omega)
   repeat refine aa rfl ?_
   rw[Ag (by omega)]
   refine aZ rfl rfl rfl rfl rfl rfl rfl hx rfl ?_
   repeat refine aa rfl ?_
   rw[ex,hor]
   repeat refine aa rfl ?_
   refine⟨j,by omega,by omega,rfl,?_,?_,trivial⟩
   ·show PV.int .u64 ((a*65536+x.toNat:Nat):Int)=_
    rw[hd,show x.toNat+65536*a=a*65536+x.toNat by omega]
   ·exact congrArg I (wrap_i64 (by omega) (by omega))
  ·have hk0:k=0:=by have:=of_decide_eq_false h;omega
   subst hk0
   clear h
   rw[List.drop_zero]
   generalize nv l=v
   repeat refine aa rfl ?_
   exact sY rfl rfl rfl rfl rfl trivial trivial rfl
 ·rw[if_neg h4]
  refine Ret.of_pwp layOk mixed Go.Proofs.Tryz.func209 rfl (by decide) rfl rfl ?_
  repeat refine aa rfl ?_
  refine ab rfl ?_ ?_<;>intro h
  ·repeat refine aa rfl ?_
   exact sY rfl rfl rfl rfl rfl trivial trivial rfl
  ·have:=of_decide_eq_false h;omega
set_option maxRecDepth 20000 in
theorem ly (n:Nat) (hn:n<18446744073709551616):Ret Tryz.prog .shared 173 [.int .u64 (n:Nat)] (.sl ((aq n).map eU)):=by
 refine Ret.of_pwp layOk mixed Go.Proofs.Tryz.func173 rfl (by decide) rfl rfl ?_
 ((repeat (first|refine aJ ?_ | refine b5 ?_ | refine bJ ?_ | refine bF ?_));refine aS ?_)
 refine ia rfl trivial ?_
 ((repeat (first|refine aJ ?_ | refine b5 ?_ | refine bJ ?_ | refine bF ?_));refine aS ?_)
 (first|refine ar (fh 177 1 0 rfl rfl ?_)|refine ar (fg 177 1 0 rfl rfl ?_))
 repeat refine aa rfl ?_
 refine am (fun q:Nat × List UInt16=>aq n=q.2++aq q.1∧q.1*65536^q.2.length≤n) (fun q=>[(0,.int .u64 (q.1:Nat)),(3,.als 3 (1+q.2.length) 0 (q.2.map eU).length)]) (fun q=>[(3,1+q.2.length,⟨177,1,q.2.map eU,0⟩)]) (fun q=>q.1) (n,[]) ⟨rfl,by simp⟩ ⟨rfl,rfl,rfl,trivial⟩ ?_
 rintro⟨m,L⟩ s ⟨hL,hb⟩
 simp only at hL hb
 dsimp only
 repeat refine aa rfl ?_
 refine ab rfl ?_ ?_<;>intro h
 ·have hm:0<m:=by have:=of_decide_eq_true h;omega
  clear h
  have hLl:L.length<4:=by
   rcases Nat.lt_or_ge L.length 4 with h|h
   ·exact h
   ·exfalso
    have h1:65536^4≤65536^L.length:=Nat.pow_le_pow_right (by decide) h
    have h2:=Nat.mul_le_mul (show 1≤m by omega) h1
    have:1*65536^4=18446744073709551616:=by decide
    omega
  have hL2:aq n=(L++[UInt16.ofNat m])++aq (m/65536):=by rw[hL,cQ (by omega)];simp
  have hb2:m/65536*65536^(L++[UInt16.ofNat m]).length≤n:=by
   rw[List.length_append,List.length_singleton,Nat.pow_succ,Nat.mul_comm (65536^_),←Nat.mul_assoc]
   exact Nat.le_trans (Nat.mul_le_mul_right _ (Nat.div_mul_le_self _ _)) hb
  repeat refine aa rfl ?_
  rw[wrap_u16]
  refine bH rfl rfl (c8 rfl rfl rfl rfl rfl rfl rfl rfl rfl rfl (by repeat' constructor) rfl) ?_
  refine ar (bE 0 rfl rfl rfl rfl rfl rfl rfl rfl rfl rfl rfl (by repeat' constructor) (by intro row hr;first|(simp at hr;subst hr;rfl)|simp at hr) rfl rfl (by simp;omega) (by simp;omega) ?_)
  repeat refine aa rfl ?_
  refine⟨(m/65536,L++[UInt16.ofNat m]),⟨hL2,hb2⟩,by simp only;omega,?_,?_,?_,trivial⟩
  ·show PV.int .u64 ((m:Int)/2^(16:Int).toNat)=PV.int .u64 ((m/65536:Nat):Int)
   rw[show((2:Int)^(16:Int).toNat)=65536 by decide];congr 1
  ·exact lO eU 3 1 L (UInt16.ofNat m)
  ·exact jQ eU 1 177 1 0 L (UInt16.ofNat m)
 ·have hm:m=0:=by have:=of_decide_eq_false h;omega
  subst hm
  clear h
  rw[bj,List.append_nil]at hL
  rw[hL]
  repeat refine aa rfl ?_
  exact fP rfl rfl rfl ⟨rfl,rfl,rfl⟩ rfl
theorem u9 {R:List UInt16} {j m:Nat} (h:nv ((R.drop j).drop m)=0):uw R j m=nv (R.drop j):=by
 rcases Nat.le_total m (R.drop j).length with hm|hm
 ·rw[uw,cn (R.drop j) m hm,h];omega
 ·rw[uw,List.take_of_length_le hm]
theorem pU {l:List UInt16} {m:Nat} (h:nv l<65536^m):nv (l.drop m)=0:=by
 rcases Nat.le_total m l.length with hm|hm
 ·rw[cn l m hm]at h
  rcases Nat.eq_zero_or_pos (nv (l.drop m)) with h0|h0
  ·exact h0
  ·have:=Nat.mul_le_mul_left (65536^m) h0
   omega
 ·rw[List.drop_of_length_le hm];rfl
theorem AD {R R':List UInt16} {j:Nat} (hl:R'.length=R.length) (h:∀t,t<j→ul R' t=ul R t):R'.take j=R.take j:=by
 apply List.ext_getElem?;intro k
 rw[List.getElem?_take,List.getElem?_take]
 split
 ·rcases Nat.lt_or_ge k R.length with hk|hk
  ·rw[kw (by omega),kw hk]
   congr 1
   exact nM (h k ‹_›)
  ·rw[List.getElem?_eq_none hk,List.getElem?_eq_none (by omega)]
 ·rfl
theorem yC {R R':List UInt16} {j:Nat} (hl:R'.length=R.length) (h:∀t,j≤t→ul R' t=ul R t):R'.drop j=R.drop j:=by
 apply List.ext_getElem?;intro k
 rw[List.getElem?_drop,List.getElem?_drop]
 rcases Nat.lt_or_ge (j+k) R.length with hk|hk
 ·rw[kw (by omega),kw hk]
  congr 1
  exact nM (h (j+k) (by omega))
 ·rw[List.getElem?_eq_none hk,List.getElem?_eq_none (by omega)]
structure DivI (V:List UInt16) (N n A0:Nat) (z:Nat × List UInt16 × List UInt16):Prop where
 k:z.1≤N-n
 r:z.2.1.length=N
 q:z.2.2.length=N-n
 v:nv z.2.1+nv V*(65536^z.1*nv (z.2.2.drop z.1))=A0
 lt:nv (z.2.1.drop z.1)<nv V
theorem ut {V:List UInt16} {N n A0 j:Nat} {R Q:List UInt16} (hV:V.length=n) (hn:n<N) (h:DivI V N n A0 (j+1,R,Q)):uw R j (n+1)=nv (R.drop j)∧uw R j (n+1)<65536*nv V∧j+(n+1)≤R.length:=by
 have h1:=h.k
 have h2:=h.r
 have h5:=h.lt
 simp only at h1 h2 h5
 have hlt:nv (R.drop (j+1))<65536^n:=Nat.lt_trans h5 (by rw[←hV];exact bQ V)
 have hz:=pU hlt
 have e1:uw R j (n+1)=nv (R.drop j):=u9 (by rw[List.drop_drop,show j+(n+1)=(j+1)+n by omega,←List.drop_drop];exact hz)
 have e2:=dP (kw (R:=R) (i:=j) (by omega))
 have:=aR (R.getD j 0)
 exact⟨e1,by rw[e1,e2];omega,by omega⟩
theorem yz {V:List UInt16} {N n A0 j:Nat} {R Q R':List UInt16} (hV:V.length=n) (hn:n<N) (hV0:0<nv V) (h:DivI V N n A0 (j+1,R,Q)) (hd:Digd R V j n R') :
  uw R j (n+1)/nv V<65536∧DivI V N n A0 (j,R',Q.set j (UInt16.ofNat (uw R j (n+1)/nv V))):=by
 obtain⟨w1,w2,w3⟩:=ut hV hn h
 have h1:=h.k
 have h2:=h.r
 have h3:=h.q
 have h4:=h.v
 have h5:=h.lt
 simp only at h1 h2 h3 h4 h5
 have hql:uw R j (n+1)/nv V<65536:=Nat.div_lt_of_lt_mul (by rw[Nat.mul_comm];exact w2)
 have hRl:=hd.l
 have htk:R'.take j=R.take j:=AD hRl fun t ht=>hd.o t (.inl ht)
 have hlt:nv (R.drop (j+1))<65536^n:=Nat.lt_trans h5 (by rw[←hV];exact bQ V)
 have hz:=pU hlt
 have hdr:R'.drop (j+(n+1))=R.drop (j+(n+1)):=yC hRl fun t ht=>hd.o t (.inr ht)
 have e1:uw R' j (n+1)=nv (R'.drop j):=u9 (by rw[List.drop_drop,hdr,show j+(n+1)=(j+1)+n by omega,←List.drop_drop];exact hz)
 have e2:nv (R'.drop j)=nv (R.drop j)%nv V:=by rw[←e1,hd.v,w1]
 refine⟨hql,by simp only;omega,by simp only;omega,by simp[h3],?_,?_⟩
 ·simp only
  have s1:=cn R' j (by omega)
  have s2:=cn R j (by omega)
  rw[htk,e2]at s1
  rw[w1]at hql ⊢
  rw[drop_set_self' (by omega),nv,aN,Nat.mod_eq_of_lt hql,s1,←h4,s2]
  have e3:=Nat.div_add_mod (nv (R.drop j)) (nv V)
  have e4:nv V*(65536^j*(nv (R.drop j)/nv V+65536*nv (Q.drop (j+1))))=65536^j*(nv V*(nv (R.drop j)/nv V))+nv V*(65536^(j+1)*nv (Q.drop (j+1))):=by
   rw[Nat.mul_add,Nat.mul_add,Nat.pow_succ]
   congr 1
   ·simp only[Nat.mul_left_comm]
   ·simp only[Nat.mul_assoc]
  rw[e4]
  have e5:65536^j*(nv (R.drop j)%nv V)+65536^j*(nv V*(nv (R.drop j)/nv V))=65536^j*nv (R.drop j):=by rw[←Nat.mul_add];congr 1;omega
  omega
 ·simp only
  rw[e2];exact Nat.mod_lt _ hV0
where
 drop_set_self' {l:List UInt16} {i:Nat} {y:UInt16} (h:i<l.length):(l.set i y).drop i=y::l.drop (i+1):=by
  have h1:(l.set i y)[i]? = some y:=List.getElem?_set_self h
  have h2:=List.drop_eq_getElem?_toList_append (l:=l.set i y) (i:=i)
  rw[h1]at h2
  rw[h2]
  show y::(l.set i y).drop (i+1)=_
  congr 1
  apply List.ext_getElem?;intro j
  rw[List.getElem?_drop,List.getElem?_drop,List.getElem?_set_ne (by omega)]
theorem Bh {V:List UInt16} {N n a b s:Nat} {R Q:List UInt16} (hV:nv V=b*2^s) (hb:0<b) (h:DivI V N n (a*2^s) (0,R,Q)):nv Q=a/b∧nv R=a%b*2^s:=by
 have h4:=h.v
 have h5:=h.lt
 simp only[List.drop_zero,Nat.pow_zero,Nat.one_mul]at h4 h5
 have hp:0<2^s:=Nat.pow_pos (by decide)
 rw[hV]at h4 h5
 have e1:nv Q=a*2^s/(b*2^s):=by
  rw[←h4,Nat.add_mul_div_left _ _ (Nat.mul_pos hb hp),Nat.div_eq_of_lt h5];omega
 have e2:nv R=a*2^s%(b*2^s):=by
  rw[←h4,Nat.add_mul_mod_self_left,Nat.mod_eq_of_lt h5]
 rw[Nat.mul_div_mul_right _ _ hp]at e1
 rw[Nat.mul_mod_mul_right]at e2
 exact⟨e1,e2⟩
theorem vM {V a b R Q:List UInt16} {s:Nat} (hVl:V.length=b.length) (hV:nv V=nv b*2^s) (hbl:b.length≤a.length) (hs:s≤15) (htop:32768*65536^(b.length-1)≤nv V) (hb:1≤b.length) (hRl:R.length=a.length+1) (hR:nv R=nv a*2^s) (hQl:Q.length=a.length+1-b.length) (hQ:nv Q=0∨True) :
  DivI V (a.length+1) b.length (nv a*2^s) (a.length+1-b.length,R,Q):=by
 refine⟨Nat.le_refl _,hRl,hQl,?_,?_⟩
 ·simp only
  rw[List.drop_of_length_le (by omega),nv,Nat.mul_zero,Nat.mul_zero,hR];omega
 ·simp only
  refine Nat.lt_of_lt_of_le ?_ htop
  have h1:=cn R (a.length+1-b.length) (by omega)
  have h2:=bQ a
  have hp:0<65536^(a.length+1-b.length):=jz _
  have hs2:2^s≤32768:=Nat.pow_le_pow_right (n:=2) (by decide) hs
  have h3:nv a*2^s<65536^a.length*32768:=by
   have:=Nat.mul_le_mul_left (nv a) hs2
   have:=(Nat.mul_lt_mul_right (show 0<32768 by decide)).2 h2
   omega
  have h4:65536^a.length=65536^(a.length+1-b.length)*65536^(b.length-1):=by rw[←Nat.pow_add];congr 1;omega
  rw[h4,Nat.mul_assoc]at h3
  rw[hR]at h1
  rw[h1]at h3
  have h5:65536^(a.length+1-b.length)*nv (R.drop (a.length+1-b.length))<65536^(a.length+1-b.length)*(65536^(b.length-1)*32768):=by omega
  have:=Nat.lt_of_mul_lt_mul_left h5
  rw[Nat.mul_comm];exact this
theorem Aj {R:List UInt16} {i s:Nat} (hs:s≤15) (hi:i+1<R.length):(ul R i+65536*ul R (i+1))/2^s%65536=nv R/2^s/65536^i%65536:=by
 have e1:nv R/65536^i=nv (R.drop i):=by
  rw[cn R i (by omega),Nat.add_mul_div_left _ _ (jz _),Nat.div_eq_of_lt (d6 R i)];omega
 rw[Nat.div_div_eq_div_mul (nv R),Nat.mul_comm (2^s),←Nat.div_div_eq_div_mul,e1,dP (kw (by omega)),dP (kw (i:=i+1) (by omega))]
 show(ul R i+65536*ul R (i+1))/2^s%65536=(ul R i+65536*(ul R (i+1)+65536*nv (R.drop (i+1+1))))/2^s%65536
 generalize nv (R.drop (i+1+1))=H
 have hd:2^s*2^(16-s)=65536:=by rw[←Nat.pow_add,show s+(16-s)=16 by omega]
 have e2:ul R i+65536*(ul R (i+1)+65536*H)=(ul R i+65536*ul R (i+1))+2^s*(65536*(2^(16-s)*H)):=by
  have:2^s*(65536*(2^(16-s)*H))=65536*(65536*H):=by
   rw[Nat.mul_left_comm,←Nat.mul_assoc (2^s),hd]
  rw[this];omega
 rw[e2,Nat.add_mul_div_left _ _ (Nat.pow_pos (by decide)),Nat.add_mul_mod_self_left]
structure RemI (R:List UInt16) (n s:Nat) (k:Nat × List UInt16):Prop where
 i:k.1≤n
 l:k.2.length=n
 v:nv (k.2.take k.1)=nv R/2^s%65536^k.1
theorem zU {R Q:List UInt16} {n s i:Nat} (h:RemI R n s (i,Q)) (hs:s≤15) (hR:n+1≤R.length) (hi:i<n):RemI R n s (i+1,Q.set i (UInt16.ofNat ((ul R i+65536*ul R (i+1))/2^s))):=by
 obtain⟨h1,h2,h3⟩:=h
 simp only at h1 h2 h3
 refine⟨hi,by simp[h2],?_⟩
 simp only
 rw[cG (i:=i) (List.getElem?_set_self (by omega)),take_set',h3,aN,Aj hs (by omega),Nat.mod_pow_succ]
where
 take_set' {l:List UInt16} {i:Nat} {y:UInt16}:nv ((l.set i y).take i)=nv (l.take i):=by
  congr 1
  apply List.ext_getElem?;intro j
  rw[List.getElem?_take,List.getElem?_take]
  split
  ·rw[List.getElem?_set_ne (by omega)]
  ·rfl
theorem Dt {x y:Nat} (hx:x<65536) (hy:y<65536):bits .or .u32 (x:Int) ((y*65536:Nat):Int)=((x+65536*y:Nat):Int):=by
 rw[bits_join_low .u32 32 (by decide) wraps_u32 16 _ _ (by omega) (by omega) (by omega) (by omega) (by omega) (by omega)];omega
def Bi (a b:List UInt16):PV := .tup [.sl ((aq (nv a/nv b)).map eU),.sl ((aq (nv a%nv b)).map eU)]
set_option maxRecDepth 20000 in
theorem vN (a b:List UInt16) (ha:a.length≤100000000) (hb:b.length≤100000000) (hta:Trm a) (htb:Trm b) (hlt:nv a<nv b):Ret Tryz.prog .shared 180 [.sl (a.map eU),.sl (b.map eU)] (Bi a b):=by
 have hc:=fC a b (by omega) (by omega)
 have hneg:=(eT hta htb).1.2 hlt
 rw[Bi,Nat.div_eq_of_lt hlt,Nat.mod_eq_of_lt hlt,bj,fa hta]
 generalize i4 a b=c at *
 refine Ret.of_pwp layOk mixed Go.Proofs.Tryz.func180 rfl (by decide) rfl rfl ?_
 repeat refine aa rfl ?_
 refine aP rfl rfl rfl hc rfl rfl rfl ?_
 repeat refine aa rfl ?_
 refine ab rfl ?_ ?_<;>intro h
 ·clear h
  repeat refine aa rfl ?_
  refine EC rfl rfl rfl (my a (by omega)) rfl rfl ?_
  (repeat ((fail_if_success (with_reducible refine jA ?_));refine dh rfl ?_))
  refine ay (Ghost.nilsl (t:=4) rfl) ?_
  repeat refine aa rfl ?_
  exact sY rfl rfl rfl rfl rfl trivial trivial rfl
 ·have:=of_decide_eq_false h;omega
set_option maxRecDepth 20000 in
theorem sU (a:List UInt16) (b:UInt16) (ha:a.length≤100000000) (hta:Trm a) (htb:Trm [b]) (hge:nv [b]≤nv a):Ret Tryz.prog .shared 180 [.sl (a.map eU),.sl [eU b]] (Bi a [b]):=by
 have hc:=fC a [b] (by omega) (by simp)
 have hneg:¬i4 a [b]<0:=fun h=>by have:=(eT hta htb).1.1 h;omega
 have hb0:0<b.toNat:=by have:=htb b rfl;omega
 have hs:=xg a b ha hb0
 have hnb:nv [b]=b.toNat:=by simp[nv]
 rw[Bi,hnb]
 have hml:=Nat.mod_lt (nv a) hb0
 have hbl:=aR b
 have hx:=b6 [UInt16.ofNat (nv a%b.toNat)] (by simp)
 have hxv:aH [UInt16.ofNat (nv a%b.toNat)]=aq (nv a%b.toNat):=by
  rw[aH];congr 1;simp[nv];omega
 rw[hxv]at hx
 have hxe:([UInt16.ofNat (nv a%b.toNat)].map eU)=[[PV.int .u16 ((nv a%b.toNat:Nat):Int)]]:=by
  show [[PV.int .u16 _]]=_
  rw[aN,Nat.mod_eq_of_lt (by omega)]
 rw[hxe]at hx
 generalize i4 a [b]=c at *
 generalize nv a%b.toNat=m at *
 refine Ret.of_pwp layOk mixed Go.Proofs.Tryz.func180 rfl (by decide) rfl rfl ?_
 repeat refine aa rfl ?_
 refine aP rfl rfl rfl hc rfl rfl rfl ?_
 repeat refine aa rfl ?_
 refine ab rfl ?_ ?_<;>intro h
 ·have:=of_decide_eq_true h;omega
 clear h
 repeat refine aa rfl ?_
 refine bH rfl rfl (zL rfl rfl rfl rfl rfl (by decide) rfl rfl) ?_
 repeat refine aa rfl ?_
 refine ak rfl rfl rfl hs rfl rfl ?_
 repeat refine aa rfl ?_
 refine bH rfl rfl (c8 rfl rfl rfl rfl rfl rfl rfl rfl rfl rfl (by repeat' constructor) rfl) ?_
 repeat refine aa rfl ?_
 refine ak rfl rfl rfl hx rfl rfl ?_
 repeat refine aa rfl ?_
 exact sY rfl rfl rfl rfl rfl trivial trivial rfl
set_option maxRecDepth 40000 in
set_option maxHeartbeats 4000000 in
theorem qS (a b:List UInt16) {n:Nat} (ha:a.length≤100000000) (hb:b.length=n+2) (hta:Trm a) (htb:Trm b) (hge:nv b≤nv a):Ret Tryz.prog .shared 180 [.sl (a.map eU),.sl (b.map eU)] (Bi a b):=by
 have hba:b.length≤a.length:=by
  rcases Nat.lt_or_ge a.length b.length with h|h
  ·exfalso
   have h1:=t_ htb (k:=n+1) hb
   have h2:=bQ a
   have h3:65536^a.length≤65536^(n+1):=cz (by omega)
   omega
  ·exact h
 have hc:=fC a b (by omega) (by omega)
 have hneg:¬i4 a b<0:=fun h=>by have:=(eT hta htb).1.1 h;omega
 have hbml:(b.map eU).length=n+2:=by rw[List.length_map,hb]
 have hbt:=kw (R:=b) (i:=n+1) (by omega)
 have ht0:ul b (n+1)≠0:=htb _ (by rw[List.getLast?_eq_getElem?,hb,show n+2-1=n+1 by omega];exact hbt)
 have hlead:=y5 (b.getD (n+1) 0) ht0
 have hl16:=rm ht0 (aR _)
 rw[show(b.getD (n+1) 0).toNat=ul b (n+1) from rfl]at hlead
 have hb0:0<nv b:=by
  have h1:=t_ htb (k:=n+1) hb
  have:=jz (n+1)
  omega
 have hbtl:=cN b (n+1)
 have hbtop:nv b=uw b 0 (n+1)+65536^(n+1)*ul b (n+1):=by
  have h1:=cU (R:=b) (j:=0) (m:=n+1) (by omega)
  rw[nP hb (Nat.le_refl _),Nat.zero_add]at h1
  exact h1
 generalize hlt:ja (ul b (n+1))=t at *
 obtain⟨s,hs⟩:∃s,s=16-t:=⟨_,rfl⟩
 rw[←hs]at hlead
 have hs15:s≤15:=by omega
 have hgs:32768≤ul b (n+1)*2^s∧ul b (n+1)*2^s<65536:=by
  have e1:2^t*2^s=65536:=by rw[←Nat.pow_add,show t+s=16 by omega]
  have h1:=Nat.mul_le_mul_right (2^s) hl16.2.2.1
  have h2:=(Nat.mul_lt_mul_right (Nat.pow_pos (show 0<2 by decide):0<2^s)).2 hl16.2.2.2
  rw[e1]at h1 h2
  rw[Nat.mul_assoc]at h1
  omega
 have hsO:=qp a s ha (by omega)
 have hsF:=r8 b s (by omega) (by omega)
 obtain⟨V,hVd⟩:∃V,V=(ij (b.length+1) (nv b*2^s)).take (n+2):=⟨_,rfl⟩
 have hp:0<2^s:=Nat.pow_pos (by decide)
 have hblt:nv b*2^s<65536^(n+2):=by
  have h1:=o9 b 0 (n+1)
  have h2:nv b<65536^(n+1)*(ul b (n+1)+1):=by rw[hbtop,Nat.mul_add];omega
  have h3:=(Nat.mul_lt_mul_right hp).2 h2
  have h4:(ul b (n+1)+1)*2^s≤65536:=by
   have e1:2^t*2^s=65536:=by rw[←Nat.pow_add,show t+s=16 by omega]
   rw[←e1]
   exact Nat.mul_le_mul_right _ hl16.2.2.2
  have h5:=Nat.mul_le_mul_left (65536^(n+1)) h4
  rw[←Nat.mul_assoc]at h5
  rw[Nat.pow_succ];omega
 have hVl:V.length=n+2:=by rw[hVd,List.length_take,il,hb];omega
 have hVv:nv V=nv b*2^s:=by
  have h1:=cn (ij (b.length+1) (nv b*2^s)) (n+2) (by rw[il];omega)
  have h2:nv (ij (b.length+1) (nv b*2^s))=nv b*2^s:=pB _ _ (Nat.lt_of_lt_of_le hblt (cz (by omega)))
  have h3:nv ((ij (b.length+1) (nv b*2^s)).drop (n+2))=0:=pU (by rw[h2];exact hblt)
  rw[h2,h3,←hVd]at h1
  omega
 have hVtop:32768≤ul V (n+1):=by
  have h1:=cU (R:=V) (j:=0) (m:=n+1) (by omega)
  rw[nP hVl (Nat.le_refl _),Nat.zero_add]at h1
  have h2:=o9 V 0 (n+1)
  have h3:65536^(n+1)*32768≤nv V:=by
   rw[hVv,hbtop,Nat.add_mul,Nat.mul_assoc]
   have:=Nat.mul_le_mul_left (65536^(n+1)) hgs.1
   omega
  rcases Nat.lt_or_ge (ul V (n+1)) 32768 with h|h
  ·exfalso
   have:=Nat.mul_le_mul_left (65536^(n+1)) (show ul V (n+1)+1≤32768 by omega)
   rw[Nat.mul_add]at this
   omega
  ·exact h
 have hV32:32768*65536^(b.length-1)≤nv V:=by
  rw[hVv,hbtop,hb,show n+2-1=n+1 by omega,Nat.add_mul,Nat.mul_assoc]
  have:=Nat.mul_le_mul_left (65536^(n+1)) hgs.1
  rw[Nat.mul_comm (65536^(n+1)) 32768]at this
  omega
 have hV0:0<nv V:=by rw[hVv];exact Nat.mul_pos hb0 hp
 have hRl:=il (a.length+1) (nv a*2^s)
 have hRv:nv (ij (a.length+1) (nv a*2^s))=nv a*2^s:=pB _ _ (by
  have h1:=(Nat.mul_lt_mul_right hp).2 (bQ a)
  have h2:2^s≤2^16:=Nat.pow_le_pow_right (n:=2) (by decide) (show s≤16 by omega)
  rw[show 2^16=65536 by decide]at h2
  have:=Nat.mul_le_mul_left (65536^a.length) h2
  rw[Nat.pow_succ];omega)
 have hstart:=fun Q hQ=>vM (V:=V) (a:=a) (b:=b) (Q:=Q) (hVl.trans hb.symm) hVv hba hs15 hV32 (by omega) hRl hRv hQ (.inr trivial)
 generalize ij (a.length+1) (nv a*2^s)=R0 at *
 rw[Bi]
 generalize i4 a b=c at *
 have c1:IntKind.i64.wrap (((n+2:Nat):Int)-1)=((n+1:Nat):Int):=by rw[wrap_i64 (by omega) (by omega)];omega
 have c2:IntKind.i64.wrap (((R0.map eU).length:Nat)-((n+2:Nat):Int))=((a.length+1-(n+2):Nat):Int):=by rw[List.length_map,hRl,wrap_i64 (by omega) (by omega)];omega
 have c3:IntKind.i64.wrap (((a.length+1-(n+2):Nat):Int)-1)=((a.length+1-(n+2):Nat):Int)-1:=by rw[wrap_i64 (by omega) (by omega)]
 have hbi:(b.map eU)[((n+1:Nat):Int).toNat]? = some [PV.int .u16 ((ul b (n+1):Nat):Int)]:=mD (by omega)
 refine Ret.of_pwp layOk mixed Go.Proofs.Tryz.func180 rfl (by decide) rfl rfl ?_
 repeat refine aa rfl ?_
 refine aP rfl rfl rfl hc rfl rfl rfl ?_
 repeat refine aa rfl ?_
 refine ab rfl ?_ ?_<;>intro h
 ·have:=of_decide_eq_true h;omega
 clear h
 repeat refine aa rfl ?_
 rw[hbml]
 repeat refine aa rfl ?_
 rw[hbml,c1]
 refine bH rfl rfl (zL rfl rfl rfl rfl rfl (by omega) hbi rfl) ?_
 repeat refine aa rfl ?_
 refine aP rfl rfl rfl hlead rfl rfl rfl ?_
 repeat refine aa rfl ?_
 refine bt [44] [2] (by decide +kernel) ?_
 repeat refine aa rfl ?_
 refine AT rfl rfl rfl (BB rfl hsO rfl (by repeat' constructor) rfl ⟨pW rfl,?_⟩)
 repeat refine aa rfl ?_
 refine EC rfl rfl rfl hsF rfl rfl ?_
 repeat refine aa rfl ?_
 rw[hbml]
 refine bH rfl rfl (Ej 0 (n+2) rfl rfl rfl rfl (.inl ⟨rfl,rfl⟩) (.inr ⟨_,_,rfl,rfl⟩) (by omega) (by rw[il];omega) (fun _=>rfl)) ?_
 rw[List.drop_zero,←hVd]
 have hVml:(V.map eU).length=n+2:=by rw[List.length_map,hVl]
 repeat refine aa rfl ?_
 rw[hVml]
 repeat refine aa rfl ?_
 rw[c2]
 refine ar (fS rfl rfl rfl rfl rfl rfl rfl rfl (by omega) (by show(2:Int)*_≤_;omega) (by omega) ?_)
 rw[Int.toNat_natCast,jC]
 repeat refine aa rfl ?_
 rw[c2]
 repeat refine aa rfl ?_
 rw[c3]
 rw[hb]at hstart hba
 have hst0:=hstart (List.replicate (a.length+1-(n+2)) 0) (by simp)
 clear hstart
 refine am (DivI V (a.length+1) (n+2) (nv a*2^s)) (fun z=>[(4,.als 57 1 0 (z.2.2.map eU).length),(8,I s),(9,.als 44 1 0 (z.2.1.map eU).length),(10,.fsl (V.map eU)),(11,I ((n+2:Nat):Int)),(12,I ((z.1:Int)-1))])
  (fun z=>Ct 1 1 z.2.1 z.2.2) (fun z=>z.1) (a.length+1-(n+2),R0,List.replicate (a.length+1-(n+2)) 0) hst0 ⟨rfl,rfl,rfl,rfl,rfl,rfl,rfl,rfl,trivial⟩ ?_
 rintro⟨k,R,Q⟩ s1 hI
 have hk:=hI.k
 have hRl2:=hI.r
 have hQl:=hI.q
 simp only at hk hRl2 hQl
 dsimp only
 repeat refine aa rfl ?_
 refine ab rfl ?_ ?_<;>intro h
 ·have hk0:0<k:=by have:=of_decide_eq_true h;omega
  clear h
  obtain⟨j,rfl⟩:∃j,k=j+1:=⟨k-1,by omega⟩
  have e1:(((j+1:Nat):Int)-1)=(j:Nat):=by omega
  rw[e1]
  obtain⟨w1,w2,w3⟩:=ut hVl (by omega) hI
  have hRml:(R.map eU).length=a.length+1:=by rw[List.length_map,hRl2]
  have e2:IntKind.i64.wrap (IntKind.i64.wrap ((j:Int)+((n+2:Nat):Int))+1)=((j+(n+3):Nat):Int):=by
   rw[wrap_i64 (n:=(j:Int)+((n+2:Nat):Int)) (by omega) (by omega),wrap_i64 (by omega) (by omega)];omega
  obtain⟨r,hr⟩:=kO (R:=Q) (i:=j) (by omega)
  ((repeat ((fail_if_success (with_reducible refine aT 13 ?_));refine dh rfl ?_));refine aG 10 ?_)
  repeat refine aa rfl ?_
  rw[e2]
  refine bH rfl rfl (Ei j (j+(n+3)) rfl rfl rfl rfl rfl rfl (.inr ⟨_,_,rfl,rfl⟩) (.inr ⟨_,_,rfl,rfl⟩) (by omega) (by rw[hRml];omega)) ?_
  rw[Nat.zero_add j,show j+(n+3)-j=n+3 by omega]
  repeat refine aa rfl ?_
  refine a_ rfl (yx (n:=n) (j:=j) (R:=R) (V:=V) (Qr:=Q) hVl (by omega) (by omega) hVtop w2 rfl rfl ⟨rfl,rfl,trivial⟩ fun s3 R' hd=>?_)
  obtain⟨hq16,hnx⟩:=yz hVl (by omega) hV0 hI hd
  refine aM ?_
  repeat refine aa rfl ?_
  refine bH rfl rfl (bp rfl rfl rfl rfl rfl rfl rfl (by omega) (by rw[List.length_map];omega)) ?_
  rw[Int.toNat_natCast,Nat.zero_add j]
  rw[show PV.int .u16 ((uw R j (n+3)/nv V:Nat):Int)=PV.int .u16 ((UInt16.ofNat (uw R j (n+3)/nv V)).toNat:Int) by rw[aN,Nat.mod_eq_of_lt hq16]]
  refine bN (bL (kd':=0) rfl rfl rfl hr rfl rfl (by repeat' constructor) rfl rfl rfl rfl ?_)
  repeat refine aa rfl ?_
  refine⟨(j,R',Q.set j (UInt16.ofNat (uw R j (n+3)/nv V))),hnx,by simp only;omega,?_,rfl,?_,rfl,rfl,?_,rfl,?_,trivial⟩
  ·show PV.als 57 1 0 (Q.map eU).length=_
   simp
  ·show PV.als 44 1 0 (R.map eU).length=_
   rw[List.length_map,List.length_map,hd.l]
  ·exact congrArg I (wrap_i64 (by omega) (by omega))
  ·exact c_ 1 177 1 0 j Q (UInt16.ofNat (uw R j (n+3)/nv V))
 ·have hk0:k=0:=by have:=of_decide_eq_false h;omega
  subst hk0
  clear h
  obtain⟨hQv,hRv2⟩:=Bh hVv hb0 hI
  repeat refine aa rfl ?_
  refine ar (fS rfl rfl rfl rfl rfl rfl rfl rfl (by omega) (by show(2:Int)*_≤_;omega) (by omega) ?_)
  generalize (s1.own 80).1=g8
  rw[Int.toNat_natCast,jC]
  repeat refine aa rfl ?_
  refine am (RemI R (n+2) s) (fun q=>[(4,.als 57 1 0 (Q.map eU).length),(5,.als 80 (g8+1) 0 (q.2.map eU).length),(8,I s),(9,.als 44 1 0 (R.map eU).length),(81,I ((n+2:Nat):Int)),(82,I q.1)])
   (fun q=>[(44,1,⟨177,1,R.map eU,0⟩),(57,1,⟨177,1,Q.map eU,0⟩),(80,g8+1,⟨177,1,q.2.map eU,0⟩)]) (fun q=>n+2-q.1) (0,List.replicate (n+2) 0) ⟨Nat.zero_le _,by simp,by simp[nv];omega⟩ ⟨rfl,rfl,rfl,rfl,rfl,rfl,rfl,rfl,rfl,trivial⟩ ?_
  rintro⟨i,P⟩ s3 hJ
  have hi:=hJ.i
  have hPl:=hJ.l
  simp only at hi hPl
  dsimp only
  repeat refine aa rfl ?_
  refine ab rfl ?_ ?_<;>intro h
  ·have hi2:i<n+2:=by have:=of_decide_eq_true h;omega
   clear h
   have hst:=zU hJ hs15 (by omega) hi2
   have h1:=jV (R:=R) (i:=i) (by omega)
   have h2:=jV (R:=R) (i:=i+1) (by omega)
   have b1:=cN R i
   have b2:=cN R (i+1)
   have hsh:=CE (x:=ul R (i+1)) b2
   have hor:=Dt b1 b2
   obtain⟨r,hr⟩:=kO (R:=P) (i:=i) (by omega)
   have ei:IntKind.i64.wrap ((i:Int)+1)=((i+1:Nat):Int):=by rw[wrap_i64 (by omega) (by omega)];omega
   repeat refine aa rfl ?_
   refine ah 19 [85,86,87,88,89,90,91,92,93,94,95,96,97,98,99,100,101,102,103] (by decide +kernel) ?_
   repeat refine aa rfl ?_
   refine bH rfl rfl (bp rfl rfl rfl rfl rfl rfl rfl (by omega) (by rw[List.length_map];omega)) ?_
   rw[Int.toNat_natCast,Nat.zero_add i]
   refine bH rfl rfl (cW rfl rfl rfl h1 rfl) ?_
   repeat refine aa rfl ?_
   rw[me R i]
   repeat refine aa rfl ?_
   rw[ei]
   refine bH rfl rfl (bp rfl rfl rfl rfl rfl rfl rfl (by omega) (by rw[List.length_map];omega)) ?_
   rw[Int.toNat_natCast,Nat.zero_add (i+1)]
   refine bH rfl rfl (cW rfl rfl rfl h2 rfl) ?_
   repeat refine aa rfl ?_
   rw[me R (i+1)]
   repeat refine aa rfl ?_
   rw[hsh]
   repeat refine aa rfl ?_
   rw[hor]
   repeat refine aa rfl ?_
   refine bH rfl rfl (QOp.v rfl (show(0:Int)≤(s:Int)∧(s:Int)≤(IntKind.u32.bits:Nat) by constructor;omega;show(s:Int)≤32;omega)) ?_
   rw[show((ul R i+65536*ul R (i+1):Nat):Int)/2^((s:Nat):Int).toNat=(((ul R i+65536*ul R (i+1))/2^s:Nat):Int) by rw[Int.toNat_natCast,Int.natCast_ediv,Int.natCast_pow];rfl]
   repeat refine aa rfl ?_
   rw[wrap_u16]
   refine bH rfl rfl (bp rfl rfl rfl rfl rfl rfl rfl (by omega) (by rw[List.length_map];omega)) ?_
   rw[Int.toNat_natCast,Nat.zero_add i]
   repeat refine aa rfl ?_
   refine bN (bL (kd':=0) rfl rfl rfl hr rfl rfl (by repeat' constructor) rfl rfl rfl rfl ?_)
   repeat refine aa rfl ?_
   refine⟨(i+1,_),hst,by simp only;omega,rfl,?_,rfl,rfl,rfl,bV (by omega) (by omega),rfl,rfl,?_,trivial⟩
   ·show PV.als 80 (g8+1) 0 (P.map eU).length=_
    simp
   ·exact c_ (g8+1) 177 1 0 i P (UInt16.ofNat ((ul R i+65536*ul R (i+1))/2^s))
  ·have hi2:i=n+2:=by have:=of_decide_eq_false h;omega
   subst hi2
   clear h
   have hPv:nv P=nv a%nv b:=by
    have h1:=hJ.v
    simp only at h1
    rw[List.take_of_length_le (by omega),hRv2,Nat.mul_div_cancel _ hp]at h1
    rw[h1]
    refine Nat.mod_eq_of_lt (Nat.lt_trans (Nat.mod_lt _ hb0) ?_)
    rw[←hb];exact bQ b
   have ht1:=b6 Q (by omega)
   rw[aH,hQv]at ht1
   have ht2:=b6 P (by omega)
   rw[aH,hPv]at ht2
   ((repeat ((fail_if_success (with_reducible refine aT 20 ?_));refine dh rfl ?_));refine aG 1 ?_)
   repeat refine aa rfl ?_
   refine a_ rfl (c9 (Ghost.takeF (enc:=eU) (t:=105) (Q) rfl rfl (rfl) rfl (fun _=>rfl)) ?_)
   (refine j3 (dQ rfl (ht1) rfl ?_ rfl) ?_;·repeat' constructor)
   refine a_ rfl (c9 (Ghost.refl _) (BG rfl trivial ?_))
   refine a_ rfl (c9 (Ghost.takeF (enc:=eU) (t:=107) (P) rfl rfl (rfl) rfl (fun _=>rfl)) ?_)
   (refine j3 (dQ rfl (ht2) rfl ?_ rfl) ?_;·repeat' constructor)
   refine aM ?_
   repeat refine aa rfl ?_
   exact sY rfl rfl rfl rfl rfl trivial trivial rfl
theorem jl (a b:List UInt16) (ha:a.length≤100000000) (hb:b.length≤100000000) (hta:Trm a) (htb:Trm b) (hb0:nv b≠0):Ret Tryz.prog .shared 180 [.sl (a.map eU),.sl (b.map eU)] (Bi a b):=by
 rcases Nat.lt_or_ge (nv a) (nv b) with h|h
 ·exact vN a b ha hb hta htb h
 ·match b,hb,htb,hb0,h with
  |[],_,_,hb0,_=>exact absurd rfl hb0
  |[x],_,htb,_,h=>exact sU a x ha hta htb h
  |x::y::l,hb,htb,_,h=>exact qS a (x::y::l) (n:=l.length) ha rfl hta htb h
theorem wr:aq 1=[1]:=by rw[cQ (by decide),show 1/65536=0 by decide,bj];rfl
theorem db {n m:Nat} (h:n≤m):(aq n).length≤(aq m).length:=by
 refine bU ?_
 have:=bQ (aq m)
 rw[aD]at this
 omega
theorem cu (l:List UInt16):(aq (nv l)).length≤l.length:=bU (bQ l)
set_option maxRecDepth 20000 in
theorem sN (a b:List UInt16) (ha:a.length≤100000000) (hb:b.length≤100000000) (hta:Trm a) (htb:Trm b):Ret Tryz.prog .shared 179 [.sl (a.map eU),.sl (b.map eU)] (.sl ((aq (Nat.gcd (nv a) (nv b))).map eU)):=by
 generalize hg:Nat.gcd (nv a) (nv b)=g
 refine Ret.of_pwp layOk mixed Go.Proofs.Tryz.func179 rfl (by decide) rfl rfl ?_
 repeat refine aa rfl ?_
 refine am (fun q:List UInt16 × List UInt16=>q.1.length≤100000000∧q.2.length≤100000000∧Trm q.1∧Trm q.2∧Nat.gcd (nv q.1) (nv q.2)=g) (fun q=>[(0,.sl (q.1.map eU)),(1,.sl (q.2.map eU))]) (fun _=>[]) (fun q=>nv q.2) (a,b) ⟨ha,hb,hta,htb,hg⟩ ⟨rfl,rfl,trivial⟩ ?_
 rintro⟨A,B⟩ s ⟨hA,hB,htA,htB,hG⟩
 simp only at hA hB htA htB hG
 dsimp only
 have hBm:(B.map eU).length=B.length:=by simp
 repeat refine aa rfl ?_
 refine ab rfl ?_ ?_<;>intro h
 ·have hB0:0<B.length:=by have:=of_decide_eq_true h;omega
  clear h
  have hB0v:nv B≠0:=by
   match B,hB0,htB with
   |x::l,_,h=>exact l9 h
  have hw1:=sD A (by omega)
  have hw2:=sD B (by omega)
  have main:(A.length≤4∧B.length≤4)∨¬(A.length≤4∧B.length≤4):=Classical.em _
  have hd:=jl A B hA hB htA htB hB0v
  rw[Bi]at hd
  have hml:=Nat.mod_lt (nv A) (Nat.pos_of_ne_zero hB0v)
  have hnext:(aq (nv A%nv B)).length≤100000000:=by
   have h1:=db (Nat.le_of_lt hml)
   have h2:=cu B
   omega
  have hG2:Nat.gcd (nv B) (nv (aq (nv A%nv B)))=g:=by rw[aD,Nat.gcd_comm,←Nat.gcd_rec,Nat.gcd_comm];exact hG
  by_cases h1:A.length≤4
  ·rw[if_pos h1]at hw1
   have hAl:nv A<18446744073709551616:=by
    have:=bQ A
    have h3:65536^A.length≤65536^4:=cz h1
    have:(65536:Nat)^4=18446744073709551616:=by decide
    omega
   by_cases h2:B.length≤4
   ·rw[if_pos h2]at hw2
    have hBl:nv B<18446744073709551616:=by
     have:=bQ B
     have h3:65536^B.length≤65536^4:=cz h2
     have:(65536:Nat)^4=18446744073709551616:=by decide
     omega
    clear main hd
    generalize nv A=av at *
    generalize nv B=bv at *
    repeat refine aa rfl ?_
    refine aP rfl rfl rfl hw1 rfl rfl rfl ?_
    repeat refine aa rfl ?_
    refine aP rfl rfl rfl hw2 rfl rfl rfl ?_
    repeat refine aa rfl ?_
    refine am (fun q:Nat × Nat=>q.1<18446744073709551616∧q.2<18446744073709551616∧Nat.gcd q.1 q.2=g) (fun q=>[(5,.int .u64 (q.1:Nat)),(7,.int .u64 (q.2:Nat))]) (fun _=>[]) (fun q=>q.2) (av,bv) ⟨hAl,hBl,hG⟩ ⟨rfl,rfl,trivial⟩ ?_
    rintro⟨x,y⟩ s2 ⟨hx,hy,hg2⟩
    simp only at hx hy hg2
    dsimp only
    repeat refine aa rfl ?_
    refine ab rfl ?_ ?_<;>intro h
    ·have hy0:0<y:=by have:=of_decide_eq_true h;omega
     clear h
     have hm:=Nat.mod_lt x hy0
     repeat refine aa rfl ?_
     refine bt [] [] (by decide +kernel) ?_
     repeat refine aa rfl ?_
     refine bH rfl rfl (QOp.v rfl (show ¬((y:Nat):Int)=0 by omega)) ?_
     rw[kt]
     repeat refine aa rfl ?_
     exact⟨(y,x%y),⟨hy,by simp only;omega,by simp only;rw[Nat.gcd_comm,←Nat.gcd_rec,Nat.gcd_comm];exact hg2⟩,hm,rfl,rfl,trivial⟩
    ·have hy0:y=0:=by have:=of_decide_eq_false h;omega
     subst hy0
     clear h
     rw[Nat.gcd_zero_right]at hg2
     subst hg2
     repeat refine aa rfl ?_
     refine ak rfl rfl rfl (ly x hx) rfl rfl ?_
     repeat refine aa rfl ?_
     exact fP rfl rfl rfl trivial rfl
   ·rw[if_neg h2]at hw2
    repeat refine aa rfl ?_
    refine aP rfl rfl rfl hw1 rfl rfl rfl ?_
    repeat refine aa rfl ?_
    refine aP rfl rfl rfl hw2 rfl rfl rfl ?_
    repeat refine aa rfl ?_
    refine ak rfl rfl rfl hd rfl rfl ?_
    repeat refine aa rfl ?_
    exact⟨(B,aq (nv A%nv B)),⟨hB,hnext,htB,bg _,hG2⟩,by simp only;rw[aD];exact hml,rfl,rfl,trivial⟩
  ·rw[if_neg h1]at hw1
   by_cases h2:B.length≤4
   ·rw[if_pos h2]at hw2
    repeat refine aa rfl ?_
    refine aP rfl rfl rfl hw1 rfl rfl rfl ?_
    repeat refine aa rfl ?_
    refine aP rfl rfl rfl hw2 rfl rfl rfl ?_
    repeat refine aa rfl ?_
    refine ak rfl rfl rfl hd rfl rfl ?_
    repeat refine aa rfl ?_
    exact⟨(B,aq (nv A%nv B)),⟨hB,hnext,htB,bg _,hG2⟩,by simp only;rw[aD];exact hml,rfl,rfl,trivial⟩
   ·rw[if_neg h2]at hw2
    repeat refine aa rfl ?_
    refine aP rfl rfl rfl hw1 rfl rfl rfl ?_
    repeat refine aa rfl ?_
    refine aP rfl rfl rfl hw2 rfl rfl rfl ?_
    repeat refine aa rfl ?_
    refine ak rfl rfl rfl hd rfl rfl ?_
    repeat refine aa rfl ?_
    exact⟨(B,aq (nv A%nv B)),⟨hB,hnext,htB,bg _,hG2⟩,by simp only;rw[aD];exact hml,rfl,rfl,trivial⟩
 ·have hB0:B.length=0:=by have:=of_decide_eq_false h;omega
  clear h
  have hB0v:=List.length_eq_zero_iff.1 hB0
  subst hB0v
  rw[nv,Nat.gcd_zero_right]at hG
  rw[←hG,fa htA]
  repeat refine aa rfl ?_
  exact fP rfl rfl rfl trivial rfl
theorem rF (a b:RI) (hb:nv b.l≠0):ofQ ((a.val:Rat)/(b.val:Rat))=⟨bO (dB (a.neg != b.neg) (nv a.l/Nat.gcd (nv a.l) (nv b.l))),bO (dB false (nv b.l/Nat.gcd (nv a.l) (nv b.l)))⟩:=by
 have hbv:b.val≠0:=by intro h;have:=b.val_abs;rw[h]at this;exact hb this.symm
 rw[BE _ _ hbv,a.val_abs,b.val_abs,l5,l5]
 have hg:0<Nat.gcd (nv a.l) (nv b.l):=Nat.gcd_pos_of_pos_right _ (Nat.pos_of_ne_zero hb)
 have hbg:nv b.l/Nat.gcd (nv a.l) (nv b.l)≠0:=by
  have:=Nat.div_pos (Nat.le_of_dvd (Nat.pos_of_ne_zero hb) (Nat.gcd_dvd_right (nv a.l) (nv b.l))) hg
  omega
 rw[if_neg hbg]
 congr 1
 by_cases ha:nv a.l=0
 ·rw[ha,Nat.zero_div,if_pos rfl,bj]
  congr 1
  have hav:a.val=0:=by rw[RI.val,ha];simp
  rw[hav]
  simp
 ·have hag:nv a.l/Nat.gcd (nv a.l) (nv b.l)≠0:=by
   have:=Nat.div_pos (Nat.le_of_dvd (Nat.pos_of_ne_zero ha) (Nat.gcd_dvd_left (nv a.l) (nv b.l))) hg
   omega
  rw[if_neg hag]
  congr 1
  have e1:a.val<0↔a.neg=true:=by rw[RI.val];split<;>simp_all<;>omega
  have e2:0<a.val↔a.neg=false:=by rw[RI.val];split<;>simp_all<;>omega
  have e3:b.val<0↔b.neg=true:=by rw[RI.val];split<;>simp_all<;>omega
  have e4:0<b.val↔b.neg=false:=by rw[RI.val];split<;>simp_all<;>omega
  simp only[e1,e2,e3,e4]
  cases a.neg<;>cases b.neg<;>rfl
set_option maxRecDepth 20000 in
theorem cP (a b:RI) (ha:a.l.length≤90000000) (hb:b.l.length≤90000000) (hb0:nv b.l≠0):Ret Tryz.prog .shared 129 [.agg (eI a),.agg (eI b)] (.agg (eR (ofQ ((a.val:Rat)/(b.val:Rat))))):=by
 rw[rF a b hb0]
 obtain⟨an,al⟩:=a
 obtain⟨bn,bl⟩:=b
 simp only at ha hb hb0
 dsimp only
 have hta:=b6 al (by omega)
 have htb:=b6 bl (by omega)
 have hla:=cu al
 have hlb:=cu bl
 have hc:=sN (aq (nv al)) (aq (nv bl)) (by omega) (by omega) (bg _) (bg _)
 rw[aD,aD]at hc
 have hg0:0<Nat.gcd (nv al) (nv bl):=Nat.gcd_pos_of_pos_right _ (Nat.pos_of_ne_zero hb0)
 have hgl:Nat.gcd (nv al) (nv bl)≤nv bl:=Nat.gcd_le_right _ (Nat.pos_of_ne_zero hb0)
 generalize Nat.gcd (nv al) (nv bl)=g at *
 rw[aH]at hta htb
 have hgs:(aq g).length≤90000000:=by have:=db hgl;omega
 have hda:=jl (aq (nv al)) (aq g) (by omega) (by omega) (bg _) (bg _) (by rw[aD];omega)
 have hdb:=jl (aq (nv bl)) (aq g) (by omega) (by omega) (bg _) (bg _) (by rw[aD];omega)
 rw[Bi,aD,aD]at hda hdb
 have hsa:=dq (an != bn) (aq (nv al/g)) (by have:=db (Nat.div_le_self (nv al) g);omega)
 have hsb:=dq false (aq (nv bl/g)) (by have:=db (Nat.div_le_self (nv bl) g);omega)
 rw[aD]at hsa hsb
 have hm:((aq g).map eU).length=(aq g).length:=by simp
 by_cases hg1:g=1
 ·subst hg1
  rw[Nat.div_one]at hsa hsb
  rw[Nat.div_one,Nat.div_one]
  rw[wr]at hc
  generalize aq (nv al)=A at *
  generalize aq (nv bl)=B at *
  generalize bO (dB (an != bn) (nv al))=X at *
  generalize bO (dB false (nv bl))=Y at *
  refine Ret.of_pwp layOk mixed Go.Proofs.Tryz.func129 rfl (by decide) rfl rfl ?_
  repeat refine aa rfl ?_
  refine ah 8 [8,9,10,11,12,13,5,6] (by decide +kernel) ?_
  repeat refine aa rfl ?_
  refine ak rfl rfl rfl hta rfl rfl ?_
  repeat refine aa rfl ?_
  refine ak rfl rfl rfl htb rfl rfl ?_
  repeat refine aa rfl ?_
  refine ak rfl rfl rfl hc rfl rfl ?_
  repeat refine aa rfl ?_
  refine bH rfl rfl (p7 rfl rfl rfl rfl rfl (by omega) (show([1]:List UInt16)[0]? = some 1 from rfl) rfl) ?_
  repeat refine aa rfl ?_
  refine ak rfl rfl rfl hsa rfl rfl ?_
  repeat refine aa rfl ?_
  refine ak rfl rfl rfl hsb rfl rfl ?_
  repeat refine aa rfl ?_
  exact aF rfl rfl rfl
 ·have hne:aq g≠[1]:=by
   intro h
   have:=aD g
   rw[h]at this
   exact hg1 (by rw[←this];rfl)
  generalize aq (nv al)=A at *
  generalize aq (nv bl)=B at *
  generalize bO (dB (an != bn) (nv al/g))=X at *
  generalize bO (dB false (nv bl/g))=Y at *
  generalize aq g=G at *
  generalize aq (nv al/g)=A2 at *
  generalize aq (nv bl/g)=B2 at *
  refine Ret.of_pwp layOk mixed Go.Proofs.Tryz.func129 rfl (by decide) rfl rfl ?_
  repeat refine aa rfl ?_
  refine ah 8 [8,9,10,11,12,13,5,6] (by decide +kernel) ?_
  repeat refine aa rfl ?_
  refine ak rfl rfl rfl hta rfl rfl ?_
  repeat refine aa rfl ?_
  refine ak rfl rfl rfl htb rfl rfl ?_
  repeat refine aa rfl ?_
  refine ak rfl rfl rfl hc rfl rfl ?_
  repeat refine aa rfl ?_
  by_cases hl:G.length=1
  ·obtain⟨x,rfl⟩:=List.length_eq_one_iff.1 hl
   have hx:x.toNat≠1:=fun h=>hne (by have h2:x=1:=nM h;rw[h2])
   repeat refine aa rfl ?_
   refine bH rfl rfl (p7 rfl rfl rfl rfl rfl (by omega) (show [x][0]? = some x from rfl) rfl) ?_
   repeat refine aa rfl ?_
   refine ab rfl ?_ ?_<;>intro h
   ·clear h
    repeat refine aa rfl ?_
    refine ak rfl rfl rfl hda rfl rfl ?_
    repeat refine aa rfl ?_
    refine ak rfl rfl rfl hdb rfl rfl ?_
    repeat refine aa rfl ?_
    refine ak rfl rfl rfl hsa rfl rfl ?_
    repeat refine aa rfl ?_
    refine ak rfl rfl rfl hsb rfl rfl ?_
    repeat refine aa rfl ?_
    exact aF rfl rfl rfl
   ·exfalso
    simp at h
    omega
  ·refine dr rfl rfl rfl ?_ ?_<;>intro h
   ·repeat refine aa rfl ?_
    refine ak rfl rfl rfl hda rfl rfl ?_
    repeat refine aa rfl ?_
    refine ak rfl rfl rfl hdb rfl rfl ?_
    repeat refine aa rfl ?_
    refine ak rfl rfl rfl hsa rfl rfl ?_
    repeat refine aa rfl ?_
    refine ak rfl rfl rfl hsb rfl rfl ?_
    repeat refine aa rfl ?_
    exact aF rfl rfl rfl
   ·exfalso
    simp at h
    omega
def kC (z:Int):Int:=if z=0 then 0 else if z<0 then -1 else 1
theorem RI.val_zero (a:RI):a.val=0↔nv a.l=0:=by rw[RI.val];split<;>omega
theorem k8 {l:List UInt16}:(aH l).length=0↔nv l=0:=by
 constructor
 ·intro h
  have h1:=cq l
  rw[List.length_eq_zero_iff.1 h]at h1
  exact h1.symm
 ·intro h
  rw[aH,h,bj]
  rfl
set_option maxRecDepth 20000 in
theorem kq (a:RI) (ha:a.l.length≤300000000):Ret Tryz.prog .shared 177 [.agg (eI a)] (I (kC a.val)):=by
 have ht:=b6 a.l (by omega)
 have hm:((aH a.l).map eU).length=(aH a.l).length:=by simp
 have h0:=k8 (l:=a.l)
 have hz:=a.val_zero
 have hv:a.val=if a.neg then -(nv a.l:Int) else(nv a.l:Int):=rfl
 generalize aH a.l=T at *
 obtain⟨an,al⟩:=a
 simp only at *
 refine Ret.of_pwp layOk mixed Go.Proofs.Tryz.func177 rfl (by decide) rfl rfl ?_
 repeat refine aa rfl ?_
 refine ak rfl rfl rfl ht rfl rfl ?_
 repeat refine aa rfl ?_
 refine ab rfl ?_ ?_<;>intro h
 ·have h1:nv al=0:=h0.1 (by have:=of_decide_eq_true h;omega)
  rw[kC,if_pos (hz.2 h1)]
  repeat refine aa rfl ?_
  exact aO rfl rfl rfl
 ·have h1:nv al≠0:=by
   intro h1
   have h2:=of_decide_eq_false h
   have:=h0.2 h1
   omega
  rw[kC,if_neg (fun h=>h1 (hz.1 h))]
  clear h
  cases an
  ·rw[if_neg (by rw[hv];simp only[Bool.false_eq_true,if_false];omega)]
   repeat refine aa rfl ?_
   exact aO rfl rfl rfl
  ·rw[if_pos (by rw[hv];simp only[if_true];omega)]
   repeat refine aa rfl ?_
   exact aO rfl rfl rfl
def dn (x:RR):RI:=if nv x.d.l=0 then⟨false,[1]⟩ else x.d
theorem C_ (x:RR):(dn x).val=x.d.den:=by
 rw[dn,RI.den]
 split
 ·rfl
 ·rfl
theorem uu (x:RR):nv (dn x).l≠0:=by
 rw[dn]
 split
 ·decide
 ·assumption
theorem C9 {x:RR} {n:Nat} (h:x.d.l.length≤n) (hn:1≤n):(dn x).l.length≤n:=by
 rw[dn]
 split
 ·exact hn
 ·exact h
theorem RR.val_dn (x:RR):x.val=(x.n.val:Rat)/((dn x).val:Rat):=by rw[C_];rfl
set_option maxRecDepth 20000 in
theorem cO (x:RR) (hx:x.d.l.length≤300000000):Ret Tryz.prog .shared 128 [.agg (eR x)] (.agg (eI (dn x))):=by
 have hs:=kq x.d hx
 rw[dn]
 by_cases h0:nv x.d.l=0
 ·rw[if_pos h0]
  rw[kC,if_pos (x.d.val_zero.2 h0)]at hs
  refine Ret.of_pwp layOk mixed Go.Proofs.Tryz.func128 rfl (by decide) rfl rfl ?_
  repeat refine aa rfl ?_
  refine aP rfl rfl rfl hs rfl rfl rfl ?_
  repeat refine aa rfl ?_
  refine ar (be 0 rfl rfl rfl rfl rfl rfl rfl rfl rfl rfl rfl (by repeat' constructor) rfl ?_)
  repeat refine aa rfl ?_
  exact aF rfl rfl rfl
 ·rw[if_neg h0]
  have h1:kC x.d.val≠0:=by rw[kC,if_neg (fun h=>h0 (x.d.val_zero.1 h))];split<;>decide
  generalize kC x.d.val=v at *
  refine Ret.of_pwp layOk mixed Go.Proofs.Tryz.func128 rfl (by decide) rfl rfl ?_
  repeat refine aa rfl ?_
  refine aP rfl rfl rfl hs rfl rfl rfl ?_
  repeat refine aa rfl ?_
  refine ab rfl ?_ ?_<;>intro h
  ·exact absurd (of_decide_eq_true h) h1
  ·repeat refine aa rfl ?_
   exact aF rfl rfl rfl
theorem jq (x:RR) (hx:x.n.l.length≤300000000):Ret Tryz.prog .shared 126 [.agg (eR x)] (.bool (decide (x.val=0))):=by
 have hs:=kq x.n hx
 have e:decide (x.val=0)=decide (kC x.n.val=0):=by
  have h1:=x.n.val_zero
  by_cases h:nv x.n.l=0
  ·rw[decide_eq_true (x.zero_iff.2 h),kC,if_pos (h1.2 h)];rfl
  ·rw[decide_eq_false (fun h2=>h (x.zero_iff.1 h2)),kC,if_neg (fun h2=>h (h1.1 h2))]
   split<;>rfl
 rw[e]
 refine Ret.of_pwp layOk mixed Go.Proofs.Tryz.func126 rfl (by decide) rfl rfl ?_
 repeat refine aa rfl ?_
 refine aP rfl rfl rfl hs rfl rfl rfl ?_
 repeat refine aa rfl ?_
 exact bi rfl rfl rfl
theorem B5 (a b:Int) (hb:b≠0):kC a*kC b=if a=0 then 0 else if (a<0∧0<b)∨(0<a∧b<0) then -1 else 1:=by
 unfold kC
 rw[if_neg hb]
 by_cases h0:a=0
 ·rw[if_pos h0,if_pos h0];omega
 ·rw[if_neg h0,if_neg h0]
  split<;>split<;>split<;>omega
theorem uW (x:RR):sgn x.val=kC x.n.val*kC (dn x).val:=by
 have hd:(dn x).val≠0:=by rw[Ne,RI.val_zero];exact uu x
 rw[B5 _ _ hd,RR.val_dn]
 generalize x.n.val=a
 generalize (dn x).val=b at *
 have h:=(qb a b hd).2.2
 rw[sgn]
 have hq:(a:Rat)/(b:Rat)=0↔a=0:=by
  have hb:(b:Rat)≠0:=by exact_mod_cast hd
  constructor
  ·intro h
   have:(a:Rat)=0:=by grind
   exact_mod_cast this
  ·intro h;subst h;grind
 have hlt:(a:Rat)/(b:Rat)<0↔(a<0∧0<b)∨(0<a∧b<0):=by
  rw[←h]
  have h1:=Rat.num_nonneg (q:=(a:Rat)/(b:Rat))
  grind
 by_cases h0:a=0
 ·rw[if_pos h0,if_neg (by rw[hlt];omega),if_pos (hq.2 h0)]
 ·rw[if_neg h0]
  by_cases h1:(a<0∧0<b)∨(0<a∧b<0)
  ·rw[if_pos h1,if_pos (hlt.2 h1)]
  ·rw[if_neg h1,if_neg (fun h=>h1 (hlt.1 h)),if_neg (fun h=>h0 (hq.1 h))]
theorem lz (z:Int):(bO z).l=aq z.natAbs:=rfl
theorem RI.lt (a:RI):a.val.natAbs<65536^a.l.length:=by rw[RI.val_abs];exact bQ _
theorem bZ (a b:RI):(bO (a.val*b.val)).l.length≤a.l.length+b.l.length:=by
 rw[lz,Int.natAbs_mul]
 exact bU (ez a.lt b.lt)
theorem rH (a b:RI) {n:Nat} (ha:a.l.length≤n) (hb:b.l.length≤n):(bO (a.val+b.val)).l.length≤n+1:=by
 rw[lz]
 refine bU ?_
 have h1:=a.lt
 have h2:=b.lt
 have h3:=cz ha
 have h4:=cz hb
 rw[Nat.pow_succ]
 omega
theorem qH {A B:List UInt16} {n:Nat} (hA:A.length≤n) (hB:B.length≤n):(aq (nv A+nv B)).length≤n+1:=by
 refine bU ?_
 have h1:=bQ A
 have h2:=bQ B
 have h3:=cz hA
 have h4:=cz hB
 rw[Nat.pow_succ]
 omega
set_option maxRecDepth 20000 in
theorem ff (a b:RI) (ha:a.l.length≤90000000) (hb:b.l.length≤90000000):Ret Tryz.prog .shared 131 [.agg (eI a),.agg (eI b)] (.agg (eI (bO (a.val*b.val)))):=by
 have e:a.val*b.val=dB (a.neg != b.neg) (nv a.l*nv b.l):=by
  rw[a.val_sgz,b.val_sgz]
  cases a.neg<;>cases b.neg<;>simp[dB,Int.neg_mul,Int.mul_neg]
 have hl:=bZ a b
 rw[e]at hl ⊢
 have hta:=b6 a.l (by omega)
 have htb:=b6 b.l (by omega)
 have hla:=bG a.l
 have hlb:=bG b.l
 have ht:=xA (aH a.l) (aH b.l) (by omega) (by omega)
 rw[cq,cq]at ht
 have hs:=dq (a.neg != b.neg) (aq (nv a.l*nv b.l)) (by
  have:=bU (ez (bQ a.l) (bQ b.l));omega)
 rw[aD]at hs
 obtain⟨an,al⟩:=a
 obtain⟨bn,bl⟩:=b
 simp only at *
 generalize aH al=A at *
 generalize aH bl=B at *
 generalize aq (nv al*nv bl)=C at *
 generalize bO (dB (an != bn) (nv al*nv bl))=X at *
 refine Ret.of_pwp layOk mixed Go.Proofs.Tryz.func131 rfl (by decide) rfl rfl ?_
 repeat refine aa rfl ?_
 refine ah 13 [5,6,7,8,9,10,11,12,13,14,15,16,17] (by decide +kernel) ?_
 repeat refine aa rfl ?_
 refine ak rfl rfl rfl hta rfl rfl ?_
 repeat refine aa rfl ?_
 refine ak rfl rfl rfl htb rfl rfl ?_
 repeat refine aa rfl ?_
 refine ak rfl rfl rfl ht rfl rfl ?_
 repeat refine aa rfl ?_
 refine ak rfl rfl rfl hs rfl rfl ?_
 repeat refine aa rfl ?_
 exact aF rfl rfl rfl
set_option maxRecDepth 20000 in
theorem xX (a b:RI) (ha:a.l.length≤90000000) (hb:b.l.length≤90000000):Ret Tryz.prog .shared 130 [.agg (eI a),.agg (eI b)] (.agg (eI (bO (a.val+b.val)))):=by
 have hta:=b6 a.l (by omega)
 have htb:=b6 b.l (by omega)
 have hla:=bG a.l
 have hlb:=bG b.l
 have hA:=d_ a.l
 have hB:=d_ b.l
 have hnA:=cq a.l
 have hnB:=cq b.l
 rw[a.val_sgz,b.val_sgz]
 obtain⟨an,al⟩:=a
 obtain⟨bn,bl⟩:=b
 simp only at *
 rw[←hnA,←hnB]
 generalize aH al=A at *
 generalize aH bl=B at *
 have hp:=zE A B (by omega) (by omega)
 have hcm:=fC A B (by omega) (by omega)
 have hcs:=(eT hA hB).1
 have hlA:=cu A
 have hlB:=cu B
 have hlp:(aq (nv A+nv B)).length≤300000000:=by
  have:=qH (n:=100000000) (A:=A) (B:=B) (by omega) (by omega)
  omega
 by_cases hs:an=bn
 ·subst hs
  have hd:=dq an (aq (nv A+nv B)) hlp
  rw[aD]at hd
  have e:dB an (nv A)+dB an (nv B)=dB an (nv A+nv B):=by cases an<;>simp only[dB,Bool.false_eq_true,if_false,if_true]<;>omega
  rw[e]
  generalize aq (nv A+nv B)=C at *
  generalize bO (dB an (nv A+nv B))=X at *
  refine Ret.of_pwp layOk mixed Go.Proofs.Tryz.func130 rfl (by decide) rfl rfl ?_
  repeat refine aa rfl ?_
  refine ah 8 [7,8,9,10,11,12,5,6] (by decide +kernel) ?_
  repeat refine aa rfl ?_
  refine ak rfl rfl rfl hta rfl rfl ?_
  repeat refine aa rfl ?_
  refine ak rfl rfl rfl htb rfl rfl ?_
  repeat refine aa rfl ?_
  refine ab rfl ?_ ?_<;>intro h
  ·clear h
   repeat refine aa rfl ?_
   refine ah 6 [18,19,20,21,22,23] (by decide +kernel) ?_
   repeat refine aa rfl ?_
   refine ak rfl rfl rfl hp rfl rfl ?_
   repeat refine aa rfl ?_
   refine ak rfl rfl rfl hd rfl rfl ?_
   repeat refine aa rfl ?_
   exact aF rfl rfl rfl
  ·exfalso
   simp at h
 ·have hmA:nv B≤nv A→Ret Tryz.prog .shared 183 [.sl (A.map eU),.sl (B.map eU)] (.sl ((aq (nv A-nv B)).map eU)):=oz A B (by omega) (by omega)
  have hmB:nv A≤nv B→Ret Tryz.prog .shared 183 [.sl (B.map eU),.sl (A.map eU)] (.sl ((aq (nv B-nv A)).map eU)):=oz B A (by omega) (by omega)
  have hlm:(aq (nv A-nv B)).length≤300000000:=by have:=db (Nat.sub_le (nv A) (nv B));omega
  have hlm2:(aq (nv B-nv A)).length≤300000000:=by have:=db (Nat.sub_le (nv B) (nv A));omega
  have hdA:=dq an (aq (nv A-nv B)) hlm
  have hdB:=dq bn (aq (nv B-nv A)) hlm2
  rw[aD]at hdA hdB
  have eA:nv B≤nv A→dB an (nv A)+dB bn (nv B)=dB an (nv A-nv B):=by intro h;cases an<;>cases bn<;>simp_all only [dB,Bool.false_eq_true,if_false,if_true,not_true_eq_false,reduceCtorEq,not_false_eq_true]<;>omega
  have eB:nv A≤nv B→dB an (nv A)+dB bn (nv B)=dB bn (nv B-nv A):=by intro h;cases an<;>cases bn<;>simp_all only [dB,Bool.false_eq_true,if_false,if_true,not_true_eq_false,reduceCtorEq,not_false_eq_true]<;>omega
  generalize dB an (nv A)+dB bn (nv B)=Z at *
  generalize aq (nv A-nv B)=C at *
  generalize aq (nv B-nv A)=D at *
  generalize hX:bO (dB an (nv A-nv B))=X at *
  generalize hY:bO (dB bn (nv B-nv A))=Y at *
  refine Ret.of_pwp layOk mixed Go.Proofs.Tryz.func130 rfl (by decide) rfl rfl ?_
  repeat refine aa rfl ?_
  refine ah 8 [7,8,9,10,11,12,5,6] (by decide +kernel) ?_
  repeat refine aa rfl ?_
  refine ak rfl rfl rfl hta rfl rfl ?_
  repeat refine aa rfl ?_
  refine ak rfl rfl rfl htb rfl rfl ?_
  repeat refine aa rfl ?_
  refine ab rfl ?_ ?_<;>intro h
  ·exfalso
   simp at h
   exact hs h
  ·clear h
   repeat refine aa rfl ?_
   refine aP rfl rfl rfl hcm rfl rfl rfl ?_
   repeat refine aa rfl ?_
   refine ab rfl ?_ ?_<;>intro h
   ·have hge:nv B≤nv A:=by
     have h1:=of_decide_eq_true h
     omega
    clear h
    repeat refine aa rfl ?_
    refine ah 6 [28,29,30,31,32,33] (by decide +kernel) ?_
    repeat refine aa rfl ?_
    refine ak rfl rfl rfl (hmA hge) rfl rfl ?_
    repeat refine aa rfl ?_
    refine ak rfl rfl rfl hdA rfl rfl ?_
    repeat refine aa rfl ?_
    exact sZ rfl (by repeat' constructor) rfl (by repeat' constructor) (by rw[eA hge,hX];rfl)
   ·have hge:nv A≤nv B:=by
     have h1:=of_decide_eq_false h
     omega
    clear h
    repeat refine aa rfl ?_
    refine ah 6 [34,35,36,37,38,39] (by decide +kernel) ?_
    repeat refine aa rfl ?_
    refine ak rfl rfl rfl (hmB hge) rfl rfl ?_
    repeat refine aa rfl ?_
    refine ak rfl rfl rfl hdB rfl rfl ?_
    repeat refine aa rfl ?_
    exact sZ rfl (by repeat' constructor) rfl (by repeat' constructor) (by rw[eB hge,hY];rfl)
theorem eM {x:RR} {n:Nat} (h:x.d.l.length≤n):(dn x).l.length≤n+1:=C9 (by omega) (by omega)
theorem jm (x:RR):(dn x).val≠0:=by rw[Ne,RI.val_zero];exact uu x
theorem tm {z:Int} (h:z≠0):nv (bO z).l≠0:=by rw[lz,aD];omega
theorem pX (a:RI):Ret Tryz.prog .shared 176 [.agg (eI a)] (.agg (eI ⟨!a.neg,a.l⟩)):=by
 obtain⟨an,al⟩:=a
 refine Ret.of_pwp layOk mixed Go.Proofs.Tryz.func176 rfl (by decide) rfl rfl ?_
 repeat refine aa rfl ?_
 exact aF rfl rfl rfl
theorem mT (x:RR) (hn:x.n.l.length≤80000000) (hd:x.d.l.length≤80000000):Ret Tryz.prog .shared 127 [.agg (eR x)] (.agg (eR (ofQ x.val))):=by
 have hb:=cO x (by omega)
 have hf:=cP x.n (dn x) (by omega) (by have:=eM hd;omega) (uu x)
 rw[←RR.val_dn]at hf
 generalize dn x=D at *
 generalize ofQ x.val=X at *
 refine Ret.of_pwp layOk mixed Go.Proofs.Tryz.func127 rfl (by decide) rfl rfl ?_
 repeat refine aa rfl ?_
 refine ah 5 [3,4,5,6,7] (by decide +kernel) ?_
 repeat refine aa rfl ?_
 refine ak rfl rfl rfl hb rfl rfl ?_
 repeat refine aa rfl ?_
 refine ak rfl rfl rfl hf rfl rfl ?_
 repeat refine aa rfl ?_
 exact aF rfl rfl rfl
theorem pT (x:RR) (hn:x.n.l.length≤80000000) (hd:x.d.l.length≤80000000):Ret Tryz.prog .shared 122 [.agg (eR x)] (.agg (eR (ofQ (-x.val)))):=by
 have hb:=cO x (by omega)
 have ho:=pX x.n
 have hf:=cP ⟨!x.n.neg,x.n.l⟩ (dn x) (by simp only;omega) (by have:=eM hd;omega) (uu x)
 have e:(RI.mk (!x.n.neg) x.n.l).val = -x.n.val:=by unfold RI.val;cases x.n.neg<;>simp
 rw[e,←BV,←RR.val_dn]at hf
 generalize dn x=D at *
 generalize ofQ (-x.val)=X at *
 generalize RI.mk (!x.n.neg) x.n.l=N at *
 refine Ret.of_pwp layOk mixed Go.Proofs.Tryz.func122 rfl (by decide) rfl rfl ?_
 repeat refine aa rfl ?_
 refine ah 6 [3,4,5,6,7,8] (by decide +kernel) ?_
 repeat refine aa rfl ?_
 refine ak rfl rfl rfl ho rfl rfl ?_
 repeat refine aa rfl ?_
 refine ak rfl rfl rfl hb rfl rfl ?_
 repeat refine aa rfl ?_
 refine ak rfl rfl rfl hf rfl rfl ?_
 repeat refine aa rfl ?_
 exact aF rfl rfl rfl
theorem qG (x y:RR) (hxn:x.n.l.length≤20000000) (hxd:x.d.l.length≤20000000) (hyn:y.n.l.length≤20000000) (hyd:y.d.l.length≤20000000):Ret Tryz.prog .shared 66 [.agg (eR x),.agg (eR y)] (.agg (eR (ofQ (x.val+y.val)))):=by
 have hzx:=jq x (by omega)
 have hzy:=jq y (by omega)
 have hlx:=mT x (by omega) (by omega)
 have hly:=mT y (by omega) (by omega)
 have hbx:=cO x (by omega)
 have hby:=cO y (by omega)
 have hdx:=eM hxd
 have hdy:=eM hyd
 have l1:=bZ x.n (dn y)
 have l2:=bZ y.n (dn x)
 have l3:=bZ (dn x) (dn y)
 have m1:=ff x.n (dn y) (by omega) (by omega)
 have m2:=ff y.n (dn x) (by omega) (by omega)
 have m3:=ff (dn x) (dn y) (by omega) (by omega)
 have l4:=rH (bO (x.n.val*(dn y).val)) (bO (y.n.val*(dn x).val)) (n:=45000000) (by omega) (by omega)
 have m4:=xX (bO (x.n.val*(dn y).val)) (bO (y.n.val*(dn x).val)) (by omega) (by omega)
 rw[bM,bM]at m4 l4
 have m5:=cP (bO (x.n.val*(dn y).val+y.n.val*(dn x).val)) (bO ((dn x).val*(dn y).val)) (by omega) (by omega) (tm (Int.mul_ne_zero (jm x) (jm y)))
 rw[bM,bM,←p8 _ _ _ _ (jm x) (jm y),←RR.val_dn,←RR.val_dn]at m5
 have e0:x.val=0→ofQ (x.val+y.val)=ofQ y.val:=fun h=>by rw[h,Rat.zero_add]
 have e1:y.val=0→ofQ (x.val+y.val)=ofQ x.val:=fun h=>by rw[h,Rat.add_zero]
 generalize bO (x.n.val*(dn y).val+y.n.val*(dn x).val)=W5 at *
 generalize bO (x.n.val*(dn y).val)=W1 at *
 generalize bO (y.n.val*(dn x).val)=W2 at *
 generalize bO ((dn x).val*(dn y).val)=W3 at *
 generalize dn x=A at *
 generalize dn y=B at *
 generalize ofQ (x.val+y.val)=X at *
 generalize ofQ x.val=X1 at *
 generalize ofQ y.val=X2 at *
 generalize x.val=xv at *
 generalize y.val=yv at *
 refine Ret.of_pwp layOk mixed Go.Proofs.Tryz.func66 rfl (by decide) rfl rfl ?_
 repeat refine aa rfl ?_
 refine aP rfl rfl rfl hzx rfl rfl rfl ?_
 repeat refine aa rfl ?_
 refine ab rfl ?_ ?_<;>intro h
 ·have e:=e0 (of_decide_eq_true h)
  subst e
  clear h
  repeat refine aa rfl ?_
  refine ak rfl rfl rfl hly rfl rfl ?_
  repeat refine aa rfl ?_
  exact aF rfl rfl rfl
 clear h
 repeat refine aa rfl ?_
 refine aP rfl rfl rfl hzy rfl rfl rfl ?_
 repeat refine aa rfl ?_
 refine ab rfl ?_ ?_<;>intro h
 ·have e:=e1 (of_decide_eq_true h)
  subst e
  clear h
  repeat refine aa rfl ?_
  refine ak rfl rfl rfl hlx rfl rfl ?_
  repeat refine aa rfl ?_
  exact aF rfl rfl rfl
 clear h
 repeat refine aa rfl ?_
 refine aU 4 2 [15,16,17,18,5,6] [] (by decide +kernel) rfl ?_
 repeat refine aa rfl ?_
 refine ak rfl rfl rfl hbx rfl rfl ?_
 repeat refine aa rfl ?_
 refine ak rfl rfl rfl hby rfl rfl ?_
 repeat refine aa rfl ?_
 refine ah 13 [19,20,21,22,23,24,25,26,27,28,29,30,31] (by decide +kernel) ?_
 repeat refine aa rfl ?_
 refine ak rfl rfl rfl m1 rfl rfl ?_
 repeat refine aa rfl ?_
 refine ak rfl rfl rfl m2 rfl rfl ?_
 repeat refine aa rfl ?_
 refine ak rfl rfl rfl m4 rfl rfl ?_
 repeat refine aa rfl ?_
 refine ak rfl rfl rfl m3 rfl rfl ?_
 repeat refine aa rfl ?_
 refine ak rfl rfl rfl m5 rfl rfl ?_
 repeat refine aa rfl ?_
 exact aF rfl rfl rfl
theorem dp {q:Rat} {n:Nat} (h:hq q n):(ofQ q).n.l.length≤n∧(ofQ q).d.l.length≤n:=(i_ h).ok
theorem et (x y:RR) {p q:Rat} {n m:Nat} [hx:Vq x p n] [hy:Vq y q m] (hn:n≤20000000) (hm:m≤20000000):Ret Tryz.prog .shared 66 [.agg (eR x),.agg (eR y)] (.agg (eR (ofQ (p+q)))):=by
 have h1:=hx.sz
 have h2:=hy.sz
 have:=qG x y (by omega) (by omega) (by omega) (by omega)
 rwa [hx.val,hy.val]at this
theorem zk {x:RR} {n:Nat} (h1:x.n.l.length≤n) (h2:x.d.l.length≤n):(ofQ (-x.val)).n.l.length≤n+1∧(ofQ (-x.val)).d.l.length≤n+1 :=
 dp (mK (SZ.hq (x:=x) ⟨h1,h2⟩))
theorem Az (x y:RR) (hxn:x.n.l.length≤10000000) (hxd:x.d.l.length≤10000000) (hyn:y.n.l.length≤10000000) (hyd:y.d.l.length≤10000000):Ret Tryz.prog .shared 62 [.agg (eR x),.agg (eR y)] (.agg (eR (ofQ (x.val-y.val)))):=by
 have hneg:=pT y (by omega) (by omega)
 have hl:=zk hyn hyd
 have ha:=qG x (ofQ (-y.val)) (by omega) (by omega) (by omega) (by omega)
 rw[ofQ_val,←Rat.sub_eq_add_neg]at ha
 generalize ofQ (-y.val)=Y at *
 generalize ofQ (x.val-y.val)=X at *
 refine Ret.of_pwp layOk mixed Go.Proofs.Tryz.func62 rfl (by decide) rfl rfl ?_
 repeat refine aa rfl ?_
 refine ah 4 [5,6,7,8] (by decide +kernel) ?_
 repeat refine aa rfl ?_
 refine ak rfl rfl rfl hneg rfl rfl ?_
 repeat refine aa rfl ?_
 refine ak rfl rfl rfl ha rfl rfl ?_
 repeat refine aa rfl ?_
 exact aF rfl rfl rfl
theorem k7 (x y:RR) {p q:Rat} {n m:Nat} [hx:Vq x p n] [hy:Vq y q m] (hn:n≤10000000) (hm:m≤10000000):Ret Tryz.prog .shared 62 [.agg (eR x),.agg (eR y)] (.agg (eR (ofQ (p-q)))):=by
 have h1:=hx.sz
 have h2:=hy.sz
 have:=Az x y (by omega) (by omega) (by omega) (by omega)
 rwa [hx.val,hy.val]at this
theorem zd (x y:RR) (hxn:x.n.l.length≤20000000) (hxd:x.d.l.length≤20000000) (hyn:y.n.l.length≤20000000) (hyd:y.d.l.length≤20000000):Ret Tryz.prog .shared 67 [.agg (eR x),.agg (eR y)] (.agg (eR (ofQ (x.val*y.val)))):=by
 have hbx:=cO x (by omega)
 have hby:=cO y (by omega)
 have hdx:=eM hxd
 have hdy:=eM hyd
 have l1:=bZ x.n y.n
 have l3:=bZ (dn x) (dn y)
 have m1:=ff x.n y.n (by omega) (by omega)
 have m3:=ff (dn x) (dn y) (by omega) (by omega)
 have m5:=cP (bO (x.n.val*y.n.val)) (bO ((dn x).val*(dn y).val)) (by omega) (by omega) (tm (Int.mul_ne_zero (jm x) (jm y)))
 rw[bM,bM,←p_,←RR.val_dn,←RR.val_dn]at m5
 generalize bO (x.n.val*y.n.val)=W1 at *
 generalize bO ((dn x).val*(dn y).val)=W3 at *
 generalize dn x=A at *
 generalize dn y=B at *
 generalize ofQ (x.val*y.val)=X at *
 refine Ret.of_pwp layOk mixed Go.Proofs.Tryz.func67 rfl (by decide) rfl rfl ?_
 repeat refine aa rfl ?_
 refine ah 11 [5,6,7,8,9,10,11,12,13,14,15] (by decide +kernel) ?_
 repeat refine aa rfl ?_
 refine ak rfl rfl rfl m1 rfl rfl ?_
 repeat refine aa rfl ?_
 refine ak rfl rfl rfl hbx rfl rfl ?_
 repeat refine aa rfl ?_
 refine ak rfl rfl rfl hby rfl rfl ?_
 repeat refine aa rfl ?_
 refine ak rfl rfl rfl m3 rfl rfl ?_
 repeat refine aa rfl ?_
 refine ak rfl rfl rfl m5 rfl rfl ?_
 repeat refine aa rfl ?_
 exact aF rfl rfl rfl
theorem fR (x y:RR) {p q:Rat} {n m:Nat} [hx:Vq x p n] [hy:Vq y q m] (hn:n≤20000000) (hm:m≤20000000):Ret Tryz.prog .shared 67 [.agg (eR x),.agg (eR y)] (.agg (eR (ofQ (p*q)))):=by
 have h1:=hx.sz
 have h2:=hy.sz
 have:=zd x y (by omega) (by omega) (by omega) (by omega)
 rwa [hx.val,hy.val]at this
theorem wE (x y:RR) (hxn:x.n.l.length≤20000000) (hxd:x.d.l.length≤20000000) (hyn:y.n.l.length≤20000000) (hyd:y.d.l.length≤20000000) (h0:y.val≠0):Ret Tryz.prog .shared 175 [.agg (eR x),.agg (eR y)] (.agg (eR (ofQ (x.val/y.val)))):=by
 have hbx:=cO x (by omega)
 have hby:=cO y (by omega)
 have hdx:=eM hxd
 have hdy:=eM hyd
 have hy0:y.n.val≠0:=by rw[Ne,RI.val_zero,←RR.zero_iff];exact h0
 have l1:=bZ x.n (dn y)
 have l3:=bZ (dn x) y.n
 have m1:=ff x.n (dn y) (by omega) (by omega)
 have m3:=ff (dn x) y.n (by omega) (by omega)
 have m5:=cP (bO (x.n.val*(dn y).val)) (bO ((dn x).val*y.n.val)) (by omega) (by omega) (tm (Int.mul_ne_zero (jm x) hy0))
 rw[bM,bM,←p9,←RR.val_dn,←RR.val_dn]at m5
 generalize bO (x.n.val*(dn y).val)=W1 at *
 generalize bO ((dn x).val*y.n.val)=W3 at *
 generalize dn x=A at *
 generalize dn y=B at *
 generalize ofQ (x.val/y.val)=X at *
 refine Ret.of_pwp layOk mixed Go.Proofs.Tryz.func175 rfl (by decide) rfl rfl ?_
 repeat refine aa rfl ?_
 refine ah 11 [5,6,7,8,9,10,11,12,13,14,15] (by decide +kernel) ?_
 repeat refine aa rfl ?_
 refine ak rfl rfl rfl hby rfl rfl ?_
 repeat refine aa rfl ?_
 refine ak rfl rfl rfl m1 rfl rfl ?_
 repeat refine aa rfl ?_
 refine ak rfl rfl rfl hbx rfl rfl ?_
 repeat refine aa rfl ?_
 refine ak rfl rfl rfl m3 rfl rfl ?_
 repeat refine aa rfl ?_
 refine ak rfl rfl rfl m5 rfl rfl ?_
 repeat refine aa rfl ?_
 exact aF rfl rfl rfl
theorem Eh (x y:RR) {p q:Rat} {n m:Nat} [hx:Vq x p n] [hy:Vq y q m] (hn:n≤20000000) (hm:m≤20000000) (h0:q≠0):Ret Tryz.prog .shared 175 [.agg (eR x),.agg (eR y)] (.agg (eR (ofQ (p/q)))):=by
 have h1:=hx.sz
 have h2:=hy.sz
 have:=wE x y (by omega) (by omega) (by omega) (by omega) (by rw[hy.val];exact h0)
 rwa [hx.val,hy.val]at this
theorem nB (x:RR) (hn:x.n.l.length≤20000000) (hd:x.d.l.length≤20000000):Ret Tryz.prog .shared 123 [.agg (eR x)] (I (sgn x.val)):=by
 have hb:=cO x (by omega)
 have h1:=kq x.n (by omega)
 have h2:=kq (dn x) (by have:=eM hd;omega)
 rw[uW]
 have hw:IntKind.i64.wrap (kC x.n.val*kC (dn x).val)=kC x.n.val*kC (dn x).val:=by
  refine wrap_i64 ?_ ?_<;>(unfold kC;split<;>split<;>(try split)<;>(try split)<;>omega)
 generalize kC x.n.val=s1 at *
 generalize kC (dn x).val=s2 at *
 generalize dn x=D at *
 refine Ret.of_pwp layOk mixed Go.Proofs.Tryz.func123 rfl (by decide) rfl rfl ?_
 repeat refine aa rfl ?_
 refine ah 8 [3,4,5,6,7,8,9,2] (by decide +kernel) ?_
 repeat refine aa rfl ?_
 refine aP rfl rfl rfl h1 rfl rfl rfl ?_
 repeat refine aa rfl ?_
 refine ak rfl rfl rfl hb rfl rfl ?_
 repeat refine aa rfl ?_
 refine aP rfl rfl rfl h2 rfl rfl rfl ?_
 repeat refine aa rfl ?_
 rw[hw]
 exact aO rfl rfl rfl
theorem CF (x:RR) {p:Rat} {n:Nat} [hx:Vq x p n] (hn:n≤20000000):Ret Tryz.prog .shared 123 [.agg (eR x)] (I (sgn p)):=by
 have h1:=hx.sz
 have:=nB x (by omega) (by omega)
 rwa [hx.val]at this
theorem uA (x:RR) {p:Rat} {n:Nat} [hx:Vq x p n] (hn:n≤20000000):Ret Tryz.prog .shared 126 [.agg (eR x)] (.bool (decide (p=0))):=by
 have h1:=hx.sz
 have:=jq x (by omega)
 rwa [hx.val]at this
theorem pz (x y:RR) {p q:Rat} {n m:Nat} [hx:Vq x p n] [hy:Vq y q m] (hn:n≤8000000) (hm:m≤8000000):Ret Tryz.prog .shared 63 [.agg (eR x),.agg (eR y)] (I (sgn (p-q))):=by
 have h1:=hx.sz
 have h2:=hy.sz
 have hs:=k7 x y (by omega) (by omega)
 have hh:hq (p-q) (n+1+(m+1)+1):=(HQ.sub (h1:=hx.hq) (h2:=hy.hq)).ok
 have hl:=dp hh
 have hg:=nB (ofQ (p-q)) (by omega) (by omega)
 rw[ofQ_val]at hg
 generalize ofQ (p-q)=X at *
 generalize sgn (p-q)=g at *
 refine Ret.of_pwp layOk mixed Go.Proofs.Tryz.func63 rfl (by decide) rfl rfl ?_
 repeat refine aa rfl ?_
 refine ak rfl rfl rfl hs rfl rfl ?_
 repeat refine aa rfl ?_
 refine aP rfl rfl rfl hg rfl rfl rfl ?_
 repeat refine aa rfl ?_
 exact aO rfl rfl rfl
theorem zO (x y:RR) {p q:Rat} {n m:Nat} [hx:Vq x p n] [hy:Vq y q m] (hn:n≤20000000) (hm:m≤20000000):Ret Tryz.prog .shared 121 [.agg (eR x),.agg (eR y)] (if q=0 then .tup [.agg (eR RR.zero),I 9] else .tup [.agg (eR (ofQ (p/q))),I 0]):=by
 have hz:=uA y hm
 by_cases h0:q=0
 ·rw[if_pos h0]
  rw[decide_eq_true h0]at hz
  refine Ret.of_pwp layOk mixed Go.Proofs.Tryz.func121 rfl (by decide) rfl rfl ?_
  repeat refine aa rfl ?_
  refine aP rfl rfl rfl hz rfl rfl rfl ?_
  ((repeat ((fail_if_success (with_reducible refine jA ?_));refine dh rfl ?_));refine ay (Ghost.nilcell (k:=1007) (k0:=4) (i:=0) (j:=1) 177 1 0 rfl rfl rfl rfl (row:=[.bool false,.nil,.bool false,.nil]) rfl rfl rfl) ?_;refine ay (Ghost.nilcell (k:=1021) (k0:=4) (i:=0) (j:=3) 177 1 0 rfl rfl rfl rfl (row:=[.bool false,_,.bool false,.nil]) rfl rfl rfl) ?_)
  repeat refine aa rfl ?_
  exact aF rfl rfl rfl
 ·rw[if_neg h0]
  rw[decide_eq_false h0]at hz
  have ho:=Eh x y hn hm h0
  generalize ofQ (p/q)=X at *
  refine Ret.of_pwp layOk mixed Go.Proofs.Tryz.func121 rfl (by decide) rfl rfl ?_
  repeat refine aa rfl ?_
  refine aP rfl rfl rfl hz rfl rfl rfl ?_
  repeat refine aa rfl ?_
  refine ak rfl rfl rfl ho rfl rfl ?_
  repeat refine aa rfl ?_
  exact aF rfl rfl rfl
theorem mZ {z:Int} (h:z.natAbs<18446744073709551616):(bO z).l.length≤4:=by
 rw[lz]
 refine bU ?_
 have:(65536:Nat)^4=18446744073709551616:=by decide
 omega
theorem lK (z:Int):IntKind.u64.wrap z=z%18446744073709551616:=by
 have e:(2:Int)^64=18446744073709551616:=by decide
 simp only[IntKind.wrap,IntKind.bits,IntKind.signed,Bool.false_and,Bool.false_eq_true,if_false,e]
theorem sE {z:Int} (h0 : -9223372036854775808≤z) (h1:z<0):IntKind.u64.wrap (0-(IntKind.u64.wrap z))=((z.natAbs:Nat):Int):=by
 rw[lK,lK]
 omega
set_option maxRecDepth 20000 in
theorem zp (z:Int) (h0 : -9223372036854775808≤z) (h1:z≤9223372036854775807):Ret Tryz.prog .shared 119 [I z] (.agg (eI (bO z))):=by
 have hn:=ly z.natAbs (by omega)
 have hl:=mZ (z:=z) (by omega)
 rw[lz]at hl
 have hs:=dq (decide (z<0)) (aq z.natAbs) (by omega)
 rw[aD]at hs
 have e:dB (decide (z<0)) z.natAbs=z:=by
  by_cases h:z<0
  ·rw[decide_eq_true h,dB,if_pos rfl];omega
  ·rw[decide_eq_false h,dB,if_neg (by decide)];omega
 rw[e]at hs
 generalize bO z=X at *
 by_cases hz:z<0
 ·have hw:=sE h0 hz
  rw[decide_eq_true hz]at hs
  generalize aq z.natAbs=A at *
  refine Ret.of_pwp layOk mixed Go.Proofs.Tryz.func119 rfl (by decide) rfl rfl ?_
  repeat refine aa rfl ?_
  refine ab rfl ?_ ?_<;>intro h
  ·clear h
   repeat refine aa rfl ?_
   rw[hw]
   refine ak rfl rfl rfl hn rfl rfl ?_
   repeat refine aa rfl ?_
   refine ak rfl rfl rfl hs rfl rfl ?_
   repeat refine aa rfl ?_
   exact aF rfl rfl rfl
  ·exact absurd hz (of_decide_eq_false h)
 ·have hw:IntKind.u64.wrap z=((z.natAbs:Nat):Int):=by
   rw[wrap_u64 (by omega) (by omega)];omega
  rw[decide_eq_false hz]at hs
  generalize aq z.natAbs=A at *
  refine Ret.of_pwp layOk mixed Go.Proofs.Tryz.func119 rfl (by decide) rfl rfl ?_
  repeat refine aa rfl ?_
  refine ab rfl ?_ ?_<;>intro h
  ·exact absurd (of_decide_eq_true h) hz
  ·clear h
   repeat refine aa rfl ?_
   rw[hw]
   refine ak rfl rfl rfl hn rfl rfl ?_
   repeat refine aa rfl ?_
   refine ak rfl rfl rfl hs rfl rfl ?_
   repeat refine aa rfl ?_
   exact aF rfl rfl rfl
theorem o_ (a:RI) (ha:a.l.length≤90000000):Ret Tryz.prog .shared 118 [.agg (eI a)] (.agg (eR (ofQ (a.val:Rat)))):=by
 have hf:=cP a ⟨false,[1]⟩ ha (by decide) (by decide)
 rw[show(RI.mk false [1]).val=1 by rfl]at hf
 rw[show((a.val:Rat)/((1:Int):Rat))=(a.val:Rat) by grind]at hf
 generalize ofQ (a.val:Rat)=X at *
 refine Ret.of_pwp layOk mixed Go.Proofs.Tryz.func118 rfl (by decide) rfl rfl ?_
 repeat refine aa rfl ?_
 refine bH rfl rfl (c8 rfl rfl rfl rfl rfl rfl rfl rfl rfl rfl (by repeat' constructor) rfl) ?_
 repeat refine aa rfl ?_
 refine ak rfl rfl rfl hf rfl rfl ?_
 repeat refine aa rfl ?_
 exact aF rfl rfl rfl
theorem d5 (z:Int) (h0 : -9223372036854775808≤z) (h1:z≤9223372036854775807):Ret Tryz.prog .shared 174 [I z] (.agg (eR (ofQ (z:Rat)))):=by
 have ho:=zp z h0 h1
 have hw:=o_ (bO z) (by have:=mZ (z:=z) (by omega);omega)
 rw[bM]at hw
 generalize ofQ (z:Rat)=X at *
 generalize bO z=Z at *
 refine Ret.of_pwp layOk mixed Go.Proofs.Tryz.func174 rfl (by decide) rfl rfl ?_
 repeat refine aa rfl ?_
 refine ak rfl rfl rfl ho rfl rfl ?_
 repeat refine aa rfl ?_
 refine ak rfl rfl rfl hw rfl rfl ?_
 repeat refine aa rfl ?_
 exact aF rfl rfl rfl
def cC (l:List UInt16) (i:Nat):Nat:=(l.getD i 0).toNat
theorem dj (l:List UInt16) (i:Nat):cC l i<65536:=aR _
theorem yr {l:List UInt16} {i:Nat} (h:l.length≤i):cC l i=0:=by
 rw[cC,List.getD_eq_getElem?_getD,List.getElem?_eq_none h];rfl
theorem oD (l:List UInt16) (i:Nat):nv (l.take (i+1))=nv (l.take i)+65536^i*cC l i:=by
 rcases Nat.lt_or_ge i l.length with h|h
 ·exact cG (bW h)
 ·rw[yr h,List.take_of_length_le h,List.take_of_length_le (by omega)];omega
structure RPlus (A B:List UInt16) (q:Nat × List UInt16 × Nat):Prop where
 l:q.2.1.length=q.1
 c:q.2.2≤1
 k:q.1≤A.length+B.length+1
 v:nv q.2.1+65536^q.1*q.2.2=nv (A.take q.1)+nv (B.take q.1)
theorem tF {A B:List UInt16} {k:Nat} {L:List UInt16} {c:Nat} (h:RPlus A B (k,L,c)) (hk:k<A.length∨k<B.length∨0<c) :
  RPlus A B (k+1,L++[UInt16.ofNat (cC A k+cC B k+c)],(cC A k+cC B k+c)/65536)∧k<A.length+B.length+1:=by
 obtain⟨h1,h2,h3,h4⟩:=h
 simp only at h1 h2 h3 h4
 have hx:=dj A k
 have hy:=dj B k
 have hkk:k<A.length+B.length+1:=by
  rcases Nat.lt_or_ge k (A.length+B.length+1) with g|g
  ·exact g
  ·exfalso
   have hc:0<c:=by omega
   have e1:=bQ A
   have e2:=bQ B
   rw[List.take_of_length_le (l:=A) (by omega),List.take_of_length_le (l:=B) (by omega)]at h4
   have p1:65536^A.length*65536≤65536^k:=by rw[←Nat.pow_succ];exact Nat.pow_le_pow_right (by decide) (by omega)
   have p2:65536^B.length*65536≤65536^k:=by rw[←Nat.pow_succ];exact Nat.pow_le_pow_right (by decide) (by omega)
   have p3:65536^k*1≤65536^k*c:=Nat.mul_le_mul_left _ hc
   omega
 refine⟨⟨by simp[h1],by simp only;omega,by simp only;omega,?_⟩,hkk⟩
 simp only
 rw[lZ,oD A,oD B,h1,aN,Nat.pow_succ]
 have e:(cC A k+cC B k+c)%65536+65536*((cC A k+cC B k+c)/65536)=cC A k+cC B k+c:=Nat.mod_add_div _ _
 generalize (cC A k+cC B k+c)%65536=m at *
 generalize (cC A k+cC B k+c)/65536=d at *
 generalize 65536^k=W at *
 have:W*(m+65536*d)=W*(cC A k+cC B k+c):=by rw[e]
 simp only[Nat.mul_add]at this
 rw[Nat.mul_assoc]
 omega
theorem wW {A B:List UInt16} {k:Nat} {L:List UInt16} {c:Nat} (h:RPlus A B (k,L,c)) (hk:¬(k<A.length∨k<B.length∨0<c)):nv L=nv A+nv B:=by
 obtain⟨h1,h2,h3,h4⟩:=h
 simp only at h1 h2 h3 h4
 rw[List.take_of_length_le (l:=A) (by omega),List.take_of_length_le (l:=B) (by omega),show c=0 by omega]at h4
 omega
structure RMin (A B:List UInt16) (q:Nat × List UInt16 × Nat):Prop where
 l:q.2.1.length=q.1
 c:q.2.2≤1
 k:q.1≤A.length
 v:nv q.2.1+nv (B.take q.1)=nv (A.take q.1)+65536^q.1*q.2.2
def xL (x y c:Nat):Nat:=if x<y+c then x+65536-y-c else x-y-c
def B1 (x y c:Nat):Nat:=if x<y+c then 1 else 0
theorem CC {x y c:Nat} (hx:x<65536) (hy:y<65536) (hc:c≤1):xL x y c+y+c=x+65536*B1 x y c∧xL x y c<65536∧B1 x y c≤1:=by
 unfold xL B1;split<;>omega
theorem wR {A B:List UInt16} {k:Nat} {L:List UInt16} {c:Nat} (h:RMin A B (k,L,c)) (hk:k<A.length) :
  RMin A B (k+1,L++[UInt16.ofNat (xL (cC A k) (cC B k) c)],B1 (cC A k) (cC B k) c):=by
 obtain⟨h1,h2,h3,h4⟩:=h
 simp only at h1 h2 h3 h4
 obtain⟨e,e2,e3⟩:=CC (dj A k) (dj B k) h2
 refine⟨by simp[h1],e3,hk,?_⟩
 simp only
 rw[lZ,oD A,oD B,h1,aN,Nat.mod_eq_of_lt e2,Nat.pow_succ]
 generalize xL (cC A k) (cC B k) c=m at *
 generalize B1 (cC A k) (cC B k) c=d at *
 generalize 65536^k=W at *
 have:W*(m+cC B k+c)=W*(cC A k+65536*d):=by rw[e]
 simp only[Nat.mul_add]at this
 rw[Nat.mul_assoc]
 omega
theorem zY {A B L:List UInt16} {c:Nat} (h:RMin A B (A.length,L,c)) (hle:nv B≤nv A):nv L=nv A-nv B:=by
 obtain⟨h1,h2,h3,h4⟩:=h
 simp only at h1 h2 h3 h4
 rw[List.take_length]at h4
 have e1:=bQ L
 rw[h1]at e1
 have e2:=tk B A.length
 have e3:nv (B.take A.length)=nv B∧c=0:=by
  have e4:65536^A.length≠0:=Nat.ne_of_gt (jz _)
  have hc:c=0:=by
   rcases Nat.eq_zero_or_pos c with g|g
   ·exact g
   ·have:c=1:=by omega
    subst this
    have:=d6 B A.length
    omega
  refine⟨?_,hc⟩
  subst hc
  rcases Nat.lt_or_ge A.length B.length with g|g
  ·have e5:=cn B A.length (by omega)
   have e6:=bQ A
   rcases Nat.eq_zero_or_pos (nv (B.drop A.length)) with g2|g2
   ·rw[g2]at e5;omega
   ·have:65536^A.length*1≤65536^A.length*nv (B.drop A.length):=Nat.mul_le_mul_left _ g2
    omega
  ·rw[List.take_of_length_le g]
 rw[e3.1,e3.2]at h4
 omega
structure RTimO (A B:List UInt16) (q:Nat × List UInt16):Prop where
 i:q.1≤A.length
 l:q.2.length=A.length+B.length+1
 v:nv q.2=nv (A.take q.1)*nv B
structure RTimI (A B:List UInt16) (i:Nat) (q:Nat × List UInt16 × Nat):Prop where
 k:q.1≤B.length+1
 l:q.2.1.length=A.length+B.length+1
 c:q.2.2<65536
 v:nv q.2.1+65536^(i+q.1)*q.2.2=nv (A.take i)*nv B+65536^i*(cC A i*nv (B.take q.1))
theorem tJ {A B:List UInt16} {i:Nat} {R:List UInt16} (h:RTimO A B (i,R)):RTimI A B i (0,R,0):=⟨Nat.zero_le _,h.l,Nat.zero_lt_succ _,by
 have:=h.v
 simp only at this ⊢
 rw[List.take_zero,nv];omega⟩
theorem Dn {A B:List UInt16} {i k:Nat} {R:List UInt16} {c:Nat} (h:RTimI A B i (k,R,c)) (hk:k<B.length∨0<c):k≤B.length:=by
 rcases hk with hk|hk
 ·omega
 ·obtain⟨h1,h2,h3,h4⟩:=h
  simp only at h1 h2 h3 h4
  rcases Nat.lt_or_ge B.length k with g|g
  ·exfalso
   rw[List.take_of_length_le (l:=B) (by omega)]at h4
   have e1:=d6 A i
   have e2:=dj A i
   have e3:=bQ B
   have e4:nv (A.take i)*nv B+65536^i*(cC A i*nv B)=(nv (A.take i)+65536^i*cC A i)*nv B:=by rw[Nat.add_mul,Nat.mul_assoc]
   have e5:nv (A.take i)+65536^i*cC A i<65536^(i+1):=by
    have:65536^i*cC A i≤65536^i*65535:=Nat.mul_le_mul_left _ (by omega)
    rw[Nat.pow_succ];omega
   have e6:(nv (A.take i)+65536^i*cC A i)*nv B<65536^(i+1+B.length):=ez e5 e3
   have e7:65536^(i+1+B.length)≤65536^(i+k):=Nat.pow_le_pow_right (by decide) (by omega)
   have e8:65536^(i+k)*1≤65536^(i+k)*c:=Nat.mul_le_mul_left _ hk
   omega
  ·exact g
theorem w_ {A B:List UInt16} {i k:Nat} {R:List UInt16} {c:Nat} {r:UInt16} (h:RTimI A B i (k,R,c)) (hkB:k≤B.length) (hr:R[i+k]? = some r) :
  RTimI A B i (k+1,R.set (i+k) (UInt16.ofNat (r.toNat+cC A i*cC B k+c)),(r.toNat+cC A i*cC B k+c)/65536):=by
 obtain⟨h1,h2,h3,h4⟩:=h
 simp only at h1 h2 h3 h4
 have hx:=dj A i
 have hyl:=dj B k
 have hrl:=aR r
 have hm:=rA hx hyl
 refine⟨by simp only;omega,by simp[h2],by simp only;omega,?_⟩
 simp only
 have hs:=zg hr (UInt16.ofNat (r.toNat+cC A i*cC B k+c))
 rw[aN]at hs
 rw[oD B,show i+(k+1)=(i+k)+1 by omega,Nat.pow_succ]
 have e:=Nat.mod_add_div (r.toNat+cC A i*cC B k+c) 65536
 generalize (r.toNat+cC A i*cC B k+c)%65536=m at *
 generalize (r.toNat+cC A i*cC B k+c)/65536=d at *
 have e2:65536^i*(cC A i*(nv (B.take k)+65536^k*cC B k))=65536^i*(cC A i*nv (B.take k))+65536^(i+k)*(cC A i*cC B k):=by
  rw[Nat.mul_add,Nat.mul_add,Nat.pow_add]
  congr 1
  simp only[Nat.mul_assoc,Nat.mul_left_comm,Nat.mul_comm]
 rw[e2]
 generalize 65536^(i+k)=W at *
 have e3:W*(m+65536*d)=W*(r.toNat+cC A i*cC B k+c):=by rw[e]
 simp only[Nat.mul_add]at e3
 rw[Nat.mul_assoc]
 omega
theorem w7 {A B:List UInt16} {i k:Nat} {R:List UInt16} {c:Nat} (h:RTimI A B i (k,R,c)) (hi:i<A.length) (hk:¬(k<B.length∨0<c)):RTimO A B (i+1,R):=by
 obtain⟨h1,h2,h3,h4⟩:=h
 simp only at h1 h2 h3 h4
 rw[List.take_of_length_le (l:=B) (by omega),show c=0 by omega]at h4
 refine⟨hi,h2,?_⟩
 simp only
 rw[oD A,Nat.add_mul,Nat.mul_assoc]
 omega
structure ROvr (A B:List UInt16) (q:Nat × List UInt16 × Nat):Prop where
 i:q.1≤A.length
 l:q.2.1.length=A.length
 u:nv (q.2.1.drop q.1)=nv (A.drop q.1)/nv B
 r:q.2.2=nv (A.drop q.1)%nv B
theorem tE {A B:List UInt16}:ROvr A B (A.length,List.replicate A.length 0,0) :=
 ⟨Nat.le_refl _,by simp,by simp[nv],by simp[nv]⟩
theorem wV {A B:List UInt16} {i:Nat} {Q:List UInt16} {r:Nat} {x:UInt16} (hb:0<nv B) (h:ROvr A B (i+1,Q,r)) (hx:A[i]? = some x) :
  (x.toNat+65536*r)/nv B<65536∧ROvr A B (i,Q.set i (UInt16.ofNat ((x.toNat+65536*r)/nv B)),(x.toNat+65536*r)%nv B):=by
 obtain⟨h1,h2,h3,h4⟩:=h
 simp only at h1 h2 h3 h4
 have hxl:=aR x
 have hrb:r<nv B:=by rw[h4];exact Nat.mod_lt _ hb
 have hq:(x.toNat+65536*r)/nv B<65536:=by
  refine Nat.div_lt_of_lt_mul ?_
  have:65536*(r+1)≤65536*nv B:=Nat.mul_le_mul_left _ hrb
  rw[Nat.mul_comm (nv B)]
  omega
 refine⟨hq,by simp only;omega,by simp[h2],?_,?_⟩
 ·simp only
  have hget:(Q.set i (UInt16.ofNat ((x.toNat+65536*r)/nv B)))[i]? = some (UInt16.ofNat ((x.toNat+65536*r)/nv B)):=List.getElem?_set_self (by omega)
  rw[dP hget,dP hx,aN,Nat.mod_eq_of_lt hq]
  have e2:(Q.set i (UInt16.ofNat ((x.toNat+65536*r)/nv B))).drop (i+1)=Q.drop (i+1):=by
   apply List.ext_getElem?;intro j
   rw[List.getElem?_drop,List.getElem?_drop,List.getElem?_set_ne (by omega)]
  rw[e2,h3]
  generalize nv (A.drop (i+1))=D at *
  have e3:=Nat.mod_add_div D (nv B)
  rw[←h4]at e3
  have e4:x.toNat+65536*D=(x.toNat+65536*r)+nv B*(65536*(D/nv B)):=by
   have e5:nv B*(65536*(D/nv B))=65536*(nv B*(D/nv B)):=by rw[Nat.mul_left_comm]
   rw[e5];omega
  rw[e4,Nat.add_mul_div_left _ _ hb]
 ·simp only
  rw[dP hx]
  generalize nv (A.drop (i+1))=D at *
  have e3:=Nat.mod_add_div D (nv B)
  rw[←h4]at e3
  have e4:x.toNat+65536*D=(x.toNat+65536*r)+nv B*(65536*(D/nv B)):=by
   have e5:nv B*(65536*(D/nv B))=65536*(nv B*(D/nv B)):=by rw[Nat.mul_left_comm]
   rw[e5];omega
  rw[e4,Nat.add_mul_mod_self_left]
theorem z6 {A B Q:List UInt16} {r:Nat} (h:ROvr A B (0,Q,r)):nv Q=nv A/nv B∧r=nv A%nv B:=by
 have h1:=h.u
 have h2:=h.r
 simp only[List.drop_zero]at h1 h2
 exact⟨h1,h2⟩
def eD (x:UInt16):List PV:=[I x.toNat]
theorem f7 (a:List UInt16) (i:Nat) (ha:a.length≤1000000000) (hi:i≤4000000000):Ret Tryz.prog .shared 214 [.sl (a.map eD),I i] (I (cC a i)):=by
 have hal:(a.map eD).length=a.length:=by simp
 by_cases hlt:i<a.length
 ·have hx:=bW (l:=a) (i:=i) hlt
  rw[cC]
  generalize a.getD i 0=x at *
  refine Ret.of_pwp layOk mixed Go.Proofs.Tryz.func214 rfl (by decide) rfl rfl ?_
  repeat refine aa rfl ?_
  refine ab rfl ?_ ?_<;>intro h
  ·clear h
   repeat refine aa rfl ?_
   refine aZ rfl rfl rfl rfl rfl rfl rfl hx rfl ?_
   repeat refine aa rfl ?_
   exact aO rfl rfl rfl
  ·have:=of_decide_eq_false h;omega
 ·rw[yr (by omega)]
  refine Ret.of_pwp layOk mixed Go.Proofs.Tryz.func214 rfl (by decide) rfl rfl ?_
  repeat refine aa rfl ?_
  refine ab rfl ?_ ?_<;>intro h
  ·have:=of_decide_eq_true h;omega
  ·repeat refine aa rfl ?_
   exact aO rfl rfl rfl
theorem eV (l:List UInt16) (hl:l.length≤1000000000):Ret Tryz.prog .shared 132 [.sl (l.map eD)] (.sl ((aH l).map eD)):=by
 have hml:(l.map eD).length=l.length:=by simp
 refine Ret.of_pwp layOk mixed Go.Proofs.Tryz.func132 rfl (by decide) rfl rfl ?_
 repeat refine aa rfl ?_
 refine am (fun k=>k≤l.length∧nv (l.take k)=nv l) (fun k=>[(0,.sl (l.map eD)),(3,I (k:Nat))]) (fun _=>[]) (fun k=>k) l.length ⟨Nat.le_refl _,by rw[List.take_length]⟩ ⟨rfl,by rw[←hml];rfl,trivial⟩ ?_
 rintro k s ⟨hk,hv⟩
 have hkl:(l.take k).length=k:=by rw[List.length_take];omega
 have fin:(∀j,k=j+1→∀x,l[j]? = some x→x.toNat≠0)→l.take k=aH l:=by
  intro h0
  rw[aH,←hv]
  refine(fa fun y hy=>?_).symm
  rw[List.getLast?_eq_getElem?,hkl]at hy
  have hk0:0<k:=by
   rcases Nat.eq_zero_or_pos k with h|h
   ·subst h;rw[List.take_zero]at hy;cases hy
   ·exact h
  rw[List.getElem?_take,if_pos (by omega)]at hy
  exact h0 (k-1) (by omega) y hy
 have ending:(l.take k).map eD=(l.map eD).take k:=by rw[List.map_take]
 repeat refine aa rfl ?_
 refine dr rfl rfl rfl ?_ ?_<;>intro h
 ·have hk0:0<k:=by have:=of_decide_eq_true h;omega
  clear h
  obtain⟨j,rfl⟩:∃j,k=j+1:=⟨k-1,by omega⟩
  obtain⟨x,hx⟩:=aL (show j<l.length by omega)
  have hw1:IntKind.i64.wrap (((j+1:Nat):Int)-1)=(j:Nat):=by rw[wrap_i64 (by omega) (by omega)];omega
  repeat refine aa rfl ?_
  rw[hw1]
  refine aZ rfl rfl rfl rfl rfl rfl rfl hx rfl ?_
  repeat refine aa rfl ?_
  refine ab rfl ?_ ?_<;>intro h
  ·have hx0:x.toNat=0:=by have:=of_decide_eq_true h;omega
   clear h
   repeat refine aa rfl ?_
   refine⟨j,⟨by omega,?_⟩,by omega,rfl,congrArg I hw1,trivial⟩
   rw[←hv,cG hx,hx0];omega
  ·have hx0:x.toNat≠0:=by have:=of_decide_eq_false h;omega
   clear h
   have ht:=fin fun j' hj' x' hx'=>by
    obtain rfl:j=j':=by omega
    rw[hx]at hx';cases hx';exact hx0
   rw[ht]at ending
   have htl:((aH l).map eD).length=j+1:=by rw[List.length_map,←ht,hkl]
   repeat refine aa rfl ?_
   refine ar (be 0 rfl rfl rfl rfl rfl rfl rfl rfl rfl rfl rfl (by repeat' constructor) rfl ?_)
   repeat refine aa rfl ?_
   refine bH rfl rfl (tu (n:=((j+1:Nat):Int)) rfl rfl rfl rfl rfl (by omega) (by omega) (fun _=>rfl)) ?_
   rw[Int.toNat_natCast,List.map_take,←ending]
   repeat refine aa rfl ?_
   refine ar (bE 1 rfl rfl rfl rfl rfl rfl rfl rfl rfl rfl rfl (by repeat' constructor) (by intro row hr;obtain⟨p,_,rfl⟩:=List.mem_map.1 hr;rfl) rfl rfl (by simp;have:=bG l;omega) (by simp;have:=bG l;omega) ?_)
   repeat refine aa rfl ?_
   exact aF rfl rfl rfl
 ·have hk0:k=0:=by have:=of_decide_eq_false h;omega
  subst hk0
  clear h
  have ht:=fin fun j' hj'=>by omega
  rw[ht]at ending
  repeat refine aa rfl ?_
  refine ar (be 0 rfl rfl rfl rfl rfl rfl rfl rfl rfl rfl rfl (by repeat' constructor) rfl ?_)
  repeat refine aa rfl ?_
  refine bH rfl rfl (tu (n:=((0:Nat):Int)) rfl rfl rfl rfl rfl (by omega) (by omega) (fun _=>rfl)) ?_
  rw[Int.toNat_natCast,List.map_take,←ending]
  repeat refine aa rfl ?_
  refine ar (bE 1 rfl rfl rfl rfl rfl rfl rfl rfl rfl rfl rfl (by repeat' constructor) (by intro row hr;obtain⟨p,_,rfl⟩:=List.mem_map.1 hr;rfl) rfl rfl (by simp;have:=bG l;omega) (by simp;have:=bG l;omega) ?_)
  repeat refine aa rfl ?_
  exact aF rfl rfl rfl
theorem cb {α:Type} {l:List α} {k:Nat} {x:α} (h:l[k]? = some x):l.take (k+1)=l.take k++[x]:=by
 rw[List.take_add_one,h];rfl
set_option maxRecDepth 20000 in
theorem ej (l:List UInt16) (hl:l.length≤900000000):Ret Tryz.prog .shared 69 [.sl (l.map eU)] (.sl ((aH l).map eD)):=by
 have hml:(l.map eU).length=l.length:=by simp
 have ht:=eV l (by omega)
 refine Ret.of_pwp layOk mixed Go.Proofs.Tryz.func69 rfl (by decide) rfl rfl ?_
 ((repeat (first|refine aJ ?_ | refine b5 ?_ | refine bJ ?_ | refine bF ?_));refine aS ?_)
 refine ia rfl trivial ?_
 ((repeat (first|refine aJ ?_ | refine b5 ?_ | refine bJ ?_ | refine bF ?_));refine aS ?_)
 (first|refine ar (fh 3 1 0 rfl rfl ?_)|refine ar (fg 3 1 0 rfl rfl ?_))
 repeat refine aa rfl ?_
 refine am (fun k=>k≤l.length) (fun k=>[(0,.sl (l.map eU)),(3,.als 3 (k+1) 0 ((l.take k).map eD).length),(4,I (k:Nat))]) (fun k=>[(3,k+1,⟨3,1,(l.take k).map eD,0⟩)]) (fun k=>l.length-k) 0 (Nat.zero_le _) ⟨rfl,rfl,rfl,rfl,trivial⟩ ?_
 intro k s hk
 repeat refine aa rfl ?_
 refine ab rfl ?_ ?_<;>intro h
 ·have hlt:k<l.length:=by have:=of_decide_eq_true h;omega
  clear h
  obtain⟨x,hx⟩:=aL hlt
  have hxl:=aR x
  have hkl:(l.take k).length=k:=by rw[List.length_take];omega
  have hw:=gz k
  have hcx:IntKind.i64.wrap (x.toNat:Int)=(x.toNat:Int):=wrap_i64 (by omega) (by omega)
  repeat refine aa rfl ?_
  refine aZ rfl rfl rfl rfl rfl rfl rfl hx rfl ?_
  repeat refine aa rfl ?_
  rw[hcx]
  refine ar (be 0 rfl rfl rfl rfl rfl rfl rfl rfl rfl rfl rfl (by repeat' constructor) rfl ?_)
  repeat refine aa rfl ?_
  refine ar (bE 0 rfl rfl rfl rfl rfl rfl rfl rfl rfl rfl rfl (by repeat' constructor) (by intro row hr;first|(simp at hr;subst hr;rfl)|simp at hr) rfl rfl (by simp;omega) (by simp;omega) ?_)
  repeat refine aa rfl ?_
  refine⟨k+1,hlt,by omega,rfl,?_,congrArg I hw,?_,trivial⟩
  ·rw[cb hx,List.map_append];rfl
  ·rw[cb hx,List.map_append];rfl
 ·have hge:k=l.length:=by have:=of_decide_eq_false h;omega
  subst hge
  clear h
  rw[List.take_length]
  ((repeat ((fail_if_success (with_reducible refine aT 6 ?_));refine dh rfl ?_));refine aG 1 ?_)
  refine aa rfl ?_
  refine aJ ?_
  refine a_ rfl (c9 (Ghost.takeF (enc:=eD) (t:=19) (l) rfl rfl (rfl) rfl (fun _=>rfl)) ?_)
  (refine j3 (dQ rfl (ht) rfl ?_ rfl) ?_;·repeat' constructor)
  refine aM ?_
  repeat refine aa rfl ?_
  exact fP rfl rfl rfl trivial rfl
theorem j8 (a b:List UInt16) (ha:a.length≤1000000000) (hb:b.length≤1000000000):Ret Tryz.prog .shared 186 [.sl (a.map eD),.sl (b.map eD)] (I (i4 a b)):=by
 have hal:(a.map eD).length=a.length:=by simp
 have hbl:(b.map eD).length=b.length:=by simp
 by_cases he:a.length=b.length
 ·rw[i4,if_pos he]
  have hw0:IntKind.i64.wrap (((((a.map eD).length:Nat):Int))-1)=(a.length:Int)-1:=by rw[hal,wrap_i64 (by omega) (by omega)]
  refine Ret.of_pwp layOk mixed Go.Proofs.Tryz.func186 rfl (by decide) rfl rfl ?_
  repeat refine aa rfl ?_
  refine ab rfl ?_ ?_<;>intro h
  ·simp at h;omega
  clear h
  repeat refine aa rfl ?_
  rw[hw0]
  refine am (fun k:Nat=>k≤a.length∧jP a b k=jP a b a.length) (fun k=>[(0,.sl (a.map eD)),(1,.sl (b.map eD)),(5,I ((k:Int)-1))]) (fun _=>[]) (fun k=>k) a.length ⟨Nat.le_refl _,rfl⟩ ⟨rfl,rfl,rfl,trivial⟩ ?_
  rintro k s ⟨hk,hc⟩
  rw[←hc]
  repeat refine aa rfl ?_
  refine ab rfl ?_ ?_<;>intro h
  ·have hk0:0<k:=by have:=of_decide_eq_true h;omega
   clear h
   obtain⟨j,rfl⟩:∃j,k=j+1:=⟨k-1,by omega⟩
   have e1:(((j+1:Nat):Int)-1)=(j:Nat):=by omega
   rw[e1]
   have hx:=bW (l:=a) (i:=j) (by omega)
   have hy:=bW (l:=b) (i:=j) (by omega)
   have hc1:jP a b (j+1)=if (a.getD j 0).toNat=(b.getD j 0).toNat then jP a b j else((a.getD j 0).toNat:Int)-(b.getD j 0).toNat:=rfl
   have hxl:=aR (a.getD j 0)
   have hyl:=aR (b.getD j 0)
   generalize a.getD j 0=x at *
   generalize b.getD j 0=y at *
   repeat refine aa rfl ?_
   refine ah 9 [23,24,25,26,27,28,29,30,31] (by decide +kernel) ?_
   repeat refine aa rfl ?_
   refine aZ rfl rfl rfl rfl rfl rfl rfl hx rfl ?_
   repeat refine aa rfl ?_
   refine aZ rfl rfl rfl rfl rfl rfl rfl hy rfl ?_
   repeat refine aa rfl ?_
   refine ab rfl ?_ ?_<;>intro h
   ·have hne:¬x.toNat=y.toNat:=by simp at h;intro he;apply h;omega
    clear h
    rw[if_neg hne]at hc1
    rw[hc1]
    repeat refine aa rfl ?_
    refine ah 10 [32,33,34,35,36,37,38,39,40,4] (by decide +kernel) ?_
    repeat refine aa rfl ?_
    refine aZ rfl rfl rfl rfl rfl rfl rfl hx rfl ?_
    repeat refine aa rfl ?_
    refine aZ rfl rfl rfl rfl rfl rfl rfl hy rfl ?_
    repeat refine aa rfl ?_
    rw[wrap_i64 (n:=(x.toNat:Int)-(y.toNat:Int)) (by omega) (by omega)]
    repeat refine aa rfl ?_
    exact aO rfl rfl rfl
   ·have hne:x.toNat=y.toNat:=by simp at h;omega
    clear h
    rw[if_pos hne]at hc1
    repeat refine aa rfl ?_
    refine⟨j,⟨by omega,by rw[←hc1,hc]⟩,by omega,rfl,rfl,?_,trivial⟩
    exact congrArg I (wrap_i64 (by omega) (by omega))
  ·have hk0:k=0:=by have:=of_decide_eq_false h;omega
   subst hk0
   clear h
   repeat refine aa rfl ?_
   exact aO rfl rfl rfl
 ·rw[i4,if_neg he]
  refine Ret.of_pwp layOk mixed Go.Proofs.Tryz.func186 rfl (by decide) rfl rfl ?_
  repeat refine aa rfl ?_
  refine ab rfl ?_ ?_<;>intro h
  ·repeat refine aa rfl ?_
   rw[hal,hbl,wrap_i64 (by omega) (by omega)]
   exact aO rfl rfl rfl
  ·simp at h;omega
theorem l7 (a:Nat):Int.tmod (a:Int) 65536=((UInt16.ofNat a).toNat:Int):=by
 rw[aN,Int.tmod_eq_emod_of_nonneg (by omega)];omega
theorem l6 (a:Nat):Int.tdiv (a:Int) 65536=((a/65536:Nat):Int):=by
 rw[Int.tdiv_eq_ediv_of_nonneg (by omega)];omega
theorem iM (k:Nat) (l:List UInt16) (a:UInt16):PV.als k (l.length+1+1) 0 (l.map eD++[eD a]).length=PV.als k ((l++[a]).length+1) 0 ((l++[a]).map eD).length:=by simp
theorem fZ (T sz kd:Nat) (l:List UInt16) (a:UInt16):(l.length+1+1,some (Cont.mk T sz (l.map eD++[eD a]) kd))=((l++[a]).length+1,some (Cont.mk T sz ((l++[a]).map eD) kd)):=by simp
set_option maxRecDepth 20000 in
theorem wX (a b:List UInt16) (ha:a.length≤400000000) (hb:b.length≤400000000):Ret Tryz.prog .shared 189 [.sl (a.map eD),.sl (b.map eD)] (.sl ((aq (nv a+nv b)).map eD)):=by
 have hal:(a.map eD).length=a.length:=by simp
 have hbl:(b.map eD).length=b.length:=by simp
 refine Ret.of_pwp layOk mixed Go.Proofs.Tryz.func189 rfl (by decide) rfl rfl ?_
 ((repeat (first|refine aJ ?_ | refine b5 ?_ | refine bJ ?_ | refine bF ?_));refine aS ?_)
 refine ia rfl trivial ?_
 ((repeat (first|refine aJ ?_ | refine b5 ?_ | refine bJ ?_ | refine bF ?_));refine aS ?_)
 (first|refine ar (fh 3 1 0 rfl rfl ?_)|refine ar (fg 3 1 0 rfl rfl ?_))
 repeat refine aa rfl ?_
 refine am (RPlus a b) (fun q=>[(0,.sl (a.map eD)),(1,.sl (b.map eD)),(5,.als 5 (q.2.1.length+1) 0 (q.2.1.map eD).length),(6,I (q.2.2:Nat)),(7,I (q.1:Nat))]) (fun q=>[(5,q.2.1.length+1,⟨3,1,q.2.1.map eD,0⟩)]) (fun q=>a.length+b.length+1-q.1) (0,[],0)
  ⟨rfl,by decide,by simp only;omega,by simp[nv]⟩ ⟨rfl,rfl,rfl,rfl,rfl,rfl,trivial⟩ ?_
 rintro⟨k,L,c⟩ s hI
 have hc:=hI.c
 have hLl:=hI.l
 have hkk:=hI.k
 simp only at hc hLl hkk
 dsimp only
 have hstep:=fun h=>tF hI h
 have hend:=fun h=>wW hI h
 have e1:=f7 a k (by omega) (by omega)
 have e2:=f7 b k (by omega) (by omega)
 have hxl:=dj a k
 have hyl:=dj b k
 have hw:=gz k
 have s1:IntKind.i64.wrap ((cC a k:Int)+(cC b k:Int))=((cC a k+cC b k:Nat):Int):=by rw[wrap_i64 (by omega) (by omega)];omega
 have s2:IntKind.i64.wrap (((cC a k+cC b k:Nat):Int)+(c:Int))=((cC a k+cC b k+c:Nat):Int):=by rw[wrap_i64 (by omega) (by omega)];omega
 generalize cC a k=x at *
 generalize cC b k=y at *
 have hr:Int.tmod ((x+y+c:Nat):Int) 65536=((UInt16.ofNat (x+y+c)).toNat:Int):=l7 _
 have hq:IntKind.i64.wrap (Int.tdiv ((x+y+c:Nat):Int) 65536)=(((x+y+c)/65536:Nat):Int):=by rw[l6,wrap_i64]<;>omega
 repeat refine aa rfl ?_
 refine dr rfl rfl rfl ?_ ?_<;>intro h
 ·have hyes:k<a.length∨k<b.length∨0<c := .inl (by have:=of_decide_eq_true h;rw[hal]at this;omega)
  clear h
  have hst:=(hstep hyes).1
  have hlt:=(hstep hyes).2
  repeat refine aa rfl ?_
  refine aP rfl rfl rfl e1 rfl rfl rfl ?_
  repeat refine aa rfl ?_
  refine aP rfl rfl rfl e2 rfl rfl rfl ?_
  repeat refine aa rfl ?_
  rw[s1]
  repeat refine aa rfl ?_
  rw[s2]
  repeat refine aa rfl ?_
  refine bH rfl rfl (QOp.v rfl (show ¬(65536:Int)=0 by decide)) ?_
  rw[hr]
  refine ar (be 0 rfl rfl rfl rfl rfl rfl rfl rfl rfl rfl rfl (by repeat' constructor) rfl ?_)
  repeat refine aa rfl ?_
  refine ar (bE 0 rfl rfl rfl rfl rfl rfl rfl rfl rfl rfl rfl (by repeat' constructor) (by intro row hr;first|(simp at hr;subst hr;rfl)|simp at hr) rfl rfl (by simp;omega) (by simp;omega) ?_)
  repeat refine aa rfl ?_
  refine bH rfl rfl (QOp.v rfl (show ¬(65536:Int)=0 by decide)) ?_
  rw[hq]
  repeat refine aa rfl ?_
  refine⟨(k+1,L++[UInt16.ofNat (x+y+c)],(x+y+c)/65536),hst,by simp only;omega,rfl,rfl,?_,rfl,congrArg I hw,?_,trivial⟩
  ·exact iM 5 L (UInt16.ofNat (x+y+c))
  ·exact fZ 3 1 0 L (UInt16.ofNat (x+y+c))
 ·have h1:¬k<a.length:=by have:=of_decide_eq_false h;rw[hal]at this;omega
  clear h
  repeat refine aa rfl ?_
  refine dr rfl rfl rfl ?_ ?_<;>intro h
  ·have hyes:k<a.length∨k<b.length∨0<c := .inr (.inl (by have:=of_decide_eq_true h;rw[hbl]at this;omega))
   clear h
   have hst:=(hstep hyes).1
   have hlt:=(hstep hyes).2
   repeat refine aa rfl ?_
   refine aP rfl rfl rfl e1 rfl rfl rfl ?_
   repeat refine aa rfl ?_
   refine aP rfl rfl rfl e2 rfl rfl rfl ?_
   repeat refine aa rfl ?_
   rw[s1]
   repeat refine aa rfl ?_
   rw[s2]
   repeat refine aa rfl ?_
   refine bH rfl rfl (QOp.v rfl (show ¬(65536:Int)=0 by decide)) ?_
   rw[hr]
   refine ar (be 0 rfl rfl rfl rfl rfl rfl rfl rfl rfl rfl rfl (by repeat' constructor) rfl ?_)
   repeat refine aa rfl ?_
   refine ar (bE 0 rfl rfl rfl rfl rfl rfl rfl rfl rfl rfl rfl (by repeat' constructor) (by intro row hr;first|(simp at hr;subst hr;rfl)|simp at hr) rfl rfl (by simp;omega) (by simp;omega) ?_)
   repeat refine aa rfl ?_
   refine bH rfl rfl (QOp.v rfl (show ¬(65536:Int)=0 by decide)) ?_
   rw[hq]
   repeat refine aa rfl ?_
   refine⟨(k+1,L++[UInt16.ofNat (x+y+c)],(x+y+c)/65536),hst,by simp only;omega,rfl,rfl,?_,rfl,congrArg I hw,?_,trivial⟩
   ·exact iM 5 L (UInt16.ofNat (x+y+c))
   ·exact fZ 3 1 0 L (UInt16.ofNat (x+y+c))
  ·have h2:¬k<b.length:=by have:=of_decide_eq_false h;rw[hbl]at this;omega
   clear h
   repeat refine aa rfl ?_
   refine ab rfl ?_ ?_<;>intro h
   ·have hyes:k<a.length∨k<b.length∨0<c := .inr (.inr (by have:=of_decide_eq_true h;omega))
    clear h
    have hst:=(hstep hyes).1
    have hlt:=(hstep hyes).2
    repeat refine aa rfl ?_
    refine aP rfl rfl rfl e1 rfl rfl rfl ?_
    repeat refine aa rfl ?_
    refine aP rfl rfl rfl e2 rfl rfl rfl ?_
    repeat refine aa rfl ?_
    rw[s1]
    repeat refine aa rfl ?_
    rw[s2]
    repeat refine aa rfl ?_
    refine bH rfl rfl (QOp.v rfl (show ¬(65536:Int)=0 by decide)) ?_
    rw[hr]
    refine ar (be 0 rfl rfl rfl rfl rfl rfl rfl rfl rfl rfl rfl (by repeat' constructor) rfl ?_)
    repeat refine aa rfl ?_
    refine ar (bE 0 rfl rfl rfl rfl rfl rfl rfl rfl rfl rfl rfl (by repeat' constructor) (by intro row hr;first|(simp at hr;subst hr;rfl)|simp at hr) rfl rfl (by simp;omega) (by simp;omega) ?_)
    repeat refine aa rfl ?_
    refine bH rfl rfl (QOp.v rfl (show ¬(65536:Int)=0 by decide)) ?_
    rw[hq]
    repeat refine aa rfl ?_
    refine⟨(k+1,L++[UInt16.ofNat (x+y+c)],(x+y+c)/65536),hst,by simp only;omega,rfl,rfl,?_,rfl,congrArg I hw,?_,trivial⟩
    ·exact iM 5 L (UInt16.ofNat (x+y+c))
    ·exact fZ 3 1 0 L (UInt16.ofNat (x+y+c))
   ·have h3:¬0<c:=by have:=of_decide_eq_false h;omega
    clear h
    have hfin:=hend (by omega)
    have ht:=eV L (by omega)
    rw[aH,hfin]at ht
    ((repeat ((fail_if_success (with_reducible refine aT 9 ?_));refine dh rfl ?_));refine aG 1 ?_)
    refine aa rfl ?_
    refine aJ ?_
    refine a_ rfl (c9 (Ghost.takeF (enc:=eD) (t:=41) (L) rfl rfl (rfl) rfl (fun _=>rfl)) ?_)
    (refine j3 (dQ rfl (ht) rfl ?_ rfl) ?_;·repeat' constructor)
    refine aM ?_
    repeat refine aa rfl ?_
    exact fP rfl rfl rfl trivial rfl
set_option maxRecDepth 20000 in
theorem jE (a b:List UInt16) (ha:a.length≤900000000) (hb:b.length≤900000000) (hle:nv b≤nv a):Ret Tryz.prog .shared 188 [.sl (a.map eD),.sl (b.map eD)] (.sl ((aq (nv a-nv b)).map eD)):=by
 have hal:(a.map eD).length=a.length:=by simp
 refine Ret.of_pwp layOk mixed Go.Proofs.Tryz.func188 rfl (by decide) rfl rfl ?_
 ((repeat (first|refine aJ ?_ | refine b5 ?_ | refine bJ ?_ | refine bF ?_));refine aS ?_)
 refine ia rfl trivial ?_
 ((repeat (first|refine aJ ?_ | refine b5 ?_ | refine bJ ?_ | refine bF ?_));refine aS ?_)
 (first|refine ar (fh 3 1 0 rfl rfl ?_)|refine ar (fg 3 1 0 rfl rfl ?_))
 repeat refine aa rfl ?_
 refine am (RMin a b) (fun q=>[(0,.sl (a.map eD)),(1,.sl (b.map eD)),(5,.als 5 (q.2.1.length+1) 0 (q.2.1.map eD).length),(6,I (q.2.2:Nat)),(7,I (q.1:Nat))]) (fun q=>[(5,q.2.1.length+1,⟨3,1,q.2.1.map eD,0⟩)]) (fun q=>a.length-q.1) (0,[],0)
  ⟨rfl,by decide,Nat.zero_le _,by simp[nv]⟩ ⟨rfl,rfl,rfl,rfl,rfl,rfl,trivial⟩ ?_
 rintro⟨k,L,c⟩ s hI
 have hc:=hI.c
 have hLl:=hI.l
 have hkk:=hI.k
 simp only at hc hLl hkk
 dsimp only
 repeat refine aa rfl ?_
 refine ab rfl ?_ ?_<;>intro h
 ·have hlt:k<a.length:=by have:=of_decide_eq_true h;omega
  clear h
  have hst:=wR hI hlt
  have hx:=bW (l:=a) (i:=k) hlt
  have e2:=f7 b k (by omega) (by omega)
  have hxl:=dj a k
  have hyl:=dj b k
  have hw:=gz k
  have hX:(a.getD k 0).toNat=cC a k:=rfl
  generalize cC b k=y at *
  generalize cC a k=X at *
  generalize a.getD k 0=x at *
  subst hX
  have s1:IntKind.i64.wrap ((x.toNat:Int)-(y:Int))=(x.toNat:Int)-(y:Int):=by rw[wrap_i64 (by omega) (by omega)]
  have s2:IntKind.i64.wrap ((x.toNat:Int)-(y:Int)-(c:Int))=(x.toNat:Int)-(y:Int)-(c:Int):=by rw[wrap_i64 (by omega) (by omega)]
  have hlen:(L.map eD).length=L.length:=by simp
  have hsd:=CC hxl hyl hc
  have hrow:∀m:Nat,m<65536→eD (UInt16.ofNat m)=[I (m:Nat)]:=fun m hm=>by rw[eD,aN,Nat.mod_eq_of_lt hm]
  by_cases hn:x.toNat<y+c
  ·have hd:(x.toNat:Int)-(y:Int)-(c:Int)+65536=((xL x.toNat y c:Nat):Int):=by rw[xL,if_pos hn];omega
   have s3:IntKind.i64.wrap ((x.toNat:Int)-(y:Int)-(c:Int)+65536)=((xL x.toNat y c:Nat):Int):=by rw[hd,wrap_i64 (by omega) (by omega)]
   have hcc:B1 x.toNat y c=1:=by rw[B1,if_pos hn]
   rw[hcc]at hst
   have hrw:=hrow _ hsd.2.1
   generalize xL x.toNat y c=D at *
   repeat refine aa rfl ?_
   refine ah 11 [15,16,17,18,19,20,21,22,23,24,8] (by decide +kernel) ?_
   repeat refine aa rfl ?_
   refine aZ rfl rfl rfl rfl rfl rfl rfl hx rfl ?_
   repeat refine aa rfl ?_
   refine aP rfl rfl rfl e2 rfl rfl rfl ?_
   repeat refine aa rfl ?_
   rw[s1]
   repeat refine aa rfl ?_
   rw[s2]
   repeat refine aa rfl ?_
   refine ab rfl ?_ ?_<;>intro h
   ·clear h
    repeat refine aa rfl ?_
    rw[s3]
    repeat refine aa rfl ?_
    refine ar (be 0 rfl rfl rfl rfl rfl rfl rfl rfl rfl rfl rfl (by repeat' constructor) rfl ?_)
    repeat refine aa rfl ?_
    refine ar (bE 0 rfl rfl rfl rfl rfl rfl rfl rfl rfl rfl rfl (by repeat' constructor) (by intro row hr;first|(simp at hr;subst hr;rfl)|simp at hr) rfl rfl (by simp;omega) (by simp;omega) ?_)
    repeat refine aa rfl ?_
    refine⟨(k+1,L++[UInt16.ofNat D],1),hst,by simp only;omega,rfl,rfl,?_,rfl,congrArg I hw,?_,trivial⟩
    ·have:=iM 5 L (UInt16.ofNat D);rw[hrw]at this;exact this
    ·have:=fZ 3 1 0 L (UInt16.ofNat D);rw[hrw]at this;exact this
   ·have:=of_decide_eq_false h;omega
  ·have hd:(x.toNat:Int)-(y:Int)-(c:Int)=((xL x.toNat y c:Nat):Int):=by rw[xL,if_neg hn];omega
   rw[hd]at s2
   have hcc:B1 x.toNat y c=0:=by rw[B1,if_neg hn]
   rw[hcc]at hst
   have hrw:=hrow _ hsd.2.1
   generalize xL x.toNat y c=D at *
   repeat refine aa rfl ?_
   refine ah 11 [15,16,17,18,19,20,21,22,23,24,8] (by decide +kernel) ?_
   repeat refine aa rfl ?_
   refine aZ rfl rfl rfl rfl rfl rfl rfl hx rfl ?_
   repeat refine aa rfl ?_
   refine aP rfl rfl rfl e2 rfl rfl rfl ?_
   repeat refine aa rfl ?_
   rw[s1]
   repeat refine aa rfl ?_
   rw[hd,s2]
   repeat refine aa rfl ?_
   refine ar (be 0 rfl rfl rfl rfl rfl rfl rfl rfl rfl rfl rfl (by repeat' constructor) rfl ?_)
   repeat refine aa rfl ?_
   refine ar (bE 0 rfl rfl rfl rfl rfl rfl rfl rfl rfl rfl rfl (by repeat' constructor) (by intro row hr;first|(simp at hr;subst hr;rfl)|simp at hr) rfl rfl (by simp;omega) (by simp;omega) ?_)
   repeat refine aa rfl ?_
   refine⟨(k+1,L++[UInt16.ofNat D],0),hst,by simp only;omega,rfl,rfl,?_,rfl,congrArg I hw,?_,trivial⟩
   ·have:=iM 5 L (UInt16.ofNat D);rw[hrw]at this;exact this
   ·have:=fZ 3 1 0 L (UInt16.ofNat D);rw[hrw]at this;exact this
 ·have hge:k=a.length:=by have:=of_decide_eq_false h;omega
  subst hge
  clear h
  have hfin:=zY hI hle
  have ht:=eV L (by omega)
  rw[aH,hfin]at ht
  ((repeat ((fail_if_success (with_reducible refine aT 12 ?_));refine dh rfl ?_));refine aG 1 ?_)
  refine aa rfl ?_
  refine aJ ?_
  refine a_ rfl (c9 (Ghost.takeF (enc:=eD) (t:=33) (L) rfl rfl (rfl) rfl (fun _=>rfl)) ?_)
  (refine j3 (dQ rfl (ht) rfl ?_ rfl) ?_;·repeat' constructor)
  refine aM ?_
  repeat refine aa rfl ?_
  exact fP rfl rfl rfl trivial rfl
theorem zV (n:Nat):List.replicate n [PV.int .i64 0]=(List.replicate n (0:UInt16)).map eD:=by rw[List.map_replicate];rfl
theorem qJ (k g i:Nat) (R:List UInt16) (y:UInt16):PV.als k g 0 (((R.map eD).set i (eD y))).length=PV.als k g 0 ((R.set i y).map eD).length:=by simp
theorem n_ (g T sz kd i:Nat) (R:List UInt16) (y:UInt16):(g,some (Cont.mk T sz ((R.map eD).set i (eD y)) kd))=(g,some (Cont.mk T sz ((R.set i y).map eD) kd)):=by rw[List.map_set]
set_option maxRecDepth 20000 in
theorem jF (a b:List UInt16) (ha:a.length≤400000000) (hb:b.length≤400000000):Ret Tryz.prog .shared 187 [.sl (a.map eD),.sl (b.map eD)] (.sl ((aq (nv a*nv b)).map eD)):=by
 have hal:(a.map eD).length=a.length:=by simp
 have hbl:(b.map eD).length=b.length:=by simp
 have hw0:IntKind.i64.wrap ((((a.map eD).length:Nat):Int)+(((b.map eD).length:Nat):Int))=((a.length+b.length:Nat):Int):=by rw[hal,hbl,wrap_i64 (by omega) (by omega)];omega
 have hw1:IntKind.i64.wrap (((a.length+b.length:Nat):Int)+1)=((a.length+b.length+1:Nat):Int):=by rw[wrap_i64 (by omega) (by omega)];omega
 refine Ret.of_pwp layOk mixed Go.Proofs.Tryz.func187 rfl (by decide) rfl rfl ?_
 repeat refine aa rfl ?_
 rw[hw0]
 repeat refine aa rfl ?_
 rw[hw1]
 refine ar (fS rfl rfl rfl rfl rfl rfl rfl rfl (by omega) (by show(8:Int)*_≤_;omega) (by omega) ?_)
 rw[Int.toNat_natCast,zV]
 repeat refine aa rfl ?_
 refine am (RTimO a b) (fun q=>[(0,.sl (a.map eD)),(1,.sl (b.map eD)),(5,.als 16 1 0 (q.2.map eD).length),(6,I q.1)])
  (fun q=>[(16,1,⟨3,1,q.2.map eD,0⟩)]) (fun q=>a.length-q.1) (0,List.replicate (a.length+b.length+1) 0) ⟨Nat.zero_le _,by simp,by simp[nv];exact pV _⟩ ⟨rfl,rfl,rfl,rfl,rfl,trivial⟩ ?_
 rintro⟨i,R⟩ s1 hO
 have hi:=hO.i
 have hRl:=hO.l
 simp only at hi hRl
 dsimp only
 repeat refine aa rfl ?_
 refine ab rfl ?_ ?_<;>intro h
 ·have hlt:i<a.length:=by have:=of_decide_eq_true h;omega
  clear h
  repeat refine aa rfl ?_
  refine am (RTimI a b i) (fun q=>[(0,.sl (a.map eD)),(1,.sl (b.map eD)),(5,.als 16 1 0 (q.2.1.map eD).length),(6,I i),(7,I (q.2.2:Nat)),(8,I (q.1:Nat))])
   (fun q=>[(16,1,⟨3,1,q.2.1.map eD,0⟩)]) (fun q=>b.length+1-q.1) (0,R,0) (tJ hO) ⟨rfl,rfl,rfl,rfl,rfl,rfl,rfl,trivial⟩ ?_
  rintro⟨k,Q,c⟩ s2 hI
  have hk:=hI.k
  have hc:=hI.c
  have hQl:=hI.l
  simp only at hk hc hQl
  dsimp only
  have hQm:(Q.map eD).length=Q.length:=by simp
  have body:∀_:k<b.length∨0<c,True:=fun _=>trivial
  clear body
  have hkB:=fun h=>Dn hI h
  have hstep:=fun h=>w_ (r:=Q.getD (i+k) 0) hI h
  have hnext:=fun h=>w7 hI hlt h
  repeat refine aa rfl ?_
  refine dr rfl rfl rfl ?_ ?_<;>intro h
  ·have hyes:k<b.length∨0<c := .inl (by have:=of_decide_eq_true h;omega)
   clear h
   have hkb:=hkB hyes
   have hr:=bW (l:=Q) (i:=i+k) (by omega)
   have hst:=hstep hkb hr
   have hx:=bW (l:=a) (i:=i) hlt
   have hX:(a.getD i 0).toNat=cC a i:=rfl
   have hxl:=dj a i
   have hyl:=dj b k
   have e2:=f7 b k (by omega) (by omega)
   have hm:=rA hxl hyl
   have hrl:=aR (Q.getD (i+k) 0)
   have hr2:(Q.map eD)[i+k]? = some (eD (Q.getD (i+k) 0)):=by rw[List.getElem?_map,hr];rfl
   have ei:IntKind.i64.wrap ((i:Int)+(k:Int))=((i+k:Nat):Int):=by rw[wrap_i64 (by omega) (by omega)];omega
   generalize Q.getD (i+k) 0=r at *
   generalize cC b k=y at *
   generalize cC a i=X at *
   generalize a.getD i 0=x at *
   subst hX
   have s1:IntKind.i64.wrap ((x.toNat:Int)*(y:Int))=((x.toNat*y:Nat):Int):=by rw[←Int.natCast_mul,wrap_i64 (by omega) (by omega)]
   have s2:IntKind.i64.wrap ((r.toNat:Int)+((x.toNat*y:Nat):Int))=((r.toNat+x.toNat*y:Nat):Int):=by rw[wrap_i64 (by omega) (by omega)];omega
   have s3:IntKind.i64.wrap (((r.toNat+x.toNat*y:Nat):Int)+(c:Int))=((r.toNat+x.toNat*y+c:Nat):Int):=by rw[wrap_i64 (by omega) (by omega)];omega
   generalize x.toNat*y=P at *
   have hrm:Int.tmod ((r.toNat+P+c:Nat):Int) 65536=((UInt16.ofNat (r.toNat+P+c)).toNat:Int):=l7 _
   have hq:IntKind.i64.wrap (Int.tdiv ((r.toNat+P+c:Nat):Int) 65536)=(((r.toNat+P+c)/65536:Nat):Int):=by rw[l6,wrap_i64]<;>omega
   generalize hsm:r.toNat+P+c=sm at *
   repeat refine aa rfl ?_
   refine ah 18 [33,34,35,36,37,38,39,40,41,42,43,44,45,46,47,48,49,9] (by decide +kernel) ?_
   repeat refine aa rfl ?_
   rw[ei]
   refine bH rfl rfl (bp rfl rfl rfl rfl rfl rfl rfl (by omega) (by rw[List.length_map];omega)) ?_
   rw[Int.toNat_natCast,Nat.zero_add (i+k)]
   refine bH rfl rfl (cW rfl rfl rfl hr2 rfl) ?_
   repeat refine aa rfl ?_
   refine aZ rfl rfl rfl rfl rfl rfl rfl hx rfl ?_
   repeat refine aa rfl ?_
   refine aP rfl rfl rfl e2 rfl rfl rfl ?_
   repeat refine aa rfl ?_
   rw[s1]
   repeat refine aa rfl ?_
   rw[s2]
   repeat refine aa rfl ?_
   rw[s3]
   repeat refine aa rfl ?_
   rw[ei]
   repeat refine aa rfl ?_
   refine bH rfl rfl (QOp.v rfl (show ¬(65536:Int)=0 by decide)) ?_
   rw[hrm]
   repeat refine aa rfl ?_
   refine bH rfl rfl (bp rfl rfl rfl rfl rfl rfl rfl (by omega) (by rw[List.length_map];omega)) ?_
   rw[Int.toNat_natCast,Nat.zero_add (i+k)]
   refine bN (bL (kd':=0) rfl rfl rfl hr2 rfl rfl (by repeat' constructor) rfl rfl rfl rfl ?_)
   repeat refine aa rfl ?_
   refine bH rfl rfl (QOp.v rfl (show ¬(65536:Int)=0 by decide)) ?_
   rw[hq]
   repeat refine aa rfl ?_
   refine⟨(k+1,_,_),hst,by simp only;omega,rfl,rfl,?_,rfl,rfl,bV (by omega) (by omega),?_,trivial⟩
   ·show PV.als 16 1 0 (Q.map eD).length=_
    rw[←qJ 16 1 (i+k) Q (UInt16.ofNat sm),List.length_set]
   ·exact n_ 1 3 1 0 (i+k) Q (UInt16.ofNat sm)
  ·have h1:¬k<b.length:=by have:=of_decide_eq_false h;omega
   clear h
   repeat refine aa rfl ?_
   refine ab rfl ?_ ?_<;>intro h
   ·have hyes:k<b.length∨0<c := .inr (by have:=of_decide_eq_true h;omega)
    clear h
    have hkb:=hkB hyes
    have hr:=bW (l:=Q) (i:=i+k) (by omega)
    have hst:=hstep hkb hr
    have hx:=bW (l:=a) (i:=i) hlt
    have hX:(a.getD i 0).toNat=cC a i:=rfl
    have hxl:=dj a i
    have hyl:=dj b k
    have e2:=f7 b k (by omega) (by omega)
    have hm:=rA hxl hyl
    have hrl:=aR (Q.getD (i+k) 0)
    have hr2:(Q.map eD)[i+k]? = some (eD (Q.getD (i+k) 0)):=by rw[List.getElem?_map,hr];rfl
    have ei:IntKind.i64.wrap ((i:Int)+(k:Int))=((i+k:Nat):Int):=by rw[wrap_i64 (by omega) (by omega)];omega
    generalize Q.getD (i+k) 0=r at *
    generalize cC b k=y at *
    generalize cC a i=X at *
    generalize a.getD i 0=x at *
    subst hX
    have s1:IntKind.i64.wrap ((x.toNat:Int)*(y:Int))=((x.toNat*y:Nat):Int):=by rw[←Int.natCast_mul,wrap_i64 (by omega) (by omega)]
    have s2:IntKind.i64.wrap ((r.toNat:Int)+((x.toNat*y:Nat):Int))=((r.toNat+x.toNat*y:Nat):Int):=by rw[wrap_i64 (by omega) (by omega)];omega
    have s3:IntKind.i64.wrap (((r.toNat+x.toNat*y:Nat):Int)+(c:Int))=((r.toNat+x.toNat*y+c:Nat):Int):=by rw[wrap_i64 (by omega) (by omega)];omega
    generalize x.toNat*y=P at *
    have hrm:Int.tmod ((r.toNat+P+c:Nat):Int) 65536=((UInt16.ofNat (r.toNat+P+c)).toNat:Int):=l7 _
    have hq:IntKind.i64.wrap (Int.tdiv ((r.toNat+P+c:Nat):Int) 65536)=(((r.toNat+P+c)/65536:Nat):Int):=by rw[l6,wrap_i64]<;>omega
    generalize hsm:r.toNat+P+c=sm at *
    repeat refine aa rfl ?_
    refine ah 18 [33,34,35,36,37,38,39,40,41,42,43,44,45,46,47,48,49,9] (by decide +kernel) ?_
    repeat refine aa rfl ?_
    rw[ei]
    refine bH rfl rfl (bp rfl rfl rfl rfl rfl rfl rfl (by omega) (by rw[List.length_map];omega)) ?_
    rw[Int.toNat_natCast,Nat.zero_add (i+k)]
    refine bH rfl rfl (cW rfl rfl rfl hr2 rfl) ?_
    repeat refine aa rfl ?_
    refine aZ rfl rfl rfl rfl rfl rfl rfl hx rfl ?_
    repeat refine aa rfl ?_
    refine aP rfl rfl rfl e2 rfl rfl rfl ?_
    repeat refine aa rfl ?_
    rw[s1]
    repeat refine aa rfl ?_
    rw[s2]
    repeat refine aa rfl ?_
    rw[s3]
    repeat refine aa rfl ?_
    rw[ei]
    repeat refine aa rfl ?_
    refine bH rfl rfl (QOp.v rfl (show ¬(65536:Int)=0 by decide)) ?_
    rw[hrm]
    repeat refine aa rfl ?_
    refine bH rfl rfl (bp rfl rfl rfl rfl rfl rfl rfl (by omega) (by rw[List.length_map];omega)) ?_
    rw[Int.toNat_natCast,Nat.zero_add (i+k)]
    refine bN (bL (kd':=0) rfl rfl rfl hr2 rfl rfl (by repeat' constructor) rfl rfl rfl rfl ?_)
    repeat refine aa rfl ?_
    refine bH rfl rfl (QOp.v rfl (show ¬(65536:Int)=0 by decide)) ?_
    rw[hq]
    repeat refine aa rfl ?_
    refine⟨(k+1,_,_),hst,by simp only;omega,rfl,rfl,?_,rfl,rfl,bV (by omega) (by omega),?_,trivial⟩
    ·show PV.als 16 1 0 (Q.map eD).length=_
     rw[←qJ 16 1 (i+k) Q (UInt16.ofNat sm),List.length_set]
    ·exact n_ 1 3 1 0 (i+k) Q (UInt16.ofNat sm)
   ·have h2:¬0<c:=by have:=of_decide_eq_false h;omega
    clear h
    have hst:=hnext (by omega)
    repeat refine aa rfl ?_
    refine⟨(i+1,Q),hst,by simp only;omega,rfl,rfl,rfl,bV (by omega) (by omega),rfl,trivial⟩
 ·have hge:i=a.length:=by have:=of_decide_eq_false h;omega
  subst hge
  clear h
  have hv:=hO.v
  simp only[List.take_length]at hv
  have ht:=eV R (by omega)
  rw[aH,hv]at ht
  ((repeat ((fail_if_success (with_reducible refine aT 12 ?_));refine dh rfl ?_));refine aG 1 ?_)
  refine aa rfl ?_
  refine aJ ?_
  refine a_ rfl (c9 (Ghost.takeF (enc:=eD) (t:=59) (R) rfl rfl (rfl) rfl (fun _=>rfl)) ?_)
  (refine j3 (dQ rfl (ht) rfl ?_ rfl) ?_;·repeat' constructor)
  refine aM ?_
  repeat refine aa rfl ?_
  exact fP rfl rfl rfl trivial rfl
theorem zr {m:Nat} (h:m<65536):nv [UInt16.ofNat m]=m:=by simp[nv];omega
theorem yD {m:Nat} (h:m<65536):eD (UInt16.ofNat m)=[I (m:Nat)]:=by rw[eD,aN,Nat.mod_eq_of_lt h]
theorem uE (x:UInt16) (l:List UInt16):nv (x::l)=x.toNat+65536*nv l:=rfl
theorem gK {n:Nat} {L:List UInt16} (h:n≤nv L):(aq n).length≤L.length:=bU (Nat.lt_of_le_of_lt h (bQ L))
def DZ (a b:List UInt16):PV := .tup [.sl ((aq (nv a/nv b)).map eD),.sl ((aq (nv a%nv b)).map eD)]
structure RHalf (q lo hi:Nat):Prop where
 l:lo≤q
 h:q≤hi
 m:hi≤65535
set_option maxRecDepth 20000 in
theorem kW (a b:List UInt16) (ha:a.length≤200000000) (hb:b.length≤200000000) (hb0:nv b≠0):Ret Tryz.prog .shared 134 [.sl (a.map eD),.sl (b.map eD)] (DZ a b):=by
 have hal:(a.map eD).length=a.length:=by simp
 have hbp:0<nv b:=Nat.pos_of_ne_zero hb0
 rw[DZ]
 have hw0:IntKind.i64.wrap ((((a.map eD).length:Nat):Int)-1)=((a.length:Nat):Int)-1:=by rw[hal,wrap_i64 (by omega) (by omega)]
 refine Ret.of_pwp layOk mixed Go.Proofs.Tryz.func134 rfl (by decide) rfl rfl ?_
 (repeat ((fail_if_success (with_reducible refine aT 2 ?_));refine dh rfl ?_))
 refine ay (Ghost.nilsl (t:=6) rfl) ?_
 repeat refine aa rfl ?_
 refine ar (fS rfl rfl rfl rfl rfl rfl rfl rfl (by omega) (by show(8:Int)*_≤_;omega) (by omega) ?_)
 rw[hal,Int.toNat_natCast,zV]
 repeat refine aa rfl ?_
 rw[hw0]
 refine am (ROvr a b) (fun q=>[(0,.sl (a.map eD)),(1,.sl (b.map eD)),(6,.sl ((aq q.2.2).map eD)),(7,.als 14 1 0 (q.2.1.map eD).length),(8,I ((q.1:Int)-1))])
  (fun q=>[(14,1,⟨3,1,q.2.1.map eD,0⟩)]) (fun q=>q.1) (a.length,List.replicate a.length 0,0) tE ⟨rfl,rfl,by rw[bj];rfl,rfl,rfl,rfl,trivial⟩ ?_
 rintro⟨k,Q,r⟩ s1 hO
 have hk:=hO.i
 have hQl:=hO.l
 simp only at hk hQl
 dsimp only
 repeat refine aa rfl ?_
 refine ab rfl ?_ ?_<;>intro h
 ·have hk0:0<k:=by have:=of_decide_eq_true h;omega
  clear h
  obtain⟨i,rfl⟩:∃i,k=i+1:=⟨k-1,by omega⟩
  have e1:(((i+1:Nat):Int)-1)=(i:Nat):=by omega
  rw[e1]
  obtain⟨x,hx⟩:=aL (show i<a.length by omega)
  have hxl:=aR x
  obtain⟨hq,hst⟩:=wV hbp hO hx
  have hrb:r<nv b:=by have:=hO.r;simp only at this;rw[this];exact Nat.mod_lt _ hbp
  have hrl:(aq r).length≤200000000:=by have:=gK (L:=b) (Nat.le_of_lt hrb);omega
  have htr:=eV (x::aq r) (by simp;omega)
  rw[aH,uE,aD]at htr
  have hRl:(aq (x.toNat+65536*r)).length≤200000001:=by
   have:=cu (x::aq r)
   rw[uE,aD]at this
   simp at this;omega
  generalize hR:x.toNat+65536*r=R at *
  have hRm:R%nv b=R-nv b*(R/nv b):=by have:=Nat.mod_add_div R (nv b);omega
  have hQm:(Q.map eD).length=Q.length:=by simp
  have hQi:=bW (l:=Q) (i:=i) (by omega)
  have hQ2:(Q.map eD)[i]? = some (eD (Q.getD i 0)):=by rw[List.getElem?_map,hQi];rfl
  have hrow:(x::aq r).map eD=[eD x]++(aq r).map eD:=rfl
  ((repeat ((fail_if_success (with_reducible refine aT 6 ?_));refine dh rfl ?_));refine aG 7 ?_)
  iterate 2 refine aa rfl ?_
  refine aZ rfl rfl rfl rfl rfl rfl rfl hx rfl ?_
  refine aa rfl ?_
  refine ar (be 0 rfl rfl rfl rfl rfl rfl rfl rfl rfl rfl rfl (by repeat' constructor) rfl ?_)
  refine aa rfl ?_
  refine ar (bE 1 rfl rfl rfl rfl rfl rfl rfl rfl rfl rfl rfl (by repeat' constructor) (by intro row hr;obtain⟨p,_,rfl⟩:=List.mem_map.1 hr;rfl) rfl rfl (by simp;omega) (by simp;omega) ?_)
  refine aJ ?_
  refine a_ rfl (c9 (Ghost.takeF (enc:=eD) (t:=28) (x::aq r) rfl rfl (rfl) rfl (fun _=>rfl)) ?_)
  (refine j3 (dQ rfl (htr) rfl ?_ rfl) ?_;·repeat' constructor)
  refine aM ?_
  repeat refine aa rfl ?_
  refine am (fun q:Nat × Nat=>RHalf (R/nv b) q.1 q.2) (fun q=>[(0,.sl (a.map eD)),(1,.sl (b.map eD)),(6,.sl ((aq R).map eD)),(7,.als 14 1 0 (Q.map eD).length),(8,I (i:Nat)),(9,I (q.1:Nat)),(10,I (q.2:Nat))])
   (fun q=>[(14,1,⟨3,1,Q.map eD,0⟩)]) (fun q=>q.2-q.1) (0,65535) ⟨Nat.zero_le _,by simp only;omega,Nat.le_refl _⟩ ⟨rfl,rfl,rfl,rfl,rfl,rfl,rfl,rfl,trivial⟩ ?_
  rintro⟨lo,hi⟩ s2 ⟨hl,hh,hm⟩
  simp only at hl hh hm
  dsimp only
  repeat refine aa rfl ?_
  refine ab rfl ?_ ?_<;>intro h
  ·have hlt:lo<hi:=by have:=of_decide_eq_true h;omega
   clear h
   have w1:IntKind.i64.wrap ((lo:Int)+(hi:Int))=((lo+hi:Nat):Int):=by rw[wrap_i64 (by omega) (by omega)];omega
   have w2:IntKind.i64.wrap (((lo+hi:Nat):Int)+1)=((lo+hi+1:Nat):Int):=by rw[wrap_i64 (by omega) (by omega)];omega
   have w3:IntKind.i64.wrap (Int.tdiv ((lo+hi+1:Nat):Int) 2)=(((lo+hi+1)/2:Nat):Int):=by rw[Int.tdiv_eq_ediv_of_nonneg (by omega),wrap_i64]<;>omega
   generalize hmm:(lo+hi+1)/2=m at *
   have w4:IntKind.i64.wrap ((m:Int)-1)=((m-1:Nat):Int):=by rw[wrap_i64 (by omega) (by omega)];omega
   have hm1:m<65536:=by omega
   have ht:=jF b [UInt16.ofNat m] (by omega) (by simp)
   rw[zr hm1,show [UInt16.ofNat m].map eD=[eD (UInt16.ofNat m)] from rfl,yD hm1]at ht
   have hbm:(aq (nv b*m)).length≤300000000:=by
    have h1:nv b*m<65536^(b.length+1):=by
     have:=ez (bQ b) (show m<65536^1 by omega)
     exact this
    have:=bU h1
    omega
   have hc:=j8 (aq (nv b*m)) (aq R) (by omega) (by omega)
   have hcs:=eT (bg (nv b*m)) (bg R)
   rw[aD,aD]at hcs
   have hle:i4 (aq (nv b*m)) (aq R)≤0↔m≤R/nv b:=by
    rw[Nat.le_div_iff_mul_le hbp,Nat.mul_comm m]
    omega
   generalize i4 (aq (nv b*m)) (aq R)=cv at *
   generalize aq (nv b*m)=BM at *
   repeat refine aa rfl ?_
   rw[w1]
   repeat refine aa rfl ?_
   rw[w2]
   repeat refine aa rfl ?_
   refine bH rfl rfl (QOp.v rfl (show ¬(2:Int)=0 by decide)) ?_
   rw[w3]
   repeat refine aa rfl ?_
   refine bH rfl rfl (c8 rfl rfl rfl rfl rfl rfl rfl rfl rfl rfl (by repeat' constructor) rfl) ?_
   repeat refine aa rfl ?_
   refine ak rfl rfl rfl ht rfl rfl ?_
   repeat refine aa rfl ?_
   refine aP rfl rfl rfl hc rfl rfl rfl ?_
   repeat refine aa rfl ?_
   refine ab rfl ?_ ?_<;>intro h
   ·have h1:=hle.1 (of_decide_eq_true h)
    clear h
    repeat refine aa rfl ?_
    exact⟨(m,hi),⟨h1,hh,hm⟩,by simp only;omega,rfl,rfl,rfl,rfl,rfl,rfl,rfl,rfl,trivial⟩
   ·have h1:¬m≤R/nv b:=fun h2=>(of_decide_eq_false h) (hle.2 h2)
    clear h
    repeat refine aa rfl ?_
    exact⟨(lo,m-1),⟨hl,by simp only;omega,by simp only;omega⟩,by simp only;omega,rfl,rfl,rfl,rfl,rfl,rfl,congrArg I w4,rfl,trivial⟩
  ·have hge:lo=R/nv b:=by have:=of_decide_eq_false h;omega
   clear h
   have hw:IntKind.i64.wrap ((i:Int)-1)=(i:Int)-1:=wrap_i64 (by omega) (by omega)
   rw[←hge]at hst hRm
   have hlo:lo<65536:=by omega
   have hlb:nv b*lo≤R:=by rw[hge];exact Nat.mul_div_le R (nv b)
   have hbl:(aq (nv b*lo)).length≤200000001:=by have:=db hlb;omega
   have ht:=jF b [UInt16.ofNat lo] (by omega) (by simp)
   rw[zr hlo,show [UInt16.ofNat lo].map eD=[eD (UInt16.ofNat lo)] from rfl,yD hlo]at ht
   have hmn:=jE (aq R) (aq (nv b*lo)) (by omega) (by omega) (by rw[aD,aD];exact hlb)
   rw[aD,aD,←hRm]at hmn
   have hset:(Q.map eD).set i [I (lo:Nat)]=(Q.set i (UInt16.ofNat lo)).map eD:=by rw[List.map_set,yD hlo]
   have hsetl:(Q.map eD).length=((Q.set i (UInt16.ofNat lo)).map eD).length:=by simp
   generalize aq (nv b*lo)=BL at *
   repeat refine aa rfl ?_
   refine bH rfl rfl (bp rfl rfl rfl rfl rfl rfl rfl (by omega) (by rw[List.length_map];omega)) ?_
   rw[Int.toNat_natCast,Nat.zero_add i]
   refine bN (bL (kd':=0) rfl rfl rfl hQ2 rfl rfl (by repeat' constructor) rfl rfl rfl rfl ?_)
   repeat refine aa rfl ?_
   refine ab rfl ?_ ?_<;>intro h
   ·have h1:0<lo:=by have:=of_decide_eq_true h;omega
    clear h
    repeat refine aa rfl ?_
    refine bH rfl rfl (c8 rfl rfl rfl rfl rfl rfl rfl rfl rfl rfl (by repeat' constructor) rfl) ?_
    repeat refine aa rfl ?_
    refine ak rfl rfl rfl ht rfl rfl ?_
    repeat refine aa rfl ?_
    refine ak rfl rfl rfl hmn rfl rfl ?_
    repeat refine aa rfl ?_
    refine⟨(i,Q.set i (UInt16.ofNat lo),R%nv b),hst,by simp only;omega,rfl,rfl,rfl,?_,congrArg I hw,?_,trivial⟩
    ·exact congrArg (PV.als 14 1 0) hsetl
    ·show(1,some (Cont.mk 3 1 ((Q.map eD).set i [I (lo:Nat)]) 0))=_
     rw[hset]
   ·have h1:lo=0:=by have:=of_decide_eq_false h;omega
    clear h
    have hRR:R%nv b=R:=by rw[hRm,h1];omega
    repeat refine aa rfl ?_
    refine⟨(i,Q.set i (UInt16.ofNat lo),R%nv b),hst,by simp only;omega,rfl,rfl,by rw[hRR];rfl,?_,congrArg I hw,?_,trivial⟩
    ·exact congrArg (PV.als 14 1 0) hsetl
    ·show(1,some (Cont.mk 3 1 ((Q.map eD).set i [I (lo:Nat)]) 0))=_
     rw[hset]
 ·have hk0:k=0:=by have:=of_decide_eq_false h;omega
  subst hk0
  clear h
  obtain⟨hv,hr⟩:=z6 hO
  subst hr
  have ht:=eV Q (by omega)
  rw[aH,hv]at ht
  ((repeat ((fail_if_success (with_reducible refine aT 16 ?_));refine dh rfl ?_));refine aG 1 ?_)
  refine aa rfl ?_
  refine aJ ?_
  refine a_ rfl (c9 (Ghost.takeF (enc:=eD) (t:=60) (Q) rfl rfl (rfl) rfl (fun _=>rfl)) ?_)
  (refine j3 (dQ rfl (ht) rfl ?_ rfl) ?_;·repeat' constructor)
  refine aM ?_
  repeat refine aa rfl ?_
  exact sY rfl rfl rfl rfl rfl trivial trivial rfl
set_option maxRecDepth 20000 in
theorem zX (a b:List UInt16) (ha:a.length≤100000000) (hb:b.length≤100000000) (hta:Trm a) (htb:Trm b):Ret Tryz.prog .shared 185 [.sl (a.map eD),.sl (b.map eD)] (.sl ((aq (Nat.gcd (nv a) (nv b))).map eD)):=by
 generalize hg:Nat.gcd (nv a) (nv b)=g
 refine Ret.of_pwp layOk mixed Go.Proofs.Tryz.func185 rfl (by decide) rfl rfl ?_
 repeat refine aa rfl ?_
 refine am (fun q:List UInt16 × List UInt16=>q.1.length≤100000000∧q.2.length≤100000000∧Trm q.1∧Trm q.2∧Nat.gcd (nv q.1) (nv q.2)=g) (fun q=>[(0,.sl (q.1.map eD)),(1,.sl (q.2.map eD))]) (fun _=>[]) (fun q=>nv q.2) (a,b) ⟨ha,hb,hta,htb,hg⟩ ⟨rfl,rfl,trivial⟩ ?_
 rintro⟨A,B⟩ s ⟨hA,hB,htA,htB,hG⟩
 simp only at hA hB htA htB hG
 dsimp only
 have hBm:(B.map eD).length=B.length:=by simp
 repeat refine aa rfl ?_
 refine ab rfl ?_ ?_<;>intro h
 ·have hB0:0<B.length:=by have:=of_decide_eq_true h;omega
  clear h
  have hB0v:nv B≠0:=by
   match B,hB0,htB with
   |x::l,_,h=>exact l9 h
  have hd:=kW A B (by omega) (by omega) hB0v
  rw[DZ]at hd
  have hml:=Nat.mod_lt (nv A) (Nat.pos_of_ne_zero hB0v)
  have hnext:(aq (nv A%nv B)).length≤100000000:=by
   have h1:=db (Nat.le_of_lt hml)
   have h2:=cu B
   omega
  have hG2:Nat.gcd (nv B) (nv (aq (nv A%nv B)))=g:=by rw[aD,Nat.gcd_comm,←Nat.gcd_rec,Nat.gcd_comm];exact hG
  repeat refine aa rfl ?_
  refine ak rfl rfl rfl hd rfl rfl ?_
  repeat refine aa rfl ?_
  exact⟨(B,aq (nv A%nv B)),⟨hB,hnext,htB,bg _,hG2⟩,by simp only;rw[aD];exact hml,rfl,rfl,trivial⟩
 ·have hB0:B.length=0:=by have:=of_decide_eq_false h;omega
  clear h
  have hB0v:=List.length_eq_zero_iff.1 hB0
  subst hB0v
  rw[nv,Nat.gcd_zero_right]at hG
  rw[←hG,fa htA]
  repeat refine aa rfl ?_
  exact fP rfl rfl rfl trivial rfl
theorem zm (neg:Bool) (l:List UInt16) (h:Trm l):bO (dB neg (nv l))=⟨neg&&decide (0<l.length),l⟩:=by
 rw[l5]
 cases l with
 |nil=>rw[nv,if_pos rfl];simp
 |cons x l =>
  rw[if_neg (l9 h),fa h]
  simp
set_option maxRecDepth 20000 in
theorem dO (neg:Bool) (l:List UInt16) (hl:l.length≤900000000) (ht:Trm l):Ret Tryz.prog .shared 135 [.bool neg,.sl (l.map eD)] (.agg (eI (bO (dB neg (nv l))))):=by
 have hml:(l.map eD).length=l.length:=by simp
 rw[zm neg l ht]
 cases neg with
 |false =>
  rw[Bool.false_and]
  refine Ret.of_pwp layOk mixed Go.Proofs.Tryz.func135 rfl (by decide) rfl rfl ?_
  (repeat ((fail_if_success (with_reducible refine aT 2 ?_));refine dh rfl ?_))
  refine ay (Ghost.nilcell (k:=1007) (k0:=5) (i:=0) (j:=1) 177 1 0 rfl rfl rfl rfl (row:=[.bool false,.nil]) rfl rfl rfl) ?_
  repeat refine aa rfl ?_
  refine am (fun k=>k≤l.length) (fun k=>[(1,.sl (l.map eD)),(4,.ptr 4 1 0 0),(5,.ptr 5 1 0 0),(6,I (k:Nat))])
   (fun k=>[(4,1,⟨24,2,[[.bool false,.nil]],2⟩),(5,1,⟨24,2,[[.bool false,.als 1007 (k+1) 0 ((l.take k).map eU).length]],2⟩),(1007,k+1,⟨177,1,(l.take k).map eU,0⟩)]) (fun k=>l.length-k) 0 (Nat.zero_le _) ⟨rfl,rfl,rfl,rfl,rfl,rfl,rfl,trivial⟩ ?_
  intro k s hk
  repeat refine aa rfl ?_
  refine ab rfl ?_ ?_<;>intro h
  ·have hlt:k<l.length:=by have:=of_decide_eq_true h;omega
   clear h
   obtain⟨x,hx⟩:=aL hlt
   have hxl:=aR x
   have hkl:(l.take k).length=k:=by rw[List.length_take];omega
   have hw:=gz k
   have hcx:IntKind.u16.wrap (x.toNat:Int)=(x.toNat:Int):=by rw[IntKind.wrap_u16];omega
   repeat refine aa rfl ?_
   refine ah 8 [20,21,22,23,24,25,26,27] (by decide +kernel) ?_
   repeat refine aa rfl ?_
   refine aZ rfl rfl rfl rfl rfl rfl rfl hx rfl ?_
   repeat refine aa rfl ?_
   rw[hcx]
   refine bH rfl rfl (c8 rfl rfl rfl rfl rfl rfl rfl rfl rfl rfl (by repeat' constructor) rfl) ?_
   repeat refine aa rfl ?_
   refine ar (bE 0 rfl rfl rfl rfl rfl rfl rfl rfl rfl rfl rfl (by repeat' constructor) (by intro row hr;first|(simp at hr;subst hr;rfl)|simp at hr) rfl rfl (by simp;omega) (by simp;omega) ?_)
   repeat refine aa rfl ?_
   refine⟨k+1,hlt,by omega,rfl,rfl,rfl,congrArg I hw,rfl,?_,?_,trivial⟩
   ·rw[cb hx,List.map_append];rfl
   ·rw[cb hx,List.map_append];rfl
  ·have hge:k=l.length:=by have:=of_decide_eq_false h;omega
   subst hge
   clear h
   rw[List.take_length]
   repeat refine aa rfl ?_
   exact aF rfl rfl rfl
 |true =>
  rw[Bool.true_and]
  have hd:decide ((0:Int)<(((l.map eD).length:Nat):Int))=decide (0<l.length):=by rw[hml,decide_eq_decide];omega
  rw[←hd]
  generalize hP:decide ((0:Int)<(((l.map eD).length:Nat):Int))=P
  refine Ret.of_pwp layOk mixed Go.Proofs.Tryz.func135 rfl (by decide) rfl rfl ?_
  ((repeat (first|refine aJ ?_ | refine b5 ?_ | refine bJ ?_ | refine bF ?_));refine aS ?_)
  (repeat ((fail_if_success (with_reducible refine aT 2 ?_));refine dh rfl ?_))
  rw[hP]
  refine ay (Ghost.nilcell (k:=1007) (k0:=5) (i:=0) (j:=1) 177 1 0 rfl rfl rfl rfl (row:=[.bool P,.nil]) rfl rfl rfl) ?_
  repeat refine aa rfl ?_
  refine am (fun k=>k≤l.length) (fun k=>[(1,.sl (l.map eD)),(4,.ptr 4 1 0 0),(5,.ptr 5 1 0 0),(6,I (k:Nat))])
   (fun k=>[(4,1,⟨24,2,[[.bool false,.nil]],2⟩),(5,1,⟨24,2,[[.bool P,.als 1007 (k+1) 0 ((l.take k).map eU).length]],2⟩),(1007,k+1,⟨177,1,(l.take k).map eU,0⟩)]) (fun k=>l.length-k) 0 (Nat.zero_le _) ⟨rfl,rfl,rfl,rfl,rfl,rfl,rfl,trivial⟩ ?_
  intro k s hk
  repeat refine aa rfl ?_
  refine ab rfl ?_ ?_<;>intro h
  ·have hlt:k<l.length:=by have:=of_decide_eq_true h;omega
   clear h
   obtain⟨x,hx⟩:=aL hlt
   have hxl:=aR x
   have hkl:(l.take k).length=k:=by rw[List.length_take];omega
   have hw:=gz k
   have hcx:IntKind.u16.wrap (x.toNat:Int)=(x.toNat:Int):=by rw[IntKind.wrap_u16];omega
   repeat refine aa rfl ?_
   refine ah 8 [20,21,22,23,24,25,26,27] (by decide +kernel) ?_
   repeat refine aa rfl ?_
   refine aZ rfl rfl rfl rfl rfl rfl rfl hx rfl ?_
   repeat refine aa rfl ?_
   rw[hcx]
   refine bH rfl rfl (c8 rfl rfl rfl rfl rfl rfl rfl rfl rfl rfl (by repeat' constructor) rfl) ?_
   repeat refine aa rfl ?_
   refine ar (bE 0 rfl rfl rfl rfl rfl rfl rfl rfl rfl rfl rfl (by repeat' constructor) (by intro row hr;first|(simp at hr;subst hr;rfl)|simp at hr) rfl rfl (by simp;omega) (by simp;omega) ?_)
   repeat refine aa rfl ?_
   refine⟨k+1,hlt,by omega,rfl,rfl,rfl,congrArg I hw,rfl,?_,?_,trivial⟩
   ·rw[cb hx,List.map_append];rfl
   ·rw[cb hx,List.map_append];rfl
  ·have hge:k=l.length:=by have:=of_decide_eq_false h;omega
   subst hge
   clear h
   rw[List.take_length]
   repeat refine aa rfl ?_
   exact aF rfl rfl rfl
end Go.Pv
