/- Texts of one hand, gathered: PvR, PvS, PvU, PvW3, PvMa, PvMb, PvM, PvN, PvO, PvP, PvY, PvZ, PvEnd, PvTk, PvX, PvT, FbA, PvGq, FbB, FbC, PvEq, FbD, FbE, FbF, FbG. -/
import Derived.Test.YtaeeehokaleakaaGreatBm1
import Derived.OrdersIn
import Derived.TacticsIn
import Derived.RangeFuncIn
import Derived.RangeFuncRecord
import Derived.RangeFuncLeaves
import Derived.ProofKit
import Derived.OpenShut
import Derived.Carry
import Derived.Test.YtaeeehokaleakaaGreatProg
import Derived.KernelRfl
import Derived.Laws.BitsLemmas
import Derived.Lib.EndianBits
set_option maxRecDepth 20000
set_option linter.unusedSectionVars false
set_option linter.unusedSimpArgs false
set_option linter.unusedVariables false
set_option linter.unnecessarySimpa false
namespace Go.Pv
open Go.RowKit
variable [Globs]
def OwnLe (s s':St):Prop:=∀k,s'.own k=s.own k\/(s.own k).2=none
theorem OwnLe.some {s s':St}(h:OwnLe s s'){k:Nat}{c:Cont}(hc:(s.own k).2=some c):s'.own k=s.own k:=by
 rcases h k with h|h
 .exact h
 .rw[hc]at h;cases h
section
variable {P:Program}{L:b9}{s s':St}
theorem FU (h:OwnLe s s'){v:PV}{r:PV × Prop}(hq:wC s v=some r):wC s' v=some r:=by
 cases v<;>simp only[wC]at hq ⊢<;>try exact hq
 split at hq
 .rename_i c hc;rw[h.some hc,hc];exact hq
 .cases hq
theorem FV (h:OwnLe s s'){r:Option LRow}{op:BinOp}{v:PV}{q:PV × Prop}(hq:rC s r op v=some q):rC s' r op v=some q:=by
 cases v
 case ptr k g i j =>
  cases r with
  |none=>exact hq
  |some r =>
   unfold rC at hq ⊢;dsimp only at hq ⊢;generalize r.sh=sh at hq ⊢;cases sh<;>dsimp only at hq ⊢<;>try exact hq
   cases op<;>dsimp only at hq ⊢<;>try exact hq
   all_goals
    split at hq
    .rename_i c hc;rw[h.some hc,hc];exact hq
    .cases hq
 all_goals (first|exact hq|(simp only[rC]at hq ⊢;exact hq))
theorem zG (h:OwnLe s s'){v:PV}{r:Prop}(hq:mW s v=some r):mW s' v=some r:=by
 cases v<;>simp only[mW]at hq ⊢<;>try exact hq
 all_goals
  split at hq
  .rename_i c hc;rw[h.some hc,hc];exact hq
  .cases hq
theorem uf (h:OwnLe s s'):∀ {l:List PV} {r:Prop},dR s l=some r->dR s' l=some r
 |[],_,hq=>hq
 |c::l,r,hq=>by
  simp only[dR]at hq ⊢;split at hq
  .rename_i A hA;rw[zG h hA];split at hq
   .rename_i B hB;rw[uf h hB];exact hq
   .cases hq
  .cases hq
theorem qb (h:OwnLe s s'){fs:List (Nat × TypeId)}:∀ {l:List (Nat × PV)} {cs:List PV} {C:Prop} {r:List PV × Prop},jH L s fs l cs C=some r->jH L s' fs l cs C=some r
 |[],_,_,_,hq=>hq
 |(i,x)::l,cs,C,r,hq=>by
  simp only[jH]at hq ⊢;split at hq
  .rename_i off ft hf;split at hq
   .rename_i rr hr;split at hq
    .rename_i ds;cases hb:(Nat.beq ds.length rr.size&&Nat.ble (off+ds.length) cs.length) with
     |true=>rw[hb]at hq;simp only[cond_true]at hq ⊢;exact qb h hq
     |false=>rw[hb]at hq;simp at hq
    .rename_i x' hx';split at hq
     .rename_i Pr hPr;have:=zG h hPr;cases x<;>simp only[this]<;>first
       |(
        cases hb:(Nat.beq 1 rr.size&&Nat.ble (off+1) cs.length) with
        |true=>rw[hb]at hq;simp only[cond_true]at hq ⊢;exact qb h hq
        |false=>rw[hb]at hq;simp at hq)
       |exact absurd rfl (hx' _)
     .cases hq
   .cases hq
  .cases hq
theorem nf {f f':PV->Option (PV × Prop × Fl)}(hf:∀c r,f c=some r->f' c=some r):∀ {l:List PV} {r},fK f l=some r->fK f' l=some r
 |[],_,hq=>hq
 |c::l,r,hq=>by
  simp only[fK]at hq ⊢;split at hq
  .rename_i d C1 b1 h1;rw[hf c _ h1];split at hq
   .rename_i ds C2 b2 h2;simp only[nf hf h2];exact hq
   .cases hq
  .cases hq
theorem yg (h:OwnLe s s'):∀(n:Nat) (c:PV) (r:PV × Prop × Fl),fJ s n c=some r->fJ s' n c=some r
 |0,_,_,hq=>by simp[fJ]at hq
 |n+1,c,r,hq=>by
  have ih:=yg h n;cases c<;>simp only[fJ]at hq ⊢<;>try exact hq
  case als k g i m =>
   split at hq
   .rename_i c hc;rw[h.some hc,hc];exact hq
   .cases hq
  case mp k g =>
   split at hq
   .rename_i c hc;rw[h.some hc,hc];exact hq
   .cases hq
  case ptr k g i j =>
   split at hq
   .rename_i c hc;rw[h.some hc,hc];simp only;split at hq
    .rename_i row hrow;cases hb:Nat.ble c.kind 1 with
     |true=>rw[hb]at hq;exact hq
     |false =>
      rw[hb]at hq;simp only[cond_false]at hq ⊢;split at hq
      .rename_i row' C1 b1 h1;rw[nf ih h1];exact hq
      .cases hq
    .cases hq
   .cases hq
  all_goals
   split at hq
   .rename_i ds C1 b1 h1;rw[nf ih h1];exact hq
   .cases hq
theorem GW (hr:s'.reg=s.reg)(x:Operand):s'.ev x=s.ev x:=by cases x<;>simp only[St.ev,hr]
theorem I8 (h:OwnLe s s')(hr:s'.reg=s.reg){op:Op}{r:PV × Prop}(hq:qv L s op=some r):qv L s' op=some r:=by
 have hev:=GW hr;cases op
 case nilCheck x =>
  simp only[qv,hev]at hq ⊢;split at hq<;>try exact hq
  rename_i k g i j hx;split at hq
  .rename_i c hc;rw[h.some hc,hc];exact hq
  .cases hq
 case fieldAddr T x f =>
  simp only[qv,hev]at hq ⊢;split at hq<;>try (cases hq;done)
  split at hq<;>try (cases hq;done)
  split at hq<;>try (cases hq;done)
  split at hq<;>try (cases hq;done)
  rename_i rf hrf;cases hb:Nat.blt 0 rf.size with
  |false=>rw[hb]at hq;cases hq
  |true =>
   rw[hb]at hq;simp only[cond_true]at hq ⊢;split at hq<;>try exact hq
   rename_i k g i j hx;split at hq
   .rename_i c hc;rw[h.some hc,hc];exact hq
   .cases hq
 case load T x =>
  simp only[qv,hev]at hq ⊢;split at hq<;>try (cases hq;done)
  split at hq<;>try exact hq
  rename_i k g i j hx;split at hq
  .rename_i c hc;rw[h.some hc,hc];exact hq
  .cases hq
 case binOp op T x y T' =>
  simp only[qv,hev]at hq ⊢;cases hn:Dn y with
  |true=>rw[hn,cond_true]at hq;rw[cond_true];exact FV h hq
  |false=>rw[hn,cond_false]at hq;rw[cond_false];exact hq
 case build T parts =>
  simp only[qv,hev]at hq ⊢;split at hq<;>try (cases hq;done)
  split at hq<;>try (cases hq;done)
  rename_i fs z hfs hz;cases hb:fs.all (fun p=>(L p.2).isSome) with
  |false=>rw[hb]at hq;cases hq
  |true =>
   rw[hb]at hq;simp only[cond_true]at hq ⊢;split at hq
   .rename_i cs C hf;rw[qb h hf];exact hq
   .cases hq
 case call c =>
  unfold qv at hq ⊢;split at hq;any_goals (rename_i heq;cases heq;done)
  .rename_i x T heq;cases heq;simp only[hev];split at hq<;>try (cases hq;done)
   split at hq<;>try exact hq
   rename_i v _ hsl _;exact FU h hq
  .rename_i x y tys heq;cases heq;simp only[hev];exact hq
  .rename_i x y tys heq;cases heq;simp only[hev];exact hq
  .cases hq
 case makeFunc fn first caps =>
  obtain⟨caps⟩:=caps;obtain⟨first⟩:=first;cases fn<;>cases first<;>simp only[qv]at hq ⊢<;>try (cases hq;done)
  rw[<-hq,cE fun x _=>hev x]
 all_goals (first|(simp only[qv,hev]at hq ⊢;exact hq)|(simp only[qv]at hq;cases hq)|exact hq)
theorem QOp.le (h:OwnLe s s')(hr:s'.reg=s.reg){o:Oper}{v:PV}(hq:QOp P L s o v):QOp P L s' o v:=by
 have hev:=GW hr;have hm:∀args:Array Operand,args.toList.map s'.ev=args.toList.map s.ev:=fun args=>cE fun x _=>hev x;cases hq with
 |v hq hc=>exact .v (I8 h hr hq) hc
 |seq ho hT hx hy hl=>exact .seq ho hT (by rw[hev];exact hx) (by rw[hev];exact hy) hl
 |idx ho h1 h2 h3 hx hix h0 hrow hlen=>exact .idx ho h1 h2 h3 (by rw[hev];exact hx) (by rw[hev];exact hix) h0 hrow hlen
 |idxA ho h1 h2 h3 hx hown hsz hix h0 hlt=>exact .idxA ho h1 h2 h3 (by rw[hev];exact hx) (by rw[h.some (by rw[hown])];exact hown) hsz (by rw[hev];exact hix) h0 hlt
 |ldp ho h1 hx hown hrow hp=>exact .ldp ho h1 (by rw[hev];exact hx) (by rw[h.some (by rw[hown])];exact hown) hrow hp
 |slc ho h1 h2 h3 hx hix h0 hle hlen=>exact .slc ho h1 h2 h3 (by rw[hev];exact hx) (by rw[hev];exact hix) h0 hle hlen
 |slh ho h1 h2 h3 hx hix h0 hle hlen=>exact .slh ho h1 h2 h3 (by rw[hev];exact hx) (by rw[hev];exact hix) h0 hle hlen
 |slg fr ho h1 h2 h3 hx hlo hhi hlh hle hlen=>exact .slg fr ho h1 h2 h3 (by rw[hev];exact hx) (hlo.imp id fun⟨y,k,e1,e2⟩=>⟨y,k,e1,by rw[hev];exact e2⟩) (hhi.imp id fun⟨y,k,e1,e2⟩=>⟨y,k,e1,by rw[hev];exact e2⟩) hlh hle hlen
 |slA ho h1 h2 h3 hx hown hsz hlo hhi hlt hle=>exact .slA ho h1 h2 h3 (by rw[hev];exact hx) (by rw[h.some (by rw[hown])];exact hown) hsz (hlo.imp id fun⟨y,k,e1,e2⟩=>⟨y,k,e1,by rw[hev];exact e2⟩) (hhi.imp id fun⟨y,k,e1,e2⟩=>⟨y,k,e1,by rw[hev];exact e2⟩) hlt hle
 |slE ho h1 h2 h3 hx hown hlo hhi hle=>exact .slE ho h1 h2 h3 (by rw[hev];exact hx) (by rw[h.some (by rw[hown])];exact hown) (hlo.imp id fun⟨y,k,e1,e2⟩=>⟨y,k,e1,by rw[hev];exact e2⟩) (hhi.imp id fun⟨y,k,e1,e2⟩=>⟨y,k,e1,by rw[hev];exact e2⟩) hle
 |call ho hf hres hc hb hret=>exact .call ho (by rw[hev];exact hf) (by rw[hm];exact nf (yg h 4) hres) hc hb hret
 |callF ho hf hres hc hret=>exact .callF ho (by rw[hev];exact hf) (by rw[hm];exact nf (yg h 4) hres) hc hret
 |look ho hr0 hs hrk hrv hz hz1 hx hown hk3 hky hkeys =>
  rename_i T K V r rk rv x y k g c z ok;rw[<-hev y];exact .look ho hr0 hs hrk hrv hz hz1 (by rw[hev];exact hx) (by rw[h.some (by rw[hown])];exact hown) hk3 (by rw[hev];exact hky) hkeys
 |sem hx h1 hrun hpv=>exact .sem (by rw[hev];exact hx) h1 hrun hpv
 |semF hne hall hrun hpv=>exact .semF hne (fun x hx=>by rw[hev];exact hall x hx) (fun ev w hw h=>hrun ev w hw fun x hx=>by rw[<-hev];exact h x hx) hpv
 |lookG ho hr0 hs hrk hz hx hg hky hkeys =>
  rename_i T K V r rk kk x y rows z ok;rw[<-hev y];exact .lookG ho hr0 hs hrk hz (by
   rw[hev];rcases hx with hx|⟨k,g,c,h1,h2,h3,h4⟩
   .exact .inl hx
   .exact .inr ⟨k,g,c,h1,by rw[h.some (by rw[h2])];exact h2,h3,h4⟩) hg (by rw[hev];exact hky) hkeys
 |s2b ho hrs h1 hs hre hsh hx=>exact .s2b ho hrs h1 hs hre hsh (by rw[hev];exact hx)
 |b2s ho hrs h1 hs hre hsh hrd hl hx=>exact .b2s ho hrs h1 hs hre hsh hrd hl (by rw[hev];exact hx)
 |entry ho hx hown hk3 hrows=>exact .entry ho (by rw[hev];exact hx) (by rw[h.some (by rw[hown])];exact hown) hk3 hrows
 |mks ho h1 h2 h3 hz hsz hl hc h0 hb h63=>exact .mks ho h1 h2 h3 hz hsz (by rw[hev];exact hl) (by rw[hev];exact hc) h0 hb h63
 |slit ho h1 h2 h3 hz hsz hn hN hcells hp1 hp2 hkd =>
  rename_i T e r re n parts Pr;have e1:(parts.toList.map fun p=>(s.ev p.2).cells.map (gv 0))=parts.toList.map fun p=>(s'.ev p.2).cells.map (gv 0):=cE fun p _=>by rw[hev]
  have e2:(parts.toList.flatMap fun p=>(s.ev p.2).cells)=parts.toList.flatMap fun p=>(s'.ev p.2).cells:=by
   rw[iu,iu];congr 1;exact cE fun p _=>by rw[hev]
  rw[e1];exact .slit ho h1 h2 h3 hz hsz hn hN (fun p hp=>by rw[hev];exact hcells p hp) (by rw[<-e2];exact uf h hp1) hp2 (by rw[<-e2];exact hkd)
 |slitD ho h1 h2 h3 hz hsz hn hN hcells hp1 hp2 hkd =>
  rename_i T e r re n parts Pr;have e1:(parts.toList.map fun p=>(s.ev p.2).cells.map (gv 1))=parts.toList.map fun p=>(s'.ev p.2).cells.map (gv 1):=cE fun p _=>by rw[hev]
  have e2:(parts.toList.flatMap fun p=>(s.ev p.2).cells)=parts.toList.flatMap fun p=>(s'.ev p.2).cells:=by
   rw[iu,iu];congr 1;exact cE fun p _=>by rw[hev]
  rw[e1];exact .slitD ho h1 h2 h3 hz hsz hn hN (fun p hp=>by rw[hev];exact hcells p hp) (by rw[<-e2];exact uf h hp1) hp2 (by rw[<-e2];exact hkd)
end
end Go.Pv
namespace Go.Pv
open Go.RowKit
variable [Globs]
section
variable {P:Program}{L:b9}{C:Ctx}{s:St}{a:Act}{w w':World}{ops:Array Oper}
theorem Eff.congr {u s u':St}{o:Oper}(ho:u.own=s.own)(he:∀x∈o.op.operands,u.ev x=s.ev x)(h:Eff P L u o u') :
  ∃s',Eff P L s o s'/\s'.own=u'.own/\(∀t,o.dst=some t->s'.reg t=u'.reg t)/\∀t,o.dst≠some t->s'.reg t=s.reg t/\u'.reg t=u.reg t:=by
 have hfin:∀d c,(u.fin d c).own=(s.fin d c).own:=fun d c=>by simp only[St.fin,St.setOwn,ho]
 have key:∀ {d k:Nat} {c:Cont} {pv:PV},o.dst=some d->((s.fin k c).putR d pv).own=((u.fin k c).putR d pv).own/\(∀t,o.dst=some t->((s.fin k c).putR d pv).reg t=((u.fin k c).putR d pv).reg t) /\
   ∀t,o.dst≠some t->((s.fin k c).putR d pv).reg t=s.reg t/\((u.fin k c).putR d pv).reg t=u.reg t:=by
  intro d k c pv hd;refine⟨(hfin k c).symm,fun t ht=>?_,fun t ht=>?_⟩
  .have:d=t:=by rw[hd]at ht;exact bk ht
   subst this;show(bif Nat.beq d d then pv else _)=(bif Nat.beq d d then pv else _);simp
  .have:t≠d:=fun e=>ht (by rw[e];exact hd);exact⟨by show(bif Nat.beq t d then pv else s.reg t)=_;rw[bR this];rfl,by show(bif Nat.beq t d then pv else u.reg t)=_;rw[bR this];rfl⟩
 cases h with
 |nils e sz kd h1 hd hx =>
  rename_i x d;have hx':s.ev x=.nil:=by rw[<-he x (by rcases h1 with h1|h1<;>rw[h1]<;>simp[Op.operands])];exact hx
  have hg:(u.own d).1=(s.own d).1:=by rw[ho]
  rw[hg];exact⟨_,.nils e sz kd h1 hd hx',key hd⟩
 |box h1 hd h2 h3 h0 =>
  rename_i T x d Pr;have hx:u.ev x=s.ev x:=he x (by rw[h1];simp[Op.operands]);have hg:(u.own d).1=(s.own d).1:=by rw[ho]
  rw[hg,hx];exact⟨_,.box h1 hd (by rw[<-hx,<-iN ho];exact h2) h3 (by rw[<-hx];exact h0),key hd⟩
 |alloc h1 hd hr hz h0 =>
  rename_i T r z d;have hg:(u.own d).1=(s.own d).1:=by rw[ho]
  rw[hg];exact⟨_,.alloc h1 hd hr hz h0,key hd⟩
 |store kd h1 hd hr hx hown hrow h2 h3 hsz hle hk hkd =>
  rename_i T r x y k g i j c row Pr;have hx':u.ev x=s.ev x:=he x (by rw[h1];simp[Op.operands]);have hy':u.ev y=s.ev y:=he y (by rw[h1];simp[Op.operands]);rw[hy'];refine⟨_,.store kd h1 hd hr (by rw[<-hx'];exact hx) (by rw[<-ho];exact hown) hrow (by rw[<-hy',<-iN ho];exact h2) h3 (by rw[<-hy'];exact hsz) hle hk (by rw[<-hy'];exact hkd),(by simp only[St.setOwn,ho]),fun t ht=>(by rw[hd]at ht;cases ht),fun t _=>⟨O,O⟩⟩
 |appN h1 hd hr hs hre hz hsz hx hq hc2 hlen hb h63 =>
  rename_i T e r re x y d rows2 k2 Cd2;have hx':u.ev x=s.ev x:=he x (by rw[h1];simp[Op.operands,Call.operands]);have hy':u.ev y=s.ev y:=he y (by rw[h1];simp[Op.operands,Call.operands]);have hg:(u.own d).1=(s.own d).1:=by rw[ho]
  have hsrc:lx s (s.ev y)=some (rows2,k2,Cd2):=by rw[<-hy',<-hq];cases u.ev y<;>simp only[lx,ho]
  rw[hg];exact⟨_,.appN h1 hd hr hs hre hz hsz (by rw[<-hx'];exact hx) hsrc hc2 hlen hb h63,key hd⟩
 |app kd h1 hd hr hs hre hz hsz hx hown hm hcs hct hq hc2 hlen hk1 hk2 hb h63 =>
  rename_i T e r re x y d k g c m rows2 k2 Cd2;have hx':u.ev x=s.ev x:=he x (by rw[h1];simp[Op.operands,Call.operands]);have hy':u.ev y=s.ev y:=he y (by rw[h1];simp[Op.operands,Call.operands]);have hsrc:lx s (s.ev y)=some (rows2,k2,Cd2):=by rw[<-hy',<-hq];cases u.ev y<;>simp only[lx,ho]
  exact⟨_,.app kd h1 hd hr hs hre hz hsz (by rw[<-hx'];exact hx) (by rw[<-ho];exact hown) hm hcs hct hsrc hc2 hlen hk1 hk2 hb h63,key hd⟩
 |make h1 hd hr hs hre hz hsz hl hc h0 hnm hb h63 =>
  rename_i T e r re l c kl kc n m z d;have hl':u.ev l=s.ev l:=he l (by rw[h1];simp[Op.operands]);have hc':u.ev c=s.ev c:=he c (by rw[h1];simp[Op.operands]);have hg:(u.own d).1=(s.own d).1:=by rw[ho]
  rw[hg];exact⟨_,.make h1 hd hr hs hre hz hsz (by rw[<-hl'];exact hl) (by rw[<-hc'];exact hc) h0 hnm hb h63,key hd⟩
 |slit kd h1 hd hr hs hre hz hsz hn hNs hcells h2 h3 hkd =>
  rename_i T e r re n d parts Pr;have hp:∀p∈parts.toList,u.ev p.2=s.ev p.2:=fun p hp=>he p.2 (by rw[h1];simp[Op.operands];exact⟨p.1,by simpa using hp⟩);have e1:(parts.toList.map fun p=>(u.ev p.2).cells.map (gv kd))=parts.toList.map fun p=>(s.ev p.2).cells.map (gv kd):=cE fun p h=>by rw[hp p h]
  have e2:(parts.toList.flatMap fun p=>(u.ev p.2).cells)=parts.toList.flatMap fun p=>(s.ev p.2).cells:=by
   rw[iu,iu];congr 1;exact cE fun p h=>by rw[hp p h]
  have hg:(u.own d).1=(s.own d).1:=by rw[ho]
  rw[hg,e1];exact⟨_,.slit kd h1 hd hr hs hre hz hsz hn hNs (fun p h=>by rw[<-hp p h];exact hcells p h) (by rw[<-e2,<-iN ho];exact h2) h3 (by rw[<-e2];exact hkd),key hd⟩
 |callO h1 hd hf hret hres hc =>
  rename_i fop args tys f caps pargs Cd b T sz d rows;have hg:(u.own d).1=(s.own d).1:=by rw[ho]
  have hf':u.ev fop=s.ev fop:=he fop (by rw[h1];simp[Op.operands,Call.operands]);have ha:args.toList.map u.ev=args.toList.map s.ev:=cE fun x hx=>he x (by rw[h1];simp[Op.operands,Call.operands];exact .inr (by simpa using hx));rw[hg];exact⟨_,.callO h1 hd (by rw[<-hf'];exact hf) hret (by rw[<-ha,show fJ s 4=fJ u 4 from(funext (ur ho 4)).symm];exact hres) hc,key hd⟩
 |makeMap h1 hd =>
  rename_i T d;have hg:(u.own d).1=(s.own d).1:=by rw[ho]
  rw[hg];exact⟨_,.makeMap h1 hd,key hd⟩
 |mapSet kd h1 hd hr hs hrk hx hown hk1 hk3 hky hkeys hkd =>
  rename_i T K V r rk x y v k g c;have hx':u.ev x=s.ev x:=he x (by rw[h1];simp[Op.operands]);have hy':u.ev y=s.ev y:=he y (by rw[h1];simp[Op.operands]);have hv':u.ev v=s.ev v:=he v (by rw[h1];simp[Op.operands]);rw[hy',hv'];exact⟨_,.mapSet kd h1 hd hr hs hrk (by rw[<-hx'];exact hx) (by rw[<-ho];exact hown) hk1 hk3 (by rw[<-hy'];exact hky) hkeys (by rw[<-hv'];exact hkd),(by simp only[St.setOwn,ho]),fun t ht=>(by rw[hd]at ht;cases ht),fun t _=>⟨O,O⟩⟩
 |range h1 hd hr hs hx =>
  rename_i T K V r x rows d;have hx':u.ev x=s.ev x:=he x (by rw[h1];simp[Op.operands]);have hg:(u.own d).1=(s.own d).1:=by rw[ho]
  rw[hg];exact⟨_,.range h1 hd hr hs (by rw[<-hx'];exact hx),key hd⟩
theorem Dz {o:Oper}{s s':St}(he:∀t∈o.looksAt ops,s.reg t=s'.reg t):∀x∈o.op.operands,s.ev x=s'.ev x:=by
 intro x hx;cases x with
 |tmp t=>exact he t (iq _ (tB.2 ⟨.tmp t,by simpa using hx,rfl⟩))
 |_=>rfl
theorem ox {listed:Array Bool}(hsz:listed.size=ops.size)(lex:∀i o,ops[i]?=some o->∀e∈o.after,Region.binds .any e=true->e.on<i){U:List Nat}(hmem:∀i,i∈U↔i<ops.size/\listed.getD i true=false)(hne:U≠[]) :
  Region.ready .any ops listed≠[]:=by
 obtain⟨i0,hi0,hmin⟩:∃i∈U,∀j∈U,i<=j:=by
  have hex:∃i,i∈U:=by
   cases U with
   |nil=>exact absurd rfl hne
   |cons u U'=>exact⟨u,aj⟩
  have hd':∀k,(∃i,i∈U/\i<=k)->∃i∈U,∀j∈U,i<=j:=by
   intro k
   induction k with
   |zero=>rintro⟨i,hi,h0⟩;exact⟨i,hi,fun j _=>by omega⟩
   |succ k ihk =>
    rintro⟨i,hi,hk⟩;by_cases hex:∃j,j∈U/\j<=k
    .exact ihk hex
    .refine⟨i,hi,fun j hj=>?_⟩;rcases aT j i with h1|h1
     .exact absurd ⟨j,hj,J⟩ hex
     .exact h1
  obtain⟨i,hi⟩:=hex;exact hd' i ⟨i,hi,aH⟩
 have hu:=(hmem i0).1 hi0;have hr:i0∈Region.ready .any ops listed:=by
  refine mem_ready.2 ⟨hu.2,ops[i0]'hu.1,cC hu.1,fun e he hb=>?_⟩;have hlt:=lex i0 _ (cC hu.1) e he hb;cases hl:listed.getD e.on true with
  |false =>
   have:=hmin e.on ((hmem e.on).2 ⟨J,hl⟩);omega
  |true =>
   have h2:e.on<listed.size:=by rw[hsz];omega
   simp[h2]at hl ⊢;exact hl
 intro hnil;rw[hnil]at hr;cases hr
end
end Go.Pv
namespace Go.Pv
open Go.RowKit
variable [Globs]
section
variable {P:Program}{L:b9}{C:Ctx}{a:Act}{w w':World}{ops:Array Oper}
theorem pP {listed:Array Bool}(hmem:∀i,i∈([]:List Nat)↔i<ops.size/\listed.getD i true=false):Region.ready .any ops listed=[]:=by
 cases h:Region.ready .any ops listed with
 |nil=>rfl
 |cons i l =>
  exfalso;have hi:i∈Region.ready .any ops listed:=by rw[h];simp
  obtain⟨hun,o,ho,_⟩:=mem_ready.1 hi;have:=(hmem i).2 ⟨(eO ho).1,hun⟩;cases this
theorem yY {listed:Array Bool}{i:Nat}(h:i<listed.size):listed.getD i true=listed.getD i false:=by simp[h]
theorem cb (s:St)(d:Option Nat)(v:PV):(s.put d v).own=s.own:=by cases d<;>rfl
end
end Go.Pv
namespace Go.Pv
open Go.RowKit
variable [Globs]
def ej:List Nat->Nat->Bool
 |[],_=>false
 |z::Z,k=>bif Nat.beq k z then true else ej Z k
def St.erase (Z:List Nat)(s:St):St:={ s with own:=fun k=>bif ej Z k then((s.own k).1,none) else s.own k }
section
variable {P:Program}{L:b9}{C:Ctx}{a:Act}{w w':World}{ops:Array Oper}
inductive Step3 (P:Program) (L:b9) (ops:Array Oper) (Z:List Nat):Bool->St->Oper->St->Prop
 |no {c:Bool} {s:St} {o:Oper} (h:Wants ops s o false):Step3 P L ops Z c s o (s.put o.dst (.raw undef))
 |free {s:St} {o:Oper} {v:PV} (h:Wants ops s o true) (hq:QOp P L (s.erase Z) o v):Step3 P L ops Z false s o (s.put o.dst v)
 |quiet {s:St} {o:Oper} {v:PV} (h:Wants ops s o true) (hq:QOp P L s o v):Step3 P L ops Z true s o (s.put o.dst v)
 |eff {s s':St} {o:Oper} (h:Wants ops s o true) (he:Eff P L s o s') (hz:∀k,ej Z k=false->s'.own k=s.own k):Step3 P L ops Z true s o s'
def P3 (P:Program)(L:b9)(ops:Array Oper)(Z:Nat->List Nat)(cls:Nat->Bool)(K:St->Prop):Nat->List Oper->St->Prop
 |_,[],s=>K s
 |i,o::rest,s=>∃s',Step3 P L ops (Z i) (cls i) s o s'/\P3 P L ops Z cls K (i+1) rest s'
theorem P3.run {Z:Nat->List Nat}{cls:Nat->Bool}{K:St->Prop}:∀(l:List Oper) (i:Nat) (s:St),P3 P L ops Z cls K i l s->∃S:Nat->St,S 0=s/\(∀(j:Nat) (o:Oper),l[j]?=some o->Step3 P L ops (Z (i+j)) (cls (i+j)) (S j) o (S (j+1)))/\K (S l.length)
 |[],i,s,h=>⟨fun _=>s,rfl,fun j o hj=>by simp at hj,h⟩
 |o::l,i,s,⟨s',h1,h2⟩=>by
  obtain⟨S,g1,g2,g3⟩:=P3.run l (i+1) s' h2;refine⟨fun n=>match n with|0=>s|n+1=>S n,rfl,fun j o' hj=>?_,g3⟩;cases j with
  |zero=>simp at hj;subst hj;show Step3 _ _ _ _ _ s o (S 0);rw[g1];exact h1
  |succ j =>
   have:=g2 j o' (by simpa using hj);rw[show i+1+j=i+(j+1) by omega]at this;exact this
def xW (acc:List Nat)(o:Oper):Nat:=o.after.toList.foldl (fun m e=>bif Region.binds .any e then m ||| 2^e.on ||| acc.getD e.on 0 else m) 0
def tV:List Oper->List Nat->List Nat
 |[],acc=>acc
 |o::l,acc=>tV l (acc++[xW acc o])
def jK (ops:Array Oper):List Nat:=tV ops.toList []
theorem oz {acc:List Nat}{j:Nat}:∀(l:List Edge) (m:Nat),(l.foldl (fun m e=>bif Region.binds .any e then m ||| 2^e.on ||| acc.getD e.on 0 else m) m).testBit j=true ->
  m.testBit j=true\/∃e∈l,Region.binds .any e=true/\(e.on=j\/(acc.getD e.on 0).testBit j=true)
 |[],m,h => .inl h
 |e::l,m,h=>by
  rw[iz]at h;rcases oz l _ h with h1|⟨e',he',h2⟩
  .cases hb:Region.binds .any e with
   |false=>rw[hb]at h1;exact .inl h1
   |true =>
    rw[hb,cond_true,Nat.testBit_or,Nat.testBit_or,Nat.testBit_two_pow]at h1;simp only[pd,decide_eq_true_eq]at h1;rcases h1 with(h1|h1)|h1
    .exact .inl h1
    .exact .inr ⟨e,aj,hb,.inl h1⟩
    .exact .inr ⟨e,aj,hb,.inr h1⟩
  .exact .inr ⟨e',by simp[he'],h2⟩
def xp (all:List Oper)(acc:List Nat):Prop:=∀i j:Nat,(acc.getD i 0).testBit j=true->∃o,all[i]?=some o/\∃e∈o.after,Region.binds .any e=true/\(e.on=j\/(acc.getD e.on 0).testBit j=true)
theorem qx (all:List Oper):∀(l:List Oper) (acc:List Nat),all=all.take acc.length++l->acc.length<=all.length->xp all acc->xp all (tV l acc)
 |[],_,_,_,h=>h
 |o::l,acc,ha,hle,h=>by
  have hlt:acc.length<all.length:=by
   have:=congrArg List.length ha;rw[bT,bI,eJ]at this;omega
  have ho:all[acc.length]?=some o:=by
   have:(all.take acc.length).length=acc.length:=by rw[bI];omega
   rw[ha,dj J,this];simp
  refine qx all l _ ?_ aX fun i j hij=>?_
  .rw[bT,tq,take_snoc' ho,bt];exact ha
  .have low:∀q,(acc.getD q 0).testBit j=true->((acc++[xW acc o]).getD q 0).testBit j=true:=by
    intro q hq;rcases aT q acc.length with h1|h1
    .rw[cH,fG h1,<-cH];exact hq
    .rw[cH,dF h1]at hq;simp at hq
   rcases jr i acc.length with h1|h1|h1
   .rw[cH,fG h1,<-cH]at hij;obtain⟨o',e1,e,e2,e3,e4⟩:=h i j hij;exact⟨o',e1,e,e2,e3,e4.imp _root_.id (low _)⟩
   .subst h1;rw[cH,dj (aH),fU]at hij;rcases oz _ 0 (show(xW acc o).testBit j=true from hij) with h2|⟨e,e2,e3,e4⟩
    .simp at h2
    .exact⟨o,ho,e,by simpa using e2,e3,e4.imp _root_.id (low _)⟩
   .rw[cH,dF aX]at hij;simp at hij
where
 take_snoc' {α:Type} {l:List α} {k:Nat} {x:α} (hx:l[k]?=some x):l.take (k+1)=l.take k++[x]:=by
  rw[mL,hx];rfl
theorem vZ (ops:Array Oper):xp ops.toList (jK ops) :=
 qx ops.toList ops.toList [] aj aj fun i j h=>by simp at h
def gC (ops:Array Oper)(ch:List Nat):Bool :=
 decide (ops.toList.filterMap (·.dst)).Nodup&&(List.range ops.size).all fun i=>match ops[i]? with
  |some o=>o.after.all (fun e=>!Region.binds .any e||decide (e.on<i)) &&
   ((o.looksAt ops).all fun t=>(List.range ops.size).all fun j=>decide (j=i)||!((ops[j]?).bind (·.dst)==some t)||(bif decide (j<i) then((jK ops).getD i 0).testBit j else((jK ops).getD j 0).testBit i)) &&
   (!ej ch i||(List.range i).all fun j=>!ej ch j||((jK ops).getD i 0).testBit j)
  |none=>false
structure Draw3Ok (ops:Array Oper) (ch:List Nat):Prop where
 nodup:∀(i j:Nat) (o o':Oper) (t:Nat),ops[i]?=some o->ops[j]?=some o'->o.dst=some t->o'.dst=some t->i=j
 lex:∀i o,ops[i]?=some o->∀e∈o.after,Region.binds .any e=true->e.on<i
 reads:∀i o,ops[i]?=some o->∀t∈o.looksAt ops,∀j o',ops[j]?=some o'->o'.dst=some t->j≠i->(j<i->((jK ops).getD i 0).testBit j=true)/\(i<j->((jK ops).getD j 0).testBit i=true)
 chain:∀i j,i<ops.size->ej ch i=true->ej ch j=true->j<i->((jK ops).getD i 0).testBit j=true
theorem jI {α:Type}{f:α->Option Nat}:∀ {l:List α},(l.filterMap f).Nodup->∀(i j:Nat) (x y:α) (t:Nat),l[i]?=some x->l[j]?=some y->f x=some t->f y=some t->i=j
 |[],_,i,j,x,y,t,h1,_,_,_=>by simp at h1
 |b::l,hn,i,j,x,y,t,h1,h2,h3,h4=>by
  have hl:(l.filterMap f).Nodup:=by
   rw[List.filterMap_cons]at hn;split at hn
   .exact hn
   .exact(kC.1 hn).2
  have one:∀(k:Nat) z,f b=some t->l[k]?=some z->f z=some t->False:=by
   intro k z g1 g2 g3;rw[List.filterMap_cons,g1]at hn;exact(kC.1 hn).1 (tB.2 ⟨z,bG g2,g3⟩)
  cases i with
  |zero =>
   cases j with
   |zero=>rfl
   |succ j=>simp at h1 h2;subst h1;exact(one j y h3 h2 h4).elim
  |succ i =>
   cases j with
   |zero=>simp at h1 h2;subst h2;exact(one i x h4 h1 h3).elim
   |succ j=>rw[jI hl i j x y t (by simpa using h1) (by simpa using h2) h3 h4]
theorem my {ch:List Nat}(h:gC ops ch=true):Draw3Ok ops ch:=by
 simp only[gC,bj,decide_eq_true_eq]at h;obtain⟨h0,h⟩:=h;have hget:∀ {i:Nat} {o:Oper},ops[i]?=some o->ops.toList[i]?=some o:=fun {i} {o} h=>by rw[dq];exact h
 refine⟨fun i j o o' t h1 h2 h3 h4=>jI h0 i j o o' t (hget h1) (hget h2) h3 h4,fun i o ho e he hb=>?_,fun i o ho t ht j o' ho' hd hne=>?_,fun i j hi hzi hzj hlt=>?_⟩
 .have hi:=(eO ho).1;have e1:=bx.1 h i (dG.2 hi);rw[ho]at e1;simp only[bj]at e1;have e2:=y6.1 e1.1.1 e he;simpa [hb] using e2
 .have hi:=(eO ho).1;have hj:=(eO ho').1;have e1:=bx.1 h i (dG.2 hi);rw[ho]at e1;simp only[bj]at e1;have e2:=bx.1 (bx.1 e1.1.2 t ht) j (dG.2 hj);rw[ho']at e2;simp only[tK,hd,beq_self_eq_true,pl,Bool.or_false,pd,decide_eq_true_eq]at e2;rcases e2 with e2|e2
  .exact absurd e2 hne
  .refine⟨fun hlt=>?_,fun hlt=>?_⟩
   .rw[decide_eq_true hlt]at e2;exact e2
   .rw[decide_eq_false J]at e2;exact e2
 .have e1:=bx.1 h i (dG.2 hi);rw[cC hi]at e1;simp only[bj,hzi,pl,kI]at e1;have e2:=bx.1 e1.2 j (dG.2 hlt);simpa [hzj] using e2
def Hr (ops:Array Oper)(listed:Array Bool):Prop:=∀i o,ops[i]?=some o->listed.getD i true=true->∀e∈o.after,Region.binds .any e=true->listed.getD e.on true=true
theorem dI {ch:List Nat}(hd:Draw3Ok ops ch){listed:Array Bool}(hc:Hr ops listed):∀(f i:Nat) (o:Oper),i<=f->ops[i]?=some o->(∀e∈o.after,Region.binds .any e=true->listed.getD e.on true=true)->∀j,((jK ops).getD i 0).testBit j=true->listed.getD j true=true:=by
 intro f
 induction f with
 |zero =>
  intro i o hi ho hall j hj;obtain⟨o',e1,e,e2,e3,e4⟩:=vZ ops i j hj;have e1:ops[i]?=some o':=by simpa using e1
  rw[ho]at e1;cases e1;have:=hd.lex i o ho e e2 e3;omega
 |succ f ih =>
  intro i o hi ho hall j hj;obtain⟨o',e1,e,e2,e3,e4⟩:=vZ ops i j hj;have e1:ops[i]?=some o':=by simpa using e1
  rw[ho]at e1;cases e1;have hlt:=hd.lex i o ho e e2 e3;have hl:=hall e e2 e3;rcases e4 with e4|e4
  .rw[<-e4];exact hl
  .have hsz:e.on<ops.size:=by have:=(eO ho).1;omega
   exact ih e.on ops[e.on] J (cC hsz) (fun e' he' hb=>hc e.on _ (cC hsz) hl e' he' hb) j e4
theorem eY {o:Oper}{s:St}{v:PV}{t:Nat}(h:o.dst≠some t):(s.put o.dst v).reg t=s.reg t:=by
 cases hd:o.dst with
 |none=>rfl
 |some d =>
  show(bif Nat.beq t d then v else s.reg t)=_;have:t≠d:=fun e=>h (by rw[hd,e]);rw[bR this];rfl
theorem f9 {o:Oper}{s:St}{v:PV}{t:Nat}(h:o.dst=some t):(s.put o.dst v).reg t=v:=by
 rw[h];show(bif Nat.beq t t then v else s.reg t)=_;simp
variable {ch:List Nat}{S:Nat->St}
section
variable {Z:List Nat}
theorem Step3.reg {c:Bool}{s s':St}{o:Oper}(h:Step3 P L ops Z c s o s'){t:Nat}(ht:o.dst≠some t):s'.reg t=s.reg t:=by
 cases h with
 |no h=>exact eY ht
 |free h hq=>exact eY ht
 |quiet h hq=>exact eY ht
 |eff h he hz =>
  obtain⟨_,_,_,_,h4⟩:=he.congr O fun _ _=>rfl;exact(h4 t ht).2
theorem Step3.off {c:Bool}{s s':St}{o:Oper}(h:Step3 P L ops Z c s o s'){k:Nat}(hk:ej Z k=false):s'.own k=s.own k:=by
 cases h with
 |no h=>rw[cb]
 |free h hq=>rw[cb]
 |quiet h hq=>rw[cb]
 |eff h he hz=>exact hz k hk
theorem Step3.same {s s':St}{o:Oper}(h:Step3 P L ops Z false s o s'):s'.own=s.own:=by
 cases h with
 |no h=>rw[cb]
 |free h hq=>rw[cb]
end
variable {Z:Nat->List Nat}{A:List Nat}
abbrev uO (P:Program)(L:b9)(ops:Array Oper)(Z:Nat->List Nat)(ch:List Nat)(S:Nat->St):Prop:=∀(i:Nat) (o:Oper),ops[i]?=some o->Step3 P L ops (Z i) (ej ch i) (S i) o (S (i+1))
structure Late (ops:Array Oper) (Z:Nat->List Nat) (A ch:List Nat):Prop where
 sub:∀i k,ej A k=false->ej (Z i) k=false
 late:∀i j k,i<ops.size->j<ops.size->ej ch i=true->ej (Z i) k=true->ej (Z j) k=false->((jK ops).getD i 0).testBit j=true/\j<i
theorem ni (hr:uO P L ops Z ch S){k:Nat}:∀i,i<=ops.size->(∀q,q<i->ej ch q=true->ej (Z q) k=false)->(S i).own k=(S 0).own k
 |0,_,_=>rfl
 |i+1,hi,h=>by
  have h1:=hr i _ (cC J);rw[<-ni hr i J fun q hq=>h q J];cases hc:ej ch i with
  |true=>exact h1.off (h i J hc)
  |false=>rw[hc]at h1;rw[h1.same]
theorem ux (hr:uO P L ops Z ch S)(hA:Late ops Z A ch){k:Nat}(hk:ej A k=false)(i:Nat)(hi:i<=ops.size):(S i).own k=(S 0).own k:=ni hr i hi fun q _ _=>hA.sub q k hk
theorem uy (hr:uO P L ops Z ch S){i:Nat}:∀d,i+d<=ops.size->(∀q,i<=q->q<i+d->ej ch q=false)->(S (i+d)).own=(S i).own
 |0,_,_=>rfl
 |d+1,hd,h=>by
  have h1:=hr (i+d) _ (cC J);rw[h (i+d) J J]at h1;rw[<-fA,h1.same,uy hr d J fun q h1 h2=>h q h1 J]
theorem jB (hr:uO P L ops Z ch S){t i:Nat}:∀d,i+d<=ops.size->(∀q o,i<=q->q<i+d->ops[q]?=some o->o.dst≠some t)->(S (i+d)).reg t=(S i).reg t
 |0,_,_=>rfl
 |d+1,hd,h=>by
  rw[<-fA,(hr (i+d) _ (cC J)).reg (h (i+d) _ J J (cC J)),jB hr d J fun q o h1 h2=>h q o h1 J]
structure Agr3 (ops:Array Oper) (A ch:List Nat) (S:Nat->St) (listed:Array Bool) (s:St):Prop where
 hit:∀i o t,ops[i]?=some o->listed.getD i true=true->o.dst=some t->s.reg t=(S (i+1)).reg t
 miss:∀t,(∀i o,ops[i]?=some o->listed.getD i true=true->o.dst≠some t)->s.reg t=(S 0).reg t
 off:∀k,ej A k=false->s.own k=(S 0).own k
 on:∃q,q<=ops.size/\(∀i,i<ops.size->ej ch i=true->(listed.getD i true=true↔i<q))/\∀k,ej A k=true->s.own k=(S q).own k
theorem Aw (hd:Draw3Ok ops ch)(hr:uO P L ops Z ch S){listed:Array Bool}{s:St}(hag:Agr3 ops A ch S listed s)(hc:Hr ops listed){j:Nat}{o:Oper}(ho:ops[j]?=some o)(hun:listed.getD j true=false)
  (hall:∀e∈o.after,Region.binds .any e=true->listed.getD e.on true=true) {t:Nat} (ht:t∈o.looksAt ops):(S j).reg t=s.reg t:=by
 have hjl:=(eO ho).1;by_cases hx:∃(i:Nat) (o':Oper),ops[i]?=some o'/\o'.dst=some t
 .obtain⟨i,o',hi,hdi⟩:=hx;have hil:=(eO hi).1;have hone:∀(q:Nat) (o:Oper),ops[q]?=some o->o.dst=some t->q=i:=fun q o h1 h2=>hd.nodup q i o o' t h1 hi h2 hdi;have hno:listed.getD i true=false->s.reg t=(S 0).reg t:=fun hl=>hag.miss t fun q oq h1 h2 h3=>by
   rw[hone q oq h1 h3,hl]at h2;cases h2
  rcases jr i j with hlt|he|hlt
  .have hm:=(hd.reads j o ho t ht i o' hi hdi J).1 hlt;have hl:=dI hd hc j j o (aH) ho hall i hm;rw[hag.hit i o' t hi hl hdi];have:=jB hr (t:=t) (i:=i+1) (j-(i+1)) J fun q oq h1 h2 h3 h4=>by have:=hone q oq h3 h4;omega
   rwa [show i+1+(j-(i+1))=j by omega]at this
  .subst he;rw[hno hun];have:=jB hr (t:=t) (i:=0) i J fun q oq h1 h2 h3 h4=>by have:=hone q oq h3 h4;omega
   rwa [aG]at this
  .have hm:=(hd.reads j o ho t ht i o' hi hdi J).2 hlt;have hl:listed.getD i true=false:=by
    cases hb:listed.getD i true with
    |false=>rfl
    |true =>
     have:=dI hd hc i i o' (aH) hi (fun e he hbd=>hc i o' hi hb e he hbd) j hm;rw[hun]at this;cases this
   rw[hno hl];have:=jB hr (t:=t) (i:=0) j J fun q oq h1 h2 h3 h4=>by have:=hone q oq h3 h4;omega
   rwa [aG]at this
 .rw[hag.miss t fun q oq h1 _ h3=>hx ⟨q,oq,h1,h3⟩];have:=jB hr (t:=t) (i:=0) j J fun q oq h1 h2 h3 h4=>hx ⟨q,oq,h3,h4⟩;rwa [aG]at this
theorem oM (hA:Late ops Z A ch)(hd:Draw3Ok ops ch)(hr:uO P L ops Z ch S){listed:Array Bool}{s:St}(hag:Agr3 ops A ch S listed s)(hc:Hr ops listed){j:Nat}{o:Oper}(ho:ops[j]?=some o)(hun:listed.getD j true=false)
  (hall:∀e∈o.after,Region.binds .any e=true->listed.getD e.on true=true) (hz:ej ch j=true):(S j).own=s.own/\∀i,i<ops.size->ej ch i=true->i≠j->(listed.getD i true=true↔i<j):=by
 have hjl:=(eO ho).1;have hord:∀i,i<ops.size->ej ch i=true->i≠j->(listed.getD i true=true↔i<j):=by
  intro i hi hzi hne;constructor
  .intro hl;rcases aT i j with h|h
   .exact h
   .have hm:=hd.chain i j hi hzi hz J;have:=dI hd hc i i _ (aH) (cC hi) (fun e he hb=>hc i _ (cC hi) hl e he hb) j hm;rw[hun]at this;cases this
  .intro hlt;exact dI hd hc j j o (aH) ho hall i (hd.chain j i hjl hz hzi hlt)
 refine⟨?_,hord⟩;funext k;cases hk:ej A k with
 |false=>rw[ux hr hA hk j J,hag.off k hk]
 |true =>
  obtain⟨q,hq,h1,h2⟩:=hag.on;rw[h2 k hk];have hjq:¬j<q:=fun h=>by
   have:=(h1 j hjl hz).2 h;rw[hun]at this;cases this
  have:=uy hr (i:=q) (j-q) J fun i g1 g2=>by
   cases hzi:ej ch i with
   |false=>rfl
   |true =>
    have hlt:i<j:=J;have:=(h1 i J hzi).1 ((hord i J hzi J).2 hlt);omega
  rw[show q+(j-q)=j by omega]at this;rw[this]
theorem xF (hG:Good P L C)(hA:Late ops Z A ch)(hd:Draw3Ok ops ch){K':St->Prop}{Q:Exit->Act->World->Prop}(hK:∀s' a' w',SimE C s' a' w'->K' s'->Q .normal a' w')
  (hN:∀o∈ops.toList,cT C.N o.dst=true) (hr:uO P L ops Z ch S) (hend:K' (S ops.size)) :
  ∀(f:Nat) (U:List Nat) (listed:Array Bool) (s:St) (a:Act) (w:World),U.length=f->U.Nodup->(∀i,i∈U↔i<ops.size/\listed.getD i true=false)->listed.size=ops.size->Hr ops listed->Agr3 ops A ch S listed s->SimE C s a w ->
   wpAny P .any ops Q f listed a w:=by
 intro f
 induction f with
 |zero =>
  intro U listed s a w hU _ hmem hsz hc hag h;have hU0:U=[]:=dO hU;subst hU0;have hall:∀i,i<ops.size->listed.getD i true=true:=fun i hi=>by
   cases hb:listed.getD i true with
   |true=>rfl
   |false=>have:=(hmem i).2 ⟨hi,hb⟩;cases this
  refine⟨pP hmem,hK _ _ _ h ?_⟩;have:s=S ops.size:=by
   refine St.ext' (funext fun t=>?_) (funext fun k=>?_)
   .by_cases hx:∃(i:Nat) (o':Oper),ops[i]?=some o'/\o'.dst=some t
    .obtain⟨i,o',hi,hdi⟩:=hx;have hil:=(eO hi).1;rw[hag.hit i o' t hi (hall i hil) hdi];have:=jB hr (t:=t) (i:=i+1) (ops.size-(i+1)) J fun q oq h1 h2 h3 h4=>by have:=hd.nodup q i oq o' t h3 hi h4 hdi;omega
     rw[show i+1+(ops.size-(i+1))=ops.size by omega]at this;exact this.symm
    .rw[hag.miss t fun q oq h1 _ h3=>hx ⟨q,oq,h1,h3⟩];have:=jB hr (t:=t) (i:=0) ops.size J fun q oq h1 h2 h3 h4=>hx ⟨q,oq,h3,h4⟩;rw[aG]at this;exact this.symm
   .cases hk:ej A k with
    |false=>rw[ux hr hA hk _ (aH),hag.off k hk]
    |true =>
     obtain⟨q,hq,h1,h2⟩:=hag.on;rw[h2 k hk];have:=uy hr (i:=q) (ops.size-q) J fun i g1 g2=>by
      cases hzi:ej ch i with
      |false=>rfl
      |true =>
       have:=(h1 i J hzi).1 (hall i J);omega
     rw[show q+(ops.size-q)=ops.size by omega]at this;rw[this]
  rw[this];exact hend
 |succ f ih =>
  intro U listed s a w hU hnd hmem hsz hc hag h;refine⟨fun hnil=>absurd hnil (ox hsz hd.lex hmem (fun he=>by rw[he]at hU;simp at hU)),fun j hj=>?_⟩;obtain⟨hun,o,ho,hall0⟩:=mem_ready.1 hj;have hjl:=(eO ho).1;have hlex:=hd.lex j o ho;have hall:∀e∈o.after,Region.binds .any e=true->listed.getD e.on true=true:=fun e he hb=>by
   have h1:=hall0 e he hb;rw[yY (by rw[hsz];have:=hlex e he hb;omega)];exact h1
  have hjs:j<listed.size:=by rw[hsz];exact hjl
  have hNo:cT C.N o.dst=true:=hN o (by have:=oX ho;simpa using this);have hreads:∀t∈o.looksAt ops,(S j).reg t=s.reg t:=fun t ht=>Aw hd hr hag hc ho hun hall ht;have hnew:∀q,(listed.setIfInBounds j true).getD q true=true↔q=j\/listed.getD q true=true:=fun q=>by
   by_cases hq:q=j
   .subst hq;simp[hjs]
   .rw[getD_set_ne true (Ne.symm hq)];simp[hq]
  have hnext:∀s' a' w',(∀t,o.dst=some t->s'.reg t=(S (j+1)).reg t)->(∀t,o.dst≠some t->s'.reg t=s.reg t)->(∀k,ej A k=false->s'.own k=s.own k) ->
    (ej ch j=false->s'.own=s.own)->(ej ch j=true->∀k,ej A k=true->s'.own k=(S (j+1)).own k)->SimE C s' a' w'->wpAny P .any ops Q f (listed.setIfInBounds j true) a' w':=by
   intro s' a' w' g1 g2 g3 g4 g5 h';have hUj:j∈U:=(hmem j).2 ⟨hjl,hun⟩;refine ih (U.erase j) _ s' a' w' (by rw[tj hUj];omega) (hnd.erase j) (fun k=>?_) (by simpa using hsz) ?_ ?_ h'
   .rw[hnd.mem_erase_iff,hmem k];by_cases hki:k=j
    .subst hki;simp[hjs]
    .rw[getD_set_ne true (Ne.symm hki)];exact⟨fun x=>x.2,fun x=>⟨hki,x⟩⟩
   .intro i oi hi hl e he hb;rw[hnew];rcases(hnew i).1 hl with rfl|hl'
    .rw[ho]at hi;cases hi;exact .inr (hall e he hb)
    .exact .inr (hc i oi hi hl' e he hb)
   .refine⟨fun i oi t hi hl hdi=>?_,fun t hm=>?_,fun k hk=>by rw[g3 k hk,hag.off k hk],?_⟩
    .rcases(hnew i).1 hl with rfl|hl'
     .rw[ho]at hi;cases hi;exact g1 t hdi
     .have hij:i≠j:=fun e=>by rw[e,hun]at hl';cases hl'
      rw[g2 t (fun hdj=>hij (hd.nodup i j oi o t hi ho hdi hdj)),hag.hit i oi t hi hl' hdi]
    .rw[g2 t (hm j o ho ((hnew j).2 (.inl O)))];exact hag.miss t fun i oi hi hl=>hm i oi hi ((hnew i).2 (.inr hl))
    .obtain⟨q,hq,h1,h2⟩:=hag.on;cases hz:ej ch j with
     |false =>
      refine⟨q,hq,fun i hi hzi=>?_,fun k hk=>by rw[g4 hz,h2 k hk]⟩;rw[hnew,<-h1 i hi hzi];constructor
      .rintro(rfl|hl)
       .rw[hz]at hzi;cases hzi
       .exact hl
      .exact .inr
     |true =>
      have hord:=(oM hA hd hr hag hc ho hun hall hz).2;refine⟨j+1,J,fun i hi hzi=>?_,fun k hk=>g5 hz k hk⟩;rw[hnew];by_cases hij:i=j
      .subst hij;simp
      .rw[hord i hi hzi hij];omega
  have hev:∀x∈o.op.operands,(S j).ev x=s.ev x:=Dz (ops:=ops) hreads;have hstep:=hr j o ho;have hoff:=fun k (hk:ej A k=false)=>hstep.off (k:=k) (hA.sub j k hk);unfold wpOp;rw[ho];simp only;generalize hzj:ej ch j=cj at hstep;generalize hSj:S (j+1)=s1 at hstep hnext hoff;cases hstep with
  |no hw =>
   have hw':Wants ops s o false:=hw.congr hreads;rw[if_neg (by rw[hw'.spec h];simp)];refine hnext (s.put o.dst (.raw undef)) _ _ (fun t ht=>by rw[f9 ht,f9 ht]) (fun t ht=>eY ht) (fun k _=>by rw[cb]) (fun _=>by rw[cb]) (fun hz k hk=>?_) (h.put hNo undef);rw[cb,cb,(oM hA hd hr hag hc ho hun hall hz).1]
  |free hw hq =>
   have hw':Wants ops s o true:=hw.congr hreads;rw[if_pos (hw'.spec h)];have hle:OwnLe ((S j).erase (Z j)) ⟨(S j).reg,s.own⟩:=fun k=>by
    cases hk:ej (Z j) k with
    |true=>exact .inr (by simp[St.erase,hk])
    |false =>
     refine .inl ?_;show s.own k=(bif ej (Z j) k then _ else(S j).own k);rw[hk];show s.own k=(S j).own k;cases hkA:ej A k with
     |false=>rw[ux hr hA hkA j J,hag.off k hkA]
     |true =>
      obtain⟨q,hq,h1,h2⟩:=hag.on;have k1:=ni hr (k:=k) j J fun i hi hzi=>by
       cases hzk:ej (Z i) k with
       |false=>rfl
       |true=>have:=(hA.late i j k J hjl hzi hzk hk).2;omega
      have k2:=ni hr (k:=k) q hq fun i hi hzi=>by
       cases hzk:ej (Z i) k with
       |false=>rfl
       |true =>
        have hli:=(h1 i J hzi).2 hi;have hm:=(hA.late i j k J hjl hzi hzk hk).1;have:=dI hd hc i i _ (aH) (cC J) (fun e he hb=>hc i _ (cC J) hli e he hb) j hm;rw[hun]at this;cases this
      rw[h2 k hkA,k1,k2]
   have hq2:=hq.le hle O;have hq3:QOp P L s o _:=QOp.congr (s:=⟨(S j).reg,s.own⟩) (s':=s) O hev hq2;refine .inl (hq3.wp hG h hNo fun a' w' h'=>hnext _ a' w' (fun t ht=>by rw[f9 ht,f9 ht]) (fun t ht=>eY ht) (fun k _=>by rw[cb]) (fun _=>by rw[cb]) (fun hz=>by rw[hzj]at hz;cases hz) h')
  |quiet hw hq =>
   have hw':Wants ops s o true:=hw.congr hreads;rw[if_pos (hw'.spec h)];have hown:=(oM hA hd hr hag hc ho hun hall hzj).1;have hq3:QOp P L s o _:=QOp.congr (s:=S j) hown hev hq;refine .inl (hq3.wp hG h hNo fun a' w' h'=>hnext _ a' w' (fun t ht=>by rw[f9 ht,f9 ht]) (fun t ht=>eY ht) (fun k _=>by rw[cb]) (fun hz=>by rw[cb]) (fun _ k _=>by rw[cb,cb,hown]) h')
  |eff hw he hz =>
   have hw':Wants ops s o true:=hw.congr hreads;rw[if_pos (hw'.spec h)];have hown:=(oM hA hd hr hag hc ho hun hall hzj).1;obtain⟨s',e1,e2,e3,e4⟩:=he.congr hown hev;refine .inl (e1.sound hG.lay hG.x hG.glob h hNo fun a' w' h'=>hnext s' a' w' (fun t ht=>e3 t ht) (fun t ht=>(e4 t ht).1) (fun k hk=>by rw[e2,hoff k hk,hown]) (fun hz=>by rw[hzj]at hz;cases hz) (fun _ k _=>by rw[e2]) h')
def Hq (Z Y0:List Nat)(f:Nat)(F:List Nat)(i:Nat):List Nat:=bif Nat.blt i f&&!ej F i then Z else Z++Y0
theorem pM {k:Nat}:∀(Z Y0:List Nat),ej (Z++Y0) k=(ej Z k||ej Y0 k)
 |[],Y0=>by simp[ej]
 |z::Z,Y0=>by
  show(bif Nat.beq k z then true else ej (Z++Y0) k)=((bif Nat.beq k z then true else ej Z k)||ej Y0 k);rw[pM Z Y0];cases Nat.beq k z<;>rfl
def nM (ops:Array Oper)(ch:List Nat)(f:Nat)(F:List Nat):Bool:=(List.range ops.size).all fun i=>!ej ch i||(Nat.blt i f&&!ej F i)||(Nat.ble f i&&(List.range f).all fun j=>ej F j||((jK ops).getD i 0).testBit j)
theorem FD {Z Y0 F:List Nat}{f:Nat}(h:nM ops ch f F=true):Late ops (Hq Z Y0 f F) (Z++Y0) ch:=by
 refine⟨fun i k hk=>?_,fun i j k hi hj hc h1 h2=>?_⟩
 .rw[pM,Bool.or_eq_false_iff]at hk;rw[Hq];cases Nat.blt i f&&!ej F i
  .rw[cond_false,pM,hk.1,hk.2];rfl
  .exact hk.1
 .rw[Hq]at h1 h2;cases hb:Nat.blt i f&&!ej F i with
  |true =>
   rw[hb,cond_true]at h1;cases hb2:Nat.blt j f&&!ej F j with
   |true=>rw[hb2,cond_true,h1]at h2;cases h2
   |false=>rw[hb2,cond_false,pM,h1]at h2;cases h2
  |false =>
   rw[hb,cond_false]at h1;cases hb2:Nat.blt j f&&!ej F j with
   |false=>rw[hb2,cond_false,h1]at h2;cases h2
   |true =>
    have e:=bx.1 h i (dG.2 hi);rw[hc,hb,pl,kI,kI,bj]at e;rw[bj,i8]at hb2;have hjf:j<f:=by simpa using hb2.1
    have hif:f<=i:=by simpa using e.1
    have e2:=bx.1 e.2 j (dG.2 hjf);rw[hb2.2,kI]at e2;exact⟨e2,J⟩
def PDrawZ (P:Program)(L:b9)(ops:Array Oper)(K:St->Prop)(s:St):Prop:=∃Z Y0 f F ch,gC ops ch=true/\nM ops ch f F=true/\P3 P L ops (Hq Z Y0 f F) (ej ch) K 0 ops.toList s
theorem PDrawZ.sound (hG:Good P L C){K':St->Prop}{Q:Exit->Act->World->Prop}(hK:∀s' a' w',SimE C s' a' w'->K' s'->Q .normal a' w')(hN:∀o∈ops.toList,cT C.N o.dst=true){s:St}
  (h:SimE C s a w) (hq:PDrawZ P L ops K' s):wpAny P .any ops Q ops.size (Array.replicate ops.size false) a { w with drawn:=w.drawn+1 }:=by
 obtain⟨Z,Y0,f,F,ch,hok,hlt,hq⟩:=hq;obtain⟨S,h0,h1,h2⟩:=P3.run _ _ _ hq;have hd:=my hok;have hA:=FD (Z:=Z) (Y0:=Y0) hlt;have hr:uO P L ops (Hq Z Y0 f F) ch S:=fun i o ho=>by
  have:=h1 i o (by simpa using ho);rwa [aG]at this
 have hend:K' (S ops.size):=by simpa using h2
 have hrep:∀i,i<ops.size->(Array.replicate ops.size false).getD i true=false:=fun i hi=>by simp[hi]
 refine xF hG hA hd hK hN hr hend ops.size (List.range ops.size) (Array.replicate ops.size false) s a _ aj tM (fun i=>?_) aj ?_ ?_ (let ⟨γ,h⟩:=h;⟨γ,nk h⟩)
 .rw[dG];exact⟨fun hi=>⟨hi,hrep i hi⟩,fun x=>x.1⟩
 .intro i o ho hl;rw[hrep i (eO ho).1]at hl;cases hl
 .refine⟨fun i o t ho hl=>?_,fun t _=>by rw[h0],fun k _=>by rw[h0],0,J,fun i hi _=>?_,fun k _=>by rw[h0]⟩
  .rw[hrep i (eO ho).1]at hl;cases hl
  .rw[hrep i hi];exact⟨fun h=>(by cases h),fun h=>J⟩
def E4 (P:Program)(L:b9)(s:St)(o:Oper)(t:Nat)(s':St):Prop :=
 (∀k,k≠t->s'.own k=s.own k)/\(∀r,o.dst≠some r->s'.reg r=s.reg r) /\
  ∀(C:Ctx) (a:Act) (w:World) (K:Act->World->Prop) (Q:Exit->Act->World->Prop),Good P L C->SimE C s a w->cT C.N o.dst=true->(∀a' w',SimE C s' a' w'->K a' w')->o.wp P a w K Q
inductive Loc (P:Program) (L:b9) (s:St) (o:Oper):Nat->St->Prop
 |any {t:Nat} {s':St} (h:E4 P L s o t s') (hc:∀u:St,u.own t=s.own t->(∀x∈o.op.operands,u.ev x=s.ev x)->∃u',E4 P L u o t u'/\u'.own t=s'.own t/\∀r,o.dst=some r->u'.reg r=s'.reg r):Loc P L s o t s'
 |alloc {T:TypeId} {r:LRow} {z:List PV} {d:Nat} (ho:o.op=.alloc T) (hd:o.dst=some d) (hr:L T=some r) (hz:r.zero=some z) (h0:0<z.length) :
   Loc P L s o d ((s.fin d ⟨T,z.length,[z],2⟩).putR d (.ptr d ((s.own d).1+1) 0 0))
 |store {T:TypeId} {r:LRow} {x y:Operand} {k g i j:Nat} {c:Cont} {row:List PV} {Pr:Prop} (kd:Nat) (ho:o.op=.store T x y) (hd:o.dst=none) (hr:L T=some r) (hx:s.ev x=.ptr k g i j) (hown:s.own k=(g,some c))
   (hrow:c.rows[i]?=some row) (h1:∀s':St,dR s' (s.ev y).cells=some Pr) (h2:Pr) (hsz:(s.ev y).cells.length=r.size) (hle:j+r.size<=row.length) (hk:c.kind<=kd) (hkd:(s.ev y).cells.all (oS kd)=true) :
   Loc P L s o k (s.setOwn k g (some ⟨c.ty,c.sz,c.rows.set i (ma row j ((s.ev y).cells.map (gv kd))),kd⟩))
theorem Loc.sound {s s':St}{o:Oper}{t:Nat}(h:Loc P L s o t s'){C:Ctx}{a:Act}{w:World}{K:Act->World->Prop}{Q:Exit->Act->World->Prop}(hG:Good P L C)(hs:SimE C s a w)(hN:cT C.N o.dst=true)(hK:∀a' w',SimE C s' a' w'->K a' w'):o.wp P a w K Q:=by
 cases h with
 |any h hc=>exact h.2.2 C a w K Q hG hs hN hK
 |alloc ho hd hr hz h0=>exact(Eff.alloc (P:=P) ho hd hr hz h0).sound hG.lay hG.x hG.glob hs hN hK
 |store kd ho hd hr hx hown hrow h1 h2 hsz hle hk hkd=>exact(Eff.store (P:=P) kd ho hd hr hx hown hrow (h1 s) h2 hsz hle hk hkd).sound hG.lay hG.x hG.glob hs hN hK
theorem Fx {s:St}{d k:Nat}{c:Cont}(h:k≠d):(s.fin d c).own k=s.own k:=ar h
theorem Loc.off {s s':St}{o:Oper}{t:Nat}(h:Loc P L s o t s'){k:Nat}(hk:k≠t):s'.own k=s.own k:=by
 cases h with
 |any h hc=>exact h.1 k hk
 |alloc ho hd hr hz h0=>exact Fx hk
 |store kd ho hd hr hx hown hrow h1 h2 hsz hle hk' hkd=>exact ar hk
theorem Loc.reg {s s':St}{o:Oper}{t:Nat}(h:Loc P L s o t s'){r:Nat}(hr:o.dst≠some r):s'.reg r=s.reg r:=by
 cases h with
 |any h hc=>exact h.2.1 r hr
 |alloc ho hd _ hz h0 =>
  show(bif Nat.beq r _ then _ else s.reg r)=_;have:r≠_:=fun e=>hr (by rw[e];exact hd);rw[bR this];rfl
 |store=>rfl
theorem Loc.congr {u s u':St}{o:Oper}{t:Nat}(ht:u.own t=s.own t)(he:∀x∈o.op.operands,u.ev x=s.ev x)(h:Loc P L u o t u'):∃s',Loc P L s o t s'/\s'.own t=u'.own t/\∀r,o.dst=some r->s'.reg r=u'.reg r:=by
 cases h with
 |any h hc =>
  obtain⟨s',h1,h2,h3⟩:=hc s ht.symm fun x hx=>(he x hx).symm;refine⟨s',.any h1 fun v hv hev=>?_,h2,h3⟩;obtain⟨v',g1,g2,g3⟩:=hc v (hv.trans ht.symm) fun x hx=>(hev x hx).trans (he x hx).symm;exact⟨v',g1,g2.trans h2.symm,fun r hr=>(g3 r hr).trans (h3 r hr).symm⟩
 |alloc ho hd hr hz h0 =>
  refine⟨_,.alloc ho hd hr hz h0,?_,fun r hr'=>?_⟩
  .show((s.fin t _).own t)=((u.fin t _).own t);rw[St.fin,St.fin,ah,ah,ht]
  .rw[hd]at hr';cases hr';show(bif Nat.beq t t then _ else _)=(bif Nat.beq t t then _ else _);simp[ht]
 |store kd ho hd hr hx hown hrow h1 h2 hsz hle hk hkd =>
  rename_i T r x y g i j c row Pr;have hx':u.ev x=s.ev x:=he x (by rw[ho];simp[Op.operands]);have hy':u.ev y=s.ev y:=he y (by rw[ho];simp[Op.operands]);rw[hx']at hx;rw[hy']at h1 hsz hkd ⊢;rw[ht]at hown;exact⟨_,.store kd ho hd hr hx hown hrow h1 h2 hsz hle hk hkd,by rw[ah,ah],fun r hr'=>by rw[hd]at hr';cases hr'⟩
inductive Step5 (P:Program) (L:b9) (ops:Array Oper) (Z:List Nat):Option Nat->St->Oper->St->Prop
 |no {c:Option Nat} {s:St} {o:Oper} (h:Wants ops s o false):Step5 P L ops Z c s o (s.put o.dst (.raw undef))
 |free {c:Option Nat} {s:St} {o:Oper} {v:PV} (h:Wants ops s o true) (hq:QOp P L (s.erase Z) o v):Step5 P L ops Z c s o (s.put o.dst v)
 |loc {t:Nat} {s s':St} {o:Oper} (h:Wants ops s o true) (hl:Loc P L s o t s'):Step5 P L ops Z (some t) s o s'
def P5 (P:Program)(L:b9)(ops:Array Oper)(Z:List Nat)(lc:Nat->Option Nat)(K:St->Prop):Nat->List Oper->St->Prop
 |_,[],s=>K s
 |i,o::rest,s=>∃s',Step5 P L ops Z (lc i) s o s'/\P5 P L ops Z lc K (i+1) rest s'
theorem P5.run {Z:List Nat}{lc:Nat->Option Nat}{K:St->Prop}:∀(l:List Oper) (i:Nat) (s:St),P5 P L ops Z lc K i l s->∃S:Nat->St,S 0=s/\(∀(j:Nat) (o:Oper),l[j]?=some o->Step5 P L ops Z (lc (i+j)) (S j) o (S (j+1)))/\K (S l.length)
 |[],i,s,h=>⟨fun _=>s,rfl,fun j o hj=>by simp at hj,h⟩
 |o::l,i,s,⟨s',h1,h2⟩=>by
  obtain⟨S,g1,g2,g3⟩:=P5.run l (i+1) s' h2;refine⟨fun n=>match n with|0=>s|n+1=>S n,rfl,fun j o' hj=>?_,g3⟩;cases j with
  |zero=>simp at hj;subst hj;show Step5 _ _ _ _ _ s o (S 0);rw[g1];exact h1
  |succ j =>
   have:=g2 j o' (by simpa using hj);rw[show i+1+j=i+(j+1) by omega]at this;exact this
def te:List (Nat × Nat)->Nat->Option Nat
 |[],_=>none
 |p::l,i=>bif Nat.beq i p.1 then some p.2 else te l i
def xT (ops:Array Oper)(l:List (Nat × Nat)):Bool:=(List.range ops.size).all fun i=>(List.range i).all fun j=>match te l i,te l j with
 |some t,some t'=>!Nat.beq t t'||((jK ops).getD i 0).testBit j
 |_,_=>true
structure Run5 (P:Program) (L:b9) (ops:Array Oper) (Z:List Nat) (lc:Nat->Option Nat) (S:Nat->St):Prop where
 step:∀(i:Nat) (o:Oper),ops[i]?=some o->Step5 P L ops Z (lc i) (S i) o (S (i+1))
 cov:∀i t,i<ops.size->lc i=some t->ej Z t=true
 ord:∀i j t,i<ops.size->lc i=some t->lc j=some t->j<i->((jK ops).getD i 0).testBit j=true
section
variable {Z:List Nat}{lc:Nat->Option Nat}{S:Nat->St}
theorem Step5.own {c:Option Nat}{s s':St}{o:Oper}(h:Step5 P L ops Z c s o s'){k:Nat}(hk:c≠some k):s'.own k=s.own k:=by
 cases h with
 |no h=>rw[cb]
 |free h hq=>rw[cb]
 |loc h hl=>exact hl.off fun e=>hk (by rw[e])
theorem Step5.reg {c:Option Nat}{s s':St}{o:Oper}(h:Step5 P L ops Z c s o s'){t:Nat}(ht:o.dst≠some t):s'.reg t=s.reg t:=by
 cases h with
 |no h=>exact eY ht
 |free h hq=>exact eY ht
 |loc h hl=>exact hl.reg ht
theorem ng (hr:Run5 P L ops Z lc S){k i:Nat}:∀d,i+d<=ops.size->(∀q,i<=q->q<i+d->lc q≠some k)->(S (i+d)).own k=(S i).own k
 |0,_,_=>rfl
 |d+1,hd,h=>by
  rw[<-fA,(hr.step (i+d) _ (cC J)).own (h (i+d) J J),ng hr d J fun q h1 h2=>h q h1 J]
theorem gX (hr:Run5 P L ops Z lc S){t i:Nat}:∀d,i+d<=ops.size->(∀q o,i<=q->q<i+d->ops[q]?=some o->o.dst≠some t)->(S (i+d)).reg t=(S i).reg t
 |0,_,_=>rfl
 |d+1,hd,h=>by
  rw[<-fA,(hr.step (i+d) _ (cC J)).reg (h (i+d) _ J J (cC J)),gX hr d J fun q o h1 h2=>h q o h1 J]
structure Agr5 (ops:Array Oper) (lc:Nat->Option Nat) (S:Nat->St) (listed:Array Bool) (s:St):Prop where
 hit:∀i o t,ops[i]?=some o->listed.getD i true=true->o.dst=some t->s.reg t=(S (i+1)).reg t
 miss:∀t,(∀i o,ops[i]?=some o->listed.getD i true=true->o.dst≠some t)->s.reg t=(S 0).reg t
 on:∀k,∃q,q<=ops.size/\(∀i,i<ops.size->lc i=some k->(listed.getD i true=true↔i<q))/\s.own k=(S q).own k
theorem xr (hd:Draw3Ok ops ch)(hr:Run5 P L ops Z lc S){listed:Array Bool}{s:St}(hag:Agr5 ops lc S listed s)(hc:Hr ops listed){j:Nat}{o:Oper}(ho:ops[j]?=some o)(hun:listed.getD j true=false)
  (hall:∀e∈o.after,Region.binds .any e=true->listed.getD e.on true=true) {t:Nat} (ht:t∈o.looksAt ops):(S j).reg t=s.reg t:=by
 have hjl:=(eO ho).1;by_cases hx:∃(i:Nat) (o':Oper),ops[i]?=some o'/\o'.dst=some t
 .obtain⟨i,o',hi,hdi⟩:=hx;have hil:=(eO hi).1;have hone:∀(q:Nat) (o:Oper),ops[q]?=some o->o.dst=some t->q=i:=fun q o h1 h2=>hd.nodup q i o o' t h1 hi h2 hdi;have hno:listed.getD i true=false->s.reg t=(S 0).reg t:=fun hl=>hag.miss t fun q oq h1 h2 h3=>by
   rw[hone q oq h1 h3,hl]at h2;cases h2
  rcases jr i j with hlt|he|hlt
  .have hm:=(hd.reads j o ho t ht i o' hi hdi J).1 hlt;have hl:=dI hd hc j j o (aH) ho hall i hm;rw[hag.hit i o' t hi hl hdi];have:=gX hr (t:=t) (i:=i+1) (j-(i+1)) J fun q oq h1 h2 h3 h4=>by have:=hone q oq h3 h4;omega
   rwa [show i+1+(j-(i+1))=j by omega]at this
  .subst he;rw[hno hun];have:=gX hr (t:=t) (i:=0) i J fun q oq h1 h2 h3 h4=>by have:=hone q oq h3 h4;omega
   rwa [aG]at this
  .have hm:=(hd.reads j o ho t ht i o' hi hdi J).2 hlt;have hl:listed.getD i true=false:=by
    cases hb:listed.getD i true with
    |false=>rfl
    |true =>
     have:=dI hd hc i i o' (aH) hi (fun e he hbd=>hc i o' hi hb e he hbd) j hm;rw[hun]at this;cases this
   rw[hno hl];have:=gX hr (t:=t) (i:=0) j J fun q oq h1 h2 h3 h4=>by have:=hone q oq h3 h4;omega
   rwa [aG]at this
 .rw[hag.miss t fun q oq h1 _ h3=>hx ⟨q,oq,h1,h3⟩];have:=gX hr (t:=t) (i:=0) j J fun q oq h1 h2 h3 h4=>hx ⟨q,oq,h3,h4⟩;rwa [aG]at this
theorem jO {ch:List Nat}(hd:Draw3Ok ops ch)(hr:Run5 P L ops Z lc S){listed:Array Bool}{s:St}(hag:Agr5 ops lc S listed s)(hc:Hr ops listed){j:Nat}{o:Oper}(ho:ops[j]?=some o)(hun:listed.getD j true=false)
  (hall:∀e∈o.after,Region.binds .any e=true->listed.getD e.on true=true) {k:Nat} (hk:∀i,i<ops.size->lc i=some k->lc j=some k):s.own k=(S j).own k/\∀i,i<ops.size->lc i=some k->i≠j->(listed.getD i true=true↔i<j):=by
 have hjl:=(eO ho).1;have hord:∀i,i<ops.size->lc i=some k->i≠j->(listed.getD i true=true↔i<j):=by
  intro i hi hli hne;have hlj:=hk i hi hli;constructor
  .intro hl;rcases aT i j with h|h
   .exact h
   .have hm:=hr.ord i j k hi hli hlj J;have:=dI hd hc i i _ (aH) (cC hi) (fun e he hb=>hc i _ (cC hi) hl e he hb) j hm;rw[hun]at this;cases this
  .intro hlt;exact dI hd hc j j o (aH) ho hall i (hr.ord j i k hjl hlj hli hlt)
 refine⟨?_,hord⟩;obtain⟨q,hq,h1,h2⟩:=hag.on k;rw[h2];rcases Nat.le_total q j with hqj|hqj
 .have:=ng hr (k:=k) (i:=q) (j-q) J fun i g1 g2 hli=>by
   have:=(h1 i J hli).1 ((hord i J hli J).2 J);omega
  rw[show q+(j-q)=j by omega]at this;exact this.symm
 .have:=ng hr (k:=k) (i:=j) (q-j) J fun i g1 g2 hli=>by
   by_cases hij:i=j
   .subst hij;have:=(h1 i hjl hli).2 J;rw[hun]at this;cases this
   .have:=(hord i J hli hij).1 ((h1 i J hli).2 J);omega
  rw[show j+(q-j)=q by omega]at this;exact this
theorem AE {ch:List Nat}(hG:Good P L C)(hd:Draw3Ok ops ch){K':St->Prop}{Q:Exit->Act->World->Prop}(hK:∀s' a' w',SimE C s' a' w'->K' s'->Q .normal a' w')
  (hN:∀o∈ops.toList,cT C.N o.dst=true) (hr:Run5 P L ops Z lc S) (hend:K' (S ops.size)) :
  ∀(f:Nat) (U:List Nat) (listed:Array Bool) (s:St) (a:Act) (w:World),U.length=f->U.Nodup->(∀i,i∈U↔i<ops.size/\listed.getD i true=false)->listed.size=ops.size->Hr ops listed->Agr5 ops lc S listed s->SimE C s a w ->
   wpAny P .any ops Q f listed a w:=by
 intro f
 induction f with
 |zero =>
  intro U listed s a w hU _ hmem hsz hc hag h;have hU0:U=[]:=dO hU;subst hU0;have hall:∀i,i<ops.size->listed.getD i true=true:=fun i hi=>by
   cases hb:listed.getD i true with
   |true=>rfl
   |false=>have:=(hmem i).2 ⟨hi,hb⟩;cases this
  refine⟨pP hmem,hK _ _ _ h ?_⟩;have:s=S ops.size:=by
   refine St.ext' (funext fun t=>?_) (funext fun k=>?_)
   .by_cases hx:∃(i:Nat) (o':Oper),ops[i]?=some o'/\o'.dst=some t
    .obtain⟨i,o',hi,hdi⟩:=hx;have hil:=(eO hi).1;rw[hag.hit i o' t hi (hall i hil) hdi];have:=gX hr (t:=t) (i:=i+1) (ops.size-(i+1)) J fun q oq h1 h2 h3 h4=>by have:=hd.nodup q i oq o' t h3 hi h4 hdi;omega
     rw[show i+1+(ops.size-(i+1))=ops.size by omega]at this;exact this.symm
    .rw[hag.miss t fun q oq h1 _ h3=>hx ⟨q,oq,h1,h3⟩];have:=gX hr (t:=t) (i:=0) ops.size J fun q oq h1 h2 h3 h4=>hx ⟨q,oq,h3,h4⟩;rw[aG]at this;exact this.symm
   .obtain⟨q,hq,h1,h2⟩:=hag.on k;rw[h2];have:=ng hr (k:=k) (i:=q) (ops.size-q) J fun i g1 g2 hli=>by
     have:=(h1 i J hli).1 (hall i J);omega
    rw[show q+(ops.size-q)=ops.size by omega]at this;exact this.symm
  rw[this];exact hend
 |succ f ih =>
  intro U listed s a w hU hnd hmem hsz hc hag h;refine⟨fun hnil=>absurd hnil (ox hsz hd.lex hmem (fun he=>by rw[he]at hU;simp at hU)),fun j hj=>?_⟩;obtain⟨hun,o,ho,hall0⟩:=mem_ready.1 hj;have hjl:=(eO ho).1;have hlex:=hd.lex j o ho;have hall:∀e∈o.after,Region.binds .any e=true->listed.getD e.on true=true:=fun e he hb=>by
   have h1:=hall0 e he hb;rw[yY (by rw[hsz];have:=hlex e he hb;omega)];exact h1
  have hjs:j<listed.size:=by rw[hsz];exact hjl
  have hNo:cT C.N o.dst=true:=hN o (by have:=oX ho;simpa using this);have hreads:∀t∈o.looksAt ops,(S j).reg t=s.reg t:=fun t ht=>xr hd hr hag hc ho hun hall ht;have hnew:∀q,(listed.setIfInBounds j true).getD q true=true↔q=j\/listed.getD q true=true:=fun q=>by
   by_cases hq:q=j
   .subst hq;simp[hjs]
   .rw[getD_set_ne true (Ne.symm hq)];simp[hq]
  have hnext:∀s' a' w',(∀t,o.dst=some t->s'.reg t=(S (j+1)).reg t)->(∀t,o.dst≠some t->s'.reg t=s.reg t)->(∀k,lc j≠some k->s'.own k=s.own k) ->
    (∀k,lc j=some k->s'.own k=(S (j+1)).own k)->SimE C s' a' w'->wpAny P .any ops Q f (listed.setIfInBounds j true) a' w':=by
   intro s' a' w' g1 g2 g3 g4 h';have hUj:j∈U:=(hmem j).2 ⟨hjl,hun⟩;refine ih (U.erase j) _ s' a' w' (by rw[tj hUj];omega) (hnd.erase j) (fun k=>?_) (by simpa using hsz) ?_ ?_ h'
   .rw[hnd.mem_erase_iff,hmem k];by_cases hki:k=j
    .subst hki;simp[hjs]
    .rw[getD_set_ne true (Ne.symm hki)];exact⟨fun x=>x.2,fun x=>⟨hki,x⟩⟩
   .intro i oi hi hl e he hb;rw[hnew];rcases(hnew i).1 hl with rfl|hl'
    .rw[ho]at hi;cases hi;exact .inr (hall e he hb)
    .exact .inr (hc i oi hi hl' e he hb)
   .refine⟨fun i oi t hi hl hdi=>?_,fun t hm=>?_,fun k=>?_⟩
    .rcases(hnew i).1 hl with rfl|hl'
     .rw[ho]at hi;cases hi;exact g1 t hdi
     .have hij:i≠j:=fun e=>by rw[e,hun]at hl';cases hl'
      rw[g2 t (fun hdj=>hij (hd.nodup i j oi o t hi ho hdi hdj)),hag.hit i oi t hi hl' hdi]
    .rw[g2 t (hm j o ho ((hnew j).2 (.inl O)))];exact hag.miss t fun i oi hi hl=>hm i oi hi ((hnew i).2 (.inr hl))
    .by_cases hlj:lc j=some k
     .have hord:=(jO hd hr hag hc ho hun hall (k:=k) fun _ _ _=>hlj).2;refine⟨j+1,J,fun i hi hli=>?_,g4 k hlj⟩;rw[hnew];by_cases hij:i=j
      .subst hij;simp
      .rw[hord i hi hli hij];omega
     .obtain⟨q,hq,h1,h2⟩:=hag.on k;refine⟨q,hq,fun i hi hli=>?_,by rw[g3 k hlj,h2]⟩;rw[hnew,<-h1 i hi hli];constructor
      .rintro(rfl|hl)
       .exact absurd hli hlj
       .exact hl
      .exact .inr
  have hev:∀x∈o.op.operands,(S j).ev x=s.ev x:=Dz (ops:=ops) hreads;have hstep:=hr.step j o ho;unfold wpOp;rw[ho];simp only;generalize hlj:lc j=cj at hstep hnext;generalize hSj:S (j+1)=s1 at hstep hnext;cases hstep with
  |no hw =>
   have hw':Wants ops s o false:=hw.congr hreads;rw[if_neg (by rw[hw'.spec h];simp)];refine hnext (s.put o.dst (.raw undef)) _ _ (fun t ht=>by rw[f9 ht,f9 ht]) (fun t ht=>eY ht) (fun k _=>by rw[cb]) (fun k hk=>?_) (h.put hNo undef);rw[cb,cb];exact(jO hd hr hag hc ho hun hall (k:=k) fun _ _ _=>by rw[hlj,hk]).1
  |free hw hq =>
   have hw':Wants ops s o true:=hw.congr hreads;rw[if_pos (hw'.spec h)];have hle:OwnLe ((S j).erase Z) ⟨(S j).reg,s.own⟩:=fun k=>by
    cases hk:ej Z k with
    |true=>exact .inr (by simp[St.erase,hk])
    |false =>
     refine .inl ?_;show s.own k=(bif ej Z k then _ else(S j).own k);rw[hk];exact(jO hd hr hag hc ho hun hall (k:=k) fun i hi hli=>by have:=hr.cov i k hi hli;rw[hk]at this;cases this).1
   have hq2:=hq.le hle O;have hq3:QOp P L s o _:=QOp.congr (s:=⟨(S j).reg,s.own⟩) (s':=s) O hev hq2;refine .inl (hq3.wp hG h hNo fun a' w' h'=>hnext _ a' w' (fun t ht=>by rw[f9 ht,f9 ht]) (fun t ht=>eY ht) (fun k _=>by rw[cb]) (fun k hk=>by rw[cb,cb];exact(jO hd hr hag hc ho hun hall (k:=k) fun _ _ _=>by rw[hlj,hk]).1) h')
  |loc hw hl =>
   rename_i t;have hw':Wants ops s o true:=hw.congr hreads;rw[if_pos (hw'.spec h)];have hown:=(jO hd hr hag hc ho hun hall (k:=t) fun _ _ _=>hlj).1;obtain⟨s',e1,e2,e3⟩:=hl.congr hown.symm hev;refine .inl (e1.sound hG h hNo fun a' w' h'=>hnext s' a' w' (fun t ht=>e3 t ht) (fun t ht=>e1.reg ht) (fun k hk=>e1.off fun e=>hk (by rw[e])) (fun k hk=>by cases hk;exact e2) h')
theorem vS {i t:Nat}:∀ {l:List (Nat × Nat)},te l i=some t->ej (l.map (·.2)) t=true
 |[],h=>by cases h
 |p::l,h=>by
  show(bif Nat.beq t p.2 then true else ej (l.map (·.2)) t)=true;rw[te]at h;cases hb:Nat.beq i p.1 with
  |true =>
   rw[hb,cond_true]at h;cases h;simp
  |false =>
   rw[hb,cond_false]at h;rw[vS h];cases Nat.beq t p.2<;>rfl
def PDraw5 (P:Program)(L:b9)(ops:Array Oper)(K:St->Prop)(s:St):Prop:=∃l,gC ops []=true/\xT ops l=true/\P5 P L ops (l.map (·.2)) (te l) K 0 ops.toList s
theorem PDraw5.sound (hG:Good P L C){K':St->Prop}{Q:Exit->Act->World->Prop}(hK:∀s' a' w',SimE C s' a' w'->K' s'->Q .normal a' w')(hN:∀o∈ops.toList,cT C.N o.dst=true){s:St}
  (h:SimE C s a w) (hq:PDraw5 P L ops K' s):wpAny P .any ops Q ops.size (Array.replicate ops.size false) a { w with drawn:=w.drawn+1 }:=by
 obtain⟨l,hok,hlc,hq⟩:=hq;obtain⟨S,h0,h1,h2⟩:=P5.run _ _ _ hq;have hd:=my hok;have hr:Run5 P L ops (l.map (·.2)) (te l) S:=by
  refine⟨fun i o ho=>?_,fun i t _ ht=>vS ht,fun i j t hi h1 h2 hlt=>?_⟩
  .have:=h1 i o (by simpa using ho);rwa [aG]at this
  .have e:=bx.1 (bx.1 hlc i (dG.2 hi)) j (dG.2 hlt);rw[h1,h2]at e;simpa using e
 have hend:K' (S ops.size):=by simpa using h2
 have hrep:∀i,i<ops.size->(Array.replicate ops.size false).getD i true=false:=fun i hi=>by simp[hi]
 refine AE hG hd hK hN hr hend ops.size (List.range ops.size) (Array.replicate ops.size false) s a _ aj tM (fun i=>?_) aj ?_ ?_ (let ⟨γ,h⟩:=h;⟨γ,nk h⟩)
 .rw[dG];exact⟨fun hi=>⟨hi,hrep i hi⟩,fun x=>x.1⟩
 .intro i o ho hl;rw[hrep i (eO ho).1]at hl;cases hl
 .refine⟨fun i o t ho hl=>?_,fun t _=>by rw[h0],fun k=>⟨0,J,fun i hi _=>?_,by rw[h0]⟩⟩
  .rw[hrep i (eO ho).1]at hl;cases hl
  .rw[hrep i hi];exact⟨fun h=>(by cases h),fun h=>J⟩
def PDraw3 (P:Program)(L:b9)(ops:Array Oper)(K:St->Prop)(s:St):Prop:=PDrawZ P L ops K s\/PDraw5 P L ops K s
theorem PDraw3.sound (hG:Good P L C){K':St->Prop}{Q:Exit->Act->World->Prop}(hK:∀s' a' w',SimE C s' a' w'->K' s'->Q .normal a' w')(hN:∀o∈ops.toList,cT C.N o.dst=true){s:St}
  (h:SimE C s a w) (hq:PDraw3 P L ops K' s):wpAny P .any ops Q ops.size (Array.replicate ops.size false) a { w with drawn:=w.drawn+1 }:=by
 rcases hq with hq|hq
 .exact PDrawZ.sound hG hK hN h hq
 .exact PDraw5.sound hG hK hN h hq
end
def PTree (P:Program)(L:b9)(ops:Array Oper)(K:St->Prop):Nat->Array Bool->St->Prop
 |0,listed,s=>Region.ready .any ops listed=[]/\K s
 |f+1,listed,s=>(Region.ready .any ops listed=[]->K s)/\∀i∈Region.ready .any ops listed,∃o,ops[i]?=some o/\PSem P L ops (PTree P L ops K f (listed.setIfInBounds i true)) [o] s
theorem PTree.sound (hG:Good P L C){K':St->Prop}{Q:Exit->Act->World->Prop}(hK:∀s' a' w',SimE C s' a' w'->K' s'->Q .normal a' w')(hN:∀o∈ops.toList,cT C.N o.dst=true) :
  ∀(f:Nat) (listed:Array Bool) (s:St) (a:Act) (w:World),SimE C s a w->PTree P L ops K' f listed s->wpAny P .any ops Q f listed a w
 |0,listed,s,a,w,h,hp=>⟨hp.1,hK s a w h hp.2⟩
 |f+1,listed,s,a,w,h,hp=>by
  refine⟨fun e=>hK s a w h (hp.1 e),fun i hi=>?_⟩;obtain⟨o,ho,hs⟩:=hp.2 i hi;have hNo:cT C.N o.dst=true:=hN o (by have:=oX ho;simpa using this);unfold wpOp;rw[ho];simp only;rcases hs with⟨hw,hs⟩|⟨hw,hs⟩
  .rw[if_pos (hw.spec h)];rcases hs with hs|hs
   .exact .inl (hs.wp hG h hNo fun s' a' w' h' hp'=>PTree.sound hG hK hN f _ s' a' w' h' hp')
   .exact .inl (Oper.wp_mono (fun a' w' ⟨s',h',hp'⟩=>PTree.sound hG hK hN f _ s' a' w' h' hp') (hs C a w _ hG h hNo))
  .rw[if_neg (by rw[hw.spec h];simp)];exact PTree.sound hG hK hN f _ _ _ w (h.put hNo undef) hs
def PTree0 (P:Program)(L:b9)(ops:Array Oper)(K:St->Prop)(s:St):Prop:=PTree P L ops K ops.size (Array.replicate ops.size false) s
theorem PTree0.sound (hG:Good P L C){K':St->Prop}{Q:Exit->Act->World->Prop}(hK:∀s' a' w',SimE C s' a' w'->K' s'->Q .normal a' w')(hN:∀o∈ops.toList,cT C.N o.dst=true){s:St}
  (h:SimE C s a w) (hq:PTree0 P L ops K' s):wpAny P .any ops Q ops.size (Array.replicate ops.size false) a { w with drawn:=w.drawn+1 } :=
 PTree.sound hG hK hN _ _ s a _ (let ⟨γ,h⟩:=h;⟨γ,nk h⟩) hq
theorem j9 {K:St->Prop}{f i:Nat}{o:Oper}{listed:Array Bool}{s:St}(hr:Region.ready .any ops listed=[i])(ho:ops[i]?=some o)(h:PSem P L ops (PTree P L ops K f (listed.setIfInBounds i true)) [o] s):PTree P L ops K (f+1) listed s :=
 ⟨fun e=>(by rw[e]at hr;cases hr),fun j hj=>by rw[hr]at hj;simp at hj;subst hj;exact⟨o,ho,h⟩⟩
theorem DC {K:St->Prop}{f i j:Nat}{o o2:Oper}{listed:Array Bool}{s:St}(hr:Region.ready .any ops listed=[i,j])(ho:ops[i]?=some o)(ho2:ops[j]?=some o2)
  (h:PSem P L ops (PTree P L ops K f (listed.setIfInBounds i true)) [o] s) (h2:PSem P L ops (PTree P L ops K f (listed.setIfInBounds j true)) [o2] s):PTree P L ops K (f+1) listed s :=
 ⟨fun e=>(by rw[e]at hr;cases hr),fun q hq=>by
  rw[hr]at hq;simp at hq;rcases hq with rfl|rfl
  .exact⟨o,ho,h⟩
  .exact⟨o2,ho2,h2⟩⟩
end
end Go.Pv
namespace Go.Pv
open Go.RowKit
def Fr (ro:Option Nat):Fence:={ Fence.wide with round:=ro }
theorem CM (ro:Option Nat)(l:Nat):(Fr ro).inRound l=Fr (some l):=rfl
section
variable {P:Program}{ro:Option Nat}{n:Nat}{ops:Array Oper}{Q:Exit->Act->World->Prop}
theorem Co {f:FuncId}{args:Array Value}{w:World}{R:Ending->World->Prop}(h:Calls P f args w R):CallsIn (Fr ro) n P f args w R:=callsIn_wide.2 h
theorem CL {f:FuncId}{args:Array Value}{w:World}{R:Ending->World->Prop}(h:CallsIn (Fr ro) n P f args w R):Calls P f args w R:=callsIn_wide (n:=n).1 h
theorem Ge {row:String}{args:Array Value}{w:World}{R:Value->World->Prop}(h:Rows P row args w R):RowsIn (Fr ro) n P row args w R:=fun c cs _ =>
 let ⟨v,w',r,s⟩:=h c cs;⟨v,w',r,stepsIn_wide.2 s⟩
theorem rB {op:Op}(h:dw op=true)(c:Call):op ≠ .defer c:=fun e=>by subst e;cases h
theorem GG {o:Oper}{a:Act}{next:Act->World->Prop}{r:Result Next}(h:o.upon P a next Q r):o.uponIn (Fr ro) n P a next Q r:=by
 have hd:(Fr ro).depth.isSome=true->1<=n:=fun e=>by simp[Fr,Fence.wide]at e
 cases r with
 |ok x w' =>
  cases x with
  |value v=>exact h
  |skip=>exact h
  |defer d=>exact h
  |enter f args=>exact⟨hd,(Co (show Calls P f args w' _ from h)).mono fun e w'' he=>by cases e<;>exact he⟩
  |row row args=>exact⟨hd,Ge (show Rows P row args w' _ from h)⟩
  |_=>exact False.elim h
 |halt x w' =>
  cases x with
  |panic v=>exact h
  |_=>exact False.elim h
theorem Ao {o:Oper}(hd:dw o.op=true){a:Act}{w:World}{next:Act->World->Prop}(h:o.wp P a w next Q):o.wpIn (Fr ro) n P a w next Q:=by
 refine⟨fun _ _=>trivial,?_⟩;rw[Oper.semAt_eq _ _ _ (rB hd)];exact GG h
theorem kt (hQ:¬LetsOut Q)(hd:∀o∈ops.toList,dw o.op=true):∀(l:List Nat) (a:Act) (w:World),wpOps P ops Q l a w->wpOpsIn (Fr ro) n P ops Q l a w
 |[],a,w,h=>h
 |i::rest,a,w,h=>by
  unfold wpOps at h;unfold wpOpsIn;cases ho:ops[i]? with
  |none=>simp only[ho]at h ⊢;exact kt hQ hd rest a w h
  |some o =>
   simp only[ho]at h ⊢;have hm:o∈ops.toList:=bG (by rw[dq];exact ho);split
   .rename_i hw;simp only[hw,if_true]at h;rcases h with h|h
    .exact Oper.wpIn_mono (fun a w h=>kt hQ hd rest a w h) (Ao (hd o hm) h)
    .exact absurd h.2 hQ
   .rename_i hw;simp only[hw]at h;exact⟨fun _ _=>trivial,kt hQ hd rest _ w h⟩
theorem su {id:Nat}{a:Act}{w:World}(hQ:¬LetsOut Q)(hd:∀o∈ops.toList,dw o.op=true)(h:wpList P ops Q ops.toList a w):(Code.region id ops false).wpIn (Fr ro) n P Q a w :=
 wpIn_region (kt hQ hd _ _ _ (by rw[List.range_eq_range',<-jm,wpOps_eq_wpList ops.toList 0 aj];exact h))
theorem yW {id:Nat}{a:Act}{w:World}(hm:P.follows .mixedOrders=true)(hQ:¬LetsOut Q)(hd:∀o∈ops.toList,dw o.op=true)(h:wpAny P .any ops Q ops.size (Array.replicate ops.size false) a { w with drawn:=w.drawn+1 }) :
  (Code.region id ops true).wpIn (Fr ro) n P Q a w :=
 wpIn_region_draw fun t=>by
  simp only[Region.schedule,hm,Bool.true_or,if_true];exact kt hQ hd _ _ _ (wpAny_sound ops.size t _ a _ h)
end
section
variable [Globs]
variable {P:Program}{L:b9}{C:Ctx}{s:St}{a:Act}{w w':World}{ops:Array Oper}
theorem kr {ro:Option Nat}{nn:Nat}{md:Region.Mode}{Q':Exit->Act->World->Prop}:∀(l:List Oper) (k:Nat) (listed:Array Bool) (a:Act) (w:World),(∀j,l[j]? = ops[k+j]?) ->
  Region.seqB md ops l.length k listed=true->wpListIn (Fr ro) nn P ops Q' l a w->wpAnyIn (Fr ro) nn P md ops Q' l.length listed a w
 |[],_,_,_,_,_,hB,h=>⟨by simpa [Region.seqB] using hB,h⟩
 |o::l,k,listed,a,w,hl,hB,h=>by
  have h0:ops[k]?=some o:=by simpa using (hl 0).symm
  simp only[eJ,Region.seqB,bj,decide_eq_true_eq]at hB;refine⟨fun h1=>(by rw[hB.1]at h1;cases h1),fun i hi=>?_⟩;rw[hB.1]at hi;have hik:i=k:=by simpa using hi
  subst hik;have hw:wpOpIn (Fr ro) nn P ops Q' i (wpListIn (Fr ro) nn P ops Q' l) a w:=by unfold wpOpIn;simp only[h0];exact h
  exact wpOpIn_mono (fun a' w' h'=>kr l (i+1) _ a' w' (fun j=>by have:=hl (j+1);simpa [fA,ic 1 j] using this) hB.2 h') hw
theorem AD {ro:Option Nat}{nn:Nat}(hG:Good P L C){n:Nat}{ds:List Nat}(hd:DrawOk ops n ds){Q:Exit->Act->World->Prop}
  (hN:∀o∈ops.toList,cT C.N o.dst=true/\dw o.op=true) {s0:St} {vs:List PV} (hvl:vs.length=ds.length)
  (hy:∀(k:Nat) (o:Oper) (v:PV),(ops.toList.take n)[k]?=some o->vs[k]?=some v->Yld P L ops (l6 ((ds.zip vs).take k) s0) o v)
  (hend:∀a w,SimE C (l6 (ds.zip vs) s0) a w->wpListIn (Fr ro) nn P ops Q (ops.toList.drop n) a w) :
  ∀(m:Nat) (U:List Nat) (listed:Array Bool) (s:St) (a:Act) (w:World),U.length=m->U.Nodup->(∀i,i∈U↔i<n/\listed.getD i true=false)->HeadInv .any ops n listed->Agr ds vs n listed s0 s->SimE C s a w ->
   wpAnyIn (Fr ro) nn P .any ops Q (m+(ops.size-n)) listed a w:=by
 have hdl:ds.length=n:=by
  have:=congrArg List.length hd.dst;simp at this;have h1:=hd.le;omega
 have hdi:∀i o,i<n->ops[i]?=some o->∃d,ds[i]?=some d/\o.dst=some d:=by
  intro i o hi ho;have h1:i<ds.length:=J;refine⟨ds[i],aQ h1,?_⟩;have h2:((ops.toList.take n).map (·.dst))[i]? = (ds.map some)[i]? := by rw[hd.dst]
  rw[aV,aV,bE,if_pos hi,aQ h1]at h2;have h3:ops.toList[i]?=some o:=by simpa using ho
  rw[h3]at h2;simpa using h2
 have hzn:(ds.zip vs).map (·.1)=ds:=by rw[List.map_fst_zip J]
 have hinj:∀(i j t:Nat),ds[i]?=some t->ds[j]?=some t->i=j:=by
  intro i j t h1 h2;have hi:=(bD h1).1;have hj:=(bD h2).1;have e1:=(bD h1).2;have e2:=(bD h2).2;exact(List.getElem_inj hd.nodup).1 (e1.trans e2.symm)
 intro m
 induction m with
 |zero =>
  intro U listed s a w hU _ hmem inv agr h;have hU0:U=[]:=dO hU;subst hU0;have hall:∀i,i<n->listed.getD i true=true:=fun i hi=>by
   cases hb:listed.getD i true with
   |true=>rfl
   |false=>have:=(hmem i).2 ⟨hi,hb⟩;cases this
  have hle:=hd.le;have hlist:listed=(List.replicate n true++List.replicate (ops.size-n) false).toArray:=by
   apply Array.ext
   .rw[inv.size];simp;omega
   .intro i h1 h2;have hi:i<ops.size:=by rw[<-inv.size];exact h1
    by_cases hlt:i<n
    .have:=hall i hlt;simp[h1]at this;simp[this,hlt]
    .have:=inv.tail i J hi;simp[h1]at this;simp[this,List.getElem_append,hlt]
  have hs:s=l6 (ds.zip vs) s0:=by
   refine St.ext' (funext fun t=>?_) (by rw[qF];exact agr.own);by_cases ht:∃j:Nat,ds[j]?=some t
   .obtain⟨j,hj⟩:=ht;have hjn:j<n:=by rw[<-hdl];exact(bD hj).1
    have hl:listed.getD j false=true:=by
     have h1:=hall j hjn;have h2:j<listed.size:=by rw[inv.size];omega
     simp[h2]at h1 ⊢;exact h1
    have hv:=agr.hit t j hjn hl hj;exact(qE _ s0 j t _ (Ar hvl hj hv) (by rw[hzn];exact hd.nodup)).symm
   .rw[agr.miss t (fun j _ _ hj=>ht ⟨j,hj⟩),kN];intro p hp e;obtain⟨j,hj,rfl⟩:=fc hp;refine ht ⟨j,?_⟩;have:((ds.zip vs).map (·.1))[j]?=some t:=by rw[aV,aQ hj];simp[<-e]
    rwa [hzn]at this
  rw[aG];have hlen:(ops.toList.drop n).length=ops.size-n:=aj;have:=kr (P:=P) (ops:=ops) (md := .any) (Q':=Q) (ro:=ro) (nn:=nn) (ops.toList.drop n) n listed a w (fun j=>by rw[cq];simp) (by rw[hlen,hlist];exact hd.seq)
   (hend a w (by rw[<-hs];exact h))
  rwa [hlen]at this
 |succ m ih =>
  intro U listed s a w hU hnd hmem inv agr h;have hlt_in:∀i,i∈Region.ready .any ops listed->i<n:=by
   intro i hi;have hisz:i<ops.size:=by
    obtain⟨_,o,ho,_⟩:=mem_ready.1 hi;exact(eO ho).1
   rcases hd.tail with ht|⟨ht1,ht2⟩
   .omega
   .rcases aT i n with h1|h1
    .exact h1
    .cases hUU:U with
     |nil=>rw[hUU]at hU;simp at hU
     |cons u U' =>
      have hu:=(hmem u).1 (by rw[hUU];simp);exact absurd hi (tail_waits ht1 ht2 J inv _ u O hu.1 hu.2 i h1)
  rw[show m+1+(ops.size-n)=(m+(ops.size-n))+1 by omega];refine⟨fun hnil=>?_,fun i hi=>?_⟩
  .exfalso;obtain⟨i0,hi0,hmin⟩:∃i∈U,∀j∈U,i<=j:=by
    have hne:∃i,i∈U:=by
     cases hUU:U with
     |nil=>rw[hUU]at hU;simp at hU
     |cons u U'=>exact⟨u,aj⟩
    have hd':∀k,(∃i,i∈U/\i<=k)->∃i∈U,∀j∈U,i<=j:=by
     intro k
     induction k with
     |zero=>rintro⟨i,hi,h0⟩;exact⟨i,hi,fun j _=>by omega⟩
     |succ k ihk =>
      rintro⟨i,hi,hk⟩;by_cases hex:∃j,j∈U/\j<=k
      .exact ihk hex
      .refine⟨i,hi,fun j hj=>?_⟩;rcases aT j i with h1|h1
       .exact absurd ⟨j,hj,J⟩ hex
       .exact h1
    obtain⟨i,hi⟩:=hne;exact hd' i ⟨i,hi,aH⟩
   have hu:=(hmem i0).1 hi0;have hsz:i0<ops.size:=by have:=hd.le;omega
   have hr:i0∈Region.ready .any ops listed:=by
    refine mem_ready.2 ⟨hu.2,ops[i0],cC hsz,fun e he hb=>?_⟩;have hlt:=hd.lex i0 _ (cC hsz) e he hb;cases hl:listed.getD e.on true with
    |false =>
     have:=hmin e.on ((hmem e.on).2 ⟨J,hl⟩);omega
    |true =>
     have h2:e.on<listed.size:=by rw[inv.size];omega
     simp[h2]at hl ⊢;exact hl
   rw[hnil]at hr;cases hr
  .have hin:=hlt_in i hi;obtain⟨hun,o,ho,hall⟩:=mem_ready.1 hi;obtain⟨d,hdd,hod⟩:=hdi i o hin ho;have hiv:i<vs.length:=J;have hyi:=hy i o vs[i] (by rw[bE,if_pos hin];simpa using ho) (aQ hiv);have hisz:i<listed.size:=by rw[inv.size];exact(eO ho).1
   have hsame:∀t∈o.looksAt ops,(l6 ((ds.zip vs).take i) s0).reg t=s.reg t:=by
    intro t ht;by_cases hx:∃j:Nat,j<n/\ds[j]?=some t
    .obtain⟨j,hjn,hj⟩:=hx;obtain⟨hji,e,he,hb,hon⟩:=hd.looks i o hin ho t ht j hjn hj;have hl:listed.getD j false=true:=by rw[<-hon];exact hall e he hb
     have hv:=agr.hit t j hjn hl hj;refine qE _ s0 j t _ ?_ ?_
     .rw[bE,if_pos hji];exact Ar hvl hj hv
     .rw[jc,hzn];exact hd.nodup.sublist (o_ _ _)
    .rw[agr.miss t (fun j hj _ hdj=>hx ⟨j,hj,hdj⟩),kN];intro p hp e;have hp':=gp hp;obtain⟨j,hj,rfl⟩:=fc hp';refine hx ⟨j,by simp at hj;omega,?_⟩;have:((ds.zip vs).map (·.1))[j]?=some t:=by rw[aV,aQ hj];simp[<-e]
     rwa [hzn]at this
   have hyl:Yld P L ops s o vs[i]:=hyi.congr (by rw[qF];exact agr.own.symm) hsame;have hnext:∀a' w',SimE C (s.put o.dst vs[i]) a' w'->wpAnyIn (Fr ro) nn P .any ops Q (m+(ops.size-n)) (listed.setIfInBounds i true) a' w':=by
    intro a' w' h';have hUi:i∈U:=(hmem i).2 ⟨hin,hun⟩;refine ih (U.erase i) _ _ a' w' (by rw[tj hUi];omega) (hnd.erase i) (fun k=>?_) (inv.set hi hin) ?_ h'
    .rw[hnd.mem_erase_iff,hmem k];by_cases hki:k=i
     .subst hki;simp[hisz]
     .rw[getD_set_ne true (Ne.symm hki)];exact⟨fun x=>x.2,fun x=>⟨hki,x⟩⟩
    .have hreg:∀t,(s.put o.dst vs[i]).reg t=if t=d then vs[i] else s.reg t:=by
      intro t;rw[hod];show(bif Nat.beq t d then vs[i] else s.reg t)=_;by_cases htd:t=d
      .subst htd;simp
      .rw[bR htd,if_neg htd];rfl
     refine⟨by rw[hod];exact agr.own,fun t j hjn hl hj=>?_,fun t hm=>?_⟩
     .rw[hreg];by_cases htd:t=d
      .subst htd;rw[if_pos O,hinj j i t hj hdd];exact aQ hiv
      .rw[if_neg htd];have hji:j≠i:=by
        intro e;subst e;rw[hdd]at hj;exact htd (bk hj).symm
       rw[getD_set_ne false (Ne.symm hji)]at hl;exact agr.hit t j hjn hl hj
     .rw[hreg];have hli:(listed.setIfInBounds i true).getD i false=true:=by simp[hisz]
      have htd:t≠d:=by
       intro e;subst e;exact hm i hin hli hdd
      rw[if_neg htd];refine agr.miss t fun j hjn hl hj=>?_;by_cases hji:j=i
      .subst hji;exact hm j hjn hli hj
      .exact hm j hjn (by rw[getD_set_ne false (Ne.symm hji)];exact hl) hj
   have hNo:cT C.N o.dst=true/\dw o.op=true:=hN o (by have:=oX ho;simpa using this);unfold wpOpIn;rw[ho];simp only;rcases hyl with⟨hw,hq⟩|⟨hw,hq⟩
   .rw[if_pos (hw.spec h)];exact Ao hNo.2 (hq.wp hG h hNo.1 hnext)
   .rw[if_neg (by rw[hw.spec h];simp)];refine⟨fun _ _=>trivial,hnext _ _ ?_⟩;rw[hq];exact h.put hNo.1 undef
end
variable [Globs]
def XThen (next:St->Prop)(Q:Exit->St->Prop):Exit->St->Prop
 |.normal,s=>next s
 |e,s=>Q e s
def XBlock (id:Nat)(Q:Exit->St->Prop):Exit->St->Prop
 |.exit id',s=>if id'=id then Q .normal s else Q (.exit id') s
 |e,s=>Q e s
def Ghost (s s1:St):Prop:=∀C a w,(∀b,C.X b->b<C.B)->SimE C s a w->SimE C s1 a w
theorem Ghost.refl (s:St):Ghost s s:=fun _ _ _ _ h=>h
theorem Ghost.trans {s1 s2 s3:St}(h1:Ghost s1 s2)(h2:Ghost s2 s3):Ghost s1 s3:=fun C a w hx h=>h2 C a w hx (h1 C a w hx h)
def Gh (K:St->Prop)(s:St):Prop:=∃s1,Ghost s s1/\K s1
theorem Gh.of {K:St->Prop}{s:St}(h:K s):Gh K s:=⟨s,.refl s,h⟩
def Dk (C:Ctx):Prop:=C.dfs.Nodup/\∀D0∈C.dfs,C.B<=D0/\C.keep .dfd (.pointer (some ⟨D0,0,none⟩))
structure Ext (C C':Ctx):Prop where
 B:C'.B=C.B
 X:C'.X=C.X
 w0:C'.w0=C.w0
 N:C'.N=C.N
 keep:∀c v,C.keep c v->C'.keep c v
 dk:Dk C->Dk C'
theorem Ext.refl (C:Ctx):Ext C C:=⟨O,O,O,O,fun _ _ h=>h,id⟩
theorem Ext.trans {A C D0:Ctx}(h:Ext A C)(k:Ext C D0):Ext A D0:=⟨k.B.trans h.B,k.X.trans h.X,k.w0.trans h.w0,k.N.trans h.N,fun c v hk=>k.keep c v (h.keep c v hk),fun hk=>k.dk (h.dk hk)⟩
def EY (X:Ctx->Ctx->Prop)(C:Ctx)(Q:Exit->St->Prop)(e:Exit)(a:Act)(w:World):Prop:=∃C' s,X C C'/\SimE C' s a w/\Q e s
def xq (P:Program)(L:b9)(g:Operand)(ps:Array Tmp)(assign body:Code)(Q:Exit->St->Prop)(s:St):Prop :=
 ∀(n:Nat) (C:Ctx) (a:Act) (w:World),Good P L C->SimE C s a w->gx true C.N (.rangeFunc g ps assign body)=true->(∀s,¬Q .outgrown s)->(Code.rangeFunc g ps assign body).wpIn (Fr none) n P (EY Ext C Q) a w
def Jt (P:Program)(L:b9)(s:St)(o:Oper)(K:St->Prop):Prop:=∀(ro:Option Nat) (n:Nat) (C:Ctx) (a:Act) (w:World) (Q:Exit->Act->World->Prop),Good P L C->SimE C s a w->cT C.N o.dst=true->¬LetsOut Q ->
 o.wpIn (Fr ro) n P a w (fun a' w'=>∃s',SimE C s' a' w'/\K s') Q
def PSemI (P:Program)(L:b9)(ops:Array Oper)(K:St->Prop):List Oper->St->Prop
 |[],s=>K s
 |o::rest,s=>(Wants ops s o true/\(POp P L s o (PSemI P L ops K rest)\/Sm P L s o (PSemI P L ops K rest)\/Jt P L s o (PSemI P L ops K rest)))\/(Wants ops s o false/\PSemI P L ops K rest (s.put o.dst (.raw undef)))
theorem PSemI.sound {P:Program}{L:b9}{C:Ctx}{ops:Array Oper}{ro:Option Nat}{n:Nat}(hG:Good P L C){K':St->Prop}{Q:Exit->Act->World->Prop}(hQ:¬LetsOut Q)(hK:∀s' a' w',SimE C s' a' w'->K' s'->Q .normal a' w') :
  ∀(l:List Oper) (s:St) (a:Act) (w:World),(∀o∈l,cT C.N o.dst=true/\dw o.op=true)->SimE C s a w->PSemI P L ops K' l s->wpListIn (Fr ro) n P ops Q l a w
 |[],s,a,w,_,h,hp=>hK s a w h hp
 |o::l,s,a,w,hN,h,hp=>by
  unfold wpListIn;have hN':∀o'∈l,cT C.N o'.dst=true/\dw o'.op=true:=fun o' ho'=>hN o' (by simp[ho']);obtain⟨h1,h2⟩:=hN o aj;rcases hp with⟨hw,hp⟩|⟨hw,hp⟩
  .rw[if_pos (hw.spec h)];rcases hp with hp|hp|hp
   .exact Ao h2 (hp.wp hG h h1 fun s' a' w' h' hp'=>PSemI.sound hG hQ hK l s' a' w' hN' h' hp')
   .exact Ao h2 (Oper.wp_mono (fun a' w' ⟨s',h',hp'⟩=>PSemI.sound hG hQ hK l s' a' w' hN' h' hp') (hp C a w _ hG h h1))
   .exact Oper.wpIn_mono (fun a' w' ⟨s',h',hp'⟩=>PSemI.sound hG hQ hK l s' a' w' hN' h' hp') (hp ro n C a w _ hG h h1 hQ)
  .rw[if_neg (by rw[hw.spec h];simp)];exact⟨fun _ _=>trivial,PSemI.sound hG hQ hK l _ _ w hN' (h.put h1 undef) hp⟩
def PDrawI (P:Program)(L:b9)(ops:Array Oper)(K:St->Prop)(s:St):Prop :=
 ∃n ds,nG ops n ds=true/\PQuiet P L ops (fun s'=>PSemI P L ops K (ops.toList.drop n) s') (ops.toList.take n) s
section
variable {P:Program}{L:b9}{C:Ctx}{s:St}{a:Act}{w w':World}{ops:Array Oper}
theorem PDrawI.sound {ro:Option Nat}{nn:Nat}(hG:Good P L C){K':St->Prop}{Q:Exit->Act->World->Prop}(hK:∀s' a' w',SimE C s' a' w'->K' s'->Q .normal a' w')(hQ:¬LetsOut Q)(hN:∀o∈ops.toList,cT C.N o.dst=true/\dw o.op=true)
  (h:SimE C s a w) (hq:PDrawI P L ops K' s):wpAnyIn (Fr ro) nn P .any ops Q ops.size (Array.replicate ops.size false) a { w with drawn:=w.drawn+1 }:=by
 obtain⟨n,ds,hok,hq⟩:=hq;have hd:=vj hok;obtain⟨vs,h1,h2,h3⟩:=PQuiet.ylds _ ds s hd.dst hq;have hle:=hd.le;obtain⟨γ,h⟩:=h;have hget:∀(j:Nat) (d:Bool),(Array.replicate ops.size false).getD j d=if j<ops.size then false else d:=by
  intro j d;by_cases hj:j<ops.size
  .simp[hj]
  .simp[hj]
 have:=AD (ro:=ro) (nn:=nn) hG hd (Q:=Q) hN h1 h2 (fun a w h=>PSemI.sound hG hQ hK _ _ a w (fun o ho=>hN o (ky ho)) h h3) n (List.range n) (Array.replicate ops.size false) s a _ aj tM (fun i=>by
   rw[dG,hget];constructor
   .intro hi;exact⟨hi,by rw[if_pos J]⟩
   .exact fun x=>x.1)
  ⟨aj,(fun j oj _ hl=>by rw[hget]at hl;split at hl<;>cases hl),fun t ht1 ht2=>by rw[hget,if_pos ht2]⟩
  ⟨O,(fun t j _ hl=>by rw[hget]at hl;split at hl<;>cases hl),fun _ _=>rfl⟩ ⟨γ,h.ext (lC w)⟩
 rwa [show n+(ops.size-n)=ops.size by omega]at this
end
def PWP (P:Program)(L:b9):Code->(Exit->St->Prop)->St->Prop
 |.skip,Q,s=>Gh (Q .normal) s
 |.region _ ops d,Q,s=>Gh (fun s=>bif d then(PDraw3 P L ops (Q .normal) s\/PTree0 P L ops (Q .normal) s\/PDrawI P L ops (Q .normal) s) else(POps P L ops (Q .normal) ops.toList s\/PSem P L ops (Q .normal) ops.toList s\/PSemI P L ops (Q .normal) ops.toList s)) s
 |.seq x y,Q,s=>PWP P L x (XThen (fun s'=>PWP P L y Q s') Q) s
 |.cond c x y,Q,s=>Gh (fun s=>∃b,s.ev c=.bool b/\(b=true->PWP P L x Q s)/\(b=false->PWP P L y Q s)) s
 |.block id c,Q,s=>PWP P L c (XBlock id Q) s
 |.loop c,Q,s=>Gh (fun s=>∃(I:St->Prop) (μ:St->Nat),I s/\∀s,I s->PWP P L c (XThen (fun s'=>I s'/\μ s'<μ s) Q) s) s
 |.exit id,Q,s=>Gh (Q (.exit id)) s
 |.ret,Q,s=>Gh (Q .ret) s
 |.label _,Q,s=>Gh (Q .normal) s
 |.rangeFunc g ps assign body,Q,s=>Gh (xq P L g ps assign body Q) s
 |_,_,_=>False
theorem ax {P:Program}{L:b9}{s s1:St}(hg:Ghost s s1):∀ {c:Code} {Q:Exit->St->Prop},PWP P L c Q s1->PWP P L c Q s
 |.skip,_,⟨s2,h1,h2⟩=>⟨s2,hg.trans h1,h2⟩
 |.region ..,_,⟨s2,h1,h2⟩=>⟨s2,hg.trans h1,h2⟩
 |.seq x _,_,h=>ax (c:=x) hg h
 |.cond ..,_,⟨s2,h1,h2⟩=>⟨s2,hg.trans h1,h2⟩
 |.block _ c,_,h=>ax (c:=c) hg h
 |.loop ..,_,⟨s2,h1,h2⟩=>⟨s2,hg.trans h1,h2⟩
 |.exit ..,_,⟨s2,h1,h2⟩=>⟨s2,hg.trans h1,h2⟩
 |.ret,_,⟨s2,h1,h2⟩=>⟨s2,hg.trans h1,h2⟩
 |.label ..,_,⟨s2,h1,h2⟩=>⟨s2,hg.trans h1,h2⟩
 |.goto ..,_,h=>h.elim
 |.rangeFunc ..,_,⟨s2,h1,h2⟩=>⟨s2,hg.trans h1,h2⟩
 |.scope ..,_,h=>h.elim
 |.refuse ..,_,h=>h.elim
section
variable {P:Program}{L:b9}{C:Ctx}{s:St}{a:Act}{w w':World}
def Up (C:Ctx)(Q:Exit->St->Prop)(e:Exit)(a:Act)(w:World):Prop:=∃s,SimE C s a w/\Q e s
theorem Good.ext {C':Ctx}(hG:Good P L C)(h:Ext C C'):Good P L C':=⟨hG.lay,by rw[h.X,h.B];exact hG.x,hG.mixed,by rw[h.B,h.w0];exact hG.glob⟩
theorem PWP.soundX {X:Ctx->Ctx->Prop}(hXr:∀C,X C C)(hXt:∀ {A B D0},X A B->X B D0->X A D0)(hXe:∀ {A B},X A B->Ext A B){r:Bool}{ro:Option Nat}(hr:r=true->ro=none/\∀A B,Ext A B->X A B){n:Nat} :
  ∀(c:Code) (Q:Exit->St->Prop) (C:Ctx) (s:St) (a:Act) (w:World),Good P L C->gx r C.N c=true->(∀s,¬Q .outgrown s)->SimE C s a w->PWP P L c Q s->c.wpIn (Fr ro) n P (EY X C Q) a w
 |.skip,Q,C,s,a,w,hG,_,_,h,⟨s1,g,hp⟩=>wpIn_skip ⟨C,s1,hXr C,g C a w hG.x h,hp⟩
 |.region id ops d,Q,C,s,a,w,hG,hc,hQ,h,hp=>by
  obtain⟨s1,g,hp⟩:=hp;replace h:=g C a w hG.x h;have hcc:∀o∈ops.toList,cT C.N o.dst=true/\dw o.op=true:=fun o ho=>by
   have:=bx.1 hc o ho;simpa using this
  have hN:∀o∈ops.toList,cT C.N o.dst=true:=fun o ho=>(hcc o ho).1;have hD:∀o∈ops.toList,dw o.op=true:=fun o ho=>(hcc o ho).2;have hL:¬LetsOut (EY X C Q):=fun⟨_,_,_,s,_,_,hq⟩=>hQ s hq;have fin:∀s' a' w',SimE C s' a' w'->Q .normal s'->EY X C Q .normal a' w':=fun s' a' w' h' hk=>⟨C,s',hXr C,h',hk⟩;cases d with
  |true =>
   rcases hp with hp|hp|hp
   .exact yW hG.mixed hL hD (PDraw3.sound hG (Q:=EY X C Q) fin hN h hp)
   .exact yW hG.mixed hL hD (PTree0.sound hG (Q:=EY X C Q) fin hN h hp)
   .exact wpIn_region_any hG.mixed (PDrawI.sound hG (Q:=EY X C Q) fin hL hcc h hp)
  |false =>
   rcases hp with hp|hp|hp
   .exact su hL hD (POps.sound hG (Q:=EY X C Q) fin ops.toList s1 a w hN h hp)
   .exact su hL hD (PSem.sound hG (Q:=EY X C Q) fin ops.toList s1 a w hN h hp)
   .exact wpIn_region_list (PSemI.sound hG hL fin ops.toList s1 a w hcc h hp)
 |.seq x y,Q,C,s,a,w,hG,hc,hQ,h,hp=>by
  simp only[gx,bj]at hc;refine wpIn_seq (wpIn_mono (PWP.soundX hXr hXt hXe hr x (XThen (fun s'=>PWP P L y Q s') Q) C s a w hG hc.1 (fun s hq=>hQ s hq) h hp) ?_);rintro e a' w' ⟨C',s',hX,h',hq⟩;cases e
  case normal =>
   have he:=hXe hX;refine wpIn_mono (PWP.soundX hXr hXt hXe hr y Q C' s' a' w' (hG.ext he) (by rw[he.N];exact hc.2) hQ h' hq) ?_;rintro e2 a2 w2 ⟨C2,s2,hX2,h2,hq2⟩;exact⟨C2,s2,hXt hX hX2,h2,hq2⟩
  all_goals exact⟨C',s',hX,h',hq⟩
 |.cond c x y,Q,C,s,a,w,hG,hc,hQ,h,hp=>by
  simp only[gx,bj]at hc;obtain⟨s1,g,b,hb,h1,h2⟩:=hp;obtain⟨γ,h'⟩:=g C a w hG.x h;have he:=h'.ev c;rw[hb]at he;refine wpIn_cond (t:=b) he.bool_inv ?_;cases b
  .exact PWP.soundX hXr hXt hXe hr y Q C s1 a w hG hc.2 hQ ⟨γ,h'⟩ (h2 O)
  .exact PWP.soundX hXr hXt hXe hr x Q C s1 a w hG hc.1 hQ ⟨γ,h'⟩ (h1 O)
 |.block id c,Q,C,s,a,w,hG,hc,hQ,h,hp=>by
  refine wpIn_block (wpIn_mono (PWP.soundX hXr hXt hXe hr c (XBlock id Q) C s a w hG hc (fun s hq=>hQ s hq) h hp) ?_);rintro e a' w' ⟨C',s',hX,h',hq⟩;cases e
  case exit id' =>
   show if id'=id then _ else _
   have hq':if id'=id then Q .normal s' else Q (.exit id') s':=hq
   split
   .rename_i hid;rw[if_pos hid]at hq';exact⟨C',s',hX,h',hq'⟩
   .rename_i hid;rw[if_neg hid]at hq';exact⟨C',s',hX,h',hq'⟩
  all_goals exact⟨C',s',hX,h',hq⟩
 |.loop c,Q,C,s,a,w,hG,hc,hQ,h,hp=>by
  obtain⟨s1,g,I,μ,h0,hround⟩:=hp;replace h:=g C a w hG.x h;let J0:Act->World->Nat->Prop:=fun a w n=>∃C' s,X C C'/\SimE C' s a w/\I s/\μ s=n;have least:∀a w,(∃n,J0 a w n)->∃n,J0 a w n/\∀m,J0 a w m->n<=m:=by
   intro a w ⟨n,hn⟩
   induction n using Nat.strongRecOn with
   |_ n ih =>
    by_cases hx:∃m,m<n/\J0 a w m
    .obtain⟨m,hm,hj⟩:=hx;exact ih m hm hj
    .exact⟨n,hn,fun m hm=>by
      rcases aT m n with h|h
      .exact absurd ⟨m,h,hm⟩ hx
      .exact h⟩
  have hμ:∃f:Act->World->Nat,∀a w,(∃n,J0 a w n)->J0 a w (f a w)/\∀m,J0 a w m->f a w<=m:=by
   refine⟨fun a w=>Classical.epsilon fun n=>J0 a w n/\∀m,J0 a w m->n<=m,fun a w hx=>?_⟩;exact tn (least a w hx)
  obtain⟨f,hf⟩:=hμ;refine wpIn_loop (fun a w=>∃C' s,X C C'/\SimE C' s a w/\I s) f ⟨C,s1,hXr C,h,h0⟩ ?_;rintro a1 w1 ⟨C1,s1,hX1,hs1,hI1⟩;obtain⟨⟨C2,s2,hX2,hs2,hI2,hm2⟩,_⟩:=hf a1 w1 ⟨_,C1,s1,hX1,hs1,hI1,O⟩;have he:=hXe hX2;refine wpIn_mono (PWP.soundX hXr hXt hXe hr c (XThen (fun s'=>I s'/\μ s'<μ s2) Q) C2 s2 a1 w1 (hG.ext he) (by rw[he.N];exact hc) (fun s hq=>hQ s hq) hs2 (hround s2 hI2)) ?_;rintro e a3 w3 ⟨C3,s3,hX3,h3,hq⟩;cases e
  case normal =>
   obtain⟨i3,m3⟩:=hq;refine⟨⟨C3,s3,hXt hX2 hX3,h3,i3⟩,?_⟩;have:=(hf a3 w3 ⟨_,C3,s3,hXt hX2 hX3,h3,i3,O⟩).2 _ ⟨C3,s3,hXt hX2 hX3,h3,i3,O⟩;omega
  all_goals exact⟨C3,s3,hXt hX2 hX3,h3,hq⟩
 |.exit id,Q,C,s,a,w,hG,_,_,h,⟨s1,g,hp⟩=>wpIn_exit ⟨C,s1,hXr C,g C a w hG.x h,hp⟩
 |.ret,Q,C,s,a,w,hG,_,_,h,⟨s1,g,hp⟩=>wpIn_ret ⟨C,s1,hXr C,g C a w hG.x h,hp⟩
 |.label l,Q,C,s,a,w,hG,_,_,h,⟨s1,g,hp⟩=>wpIn_label ⟨C,s1,hXr C,g C a w hG.x h,hp⟩
 |.rangeFunc gg ps assign body,Q,C,s,a,w,hG,hc,hQ,h,⟨s1,g,hp⟩=>by
  have hrt:r=true:=by
   simp only[gx,bj]at hc;exact hc.1.1.1
  obtain⟨rfl,hX⟩:=hr hrt;subst hrt;refine wpIn_mono (hp n C a w hG (g C a w hG.x h) hc hQ) ?_;rintro e a' w' ⟨C',s',he,h',hq⟩;exact⟨C',s',hX _ _ he,h',hq⟩
 |.goto _,_,_,_,_,_,_,_,_,_,hp=>hp.elim
 |.scope _,_,_,_,_,_,_,_,_,_,hp=>hp.elim
 |.refuse _,_,_,_,_,_,_,_,_,_,hp=>hp.elim
theorem PWP.sound (hG:Good P L C)(c:Code)(Q:Exit->St->Prop)(s:St)(a:Act)(w:World)(hc:jP C.N c=true)(hQ:∀s,¬Q .outgrown s)(h:SimE C s a w)(hp:PWP P L c Q s):c.wp P (Up C Q) a w:=by
 refine wpIn_wide (n:=0).1 (wpIn_mono (PWP.soundX (X:=fun A B=>A=B) (fun _=>rfl) (fun h k=>h.trans k) (fun h=>by subst h;exact .refl _) (r:=false) (ro:=none) (fun h=>by cases h) c Q C s a w hG hc hQ h hp) ?_);rintro e a' w' ⟨C',s',rfl,h',hq⟩;exact⟨s',h',hq⟩
def rv (L:b9)(s:St):ResultVar->Option (PV × Prop)
 |.tmp t=>some (s.reg t,True)
 |.cell t T=>qv L s (.load T (.tmp t))
def DX (L:b9)(s:St):List ResultVar->Option (List PV × Prop)
 |[]=>some ([],True)
 |x::xs=>match rv L s x with
  |some (v,A)=>(match DX L s xs with|some (vs,B)=>some (v::vs,A/\B)|none=>none)
  |none=>none
def jE:List PV->PV
 |[x]=>x
 |l => .tup l
def pO (L:b9)(fn:Func)(m:Mode)(r:PV)(s:St):Prop :=
 ∃l Cd d Cd2 fl,DX L s fn.results.toList=some (l,Cd)/\Cd/\fJ s 5 (jE l)=some (d,Cd2,fl)/\Cd2/\(match m with | .shared=>True | .fresh=>fl.fr=true)/\d=r
def RetPost (L:b9)(fn:Func)(m:Mode)(r:PV):Exit->St->Prop
 |.normal,s | .ret,s=>pO L fn m r s
 |_,_=>False
def dE (pargs:List PV):St:={ reg:=fun t=>pargs.getD t (.raw undef),own:=fun _=>(0,none) }
theorem nY (hL:iW P L){γ:Nat->Option Nat}(h:Sim C γ s a w):∀(xs:List ResultVar) (l:List PV) (Cd:Prop),DX L s xs=some (l,Cd)->Cd ->
  ∃vs:List Value,(∀w2:World,(∀a u,w.cell? a=some u->w2.cell? a=some u)->(xs.mapM (fun | .tmp t=>pure (a.tmps.getD t undef) | .cell p t=>do loadVar t (<-asAddr (a.tmps.getD p undef)):ResultVar->Sem Value)).run P w2=.ok vs w2)/\l.length=vs.length /\
   ∀(i:Nat) (c:PV) (v:Value),l[i]?=some c->vs[i]?=some v->Rep (ai C γ s w) c v
 |[],l,Cd,hq,_=>by
  simp only[DX,aJ,aP]at hq;obtain⟨rfl,_⟩:=hq;exact⟨[],fun _ _=>by simp,O,fun i c v h=>by simp at h⟩
 |x::xs,l,Cd,hq,hc=>by
  simp only[DX]at hq;split at hq
  .rename_i v A hv;split at hq
   .rename_i vs B hvs;simp only[aJ,aP]at hq;obtain⟨rfl,rfl⟩:=hq;obtain⟨us,h1,h2,h3⟩:=nY hL h xs vs B hvs hc.2;have key:∃u,(∀w2:World,(∀a u,w.cell? a=some u->w2.cell? a=some u)->((fun | .tmp t=>pure (a.tmps.getD t undef) | .cell p t=>do loadVar t (<-asAddr (a.tmps.getD p undef)):ResultVar->Sem Value) x).run P w2=.ok u w2)/\Rep (ai C γ s w) v u:=by
     cases x with
     |tmp t =>
      simp only[rv,aJ,aP]at hv;obtain⟨rfl,_⟩:=hv;exact⟨_,fun _ _=>rfl,h.regs t⟩
     |cell p T =>
      obtain⟨u,e1,e2⟩:=sC (P:=P) hL h hv hc.1;refine⟨u,fun w2 hk=>?_,e2⟩;replace e1:=e1 w2 hk;have he:a.eval (.tmp p)=a.tmps.getD p undef:=O;rw[he]at e1;simp only[Sem.run_bind];generalize a.tmps.getD p undef=y at e1;unfold Instr.loadAt Instr.sureAddr at e1;split at e1
      .simpa [asAddr] using e1
      .simp at e1
    obtain⟨u,k1,k2⟩:=key;refine⟨u::us,fun w2 hk=>?_,by simp[h2],fun i c v' e1 e2=>?_⟩
    .rw[List.mapM_cons,Sem.run_bind,k1 w2 hk];simp only[Result.andThen_ok,Sem.run_bind,h1 w2 hk,Sem.run_pure]
    .cases i with
     |zero=>simp at e1 e2;subst e1;subst e2;exact k2
     |succ i=>exact h3 i c v' (by simpa using e1) (by simpa using e2)
   .cases hq
  .cases hq
theorem wP (hL:iW P L){γ:Nat->Option Nat}(h:Sim C γ s a w)  (xs:List ResultVar) (l:List PV) (Cd:Prop) (hq:DX L s xs=some (l,Cd)) (hc:Cd) :
  ∃vs:List Value,(xs.mapM (fun | .tmp t=>pure (a.tmps.getD t undef) | .cell p t=>do loadVar t (<-asAddr (a.tmps.getD p undef)):ResultVar->Sem Value)).run P w=.ok vs w/\l.length=vs.length /\
   ∀(i:Nat) (c:PV) (v:Value),l[i]?=some c->vs[i]?=some v->Rep (ai C γ s w) c v:=by
 obtain⟨vs,h1,h2,h3⟩:=nY (P:=P) hL h xs l Cd hq hc;exact⟨vs,h1 _ fun _ _ h=>h,h2,h3⟩
theorem Ret.of_pwp {m : Mode}{f : FuncId}{fn : Func}{body : Code}{pargs : List PV}{r : PV}(hL : iW P L)(hm : P.follows .mixedOrders = true)(hf : P.funcs[f]?=some fn)(hb : fn.body = some body)(hn : (fn.name == "runtime.NumGoroutine") = false)
  (hlen:Nat.ble pargs.length fn.ntmps=true) (hc:jP fn.ntmps body=true) (h:PWP P L body (RetPost L fn m r) (dE pargs)):Ret P m f pargs r:=by
 refine⟨⟨fn,hf,hn,by simp[hb]⟩,fun w X args hg hX hl hargs=>?_⟩;let C:Ctx:=⟨w.heap.size,X,w,fn.ntmps,fun _ _=>False,[]⟩;have hG:Good P L C:=⟨hL,hX,hm,fun w' hb=>Globs.keep w w' hg hb⟩;have hle:args.length<=fn.ntmps:=by rw[<-hl];simpa using hlen
 have hsim:SimE C (dE pargs) { tmps:=args.toArray++Array.replicate (fn.ntmps-args.toArray.size) undef,defers:=[] } w:=by
  refine⟨fun _=>none,O,by simp[C];omega,fun t=>?_,fun k c hk=>by simp[dE]at hk,fun k k' c c' b hk=>by simp[dE]at hk,fun k c b hk=>by simp[dE]at hk,Below.refl _ _,aH,fun c v hk=>hk.elim⟩;show Rep _ (pargs.getD t (.raw undef)) _;rcases aT t args.length with hlt|hge
  .have hlt':t<pargs.length:=J;have e1:pargs.getD t (.raw undef)=pargs[t]:=by simp[hlt']
   have e2:(args.toArray++Array.replicate (fn.ntmps-args.toArray.size) undef).getD t undef=args[t]:=by
    rw[ip,qo (by simpa using hlt)];simp[hlt]
   rw[e1,e2];refine .d ((hargs t pargs[t] args[t] (aQ hlt') (aQ hlt)).weaken fun b hb=>⟨hb.1,hb.2,fun k c hk=>by simp[dE]at hk⟩)
  .have e1:pargs.getD t (.raw undef) = .raw undef:=by simp[dF (by omega:pargs.length<=t)]
   have e2:(args.toArray++Array.replicate (fn.ntmps-args.toArray.size) undef).getD t undef=undef:=by
    rw[ip,nN (by simpa using hge)];rcases aT (t-args.toArray.size) (fn.ntmps-args.toArray.size) with h1|h1
    .rw[mH,if_pos h1];rfl
    .rw[j0 (by simpa using h1)];rfl
   rw[e1,e2];exact .d (.raw _)
 refine calls_of_wp hf hb (wp_mono (PWP.sound hG body _ _ _ w hc (fun _ hq=>hq) hsim h) ?_);have fin:∀ {s:St} {a:Act} {w':World},SimE C s a w'->pO L fn m r s->a.defers=[]/\∃v,(results fn a.tmps).run P w'=.ok v w'/\∃u,Ending.returned v=.returned u/\Below w.heap.size w w'/\DRep w' (m.ok X w w') r u:=by
  rintro s a w' ⟨γ,hs⟩ ⟨l,Cd,d,Cd2,fl,h1,h2,h3,h4,h5,rfl⟩;obtain⟨vs,g1,g2,g3⟩:=wP (P:=P) hL hs fn.results.toList l Cd h1 h2;have hbel:Below w.heap.size w w':=hs.below;have hok:∀k,eF C γ s w' fl k->m.ok X w w' k:=by
   intro k hk;cases m with
   |shared=>exact⟨hk.1,hk.2.1⟩
   |fresh=>exact⟨hk.2.2.2 h5,hk.1⟩
  refine⟨hs.defers,?_⟩;have hrun:(results fn a.tmps).run P w'=.ok (if h:vs.toArray.size=1 then vs.toArray[0] else .tuple vs.toArray) w':=by
   unfold results;rw[<-o0 (xs:=fn.results),o9];simp only[Sem.run_bind,Sem.run_map,Sem.run_pure];exact congrArg (fun q:Result (List Value)=>(q.andThen fun a w'=>Result.ok a.toArray w').andThen fun a w'=>Result.ok (if h:a.size=1 then a[0] else .tuple a) w') g1
  rw[hrun];refine⟨_,O,_,O,hbel,?_⟩;have hrep:Rep (ai C γ s w') (jE l) (if h:vs.toArray.size=1 then vs.toArray[0] else .tuple vs.toArray):=by
   match l,vs,g2,g3 with
   |[],[],_,_=>exact .tup [] [] rfl fun i c v e=>by simp at e
   |[c],[v],_,g3=>exact g3 0 c v rfl rfl
   |c1::c2::l,v1::v2::vs,hlen,g3 =>
    rw[dif_neg aj];exact .tup _ _ hlen g3
  exact(iP hX hs 5 _ _ _ _ _ h3 h4 hrep).weaken hok
 rintro e a w' ⟨s,hs,hq⟩;cases e
 case normal=>exact fin hs hq
 case ret=>exact fin hs hq
 all_goals exact hq.elim
structure Taken (dfs:List Nat) (w w':World):Prop where
 os:w'.os=w.os
 tape:w'.tape=w.tape
 output:w'.output=w.output
 size:w'.heap.size=w.heap.size
 same:∀b,w'.heap[b]? = w.heap[b]? \/ (b∈dfs/\w.heap[b]?=some (.deferred (some [])))
theorem mF {fn:Func}{tmps:Array Value}{R:Ending->World->Prop}{n:Nat}(all:List Nat)(w0:World)(hfin:∀w',Taken all w0 w'->∃v,(results fn tmps).run P w'=.ok v w'/\R (.returned v) w') :
  ∀(l:List Nat) (w:World),l.Nodup->(∀D0∈l,D0∈all/\w.heap[D0]?=some (.deferred (some []))/\w0.heap[D0]?=some (.deferred (some [])))->Taken all w0 w->LeavesInM (Fr none) n P fn tmps R (l.map xV) .returning w
 |[],w,_,_,ht=>hfin w ht
 |D0::l,w,hn,hd,ht=>by
  rw[kC]at hn;obtain⟨h1,h2,h3⟩:=hd D0 (.head _);refine⟨(fun e=>by cases e),.inl ⟨D0,_,O,run_takeDeferred h2,?_⟩⟩;have hlt:D0<w.heap.size:=(eO h2).1;have hoth:∀b,b≠D0->(w.putObj D0 (.deferred none)).heap[b]? = w.heap[b]? := fun b hb=>World.putObj_heap_other hb;refine mF all w0 hfin l _ hn.2 (fun D' hD'=>?_) ⟨ht.os,ht.tape,ht.output,?_,fun b=>?_⟩
  .obtain⟨q1,q2,q3⟩:=hd D' (.tail _ hD');have hne:D'≠D0:=fun e=>hn.1 (by rw[<-e];exact hD');exact⟨q1,by rw[hoth D' hne];exact q2,q3⟩
  .have:(w.putObj D0 (.deferred none)).heap.size=w.heap.size:=by simp[World.putObj]
   rw[this];exact ht.size
  .by_cases hb:b=D0
   .subst hb;exact .inr ⟨h1,h3⟩
   .rw[hoth b hb];exact ht.same b
theorem Ret.of_pwpR {m : Mode}{f : FuncId}{fn : Func}{body : Code}{pargs : List PV}{r : PV}(hL : iW P L)(hm : P.follows .mixedOrders = true)(hf : P.funcs[f]?=some fn)(hb : fn.body = some body)(hn : (fn.name == "runtime.NumGoroutine") = false)
  (hlen:Nat.ble pargs.length fn.ntmps=true) (hc:gx true fn.ntmps body=true) (_hres:fn.results=fn.results) (h:PWP P L body (RetPost L fn m r) (dE pargs)):Ret P m f pargs r:=by
 refine⟨⟨fn,hf,hn,by simp[hb]⟩,fun w X args hg hX hl hargs=>?_⟩;let C:Ctx:=⟨w.heap.size,X,w,fn.ntmps,fun _ _=>False,[]⟩;have hG:Good P L C:=⟨hL,hX,hm,fun w' hb=>Globs.keep w w' hg hb⟩;have hle:args.length<=fn.ntmps:=by rw[<-hl];simpa using hlen
 have hsim:SimE C (dE pargs) { tmps:=args.toArray++Array.replicate (fn.ntmps-args.toArray.size) undef,defers:=[] } w:=by
  refine⟨fun _=>none,O,by simp[C];omega,fun t=>?_,fun k c hk=>by simp[dE]at hk,fun k k' c c' b hk=>by simp[dE]at hk,fun k c b hk=>by simp[dE]at hk,Below.refl _ _,aH,fun c v hk=>hk.elim⟩;show Rep _ (pargs.getD t (.raw undef)) _;rcases aT t args.length with hlt|hge
  .have hlt':t<pargs.length:=J;have e1:pargs.getD t (.raw undef)=pargs[t]:=by simp[hlt']
   have e2:(args.toArray++Array.replicate (fn.ntmps-args.toArray.size) undef).getD t undef=args[t]:=by
    rw[ip,qo (by simpa using hlt)];simp[hlt]
   rw[e1,e2];refine .d ((hargs t pargs[t] args[t] (aQ hlt') (aQ hlt)).weaken fun b hb=>⟨hb.1,hb.2,fun k c hk=>by simp[dE]at hk⟩)
  .have e1:pargs.getD t (.raw undef) = .raw undef:=by simp[dF (by omega:pargs.length<=t)]
   have e2:(args.toArray++Array.replicate (fn.ntmps-args.toArray.size) undef).getD t undef=undef:=by
    rw[ip,nN (by simpa using hge)];rcases aT (t-args.toArray.size) (fn.ntmps-args.toArray.size) with h1|h1
    .rw[mH,if_pos h1];rfl
    .rw[j0 (by simpa using h1)];rfl
   rw[e1,e2];exact .d (.raw _)
 refine CL (ro:=none) (n:=0) (callsIn_of_wp_marks hf hb trivial (wpIn_mono (PWP.soundX (X:=Ext) .refl .trans id (r:=true) (ro:=none) (fun _=>⟨O,fun _ _ h=>h⟩) body _ C _ _ w hG hc (fun _ hq=>hq) hsim h) ?_));have fin:∀ {C':Ctx} {s:St} {a:Act} {w':World},Ext C C'->SimE C' s a w'->pO L fn m r s->LeavesInM (Fr none) 0 P fn a.tmps (fun e w'=>∃u,e=.returned u/\Below w.heap.size w w'/\DRep w' (m.ok X w w') r u) a.defers .returning w':=by
  rintro C' s a w' hE ⟨γ,hs⟩ ⟨l,Cd,d,Cd2,fl,h1,h2,h3,h4,h5,rfl⟩;obtain⟨vs',hvs,g2,g3⟩:=nY (P:=P) hL hs fn.results.toList l Cd h1 h2;have hX':∀b,C'.X b->b<C'.B:=by rw[hE.X,hE.B];exact hX
  have hBe:C'.B=w.heap.size:=hE.B;have hbel:Below w.heap.size w w':=by
   have:=hs.below;rw[hE.B,hE.w0]at this;exact this
  have hok:∀k,eF C' γ s w' fl k->m.ok X w w' k:=by
   intro k hk;have h6:¬X k:=by have:=hk.2.1;rw[hE.X]at this;exact this
   cases m with
   |shared=>exact⟨hk.1,h6⟩
   |fresh=>exact⟨by rw[<-hBe];exact hk.2.2.2 h5,hk.1⟩
  obtain⟨hnd,hdk⟩:=hE.dk ⟨List.nodup_nil,fun D0 hD=>by cases hD⟩;have hD:∀D0∈C'.dfs,C'.B<=D0/\w'.heap[D0]?=some (.deferred (some [])):=fun D0 hD=>by
   obtain⟨q1,q2⟩:=hdk D0 hD;have:=hs.kept _ _ q2;cases this with
   |d hd=>cases hd
   |dfd _ hd=>exact⟨q1,hd⟩
  have hrep:Rep (ai C' γ s w') (jE l) (if h:vs'.toArray.size=1 then vs'.toArray[0] else .tuple vs'.toArray):=by
   match l,vs',g2,g3 with
   |[],[],_,_=>exact .tup [] [] rfl fun i c v e=>by simp at e
   |[c],[v],_,g3=>exact g3 0 c v rfl rfl
   |c1::c2::l,v1::v2::vs,hlen,g3 =>
    rw[dif_neg aj];exact .tup _ _ hlen g3
  have hdr:=(iP hX' hs 5 _ _ _ _ _ h3 h4 hrep).weaken hok;rw[hs.defers];refine mF C'.dfs w' (fun w'' ht=>?_) C'.dfs w' hnd (fun D0 hDm=>⟨hDm,(hD D0 hDm).2,(hD D0 hDm).2⟩) ⟨O,O,O,O,fun b => .inl O⟩;have hkeep:∀b (o:Obj),w'.heap[b]?=some o->(∀ds,o ≠ .deferred ds)->w''.heap[b]?=some o:=fun b o ho hne=>by
   rcases ht.same b with q|⟨_,q⟩
   .rw[q];exact ho
   .rw[ho]at q;cases q;exact absurd O (hne _)
  have hcell:∀a u,w'.cell? a=some u->w''.cell? a=some u:=fun ad u hc=>by
   obtain⟨ob,q1,q2⟩:∃ob:Obj,w'.heap[ad.block]?=some ob/\∀ds,ob ≠ .deferred ds:=by
    simp only[World.cell?]at hc;cases hob:w'.heap[ad.block]? with
    |none=>rw[hob]at hc;simp at hc
    |some ob =>
     refine⟨ob,O,fun ds e=>?_⟩;subst e;rw[hob]at hc;simp at hc
   rw[World.cell?_of_block (w:=w') (a:=ad) ((hkeep ad.block ob q1 q2).trans q1.symm)];exact hc
  have hrun:(results fn a.tmps).run P w''=.ok (if h:vs'.toArray.size=1 then vs'.toArray[0] else .tuple vs'.toArray) w'':=by
   unfold results;rw[<-o0 (xs:=fn.results),o9];simp only[Sem.run_bind,Sem.run_map,Sem.run_pure];exact congrArg (fun q:Result (List Value)=>(q.andThen fun a w'=>Result.ok a.toArray w').andThen fun a w'=>Result.ok (if h:a.size=1 then a[0] else .tuple a) w') (hvs w'' hcell)
  refine⟨_,hrun,_,O,hbel.trans ⟨ht.os,ht.tape,ht.output,by rw[ht.size];exact aH,fun b hb=>?_⟩,hdr.mono (fun b hb=>?_) (fun b o v _ hc=>?_) (fun b es k _ hc=>hkeep b _ hc (fun ds e=>by cases e))⟩
  .rcases ht.same b with q|⟨q1,_⟩
   .exact q
   .have:=(hD b q1).1;rw[hBe]at this;omega
  .cases m with
   |shared=>exact⟨by rw[ht.size];exact hb.1,hb.2⟩
   |fresh=>exact⟨hb.1,by rw[ht.size];exact hb.2⟩
  .obtain⟨ob,q1,q2⟩:∃ob:Obj,w'.heap[b]?=some ob/\∀ds,ob ≠ .deferred ds:=by
    simp only[World.cell?]at hc;cases hob:w'.heap[b]? with
    |none=>rw[hob]at hc;simp at hc
    |some ob =>
     refine⟨ob,O,fun ds e=>?_⟩;subst e;rw[hob]at hc;simp at hc
   rw[World.cell?_of_block (w:=w') (a:=⟨b,o,none⟩) ((hkeep b ob q1 q2).trans q1.symm)];exact hc
 rintro e a w' ⟨C',s,hE,hs,hq⟩;cases e
 case normal=>exact fin hE hs hq
 case ret=>exact fin hE hs hq
 all_goals exact hq.elim
def InlPost (L:b9)(fn:Func)(K:St->PV->Prop):Exit->St->Prop
 |.normal,s | .ret,s=>∃l Cd,DX L s fn.results.toList=some (l,Cd)/\Cd/\K s (jE l)
 |_,_=>False
def bJ (s:St)(pargs:List PV):St:={ reg:=fun t=>pargs.getD t (.raw undef),own:=s.own }
theorem cB {o:Oper}{fop:Operand}{args:Array Operand}{tys:Array TypeId}{f:FuncId}{caps:List PV}{fn:Func}{body:Code}{K:St->Prop}(hL:iW P L)(ho:o.op=.call ⟨.value fop,args,tys⟩)(hclo:s.ev fop=.clo f caps)
  (hf : P.funcs[f]?=some fn) (hb : fn.body = some body) (hn : (fn.name == "runtime.NumGoroutine") = false) (hlen : Nat.ble (args.toList.map s.ev ++ caps).length fn.ntmps = true) (hc : jP fn.ntmps body = true)
  (h:PWP P L body (InlPost L fn (fun s' r=>K (({ reg:=s.reg,own:=s'.own }:St).put o.dst r))) (bJ s (args.toList.map s.ev++caps))):Sm P L s o K:=by
 intro C a w Q hG hs hN;obtain⟨γ,hs⟩:=hs;have hfv:=hs.ev fop;rw[hclo]at hfv;obtain⟨vs,hv,hcl,hcd⟩:=hfv.clo_inv;unfold Oper.wp;rw[ke (f:=f) ho hv ⟨fn,hf,hn,by simp[hb]⟩,Oper.upon_enter];let C':Ctx:=⟨C.B,C.X,C.w0,fn.ntmps,fun c v=>C.keep c v\/∃t,c=s.reg t/\v=a.tmps.getD t undef,[]⟩;have hG':Good P L C':=⟨hG.lay,hG.x,hG.mixed,hG.glob⟩;have hargs:∀(i:Nat) (c:PV) (v:Value),(args.toList.map s.ev++caps)[i]?=some c->(args.toList.map a.eval++vs)[i]?=some v->Rep (ai C γ s w) c v:=by
  intro i c v e1 e2;rw[gl]at e1 e2;simp only[aM]at e1 e2;split at e1
  .rename_i hlt;rw[if_pos hlt]at e2;rw[aV]at e1 e2;cases hx:args.toList[i]? with
   |none=>rw[hx]at e1;simp at e1
   |some x=>rw[hx]at e1 e2;simp at e1 e2;subst e1;subst e2;exact hs.ev x
  .rename_i hlt;rw[if_neg hlt]at e2;exact hcd _ c v e1 e2
 have hlv:(args.toList.map s.ev++caps).length=(args.toList.map a.eval++vs).length:=by simp[hcl]
 have hle:(args.toList.map a.eval++vs).length<=fn.ntmps:=by rw[<-hlv];simpa using hlen
 generalize args.toList.map s.ev++caps=pargs at h hargs hlv;generalize args.toList.map a.eval++vs=vargs at hargs hlv hle;have hsim:SimE C' (bJ s pargs) { tmps:=vargs.toArray++Array.replicate (fn.ntmps-vargs.toArray.size) undef,defers:=[] } w:=by
  refine⟨γ,O,by simp[C'];omega,fun t=>?_,hs.sites,hs.inj,hs.base,hs.below,hs.top,?_⟩
  .show Rep (ai C γ s w) (pargs.getD t (.raw undef)) _;rcases aT t vargs.length with hlt|hge
   .have hlt':t<pargs.length:=J;have e1:pargs.getD t (.raw undef)=pargs[t]:=by simp[hlt']
    have e2:(vargs.toArray++Array.replicate (fn.ntmps-vargs.toArray.size) undef).getD t undef=vargs[t]:=by
     rw[ip,qo (by simpa using hlt)];simp[hlt]
    rw[e1,e2];exact hargs t pargs[t] vargs[t] (aQ hlt') (aQ hlt)
   .have e1:pargs.getD t (.raw undef) = .raw undef:=by simp[dF (by omega:pargs.length<=t)]
    have e2:(vargs.toArray++Array.replicate (fn.ntmps-vargs.toArray.size) undef).getD t undef=undef:=by
     rw[ip,nN (by simpa using hge)];rcases aT (t-vargs.toArray.size) (fn.ntmps-vargs.toArray.size) with h1|h1
     .rw[mH,if_pos h1];rfl
     .rw[j0 (by simpa using h1)];rfl
    rw[e1,e2];exact .d (.raw _)
  .rintro c v (hk|⟨t,rfl,rfl⟩)
   .exact hs.kept c v hk
   .exact hs.regs t
 refine calls_of_wp hf hb (wp_mono (PWP.sound hG' body _ _ _ w hc (fun _ hq=>hq) hsim h) ?_)
 have fin:∀ {s':St} {a':Act} {w':World},SimE C' s' a' w'->(∃l Cd,DX L s' fn.results.toList=some (l,Cd)/\Cd/\K (({ reg:=s.reg,own:=s'.own }:St).put o.dst (jE l))) ->
   a'.defers=[]/\∃v,(results fn a'.tmps).run P w'=.ok v w'/\∃s'',SimE C s'' (a.put o.dst v) w'/\K s'':=by
  rintro s' a' w' ⟨γ',hs'⟩ ⟨l,Cd,h1,h2,h3⟩;obtain⟨vs,g1,g2,g3⟩:=wP (P:=P) hL hs' fn.results.toList l Cd h1 h2;refine⟨hs'.defers,?_⟩;have hrun:(results fn a'.tmps).run P w'=.ok (if h:vs.toArray.size=1 then vs.toArray[0] else .tuple vs.toArray) w':=by
   unfold results;rw[<-o0 (xs:=fn.results),o9];simp only[Sem.run_bind,Sem.run_map,Sem.run_pure];exact congrArg (fun q:Result (List Value)=>(q.andThen fun a w'=>Result.ok a.toArray w').andThen fun a w'=>Result.ok (if h:a.size=1 then a[0] else .tuple a) w') g1
  have hrep:Rep (ai C' γ' s' w') (jE l) (if h:vs.toArray.size=1 then vs.toArray[0] else .tuple vs.toArray):=by
   match l,vs,g2,g3 with
   |[],[],_,_=>exact .tup [] [] rfl fun i c v e=>by simp at e
   |[c],[v],_,g3=>exact g3 0 c v rfl rfl
   |c1::c2::l,v1::v2::vs,hlen,g3 =>
    rw[dif_neg aj];exact .tup _ _ hlen g3
  refine⟨_,hrun,_,⟨γ',?_⟩,h3⟩;have hback:Sim C γ' { reg:=s.reg,own:=s'.own } a w' :=
   ⟨hs.defers,hs.size,fun r=>hs'.kept _ _ (.inr ⟨r,O,O⟩),hs'.sites,hs'.inj,hs'.base,hs'.below,hs'.top,fun c v hk=>hs'.kept c v (.inl hk)⟩
  exact hback.put hN hrep
 rintro e a' w' ⟨s',hs',hq⟩;cases e
 case normal=>exact fin hs' hq
 case ret=>exact fin hs' hq
 all_goals exact hq.elim
end
end Go.Pv
namespace Go.Pv
open Go.RowKit
variable [Globs]
section
variable {P:Program}{L:b9}{Q:Exit->St->Prop}{K:St->Prop}{s:St}{ops:Array Oper}{rest:List Oper}{o:Oper}
theorem POp.mono' {K':St->Prop}(hk:∀s,K s->K' s)(h:POp P L s o K):POp P L s o K':=by
 rcases h with⟨pv,h1,h2⟩|⟨s',h1,h2⟩|h1
 .exact .inl ⟨pv,h1,hk _ h2⟩
 .exact .inr (.inl ⟨s',h1,hk _ h2⟩)
 .exact .inr (.inr (h1.mono hk))
theorem dT {x y:Code}(h:PWP P L x (XThen (fun s'=>PWP P L y Q s') Q) s):PWP P L (.seq x y) Q s:=h
theorem F7 (h:Q .normal s):PWP P L .skip Q s:=Gh.of h
theorem H6 (h:Q .ret s):PWP P L .ret Q s:=Gh.of h
theorem FZ {id:Nat}(h:Q (.exit id) s):PWP P L (.exit id) Q s:=Gh.of h
theorem bV {id:Nat}{l:List Oper}(h:POps P L l.toArray (Q .normal) l s):PWP P L (.region id l.toArray false) Q s:=Gh.of (.inl h)
theorem m_ {K:St->Prop}:∀(l1 l2:List Oper) (s:St),POps P L ops (fun s'=>PSem P L ops K l2 s') l1 s->PSem P L ops K (l1++l2) s
 |[],_,_,h=>h
 |_::l1,l2,_,h=>h.imp (fun x=>⟨x.1,.inl (x.2.mono' fun s' h'=>m_ l1 l2 s' h')⟩) (fun x=>⟨x.1,m_ l1 l2 _ x.2⟩)
theorem aD {id:Nat}{l:List Oper}(n:Nat)(h:POps P L l.toArray (fun s'=>PSem P L l.toArray (Q .normal) (l.drop n) s') (l.take n) s):PWP P L (.region id l.toArray false) Q s:=by
 have:=m_ (K:=Q .normal) (l.take n) (l.drop n) s h;rw[cD]at this;exact Gh.of (.inr (.inl this))
theorem nU {K:St->Prop}:∀(l1 l2:List Oper) (s:St),POps P L ops (fun s'=>PSemI P L ops K l2 s') l1 s->PSemI P L ops K (l1++l2) s
 |[],_,_,h=>h
 |_::l1,l2,_,h=>h.imp (fun x=>⟨x.1,.inl (x.2.mono' fun s' h'=>nU l1 l2 s' h')⟩) (fun x=>⟨x.1,nU l1 l2 _ x.2⟩)
theorem Bj {j e:Nat}{want:Bool}(hg:o.guard=some (j,want))(hd:(ops[j]?).bind (·.dst)=some e)(hr:s.reg e=.bool want)(h:Jt P L s o (PSemI P L ops K rest)):PSemI P L ops K (o::rest) s := .inl ⟨.yes hg hd hr,.inr (.inr h)⟩
theorem sn (h:POps P L ops K rest s):PSemI P L ops K rest s:=by
 have:=nU (P:=P) (L:=L) (ops:=ops) (K:=K) rest [] s h;rwa [cu]at this
theorem aU (hg:o.guard=none)(h:Sm P L s o (PSem P L ops K rest)):PSem P L ops K (o::rest) s := .inl ⟨.none hg,.inr h⟩
theorem aE (h:POps P L ops K rest s):PSem P L ops K rest s:=by
 have:=m_ (P:=P) (L:=L) (ops:=ops) (K:=K) rest [] s h;rwa [cu]at this
theorem PQuiet.mono {K K':St->Prop}(hk:∀s,K s->K' s):∀(l:List Oper) (s:St),PQuiet P L ops K l s->PQuiet P L ops K' l s
 |[],s,h=>hk s h
 |_::l,_,h=>h.imp (fun⟨x,pv,y,z⟩=>⟨x,pv,y,PQuiet.mono hk l _ z⟩) (fun x=>⟨x.1,PQuiet.mono hk l _ x.2⟩)
theorem PSem.semI:∀(l:List Oper) (s:St),PSem P L ops K l s->PSemI P L ops K l s
 |[],_,h=>h
 |_::l,_,h=>h.imp (fun x=>⟨x.1,x.2.imp (POp.mono' fun s' h'=>PSem.semI l s' h') (fun y => .inl fun C a w Q hG hs hN=>Oper.wp_mono (fun _ _ ⟨s',e1,e2⟩=>⟨s',e1,PSem.semI l s' e2⟩) (y C a w Q hG hs hN))⟩) (fun x=>⟨x.1,PSem.semI l _ x.2⟩)
theorem nb {id:Nat}{l:List Oper}(n:Nat)(ds:List Nat)(hok:nG l.toArray n ds=true)(h:PQuiet P L l.toArray (fun s'=>POps P L l.toArray (Q .normal) (l.drop n) s') (l.take n) s):PWP P L (.region id l.toArray true) Q s :=
 Gh.of (Or.inr (Or.inr ⟨n,ds,hok,PQuiet.mono (fun _ h=>PSem.semI _ _ (aE h)) _ _ h⟩))
theorem DE {id:Nat}{l:List Oper}(n:Nat)(ds:List Nat)(hok:nG l.toArray n ds=true)(h:PQuiet P L l.toArray (fun s'=>PSemI P L l.toArray (Q .normal) (l.drop n) s') (l.take n) s):PWP P L (.region id l.toArray true) Q s :=
 Gh.of (Or.inr (Or.inr ⟨n,ds,hok,h⟩))
theorem cd {id:Nat}{l:List Oper}(Z Y0:List Nat)(f:Nat)(ch:List Nat)(hok:gC l.toArray ch=true)(hlt:nM l.toArray ch f []=true)(h:P3 P L l.toArray (Hq Z Y0 f []) (ej ch) (Q .normal) 0 l s):PWP P L (.region id l.toArray true) Q s :=
 Gh.of (Or.inl (.inl ⟨Z,Y0,f,[],ch,hok,hlt,h⟩))
theorem kO {id:Nat}{l:List Oper}(Z Y0:List Nat)(f:Nat)(ch F:List Nat)(hok:gC l.toArray ch=true)(hlt:nM l.toArray ch f F=true)(h:P3 P L l.toArray (Hq Z Y0 f F) (ej ch) (Q .normal) 0 l s):PWP P L (.region id l.toArray true) Q s :=
 Gh.of (Or.inl (.inl ⟨Z,Y0,f,F,ch,hok,hlt,h⟩))
theorem qG {id:Nat}{ops:List Oper}(l:List (Nat × Nat))(hok:gC ops.toArray []=true)(hlc:xT ops.toArray l=true)(h:P5 P L ops.toArray (l.map (·.2)) (te l) (Q .normal) 0 ops s):PWP P L (.region id ops.toArray true) Q s :=
 Gh.of (Or.inl (.inr ⟨l,hok,hlc,h⟩))
theorem vR (ops:Array Oper)(ch:List Nat):nM ops ch 0 []=true:=by
 rw[nM,bx];intro i _;simp
theorem cY {id:Nat}{l:List Oper}(Z ch:List Nat)(hok:gC l.toArray ch=true)(h:P3 P L l.toArray (Hq Z [] 0 []) (ej ch) (Q .normal) 0 l s):PWP P L (.region id l.toArray true) Q s :=
 cd Z [] 0 ch hok (vR _ _) h
theorem F8 {id:Nat}{l:List Oper}(h:PTree P L l.toArray (Q .normal) l.length (Array.replicate l.length false) s):PWP P L (.region id l.toArray true) Q s :=
 Gh.of (Or.inr (Or.inl h))
theorem cO {c:Operand}{x y:Code}{b:Bool}(hc:s.ev c=.bool b)(h1:b=true->PWP P L x Q s)(h2:b=false->PWP P L y Q s):PWP P L (.cond c x y) Q s:=Gh.of ⟨b,hc,h1,h2⟩
theorem F9 {c:Operand}{x y:Code}(hc:s.ev c=.bool true)(h1:PWP P L x Q s):PWP P L (.cond c x y) Q s:=Gh.of ⟨true,hc,fun _=>h1,fun h=>by cases h⟩
theorem DF {c:Operand}{x y:Code}(hc:s.ev c=.bool false)(h1:PWP P L y Q s):PWP P L (.cond c x y) Q s:=Gh.of ⟨false,hc,(fun h=>by cases h),fun _=>h1⟩
theorem dK {next:St->Prop}(h:next s):XThen next Q .normal s:=h
theorem GJ {id:Nat}(h:Q .normal s):XBlock id Q (.exit id) s:=by show if id=id then _ else _;rw[if_pos O];exact h
theorem GI {id id':Nat}(hne:Nat.beq id' id=false)(h:Q (.exit id') s):XBlock id Q (.exit id') s:=by
 show if id'=id then _ else _
 rw[if_neg (fun e=>by subst e;simp at hne)];exact h
variable {d e j:Nat}{op:Op}{ty:TypeId}{pos:String}{af:Array Edge}{want:Bool}
theorem bg (h:K s):POps P L ops K [] s:=h
theorem aC (h:POp P L s ⟨some d,op,ty,pos,af,none⟩ (POps P L ops K rest)):POps P L ops K (⟨some d,op,ty,pos,af,none⟩::rest) s := .inl ⟨.none O,h⟩
theorem c9 (h:POp P L s ⟨none,op,ty,pos,af,none⟩ (POps P L ops K rest)):POps P L ops K (⟨none,op,ty,pos,af,none⟩::rest) s := .inl ⟨.none O,h⟩
theorem d_ (h:K s):PQuiet P L ops K [] s:=h
theorem m9 {pv:PV}{Cd:Prop}(hq:qv L s op=some (pv,Cd))(hc:Cd)(h:POps P L ops K rest (s.putR d pv)):POps P L ops K (⟨some d,op,ty,pos,af,none⟩::rest) s:=aC (.inl ⟨pv,.v hq hc,h⟩)
theorem I1 {pv:PV}{Cd:Prop}{g:Option (Nat × Bool)}(hq:qv L s op=some (pv,Cd))(hc:Cd)(h:K (s.putR d pv)):POp P L s ⟨some d,op,ty,pos,af,g⟩ K := .inl ⟨pv,.v hq hc,h⟩
theorem l5 {pv:PV}{g:Option (Nat × Bool)}(hq:QOp P L s ⟨some d,op,ty,pos,af,g⟩ pv)(h:K (s.putR d pv)):POp P L s ⟨some d,op,ty,pos,af,g⟩ K := .inl ⟨pv,hq,h⟩
section ops
variable {g:Option (Nat × Bool)}{T:TypeId}{x y:Operand}{r re:LRow}{E:TypeId}
theorem DG {ix:Operand}{rows:List (List PV)}{row:List PV}{k:IntKind}{n:Int}(hr:L T=some r)(hs:r.sh=.sl E)(hre:L E=some re)(hx:s.ev x=.sl rows)(hix:s.ev ix=.int k n)(h0:0<=n)(hrow:rows[n.toNat]?=some row)
  (hlen:row.length=re.size):QOp P L s ⟨some d,.indexAddr T x ix,ty,pos,af,g⟩ (.dref row 0) := .idx O hr hs hre (.inl hx) hix h0 hrow hlen
theorem j_ {ix:Operand}{rows:List (List PV)}{row:List PV}{k:IntKind}{n:Int}(hr:L T=some r)(hs:r.sh=.sl E)(hre:L E=some re)(hx:s.ev x=.fsl rows)(hix:s.ev ix=.int k n)(h0:0<=n)(hrow:rows[n.toNat]?=some row)
  (hlen:row.length=re.size):QOp P L s ⟨some d,.indexAddr T x ix,ty,pos,af,g⟩ (.dref row 0) := .idx O hr hs hre (.inr hx) hix h0 hrow hlen
theorem ka {α:Type}{enc:α->List PV}{l:List α}{a:α}{ix:Operand}{k:IntKind}{n:Int}(hr:L T=some r)(hs:r.sh=.sl E)(hre:L E=some re)(hx:s.ev x=.sl (l.map enc))(hix:s.ev ix=.int k n)(h0:0<=n)(hget:l[n.toNat]?=some a)
  (hlen:(enc a).length=re.size):QOp P L s ⟨some d,.indexAddr T x ix,ty,pos,af,g⟩ (.dref (enc a) 0):=DG hr hs hre hx hix h0 (by rw[aV,hget];rfl) hlen
theorem F_ {α:Type}{enc:α->List PV}{l:List α}{a:α}{ix:Operand}{k:IntKind}{n:Int}(hr:L T=some r)(hs:r.sh=.sl E)(hre:L E=some re)(hx:s.ev x=.fsl (l.map enc))(hix:s.ev ix=.int k n)(h0:0<=n)(hget:l[n.toNat]?=some a)
  (hlen:(enc a).length=re.size):QOp P L s ⟨some d,.indexAddr T x ix,ty,pos,af,g⟩ (.dref (enc a) 0):=j_ hr hs hre hx hix h0 (by rw[aV,hget];rfl) hlen
theorem co {ix:Operand}{k:IntKind}{n:Int}{st gn i m:Nat}{c:Cont}(hr:L T=some r)(hs:r.sh=.sl E)(hre:L E=some re)(hx:s.ev x=.als st gn i m)(hown:s.own st=(gn,some c))(hsz:c.sz=re.size)(hix:s.ev ix=.int k n)(h0:0<=n)(hlt:n<m) :
  QOp P L s ⟨some d,.indexAddr T x ix,ty,pos,af,g⟩ (.ptr st gn (i+n.toNat) 0) := .idxA O hr hs hre hx hown hsz hix h0 hlt
theorem I4 {lo hi:Option Operand}{st gn i m:Nat}{c:Cont}(l h:Nat)(hr:L T=some r)(hs:r.sh=.sl E)(hre:L E=some re)(hx:s.ev x=.als st gn i m)(hown:s.own st=(gn,some c))(hsz:c.sz=re.size)(hlo:Ck s lo 0 l)(hhi:Ck s hi m h)(hlt:l<h)(hle:h<=m) :
  QOp P L s ⟨some d,.slice T x lo hi none,ty,pos,af,g⟩ (.als st gn (i+l) (h-l)) := .slA O hr hs hre hx hown hsz hlo hhi hlt hle
theorem I5 {lo hi:Option Operand}{α:Type}{e:α->List PV}{q:List α}(l h:Nat)(hr:L T=some r)(hs:r.sh=.sl E)(hre:L E=some re)(hx:s.ev x=.fsl (q.map e))(hlo:Ck s lo 0 l)(hhi:Ck s hi q.length h)(hlh:l<=h)(hle:h<=q.length)(hlen:∀a,(e a).length=re.size) :
  QOp P L s ⟨some d,.slice T x lo hi none,ty,pos,af,g⟩ (.fsl (((q.take h).drop l).map e)):=by
 have:=QOp.slg (P:=P) (L:=L) (s:=s) (o:=⟨some d,.slice T x lo hi none,ty,pos,af,g⟩) true O hr hs hre hx hlo (by rw[aM];exact hhi) hlh (by rw[aM];exact hle) (fun row hrow=>by obtain⟨a,_,rfl⟩:=bF.1 hrow;exact hlen a);rw[cond_true,<-jc,<-List.map_drop]at this;exact this
theorem c_ {st gn i jj:Nat}{c:Cont}{row:List PV}{pv:PV}(hr:L T=some r)(hx:s.ev x=.ptr st gn i jj)(hown:s.own st=(gn,some c))(hrow:c.rows[i]?=some row)(hp:part r row jj=some pv) :
  QOp P L s ⟨some d,.load T x,ty,pos,af,g⟩ pv := .ldp O hr hx hown hrow hp
theorem eL {fop:Operand}{args:Array Operand}{tys:Array TypeId}{f:FuncId}{caps pargs:List PV}{Cd:Prop}{b:Fl}{rr:PV}(hf:s.ev fop=.clo f caps)(hret:Ret P .shared f pargs rr)(hres:fK (fJ s 4) (args.toList.map s.ev++caps)=some (pargs,Cd,b))(hc:Cd)(hb:b.cl=true) :
  QOp P L s ⟨some d,.call ⟨.value fop,args,tys⟩,ty,pos,af,g⟩ rr := .call O hf hres hc hb hret
theorem zP {fop:Operand}{args:Array Operand}{tys:Array TypeId}{f:FuncId}{caps pargs:List PV}{Cd:Prop}{b:Fl}{rr rf:PV}(hf:s.ev fop=.clo f caps)(hret:Ret P .fresh f pargs rr)(hres:fK (fJ s 4) (args.toList.map s.ev++caps)=some (pargs,Cd,b))(hc:Cd)(hrf:rr.frs.fz=some rf) :
  QOp P L s ⟨some d,.call ⟨.value fop,args,tys⟩,ty,pos,af,g⟩ rf:=by
 rw[PV.fz_eq]at hrf;have:=QOp.callF (P:=P) (L:=L) (o:=⟨some d,.call ⟨.value fop,args,tys⟩,ty,pos,af,g⟩) O hf hres hc hret;rwa [bk hrf]at this
theorem pA {fop:Operand}{args:Array Operand}{tys:Array TypeId}{f:FuncId}{caps pargs:List PV}{Cd:Prop}{b:Fl}{rr rf:PV}(hf:s.ev fop=.clo f caps)(hret:Ret P .shared f pargs rr)(hres:fK (fJ s 4) (args.toList.map s.ev++caps)=some (pargs,Cd,b))(hc:Cd)(hfl:rr.flat=true)(hrf:rr.frs.fz=some rf) :
  QOp P L s ⟨some d,.call ⟨.value fop,args,tys⟩,ty,pos,af,g⟩ rf:=zP hf (hret.fresh_of_flat hfl) hres hc hrf
theorem I0 {v:PV}{gn:Nat}{oc:Option Cont}{Pr:Prop}(hx:(s.ev x).fz=some v)(hown:s.own d=(gn,oc))(h1:dR s v.cells=some Pr)(h2:Pr)(h0:Nat.blt 0 v.cells.length=true)
  (h:K ((s.setOwn d (gn+1) (some ⟨T,v.cells.length,[v.cells],2⟩)).putR d (.ptr d (gn+1) 0 0))):POp P L s ⟨some d,.box T x,ty,pos,af,g⟩ K:=by
 rw[PV.fz_eq]at hx;have hx':=bk hx;refine .inr (.inl ⟨_,.box O O (by rw[hx'];exact h1) h2 (by rw[hx'];simpa using h0),?_⟩);rw[hx',St.fin,hown];exact h
theorem FJ {z:List PV}{gn:Nat}{oc:Option Cont}(hr:L T=some r)(hz:r.zero=some z)(hown:s.own d=(gn,oc))(h0:Nat.blt 0 z.length=true)
  (h:K ((s.setOwn d (gn+1) (some ⟨T,z.length,[z],2⟩)).putR d (.ptr d (gn+1) 0 0))):POp P L s ⟨some d,.alloc T,ty,pos,af,g⟩ K:=by
 refine .inr (.inl ⟨_,.alloc O O hr hz (by simpa using h0),?_⟩);rw[St.fin,hown];exact h
theorem Dq {v:PV}{k gn jj:Nat}{tc:TypeId}{sz:Nat}{row new:List PV}{Pr:Prop}(hr:L T=some r)(hx:s.ev x=.ptr k gn 0 jj)(hown:s.own k=(gn,some ⟨tc,sz,[row],2⟩))(hv:(s.ev y).fz=some v)(h1:dR s v.cells=some Pr)(h2:Pr)
  (hsz:v.cells.length=r.size) (hle:Nat.ble (jj+r.size) row.length=true) (hnew:ma row jj v.cells=new) (h:K (s.setOwn k gn (some ⟨tc,sz,[new],2⟩))):POp P L s ⟨none,.store T x y,ty,pos,af,g⟩ K:=by
 rw[PV.fz_eq]at hv;have hv':=bk hv;refine .inr (.inl ⟨_,.store 2 O O hr hx hown (by rfl) (by rw[hv'];exact h1) h2 (by rw[hv'];exact hsz) (by simpa using hle) (aH) (by rw[bx];intro c _;cases c<;>rfl),?_⟩);have hm:∀l:List PV,l.map (gv 2)=l:=by intro l;induction l with|nil=>rfl|cons c l ih=>rw[db,ih];cases c<;>rfl
 rw[hv',hm];have:([row]:List (List PV)).set 0 (ma row jj v.cells)=[new]:=by rw[hnew];rfl
 rw[this];exact h
theorem bW {v:PV}{k gn i jj kd kd':Nat}{tc:TypeId}{sz:Nat}{rows:List (List PV)}{row:List PV}{Pr:Prop}(hr:L T=some r)(hx:s.ev x=.ptr k gn i jj)(hown:s.own k=(gn,some ⟨tc,sz,rows,kd⟩))(hrow:rows[i]?=some row)(hv:(s.ev y).fz=some v)(h1:dR s v.cells=some Pr)(h2:Pr)
  (hsz:v.cells.length=r.size) (hle:Nat.ble (jj+r.size) row.length=true) (hk:Nat.ble kd kd'=true) (hkd:v.cells.all (oS kd')=true) (h:K (s.setOwn k gn (some ⟨tc,sz,rows.set i (ma row jj (v.cells.map (gv kd'))),kd'⟩))):POp P L s ⟨none,.store T x y,ty,pos,af,g⟩ K:=by
 rw[PV.fz_eq]at hv;have hv':=bk hv;refine .inr (.inl ⟨_,.store kd' O O hr hx hown hrow (by rw[hv'];exact h1) h2 (by rw[hv'];exact hsz) (by simpa using hle) (by simpa using hk) (by rw[hv'];exact hkd),?_⟩);rw[hv'];exact h
theorem cQ {k gn m k1 k2:Nat}{tc:TypeId}{sz:Nat}{rows1 rows2:List (List PV)}{Cd2:Prop}(kd:Nat)(hr:L T=some r)(hs:r.sh=.sl E)(hre:L E=some re)(hz:re.zero.isSome=true)(hsz:Nat.blt 0 re.size=true)(hx:s.ev x=.als k gn 0 m)(hown:s.own k=(gn,some ⟨tc,sz,rows1,k1⟩))
  (hcs:sz=re.size) (hct:tc=E) (hq:lx s (s.ev y)=some (rows2,k2,Cd2)) (hm:m=rows1.length) (hc2:Cd2) (hlen:∀row∈rows2,row.length=re.size) (hk1:Nat.ble k1 kd=true) (hk2:Nat.ble k2 kd=true) (hb:(rows1.length+rows2.length)*re.bytes<=140737488355328) (h63:rows1.length+rows2.length<=9223372036854775807)
  (h:K ((s.setOwn k (gn+1) (some ⟨E,re.size,rows1++rows2,kd⟩)).putR d (.als k (gn+1) 0 (rows1++rows2).length))) :
  POp P L s ⟨some d,.call ⟨.builtin .append,#[x,y],#[T,T]⟩,ty,pos,af,g⟩ K:=by
 refine .inr (.inl ⟨_,.app kd O O hr hs hre hz (by simpa using hsz) hx hown hm hcs hct hq hc2 hlen (by simpa using hk1) (by simpa using hk2) hb h63,?_⟩);rw[St.fin,hown];exact h
theorem jy {l c:Operand}{kl kc:IntKind}{n:Int}{z:List PV}{gn:Nat}{oc:Option Cont}(hr:L T=some r)(hs:r.sh=.sl E)(hre:L E=some re)(hz:re.zero=some z)(hsz:Nat.blt 0 re.size=true)(hl:s.ev l=.int kl n)(hc:s.ev c=.int kc n)(hown:s.own d=(gn,oc))
  (h0:0<=n) (hb:(re.bytes:Int)*n<=140737488355328) (h63:n<=9223372036854775807) (h:K ((s.setOwn d (gn+1) (some ⟨E,re.size,List.replicate n.toNat z,0⟩)).putR d (.als d (gn+1) 0 (List.replicate n.toNat z).length))) :
  POp P L s ⟨some d,.makeSlice T l c,ty,pos,af,g⟩ K:=by
 refine .inr (.inl ⟨_,.make O O hr hs hre hz (by simpa using hsz) hl hc h0 (mS _) hb h63,?_⟩);rw[St.fin,hown];exact h
theorem FM {l c:Operand}{kl kc:IntKind}{n m:Int}{z:List PV}{gn:Nat}{oc:Option Cont}(hr:L T=some r)(hs:r.sh=.sl E)(hre:L E=some re)(hz:re.zero=some z)(hsz:Nat.blt 0 re.size=true)(hl:s.ev l=.int kl n)(hc:s.ev c=.int kc m)(hown:s.own d=(gn,oc))
  (h0:0<=n) (hnm:n<=m) (hb:(re.bytes:Int)*m<=140737488355328) (h63:m<=9223372036854775807) (h:K ((s.setOwn d (gn+1) (some ⟨E,re.size,List.replicate n.toNat z,0⟩)).putR d (.als d (gn+1) 0 (List.replicate n.toNat z).length))) :
  POp P L s ⟨some d,.makeSlice T l c,ty,pos,af,g⟩ K:=by
 refine .inr (.inl ⟨_,.make O O hr hs hre hz (by simpa using hsz) hl hc h0 hnm hb h63,?_⟩);rw[St.fin,hown];exact h
theorem FK {fop:Operand}{args:Array Operand}{tys:Array TypeId}{f:FuncId}{caps pargs:List PV}{Cd:Prop}{b:Fl}{sz gn:Nat}{oc:Option Cont}{rows:List (List PV)}
  (hf:s.ev fop=.clo f caps) (hret:RetO P f pargs T sz rows) (hres:fK (fJ s 4) (args.toList.map s.ev++caps)=some (pargs,Cd,b)) (hc:Cd) (hown:s.own d=(gn,oc))
  (h:K ((s.setOwn d (gn+1) (some ⟨T,sz,rows,0⟩)).putR d (.als d (gn+1) 0 rows.length))):POp P L s ⟨some d,.call ⟨.value fop,args,tys⟩,ty,pos,af,g⟩ K:=by
 refine .inr (.inl ⟨_,.callO O O hf hret hres hc,?_⟩);rw[St.fin,hown];exact h
def ju (s:St)(kd:Nat):List (Nat × Operand)->Option (List (List PV))
 |[]=>some []
 |p::ps=>match (s.ev p.2).fz with
  |some v=>(match ju s kd ps with|some rs=>some (v.cells.map (gv kd)::rs)|none=>none)
  |none=>none
theorem jv (kd:Nat):∀(ps:List (Nat × Operand)) (rows:List (List PV)),ju s kd ps=some rows->rows=ps.map fun p=>(s.ev p.2).cells.map (gv kd)
 |[],rows,h=>by simp[ju]at h;exact h
 |p::ps,rows,h=>by
  simp only[ju,PV.fz_eq]at h;split at h
  .rename_i rs hrs;have:=jv kd ps rs hrs;have h':=bk h;rw[<-h',this];rfl
  .cases h
def Bc:Nat->Nat->List Nat
 |_,0=>[]
 |k,n+1=>k::Bc (k+1) n
theorem jx:∀(n k:Nat),Bc k n=(List.range n).map (k+·)
 |0,k=>rfl
 |n+1,k=>by
  rw[Bc,jx n (k+1),tm];simp only[db,jg,fB];congr 1;apply cE;intro i _;simp;omega
theorem b8 {n gn:Nat}{ps:List (Nat × Operand)}{oc:Option Cont}{rows:List (List PV)}{Pr:Prop}(kd:Nat)(hr:L T=some r)(hs:r.sh=.sl E)(hre:L E=some re)(hz:re.zero.isSome=true)(hsz:Nat.blt 0 re.size=true)(hown:s.own d=(gn,oc))(hrows:ju s kd ps=some rows)
  (hn:ps.map (·.1)=Bc 0 n) (hN:Nat.ble (n*re.size) 16777216=true) (hcells:ps.all (fun p=>Nat.beq (s.ev p.2).cells.length re.size)=true) (h1:dR s (ps.flatMap fun p=>(s.ev p.2).cells)=some Pr) (h2:Pr) (hkd:(ps.flatMap fun p=>(s.ev p.2).cells).all (oS kd)=true)
  (h:K ((s.setOwn d (gn+1) (some ⟨E,re.size,rows,kd⟩)).putR d (.als d (gn+1) 0 rows.length))):POp P L s ⟨some d,.buildSlice T n ps.toArray,ty,pos,af,g⟩ K:=by
 refine .inr (.inl ⟨_,.slit kd O O hr hs hre hz (by simpa using hsz) (by rw[jx]at hn;simpa using hn) (by simpa using hN) (fun p hp=>?_) h1 h2 hkd,?_⟩)
 .have:=bx.1 hcells p hp;simpa using this
 .rw[St.fin,hown];rw[jv kd ps rows hrows]at h;exact h
theorem FN {gn:Nat}{oc:Option Cont}(hown:s.own d=(gn,oc))(h:K ((s.setOwn d (gn+1) (some ⟨T,0,[],0⟩)).putR d (.mp d (gn+1)))):POp P L s ⟨some d,.makeMap T none,ty,pos,af,g⟩ K:=by
 refine .inr (.inl ⟨_,.makeMap O O,?_⟩);rw[St.fin,hown];exact h
theorem ue {V:TypeId}{x y v:Operand}{k gn kd:Nat}{rows:List (List PV)}{T':TypeId}{key pv:PV}(kd':Nat)(hr:L T=some r)(hs:r.sh=.map E V)(hre:L E=some re)(hx:s.ev x=.mp k gn)(hown:s.own k=(gn,some ⟨T',0,rows,kd⟩))(hk1:Nat.ble kd kd'=true)(hk3:Nat.blt kd' 3=true)
  (hy:(s.ev y).fz=some key) (hky:re.sh.key key=true) (hkeys:jX re.sh rows=true) (hv:(s.ev v).fz=some pv) (hkd:oS kd' pv=true) (h:K (s.setOwn k gn (some ⟨T',0,oI key (gv kd' pv) rows,kd'⟩))):POp P L s ⟨none,.mapUpdate T x y v,ty,pos,af,g⟩ K:=by
 rw[PV.fz_eq]at hy hv;have hy:=bk hy;have hv:=bk hv;exact .inr (.inl ⟨_,.mapSet kd' O O hr hs hre hx hown (by simpa using hk1) (by simpa using hk3) (by rw[hy];exact hky) hkeys (by rw[hv];exact hkd),by rw[hy,hv];exact h⟩)
theorem H7 {V:TypeId}{rv:LRow}{k gn kd:Nat}{rows:List (List PV)}{T':TypeId}{key z:PV}(hr:L T=some r)(hs:r.sh=.map E V)(hre:L E=some re)(hrv:L V=some rv)(hz:rv.zero=some [z])(hz1:ET P V=true)(hx:s.ev x=.mp k gn)(hown:s.own k=(gn,some ⟨T',0,rows,kd⟩))(hkd:Nat.blt kd 3=true)
  (hy:(s.ev y).fz=some key) (hky:re.sh.key key=true) (hkeys:jX re.sh rows=true):QOp P L s ⟨some d,.lookup T x y false,ty,pos,af,g⟩ (gT z key rows):=by
 rw[PV.fz_eq]at hy;have hy:=bk hy;have:=QOp.look (P:=P) (L:=L) (s:=s) (o:=⟨some d,.lookup T x y false,ty,pos,af,g⟩) O hr hs hre hrv hz hz1 hx hown (by simpa using hkd) (by rw[hy];exact hky) hkeys;rw[hy]at this;exact this
theorem DH {V:TypeId}{k gn kd:Nat}{rows:List (List PV)}{T':TypeId}{zs:List PV}{key:PV}(kk:Option (List Sh))(hz:GO P V zs=true)(hr:L T=some r)(hs:r.sh=.map E V)(hre:L E=some re)(hg:y5 P E kk=true)(hx:s.ev x=.mp k gn)(hown:s.own k=(gn,some ⟨T',0,rows,kd⟩))(hkd:Nat.blt kd 3=true)
  (hy:(s.ev y).fz=some key) (hky:mE re.sh kk key=true) (hkeys:jY re.sh kk rows=true):QOp P L s ⟨some d,.lookup T x y false,ty,pos,af,g⟩ (gT (.agg zs) key rows):=by
 rw[PV.fz_eq]at hy;have hy:=bk hy;have:=QOp.lookG (P:=P) (L:=L) (s:=s) (o:=⟨some d,.lookup T x y false,ty,pos,af,g⟩) O hr hs hre (fun _=>Jh hz) (.inr ⟨k,gn,_,hx,hown,(by simpa using hkd),O⟩) hg (by rw[hy];exact hky) hkeys;rw[hy]at this;exact this
theorem I3 {src:TypeId}{rs:LRow}{l:List UInt8}(hrs:L src=some rs)(hr:L T=some r)(hs:r.sh=.sl E)(hre:L E=some re)(hsh:re.sh=.int .u8)(hx:s.ev x=.str l):QOp P L s ⟨some d,.convert src T x,ty,pos,af,g⟩ (.fsl (l.map fun c=>[.int .u8 c.toNat])) :=
 .s2b O hrs hr hs hre hsh hx
end ops
theorem POp.mono {K':St->Prop}(hk:∀s,K s->K' s)(h:POp P L s o K):POp P L s o K':=by
 rcases h with⟨pv,h1,h2⟩|⟨s',h1,h2⟩|h1
 .exact .inl ⟨pv,h1,hk _ h2⟩
 .exact .inr (.inl ⟨s',h1,hk _ h2⟩)
 .exact .inr (.inr (h1.mono hk))
theorem POps.mono {K':St->Prop}(hk:∀s,K s->K' s):∀(l:List Oper) (s:St),POps P L ops K l s->POps P L ops K' l s
 |[],s,h=>hk s h
 |_::l,_,h=>h.imp (fun x=>⟨x.1,x.2.mono (fun s' h'=>POps.mono hk l s' h')⟩) (fun x=>⟨x.1,POps.mono hk l _ x.2⟩)
theorem PSem.mono {K':St->Prop}(hk:∀s,K s->K' s):∀(l:List Oper) (s:St),PSem P L ops K l s->PSem P L ops K' l s
 |[],s,h=>hk s h
 |_::l,_,h=>h.imp (fun x=>⟨x.1,x.2.imp (POp.mono' fun s' h'=>PSem.mono hk l s' h') (fun y C a w Q hG hs hN=>Oper.wp_mono (fun _ _ ⟨s',e1,e2⟩=>⟨s',e1,PSem.mono hk l s' e2⟩) (y C a w Q hG hs hN))⟩) (fun x=>⟨x.1,PSem.mono hk l _ x.2⟩)
theorem PSemI.mono {K':St->Prop}(hk:∀s,K s->K' s):∀(l:List Oper) (s:St),PSemI P L ops K l s->PSemI P L ops K' l s
 |[],s,h=>hk s h
 |_::l,_,h=>h.imp (fun x=>⟨x.1,x.2.imp (POp.mono' fun s' h'=>PSemI.mono hk l s' h') (Or.imp (fun y C a w Q hG hs hN=>Oper.wp_mono (fun _ _ ⟨s',e1,e2⟩=>⟨s',e1,PSemI.mono hk l s' e2⟩) (y C a w Q hG hs hN))
   (fun y ro n C a w Q hG hs hN hL=>Oper.wpIn_mono (fun _ _ ⟨s',e1,e2⟩=>⟨s',e1,PSemI.mono hk l s' e2⟩) (y ro n C a w Q hG hs hN hL)))⟩) (fun x=>⟨x.1,PSemI.mono hk l _ x.2⟩)
theorem P3.mono {K':St->Prop}(hk:∀s,K s->K' s){Z:Nat->List Nat}{cls:Nat->Bool}:∀(l:List Oper) (i:Nat) (s:St),P3 P L ops Z cls K i l s->P3 P L ops Z cls K' i l s
 |[],_,s,h=>hk s h
 |_::l,i,_,⟨s',h1,h2⟩=>⟨s',h1,P3.mono hk l (i+1) s' h2⟩
theorem P5.mono {K':St->Prop}(hk:∀s,K s->K' s){Z:List Nat}{lc:Nat->Option Nat}:∀(l:List Oper) (i:Nat) (s:St),P5 P L ops Z lc K i l s->P5 P L ops Z lc K' i l s
 |[],_,s,h=>hk s h
 |_::l,i,_,⟨s',h1,h2⟩=>⟨s',h1,P5.mono hk l (i+1) s' h2⟩
theorem PTree.mono {K':St->Prop}(hk:∀s,K s->K' s):∀(f:Nat) (listed:Array Bool) (s:St),PTree P L ops K f listed s->PTree P L ops K' f listed s
 |0,_,s,h=>⟨h.1,hk s h.2⟩
 |f+1,_,_,h=>⟨fun e=>hk _ (h.1 e),fun i hi=>let ⟨o,ho,hs⟩:=h.2 i hi;⟨o,ho,PSem.mono (PTree.mono hk f _) _ _ hs⟩⟩
theorem Gh.mono {K K':St->Prop}(hk:∀s,K s->K' s){s:St}(h:Gh K s):Gh K' s:=let ⟨s1,h1,h2⟩:=h;⟨s1,h1,hk s1 h2⟩
theorem PWP.mono {c:Code}:∀ {Q Q':Exit->St->Prop},(∀e s,Q e s->Q' e s)->∀s,PWP P L c Q s->PWP P L c Q' s:=by
 induction c with
 |skip=>intro Q Q' hq s h;exact Gh.mono (hq _) h
 |region id ops d =>
  intro Q Q' hq s h;refine Gh.mono (fun s h=>?_) h;cases d with
  |true =>
   rcases h with(⟨Z,Y0,f,F,ch,h1,h3,h2⟩|⟨l,h1,h3,h2⟩)|h2|⟨n,ds,h1,h2⟩
   .exact Or.inl (.inl ⟨Z,Y0,f,F,ch,h1,h3,P3.mono (hq _) _ _ _ h2⟩)
   .exact Or.inl (.inr ⟨l,h1,h3,P5.mono (hq _) _ _ _ h2⟩)
   .exact Or.inr (Or.inl (PTree.mono (hq _) _ _ _ h2))
   .exact Or.inr (Or.inr ⟨n,ds,h1,PQuiet.mono (fun s' h'=>PSemI.mono (hq _) _ s' h') _ _ h2⟩)
  |false=>exact h.imp (POps.mono (hq _) _ s) (Or.imp (PSem.mono (hq _) _ s) (PSemI.mono (hq _) _ s))
 |seq x y ihx ihy =>
  intro Q Q' hq s h;refine ihx ?_ s h;intro e s' he;cases e
  case normal=>exact ihy hq s' he
  all_goals exact hq _ _ he
 |cond c x y ihx ihy =>
  intro Q Q' hq s h;refine Gh.mono (fun s h=>?_) h;obtain⟨b,h1,h2,h3⟩:=h;exact⟨b,h1,fun hb=>ihx hq s (h2 hb),fun hb=>ihy hq s (h3 hb)⟩
 |block id c ih =>
  intro Q Q' hq s h;refine ih ?_ s h;intro e s' he;cases e
  case exit id' =>
   show if id'=id then _ else _
   have he':if id'=id then Q .normal s' else Q (.exit id') s':=he
   split
   .rename_i hid;rw[if_pos hid]at he';exact hq _ _ he'
   .rename_i hid;rw[if_neg hid]at he';exact hq _ _ he'
  all_goals exact hq _ _ he
 |loop c ih =>
  intro Q Q' hq s h;refine Gh.mono (fun s h=>?_) h;obtain⟨I,μ,h0,hr⟩:=h;refine⟨I,μ,h0,fun s1 hs1=>ih ?_ s1 (hr s1 hs1)⟩;intro e s' he;cases e
  case normal=>exact he
  all_goals exact hq _ _ he
 |exit id=>intro Q Q' hq s h;exact Gh.mono (hq _) h
 |ret=>intro Q Q' hq s h;exact Gh.mono (hq _) h
 |label l=>intro Q Q' hq s h;exact Gh.mono (hq _) h
 |goto l=>intro Q Q' hq s h;exact h.elim
 |rangeFunc=>intro Q Q' hq s h;exact Gh.mono (fun s h n C a w hG hs hc hQ=>wpIn_mono (h n C a w hG hs hc fun s hs=>hQ s (hq _ s hs)) fun e a w ⟨C',s',hE,h',hq'⟩=>⟨C',s',hE,h',hq _ _ hq'⟩) h
 |scope=>intro Q Q' hq s h;exact h.elim
 |refuse=>intro Q Q' hq s h;exact h.elim
def St.over (s:St)(l:List (Nat × PV))(m:List (Nat × Nat × Cont)):St :=
 ⟨l.foldr (fun p f r=>bif Nat.beq r p.1 then p.2 else f r) s.reg,m.foldr (fun p f r=>bif Nat.beq r p.1 then(p.2.1,some p.2.2) else f r) s.own⟩
def St.fits (s:St)(l:List (Nat × PV))(m:List (Nat × Nat × Cont)):Prop:=(∀p∈l,s.reg p.1=p.2)/\∀p∈m,s.own p.1=(p.2.1,some p.2.2)
def FitO (s:St):List (Nat × Nat × Cont)->Prop
 |[]=>True
 |(k,g,c)::m=>s.own k=(g,some c)/\FitO s m
def Fit (s:St)(l:List (Nat × PV))(m:List (Nat × Nat × Cont)):Prop :=
 match l with
 |[]=>FitO s m
 |(r,v)::l=>s.reg r=v/\Fit s l m
theorem wv (s:St):∀l:List (Nat × PV),(∀p∈l,s.reg p.1=p.2)->l.foldr (fun p f r=>bif Nat.beq r p.1 then p.2 else f r) s.reg=s.reg
 |[],_=>rfl
 |(r,v)::l,h=>by
  rw[List.foldr_cons,wv s l (fun p hp=>h p (by simp[hp]))];funext t;by_cases ht:t=r
  .subst ht;simp;exact(h (t,v) aj).symm
  .simp[bR ht]
theorem wu (s:St):∀m:List (Nat × Nat × Cont),(∀p∈m,s.own p.1=(p.2.1,some p.2.2))->m.foldr (fun p f r=>bif Nat.beq r p.1 then(p.2.1,some p.2.2) else f r) s.own=s.own
 |[],_=>rfl
 |(k,g,c)::m,h=>by
  rw[List.foldr_cons,wu s m (fun p hp=>h p (by simp[hp]))];funext t;by_cases ht:t=k
  .subst ht;simp;exact(h (t,g,c) aj).symm
  .simp[bR ht]
theorem FitO.fits {s:St}:∀ {m:List (Nat × Nat × Cont)},FitO s m->∀p∈m,s.own p.1=(p.2.1,some p.2.2)
 |[],_=>by simp
 |(k,g,c)::m,h=>fun p hp=>by
  have h':s.own k=(g,some c)/\FitO s m:=h;rcases cw.1 hp with rfl|hp
  .exact h'.1
  .exact FitO.fits h'.2 p hp
theorem Fit.fits {s:St}:∀ {l:List (Nat × PV)} {m:List (Nat × Nat × Cont)},Fit s l m->s.fits l m
 |[],m,h=>⟨aj,FitO.fits h⟩
 |(r,v)::l,m,h=>by
  have h':s.reg r=v/\Fit s l m:=h;have:=Fit.fits h'.2;refine⟨fun p hp=>?_,this.2⟩;rcases cw.1 hp with rfl|hp
  .exact h'.1
  .exact this.1 p hp
theorem Fit.over {s:St}{l:List (Nat × PV)}{m:List (Nat × Nat × Cont)}(h:Fit s l m):s.over l m=s:=by
 have:=h.fits;exact St.ext' (wv s l this.1) (wu s m this.2)
theorem ao {ι:Type}(I:ι->Prop)(regs:ι->List (Nat × PV))(owns:ι->List (Nat × Nat × Cont))(μ:ι->Nat){c:Code}(i0:ι)(h0:I i0)(hs:Fit s (regs i0) (owns i0))
  (round:∀(i:ι) (s:St),I i->PWP P L c (XThen (fun s'=>∃j,I j/\μ j<μ i/\Fit s' (regs j) (owns j)) Q) (s.over (regs i) (owns i))):PWP P L (.loop c) Q s:=by
 let J0:St->Nat->Prop:=fun s n=>∃i,I i/\Fit s (regs i) (owns i)/\μ i=n;have least:∀s,(∃n,J0 s n)->∃n,J0 s n/\∀m,J0 s m->n<=m:=by
  intro s ⟨n,hn⟩
  induction n using Nat.strongRecOn with
  |_ n ih =>
   by_cases hx:∃m,m<n/\J0 s m
   .obtain⟨m,hm,hj⟩:=hx;exact ih m hm hj
   .exact⟨n,hn,fun m hm=>by
     rcases aT m n with h|h
     .exact absurd ⟨m,h,hm⟩ hx
     .exact h⟩
 have hμ:∃f:St->Nat,∀s,(∃n,J0 s n)->J0 s (f s)/\∀m,J0 s m->f s<=m :=
  ⟨fun s=>Classical.epsilon fun n=>J0 s n/\∀m,J0 s m->n<=m,fun s hx=>tn (least s hx)⟩
 obtain⟨f,hf⟩:=hμ;refine Gh.of ⟨fun s=>∃i,I i/\Fit s (regs i) (owns i),f,⟨i0,h0,hs⟩,?_⟩;rintro s1 ⟨i1,hi1,hfit1⟩;obtain⟨⟨i,hi,hfit,hm⟩,_⟩:=hf s1 ⟨_,i1,hi1,hfit1,O⟩;have:=round i s1 hi;rw[hfit.over]at this;refine PWP.mono ?_ _ this;intro e s' hq;cases e
 case normal =>
  obtain⟨j,hj,hlt,hfj⟩:=hq;refine⟨⟨j,hj,hfj⟩,?_⟩;have:=(hf s' ⟨_,j,hj,hfj,O⟩).2 _ ⟨j,hj,hfj,O⟩;omega
 all_goals exact hq
end
end Go.Pv
namespace Go.Pv
open Go.RowKit
variable [Globs]
section
variable {P:Program}{L:b9}{Q:Exit->St->Prop}{K:St->Prop}{s:St}{ops:Array Oper}{rest:List Oper}{o:Oper}
variable {d e j:Nat}{op:Op}{ty:TypeId}{pos:String}{af:Array Edge}{want:Bool}{g:Option (Nat × Bool)}
theorem kM {b:Bool}(hr:s.reg e=.bool b):s.putR e (.bool b)=s:=by
 refine St.ext' ?_ O;funext t;show(bif Nat.beq t e then PV.bool b else s.reg t)=s.reg t;by_cases ht:t=e
 .subst ht;simp[hr]
 .simp[bR ht]
theorem j8 {b:Bool}(_hd:(ops[j]?).bind (·.dst)=some e)(hr:s.reg e=.bool b)(h1:b=true->POps P L ops K (⟨some d,op,ty,pos,af,some (j,want)⟩::rest) (s.putR e (.bool true)))(h0:b=false->POps P L ops K (⟨some d,op,ty,pos,af,some (j,want)⟩::rest) (s.putR e (.bool false))) :
  POps P L ops K (⟨some d,op,ty,pos,af,some (j,want)⟩::rest) s:=by
 have:=kM hr;cases b
 .have h:=h0 O;rwa [this]at h
 .have h:=h1 O;rwa [this]at h
theorem j7 {b:Bool}(_hd:(ops[j]?).bind (·.dst)=some e)(hr:s.reg e=.bool b)(h1:b=true->PQuiet P L ops K (⟨some d,op,ty,pos,af,some (j,want)⟩::rest) (s.putR e (.bool true)))(h0:b=false->PQuiet P L ops K (⟨some d,op,ty,pos,af,some (j,want)⟩::rest) (s.putR e (.bool false))) :
  PQuiet P L ops K (⟨some d,op,ty,pos,af,some (j,want)⟩::rest) s:=by
 have:=kM hr;cases b
 .have h:=h0 O;rwa [this]at h
 .have h:=h1 O;rwa [this]at h
theorem j4 {x:Operand}{gn:Nat}{oc:Option Cont}(T:TypeId)(sz kd:Nat)(hx:s.ev x=.nil)(hown:s.own d=(gn,oc))(h:K ((s.setOwn d (gn+1) (some ⟨T,sz,[],kd⟩)).putR d (.als d (gn+1) 0 0))):POp P L s ⟨some d,.move x,ty,pos,af,g⟩ K:=by
 refine .inr (.inl ⟨_,.nils T sz kd (.inl O) O hx,?_⟩);rw[St.fin,hown];exact h
theorem j3 {x:Operand}{gn:Nat}{oc:Option Cont}(T:TypeId)(sz kd:Nat)(hx:s.ev x=.nil)(hown:s.own d=(gn,oc))(h:K ((s.setOwn d (gn+1) (some ⟨T,sz,[],kd⟩)).putR d (.als d (gn+1) 0 0))):POp P L s ⟨some d,.assign x,ty,pos,af,g⟩ K:=by
 refine .inr (.inl ⟨_,.nils T sz kd (.inr O) O hx,?_⟩);rw[St.fin,hown];exact h
theorem gW {T E:TypeId}{r re:LRow}{n:Nat}{ps:List (Nat × Operand)}{rows:List (List PV)}{Pr:Prop}(hr:L T=some r)(hs:r.sh=.sl E)(hre:L E=some re)(hz:re.zero.isSome=true)(hsz:Nat.blt 0 re.size=true)(hrows:ju s 0 ps=some rows)
  (hn:ps.map (·.1)=Bc 0 n) (hN:Nat.ble (n*re.size) 16777216=true) (hcells:ps.all (fun p=>Nat.beq (s.ev p.2).cells.length re.size)=true) (h1:dR s (ps.flatMap fun p=>(s.ev p.2).cells)=some Pr) (h2:Pr) (hkd:(ps.flatMap fun p=>(s.ev p.2).cells).all (oS 0)=true) :
  QOp P L s ⟨some d,.buildSlice T n ps.toArray,ty,pos,af,g⟩ (.fsl rows):=by
 have:=QOp.slit (P:=P) (L:=L) (s:=s) (o:=⟨some d,.buildSlice T n ps.toArray,ty,pos,af,g⟩) O hr hs hre hz (by simpa using hsz) (by rw[jx]at hn;simpa using hn) (by simpa using hN) (fun p hp=>by
  have:=bx.1 hcells p (by simpa using hp)
  simpa using this) h1 h2 hkd
 rw[jv 0 ps rows hrows];exact this
theorem eu {T E:TypeId}{r re:LRow}{n:Nat}{ps:List (Nat × Operand)}{rows:List (List PV)}{Pr:Prop}(hr:L T=some r)(hs:r.sh=.sl E)(hre:L E=some re)(hz:re.zero.isSome=true)(hsz:Nat.blt 0 re.size=true)(hrows:ju s 1 ps=some rows)
  (hn:ps.map (·.1)=Bc 0 n) (hN:Nat.ble (n*re.size) 16777216=true) (hcells:ps.all (fun p=>Nat.beq (s.ev p.2).cells.length re.size)=true) (h1:dR s (ps.flatMap fun p=>(s.ev p.2).cells)=some Pr) (h2:Pr) (hkd:(ps.flatMap fun p=>(s.ev p.2).cells).all (oS 1)=true) :
  QOp P L s ⟨some d,.buildSlice T n ps.toArray,ty,pos,af,g⟩ (.sl rows):=by
 have:=QOp.slitD (P:=P) (L:=L) (s:=s) (o:=⟨some d,.buildSlice T n ps.toArray,ty,pos,af,g⟩) O hr hs hre hz (by simpa using hsz) (by rw[jx]at hn;simpa using hn) (by simpa using hN) (fun p hp=>by
  have:=bx.1 hcells p (by simpa using hp)
  simpa using this) h1 h2 hkd
 rw[jv 1 ps rows hrows];exact this
variable {fn:Func}{r:PV}
theorem jL {t:Nat}{v d:PV}{Cd:Prop}{fl:Fl}(h:fn.results.toList=[.tmp t])(hv:(s.reg t).fz=some v)(hres:fJ s 5 v=some (d,Cd,fl))(hc:Cd)(hd:d=r):RetPost L fn .shared r .ret s:=by
 rw[PV.fz_eq]at hv;have hv:=bk hv;subst hv;exact⟨[s.reg t],True/\True,d,Cd,fl,by rw[h];rfl,⟨trivial,bP⟩,hres,hc,trivial,hd⟩
theorem jU {t:Nat}{b:Bool}(h:fn.results.toList=[.tmp t])(hv:s.reg t=.bool b)(hd:PV.bool b=r):RetPost L fn .shared r .ret s :=
 jL h (v := .bool b) (by rw[hv];rfl) O trivial hd
theorem rR {t:Nat}{k:IntKind}{n:Int}(h:fn.results.toList=[.tmp t])(hv:s.reg t=.int k n)(hd:PV.int k n=r):RetPost L fn .shared r .ret s :=
 jL h (v := .int k n) (by rw[hv];rfl) O trivial hd
theorem xG {t1 t2:Nat}{v1 v2 d1 d2:PV}{C1 C2:Prop}{f1 f2:Fl}(h:fn.results.toList=[.tmp t1,.tmp t2])(h1:(s.reg t1).fz=some v1)(h2:(s.reg t2).fz=some v2)(r1:fJ s 4 v1=some (d1,C1,f1))(r2:fJ s 4 v2=some (d2,C2,f2))(c1:C1)(c2:C2)
  (hd:PV.tup [d1,d2]=r):RetPost L fn .shared r .ret s:=by
 rw[PV.fz_eq]at h1 h2;have h1:=bk h1;have h2:=bk h2;subst h1 h2;refine⟨[s.reg t1,s.reg t2],True/\True/\True,.tup [d1,d2],C1/\C2/\True,f1.and (f2.and ⟨true,true⟩),by rw[h];rfl,⟨trivial,trivial,bP⟩,?_,⟨c1,c2,bP⟩,trivial,hd⟩;show(match fK (fJ s 4) [s.reg t1,s.reg t2] with|some (ds,C1,b)=>some (PV.tup ds,C1,b)|none=>none)=_;simp only[fK,r1,r2]
theorem vo {t:Nat}{v d:PV}{Cd:Prop}{c:Bool}(h:fn.results.toList=[.tmp t])(hv:(s.reg t).fz=some v)(hres:fJ s 5 v=some (d,Cd,⟨c,true⟩))(hc:Cd)(hd:d=r):RetPost L fn .fresh r .ret s:=by
 rw[PV.fz_eq]at hv;have hv:=bk hv;subst hv;exact⟨[s.reg t],True/\True,d,Cd,⟨c,true⟩,by rw[h];rfl,⟨trivial,bP⟩,hres,hc,O,hd⟩
end
section
variable {P:Program}{L:b9}{Q:Exit->St->Prop}{K:St->Prop}{s:St}{ops:Array Oper}
theorem POps.app {K:St->Prop}:∀(l1 l2:List Oper) (s:St),POps P L ops (fun s'=>POps P L ops K l2 s') l1 s->POps P L ops K (l1++l2) s
 |[],_,_,h=>h
 |_::l1,l2,_,h=>h.imp (fun x=>⟨x.1,x.2.mono fun s' h'=>POps.app l1 l2 s' h'⟩) fun x=>⟨x.1,POps.app l1 l2 _ x.2⟩
theorem PQuiet.app {K:St->Prop}:∀(l1 l2:List Oper) (s:St),PQuiet P L ops (fun s'=>PQuiet P L ops K l2 s') l1 s->PQuiet P L ops K (l1++l2) s
 |[],_,_,h=>h
 |_::l1,l2,_,h=>h.imp (fun⟨x,pv,y,z⟩=>⟨x,pv,y,PQuiet.app l1 l2 _ z⟩) fun x=>⟨x.1,PQuiet.app l1 l2 _ x.2⟩
theorem yb {l:List Oper}(n:Nat)(regs:List (Nat × PV))(owns:List (Nat × Nat × Cont))(h1:POps P L ops (fun s'=>Fit s' regs owns) (l.take n) s)(h2:∀s:St,POps P L ops K (l.drop n) (s.over regs owns)):POps P L ops K l s:=by
 have:=POps.app (K:=K) (l.take n) (l.drop n) s (h1.mono (fun s' hf=>by have:=h2 s';rwa [hf.over]at this) _ _);rwa [cD]at this
theorem H5 {x y:Code}(regs:List (Nat × PV))(owns:List (Nat × Nat × Cont))(h1:PWP P L x (XThen (fun s'=>Fit s' regs owns) Q) s)(h2:∀s:St,PWP P L y Q (s.over regs owns)):PWP P L (.seq x y) Q s:=by
 refine dT (PWP.mono ?_ _ h1);intro e s' h;cases e
 case normal =>
  have:=h2 s';rwa [Fit.over h]at this
 all_goals exact h
theorem uj {x y:Code}(regs:List (Nat × PV))(owns:List (Nat × Nat × Cont))(h1:PWP P L x (XThen (fun s'=>Fit s' regs owns) Q) s)(h2:∀s:St,PWP P L y Q (s.over regs owns)):PWP P L x (XThen (fun s'=>PWP P L y Q s') Q) s:=H5 regs owns h1 h2
end
theorem wrap_i64 {n:Int}(h1 : -9223372036854775808<=n)(h2:n<=9223372036854775807):IntKind.i64.wrap n=n:=by
 rw[IntKind.wrap_i64];omega
theorem cU {n:Int}(h1 : -9223372036854775808<=n)(h2:n<9223372036854775807):PV.int .i64 (IntKind.i64.wrap (n+1)) = .int .i64 (n+1):=by rw[wrap_i64 J J]
theorem aK {α:Type}{l:List α}{k:Nat}(h:k<l.length):∃x,l[k]?=some x:=⟨l[k],aQ h⟩
end Go.Pv
namespace Go.Pv
open Go.RowKit
variable [Globs]
section
variable {C:Ctx}{γ:Nat->Option Nat}{s:St}{a:Act}{w:World}
theorem iY {k0 g0:Nat}{c0 c1:Cont}(ho:s.own k0=(g0,some c0))(ht:c1.ty=c0.ty)(hs:c1.sz=c0.sz)(hl:c1.rows.length=c0.rows.length) :
  ai C γ (s.setOwn k0 g0 (some c1)) w=ai C γ s w:=by
 have hown:∀k,((s.setOwn k0 g0 (some c1)).own k).1=(s.own k).1/\(((s.setOwn k0 g0 (some c1)).own k).2.map fun c=>(⟨γ k,c.ty,c.sz,c.rows.length⟩:SLoc))=(s.own k).2.map fun c=>(⟨γ k,c.ty,c.sz,c.rows.length⟩:SLoc):=by
  intro k;by_cases hk:k=k0
  .subst hk;rw[ah,ho];simp[ht,hs,hl]
  .rw[ar hk];exact⟨O,O⟩
 have hok:∀b,fu C γ (s.setOwn k0 g0 (some c1)) w b=fu C γ s w b:=by
  intro b;refine propext ⟨fun h=>⟨h.1,h.2.1,fun k c hc=>?_⟩,fun h=>⟨h.1,h.2.1,fun k c hc=>?_⟩⟩
  .by_cases hk:k=k0
   .subst hk;exact h.2.2 k c1 (by rw[ah])
   .exact h.2.2 k c (by rw[ar hk];exact hc)
  .by_cases hk:k=k0
   .subst hk;exact h.2.2 k c0 (by rw[ho])
   .rw[ar hk]at hc;exact h.2.2 k c hc
 unfold ai;congr 1
 .funext b;exact hok b
 .funext b;rw[hok b]
 .funext k;exact(hown k).1
 .funext k;exact(hown k).2
theorem SiteOk.rowlen {E:Env}{blk:Option Nat}{c:Cont}(h:SiteOk E blk c)(hz:0<c.sz):∀r∈c.rows,r.length=c.sz:=by
 intro r hr;cases blk with
 |none=>rw[h.emp rfl]at hr;cases hr
 |some b=>obtain⟨cur,_,_,_,f4,_⟩:=h.at_ b rfl hz;exact f4 r hr
theorem Sim.recell (h:Sim C γ s a w){k0 g0:Nat}{c0 c1:Cont}(ho:s.own k0=(g0,some c0))(ht:c1.ty=c0.ty)(hs:c1.sz=c0.sz)(hz0:0<c0.sz)(hl:c1.rows.length=c0.rows.length)(hrl:∀row∈c1.rows,row.length=c1.sz)
  (hcell:∀(i j:Nat) (row1:List PV) (pv1:PV),c1.rows[i]?=some row1->row1[j]?=some pv1->∃row0 pv0,c0.rows[i]?=some row0/\row0[j]?=some pv0/\∀v,KRep (ai C γ s w) c0.kind pv0 v->KRep (ai C γ s w) c1.kind pv1 v) :
  Sim C γ (s.setOwn k0 g0 (some c1)) a w:=by
 have he:=iY (C:=C) (γ:=γ) (w:=w) ho ht hs hl;have hsome:∀k c,((s.setOwn k0 g0 (some c1)).own k).2=some c->∃c',(s.own k).2=some c':=by
  intro k c hc;by_cases hk:k=k0
  .subst hk;exact⟨c0,by rw[ho]⟩
  .rw[ar hk]at hc;exact⟨c,hc⟩
 refine⟨h.defers,h.size,fun r=>by rw[he];exact h.regs r,fun k c hc=>?_,fun k k' c c' b e1 e2 e3 e4=>?_,fun k c b e1 e2=>?_,h.below,h.top,fun c v hk=>by rw[he];exact h.kept c v hk⟩
 .rw[he];by_cases hk:k=k0
  .subst hk;rw[ah]at hc;have hc:c1=c:=bk hc;subst hc;have hsite:=h.sites k c0 (by rw[ho]);refine⟨fun hb=>?_,(fun b _ hz=>by omega),(fun b _ hz=>by omega),fun b hb _=>?_⟩
   .have:=hsite.emp hb;exact dO (by rw[hl,this];rfl)
   .obtain⟨cur,f1,f2,f3,f4,f5⟩:=hsite.at_ b hb hz0;refine⟨cur,by rw[ht];exact f1,by rw[hs];exact f2,by rw[hl,hs];exact f3,hrl,fun i j row pv e1 e2=>?_⟩;obtain⟨row0,pv0,g1,g2,g3⟩:=hcell i j row pv e1 e2;obtain⟨v,u1,u2,u3⟩:=f5 i j row0 pv0 g1 g2;exact⟨v,by rw[hs];exact u1,u2,g3 v u3⟩
  .rw[ar hk]at hc;exact h.sites k c hc
 .obtain⟨d,hd⟩:=hsome k c e1;obtain⟨d',hd'⟩:=hsome k' c' e2;exact h.inj k k' d d' b hd hd' e3 e4
 .obtain⟨d,hd⟩:=hsome k c e1;exact h.base k d b hd e2
theorem Sim.drop (hX:∀b,C.X b->b<C.B)(h:Sim C γ s a w){k g:Nat}{c:Cont}(ho:s.own k=(g,some c)) :
  Sim C γ (s.setOwn k (g+1) none) a w/\(ai C γ s w).Le (ai C γ (s.setOwn k (g+1) none) w) /\
   (c.kind=0->∀v,Rep (ai C γ s w) (.als k g 0 c.rows.length) v->DRep w (ai C γ (s.setOwn k (g+1) none) w).okf (.sl c.rows) v):=by
 have hok:∀b,fu C γ s w b->fu C γ (s.setOwn k (g+1) none) w b:=fun b hb=>⟨hb.1,hb.2.1,fun k' c' hc'=>by
  by_cases hk:k'=k
  .subst hk;rw[ah]at hc';cases hc'
  .rw[ar hk]at hc';exact hb.2.2 k' c' hc'⟩
 have hle:(ai C γ s w).Le (ai C γ (s.setOwn k (g+1) none) w):=by
  refine⟨hok,fun b hb=>⟨hb.1,hok b hb.2⟩,fun b hb=>hb.2,fun b _=>rfl,fun k'=>?_,fun k' l' hg hl=>?_,fun k' l' b cur hg hl hb hh=>⟨cur,hh,O⟩⟩
  .show(s.own k').1<=((s.setOwn k (g+1) none).own k').1;by_cases hk:k'=k
   .subst hk;rw[ah,ho];simp
   .rw[ar hk];exact aH
  .by_cases hk:k'=k
   .subst hk;simp only[ai,ah,tR]at hl;cases hl
   .refine⟨l',?_,O,O,O,aH⟩;simp only[ai,ar hk]at hl ⊢;exact hl
 refine⟨⟨h.defers,h.size,fun r=>(h.regs r).mono hle,fun k' c' hc'=>?_,fun k1 k2 c1 c2 b e1 e2 e3 e4=>?_,fun k' c' b e1 e2=>?_,h.below,h.top,fun c v hk=>(h.kept c v hk).mono hle⟩,hle,fun hk v hv=>?_⟩
 .by_cases hk:k'=k
  .subst hk;rw[ah]at hc';cases hc'
  .rw[ar hk]at hc';exact(h.sites k' c' hc').mono hle fun b hb=>rfl
 .have hne:∀ {k' c'},((s.setOwn k (g+1) none).own k').2=some c'->(s.own k').2=some c':=by
   intro k' c' hc';by_cases hk:k'=k
   .subst hk;rw[ah]at hc';cases hc'
   .rwa [ar hk]at hc'
  exact h.inj k1 k2 c1 c2 b (hne e1) (hne e2) e3 e4
 .by_cases hk:k'=k
  .subst hk;rw[ah]at e1;cases e1
  .rw[ar hk]at e1;exact h.base k' c' b e1 e2
 .rcases h.als_at hv ho with⟨h1,_,h3,rfl⟩|⟨b,cap,cur,h1,rfl,h3,h4,h5,h6,h7⟩
  .have:c.rows=[]:=(h.sites k c (by rw[ho])).emp h1;rw[this];exact .sl0 _ _
  .obtain⟨cur',g1,g2,g3,g4,g5⟩:=h.site_at ho h1 (h.cells_sz ho h1 h3 h6);have hb:(ai C γ (s.setOwn k (g+1) none) w).okf b:=by
    have hbase:=h.base k c b (by rw[ho]) h1;refine⟨hbase.1,hbase.2,fun hx=>?_,fun k' c' hc' hb'=>?_⟩
    .have:=hX b hx;omega
    .by_cases hk':k'=k
     .subst hk';rw[ah]at hc';cases hc'
     .rw[ar hk']at hc';exact hk' (h.inj k' k c' c b hc' (by rw[ho]) hb' h1)
   simp only[fT];refine .sl c.rows b 0 cap c.sz (fun i j=>cur'.getD (i*c.sz+j) undef) hb g2 h4 g4 (fun i j row pv e1 e2=>?_) (fun i j row pv e1 e2=>?_)
   .obtain⟨u,f1,f2,_⟩:=g5 i j row pv e1 e2;rw[bc g1,aG,f1];simp[f1,f2]
   .obtain⟨u,f1,_,f3⟩:=g5 i j row pv e1 e2;have:cur'.getD (i*c.sz+j) undef=u:=by simp[f1]
    simp only[this];rw[hk]at f3;exact hle.drepf f3
end
section
variable {s:St}
theorem Ghost.drop {k g:Nat}{oc:Option Cont}(ho:s.own k=(g,oc)):Ghost s (s.setOwn k (g+2) none):=by
 intro C a w hX ⟨γ,h⟩;have ht:Turn C γ s w w k none:=⟨O,O,O,aH,fun b _ => .inl O,fun b hb=>by cases hb⟩;have h1:=ht.sim h (c:=⟨0,0,[],0⟩) (.none_ O);have hfin:s.fin k ⟨0,0,[],0⟩=s.setOwn k (g+1) (some ⟨0,0,[],0⟩):=by rw[St.fin,ho]
 rw[hfin]at h1;have h2:=(h1.drop hX (ah _ _ _ _)).1;have he:(s.setOwn k (g+1) (some ⟨0,0,[],0⟩)).setOwn k (g+1+1) none=s.setOwn k (g+2) none:=by
  refine St.ext' O (funext fun r=>?_);show(bif Nat.beq r k then _ else(bif Nat.beq r k then _ else _))=(bif Nat.beq r k then _ else _);cases Nat.beq r k<;>rfl
 rw[he]at h2;exact⟨_,h2⟩
theorem Ghost.move {k g k' g' t i j:Nat}{c:Cont}{oc':Option Cont}(hk:Nat.beq k k'=false)(ho:s.own k=(g,some c))(ho':s.own k'=(g',oc'))(hr:s.reg t=.ptr k g i j) :
  Ghost s (((s.setOwn k (g+1) none).setOwn k' (g'+1) (some c)).putR t (.ptr k' (g'+1) i j)):=by
 intro C a w hX ⟨γ,h⟩;have hne:k≠k':=fun e=>by subst e;simp at hk
 have o1:((s.setOwn k (g+1) none).setOwn k' (g'+1) (some c)).own k=(g+1,none):=by rw[ar hne,ah]
 have o2:((s.setOwn k (g+1) none).setOwn k' (g'+1) (some c)).own k'=(g'+1,some c):=ah _ _ _ _;have o3:∀q,q≠k->q≠k'->((s.setOwn k (g+1) none).setOwn k' (g'+1) (some c)).own q=s.own q:=fun q h1 h2=>by rw[ar h2,ar h1]
 have hregs:((s.setOwn k (g+1) none).setOwn k' (g'+1) (some c)).reg=s.reg:=O;generalize (s.setOwn k (g+1) none).setOwn k' (g'+1) (some c)=s1 at *
 have hval:∀ {q:Nat} {d:Cont},(s1.own q).2=some d->∃q0,(s.own q0).2=some d/\γ q0=iV γ k' (γ k) q/\((q=k'/\q0=k)\/(q≠k'/\q≠k/\q0=q)):=by
  intro q d hd;by_cases h2:q=k'
  .subst h2;rw[o2]at hd;exact⟨k,by rw[ho];exact hd,by rw[bZ],.inl ⟨O,O⟩⟩
  .by_cases h1:q=k
   .subst h1;rw[o1]at hd;cases hd
   .rw[o3 q h1 h2]at hd;exact⟨q,hd,by rw[gw h2],.inr ⟨h2,h1,O⟩⟩
 have hok:∀b,fu C γ s w b->fu C (iV γ k' (γ k)) s1 w b:=fun b hb=>⟨hb.1,hb.2.1,fun q d hd=>by
  obtain⟨q0,e1,e2,_⟩:=hval hd
  rw[<-e2];exact hb.2.2 q0 d e1⟩
 have hle:(ai C γ s w).Le (ai C (iV γ k' (γ k)) s1 w):=by
  refine⟨hok,fun b hb=>⟨hb.1,hok b hb.2⟩,fun b hb=>hb.2,fun b _=>rfl,fun q=>?_,fun q l' hg hl=>?_,fun q l' b cur hg hl hb hh=>⟨cur,hh,O⟩⟩
  .show(s.own q).1<=(s1.own q).1;by_cases h2:q=k'
   .subst h2;rw[o2,ho'];simp
   .by_cases h1:q=k
    .subst h1;rw[o1,ho];simp
    .rw[o3 q h1 h2];exact aH
  .have hgg:(s1.own q).1=(s.own q).1:=hg;by_cases h2:q=k'
   .subst h2;rw[o2,ho']at hgg;simp at hgg
   .by_cases h1:q=k
    .subst h1;rw[o1,ho]at hgg;simp at hgg
    .refine⟨l',?_,O,O,O,aH⟩;simp only[ai,o3 q h1 h2,gw h2]at hl ⊢;exact hl
 refine⟨iV γ k' (γ k),h.defers,h.size,fun r=>?_,fun q d hd=>?_,fun q1 q2 d1 d2 b e1 e2 e3 e4=>?_,fun q d b e1 e2=>?_,h.below,h.top,fun d v hd=>(h.kept d v hd).mono hle⟩
 .show Rep (ai C (iV γ k' (γ k)) s1 w) (bif Nat.beq r t then _ else s1.reg r) _;by_cases hrt:r=t
  .subst hrt;have hp:=h.regs r;rw[hr]at hp;simp only[jh,cond_true];have hp':=h.ptr_at hp ho;refine .ptr ?_ fun _ l hl=>?_
   .show g'+1<=(s1.own k').1;rw[o2];exact aH
   .simp only[ai,o2,bZ,ca,aJ]at hl;subst hl;exact hp'
  .rw[bR hrt,hregs];exact(h.regs r).mono hle
 .obtain⟨q0,e1,e2,_⟩:=hval hd;have:=(h.sites q0 d e1).mono hle fun b _=>rfl;rwa [e2]at this
 .obtain⟨p1,f1,f2,f3⟩:=hval e1;obtain⟨p2,f4,f5,f6⟩:=hval e2;have:=h.inj p1 p2 d1 d2 b f1 f4 (by rw[f2];exact e3) (by rw[f5];exact e4);rcases f3 with⟨a1,a2⟩|⟨a1,a2,a3⟩<;>rcases f6 with⟨b1,b2⟩|⟨b1,b2,b3⟩
  .rw[a1,b1]
  .exact absurd (by rw[<-b3,<-this,a2]) b2
  .exact absurd (by rw[<-a3,this,b2]) a2
  .rw[<-a3,<-b3,this]
 .obtain⟨q0,f1,f2,_⟩:=hval e1;exact h.base q0 d b f1 (by rw[f2];exact e2)
theorem Ghost.data {k g t kd:Nat}{T:TypeId}{row:List PV}(ho:s.own k=(g,some ⟨T,row.length,[row],kd⟩))(hr:s.reg t=.ptr k g 0 0)(hall:row.all (oS 1)=true)(hz0:Nat.blt 0 row.length=true) :
  Ghost s ((s.setOwn k (g+1) none).putR t (.dref (row.map (gv 1)) 0)):=by
 intro C a w hX ⟨γ,h⟩;obtain⟨h1,hle,_⟩:=h.drop hX ho;have hz0:0<row.length:=by simpa using hz0
 have hp:=h.regs t;rw[hr]at hp;obtain⟨b,hb,hv,hi,hj⟩:=h.ptr_at hp ho;obtain⟨cur,f1,f2,f3,f4,f5⟩:=h.site_at ho hb hz0;have hokb:fu C γ (s.setOwn k (g+1) none) w b:=by
  have hbase:=h.base k _ b (by rw[ho]) hb;refine⟨hbase.2,fun hx=>?_,fun k' c' hc' hb'=>?_⟩
  .have:=hX b hx;omega
  .by_cases hk':k'=k
   .subst hk';rw[ah]at hc';cases hc'
   .rw[ar hk']at hc';exact hk' (h.inj k' k c' _ b hc' (by rw[ho]) hb' hb)
 have hd:Rep (ai C γ (s.setOwn k (g+1) none) w) (.dref (row.map (gv 1)) 0) (a.tmps.getD t undef):=by
  rw[hv];simp only[fT,aG];have key:∀(i:Nat) (c:PV),(row.map (gv 1))[i]?=some c->∃c0 u,row[i]?=some c0/\c=gv 1 c0/\cur[i]?=some u/\u.oneCell'=true/\KRep (ai C γ s w) kd c0 u:=by
   intro i c hc;rw[aV]at hc;cases hq:row[i]? with
   |none=>rw[hq]at hc;simp at hc
   |some c0 =>
    rw[hq]at hc;simp at hc;obtain⟨u,e1,e2,e3⟩:=f5 0 i row c0 O hq;exact⟨c0,u,O,hc.symm,by simpa using e1,e2,e3⟩
  have:=DRep.dref (w:=w) (ok:=(ai C γ (s.setOwn k (g+1) none) w).ok) (row.map (gv 1)) 0 b 0 (fun i=>cur.getD i undef) hokb (fun i c hc=>by
   obtain⟨c0,u,e1,e2,e3,e4,e5⟩:=key i c hc;rw[bc f1,aG,e3]
   simp[e3,e4]) (fun i c hc=>by
   obtain⟨c0,u,e1,rfl,e3,e4,e5⟩:=key i c hc;have hu:cur.getD i undef=u:=by simp[e3]
   rw[hu]
   exact hle.drep (mD (k:=1) aI (bx.1 hall c0 (bG e1)) (e5.rep aI)))
  exact .d this
 refine⟨γ,h1.defers,h1.size,fun r=>?_,h1.sites,h1.inj,h1.base,h1.below,h1.top,h1.kept⟩;show Rep (ai C γ (s.setOwn k (g+1) none) w) (bif Nat.beq r t then _ else s.reg r) _;by_cases hrt:r=t
 .subst hrt;simpa using hd
 .rw[bR hrt];exact h1.regs r
theorem Ghost.nilcell {k gk k0 g0 i j:Nat}{oc:Option Cont}{c0:Cont}{row:List PV}(T:TypeId)(sz kd:Nat)(hk:Nat.beq k0 k=false)(ho:s.own k=(gk,oc))(h0:s.own k0=(g0,some c0))(hkind:c0.kind=2)(hrow:c0.rows[i]?=some row)(hj:row[j]?=some .nil)(hz0:Nat.blt 0 c0.sz=true) :
  Ghost s ((s.setOwn k (gk+1) (some ⟨T,sz,[],kd⟩)).setOwn k0 g0 (some ⟨c0.ty,c0.sz,c0.rows.set i (row.set j (.als k (gk+1) 0 0)),2⟩)):=by
 intro C a w hX ⟨γ,h⟩;have hne:k0≠k:=fun e=>by subst e;simp at hk
 have ht:Turn C γ s w w k none:=⟨O,O,O,aH,fun b _ => .inl O,fun b hb=>by cases hb⟩;have h1:=ht.sim h (c:=⟨T,sz,[],kd⟩) (.none_ O);have hfin:s.fin k ⟨T,sz,[],kd⟩=s.setOwn k (gk+1) (some ⟨T,sz,[],kd⟩):=by rw[St.fin,ho]
 rw[hfin]at h1;have ho1:(s.setOwn k (gk+1) (some ⟨T,sz,[],kd⟩)).own k0=(g0,some c0):=by rw[ar hne];exact h0
 have hz0:0<c0.sz:=by simpa using hz0
 refine⟨_,h1.recell ho1 O O hz0 aj (fun r hr=>?_) fun i' j' row1 pv1 e1 e2=>?_⟩
 .rcases mG hr with hr|rfl
  .exact(h.sites k0 c0 (by rw[h0])).rowlen hz0 r hr
  .simpa using (h.sites k0 c0 (by rw[h0])).rowlen hz0 row (bG hrow)
 .by_cases hi:i'=i
  .subst hi;have hlt:=(bD hrow).1;rw[dl hlt]at e1;have e1:=bk e1;subst e1;by_cases hjj:j'=j
   .subst hjj;have hlt2:=(bD hj).1;rw[dl hlt2]at e2;have e2:=bk e2;subst e2;refine⟨row,.nil,hrow,hj,fun v hv=>?_⟩;rw[hkind]at hv;have hv:Rep _ PV.nil v:=hv;rw[hv.nil_inv];refine Rep.als ?_ fun _ l hl=>?_
    .show _<=((s.setOwn k (gk+1) (some ⟨T,sz,[],kd⟩)).own k).1;rw[ah];exact aH
    .simp only[ai,ah,bZ,ca,aJ]at hl;subst hl;exact .inl ⟨O,O,O,O⟩
   .rw[cV (Ne.symm hjj)]at e2;exact⟨row,pv1,hrow,e2,fun v hv=>by rw[hkind]at hv;exact hv⟩
  .rw[cV (Ne.symm hi)]at e1;exact⟨row1,pv1,e1,e2,fun v hv=>by rw[hkind]at hv;exact hv⟩
end
theorem Ghost.nilreg {s:St}{k gk t:Nat}{oc:Option Cont}(T:TypeId)(sz kd:Nat)(ho:s.own k=(gk,oc))(hr:s.reg t=.nil):Ghost s ((s.setOwn k (gk+1) (some ⟨T,sz,[],kd⟩)).putR t (.als k (gk+1) 0 0)):=by
 intro C a w hX ⟨γ,h⟩;have ht:Turn C γ s w w k none:=⟨O,O,O,aH,fun b _ => .inl O,fun b hb=>by cases hb⟩;have h1:=ht.sim h (c:=⟨T,sz,[],kd⟩) (.none_ O);have hfin:s.fin k ⟨T,sz,[],kd⟩=s.setOwn k (gk+1) (some ⟨T,sz,[],kd⟩):=by rw[St.fin,ho]
 rw[hfin]at h1;refine⟨_,h1.defers,h1.size,fun r=>?_,h1.sites,h1.inj,h1.base,h1.below,h1.top,h1.kept⟩;show Rep _ (bif Nat.beq r t then _ else s.reg r) _;by_cases hrt:r=t
 .subst hrt;have hv:=h.regs r;rw[hr]at hv;rw[hv.nil_inv];simp only[jh,cond_true];refine .als ?_ fun _ l hl=>?_
  .show _<=((s.setOwn k (gk+1) (some ⟨T,sz,[],kd⟩)).own k).1;rw[ah];exact aH
  .have hl:(((s.setOwn k (gk+1) (some ⟨T,sz,[],kd⟩)).own k).2.map fun c=>(⟨iV γ k none k,c.ty,c.sz,c.rows.length⟩:SLoc))=some l:=hl;rw[ah,bZ]at hl;have hl:=bk hl;subst hl;exact .inl ⟨O,O,O,O⟩
 .rw[bR hrt];exact h1.regs r
theorem Ghost.nilsl {s:St}{t:Nat}(hr:s.reg t=.nil):Ghost s (s.putR t (.sl [])):=by
 intro C a w hX ⟨γ,h⟩;refine⟨_,h.defers,h.size,fun r=>?_,h.sites,h.inj,h.base,h.below,h.top,h.kept⟩;show Rep _ (bif Nat.beq r t then _ else s.reg r) _;by_cases hrt:r=t
 .subst hrt;have hv:=h.regs r;rw[hr]at hv;rw[hv.nil_inv];simp only[jh,cond_true];exact .d (.sl0 _ _)
 .rw[bR hrt];exact h.regs r
end Go.Pv
namespace Go.Pv
open Go.RowKit
variable [Globs]
def GR (fn:Func)(T:TypeId)(sz:Nat)(rows:List (List PV))(s:St):Prop :=
 ∃t k g m kd,fn.results.toList=[.tmp t]/\s.reg t=.als k g 0 m/\s.own k=(g,some ⟨T,sz,rows,kd⟩)/\m=rows.length/\rows.all (·.all PV.flat1)=true
def uN (fn:Func)(T:TypeId)(sz:Nat)(rows:List (List PV)):Exit->St->Prop
 |.normal,s | .ret,s=>GR fn T sz rows s
 |_,_=>False
theorem AJ {E:Env}{k:Nat}{c:PV}{v:Value}(hf:c.flat1=true)(h:KRep E k c v)(hE:∀b,E.okf b->E.ok b)(w:World)(ok:Nat->Prop):DRep w ok c v:=by
 have hr:=h.rep hE;cases c with
 |bool b=>rw[hr.bool_inv];exact .bool _
 |int k n=>rw[hr.int_inv];exact .int _ _
 |str s=>rw[hr.str_inv];exact .str _
 |raw u=>rw[hr.raw_inv];exact .raw _
 |nil=>rw[hr.nil_inv];exact .nil
 |_=>simp[PV.flat1]at hf
section
variable {P:Program}{L:b9}{s:St}
theorem RetO.of_pwp {f : FuncId}{fn : Func}{body : Code}{pargs : List PV}{T : TypeId}{sz : Nat}{rows : List (List PV)}(hL : iW P L)(hm : P.follows .mixedOrders = true)(hf : P.funcs[f]?=some fn)(hb : fn.body = some body)(hn : (fn.name == "runtime.NumGoroutine") = false)
  (hlen:Nat.ble pargs.length fn.ntmps=true) (hc:jP fn.ntmps body=true) (h:PWP P L body (uN fn T sz rows) (dE pargs)):RetO P f pargs T sz rows:=by
 refine⟨⟨fn,hf,hn,by simp[hb]⟩,fun w X args hg hX hl hargs=>?_⟩;let C:Ctx:=⟨w.heap.size,X,w,fn.ntmps,fun _ _=>False,[]⟩;have hG:Good P L C:=⟨hL,hX,hm,fun w' hb=>Globs.keep w w' hg hb⟩;have hle:args.length<=fn.ntmps:=by rw[<-hl];simpa using hlen
 have hsim:SimE C (dE pargs) { tmps:=args.toArray++Array.replicate (fn.ntmps-args.toArray.size) undef,defers:=[] } w:=by
  refine⟨fun _=>none,O,by simp[C];omega,fun t=>?_,fun k c hk=>by simp[dE]at hk,fun k k' c c' b hk=>by simp[dE]at hk,fun k c b hk=>by simp[dE]at hk,Below.refl _ _,aH,fun c v hk=>hk.elim⟩;show Rep _ (pargs.getD t (.raw undef)) _;rcases aT t args.length with hlt|hge
  .have hlt':t<pargs.length:=J;have e1:pargs.getD t (.raw undef)=pargs[t]:=by simp[hlt']
   have e2:(args.toArray++Array.replicate (fn.ntmps-args.toArray.size) undef).getD t undef=args[t]:=by
    rw[ip,qo (by simpa using hlt)];simp[hlt]
   rw[e1,e2];refine .d ((hargs t pargs[t] args[t] (aQ hlt') (aQ hlt)).weaken fun b hb=>⟨hb.1,hb.2,fun k c hk=>by simp[dE]at hk⟩)
  .have e1:pargs.getD t (.raw undef) = .raw undef:=by simp[dF (by omega:pargs.length<=t)]
   have e2:(args.toArray++Array.replicate (fn.ntmps-args.toArray.size) undef).getD t undef=undef:=by
    rw[ip,nN (by simpa using hge)];rcases aT (t-args.toArray.size) (fn.ntmps-args.toArray.size) with h1|h1
    .rw[mH,if_pos h1];rfl
    .rw[j0 (by simpa using h1)];rfl
   rw[e1,e2];exact .d (.raw _)
 refine calls_of_wp hf hb (wp_mono (PWP.sound hG body _ _ _ w hc (fun _ hq=>hq) hsim h) ?_);have fin:∀ {s:St} {a:Act} {w':World},SimE C s a w'->GR fn T sz rows s->a.defers=[]/\∃v,(results fn a.tmps).run P w'=.ok v w'/\∃u,Ending.returned v=.returned u/\Below w.heap.size w w'/\ID w w' T sz rows u:=by
  rintro s a w' ⟨γ,hs⟩ ⟨t,k,g,m,kd,h1,h2,h3,h4,h5⟩;refine⟨hs.defers,a.tmps.getD t undef,?_,_,O,hs.below,?_⟩
  .unfold results;rw[<-o0 (xs:=fn.results),h1];simp
  .have hr:=hs.regs t;rw[h2]at hr;subst h4;rcases hs.als_at hr h3 with⟨e1,_,_,e4⟩|⟨b,cap,cur,e1,e2,e3,e4,e5,e6,e7⟩
   .exact .inl ⟨(hs.sites k _ (by rw[h3])).emp e1,e4⟩
   .obtain⟨cur',g1,g2,g3,g4,g5⟩:=hs.site_at h3 e1 (hs.cells_sz h3 e1 e3 e6);have hcc:cur'=cur:=by
     have e3:w'.heap[b]?=some (.cells cur T (0,0)):=e3;have g1:w'.heap[b]?=some (.cells cur' T (0,0)):=g1;rw[g1]at e3;simpa using e3
    subst hcc;refine .inr ⟨b,cap,cur',(hs.base k _ b (by rw[h3]) e1).1,by simpa using e2,e3,e4,e5,by simpa using e6,g2,g3,g4,fun i j row c r1 r2=>?_⟩;obtain⟨u,u1,u2,u3⟩:=g5 i j row c r1 r2;have hfl:c.flat1=true:=bx.1 (bx.1 h5 row (bG r1)) c (bG r2);exact⟨u,u1,u2,fun w ok=>AJ hfl u3 aI w ok⟩
 rintro e a w' ⟨s,hs,hq⟩;cases e
 case normal=>exact fin hs hq
 case ret=>exact fin hs hq
 all_goals exact hq.elim
theorem Jz {fn:Func}{T:TypeId}{sz:Nat}{rows rows':List (List PV)}{t k g m kd:Nat}(h:fn.results.toList=[.tmp t])(hv:s.reg t=.als k g 0 m)(ho:s.own k=(g,some ⟨T,sz,rows,kd⟩))(hm:m=rows.length)(hf:rows.all (·.all PV.flat1)=true)(hr:rows=rows'):uN fn T sz rows' .ret s:=by
 subst hr;exact⟨t,k,g,m,kd,h,hv,ho,hm,hf⟩
theorem Ej {d:Nat}{ty:TypeId}{pos:String}{af:Array Edge}{fop:Operand}{args:Array Operand}{tys:Array TypeId}{f:FuncId}{caps pargs:List PV}{Cd:Prop}{b:Fl}{T:TypeId}{sz gn:Nat}{oc:Option Cont}{rows:List (List PV)}{K:St->Prop}
  (hf:s.ev fop=.clo f caps) (hret:RetO P f pargs T sz rows) (hres:fK (fJ s 4) (args.toList.map s.ev++caps)=some (pargs,Cd,b)) (hc:Cd) (hown:s.own d=(gn,oc))
  (h:K ((s.setOwn d (gn+1) (some ⟨T,sz,rows,0⟩)).putR d (.als d (gn+1) 0 rows.length))):Sm P L s ⟨some d,.call ⟨.value fop,args,tys⟩,ty,pos,af,none⟩ K:=by
 intro C a w Q hG hs hN;refine Eff.sound hG.lay hG.x hG.glob hs hN (.callO O O hf hret hres hc) fun a' w' h'=>⟨_,h',?_⟩;rw[St.fin,hown];exact h
inductive TC where
 |p (o:Nat)
 |c (v:PV)
def TC.ok (sz:Nat):TC->Bool
 |.p o=>Nat.blt o sz
 |.c v=>v.flat1
end
end Go.Pv
namespace Go.Pv
open Go.RowKit
variable [Globs]
def gB (ops:Array Oper)(s:St):Option (Nat × Bool)->Option Bool
 |none=>some true
 |some (j,want)=>match (ops[j]?).bind (·.dst) with
  |some e=>match s.reg e with
   |.bool b=>match b,want with
    |true,true=>some true
    |false,false=>some true
    |true,false=>some false
    |false,true=>some false
   |.raw u=>match u with
    |.tuple a=>match a with
     |⟨[]⟩=>some false
     |_=>none
    |_=>none
   |_=>none
  |none=>none
def Hi (L:b9)(s:St):Option Nat->Op->Option (St × Prop)
 |some d,.box T x=>match (s.ev x).fz,s.own d with
  |some v,(gn,_)=>match dR s v.cells with
   |some Pr=>some ((s.setOwn d (gn+1) (some ⟨T,v.cells.length,[v.cells],2⟩)).putR d (.ptr d (gn+1) 0 0),Nat.blt 0 v.cells.length=true/\Pr)
   |none=>none
  |none,_=>none
 |some d,.alloc T=>match L T with
  |some r=>match r.zero,s.own d with
   |some z,(gn,_)=>some ((s.setOwn d (gn+1) (some ⟨T,z.length,[z],2⟩)).putR d (.ptr d (gn+1) 0 0),Nat.blt 0 z.length=true)
   |none,_=>none
  |none=>none
 |none,.store T x y=>match L T with
  |some r=>match s.ev x with
   |.ptr k gn i jj=>match i with
    |0=>match s.own k with
     |(gn',some ⟨tc,sz,rows,kd⟩)=>match rows,kd with
      |[row],2=>match (s.ev y).fz with
       |some v=>match dR s v.cells with
        |some Pr=>some (s.setOwn k gn (some ⟨tc,sz,[ma row jj v.cells],2⟩),gn'=gn/\v.cells.length=r.size/\Nat.ble (jj+r.size) row.length=true/\Pr)
        |none=>none
       |none=>none
      |_,_=>none
     |(_,none)=>none
    |_=>none
   |_=>none
  |none=>none
 |some d,op=>match qv L s op with
  |some (pv,Cd)=>some (s.putR d pv,Cd)
  |none=>none
 |none,_=>none
section
variable {P:Program}{L:b9}{s s':St}{ops:Array Oper}{K:St->Prop}{Q:Exit->St->Prop}{rest:List Oper}
theorem fy {o:Oper}(h:gB ops s o.guard=some true):Wants ops s o true:=by
 cases hg:o.guard with
 |none=>exact .none hg
 |some p =>
  obtain⟨j,want⟩:=p;rw[hg]at h;simp only[gB]at h;split at h
  .rename_i e hd;split at h
   .rename_i b hr;cases b<;>cases want<;>simp at h
    .exact .yes hg hd hr
    .exact .yes hg hd hr
   .split at h
    .split at h<;>cases h
    .cases h
   .cases h
  .cases h
theorem yX {o:Oper}(h:gB ops s o.guard=some false):Wants ops s o false:=by
 cases hg:o.guard with
 |none=>rw[hg]at h;cases h
 |some p =>
  obtain⟨j,want⟩:=p;rw[hg]at h;simp only[gB]at h;split at h
  .rename_i e hd;split at h
   .rename_i b hr;cases b<;>cases want<;>simp at h
    .exact .no hg hd hr aj
    .exact .no hg hd hr aj
   .rename_i hr;split at h
    .split at h
     .exact .junk hg hd hr
     .cases h
    .cases h
   .cases h
  .cases h
theorem DY {d:Option Nat}{op:Op}{Cd:Prop}{ty:TypeId}{pos:String}{af:Array Edge}{g:Option (Nat × Bool)}(h:Hi L s d op=some (s',Cd))(hc:Cd)(hk:K s'):POp P L s ⟨d,op,ty,pos,af,g⟩ K:=by
 unfold Hi at h;split at h
 .split at h
  .rename_i hx hown;split at h
   .rename_i h1;cases h;exact I0 hx hown h1 hc.2 hc.1 hk
   .cases h
  .cases h
 .split at h
  .rename_i hr;split at h
   .rename_i hz hown;cases h;exact FJ hr hz hown hc hk
   .cases h
  .cases h
 .split at h
  .rename_i r hr;split at h
   .rename_i hx;split at h
    .split at h
     .rename_i hown;split at h
      .split at h
       .rename_i hv;split at h
        .rename_i h1;cases h;obtain⟨c1,c2,c3,c4⟩:=hc;subst c1;exact Dq hr hx hown hv h1 c4 c2 c3 O hk
        .cases h
       .cases h
      .cases h
     .cases h
    .cases h
   .cases h
  .cases h
 .split at h
  .rename_i hq;cases h;exact I1 hq hc hk
  .cases h
 .cases h
def JM (P:Program)(L:b9)(ops:Array Oper)(K:St->Prop):List Oper->St->Option (Prop × Prop)
 |[],s=>some (True,K s)
 |o::rest,s=>match o with
  |⟨d,op,_,_,_,g⟩=>match gB ops s g with
   |some true=>match Hi L s d op with
    |some (s',Cd)=>some (Cd,POps P L ops K rest s')
    |none=>none
   |some false=>some (True,POps P L ops K rest (s.put d (.raw undef)))
   |none=>none
theorem zs {l:List Oper}{Cd A:Prop}(h:JM P L ops K l s=some (Cd,A))(hc:Cd)(k:A):POps P L ops K l s:=by
 cases l with
 |nil=>cases h;exact k
 |cons o rest =>
  obtain⟨d,op,ty,pos,af,g⟩:=o;unfold JM at h;dsimp only at h;split at h
  .rename_i hg;split at h
   .rename_i hs;cases h;exact .inl ⟨fy hg,DY hs hc k⟩
   .cases h
  .rename_i hg;cases h;exact .inr ⟨yX hg,k⟩
  .cases h
def JL (P:Program)(L:b9)(ops:Array Oper)(K:St->Prop):List Oper->St->Option (Prop × Prop)
 |[],s=>some (True,K s)
 |o::rest,s=>match o with
  |⟨d,op,_,_,_,g⟩=>match gB ops s g with
   |some true=>match d with
    |some d=>match qv L s op with
     |some (pv,Cd)=>some (Cd,PQuiet P L ops K rest (s.putR d pv))
     |none=>none
    |none=>none
   |some false=>some (True,PQuiet P L ops K rest (s.put d (.raw undef)))
   |none=>none
theorem zq {l:List Oper}{Cd A:Prop}(h:JL P L ops K l s=some (Cd,A))(hc:Cd)(k:A):PQuiet P L ops K l s:=by
 cases l with
 |nil=>cases h;exact k
 |cons o rest =>
  obtain⟨d,op,ty,pos,af,g⟩:=o;unfold JL at h;dsimp only at h;split at h
  .rename_i hg;split at h
   .split at h
    .rename_i hs;cases h;exact .inl ⟨fy hg,_,.v hs hc,k⟩
    .cases h
   .cases h
  .rename_i hg;cases h;exact .inr ⟨yX hg,k⟩
  .cases h
def JN (P:Program)(L:b9):Code->(Exit->St->Prop)->St->Option Prop
 |.skip,Q,s=>some (Q .normal s)
 |.region _ ops false,Q,s=>match ops with|⟨l⟩=>some (POps P L ops (Q .normal) l s)
 |.seq x y,Q,s=>some (PWP P L x (XThen (fun s'=>PWP P L y Q s') Q) s)
 |.cond c x y,Q,s=>match s.ev c with
  |.bool b=>match b with
   |true=>some (PWP P L x Q s)
   |false=>some (PWP P L y Q s)
  |_=>none
 |.block id c,Q,s=>some (PWP P L c (XBlock id Q) s)
 |.exit id,Q,s=>some (Q (.exit id) s)
 |.ret,Q,s=>some (Q .ret s)
 |_,_,_=>none
theorem zw {c:Code}{A:Prop}(h:JN P L c Q s=some A)(k:A):PWP P L c Q s:=by
 unfold JN at h;split at h
 .cases h;exact F7 k
 .cases h;exact bV k
 .cases h;exact k
 .split at h
  .rename_i hc;split at h
   .cases h;exact F9 hc k
   .cases h;exact DF hc k
  .cases h
 .cases h;exact k
 .cases h;exact FZ k
 .cases h;exact H6 k
 .cases h
def JO (next:St->Prop)(Q:Exit->St->Prop):Exit->St->Option Prop
 |.normal,s=>some (next s)
 |.ret,s=>some (Q .ret s)
 |.exit id,s=>some (Q (.exit id) s)
 |_,_=>none
theorem zx {next:St->Prop}{e:Exit}{A:Prop}(h:JO next Q e s=some A)(k:A):XThen next Q e s:=by
 unfold JO at h;split at h<;>cases h<;>exact k
def JK (id:Nat)(Q:Exit->St->Prop):Exit->St->Option Prop
 |.normal,s=>some (Q .normal s)
 |.ret,s=>some (Q .ret s)
 |.exit id',s=>match Nat.beq id' id with
  |true=>some (Q .normal s)
  |false=>some (Q (.exit id') s)
 |_,_=>none
theorem zb {id:Nat}{e:Exit}{A:Prop}(h:JK id Q e s=some A)(k:A):XBlock id Q e s:=by
 unfold JK at h;split at h
 .cases h;exact k
 .cases h;exact k
 .split at h
  .rename_i he;cases h;have:=oW he;subst this;exact GJ k
  .rename_i he;cases h;exact GI he k
 .cases h
theorem Ki {d:Nat}{op:Op}{ty:TypeId}{pos:String}{af:Array Edge}{g:Option (Nat × Bool)}{pv:PV}(hg:gB ops s g=some true)(hq:QOp P L s ⟨some d,op,ty,pos,af,g⟩ pv)(k:POps P L ops K rest (s.putR d pv)):POps P L ops K (⟨some d,op,ty,pos,af,g⟩::rest) s :=
 .inl ⟨fy hg,l5 hq k⟩
theorem Kg {d:Nat}{op:Op}{ty:TypeId}{pos:String}{af:Array Edge}{g:Option (Nat × Bool)}{pv:PV}(hg:gB ops s g=some true)(hq:QOp P L s ⟨some d,op,ty,pos,af,g⟩ pv)(k:PQuiet P L ops K rest (s.putR d pv)):PQuiet P L ops K (⟨some d,op,ty,pos,af,g⟩::rest) s :=
 .inl ⟨fy hg,_,hq,k⟩
def IU:Op->Bool
 |.next _ _=>true
 |_=>false
def JJ (P:Program)(L:b9)(ops:Array Oper)(Z:Nat->List Nat)(cls:Nat->Bool)(K:St->Prop)(i:Nat):List Oper->St->Option (Prop × Prop)
 |[],s=>some (True,K s)
 |o::rest,s=>match o with
  |⟨d,op,_,_,_,g⟩=>match gB ops s g with
   |some true=>match d with
    |some d=>match cls i with
     |true=>match qv L s op with
      |some (pv,Cd)=>some (Cd,P3 P L ops Z cls K (i+1) rest (s.putR d pv))
      |none=>none
     |false=>match qv L (s.erase (Z i)) op with
      |some (pv,Cd)=>some (Cd,P3 P L ops Z cls K (i+1) rest (s.putR d pv))
      |none=>none
    |none=>none
   |some false=>some (True,P3 P L ops Z cls K (i+1) rest (s.put d (.raw undef)))
   |none=>none
theorem z3 {Z:Nat->List Nat}{cls:Nat->Bool}{i:Nat}{l:List Oper}{Cd A:Prop}(h:JJ P L ops Z cls K i l s=some (Cd,A))(hc:Cd)(k:A):P3 P L ops Z cls K i l s:=by
 cases l with
 |nil=>cases h;exact k
 |cons o rest =>
  obtain⟨d,op,ty,pos,af,g⟩:=o;unfold JJ at h;dsimp only at h;split at h
  .rename_i hg;split at h
   .rename_i dd;split at h
    .rename_i hcl;split at h
     .rename_i hs;cases h;refine⟨_,?_,k⟩;rw[hcl];exact Step3.quiet (o:=⟨some dd,op,ty,pos,af,g⟩) (fy hg) (.v hs hc)
     .cases h
    .rename_i hcl;split at h
     .rename_i hs;cases h;refine⟨_,?_,k⟩;rw[hcl];exact Step3.free (o:=⟨some dd,op,ty,pos,af,g⟩) (fy hg) (.v hs hc)
     .cases h
   .cases h
  .rename_i hg;cases h;exact⟨_,.no (yX hg),k⟩
  .cases h
theorem Kb {Z:Nat->List Nat}{cls:Nat->Bool}{i d:Nat}{op:Op}{ty:TypeId}{pos:String}{af:Array Edge}{g:Option (Nat × Bool)}{pv:PV}(hg:gB ops s g=some true)(hc:cls i=false)(hq:QOp P L (s.erase (Z i)) ⟨some d,op,ty,pos,af,g⟩ pv)
  (k:P3 P L ops Z cls K (i+1) rest (s.putR d pv)):P3 P L ops Z cls K i (⟨some d,op,ty,pos,af,g⟩::rest) s:=by
 refine⟨_,?_,k⟩;rw[hc];exact Step3.free (o:=⟨some d,op,ty,pos,af,g⟩) (fy hg) hq
theorem Ka {Z:Nat->List Nat}{cls:Nat->Bool}{i d:Nat}{op:Op}{ty:TypeId}{pos:String}{af:Array Edge}{g:Option (Nat × Bool)}{pv:PV}(hg:gB ops s g=some true)(hc:cls i=true)(hq:QOp P L s ⟨some d,op,ty,pos,af,g⟩ pv)
  (k:P3 P L ops Z cls K (i+1) rest (s.putR d pv)):P3 P L ops Z cls K i (⟨some d,op,ty,pos,af,g⟩::rest) s:=by
 refine⟨_,?_,k⟩;rw[hc];exact Step3.quiet (o:=⟨some d,op,ty,pos,af,g⟩) (fy hg) hq
theorem pK {Z:Nat->List Nat}{cls:Nat->Bool}{i:Nat}{d:Option Nat}{op:Op}{ty:TypeId}{pos:String}{af:Array Edge}{g:Option (Nat × Bool)}(hg:gB ops s g=some true)(hc:cls i=true)(hn:IU op=false)
  (h:POp P L s ⟨d,op,ty,pos,af,g⟩ (fun s'=>(∀k,ej (Z i) k=false->s'.own k=s.own k)/\P3 P L ops Z cls K (i+1) rest s')):P3 P L ops Z cls K i (⟨d,op,ty,pos,af,g⟩::rest) s:=by
 rcases h with⟨pv,h1,h2⟩|⟨s',h1,h2⟩|h1
 .refine⟨_,?_,h2.2⟩;rw[hc];exact Step3.quiet (o:=⟨d,op,ty,pos,af,g⟩) (fy hg) h1
 .refine⟨_,?_,h2.2⟩;rw[hc];exact Step3.eff (o:=⟨d,op,ty,pos,af,g⟩) (fy hg) h1 h2.1
 .exfalso;cases h1 with
  |next ho =>
   simp only at ho;rw[ho]at hn;cases hn
theorem nR {Z:List Nat}{k g d:Nat}{c:Option Cont}{v:PV}(hz:ej Z k=true):∀q,ej Z q=false->((s.setOwn k g c).putR d v).own q=s.own q:=fun q hq=>by
 have hne:q≠k:=fun e=>by rw[e,hz]at hq;cases hq
 show(bif Nat.beq q k then _ else s.own q)=_;rw[bR hne];rfl
theorem lp {Z:List Nat}{k g:Nat}{c:Option Cont}(hz:ej Z k=true):∀q,ej Z q=false->(s.setOwn k g c).own q=s.own q:=fun q hq=>by
 have hne:q≠k:=fun e=>by rw[e,hz]at hq;cases hq
 show(bif Nat.beq q k then _ else s.own q)=_;rw[bR hne];rfl
def EN (s:St):Option Nat->Op->Option Nat
 |some d,.box _ _=>some d
 |some d,.alloc _=>some d
 |none,.store _ x _=>match s.ev x with | .ptr k _ _ _=>some k | _=>none
 |_,_=>none
def Ib (P:Program)(L:b9)(ops:Array Oper)(Z:Nat->List Nat)(cls:Nat->Bool)(K:St->Prop)(i:Nat):List Oper->St->Option (Prop × Prop)
 |[],_=>none
 |o::rest,s=>match o with
  |⟨d,op,_,_,_,g⟩=>match gB ops s g,cls i,EN s d op,IU op with
   |some true,true,some t,false=>match ej (Z i) t,Hi L s d op with
    |true,some (s',Cd)=>some (Cd,P3 P L ops Z cls K (i+1) rest s')
    |_,_=>none
   |_,_,_,_=>none
theorem BO {d:Option Nat}{op:Op}{t:Nat}{Cd:Prop}(ht:EN s d op=some t)(h:Hi L s d op=some (s',Cd)):∀q,q≠t->s'.own q=s.own q:=by
 intro q hq;have one:∀(g:Nat) (c:Option Cont),(s.setOwn t g c).own q=s.own q:=fun g c=>by
  show(bif Nat.beq q t then _ else s.own q)=_;rw[bR hq];rfl
 unfold EN at ht;split at ht
 .cases ht;unfold Hi at h;dsimp only at h;split at h
  .split at h
   .cases h;exact one _ _
   .cases h
  .cases h
 .cases ht;unfold Hi at h;dsimp only at h;split at h
  .split at h
   .cases h;exact one _ _
   .cases h
  .cases h
 .split at ht
  .rename_i hx;cases ht;unfold Hi at h;dsimp only at h;split at h
   .rw[hx]at h;dsimp only at h;split at h
    .split at h
     .split at h
      .split at h
       .split at h
        .cases h;exact one _ _
        .cases h
       .cases h
      .cases h
     .cases h
    .cases h
   .cases h
  .cases ht
 .cases ht
theorem Kd {Z:Nat->List Nat}{cls:Nat->Bool}{i:Nat}{l:List Oper}{Cd A:Prop}(h:Ib P L ops Z cls K i l s=some (Cd,A))(hc:Cd)(k:A):P3 P L ops Z cls K i l s:=by
 cases l with
 |nil=>cases h
 |cons o rest =>
  obtain⟨d,op,ty,pos,af,g⟩:=o;unfold Ib at h;dsimp only at h;split at h
  .rename_i hg hcl ht hn;split at h
   .rename_i hz hs;cases h;exact pK hg hcl hn (DY hs hc ⟨fun q hq=>BO ht hs q (fun e=>by rw[e,hz]at hq;cases hq),k⟩)
   .cases h
  .cases h
theorem j5 {Z:Nat->List Nat}{cls:Nat->Bool}{i d e j:Nat}{op:Op}{ty:TypeId}{pos:String}{af:Array Edge}{want b:Bool}(_hd:(ops[j]?).bind (·.dst)=some e)(hr:s.reg e=.bool b)
  (h1:b=true->P3 P L ops Z cls K i (⟨some d,op,ty,pos,af,some (j,want)⟩::rest) (s.putR e (.bool true))) (h0:b=false->P3 P L ops Z cls K i (⟨some d,op,ty,pos,af,some (j,want)⟩::rest) (s.putR e (.bool false))) :
  P3 P L ops Z cls K i (⟨some d,op,ty,pos,af,some (j,want)⟩::rest) s:=by
 have:=kM hr;cases b
 .rw[<-this];exact h0 O
 .rw[<-this];exact h1 O
class Nx (G0:Prop) where
 nx:Option (Prop × Prop)
 ok:∀Cd A,nx=some (Cd,A)->Cd->A->G0
theorem JP {G0:Prop}[i:Nx G0]{Cd A:Prop}(h:i.nx=some (Cd,A))(hc:Cd)(k:A):G0:=i.ok Cd A h hc k
instance {l:List Oper}:Nx (POps P L ops K l s):=⟨JM P L ops K l s,fun _ _ h hc k=>zs h hc k⟩
instance {l:List Oper}:Nx (PQuiet P L ops K l s):=⟨JL P L ops K l s,fun _ _ h hc k=>zq h hc k⟩
def Jm (a b:Option (Prop × Prop)):Option (Prop × Prop):=match a with
 |some x=>some x
 |none=>b
instance {Z:Nat->List Nat} {cls:Nat->Bool} {i:Nat} {l:List Oper}:Nx (P3 P L ops Z cls K i l s):=⟨Jm (JJ P L ops Z cls K i l s) (Ib P L ops Z cls K i l s),fun _ _ h hc k=>by
 unfold Jm at h;split at h
 .cases h;exact z3 ‹_› hc k
 .exact Kd h hc k⟩
def Jd:Option Prop->Option (Prop × Prop)
 |some A=>some (True,A)
 |none=>none
theorem q8 {a:Option Prop}{Cd A:Prop}(h:Jd a=some (Cd,A)):a=some A:=by
 unfold Jd at h;split at h
 .cases h;rfl
 .cases h
instance {c:Code}:Nx (PWP P L c Q s):=⟨Jd (JN P L c Q s),fun _ _ h _ k=>zw (q8 h) k⟩
instance {next:St->Prop} {e:Exit}:Nx (XThen next Q e s):=⟨Jd (JO next Q e s),fun _ _ h _ k=>zx (q8 h) k⟩
instance {id:Nat} {e:Exit}:Nx (XBlock id Q e s):=⟨Jd (JK id Q e s),fun _ _ h _ k=>zb (q8 h) k⟩
class Qx (G0:Prop) (P:outParam Program) (L:outParam b9) (s:outParam St) (ops:outParam (Array Oper)) (l:outParam (List Oper)) (K:outParam (List Oper->Nat->PV->Prop)) where
 ok:∀(d:Nat) (op:Op) (ty:TypeId) (pos:String) (af:Array Edge) (g:Option (Nat × Bool)) (rest:List Oper) (pv:PV),l=⟨some d,op,ty,pos,af,g⟩::rest->gB ops s g=some true->QOp P L s ⟨some d,op,ty,pos,af,g⟩ pv->K rest d pv->G0
instance {l:List Oper}:Qx (POps P L ops K l s) P L s ops l (fun rest d pv=>POps P L ops K rest (s.putR d pv)) :=
 ⟨fun _ _ _ _ _ _ _ _ hl hg hq k=>by subst hl;exact Ki hg hq k⟩
instance {l:List Oper}:Qx (PQuiet P L ops K l s) P L s ops l (fun rest d pv=>PQuiet P L ops K rest (s.putR d pv)) :=
 ⟨fun _ _ _ _ _ _ _ _ hl hg hq k=>by subst hl;exact Kg hg hq k⟩
def St.era (Z:List Nat)(c:Bool)(s:St):St:=match c with
 |true=>s
 |false=>s.erase Z
theorem HP {Z:List Nat}{c:Bool}{g:Option (Nat × Bool)}:gB ops (s.era Z c) g=gB ops s g:=by cases c<;>rfl
instance {Z:Nat->List Nat} {cls:Nat->Bool} {i:Nat} {l:List Oper}:Qx (P3 P L ops Z cls K i l s) P L (s.era (Z i) (cls i)) ops l (fun rest d pv=>P3 P L ops Z cls K (i+1) rest (s.putR d pv)) :=
 ⟨fun _ _ _ _ _ _ _ _ hl hg hq k=>by
  subst hl;rw[HP]at hg;cases hc:cls i with
  |true=>rw[hc]at hq;exact Ka hg hc hq k
  |false=>rw[hc]at hq;exact Kb hg hc hq k⟩
def Jn (P:Program)(L:b9)(ops:Array Oper)(Z:List Nat)(lc:Nat->Option Nat)(K:St->Prop)(i:Nat):List Oper->St->Option (Prop × Prop)
 |[],s=>some (True,K s)
 |o::rest,s=>match o with
  |⟨d,op,_,_,_,g⟩=>match gB ops s g with
   |some true=>match d with
    |some d=>match qv L (s.erase Z) op with
     |some (pv,Cd)=>some (Cd,P5 P L ops Z lc K (i+1) rest (s.putR d pv))
     |none=>none
    |none=>none
   |some false=>some (True,P5 P L ops Z lc K (i+1) rest (s.put d (.raw undef)))
   |none=>none
theorem z5 {Z:List Nat}{lc:Nat->Option Nat}{i:Nat}{l:List Oper}{Cd A:Prop}(h:Jn P L ops Z lc K i l s=some (Cd,A))(hc:Cd)(k:A):P5 P L ops Z lc K i l s:=by
 cases l with
 |nil=>cases h;exact k
 |cons o rest =>
  obtain⟨d,op,ty,pos,af,g⟩:=o;unfold Jn at h;dsimp only at h;split at h
  .rename_i hg;split at h
   .rename_i dd;split at h
    .rename_i hs;cases h;exact⟨_,Step5.free (o:=⟨some dd,op,ty,pos,af,g⟩) (fy hg) (.v hs hc),k⟩
    .cases h
   .cases h
  .rename_i hg;cases h;exact⟨_,.no (yX hg),k⟩
  .cases h
instance {Z:List Nat} {lc:Nat->Option Nat} {i:Nat} {l:List Oper}:Nx (P5 P L ops Z lc K i l s):=⟨Jn P L ops Z lc K i l s,fun _ _ h hc k=>z5 h hc k⟩
theorem CO {Z:List Nat}{g:Option (Nat × Bool)}:gB ops (s.erase Z) g=gB ops s g:=rfl
instance {Z:List Nat} {lc:Nat->Option Nat} {i:Nat} {l:List Oper}:Qx (P5 P L ops Z lc K i l s) P L (s.erase Z) ops l (fun rest d pv=>P5 P L ops Z lc K (i+1) rest (s.putR d pv)) :=
 ⟨fun _ _ _ _ _ _ _ _ hl hg hq k=>by
  subst hl;rw[CO]at hg
  exact⟨_,Step5.free (o:=⟨some _,_,_,_,_,_⟩) (fy hg) hq,k⟩⟩
theorem Iu {Z:List Nat}{lc:Nat->Option Nat}{i d:Nat}{T ty:TypeId}{r:LRow}{z:List PV}{pos:String}{af:Array Edge}{g:Option (Nat × Bool)}(hg:gB ops s g=some true)(hc:lc i=some d)(hr:L T=some r)(hz:r.zero=some z)(h0:Nat.blt 0 z.length=true)
  (h:P5 P L ops Z lc K (i+1) rest ((s.setOwn d ((s.own d).1+1) (some ⟨T,z.length,[z],2⟩)).putR d (.ptr d ((s.own d).1+1) 0 0))):P5 P L ops Z lc K i (⟨some d,.alloc T,ty,pos,af,g⟩::rest) s:=by
 refine⟨_,?_,h⟩;rw[hc];exact Step5.loc (o:=⟨some d,.alloc T,ty,pos,af,g⟩) (fy hg) (.alloc O O hr hz (by simpa using h0))
theorem Iv {Z:List Nat}{lc:Nat->Option Nat}{i k gn ii j:Nat}{T ty:TypeId}{r:LRow}{x y:Operand}{c:Cont}{row:List PV}{Pr:Prop}{pos:String}{af:Array Edge}{g:Option (Nat × Bool)}(kd:Nat)(hg:gB ops s g=some true)(hc:lc i=some k)(hr:L T=some r)(hx:s.ev x=.ptr k gn ii j)(hown:s.own k=(gn,some c))
  (hrow:c.rows[ii]?=some row) (h1:∀s':St,dR s' (s.ev y).cells=some Pr) (h2:Pr) (hsz:(s.ev y).cells.length=r.size) (hle:Nat.ble (j+r.size) row.length=true) (hk:Nat.ble c.kind kd=true) (hkd:(s.ev y).cells.all (oS kd)=true)
  (h:P5 P L ops Z lc K (i+1) rest (s.setOwn k gn (some ⟨c.ty,c.sz,c.rows.set ii (ma row j ((s.ev y).cells.map (gv kd))),kd⟩))):P5 P L ops Z lc K i (⟨none,.store T x y,ty,pos,af,g⟩::rest) s:=by
 refine⟨_,?_,h⟩;rw[hc];exact Step5.loc (o:=⟨none,.store T x y,ty,pos,af,g⟩) (fy hg) (.store kd O O hr hx hown hrow h1 h2 hsz (by simpa using hle) (by simpa using hk) hkd)
theorem bX {G0:Prop}{P:Program}{L:b9}{s:St}{ops:Array Oper}{l:List Oper}{K:List Oper->Nat->PV->Prop}[i:Qx G0 P L s ops l K]{d:Nat}{op:Op}{ty:TypeId}{pos:String}{af:Array Edge}{g:Option (Nat × Bool)}{rest:List Oper}{pv:PV}
  (hl:l=⟨some d,op,ty,pos,af,g⟩::rest) (hb:gB ops s g=some true) (hq:QOp P L s ⟨some d,op,ty,pos,af,g⟩ pv) (k:K rest d pv):G0:=i.ok d op ty pos af g rest pv hl hb hq k
end
section
def HR:PV->Bool
 |.als _ _ _ _ | .ptr _ _ _ _ | .mp _ _ | .raw _ | .agg _ | .tup _ | .mi _ _ | .yl _ _ | .lbl _ _ _ _ _ _ | .dfd=>false
 |_=>true
def HZ:List PV->Prop
 |[]=>True
 |_::cs=>True/\HZ cs
theorem wo (s:St):∀l:List PV,l.all HR=true->dR s l=some (HZ l)
 |[],_=>rfl
 |c::cs,h=>by
  simp only[kH,bj]at h;have h1:mW s c=some True:=by cases c<;>first|rfl|(simp[HR]at h)
  unfold dR;rw[h1,wo s cs h.2];rfl
theorem zH:∀l,HZ l
 |[]=>trivial
 |_::l=>⟨trivial,zH l⟩
def Jj (l:List (Nat × Nat)):Nat->Option Nat:=te l
variable [Globs]
variable {P:Program}{L:b9}{s:St}{ops:Array Oper}{K:St->Prop}{Q:Exit->St->Prop}
def Ic (P:Program)(L:b9)(ops:Array Oper)(Z:List Nat)(lc:Nat->Option Nat)(K:St->Prop)(i:Nat):List Oper->St->Option (Prop × Prop)
 |[],_=>none
 |o::rest,s=>match o with
  |⟨some d,.alloc T,_,_,_,g⟩=>match gB ops s g,lc i,L T with
   |some true,some t,some r=>match r.zero with
    |some z=>some (t=d/\Nat.blt 0 z.length=true,P5 P L ops Z lc K (i+1) rest ((s.setOwn d ((s.own d).1+1) (some ⟨T,z.length,[z],2⟩)).putR d (.ptr d ((s.own d).1+1) 0 0)))
    |none=>none
   |_,_,_=>none
  |⟨none,.store T x y,_,_,_,g⟩=>match gB ops s g,lc i,L T,s.ev x with
   |some true,some t,some r,.ptr k gn ii j=>match s.own k with
    |(gn',some c)=>match c.rows[ii]? with
     |some row=>some (t=k/\gn'=gn/\(s.ev y).cells.all HR=true/\(s.ev y).cells.length=r.size/\Nat.ble (j+r.size) row.length=true/\Nat.ble c.kind 2=true/\(s.ev y).cells.all (oS 2)=true,
       P5 P L ops Z lc K (i+1) rest (s.setOwn k gn (some ⟨c.ty,c.sz,c.rows.set ii (ma row j ((s.ev y).cells.map (gv 2))),2⟩)))
     |none=>none
    |_=>none
   |_,_,_,_=>none
  |_=>none
theorem Ke {Z:List Nat}{lc:Nat->Option Nat}{i:Nat}{l:List Oper}{Cd A:Prop}(h:Ic P L ops Z lc K i l s=some (Cd,A))(hc:Cd)(k:A):P5 P L ops Z lc K i l s:=by
 cases l with
 |nil=>cases h
 |cons o rest =>
  unfold Ic at h;dsimp only at h;split at h
  .split at h
   .rename_i hg hl hr;split at h
    .rename_i hz;cases h;obtain⟨rfl,h0⟩:=hc;exact Iu hg hl hr hz h0 k
    .cases h
   .cases h
  .split at h
   .rename_i hg hl hr hx;split at h
    .rename_i hown;split at h
     .rename_i hrow;cases h;obtain⟨rfl,rfl,h1,h2,h3,h4,h5⟩:=hc;exact Iv 2 hg hl hr hx hown hrow (fun s'=>wo s' _ h1) (zH _) h2 h3 h4 h5 k
     .cases h
    .cases h
   .cases h
  .cases h
instance {Z:List Nat} {l:List (Nat × Nat)} {i:Nat} {os:List Oper}:Nx (P5 P L ops Z (Jj l) K i os s):=⟨Jm (Jn P L ops Z (Jj l) K i os s) (Ic P L ops Z (Jj l) K i os s),fun _ _ h hc k=>by
 unfold Jm at h;split at h
 .cases h;exact z5 ‹_› hc k
 .exact Ke h hc k⟩
theorem cp {id:Nat}{ops:List Oper}(l:List (Nat × Nat))(hok:gC ops.toArray []=true)(hlc:xT ops.toArray l=true)(h:P5 P L ops.toArray (l.map (·.2)) (Jj l) (Q .normal) 0 ops s):PWP P L (.region id ops.toArray true) Q s:=qG l hok hlc h
end
theorem g_ {G0:Prop}[i:Nx G0]{Cd A:Prop}(h:i.nx=some (Cd,A))(k:A)(hc:Cd:=by((repeat' constructor);first|done|fail)):G0:=JP h hc k
theorem Ab {G0:Prop}[i:Nx G0]{Cd A:Prop}(h:i.nx=some (Cd,A))(k:A)(hc:Cd:=by((repeat' (first|exact True.intro|exact rfl|refine And.intro ?_ ?_));first|done|fail)):G0:=JP h hc k
theorem JF {P:Program}{L:b9}{s:St}{d:Nat}{ty:TypeId}{pos:String}{af:Array Edge}{g:Option (Nat × Bool)}{fop:Operand}{args:Array Operand}{tys:Array TypeId}{f:FuncId}{caps pargs:List PV}{Cd:Prop}{b:Fl}{rr:PV}(hf:s.ev fop=.clo f caps)(hret:Ret P .shared f pargs rr)(hres:fK (fJ s 4) (args.toList.map s.ev++caps)=some (pargs,Cd,b))(hb:b.cl=true)(hc:Cd:=by((repeat' constructor);first|done|fail)):QOp P L s ⟨some d,.call ⟨.value fop,args,tys⟩,ty,pos,af,g⟩ rr:=eL hf hret hres hc hb
theorem I7 {G0:Prop}{P:Program}{L:b9}{s:St}{ops:Array Oper}{l:List Oper}{K:List Oper->Nat->PV->Prop}[i:Qx G0 P L s ops l K]{d:Nat}{ty:TypeId}{pos:String}{af:Array Edge}{g:Option (Nat × Bool)}{rest:List Oper}{fop:Operand}{args:Array Operand}{tys:Array TypeId}{f:FuncId}{caps pargs:List PV}{Cd:Prop}{b:Fl}{rr rf:PV}(hl:l=⟨some d,.call ⟨.value fop,args,tys⟩,ty,pos,af,g⟩::rest)(hb:gB ops s g=some true)(hf:s.ev fop=.clo f caps)(hret:Ret P .shared f pargs rr)(hres:fK (fJ s 4) (args.toList.map s.ev++caps)=some (pargs,Cd,b))(hfl:rr.flat=true)(hrf:rr.frs.fz=some rf)(k:K rest d rf)(hc:Cd:=by((repeat' constructor);first|done|fail)):G0:=bX hl hb (pA hf hret hres hc hfl hrf) k
theorem JZ {G0:Prop}{P:Program}{L:b9}{s:St}{ops:Array Oper}{l:List Oper}{K:List Oper->Nat->PV->Prop}[i:Qx G0 P L s ops l K]{d:Nat}{ty:TypeId}{pos:String}{af:Array Edge}{g:Option (Nat × Bool)}{rest:List Oper}{fop:Operand}{args:Array Operand}{tys:Array TypeId}{f:FuncId}{caps pargs:List PV}{Cd:Prop}{b:Fl}{rr rf:PV}(hl:l=⟨some d,.call ⟨.value fop,args,tys⟩,ty,pos,af,g⟩::rest)(hb:gB ops s g=some true)(hf:s.ev fop=.clo f caps)(hret:Ret P .fresh f pargs rr)(hres:fK (fJ s 4) (args.toList.map s.ev++caps)=some (pargs,Cd,b))(hrf:rr.frs.fz=some rf)(k:K rest d rf)(hc:Cd:=by((repeat' constructor);first|done|fail)):G0:=bX hl hb (zP hf hret hres hc hrf) k
theorem yd {G0:Prop}{P:Program}{L:b9}{s:St}{ops:Array Oper}{l:List Oper}{K:List Oper->Nat->PV->Prop}[i:Qx G0 P L s ops l K]{d:Nat}{ty:TypeId}{pos:String}{af:Array Edge}{g:Option (Nat × Bool)}{rest:List Oper}{fop:Operand}{args:Array Operand}{tys:Array TypeId}{f:FuncId}{caps pargs:List PV}{Cd:Prop}{b:Fl}{rr:PV}(hl:l=⟨some d,.call ⟨.value fop,args,tys⟩,ty,pos,af,g⟩::rest)(hb:gB ops s g=some true)(hf:s.ev fop=.clo f caps)(hret:Ret P .shared f pargs rr)(hres:fK (fJ s 4) (args.toList.map s.ev++caps)=some (pargs,Cd,b))(hb2:b.cl=true)(k:K rest d rr)(hc:Cd:=by((repeat' constructor);first|done|fail)):G0:=bX hl hb (eL hf hret hres hc hb2) k
theorem Gb {G0:Prop}{P:Program}{L:b9}{s:St}{ops:Array Oper}{l:List Oper}{K:List Oper->Nat->PV->Prop}[i:Qx G0 P L s ops l K]{d:Nat}{ty:TypeId}{pos:String}{af:Array Edge}{g:Option (Nat × Bool)}{rest:List Oper}{T E:TypeId}{r re:LRow}{x ix:Operand}{kk:IntKind}{n:Int}{α:Type}{enc:α->List PV}{ls:List α}{a:α}(hl:l=⟨some d,.indexAddr T x ix,ty,pos,af,g⟩::rest)(hb:gB ops s g=some true)(hr:L T=some r)(hs:r.sh=.sl E)(hre:L E=some re)(hx:s.ev x=.sl (ls.map enc))(hix:s.ev ix=.int kk n)(hget:ls[n.toNat]?=some a)(hlen:(enc a).length=re.size)(k:K rest d (.dref (enc a) 0))(h0:0<=n:=by omega):G0:=bX hl hb (ka hr hs hre hx hix h0 hget hlen) k
theorem kP {G0:Prop}{P:Program}{L:b9}{s:St}{ops:Array Oper}{l:List Oper}{K:List Oper->Nat->PV->Prop}[i:Qx G0 P L s ops l K]{d:Nat}{ty:TypeId}{pos:String}{af:Array Edge}{g:Option (Nat × Bool)}{rest:List Oper}{T E:TypeId}{r re:LRow}{x ix:Operand}{kk:IntKind}{n:Int}{st gn i0 m:Nat}{c:Cont}(hl:l=⟨some d,.indexAddr T x ix,ty,pos,af,g⟩::rest)(hb:gB ops s g=some true)(hr:L T=some r)(hs:r.sh=.sl E)(hre:L E=some re)(hx:s.ev x=.als st gn i0 m)(hown:s.own st=(gn,some c))(hsz:c.sz=re.size)(hix:s.ev ix=.int kk n)(k:K rest d (.ptr st gn (i0+n.toNat) 0))(h0:0<=n:=by omega)(hlt:n<m:=by omega):G0:=bX hl hb (co hr hs hre hx hown hsz hix h0 hlt) k
class Sx (G0:Prop) (ops:outParam (Array Oper)) (l:outParam (List Oper)) (s:outParam St) (F:outParam (St->Prop)):Prop where
 ok:F s->G0
instance {P:Program} {L:b9} {ops:Array Oper} {K:St->Prop} {l:List Oper} {s:St}:Sx (POps P L ops K l s) ops l s (fun s'=>POps P L ops K l s'):=⟨fun h=>h⟩
instance {P:Program} {L:b9} {ops:Array Oper} {K:St->Prop} {l:List Oper} {s:St}:Sx (PQuiet P L ops K l s) ops l s (fun s'=>PQuiet P L ops K l s'):=⟨fun h=>h⟩
instance {P:Program} {L:b9} {ops:Array Oper} {K:St->Prop} {l:List Oper} {s:St} {Z:Nat->List Nat} {cls:Nat->Bool} {i:Nat}:Sx (P3 P L ops Z cls K i l s) ops l s (fun s'=>P3 P L ops Z cls K i l s'):=⟨fun h=>h⟩
theorem J1 {G0:Prop}{ops:Array Oper}{l:List Oper}{s:St}{F:St->Prop}[i:Sx G0 ops l s F]{j e:Nat}{want b:Bool}(_hl:l.head?.bind (·.guard)=some (j,want))(_hd:(ops[j]?).bind (·.dst)=some e)(hr:s.reg e=.bool b)(h1:b=true->F (s.putR e (.bool true)))(h0:b=false->F (s.putR e (.bool false))):G0:=by
 have:=kM hr;cases b
 .have q:=h0 O;rw[this]at q;exact i.ok q
 .have q:=h1 O;rw[this]at q;exact i.ok q
theorem im (k:Nat)(h:k<=9223372036854775806:=by omega):IntKind.i64.wrap (((k:Nat):Int)+1)=((k+1:Nat):Int):=by rw[wrap_i64 J J];omega
theorem H {G0 G':Prop}(k:G')(hr:G'->G0:=by(intro k;(repeat refine g_ O ?_);exact k)):G0:=hr k
theorem aB {G0 G':Prop}{P:Program}{L:b9}{s:St}{ops:Array Oper}{l:List Oper}{K:List Oper->Nat->PV->Prop}{d:Nat}{ty:TypeId}{pos:String}{af:Array Edge}{g:Option (Nat × Bool)}{rest:List Oper}{fop:Operand}{args:Array Operand}{tys:Array TypeId}{f:FuncId}{caps pargs:List PV}{Cd:Prop}{b:Fl}{rr rf:PV}(hret:Ret P .shared f pargs rr)(k:K rest d rf)(hr:G'->G0:=by(intro k;(repeat refine g_ O ?_);exact k))(i:Qx G' P L s ops l K:=by infer_instance)(hl:l=⟨some d,.call ⟨.value fop,args,tys⟩,ty,pos,af,g⟩::rest:=by exact O)(hb:gB ops s g=some true:=by exact O)(hf:s.ev fop=.clo f caps:=by exact O)(hres:fK (fJ s 4) (args.toList.map s.ev++caps)=some (pargs,Cd,b):=by exact O)(hfl:rr.flat=true:=by exact O)(hrf:rr.frs.fz=some rf:=by exact O)(hc:Cd:=by((repeat' constructor);first|done|fail)):G0:=hr (I7 (i:=i) hl hb hf hret hres hfl hrf k hc)
theorem I6 {G0 G':Prop}{P:Program}{L:b9}{s:St}{ops:Array Oper}{l:List Oper}{K:List Oper->Nat->PV->Prop}{d:Nat}{ty:TypeId}{pos:String}{af:Array Edge}{g:Option (Nat × Bool)}{rest:List Oper}{fop:Operand}{args:Array Operand}{tys:Array TypeId}{f:FuncId}{caps pargs:List PV}{Cd:Prop}{b:Fl}{rr rf:PV}(hret:Ret P .fresh f pargs rr)(k:K rest d rf)(hr:G'->G0:=by(intro k;(repeat refine g_ O ?_);exact k))(i:Qx G' P L s ops l K:=by infer_instance)(hl:l=⟨some d,.call ⟨.value fop,args,tys⟩,ty,pos,af,g⟩::rest:=by exact O)(hb:gB ops s g=some true:=by exact O)(hf:s.ev fop=.clo f caps:=by exact O)(hres:fK (fJ s 4) (args.toList.map s.ev++caps)=some (pargs,Cd,b):=by exact O)(hrf:rr.frs.fz=some rf:=by exact O)(hc:Cd:=by((repeat' constructor);first|done|fail)):G0:=hr (JZ (i:=i) hl hb hf hret hres hrf k hc)
theorem G {G0 G':Prop}{P:Program}{L:b9}{s:St}{ops:Array Oper}{l:List Oper}{K:List Oper->Nat->PV->Prop}{d:Nat}{ty:TypeId}{pos:String}{af:Array Edge}{g:Option (Nat × Bool)}{rest:List Oper}{fop:Operand}{args:Array Operand}{tys:Array TypeId}{f:FuncId}{caps pargs:List PV}{Cd:Prop}{b:Fl}{rr:PV}(hret:Ret P .shared f pargs rr)(k:K rest d rr)(hr:G'->G0:=by(intro k;(repeat refine g_ O ?_);exact k))(i:Qx G' P L s ops l K:=by infer_instance)(hl:l=⟨some d,.call ⟨.value fop,args,tys⟩,ty,pos,af,g⟩::rest:=by exact O)(hb:gB ops s g=some true:=by exact O)(hf:s.ev fop=.clo f caps:=by exact O)(hres:fK (fJ s 4) (args.toList.map s.ev++caps)=some (pargs,Cd,b):=by exact O)(hb2:b.cl=true:=by exact O)(hc:Cd:=by((repeat' constructor);first|done|fail)):G0:=hr (yd (i:=i) hl hb hf hret hres hb2 k hc)
theorem aZ {G0 G':Prop}{P:Program}{L:b9}{s:St}{ops:Array Oper}{l:List Oper}{K:List Oper->Nat->PV->Prop}{d:Nat}{ty:TypeId}{pos:String}{af:Array Edge}{g:Option (Nat × Bool)}{rest:List Oper}{T E:TypeId}{r re:LRow}{x ix:Operand}{kk:IntKind}{n:Int}{α:Type}{enc:α->List PV}{ls:List α}{a:α}{m:Nat}(hget:ls[m]?=some a)(k:K rest d (.dref (enc a) 0))(hr:G'->G0:=by(intro k;(repeat refine g_ O ?_);exact k))(i:Qx G' P L s ops l K:=by infer_instance)(hl:l=⟨some d,.indexAddr T x ix,ty,pos,af,g⟩::rest:=by exact O)(hb:gB ops s g=some true:=by exact O)(hr2:L T=some r:=by exact O)(hs:r.sh=.sl E:=by exact O)(hre:L E=some re:=by exact O)(hx:s.ev x=.sl (ls.map enc):=by exact O)(hix:s.ev ix=.int kk n:=by exact O)(hm:n.toNat=m:=by exact O)(hlen:(enc a).length=re.size:=by exact O)(h0:0<=n:=by omega):G0:=by subst hm;exact hr (Gb (i:=i) hl hb hr2 hs hre hx hix hget hlen k h0)
theorem D {G0:Prop}{P:Program}{L:b9}{Q:Exit->St->Prop}{s:St}{c:Operand}{x y:Code}{b:Bool}(h1:b=true->PWP P L x Q s)(h2:b=false->PWP P L y Q s)(hr:PWP P L (.cond c x y) Q s->G0:=by(intro k;(repeat refine g_ O ?_);exact k))(hc:s.ev c=.bool b:=by exact O):G0:=hr (cO hc h1 h2)
theorem fZ {G0 G':Prop}{ops:Array Oper}{l:List Oper}{s:St}{F:St->Prop}{j e:Nat}{want b:Bool}(h1:b=true->F (s.putR e (.bool true)))(h0:b=false->F (s.putR e (.bool false)))(hr:G'->G0:=by(intro k;(repeat refine g_ O ?_);exact k))(i:Sx G' ops l s F:=by infer_instance)(hl:l.head?.bind (·.guard)=some (j,want):=by exact O)(hd:(ops[j]?).bind (·.dst)=some e:=by exact O)(hg:s.reg e=.bool b:=by exact O):G0:=hr (J1 (i:=i) hl hd hg h1 h0)
theorem dL {G0:Prop}{fn:Func}{L:b9}{s:St}{r:PV}{t:Nat}{k:IntKind}{n:Int}(hr:RetPost L fn .shared r .ret s->G0:=by(intro k;(repeat refine g_ O ?_);exact k))(h:fn.results.toList=[.tmp t]:=by exact O)(hv:s.reg t=.int k n:=by exact O)(hd:PV.int k n=r:=by exact O):G0:=hr (rR h hv hd)
theorem rq {G0:Prop}{fn:Func}{L:b9}{s:St}{r:PV}{t:Nat}{b:Bool}(hr:RetPost L fn .shared r .ret s->G0:=by(intro k;(repeat refine g_ O ?_);exact k))(h:fn.results.toList=[.tmp t]:=by exact O)(hv:s.reg t=.bool b:=by exact O)(hd:PV.bool b=r:=by exact O):G0:=hr (jU h hv hd)
theorem dg {G0:Prop}{P:Program}{L:b9}{Q:Exit->St->Prop}{s:St}{id:Nat}{l:List Oper}(n:Nat)(ds:List Nat)(h:PQuiet P L l.toArray (fun s'=>POps P L l.toArray (Q .normal) (l.drop n) s') (l.take n) s)(hr:PWP P L (.region id l.toArray true) Q s->G0:=by(intro k;(repeat refine g_ O ?_);exact k))(hok:nG l.toArray n ds=true:=by decide +kernel):G0:=hr (nb n ds hok h)
def JU (_:Nat):Prop:=True
theorem J3 {n:Nat}{P:Program}{L:b9}{s:St}{ops:Array Oper}{d:Bool}{Q:Exit->St->Prop}(_:JU n)(h:PWP P L (.region n ops d) Q s):PWP P L (.region n ops d) Q s:=h
theorem dN (n:Nat){G0 G':Prop}(k:G')(hr:JU n->G'->G0:=by(intro e k;(repeat ((fail_if_success (with_reducible refine J3 e ?_));refine Ab O ?_));exact k)):G0:=hr trivial k
theorem An (z:Int)(h1 : -9223372036854775808<=z:=by omega)(h2:z<=9223372036854775807:=by omega):IntKind.i64.wrap z=z:=wrap_i64 h1 h2
end Go.Pv
namespace Go.Pv
open Go.RowKit
variable [Globs]
section
variable {L:b9}{s:St}{fn:Func}{r:PV}
end
end Go.Pv
namespace Go.Pv
open Go.RowKit
def j6:PV->Bool
 |.int _ _ | .bool _ | .str _=>true
 |_=>false
theorem sf {E:Env}{c:PV}{v:Value}(h:j6 c=true)(hr:Rep E c v):v=scv c:=by
 cases c<;>simp only[j6,cF]at h
 .exact hr.bool_inv
 .exact hr.int_inv
 .exact hr.str_inv
theorem gV {c:PV}(h:j6 c=true)(w:World)(ok:Nat->Prop):DRep w ok c (scv c)/\(scv c).oneCell'=true:=by
 cases c<;>simp only[j6,cF]at h
 .exact⟨.bool _,O⟩
 .exact⟨.int _ _,O⟩
 .exact⟨.str _,O⟩
variable [Globs]
theorem yc {P:Program}{L:b9}{s:St}{d:Nat}{ty:TypeId}{pos:String}{af:Array Edge}{g:Option (Nat × Bool)}{T E:TypeId}{x hi:Operand}{r re:LRow}{α:Type}{enc:α->List PV}{l:List α}{k:IntKind}{n:Int}(hr:L T=some r)(hs:r.sh=.sl E)(hre:L E=some re)
  (hx:s.ev x=.sl (l.map enc)) (hix:s.ev hi=.int k n) (h0:0<=n) (hle:n<=l.length) (hlen:∀a,(enc a).length=re.size):QOp P L s ⟨some d,.slice T x none (some hi) none,ty,pos,af,g⟩ (.sl ((l.take n.toNat).map enc)):=by
 have:=QOp.slh (P:=P) (L:=L) (s:=s) (o:=⟨some d,.slice T x none (some hi) none,ty,pos,af,g⟩) O hr hs hre hx hix h0 (by simpa using hle) (by intro row h;obtain⟨a,_,rfl⟩:=bF.1 h;exact hlen a);rwa [<-jc]at this
theorem Ghost.nilfs {s:St}{t:Nat}(hr:s.reg t=.nil):Ghost s (s.putR t (.fsl [])):=by
 intro C a w hX ⟨γ,h⟩;refine⟨γ,h.defers,h.size,fun r=>?_,h.sites,h.inj,h.base,h.below,h.top,h.kept⟩;show Rep _ (bif Nat.beq r t then _ else s.reg r) _;by_cases hrt:r=t
 .subst hrt;have hp:=h.regs r;rw[hr]at hp;simp only[jh,cond_true];rw[hp.nil_inv];exact .fsl (.sl0 _ _)
 .rw[bR hrt];exact h.regs r
theorem Ghost.takeF {s:St}{k g t n kd sz:Nat}{T:TypeId}{rows:List (List PV)}{α:Type}{enc:α->List PV}(l:List α)(ho:s.own k=(g,some ⟨T,sz,rows,kd⟩))(hr:s.reg t=.als k g 0 n)(he:rows=l.map enc)(hn:n=rows.length)(hpl:∀x,(enc x).all j6=true) :
  Ghost s ((s.setOwn k (g+1) none).putR t (.fsl (l.map enc))):=by
 intro C a w hX ⟨γ,h⟩;subst hn;subst he;obtain⟨h1,hle,_⟩:=h.drop hX ho;refine⟨γ,h1.defers,h1.size,fun r=>?_,h1.sites,h1.inj,h1.base,h1.below,h1.top,h1.kept⟩;show Rep _ (bif Nat.beq r t then _ else(s.setOwn k (g+1) none).reg r) _;by_cases hrt:r=t
 .subst hrt;have hp:=h.regs r;rw[hr]at hp;simp only[jh,cond_true];refine .fsl ?_;rcases h.als_at hp ho with⟨q1,_,q3,q4⟩|⟨b,cap,cur,q1,q2,q3,q4,q5,q6,q7⟩
  .have:l.map enc=[]:=(h.sites k _ (by rw[ho])).emp q1;rw[this,q4];exact .sl0 _ _
  .obtain⟨cur',g1,g2,g3,g4,g5⟩:=h.site_at ho q1 (h.cells_sz ho q1 q3 q6);have hb:(ai C γ (s.setOwn k (g+1) none) w).okf b:=by
    have hbase:=h.base k _ b (by rw[ho]) q1;refine⟨hbase.1,hbase.2,fun hx=>?_,fun k' c' hc' hb'=>?_⟩
    .have:=hX b hx;omega
    .by_cases hk':k'=k
     .subst hk';rw[ah]at hc';cases hc'
     .rw[ar hk']at hc';exact hk' (h.inj k' k c' _ b hc' (by rw[ho]) hb' q1)
   rw[q2];simp only[fT];refine .sl (l.map enc) b 0 cap sz (fun i j=>cur'.getD (i*sz+j) undef) hb g2 q4 g4 (fun i j row pv e1 e2=>?_) (fun i j row pv e1 e2=>?_)
   .obtain⟨u,f1,f2,_⟩:=g5 i j row pv e1 e2;have g1:w.heap[b]?=some (.cells cur' T (0,0)):=g1;show w.cell? _=_/\_;rw[bc g1,aG,f1];simp[f1,f2]
   .obtain⟨u,f1,_,f3⟩:=g5 i j row pv e1 e2;have hu:cur'.getD (i*sz+j) undef=u:=by simp[f1]
    simp only[hu];rw[aV,jk]at e1;obtain⟨y,_,rfl⟩:=e1;have hpv:=bx.1 (hpl y) _ (bG e2);rw[sf hpv (f3.rep aI)];exact(gV hpv _ _).1
 .rw[bR hrt];exact h1.regs r
theorem Ret.shared_of_fresh {P:Program}{f:FuncId}{pargs:List PV}{r:PV}(h:Ret P .fresh f pargs r):Ret P .shared f pargs r :=
 ⟨h.1,fun w X args h0 h1 h2 h3=>(h.2 w X args h0 h1 h2 h3).mono fun _ _ ⟨v,e1,e2,e3⟩=>⟨v,e1,e2,e3.weaken fun b hb=>⟨hb.2,fun hx=>by have:=h1 b hx;have:=hb.1;omega⟩⟩⟩
section
variable {P:Program}{L:b9}{Q:Exit->St->Prop}{s:St}
theorem qH {ι:Type}{c:Code}{id:Nat}{next:St->Prop}(X:ι->Prop)(regs:ι->List (Nat × PV))(owns:ι->List (Nat × Nat × Cont))(h1:PWP P L c (XBlock id (XThen (fun s'=>∃i,X i/\Fit s' (regs i) (owns i)) Q)) s)(h2:∀i,X i->∀s:St,next (s.over (regs i) (owns i))):PWP P L c (XBlock id (XThen next Q)) s:=by
 refine PWP.mono ?_ _ h1;intro e s' h;have key:(∃i,X i/\Fit s' (regs i) (owns i))->next s':=by
  rintro⟨i,hX,hf⟩;have:=h2 i hX s';rwa [Fit.over hf]at this
 cases e
 case normal=>exact key h
 case exit id' =>
  show if id'=id then _ else _
  have h:if id'=id then _ else _:=h
  split
  .rename_i he;rw[if_pos he]at h;exact key h
  .rename_i he;rw[if_neg he]at h;exact h
 all_goals exact h
end
end Go.Pv
namespace Go.Pv
open Go.RowKit Go.ChangeShapes Go.WideShapes Go.ChangeAt
def jQ (L:b9):List (Nat × TypeId)->Nat->Nat->Bool
 |[],o,tot=>Nat.beq o tot
 |(off,T)::fs,o,tot=>match L T with|some r=>Nat.beq off o&&jQ L fs (o+r.size) tot|none=>false
def gU (L:b9):Nat->TypeId->Bool
 |0,_=>false
 |n+1,T=>match L T with
  |some r=>(match r.sh with
   |.bool | .int _ | .str=>true
   |.sl e=>(match L e with|some re=>Nat.blt 0 re.size&&gU L n e|none=>false)
   |.st fs=>jQ L fs 0 r.size&&fs.all (fun f=>gU L n f.2)
   |_=>false)
  |none=>false
def pG (L:b9):Nat->TypeId->List PV->Prop
 |0,_,_=>False
 |n+1,T,cs=>∃r,L T=some r/\(match r.sh with
  |.bool=>∃b,cs=[.bool b]
  |.int k=>∃m,cs=[.int k m]/\k.min<=m/\m<=k.max
  |.str=>∃s:List UInt8,cs=[.str s]/\s.length<=maxLen
  |.sl e=>∃rows,cs=[.sl rows]/\rows.length<=maxLen/\∀row∈rows,pG L n e row
  |.st fs=>∃parts:List (List PV),cs=parts.flatten/\parts.length=fs.length/\∀(i:Nat) f p,fs[i]?=some f->parts[i]?=some p->pG L n f.2 p
  |_=>False)
section
variable {L:b9}{n:Nat}{T:TypeId}{cs:List PV}
theorem uH {r:LRow}{sh:Sh}(hr:L T=some r)(hs:(L T).map (·.sh)=some sh):r.sh=sh:=by rw[hr]at hs;exact bk hs
theorem xg {k:IntKind}(h:pG L (n+1) T cs)(hs:(L T).map (·.sh)=some (.int k)):∃m,cs=[.int k m]/\k.min<=m/\m<=k.max:=by
 obtain⟨r,hr,h⟩:=h;rw[uH hr hs]at h;exact h
theorem pH {k:IntKind}(h:pG L (n+1) T cs)(hs:(L T).map (·.sh)=some (.int k)):∃m,cs=[.int k m]:=let ⟨m,e,_⟩:=xg h hs;⟨m,e⟩
theorem EQ (h:pG L (n+1) T cs)(hs:(L T).map (·.sh)=some .str):∃s:List UInt8,cs=[.str s]/\s.length<=maxLen:=by
 obtain⟨r,hr,h⟩:=h;rw[uH hr hs]at h;exact h
theorem Af (h:pG L (n+1) T cs)(hs:(L T).map (·.sh)=some .str):∃s,cs=[.str s]:=let ⟨m,e,_⟩:=EQ h hs;⟨m,e⟩
theorem uI {e:TypeId}(h:pG L (n+1) T cs)(hs:(L T).map (·.sh)=some (.sl e)):∃rows,cs=[.sl rows]/\rows.length<=maxLen/\∀row∈rows,pG L n e row:=by
 obtain⟨r,hr,h⟩:=h;rw[uH hr hs]at h;exact h
theorem yE {fs:List (Nat × TypeId)}(h:pG L (n+1) T cs)(hs:(L T).map (·.sh)=some (.st fs)):∃parts:List (List PV),cs=parts.flatten/\parts.length=fs.length/\∀(i:Nat) f p,fs[i]?=some f->parts[i]?=some p->pG L n f.2 p:=by
 obtain⟨r,hr,h⟩:=h;rw[uH hr hs]at h;exact h
end
def Reads (w:World)(pvs:List PV)(cs:List Value):Prop :=
 pvs.length=cs.length/\∀(i:Nat) (c:PV) (v:Value),pvs[i]?=some c->cs[i]?=some v->DRep w (fun b=>b<w.heap.size) c v/\v.oneCell'=true
theorem Reads.append {w:World}{p1 p2:List PV}{c1 c2:List Value}(h1:Reads w p1 c1)(h2:Reads w p2 c2):Reads w (p1++p2) (c1++c2):=by
 refine⟨by simp[h1.1,h2.1],fun i c v e1 e2=>?_⟩;rw[gl]at e1 e2;split at e1
 .rename_i hlt;rw[if_pos (by rw[<-h1.1];exact hlt)]at e2;exact h1.2 i c v e1 e2
 .rename_i hlt;rw[if_neg (by rw[<-h1.1];exact hlt),<-h1.1]at e2;exact h2.2 _ c v e1 e2
section
variable {H0:Type}{enc:TypeId × Value->H0}{P:Program}{L:b9}{w:World}{sp:Nat->Bool}{held:Bool}
theorem lE (hL:iW P L){T:TypeId}{r:LRow}(hr:L T=some r):P.cellsOf T=r.size:=by
 obtain⟨i,d,hi,_,hs,_⟩:=LRow.spec (hL T r hr);simp[Program.cellsOf,hi,hs]
theorem rO:∀(fs:List (Nat × TypeId)) (o tot:Nat),jQ L fs o tot=true->o<=tot
 |[],o,tot,h=>by simp[jQ]at h;omega
 |(off,T)::fs,o,tot,h=>by
  simp only[jQ]at h;split at h
  .rename_i r hr;simp only[bj]at h;have:=rO fs _ _ h.2;omega
  .cases h
theorem pZ (hL:iW P L){n:Nat}{cs:List Value}
  (IH:∀(T:TypeId) (cs:List Value) (fuel:Nat) x,gU L n T=true->DataW.trod enc P w 0 sp held fuel T cs=some x->∃pvs,Reads w pvs cs/\pG L n T pvs) :
  ∀(fs:List (Nat × TypeId)) (o:Nat),jQ L fs o cs.length=true->fs.all (fun f=>gU L n f.2)=true ->
   (∀f∈fs,∃m x,DataW.trod enc P w 0 sp held m f.2 ((cs.drop f.1).take (P.cellsOf f.2))=some x) ->
   ∃parts:List (List PV),Reads w parts.flatten (cs.drop o)/\parts.length=fs.length/\∀(i:Nat) f p,fs[i]?=some f->parts[i]?=some p->pG L n f.2 p
 |[],o,h,_,_=>by
  simp[jQ]at h;refine⟨[],⟨by simp[h],fun i c v e=>by simp at e⟩,O,fun i f p e=>by simp at e⟩
 |(off,T)::fs,o,h,hall,hd=>by
  simp only[jQ]at h;split at h
  .rename_i r hr;simp only[bj,ie]at h;obtain⟨rfl,h⟩:=h;simp only[kH,bj]at hall;have hle:=rO fs _ _ h;obtain⟨m,x,hx⟩:=hd (off,T) aj;obtain⟨pvs,hp1,hp2⟩:=IH T _ m x hall.1 hx;obtain⟨parts,g1,g2,g3⟩:=pZ hL IH fs (off+r.size) h hall.2 (fun f hf=>hd f (by simp[hf]));rw[lE hL hr]at hp1;refine⟨pvs::parts,?_,by simp[g2],fun i f p e1 e2=>?_⟩
   .have hsplit:cs.drop off=(cs.drop off).take r.size++cs.drop (off+r.size):=by rw[<-kF,cD]
    rw[hsplit,List.flatten_cons];exact hp1.append g1
   .cases i with
    |zero=>simp at e1 e2;subst e1;subst e2;exact hp2
    |succ i=>exact g3 i f p (by simpa using e1) (by simpa using e2)
  .cases h
theorem q9 (hL:iW P L):∀(n:Nat) (T:TypeId) (cs:List Value) (fuel:Nat) (x:DataW H0 × List MemPlace),gU L n T=true->DataW.trod enc P w 0 sp held fuel T cs=some x->∃pvs,Reads w pvs cs/\pG L n T pvs
 |0,_,_,_,_,h,_=>by simp[gU]at h
 |n+1,T,cs,fuel,x,h,ht=>by
  simp only[gU]at h;split at h
  .rename_i r hr;have hfit:=hL T r hr;have one:∀ {c:PV} {v:Value},DRep w (fun b=>b<w.heap.size) c v->v.oneCell'=true->Reads w [c] [v]:=fun h1 h2=>⟨O,fun i c v e1 e2=>by
    cases i with
    |zero=>simp at e1 e2;subst e1;subst e2;exact⟨h1,h2⟩
    |succ i=>simp at e1⟩
   split at h
   .rename_i hs;obtain⟨b,rfl,_⟩:=DataW.trod_bool (ra hfit hs) ht;exact⟨[.bool b],one (.bool b) O,r,hr,by rw[hs];exact⟨b,O⟩⟩
   .rename_i k hs;obtain⟨m,rfl,_,hwf⟩:=DataW.trod_int (nw hfit hs) ht;simp only[Lit.wf,bj,decide_eq_true_eq]at hwf;exact⟨[.int k m],one (.int k m) O,r,hr,by rw[hs];exact⟨m,O,hwf⟩⟩
   .rename_i hs;obtain⟨s,rfl,_,hsz⟩:=DataW.trod_string (kW hfit hs) ht;exact⟨[.str s.data.toList],one (.str s.data.toList) O,r,hr,by rw[hs];exact⟨_,O,by rw[jm];exact hsz⟩⟩
   .rename_i e hs;split at h
    .rename_i re hre;simp only[bj]at h;have hsz:0<re.size:=by simpa using h.1
     have hce:=lE hL hre;rcases DataW.trod_slice (gZ hfit hs) ht with⟨rfl,_⟩|⟨a,len,cap,elems,rest,m,rfl,rfl,_,_,hlc,hcm,hel,hat,_⟩
     .exact⟨[.sl []],one (.sl0 none 0) O,r,hr,by rw[hs];exact⟨[],O,aF _,fun row hrow=>by cases hrow⟩⟩
     .rw[hce]at hat;have key:∀i,i<len->∃ecs,w.cells? 0 (a.add (i*re.size)) re.size=some ecs/\∃pvs,Reads w pvs ecs/\pG L n e pvs:=by
       intro i hi;have h1:=hat i hi;rw[aQ J]at h1;obtain⟨ecs,e1,e2⟩:=Option.bind_eq_some_iff.1 h1;obtain⟨pvs,g1,g2⟩:=q9 hL n e ecs m _ h.2 e2;exact⟨ecs,e1,pvs,g1,g2⟩
      by_cases h0:len=0
      .subst h0;exact⟨[.sl []],one (.sl0 _ _) O,r,hr,by rw[hs];exact⟨[],O,aF _,fun row hrow=>by cases hrow⟩⟩
      ·
       have cellAt:∀(i:Nat) ecs,w.cells? 0 (a.add (i*re.size)) re.size=some ecs->ecs.length=re.size/\∀j v,ecs[j]?=some v->w.cell? ((a.add (i*re.size)).add j)=some v:=by
        intro i ecs he;unfold World.cells? at he;rw[if_pos (aF _)]at he;refine⟨by simpa using mapM_some_length he,fun j v hv=>?_⟩;have hj:j<re.size:=by have:=mapM_some_length he;have:=(bD hv).1;simp at *;omega
        have:=mapM_some_get he j j (by simp[hj]);rw[hv]at this;exact this
       obtain⟨b,off,spot⟩:=a;obtain⟨ecs0,f1,pvs0,f2,_⟩:=key 0 J;obtain⟨f3,f4⟩:=cellAt 0 ecs0 f1;have hc0:∃v,w.cell? (((⟨b,off,spot⟩:Addr).add (0*re.size)).add 0)=some v:=⟨ecs0[0],f4 0 _ (aQ J)⟩;have hspot:spot=none:=by
        obtain⟨v,hv⟩:=hc0;simpa [Addr.add] using World.cell?_spot hv
       subst hspot;have hbl:b<w.heap.size:=by
        obtain⟨v,hv⟩:=hc0;simp only[fT,Addr.add_mk,fB]at hv;rcases aT b w.heap.size with hlt|hge
        .exact hlt
        .simp[World.cell?,j0 hge]at hv
       have hch:∀i:Nat,∃p:List PV × List Value,i<len->w.cells? 0 ((⟨b,off,none⟩:Addr).add (i*re.size)) re.size=some p.2/\Reads w p.1 p.2/\pG L n e p.1:=by
        intro i;by_cases hi:i<len
        .obtain⟨ecs,e1,pvs,e2,e3⟩:=key i hi;exact⟨(pvs,ecs),fun _=>⟨e1,e2,e3⟩⟩
        .exact⟨([],[]),fun h=>absurd h hi⟩
       let g:Nat->List PV × List Value:=fun i=>Classical.choose (hch i);have hg:∀i,i<len->w.cells? 0 ((⟨b,off,none⟩:Addr).add (i*re.size)) re.size=some (g i).2/\Reads w (g i).1 (g i).2/\pG L n e (g i).1:=fun i hi=>Classical.choose_spec (hch i) hi;have hrow:∀(i:Nat) (row:List PV),((List.range len).map fun i=>(g i).1)[i]?=some row->i<len/\row=(g i).1:=by
        intro i row hrow;rw[aV]at hrow;rcases aT i len with hlt|hge
        .rw[jl hlt]at hrow;simp at hrow;exact⟨hlt,hrow.symm⟩
        .rw[dF (by simpa using hge)]at hrow;simp at hrow
       have hmem:∀row∈(List.range len).map fun i=>(g i).1,∃i,i<len/\row=(g i).1:=by
        intro row hrow;obtain⟨i,hi,rfl⟩:=bF.1 hrow;exact⟨i,dG.1 hi,O⟩
       have hlen:((List.range len).map fun i=>(g i).1).length=len:=aj;have hlen':∀i,i<len->(g i).1.length=re.size:=fun i hi=>by
        rw[(hg i hi).2.1.1];exact(cellAt i _ (hg i hi).1).1
       have hD:DRep w (fun b=>b<w.heap.size) (.sl ((List.range len).map fun i=>(g i).1)) (.slice (some ⟨b,off,none⟩) len cap):=by
        have:=DRep.sl (w:=w) (ok:=fun b=>b<w.heap.size) ((List.range len).map fun i=>(g i).1) b off cap re.size (fun i j=>((g i).2[j]?).getD undef) hbl hsz (by rw[hlen];exact hlc)
         (fun row hr=>by obtain⟨i,hi,rfl⟩:=hmem row hr;exact hlen' i hi)
         (fun i j row c e1 e2=>by
          obtain⟨hi,rfl⟩:=hrow i row e1;have hj:j<(g i).2.length:=by rw[<-(hg i hi).2.1.1];exact(bD e2).1
          have hv:(g i).2[j]?=some (g i).2[j]:=aQ hj;have:=(cellAt i _ (hg i hi).1).2 j _ hv;rw[Addr.add_mk,Addr.add_mk]at this;rw[hv]
          exact⟨this,((hg i hi).2.1.2 j c _ e2 hv).2⟩)
         (fun i j row c e1 e2=>by
          obtain⟨hi,rfl⟩:=hrow i row e1;have hj:j<(g i).2.length:=by rw[<-(hg i hi).2.1.1];exact(bD e2).1
          have hv:(g i).2[j]?=some (g i).2[j]:=aQ hj;rw[hv]
          exact((hg i hi).2.1.2 j c _ e2 hv).1)
        rw[hlen]at this;exact this
       exact⟨[.sl ((List.range len).map fun i=>(g i).1)],one hD O,r,hr,by
        rw[hs]
        exact⟨_,O,by rw[hlen];exact bz hlc hcm,fun row hr=>by obtain⟨i,hi,rfl⟩:=hmem row hr;exact(hg i hi).2.2⟩⟩
    .cases h
   .rename_i fs hs;simp only[bj]at h;obtain⟨fs',hu,hm⟩:=rb hfit hs;obtain⟨xs,m,_,_,hlen,hxl,hf⟩:=DataW.trod_struct hu ht;rw[lE hL hr]at hlen;obtain⟨parts,g1,g2,g3⟩:=pZ hL (cs:=cs) (fun T cs fuel x a b=>q9 hL n T cs fuel x a b) fs 0 (by rw[hlen];exact h.1) h.2 (fun f hf'=>by
     rw[<-hm]at hf';obtain⟨fd,hfd,rfl⟩:=bF.1 hf';obtain⟨i,hi,hie⟩:=fc hfd;have hi':i<fs'.size:=by simpa using hi
     have h1:fs'[i]?=some fd:=by rw[cC hi'];simpa using hie
     have h2:=hf i fd h1;rw[aQ J]at h2
     exact⟨m,_,h2⟩)
    exact⟨parts.flatten,by simpa using g1,r,hr,by rw[hs];exact⟨parts,O,g2,g3⟩⟩
   .cases h
  .cases h
theorem lA (hl:laidOutB P=true){W W':World}(hb:Below W.heap.size W W'):∀(ts:List TypeId) (vs:List Value) (ds:List (DataW H0)) (ps:List MemPlace),(∀t∈ts,P.readableRec t=true/\t<P.types.size) ->
  DataW.TrodAll enc P W 0 (fun _=>true) true ts vs ds ps->(∀x∈ps,x.block<W.heap.size)->DataW.TrodAll enc P W' 0 (fun b=>decide (b<W.heap.size)) true ts vs ds ps
 |[],vs,ds,ps,_,h,_=>by
  obtain⟨rfl,rfl,rfl⟩:=trodAll_nil h;exact trodAll_mk0
 |t::ts,vs,ds,ps,hr,h,hlt=>by
  obtain⟨v,vs',d,ds',p,q,rfl,rfl,rfl,h1,h2⟩:=trodAll_cons h;have ht:=hr t aj;exact⟨p,q,Below.trod hl ht.1 ht.2 h1 hb (fun x hx=>hlt x (by simp[hx])),lA hl hb ts vs' ds' q (fun t ht=>hr t (by simp[ht])) h2 (fun x hx=>hlt x (by simp[hx])),O⟩
end
end Go.Pv
namespace Go.Pv
open Go.Proofs Go.RowKit
set_option maxRecDepth 100000
def lay:Tr:=(.nd 115 (.nd 46 (.nd 25 (.nd 5 (.nd 3 (.lf 2 ⟨1,8,(.int .i64),(some [(.int .i64 0)])⟩)
 (.nd 4 (.lf 3 ⟨1,8,(.int .i64),(some [(.int .i64 0)])⟩)
 (.lf 4 ⟨1,1,.bool,(some [(.bool false)])⟩)))
 (.nd 22 (.nd 9 (.lf 5 ⟨1,1,(.int .u8),(some [(.int .u8 0)])⟩)
 (.lf 9 ⟨1,16,.str,(some [(.str [])])⟩))
 (.nd 24 (.lf 22 ⟨1,24,(.sl 115),(some [.nil])⟩)
 (.lf 24 ⟨5,48,(.st [(0,9),(1,3),(2,3),(3,3),(4,3)]),(some [(.str []),(.int .i64 0),(.int .i64 0),(.int .i64 0),(.int .i64 0)])⟩))))
 (.nd 39 (.nd 32 (.nd 27 (.lf 25 ⟨1,24,(.sl 24),(some [.nil])⟩)
 (.lf 27 ⟨9,120,(.st [(0,9),(1,3),(2,22),(3,24),(8,25)]),(some [(.str []),(.int .i64 0),.nil,(.str []),(.int .i64 0),(.int .i64 0),(.int .i64 0),(.int .i64 0),.nil])⟩))
 (.nd 37 (.lf 32 ⟨1,8,(.int .i64),(some [(.int .i64 0)])⟩)
 (.lf 37 ⟨1,24,(.sl 218),(some [.nil])⟩)))
 (.nd 43 (.nd 41 (.lf 39 ⟨2,32,(.st [(0,4),(1,37)]),(some [(.bool false),.nil])⟩)
 (.lf 41 ⟨4,64,(.st [(0,39),(2,39)]),(some [(.bool false),.nil,(.bool false),.nil])⟩))
 (.nd 44 (.lf 43 ⟨8,128,(.st [(0,41),(4,41)]),(some [(.bool false),.nil,(.bool false),.nil,(.bool false),.nil,(.bool false),.nil])⟩)
 (.lf 44 ⟨1,24,(.sl 41),(some [.nil])⟩)))))
 (.nd 65 (.nd 56 (.nd 53 (.nd 48 (.lf 46 ⟨9,152,(.st [(0,43),(8,44)]),(some [(.bool false),.nil,(.bool false),.nil,(.bool false),.nil,(.bool false),.nil,.nil])⟩)
 (.lf 48 ⟨8,128,(.st [(0,41),(4,41)]),(some [(.bool false),.nil,(.bool false),.nil,(.bool false),.nil,(.bool false),.nil])⟩))
 (.nd 54 (.lf 53 ⟨1,24,(.sl 136),(some [.nil])⟩)
 (.lf 54 ⟨1,24,(.sl 138),(some [.nil])⟩)))
 (.nd 58 (.nd 57 (.lf 56 ⟨14,192,(.st [(0,27),(9,3),(10,53),(11,54),(12,3),(13,3)]),(some [(.str []),(.int .i64 0),.nil,(.str []),(.int .i64 0),(.int .i64 0),(.int .i64 0),(.int .i64 0),.nil,(.int .i64 0),.nil,.nil,(.int .i64 0),(.int .i64 0)])⟩)
 (.lf 57 ⟨1,24,(.sl 3),(some [.nil])⟩))
 (.nd 63 (.lf 58 ⟨1,24,(.sl 65),(some [.nil])⟩)
 (.lf 63 ⟨16,256,(.st [(0,41),(4,41),(8,41),(12,41)]),(some [(.bool false),.nil,(.bool false),.nil,(.bool false),.nil,(.bool false),.nil,(.bool false),.nil,(.bool false),.nil,(.bool false),.nil,(.bool false),.nil])⟩))))
 (.nd 91 (.nd 78 (.nd 69 (.lf 65 ⟨39,616,(.st [(0,41),(4,43),(12,44),(13,41),(17,41),(21,63),(37,4),(38,3)]),(some [(.bool false),.nil,(.bool false),.nil,(.bool false),.nil,(.bool false),.nil,(.bool false),.nil,(.bool false),.nil,.nil,(.bool false),.nil,(.bool false),.nil,(.bool false),.nil,(.bool false),.nil,(.bool false),.nil,(.bool false),.nil,(.bool false),.nil,(.bool false),.nil,(.bool false),.nil,(.bool false),.nil,(.bool false),.nil,(.bool false),.nil,(.bool false),(.int .i64 0)])⟩)
 (.lf 69 ⟨10,144,(.st [(0,3),(1,41),(5,41),(9,3)]),(some [(.int .i64 0),(.bool false),.nil,(.bool false),.nil,(.bool false),.nil,(.bool false),.nil,(.int .i64 0)])⟩))
 (.nd 87 (.lf 78 ⟨1,24,(.sl 87),(some [.nil])⟩)
 (.lf 87 ⟨9,136,(.st [(0,3),(1,41),(5,41)]),(some [(.int .i64 0),(.bool false),.nil,(.bool false),.nil,(.bool false),.nil,(.bool false),.nil])⟩)))
 (.nd 98 (.nd 93 (.lf 91 ⟨1,24,(.sl 245),(some [.nil])⟩)
 (.lf 93 ⟨3,40,(.st [(0,4),(1,3),(2,91)]),(some [(.bool false),(.int .i64 0),.nil])⟩))
 (.nd 108 (.lf 98 ⟨1,24,(.sl 9),(some [.nil])⟩)
 (.lf 108 ⟨36,576,(.st [(0,41),(4,41),(8,41),(12,41),(16,41),(20,41),(24,41),(28,41),(32,41)]),(some [(.bool false),.nil,(.bool false),.nil,(.bool false),.nil,(.bool false),.nil,(.bool false),.nil,(.bool false),.nil,(.bool false),.nil,(.bool false),.nil,(.bool false),.nil,(.bool false),.nil,(.bool false),.nil,(.bool false),.nil,(.bool false),.nil,(.bool false),.nil,(.bool false),.nil,(.bool false),.nil,(.bool false),.nil,(.bool false),.nil])⟩))))))
 (.nd 217 (.nd 171 (.nd 136 (.nd 124 (.nd 118 (.lf 115 ⟨4,64,(.st [(0,3),(1,3),(2,57),(3,57)]),(some [(.int .i64 0),(.int .i64 0),.nil,.nil])⟩)
 (.lf 118 ⟨1,8,(.ptr 115),(some [(.raw (.pointer none))])⟩))
 (.nd 128 (.lf 124 ⟨1,24,(.sl 196),(some [.nil])⟩)
 (.lf 128 ⟨6,96,(.st [(0,3),(1,41),(5,124)]),(some [(.int .i64 0),(.bool false),.nil,(.bool false),.nil,.nil])⟩)))
 (.nd 151 (.nd 138 (.lf 136 ⟨11,120,(.st [(0,3),(1,3),(2,3),(3,3),(4,3),(5,41),(9,3),(10,4)]),(some [(.int .i64 0),(.int .i64 0),(.int .i64 0),(.int .i64 0),(.int .i64 0),(.bool false),.nil,(.bool false),.nil,(.int .i64 0),(.bool false)])⟩)
 (.lf 138 ⟨4,40,(.st [(0,9),(1,3),(2,3),(3,3)]),(some [(.str []),(.int .i64 0),(.int .i64 0),(.int .i64 0)])⟩))
 (.nd 156 (.lf 151 ⟨1,24,(.sl 156),(some [.nil])⟩)
 (.lf 156 ⟨5,72,(.st [(0,3),(1,41)]),(some [(.int .i64 0),(.bool false),.nil,(.bool false),.nil])⟩))))
 (.nd 189 (.nd 184 (.nd 179 (.lf 171 ⟨1,24,(.sl 57),(some [.nil])⟩)
 (.lf 179 ⟨1,8,(.map 3 41),(some [(.raw (.map none))])⟩))
 (.nd 187 (.lf 184 ⟨8,128,(.st [(0,41),(4,41)]),(some [(.bool false),.nil,(.bool false),.nil,(.bool false),.nil,(.bool false),.nil])⟩)
 (.lf 187 ⟨1,24,(.sl 5),(some [.nil])⟩)))
 (.nd 196 (.nd 194 (.lf 189 ⟨1,8,(.map 9 4),(some [(.raw (.map none))])⟩)
 (.lf 194 ⟨2,48,(.st [(0,57),(1,44)]),(some [.nil,.nil])⟩))
 (.nd 213 (.lf 196 ⟨7,120,(.st [(0,3),(1,41),(5,194)]),(some [(.int .i64 0),(.bool false),.nil,(.bool false),.nil,.nil,.nil])⟩)
 (.lf 213 ⟨5,72,(.st [(0,3),(1,41)]),(some [(.int .i64 0),(.bool false),.nil,(.bool false),.nil])⟩)))))
 (.nd 297 (.nd 245 (.nd 219 (.nd 218 (.lf 217 ⟨1,8,(.int .u64),(some [(.int .u64 0)])⟩)
 (.lf 218 ⟨1,2,(.int .u16),(some [(.int .u16 0)])⟩))
 (.nd 237 (.lf 219 ⟨1,24,(.sl 3),(some [.nil])⟩)
 (.lf 237 ⟨8,128,(.st [(0,41),(4,41)]),(some [(.bool false),.nil,(.bool false),.nil,(.bool false),.nil,(.bool false),.nil])⟩)))
 (.nd 259 (.nd 255 (.lf 245 ⟨2,16,(.st [(0,3),(1,3)]),(some [(.int .i64 0),(.int .i64 0)])⟩)
 (.lf 255 ⟨1,8,(.int .u64),(some [(.int .u64 0)])⟩))
 (.nd 270 (.lf 259 ⟨1,24,(.sl 48),(some [.nil])⟩)
 (.lf 270 ⟨1,8,.other,(some [(.raw .nilFunc)])⟩))))
 (.nd 320 (.nd 307 (.nd 300 (.lf 297 ⟨1,24,(.sl 25),(some [.nil])⟩)
 (.lf 300 ⟨1,8,(.int .i64),(some [(.int .i64 0)])⟩))
 (.nd 317 (.lf 307 ⟨1,4,(.int .u32),(some [(.int .u32 0)])⟩)
 (.lf 317 ⟨1,24,(.sl 320),(some [.nil])⟩)))
 (.nd 325 (.nd 322 (.lf 320 ⟨8,128,(.st [(0,41),(4,41)]),(some [(.bool false),.nil,(.bool false),.nil,(.bool false),.nil,(.bool false),.nil])⟩)
 (.lf 322 ⟨1,24,(.sl 270),(some [.nil])⟩))
 (.nd 344 (.lf 325 ⟨12,192,(.st [(0,41),(4,41),(8,41)]),(some [(.bool false),.nil,(.bool false),.nil,(.bool false),.nil,(.bool false),.nil,(.bool false),.nil,(.bool false),.nil])⟩)
 (.lf 344 ⟨1,8,(.int .u64),(some [(.int .u64 0)])⟩)))))))
theorem Db:lay.fits Tryz.prog=true:=by kernel_rfl
theorem dY:iW Tryz.prog lay.get:=Tr.ok Db
theorem mixed:Tryz.prog.follows .mixedOrders=true:=by kernel_rfl
instance:Globs:=⟨fun _=>True,fun _ _ _ _=>trivial⟩
abbrev bb:=Ret Tryz.prog .shared
theorem ay {m : Mode}{f : FuncId}{pargs : List PV}{r : PV}{body : Code}{fn : Func}(hf : Tryz.prog.funcs[f]?=some fn)(h : PWP Tryz.prog lay.get body (RetPost lay.get fn m r) (dE pargs))(hb : fn.body = some body := by exact O)(hn : (fn.name == "runtime.NumGoroutine") = false := by decide)(hlen : Nat.ble pargs.length fn.ntmps = true := by exact O)(hc : jP fn.ntmps body = true := by exact O) : Ret Tryz.prog m f pargs r := Ret.of_pwp dY mixed hf hb hn hlen hc h
end Go.Pv
set_option maxHeartbeats 2000000
namespace Go.Pv
attribute [local irreducible] PWP POps PQuiet PSem XThen XBlock RetPost InlPost
open Go.Proofs
abbrev I (n:Int):PV := .int .i64 n
def eU (x:UInt16):List PV:=[.int .u16 x.toNat]
theorem kU (l:List UInt16):Trm (a_ l):=cf _
theorem gh (l:List UInt16):nv (a_ l)=nv l:=aO _
theorem dy (l:List UInt16):(a_ l).length<=l.length:=cS (cX l)
theorem wrap_u16 (n:Nat):IntKind.u16.wrap (n:Int)=((UInt16.ofNat n).toNat:Int):=by
 rw[bh,IntKind.wrap_u16];omega
theorem wrap_u32 {n:Int}(h0:0<=n)(h1:n<4294967296):IntKind.u32.wrap n=n:=by
 rw[IntKind.wrap_u32];omega
theorem wrap_u64 {n:Int}(h0:0<=n)(h1:n<18446744073709551616):IntKind.u64.wrap n=n:=by
 rw[IntKind.wrap_u64];omega
theorem oN {α:Type}(e:α->List PV)(k g:Nat)(l:List α)(a:α):PV.als k (g+l.length+1) 0 (l.map e++[e a]).length=PV.als k (g+(l++[a]).length) 0 ((l++[a]).map e).length:=by simp[fA]
theorem mu {α:Type}(e:α->List PV)(g T sz kd:Nat)(l:List α)(a:α):(g+l.length+1,some (Cont.mk T sz (l.map e++[e a]) kd))=(g+(l++[a]).length,some (Cont.mk T sz ((l++[a]).map e) kd)):=by simp[fA]
theorem cZ (l:List UInt16)(hl:l.length<=1000000000):bb 213 [.sl (l.map eU)] (.sl ((a_ l).map eU)):=by
 refine ay Proofs.Tryz.func213 ?_;refine H ?_;refine ao (fun k=>k<=l.length/\nv (l.take k)=nv l) (fun k=>[(0,.sl ((l.take k).map eU))]) (fun _=>[]) (fun k=>k) l.length ⟨aH,by rw[bM]⟩ ⟨?_,bP⟩ ?_
 .rw[bM];rfl
 rintro k s ⟨hk,hv⟩;have hkl:(l.take k).length=k:=by rw[bI];omega
 have hml:((l.take k).map eU).length=k:=by rw[aM,hkl]
 refine fZ ?_ ?_<;>intro h
 .have hk0:0<k:=by have:=bK h;rw[hml]at this;omega
  clear h;obtain⟨j,rfl⟩:∃j,k=j+1:=⟨k-1,J⟩;obtain⟨x,hx⟩:=aK (show j<l.length by omega);have hx2:(l.take (j+1))[j]?=some x:=by rw[bE,if_pos J];exact hx
  have hw1:IntKind.i64.wrap (((((l.take (j+1)).map eU).length:Nat):Int)-1)=(j:Nat):=by rw[hml,wrap_i64 J J];omega
  refine H ?_;rw[hw1];refine bX O O (ka (n:=((j:Nat):Int)) O O O O O J (by rw[aS];exact hx2) O) ?_;refine D ?_ ?_<;>intro h
  .have hx0:x.toNat=0:=cP h;clear h;refine H ?_;rw[hw1];refine bX O O (yc (n:=((j:Nat):Int)) O O O O O J (by rw[hkl];omega) (fun _=>rfl)) ?_;refine H ?_;refine⟨j,⟨J,?_⟩,J,?_,bP⟩
   .rw[<-hv,d9 hx,hx0];omega
   .rw[aS,List.take_take,iy J];rfl
  .have hx0:x.toNat≠0:=cG h;clear h;have ht:l.take (j+1)=a_ l:=by
    rw[a_,<-hv];exact(gP fun y hy=>by
     rw[oT,hkl,gO,hx2]at hy
     cases hy;exact hx0).symm
   rw[ht];refine H ?_;exact jL O O O trivial O
 .have hk0:k=0:=by have:=cJ h;rw[hml]at this;omega
  subst hk0;clear h;have ht:l.take 0=a_ l:=by
   rw[a_,<-hv];simp[nv,bN]
  rw[ht];refine H ?_;exact jL O O O trivial O
theorem h_ (a b:List UInt16)(ha:a.length<=1000000000)(hb:b.length<=1000000000):bb 217 [.sl (a.map eU),.sl (b.map eU)] (I (kX a b)):=by
 have hal:(a.map eU).length=a.length:=aj;have hbl:(b.map eU).length=b.length:=aj;by_cases he:a.length=b.length
 .rw[kX,if_pos he];have hw0:IntKind.i64.wrap (((((a.map eU).length:Nat):Int))-1)=(a.length:Int)-1:=by rw[hal,wrap_i64 J J]
  refine ay Proofs.Tryz.func217 ?_;refine D ?_ ?_<;>intro h
  .simp at h;omega
  clear h;refine H ?_;rw[hw0];refine ao (fun k:Nat=>k<=a.length/\ms a b k=ms a b a.length) (fun k=>[(0,.sl (a.map eU)),(1,.sl (b.map eU)),(5,I ((k:Int)-1))]) (fun _=>[]) (fun k=>k) a.length ⟨aH,O⟩ ak ?_;rintro k s ⟨hk,hc⟩;rw[<-hc];refine D ?_ ?_<;>intro h
  .have hk0:0<k:=cP h;clear h;obtain⟨j,rfl⟩:∃j,k=j+1:=⟨k-1,J⟩;have e1:(((j+1:Nat):Int)-1)=(j:Nat):=J;rw[e1];have hx:=cK (l:=a) (i:=j) J;have hy:=cK (l:=b) (i:=j) J;have hc1:ms a b (j+1)=if (a.getD j 0).toNat=(b.getD j 0).toNat then ms a b j else((a.getD j 0).toNat:Int)-(b.getD j 0).toNat:=O
   have hxl:=bm (a.getD j 0);have hyl:=bm (b.getD j 0);generalize a.getD j 0=x,b.getD j 0=y at *
   refine dg 9 [23,24,25,26,27,28,29,30,31] ?_;refine aZ hx ?_;refine aZ hy ?_;refine D ?_ ?_<;>intro h
   .have hne:¬x.toNat=y.toNat:=by simp at h;intro he;apply h;omega
    clear h;rw[if_neg hne]at hc1;rw[hc1];refine dg 12 [32,33,34,35,36,37,38,39,40,41,42,4] ?_;refine aZ hx ?_;refine aZ hy ?_;refine H ?_;rw[wrap_i64 (n:=(x.toNat:Int)) J J,wrap_i64 (n:=(y.toNat:Int)) J J,wrap_i64 J J];exact dL
   .have hne:x.toNat=y.toNat:=by simp at h;omega
    clear h;rw[if_pos hne]at hc1;refine H ?_;refine⟨j,⟨J,by rw[<-hc1,hc]⟩,J,O,O,?_,bP⟩;exact congrArg I (wrap_i64 J J)
  .have hk0:k=0:=cG h;subst hk0;clear h;exact dL
 .rw[kX,if_neg he];refine ay Proofs.Tryz.func217 ?_;refine D ?_ ?_<;>intro h
  .refine H ?_;rw[hal,hbl,wrap_i64 J J];exact rR O O O
  .simp at h;omega
end Go.Pv
namespace Go.Pv
open Go.RowKit
variable [Globs]
theorem eM {P:Program}{L:b9}{s s1:St}{o:Oper}{K:St->Prop}(hg:Ghost s s1)(h:POp P L s1 o K):Sm P L s o K :=
 fun _ _ _ _ hG hs hN=>POp.wp hG (hg _ _ _ hG.x hs) hN h fun s' _ _ h' hk=>⟨s',h',hk⟩
end Go.Pv
set_option maxHeartbeats 2000000
namespace Go.Pv
attribute [local irreducible] PWP POps PQuiet PSem XThen XBlock RetPost InlPost
open Go.Proofs
theorem uc (l:List UInt16)(d:UInt16):nv (l++[d])=nv l+65536^l.length*d.toNat:=by
 rw[kK];simp[nv]
theorem fk {l:List UInt16}{k:Nat}(h:l.length<=k):nv (l.take k)=nv l:=by rw[dp h]
theorem zE {l:List UInt16}{i t:Nat}{x:UInt16}(h:l[i]?=some x)(hi:i<t)(y:UInt16):nv ((l.set i y).take t)+65536^i*x.toNat=nv (l.take t)+65536^i*y.toNat:=by
 have e:(l.set i y).take t=(l.take t).set i y:=by
  apply fP;intro j;rw[bE,tE,tE,bE,bI];have:=(bD h).1;by_cases hj:j<t
  .rw[if_pos hj];by_cases hij:i=j
   .subst hij;rw[if_pos O,if_pos O,if_pos J,if_pos J]
   .rw[if_neg hij,if_neg hij,if_pos hj]
  .rw[if_neg hj,if_neg J,if_neg hj]
 rw[e];exact Dp (by rw[bE,if_pos hi];exact h) y
theorem lZ {l:List UInt16}{i t:Nat}(hi:t<=i)(y:UInt16):nv ((l.set i y).take t)=nv (l.take t):=by
 have e:(l.set i y).take t=l.take t:=by
  apply fP;intro j;rw[bE,bE];split
  .rw[cV J]
  .rfl
 rw[e]
theorem gQ (l:List UInt16)(i:Nat)(y:UInt16):(l.map eU).set i (eU y)=(l.set i y).map eU:=by rw[fD]
structure PlusI (A B:List UInt16) (q:Nat × List UInt16 × Nat):Prop where
 k:q.1<=A.length
 l:q.2.1.length=q.1
 c:q.2.2<=1
 v:nv q.2.1+65536^q.1*q.2.2=nv (A.take q.1)+nv (B.take q.1)
theorem si {A B:List UInt16}{k:Nat}{L:List UInt16}{c y:Nat}{x:UInt16}(h:PlusI A B (k,L,c))(hx:A[k]?=some x)(hy:nv (B.take (k+1))=nv (B.take k)+65536^k*y)(hy2:y<65536) :
  PlusI A B (k+1,L++[UInt16.ofNat (c+x.toNat+y)],(c+x.toNat+y)/65536):=by
 obtain⟨h1,h2,h3,h4⟩:=h;simp only at h1 h2 h3 h4;have hk:=(bD hx).1;have hx2:=bm x;refine⟨hk,by simp[h2],by simp only;omega,?_⟩;simp only;rw[uc,d9 hx,hy,h2,bh,cn];have e:(c+x.toNat+y)%65536+65536*((c+x.toNat+y)/65536)=c+x.toNat+y:=gE _ _;generalize 65536^k=W,(c+x.toNat+y)%65536=m,(c+x.toNat+y)/65536=d at *
 have:W*(m+65536*d)=W*(c+x.toNat+y):=by rw[e]
 simp only[bB]at this;rw[bS];omega
theorem DB (a b:List UInt16)(ha:a.length<=100000000)(hb:b.length<=100000000):bb 216 [.sl (a.map eU),.sl (b.map eU)] (.sl ((aq (nv a+nv b)).map eU)):=by
 have hal:(a.map eU).length=a.length:=aj;have hbl:(b.map eU).length=b.length:=aj;obtain⟨A,B,hAB,hsum,hle,hA,hsw⟩:∃A B:List UInt16,(if a.length<b.length then A=b/\B=a else A=a/\B=b)/\nv A+nv B=nv a+nv b/\B.length<=A.length/\A.length<=100000000/\True:=by
  by_cases h:a.length<b.length
  .exact⟨b,a,by rw[if_pos h];exact⟨O,O⟩,J,J,hb,bP⟩
  .exact⟨a,b,by rw[if_neg h];exact⟨O,O⟩,O,J,ha,bP⟩
 have hAl:(A.map eU).length=A.length:=aj;have hBl:(B.map eU).length=B.length:=aj;refine ay Proofs.Tryz.func216 ?_;refine H ?_;refine uj [(0,.sl (A.map eU)),(1,.sl (B.map eU))] [] ?_ (fun s1=>?_)
 .refine cO O ?_ ?_<;>intro h
  .have hlt:a.length<b.length:=by have:=bK h;rw[hal,hbl]at this;omega
   clear h;rw[if_pos hlt]at hAB;obtain⟨rfl,rfl⟩:=hAB;refine H ?_;exact ak
  .have hlt:¬a.length<b.length:=by have:=cJ h;rw[hal,hbl]at this;omega
   clear h;rw[if_neg hlt]at hAB;obtain⟨rfl,rfl⟩:=hAB;refine H ?_;exact ak
 clear hAB hsw hal hbl ha hb;have hw1:IntKind.i64.wrap ((((A.map eU).length:Nat):Int)+1)=((A.length+1:Nat):Int):=by rw[hAl,wrap_i64 J J];omega
 refine H ?_;rw[hw1];refine aC (FM (n:=0) O O O O O O O O J J (by show(2:Int)*((A.length+1:Nat):Int)<=_;omega) J ?_);generalize (s1.own 19).1=g0;refine H ?_;refine ao (PlusI A B) (fun q=>[(1,.sl (B.map eU)),(5,.als 19 (g0+1+q.2.1.length) 0 (q.2.1.map eU).length),(6,.int .u32 (q.2.2:Nat)),(20,.sl (A.map eU)),(21,I A.length),(22,I q.1)])
  (fun q=>[(19,g0+1+q.2.1.length,⟨218,1,q.2.1.map eU,0⟩)]) (fun q=>A.length-q.1) (0,[],0) ⟨aF _,O,Y,by simp[nv]⟩ ⟨O,O,O,O,?_,ak⟩ ?_
 .show I ((A.map eU).length)=_;rw[hAl]
 rintro⟨k,L,c⟩ s2 hI;have hk:=hI.k;have hc:=hI.c;have hLl:=hI.l;simp only at hk hc hLl;dsimp only;refine D ?_ ?_<;>intro h
 .have hlt:k<A.length:=cP h;clear h;obtain⟨x,hx⟩:=aK hlt;have hxl:=bm x;have e1:IntKind.u32.wrap ((c:Nat)+IntKind.u32.wrap (x.toNat:Int))=((c+x.toNat:Nat):Int):=by rw[wrap_u32 (n:=(x.toNat:Int)) J J,wrap_u32 J J];omega
  refine aZ hx ?_;refine H ?_;rw[e1];by_cases hb:k<B.length
  .obtain⟨y,hy⟩:=aK hb;have hyl:=bm y;have hst:=si hI hx (d9 hy) hyl;have e2:IntKind.u32.wrap (((c+x.toNat:Nat):Int)+IntKind.u32.wrap (y.toNat:Int))=((c+x.toNat+y.toNat:Nat):Int):=by rw[wrap_u32 (n:=(y.toNat:Int)) J J,wrap_u32 J J];omega
   generalize hs:c+x.toNat+y.toNat=sm at *
   refine D ?_ ?_<;>intro h
   .clear h;refine aZ hy ?_;refine H ?_;rw[e2,wrap_u16];refine H ?_;refine bX O O (gW O O O O O O O O O O ak O) ?_;refine aC (cQ 0 O O O O O O O O O O O ak jM O O aX aX ?_);refine H ?_;refine⟨(k+1,L++[UInt16.ofNat sm],sm/65536),hst,by simp only;omega,O,?_,?_,O,O,cU J J,?_,bP⟩
    .exact oN eU 19 (g0+1) L (UInt16.ofNat sm)
    .show PV.int .u32 ((sm:Int)/2^16)=PV.int .u32 ((sm/65536:Nat):Int);congr 1
    .exact mu eU (g0+1) 218 1 0 L (UInt16.ofNat sm)
   .have:=cJ h;rw[hBl]at this;omega
  .have hst:=si (y:=0) hI hx (by rw[fk J,fk J];omega) J;rw[fB]at hst;generalize hs:c+x.toNat=sm at *
   refine D ?_ ?_<;>intro h
   .have:=bK h;rw[hBl]at this;omega
   .clear h;refine H ?_;rw[wrap_u16];refine H ?_;refine bX O O (gW O O O O O O O O O O ak O) ?_;refine aC (cQ 0 O O O O O O O O O O O ak jM O O aX aX ?_);refine H ?_;refine⟨(k+1,L++[UInt16.ofNat sm],sm/65536),hst,by simp only;omega,O,?_,?_,O,O,cU J J,?_,bP⟩
    .exact oN eU 19 (g0+1) L (UInt16.ofNat sm)
    .show PV.int .u32 ((sm:Int)/2^16)=PV.int .u32 ((sm/65536:Nat):Int);congr 1
    .exact mu eU (g0+1) 218 1 0 L (UInt16.ofNat sm)
 .have hge:k=A.length:=cG h;subst hge;clear h;have hv:=hI.v;simp only at hv;rw[bM,fk hle]at hv;have hfin:a_ (L++[UInt16.ofNat c])=aq (nv a+nv b):=by
   rw[a_,uc,bh,cM J,hLl,hv,hsum]
  have ht:=cZ (L++[UInt16.ofNat c]) aX;rw[hfin]at ht
  (refine dN 14 ?_;refine aD 5 ?_)
  refine H ?_;rw[wrap_u16];refine bX O O (gW O O O O O O O O O O ak O) ?_;refine aC (cQ 0 O O O O O O O O O O O ak jM O O aX aX ?_);refine H ?_;refine aU O (eM (Ghost.takeF (enc:=eU) (t:=54) (L++[UInt16.ofNat c]) O O (by rw[bQ];rfl) O (fun _=>rfl)) ?_)
  (refine l5 (eL O (ht) O ?_ O) ?_;.repeat' constructor)
  refine aE ?_;refine H ?_;exact jL O O O trivial O
structure MinI (A B:List UInt16) (q:Nat × List UInt16 × Nat):Prop where
 k:q.1<=A.length
 l:q.2.1.length=A.length
 c:q.2.2<=1
 v:nv (q.2.1.take q.1)+nv (B.take q.1)=nv (A.take q.1)+65536^q.1*q.2.2
theorem Df {A B:List UInt16}{k:Nat}{R:List UInt16}{c y:Nat}{x:UInt16}(h:MinI A B (k,R,c))(hx:A[k]?=some x)(hy:nv (B.take (k+1))=nv (B.take k)+65536^k*y)(hy2:y<65536) :
  MinI A B (k+1,R.set k (UInt16.ofNat (x.toNat+(if x.toNat<c+y then 65536 else 0)-(c+y))),if x.toNat<c+y then 1 else 0):=by
 obtain⟨h1,h2,h3,h4⟩:=h;simp only at h1 h2 h3 h4;have hk:=(bD hx).1;have hx2:=bm x;refine⟨hk,by simp[h2],by simp only;split<;>omega,?_⟩;simp only;obtain⟨r,hr⟩:∃r,R[k]?=some r:=⟨R[k],aQ J⟩;have e1:nv ((R.set k (UInt16.ofNat (x.toNat+(if x.toNat<c+y then 65536 else 0)-(c+y)))).take (k+1))=nv (R.take k)+65536^k*(x.toNat+(if x.toNat<c+y then 65536 else 0)-(c+y)):=by
  rw[d9 (dl J),lZ (aH),bh,cM (by split<;>omega)]
 rw[e1,d9 hx,hy,cn];generalize 65536^k=W at *
 split
 .rename_i hlt;have:W*(x.toNat+65536-(c+y))+W*c+W*y=W*x.toNat+W*65536:=by rw[<-bB,<-bB,<-bB];congr 1;omega
  omega
 .rename_i hlt;have:W*(x.toNat+0-(c+y))+W*c+W*y=W*x.toNat:=by rw[<-bB,<-bB];congr 1;omega
  omega
theorem FF {A B:List UInt16}{R:List UInt16}{c:Nat}(h:MinI A B (A.length,R,c))(hle:nv B<=nv A):nv R=nv A-nv B:=by
 obtain⟨h1,h2,h3,h4⟩:=h;simp only at h1 h2 h3 h4;rw[bM,dp J]at h4;have hA:=cX A;have hR:=cX R;rw[h2]at hR;rcases aT B.length A.length with hb|hb
 .rw[fk J]at h4;generalize 65536^A.length=W at *
  have:c=0:=by
   rcases dP c with h|h
   .exact h
   .have:c=1:=J;subst this;omega
  subst this;omega
 .have hs:=dx B A.length hb;generalize 65536^A.length=W at *
  have hz:nv (B.drop A.length)=0:=by
   rcases dP (nv (B.drop A.length)) with h|h
   .exact h
   .have:=cW W h;omega
  rw[hz]at hs;have:c=0:=by
   rcases dP c with h|h
   .exact h
   .have:c=1:=J;subst this;omega
  subst this;omega
theorem nH {R:List UInt16}{i:Nat}(h:i<R.length):∃r,(R.map eU)[i]?=some (eU r):=by
 obtain⟨r,hr⟩:=aK h;exact⟨r,by rw[aV,hr];rfl⟩
theorem l9 (n:Nat):List.replicate n [PV.int .u16 0]=(List.replicate n (0:UInt16)).map eU:=by rw[List.map_replicate];rfl
theorem r7 (a b:List UInt16)(ha:a.length<=100000000)(hb:b.length<=100000000)(hle:nv b<=nv a):bb 218 [.sl (a.map eU),.sl (b.map eU)] (.sl ((aq (nv a-nv b)).map eU)):=by
 have hal:(a.map eU).length=a.length:=aj;have hbl:(b.map eU).length=b.length:=aj;refine ay Proofs.Tryz.func218 ?_;refine H ?_;refine aC (jy O O O O O O O O J (by show(2:Int)*_<=_;omega) J ?_);rw[show(((a.map eU).length:Nat):Int).toNat=a.length by omega,l9];refine H ?_;refine ao (MinI a b) (fun q=>[(1,.sl (b.map eU)),(5,.als 12 1 0 (q.2.1.map eU).length),(6,.int .u32 (q.2.2:Nat)),(13,.sl (a.map eU)),(14,I a.length),(15,I q.1)])
  (fun q=>[(12,1,⟨218,1,q.2.1.map eU,0⟩)]) (fun q=>a.length-q.1) (0,List.replicate a.length 0,0) ⟨aF _,aj,aF _,by simp[nv]⟩ ⟨O,O,O,O,?_,ak⟩ ?_
 .show I ((a.map eU).length)=_;rw[hal]
 rintro⟨k,R,c⟩ s2 hI;have hk:=hI.k;have hc:=hI.c;have hRl:=hI.l;simp only at hk hc hRl;dsimp only;refine D ?_ ?_<;>intro h
 .have hlt:k<a.length:=cP h;clear h;obtain⟨x,hx⟩:=aK hlt;have hxl:=bm x;obtain⟨r,hr⟩:=nH (R:=R) (i:=k) J;obtain⟨y,hyl,hy,hyb⟩:∃y:Nat,y<65536/\nv (b.take (k+1))=nv (b.take k)+65536^k*y/\(if k<b.length then ∃u:UInt16,b[k]?=some u/\u.toNat=y else y=0):=by
   by_cases hb:k<b.length
   .obtain⟨u,hu⟩:=aK hb;exact⟨u.toNat,bm u,d9 hu,by rw[if_pos hb];exact⟨u,hu,O⟩⟩
   .exact⟨0,Y,by rw[fk J,fk J];omega,by rw[if_neg hb]⟩
  have hst:=Df hI hx hy hyl;have e0:IntKind.u32.wrap (x.toNat:Int)=(x.toNat:Int):=wrap_u32 J J;refine aZ hx ?_;refine H ?_;refine uj [(1,.sl (b.map eU)),(5,.als 12 1 0 (R.map eU).length),(6,.int .u32 (c:Nat)),(7,I k),(8,.int .u16 x.toNat),(9,.int .u32 ((c+y:Nat):Int)),(13,.sl (a.map eU)),(14,I a.length),(15,I k)] [(12,1,⟨218,1,R.map eU,0⟩)] ?_ (fun s3=>?_)
  .refine cO O ?_ ?_<;>intro h
   .have hb:k<b.length:=by have:=bK h;rw[hbl]at this;omega
    clear h;rw[if_pos hb]at hyb;obtain⟨u,hu,rfl⟩:=hyb;have e1:IntKind.u32.wrap ((c:Int)+IntKind.u32.wrap (u.toNat:Int))=((c+u.toNat:Nat):Int):=by rw[wrap_u32 (n:=(u.toNat:Int)) J J,wrap_u32 J J];omega
    refine aZ hu ?_;refine H ?_;rw[e1];exact ak
   .have hb:¬k<b.length:=by have:=cJ h;rw[hbl]at this;omega
    clear h;rw[if_neg hb]at hyb;subst hyb;refine H ?_;exact ak
  by_cases hlt2:x.toNat<c+y
  .rw[if_pos hlt2,if_pos hlt2]at hst;have e2:IntKind.u16.wrap (IntKind.u32.wrap (IntKind.u32.wrap ((x.toNat:Int)+IntKind.u32.wrap ((1:Int)*2^(16:Int).toNat))-((c+y:Nat):Int)))=((UInt16.ofNat (x.toNat+65536-(c+y))).toNat:Int):=by
    rw[show IntKind.u32.wrap ((1:Int)*2^(16:Int).toNat)=65536 by decide,wrap_u32 (n:=(x.toNat:Int)+65536) J J,wrap_u32 J J,<-wrap_u16];congr 1;omega
   refine H ?_;rw[e0];refine D ?_ ?_<;>intro h
   .clear h;refine H ?_;rw[e0];refine H ?_;rw[e2];refine bX O O (co O O O O O O O J (by rw[aM];omega)) ?_;rw[aS,aG k];refine c9 (bW (kd':=0) O O O hr O O ak O O O O ?_);refine H ?_;refine⟨(k+1,_,_),hst,by simp only;omega,O,?_,O,O,O,cU J J,?_,bP⟩
    .show PV.als 12 1 0 _=PV.als 12 1 0 _;rw[aM,aM,iA]
    .refine Eq.trans (b:=(1,some (Cont.mk 218 1 ((R.map eU).set k (eU (UInt16.ofNat (x.toNat+65536-(c+y))))) 0))) O ?_;rw[gQ]
   .have:=cJ h;omega
  .rw[if_neg hlt2,if_neg hlt2]at hst;have e2:IntKind.u16.wrap (IntKind.u32.wrap (IntKind.u32.wrap ((x.toNat:Int)+IntKind.u32.wrap ((0:Int)*2^(16:Int).toNat))-((c+y:Nat):Int)))=((UInt16.ofNat (x.toNat+0-(c+y))).toNat:Int):=by
    rw[show IntKind.u32.wrap ((0:Int)*2^(16:Int).toNat)=0 by decide,wrap_u32 (n:=(x.toNat:Int)+0) J J,wrap_u32 J J,<-wrap_u16];congr 1;omega
   refine H ?_;rw[e0];refine D ?_ ?_<;>intro h
   .have:=bK h;omega
   .clear h;refine H ?_;rw[e0];refine H ?_;rw[e2];refine bX O O (co O O O O O O O J (by rw[aM];omega)) ?_;rw[aS,aG k];refine c9 (bW (kd':=0) O O O hr O O ak O O O O ?_);refine H ?_;refine⟨(k+1,_,_),hst,by simp only;omega,O,?_,O,O,O,cU J J,?_,bP⟩
    .show PV.als 12 1 0 _=PV.als 12 1 0 _;rw[aM,aM,iA]
    .refine Eq.trans (b:=(1,some (Cont.mk 218 1 ((R.map eU).set k (eU (UInt16.ofNat (x.toNat+0-(c+y))))) 0))) O ?_;rw[gQ]
 .have hge:k=a.length:=cG h;subst hge;clear h;have hfin:a_ R=aq (nv a-nv b):=by rw[a_,FF hI hle]
  have ht:=cZ R J;rw[hfin]at ht
  (refine dN 14 ?_;refine aD 1 ?_)
  refine H ?_;refine aU O (eM (Ghost.takeF (enc:=eU) (t:=48) (R) O O (O) O (fun _=>rfl)) ?_)
  (refine l5 (eL O (ht) O ?_ O) ?_;.repeat' constructor)
  refine aE ?_;refine H ?_;exact jL O O O trivial O
theorem sN (k g i:Nat)(R:List UInt16)(y:UInt16):PV.als k g 0 (((R.map eU).set i (eU y))).length=PV.als k g 0 ((R.set i y).map eU).length:=by simp
theorem eQ (g T sz kd i:Nat)(R:List UInt16)(y:UInt16):(g,some (Cont.mk T sz ((R.map eU).set i (eU y)) kd))=(g,some (Cont.mk T sz ((R.set i y).map eU) kd)):=by rw[gQ]
structure TimO (A B:List UInt16) (q:Nat × List UInt16):Prop where
 i:q.1<=A.length
 l:q.2.length=A.length+B.length
 v:nv (q.2.take (q.1+B.length))=nv (A.take q.1)*nv B
structure TimI (A B:List UInt16) (i x:Nat) (q:Nat × List UInt16 × Nat):Prop where
 k:q.1<=B.length
 l:q.2.1.length=A.length+B.length
 c:q.2.2<65536
 v:nv (q.2.1.take (i+B.length))+65536^(i+q.1)*q.2.2=nv (A.take i)*nv B+65536^i*(x*nv (B.take q.1))
theorem v_ {x y:Nat}(hx:x<65536)(hy:y<65536):x*y<=4294836225:=by
 have:=dr (show x<=65535 by omega) (show y<=65535 by omega);omega
theorem EL {A B:List UInt16}{i x k:Nat}{R:List UInt16}{c:Nat}{y r:UInt16}(h:TimI A B i x (k,R,c))(hx:x<65536)(hy:B[k]?=some y)(hr:R[i+k]?=some r) :
  TimI A B i x (k+1,R.set (i+k) (UInt16.ofNat (c+(x*y.toNat+r.toNat))),(c+(x*y.toNat+r.toNat))/65536):=by
 obtain⟨h1,h2,h3,h4⟩:=h;simp only at h1 h2 h3 h4;have hk:=(bD hy).1;have hyl:=bm y;have hrl:=bm r;have hm:=v_ hx hyl;refine⟨hk,by simp[h2],by simp only;omega,?_⟩;simp only;have hs:=zE (t:=i+B.length) hr J (UInt16.ofNat (c+(x*y.toNat+r.toNat)));rw[bh]at hs;rw[d9 hy,show i+(k+1)=(i+k)+1 by omega,cn];have e:=gE (c+(x*y.toNat+r.toNat)) 65536;generalize (c+(x*y.toNat+r.toNat))%65536=m,(c+(x*y.toNat+r.toNat))/65536=d at *
 have e2:65536^i*(x*(nv (B.take k)+65536^k*y.toNat))=65536^i*(x*nv (B.take k))+65536^(i+k)*(x*y.toNat):=by
  rw[bB,bB,fF];congr 1;simp only[bS,i9,b0]
 rw[e2];generalize 65536^(i+k)=W at *
 have e3:W*(m+65536*d)=W*(c+(x*y.toNat+r.toNat)):=by rw[e]
 simp only[bB]at e3;rw[bS];omega
theorem EK {A B:List UInt16}{i:Nat}{x r:UInt16}{R:List UInt16}{c:Nat}(hx:A[i]?=some x)(h:TimI A B i x.toNat (B.length,R,c))(hr:R[i+B.length]?=some r):TimO A B (i+1,R.set (i+B.length) (UInt16.ofNat c)):=by
 obtain⟨h1,h2,h3,h4⟩:=h;simp only at h1 h2 h3 h4;have hk:=(bD hx).1;refine⟨hk,by simp[h2],?_⟩;simp only;rw[show i+1+B.length=i+B.length+1 by omega,d9 (dl J),lZ (aH),bh,cM h3,h4,bM,d9 hx,be,bS]
theorem GA {A B R:List UInt16}(h:TimO A B (A.length,R)):nv R=nv A*nv B:=by
 have h1:=h.l;have h2:=h.v;simp only at h1 h2;rwa [bM,dp J]at h2
theorem BJ (a b:List UInt16)(ha:a.length<=100000000)(hb:b.length<=100000000):bb 219 [.sl (a.map eU),.sl (b.map eU)] (.sl ((aq (nv a*nv b)).map eU)):=by
 have hal:(a.map eU).length=a.length:=aj;have hbl:(b.map eU).length=b.length:=aj;have hw0:IntKind.i64.wrap ((((a.map eU).length:Nat):Int)+(((b.map eU).length:Nat):Int))=((a.length+b.length:Nat):Int):=by rw[hal,hbl,wrap_i64 J J];omega
 refine ay Proofs.Tryz.func219 ?_;refine H ?_;rw[hw0];refine aC (jy O O O O O O O O J (by show(2:Int)*_<=_;omega) J ?_);rw[aS,l9];refine H ?_;refine ao (TimO a b) (fun q=>[(1,.sl (b.map eU)),(5,.als 16 1 0 (q.2.map eU).length),(17,.sl (a.map eU)),(18,I a.length),(19,I q.1)])
  (fun q=>[(16,1,⟨218,1,q.2.map eU,0⟩)]) (fun q=>a.length-q.1) (0,List.replicate (a.length+b.length) 0) ⟨aF _,aj,by simp[nv];exact ud _⟩ ⟨O,O,O,?_,ak⟩ ?_
 .show I ((a.map eU).length)=_;rw[hal]
 rintro⟨i,R⟩ s1 hO;have hi:=hO.i;have hRl:=hO.l;have hOv:=hO.v;simp only at hi hRl hOv;dsimp only;refine D ?_ ?_<;>intro h
 .have hlt:i<a.length:=cP h;clear h;obtain⟨x,hx⟩:=aK hlt;have hxl:=bm x;have ex:IntKind.u32.wrap (x.toNat:Int)=(x.toNat:Int):=wrap_u32 J J;refine aZ hx ?_;refine H ?_;refine ao (TimI a b i x.toNat) (fun q=>[(1,.sl (b.map eU)),(5,.als 16 1 0 (q.2.1.map eU).length),(6,I i),(7,.int .u16 x.toNat),(8,.int .u32 (q.2.2:Nat)),(17,.sl (a.map eU)),(18,I a.length),(19,I i),(24,.sl (b.map eU)),(25,I b.length),(26,I q.1)])
   (fun q=>[(16,1,⟨218,1,q.2.1.map eU,0⟩)]) (fun q=>b.length-q.1) (0,R,0) ⟨aF _,hRl,tN _,by simp[nv];exact hOv⟩ ⟨O,O,O,O,O,O,O,O,O,?_,ak⟩ ?_
  .show I ((b.map eU).length)=_;rw[hbl]
  rintro⟨k,Q,c⟩ s2 hI;have hk:=hI.k;have hQl:=hI.l;have hc:=hI.c;simp only at hk hQl hc;dsimp only;refine D ?_ ?_<;>intro h
  .have hlt2:k<b.length:=cP h;clear h;obtain⟨y,hy⟩:=aK hlt2;obtain⟨r,hr⟩:=aK (show i+k<Q.length by omega);have hr2:(Q.map eU)[i+k]?=some (eU r):=by rw[aV,hr];rfl
   have hst:=EL hI hxl hy hr;have hyl:=bm y;have hrl:=bm r;have hm:=v_ hxl hyl;have hmi:(x.toNat:Int)*(y.toNat:Int)=((x.toNat*y.toNat:Nat):Int):=by rw[iB]
   have ey:IntKind.u32.wrap (y.toNat:Int)=(y.toNat:Int):=wrap_u32 J J;have er:IntKind.u32.wrap (r.toNat:Int)=(r.toNat:Int):=wrap_u32 J J;have e1:IntKind.u32.wrap ((c:Int)+IntKind.u32.wrap (IntKind.u32.wrap ((x.toNat:Int)*(y.toNat:Int))+(r.toNat:Int)))=((c+(x.toNat*y.toNat+r.toNat):Nat):Int):=by
    rw[hmi,wrap_u32 (n:=((x.toNat*y.toNat:Nat):Int)) J J,wrap_u32 (n:=((x.toNat*y.toNat:Nat):Int)+(r.toNat:Int)) J J,wrap_u32 J J];omega
   have ei:IntKind.i64.wrap ((i:Int)+(k:Int))=((i+k:Nat):Int):=by rw[wrap_i64 J J];omega
   generalize hsm:c+(x.toNat*y.toNat+r.toNat)=sm at *
   refine aZ hy ?_;refine H ?_;rw[ex];refine H ?_;rw[ey];refine H ?_;rw[ei];refine bX O O (co O O O O O O O J (by rw[aM];omega)) ?_;rw[aS,aG (i+k)];refine bX O O (c_ O O O hr2 O) ?_;refine H ?_;rw[er];refine H ?_;rw[e1];refine H ?_;rw[ei];refine H ?_;rw[wrap_u16];refine bX O O (co O O O O O O O J (by rw[aM];omega)) ?_;rw[aS,aG (i+k)];refine c9 (bW (kd':=0) O O O hr2 O O ak O O O O ?_);refine H ?_;refine⟨(k+1,_,_),hst,by simp only;omega,O,?_,O,O,?_,O,O,O,O,O,cU J J,?_,bP⟩
   .exact sN 16 1 (i+k) Q (UInt16.ofNat sm) |> fun h=>by
     show PV.als 16 1 0 (Q.map eU).length=_;rw[<-h,iA]
   .show PV.int .u32 ((sm:Int)/2^16)=PV.int .u32 ((sm/65536:Nat):Int);congr 1
   .exact eQ 1 218 1 0 (i+k) Q (UInt16.ofNat sm)
  .have hge:k=b.length:=cG h;subst hge;clear h;obtain⟨r,hr⟩:=aK (show i+b.length<Q.length by omega);have hr2:(Q.map eU)[i+b.length]?=some (eU r):=by rw[aV,hr];rfl
   have hst:=EK hx hI hr;have ei:IntKind.i64.wrap ((i:Int)+(((b.map eU).length:Nat):Int))=((i+b.length:Nat):Int):=by rw[hbl,wrap_i64 J J];omega
   refine H ?_;rw[ei];refine H ?_;rw[wrap_u16];refine bX O O (co O O O O O O O J (by rw[aM];omega)) ?_;rw[aS,aG (i+b.length)];refine c9 (bW (kd':=0) O O O hr2 O O ak O O O O ?_);refine H ?_;refine⟨(i+1,_),hst,by simp only;omega,O,?_,O,O,cU J J,?_,bP⟩
   .show PV.als 16 1 0 (Q.map eU).length=_;rw[<-sN 16 1 (i+b.length) Q (UInt16.ofNat c),iA]
   .exact eQ 1 218 1 0 (i+b.length) Q (UInt16.ofNat c)
 .have hge:i=a.length:=cG h;subst hge;clear h;have hfin:a_ R=aq (nv a*nv b):=by rw[a_,GA hO]
  have ht:=cZ R J;rw[hfin]at ht
  (refine dN 15 ?_;refine aD 1 ?_)
  refine H ?_;refine aU O (eM (Ghost.takeF (enc:=eU) (t:=65) (R) O O (O) O (fun _=>rfl)) ?_)
  (refine l5 (eL O (ht) O ?_ O) ?_;.repeat' constructor)
  refine aE ?_;refine H ?_;exact jL O O O trivial O
end Go.Pv
namespace Go.Pv
open Go.RowKit
theorem Io {P:Program}{w:World}{m:Sem Value}{v:Value}(h:m.run P w=.ok v w):(do pure (Next.value (<-m)):Sem Next).run P w=.ok (.value v) w:=by simp[h]
section
variable {P:Program}{L:b9}{s:St}
theorem kT [Globs]{T T':TypeId}{d:Nat}{x:Operand}{r:LRow}{E:TypeId}{ty:TypeId}{pos:String}{af:Array Edge}{rows:List (List PV)}{K:St->Prop}(hL:iW P L)(hr:L T=some r)(hs:r.sh=.sl E)(hx:s.ev x=.sl rows)
  (h1:rows=[]->K (s.putR d (.bool true))) (h2:K (s.putR d (.bool false))):Sm P L s ⟨some d,.binOp .eql T x (.const (.slice none 0 0)) T',ty,pos,af,none⟩ K:=by
 intro C a w Q hG ⟨γ,hs'⟩ hN;have hv:=hs'.ev x;rw[hx]at hv;have hu:=gZ (hL T r hr) hs
 have run:∀(v:Value) (b:Bool),a.eval x=v->((v=.slice none 0 0\/∃c,v=.slice none 0 c)/\b=true\/(∃q n c,v=.slice (some q) n c)/\b=false) ->
   (execOp a.eval ⟨some d,.binOp .eql T x (.const (.slice none 0 0)) T',ty,pos,af,none⟩).run P w=.ok (.value (.bool b)) w:=by
  intro v b hv hb;have e2:a.eval (.const (.slice none 0 0)) = .slice none 0 0:=O;simp only[execOp,hv,e2];refine Io ?_;rcases hb with⟨rfl|⟨c,rfl⟩,rfl⟩|⟨⟨q,n,c,rfl⟩,rfl⟩
  .have hg:eqGuard .eql T x (.const (.slice none 0 0)) (.slice none 0 0) (.slice none 0 0)=pure ():=by cases x<;>rfl
   rw[hg];have h:∀d:Nat,(Op.equalIn (d+1) T (.slice none 0 0) (.slice none 0 0)).run P w=.ok true w:=fun d=>by simp[Op.equalIn,run_underlying hu]
   simp only[Sem.run_bind,Sem.run_pure,Result.andThen_ok,binOp];simp[Op.equal,Op.maxDepth,h 9999]
  .have hg:eqGuard .eql T x (.const (.slice none 0 0)) (.slice none 0 c) (.slice none 0 0)=pure ():=by cases x<;>rfl
   rw[hg];have h:∀d:Nat,(Op.equalIn (d+1) T (.slice none 0 c) (.slice none 0 0)).run P w=.ok true w:=fun d=>by simp[Op.equalIn,run_underlying hu]
   simp only[Sem.run_bind,Sem.run_pure,Result.andThen_ok,binOp];simp[Op.equal,Op.maxDepth,h 9999]
  .have hg:eqGuard .eql T x (.const (.slice none 0 0)) (.slice (some q) n c) (.slice none 0 0)=pure ():=by cases x<;>rfl
   rw[hg];have h:∀d:Nat,(Op.equalIn (d+1) T (.slice (some q) n c) (.slice none 0 0)).run P w=.ok false w:=fun d=>by simp[Op.equalIn,run_underlying hu]
   simp only[Sem.run_bind,Sem.run_pure,Result.andThen_ok,binOp];simp[Op.equal,Op.maxDepth,h 9999]
 generalize hev:a.eval x=v0 at hv;cases hv with
 |d hd =>
  cases hd with
  |sl0 q cap =>
   cases q with
   |none =>
    unfold Oper.wp;rw[run _ true hev (.inl ⟨.inr ⟨_,O⟩,O⟩),Oper.upon_value];exact⟨_,⟨_,hs'.put (d:=some d) hN (.d (.bool _))⟩,h1 O⟩
   |some q =>
    unfold Oper.wp;rw[run _ false hev (.inr ⟨⟨_,_,_,O⟩,O⟩),Oper.upon_value];exact⟨_,⟨_,hs'.put (d:=some d) hN (.d (.bool _))⟩,h2⟩
  |sl rows b off cap sz vals =>
   unfold Oper.wp;rw[run _ false hev (.inr ⟨⟨_,_,_,O⟩,O⟩),Oper.upon_value];exact⟨_,⟨_,hs'.put (d:=some d) hN (.d (.bool _))⟩,h2⟩
end
theorem fY [Globs]{P:Program}{L:b9}{Q:Exit->St->Prop}{s:St}(h:PWP P L .ret Q s):PWP P L .ret Q s:=h
end Go.Pv
set_option maxHeartbeats 2000000
namespace Go.Pv
attribute [local irreducible] PWP POps PQuiet PSem XThen XBlock RetPost InlPost
open Go.Proofs
theorem w_ (a b:Nat):(a:Int).tdiv (b:Int)=((a/b:Nat):Int):=rfl
theorem qZ (a b:Nat):(a:Int).tmod (b:Int)=((a%b:Nat):Int):=rfl
theorem JE {x y:Nat}(hx:x<65536)(hy:y<65536):bits .or .u32 ((x*65536:Nat):Int) (y:Int)=((x*65536+y:Nat):Int):=by
 rw[bits_join .u32 32 Y wraps_u32 16 _ _ J J J J J J];omega
theorem H1 {x y:Nat}(hx:x<281474976710656)(hy:y<65536):bits .or .u64 ((x*65536:Nat):Int) (y:Int)=((x*65536+y:Nat):Int):=by
 rw[bits_join .u64 64 Y wraps_u64 16 _ _ J J J J J J];omega
theorem Hk {x:Nat}(hx:x<65536):IntKind.u32.wrap ((x:Int)*2^(16:Int).toNat)=((x*65536:Nat):Int):=by
 rw[show((2:Int)^(16:Int).toNat)=65536 by decide,wrap_u32 J J];omega
theorem Ed {x:Nat}(hx:x<281474976710656):IntKind.u64.wrap ((x:Int)*2^(16:Int).toNat)=((x*65536:Nat):Int):=by
 rw[show((2:Int)^(16:Int).toNat)=65536 by decide,wrap_u64 J J];omega
structure ShI (A:List UInt16) (b:Nat) (q:Nat × List UInt16 × Nat):Prop where
 k:q.1<=A.length
 l:q.2.1.length=A.length
 c:q.2.2<b
 v:nv (A.drop q.1)=b*nv (q.2.1.drop q.1)+q.2.2
theorem rp {l:List UInt16}{i:Nat}{y:UInt16}(h:i<l.length):(l.set i y).drop i=y::l.drop (i+1):=by
 have h1:(l.set i y)[i]?=some y:=dl h;have h2:=tg (l:=l.set i y) (i:=i);rw[h1]at h2;rw[h2];show y::(l.set i y).drop (i+1)=_;congr 1;apply fP;intro j;rw[cq,cq,cV J]
theorem Gl {A:List UInt16}{b j:Nat}{Q:List UInt16}{c:Nat}{x:UInt16}(h:ShI A b (j+1,Q,c))(hb:b<65536)(hx:A[j]?=some x) :
  ShI A b (j,Q.set j (UInt16.ofNat ((c*65536+x.toNat)/b)),(c*65536+x.toNat)%b):=by
 obtain⟨h1,h2,h3,h4⟩:=h;simp only at h1 h2 h3 h4;have hj:=(bD hx).1;have hxl:=bm x;refine⟨by simp only;omega,by simp[h2],d0 _ J,?_⟩;simp only;have hq:(c*65536+x.toNat)/b<65536:=by
  rw[oY J];have:=cm 65536 (show c+1<=b by omega);omega
 rw[fH hx,h4,rp J,nv,bh,cM hq,bB 65536,bB b];have e:=jb (c*65536+x.toNat) b;have e2:b*(65536*nv (Q.drop (j+1)))=65536*(b*nv (Q.drop (j+1))):=by rw[i9]
 rw[e2];omega
theorem Bu (a:List UInt16)(b:UInt16)(ha:a.length<=100000000)(hb:0<b.toNat):bb 272 [.sl (a.map eU),.int .u16 b.toNat] (.tup [.sl ((aq (nv a/b.toNat)).map eU),.int .u16 ((nv a%b.toNat:Nat):Int)]):=by
 have hal:(a.map eU).length=a.length:=aj;have hbl:=bm b;have hw0:IntKind.i64.wrap (((((a.map eU).length:Nat):Int))-1)=(a.length:Int)-1:=by rw[hal,wrap_i64 J J]
 have eb:IntKind.u32.wrap (b.toNat:Int)=(b.toNat:Int):=wrap_u32 J J;have hb0:¬((b.toNat:Nat):Int)=0:=J;refine ay Proofs.Tryz.func272 ?_;refine H ?_;refine aC (jy O O O O O O O O J (by show(2:Int)*_<=_;omega) J ?_);rw[show(((a.map eU).length:Nat):Int).toNat=a.length by omega,l9];refine H ?_;rw[hw0];refine ao (ShI a b.toNat) (fun q=>[(0,.sl (a.map eU)),(1,.int .u16 b.toNat),(6,.als 11 1 0 (q.2.1.map eU).length),(7,.int .u32 (q.2.2:Nat)),(8,I ((q.1:Int)-1))])
  (fun q=>[(11,1,⟨218,1,q.2.1.map eU,0⟩)]) (fun q=>q.1) (a.length,List.replicate a.length 0,0) ⟨aH,aj,hb,by simp[nv]⟩ ak ?_
 rintro⟨k,Q,c⟩ s1 hI;have hk:=hI.k;have hQl:=hI.l;have hc:=hI.c;simp only at hk hQl hc;dsimp only;refine D ?_ ?_<;>intro h
 .have hk0:0<k:=cP h;clear h;obtain⟨j,rfl⟩:∃j,k=j+1:=⟨k-1,J⟩;have e1:(((j+1:Nat):Int)-1)=(j:Nat):=J;obtain⟨x,hx⟩:=aK (show j<a.length by omega);have hxl:=bm x;obtain⟨r,hr⟩:=nH (R:=Q) (i:=j) J;have hst:=Gl hI hbl hx;have hst2:=hst.c;simp only at hst2;have ex:IntKind.u32.wrap (x.toNat:Int)=(x.toNat:Int):=wrap_u32 J J;have hsmb:c*65536+x.toNat<4294967296:=J;have hor:=JE (x:=c) (y:=x.toNat) J hxl;have hq:(c*65536+x.toNat)/b.toNat<=c*65536+x.toNat:=gD _ _;rw[e1];refine H ?_;rw[Hk J];refine Gb O O O O O O O hx O ?_;refine H ?_;rw[ex,hor];generalize c*65536+x.toNat=sm at *
  refine H ?_;rw[eb];refine m9 O hb0 ?_;rw[w_];generalize hqq:sm/b.toNat=qq at *
  rw[wrap_u32 (n:=(qq:Int)) J J];refine H ?_;rw[wrap_u16];refine bX O O (co O O O O O O O J (by rw[aM];omega)) ?_;rw[aS,aG j];refine c9 (bW (kd':=0) O O O hr O O ak O O O O ?_);refine H ?_;rw[eb];refine m9 O hb0 ?_;rw[qZ];refine H ?_;refine⟨(j,_,_),hst,by simp only;omega,O,O,?_,O,?_,?_,bP⟩
  .show PV.als 11 1 0 (Q.map eU).length=_;rw[<-sN 11 1 j Q (UInt16.ofNat qq),iA]
  .exact congrArg I (wrap_i64 J J)
  .exact eQ 1 218 1 0 j Q (UInt16.ofNat qq)
 .have hge:k=0:=cG h;subst hge;clear h;have hv:=hI.v;simp only[fS]at hv;have hd:nv a/b.toNat=nv Q/\nv a%b.toNat=c:=by
   rw[hv,Nat.mul_add_div hb,pe,mN hc,cM hc];omega
  have ht:=cZ Q J;rw[a_,<-hd.1]at ht
  (refine dN 9 ?_;refine aD 1 ?_)
  refine H ?_;refine aU O (eM (Ghost.takeF (enc:=eU) (t:=39) (Q) O O (O) O (fun _=>rfl)) ?_)
  (refine l5 (eL O (ht) O ?_ O) ?_;.repeat' constructor)
  refine aE ?_;refine H ?_;rw[wrap_u16,bh,cM (show c<65536 by omega),<-hd.2];refine H ?_;exact xG O O O O O trivial trivial O
def jR:Nat->Nat->List UInt16
 |0,_=>[]
 |k+1,v=>UInt16.ofNat v::jR k (v/65536)
theorem jS:∀k v,(jR k v).length=k
 |0,_=>rfl
 |k+1,v=>by rw[jR,eJ,jS k]
theorem sY:∀k v,v<65536^k->nv (jR k v)=v
 |0,v,h=>by simp at h;subst h;rfl
 |k+1,v,h=>by
  rw[jR,nv,bh,sY k (v/65536) (by rw[cn]at h;exact lU (by rw[b0];exact h))];exact gE _ _
theorem s8:∀(l:List UInt16),l=jR l.length (nv l)
 |[]=>rfl
 |x::l=>by
  have hx:=bm x;rw[eJ,jR,nv];have e1:UInt16.ofNat (x.toNat+65536*nv l)=x:=by apply q_;rw[bh];omega
  have e2:(x.toNat+65536*nv l)/65536=nv l:=J;rw[e1,e2,<-s8 l]
structure SfI (A:List UInt16) (s:Nat) (q:Nat × List UInt16):Prop where
 i:q.1<=A.length
 l:q.2.length=A.length+1
 r:(q.2.getD q.1 0).toNat<2^s
 v:nv (q.2.take (q.1+1))=nv (A.take q.1)*2^s
theorem D_ {x s:Nat}(hs:s<=16):(x*2^s%65536)%2^s=0:=by
 rw[show 65536=2^s*2^(16-s) by rw[<-fF,show s+(16-s)=16 by omega]];rw[Nat.mod_mul_right_mod,Nat.mul_mod_left]
theorem zW {A:List UInt16}{s i:Nat}{R:List UInt16}{x:UInt16}(h:SfI A s (i,R))(hs:s<=16)(hx:A[i]?=some x) :
  ((R.getD i 0).toNat+x.toNat*2^s%65536<65536)/\SfI A s (i+1,(R.set i (UInt16.ofNat ((R.getD i 0).toNat+x.toNat*2^s%65536))).set (i+1) (UInt16.ofNat (x.toNat*2^s/65536))):=by
 obtain⟨h1,h2,h3,h4⟩:=h;simp only at h1 h2 h3 h4;have hk:=(bD hx).1;have hxl:=bm x;have hp:0<2^s:=fE Y;have hw:x.toNat*2^s/65536<2^s:=by
  rw[oY Y];have:=(kx hp).2 hxl;rw[b0 (2^s)];exact this
 have hp2:2^s<=65536:=fb (n:=2) Y hs;have hlo:=D_ (x:=x.toNat) hs;have hd:2^s*2^(16-s)=65536:=by rw[<-fF,show s+(16-s)=16 by omega]
 have hm:=d0 (x.toNat*2^s) (show 65536>0 by decide);have hlt:(R.getD i 0).toNat+x.toNat*2^s%65536<65536:=by
  generalize x.toNat*2^s%65536=m at *
  obtain⟨c,hc⟩:=Nat.dvd_of_mod_eq_zero hlo;have hc2:c<2^(16-s):=by
   rw[hc,<-hd]at hm;exact zg hm
  have:=cW (2^s) (show c+1<=2^(16-s) by omega);rw[bB]at this;omega
 have hRi:R[i]?=some (R.getD i 0):=cK J;refine⟨hlt,hk,by simp[h2],?_,?_⟩
 .simp only;rw[cH,dl aX];show(UInt16.ofNat _).toNat<_;rw[bh,cM J];exact hw
 .simp only;rw[d9 (i:=i+1) (dl aX),lZ (aH),bh,cM (a:=x.toNat*2^s/65536) J];have e1:=zE (t:=i+1) hRi J (UInt16.ofNat ((R.getD i 0).toNat+x.toNat*2^s%65536));rw[bh,cM hlt,h4]at e1;rw[d9 hx,be];have e2:=gE (x.toNat*2^s) 65536;have e3:65536^i*x.toNat*2^s=65536^i*(x.toNat*2^s%65536)+65536^(i+1)*(x.toNat*2^s/65536):=by
   rw[cn,bS,bS,<-bB,e2]
  rw[e3];rw[bB]at e1;omega
theorem wT (a:List UInt16)(s:Nat)(ha:a.length<=100000000)(hs:s<=16):Ret Tryz.prog .fresh 274 [.sl (a.map eU),I s] (.sl ((jR (a.length+1) (nv a*2^s)).map eU)):=by
 have hal:(a.map eU).length=a.length:=aj;have hw0:IntKind.i64.wrap (((((a.map eU).length:Nat):Int))+1)=((a.length+1:Nat):Int):=by rw[hal,wrap_i64 J J];omega
 have hp2:2^s<=65536:=fb (n:=2) Y hs;refine ay Proofs.Tryz.func274 ?_;refine H ?_;rw[hw0];refine aC (jy O O O O O O O O J (by show(2:Int)*_<=_;omega) J ?_);rw[aS,l9];refine H ?_;refine ao (SfI a s) (fun q=>[(1,I s),(5,.als 12 1 0 (q.2.map eU).length),(13,.sl (a.map eU)),(14,I a.length),(15,I q.1)])
  (fun q=>[(12,1,⟨218,1,q.2.map eU,0⟩)]) (fun q=>a.length-q.1) (0,List.replicate (a.length+1) 0) ⟨aF _,aj,by simp[cH];exact fE Y,by simp[nv]⟩ ⟨O,O,O,?_,ak⟩ ?_
 .show I ((a.map eU).length)=_;rw[hal]
 rintro⟨i,R⟩ s1 hI;have hi:=hI.i;have hRl:=hI.l;have hrr:=hI.r;simp only at hi hRl hrr;dsimp only;refine D ?_ ?_<;>intro h
 .have hlt:i<a.length:=cP h;clear h;obtain⟨x,hx⟩:=aK hlt;have hxl:=bm x;obtain⟨hst0,hst⟩:=zW hI hs hx;have hr:(R.map eU)[i]?=some (eU (R.getD i 0)):=by rw[aV,cK J];rfl
  generalize hrd:R.getD i 0=r at *
  obtain⟨r2,hr2⟩:=nH (R:=R.set i (UInt16.ofNat (r.toNat+x.toNat*2^s%65536))) (i:=i+1) aX;have hlo:=D_ (x:=x.toNat) hs;have hwb:x.toNat*2^s<4294967296:=by
   have:=dr (show x.toNat<=65535 by omega) hp2;omega
  have ex:IntKind.u32.wrap (x.toNat:Int)=(x.toNat:Int):=wrap_u32 J J;have esh:IntKind.u32.wrap ((x.toNat:Int)*2^(s:Int).toNat)=((x.toNat*2^s:Nat):Int):=by
   rw[aS,show((x.toNat:Int)*2^s)=((x.toNat*2^s:Nat):Int) by push_cast;rfl,wrap_u32 J J]
  have e16:IntKind.u16.wrap ((x.toNat*2^s:Nat):Int)=((x.toNat*2^s%65536:Nat):Int):=by rw[wrap_u16,bh]
  have hor:bits .or .u16 (r.toNat:Int) ((x.toNat*2^s%65536:Nat):Int)=((UInt16.ofNat (r.toNat+x.toNat*2^s%65536)).toNat:Int):=by
   rw[bits_join_low .u16 16 Y wraps_u16 s _ _ J (by exact_mod_cast hrr) (by have:=bm r;omega) J (by exact_mod_cast hlo) (by have:=d0 (x.toNat*2^s) (show 65536>0 by decide);omega),bh,cM hst0];omega
  have ei:IntKind.i64.wrap ((i:Int)+1)=((i+1:Nat):Int):=by rw[wrap_i64 J J];omega
  generalize x.toNat*2^s=w at *
  refine aZ hx ?_;refine H ?_;rw[ex];refine H ?_;refine m9 O (show(0:Int)<=(s:Int)/\(s:Int)<=(IntKind.u32.bits:Nat) by constructor;omega;show(s:Int)<=32;omega) ?_;rw[esh];refine H ?_;refine bX O O (co O O O O O O O J (by rw[aM];omega)) ?_;rw[aS,aG i];refine bX O O (c_ O O O hr O) ?_;refine H ?_;rw[e16];refine H ?_;rw[hor];refine bX O O (co O O O O O O O J (by rw[aM];omega)) ?_;rw[aS,aG i];refine c9 (bW (kd':=0) O O O hr O O ak O O O O ?_);rw[show((R.map eU).set i (ma (eU r) 0 ((PV.int IntKind.u16 ((UInt16.ofNat (r.toNat+w%65536)).toNat:Int)).cells.map (gv 0))))=(R.set i (UInt16.ofNat (r.toNat+w%65536))).map eU from gQ _ _ _];refine H ?_;rw[ei];refine H ?_;rw[show IntKind.u16.wrap ((w:Int)/2^(16:Int).toNat)=((UInt16.ofNat (w/65536)).toNat:Int) from wrap_u16 (w/65536)];refine bX O O (co O O O O O O O J (by rw[aM];omega)) ?_;rw[aS,aG (i+1)];refine c9 (bW (kd':=0) O O O hr2 O O ak O O O O ?_);refine H ?_;refine⟨(i+1,_),hst,by simp only;omega,O,?_,O,O,cU J J,?_,bP⟩
  .show PV.als 12 1 0 (R.map eU).length=_;simp
  .exact eQ 1 218 1 0 (i+1) (R.set i (UInt16.ofNat (r.toNat+w%65536))) (UInt16.ofNat (w/65536))
 .have hge:i=a.length:=cG h;subst hge;clear h;have hv:=hI.v;simp only at hv;rw[bM,dp J]at hv;have hR:R=jR (a.length+1) (nv a*2^s):=by rw[<-hv,<-hRl];exact s8 R
  rw[<-hR];refine H ?_;exact vo O O O ⟨O,O,O⟩ O
theorem uA (a:List UInt16)(s:Nat)(ha:a.length<=100000000)(hs:s<=16):RetO Tryz.prog 274 [.sl (a.map eU),I s] 218 1 ((jR (a.length+1) (nv a*2^s)).map eU):=by
 have hal:(a.map eU).length=a.length:=aj;have hw0:IntKind.i64.wrap (((((a.map eU).length:Nat):Int))+1)=((a.length+1:Nat):Int):=by rw[hal,wrap_i64 J J];omega
 have hp2:2^s<=65536:=fb (n:=2) Y hs;refine RetO.of_pwp dY mixed Go.Proofs.Tryz.func274 O Y O O ?_;refine H ?_;rw[hw0];refine aC (jy O O O O O O O O J (by show(2:Int)*_<=_;omega) J ?_);rw[aS,l9];refine H ?_;refine ao (SfI a s) (fun q=>[(1,I s),(5,.als 12 1 0 (q.2.map eU).length),(13,.sl (a.map eU)),(14,I a.length),(15,I q.1)])
  (fun q=>[(12,1,⟨218,1,q.2.map eU,0⟩)]) (fun q=>a.length-q.1) (0,List.replicate (a.length+1) 0) ⟨aF _,aj,by simp[cH];exact fE Y,by simp[nv]⟩ ⟨O,O,O,?_,ak⟩ ?_
 .show I ((a.map eU).length)=_;rw[hal]
 rintro⟨i,R⟩ s1 hI;have hi:=hI.i;have hRl:=hI.l;have hrr:=hI.r;simp only at hi hRl hrr;dsimp only;refine D ?_ ?_<;>intro h
 .have hlt:i<a.length:=cP h;clear h;obtain⟨x,hx⟩:=aK hlt;have hxl:=bm x;obtain⟨hst0,hst⟩:=zW hI hs hx;have hr:(R.map eU)[i]?=some (eU (R.getD i 0)):=by rw[aV,cK J];rfl
  generalize hrd:R.getD i 0=r at *
  obtain⟨r2,hr2⟩:=nH (R:=R.set i (UInt16.ofNat (r.toNat+x.toNat*2^s%65536))) (i:=i+1) aX;have hlo:=D_ (x:=x.toNat) hs;have hwb:x.toNat*2^s<4294967296:=by
   have:=dr (show x.toNat<=65535 by omega) hp2;omega
  have ex:IntKind.u32.wrap (x.toNat:Int)=(x.toNat:Int):=wrap_u32 J J;have esh:IntKind.u32.wrap ((x.toNat:Int)*2^(s:Int).toNat)=((x.toNat*2^s:Nat):Int):=by
   rw[aS,show((x.toNat:Int)*2^s)=((x.toNat*2^s:Nat):Int) by push_cast;rfl,wrap_u32 J J]
  have e16:IntKind.u16.wrap ((x.toNat*2^s:Nat):Int)=((x.toNat*2^s%65536:Nat):Int):=by rw[wrap_u16,bh]
  have hor:bits .or .u16 (r.toNat:Int) ((x.toNat*2^s%65536:Nat):Int)=((UInt16.ofNat (r.toNat+x.toNat*2^s%65536)).toNat:Int):=by
   rw[bits_join_low .u16 16 Y wraps_u16 s _ _ J (by exact_mod_cast hrr) (by have:=bm r;omega) J (by exact_mod_cast hlo) (by have:=d0 (x.toNat*2^s) (show 65536>0 by decide);omega),bh,cM hst0];omega
  have ei:IntKind.i64.wrap ((i:Int)+1)=((i+1:Nat):Int):=by rw[wrap_i64 J J];omega
  generalize x.toNat*2^s=w at *
  refine aZ hx ?_;refine H ?_;rw[ex];refine H ?_;refine m9 O (show(0:Int)<=(s:Int)/\(s:Int)<=(IntKind.u32.bits:Nat) by constructor;omega;show(s:Int)<=32;omega) ?_;rw[esh];refine H ?_;refine bX O O (co O O O O O O O J (by rw[aM];omega)) ?_;rw[aS,aG i];refine bX O O (c_ O O O hr O) ?_;refine H ?_;rw[e16];refine H ?_;rw[hor];refine bX O O (co O O O O O O O J (by rw[aM];omega)) ?_;rw[aS,aG i];refine c9 (bW (kd':=0) O O O hr O O ak O O O O ?_);rw[show((R.map eU).set i (ma (eU r) 0 ((PV.int IntKind.u16 ((UInt16.ofNat (r.toNat+w%65536)).toNat:Int)).cells.map (gv 0))))=(R.set i (UInt16.ofNat (r.toNat+w%65536))).map eU from gQ _ _ _];refine H ?_;rw[ei];refine H ?_;rw[show IntKind.u16.wrap ((w:Int)/2^(16:Int).toNat)=((UInt16.ofNat (w/65536)).toNat:Int) from wrap_u16 (w/65536)];refine bX O O (co O O O O O O O J (by rw[aM];omega)) ?_;rw[aS,aG (i+1)];refine c9 (bW (kd':=0) O O O hr2 O O ak O O O O ?_);refine H ?_;refine⟨(i+1,_),hst,by simp only;omega,O,?_,O,O,cU J J,?_,bP⟩
  .show PV.als 12 1 0 (R.map eU).length=_;simp
  .exact eQ 1 218 1 0 (i+1) (R.set i (UInt16.ofNat (r.toNat+w%65536))) (UInt16.ofNat (w/65536))
 .have hge:i=a.length:=cG h;subst hge;clear h;have hv:=hI.v;simp only at hv;rw[bM,dp J]at hv;have hR:R=jR (a.length+1) (nv a*2^s):=by rw[<-hv,<-hRl];exact s8 R
  rw[<-hR];refine H ?_;exact Jz O O O O (by rw[bx];intro row hr;obtain⟨y,_,rfl⟩:=bF.1 hr;rfl) O
def JQ:List UInt8:=[0,1,2,2,3,3,3,3,4,4,4,4,4,4,4,4,5,5,5,5,5,5,5,5,5,5,5,5,5,5,5,5,6,6,6,6,6,6,6,6,6,6,6,6,6,6,6,6,6,6,6,6,6,6,6,6,6,6,6,6,6,6,6,6,7,7,7,7,7,7,7,7,7,7,7,7,7,7,7,7,7,7,7,7,7,7,7,7,7,7,7,7,7,7,7,7,7,7,7,7,7,7,7,7,7,7,7,7,7,7,7,7,7,7,7,7,7,7,7,7,7,7,7,7,7,7,7,7,8,8,8,8,8,8,8,8,8,8,8,8,8,8,8,8,8,8,8,8,8,8,8,8,8,8,8,8,8,8,8,8,8,8,8,8,8,8,8,8,8,8,8,8,8,8,8,8,8,8,8,8,8,8,8,8,8,8,8,8,8,8,8,8,8,8,8,8,8,8,8,8,8,8,8,8,8,8,8,8,8,8,8,8,8,8,8,8,8,8,8,8,8,8,8,8,8,8,8,8,8,8,8,8,8,8,8,8,8,8,8,8,8,8,8,8,8,8,8,8,8,8,8,8,8,8,8,8]
def tb (x:Nat):Nat:=(JQ.getD x 0).toNat
theorem EJ:∀x:Fin 256,x.val≠0->1<=tb x.val/\tb x.val<=8/\2^tb x.val<=2*x.val/\x.val<2^tb x.val:=by decide +kernel
def lk (x:Nat):Nat:=if 256<=x then 8+tb (x/256) else tb x
theorem vU {x:Nat}(h0:x≠0)(h:x<65536):1<=lk x/\lk x<=16/\2^lk x<=2*x/\x<2^lk x:=by
 rw[lk];split
 .have:=EJ ⟨x/256,J⟩ (by show x/256≠0;omega);simp only at this;obtain⟨h1,h2,h3,h4⟩:=this;rw[fF,show 2^8=256 by decide];generalize 2^tb (x/256)=p at *
  generalize tb (x/256)=t at *
  omega
 .have:=EJ ⟨x,J⟩ h0;simp only at this;obtain⟨h1,h2,h3,h4⟩:=this;exact⟨h1,J,h3,h4⟩
theorem Hm {x:Nat}(h:x<256):tb x<=8:=by
 by_cases h0:x=0
 .subst h0;decide
 .exact(EJ ⟨x,h⟩ h0).2.1
theorem AY (x:UInt16):bb 308 [.int .u16 x.toNat] (I (lk x.toNat)):=by
 have hxl:=bm x;rw[lk];by_cases hx:256<=x.toNat
 .rw[if_pos hx];have ew:IntKind.u8.wrap ((x.toNat:Int)/2^(8:Int).toNat)=((x.toNat/256:Nat):Int):=by
   rw[show((2:Int)^(8:Int).toNat)=256 by decide,IntKind.wrap_u8];omega
  have hb:=Hm (x:=x.toNat/256) J;refine ay Proofs.Tryz.func308 ?_;refine D ?_ ?_<;>intro h
  .refine H ?_;rw[ew];refine m9 (pv := .int .u8 ((tb (x.toNat/256):Nat):Int)) O (show(0:Int)<=((x.toNat/256:Nat):Int)/\((x.toNat/256:Nat):Int)<((256:Nat):Int) by omega) ?_;generalize tb (x.toNat/256)=t at *
   refine H ?_;rw[wrap_i64 (n:=(t:Int)) J J,wrap_i64 J J,show(8:Int)+(t:Int)=((8+t:Nat):Int) by omega];exact dL
  .have:=cJ h;omega
 .rw[if_neg hx];have ew:IntKind.u8.wrap (x.toNat:Int)=(x.toNat:Int):=by rw[IntKind.wrap_u8];omega
  have hb:=Hm (x:=x.toNat) J;refine ay Proofs.Tryz.func308 ?_;refine D ?_ ?_<;>intro h
  .have:=bK h;omega
  .refine H ?_;rw[ew];refine m9 (pv := .int .u8 ((tb x.toNat:Nat):Int)) O (show(0:Int)<=(x.toNat:Int)/\(x.toNat:Int)<((256:Nat):Int) by omega) ?_;generalize tb x.toNat=t at *
   refine H ?_;rw[wrap_i64 (n:=(t:Int)) J J,wrap_i64 J J,show(0:Int)+(t:Int)=(t:Int) by omega];exact dL
theorem Dc (x:UInt16)(h0:x.toNat≠0):bb 273 [.int .u16 x.toNat] (I ((16-lk x.toNat:Nat):Int)):=by
 have hl:=vU h0 (bm x);have hr:=AY x;generalize lk x.toNat=t at *
 refine ay Proofs.Tryz.func273 ?_;refine aB hr ?_;refine H ?_;rw[wrap_i64 J J,show(16:Int)-(t:Int)=((16-t:Nat):Int) by omega];exact rR O O O
def uw (R:List UInt16)(j m:Nat):Nat:=nv ((R.drop j).take m)
def ul (R:List UInt16)(i:Nat):Nat:=(R.getD i 0).toNat
theorem eg (R:List UInt16)(i:Nat):ul R i<65536:=bm _
theorem nu {R:List UInt16}{i:Nat}(h:i<R.length):R[i]?=some (R.getD i 0):=cK h
theorem Ah (R:List UInt16)(j:Nat):uw R j 0=0:=by rw[uw,ib];rfl
theorem ez {R:List UInt16}{j m:Nat}(h:j+m<R.length):uw R j (m+1)=uw R j m+65536^m*ul R (j+m):=by
 have h1:(R.drop j)[m]?=some (R.getD (j+m) 0):=by rw[cq];exact cK h
 rw[uw,d9 h1];rfl
theorem sH (R:List UInt16)(j m:Nat):uw R j m<65536^m:=fW _ _
theorem kq {R:List UInt16}{i:Nat}{y:UInt16}(h:i<R.length):ul (R.set i y) i=y.toNat:=by
 rw[ul,cH,dl h];rfl
theorem od {R:List UInt16}{i k:Nat}{y:UInt16}(h:i≠k):ul (R.set i y) k=ul R k:=by
 rw[ul,ul,cH,cH,cV h]
theorem oe {R:List UInt16}{j m i:Nat}{y:UInt16}(h:j+m<=i):uw (R.set i y) j m=uw R j m:=by
 rw[uw,uw];congr 1;apply fP;intro k;rw[bE,bE];split
 .rw[cq,cq,cV J]
 .rfl
theorem Jc {R:List UInt16}{j n:Nat}(h:j+(n+2)<=R.length):uw R j (n+2)=uw R j n+65536^n*(ul R (j+n)+65536*ul R (j+(n+1))):=by
 rw[show n+2=n+1+1 by omega,ez J,ez J,cn,bB,bS];omega
theorem JR {R:List UInt16}{j n:Nat}(h:j+(n+3)<=R.length):uw R j (n+3)=uw R j n+65536^n*(ul R (j+n)+65536*(ul R (j+(n+1))+65536*ul R (j+(n+2)))):=by
 rw[show n+3=n+2+1 by omega,ez J,Jc J,cn,cn];have:65536^n*(ul R (j+n)+65536*(ul R (j+(n+1))+65536*ul R (j+(n+2))))=65536^n*(ul R (j+n)+65536*ul R (j+(n+1)))+65536^n*65536*65536*ul R (j+(n+2)):=by
  rw[bS,bS,<-bB];congr 1;omega
 rw[this];omega
structure Est (U V top u2 v1 v2 W:Nat):Prop where
 u0:(top*65536+u2)*W<=U
 u1:U<(top*65536+u2+1)*W
 v0:(v1*65536+v2)*W<=V
 v3:V<(v1*65536+v2+1)*W
 hv:32768<=v1
 v1l:v1<65536
 v2l:v2<65536
 u2l:u2<65536
 top:top<4294967296
 lt:U<65536*V
theorem HN {R V:List UInt16}{j n:Nat}(hR:j+(n+3)<=R.length)(hV:V.length=n+2)(ht:32768<=ul V (n+1))(hlt:uw R j (n+3)<65536*nv V) :
  Est (uw R j (n+3)) (nv V) (ul R (j+(n+2))*65536+ul R (j+(n+1))) (ul R (j+n)) (ul V (n+1)) (ul V n) (65536^n):=by
 have e1:=JR hR;have e2:nv V=uw V 0 (n+2):=by rw[uw,fS,dp J]
 rw[e2]at hlt ⊢;have e3:=Jc (R:=V) (j:=0) (n:=n) J;simp only[aG]at e3;have l1:=sH R j n;have l2:=sH V 0 n;have a1:=eg R (j+n);have a2:=eg R (j+(n+1));have a3:=eg R (j+(n+2));have b1:=eg V n;have b2:=eg V (n+1);generalize 65536^n=W,ul R (j+n)=x0,ul R (j+(n+1))=x1,ul R (j+(n+2))=x2,ul V n=y0,ul V (n+1)=y1 at *
 have c1:W*(x0+65536*(x1+65536*x2))=((x2*65536+x1)*65536+x0)*W:=by rw[b0 W];congr 1;omega
 have c2:W*(y0+65536*y1)=(y1*65536+y0)*W:=by rw[b0 W];congr 1;omega
 rw[c1]at e1;rw[c2]at e3;refine⟨J,?_,J,?_,ht,b2,b1,a1,J,hlt⟩
 .rw[be (_*65536+x0),dH];omega
 .rw[be (_*65536+y0),dH];omega
structure Gs (U V top v1:Nat) (k:Nat × Nat):Prop where
 e:k.1*v1+k.2=top
 q:U/V<=k.1
 r:k.2<131072
 l:k.1<=top
section
variable {U V top u2 v1 v2 W:Nat}
theorem Est.V0 (h:Est U V top u2 v1 v2 W):0<V:=by
 have:=h.lt;rcases dP V with h0|h0
 .subst h0;omega
 .exact h0
theorem Est.W0 (h:Est U V top u2 v1 v2 W):0<W:=by
 rcases dP W with h0|h0
 .subst h0;have:=h.v3;rw[mR]at this;omega
 .exact h0
theorem Est.start (h:Est U V top u2 v1 v2 W):Gs U V top v1 (top/v1,top%v1):=by
 have hv:=h.hv;have hvl:=h.v1l;have h1:=h.u1;have h2:=h.v0;have e1:v1*(65536*W)<=V:=by
  have:v1*(65536*W)=v1*65536*W:=by rw[bS]
  rw[this];refine bz (cm W ?_) h2;omega
 have e2:U<(top+1)*(65536*W):=by
  have h3:=h.u2l;have:(top+1)*(65536*W)=(top+1)*65536*W:=by rw[bS]
  rw[this];refine eH h1 (cm W ?_);omega
 refine⟨by simp only;rw[b0];exact jb _ _,AA e1 e2 J,?_,gD _ _⟩;have:=d0 top (show v1>0 by omega);simp only;omega
theorem Est.quo (h:Est U V top u2 v1 v2 W):U/V<65536:=by
 have:=h.lt;exact lU (by rw[b0];exact this)
theorem Gs.less (h:Est U V top u2 v1 v2 W){q r:Nat}(g:Gs U V top v1 (q,r))(hr:r<65536)(hc:65535<q\/r*65536+u2<q*v2):1<=q/\Gs U V top v1 (q-1,r+v1):=by
 obtain⟨g1,g2,g3,g4⟩:=g;simp only at g1 g2 g3 g4;have hq:1<=q:=by
  rcases dP q with h0|h0
  .subst h0;rcases hc with hc|hc
   .omega
   .rw[fT]at hc;omega
  .exact h0
 have hv:=h.v1l;refine⟨hq,?_,?_,by simp only;omega,by simp only;omega⟩
 .simp only;obtain⟨p,rfl⟩:∃p,q=p+1:=⟨q-1,J⟩;rw[be]at g1;rw[gO];omega
 .simp only;rcases hc with hc|hc
  .have:=h.quo;omega
  .exact Cs g1 h.v0 h.u1 hc
theorem Gs.near (h:Est U V top u2 v1 v2 W){q r:Nat}(g:Gs U V top v1 (q,r))(hc:65536<=r\/(q<=65535/\q*v2<=r*65536+u2)):q<=65535/\U/V<=q/\q*V<U+V:=by
 obtain⟨g1,g2,g3,g4⟩:=g;simp only at g1 g2 g3 g4;have hq:q<=65535:=by
  rcases hc with hc|hc
  .rcases aT 65535 q with h1|h1
   .exfalso;have e1:=cm v1 (show 65536<=q by omega);have e2:65536*(v1+1)<=top:=J;have e3:=h.u0;have e4:=h.v3;have e5:=h.lt;have e6:=h.v2l;have e7:V<(v1+1)*65536*W:=eH e4 (cm W J);have e8:top*65536*W<=U:=bz (cm W J) e3;have e9:65536*(v1+1)*65536*W<=top*65536*W:=cm W (cm 65536 e2);have e10:65536*((v1+1)*65536*W)=65536*(v1+1)*65536*W:=by simp only[bS]
    omega
   .exact h1
  .exact hc.1
 refine⟨hq,g2,Ct g1 h.v0 h.v3 h.u0 h.hv h.v2l hq (hc.imp id And.right)⟩
end
structure Sub (R V:List UInt16) (j n q:Nat) (k:Nat × List UInt16 × Nat × Int):Prop where
 i:k.1<=n+1
 l:k.2.1.length=R.length
 c:k.2.2.1<65536
 b:k.2.2.2=0\/k.2.2.2 = -1
 o:∀t,t<j\/j+k.1<=t->ul k.2.1 t=ul R t
 v:(uw k.2.1 j k.1:Int)=uw R j k.1-q*uw V 0 (min k.1 n)+65536^k.1*((k.2.2.1:Int)-k.2.2.2)
 z:k.1=n+1->k.2.2.1=0
theorem jw (n:Nat):((65536^n:Nat):Int)=(65536:Int)^n:=by rw[Int.natCast_pow];rfl
def IZ (d:Int):UInt16:=UInt16.ofNat (d%65536).toNat
theorem zF (d:Int):((IZ d).toNat:Int)=d%65536:=by rw[IZ,bh];omega
theorem BH {R V:List UInt16}{j n q:Nat}:Sub R V j n q (0,R,0,0):=⟨aF _,O,tN _,.inl O,fun _ _=>rfl,by simp[Ah],fun h=>by simp at h⟩
theorem Ex {R V:List UInt16}{j n q i:Nat}{Q:List UInt16}{c:Nat}{b:Int}(h:Sub R V j n q (i,Q,c,b))(hi:i<=n)(hq:q<=65535)(hR:j+(n+1)<=R.length)(hV:n<=V.length){x:Nat}(hx:x=c+(if i<n then q*ul V i else 0)){d:Int}(hd:d=(ul R (j+i):Int)-(x%65536:Nat)+b) :
  Sub R V j n q (i+1,Q.set (j+i) (IZ d),x/65536,d/65536)/\x<4294967296 /\ -65536<=d/\d<=65535:=by
 obtain⟨h1,h2,h3,h4,h5,h6,h7⟩:=h;simp only at h1 h2 h3 h4 h5 h6 h7;have hr:=eg R (j+i);have hxb:x<4294901761:=by
  rw[hx];split
  .have:=dr hq (show ul V i<=65535 by have:=eg V i;omega);omega
  .omega
 have hm:=d0 x (show 65536>0 by decide);refine⟨⟨by simp only;omega,by simp[h2],by simp only;omega,?_,fun t ht=>?_,?_,fun hz=>?_⟩,J,J,J⟩
 .simp only;rcases h4 with h4|h4<;>omega
 .simp only at ht ⊢;rw[od J];exact h5 t J
 .simp only;rw[ez aX,oe J,kq J,ez (R:=R) J,pf,iB,zF,h6,jw,pf,iB,jw,Int.pow_succ];have e1:=Int.emod_add_mul_ediv d 65536;have e2:((x%65536:Nat):Int)+65536*((x/65536:Nat):Int)=x:=J;rw[hd]at e1;have e3:(uw V 0 (min (i+1) n):Int)*q=uw V 0 (min i n)*q+65536^i*((x:Int)-c):=by
   rw[hx];split
   .rename_i hlt;rw[iy J,iy J,ez J,aG,pf,iB,jw,pf,iB];grind
   .rw[Nat.min_eq_right J,Nat.min_eq_right J];grind
  rw[<-hd]at e1;generalize (65536:Int)^i=W,((x%65536:Nat):Int)=xm,((x/65536:Nat):Int)=xd,d%65536=dm,d/65536=dd at *
  grind
 .simp only at hz ⊢;rw[hx,if_neg J];omega
structure Adb (R V:List UInt16) (j n:Nat) (k:Nat × List UInt16 × Nat):Prop where
 i:k.1<=n
 l:k.2.1.length=R.length
 c:k.2.2<=1
 o:∀t,t<j\/j+k.1<=t->ul k.2.1 t=ul R t
 v:uw k.2.1 j k.1+65536^k.1*k.2.2=uw R j k.1+uw V 0 k.1
theorem Au {R V:List UInt16}{j n:Nat}:Adb R V j n (0,R,0):=⟨aF _,O,aF _,fun _ _=>rfl,by simp[Ah]⟩
theorem B7 {R V:List UInt16}{j n i:Nat}{Q:List UInt16}{c:Nat}(h:Adb R V j n (i,Q,c))(hi:i<n)(hR:j+(n+1)<=R.length)(hV:n<=V.length){x:Nat}(hx:x=c+(ul R (j+i)+ul V i)) :
  Adb R V j n (i+1,Q.set (j+i) (UInt16.ofNat x),x/65536):=by
 obtain⟨h1,h2,h3,h4,h5⟩:=h;simp only at h1 h2 h3 h4 h5;have a1:=eg R (j+i);have a2:=eg V i;refine⟨by simp only;omega,by simp[h2],by simp only;omega,fun t ht=>?_,?_⟩
 .simp only at ht ⊢;rw[od J];exact h4 t J
 .simp only;rw[ez aX,oe J,kq J,ez (R:=R) J,ez (R:=V) J,bh,cn,aG];have e:=gE x 65536;have e2:65536^i*(x%65536)+65536^i*65536*(x/65536)=65536^i*(c+(ul R (j+i)+ul V i)):=by rw[bS,<-bB,e,hx]
  simp only[bB]at e2;omega
structure Digd (R V:List UInt16) (j n:Nat) (R':List UInt16):Prop where
 l:R'.length=R.length
 o:∀t,t<j\/j+(n+1)<=t->ul R' t=ul R t
 v:uw R' j (n+1)=uw R j (n+1)%nv V
theorem rc {V:List UInt16}{n m:Nat}(h:V.length=n)(hm:n<=m):uw V 0 m=nv V:=by rw[uw,fS,dp J]
theorem Fn {R V:List UInt16}{j n q c:Nat}{Q:List UInt16}(hVl:V.length=n)(hV0:0<nv V)(h:Sub R V j n q (n+1,Q,c,0))(hq1:uw R j (n+1)/nv V<=q):q=uw R j (n+1)/nv V/\Digd R V j n Q:=by
 have hc:=h.z O;simp only at hc;subst hc;have h6:=h.v;simp only at h6;rw[rc hVl J]at h6;have h8:uw Q j (n+1)+q*nv V=uw R j (n+1):=by
  have:((uw Q j (n+1):Nat):Int)+((q*nv V:Nat):Int)=(uw R j (n+1):Nat):=by rw[h6,iB];simp
  omega
 have h9:q<=uw R j (n+1)/nv V:=(oV hV0).2 J;have hqe:q=uw R j (n+1)/nv V:=J;refine⟨hqe,h.l,h.o,?_⟩;have e:=jb (uw R j (n+1)) (nv V);rw[<-hqe,b0]at e;omega
theorem Cu {R V:List UInt16}{j n q c c2:Nat}{Q Q2:List UInt16}(hVl:V.length=n)(hV0:0<nv V)(hR:j+(n+1)<=R.length)(h:Sub R V j n q (n+1,Q,c,-1))(hq1:uw R j (n+1)/nv V<=q)(hq2:q*nv V<uw R j (n+1)+nv V)(h2:Adb Q V j n (n,Q2,c2)) :
  1<=q/\q-1=uw R j (n+1)/nv V/\Digd R V j n (Q2.set (j+n) (UInt16.ofNat (ul Q2 (j+n)+c2))):=by
 have hc:=h.z O;simp only at hc;subst hc;have h6:=h.v;simp only at h6;rw[rc hVl J,<-jw]at h6;have hQl:=sH Q j (n+1);have h8:uw Q j (n+1)+q*nv V=uw R j (n+1)+65536^(n+1):=by
  have:((uw Q j (n+1):Nat):Int)+((q*nv V:Nat):Int)=(uw R j (n+1):Nat)+((65536^(n+1):Nat):Int):=by rw[h6,Int.natCast_mul];grind
  omega
 have hq:1<=q:=by
  rcases dP q with h0|h0
  .subst h0;rw[fT]at h8;omega
  .exact h0
 obtain⟨p,rfl⟩:∃p,q=p+1:=⟨q-1,J⟩;rw[be,dH]at h8 hq2;have hpd:p=uw R j (n+1)/nv V:=by
  have a1:p<=uw R j (n+1)/nv V:=(oV hV0).2 J;have a2:uw R j (n+1)/nv V<p+1:=(oY hV0).2 (by rw[be,dH];omega);omega
 refine⟨hq,J,by simp[h2.l,h.l],fun t ht=>?_,?_⟩
 .rw[od J,h2.o t (by simp only;omega),h.o t (by simp only;omega)]
 .have h2l:=h2.l;have hl:=h.l;have h5:=h2.v;have hc2:=h2.c;have ho:=h2.o (j+n) (.inr (aH));simp only at h2l hl h5 hc2 ho;rw[ez aX,oe J,kq J,bh,ho];rw[rc hVl (aH)]at h5;have e1:=ez (R:=Q) (j:=j) (m:=n) J;have hmod:uw R j (n+1)%nv V=uw R j (n+1)-p*nv V:=by
   have e:=jb (uw R j (n+1)) (nv V);rw[<-hpd,b0]at e;omega
  rw[hmod];have hle:p*nv V<=uw R j (n+1):=by rw[hpd];exact o5 _ _
  have hml:=d0 (uw R j (n+1)) hV0;rw[hmod]at hml;have hVlt:nv V<65536^n:=by rw[<-hVl];exact cX V
  have hQ2:=sH Q2 j n;have hur:=eg Q (j+n);rw[cn]at h8;generalize 65536^n=W,ul Q (j+n)=x at *
  have key:uw Q2 j n+W*(x+c2)=uw R j (n+1)-p*nv V+W*65536:=by rw[bB];omega
  have hx:65536<=x+c2:=by
   rcases aT (x+c2) 65536 with hlt|hge
   .exfalso;have:=cW W (show x+c2+1<=65536 by omega);rw[bB]at this;omega
   .exact hge
  have hx2:x+c2=65536:=J;rw[hx2]at key ⊢;rw[show 65536%65536=0 from O,mR];omega
theorem HS {L:b9}{fn:Func}{K:(Nat->Nat × Option Cont)->PV->Prop}{s:St}{t:Nat}{v:PV}{e:Exit}(owns:List (Nat × Nat × Cont))(he:e=.ret\/e=.normal)(h:fn.results.toList=[.tmp t])(h1:s.reg t=v)(ho:FitO s owns)
  (hk:∀s1:St,K (s1.over [] owns).own v):InlPost L fn (fun s' r=>K s'.own r) e s:=by
 have hk:=hk s;rw[Fit.over (l:=[]) ho]at hk;rcases he with rfl|rfl <;>
 .unfold InlPost;refine⟨[s.reg t],True/\True,by rw[h];rfl,⟨trivial,bP⟩,?_⟩;rw[h1];exact hk
theorem GT (x:Nat)(hx:x<18446744073709551616):bits .and .u64 (x:Int) 65535=((x-x/65536*65536:Nat):Int):=by
 have:=(bits_nat .u64 64 Y wraps_u64 x 65535 J Y).1;rw[show((65535:Nat):Int)=65535 by rfl]at this;rw[this,show(65535:Nat)=2^16-1 by decide,Nat.and_two_pow_sub_one_eq_mod];omega
theorem om {n:Nat}(h:n<18446744073709551616):IntKind.u64.wrap (n:Int)=(n:Int):=wrap_u64 (Int.natCast_nonneg n) J
theorem mz {R:List UInt16}{i:Nat}(h:i<R.length):(R.map eU)[i]?=some [PV.int .u16 ((ul R i:Nat):Int)]:=by
 rw[aV,nu h];rfl
theorem p6 {R:List UInt16}{i:Nat}(h:i<R.length):(R.map eU)[((i:Nat):Int).toNat]?=some [PV.int .u16 ((ul R i:Nat):Int)]:=by
 rw[aS];exact mz h
theorem kV (R:List UInt16)(i:Nat):IntKind.u64.wrap ((ul R i:Nat):Int)=((ul R i:Nat):Int):=wrap_u64 J (by have:=eg R i;omega)
theorem pI (R:List UInt16)(i:Nat):IntKind.u32.wrap ((ul R i:Nat):Int)=((ul R i:Nat):Int):=wrap_u32 J (by have:=eg R i;omega)
theorem GE (R:List UInt16)(i:Nat):IntKind.i64.wrap ((ul R i:Nat):Int)=((ul R i:Nat):Int):=wrap_i64 J (by have:=eg R i;omega)
def GV (g gq:Nat)(Q Qr:List UInt16):List (Nat × Nat × Cont):=[(44,g,⟨218,1,Q.map eU,0⟩),(57,gq,⟨218,1,Qr.map eU,0⟩)]
set_option maxRecDepth 40000 in
set_option maxHeartbeats 4000000 in
theorem Cv {K:St->Prop}{s:St}{d g gq:Nat}{x y:Operand}{tys:Array TypeId}{ty:TypeId}{pos:String}{af:Array Edge}{R V Qr:List UInt16}{j n:Nat}
  (hV:V.length=n+2) (hR:j+(n+3)<=R.length) (hRl:R.length<=200000000) (ht:32768<=ul V (n+1)) (hlt:uw R j (n+3)<65536*nv V)
  (hx:s.ev x=.als 44 g j (n+3)) (hy:s.ev y=.fsl (V.map eU)) (ho:FitO s [(44,g,⟨218,1,R.map eU,0⟩),(57,gq,⟨218,1,Qr.map eU,0⟩)])
  (hK:∀(s1:St) (R':List UInt16),Digd R V j (n+2) R'->K (({ reg:=s.reg,own:=(s1.over [] [(44,g,⟨218,1,R'.map eU,0⟩),(57,gq,⟨218,1,Qr.map eU,0⟩)]).own }:St).putR d (.int .u16 ((uw R j (n+3)/nv V:Nat):Int)))) :
  Sm Tryz.prog lay.get s ⟨some d,.call ⟨.value (.func 275),#[x,y],tys⟩,ty,pos,af,none⟩ K:=by
 have hE:=HN hR hV ht hlt;have hVml:(V.map eU).length=n+2:=by rw[aM,hV]
 have r0:=mz (R:=R) (i:=j+n) J;have r1:=mz (R:=R) (i:=j+(n+1)) J;have r2:=mz (R:=R) (i:=j+(n+2)) J;have v0:=p6 (R:=V) (i:=n) J;have v1:=p6 (R:=V) (i:=n+1) J;have w2:=kV R (j+(n+2));have w1:=kV R (j+(n+1));have w0:=kV R (j+n);have y1:=kV V (n+1);have y0:=kV V n
 have hfin:∀(s1:St) (R':List UInt16) (q:Nat),q=uw R j (n+3)/nv V->Digd R V j (n+2) R'->∀(e:Exit) (st:St),(e=.ret\/e=.normal)->st.reg 4=.int .u16 (q:Int)->FitO st [(44,g,⟨218,1,R'.map eU,0⟩),(57,gq,⟨218,1,Qr.map eU,0⟩)] ->
   InlPost lay.get Tryz.f275 (fun s' r=>K (({ reg:=s.reg,own:=s'.own }:St).put (some d) r)) e st:=by
  intro _ R' q hq hd e st he h1 h3;subst hq;exact HS (K:=fun o r=>K (({ reg:=s.reg,own:=o }:St).put (some d) r)) _ he O h1 h3 fun s2=>hK s2 R' hd
 clear hK;refine cB dY O O Tryz.func275 O Y O O ?_;show PWP _ _ _ _ (bJ s (([x,y]:List Operand).map s.ev++[]));rw[show(([x,y]:List Operand).map s.ev++([]:List PV))=[.als 44 g j (n+3),.fsl (V.map eU)] by simp[hx,hy]];rw[show bJ s [.als 44 g j (n+3),.fsl (V.map eU)]=bJ (s.over [] [(44,g,⟨218,1,R.map eU,0⟩),(57,gq,⟨218,1,Qr.map eU,0⟩)]) [.als 44 g j (n+3),.fsl (V.map eU)] by rw[Fit.over (l:=[]) ho]];generalize hfinK:InlPost lay.get Tryz.f275 (fun s' r=>K (({ reg:=s.reg,own:=s'.own }:St).put (some d) r))=FIN at *
 have c1:IntKind.i64.wrap (((n+2:Nat):Int)-1)=((n+1:Nat):Int):=by rw[wrap_i64 J J];omega
 have c2:IntKind.i64.wrap (((n+2:Nat):Int)-2)=((n:Nat):Int):=by rw[wrap_i64 J J];omega
 have a1:=eg R (j+(n+1));have a2:=eg R (j+(n+2));have hor1:=H1 (x:=ul R (j+(n+2))) (y:=ul R (j+(n+1))) J a1;have hst:=hE.start;have hv1l:=hE.v1l;have hv1h:=hE.hv;have hv2l:=hE.v2l;have hu2l:=hE.u2l;have htop:=hE.top;generalize hTop:ul R (j+(n+2))*65536+ul R (j+(n+1))=top at *
 generalize hV1:ul V (n+1)=vt at *
 refine H ?_;rw[hVml];refine nb 14 [18,19,20,21,22,23,24,25,26,27,28,29,30,6] aN ?_;refine H ?_;refine kP O O O O O O O O O ?_;rw[aS];refine bX O O (c_ O O O r2 O) ?_;refine H ?_;rw[w2];refine H ?_;rw[Ed J];refine H ?_;rw[c1];refine kP O O O O O O O O O ?_;rw[aS];refine bX O O (c_ O O O r1 O) ?_;refine H ?_;rw[w1];refine H ?_;rw[hor1];refine dg 18 [31,32,33,34,35,36,37,38,39,40,41,42,43,44,45,46,7,8] ?_;refine H ?_;rw[c1];refine bX O O (j_ O O O O O J v1 O) ?_;refine H ?_;rw[y1];refine bX O O (QOp.v O (show ¬((vt:Nat):Int)=0 by omega)) ?_;rw[w_];have hdq:=gD top vt;rw[om (jo hdq J)];refine H ?_;rw[c1];refine bX O O (j_ O O O O O J v1 O) ?_;refine H ?_;rw[y1];refine bX O O (QOp.v O (show ¬((vt:Nat):Int)=0 by omega)) ?_;rw[qZ];refine H ?_;have e84:IntKind.i64.wrap (((n+2:Nat):Int)+1)=((n+3:Nat):Int):=by rw[wrap_i64 J J];omega
 refine qH (fun q:Nat=>q<=65535/\uw R j (n+3)/nv V<=q/\q*nv V<uw R j (n+3)+nv V) (fun q=>[(0,.als 44 g j (n+3)),(1,.fsl (V.map eU)),(5,I ((n+2:Nat):Int)),(7,.int .u64 (q:Nat))]) (fun _=>GV g gq R Qr) ?_ ?_
 .refine ao (Gs (uw R j (n+3)) (nv V) top vt) (fun q=>[(0,.als 44 g j (n+3)),(1,.fsl (V.map eU)),(5,I ((n+2:Nat):Int)),(7,.int .u64 (q.1:Nat)),(8,.int .u64 (q.2:Nat))])
   (fun _=>GV g gq R Qr) (fun q=>q.1) _ hst ak ?_
  rintro⟨q,rest⟩ s1 hG;have hrb:=hG.r;have hqt:=hG.l;simp only at hrb hqt;dsimp only;have hqb:q<=4294967295:=J;refine dg 26 [47,48,49,50,51,52,53,54,55,56,57,58,59,60,61,62,63,64,65,66,67,68,69,70,71,72] ?_;iterate 2 refine g_ O ?_
  generalize hB:decide ((rest:Int)<65536)=B;refine fZ ?_ ?_<;>intro h
  .rw[h]at hB;have hr1:rest<65536:=cP hB;clear h hB;have hsh:=Ed (x:=rest) J;have hor2:=H1 (x:=rest) (y:=ul R (j+n)) J hu2l;iterate 2 refine g_ O ?_
   generalize hB:decide ((65535:Int)<(q:Int))=B2;refine fZ ?_ ?_<;>intro h
   .rw[h]at hB;have hq1:65535<q:=cP hB;clear h hB;obtain⟨hq0,hst2⟩:=hG.less hE hr1 (.inl hq1);refine H ?_;rw[c1];refine bX O O (j_ O O O O O J v1 O) ?_;refine H ?_;rw[y1];refine H ?_;refine⟨(q-1,rest+vt),hst2,by simp only;omega,O,O,O,?_,?_,ak⟩
    .show PV.int .u64 (IntKind.u64.wrap ((q:Int)-1))=PV.int .u64 ((q-1:Nat):Int);rw[wrap_u64 J J];congr 1;omega
    .show PV.int .u64 (IntKind.u64.wrap ((rest:Int)+(vt:Int)))=PV.int .u64 ((rest+vt:Nat):Int);rw[wrap_u64 J J];congr 1
   .rw[h]at hB;have hq1:q<=65535:=cG hB;clear h hB;have hmb:=dr hq1 (show ul V n<=65535 by omega);have hmi:(q:Int)*((ul V n:Nat):Int)=((q*ul V n:Nat):Int):=by rw[iB]
    have hmw:IntKind.u64.wrap ((q*ul V n:Nat):Int)=((q*ul V n:Nat):Int):=om J;refine H ?_;rw[c2];refine bX O O (j_ O O O O O J v0 O) ?_;refine H ?_;rw[y0,hmi,hmw];refine H ?_;rw[hsh];refine H ?_;rw[c2];refine kP O O O O O O O O O ?_;rw[aS];refine bX O O (c_ O O O r0 O) ?_;refine H ?_;rw[w0];refine H ?_;rw[hor2];generalize hB:decide (((rest*65536+ul R (j+n):Nat):Int)<((q*ul V n:Nat):Int))=B3;refine D ?_ ?_<;>intro h
    .rw[h]at hB;have hc:rest*65536+ul R (j+n)<q*ul V n:=cP hB;clear h hB;obtain⟨hq0,hst2⟩:=hG.less hE hr1 (.inr hc);refine H ?_;rw[c1];refine bX O O (j_ O O O O O J v1 O) ?_;refine H ?_;rw[y1];refine H ?_;refine⟨(q-1,rest+vt),hst2,by simp only;omega,O,O,O,?_,?_,ak⟩
     .show PV.int .u64 (IntKind.u64.wrap ((q:Int)-1))=PV.int .u64 ((q-1:Nat):Int);rw[wrap_u64 J J];congr 1;omega
     .show PV.int .u64 (IntKind.u64.wrap ((rest:Int)+(vt:Int)))=PV.int .u64 ((rest+vt:Nat):Int);rw[wrap_u64 J J];congr 1
    .rw[h]at hB;have hc:q*ul V n<=rest*65536+ul R (j+n):=cG hB;clear h hB;refine H ?_;exact⟨q,hG.near hE (.inr ⟨hq1,hc⟩),ak⟩
  .rw[h]at hB;have hr1:65536<=rest:=cG hB;clear h hB;refine H ?_;exact⟨q,hG.near hE (.inl hr1),ak⟩
 rintro q ⟨hq1,hq2,hq3⟩ s2;clear hst r0 r1 r2 w0 w1 w2 hor1;refine H ?_;rw[e84];refine H ?_;refine qH (fun k:List UInt16 × Nat × Int=>Sub R V j (n+2) q (n+3,k)) (fun k=>[(0,.als 44 g j (n+3)),(1,.fsl (V.map eU)),(5,I ((n+2:Nat):Int)),(7,.int .u64 (q:Nat)),(10,.int .i64 k.2.2)]) (fun k=>GV g gq k.1 Qr) ?_ ?_
 .refine ao (Sub R V j (n+2) q) (fun k=>[(0,.als 44 g j (n+3)),(1,.fsl (V.map eU)),(5,I ((n+2:Nat):Int)),(7,.int .u64 (q:Nat)),(9,.int .u64 (k.2.2.1:Nat)),(10,.int .i64 k.2.2.2),(84,I ((n+3:Nat):Int)),(85,I k.1)])
   (fun k=>GV g gq k.2.1 Qr) (fun k=>n+3-k.1) (0,R,0,0) BH ak ?_
  rintro⟨i,Q,c,bo⟩ s3 hS;have hil:=hS.i;have hQl:=hS.l;have hcb:=hS.c;have hbo:=hS.b;have ho2:=hS.o;simp only at hil hQl hcb hbo ho2;dsimp only;refine D ?_ ?_<;>intro h
  .have hi:i<n+3:=cP h;clear h;obtain⟨x,hx⟩:∃x,x=c+(if i<n+2 then q*ul V i else 0):=⟨_,O⟩;obtain⟨d',hd⟩:∃d':Int,d'=(ul R (j+i):Int)-(x-x/65536*65536:Nat)+bo:=⟨_,O⟩;have hxm:x%65536=x-x/65536*65536:=J;obtain⟨hst,hxb,hd1,hd2⟩:=Ex hS J hq1 J J hx (d:=d') (by rw[hd,hxm]);have hrow:=mz (R:=Q) (i:=j+i) J;rw[ho2 (j+i) (.inr (aH))]at hrow;refine H ?_;refine uj [(0,.als 44 g j (n+3)),(1,.fsl (V.map eU)),(5,I ((n+2:Nat):Int)),(7,.int .u64 (q:Nat)),(9,.int .u64 (c:Nat)),(10,.int .i64 bo),(11,I i),(12,.int .u64 (x:Nat)),(84,I ((n+3:Nat):Int)),(85,I i)] (GV g gq Q Qr) ?_ (fun s4=>?_)
   .refine cO O ?_ ?_<;>intro h
    .have hi2:i<n+2:=cP h;clear h;rw[if_pos hi2]at hx;have hvi:=p6 (R:=V) (i:=i) J;have hmb:=dr hq1 (show ul V i<=65535 by have:=eg V i;omega);have hmi:(q:Int)*((ul V i:Nat):Int)=((q*ul V i:Nat):Int):=by rw[iB]
     have hmw:IntKind.u64.wrap ((q*ul V i:Nat):Int)=((q*ul V i:Nat):Int):=om J;have hxw:IntKind.u64.wrap ((c:Int)+((q*ul V i:Nat):Int))=(x:Int):=by rw[wrap_u64 J J];omega
     refine H ?_;refine bX O O (j_ O O O O O J hvi O) ?_;refine H ?_;rw[kV V i,hmi,hmw];refine H ?_;rw[hxw];exact ak
    .have hi2:¬i<n+2:=cG h;clear h;rw[if_neg hi2,fB]at hx;refine H ?_;rw[show((c:Nat):Int)=(x:Int) by omega];exact ak
   have e16:(x:Int)/2^(16:Int).toNat=((x/65536:Nat):Int):=by
    rw[show((2:Int)^(16:Int).toNat)=65536 by decide];omega
   have hand:=GT x J;have hmw:IntKind.i64.wrap ((x-x/65536*65536:Nat):Int)=((x-x/65536*65536:Nat):Int):=wrap_i64 J J;have hrl:=eg R (j+i);have hdw:IntKind.i64.wrap (IntKind.i64.wrap (((ul R (j+i):Nat):Int)-((x-x/65536*65536:Nat):Int))+bo)=d':=by
    rw[wrap_i64 (n:=((ul R (j+i):Nat):Int)-((x-x/65536*65536:Nat):Int)) J J,wrap_i64 J J,hd]
   have hd16:IntKind.u16.wrap d'=((IZ d').toNat:Int):=by rw[zF,IntKind.wrap_u16]
   refine H ?_;rw[e16];refine H ?_;refine kP O O O O O O O O O ?_;rw[aS];refine bX O O (c_ O O O hrow O) ?_;refine H ?_;rw[GE R (j+i)];refine H ?_;rw[hand];refine H ?_;rw[hmw,hdw,hd16];refine kP O O O O O O O O O ?_;rw[aS];refine c9 (bW (kd':=0) O O O hrow O O ak O O O O ?_);refine H ?_;refine⟨(i+1,_,_,_),hst,by simp only;omega,O,O,O,O,O,?_,O,cU J J,?_,O,bP⟩
   .show PV.int .i64 (d'/2^(16:Int).toNat)=PV.int .i64 (d'/65536);rw[show((2:Int)^(16:Int).toNat)=65536 by decide]
   .exact eQ g 218 1 0 (j+i) Q (IZ d')
  .have hi:i=n+3:=cG h;subst hi;clear h;refine H ?_;exact⟨(Q,c,bo),hS,ak⟩
 rintro⟨Q,c,bo⟩ hS s3;have hQl:=hS.l;have hbo:=hS.b;simp only at hQl hbo;dsimp only;rcases hbo with rfl|rfl
 .obtain⟨hqe,hdg⟩:=Fn hV (by have:=hE.V0;exact this) hS hq2;refine H ?_;rw[show IntKind.u16.wrap ((q:Nat):Int)=((q:Nat):Int) by rw[IntKind.wrap_u16];omega];refine H ?_;exact hfin s3 Q q hqe hdg .ret _ (.inl O) O ⟨O,O,bP⟩
 .have hqw:IntKind.u64.wrap ((q:Int)-1)=IntKind.u64.wrap ((q:Int)-1):=O;generalize hqv:IntKind.u64.wrap ((q:Int)-1)=qv at hqw;refine H ?_;rw[hqv];refine qH (fun k:List UInt16 × Nat=>Adb Q V j (n+2) (n+2,k)) (fun k=>[(0,.als 44 g j (n+3)),(5,I ((n+2:Nat):Int)),(7,.int .u64 qv),(14,.int .u32 (k.2:Nat))]) (fun k=>GV g gq k.1 Qr) ?_ ?_
  .refine ao (Adb Q V j (n+2)) (fun k=>[(0,.als 44 g j (n+3)),(1,.fsl (V.map eU)),(5,I ((n+2:Nat):Int)),(7,.int .u64 qv),(14,.int .u32 (k.2.2:Nat)),(126,I ((n+2:Nat):Int)),(127,I k.1)])
    (fun k=>GV g gq k.2.1 Qr) (fun k=>n+2-k.1) (0,Q,0) Au ak ?_
   rintro⟨i,Q2,c2⟩ s4 hA;have hil:=hA.i;have hQ2l:=hA.l;have hcb:=hA.c;have ho2:=hA.o;simp only at hil hQ2l hcb ho2;dsimp only;refine D ?_ ?_<;>intro h
   .have hi:i<n+2:=cP h;clear h;have hrow:=mz (R:=Q2) (i:=j+i) J;rw[ho2 (j+i) (.inr (aH))]at hrow;have hvi:=p6 (R:=V) (i:=i) J;have hst:=B7 hA hi J J O;have b1:=eg Q (j+i);have b2:=eg V i;have ew:IntKind.u32.wrap ((c2:Int)+IntKind.u32.wrap (((ul Q (j+i):Nat):Int)+((ul V i:Nat):Int)))=((c2+(ul Q (j+i)+ul V i):Nat):Int):=by
     rw[wrap_u32 (n:=((ul Q (j+i):Nat):Int)+((ul V i:Nat):Int)) J J,wrap_u32 J J];omega
    refine dg 13 [130,131,132,133,134,135,136,137,138,139,140,141,142] ?_;refine H ?_;refine kP O O O O O O O O O ?_;rw[aS];refine bX O O (c_ O O O hrow O) ?_;refine H ?_;rw[pI Q (j+i)];refine H ?_;refine bX O O (j_ O O O O O J hvi O) ?_;refine H ?_;rw[pI V i,ew];generalize c2+(ul Q (j+i)+ul V i)=sm at *
    refine H ?_;rw[wrap_u16];refine kP O O O O O O O O O ?_;rw[aS];refine c9 (bW (kd':=0) O O O hrow O O ak O O O O ?_);refine H ?_;refine⟨(i+1,_,_),hst,by simp only;omega,O,O,O,O,?_,O,cU J J,?_,O,bP⟩
    .show PV.int .u32 ((sm:Int)/2^(16:Int).toNat)=PV.int .u32 ((sm/65536:Nat):Int);rw[show((2:Int)^(16:Int).toNat)=65536 by decide];congr 1
    .exact eQ g 218 1 0 (j+i) Q2 (UInt16.ofNat sm)
   .have hi:i=n+2:=cG h;subst hi;clear h;refine H ?_;exact⟨(Q2,c2),hA,ak⟩
  rintro⟨Q2,c2⟩ hA s4;have hQ2l:=hA.l;have hcb:=hA.c;simp only at hQ2l hcb;dsimp only;obtain⟨hq0,hqe,hdg⟩:=Cu hV (by have:=hE.V0;exact this) J hS hq2 hq3 hA;have hrow:=mz (R:=Q2) (i:=j+(n+2)) J;have b1:=eg Q2 (j+(n+2));have hc16:IntKind.u16.wrap ((c2:Nat):Int)=((c2:Nat):Int):=by rw[IntKind.wrap_u16];omega
  have hs16:IntKind.u16.wrap (((ul Q2 (j+(n+2)):Nat):Int)+((c2:Nat):Int))=((UInt16.ofNat (ul Q2 (j+(n+2))+c2)).toNat:Int):=by
   rw[show(((ul Q2 (j+(n+2)):Nat):Int)+((c2:Nat):Int))=((ul Q2 (j+(n+2))+c2:Nat):Int) by omega,wrap_u16]
  have hqf:IntKind.u16.wrap qv=((q-1:Nat):Int):=by
   rw[<-hqv,wrap_u64 J J,IntKind.wrap_u16];omega
  refine H ?_;refine kP O O O O O O O O O ?_;rw[aS];refine bX O O (c_ O O O hrow O) ?_;refine H ?_;rw[hc16];refine H ?_;rw[hs16];refine kP O O O O O O O O O ?_;rw[aS];refine c9 (bW (kd':=0) O O O hrow O O ak O O O O ?_);refine H ?_;rw[hqf];refine H ?_;exact hfin s4 _ (q-1) hqe hdg .ret _ (.inl O) O ⟨eQ g 218 1 0 (j+(n+2)) Q2 (UInt16.ofNat (ul Q2 (j+(n+2))+c2)),O,bP⟩
end Go.Pv
