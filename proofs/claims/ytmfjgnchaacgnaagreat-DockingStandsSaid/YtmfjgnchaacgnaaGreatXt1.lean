/- Texts of one hand, gathered: DlK, DlO. -/
import Derived.Test.YtmfjgnchaacgnaaGreatBa6
set_option maxRecDepth 20000
set_option linter.unusedSectionVars false
set_option linter.unusedSimpArgs false
set_option linter.unusedVariables false
set_option linter.unnecessarySimpa false
set_option maxHeartbeats 2000000
namespace Go.Pv
attribute [local irreducible] PWP POps PQuiet PSem aF aw ai ak
open Go.Proofs
theorem u6 {d:DKR}(hl:d.Len)(hS:IB d=true)(hE:gF d=0){p:Rat}(hp:hq p 4):Slim d p:=by
 have sm:=De hS;obtain⟨hk,-,-⟩:=JC (sm.ok hl) hE;simp only[IB,Sa,Pg,QG,ca,lG,decide_eq_false_iff_not,cm]at hS;obtain⟨⟨⟨⟨⟨h1,h2⟩,-⟩,h3⟩,h4⟩,-⟩:=hS;have hn:=hk.n;have hm:=hk.m;refine⟨sm.ok hl,hE,J,J,fun t ht=>?_,sm.b,hp⟩;have:=h2 t ht;simp only[EW,lG,decide_eq_false_iff_not]at this;have:=(hk.st t ht).n;omega
theorem Ju:dZ.Le:=⟨IY,IY,IY,aP _,(fun r hr=>by cases hr),IY,IY,⟨IY,IY,IY,IY⟩⟩
theorem ES:aO 22 [.agg (fk dZ),.agg Mt] (.bool true) :=
 (kN dZ Ju).weak ((WeakL.refl [.agg (fk dZ)]).app (.cons od.agg .nil)) (Weak.rfl _)
set_option maxHeartbeats 4000000 in
theorem stands_law (d:DKR)(hl:d.Len)(lv:RR):aO 4 [.agg (cn d),.agg (eR lv)] (.bool true):=by
 have a:=mb;have s:=u7 d;have f:aO 20 [.agg (eR lv),I (3:Nat)] (.bool (Ms lv 3)):=qt lv 3 Y;cases hS:IB d with
 |false =>
  rw[hS]at s;refine ax Proofs.Tryz.func4 ?_;refine aj a ?_;refine aj s ?_;exact fC
 |true =>
 rw[hS]at s;cases hF:Ms lv 3 with
 |false =>
  rw[hF]at f;refine ax Proofs.Tryz.func4 ?_;refine aj a ?_;refine aj s ?_;refine aj f ?_;exact fC
 |true =>
 rw[hF]at f;have hlv:lv.sz 3:=by
  simp only[Ms,ca,decide_eq_true_eq]at hF;exact hF
 have sm:=De hS;have ok:=sm.ok hl;have c:=ox d sm;have r:=lj d ok;by_cases hE:gF d=0
 .have h1:Slim d lv.val:=u6 hl hS hE (by
   obtain⟨a,b,e,h0,h1,h2⟩:=Fh hlv Y;rw[e]
   exact e_ (kz h0 h1 h2) Y)
  obtain⟨x,e,p1,p2,p3⟩:∃(x:DQ) (e:Int),aO 21 [.agg (cn d),.agg (eR lv)] (.tup [.agg (fk x),I e])/\aO 23 [.agg (cn d),.agg (eR lv)] (.tup [.agg (fk x),I e,.bool true])/\aO 22 [.agg (fk x),.agg (fk x)] (.bool true):=by
   by_cases he:(eQ (dB d lv.val)).e=0
   .obtain⟨z,t,hs⟩:=L5 h1 he;exact⟨_,_,Py (hlv:=hlv.v) Y hl h1 hs,qx hl h1 (tU hlv Y) hs,kN _ (LW h1 hs)⟩
   .exact⟨_,_,Px (hlv:=hlv.v) Y hl h1 he,qw h1 (tU hlv Y) he,kN _ Ju⟩
  rw[hE]at r;clear h1 sm ok hlv;obtain⟨xlv,⟨az,at'⟩,xF,xup,xbu,⟨x1,x2,x3,x4⟩,xh,xp⟩:=x;refine ax Proofs.Tryz.func4 ?_;refine aj a ?_;refine aj s ?_;refine aj f ?_;refine H ?_;refine fT [(7,5),(8,5)] aK aK ?_;refine G c ?_;refine G p1 ?_;refine H ?_;refine GW O O O O O ?_;refine Fi 2 O O O O O O (fun _=>rfl) aH O O O O ?_;refine aj r ?_;refine G p2 ?_;refine H ?_;rw[decide_eq_true (show e=e from O)];refine aj p3 ?_;exact fC
 .have p1:=Pz d ok hE lv;have p3:=ES;generalize gF d=e at *
  clear sm ok hlv;refine ax Proofs.Tryz.func4 ?_;refine aj a ?_;refine aj s ?_;refine aj f ?_;refine H ?_;refine fT [(7,5),(8,5)] aK aK ?_;refine G c ?_;refine G p1 ?_;refine H ?_;refine GW O O O O O ?_;refine Fi 2 O O O O O O (fun _=>rfl) aH O O O O ?_;refine aj r ?_;refine H ?_;rw[decide_eq_false hE];refine H ?_;rw[decide_eq_true (show e=e from O)];refine aj p3 ?_;exact fC
end Go.Pv
