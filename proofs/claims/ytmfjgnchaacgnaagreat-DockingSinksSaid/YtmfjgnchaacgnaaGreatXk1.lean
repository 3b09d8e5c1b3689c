/- Texts of one hand, gathered: DlL. -/
import Derived.Test.YtmfjgnchaacgnaaGreatBa6
set_option maxRecDepth 20000
set_option linter.unusedSectionVars false
set_option linter.unusedSimpArgs false
set_option linter.unusedVariables false
set_option linter.unnecessarySimpa false
set_option maxHeartbeats 2000000
namespace Go.Pv
attribute [local irreducible] PWP POps PQuiet PSem aw aq ai aj
open Go.Proofs
theorem dec_U16 {c:PV}(h:argW lay.get 57 c):∃z:Int,c = .int .u16 z/\0<=z/\z<=65535:=by
 obtain⟨m,hm,h1,h2⟩:=ms (n:=11) (k := .u16) (show j4 lay.get 12 57 [c] from h) O;cases hm;exact⟨m,O,h1,h2⟩
set_option maxRecDepth 20000 in
set_option maxHeartbeats 4000000 in
theorem sinks_law (d:DKR)(hl:d.Len)(lv:RR)(lo:Int)(hlo:0<=lo/\lo<=65535):Ret Tryz.prog .shared 5 [.agg (fS d),.agg (eR lv),.int .u16 lo] (.bool true):=by
 have a:=wy;have s:=Gz d;have f:Ret Tryz.prog .shared 20 [.agg (eR lv),I (3:Nat)] (.bool (IS lv 3)):=pK lv 3 Y;cases hS:HM d with
 |false =>
  rw[hS]at s;refine Ret.of_pwp layOk mixed Go.Proofs.Tryz.func5 O Y O O ?_;refine ar a ?_;refine ar s ?_;exact gV
 |true =>
 rw[hS]at s;cases hF:IS lv 3 with
 |false =>
  rw[hF]at f;refine Ret.of_pwp layOk mixed Go.Proofs.Tryz.func5 O Y O O ?_;refine ar a ?_;refine ar s ?_;refine ar f ?_;exact gV
 |true =>
 rw[hF]at f;have hlv:lv.sz 3:=by
  simp only[IS,Bool.and_eq_true,decide_eq_true_eq]at hF;exact hF
 have sm:=HN hS;have ok:=sm.ok hl;have hwl:IntKind.i64.wrap lo=lo:=wrap_i64 J J;have zlo:Zb lo:=aK J J;have hq2:=Iu hlv hlo;have wl:=gT lo ⟨J,J⟩;have sb:=rN lv (ofQ (lo:Rat)) (hx:=hlv.v) (hy:=Vq.ofQ (h:=HQ.int)) Y Y;have v2:Vq (ofQ (lv.val-(lo:Rat))) (lv.val-(lo:Rat)) 4:=Vq.ofQ (h:=⟨hq2⟩)
 obtain⟨x,e,y,g,r1,r2,hxy⟩:∃(x:DQ) (e:Int) (y:DQ) (g:Int),Ret Tryz.prog .shared 21 [.agg (fS d),.agg (eR lv)] (.tup [.agg (yw x),I e])/\Ret Tryz.prog .shared 21 [.agg (fS d),.agg (eR (ofQ (lv.val-(lo:Rat))))] (.tup [.agg (yw y),I g]) /\
   (e=0->g=0->i_ d.s d.d=0/\∃u1 b1 u2 b2:Rat,x.up=ofQ u1/\x.bu=ofQ b1/\y.up=ofQ u2/\y.bu=ofQ b2/\hq u1 600000/\hq b1 600000/\hq u2 600000/\hq b2 600000/\u1+b1=(sM (d.s.light::d.s.it):Rat)/\u2+b2=(sM (d.s.light::d.s.it):Rat)/\u1<=u2):=by
  by_cases hE:wr d=0
  .have h1:Slim d lv.val:=y8 hl hS hE (by
    obtain⟨a,b,e,h0,h1,h2⟩:=x8 hlv Y;rw[e]
    exact dl (gc h0 h1 h2) Y)
   have h2:Slim d (lv.val-(lo:Rat)):=y8 hl hS hE hq2;obtain⟨x,e,r1,k1⟩:=yc (lv:=lv) (hlv:=hlv.v) Y hl h1;obtain⟨y,g,r2,k2⟩:=yc (lv:=ofQ (lv.val-(lo:Rat))) (hlv:=v2) Y hl h2;refine⟨x,e,y,g,r1,r2,fun he hg=>⟨(Cs ok hE).2.2,?_⟩⟩;obtain⟨z,t,s1,rfl⟩:=k1 he;obtain⟨z',t',s2,rfl⟩:=k2 hg;have hle:lv.val-(lo:Rat)<=lv.val:=by
    have:(0:Rat)<=(lo:Rat):=by exact_mod_cast hlo.1
    grind
   exact⟨_,_,_,_,O,O,O,O,(wc h1 s1).1,(wc h1 s1).2,(wc h2 s2).1,(wc h2 s2).2,kY s1,kY s2,Ki h1 s1 s2 hle⟩
  .exact⟨_,_,_,_,B6 d ok hE lv,B6 d ok hE _,fun he=>absurd he hE⟩
 by_cases he:e=0
 .by_cases hg:g=0
  .obtain⟨hf,u1,b1,u2,b2,e1,e2,e3,e4,q1,q2,q3,q4,m1,m2,hle⟩:=hxy he hg;subst he hg;have sok:=j1 (jm hf);obtain⟨w1,w2,-⟩:=pp sok;have ml:=vz d.s _ O sok.ld sok.m (by have:=sok.n;simp;omega);have wm:=gT (sM (d.s.light::d.s.it)) ⟨J,J⟩;have zm:Zb (sM (d.s.light::d.s.it)):=aK J J;have a1:=iw (ofQ u1) (ofQ b1) (hx:=Vq.ofQ (h:=⟨q1⟩)) (hy:=Vq.ofQ (h:=⟨q2⟩)) Y Y;have a2:=iw (ofQ u2) (ofQ b2) (hx:=Vq.ofQ (h:=⟨q3⟩)) (hy:=Vq.ofQ (h:=⟨q4⟩)) Y Y;rw[m1]at a1;rw[m2]at a2;have c:=AY (ofQ u1) (ofQ u2) (hx:=Vq.ofQ (h:=⟨q1⟩)) (hy:=Vq.ofQ (h:=⟨q3⟩)) Y Y;have hc:sgn (u1-u2)<=0:=(pI _).2 aW;have sr:=mZ (ofQ (sM (d.s.light::d.s.it):Rat)) (Is (n:=4) HQ.int.ok Y);rw[tv,K6]at ml;obtain⟨xlv,xa,xF,xup,xbu,xs,xh,xp⟩:=x;obtain⟨ylv,ya,yF,yup,ybu,ys,yh,yp⟩:=y;simp only at e1 e2 e3 e4;subst e1 e2 e3 e4;generalize sgn (u1-u2)=G0 at *
   generalize ofQ (sM (d.s.light::d.s.it):Rat)=MR at *
   generalize sM (d.s.light::d.s.it)=mi at *
   generalize ofQ u1=U1 at *
   generalize ofQ b1=B1 at *
   generalize ofQ u2=U2 at *
   generalize ofQ b2=B2 at *
   generalize ofQ (lv.val-(lo:Rat))=L2 at *
   generalize ofQ (lo:Rat)=LO at *
   clear hxy q1 q2 q3 q4 v2 hq2 sok w1 w2 zm zlo sm ok;refine Ret.of_pwp layOk mixed Go.Proofs.Tryz.func5 O Y O O ?_;refine ar a ?_;refine ar s ?_;refine ar f ?_;refine G r1 ?_;refine H ?_;refine fy [(10,9),(11,9)] aT aT ?_;refine H ?_;rw[hwl];refine nR O O O wl O O ?_;refine G sb ?_;refine G r2 ?_;refine H ?_;refine EZ O O O O O ?_;refine E0 2 O O O O O O (fun _=>rfl) aI O O O O ?_;refine G ml ?_;refine G wm ?_;refine H ?_;refine bS [] [] aT ?_;refine G a1 ?_;refine ar sr ?_;refine G a2 ?_;refine ar sr ?_;refine ar c ?_;refine H ?_;rw[decide_eq_true hc];exact gV
  .subst he;clear hxy v2 hq2 zlo sm ok;generalize ofQ (lv.val-(lo:Rat))=L2 at *
   generalize ofQ (lo:Rat)=LO at *
   refine Ret.of_pwp layOk mixed Go.Proofs.Tryz.func5 O Y O O ?_;refine ar a ?_;refine ar s ?_;refine ar f ?_;refine G r1 ?_;refine H ?_;refine fy [(10,9),(11,9)] aT aT ?_;refine H ?_;rw[hwl];refine nR O O O wl O O ?_;refine G sb ?_;refine G r2 ?_;refine H ?_;refine EZ O O O O O ?_;refine E0 2 O O O O O O (fun _=>rfl) aI O O O O ?_;refine H ?_;rw[decide_eq_false hg];exact gV
 .clear hxy v2 hq2 zlo sm ok;generalize ofQ (lv.val-(lo:Rat))=L2 at *
  generalize ofQ (lo:Rat)=LO at *
  refine Ret.of_pwp layOk mixed Go.Proofs.Tryz.func5 O Y O O ?_;refine ar a ?_;refine ar s ?_;refine ar f ?_;refine G r1 ?_;refine H ?_;refine fy [(10,9),(11,9)] aT aT ?_;refine H ?_;rw[hwl];refine nR O O O wl O O ?_;refine G sb ?_;refine G r2 ?_;refine H ?_;refine EZ O O O O O ?_;refine E0 2 O O O O O O (fun _=>rfl) aI O O O O ?_;refine H ?_;rw[decide_eq_false he];exact gV
end Go.Pv
