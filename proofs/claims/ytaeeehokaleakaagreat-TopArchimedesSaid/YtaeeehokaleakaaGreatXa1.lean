/- Texts of one hand, gathered: TaJ. -/
import Derived.Test.YtaeeehokaleakaaGreatBn1
set_option maxRecDepth 20000
set_option linter.unusedSectionVars false
set_option linter.unusedSimpArgs false
set_option linter.unusedVariables false
set_option linter.unnecessarySimpa false
set_option maxHeartbeats 2000000
namespace Go.Pv
attribute [local irreducible] PWP POps PQuiet PSem XThen XBlock RetPost InlPost
open Go.Proofs
theorem ac0:dB (aa7 aaC 1000) 0=r1:=by
 have h2:ko 1000 aaC.st=[Jp 5000,Jp 15000]:=by
  show [iH 1000 (abt 5000),iH 1000 (abt 15000)]=_;rw[abL,abL]
 rw[dB,aaf];show wB aaC (ko 1000 aaC.st)=_;rw[h2,wB,acg];rfl
theorem abl:jV aaC 1000=0:=abx
theorem aca:∀t∈aaC.st,t.L.length<=8:=fun t ht=>by
 simp only[aaC,cw,tP,or_false]at ht;rcases ht with rfl|rfl<;>decide
theorem abm:Stood (aa7 aaC 1000) 0 2000 0:=by
 refine abk (aaj aaW abl Y aca) (by rw[ac0];exact abY) (by rw[ac0];exact abX) fun z t h=>?_;rw[ac0]at h;have h1:(bd r1).F z t=(bd r1).w:=h.1;have h2:(bd r1).G0 z t=(bd r1).w*(bd r1).A:=h.2;rw[ac6,abZ]at h1;rw[ac7,abZ,ac5]at h2;have key:∀u,wf u=160000->u=2000:=fun u=>by rw[wf];grind
 have a1:=key (z+t*5000);have a2:=key (z+t*15000);generalize wf (z+t*5000)=w1,wf (z+t*15000)=w2 at *
 have g1:=a1 aW;have g2:=a2 aW;constructor<;>grind
theorem ach:(abe aaC 1000).e=0:=by
 rw[abe,if_pos abl,abm.s]
theorem abT {s:SHP}(h:s.Len)(h2:s.it.length<=900)(w:LR):(aae s w).Len:=⟨h.st,by show(s.it++[w]).length<=_;simp;omega,h.L⟩
theorem abF {s:SHP}(hl:s.Len)(hS:JI s=true)(he:iS s=0):s.st.length<=6/\(∀t∈s.st,t.L.length<=8)/\s.it.length<=60/\∀t∈s.st,t.L.length<=900/\t.H0.length<=900:=by
 have hf:jV s 1000=0:=by rw[jV,if_pos he];decide
 have hsm:ac2 (aa7 s 1000)=true:=by
  rw[ac2,acd,show JI (aa7 s 1000).s=true from hS];rfl
 have sl:=abE (aaA hl) hsm (abK hf) (p:=0) (ep HQ.zero.ok Y);obtain⟨hk,-,-⟩:=sl.bd;refine⟨sl.st,sl.L,(pD he).n,fun t ht=>?_⟩;have h8:=sl.L t ht;have:=(hk.st t ht).h;omega
abbrev argA (L:b9)(T:TypeId)(c:PV):Prop:=xt L T c
theorem layA:iW Tryz.prog lay.get:=dY
theorem dkW0 {c:PV}(h:xt lay.get 24 c):∃w:LR,c=.agg (eLd w):=by
 obtain⟨cs,rfl,h⟩:∃cs,c=.agg cs/\pG lay.get 12 24 cs:=h;obtain⟨w,rfl⟩:=JW (n:=10) h;exact⟨w,O⟩
theorem dkI0 {c:PV}(h:xt lay.get 3 c):∃z:Int,c=I z:=by
 obtain⟨z,e,-⟩:=oQ (n:=11) (show pG lay.get 12 3 [c] from h);cases e;exact⟨z,O⟩
theorem arch_law (s:SHP)(hl:s.Len)(w:LR)(d:Int):bb 3 [.agg (jT s),.agg (eLd w),I d] (.bool true):=by
 have tw:=abn;have tazz:=aa9 aaC aaW Y aca 1000;rw[decide_eq_true ach]at tazz;have c10:=smS_ret s;have c11:=check2_ret s hl;have hml:(s.st.map eT).length=s.st.length:=aj;by_cases hS:JI s=true
 rotate_left
 .rw[Bool.eq_false_iff.2 hS]at c10;refine ay Proofs.Tryz.func3 ?_;refine G tw ?_;refine G tazz ?_;refine aB c10 ?_;exact rq
 rw[hS]at c10;by_cases h3:3<s.st.length
 .refine ay Proofs.Tryz.func3 ?_;refine G tw ?_;refine G tazz ?_;refine aB c10 ?_;refine H ?_;rw[hml,decide_eq_true (show(3:Int)<(s.st.length:Int) by omega)];exact rq
 by_cases h40:40<w.nm.length
 .refine ay Proofs.Tryz.func3 ?_;refine G tw ?_;refine G tazz ?_;refine aB c10 ?_;refine H ?_;rw[hml,decide_eq_false (show ¬(3:Int)<(s.st.length:Int) by omega)];refine H ?_;rw[decide_eq_true (show(40:Int)<(w.nm.length:Int) by omega)];exact rq
 by_cases he:iS s=0
 rotate_left
 .generalize iS s=e at *
  refine ay Proofs.Tryz.func3 ?_;refine G tw ?_;refine G tazz ?_;refine aB c10 ?_;refine H ?_;rw[hml,decide_eq_false (show ¬(3:Int)<(s.st.length:Int) by omega)];refine H ?_;rw[decide_eq_false (show ¬(40:Int)<(w.nm.length:Int) by omega)];refine aB c11 ?_;refine D ?_ ?_<;>intro h
  .clear h;exact rq
  .simp at h;exact absurd h he
 obtain⟨h6,h8,h60,h9⟩:=abF hl hS he;have a1:=aa9 s hl h6 h8 d;have hl2:=abT hl J w;have a2:=aa9 (aae s w) hl2 h6 h8 d;have w1:=abp s w hl he hl2 J J h9;have w2:=fun h=>aaL s w hl2 h J J h9;have fl:=aaw s hl h6 h8 d;have hQ:=fun h=>aau (d:=d) hl h6 h8 h;rw[he]at c11;generalize decide ((abe (aae s w) d).e=0)=b2 at *
 generalize hE:iS (aae s w)=E at *
 by_cases hfe:(abe s d).e=0
 rotate_left
 .rw[decide_eq_false hfe]at a1;refine ay Proofs.Tryz.func3 ?_;refine G tw ?_;refine G tazz ?_;refine aB c10 ?_;refine H ?_;rw[hml,decide_eq_false (show ¬(3:Int)<(s.st.length:Int) by omega)];refine H ?_;rw[decide_eq_false (show ¬(40:Int)<(w.nm.length:Int) by omega)];refine aB c11 ?_;refine G a1 ?_;exact rq
 obtain⟨z,u,-,-,hs,hq⟩:=hQ hfe;clear hQ;rw[decide_eq_true hfe]at a1;rw[hq]at fl;have sazz:=sameA_ret ⟨ofQ z,ofQ u⟩ (aag hs.hz.ok Y) (aag hs.ht.ok Y);simp only[SQ.pv]at fl;generalize FL (gj (aa7 s d) 0) z u=F,ofQ z=Z,ofQ u=U at *
 clear hq hfe hs;refine ay Proofs.Tryz.func3 ?_;refine G tw ?_;refine G tazz ?_;refine aB c10 ?_;refine H ?_;rw[hml,decide_eq_false (show ¬(3:Int)<(s.st.length:Int) by omega)];refine H ?_;rw[decide_eq_false (show ¬(40:Int)<(w.nm.length:Int) by omega)];refine aB c11 ?_;refine G a1 ?_;refine G w1 ?_;by_cases h0:E=0
 rotate_left
 .rw[if_neg h0];refine D ?_ ?_<;>intro h
  .clear h;exact rq
  .simp at h;exact absurd h h0
 subst h0;have w2:=w2 O;rw[if_pos O];refine G a2 ?_;refine G w2 ?_;refine G fl ?_;refine G fl ?_;refine G sazz ?_;exact rq
end Go.Pv
