/- Texts of one hand, gathered: DkH, DkU. -/
import Derived.Test.YtmfjgnchaacgnaaGreatBa5
set_option maxRecDepth 20000
set_option linter.unusedSectionVars false
set_option linter.unusedSimpArgs false
set_option linter.unusedVariables false
set_option linter.unnecessarySimpa false
set_option maxHeartbeats 2000000
namespace Go.Pv
attribute [local irreducible] PWP POps PQuiet PSem aH au aj ao
open Go.Proofs
set_option maxRecDepth 20000 in
theorem fP (s:SHP)(x z:Int)(hx : -1000000<=x/\x<=1000000)(hst:∀t∈s.st,StOk t)(hn:s.st.length<=40):Ret Tryz.prog .shared 42 [.agg (ep s),I x,I z] (.tup [I ((cz x z s.st).getD 0),.bool (cz x z s.st).isSome]):=by
 have hml:(s.st.map eT).length=s.st.length:=ah;have q1:IntKind.i64.wrap (2*x)=2*x:=wrap_i64 J J;generalize hR:cz x z s.st=R;obtain⟨nm,len,st,light,it⟩:=s;simp only at *
 refine Ret.of_pwp layOk mixed Go.Proofs.Tryz.func42 O Y O O ?_;refine H ?_;refine am (fun i:Nat=>i<=st.length/\cz x z (st.drop i)=R) (fun i=>[(1,I x),(2,I z),(3,.ptr 3 1 0 0),(8,I (i:Nat))]) (fun _=>[(3,1,⟨27,9,[ep ⟨nm,len,st,light,it⟩],2⟩)]) (fun i=>st.length-i) 0 ⟨Nat.zero_le _,by rw[List.drop_zero];exact hR⟩ ⟨O,O,O,O,O,trivial⟩ ?_;rintro i s ⟨hi,hall⟩;refine H ?_;rw[hml];refine aV O ?_ ?_<;>intro h
 .have hlt:i<st.length:=by have:=ax h;omega
  clear h;obtain⟨t,ht⟩:=aG hlt;have ok:=hst t (aZ ht);obtain⟨⟨a1,a2⟩,⟨a3,a4⟩,⟨-,aL⟩,hLH,-,-,-⟩:=ok;rw[ov ht]at hall;have q2:IntKind.i64.wrap (2*t.x)=2*t.x:=wrap_i64 J J;have q3:IntKind.i64.wrap (2*t.x-t.w)=2*t.x-t.w:=wrap_i64 J J;have q4:IntKind.i64.wrap (2*t.x+t.w)=2*t.x+t.w:=wrap_i64 J J;have hw:=c_ i;have hmh:(t.H0.map eN).length=t.H0.length:=ah;refine aJ ht ?_;refine H ?_;rw[q1];refine H ?_;rw[q2];refine H ?_;rw[q3];refine Ap O O O ?_ ?_<;>intro h
  .have d1:=ax h;clear h;rw[if_neg (by rw[l9,decide_eq_false J,Bool.false_and];decide)]at hall;refine H ?_;exact⟨i+1,⟨hlt,hall⟩,J,O,O,O,congrArg I hw,O,trivial⟩
  have d1:=aF h;clear h;refine H ?_;rw[q1];refine H ?_;rw[q2];refine H ?_;rw[q4];refine aV O ?_ ?_<;>intro h
  .have d2:=ax h;clear h;rw[if_neg (by rw[l9,decide_eq_false (show ¬2*x<2*t.x+t.w by omega),Bool.and_false];decide)]at hall;refine H ?_;exact⟨i+1,⟨hlt,hall⟩,J,O,O,O,congrArg I hw,O,trivial⟩
  have d2:=aF h;clear h;rw[if_pos (by rw[l9,decide_eq_true J,decide_eq_true J];rfl)]at hall;refine H ?_;refine bq [(1,I x),(2,I z),(3,.ptr 3 1 0 0),(8,I (i:Nat)),(9,.ptr 9 ((s.own 9).1+1) 0 0),(10,I ((0:Nat):Int))] [(3,1,⟨27,9,[ep ⟨nm,len,st,light,it⟩],2⟩),(9,(s.own 9).1+1,⟨130,4,[eT t],2⟩)] ⟨O,O,O,O,O,O,O,O,trivial⟩ ?_;generalize (s.own 9).1+1=g9;intro s1;refine am (fun k:Nat=>k<=t.H0.length/\(match gp t.L z (t.H0.drop k) k with|some n=>some n|none=>cz x z (st.drop (i+1)))=R) (fun k=>[(1,I x),(2,I z),(3,.ptr 3 1 0 0),(8,I (i:Nat)),(9,.ptr 9 g9 0 0),(10,I (k:Nat))]) (fun _=>[(3,1,⟨27,9,[ep ⟨nm,len,st,light,it⟩],2⟩),(9,g9,⟨130,4,[eT t],2⟩)]) (fun k=>t.H0.length-k) 0 ⟨Nat.zero_le _,by rw[List.drop_zero];exact hall⟩ ⟨rfl,rfl,rfl,rfl,rfl,rfl,rfl,rfl,trivial⟩ ?_;clear hall;rintro k s2 ⟨hk,hall⟩;refine H ?_;rw[hmh];refine aV O ?_ ?_<;>intro h
  .have hlk:k<t.H0.length:=by have:=ax h;omega
   clear h;obtain⟨y,hy⟩:=aG hlk;have hlL:k<t.L.length:=J;obtain⟨n,hn⟩:=aG hlL;have hgd:t.L.getD k 0=n:=by rw[List.getD_eq_getElem?_getD,hn];rfl
   have hwk:IntKind.i64.wrap (((k:Nat):Int)+1)=((k+1:Nat):Int):=by rw[wrap_i64 J J];omega
   rw[mV hy,hgd]at hall;refine aJ hy ?_;refine D ?_ ?_<;>intro h
   .have d3:z<y:=ax h;clear h;rw[if_pos d3]at hall;subst hall;refine aJ hn ?_;exact bL
   .have d3:¬z<y:=aF h;clear h;rw[if_neg d3]at hall;refine H ?_;exact⟨k+1,⟨hlk,hall⟩,J,O,O,O,O,O,congrArg I hwk,O,O,trivial⟩
  .have hke:k=t.H0.length:=by have:=aF h;omega
   clear h;subst hke;rw[List.drop_length,gp]at hall;refine H ?_;exact⟨i+1,⟨hlt,hall⟩,J,O,O,O,congrArg I hw,O,trivial⟩
 .have hge:i=st.length:=by have:=aF h;omega
  clear h;subst hge;rw[List.drop_length,cz]at hall;subst hall;exact bL
def Ek (s:SHP)(x z:Int):Int:=if cE s=0 then(if (aw x (-1000000) 1000000&&aw z 0 100000)=true then(if (cz x z s.st).isSome=true then 0 else 6) else 2) else cE s
def El (s:SHP)(x z:Int):Int:=if cE s=0/\(aw x (-1000000) 1000000&&aw z 0 100000)=true then(cz x z s.st).getD 0 else 0
set_option maxRecDepth 20000 in
theorem qY (s:SHP)(hs:s.Len)(x z:Int):Ret Tryz.prog .shared 40 [.agg (ep s),I x,I z] (.tup [I (El s x z),I (Ek s x z)]):=by
 have h1:=gF s hs;have h2:=bF x (-1000000) 1000000;have h3:=bF z 0 100000;by_cases hE:cE s=0
 rotate_left
 .rw[Ek,if_neg hE,El,if_neg (fun h=>hE h.1)];generalize cE s=e at *
  refine Ret.of_pwp layOk mixed Go.Proofs.Tryz.func40 O Y O O ?_;refine ap h1 ?_;refine D ?_ ?_<;>intro h
  .clear h;exact bL
  .simp at h;exact absurd h hE
 obtain⟨hst,h40⟩:=lG hE;rw[Ek,if_pos hE,El];rw[hE]at h1 ⊢;have hb:=fun h:aw x (-1000000) 1000000=true=>gD s x z (cS h) hst h40;cases hx:aw x (-1000000) 1000000
 .rw[hx]at h2;refine Ret.of_pwp layOk mixed Go.Proofs.Tryz.func40 O Y O O ?_;refine ap h1 ?_;refine ap h2 ?_;exact bL
 have hb:=hb hx;rw[hx]at h2;cases hz:aw z 0 100000
 .rw[hz]at h3;refine Ret.of_pwp layOk mixed Go.Proofs.Tryz.func40 O Y O O ?_;refine ap h1 ?_;refine ap h2 ?_;refine ap h3 ?_;exact bL
 rw[hz]at h3;cases hbo:cz x z s.st with
 |none =>
  rw[hbo]at hb;refine Ret.of_pwp layOk mixed Go.Proofs.Tryz.func40 O Y O O ?_;refine ap h1 ?_;refine ap h2 ?_;refine ap h3 ?_;refine ap hb ?_;exact bL
 |some n =>
  rw[hbo]at hb;refine Ret.of_pwp layOk mixed Go.Proofs.Tryz.func40 O Y O O ?_;refine ap h1 ?_;refine ap h2 ?_;refine ap h3 ?_;refine ap hb ?_;exact bL
set_option maxRecDepth 20000 in
theorem bottoms_law (s:SHP)(hs:s.Len)(x z:Int):Ret Tryz.prog .shared 8 [.agg (ep s),I x,I z] (.bool true):=by
 have a:=jp;have m:=vz s;have p:=qY s hs x z;have r:=lZ s hs;cases hS:CK s with
 |false =>
  rw[hS]at m;refine Ret.of_pwp layOk mixed Go.Proofs.Tryz.func8 O Y O O ?_;refine ap a ?_;refine ap m ?_;exact fE
 |true =>
 rw[hS]at m;by_cases hE:cE s=0
 rotate_left
 .rw[Ek,if_neg hE,El,if_neg (fun h=>hE h.1)]at p;generalize cE s=e at *
  refine Ret.of_pwp layOk mixed Go.Proofs.Tryz.func8 O Y O O ?_;refine ap a ?_;refine ap m ?_;refine ap p ?_;refine ap r ?_;refine H ?_;rw[decide_eq_false hE];refine H ?_;rw[decide_eq_false hE];refine H ?_;rw[decide_eq_true (show e=e from O)];refine H ?_;exact bW O O ah
 obtain⟨hst,h40⟩:=lG hE;have q:=fun h:aw x (-1000000) 1000000=true=>fP s x z (cS h) hst h40;rw[Ek,if_pos hE,El]at p;rw[hE]at r p;by_cases hin:(aw x (-1000000) 1000000&&aw z 0 100000)=true
 .rw[if_pos hin,if_pos ⟨O,hin⟩]at p;have hin2:=hin;rw[Bool.and_eq_true]at hin2;have hx:=cS hin2.1;have hz:=cS hin2.2;have q:=q hin2.1;generalize cz x z s.st=bo at *
  cases bo with
  |none =>
   simp only[Option.isSome_none,Option.getD_none,Bool.false_eq_true,if_false]at p q;refine Ret.of_pwp layOk mixed Go.Proofs.Tryz.func8 O Y O O ?_;refine ap a ?_;refine ap m ?_;refine ap p ?_;refine ap r ?_;refine H ?_;rw[decide_eq_false (show ¬x < -1000000 by omega)];refine H ?_;rw[decide_eq_false (show ¬1000000<x by omega)];refine H ?_;rw[decide_eq_false (show ¬z<0 by omega)];refine H ?_;rw[decide_eq_false (show ¬100000<z by omega)];refine ap q ?_;refine H ?_;exact bW O O ah
  |some n =>
   simp only[Option.isSome_some,Option.getD_some,if_true]at p q;refine Ret.of_pwp layOk mixed Go.Proofs.Tryz.func8 O Y O O ?_;refine ap a ?_;refine ap m ?_;refine ap p ?_;refine ap r ?_;refine H ?_;rw[decide_eq_false (show ¬x < -1000000 by omega)];refine H ?_;rw[decide_eq_false (show ¬1000000<x by omega)];refine H ?_;rw[decide_eq_false (show ¬z<0 by omega)];refine H ?_;rw[decide_eq_false (show ¬100000<z by omega)];refine ap q ?_;refine H ?_;exact bW O O ah
 .rw[if_neg hin,if_neg (fun h=>hin h.2)]at p;have hout:x < -1000000\/1000000<x\/z<0\/100000<z:=by
   by_cases h1 : -1000000<=x/\x<=1000000
   .by_cases h2:0<=z/\z<=100000
    .exact absurd (by simp[aw];omega) hin
    .omega
   .omega
  clear q hin;refine Ret.of_pwp layOk mixed Go.Proofs.Tryz.func8 O Y O O ?_;refine ap a ?_;refine ap m ?_;refine ap p ?_;refine ap r ?_;refine H ?_;by_cases g1:x < -1000000
  .rw[decide_eq_true g1];refine H ?_;exact bW O O ah
  rw[decide_eq_false g1];refine H ?_;by_cases g2:1000000<x
  .rw[decide_eq_true g2];refine H ?_;exact bW O O ah
  rw[decide_eq_false g2];refine H ?_;by_cases g3:z<0
  .rw[decide_eq_true g3];refine H ?_;exact bW O O ah
  rw[decide_eq_false g3];refine H ?_;have g4:100000<z:=J;rw[decide_eq_true g4];refine H ?_;exact bW O O ah
end Go.Pv
