/- Texts of one hand, gathered: Pre, FaA, FaB, FaC, PvA, PvB, PvC, PvD, PvE, PvF, PvG, PvH, PvI, PvW, PvV, PvJ. -/
import Derived.WalkKit
import Derived.ChangeKeysEq
import Derived.MapKept
import Derived.Laws.StructEq
import Derived.Maps.RangeRun
import Derived.StillTail
set_option maxRecDepth 20000
set_option linter.unusedSectionVars false
set_option linter.unusedSimpArgs false
set_option linter.unusedVariables false
set_option linter.unnecessarySimpa false
namespace Go.Pv
theorem O {α:Sort _}{a:α}:a=a:=rfl
theorem J {p:Prop}(h:p:=by omega):p:=h
theorem Y {p:Prop}(h:p:=by decide):p:=h
theorem aT {p:Prop}(h:p:=by decide +kernel):p:=h
theorem aI {p:Prop}(h:p:=by repeat' constructor):p:=h
theorem ah {p:Prop}(h:p:=by simp):p:=h
theorem aU {p:Prop}(h:p:=by simp;omega):p:=h
theorem aW {p:Prop}(h:p:=by grind):p:=h
theorem aC {p:Prop}[Decidable p](h:decide p=true):p:=of_decide_eq_true h
theorem aG {p:Prop}[Decidable p](h:decide p=false):¬p:=of_decide_eq_false h
theorem bb {α:Type _}{l:List α}{i:Nat}{a:α}(h:l[i]? = some a):∃h:i<l.length,l[i]=a:=List.getElem?_eq_some_iff.1 h
theorem bc {α:Type _}{l:List α}{i:Nat}{a:α}(h:l[i]? = some a):a∈l:=List.mem_of_getElem? h
theorem cD {α:Type _}{l:Array α}{i:Nat}{a:α}(h:l[i]? = some a):∃h:i<l.size,l[i]=a:=Array.getElem?_eq_some_iff.1 h
theorem aP {n:Nat}:n<=n:=Nat.le_refl n
def nv:List UInt16->Nat
 |[]=>0
 |x::l=>x.toNat+65536*nv l
def Trm (l:List UInt16):Prop:=∀x,l.getLast? = some x->x.toNat≠0
def ay (n:Nat):List UInt16 :=
 if h:n=0 then [] else UInt16.ofNat n::ay (n/65536)
termination_by n
decreasing_by omega
theorem bM:ay 0=[]:=by unfold ay;simp
theorem dI {n:Nat}(h:n≠0):ay n=UInt16.ofNat n::ay (n/65536):=by
 conv=>lhs;unfold ay
 rw[dif_neg h]
theorem be (n:Nat):(UInt16.ofNat n).toNat=n%65536:=by simp[UInt16.toNat_ofNat']
theorem bk (x:UInt16):x.toNat<65536:=x.toNat_lt
theorem aR (n:Nat):nv (ay n)=n:=by
 induction n using Nat.strongRecOn with
 |_ n ih =>
  by_cases h:n=0
  .subst h;rw[bM];rfl
  .rw[dI h,nv,ih _ J,be];omega
theorem p_ {x y:UInt16}(h:x.toNat=y.toNat):x=y:=UInt16.toNat_inj.1 h
theorem Trm.tail {x:UInt16}{l:List UInt16}(h:Trm (x::l)):Trm l:=by
 intro y hy;cases l with
 |nil=>simp at hy
 |cons z l=>exact h y (by rw[List.getLast?_cons_cons];exact hy)
theorem GQ:Trm []:=fun x h=>by simp at h
theorem ou {x:UInt16}{l:List UInt16}(h:Trm (x::l)):nv (x::l)≠0:=by
 induction l generalizing x with
 |nil=>have:=h x ah;simpa [nv] using this
 |cons y l ih=>have:=ih h.tail;rw[nv];omega
theorem gh:∀ {l:List UInt16},Trm l->ay (nv l)=l
 |[],_=>by simp[nv,bM]
 |x::l,h=>by
  have ih:=gh h.tail;have hx:=bk x;rw[dI (ou h),nv];congr 1
  .apply p_;rw[be];omega
  .rw[show(x.toNat+65536*nv l)/65536=nv l by omega];exact ih
theorem bK (n:Nat):Trm (ay n):=by
 induction n using Nat.strongRecOn with
 |_ n ih =>
  by_cases h:n=0
  .subst h;rw[bM];exact GQ
  .rw[dI h];intro x hx;by_cases h2:n/65536=0
   .rw[h2,bM]at hx;simp at hx;subst hx;rw[be];omega
   .rw[dI h2,List.getLast?_cons_cons,<-dI h2]at hx;exact ih _ J x hx
theorem ct {n:Nat}:∀ {k:Nat},n<65536^k->(ay n).length<=k:=by
 induction n using Nat.strongRecOn with
 |_ n ih =>
  intro k hk;by_cases h:n=0
  .subst h;rw[bM];simp
  .rw[dI h];cases k with
   |zero=>simp at hk;omega
   |succ k =>
    have:n/65536<65536^k:=by
     rw[Nat.pow_succ]at hk;exact Nat.div_lt_of_lt_mul (by rw[Nat.mul_comm];exact hk)
    have:=ih _ J this;simp;exact this
theorem co:∀(l:List UInt16),nv l<65536^l.length
 |[]=>by simp[nv]
 |x::l=>by
  have:=co l;have:=bk x;rw[nv,List.length_cons,Nat.pow_succ];omega
theorem jU:∀(a b:List UInt16),nv (a++b)=nv a+65536^a.length*nv b
 |[],b=>by simp[nv]
 |x::a,b=>by
  rw[List.cons_append,nv,jU a b,nv,List.length_cons,Nat.pow_succ,Nat.mul_add,<-Nat.mul_assoc,Nat.mul_comm 65536 (65536^a.length)];omega
def aX (l:List UInt16):List UInt16:=ay (nv l)
theorem k_ (k:Nat):0<65536^k:=Nat.pow_pos Y
theorem dr {l:List UInt16}{i:Nat}{x:UInt16}(h:l[i]? = some x):nv (l.take (i+1))=nv (l.take i)+65536^i*x.toNat:=by
 have hi:=(bb h).1;rw[List.take_add_one,h,jU,List.length_take,Nat.min_eq_left (Nat.le_of_lt hi)];simp[nv]
theorem eX {l:List UInt16}{i:Nat}{x:UInt16}(h:l[i]? = some x):nv (l.drop i)=x.toNat+65536*nv (l.drop (i+1)):=by
 have:=List.drop_eq_getElem?_toList_append (l:=l) (i:=i);rw[h]at this;rw[this];rfl
theorem cT (l:List UInt16)(i:Nat)(h:i<=l.length):nv l=nv (l.take i)+65536^i*nv (l.drop i):=by
 conv=>lhs;rw[<-List.take_append_drop i l]
 rw[jU,List.length_take,Nat.min_eq_left h]
theorem Dm {l:List UInt16}{i:Nat}{x:UInt16}(h:l[i]? = some x)(y:UInt16):nv (l.set i y)+65536^i*x.toNat=nv l+65536^i*y.toNat:=by
 have hi:=(bb h).1;have h2:(l.set i y)[i]? = some y:=List.getElem?_set_self hi;rw[cT (l.set i y) i aU,cT l i J,eX h,eX h2];have e1:(l.set i y).take i=l.take i:=by
  apply List.ext_getElem?;intro j;rw[List.getElem?_take,List.getElem?_take];split
  .rw[List.getElem?_set_ne J]
  .rfl
 have e2:(l.set i y).drop (i+1)=l.drop (i+1):=by
  apply List.ext_getElem?;intro j;rw[List.getElem?_drop,List.getElem?_drop,List.getElem?_set_ne J]
 rw[e1,e2,Nat.mul_add,Nat.mul_add];omega
theorem sN:∀n,nv (List.replicate n 0)=0
 |0=>rfl
 |n+1=>by rw[List.replicate_succ,nv,sN n];rfl
theorem w8 (l:List UInt16)(i:Nat):nv (l.take i)<=nv l:=by
 rcases Nat.lt_or_ge i l.length with h|h
 .rw[cT l i J];exact Nat.le_add_right ..
 .rw[List.take_of_length_le h];exact aP
theorem fj (l:List UInt16)(i:Nat):nv (l.take i)<65536^i:=by
 have:=co (l.take i);refine Nat.lt_of_lt_of_le this (Nat.pow_le_pow_right Y ?_);rw[List.length_take];exact Nat.min_le_left ..
theorem x6 {l:List UInt16}(h:Trm l){k:Nat}(hk:l.length=k+1):65536^k<=nv l:=by
 obtain⟨x,hx⟩:∃x,l[k]? = some x:=⟨l[k],List.getElem?_eq_getElem J⟩;have h0:=h x (by rw[List.getLast?_eq_getElem?,hk];exact hx);have hd:l.drop (k+1)=[]:=List.drop_of_length_le J;rw[cT l k J,eX hx,hd];have:65536^k*1<=65536^k*(x.toNat+65536*nv []):=Nat.mul_le_mul_left _ (by simp[nv];omega);omega
def lG (a b:List UInt16):Nat->Int
 |0=>0
 |i+1=>if (a.getD i 0).toNat=(b.getD i 0).toNat then lG a b i else((a.getD i 0).toNat:Int)-(b.getD i 0).toNat
def j9 (a b:List UInt16):Int:=if a.length=b.length then lG a b a.length else(a.length:Int)-b.length
theorem cA {l:List UInt16}{i:Nat}(h:i<l.length):l[i]? = some (l.getD i 0):=by
 rw[List.getD_eq_getElem?_getD,List.getElem?_eq_getElem h];rfl
theorem qP (a b:List UInt16):∀i,i<=a.length->i<=b.length->(lG a b i<0↔nv (a.take i)<nv (b.take i))/\(lG a b i=0↔nv (a.take i)=nv (b.take i))
 |0,_,_=>by simp[lG,nv]
 |i+1,ha,hb=>by
  obtain⟨h1,h2⟩:=qP a b i J J;have ea:=dr (cA (l:=a) (i:=i) J);have eb:=dr (cA (l:=b) (i:=i) J);have la:=fj a i;have lb:=fj b i;rw[lG,ea,eb];generalize (a.getD i 0).toNat=x at *
  generalize (b.getD i 0).toNat=y at *
  generalize nv (a.take i)=A at *
  generalize nv (b.take i)=C at *
  generalize 65536^i=W at *
  split
  .rename_i he;subst he;rw[h1,h2];omega
  .rename_i he;rcases Nat.lt_or_gt_of_ne he with g|g
   .have:W*(x+1)<=W*y:=Nat.mul_le_mul_left W g;rw[Nat.mul_add]at this;omega
   .have:W*(y+1)<=W*x:=Nat.mul_le_mul_left W g;rw[Nat.mul_add]at this;omega
theorem fW {a b:List UInt16}(ha:Trm a)(hb:Trm b):(j9 a b<0↔nv a<nv b)/\(j9 a b=0↔nv a=nv b):=by
 have key:∀ {a b:List UInt16},Trm b->a.length<b.length->nv a<nv b:=by
  intro a b hb h;obtain⟨k,hk⟩:∃k,b.length=k+1:=⟨b.length-1,J⟩;have:=x6 hb hk;have h2:=co a;have:65536^a.length<=65536^k:=Nat.pow_le_pow_right Y J;omega
 rw[j9];split
 .rename_i h;have:=qP a b a.length (aP) J;rw[List.take_length,List.take_of_length_le J]at this;exact this
 .rename_i h;rcases Nat.lt_or_gt_of_ne h with g|g
  .have:=key hb g;omega
  .have:=key ha g;omega
theorem z6 {V U v1 top W:Nat}(h1:v1*W<=V)(h2:U<(top+1)*W)(h3:0<v1):U/V<=top/v1:=by
 have h4:U/V*V<=U:=Nat.div_mul_le_self U V;have h5:U/V*(v1*W)<=U/V*V:=Nat.mul_le_mul_left _ h1;generalize U/V=Q at *
 rw[Nat.le_div_iff_mul_le h3];rcases Nat.lt_or_ge top (Q*v1) with h|h
 .have h6:(top+1)*W<=(Q*v1)*W:=Nat.mul_le_mul_right W h;rw[Nat.mul_assoc]at h6;omega
 .exact h
theorem Cn {V U q r v1 v2 u2 top W:Nat}(he:q*v1+r=top)(hV:(v1*65536+v2)*W<=V)(hU:U<(top*65536+u2+1)*W)(hc:r*65536+u2<q*v2):U/V<=q-1:=by
 have e1:q*(v1*65536+v2)=q*v1*65536+q*v2:=by rw[Nat.mul_add,Nat.mul_assoc]
 have e2:top*65536=q*v1*65536+r*65536:=by rw[<-he,Nat.add_mul]
 have h1:top*65536+u2+1<=q*(v1*65536+v2):=J;have h2:(top*65536+u2+1)*W<=q*(v1*65536+v2)*W:=Nat.mul_le_mul_right W h1;have h3:q*((v1*65536+v2)*W)<=q*V:=Nat.mul_le_mul_left q hV;rw[Nat.mul_assoc]at h2;have h4:U<q*V:=J;have:U/V<q:=Nat.div_lt_of_lt_mul (by rw[Nat.mul_comm];exact h4);omega
theorem Co {V U q r v1 v2 u2 top W:Nat}(he:q*v1+r=top)(hV:(v1*65536+v2)*W<=V)(hV2:V<(v1*65536+v2+1)*W)(hU:(top*65536+u2)*W<=U)(hv:32768<=v1)(hv2:v2<65536)(hq:q<=65535)
  (hc:65536<=r\/q*v2<=r*65536+u2):q*V<U+V:=by
 have e1:q*(v1*65536+v2)=q*v1*65536+q*v2:=by rw[Nat.mul_add,Nat.mul_assoc]
 have e2:top*65536=q*v1*65536+r*65536:=by rw[<-he,Nat.add_mul]
 rcases Nat.eq_zero_or_pos q with h0|h0
 .subst h0;have:0<V:=by
   rcases Nat.eq_zero_or_pos V with hz|hz
   .subst hz;rcases Nat.eq_zero_or_pos W with hw|hw
    .subst hw;simp at hV2
    .have:0<(v1*65536+v2)*W:=Nat.mul_pos J hw;omega
   .exact hz
  omega
 have h1:q*V<q*((v1*65536+v2+1)*W):=(Nat.mul_lt_mul_left h0).2 hV2;have e3:q*((v1*65536+v2+1)*W)=(q*(v1*65536+v2)+q)*W:=by rw[<-Nat.mul_assoc,Nat.mul_add,Nat.mul_one]
 rw[e3]at h1;rcases hc with hc|hc
 ·
  have h2:q*v2<=q*65535:=Nat.mul_le_mul_left q J;have h3:q*(v1*65536+v2)+q<=top*65536+u2:=J;have h4:(q*(v1*65536+v2)+q)*W<=(top*65536+u2)*W:=Nat.mul_le_mul_right W h3;omega
 .have h3:q*(v1*65536+v2)+q<=top*65536+u2+(v1*65536+v2):=J;have h4:=Nat.mul_le_mul_right W h3;rw[Nat.add_mul (top*65536+u2)]at h4;omega
structure RI where
 neg:Bool
 l:List UInt16
 deriving Inhabited
structure RR where
 n:RI
 d:RI
 deriving Inhabited
def RI.val (a:RI):Int:=if a.neg then -(nv a.l:Int) else(nv a.l:Int)
def RI.den (a:RI):Int:=if nv a.l=0 then 1 else a.val
def RR.val (x:RR):Rat:=(x.n.val:Rat)/(x.d.den:Rat)
def cw (z:Int):RI:=⟨decide (z<0),ay z.natAbs⟩
def ofQ (q:Rat):RR:=⟨cw q.num,⟨false,ay q.den⟩⟩
theorem cm (z:Int):(cw z).val=z:=by
 rw[RI.val,cw];simp only[aR,decide_eq_true_eq];split<;>omega
theorem RI.val_abs (a:RI):a.val.natAbs=nv a.l:=by
 rw[RI.val];split<;>omega
theorem RI.den_ne (a:RI):a.den≠0:=by
 rw[RI.den];split
 .decide
 .rename_i h;intro e;have:=a.val_abs;rw[e]at this;exact h this.symm
theorem FY (q:Rat):(ofQ q).d.den=q.den:=by
 rw[ofQ,RI.den,RI.val];simp only[aR,Bool.false_eq_true,if_false];rw[if_neg q.den_nz]
theorem ofQ_val (q:Rat):(ofQ q).val=q:=by
 rw[RR.val,FY];show((cw q.num).val:Rat)/_=q;rw[cm];rw[<-Rat.divInt_eq_div];exact Rat.num_divInt_den q
theorem sY (a b:Int)(hb:b≠0):((a:Rat)/(b:Rat)).num.natAbs=a.natAbs/Nat.gcd a.natAbs b.natAbs/\((a:Rat)/(b:Rat)).den=b.natAbs/Nat.gcd a.natAbs b.natAbs/\(((a:Rat)/(b:Rat)).num<0↔(a<0/\0<b)\/(0<a/\b<0)):=by
 rw[<-Rat.divInt_eq_div];have hg:(0:Int)<b.gcd a:=by
  have:=Int.gcd_pos_of_ne_zero_left a hb;omega
 have hgc:b.gcd a=Nat.gcd a.natAbs b.natAbs:=by rw[Int.gcd,Nat.gcd_comm]
 have hd:((b.gcd a:Nat):Int)∣b.sign*a:=Int.dvd_mul_of_dvd_right (Int.gcd_dvd_right b a);refine⟨?_,?_,?_⟩
 .rw[Rat.num_divInt,Int.natAbs_ediv_of_dvd hd,Int.natAbs_mul,Int.natAbs_natCast,hgc];have:b.sign.natAbs=1:=by
   rcases Int.lt_or_gt_of_ne hb with h|h
   .rw[Int.sign_eq_neg_one_of_neg h];rfl
   .rw[Int.sign_eq_one_of_pos h];rfl
  rw[this,Nat.one_mul]
 .rw[Rat.den_divInt,if_neg hb,hgc]
 .rw[Rat.num_divInt];obtain⟨k,hk⟩:=hd;rw[hk,Int.mul_ediv_cancel_left _ J];generalize ((b.gcd a:Nat):Int)=g at *
  have h1:k<0↔b.sign*a<0:=by
   rw[hk];constructor
   .intro h;exact Int.mul_neg_of_pos_of_neg hg h
   .intro h;rcases Int.lt_or_le k 0 with h'|h'
    .exact h'
    .have:=Int.mul_nonneg (Int.le_of_lt hg) h';omega
  rw[h1];rcases Int.lt_or_gt_of_ne hb with h|h
  .rw[Int.sign_eq_neg_one_of_neg h];omega
  .rw[Int.sign_eq_one_of_pos h];omega
end Go.Pv
namespace Go.Pv
theorem FZ (a b:Int)(hb:b≠0):ofQ ((a:Rat)/(b:Rat))=⟨⟨decide ((a<0/\0<b)\/(0<a/\b<0)),ay (a.natAbs/Nat.gcd a.natAbs b.natAbs)⟩,⟨false,ay (b.natAbs/Nat.gcd a.natAbs b.natAbs)⟩⟩:=by
 obtain⟨h1,h2,h3⟩:=sY a b hb;rw[ofQ,cw,h1,h2];simp only[h3]
theorem RR.val_ne (x:RR):(x.d.den:Rat)≠0:=by
 have:=x.d.den_ne;intro h;exact this (Rat.intCast_inj.1 (by simpa using h))
theorem RR.zero_iff (x:RR):x.val=0↔nv x.n.l=0:=by
 have hd:=x.val_ne;rw[RR.val];constructor
 .intro h;have h2:(x.n.val:Rat)=0:=by
   have:(x.n.val:Rat)/(x.d.den:Rat)*(x.d.den:Rat)=x.n.val:=Rat.div_mul_cancel hd;rw[h]at this;grind
  have h3:x.n.val=0:=Rat.intCast_inj.1 (by simpa using h2);have:=x.n.val_abs;rw[h3]at this;omega
 .intro h;have:x.n.val=0:=by rw[RI.val,h];simp
  rw[this];grind
theorem sV (a b c d:Int)(hb:b≠0)(hd:d≠0):(a:Rat)/b+(c:Rat)/d=((a*d+c*b:Int):Rat)/((b*d:Int):Rat):=by
 have h1:(b:Rat)≠0:=fun h=>hb (Rat.intCast_inj.1 (by simpa using h));have h2:(d:Rat)≠0:=fun h=>hd (Rat.intCast_inj.1 (by simpa using h));rw[Rat.intCast_add,Rat.intCast_mul,Rat.intCast_mul,Rat.intCast_mul];grind
theorem yY (a b c d:Int):(a:Rat)/b*((c:Rat)/d)=((a*c:Int):Rat)/((b*d:Int):Rat):=by
 rw[<-Rat.divInt_eq_div,<-Rat.divInt_eq_div,<-Rat.divInt_eq_div,Rat.divInt_mul_divInt]
theorem sW (a b c d:Int):(a:Rat)/b/((c:Rat)/d)=((a*d:Int):Rat)/((b*c:Int):Rat):=by
 rw[Rat.div_def ((a:Rat)/b),<-Rat.divInt_eq_div,<-Rat.divInt_eq_div,Rat.inv_divInt,Rat.divInt_mul_divInt,Rat.divInt_eq_div]
theorem Gk (a b:Int) : -((a:Rat)/b)=((-a:Int):Rat)/b:=by
 rw[Rat.intCast_neg];grind
class SZ (x:RR) (n:outParam Nat):Prop where
 ok:x.n.l.length<=n/\x.d.l.length<=n
def hq (q:Rat)(n:Nat):Prop:=q.num.natAbs<65536^n/\q.den<65536^n
theorem CX {q:Rat}{n:Nat}(h:hq q n):1<=n:=by
 cases n with
 |zero=>have:=h.2;have:=q.den_pos;simp at *;omega
 |succ n=>omega
theorem kr {q:Rat}{n:Nat}(h:hq q n):SZ (ofQ q) n:=⟨ct h.1,ct h.2⟩
theorem da {n m:Nat}(h:n<=m):65536^n<=65536^m:=Nat.pow_le_pow_right Y h
theorem dl {q:Rat}{n m:Nat}(h:hq q n)(hm:n<=m):hq q m:=⟨Nat.lt_of_lt_of_le h.1 (da hm),Nat.lt_of_lt_of_le h.2 (da hm)⟩
theorem gc {a b:Int}{n:Nat}(hb:b≠0)(h1:a.natAbs<65536^n)(h2:b.natAbs<65536^n):hq ((a:Rat)/(b:Rat)) n:=by
 obtain⟨e1,e2,_⟩:=sY a b hb;refine⟨?_,?_⟩
 .rw[e1];exact Nat.lt_of_le_of_lt (Nat.div_le_self ..) h1
 .rw[e2];exact Nat.lt_of_le_of_lt (Nat.div_le_self ..) h2
theorem ga (q:Rat):q=(q.num:Rat)/((q.den:Int):Rat):=by
 rw[<-Rat.divInt_eq_div];exact(Rat.num_divInt_den q).symm
theorem fG {a b n m:Nat}(ha:a<65536^n)(hb:b<65536^m):a*b<65536^(n+m):=by
 rw[Nat.pow_add];rcases Nat.eq_zero_or_pos b with h|h
 .subst h;rw[Nat.mul_zero];exact Nat.mul_pos (k_ _) (k_ _)
 .exact Nat.lt_of_lt_of_le ((Nat.mul_lt_mul_right h).2 ha) (Nat.mul_le_mul_left _ (Nat.le_of_lt hb))
theorem cO (q:Rat):(q.den:Int)≠0:=by have:=q.den_pos;omega
theorem sv {p q:Rat}{n m:Nat}(h1:hq p n)(h2:hq q m):hq (p+q) (n+m+1):=by
 rw[ga p,ga q,sV _ _ _ _ (cO p) (cO q)];have e1:=fG h1.1 h2.2;have e2:=fG h2.1 h1.2;have e3:=fG h1.2 h2.2;rw[Nat.add_comm m n]at e2;have e4:65536^(n+m)+65536^(n+m)<=65536^(n+m+1):=by rw[Nat.pow_succ];omega
 refine gc (Int.mul_ne_zero (cO p) (cO q)) ?_ ?_
 .refine Nat.lt_of_le_of_lt (Int.natAbs_add_le ..) ?_;rw[Int.natAbs_mul,Int.natAbs_mul,Int.natAbs_natCast,Int.natAbs_natCast];omega
 .rw[Int.natAbs_mul,Int.natAbs_natCast,Int.natAbs_natCast];omega
theorem CW {p q:Rat}{n m:Nat}(h1:hq p n)(h2:hq q m):hq (p*q) (n+m):=by
 rw[ga p,ga q,yY];refine gc (Int.mul_ne_zero (cO p) (cO q)) ?_ ?_
 .rw[Int.natAbs_mul];exact fG h1.1 h2.1
 .rw[Int.natAbs_mul,Int.natAbs_natCast,Int.natAbs_natCast];exact fG h1.2 h2.2
theorem o9 {q:Rat}{n:Nat}(h:hq q n):hq (-q) n:=by
 rw[hq,Rat.neg_num,Rat.neg_den,Int.natAbs_neg];exact h
theorem iG {z:Int}{n:Nat}(h:z.natAbs<65536^n)(hn:1<=n):hq (z:Rat) n:=by
 rw[hq,Rat.num_intCast,Rat.den_intCast];refine⟨h,?_⟩;have:=da hn;omega
theorem CV {p q:Rat}{n m:Nat}(h1:hq p n)(h2:hq q m):hq (p/q) (n+m):=by
 by_cases hz:q.num=0
 .have:q=0:=Rat.num_eq_zero.1 hz;subst this;rw[Rat.div_def,Rat.inv_zero,Rat.mul_zero];refine iG (z:=0) (k_ _) ?_;have:=CX h1;omega
 .rw[ga p,ga q,sW];refine gc (Int.mul_ne_zero (cO p) hz) ?_ ?_
  .rw[Int.natAbs_mul,Int.natAbs_natCast];exact fG h1.1 h2.2
  .rw[Int.natAbs_mul,Int.natAbs_natCast,Nat.mul_comm,Nat.add_comm];rw[Nat.add_comm];have:=fG h1.2 h2.1;rw[Nat.mul_comm];exact this
theorem RI.val_lt (a:RI){n:Nat}(h:a.l.length<=n):a.val.natAbs<65536^n:=by
 rw[a.val_abs];exact Nat.lt_of_lt_of_le (co a.l) (da h)
theorem RI.den_lt (a:RI){n:Nat}(h:a.l.length<=n)(hn:1<=n):a.den.natAbs<65536^n:=by
 rw[RI.den];split
 .have:=da hn;simp at *;omega
 .exact a.val_lt h
theorem SZ.hq {x:RR}{n:Nat}(h:SZ x n):hq x.val (n+1) :=
 gc x.d.den_ne (x.n.val_lt (by have:=h.ok.1;omega)) (x.d.den_lt (by have:=h.ok.2;omega) J)
def RR.add (x y:RR):RR:=ofQ (x.val+y.val)
def RR.sub (x y:RR):RR:=ofQ (x.val-y.val)
def RR.mul (x y:RR):RR:=ofQ (x.val*y.val)
def RR.quo (x y:RR):RR:=ofQ (x.val/y.val)
def RR.neg (x:RR):RR:=ofQ (-x.val)
def RR.norm (x:RR):RR:=ofQ x.val
def RR.int (z:Int):RR:=ofQ z
def RR.zero:RR:=⟨⟨false,[]⟩,⟨false,[]⟩⟩
def sgn (q:Rat):Int:=if q<0 then -1 else if q=0 then 0 else 1
def RR.sgn (x:RR):Int:=Go.Pv.sgn x.val
@[simp] theorem RR.add_val (x y:RR):(x.add y).val=x.val+y.val:=ofQ_val _
@[simp] theorem RR.sub_val (x y:RR):(x.sub y).val=x.val-y.val:=ofQ_val _
@[simp] theorem RR.mul_val (x y:RR):(x.mul y).val=x.val*y.val:=ofQ_val _
@[simp] theorem RR.quo_val (x y:RR):(x.quo y).val=x.val/y.val:=ofQ_val _
@[simp] theorem RR.neg_val (x:RR):x.neg.val = -x.val:=ofQ_val _
@[simp] theorem RR.norm_val (x:RR):x.norm.val=x.val:=ofQ_val _
@[simp] theorem RR.int_val (z:Int):(RR.int z).val=z:=ofQ_val _
@[simp] theorem RR.ofQ_val (q:Rat):(ofQ q).val=q:=Go.Pv.ofQ_val _
@[simp] theorem RR.zero_val:RR.zero.val=0:=by rw[RR.zero_iff];rfl
instance {x y:RR} {n m:Nat} [h1:SZ x n] [h2:SZ y m]:SZ (x.add y) (n+m+3):=kr (dl (sv h1.hq h2.hq) J)
instance {x y:RR} {n m:Nat} [h1:SZ x n] [h2:SZ y m]:SZ (x.mul y) (n+m+2):=kr (dl (CW h1.hq h2.hq) J)
instance {x y:RR} {n m:Nat} [h1:SZ x n] [h2:SZ y m]:SZ (x.quo y) (n+m+2):=kr (dl (CV h1.hq h2.hq) J)
instance {x y:RR} {n m:Nat} [h1:SZ x n] [h2:SZ y m]:SZ (x.sub y) (n+m+3):=by
 refine kr ?_;rw[Rat.sub_eq_add_neg];exact dl (sv h1.hq (o9 h2.hq)) J
instance {x:RR} {n:Nat} [h:SZ x n]:SZ x.neg (n+1):=kr (o9 h.hq)
instance {x:RR} {n:Nat} [h:SZ x n]:SZ x.norm (n+1):=kr h.hq
instance:SZ RR.zero 0:=⟨⟨aP,aP⟩⟩
theorem SZ.int {z:Int}(h:z.natAbs<65536^4):SZ (RR.int z) 4:=kr (iG h Y)
theorem SZ.mono {x:RR}{n m:Nat}(h:SZ x n)(hm:n<=m):SZ x m:=⟨⟨Nat.le_trans h.ok.1 hm,Nat.le_trans h.ok.2 hm⟩⟩
end Go.Pv
namespace Go.Pv
open Go.RowKit
inductive PV where
 |bool (b:Bool)
 |int (k:IntKind) (n:Int)
 |str (s:List UInt8)
 |raw (v:Value)
 |agg (cs:List PV)
 |tup (cs:List PV)
 |nil
 |sl (rows:List (List PV))
 |dref (cs:List PV) (j:Nat)
 |clo (f:FuncId) (caps:List PV)
 |fsl (rows:List (List PV))
 |als (s g i n:Nat)
 |ptr (s g i j:Nat)
 |mapd (rows:List (List PV))
 |mp (s g:Nat)
 |mi (s g:Nat)
 |yl (s g:Nat)
 |lbl (params:Array Tmp) (assign body:Code) (st:LoopState) (pend:Option Code) (regs:Nat->PV)
 |dfd
 deriving Inhabited
def BornOk (k:Nat)(es:Array MapEntry)(n:Nat):Prop :=
 (∀e∈es.toList,e.born<n)/\es.toList.Pairwise (fun a b=>a.born<b.born)/\(k=0->n=es.size/\∀(i:Nat) (e:MapEntry),es[i]? = some e->e.born=i)
theorem BornOk.up {k k' n:Nat}{es:Array MapEntry}(h:BornOk k es n)(hk:k<=k'):BornOk k' es n:=⟨h.1,h.2.1,fun e=>h.2.2 J⟩
theorem BornOk.nil (k:Nat):BornOk k #[] 0:=⟨fun e he=>by simp at he,ah,fun _=>⟨O,fun i e he=>by simp at he⟩⟩
theorem BornOk.push {k n:Nat}{es:Array MapEntry}(h:BornOk k es n)(e:MapEntry)(he:e.born=n):BornOk k (es.push e) (n+1):=by
 refine⟨fun q hq=>?_,?_,fun hk=>?_⟩
 .rw[Array.toList_push,List.mem_append]at hq;rcases hq with hq|hq
  .exact Nat.lt_succ_of_lt (h.1 q hq)
  .simp at hq;subst hq;omega
 .rw[Array.toList_push,List.pairwise_append];refine⟨h.2.1,ah,fun a ha b hb=>?_⟩;simp at hb;subst hb;rw[he];exact h.1 a ha
 .obtain⟨h1,h2⟩:=h.2.2 hk;refine⟨by simp[h1],fun i q hq=>?_⟩;rw[Array.getElem?_push]at hq;split at hq
  .rename_i hi;simp at hq;subst hq;omega
  .exact h2 i q hq
theorem BornOk.modify {k n:Nat}{es:Array MapEntry}(h:BornOk k es n)(i:Nat)(f:MapEntry->MapEntry)(hf:∀e,(f e).born=e.born):BornOk k (es.modify i f) n:=by
 have hget:∀(j:Nat) (e:MapEntry),(es.modify i f)[j]? = some e->∃e',es[j]? = some e'/\e.born=e'.born:=by
  intro j e he;rw[Array.getElem?_modify]at he;split at he
  .cases hq:es[j]? with
   |none=>rw[hq]at he;simp at he
   |some q=>rw[hq]at he;simp at he;subst he;exact⟨q,rfl,hf q⟩
  .exact⟨e,he,O⟩
 refine⟨fun q hq=>?_,?_,fun hk=>?_⟩
 .obtain⟨j,hj,rfl⟩:=List.getElem_of_mem hq;obtain⟨e',h1,h2⟩:=hget j (es.modify i f).toList[j] (by rw[<-Array.getElem?_toList];exact List.getElem?_eq_getElem hj);rw[h2];exact h.1 e' (bc (by simpa using h1))
 .rw[List.pairwise_iff_getElem];intro a b ha hb hab;obtain⟨e1,h1,h2⟩:=hget a (es.modify i f).toList[a] (by rw[<-Array.getElem?_toList];exact List.getElem?_eq_getElem ha);obtain⟨e2,h3,h4⟩:=hget b (es.modify i f).toList[b] (by rw[<-Array.getElem?_toList];exact List.getElem?_eq_getElem hb);rw[h2,h4];have ha':a<es.toList.length:=by simpa using ha
  have hb':b<es.toList.length:=by simpa using hb
  have h5:=List.pairwise_iff_getElem.1 h.2.1 a b ha' hb' hab;have q1:es.toList[a]=e1:=by have:=List.getElem?_eq_getElem ha';rw[Array.getElem?_toList,h1]at this;exact(Option.some.inj this).symm
  have q2:es.toList[b]=e2:=by have:=List.getElem?_eq_getElem hb';rw[Array.getElem?_toList,h3]at this;exact(Option.some.inj this).symm
  rw[q1,q2]at h5;exact h5
 .obtain⟨h1,h2⟩:=h.2.2 hk;refine⟨by simp[h1],fun j e he=>?_⟩;obtain⟨e',h3,h4⟩:=hget j e he;rw[h4];exact h2 j e' h3
theorem BornOk.erase {k n:Nat}{es:Array MapEntry}(h:BornOk k es n)(i:Nat):BornOk 1 (es.eraseIdxIfInBounds i) n:=by
 have hl:(es.eraseIdxIfInBounds i).toList=es.toList.eraseIdx i:=ah;refine⟨fun q hq=>?_,?_,fun hk=>by cases hk⟩
 .rw[hl]at hq;exact h.1 q (List.mem_of_mem_eraseIdx hq)
 .rw[hl];exact h.2.1.sublist (List.eraseIdx_sublist ..)
inductive DRep (w:World) (ok:Nat->Prop):PV->Value->Prop
 |bool (b:Bool):DRep w ok (.bool b) (.bool b)
 |int (k:IntKind) (n:Int):DRep w ok (.int k n) (.int k n)
 |str (s:List UInt8):DRep w ok (.str s) (.string ⟨s.toArray⟩)
 |raw (v:Value):DRep w ok (.raw v) v
 |nil:DRep w ok .nil (.slice none 0 0)
 |agg (cs:List PV) (vs:List Value):cs.length=vs.length->(∀(i:Nat) (c:PV) (v:Value),cs[i]? = some c->vs[i]? = some v->DRep w ok c v)->DRep w ok (.agg cs) (.agg vs.toArray)
 |tup (cs:List PV) (vs:List Value):cs.length=vs.length->(∀(i:Nat) (c:PV) (v:Value),cs[i]? = some c->vs[i]? = some v->DRep w ok c v)->DRep w ok (.tup cs) (.tuple vs.toArray)
 |sl0 (a:Option Addr) (cap:Nat):DRep w ok (.sl []) (.slice a 0 cap)
 |sl (rows:List (List PV)) (b off cap sz:Nat) (vals:Nat->Nat->Value):ok b->0<sz->rows.length<=cap->(∀(row:List PV),row∈rows->row.length=sz) ->
   (∀(i j:Nat) (row:List PV) (c:PV),rows[i]? = some row->row[j]? = some c->w.cell? ⟨b,off+i*sz+j,none⟩=some (vals i j)/\(vals i j).oneCell'=true) ->
   (∀(i j:Nat) (row:List PV) (c:PV),rows[i]? = some row->row[j]? = some c->DRep w ok c (vals i j)) ->
   DRep w ok (.sl rows) (.slice (some ⟨b,off,none⟩) rows.length cap)
 |dref (cs:List PV) (j b off:Nat) (vals:Nat->Value):ok b ->
   (∀(i:Nat) (c:PV),cs[i]? = some c->w.cell? ⟨b,off+i,none⟩=some (vals i)/\(vals i).oneCell'=true) ->
   (∀(i:Nat) (c:PV),cs[i]? = some c->DRep w ok c (vals i)) ->
   DRep w ok (.dref cs j) (.pointer (some ⟨b,off+j,none⟩))
 |clo (f:FuncId) (caps:List PV) (vs:List Value):caps.length=vs.length->(∀(i:Nat) (c:PV) (v:Value),caps[i]? = some c->vs[i]? = some v->DRep w ok c v) ->
   DRep w ok (.clo f caps) (.func (.func f) #[] vs.toArray)
 |mapd (rows:List (List PV)) (b:Nat) (es:Array MapEntry) (nn:Nat):ok b->w.heap[b]? = some (.map es nn)->rows.length=es.size->(∀row∈rows,row.length=2)->BornOk 1 es nn ->
   (∀(i:Nat) (row:List PV) (c:PV) (e:MapEntry),rows[i]? = some row->row[0]? = some c->es[i]? = some e->DRep w ok c e.key) ->
   (∀(i:Nat) (row:List PV) (c:PV) (e:MapEntry),rows[i]? = some row->row[1]? = some c->es[i]? = some e->DRep w ok c e.val) ->
   DRep w ok (.mapd rows) (.map (some b))
theorem DRep.mono {w w':World}{ok ok':Nat->Prop}(hok:∀b,ok b->ok' b)
  (hc:∀b o v,ok b->w.cell? ⟨b,o,none⟩=some v->w'.cell? ⟨b,o,none⟩=some v) (hm:∀b es n,ok b->w.heap[b]? = some (.map es n)->w'.heap[b]? = some (.map es n)) {c:PV} {v:Value} (h:DRep w ok c v):DRep w' ok' c v:=by
 induction h with
 |bool b=>exact .bool b
 |int k n=>exact .int k n
 |str s=>exact .str s
 |raw v=>exact .raw v
 |nil=>exact .nil
 |agg cs vs hl _ ih=>exact .agg cs vs hl ih
 |tup cs vs hl _ ih=>exact .tup cs vs hl ih
 |sl0 a cap=>exact .sl0 a cap
 |sl rows b off cap sz vals hb hs hcap hrow hcell _ ih =>
  exact .sl rows b off cap sz vals (hok b hb) hs hcap hrow (fun i j row c h1 h2=>⟨hc b _ _ hb (hcell i j row c h1 h2).1,(hcell i j row c h1 h2).2⟩) ih
 |dref cs j b off vals hb hcell _ ih =>
  exact .dref cs j b off vals (hok b hb) (fun i c h1=>⟨hc b _ _ hb (hcell i c h1).1,(hcell i c h1).2⟩) ih
 |clo f caps vs hl _ ih=>exact .clo f caps vs hl ih
 |mapd rows b es nn hb hh hl h2 hborn _ _ ih1 ih2=>exact .mapd rows b es nn (hok b hb) (hm b _ _ hb hh) hl h2 hborn ih1 ih2
structure SLoc where
 blk:Option Nat
 ty:TypeId
 sz:Nat
 m:Nat
structure Env where
 w:World
 ok:Nat->Prop
 okf:Nat->Prop
 gen:Nat->Nat
 loc:Nat->Option SLoc
def BT (w:World)(l:SLoc)(i n:Nat)(v:Value):Prop :=
 (l.blk=none/\i=0/\n=0/\v = .slice none 0 0) \/
 (∃b cap cur,l.blk=some b/\v = .slice (some ⟨b,i*l.sz,none⟩) n cap/\w.heap[b]? = some (.cells cur l.ty (0,0))/\n<=cap/\cap<=maxLen/\cur.size=(i+cap)*l.sz/\i+n<=l.m)
def Jo (l:SLoc)(i j:Nat)(v:Value):Prop :=
 ∃b,l.blk=some b/\v = .pointer (some ⟨b,i*l.sz+j,none⟩)/\i<l.m/\j<l.sz
inductive Rep (E:Env):PV->Value->Prop
 |d {c:PV} {v:Value}:DRep E.w E.ok c v->Rep E c v
 |fsl {rows:List (List PV)} {v:Value}:DRep E.w E.okf (.sl rows) v->Rep E (.fsl rows) v
 |als {s g i n:Nat} {v:Value}:g<=E.gen s->(g=E.gen s->∀l,E.loc s=some l->BT E.w l i n v)->Rep E (.als s g i n) v
 |ptr {s g i j:Nat} {v:Value}:g<=E.gen s->(g=E.gen s->∀l,E.loc s=some l->Jo l i j v)->Rep E (.ptr s g i j) v
 |agg (cs:List PV) (vs:List Value):cs.length=vs.length->(∀(i:Nat) (c:PV) (v:Value),cs[i]? = some c->vs[i]? = some v->Rep E c v)->Rep E (.agg cs) (.agg vs.toArray)
 |tup (cs:List PV) (vs:List Value):cs.length=vs.length->(∀(i:Nat) (c:PV) (v:Value),cs[i]? = some c->vs[i]? = some v->Rep E c v)->Rep E (.tup cs) (.tuple vs.toArray)
 |clo (f:FuncId) (caps:List PV) (vs:List Value):caps.length=vs.length->(∀(i:Nat) (c:PV) (v:Value),caps[i]? = some c->vs[i]? = some v->Rep E c v) ->
   Rep E (.clo f caps) (.func (.func f) #[] vs.toArray)
 |mp {s g:Nat} {v:Value}:g<=E.gen s->(g=E.gen s->∀l,E.loc s=some l->l.sz=0/\∃b,l.blk=some b/\v = .map (some b))->Rep E (.mp s g) v
 |mi {s g:Nat} {v:Value}:g<=E.gen s->(g=E.gen s->∀l,E.loc s=some l->l.sz=0/\∃b,l.blk=some b/\v = .pointer (some ⟨b,0,none⟩))->Rep E (.mi s g) v
 |yl {s g:Nat} {v:Value}:g<=E.gen s->(g=E.gen s->∀l,E.loc s=some l->l.sz=0/\∃b,l.blk=some b/\v = .func (.yield b) #[] #[])->Rep E (.yl s g) v
 |dfd {b:Nat}:E.ok b->E.w.heap[b]? = some (.deferred (some []))->Rep E .dfd (.pointer (some ⟨b,0,none⟩))
structure Env.Le (E E':Env):Prop where
 ok:∀b,E.ok b->E'.ok b
 okf:∀b,E.okf b->E'.okf b
 okfok:∀b,E.okf b->E.ok b
 obj:∀b,E.ok b->E'.w.heap[b]? = E.w.heap[b]?
 gen:∀s,E.gen s<=E'.gen s
 loc:∀s l',E'.gen s=E.gen s->E'.loc s=some l'->∃l,E.loc s=some l/\l'.blk=l.blk/\l'.ty=l.ty/\l'.sz=l.sz/\l.m<=l'.m
 blk:∀s l' b cur,E'.gen s=E.gen s->E'.loc s=some l'->l'.blk=some b->E.w.heap[b]? = some (.cells cur l'.ty (0,0)) ->
  ∃cur',E'.w.heap[b]? = some (.cells cur' l'.ty (0,0))/\cur'.size=cur.size
theorem Env.Le.cell {E E':Env}(h:E.Le E')(b o:Nat)(v:Value)(hb:E.ok b)(hc:E.w.cell? ⟨b,o,none⟩=some v):E'.w.cell? ⟨b,o,none⟩=some v:=by
 rw[World.cell?_of_block (w:=E.w) (a:=⟨b,o,none⟩) (h.obj b hb)];exact hc
theorem Env.Le.mapc {E E':Env}(h:E.Le E')(b:Nat)(es:Array MapEntry)(n:Nat)(hb:E.ok b)(hc:E.w.heap[b]? = some (.map es n)):E'.w.heap[b]? = some (.map es n):=by rw[h.obj b hb];exact hc
theorem Env.Le.trans' {E E' E'':Env}(h:E.Le E')(k:E'.Le E''):E.Le E'' where
 ok b hb:=k.ok b (h.ok b hb)
 okf b hb:=k.okf b (h.okf b hb)
 okfok:=h.okfok
 obj b hb:=(k.obj b (h.ok b hb)).trans (h.obj b hb)
 gen s:=Nat.le_trans (h.gen s) (k.gen s)
 loc s l'' hg hl:=by
  have h1:=h.gen s;have h2:=k.gen s;obtain⟨l',e1,e2,e3,e4,e5⟩:=k.loc s l'' J hl;obtain⟨l,f1,f2,f3,f4,f5⟩:=h.loc s l' J e1;exact⟨l,f1,e2.trans f2,e3.trans f3,e4.trans f4,Nat.le_trans f5 e5⟩
 blk s l'' b cur hg hl hb hh:=by
  have h1:=h.gen s;have h2:=k.gen s;obtain⟨l',e1,e2,e3,e4,e5⟩:=k.loc s l'' J hl;obtain⟨c1,g1,g2⟩:=h.blk s l' b cur J e1 (by rw[<-e2];exact hb) (by rw[<-e3];exact hh);obtain⟨c2,g3,g4⟩:=k.blk s l'' b c1 J hl hb (by rw[e3];exact g1);exact⟨c2,g3,g4.trans g2⟩
theorem Env.Le.drep {E E':Env}(h:E.Le E'){c:PV}{v:Value}(hr:DRep E.w E.ok c v):DRep E'.w E'.ok c v :=
 hr.mono h.ok h.cell h.mapc
theorem Env.Le.drepf {E E':Env}(h:E.Le E'){c:PV}{v:Value}(hr:DRep E.w E.okf c v):DRep E'.w E'.okf c v :=
 hr.mono h.okf (fun b o v hb=>h.cell b o v (h.okfok b hb)) (fun b es n hb=>h.mapc b es n (h.okfok b hb))
theorem Rep.mono {E E':Env}(h:E.Le E'){c:PV}{v:Value}(hr:Rep E c v):Rep E' c v:=by
 induction hr with
 |d hd=>exact .d (h.drep hd)
 |fsl hd=>exact .fsl (h.drepf hd)
 |als hg hl =>
  rename_i s g i n v;refine .als (Nat.le_trans hg (h.gen _)) fun he l' hl'=>?_;have h1:=h.gen s;have h2:g=E.gen s:=J;obtain⟨l,e1,e2,e3,e4,e5⟩:=h.loc s l' J hl';have h3:=hl h2 l e1;rcases h3 with⟨a1,a2,a3,a4⟩|⟨b,cap,cur,a1,a2,a3,a4,a5,a6,a7⟩
  .exact .inl ⟨e2.trans a1,a2,a3,a4⟩
  .obtain⟨cur',b1,b2⟩:=h.blk s l' b cur J hl' (e2.trans a1) (by rw[e3];exact a3);exact .inr ⟨b,cap,cur',e2.trans a1,by rw[e4];exact a2,b1,a4,a5,by rw[b2,e4];exact a6,J⟩
 |ptr hg hl =>
  rename_i s g i j v;refine .ptr (Nat.le_trans hg (h.gen _)) fun he l' hl'=>?_;have h1:=h.gen s;obtain⟨l,e1,e2,e3,e4,e5⟩:=h.loc s l' J hl';obtain⟨b,a1,a2,a3,a4⟩:=hl J l e1;exact⟨b,e2.trans a1,by rw[e4];exact a2,J,J⟩
 |agg cs vs hl _ ih=>exact .agg cs vs hl ih
 |tup cs vs hl _ ih=>exact .tup cs vs hl ih
 |clo f caps vs hl _ ih=>exact .clo f caps vs hl ih
 |mp hg hl =>
  rename_i s g v;refine .mp (Nat.le_trans hg (h.gen _)) fun he l' hl'=>?_;have h1:=h.gen s;obtain⟨l,e1,e2,e3,e4,e5⟩:=h.loc s l' J hl';obtain⟨a0,b,a1,a2⟩:=hl J l e1;exact⟨e4.trans a0,b,e2.trans a1,a2⟩
 |mi hg hl =>
  rename_i s g v;refine .mi (Nat.le_trans hg (h.gen _)) fun he l' hl'=>?_;have h1:=h.gen s;obtain⟨l,e1,e2,e3,e4,e5⟩:=h.loc s l' J hl';obtain⟨a0,b,a1,a2⟩:=hl J l e1;exact⟨e4.trans a0,b,e2.trans a1,a2⟩
 |yl hg hl =>
  rename_i s g v;refine .yl (Nat.le_trans hg (h.gen _)) fun he l' hl'=>?_;have h1:=h.gen s;obtain⟨l,e1,e2,e3,e4,e5⟩:=h.loc s l' J hl';obtain⟨a0,b,a1,a2⟩:=hl J l e1;exact⟨e4.trans a0,b,e2.trans a1,a2⟩
 |dfd hb hd=>exact .dfd (h.ok _ hb) (by rw[h.obj _ hb];exact hd)
def KRep (E:Env)(k:Nat)(c:PV)(v:Value):Prop :=
 match k with
 |0=>DRep E.w E.okf c v
 |1=>DRep E.w E.ok c v
 |_=>Rep E c v
theorem KRep.mono {E E':Env}(h:E.Le E'){k:Nat}{c:PV}{v:Value}(hr:KRep E k c v):KRep E' k c v:=by
 match k with
 |0=>exact h.drepf hr
 |1=>exact h.drep hr
 |_+2=>exact Rep.mono h hr
theorem KRep.rep {E:Env}(hf:∀b,E.okf b->E.ok b){k:Nat}{c:PV}{v:Value}(hr:KRep E k c v):Rep E c v:=by
 match k with
 |0=>exact .d (DRep.mono hf (fun _ _ _ _ h=>h) (fun _ _ _ _ h=>h) hr)
 |1=>exact .d hr
 |_+2=>exact hr
theorem bm {a b:Nat}(h:a≠b):Nat.beq a b=false:=by
 cases e:Nat.beq a b with
 |false=>rfl
 |true=>exact absurd (Nat.eq_of_beq_eq_true e) h
structure Cont where
 ty:TypeId
 sz:Nat
 rows:List (List PV)
 kind:Nat
structure St where
 reg:Nat->PV
 own:Nat->Nat × Option Cont
def St.putR (s:St)(d:Nat)(v:PV):St:={ s with reg:=fun r=>bif Nat.beq r d then v else s.reg r }
def St.put (s:St)(d:Option Nat)(v:PV):St:=match d with|some d=>s.putR d v|none=>s
def St.setOwn (s:St)(k:Nat)(g:Nat)(c:Option Cont):St:={ s with own:=fun r=>bif Nat.beq r k then(g,c) else s.own r }
def cst1:Value->PV
 |.bool b => .bool b
 |.int k n => .int k n
 |.string s => .str s.data.toList
 |.slice none 0 0 => .nil
 |.func (.func f) ⟨[]⟩ ⟨[]⟩ => .clo f []
 |v => .raw v
def cst:Value->PV
 |.agg cs => .agg (cs.toList.map cst1)
 |v=>cst1 v
def St.ev (s:St):Operand->PV
 |.tmp t=>s.reg t
 |.const v=>cst v
 |.global g => .raw (.pointer (some ⟨g,0,none⟩))
 |.func f => .clo f []
theorem DRep.cst1 (w:World)(ok:Nat->Prop)(v:Value):DRep w ok (cst1 v) v:=by
 unfold Pv.cst1;split
 .exact .bool _
 .exact .int _ _
 .exact .str _
 .exact .nil
 .exact .clo _ [] [] O (fun i c v h=>by simp at h)
 .exact .raw _
theorem DRep.cst (w:World)(ok:Nat->Prop)(v:Value):DRep w ok (cst v) v:=by
 unfold Pv.cst;split
 .rename_i cs;have h:DRep w ok (.agg (cs.toList.map Pv.cst1)) (.agg cs.toList.toArray):=by
   refine .agg _ _ ah fun i c v h1 h2=>?_;rw[List.getElem?_map,h2]at h1;simp at h1;subst h1;exact DRep.cst1 w ok v
  simpa using h
 .exact DRep.cst1 w ok v
structure Ctx where
 B:Nat
 X:Nat->Prop
 w0:World
 N:Nat
 keep:PV->Value->Prop
 dfs:List Nat
def wY (D0:Nat):Deferred:={ target := .collected D0,args:=#[] }
def eE (C:Ctx)(γ:Nat->Option Nat)(s:St)(w:World)(b:Nat):Prop :=
 b<w.heap.size/\¬C.X b/\∀k c,(s.own k).2=some c->γ k≠some b
def ao (C:Ctx)(γ:Nat->Option Nat)(s:St)(w:World):Env where
 w:=w
 ok:=eE C γ s w
 okf b:=C.B<=b/\eE C γ s w b
 gen k:=(s.own k).1
 loc k:=(s.own k).2.map fun c=>⟨γ k,c.ty,c.sz,c.rows.length⟩
def Jm (E:Env)(k:Nat)(b:Nat)(rows:List (List PV)):Prop :=
 ∃(es:Array MapEntry) (nn:Nat),E.w.heap[b]? = some (.map es nn)/\rows.length=es.size/\(∀row∈rows,row.length=2)/\BornOk k es nn /\
  (∀(i:Nat) (row:List PV) (c:PV) (e:MapEntry),rows[i]? = some row->row[0]? = some c->es[i]? = some e->KRep E k c e.key) /\
  (∀(i:Nat) (row:List PV) (c:PV) (e:MapEntry),rows[i]? = some row->row[1]? = some c->es[i]? = some e->KRep E k c e.val)
def rY (E:Env)(b:Nat)(rows:List (List PV)):Prop :=
 ∃(m:Nat) (es:Array MapEntry) (seen:Array Nat) (nn:Nat),E.w.heap[b]? = some (.mapIter (some m) nn seen nn)/\E.ok m/\E.w.heap[m]? = some (.map es nn)/\BornOk 1 es nn /\
  ∃(last:PV) (rem:List PV),rows=[last::rem]/\(last = .nil\/∃j e ck cv,last = .agg [ck,cv]/\seen.back? = some j/\(e∈es.toList/\e.born=j)/\DRep E.w E.ok ck e.key/\DRep E.w E.ok cv e.val)/\rem.length=(es.filter fun e=>!seen.contains e.born).size /\
   ∀(i:Nat) (c:PV) (e:MapEntry),rem[i]? = some c->(es.filter fun e=>!seen.contains e.born)[i]? = some e->∃ck cv,c = .agg [ck,cv]/\DRep E.w E.ok ck e.key/\DRep E.w E.ok cv e.val
def b9 (N:Nat):Option Nat->Bool
 |some d=>Nat.blt d N
 |none=>true
def cS:Op->Bool
 |.defer _=>false
 |_=>true
def fL (r:Bool)(N:Nat):Code->Bool
 |.region _ ops _=>ops.toList.all fun o=>b9 N o.dst&&cS o.op
 |.seq x y=>fL r N x&&fL r N y
 |.cond _ x y=>fL r N x&&fL r N y
 |.block _ c=>fL r N c
 |.loop c=>fL r N c
 |.rangeFunc _ ps assign body=>r&&ps.toList.all (fun p=>Nat.blt p N)&&fL false N assign&&fL false N body
 |_=>true
abbrev kI (N:Nat)(c:Code):Bool:=fL false N c
def oz (E:Env)(b:Nat)(rows:List (List PV)):Prop :=
 ∃(rec:Loop) (regs:Nat->PV),E.w.heap[b]? = some (.loop rec)/\rows=[[.lbl rec.params rec.assign rec.body rec.state rec.pending regs]]/\kI rec.tmps.size rec.assign=true/\kI rec.tmps.size rec.body=true /\
  (rec.params.toList.all fun p=>Nat.blt p rec.tmps.size)=true/\∀t,Rep E (regs t) (rec.tmps.getD t undef)
def Jg (E:Env)(b:Nat)(rows:List (List PV)):Prop :=
 ∃(T kb gb n:Nat) (p v:Value),rows=[[.int .i64 T,.als kb gb 0 n]]/\E.w.heap[b]? = some (.cells #[p,v] T (0,0))/\(p = .pointer none\/p = .pointer (some ⟨b,0,none⟩))/\Rep E (.als kb gb 0 n) v
def H9 (E:Env)(k b:Nat)(rows:List (List PV)):Prop:=match k with
 |3=>rY E b rows
 |5=>Jg E b rows
 |_=>oz E b rows
structure SiteOk (E:Env) (blk:Option Nat) (c:Cont):Prop where
 emp:blk=none->c.rows=[]
 mp:∀b,blk=some b->c.sz=0->c.kind<3->Jm E c.kind b c.rows
 it:∀b,blk=some b->c.sz=0->3<=c.kind->H9 E c.kind b c.rows
 at_:∀b,blk=some b->0<c.sz->∃cur,E.w.heap[b]? = some (.cells cur c.ty (0,0))/\0<c.sz/\c.rows.length*c.sz<=cur.size/\(∀row∈c.rows,row.length=c.sz) /\
  ∀(i j:Nat) (row:List PV) (pv:PV),c.rows[i]? = some row->row[j]? = some pv->∃v,cur[i*c.sz+j]? = some v/\v.oneCell'=true/\KRep E c.kind pv v
structure Sim (C:Ctx) (γ:Nat->Option Nat) (s:St) (a:Act) (w:World):Prop where
 defers:a.defers=C.dfs.map wY
 size:a.tmps.size=C.N
 regs:∀r,Rep (ao C γ s w) (s.reg r) (a.tmps.getD r undef)
 sites:∀k c,(s.own k).2=some c->SiteOk (ao C γ s w) (γ k) c
 inj:∀k k' c c' b,(s.own k).2=some c->(s.own k').2=some c'->γ k=some b->γ k'=some b->k=k'
 base:∀k c b,(s.own k).2=some c->γ k=some b->C.B<=b/\b<w.heap.size
 below:Below C.B C.w0 w
 top:C.B<=w.heap.size
 kept:∀c v,C.keep c v->Rep (ao C γ s w) c v
theorem ax {C:Ctx}{γ:Nat->Option Nat}{s:St}{w:World}:∀b,(ao C γ s w).okf b->(ao C γ s w).ok b:=fun _ h=>h.2
theorem Sim.ev {C:Ctx}{γ:Nat->Option Nat}{s:St}{a:Act}{w:World}(h:Sim C γ s a w)(x:Operand):Rep (ao C γ s w) (s.ev x) (a.eval x):=by
 cases x with
 |tmp t=>exact h.regs t
 |const v=>exact .d (DRep.cst _ _ v)
 |global g=>exact .d (.raw _)
 |func f=>exact .d (.clo f [] [] rfl (fun i c v h=>by simp at h))
theorem Sim.put {C:Ctx}{γ:Nat->Option Nat}{s:St}{a:Act}{w:World}(h:Sim C γ s a w){d:Option Nat}(hd:b9 C.N d=true){c:PV}{v:Value}
  (hr:Rep (ao C γ s w) c v):Sim C γ (s.put d c) (a.put d v) w:=by
 cases d with
 |none=>exact h
 |some d =>
  have hlt:d<C.N:=by simpa [b9] using hd
  refine⟨h.defers,by simp[Act.put,h.size],fun r=>?_,h.sites,h.inj,h.base,h.below,h.top,h.kept⟩;show Rep (ao C γ s w) (bif Nat.beq r d then c else s.reg r) ((a.tmps.setIfInBounds d v).getD r undef);by_cases hrd:r=d
  .subst hrd;have:(a.tmps.setIfInBounds r v).getD r undef=v:=by simp[h.size,hlt]
   rw[this];simpa using hr
  .have h1:Nat.beq r d=false:=bm hrd;have h2:(a.tmps.setIfInBounds d v).getD r undef=a.tmps.getD r undef:=by
    simp[Array.getElem?_setIfInBounds_ne (Ne.symm hrd)]
   rw[h1,h2];exact h.regs r
inductive Sh where
 |sl (e:TypeId)
 |st (fs:List (Nat × TypeId))
 |arr (n:Nat) (e:TypeId)
 |int (k:IntKind)
 |str
 |bool
 |ptr (e:TypeId)
 |map (k e:TypeId)
 |other
structure LRow where
 size:Nat
 bytes:Nat
 sh:Sh
 zero:Option (List PV)
abbrev Lay:=Nat->Option LRow
def Sh.agg:Sh->Bool
 |.st _ | .arr _ _=>true
 |_=>false
def Sh.fits:Sh->TypeDesc->Bool
 |.sl e,.slice e'=>Nat.beq e e'
 |.st fs,.struct fs'=>fs==fs'.toList.map fun f=>(f.offset,f.type)
 |.arr n e,.array n' e'=>Nat.beq n n'&&Nat.beq e e'
 |.int k,.int k'=>decide (k=k')
 |.str,.string=>true
 |.bool,.bool=>true
 |.ptr e,.pointer e'=>Nat.beq e e'
 |.map k e,.map k' e'=>Nat.beq k k'&&Nat.beq e e'
 |.other,.struct _ | .other,.array _ _=>false
 |.other,_=>true
 |_,_=>false
def Ku:PV->Value->Bool
 |.bool b,.bool b'=>b==b'
 |.int k n,.int k' n'=>decide (k=k')&&decide (n=n')
 |.str s,.string t=>s==t.data.toList
 |.nil,.slice none 0 0=>true
 |.raw .nilFunc,.nilFunc=>true
 |.raw .nilIface,.nilIface=>true
 |.raw (.pointer none),.pointer none=>true
 |.raw (.map none),.map none=>true
 |_,_=>false
theorem iC {c:PV}{v:Value}(h:Ku c v=true)(w:World)(ok:Nat->Prop):DRep w ok c v/\v.oneCell'=true:=by
 unfold Ku at h;split at h
 .simp at h;subst h;exact⟨.bool _,O⟩
 .simp at h;obtain⟨rfl,rfl⟩:=h;exact⟨.int _ _,O⟩
 .rename_i s t;have h1:s=t.data.toList:=by simpa using h
  subst h1;exact⟨.str t.data.toList,O⟩
 .exact⟨.nil,O⟩
 .exact⟨.raw _,O⟩
 .exact⟨.raw _,O⟩
 .exact⟨.raw _,O⟩
 .exact⟨.raw _,O⟩
 .cases h
def BH:List PV->List Value->Bool
 |[],[]=>true
 |c::cs,v::vs=>Ku c v&&BH cs vs
 |_,_=>false
theorem rW:∀ {cs:List PV} {vs:List Value},BH cs vs=true->cs.length=vs.length/\∀(i:Nat) (c:PV) (v:Value),cs[i]? = some c->vs[i]? = some v->Ku c v=true
 |[],[],_=>⟨rfl,fun i c v h=>by simp at h⟩
 |c::cs,v::vs,h=>by
  simp only[BH,Bool.and_eq_true]at h;obtain⟨h1,h2⟩:=rW h.2;refine⟨by simp[h1],fun i c' v' e1 e2=>?_⟩;cases i with
  |zero=>simp at e1 e2;subst e1;subst e2;exact h.1
  |succ i=>exact h2 i c' v' (by simpa using e1) (by simpa using e2)
 |[],_::_,h=>by simp[BH]at h
 |_::_,[],h=>by simp[BH]at h
def LRow.fits (P:Program)(T:TypeId)(r:LRow):Bool :=
 match P.info? T,P.underlying T with
 |some i,some d=>Nat.beq i.size r.size&&Nat.beq i.bytes r.bytes&&r.sh.fits d &&
   (match r.zero with
    |none=>true
    |some cs=>match i.zero with|some z=>BH cs z.cells.toList&&Nat.beq z.cells.size r.size|none=>false)
 |_,_=>false
def ig (P:Program)(L:Lay):Prop:=∀T r,L T=some r->r.fits P T=true
inductive Tr where
 |lf (T:Nat) (r:LRow)
 |no
 |nd (k:Nat) (l r:Tr)
def Tr.get:Tr->Nat->Option LRow
 |.lf T r,n=>bif Nat.beq n T then some r else none
 |.no,_=>none
 |.nd k l r,n=>bif Nat.blt n k then l.get n else r.get n
def Tr.fits (P:Program):Tr->Bool
 |.lf T r=>r.fits P T
 |.no=>true
 |.nd _ l r=>l.fits P&&r.fits P
theorem Tr.ok {P:Program}:∀ {t:Tr},t.fits P=true->ig P t.get
 |.lf T r,h=>fun n r' e=>by
  simp only[Tr.get]at e;by_cases hn:n=T
  .subst hn;simp at e;subst e;exact h
  .have:Nat.beq n T=false:=bm hn;simp[this]at e
 |.no,_=>fun n r' e=>by simp[Tr.get]at e
 |.nd k l r,h=>fun n r' e=>by
  simp only[Tr.fits,Bool.and_eq_true]at h;simp only[Tr.get]at e;cases hb:Nat.blt n k with
  |true=>rw[hb]at e;exact Tr.ok h.1 n r' e
  |false=>rw[hb]at e;exact Tr.ok h.2 n r' e
section rows
variable {P:Program}{T:TypeId}{r:LRow}
theorem LRow.spec (h:r.fits P T=true):∃i d,P.info? T=some i/\P.underlying T=some d/\i.size=r.size/\i.bytes=r.bytes/\r.sh.fits d=true /\
  ∀cs,r.zero=some cs->∃z,i.zero=some z/\z.cells.size=r.size/\cs.length=z.cells.size/\∀(i:Nat) (c:PV) (v:Value),cs[i]? = some c->z.cells[i]? = some v->Ku c v=true:=by
 unfold LRow.fits at h;split at h
 .rename_i i d hi hd;simp only[Bool.and_eq_true,Nat.beq_eq]at h;refine⟨i,d,hi,hd,h.1.1.1,h.1.1.2,h.1.2,fun cs hcs=>?_⟩;have h2:=h.2;rw[hcs]at h2;simp only at h2;split at h2
  .rename_i z hz;simp only[Bool.and_eq_true,Nat.beq_eq]at h2;obtain⟨e1,e2⟩:=rW h2.1;exact⟨z,hz,h2.2,by simpa using e1,fun i c v h3 h4=>e2 i c v h3 (by simpa using h4)⟩
  .cases h2
 .cases h
theorem dC (h:r.fits P T=true)(w:World):(sizeOf T).run P w = .ok r.size w:=by
 obtain⟨i,d,hi,_,hs,_⟩:=LRow.spec h;simp[sizeOf,typeInfo,hi,hs]
theorem Sh.fits_agg {sh:Sh}{d:TypeDesc}(h:sh.fits d=true):(match d with | .struct _ | .array _ _=>true | _=>false)=sh.agg:=by
 cases sh<;>cases d<;>simp[Sh.fits,Sh.agg]at h ⊢
theorem j0 (h:r.fits P T=true)(w:World):(isAgg T).run P w = .ok r.sh.agg w:=by
 obtain⟨i,d,_,hd,_,_,hf,_⟩:=LRow.spec h;have:=Sh.fits_agg hf;rw[<-this];cases d<;>simp[isAgg,run_underlying hd]
theorem gE {e:TypeId}(h:r.fits P T=true)(hs:r.sh = .sl e):P.underlying T=some (.slice e):=by
 obtain⟨i,d,_,hd,_,_,hf,_⟩:=LRow.spec h;rw[hs]at hf;cases d<;>simp[Sh.fits]at hf;subst hf;exact hd
theorem j7 (h:r.fits P T=true)(hs:r.sh = .str):P.underlying T=some .string:=by
 obtain⟨i,d,_,hd,_,_,hf,_⟩:=LRow.spec h;rw[hs]at hf;cases d<;>simp[Sh.fits]at hf;exact hd
theorem qb (h:r.fits P T=true)(hs:r.sh = .bool):P.underlying T=some .bool:=by
 obtain⟨i,d,_,hd,_,_,hf,_⟩:=LRow.spec h;rw[hs]at hf;cases d<;>simp[Sh.fits]at hf;exact hd
theorem GU {e:TypeId}(h:r.fits P T=true)(hs:r.sh = .ptr e):P.underlying T=some (.pointer e):=by
 obtain⟨i,d,_,hd,_,_,hf,_⟩:=LRow.spec h;rw[hs]at hf;cases d<;>simp[Sh.fits]at hf;subst hf;exact hd
theorem tA (h:r.fits P T=true):(P.underlying T).isSome=true:=by
 obtain⟨i,d,_,hd,_⟩:=LRow.spec h;simp[hd]
theorem mu {k:IntKind}(h:r.fits P T=true)(hs:r.sh = .int k):P.underlying T=some (.int k):=by
 obtain⟨i,d,_,hd,_,_,hf,_⟩:=LRow.spec h;rw[hs]at hf;cases d<;>simp[Sh.fits]at hf;subst hf;exact hd
theorem qc {fs:List (Nat × TypeId)}(h:r.fits P T=true)(hs:r.sh = .st fs):∃fs':Array Field,P.underlying T=some (.struct fs')/\fs'.toList.map (fun f=>(f.offset,f.type))=fs:=by
 obtain⟨i,d,_,hd,_,_,hf,_⟩:=LRow.spec h;rw[hs]at hf;cases d<;>simp[Sh.fits]at hf;exact⟨_,hd,hf.symm⟩
end rows
def part (r:LRow)(cs:List PV)(j:Nat):Option PV :=
 bif r.sh.agg then
  bif Nat.beq j 0&&Nat.beq cs.length r.size then some (.agg cs)
  else bif Nat.ble (j+r.size) cs.length then some (.agg ((cs.drop j).take r.size)) else none
 else cs[j]?
theorem Addr.add_mk (b o n:Nat):(⟨b,o,none⟩:Addr).add n=⟨b,o+n,none⟩:=by
 unfold Addr.add;split
 .subst_vars;rfl
 .rfl
theorem vD {P:Program}{T:TypeId}{r:LRow}(h:r.fits P T=true){b o j:Nat}{cs:List PV}{pv:PV}(vals:Nat->Value)(hp:part r cs j=some pv) :
  ∃v,(∀w:World,(∀(i:Nat) (c:PV),cs[i]? = some c->w.cell? ⟨b,o+i,none⟩=some (vals i))->(loadVar T ⟨b,o+j,none⟩).run P w = .ok v w) /\
   ((∃c,pv=c/\v=vals j/\cs[j]? = some c) \/
    (∃ds:List PV,∃vs:List Value,pv = .agg ds/\v = .agg vs.toArray/\ds.length=vs.length/\∀(i:Nat) (c:PV) (u:Value),ds[i]? = some c->vs[i]? = some u->cs[j+i]? = some c/\u=vals (j+i))):=by
 unfold part at hp;cases hagg:r.sh.agg with
 |false =>
  simp only[hagg,cond_false]at hp;refine⟨vals j,fun w hc=>?_,.inl ⟨pv,O,O,hp⟩⟩;simp[loadVar,j0 h,hagg,hc j pv hp]
 |true =>
  have key:∀n,j+n<=cs.length->n=r.size->∀w:World,(∀(i:Nat) (c:PV),cs[i]? = some c->w.cell? ⟨b,o+i,none⟩=some (vals i))->(loadVar T ⟨b,o+j,none⟩).run P w = .ok (.agg ((List.range n).map fun i=>vals (j+i)).toArray) w:=by
   intro n hn hnr w hc;have hl:=run_loadCells (P:=P) w ⟨b,o+j,none⟩ n (fun i=>vals (j+i)) (fun i hi=>by
    rw[Addr.add_mk,Nat.add_assoc];have hlt:j+i<cs.length:=J
    exact hc (j+i) cs[j+i] (List.getElem?_eq_getElem hlt))
   simp[loadVar,j0 h,hagg,dC h,<-hnr,hl]
  simp only[hagg,cond_true]at hp;cases hb:(Nat.beq j 0&&Nat.beq cs.length r.size) with
  |true =>
   simp only[hb,cond_true]at hp;simp only[Bool.and_eq_true,Nat.beq_eq]at hb;obtain⟨rfl,hlen⟩:=hb;have hpv:pv = .agg cs:=by simpa using hp.symm
   subst hpv;refine⟨_,key cs.length J hlen,.inr ⟨cs,_,O,O,ah,fun i c u h1 h2=>?_⟩⟩;rw[List.getElem?_map]at h2;have hlt:i<cs.length:=(bb h1).1;rw[List.getElem?_range hlt]at h2;simp at h2;exact⟨by simpa using h1,by rw[<-h2];simp⟩
  |false =>
   simp only[hb,cond_false]at hp;cases hle:Nat.ble (j+r.size) cs.length with
   |false=>simp[hle]at hp
   |true =>
    simp only[hle,cond_true]at hp;have hpv:pv = .agg ((cs.drop j).take r.size):=by simpa using hp.symm
    subst hpv;have hle':j+r.size<=cs.length:=by simpa using hle
    refine⟨_,key r.size hle' O,.inr ⟨_,_,O,O,by simp;omega,fun i c u h1 h2=>?_⟩⟩;rw[List.getElem?_map]at h2;rw[List.getElem?_take]at h1;split at h1
    .rename_i hlt;rw[List.getElem?_range hlt]at h2;simp at h2;rw[List.getElem?_drop]at h1;exact⟨h1,h2.symm⟩
    .cases h1
section inv
variable {E:Env}{v:Value}
theorem Rep.bool_inv {b:Bool}(h:Rep E (.bool b) v):v = .bool b:=by cases h with|d h=>cases h;rfl
theorem Rep.int_inv {k:IntKind}{n:Int}(h:Rep E (.int k n) v):v = .int k n:=by cases h with|d h=>cases h;rfl
theorem Rep.str_inv {s:List UInt8}(h:Rep E (.str s) v):v = .string ⟨s.toArray⟩:=by cases h with|d h=>cases h;rfl
theorem Rep.raw_inv {u:Value}(h:Rep E (.raw u) v):v=u:=by cases h with|d h=>cases h;rfl
theorem Rep.nil_inv (h:Rep E .nil v):v = .slice none 0 0:=by cases h with|d h=>cases h;rfl
theorem Rep.dref_inv {cs:List PV}{j:Nat}(h:Rep E (.dref cs j) v):∃(b off:Nat) (vals:Nat->Value),v = .pointer (some ⟨b,off+j,none⟩) /\
  (∀(i:Nat) (c:PV),cs[i]? = some c->E.w.cell? ⟨b,off+i,none⟩=some (vals i)/\(vals i).oneCell'=true)/\(∀(i:Nat) (c:PV),cs[i]? = some c->DRep E.w E.ok c (vals i))/\E.ok b:=by
 cases h with|d h=>cases h with|dref cs j b off vals hb hc hd=>exact⟨b,off,vals,O,hc,hd,hb⟩
theorem Rep.agg_inv {cs:List PV}(h:Rep E (.agg cs) v):∃vs:List Value,v = .agg vs.toArray/\cs.length=vs.length/\∀(i:Nat) (c:PV) (u:Value),cs[i]? = some c->vs[i]? = some u->Rep E c u:=by
 cases h with
 |d h=>cases h with|agg cs vs hl hd=>exact⟨vs,rfl,hl,fun i c u h1 h2 => .d (hd i c u h1 h2)⟩
 |agg cs vs hl hd=>exact⟨vs,rfl,hl,hd⟩
theorem Rep.tup_inv {cs:List PV}(h:Rep E (.tup cs) v):∃vs:List Value,v = .tuple vs.toArray/\cs.length=vs.length/\∀(i:Nat) (c:PV) (u:Value),cs[i]? = some c->vs[i]? = some u->Rep E c u:=by
 cases h with
 |d h=>cases h with|tup cs vs hl hd=>exact⟨vs,rfl,hl,fun i c u h1 h2 => .d (hd i c u h1 h2)⟩
 |tup cs vs hl hd=>exact⟨vs,rfl,hl,hd⟩
theorem Rep.clo_inv {f:FuncId}{cs:List PV}(h:Rep E (.clo f cs) v):∃vs:List Value,v = .func (.func f) #[] vs.toArray/\cs.length=vs.length/\∀(i:Nat) (c:PV) (u:Value),cs[i]? = some c->vs[i]? = some u->Rep E c u:=by
 cases h with
 |d h=>cases h with|clo f cs vs hl hd=>exact⟨vs,rfl,hl,fun i c u h1 h2 => .d (hd i c u h1 h2)⟩
 |clo f cs vs hl hd=>exact⟨vs,rfl,hl,hd⟩
end inv
section sites
variable {C:Ctx}{γ:Nat->Option Nat}{s:St}{a:Act}{w:World}
theorem Sim.ptr_at (_h:Sim C γ s a w){k g i j:Nat}{c:Cont}{v:Value}(hr:Rep (ao C γ s w) (.ptr k g i j) v)(ho:s.own k=(g,some c)) :
  ∃b,γ k=some b/\v = .pointer (some ⟨b,i*c.sz+j,none⟩)/\i<c.rows.length/\j<c.sz:=by
 cases hr with
 |d h=>cases h
 |ptr hg hl =>
  have:=hl (by simp[ao,ho]) ⟨γ k,c.ty,c.sz,c.rows.length⟩ (by simp[ao,ho]);exact this
theorem Sim.als_at (_h:Sim C γ s a w){k g i n:Nat}{c:Cont}{v:Value}(hr:Rep (ao C γ s w) (.als k g i n) v)(ho:s.own k=(g,some c)) :
  BT w ⟨γ k,c.ty,c.sz,c.rows.length⟩ i n v:=by
 cases hr with
 |d h=>cases h
 |als hg hl=>exact hl (by simp[ao,ho]) ⟨γ k,c.ty,c.sz,c.rows.length⟩ (by simp[ao,ho])
theorem Sim.cells_sz (h:Sim C γ s a w){k g b:Nat}{c:Cont}{cur:Array Value}{T:TypeId}{f:Nat × Nat}(ho:s.own k=(g,some c))(hb:γ k=some b)(hh:w.heap[b]? = some (.cells cur T f)){m:Nat}(hm:cur.size=m*c.sz):0<c.sz:=by
 rcases Nat.eq_zero_or_pos c.sz with h0|h0
 .have hs:=h.sites k c (by simp[ho]);rcases Nat.lt_or_ge c.kind 3 with hk|hk
  .obtain⟨es,nn,h1,_⟩:=hs.mp b hb h0 hk;have h1:w.heap[b]? = _:=h1;rw[hh]at h1;simp at h1
  .have h2:=hs.it b hb h0 hk;unfold H9 at h2;split at h2
   .obtain⟨m,es,seen,nn,h1,_⟩:=h2;have h1:w.heap[b]? = _:=h1;rw[hh]at h1;simp at h1
   .obtain⟨T',kb,gb,n,p,v,_,h1,_⟩:=h2;have h1:w.heap[b]? = _:=h1;rw[hh]at h1;simp only[Option.some.injEq,Obj.cells.injEq]at h1;rw[h1.1,h0]at hm;simp at hm
   .obtain⟨rec,regs,h1,_⟩:=h2;have h1:w.heap[b]? = _:=h1;rw[hh]at h1;simp at h1
 .exact h0
theorem Sim.mp_at (_h:Sim C γ s a w){k g:Nat}{c:Cont}{v:Value}(hr:Rep (ao C γ s w) (.mp k g) v)(ho:s.own k=(g,some c)):c.sz=0/\∃b,γ k=some b/\v = .map (some b):=by
 cases hr with
 |d h=>cases h
 |mp hg hl=>exact hl (by simp[ao,ho]) ⟨γ k,c.ty,c.sz,c.rows.length⟩ (by simp[ao,ho])
theorem Sim.mi_at (_h:Sim C γ s a w){k g:Nat}{c:Cont}{v:Value}(hr:Rep (ao C γ s w) (.mi k g) v)(ho:s.own k=(g,some c)):c.sz=0/\∃b,γ k=some b/\v = .pointer (some ⟨b,0,none⟩):=by
 cases hr with
 |d h=>cases h
 |mi hg hl=>exact hl (by simp[ao,ho]) ⟨γ k,c.ty,c.sz,c.rows.length⟩ (by simp[ao,ho])
theorem Sim.site_at (h:Sim C γ s a w){k g b:Nat}{c:Cont}(ho:s.own k=(g,some c))(hb:γ k=some b)(hz:0<c.sz) :
  ∃cur,w.heap[b]? = some (.cells cur c.ty (0,0))/\0<c.sz/\c.rows.length*c.sz<=cur.size/\(∀row∈c.rows,row.length=c.sz) /\
   ∀(i j:Nat) (row:List PV) (pv:PV),c.rows[i]? = some row->row[j]? = some pv->∃v,cur[i*c.sz+j]? = some v/\v.oneCell'=true/\KRep (ao C γ s w) c.kind pv v :=
 (h.sites k c (by simp[ho])).at_ b hb hz
end sites
theorem bg {w:World}{b:Nat}{cur:Array Value}{T:TypeId}{f:Nat × Nat}(h:w.heap[b]? = some (.cells cur T f))(o:Nat):w.cell? ⟨b,o,none⟩=cur[o]? := by
 simp[World.cell?,h]
def PV.fz:PV->Option PV
 |.bool b=>some (.bool b)
 |.int k n=>some (.int k n)
 |.str s=>some (.str s)
 |.raw v=>some (.raw v)
 |.agg cs=>some (.agg cs)
 |.tup cs=>some (.tup cs)
 |.nil=>some .nil
 |.sl rows=>some (.sl rows)
 |.dref cs j=>some (.dref cs j)
 |.clo f cs=>some (.clo f cs)
 |.fsl rows=>some (.fsl rows)
 |.als s g i n=>some (.als s g i n)
 |.ptr s g i j=>some (.ptr s g i j)
 |.mapd rows=>some (.mapd rows)
 |.mp s g=>some (.mp s g)
 |.mi s g=>some (.mi s g)
 |.yl s g=>some (.yl s g)
 |.lbl p a b s q r=>some (.lbl p a b s q r)
 |.dfd=>some .dfd
theorem PV.fz_eq (v:PV):v.fz=some v:=by cases v<;>rfl
def IA (r:Option LRow)(op:BinOp):PV->PV->Option (PV × Prop)
 |.int k a,.int k' b =>
  bif decide (k=k') then
   match op with
   |.add=>some (.int k (k.wrap (a+b)),True)
   |.sub=>some (.int k (k.wrap (a-b)),True)
   |.mul=>some (.int k (k.wrap (a*b)),True)
   |.quo=>some (.int k (k.wrap (a.tdiv b)),b≠0)
   |.rem=>some (.int k (a.tmod b),b≠0)
   |.and=>some (.int k (bits .and k a b),True)
   |.or=>some (.int k (bits .or k a b),True)
   |.xor=>some (.int k (bits .xor k a b),True)
   |.eql=>some (.bool (decide (a=b)),True)
   |.neq=>some (.bool (!decide (a=b)),True)
   |.lss=>some (.bool (decide (a<b)),True)
   |.leq=>some (.bool (decide (a<=b)),True)
   |.gtr=>some (.bool (decide (b<a)),True)
   |.geq=>some (.bool (decide (b<=a)),True)
   |.shl=>some (.int k (k.wrap (a*2^b.toNat)),0<=b/\b<=k.bits)
   |.shr=>some (.int k (a/2^b.toNat),0<=b/\b<=k.bits)
   |_=>none
  else match op with
   |.shl=>some (.int k (k.wrap (a*2^b.toNat)),0<=b/\b<=k.bits)
   |.shr=>some (.int k (a/2^b.toNat),0<=b/\b<=k.bits)
   |_=>none
 |.bool a,.bool b =>
  match r with
  |some r=>(match r.sh,op with
   |.bool,.eql=>some (.bool (a==b),True)
   |.bool,.neq=>some (.bool (a != b),True)
   |_,_=>none)
  |none=>none
 |.str a,.str b =>
  match op with
  |.eql=>some (.bool (decide (a=b)),True)
  |.neq=>some (.bool (!decide (a=b)),True)
  |.add=>some (.str (a++b),(a.length:Int)+b.length<=9223372036854775807)
  |.lss=>some (.bool (Op.bytesLess a b),True)
  |_=>none
 |_,_=>none
def Iw (u:Value)(b:Bool):Option (PV × Prop):=match u with
 |.pointer none=>some (.bool b,True)
 |_=>none
def qy (s:St)(r:Option LRow)(op:BinOp)(x:PV):Option (PV × Prop):=match r with
 |some r=>match r.sh with
  |.ptr _=>match op with
   |.eql=>(match x with
    |.dref _ _=>some (.bool false,True)
    |.ptr k g _ _=>(match (s.own k).2 with|some _=>some (.bool false,(s.own k).1=g)|none=>none)
    |.raw u=>Iw u true
    |_=>none)
   |.neq=>(match x with
    |.dref _ _=>some (.bool true,True)
    |.ptr k g _ _=>(match (s.own k).2 with|some _=>some (.bool true,(s.own k).1=g)|none=>none)
    |.raw u=>Iw u false
    |_=>none)
   |_=>none
  |_=>none
 |none=>none
def uO:Operand->Bool
 |.const (.pointer none)=>true
 |_=>false
def u7 (s:St):PV->Option (PV × Prop)
 |.sl rows=>some (.int .i64 rows.length,True)
 |.fsl rows=>some (.int .i64 rows.length,True)
 |.nil=>some (.int .i64 0,True)
 |.als k g _ n=>match (s.own k).2 with|some _=>some (.int .i64 n,(s.own k).1=g)|none=>none
 |_=>none
def mN (s:St):PV->Option Prop
 |.als k g _ _=>match (s.own k).2 with|some _=>some ((s.own k).1=g)|none=>none
 |.ptr k g _ _=>match (s.own k).2 with|some _=>some ((s.own k).1=g)|none=>none
 |.mp k g=>match (s.own k).2 with|some _=>some ((s.own k).1=g)|none=>none
 |.raw v=>some (v.oneCell'=true)
 |.agg _ | .tup _ | .mi _ _ | .yl _ _ | .lbl _ _ _ _ _ _ | .dfd=>none
 |_=>some True
def iZ (L:Lay)(s:St)(fs:List (Nat × TypeId)):List (Nat × PV)->List PV->Prop->Option (List PV × Prop)
 |[],cs,C=>some (cs,C)
 |(i,x)::rest,cs,C =>
  match fs[i]? with
  |some (off,ft) =>
   match L ft with
   |some r=>(match x with
    |.agg ds=>bif Nat.beq ds.length r.size&&Nat.ble (off+ds.length) cs.length then iZ L s fs rest (cs.take off++ds++cs.drop (off+ds.length)) C else none
    |x=>(match mN s x with
     |some Pr=>bif Nat.beq 1 r.size&&Nat.ble (off+1) cs.length then iZ L s fs rest (cs.take off++[x]++cs.drop (off+1)) (Pr/\C) else none
     |none=>none))
   |none=>none
  |none=>none
def qv (L:Lay)(s:St):Op->Option (PV × Prop)
 |.move x | .assign x=>match (s.ev x).fz with|some v=>some (v,True)|none=>none
 |.pick c a b=>match s.ev c with
  |.bool true=>(match (s.ev a).fz with|some v=>some (v,True)|none=>none)
  |.bool false=>(match (s.ev b).fz with|some v=>some (v,True)|none=>none)
  |_=>none
 |.nilCheck x=>match s.ev x with
  |.dref cs j=>some (.dref cs j,True)
  |.ptr k g i j=>match (s.own k).2 with|some _=>some (.ptr k g i j,(s.own k).1=g)|none=>none
  |.clo f cs=>some (.clo f cs,True)
  |_=>none
 |.binOp op T x y _=>bif uO y then qy s (L T) op (s.ev x) else IA (L T) op (s.ev x) (s.ev y)
 |.unOp op _ x=>match op,s.ev x with
  |.not,.bool b=>some (.bool (!b),True)
  |.neg,.int k n=>some (.int k (k.wrap (0-n)),True)
  |_,_=>none
 |.convert src dst x=>match L src,L dst,s.ev x with
  |some _,some rd,.int _ n=>(match rd.sh with | .int k=>some (.int k (k.wrap n),True) | _=>none)
  |some _,some rd,.str b=>(match rd.sh with | .str=>some (.str b,True) | _=>none)
  |_,_,_=>none
 |.makeFunc (.func f) ⟨[]⟩ caps=>some (.clo f (caps.toList.map s.ev),True)
 |.fieldAddr T x f=>match L T with
  |some r=>(match r.sh with
   |.st fs=>(match fs[f]? with
    |some (off,ft)=>(match L ft with
     |some rf=>bif Nat.blt 0 rf.size then
       (match s.ev x with
        |.dref cs j=>some (.dref cs (j+off),True)
        |.ptr k g i j=>(match (s.own k).2 with|some c=>bif Nat.blt (j+off) c.sz then some (.ptr k g i (j+off),(s.own k).1=g) else none|none=>none)
        |_=>none) else none
     |none=>none)
    |none=>none)
   |_=>none)
  |none=>none
 |.field T x f=>match L T with
  |some r=>(match r.sh with
   |.st fs=>(match fs[f]? with
    |some (off,ft)=>(match L ft with
     |some rf=>(match s.ev x with
      |.agg cs=>(match part rf cs off with|some v=>some (v,True)|none=>none)
      |_=>none)
     |none=>none)
    |none=>none)
   |_=>none)
  |none=>none
 |.load T x=>match L T with
  |some r=>(match s.ev x with
   |.dref cs j=>(match part r cs j with|some v=>some (v,True)|none=>none)
   |.ptr k g i j=>(match (s.own k).2 with
    |some c=>(match c.rows[i]? with
     |some row=>(match part r row j with|some v=>some (v,(s.own k).1=g)|none=>none)
     |none=>none)
    |none=>none)
   |_=>none)
  |none=>none
 |.extract x i=>match s.ev x with
  |.tup vs=>(match vs[i]? with|some v=>some (v,True)|none=>none)
  |_=>none
 |.index T x ix=>match L T,s.ev x,s.ev ix with
  |some r,.str b,.int _ n=>(match r.sh with | .str=>some (.int .u8 (b.getD n.toNat 0).toNat,0<=n/\n<b.length) | _=>none)
  |_,_,_=>none
 |.build T parts=>match L T with
  |some r=>(match r.sh,r.zero with
   |.st fs,some z=>bif fs.all (fun p=>(L p.2).isSome) then(match iZ L s fs (parts.toList.map fun p=>(p.1,s.ev p.2)) z True with|some (cs,C)=>some (.agg cs,C)|none=>none) else none
   |_,_=>none)
  |none=>none
 |.call ⟨.builtin .len,⟨[x]⟩,⟨[T]⟩⟩=>match L T with
  |some r=>(match r.sh,s.ev x with
   |.str,.str b=>some (.int .i64 b.length,True)
   |.sl _,v=>u7 s v
   |_,_=>none)
  |none=>none
 |.call ⟨.builtin .min,⟨[x,y]⟩,_⟩=>match s.ev x,s.ev y with
  |.int k a,.int _ b=>some (.int k (if b<a then b else a),True)
  |_,_=>none
 |.call ⟨.builtin .max,⟨[x,y]⟩,_⟩=>match s.ev x,s.ev y with
  |.int k a,.int _ b=>some (.int k (if a<b then b else a),True)
  |_,_=>none
 |_=>none
section
variable {P:Program}{L:Lay}{C:Ctx}{γ:Nat->Option Nat}{s:St}{a:Act}{w:World}
theorem lF (x:List UInt8):(⟨x.toArray⟩:ByteArray).toList=x:=by
 rw[ByteArray.toList_eq]
theorem kD (x:List UInt8):(⟨x.toArray⟩:ByteArray).size=x.length:=by simp[ByteArray.size]
theorem r_ (x y:List UInt8):(⟨x.toArray⟩:ByteArray)++(⟨y.toArray⟩:ByteArray)=⟨(x++y).toArray⟩:=by
 apply ByteArray.ext;simp[ByteArray.data_append]
theorem Ep {E:Env}{op:BinOp}{T:TypeId}{x y:Operand}{px py pv:PV}{Cd:Prop}{vx vy:Value}(hL:ig P L)(hx:Rep E px vx)(hy:Rep E py vy)
  (hq:IA (L T) op px py=some (pv,Cd)) (hc:Cd):∃v,(do eqGuard op T x y vx vy;binOp op T vx vy:Sem Value).run P w = .ok v w/\Rep E pv v:=by
 unfold IA at hq;split at hq
 .rename_i k n k' m;have e1:=hx.int_inv;have e2:=hy.int_inv;subst e1;subst e2;by_cases hk:k=k'
  .subst hk;simp only[decide_true,cond_true]at hq;cases op<;>simp only[Option.some.injEq,Prod.mk.injEq,reduceCtorEq]at hq;all_goals (obtain⟨rfl,rfl⟩:=hq)
   all_goals (simp only[Sem.run_bind,eqGuard_at_int,Sem.run_pure,Result.andThen_ok])
   .exact⟨_,by simp[binOp_add,Op.intArith],.d (.int _ _)⟩
   .exact⟨_,by simp[binOp_sub,Op.intArith],.d (.int _ _)⟩
   .exact⟨_,by simp[binOp_mul,Op.intArith],.d (.int _ _)⟩
   .exact⟨_,by simp[binOp_quo,Op.intDiv,hc],.d (.int _ _)⟩
   .exact⟨_,by simp[binOp_rem,Op.intDiv,hc],.d (.int _ _)⟩
   .exact⟨_,by simp[binOp_and,intBits_and],.d (.int _ _)⟩
   .exact⟨_,by simp[binOp_or,intBits_or],.d (.int _ _)⟩
   .exact⟨_,by simp[binOp_xor,intBits_xor],.d (.int _ _)⟩
   .exact⟨_,by rw[binOp_shl,shift_shl _ _ _ _ hc.1 hc.2];rfl,.d (.int _ _)⟩
   .exact⟨_,by rw[binOp_shr,shift_shr _ _ _ _ hc.1 hc.2];rfl,.d (.int _ _)⟩
   .exact⟨_,by simp[binOp_eql,Bool.beq_eq_decide_eq],.d (.bool _)⟩
   .exact⟨_,by simp[binOp_neq,bne,Bool.beq_eq_decide_eq],.d (.bool _)⟩
   .exact⟨_,by simp[binOp_lss],.d (.bool _)⟩
   .exact⟨_,by simp[binOp_leq],.d (.bool _)⟩
   .exact⟨_,by simp[binOp_gtr],.d (.bool _)⟩
   .exact⟨_,by simp[binOp_geq],.d (.bool _)⟩
  .have hd:decide (k=k')=false:=by simpa using hk
   simp only[hd,cond_false]at hq;cases op<;>simp only[Option.some.injEq,Prod.mk.injEq,reduceCtorEq]at hq;all_goals (obtain⟨rfl,rfl⟩:=hq)
   all_goals (simp only[Sem.run_bind,eqGuard_at_int,Sem.run_pure,Result.andThen_ok])
   .exact⟨_,by rw[binOp_shl,shift_shl _ _ _ _ hc.1 hc.2];rfl,.d (.int _ _)⟩
   .exact⟨_,by rw[binOp_shr,shift_shr _ _ _ _ hc.1 hc.2];rfl,.d (.int _ _)⟩
 .rename_i b b';have e1:=hx.bool_inv;have e2:=hy.bool_inv;subst e1;subst e2;split at hq
  .rename_i r hr;have hfit:=hL T r hr;split at hq<;>simp only[Option.some.injEq,Prod.mk.injEq,reduceCtorEq]at hq;all_goals
    rename_i hs;obtain⟨rfl,rfl⟩:=hq;have hu:=qb hfit hs;refine⟨_,?_,.d (.bool _)⟩;simp[eqGuard_at_bool,binOp,run_equal_bool w T _ _ hu,bne]
  .cases hq
 .rename_i b b';have e1:=hx.str_inv;have e2:=hy.str_inv;subst e1;subst e2;cases op<;>simp only[Option.some.injEq,Prod.mk.injEq,reduceCtorEq]at hq;all_goals (obtain⟨rfl,rfl⟩:=hq)
  all_goals (simp only[Sem.run_bind,eqGuard_at_string,Sem.run_pure,Result.andThen_ok])
  .refine⟨_,?_,.d (.str _)⟩;have:¬(9223372036854775807<(b.length:Int)+b'.length):=J;simp[binOp,Op.stringOp,kD,r_,IntKind.max_i64,this]
  .exact⟨_,by simp[binOp,Op.stringOp,Bool.beq_eq_decide_eq],.d (.bool _)⟩
  .exact⟨_,by simp[binOp,Op.stringOp,Bool.beq_eq_decide_eq],.d (.bool _)⟩
  .exact⟨_,by simp[binOp,Op.stringOp],.d (.bool _)⟩
 .cases hq
theorem Er {C:Ctx}{γ:Nat->Option Nat}{s:St}{a:Act}{w:World}{op:BinOp}{T:TypeId}{x y:Operand}{pv:PV}{Cd:Prop}(hL:ig P L)(h:Sim C γ s a w)(hy:uO y=true)
  (hq:qy s (L T) op (s.ev x)=some (pv,Cd)) (hc:Cd):∃v,(do eqGuard op T x y (a.eval x) (a.eval y);binOp op T (a.eval x) (a.eval y):Sem Value).run P w = .ok v w/\Rep (ao C γ s w) pv v:=by
 have hyv:a.eval y = .pointer none:=by
  unfold uO at hy;split at hy
  .rfl
  .cases hy
 have hx:=h.ev x;unfold qy at hq;split at hq
 .rename_i r hr;split at hq
  .rename_i e hs;have hu:=GU (hL T r hr) hs;have hu':P.underlying T=some (.pointer (P.pointee T)):=by simp[Program.pointee,hu]
   have hg:∀(op:BinOp) (p:Option Addr),(eqGuard op T x y (.pointer p) (.pointer none)).run P w = .ok () w:=fun op p=>by cases op<;>simp[eqGuard]
   have two:∀(p:Option Addr),(do eqGuard .eql T x y (.pointer p) (.pointer none);binOp .eql T (.pointer p) (.pointer none):Sem Value).run P w = .ok (.bool p.isNone) w/\(do eqGuard .neq T x y (.pointer p) (.pointer none);binOp .neq T (.pointer p) (.pointer none):Sem Value).run P w = .ok (.bool (!p.isNone)) w:=fun p=>by
    constructor
    .rw[Sem.run_bind,hg,Result.andThen_ok];exact run_eql_pointer_nil w T p hu'
    .rw[Sem.run_bind,hg,Result.andThen_ok];exact run_neq_pointer_nil w T p hu'
   split at hq<;>(try (cases hq;done));all_goals
    split at hq
    .rename_i hev;rw[hev]at hx;obtain⟨b,off,vals,hv,_⟩:=hx.dref_inv;cases hq;rw[hv,hyv];first|exact⟨_,(two _).1,.d (.bool _)⟩|exact⟨_,(two _).2,.d (.bool _)⟩
    .rename_i k g i j hev;rw[hev]at hx;split at hq
     .rename_i c hown;cases hq;have ho:s.own k=(g,some c):=by rw[<-hc,<-hown]
      obtain⟨b,_,hv,_⟩:=h.ptr_at hx ho;rw[hv,hyv];first|exact⟨_,(two _).1,.d (.bool _)⟩|exact⟨_,(two _).2,.d (.bool _)⟩
     .cases hq
    .rename_i hev;rw[hev]at hx;unfold Iw at hq;split at hq
     .cases hq;rw[hx.raw_inv,hyv];first|exact⟨_,(two _).1,.d (.bool _)⟩|exact⟨_,(two _).2,.d (.bool _)⟩
     .cases hq
    .cases hq
  .cases hq
 .cases hq
theorem mW {E:Env}{P:Program}{T:TypeId}{r:LRow}(hf:r.fits P T=true){b off j:Nat}{cs:List PV}{pv:PV}(vals:Nat->Value)
  (hc:∀(i:Nat) (c:PV),cs[i]? = some c->E.w.cell? ⟨b,off+i,none⟩=some (vals i)) (hd:∀(i:Nat) (c:PV),cs[i]? = some c->Rep E c (vals i)) (hp:part r cs j=some pv) :
  ∃v,(∀w2:World,(∀a u,E.w.cell? a=some u->w2.cell? a=some u)->(loadVar T ⟨b,off+j,none⟩).run P w2 = .ok v w2)/\Rep E pv v:=by
 obtain⟨v,h1,h2⟩:=vD (b:=b) (o:=off) hf vals hp;refine⟨v,fun w2 hk=>h1 w2 fun i c e=>hk _ _ (hc i c e),?_⟩;rcases h2 with⟨c,rfl,rfl,e⟩|⟨ds,vs,rfl,rfl,hl,he⟩
 .exact hd j _ e
 .exact .agg ds vs hl fun i c u e1 e2=>by
   obtain⟨e3,rfl⟩:=he i c u e1 e2;exact hd _ _ e3
theorem DO {E:Env}{P:Program}{T:TypeId}{r:LRow}(hf:r.fits P T=true){b off j:Nat}{cs:List PV}{pv:PV}(vals:Nat->Value)
  (hc:∀(i:Nat) (c:PV),cs[i]? = some c->E.w.cell? ⟨b,off+i,none⟩=some (vals i)) (hd:∀(i:Nat) (c:PV),cs[i]? = some c->Rep E c (vals i)) (hp:part r cs j=some pv) :
  ∃v,(loadVar T ⟨b,off+j,none⟩).run P E.w = .ok v E.w/\Rep E pv v:=by
 obtain⟨v,h1,h2⟩:=mW hf vals hc hd hp;exact⟨v,h1 _ fun _ _ h=>h,h2⟩
theorem rP {T:TypeId}{x:Operand}{pv:PV}{Cd:Prop}(hL:ig P L)(h:Sim C γ s a w)(hq:qv L s (.load T x)=some (pv,Cd))(hc:Cd) :
  ∃v,(∀w2:World,(∀a u,w.cell? a=some u->w2.cell? a=some u)->(Instr.loadAt T (a.eval x)).run P w2 = .ok v w2)/\Rep (ao C γ s w) pv v:=by
 have hx:=h.ev x;simp only[qv]at hq;split at hq
 .rename_i r hr;have hfit:=hL T r hr;split at hq
  .rename_i cs j hev;rw[hev]at hx;obtain⟨b,off,vals,hv,h1,h2,h3⟩:=hx.dref_inv;split at hq
   .rename_i v hp;simp only[Option.some.injEq,Prod.mk.injEq]at hq;obtain⟨rfl,rfl⟩:=hq;rw[hv];simp only[Instr.loadAt,Instr.sureAddr,Sem.run_bind,Sem.run_pure,Result.andThen_ok];exact mW (E:=ao C γ s w) hfit vals (fun i c e=>(h1 i c e).1) (fun i c e => .d (h2 i c e)) hp
   .cases hq
  .rename_i k g i j hev;rw[hev]at hx;split at hq
   .rename_i c hown;split at hq
    .rename_i row hrow;split at hq
     .rename_i v hp;simp only[Option.some.injEq,Prod.mk.injEq]at hq;obtain⟨rfl,rfl⟩:=hq;have ho:s.own k=(g,some c):=by rw[<-hc,<-hown]
      obtain⟨b,hb,hv,hi,hj⟩:=h.ptr_at hx ho;obtain⟨cur,hh,hsz,hle,hrows,hcell⟩:=h.site_at ho hb J;rw[hv];simp only[Instr.loadAt,Instr.sureAddr,Sem.run_bind,Sem.run_pure,Result.andThen_ok];refine mW (E:=ao C γ s w) hfit (fun i'=>cur.getD (i*c.sz+i') undef) (fun i' c' e=>?_) (fun i' c' e=>?_) hp
      .obtain⟨u,e1,_,_⟩:=hcell i i' row c' hrow e;show w.cell? _=_;rw[bg hh,e1];simp[e1]
      .obtain⟨u,e1,_,e2⟩:=hcell i i' row c' hrow e;have:cur.getD (i*c.sz+i') undef=u:=by simp[e1]
       rw[this];exact e2.rep ax
     .cases hq
    .cases hq
   .cases hq
  .cases hq
 .cases hq
theorem En {T:TypeId}{x:Operand}{pv:PV}{Cd:Prop}(hL:ig P L)(h:Sim C γ s a w)(hq:qv L s (.load T x)=some (pv,Cd))(hc:Cd) :
  ∃v,(Instr.loadAt T (a.eval x)).run P w = .ok v w/\Rep (ao C γ s w) pv v:=by
 obtain⟨v,h1,h2⟩:=rP (P:=P) hL h hq hc;exact⟨v,h1 _ fun _ _ h=>h,h2⟩
theorem nI {T ft:TypeId}{r rf:LRow}{fs:List (Nat × TypeId)}{f off b o:Nat}(hL:ig P L)(hr:L T=some r)(hs:r.sh = .st fs)(hf:fs[f]? = some (off,ft))(hrf:L ft=some rf)
  (hsz:Nat.blt 0 rf.size=true):(Instr.fieldAt T (.pointer (some ⟨b,o,none⟩)) f).run P w = .ok (.pointer (some ⟨b,o+off,none⟩)) w:=by
 obtain⟨fs',hu,hm⟩:=qc (hL T r hr) hs;rw[<-hm,List.getElem?_map]at hf;cases hf':fs'.toList[f]? with
 |none=>rw[hf']at hf;simp at hf
 |some fd =>
  rw[hf']at hf;simp at hf;obtain⟨rfl,rfl⟩:=hf;have hz:rf.size≠0:=by
   have:0<rf.size:=by simpa using hsz
   omega
  have hget:fs'[f]? = some fd:=by rw[<-hf'];simp
  simp[Instr.fieldAt,run_underlying hu,hget,Instr.sureAddr,fieldPlace,dC (hL _ rf hrf),hz,Addr.add_mk]
theorem qC {T:TypeId}{x:Operand}{f:Nat}{pv:PV}{Cd:Prop}(hL:ig P L)(h:Sim C γ s a w)(hq:qv L s (.fieldAddr T x f)=some (pv,Cd))(hc:Cd) :
  ∃v,(Instr.fieldAt T (a.eval x) f).run P w = .ok v w/\Rep (ao C γ s w) pv v:=by
 have hx:=h.ev x;simp only[qv]at hq;split at hq
 .rename_i r hr;split at hq
  .rename_i fs hs;split at hq
   .rename_i off ft hf;split at hq
    .rename_i rf hrf;cases hsz:Nat.blt 0 rf.size with
     |false=>simp[hsz]at hq
     |true =>
      simp only[hsz,cond_true]at hq;split at hq
      .rename_i cs j hev;simp only[Option.some.injEq,Prod.mk.injEq]at hq;obtain⟨rfl,rfl⟩:=hq;rw[hev]at hx;obtain⟨b,o,vals,hv,h1,h2,h3⟩:=hx.dref_inv;rw[hv];refine⟨_,nI hL hr hs hf hrf hsz,?_⟩;rw[Nat.add_assoc];exact .d (.dref cs (j+off) b o vals h3 h1 h2)
      .rename_i k g i j hev;split at hq
       .rename_i c hown;cases hlt:Nat.blt (j+off) c.sz with
        |false=>simp[hlt]at hq
        |true =>
         simp only[hlt,cond_true,Option.some.injEq,Prod.mk.injEq]at hq;obtain⟨rfl,rfl⟩:=hq;have hlt':j+off<c.sz:=by simpa using hlt
         rw[hev]at hx;have ho:s.own k=(g,some c):=by rw[<-hc,<-hown]
         obtain⟨b,hb,hv,hi,hj⟩:=h.ptr_at hx ho;rw[hv];refine⟨_,nI hL hr hs hf hrf hsz,?_⟩;refine .ptr (by simp[ao,ho]) fun _ l hl=>?_;simp[ao,ho]at hl;subst hl;exact⟨b,hb,by rw[Nat.add_assoc],hi,hlt'⟩
       .cases hq
      .cases hq
    .cases hq
   .cases hq
  .cases hq
 .cases hq
theorem D9 {E:Env}{T:TypeId}{r:LRow}(hf:r.fits P T=true){cs:List PV}{vs:List Value}(hl:cs.length=vs.length)
  (hd:∀(i:Nat) (c:PV) (u:Value),cs[i]? = some c->vs[i]? = some u->Rep E c u) {j:Nat} {pv:PV} (hp:part r cs j=some pv) :
  ∃v,(Go.part T vs.toArray j).run P w = .ok v w/\Rep E pv v:=by
 unfold part at hp;cases hagg:r.sh.agg with
 |false =>
  simp only[hagg,cond_false]at hp;have hlt:j<vs.length:=by rw[<-hl];exact(bb hp).1
  refine⟨vs[j],?_,hd j pv vs[j] hp (List.getElem?_eq_getElem hlt)⟩;simp[Go.part,j0 hf,hagg,hlt]
 |true =>
  simp only[hagg,cond_true]at hp;have key:j+r.size<=cs.length->∃v,(Go.part T vs.toArray j).run P w = .ok v w/\Rep E (.agg ((cs.drop j).take r.size)) v:=by
   intro hle;refine⟨.agg ((vs.drop j).take r.size).toArray,?_,.agg _ _ (by simp[hl]) fun i c u h1 h2=>?_⟩
   .simp[Go.part,j0 hf,hagg,dC hf]
   .rw[List.getElem?_take]at h1 h2;split at h1
    .rename_i hlt;rw[if_pos hlt]at h2;rw[List.getElem?_drop]at h1 h2;exact hd _ c u h1 h2
    .cases h1
  cases hb:(Nat.beq j 0&&Nat.beq cs.length r.size) with
  |true =>
   simp only[hb,cond_true]at hp;simp only[Bool.and_eq_true,Nat.beq_eq]at hb;obtain⟨rfl,hlen⟩:=hb;have hpv:pv = .agg cs:=by simpa using hp.symm
   subst hpv;have:=key J;rwa [<-hlen,List.drop_zero,List.take_length]at this
  |false =>
   simp only[hb,cond_false]at hp;cases hle:Nat.ble (j+r.size) cs.length with
   |false=>simp[hle]at hp
   |true =>
    simp only[hle,cond_true]at hp;have hpv:pv = .agg ((cs.drop j).take r.size):=by simpa using hp.symm
    subst hpv;exact key (by simpa using hle)
theorem Bn {T:TypeId}{x:Operand}{f:Nat}{pv:PV}{Cd:Prop}(hL:ig P L)(h:Sim C γ s a w)(hq:qv L s (.field T x f)=some (pv,Cd)) :
  ∃v,(Instr.field T (a.eval x) f).run P w = .ok v w/\Rep (ao C γ s w) pv v:=by
 have hx:=h.ev x;simp only[qv]at hq;split at hq
 .rename_i r hr;split at hq
  .rename_i fs hs;split at hq
   .rename_i off ft hf;split at hq
    .rename_i rf hrf;split at hq
     .rename_i cs hev;split at hq
      .rename_i v hp;simp only[Option.some.injEq,Prod.mk.injEq]at hq;obtain⟨rfl,rfl⟩:=hq;rw[hev]at hx;obtain⟨vs,hv,hl,hd⟩:=hx.agg_inv;obtain⟨fs',hu,hm⟩:=qc (hL T r hr) hs;rw[<-hm,List.getElem?_map]at hf;cases hf':fs'.toList[f]? with
       |none=>rw[hf']at hf;simp at hf
       |some fd =>
        rw[hf']at hf;simp at hf;obtain⟨rfl,rfl⟩:=hf;have hget:fs'[f]? = some fd:=by rw[<-hf'];simp
        obtain⟨v',h1,h2⟩:=D9 (P:=P) (w:=w) (E:=ao C γ s w) (hL _ rf hrf) hl hd hp;refine⟨v',?_,h2⟩;rw[hv];simp[Instr.field,run_underlying hu,hget,asAgg,h1]
      .cases hq
     .cases hq
    .cases hq
   .cases hq
  .cases hq
 .cases hq
theorem rq {E:Env}(hlive:∀k g c,s.own k=(g,some c)->E.gen k=g/\E.loc k=some ⟨γ k,c.ty,c.sz,c.rows.length⟩){x:PV}{Pr:Prop}{v:Value}(h1:mN s x=some Pr)(h2:Pr)(hr:Rep E x v):v.oneCell'=true:=by
 cases x<;>simp only[mN,Option.some.injEq,reduceCtorEq]at h1
 case bool=>rw[hr.bool_inv];rfl
 case int=>rw[hr.int_inv];rfl
 case str=>rw[hr.str_inv];rfl
 case raw=>subst h1;rw[hr.raw_inv];exact h2
 case nil=>rw[hr.nil_inv];rfl
 case sl=>cases hr with|d h=>cases h<;>rfl
 case dref=>obtain⟨b,off,vals,hv,_⟩:=hr.dref_inv;rw[hv];rfl
 case clo=>obtain⟨vs,hv,_⟩:=hr.clo_inv;rw[hv];rfl
 case fsl=>cases hr with
  |d h=>cases h
  |fsl h=>cases h<;>rfl
 case mapd=>cases hr with|d h=>cases h;rfl
 case mp k g =>
  split at h1
  case h_2=>cases h1
  rename_i c hown;have h1':=Option.some.inj h1;subst h1';have ho:s.own k=(g,some c):=by rw[<-h2,<-hown]
  obtain⟨e1,e2⟩:=hlive k g c ho;cases hr with
  |d h=>cases h
  |mp hg hl =>
   obtain⟨_,b,_,rfl⟩:=hl e1.symm _ e2;rfl
 case als k g i n =>
  split at h1
  case h_2=>cases h1
  rename_i c hown;have h1':=Option.some.inj h1;subst h1';have ho:s.own k=(g,some c):=by rw[<-h2,<-hown]
  obtain⟨e1,e2⟩:=hlive k g c ho;cases hr with
  |d h=>cases h
  |als hg hl =>
   rcases hl e1.symm _ e2 with⟨_,_,_,rfl⟩|⟨b,cap,cur,_,rfl,_⟩<;>rfl
 case ptr k g i n =>
  split at h1
  case h_2=>cases h1
  rename_i c hown;have h1':=Option.some.inj h1;subst h1';have ho:s.own k=(g,some c):=by rw[<-h2,<-hown]
  obtain⟨e1,e2⟩:=hlive k g c ho;cases hr with
  |d h=>cases h
  |ptr hg hl=>obtain⟨b,_,rfl,_⟩:=hl e1.symm _ e2;rfl
theorem uf {k g:Nat}{c:Cont}(h:s.own k=(g,some c)):(ao C γ s w).gen k=g/\(ao C γ s w).loc k=some ⟨γ k,c.ty,c.sz,c.rows.length⟩:=by
 simp[ao,h]
theorem iE {v:Value}(h:v.oneCell'=true):v.cells=#[v]:=by
 cases v<;>first|rfl|(simp[Value.oneCell']at h)
theorem Ev (off:Nat):∀(l:List Value) (k:Nat) (cells:List Value),off+k+l.length<=cells.length ->
  (l.zipIdx k).foldl (fun(cs:Array Value) (p:Value × Nat)=>cs.setIfInBounds (off+p.2) p.1) cells.toArray=(cells.take (off+k)++l++cells.drop (off+k+l.length)).toArray
 |[],k,cells,_=>by simp
 |v::l,k,cells,h=>by
  simp only[List.length_cons]at h;simp only[List.zipIdx_cons,List.foldl_cons,List.setIfInBounds_toArray];rw[Ev off l (k+1) (cells.set (off+k) v) aU];congr 1;have h1:(cells.set (off+k) v).take (off+(k+1))=cells.take (off+k)++[v]:=by
   rw[<-Nat.add_assoc,List.take_succ_eq_append_getElem aU];rw[List.take_set_of_le (aP)];simp
  have h2:(cells.set (off+k) v).drop (off+(k+1)+l.length)=cells.drop (off+k+(v::l).length):=by
   rw[List.drop_set_of_lt J];congr 1;simp;omega
  rw[h1,h2];simp
theorem pE {E:Env}{cs ds:List PV}{vs us:List Value}{off:Nat}(hl:cs.length=vs.length)(hd:∀(i:Nat) (c:PV) (u:Value),cs[i]? = some c->vs[i]? = some u->Rep E c u)
  (hl':ds.length=us.length) (hd':∀(i:Nat) (c:PV) (u:Value),ds[i]? = some c->us[i]? = some u->Rep E c u) (hle:off+ds.length<=cs.length) :
  (cs.take off++ds++cs.drop (off+ds.length)).length=(vs.take off++us++vs.drop (off+us.length)).length /\
  ∀(i:Nat) (c:PV) (u:Value),(cs.take off++ds++cs.drop (off+ds.length))[i]? = some c->(vs.take off++us++vs.drop (off+us.length))[i]? = some u->Rep E c u:=by
 refine⟨by simp[hl,hl'],fun i c u h1 h2=>?_⟩;rw[List.append_assoc,List.getElem?_append]at h1 h2;have e1:(cs.take off).length=off:=by simp;omega
 have e2:(vs.take off).length=off:=by simp;omega
 rw[e1]at h1;rw[e2]at h2;by_cases hi:i<off
 .rw[if_pos hi]at h1 h2;rw[List.getElem?_take,if_pos hi]at h1 h2;exact hd i c u h1 h2
 .rw[if_neg hi]at h1 h2;rw[List.getElem?_append]at h1 h2;rw[hl']at h1;by_cases hi2:i-off<us.length
  .rw[if_pos hi2]at h1 h2;exact hd' _ c u h1 h2
  .rw[if_neg hi2]at h1 h2;rw[List.getElem?_drop]at h1 h2;exact hd _ c u h1 h2
theorem xB {fs:Array Field}(hall:∀f∈fs.toList,∃r,L f.type=some r)(hL:ig P L) :
  (fs.mapM fun f=>(do pure (f.offset,<-sizeOf f.type):Sem (Nat × Nat))).run P w = .ok (fs.map fun f=>(f.offset,((L f.type).map (·.size)).getD 0)) w:=by
 obtain⟨l⟩:=fs;simp only[List.mapM_toArray,List.map_toArray]at *
 have key:∀l:List Field,(∀f∈l,∃r,L f.type=some r)->(l.mapM fun f=>(do pure (f.offset,<-sizeOf f.type):Sem (Nat × Nat))).run P w = .ok (l.map fun f=>(f.offset,((L f.type).map (·.size)).getD 0)) w:=by
  intro l hl
  induction l with
  |nil=>simp
  |cons f l ih =>
   obtain⟨r,hr⟩:=hl f ah;have:=ih (fun f' hf'=>hl f' (by simp[hf']));simp[dC (hL _ r hr),hr]at this ⊢;simp[this]
 rw[Sem.run_map,key l (by simpa using hall)];simp
theorem mI {place:Nat->Option (Nat × Nat)}{i off size:Nat}{v:Value}{rest:List (Nat × Value)}{cells:List Value}(hp:place i=some (off,size))(ws:List Value)(hw:v.cells=ws.toArray)
  (h1:ws.length=size) (h2:off+ws.length<=cells.length):Instr.fill place cells.toArray ((i,v)::rest)=Instr.fill place (cells.take off++ws++cells.drop (off+ws.length)).toArray rest:=by
 have hsp:=Ev off ws 0 cells (by simpa using h2);rw[Nat.add_zero]at hsp;rw[Instr.fill,hp];generalize v.cells=c at hw;subst hw;simp only;split
 .rename_i hbad;exfalso;simp only[Bool.or_eq_true,decide_eq_true_eq,List.size_toArray]at hbad;omega
 .rw[<-Array.foldl_toList];simp only[Array.toList_zipIdx,hsp]
theorem kN {E:Env}(hlive:∀k g c,s.own k=(g,some c)->E.gen k=g/\E.loc k=some ⟨γ k,c.ty,c.sz,c.rows.length⟩)
  {fs:List (Nat × TypeId)} {place:Nat->Option (Nat × Nat)}
  (hpl:∀(i off:Nat) (ft:TypeId) (r:LRow),fs[i]? = some (off,ft)->L ft=some r->place i=some (off,r.size)):∀(parts:List (Nat × PV)) (us:List (Nat × Value)) (cs:List PV) (vs:List Value) (C0 C1:Prop) (out:List PV),
  parts.length=us.length->(∀(i:Nat) (p:Nat × PV) (u:Nat × Value),parts[i]? = some p->us[i]? = some u->p.1=u.1/\Rep E p.2 u.2) ->
  cs.length=vs.length->(∀(i:Nat) (c:PV) (u:Value),cs[i]? = some c->vs[i]? = some u->Rep E c u) ->
  iZ L s fs parts cs C0=some (out,C1)->C1->∃outv:List Value,Instr.fill place vs.toArray us=some outv.toArray/\out.length=outv.length /\
   (∀(i:Nat) (c:PV) (u:Value),out[i]? = some c->outv[i]? = some u->Rep E c u)/\C0
 |[],[],cs,vs,C0,C1,out,_,_,hl,hd,hq,hc=>by
  simp only[iZ,Option.some.injEq,Prod.mk.injEq]at hq;obtain⟨rfl,rfl⟩:=hq;exact⟨vs,O,hl,hd,hc⟩
 |(n,x)::parts,(n',u)::us,cs,vs,C0,C1,out,hpl',hpr,hl,hd,hq,hc=>by
  obtain⟨e1,hx⟩:=hpr 0 (n,x) (n',u) O O;simp only at e1 hx;subst e1;have hrest:∀(i:Nat) (p:Nat × PV) (u:Nat × Value),parts[i]? = some p->us[i]? = some u->p.1=u.1/\Rep E p.2 u.2:=fun i p u h1 h2=>hpr (i+1) p u (by simpa using h1) (by simpa using h2);have hlen:parts.length=us.length:=by simpa using hpl'
  simp only[iZ]at hq;split at hq
  .rename_i off ft hf;split at hq
   .rename_i r hr;have hp:=hpl n off ft r hf hr;split at hq
    .rename_i ds;cases hb:(Nat.beq ds.length r.size&&Nat.ble (off+ds.length) cs.length) with
     |false=>simp[hb]at hq
     |true =>
      simp only[hb,cond_true]at hq;simp only[Bool.and_eq_true,Nat.beq_eq,Nat.ble_eq]at hb;obtain⟨ws,rfl,hwl,hwd⟩:=hx.agg_inv;obtain⟨s1,s2⟩:=pE hl hd hwl hwd hb.2;obtain⟨outv,g1,g2,g3,g4⟩:=kN hlive hpl parts us _ _ C0 C1 out hlen hrest s1 s2 hq hc;refine⟨outv,?_,g2,g3,g4⟩;rw[mI hp ws O J J];exact g1
    .split at hq
     .rename_i Pr hone;cases hb:(Nat.beq 1 r.size&&Nat.ble (off+1) cs.length) with
      |false=>simp[hb]at hq
      |true =>
       simp only[hb,cond_true]at hq;simp only[Bool.and_eq_true,Nat.beq_eq,Nat.ble_eq]at hb;obtain⟨s1,s2⟩:=pE (ds:=[_]) (us:=[u]) hl hd O (fun i c v h1 h2=>by
        cases i with
        |zero=>simp at h1 h2;subst h1;subst h2;exact hx
        |succ i=>simp at h1) hb.2
       obtain⟨outv,g1,g2,g3,g4⟩:=kN hlive hpl parts us _ _ (Pr/\C0) C1 out hlen hrest s1 s2 hq hc;have h1c:=rq hlive hone g4.1 hx;refine⟨outv,?_,g2,g3,g4.2⟩;rw[mI hp [u] (iE h1c) (by simpa using hb.1) (by simp[<-hl];omega)];exact g1
     .cases hq
   .cases hq
  .cases hq
 |[],_::_,_,_,_,_,_,h,_,_,_,_,_=>by simp at h
 |_::_,[],_,_,_,_,_,h,_,_,_,_,_=>by simp at h
theorem Bj {T:TypeId}{parts:Array (Nat × Operand)}{pv:PV}{Cd:Prop}(hL:ig P L)(h:Sim C γ s a w)(hq:qv L s (.build T parts)=some (pv,Cd))(hc:Cd) :
  ∃v,(Instr.build T (parts.map fun(i,x)=>(i,a.eval x))).run P w = .ok v w/\Rep (ao C γ s w) pv v:=by
 simp only[qv]at hq;split at hq
 .rename_i r hr;split at hq
  .rename_i fs z hs hz;cases hall:fs.all (fun p=>(L p.2).isSome) with
   |false=>simp[hall]at hq
   |true =>
    simp only[hall,cond_true]at hq;split at hq
    .rename_i cs C1 hfill;simp only[Option.some.injEq,Prod.mk.injEq]at hq;obtain⟨rfl,rfl⟩:=hq;obtain⟨i,d,hi,hd,hsz,_,hf,hzero⟩:=LRow.spec (hL T r hr);obtain⟨zv,e1,e2,e3,e4⟩:=hzero z hz;obtain⟨fs',hu,hm⟩:=qc (hL T r hr) hs;have hpl:∀(i off:Nat) (ft:TypeId) (r:LRow),fs[i]? = some (off,ft)->L ft=some r->(fs'.map fun f=>(f.offset,((L f.type).map (·.size)).getD 0))[i]? = some (off,r.size):=by
      intro i off ft r h1 h2;rw[<-hm,List.getElem?_map]at h1;rw[Array.getElem?_map];cases hx:fs'.toList[i]? with
      |none=>rw[hx]at h1;simp at h1
      |some f =>
       rw[hx]at h1;simp at h1;have:fs'[i]? = some f:=by rw[<-hx];simp
       rw[this];simp[h1.1,h1.2,h2]
     obtain⟨outv,g1,g2,g3,_⟩:=kN (E:=ao C γ s w) (γ:=γ) (fun k g c ho=>uf ho) hpl (parts.toList.map fun p=>(p.1,s.ev p.2)) (parts.toList.map fun p=>(p.1,a.eval p.2)) z zv.cells.toList True C1 cs
      ah (fun i p u h1 h2=>by
       rw[List.getElem?_map]at h1 h2;cases hx:parts.toList[i]? with
       |none=>rw[hx]at h1;simp at h1
       |some q =>
        rw[hx]at h1 h2;simp at h1 h2;subst h1;subst h2
        exact⟨O,h.ev q.2⟩)
      (by simpa using e3) (fun i c u h1 h2 => .d (iC (e4 i c u h1 (by simpa using h2)) _ _).1) hfill hc
     refine⟨.agg outv.toArray,?_,.agg cs outv g2 g3⟩;have hplaces:=xB (P:=P) (L:=L) (w:=w) (fs:=fs') (fun f hf=>by
      have hmem:(f.offset,f.type)∈fs:=by rw[<-hm];exact List.mem_map.2 ⟨f,hf,O⟩
      exact Option.isSome_iff_exists.1 (List.all_eq_true.1 hall _ hmem)) hL
     have hz':(zeroValue T).run P w = .ok zv w:=by simp[zeroValue,typeInfo,hi,e1]
     have hparts:(parts.map fun(i,x)=>(i,a.eval x)).toList=parts.toList.map fun p=>(p.1,a.eval p.2):=ah;simp only[Instr.build,Sem.run_bind,hz',Result.andThen_ok,run_underlying hu,hplaces,hparts];rw[show zv.cells.toList.toArray=zv.cells by simp]at g1;rw[g1];rfl
    .cases hq
  .cases hq
 .cases hq
theorem DG (hL:ig P L)(h:Sim C γ s a w){o:Oper}{pv:PV}{Cd:Prop}(hq:qv L s o.op=some (pv,Cd))(hc:Cd) :
  ∃v,(execOp a.eval o).run P w = .ok (.value v) w/\Rep (ao C γ s w) pv v:=by
 obtain⟨dst,op,type,pos,after,guard⟩:=o;simp only at hq;have wrapv:∀ {m:Sem Value} {v:Value},m.run P w = .ok v w->(do pure (Next.value (<-m)):Sem Next).run P w = .ok (.value v) w:=fun hm=>by simp[hm]
 cases op
 case move x =>
  simp only[qv,PV.fz_eq,Option.some.injEq,Prod.mk.injEq]at hq;obtain⟨rfl,rfl⟩:=hq;exact⟨_,by simp[execOp],h.ev x⟩
 case assign x =>
  simp only[qv,PV.fz_eq,Option.some.injEq,Prod.mk.injEq]at hq;obtain⟨rfl,rfl⟩:=hq;exact⟨_,by simp[execOp],h.ev x⟩
 case pick c x y =>
  simp only[qv,PV.fz_eq]at hq;split at hq
  .rename_i hev;simp only[Option.some.injEq,Prod.mk.injEq]at hq;obtain⟨rfl,rfl⟩:=hq;have hb:=h.ev c;rw[hev]at hb;have hb':=hb.bool_inv;exact⟨a.eval x,by simp[execOp,hb',asBool],h.ev x⟩
  .rename_i hev;simp only[Option.some.injEq,Prod.mk.injEq]at hq;obtain⟨rfl,rfl⟩:=hq;have hb:=h.ev c;rw[hev]at hb;have hb':=hb.bool_inv;exact⟨a.eval y,by simp[execOp,hb',asBool],h.ev y⟩
  .cases hq
 case nilCheck x =>
  simp only[qv]at hq;have hx:=h.ev x;split at hq
  .rename_i cs j hev;simp only[Option.some.injEq,Prod.mk.injEq]at hq;obtain⟨rfl,rfl⟩:=hq;rw[hev]at hx;obtain⟨b,off,vals,hv,_⟩:=hx.dref_inv;exact⟨a.eval x,by simp only[execOp];rw[hv];rfl,hx⟩
  .rename_i k g i j hev;split at hq
   case h_2=>cases hq
   rename_i c hown;simp only[Option.some.injEq,Prod.mk.injEq]at hq;obtain⟨rfl,rfl⟩:=hq;rw[hev]at hx;have ho:s.own k=(g,some c):=by rw[<-hc,<-hown]
   obtain⟨b,_,hv,_⟩:=h.ptr_at hx ho;exact⟨a.eval x,by simp only[execOp];rw[hv];rfl,hx⟩
  .rename_i f cs hev;simp only[Option.some.injEq,Prod.mk.injEq]at hq;obtain⟨rfl,rfl⟩:=hq;rw[hev]at hx;obtain⟨vs,hv,_⟩:=hx.clo_inv;exact⟨a.eval x,by simp only[execOp];rw[hv];rfl,hx⟩
  .cases hq
 case binOp op T x y T' =>
  simp only[qv]at hq;cases hn:uO y with
  |true =>
   rw[hn,cond_true]at hq;obtain⟨v,h1,h2⟩:=Er (P:=P) hL h hn hq hc;exact⟨v,by simp only[execOp];exact wrapv h1,h2⟩
  |false =>
   rw[hn,cond_false]at hq;obtain⟨v,h1,h2⟩:=Ep (P:=P) (w:=w) (x:=x) (y:=y) hL (h.ev x) (h.ev y) hq hc;exact⟨v,by simp only[execOp];exact wrapv h1,h2⟩
 case unOp op T x =>
  simp only[qv]at hq;have hx:=h.ev x;split at hq
  .rename_i b hev;simp only[Option.some.injEq,Prod.mk.injEq]at hq;obtain⟨rfl,rfl⟩:=hq;rw[hev]at hx;exact⟨_,by simp[execOp,hx.bool_inv,Op.unary],.d (.bool _)⟩
  .rename_i k n hev;simp only[Option.some.injEq,Prod.mk.injEq]at hq;obtain⟨rfl,rfl⟩:=hq;rw[hev]at hx;exact⟨_,by simp[execOp,hx.int_inv,Op.unary,Op.intArith],.d (.int _ _)⟩
  .cases hq
 case convert src dst x =>
  simp only[qv]at hq;have hx:=h.ev x;split at hq
  .rename_i rs rd k n hrs hrd hev;split at hq
   .rename_i k' hs;simp only[Option.some.injEq,Prod.mk.injEq]at hq;obtain⟨rfl,rfl⟩:=hq;rw[hev]at hx;have hu:=mu (hL _ _ hrd) hs;have hk:P.intKind dst=k':=by simp[Program.intKind,hu]
    have:=run_convert_int (P:=P) w src dst k n (tA (hL _ _ hrs)) (by rw[hk];exact hu);rw[hk]at this;exact⟨_,by simp only[execOp,hx.int_inv];exact wrapv this,.d (.int _ _)⟩
   .cases hq
  .rename_i rs rd b hrs hrd hev;split at hq
   .rename_i hs;simp only[Option.some.injEq,Prod.mk.injEq]at hq;obtain⟨rfl,rfl⟩:=hq;rw[hev]at hx;have hu:=j7 (hL _ _ hrd) hs;obtain⟨d,hd⟩:=Option.isSome_iff_exists.1 (tA (hL _ _ hrs));refine⟨_,?_,.d (.str b)⟩;simp only[execOp,hx.str_inv];refine wrapv ?_;simp only[convert,Sem.run_bind,run_underlying hd,run_underlying hu,Result.andThen_ok];cases d<;>rfl
   .cases hq
  .cases hq
 case makeFunc fn first caps =>
  obtain⟨first⟩:=first;cases fn<;>cases first<;>simp only[qv,reduceCtorEq]at hq;rename_i f;simp only[Option.some.injEq,Prod.mk.injEq]at hq;obtain⟨rfl,rfl⟩:=hq;obtain⟨caps⟩:=caps;refine⟨.func (.func f) #[] (caps.map a.eval).toArray,by simp[execOp,Instr.makeFunc],.clo f _ _ ah fun i c v h1 h2=>?_⟩;rw[List.getElem?_map]at h1 h2;cases hx:caps[i]? with
  |none=>rw[hx]at h1;simp at h1
  |some x =>
   rw[hx]at h1 h2;simp at h1 h2;subst h1;subst h2;exact h.ev x
 case fieldAddr T x f =>
  obtain⟨v,h1,h2⟩:=qC (P:=P) hL h hq hc;exact⟨v,by simp only[execOp];exact wrapv h1,h2⟩
 case field T x f =>
  obtain⟨v,h1,h2⟩:=Bn (P:=P) hL h hq;exact⟨v,by simp only[execOp];exact wrapv h1,h2⟩
 case load T x =>
  obtain⟨v,h1,h2⟩:=En (P:=P) hL h hq hc;exact⟨v,by simp only[execOp];exact wrapv h1,h2⟩
 case build T parts =>
  obtain⟨v,h1,h2⟩:=Bj (P:=P) hL h hq hc;exact⟨v,by simp only[execOp];exact wrapv h1,h2⟩
 case extract x i =>
  simp only[qv]at hq;have hx:=h.ev x;split at hq
  .rename_i vs hev;split at hq
   .rename_i c hci;simp only[Option.some.injEq,Prod.mk.injEq]at hq;obtain⟨rfl,rfl⟩:=hq;rw[hev]at hx;obtain⟨us,hv,hl,hd⟩:=hx.tup_inv;have hlt:i<us.length:=by rw[<-hl];exact(bb hci).1
    exact⟨us[i],by simp[execOp,hv,Instr.extract,hlt],hd i c us[i] hci (List.getElem?_eq_getElem hlt)⟩
   .cases hq
  .cases hq
 case index T x ix =>
  simp only[qv]at hq;have hx:=h.ev x;have hix:=h.ev ix;split at hq
  .rename_i r b k n hr hev hevi;split at hq
   .rename_i hs;simp only[Option.some.injEq,Prod.mk.injEq]at hq;obtain⟨rfl,rfl⟩:=hq;rw[hev]at hx;rw[hevi]at hix;have hu:=j7 (hL _ _ hr) hs;obtain⟨h0,h1⟩:=hc;have hlt:n.toNat<b.length:=J;have hget:(⟨b.toArray⟩:ByteArray)[n.toNat]? = some b[n.toNat]:=by
     have hsz:n.toNat<(⟨b.toArray⟩:ByteArray).size:=by rw[kD];exact hlt
     have:=getElem?_pos (⟨b.toArray⟩:ByteArray) n.toNat hsz;rw[this];rfl
    refine⟨.int .u8 (b[n.toNat].toNat:Int),?_,?_⟩
    .simp only[execOp,hx.str_inv,hix.int_inv];refine wrapv ?_;simp[Instr.index,asIntOf,run_underlying hu,h0,hget]
    .have:b.getD n.toNat 0=b[n.toNat]:=by simp[hlt]
     rw[this];exact .d (.int _ _)
   .cases hq
  .cases hq
 case call c =>
  unfold qv at hq;split at hq;any_goals (rename_i heq;cases heq;done)
  .rename_i x T heq;cases heq;split at hq
   .rename_i r hr;have hfit:=hL _ _ hr;have hx:=h.ev x
    have ru:∀ {v:Value} {n:Nat},(Builtin.len_ #[T] type #[a.eval x]).run P w = .ok (goInt n) w->v = .int .i64 n ->
      (execOp a.eval { dst:=dst,op := .call ⟨.builtin .len,⟨[x]⟩,⟨[T]⟩⟩,type:=type,pos:=pos,after:=after,guard:=guard }).run P w = .ok (.value v) w:=fun h1 h2=>by
     subst h2;simp only[execOp,resolve,invoke,builtin,Sem.run_bind,Sem.run_pure,Result.andThen_ok,List.map_toArray,List.map_cons,List.map_nil];rw[h1];rfl
    split at hq
    .rename_i b hs hev;simp only[Option.some.injEq,Prod.mk.injEq]at hq;obtain⟨rfl,rfl⟩:=hq;rw[hev]at hx;have hu:=j7 hfit hs;refine⟨_,ru (n:=b.length) ?_ O,.d (.int _ _)⟩;rw[hx.str_inv,run_len_string w T type _ hu,kD]
    .rename_i e hs;have hu:=gE hfit hs;have ls:∀(ad:Option Addr) (n cap:Nat),a.eval x = .slice ad n cap->(Builtin.len_ #[T] type #[a.eval x]).run P w = .ok (goInt n) w:=fun ad n cap h1=>by
      rw[h1];simp[Builtin.len_,run_underlying hu]
     unfold u7 at hq;split at hq
     .rename_i rows hev;simp only[Option.some.injEq,Prod.mk.injEq]at hq;obtain⟨rfl,rfl⟩:=hq;rw[hev]at hx;refine⟨_,ru (n:=rows.length) ?_ O,.d (.int _ _)⟩;generalize hv:a.eval x=v at hx ls;cases hx with|d hx=>cases hx with
       |sl0 ad cap=>exact ls _ _ _ rfl
       |sl rows b off cap sz vals=>exact ls _ _ _ rfl
     .rename_i rows hev;simp only[Option.some.injEq,Prod.mk.injEq]at hq;obtain⟨rfl,rfl⟩:=hq;rw[hev]at hx;refine⟨_,ru (n:=rows.length) ?_ O,.d (.int _ _)⟩;generalize hv:a.eval x=v at hx ls;cases hx with
      |d hx=>cases hx
      |fsl hx=>cases hx with
       |sl0 ad cap=>exact ls _ _ _ rfl
       |sl rows b off cap sz vals=>exact ls _ _ _ rfl
     .rename_i hev;simp only[Option.some.injEq,Prod.mk.injEq]at hq;obtain⟨rfl,rfl⟩:=hq;rw[hev]at hx;exact⟨_,ru (n:=0) (ls _ _ _ hx.nil_inv) O,.d (.int _ _)⟩
     .rename_i k g i n hev;split at hq
      case h_2=>cases hq
      rename_i c hown;simp only[Option.some.injEq,Prod.mk.injEq]at hq;obtain⟨rfl,rfl⟩:=hq;rw[hev]at hx;have ho:s.own k=(g,some c):=by rw[<-hc,<-hown]
      rcases h.als_at hx ho with⟨_,_,rfl,hv⟩|⟨b,cap,cur,_,hv,_⟩
      .exact⟨_,ru (n:=0) (ls _ _ _ hv) O,.d (.int _ _)⟩
      .exact⟨_,ru (n:=n) (ls _ _ _ hv) O,.d (.int _ _)⟩
     .cases hq
    .cases hq
   .cases hq
  .rename_i x y tys heq;cases heq;split at hq
   .rename_i k n k' m hx hy;simp only[Option.some.injEq,Prod.mk.injEq]at hq;obtain⟨rfl,rfl⟩:=hq;have h1:=h.ev x;have h2:=h.ev y;rw[hx]at h1;rw[hy]at h2;refine⟨_,?_,.d (.int _ _)⟩;simp[execOp,resolve,invoke,builtin,Builtin.min_,h1.int_inv,h2.int_inv,Builtin.min2]
   .cases hq
  .rename_i x y tys heq;cases heq;split at hq
   .rename_i k n k' m hx hy;simp only[Option.some.injEq,Prod.mk.injEq]at hq;obtain⟨rfl,rfl⟩:=hq;have h1:=h.ev x;have h2:=h.ev y;rw[hx]at h1;rw[hy]at h2;refine⟨_,?_,.d (.int _ _)⟩;simp[execOp,resolve,invoke,builtin,Builtin.max_,h1.int_inv,h2.int_inv,Builtin.max2]
   .cases hq
  .cases hq
 all_goals (simp only[qv,reduceCtorEq]at hq)
end
section
variable {C:Ctx}{γ:Nat->Option Nat}{s:St}{a:Act}{w w':World}
theorem fX (hb:Below w.heap.size w w')(hbase:∀k c b,(s.own k).2=some c->γ k=some b->C.B<=b/\b<w.heap.size):(ao C γ s w).Le (ao C γ s w') where
 ok b h:=⟨Nat.lt_of_lt_of_le h.1 hb.size,h.2⟩
 okf b h:=⟨h.1,Nat.lt_of_lt_of_le h.2.1 hb.size,h.2.2⟩
 okfok b h:=h.2
 obj b h:=hb.block b h.1
 gen _:=aP
 loc k l' _ h:=⟨l',h,O,O,O,aP⟩
 blk k l' b cur _ hl hb' hh:=by
  refine⟨cur,?_,O⟩;show w'.heap[b]? = _;simp only[ao,Option.map_eq_some_iff]at hl;obtain⟨c,hc,rfl⟩:=hl;rw[hb.block b (hbase k c b hc hb').2];exact hh
theorem SiteOk.mono {E E':Env}(h:E.Le E'){blk:Option Nat}{c:Cont}(hs:SiteOk E blk c)(hblk:∀b,blk=some b->E'.w.heap[b]? = E.w.heap[b]?):SiteOk E' blk c where
 emp:=hs.emp
 mp b hb hz hk:=by
  obtain⟨es,nn,h1,h2,h3,h4,h5,h6⟩:=hs.mp b hb hz hk;exact⟨es,nn,by rw[hblk b hb];exact h1,h2,h3,h4,fun i row c e e1 e2 e3=>(h5 i row c e e1 e2 e3).mono h,fun i row c e e1 e2 e3=>(h6 i row c e e1 e2 e3).mono h⟩
 it b hb hz hk:=by
  have h0:=hs.it b hb hz hk;unfold H9 at h0 ⊢;split at h0
  case h_2 =>
   obtain⟨T,kb,gb,n,p,v,h1,h2,h3,h4⟩:=h0;exact⟨T,kb,gb,n,p,v,h1,by rw[hblk b hb];exact h2,h3,h4.mono h⟩
  case h_3 =>
   obtain⟨rec,regs,h1,h2,h3,h3',h4,h5⟩:=h0;exact⟨rec,regs,by rw[hblk b hb];exact h1,h2,h3,h3',h4,fun t=>(h5 t).mono h⟩
  obtain⟨m,es,seen,nn,h1,h2,h3,h4,last,rem,h5,hl,h6,h7⟩:=h0;exact⟨m,es,seen,nn,by rw[hblk b hb];exact h1,h.ok m h2,h.mapc m _ _ h2 h3,h4,last,rem,h5,hl.imp id (fun⟨j,e,ck,cv,g1,g2,g3,g4,g5⟩=>⟨j,e,ck,cv,g1,g2,g3,h.drep g4,h.drep g5⟩),h6,fun i c e e1 e2=>let ⟨ck,cv,g1,g2,g3⟩:=h7 i c e e1 e2;⟨ck,cv,g1,h.drep g2,h.drep g3⟩⟩
 at_ b hb hz:=by
  obtain⟨cur,h1,h2,h3,h4,h5⟩:=hs.at_ b hb hz;exact⟨cur,by rw[hblk b hb];exact h1,h2,h3,h4,fun i j row pv e1 e2=>let ⟨v,g1,g2,g3⟩:=h5 i j row pv e1 e2;⟨v,g1,g2,g3.mono h⟩⟩
theorem SiteOk.none_ {E:Env}{c:Cont}(h:c.rows=[]):SiteOk E none c:=⟨fun _=>h,(fun b hb=>by cases hb),(fun b hb=>by cases hb),fun b hb=>by cases hb⟩
theorem Sim.ext (h:Sim C γ s a w)(hb:Below w.heap.size w w'):Sim C γ s a w':=by
 have hle:=fX hb h.base;refine⟨h.defers,h.size,fun r=>(h.regs r).mono hle,fun k c hc=>(h.sites k c hc).mono hle fun b hb'=>hb.block b (h.base k c b hc hb').2,h.inj,fun k c b h1 h2=>?_,?_,Nat.le_trans h.top hb.size,fun c v hk=>(h.kept c v hk).mono hle⟩
 .exact⟨(h.base k c b h1 h2).1,Nat.lt_of_lt_of_le (h.base k c b h1 h2).2 hb.size⟩
 .exact h.below.trans (hb.mono h.top)
theorem f7 (w:World):Below w.heap.size w { w with drawn:=w.drawn+1 }:=⟨O,O,O,aP,fun _ _=>rfl⟩
structure Fl where
 cl:Bool
 fr:Bool
def Fl.and (x y:Fl):Fl:=⟨x.cl&&y.cl,x.fr&&y.fr⟩
def e_ (f:PV->Option (PV × Prop × Fl)):List PV->Option (List PV × Prop × Fl)
 |[]=>some ([],True,⟨true,true⟩)
 |c::cs=>match f c with
  |some (d,C1,b1)=>(match e_ f cs with
   |some (ds,C2,b2)=>some (d::ds,C1/\C2,b1.and b2)
   |none=>none)
  |none=>none
def eZ (s:St):Nat->PV->Option (PV × Prop × Fl)
 |0,_=>none
 |n+1,v=>match v with
  |.fsl rows=>some (.sl rows,True,⟨true,true⟩)
  |.als k g i m=>match (s.own k).2 with
   |some c=>bif Nat.ble c.kind 1 then some (.sl c.rows,(s.own k).1=g/\i=0/\m=c.rows.length,⟨false,Nat.beq c.kind 0⟩) else none
   |none=>none
  |.ptr k g i j=>match (s.own k).2 with
   |some c=>(match c.rows[i]? with
    |some row=>bif Nat.ble c.kind 1 then some (.dref row j,(s.own k).1=g,⟨false,Nat.beq c.kind 0⟩)
      else(match e_ (eZ s n) row with|some (row',C1,b)=>some (.dref row' j,(s.own k).1=g/\C1,⟨false,b.fr⟩)|none=>none)
    |none=>none)
   |none=>none
  |.agg cs=>match e_ (eZ s n) cs with|some (ds,C1,b)=>some (.agg ds,C1,b)|none=>none
  |.tup cs=>match e_ (eZ s n) cs with|some (ds,C1,b)=>some (.tup ds,C1,b)|none=>none
  |.clo f cs=>match e_ (eZ s n) cs with|some (ds,C1,b)=>some (.clo f ds,C1,b)|none=>none
  |.sl rows=>some (.sl rows,True,⟨true,false⟩)
  |.dref cs j=>some (.dref cs j,True,⟨true,false⟩)
  |.mapd rows=>some (.mapd rows,True,⟨true,false⟩)
  |.mp k g=>match (s.own k).2 with
   |some c=>bif Nat.ble c.kind 1&&Nat.beq c.sz 0 then some (.mapd c.rows,(s.own k).1=g,⟨false,Nat.beq c.kind 0⟩) else none
   |none=>none
  |.mi _ _ | .yl _ _ | .lbl _ _ _ _ _ _ | .dfd=>none
  |v=>some (v,True,⟨true,true⟩)
def dM (C:Ctx)(γ:Nat->Option Nat)(s:St)(w:World)(b:Fl)(k:Nat):Prop:=k<w.heap.size/\¬C.X k/\(b.cl=true->eE C γ s w k)/\(b.fr=true->C.B<=k)
theorem et {b1 b2:Fl}{k:Nat}:(dM C γ s w b1 k->dM C γ s w (b1.and b2) k)/\(dM C γ s w b2 k->dM C γ s w (b1.and b2) k):=by
 constructor
 .rintro⟨h1,h2,h3,h4⟩;exact⟨h1,h2,fun h=>h3 (by simp[Fl.and]at h;exact h.1),fun h=>h4 (by simp[Fl.and]at h;exact h.1)⟩
 .rintro⟨h1,h2,h3,h4⟩;exact⟨h1,h2,fun h=>h3 (by simp[Fl.and]at h;exact h.2),fun h=>h4 (by simp[Fl.and]at h;exact h.2)⟩
theorem DRep.weaken {ok ok':Nat->Prop}(h:∀b,ok b->ok' b){c:PV}{v:Value}(hr:DRep w ok c v):DRep w ok' c v:=hr.mono h (fun _ _ _ _ e=>e) (fun _ _ _ _ e=>e)
theorem iy {f:PV->Option (PV × Prop × Fl)}{R:Fl->PV->Value->Prop}{S:PV->Value->Prop}(hw:∀b1 b2 c v,(R b1 c v->R (b1.and b2) c v)/\(R b2 c v->R (b1.and b2) c v))
  (hf:∀c d Cd b v,f c=some (d,Cd,b)->Cd->S c v->R b d v):∀(cs ds:List PV) (Cd:Prop) (b:Fl) (vs:List Value),e_ f cs=some (ds,Cd,b)->Cd ->
   cs.length=vs.length->(∀(i:Nat) (c:PV) (v:Value),cs[i]? = some c->vs[i]? = some v->S c v) ->
   ds.length=vs.length/\∀(i:Nat) (d:PV) (v:Value),ds[i]? = some d->vs[i]? = some v->R b d v
 |[],ds,Cd,b,vs,h,_,hl,_=>by
  simp only[e_,Option.some.injEq,Prod.mk.injEq]at h;obtain⟨rfl,_⟩:=h;exact⟨hl,fun i d v h=>by simp at h⟩
 |c::cs,ds,Cd,b,vs,h,hc,hl,hs=>by
  simp only[e_]at h;split at h
  .rename_i d C1 b1 hd;split at h
   .rename_i ds' C2 b2 hds;simp only[Option.some.injEq,Prod.mk.injEq]at h;obtain⟨rfl,rfl,rfl⟩:=h;cases vs with
    |nil=>simp at hl
    |cons v vs =>
     have ih:=iy hw hf cs ds' C2 b2 vs hds hc.2 (by simpa using hl) (fun i c u e1 e2=>hs (i+1) c u (by simpa using e1) (by simpa using e2));have h0:=hf c d C1 b1 v hd hc.1 (hs 0 c v O O);refine⟨by simp[ih.1],fun i e u e1 e2=>?_⟩;cases i with
     |zero =>
      simp at e1 e2;subst e1;subst e2;exact(hw b1 b2 _ _).1 h0
     |succ i=>exact(hw b1 b2 _ _).2 (ih.2 i e u (by simpa using e1) (by simpa using e2))
   .cases h
  .cases h
theorem iz (hX:∀b,C.X b->b<C.B)(h:Sim C γ s a w):∀(n:Nat) (c d:PV) (Cd:Prop) (b:Fl) (v:Value),eZ s n c=some (d,Cd,b)->Cd->Rep (ao C γ s w) c v->DRep w (dM C γ s w b) d v
 |0,_,_,_,_,_,hq,_,_=>by simp[eZ]at hq
 |n+1,c,d,Cd,b,v,hq,hc,hr=>by
  have hdat:∀ {cl:Bool} {c:PV} {v:Value},DRep w (eE C γ s w) c v->DRep w (dM C γ s w ⟨cl,false⟩) c v:=fun hd=>hd.weaken fun k hk=>⟨hk.1,hk.2.1,fun _=>hk,ah⟩;have hdatf:∀ {cl fr:Bool} {c:PV} {v:Value},DRep w (ao C γ s w).okf c v->DRep w (dM C γ s w ⟨cl,fr⟩) c v:=fun hd=>hd.weaken fun k hk=>⟨hk.2.1,hk.2.2.1,fun _=>hk.2,fun _=>hk.1⟩
  have ih:∀(cs ds:List PV) (Cd:Prop) (b:Fl) (vs:List Value),e_ (eZ s n) cs=some (ds,Cd,b)->Cd->cs.length=vs.length ->
    (∀(i:Nat) (c:PV) (v:Value),cs[i]? = some c->vs[i]? = some v->Rep (ao C γ s w) c v)->ds.length=vs.length/\∀(i:Nat) (d:PV) (v:Value),ds[i]? = some d->vs[i]? = some v->DRep w (dM C γ s w b) d v :=
   iy (R:=fun b=>DRep w (dM C γ s w b)) (fun b1 b2 c v=>⟨fun hd=>hd.weaken fun k=>et.1,fun hd=>hd.weaken fun k=>et.2⟩) (fun c d Cd b v e1 e2 e3=>iz hX h n c d Cd b v e1 e2 e3)
  have kd:∀ {k:Nat} {pv:PV} {u:Value},k<=1->KRep (ao C γ s w) k pv u->DRep w (dM C γ s w ⟨false,Nat.beq k 0⟩) pv u:=by
   intro k pv u hk hkr
   match k,hk with
   |0,_=>exact hdatf hkr
   |1,_=>exact hdat hkr
  have site:∀ {k b:Nat} {c:Cont} (fr:Bool),(s.own k).2=some c->γ k=some b->dM C γ s w ⟨false,fr⟩ b:=fun fr h1 h2=>by
   have:=h.base _ _ _ h1 h2;exact⟨this.2,fun hx=>by have:=hX _ hx;omega,ah,fun _=>this.1⟩
  cases c with
  |fsl rows =>
   simp only[eZ,Option.some.injEq,Prod.mk.injEq]at hq;obtain⟨rfl,rfl,rfl⟩:=hq;cases hr with
   |d hd=>cases hd
   |fsl hd=>exact hdatf hd
  |als k g i m =>
   simp only[eZ]at hq;split at hq
   .rename_i c hown;cases hk:Nat.ble c.kind 1 with
    |false=>simp[hk]at hq
    |true =>
     simp only[hk,cond_true,Option.some.injEq,Prod.mk.injEq]at hq;obtain⟨rfl,rfl,rfl⟩:=hq;obtain⟨hg,rfl,rfl⟩:=hc;have ho:s.own k=(g,some c):=by rw[<-hg,<-hown]
     have hk':c.kind<=1:=by simpa using hk
     rcases h.als_at hr ho with⟨h1,_,h3,rfl⟩|⟨b,cap,cur,h1,rfl,h3,h4,h5,h6,h7⟩
     .have:c.rows=[]:=(h.sites k c hown).emp h1;rw[this];exact .sl0 none 0
     .obtain⟨cur',g1,g2,g3,g4,g5⟩:=h.site_at ho h1 (h.cells_sz ho h1 h3 h6);simp only[Nat.zero_mul];refine .sl c.rows b 0 cap c.sz (fun i j=>cur'.getD (i*c.sz+j) undef) (site _ hown h1) g2 h4 g4 (fun i j row pv e1 e2=>?_) (fun i j row pv e1 e2=>?_)
      .obtain⟨u,f1,f2,_⟩:=g5 i j row pv e1 e2;rw[bg g1,Nat.zero_add,f1];simp[f1,f2]
      .obtain⟨u,f1,f2,f3⟩:=g5 i j row pv e1 e2;have:cur'.getD (i*c.sz+j) undef=u:=by simp[f1]
       simp only[this];exact kd hk' f3
   .cases hq
  |ptr k g i j =>
   simp only[eZ]at hq;split at hq
   .rename_i c hown;split at hq
    .rename_i row hrow;cases hk:Nat.ble c.kind 1 with
     |true =>
      simp only[hk,cond_true,Option.some.injEq,Prod.mk.injEq]at hq;obtain⟨rfl,rfl,rfl⟩:=hq;have ho:s.own k=(g,some c):=by rw[<-hc,<-hown]
      have hk':c.kind<=1:=by simpa using hk
      obtain⟨b,h1,rfl,h3,h4⟩:=h.ptr_at hr ho;obtain⟨cur',g1,g2,g3,g4,g5⟩:=h.site_at ho h1 J;refine .dref row j b (i*c.sz) (fun j=>cur'.getD (i*c.sz+j) undef) (site _ hown h1) (fun j pv e=>?_) (fun j pv e=>?_)
      .obtain⟨u,f1,f2,_⟩:=g5 i j row pv hrow e;rw[bg g1,f1];simp[f1,f2]
      .obtain⟨u,f1,f2,f3⟩:=g5 i j row pv hrow e;have:cur'.getD (i*c.sz+j) undef=u:=by simp[f1]
       simp only[this];exact kd hk' f3
     |false =>
      simp only[hk,cond_false]at hq;split at hq
      .rename_i row' C1 b1 hres;simp only[Option.some.injEq,Prod.mk.injEq]at hq;obtain⟨rfl,rfl,rfl⟩:=hq;have ho:s.own k=(g,some c):=by rw[<-hc.1,<-hown]
       obtain⟨b,h1,rfl,h3,h4⟩:=h.ptr_at hr ho;obtain⟨cur',g1,g2,g3,g4,g5⟩:=h.site_at ho h1 J;have hrl:row.length=c.sz:=g4 row (bc hrow);have hcs:=ih row row' C1 b1 ((List.range row.length).map fun j=>cur'.getD (i*c.sz+j) undef) hres hc.2 ah (fun j pv v e1 e2=>by
        obtain⟨u,f1,f2,f3⟩:=g5 i j row pv hrow e1;rw[List.getElem?_map]at e2;have hj:j<row.length:=(bb e1).1;rw[List.getElem?_range hj]at e2;simp[f1]at e2;subst e2
        exact f3.rep ax)
       refine .dref row' j b (i*c.sz) (fun j=>cur'.getD (i*c.sz+j) undef) (site _ hown h1) (fun j pv e=>?_) (fun j pv e=>?_)
       .have hj:j<row.length:=by have:=(bb e).1;simp at hcs;omega
        obtain⟨u,f1,f2,_⟩:=g5 i j row row[j] hrow (List.getElem?_eq_getElem hj);rw[bg g1,f1];simp[f1,f2]
       .have hj:j<row.length:=by have:=(bb e).1;simp at hcs;omega
        have:=hcs.2 j pv (cur'.getD (i*c.sz+j) undef) e (by rw[List.getElem?_map,List.getElem?_range hj];rfl);exact this.weaken fun k hk=>⟨hk.1,hk.2.1,ah,hk.2.2.2⟩
      .cases hq
    .cases hq
   .cases hq
  |agg cs =>
   simp only[eZ]at hq;split at hq
   .rename_i ds C1 b1 hds;simp only[Option.some.injEq,Prod.mk.injEq]at hq;obtain⟨rfl,rfl,rfl⟩:=hq;obtain⟨vs,rfl,hl,hd⟩:=hr.agg_inv;obtain⟨e1,e2⟩:=ih cs ds C1 b1 vs hds hc hl hd;exact .agg ds vs e1 e2
   .cases hq
  |tup cs =>
   simp only[eZ]at hq;split at hq
   .rename_i ds C1 b1 hds;simp only[Option.some.injEq,Prod.mk.injEq]at hq;obtain⟨rfl,rfl,rfl⟩:=hq;obtain⟨vs,rfl,hl,hd⟩:=hr.tup_inv;obtain⟨e1,e2⟩:=ih cs ds C1 b1 vs hds hc hl hd;exact .tup ds vs e1 e2
   .cases hq
  |clo f cs =>
   simp only[eZ]at hq;split at hq
   .rename_i ds C1 b1 hds;simp only[Option.some.injEq,Prod.mk.injEq]at hq;obtain⟨rfl,rfl,rfl⟩:=hq;obtain⟨vs,rfl,hl,hd⟩:=hr.clo_inv;obtain⟨e1,e2⟩:=ih cs ds C1 b1 vs hds hc hl hd;exact .clo f ds vs e1 e2
   .cases hq
  |sl rows =>
   simp only[eZ,Option.some.injEq,Prod.mk.injEq]at hq;obtain⟨rfl,rfl,rfl⟩:=hq;cases hr with|d hd=>exact hdat hd
  |dref cs j =>
   simp only[eZ,Option.some.injEq,Prod.mk.injEq]at hq;obtain⟨rfl,rfl,rfl⟩:=hq;cases hr with|d hd=>exact hdat hd
  |mapd rows =>
   simp only[eZ,Option.some.injEq,Prod.mk.injEq]at hq;obtain⟨rfl,rfl,rfl⟩:=hq;cases hr with|d hd=>exact hdat hd
  |mi k g=>simp[eZ]at hq
  |yl k g=>simp[eZ]at hq
  |lbl=>simp[eZ]at hq
  |dfd=>simp[eZ]at hq
  |mp k g =>
   simp only[eZ]at hq;split at hq
   .rename_i c hown;cases hk:(Nat.ble c.kind 1&&Nat.beq c.sz 0) with
    |false=>simp[hk]at hq
    |true =>
     simp only[hk,cond_true,Option.some.injEq,Prod.mk.injEq]at hq;obtain⟨rfl,rfl,rfl⟩:=hq;simp only[Bool.and_eq_true,Nat.beq_eq]at hk;have hk':c.kind<=1:=by simpa using hk.1
     have ho:s.own k=(g,some c):=by rw[<-hc,<-hown]
     obtain⟨_,b,h1,rfl⟩:=h.mp_at hr ho;obtain⟨es,nn,f1,f2,f3,f4,f5,f6⟩:=(h.sites k c hown).mp b h1 hk.2 J;exact .mapd c.rows b es nn (site _ hown h1) f1 f2 f3 (f4.up hk') (fun i row c e e1 e2 e3=>kd hk' (f5 i row c e e1 e2 e3)) (fun i row c e e1 e2 e3=>kd hk' (f6 i row c e e1 e2 e3))
   .cases hq
  |_ =>
   simp only[eZ,Option.some.injEq,Prod.mk.injEq]at hq;obtain⟨rfl,rfl,rfl⟩:=hq;cases hr with|d hd=>cases hd<;>first|exact .bool _ | exact .int _ _ | exact .str _ | exact .raw _ | exact .nil
end
inductive Mode where
 |shared
 |fresh
def Mode.ok (m:Mode)(X:Nat->Prop)(w w':World)(b:Nat):Prop :=
 match m with
 |.shared=>b<w'.heap.size/\¬X b
 |.fresh=>w.heap.size<=b/\b<w'.heap.size
class Globs where
 glob:World->Prop
 keep:∀w w',glob w->Below w.heap.size w w'->glob w'
def fu (P : Program)(f : FuncId) : Prop := ∃ fn, P.funcs[f]? = some fn /\ (fn.name == "runtime.NumGoroutine") = false /\ fn.body.isNone = false
def Ret [Globs](P:Program)(m:Mode)(f:FuncId)(pargs:List PV)(r:PV):Prop :=
 fu P f/\∀(w:World) (X:Nat->Prop) (args:List Value),Globs.glob w->(∀b,X b->b<w.heap.size)->pargs.length=args.length ->
  (∀(i:Nat) (c:PV) (v:Value),pargs[i]? = some c->args[i]? = some v->DRep w (fun b=>b<w.heap.size/\¬X b) c v) ->
  Calls P f args.toArray w (fun e w'=>∃v,e = .returned v/\Below w.heap.size w w'/\DRep w' (m.ok X w w') r v)
def PV.flat:PV->Bool
 |.bool _ | .int _ _ | .str _ | .raw _ | .nil=>true
 |.tup cs=>cs.all fun c=>match c with | .bool _ | .int _ _ | .str _ | .raw _ | .nil=>true | _=>false
 |.agg cs=>cs.all fun c=>match c with | .bool _ | .int _ _ | .str _ | .raw _ | .nil=>true | _=>false
 |_=>false
theorem DRep.of_flat {w w':World}{ok ok':Nat->Prop}{c:PV}{v:Value}(hf:c.flat=true)(h:DRep w ok c v):DRep w' ok' c v:=by
 have leaf:∀ {c:PV} {v:Value},(match c with | .bool _ | .int _ _ | .str _ | .raw _ | .nil=>true | _=>false)=true->DRep w ok c v->DRep w' ok' c v:=by
  intro c v hc h;cases h<;>first|exact .bool _ | exact .int _ _ | exact .str _ | exact .raw _ | exact .nil|(simp at hc)
 cases h with
 |bool=>exact .bool _
 |int=>exact .int _ _
 |str=>exact .str _
 |raw=>exact .raw _
 |nil=>exact .nil
 |agg cs vs hl hd =>
  refine .agg cs vs hl fun i c v e1 e2=>leaf ?_ (hd i c v e1 e2);exact List.all_eq_true.1 hf c (bc e1)
 |tup cs vs hl hd =>
  refine .tup cs vs hl fun i c v e1 e2=>leaf ?_ (hd i c v e1 e2);exact List.all_eq_true.1 hf c (bc e1)
 |sl0=>simp[PV.flat]at hf
 |sl=>simp[PV.flat]at hf
 |dref=>simp[PV.flat]at hf
 |clo=>simp[PV.flat]at hf
 |mapd=>simp[PV.flat]at hf
def PV.frs:PV->PV
 |.sl rows => .fsl rows
 |.tup cs => .tup (cs.map fun c=>match c with | .sl rows => .fsl rows|c=>c)
 |.agg cs => .agg (cs.map fun c=>match c with | .sl rows => .fsl rows|c=>c)
 |c=>c
theorem Rep.frs {E:Env}(hf:∀b,E.okf b->E.ok b){c:PV}{v:Value}(h:DRep E.w E.okf c v):Rep E c.frs v:=by
 have leaf:∀ {c:PV} {v:Value},DRep E.w E.okf c v->Rep E (match c with | .sl rows => .fsl rows|c=>c) v:=by
  intro c v h;split
  .exact .fsl h
  .exact .d (h.weaken hf)
 unfold PV.frs;split
 .exact .fsl h
 .rename_i cs;cases h with
  |tup cs vs hl hd =>
   refine .tup _ vs (by simp[hl]) fun i c v e1 e2=>?_;rw[List.getElem?_map]at e1;cases hc:cs[i]? with
   |none=>rw[hc]at e1;simp at e1
   |some c'=>rw[hc]at e1;simp only[Option.map_some,Option.some.injEq]at e1;subst e1;exact leaf (hd i c' v hc e2)
 .rename_i cs;cases h with
  |agg cs vs hl hd =>
   refine .agg _ vs (by simp[hl]) fun i c v e1 e2=>?_;rw[List.getElem?_map]at e1;cases hc:cs[i]? with
   |none=>rw[hc]at e1;simp at e1
   |some c'=>rw[hc]at e1;simp only[Option.map_some,Option.some.injEq]at e1;subst e1;exact leaf (hd i c' v hc e2)
 .exact .d (h.weaken hf)
theorem Ret.fresh_of_flat [Globs]{P:Program}{f:FuncId}{pargs:List PV}{r:PV}(hf:r.flat=true)(h:Ret P .shared f pargs r):Ret P .fresh f pargs r :=
 ⟨h.1,fun w X args h0 h1 h2 h3=>(h.2 w X args h0 h1 h2 h3).mono fun _ _ ⟨v,e1,e2,e3⟩=>⟨v,e1,e2,e3.of_flat hf⟩⟩
section
variable {P:Program}{L:Lay}{C:Ctx}{γ:Nat->Option Nat}{s:St}{a:Act}{w:World}
theorem ma {f:FuncId}(h:fu P f)(args:Array Value):(callFunc f args).run P w = .ok (.enter f args) w:=by
 obtain⟨fn,h1,h2,h3⟩:=h;simp only[callFunc,Sem.run_bind,run_program,Result.andThen_ok,h1,h2,h3,Bool.false_eq_true,if_false,Sem.run_pure]
theorem jC {fop:Operand}{args:Array Operand}{tys:Array TypeId}{f:FuncId}{vs:List Value}{o:Oper}(ho:o.op = .call ⟨.value fop,args,tys⟩)(hv:a.eval fop = .func (.func f) #[] vs.toArray)(h:fu P f) :
  (execOp a.eval o).run P w = .ok (.enter f (args.toList.map a.eval++vs).toArray) w:=by
 simp only[execOp,ho,resolve,hv,Deferred.ofValue,Sem.run_bind,Sem.run_pure,Result.andThen_ok,invoke];rw[ma h];congr 2;obtain⟨l⟩:=args;simp
theorem Ju {b:Fl}(hX:∀b,C.X b->b<C.B)(h:Sim C γ s a w){m:Mode}{w':World}(_hbel:Below w.heap.size w w')(k:Nat)
  (hk:m.ok (fun k=>k<w.heap.size/\¬dM C γ s w b k) w w' k):(match m with | .shared=>b.cl=true->eE C γ s w' k | .fresh=>(ao C γ s w').okf k):=by
 cases m with
 |shared =>
  intro hb1;obtain⟨h1,h2⟩:=hk;rcases Nat.lt_or_ge k w.heap.size with hlt|hge
  .have:dM C γ s w b k:=by
    by_cases h3:dM C γ s w b k
    .exact h3
    .exact absurd ⟨hlt,h3⟩ h2
   have:=this.2.2.1 hb1;exact⟨h1,this.2⟩
  .refine⟨h1,fun hx=>?_,fun k' c' hc' hg=>?_⟩
   .have:=hX k hx;have:=h.top;omega
   .have:=(h.base k' c' k hc' hg).2;omega
 |fresh =>
  obtain⟨h1,h2⟩:=hk;have htop:=h.top;refine⟨J,h2,fun hx=>?_,fun k' c' hc' hg=>?_⟩
  .have:=hX k hx;omega
  .have:=(h.base k' c' k hc' hg).2;omega
theorem f0 {T e:TypeId}{r re:LRow}(hL:ig P L)(hr:L T=some r)(hs:r.sh = .sl e)(hre:L e=some re) :
  P.underlying T=some (.slice (P.elem T))/\P.elem T=e/\(sizeOf (P.elem T)).run P w = .ok re.size w:=by
 have hu:=gE (hL T r hr) hs;have he:P.elem T=e:=by simp[Program.elem,hu]
 refine⟨by rw[he];exact hu,he,by rw[he];exact dC (hL e re hre) w⟩
theorem y_ {T e:TypeId}{r re:LRow}{base:Addr}{len cap:Nat}{k:IntKind}{n:Int}(hL:ig P L)(hr:L T=some r)(hs:r.sh = .sl e)(hre:L e=some re)(h0:0<=n)(hlt:n<len) :
  (Instr.indexAt T (.slice (some base) len cap) (.int k n)).run P w = .ok (.pointer (some (base.add (n.toNat*re.size)))) w:=by
 obtain⟨h1,h2,h3⟩:=f0 (w:=w) hL hr hs hre;rw[run_indexAt_slice w T base len cap k n h1,if_pos ⟨h0,hlt⟩,h3];rfl
theorem m9 {E:Env}{ok:Nat->Prop}{rows:List (List PV)}{v:Value}(h:DRep E.w ok (.sl rows) v) :
  (rows=[]/\∃ad cap,v = .slice ad 0 cap)\/∃(b off cap sz:Nat) (vals:Nat->Nat->Value),v = .slice (some ⟨b,off,none⟩) rows.length cap/\ok b/\0<sz/\rows.length<=cap/\(∀(row:List PV),row∈rows->row.length=sz) /\
   (∀(i j:Nat) (row:List PV) (c:PV),rows[i]? = some row->row[j]? = some c->E.w.cell? ⟨b,off+i*sz+j,none⟩=some (vals i j)/\(vals i j).oneCell'=true) /\
   (∀(i j:Nat) (row:List PV) (c:PV),rows[i]? = some row->row[j]? = some c->DRep E.w ok c (vals i j)):=by
 cases h with
 |sl0 ad cap=>exact .inl ⟨rfl,ad,cap,rfl⟩
 |sl rows b off cap sz vals h1 h2 h3 h4 h5 h6=>exact .inr ⟨b,off,cap,sz,vals,rfl,h1,h2,h3,h4,h5,h6⟩
end
variable [Globs]
def Jn (w w':World)(T:TypeId)(sz:Nat)(rows:List (List PV))(v:Value):Prop :=
 (rows=[]/\v = .slice none 0 0) \/
 ∃(b cap:Nat) (cur:Array Value),w.heap.size<=b/\v = .slice (some ⟨b,0,none⟩) rows.length cap/\w'.heap[b]? = some (.cells cur T (0,0))/\rows.length<=cap/\cap<=maxLen/\cur.size=cap*sz/\0<sz/\rows.length*sz<=cur.size/\(∀row∈rows,row.length=sz) /\
  ∀(i j:Nat) (row:List PV) (c:PV),rows[i]? = some row->row[j]? = some c->∃u,cur[i*sz+j]? = some u/\u.oneCell'=true/\∀(w:World) (ok:Nat->Prop),DRep w ok c u
def RetO (P:Program)(f:FuncId)(pargs:List PV)(T:TypeId)(sz:Nat)(rows:List (List PV)):Prop :=
 fu P f/\∀(w:World) (X:Nat->Prop) (args:List Value),Globs.glob w->(∀b,X b->b<w.heap.size)->pargs.length=args.length ->
  (∀(i:Nat) (c:PV) (v:Value),pargs[i]? = some c->args[i]? = some v->DRep w (fun b=>b<w.heap.size/\¬X b) c v) ->
  Calls P f args.toArray w (fun e w'=>∃v,e = .returned v/\Below w.heap.size w w'/\Jn w w' T sz rows v)
end Go.Pv
namespace Go.Pv
open Go.RowKit
def St.fin (s:St)(k:Nat)(c:Cont):St:=s.setOwn k ((s.own k).1+1) (some c)
def iD (γ:Nat->Option Nat)(k:Nat)(b:Option Nat):Nat->Option Nat:=fun r=>bif Nat.beq r k then b else γ r
theorem bU (γ:Nat->Option Nat)(k:Nat)(b:Option Nat):iD γ k b k=b:=by simp[iD]
theorem fJ {γ:Nat->Option Nat}{k r:Nat}{b:Option Nat}(h:r≠k):iD γ k b r=γ r:=by simp[iD,bm h]
theorem ak (s:St)(k g:Nat)(c:Option Cont):(s.setOwn k g c).own k=(g,c):=by simp[St.setOwn]
theorem aF {s:St}{k r g:Nat}{c:Option Cont}(h:r≠k):(s.setOwn k g c).own r=s.own r:=by simp[St.setOwn,bm h]
section
variable {P:Program}{L:Lay}{C:Ctx}{γ:Nat->Option Nat}{s:St}{a:Act}{w w':World}
structure Turn (C:Ctx) (γ:Nat->Option Nat) (s:St) (w w':World) (k:Nat) (blk:Option Nat):Prop where
 os:w'.os=w.os
 tape:w'.tape=w.tape
 output:w'.output=w.output
 size:w.heap.size<=w'.heap.size
 blocks:∀b,b<w.heap.size->w'.heap[b]? = w.heap[b]? \/ ((s.own k).2.isSome=true/\γ k=some b)
 at_:∀b,blk=some b->b<w'.heap.size/\(w.heap.size<=b\/((s.own k).2.isSome=true/\γ k=some b))
theorem Turn.kept (h:Sim C γ s a w){k:Nat}{blk:Option Nat}(ht:Turn C γ s w w' k blk){b:Nat}(hb:b<w.heap.size)(hne:∀c,(s.own k).2=some c->γ k≠some b):w'.heap[b]? = w.heap[b]? := by
 have:=h.top;rcases ht.blocks b hb with h1|⟨h1,h2⟩
 .exact h1
 .obtain⟨c,hc⟩:=Option.isSome_iff_exists.1 h1;exact absurd h2 (hne c hc)
theorem Turn.le (h:Sim C γ s a w){k:Nat}{blk:Option Nat}(ht:Turn C γ s w w' k blk)(c:Cont):(ao C γ s w).Le (ao C (iD γ k blk) (s.fin k c) w'):=by
 have hok:∀b,eE C γ s w b->eE C (iD γ k blk) (s.fin k c) w' b:=by
  rintro b ⟨h1,h2,h3⟩;refine⟨Nat.lt_of_lt_of_le h1 ht.size,h2,fun k' c' hc'=>?_⟩;by_cases hk:k'=k
  .subst hk;rw[bU];intro hb;rcases(ht.at_ b hb).2 with h4|⟨h4,h5⟩
   .omega
   .obtain⟨c'',hc''⟩:=Option.isSome_iff_exists.1 h4;exact h3 k' c'' hc'' h5
  .rw[fJ hk];rw[St.fin,aF hk]at hc';exact h3 k' c' hc'
 refine⟨hok,fun b hb=>⟨hb.1,hok b hb.2⟩,fun b hb=>hb.2,fun b hb=>?_,fun k'=>?_,fun k' l' hg hl=>?_,fun k' l' b cur hg hl hb hh=>?_⟩
 .exact ht.kept h hb.1 (fun c hc=>hb.2.2 k c hc)
 .show(s.own k').1<=((s.fin k c).own k').1;by_cases hk:k'=k
  .subst hk;rw[St.fin,ak];simp
  .rw[St.fin,aF hk];exact aP
 .have hk:k'≠k:=by
   intro hk;subst hk;have:((s.fin k' c).own k').1=(s.own k').1:=hg;rw[St.fin,ak]at this;simp at this
  refine⟨l',?_,O,O,O,aP⟩;simp only[ao,St.fin,aF hk,fJ hk]at hl ⊢;exact hl
 .have hk:k'≠k:=by
   intro hk;subst hk;have:((s.fin k' c).own k').1=(s.own k').1:=hg;rw[St.fin,ak]at this;simp at this
  refine⟨cur,?_,O⟩;simp only[ao,St.fin,aF hk,fJ hk,Option.map_eq_some_iff]at hl;obtain⟨c',hc',rfl⟩:=hl;simp only at hb;have:w'.heap[b]? = w.heap[b]? := ht.kept h (h.base k' c' b hc' hb).2 (fun c'' hc'' hg'=>hk (h.inj k' k c' c'' b hc' hc'' hb hg'));show w'.heap[b]? = _;rw[this];exact hh
theorem Turn.sim (h:Sim C γ s a w){k:Nat}{blk:Option Nat}(ht:Turn C γ s w w' k blk){c:Cont}
  (hs:SiteOk (ao C (iD γ k blk) (s.fin k c) w') blk c):Sim C (iD γ k blk) (s.fin k c) a w':=by
 have hle:=ht.le h c;have htop:=h.top;refine⟨h.defers,h.size,fun r=>(h.regs r).mono hle,fun k' c' hc'=>?_,fun k1 k2 c1 c2 b e1 e2 e3 e4=>?_,fun k' c' b e1 e2=>?_,?_,Nat.le_trans h.top ht.size,fun c v hk=>(h.kept c v hk).mono hle⟩
 .by_cases hk:k'=k
  .subst hk;rw[St.fin,ak]at hc';simp at hc';subst hc';rw[bU];exact hs
  .rw[fJ hk];rw[St.fin,aF hk]at hc';exact(h.sites k' c' hc').mono hle fun b hb=>ht.kept h (h.base k' c' b hc' hb).2 (fun c'' hc'' hg'=>hk (h.inj k' k c' c'' b hc' hc'' hb hg'))
 .have key:∀k1 k2 c1,k1=k->k2≠k->(s.own k2).2=some c1->γ k2=some b->blk=some b->False:=by
   intro k1 k2 c1 _ hk2 f1 f2 f3;rcases(ht.at_ b f3).2 with f4|⟨f4,f5⟩
   .have:=(h.base k2 c1 b f1 f2).2;omega
   .obtain⟨c'',hc''⟩:=Option.isSome_iff_exists.1 f4;exact hk2 (h.inj k2 k c1 c'' b f1 hc'' f2 f5)
  by_cases hk1:k1=k
  .by_cases hk2:k2=k
   .omega
   .subst hk1;rw[bU]at e3;rw[fJ hk2]at e4;rw[St.fin,aF hk2]at e2;exact(key k1 k2 c2 O hk2 e2 e4 e3).elim
  .by_cases hk2:k2=k
   .subst hk2;rw[bU]at e4;rw[fJ hk1]at e3;rw[St.fin,aF hk1]at e1;exact(key k2 k1 c1 O hk1 e1 e3 e4).elim
   .rw[fJ hk1]at e3;rw[fJ hk2]at e4;rw[St.fin,aF hk1]at e1;rw[St.fin,aF hk2]at e2;exact h.inj k1 k2 c1 c2 b e1 e2 e3 e4
 .by_cases hk:k'=k
  .subst hk;rw[bU]at e2;refine⟨?_,(ht.at_ b e2).1⟩;rcases(ht.at_ b e2).2 with f|⟨f1,f2⟩
   .omega
   .obtain⟨c'',hc''⟩:=Option.isSome_iff_exists.1 f1;exact(h.base k' c'' b hc'' f2).1
  .rw[fJ hk]at e2;rw[St.fin,aF hk]at e1;exact⟨(h.base k' c' b e1 e2).1,Nat.lt_of_lt_of_le (h.base k' c' b e1 e2).2 ht.size⟩
 .refine h.below.trans ⟨ht.os,ht.tape,ht.output,ht.size,fun b hb=>?_⟩;exact ht.kept h J (fun c'' hc'' hg'=>by have:=(h.base k c'' b hc'' hg').1;omega)
theorem Turn.alloc (o:Obj)(k:Nat):Turn C γ s w (w.alloc o) k (some w.heap.size) :=
 ⟨O,O,O,ah,fun b hb => .inl (Below.heap_alloc w o b hb),fun b hb=>by simp at hb;subst hb;exact⟨ah,.inl (aP)⟩⟩
theorem bj (w:World)(o:Obj):(w.alloc o).heap[w.heap.size]? = some o:=by
 show(w.heap.push o)[w.heap.size]? = _;simp
theorem SiteOk.row {E:Env}{b:Nat}{T:TypeId}{cs:List PV}{vs:List Value}(hb:E.w.heap[b]? = some (.cells vs.toArray T (0,0)))(hl:cs.length=vs.length)(h0:0<cs.length)
  (h1:∀v∈vs,v.oneCell'=true) (hd:∀(i:Nat) (c:PV) (v:Value),cs[i]? = some c->vs[i]? = some v->Rep E c v):SiteOk E (some b) ⟨T,cs.length,[cs],2⟩ where
 emp h:=by cases h
 mp b' _ hz:=by simp only at hz;omega
 it b' _ hz:=by simp only at hz;omega
 at_ b' hb' _:=by
  simp at hb';subst hb';refine⟨_,hb,h0,by simp[hl],fun row hr=>by simp at hr;subst hr;rfl,fun i j row pv e1 e2=>?_⟩;cases i with
  |succ i=>simp at e1
  |zero =>
   simp at e1;subst e1;have hj:j<vs.length:=by rw[<-hl];exact(bb e2).1
   exact⟨vs[j],by simp[hj],h1 _ ah,hd j pv vs[j] e2 (List.getElem?_eq_getElem hj)⟩
end
def du (s:St):List PV->Option Prop
 |[]=>some True
 |c::cs=>match mN s c with
  |some A=>(match du s cs with|some B=>some (A/\B)|none=>none)
  |none=>none
def PV.cells:PV->List PV
 |.agg cs=>cs
 |c=>[c]
section
variable {P:Program}{L:Lay}{C:Ctx}{γ:Nat->Option Nat}{s:St}{a:Act}{w w':World}
theorem mO {E:Env}(hlive:∀k g c,s.own k=(g,some c)->E.gen k=g/\E.loc k=some ⟨γ k,c.ty,c.sz,c.rows.length⟩):∀ {cs:List PV} {vs:List Value} {Pr:Prop},du s cs=some Pr->Pr->cs.length=vs.length ->
  (∀(i:Nat) (c:PV) (v:Value),cs[i]? = some c->vs[i]? = some v->Rep E c v)->∀v∈vs,v.oneCell'=true
 |[],[],_,_,_,_,_=>fun v hv=>by cases hv
 |c::cs,u::vs,Pr,h,hp,hl,hd=>by
  simp only[du]at h;split at h
  .rename_i A hA;split at h
   .rename_i B hB;have h':=Option.some.inj h;subst h';intro v hv;rcases List.mem_cons.1 hv with rfl|hv
    .exact rq hlive hA hp.1 (hd 0 c v O O)
    .exact mO hlive hB hp.2 (by simpa using hl) (fun i c v e1 e2=>hd (i+1) c v (by simpa using e1) (by simpa using e2)) v hv
   .cases h
  .cases h
 |[],_::_,_,_,_,hl,_=>by simp at hl
 |_::_,[],_,_,_,hl,_=>by simp at hl
theorem kF {E:Env}(hlive:∀k g c,s.own k=(g,some c)->E.gen k=g/\E.loc k=some ⟨γ k,c.ty,c.sz,c.rows.length⟩){x:PV}{v:Value}(hr:Rep E x v){Pr:Prop}(h1:du s x.cells=some Pr)(h2:Pr) :
  ∃vs:List Value,v.cells=vs.toArray/\x.cells.length=vs.length/\(∀(i:Nat) (c:PV) (u:Value),x.cells[i]? = some c->vs[i]? = some u->Rep E c u)/\∀u∈vs,u.oneCell'=true:=by
 by_cases hx:∃cs,x = .agg cs
 .obtain⟨cs,rfl⟩:=hx;obtain⟨vs,rfl,hl,hd⟩:=hr.agg_inv;exact⟨vs,O,hl,hd,mO hlive h1 h2 hl hd⟩
 .have hc:x.cells=[x]:=by
   unfold PV.cells;split
   .rename_i cs;exact absurd ⟨cs,O⟩ hx
   .rfl
  rw[hc]at h1 ⊢;have hd:∀(i:Nat) (c:PV) (u:Value),[x][i]? = some c->[v][i]? = some u->Rep E c u:=fun i c u e1 e2=>by
   cases i with
   |zero=>simp at e1 e2;subst e1;subst e2;exact hr
   |succ i=>simp at e1
  have hone:=mO hlive h1 h2 (vs:=[v]) O hd;exact⟨[v],iE (hone v ah),O,hd,hone⟩
theorem Sim.live (_h:Sim C γ s a w):∀k g c,s.own k=(g,some c)->(ao C γ s w).gen k=g/\(ao C γ s w).loc k=some ⟨γ k,c.ty,c.sz,c.rows.length⟩:=fun _ _ _ ho=>uf ho
theorem xK {T:TypeId}{x:PV}{v:Value}{k:Nat}{Pr:Prop}(h:Sim C γ s a w)(hr:Rep (ao C γ s w) x v)(h1:du s x.cells=some Pr)(h2:Pr)(h0:0<x.cells.length) :
  ∃w',(Go.newVar T v).run P w = .ok ⟨w.heap.size,0,none⟩ w'/\Sim C (iD γ k (some w.heap.size)) (s.fin k ⟨T,x.cells.length,[x.cells],2⟩) a w' /\
   Rep (ao C (iD γ k (some w.heap.size)) (s.fin k ⟨T,x.cells.length,[x.cells],2⟩) w') (.ptr k ((s.own k).1+1) 0 0) (.pointer (some ⟨w.heap.size,0,none⟩)):=by
 obtain⟨vs,e1,e2,e3,e4⟩:=kF h.live hr h1 h2;refine⟨w.alloc (.cells vs.toArray T),?_,?_,?_⟩
 .simp[Go.newVar,newRow,e1]
 .have ht:Turn C γ s w (w.alloc (.cells vs.toArray T)) k (some w.heap.size):=Turn.alloc _ k;have hle:=ht.le h ⟨T,x.cells.length,[x.cells],2⟩;exact ht.sim h (SiteOk.row (bj _ _) e2 h0 e4 fun i c u f1 f2=>(e3 i c u f1 f2).mono hle)
 .refine .ptr ?_ fun _ l hl=>?_
  .show _<=((s.fin k _).own k).1;rw[St.fin,ak];exact aP
  .simp only[ao,St.fin,ak,bU,Option.map_some,Option.some.injEq]at hl;subst hl;exact⟨w.heap.size,O,ah,ah,by simpa using h0⟩
end
def PV.flat1:PV->Bool
 |.bool _ | .int _ _ | .str _ | .raw _ | .nil=>true
 |_=>false
def mA:Nat->PV->Bool
 |0,.fsl _=>true
 |0,.clo _ []=>true
 |1,.clo _ []=>true
 |0,.agg cs=>cs.all PV.flat1
 |1,.agg cs=>cs.all PV.flat1
 |0,c=>c.flat1
 |1,.fsl _ | 1,.sl _ | 1,.dref _ _ | 1,.mapd _=>true
 |1,c=>c.flat1
 |_,_=>true
def dY (k:Nat)(c:PV):PV :=
 match k,c with
 |0,.fsl rows => .sl rows
 |1,.fsl rows => .sl rows
 |_,c=>c
theorem yk {E:Env}{w:World}{ok:Nat->Prop}{f:FuncId}{v:Value}(h:Rep E (.clo f []) v):DRep w ok (.clo f []) v:=by
 obtain⟨vs,rfl,hl,_⟩:=h.clo_inv;have:vs=[]:=List.eq_nil_of_length_eq_zero (by simpa using hl.symm);subst this;exact .clo f [] [] O (fun i c v e=>by simp at e)
theorem tJ {E:Env}{cs:List PV}{v:Value}(h:cs.all PV.flat1=true)(hr:Rep E (.agg cs) v)(w:World)(ok:Nat->Prop):DRep w ok (.agg cs) v:=by
 obtain⟨vs,rfl,hl,hd⟩:=hr.agg_inv;refine .agg cs vs hl fun i c u e1 e2=>?_;have hf:=List.all_eq_true.1 h c (bc e1);have hc:=hd i c u e1 e2;cases c<;>simp only[PV.flat1,Bool.false_eq_true]at hf<;>(cases hc with|d hd=>exact DRep.of_flat O hd)
theorem gd {E:Env}(hf:∀b,E.okf b->E.ok b){k:Nat}{c:PV}{v:Value}(h:mA k c=true)(hr:Rep E c v):KRep E k (dY k c) v:=by
 match k with
 |0 =>
  cases c with
  |fsl rows=>cases hr with
   |d hd=>cases hd
   |fsl hd=>exact hd
  |clo f cs =>
   cases cs with
   |nil=>exact yk hr
   |cons c cs=>simp[mA,PV.flat1]at h
  |agg cs=>exact tJ h hr _ _
  |_=>first
   |(cases hr with|d hd=>exact DRep.of_flat rfl hd)
   |(simp[mA,PV.flat1]at h)
 |1 =>
  cases c with
  |fsl rows=>cases hr with
   |d hd=>cases hd
   |fsl hd=>exact hd.weaken hf
  |clo f cs =>
   cases cs with
   |nil=>exact yk hr
   |cons c cs=>simp[mA,PV.flat1]at h
  |agg cs=>exact tJ h hr _ _
  |_=>first
   |(cases hr with|d hd=>exact hd)
   |(simp[mA,PV.flat1]at h)
 |_+2=>exact hr
theorem KRep.up {E:Env}(hf:∀b,E.okf b->E.ok b){k k':Nat}(h:k<=k'){c:PV}{v:Value}(hr:KRep E k c v):KRep E k' c v:=by
 match k',k,h with
 |0,0,_=>exact hr
 |1,0,_=>exact DRep.weaken hf hr
 |1,1,_=>exact hr
 |_+2,0,_=>exact .d (DRep.weaken hf hr)
 |_+2,1,_=>exact .d hr
 |_+2,_+2,_=>exact hr
structure FlatRep (E:Env) (k sz:Nat) (rows:List (List PV)) (vals:List Value):Prop where
 len:vals.length=rows.length*sz
 row_:∀row∈rows,row.length=sz
 at_:∀(i j:Nat) (row:List PV) (pv:PV),rows[i]? = some row->row[j]? = some pv->∃v,vals[i*sz+j]? = some v/\v.oneCell'=true/\KRep E k pv v
theorem FlatRep.nil (E:Env)(k sz:Nat):FlatRep E k sz [] []:=⟨ah,ah,fun i j row pv h=>by simp at h⟩
theorem FlatRep.append {E:Env}{k sz:Nat}{r1 r2:List (List PV)}{v1 v2:List Value}(h1:FlatRep E k sz r1 v1)(h2:FlatRep E k sz r2 v2):FlatRep E k sz (r1++r2) (v1++v2):=by
 refine⟨by simp[h1.len,h2.len,Nat.add_mul],fun row hr=>?_,fun i j row pv e1 e2=>?_⟩
 .rcases List.mem_append.1 hr with h|h
  .exact h1.row_ row h
  .exact h2.row_ row h
 .rw[List.getElem?_append]at e1;split at e1
  .rename_i hlt;obtain⟨v,f1,f2,f3⟩:=h1.at_ i j row pv e1 e2;exact⟨v,by rw[List.getElem?_append_left (bb f1).1];exact f1,f2,f3⟩
  .rename_i hlt;obtain⟨v,f1,f2,f3⟩:=h2.at_ _ j row pv e1 e2;refine⟨v,?_,f2,f3⟩;have hge:r1.length*sz<=i*sz:=Nat.mul_le_mul_right _ J;rw[List.getElem?_append_right (by rw[h1.len];omega),h1.len];rw[Nat.sub_mul]at f1;rwa [show i*sz+j-r1.length*sz=i*sz-r1.length*sz+j by omega]
theorem FlatRep.mono {E E':Env}(h:E.Le E'){k sz:Nat}{rows:List (List PV)}{vals:List Value}(hr:FlatRep E k sz rows vals):FlatRep E' k sz rows vals :=
 ⟨hr.len,hr.row_,fun i j row pv e1 e2=>let ⟨v,f1,f2,f3⟩:=hr.at_ i j row pv e1 e2;⟨v,f1,f2,f3.mono h⟩⟩
theorem FlatRep.up {E:Env}(hf:∀b,E.okf b->E.ok b){k k' sz:Nat}(h:k<=k'){rows:List (List PV)}{vals:List Value}(hr:FlatRep E k sz rows vals):FlatRep E k' sz rows vals :=
 ⟨hr.len,hr.row_,fun i j row pv e1 e2=>let ⟨v,f1,f2,f3⟩:=hr.at_ i j row pv e1 e2;⟨v,f1,f2,f3.up hf h⟩⟩
theorem SiteOk.of_flat {E:Env}{b:Nat}{T:TypeId}{k sz:Nat}{rows:List (List PV)}{vals:List Value}{cur:Array Value}(hf:FlatRep E k sz rows vals)(hsz:0<sz)(hb:E.w.heap[b]? = some (.cells cur T (0,0)))
  (hle:rows.length*sz<=cur.size) (ht:cur.toList.take (rows.length*sz)=vals):SiteOk E (some b) ⟨T,sz,rows,k⟩ where
 emp h:=by cases h
 mp b' _ hz:=by simp only at hz;omega
 it b' _ hz:=by simp only at hz;omega
 at_ b' hb' _:=by
  simp at hb';subst hb';refine⟨cur,hb,hsz,hle,hf.row_,fun i j row pv e1 e2=>?_⟩;obtain⟨v,f1,f2,f3⟩:=hf.at_ i j row pv e1 e2;refine⟨v,?_,f2,f3⟩;rw[<-ht,List.getElem?_take]at f1;split at f1
  .simpa using f1
  .cases f1
theorem SiteOk.flat {E:Env}{b:Nat}{c:Cont}(h:SiteOk E (some b) c)(hz:0<c.sz):∃cur,E.w.heap[b]? = some (.cells cur c.ty (0,0))/\0<c.sz/\c.rows.length*c.sz<=cur.size /\
  FlatRep E c.kind c.sz c.rows (cur.toList.take (c.rows.length*c.sz)):=by
 obtain⟨cur,h1,h2,h3,h4,h5⟩:=h.at_ b O hz;refine⟨cur,h1,h2,h3,⟨by simp;omega,h4,fun i j row pv e1 e2=>?_⟩⟩;obtain⟨v,f1,f2,f3⟩:=h5 i j row pv e1 e2;refine⟨v,?_,f2,f3⟩;have hi:i<c.rows.length:=(bb e1).1;have hj:j<c.sz:=by rw[<-h4 row (bc e1)];exact(bb e2).1
 have:(i+1)*c.sz<=c.rows.length*c.sz:=Nat.mul_le_mul_right _ hi;rw[Nat.add_mul,Nat.one_mul]at this;rw[List.getElem?_take,if_pos J];simpa using f1
def mg (row:List PV)(j:Nat)(cs:List PV):List PV:=row.take j++cs++row.drop (j+cs.length)
section
variable {P:Program}{L:Lay}{C:Ctx}{γ:Nat->Option Nat}{s:St}{a:Act}{w w':World}
theorem vS (_h:Sim C γ s a w){k g b:Nat}{c c':Cont}{cur cur':Array Value}(ho:s.own k=(g,some c))(hb:γ k=some b)(hh:w.heap[b]? = some (.cells cur c.ty (0,0)))(hsz:cur'.size=cur.size)
  (h1:c'.ty=c.ty) (h2:c'.sz=c.sz) (h3:c.rows.length<=c'.rows.length):(ao C γ s w).Le (ao C γ (s.setOwn k g (some c')) (w.setRow b cur')):=by
 have hown:∀k' c'',((s.setOwn k g (some c')).own k').2=some c''->∃c3,(s.own k').2=some c3:=by
  intro k' c'' hc;by_cases hk:k'=k
  .subst hk;exact⟨c,by rw[ho]⟩
  .rw[aF hk]at hc;exact⟨c'',hc⟩
 have hok:∀b',eE C γ s w b'->eE C γ (s.setOwn k g (some c')) (w.setRow b cur') b':=by
  rintro b' ⟨f1,f2,f3⟩;exact⟨by simpa using f1,f2,fun k' c'' hc=>let ⟨c3,hc3⟩:=hown k' c'' hc;f3 k' c3 hc3⟩
 refine⟨hok,fun b' hb'=>⟨hb'.1,hok b' hb'.2⟩,fun b' hb'=>hb'.2,fun b' hb'=>?_,fun k'=>?_,fun k' l' _ hl=>?_,fun k' l' b' cur'' _ hl hb' hh'=>?_⟩
 .have hne:b'≠b:=fun e=>hb'.2.2 k c (by rw[ho]) (by rw[e];exact hb);exact setRow_other w b b' cur' hne
 .show(s.own k').1<=((s.setOwn k g (some c')).own k').1;by_cases hk:k'=k
  .subst hk;rw[ak,ho];exact aP
  .rw[aF hk];exact aP
 .by_cases hk:k'=k
  .subst hk;simp only[ao,ak,Option.map_some,Option.some.injEq]at hl;subst hl;exact⟨⟨γ k',c.ty,c.sz,c.rows.length⟩,by simp[ao,ho],O,h1,h2,h3⟩
  .simp only[ao,aF hk]at hl;exact⟨l',hl,O,O,O,aP⟩
 .show ∃cur1,(w.setRow b cur').heap[b']? = _/\_;have hl':∃c3,(s.own k').2=some c3/\γ k'=some b':=by
   by_cases hk:k'=k
   .subst hk;simp only[ao,ak,Option.map_some,Option.some.injEq]at hl;subst hl;exact⟨c,by rw[ho],hb'⟩
   .simp only[ao,aF hk,Option.map_eq_some_iff]at hl;obtain⟨c3,hc3,rfl⟩:=hl;exact⟨c3,hc3,hb'⟩
  have hh'':w.heap[b']? = some (.cells cur'' l'.ty (0,0)):=hh';by_cases hbb:b'=b
  .subst hbb;rw[hh]at hh'';simp only[Option.some.injEq,Obj.cells.injEq,and_true]at hh'';obtain⟨rfl,hty⟩:=hh'';exact⟨cur',by rw[setRow_heap w b' cur cur' c.ty (0,0) hh,hty],hsz⟩
  .exact⟨cur'',by rw[setRow_other w b b' cur' hbb];exact hh'',O⟩
theorem rS (h:Sim C γ s a w){k g b:Nat}{c c':Cont}{cur cur':Array Value}(ho:s.own k=(g,some c))(hb:γ k=some b)(hh:w.heap[b]? = some (.cells cur c.ty (0,0)))(hsz:cur'.size=cur.size)
  (h1:c'.ty=c.ty) (h2:c'.sz=c.sz) (h3:c.rows.length<=c'.rows.length) (hs:SiteOk (ao C γ (s.setOwn k g (some c')) (w.setRow b cur')) (some b) c'):Sim C γ (s.setOwn k g (some c')) a (w.setRow b cur'):=by
 have hle:=vS h ho hb hh hsz h1 h2 h3;have hown:∀k' c'',((s.setOwn k g (some c')).own k').2=some c''->∃c3,(s.own k').2=some c3:=by
  intro k' c'' hc;by_cases hk:k'=k
  .subst hk;exact⟨c,by rw[ho]⟩
  .rw[aF hk]at hc;exact⟨c'',hc⟩
 refine⟨h.defers,h.size,fun r=>(h.regs r).mono hle,fun k' c'' hc=>?_,fun k1 k2 c1 c2 b' e1 e2 e3 e4=>?_,fun k' c'' b' e1 e2=>?_,?_,by simpa using h.top,fun c v hk=>(h.kept c v hk).mono hle⟩
 .by_cases hk:k'=k
  .subst hk;rw[ak]at hc;simp at hc;subst hc;rw[hb];exact hs
  .rw[aF hk]at hc;refine(h.sites k' c'' hc).mono hle fun b' hb'=>setRow_other w b b' cur' fun e=>?_;subst e;exact hk (h.inj k' k c'' c b' hc (by rw[ho]) hb' hb)
 .obtain⟨d1,f1⟩:=hown k1 c1 e1;obtain⟨d2,f2⟩:=hown k2 c2 e2;exact h.inj k1 k2 d1 d2 b' f1 f2 e3 e4
 .obtain⟨d1,f1⟩:=hown k' c'' e1;simpa using h.base k' d1 b' f1 e2
 .refine h.below.trans ⟨O,O,O,ah,fun b' hb'=>setRow_other w b b' cur' fun e=>?_⟩;have:=(h.base k c b (by rw[ho]) hb).1;omega
theorem Bp {T:TypeId}{r:LRow}{x y:Operand}{k g i j:Nat}{c:Cont}{row:List PV}{kd:Nat}{Pr:Prop}(hL:ig P L)(h:Sim C γ s a w)(hr:L T=some r)(hx:s.ev x = .ptr k g i j)(ho:s.own k=(g,some c))
  (hrow:c.rows[i]? = some row) (h1:du s (s.ev y).cells=some Pr) (h2:Pr) (hsz:(s.ev y).cells.length=r.size) (hle:j+r.size<=row.length) (hk:c.kind<=kd) (hkd:(s.ev y).cells.all (mA kd)=true) :
  ∃w',(Instr.storeAt T (a.eval x) (a.eval y)).run P w = .ok () w' /\
   Sim C γ (s.setOwn k g (some { c with rows:=c.rows.set i (mg row j ((s.ev y).cells.map (dY kd))),kind:=kd })) a w':=by
 obtain⟨vs,e1,e2,e3,e4⟩:=kF h.live (h.ev y) h1 h2;have hxr:=h.ev x;rw[hx]at hxr;obtain⟨b,hb,hv,hi,hj⟩:=h.ptr_at hxr ho;have hsite:=h.sites k c (by rw[ho]);rw[hb]at hsite;obtain⟨cur,hh,hsz',hle',hflat⟩:=hsite.flat J;have hh:w.heap[b]? = some (.cells cur c.ty (0,0)):=hh;have hrl:row.length=c.sz:=hflat.row_ row (bc hrow);have hmul:(i+1)*c.sz<=c.rows.length*c.sz:=Nat.mul_le_mul_right _ hi;rw[Nat.add_mul,Nat.one_mul]at hmul;have hfit:i*c.sz+j+0+vs.length<=cur.size:=by rw[<-e2,hsz];omega
 have hst:=run_storeCells_at P b (i*c.sz+j) c.ty vs 0 cur w hh hfit e4;refine⟨w.setRow b (cur.toList.take (i*c.sz+j+0)++vs++cur.toList.drop (i*c.sz+j+0+vs.length)).toArray,?_,?_⟩
 .rw[hv];simp only[Instr.storeAt,Instr.sureAddr,storeVar,Sem.run_bind,Sem.run_pure,Result.andThen_ok,dC (hL T r hr),Sem.run_ite];have hcs:(a.eval y).cells.size=r.size:=by rw[e1,<-hsz,e2];simp
  rw[if_neg (by simp[hcs])];rw[e1];exact hst
 .have hsize:(cur.toList.take (i*c.sz+j+0)++vs++cur.toList.drop (i*c.sz+j+0+vs.length)).toArray.size=cur.size:=by
   simp only[List.size_toArray,List.length_append,List.length_take,List.length_drop,Array.length_toList];omega
  refine rS h ho hb hh hsize O O ah ?_;have hlE:=vS (c':={ c with rows:=c.rows.set i (mg row j ((s.ev y).cells.map (dY kd))),kind:=kd }) h ho hb hh hsize O O ah;refine⟨(fun e=>by cases e),(fun b' _ hz=>by simp only at hz;omega),(fun b' _ hz=>by simp only at hz;omega),fun b' hb' _=>?_⟩;simp at hb';subst hb';have hspl:(mg row j ((s.ev y).cells.map (dY kd))).length=c.sz:=by simp[mg];omega
  refine⟨_,setRow_heap w b cur _ c.ty (0,0) hh,hsz',?_,fun row' hr'=>?_,fun i' j' row' pv f1 f2=>?_⟩
  .rw[hsize];simpa using hle'
  .rcases List.mem_or_eq_of_mem_set hr' with h'|h'
   .exact hflat.row_ row' h'
   .rw[h'];exact hspl
  .simp only[Nat.add_zero];have hi':i'<c.rows.length:=by have:=(bb f1).1;simpa using this
   by_cases hii:i'=i
   .subst hii;rw[List.getElem?_set_self hi]at f1;simp at f1;subst f1;have hjl:j'<c.sz:=by rw[<-hspl];exact(bb f2).1
    unfold mg at f2;rw[List.append_assoc,List.getElem?_append]at f2;have hlt:(row.take j).length=j:=by simp;omega
    rw[hlt]at f2;by_cases hjj:j'<j
    .rw[if_pos hjj,List.getElem?_take,if_pos hjj]at f2;obtain⟨v,g1,g2,g3⟩:=hflat.at_ i' j' row pv hrow f2;rw[List.getElem?_take,if_pos J]at g1;refine⟨v,?_,g2,(g3.up ax hk).mono hlE⟩;rw[List.getElem?_toArray,List.append_assoc,List.getElem?_append_left aU,List.getElem?_take,if_pos J];exact g1
    .rw[if_neg hjj,List.getElem?_append]at f2;simp only[List.length_map]at f2;by_cases hjm:j'-j<(s.ev y).cells.length
     .rw[if_pos hjm,List.getElem?_map]at f2;cases hq:(s.ev y).cells[j'-j]? with
      |none=>rw[hq]at f2;simp at f2
      |some q =>
       rw[hq]at f2;simp at f2;subst f2;have hlt2:j'-j<vs.length:=by rw[<-e2];exact hjm
       have hkq:mA kd q=true:=List.all_eq_true.1 hkd q (bc hq);refine⟨vs[j'-j],?_,e4 _ ah,(gd ax hkq (e3 _ q _ hq (List.getElem?_eq_getElem hlt2))).mono hlE⟩;rw[List.getElem?_toArray,List.append_assoc,List.getElem?_append_right aU,List.getElem?_append_left aU];rw[show i'*c.sz+j'-(cur.toList.take (i'*c.sz+j)).length=j'-j by simp;omega];simp[hlt2]
     .rw[if_neg hjm,List.getElem?_drop]at f2;try simp only[List.length_map]at f2
      rw[show j+(s.ev y).cells.length+(j'-j-(s.ev y).cells.length)=j' by omega]at f2;obtain⟨v,g1,g2,g3⟩:=hflat.at_ i' j' row pv hrow f2;rw[List.getElem?_take,if_pos J]at g1;refine⟨v,?_,g2,(g3.up ax hk).mono hlE⟩;rw[List.getElem?_toArray,List.append_assoc,List.getElem?_append_right aU,List.getElem?_append_right aU,List.getElem?_drop];simp only[List.length_take,Array.length_toList];rw[show i'*c.sz+j+vs.length+(i'*c.sz+j'-min (i'*c.sz+j) cur.size-vs.length)=i'*c.sz+j' by omega];exact g1
   .rw[List.getElem?_set_ne (Ne.symm hii)]at f1;obtain⟨v,g1,g2,g3⟩:=hflat.at_ i' j' row' pv f1 f2;have hjl:j'<c.sz:=by rw[<-hflat.row_ row' (bc f1)];exact(bb f2).1
    have hmul':(i'+1)*c.sz<=c.rows.length*c.sz:=Nat.mul_le_mul_right _ hi';rw[Nat.add_mul,Nat.one_mul]at hmul';rw[List.getElem?_take,if_pos J]at g1;refine⟨v,?_,g2,(g3.up ax hk).mono hlE⟩;rcases Nat.lt_or_gt_of_ne hii with hlt|hgt
    .have:(i'+1)*c.sz<=i*c.sz:=Nat.mul_le_mul_right _ hlt;rw[Nat.add_mul,Nat.one_mul]at this;rw[List.getElem?_toArray,List.append_assoc,List.getElem?_append_left aU,List.getElem?_take,if_pos J];exact g1
    .have:(i+1)*c.sz<=i'*c.sz:=Nat.mul_le_mul_right _ hgt;rw[Nat.add_mul,Nat.one_mul]at this;rw[List.getElem?_toArray,List.append_assoc,List.getElem?_append_right aU,List.getElem?_append_right aU,List.getElem?_drop];simp only[List.length_take,Array.length_toList];rw[show i*c.sz+j+vs.length+(i'*c.sz+j'-min (i*c.sz+j) cur.size-vs.length)=i'*c.sz+j' by omega];exact g1
end
def Whole (w:World)(e:TypeId)(sz:Nat)(blk:Option Nat)(v:Value)(n:Nat)(vals:List Value):Prop :=
 vals.length=n*sz /\
 ((blk=none/\v = .slice none 0 0/\n=0) \/
  ∃b cap cur,blk=some b/\v = .slice (some ⟨b,0,none⟩) n cap/\w.heap[b]? = some (.cells cur e (0,0))/\n<=cap/\cap<=maxLen/\cur.size=cap*sz/\cur.toList.take (n*sz)=vals)
def KC (w:World)(sz:Nat)(x:Value)(m:Nat)(news:List Value):Prop :=
 news.length=m*sz/\(∀u∈news,u.oneCell'=true) /\
 ((m=0/\∃ad c,x = .slice ad 0 c)\/∃ad c,x = .slice (some ad) m c/\∀(j:Nat) (u:Value),news[j]? = some u->w.cell? (ad.add j)=some u)
theorem ec {P:Program}{w:World}(t ty e:TypeId)(i:TypeInfo)(ht:P.underlying t=some (.slice e))(hi:P.info? e=some i)(base:Option Addr)(n cap:Nat)(h:n<=cap)(ad:Option Addr)(c:Nat) :
  (Builtin.append_ #[t,t] ty #[.slice base n cap,.slice ad 0 c]).run P w = .ok (.slice base n cap) w:=by
 cases base<;>cases ad<;>simp[Builtin.append_,run_underlying ht,sizeOf,typeInfo,hi,Builtin.lenOf,h,Builtin.firstCells,loadCells,loadCellsFrom,storeCells]
theorem tN {P:Program}{w:World}(t ty e:TypeId)(i:TypeInfo)(z:Value)(sz:Nat)(ht:P.underlying t=some (.slice e))(hi:P.info? e=some i)(hz:i.zero=some z)(hsize:i.size=sz)(hzs:z.cells.size=sz)
  (blk:Option Nat) (v:Value) (n:Nat) (olds:List Value) (hv:Whole w e sz blk v n olds) (x:Value) (m:Nat) (news:List Value) (hx:KC w sz x m news)
  (h63:n+m<=maxLen) (hbytes:(n+m)*i.bytes<=140737488355328) :
  ∃v' w' blk',(Builtin.append_ #[t,t] ty #[v,x]).run P w = .ok v' w'/\Whole w' e sz blk' v' (n+m) (olds++news)/\w'.os=w.os/\w'.tape=w.tape/\w'.output=w.output/\w.heap.size<=w'.heap.size /\
   (∀b,b<w.heap.size->w'.heap[b]? = w.heap[b]? \/ blk=some b)/\(∀b,blk'=some b->b<w'.heap.size/\(w.heap.size<=b\/blk=some b)):=by
 subst hsize;obtain⟨hlo,hv⟩:=hv;obtain⟨hln,h1,hx⟩:=hx;have hlen:(olds++news).length=(n+m)*i.size:=by rw[List.length_append,hlo,hln,Nat.add_mul]
 have hsmall:((n+m:Nat):Int)<=9223372036854775807:=by simp only[maxLen]at h63;omega
 have grown:∀(old:Nat),old<n+m->Whole (w.drew.alloc (.cells (olds.toArray++news.toArray++Builtin.zeroCells z.cells (grownCap w (n+m) old e-(n+m))) e)) e i.size (some w.heap.size)
    (.slice (some ⟨w.heap.size,0,none⟩) (n+m) (grownCap w (n+m) old e)) (n+m) (olds++news):=by
  intro old ho;have hge:=grownCap_ge w (n+m) old e;refine⟨hlen,.inr ⟨w.heap.size,_,_,O,O,bj w.drew _,hge,grownCap_le_maxLen w (n+m) old e h63,?_,?_⟩⟩
  .simp only[Array.size_append,List.size_toArray,size_zeroCells,hzs,hlo,hln,<-Nat.add_mul];congr 1;omega
  .simp only[Array.toList_append,List.append_assoc];rw[<-List.append_assoc,<-hlen];exact List.take_left
 rcases hx with⟨rfl,ad,c,rfl⟩|⟨ad,c,rfl,hcell⟩
 .have hn0:news=[]:=List.eq_nil_of_length_eq_zero (by simpa using hln);subst hn0;rcases hv with⟨rfl,rfl,rfl⟩|⟨b,cap,cur,rfl,rfl,hb,hnc,hcm,hcs,htk⟩
  .exact⟨_,w,none,ec t ty e i ht hi none 0 0 (aP) ad c,⟨by simpa using hlo,.inl ⟨O,O,O⟩⟩,O,O,O,aP,fun _ _ => .inl O,fun b hb=>by cases hb⟩
  .refine⟨_,w,some b,ec t ty e i ht hi _ n cap hnc ad c,⟨hlen,.inr ⟨b,cap,cur,O,O,hb,hnc,hcm,hcs,by simpa using htk⟩⟩,O,O,O,aP,fun _ _ => .inl O,fun b' hb'=>⟨?_,.inr hb'⟩⟩;simp at hb';subst hb';exact(cD hb).1
 .by_cases hm:m=0
  .subst hm;have hn0:news=[]:=List.eq_nil_of_length_eq_zero (by simpa using hln);subst hn0;rcases hv with⟨rfl,rfl,rfl⟩|⟨b,cap,cur,rfl,rfl,hb,hnc,hcm,hcs,htk⟩
   .exact⟨_,w,none,ec t ty e i ht hi none 0 0 (aP) _ c,⟨by simpa using hlo,.inl ⟨O,O,O⟩⟩,O,O,O,aP,fun _ _ => .inl O,fun b hb=>by cases hb⟩
   .refine⟨_,w,some b,ec t ty e i ht hi _ n cap hnc _ c,⟨hlen,.inr ⟨b,cap,cur,O,O,hb,hnc,hcm,hcs,by simpa using htk⟩⟩,O,O,O,aP,fun _ _ => .inl O,fun b' hb'=>⟨?_,.inr hb'⟩⟩;simp at hb';subst hb';exact(cD hb).1
  .have hsz:∀X:Obj,w.heap.size<=(w.drew.alloc X).heap.size:=fun X=>by simp
   have hnew:∀(X:Obj) (b:Nat),some w.heap.size=some b->b<(w.drew.alloc X).heap.size/\(w.heap.size<=b\/blk=some b):=fun X b hb=>by
    simp at hb;subst hb;exact⟨ah,.inl (aP)⟩
   rcases hv with⟨rfl,rfl,rfl⟩|⟨b,cap,cur,rfl,rfl,hb,hnc,hcm,hcs,htk⟩
   .have ho0:olds=[]:=List.eq_nil_of_length_eq_zero (by simpa using hlo);subst ho0;have hr:=run_append_nil (P:=P) w t ty e i z ht hi hz ad m c news hln hcell J (by simpa using hsmall) (by simp only[Nat.zero_add]at hbytes;omega);have hg:=grown 0 J;simp only[Nat.zero_add,List.nil_append,Array.empty_append]at hg ⊢;exact⟨_,_,some w.heap.size,hr,hg,O,O,O,hsz _,fun b hb => .inl (Below.heap_alloc w.drew _ b hb),hnew _⟩
   .by_cases hroom:n+m<=cap
    .have hfit:n*i.size+news.length<=cur.size:=by rw[hln,hcs,<-Nat.add_mul];exact Nat.mul_le_mul_right _ hroom
     have hr:=run_append_room (P:=P) w t ty e i ht hi b n cap cur hb ad m c news hln hcell h1 hroom hfit;refine⟨_,_,some b,hr,⟨hlen,.inr ⟨b,cap,_,O,O,setRow_heap w b cur _ e _ hb,hroom,hcm,?_,?_⟩⟩,O,O,O,ah,fun b' hb'=>?_,fun b' hb'=>⟨?_,.inr hb'⟩⟩
     .simp only[List.size_toArray,List.length_append,List.length_take,List.length_drop,Array.length_toList];omega
     .rw[htk,<-hlen];exact List.take_left
     .by_cases he:b'=b
      .exact .inr (by rw[he])
      .exact .inl (setRow_other w b b' _ he)
     .simp at hb';subst hb';simpa using (cD hb).1
    .have holds:∀(j:Nat) (u:Value),olds[j]? = some u->w.cell? ((⟨b,0,none⟩:Addr).add j)=some u:=fun j u hu=>by
      rw[Addr.add_mk,Nat.zero_add,bg hb];rw[<-htk,List.getElem?_take]at hu;split at hu
      .simpa using hu
      .cases hu
     have hr:=run_append_grow (P:=P) w t ty e i z ht hi hz ⟨b,0,none⟩ n cap olds hlo holds ad m c news hln hcell J hsmall (growslice_fits J hbytes);exact⟨_,_,some w.heap.size,hr,grown cap J,O,O,O,hsz _,fun b' hb' => .inl (Below.heap_alloc w.drew _ b' hb'),hnew _⟩
def kx (s:St):PV->Option (List (List PV) × Nat × Prop)
 |.sl rows=>some (rows,1,True)
 |.fsl rows=>some (rows,0,True)
 |.nil=>some ([],0,True)
 |.als k g i m=>match (s.own k).2 with
  |some c=>some (c.rows,c.kind,(s.own k).1=g/\i=0/\m=c.rows.length)
  |none=>none
 |_=>none
section
variable {P:Program}{L:Lay}{C:Ctx}{γ:Nat->Option Nat}{s:St}{a:Act}{w w':World}
theorem lP {E:Env}{k b off sz:Nat}{rows:List (List PV)}{vals:Nat->Nat->Value}(hsz:0<sz)(h4:∀row∈rows,row.length=sz)
  (h5:∀(i j:Nat) (row:List PV) (c:PV),rows[i]? = some row->row[j]? = some c->E.w.cell? ⟨b,off+i*sz+j,none⟩=some (vals i j)/\(vals i j).oneCell'=true)
  (h6:∀(i j:Nat) (row:List PV) (c:PV),rows[i]? = some row->row[j]? = some c->KRep E k c (vals i j)) :
  ∃news:List Value,FlatRep E k sz rows news/\(∀u∈news,u.oneCell'=true)/\∀(p:Nat) (u:Value),news[p]? = some u->E.w.cell? ((⟨b,off,none⟩:Addr).add p)=some u:=by
 have key:∀p,p<rows.length*sz->∃row c,rows[p/sz]? = some row/\row[p%sz]? = some c:=by
  intro p hp;have hd:p/sz<rows.length:=Nat.div_lt_of_lt_mul (by rw[Nat.mul_comm];exact hp);have hm:p%sz<sz:=Nat.mod_lt _ hsz;have hr:rows[p/sz].length=sz:=h4 _ ah;exact⟨rows[p/sz],rows[p/sz][p%sz],List.getElem?_eq_getElem hd,List.getElem?_eq_getElem J⟩
 have hat:∀(p:Nat) (u:Value),((List.range (rows.length*sz)).map fun p=>vals (p/sz) (p%sz))[p]? = some u->p<rows.length*sz/\u=vals (p/sz) (p%sz):=by
  intro p u hu;rw[List.getElem?_map]at hu;rcases Nat.lt_or_ge p (rows.length*sz) with hp|hp
  .rw[List.getElem?_range hp]at hu;simp at hu;exact⟨hp,hu.symm⟩
  .rw[List.getElem?_eq_none (by simpa using hp)]at hu;simp at hu
 refine⟨(List.range (rows.length*sz)).map fun p=>vals (p/sz) (p%sz),⟨ah,h4,fun i j row pv e1 e2=>?_⟩,fun u hu=>?_,fun p u hu=>?_⟩
 .have hi:i<rows.length:=(bb e1).1;have hj:j<sz:=by rw[<-h4 row (bc e1)];exact(bb e2).1
  have hmul:(i+1)*sz<=rows.length*sz:=Nat.mul_le_mul_right _ hi;rw[Nat.add_mul,Nat.one_mul]at hmul;refine⟨vals i j,?_,(h5 i j row pv e1 e2).2,h6 i j row pv e1 e2⟩;rw[List.getElem?_map,List.getElem?_range J];have hd:(i*sz+j)/sz=i:=by rw[Nat.mul_comm,Nat.mul_add_div hsz,Nat.div_eq_of_lt hj,Nat.add_zero]
  have hm:(i*sz+j)%sz=j:=by rw[Nat.mul_comm,Nat.mul_add_mod,Nat.mod_eq_of_lt hj]
  simp[hd,hm]
 .obtain⟨p,hp,rfl⟩:=List.mem_map.1 hu;obtain⟨row,c,e1,e2⟩:=key p (List.mem_range.1 hp);exact(h5 _ _ row c e1 e2).2
 .obtain⟨hp,rfl⟩:=hat p u hu;obtain⟨row,c,e1,e2⟩:=key p hp;rw[Addr.add_mk];have:=(h5 _ _ row c e1 e2).1;rwa [show off+p/sz*sz+p%sz=off+p by have:=Nat.div_add_mod p sz;rw[Nat.mul_comm]at this;omega]at this
theorem Ew (h:Sim C γ s a w){x:PV}{v:Value}{rows:List (List PV)}{kd sz:Nat}{Cd:Prop}(hq:kx s x=some (rows,kd,Cd))(hc:Cd)(hr:Rep (ao C γ s w) x v)(hsz:0<sz)(hlen:∀row∈rows,row.length=sz) :
  ∃news,KC w sz v rows.length news/\FlatRep (ao C γ s w) kd sz rows news:=by
 have data:∀ {ok:Nat->Prop} {kd:Nat},(∀c v,DRep w ok c v->KRep (ao C γ s w) kd c v)->DRep w ok (.sl rows) v->∃news,KC w sz v rows.length news/\FlatRep (ao C γ s w) kd sz rows news:=by
  intro ok kd hk hd;rcases m9 (E:=ao C γ s w) hd with⟨rfl,ad,cap,rfl⟩|⟨b,off,cap,sz',vals,rfl,h1,h2,h3,h4,h5,h6⟩
  .exact⟨[],⟨ah,ah,.inl ⟨O,ad,cap,O⟩⟩,FlatRep.nil _ _ _⟩
  .cases rows with
   |nil=>exact⟨[],⟨ah,ah,.inr ⟨_,cap,rfl,fun j u hu=>by simp at hu⟩⟩,FlatRep.nil _ _ _⟩
   |cons row0 rest =>
    have hss:sz'=sz:=by rw[<-hlen row0 ah];exact(h4 row0 ah).symm
    subst hss;obtain⟨news,f1,f2,f3⟩:=lP (E:=ao C γ s w) (k:=kd) hsz h4 h5 (fun i j row c e1 e2=>hk c _ (h6 i j row c e1 e2));exact⟨news,⟨f1.len,f2,.inr ⟨_,cap,O,f3⟩⟩,f1⟩
 unfold kx at hq;split at hq
 .simp only[Option.some.injEq,Prod.mk.injEq]at hq;obtain⟨rfl,rfl,rfl⟩:=hq;cases hr with|d hd=>exact data (ok:=eE C γ s w) (fun c v hd=>hd) hd
 .simp only[Option.some.injEq,Prod.mk.injEq]at hq;obtain⟨rfl,rfl,rfl⟩:=hq;cases hr with
  |d hd=>cases hd
  |fsl hd=>exact data (ok:=(ao C γ s w).okf) (fun c v hd=>hd) hd
 .simp only[Option.some.injEq,Prod.mk.injEq]at hq;obtain⟨rfl,rfl,rfl⟩:=hq;rw[hr.nil_inv];exact⟨[],⟨ah,ah,.inl ⟨O,none,0,O⟩⟩,FlatRep.nil _ _ _⟩
 .rename_i k g i m;split at hq
  .rename_i c hown;simp only[Option.some.injEq,Prod.mk.injEq]at hq;obtain⟨rfl,rfl,rfl⟩:=hq;obtain⟨hg,rfl,rfl⟩:=hc;have ho:s.own k=(g,some c):=by rw[<-hg,<-hown]
   rcases h.als_at hr ho with⟨h1,_,h3,rfl⟩|⟨b,cap,cur,h1,rfl,h3,h4,h5,h6,h7⟩
   .have:c.rows=[]:=(h.sites k c hown).emp h1;rw[this];exact⟨[],⟨ah,ah,.inl ⟨O,none,0,O⟩⟩,FlatRep.nil _ _ _⟩
   .obtain⟨cur',g1,g2,g3,g4,g5⟩:=h.site_at ho h1 (h.cells_sz ho h1 h3 h6);cases hrows:c.rows with
    |nil=>exact⟨[],⟨ah,ah,.inr ⟨_,cap,rfl,fun j u hu=>by simp at hu⟩⟩,FlatRep.nil _ _ _⟩
    |cons row0 rest =>
     have hss:c.sz=sz:=by rw[<-hlen row0 (by rw[hrows];simp)];exact(g4 row0 (by rw[hrows];simp)).symm
     rw[<-hrows];have hcl:∀(i j:Nat) (row:List PV) (pv:PV),c.rows[i]? = some row->row[j]? = some pv->cur'[i*c.sz+j]? = some (cur'.getD (i*c.sz+j) undef):=by
      intro i j row pv e1 e2;obtain⟨u,f1,_⟩:=g5 i j row pv e1 e2;rw[f1];simp[f1]
     obtain⟨news,f1,f2,f3⟩:=lP (E:=ao C γ s w) (k:=c.kind) (b:=b) (off:=0) (sz:=c.sz) (rows:=c.rows) (vals:=fun i j=>cur'.getD (i*c.sz+j) undef) g2 g4
      (fun i j row pv e1 e2=>by
       obtain⟨u,f1,f2,_⟩:=g5 i j row pv e1 e2;refine⟨?_,by simp[f1,f2]⟩;show w.cell? _=_;rw[bg g1,Nat.zero_add]
       exact hcl i j row pv e1 e2)
      (fun i j row pv e1 e2=>by
       obtain⟨u,f1,_,f3⟩:=g5 i j row pv e1 e2;have:cur'.getD (i*c.sz+j) undef=u:=by simp[f1]
       simp only[this];exact f3)
     subst hss;simp only[Nat.zero_mul];exact⟨news,⟨f1.len,f2,.inr ⟨_,cap,O,f3⟩⟩,f1⟩
  .cases hq
 .cases hq
def uc (s:St):PV->Option (Option (Nat × Cont) × Prop)
 |.nil=>some (none,True)
 |.als k g i m=>match (s.own k).2 with
  |some c=>some (some (k,c),(s.own k).1=g/\i=0/\m=c.rows.length)
  |none=>none
 |_=>none
theorem pP {T e:TypeId}{r re:LRow}{ty:TypeId}{x y:PV}{vx vy:Value}{k kd:Nat}{rows1 rows2:List (List PV)}{k1 k2:Nat}{Cd1 Cd2:Prop}(hL:ig P L)(h:Sim C γ s a w)(hr:L T=some r)(hs:r.sh = .sl e)(hre:L e=some re)
  (hz:re.zero.isSome=true) (hsz:0<re.size) (hx:Rep (ao C γ s w) x vx) (hy:Rep (ao C γ s w) y vy)
  (hd:(uc s x=some (none,Cd1)/\rows1=[]/\k1=0)\/∃c,uc s x=some (some (k,c),Cd1)/\rows1=c.rows/\k1=c.kind/\c.sz=re.size/\c.ty=e) (hc1:Cd1)
  (hq:kx s y=some (rows2,k2,Cd2)) (hc2:Cd2) (hlen:∀row∈rows2,row.length=re.size) (hk1:k1<=kd) (hk2:k2<=kd) (hb:(rows1.length+rows2.length)*re.bytes<=140737488355328) (h63:rows1.length+rows2.length<=maxLen) :
  ∃v' w' blk',(Builtin.append_ #[T,T] ty #[vx,vy]).run P w = .ok v' w'/\Sim C (iD γ k blk') (s.fin k ⟨e,re.size,rows1++rows2,kd⟩) a w' /\
   Rep (ao C (iD γ k blk') (s.fin k ⟨e,re.size,rows1++rows2,kd⟩) w') (.als k ((s.own k).1+1) 0 (rows1++rows2).length) v':=by
 obtain⟨i,d,hi,hud,hisz,hiby,_,hzero⟩:=LRow.spec (hL e re hre);obtain⟨z,hz1,hz2,_⟩:=hzero _ (Option.some_get hz).symm;have hu:=gE (hL T r hr) hs;obtain⟨news,hsrc,hfl2⟩:=Ew h hq hc2 hy hsz hlen;obtain⟨blk,olds,hwh,hfl1,hblk⟩:∃blk olds,Whole w e re.size blk vx rows1.length olds/\FlatRep (ao C γ s w) k1 re.size rows1 olds/\(∀b,blk=some b->(s.own k).2.isSome=true/\γ k=some b):=by
  rcases hd with⟨hd,rfl,rfl⟩|⟨c,hd,rfl,rfl,hcs,hct⟩
  .cases x<;>simp only[uc,Option.some.injEq,Prod.mk.injEq,reduceCtorEq]at hd
   .rw[hx.nil_inv];exact⟨none,[],⟨ah,.inl ⟨O,O,O⟩⟩,FlatRep.nil _ _ _,fun b hb=>by cases hb⟩
   .split at hd<;>simp at hd
  .cases x<;>simp only[uc,Option.some.injEq,Prod.mk.injEq,reduceCtorEq,false_and]at hd;rename_i k' g i' m;split at hd
   .rename_i c' hown;simp only[Option.some.injEq,Prod.mk.injEq]at hd;obtain⟨⟨rfl,rfl⟩,rfl⟩:=hd;obtain⟨hg,rfl,rfl⟩:=hc1;have ho:s.own k'=(g,some c'):=by rw[<-hg,<-hown]
    rcases h.als_at hx ho with⟨h1,_,h3,rfl⟩|⟨b,cap,cur,h1,rfl,h3,h4,h5,h6,h7⟩
    .have:c'.rows=[]:=(h.sites k' c' hown).emp h1;rw[this];exact⟨none,[],⟨ah,.inl ⟨O,O,O⟩⟩,FlatRep.nil _ _ _,fun b hb=>by cases hb⟩
    .have hsite:=h.sites k' c' hown;simp only at h1 h3 h6;rw[h1]at hsite;obtain⟨cur',g1,g2,g3,g4⟩:=hsite.flat (h.cells_sz ho h1 h3 h6);have g1':w.heap[b]? = some (.cells cur' c'.ty (0,0)):=g1;rw[g1']at h3;simp only[Option.some.injEq,Obj.cells.injEq,and_true]at h3;obtain⟨rfl,_⟩:=h3;rw[<-hcs];refine⟨some b,_,⟨g4.len,.inr ⟨b,cap,_,O,ah,by rw[<-hct];exact g1',h4,h5,by rw[h6,Nat.zero_add],O⟩⟩,g4,fun b' hb'=>?_⟩;simp at hb';subst hb';exact⟨by simp[hown],h1⟩
   .simp at hd
 obtain⟨v',w',blk',hrun,⟨hwl,hwhole⟩,t1,t2,t3,t4,t5,t6⟩:=tN (P:=P) (w:=w) T ty e i z re.size hu hi hz1 hisz hz2 blk vx rows1.length olds hwh vy rows2.length news hsrc h63 (by rw[hiby];exact hb);have ht:Turn C γ s w w' k blk':=⟨t1,t2,t3,t4,fun b hb=>(t5 b hb).imp id (fun e=>hblk b e),fun b hb=>⟨(t6 b hb).1,(t6 b hb).2.imp id (fun e=>hblk b e)⟩⟩;have hle:=ht.le h ⟨e,re.size,rows1++rows2,kd⟩;have hfl:=((hfl1.up ax hk1).append (hfl2.up ax hk2)).mono hle;have hl':(rows1++rows2).length=rows1.length+rows2.length:=List.length_append;refine⟨v',w',blk',hrun,ht.sim h ?_,.als ?_ fun _ l hl=>?_⟩
 .rcases hwhole with⟨rfl,rfl,h0⟩|⟨b,cap,cur,rfl,rfl,f1,f2,f3,f4,f5⟩
  .exact .none_ (List.eq_nil_of_length_eq_zero (by rw[hl'];exact h0))
  .refine SiteOk.of_flat hfl hsz f1 ?_ (by rw[hl'];exact f5);rw[hl',f4];exact Nat.mul_le_mul_right _ f2
 .show _<=((s.fin k _).own k).1;rw[St.fin,ak];exact aP
 .simp only[ao,St.fin,ak,bU,Option.map_some,Option.some.injEq]at hl;subst hl;rw[hl'];rcases hwhole with⟨rfl,rfl,h0⟩|⟨b,cap,cur,rfl,rfl,f1,f2,f3,f4,f5⟩
  .exact .inl ⟨O,O,h0,O⟩
  .exact .inr ⟨b,cap,cur,O,ah,f1,f2,f3,by rw[f4,Nat.zero_add],ah⟩
theorem Dj {T:TypeId}{k sz kd:Nat}{rows:List (List PV)}{cur:Array Value}(h:Sim C γ s a w)(hsz:0<sz)(hm:rows.length<=maxLen)(hf:FlatRep (ao C γ s w) kd sz rows cur.toList) :
  Sim C (iD γ k (some w.heap.size)) (s.fin k ⟨T,sz,rows,kd⟩) a (w.alloc (.cells cur T)) /\
   Rep (ao C (iD γ k (some w.heap.size)) (s.fin k ⟨T,sz,rows,kd⟩) (w.alloc (.cells cur T))) (.als k ((s.own k).1+1) 0 rows.length) (.slice (some ⟨w.heap.size,0,none⟩) rows.length rows.length):=by
 have ht:Turn C γ s w (w.alloc (.cells cur T)) k (some w.heap.size):=Turn.alloc _ k;have hle:=ht.le h ⟨T,sz,rows,kd⟩;have hlen:cur.size=rows.length*sz:=by have:=hf.len;simpa using this
 refine⟨ht.sim h (SiteOk.of_flat (hf.mono hle) hsz (bj _ _) J ?_),.als ?_ fun _ l hl=>?_⟩
 .exact List.take_of_length_le (by simp[hlen])
 .show _<=((s.fin k _).own k).1;rw[St.fin,ak];exact aP
 .simp only[ao,St.fin,ak,bU,Option.map_some,Option.some.injEq]at hl;subst hl;exact .inr ⟨w.heap.size,rows.length,cur,O,ah,bj _ _,aP,hm,by rw[hlen,Nat.zero_add],ah⟩
theorem AM {T:TypeId}{k sz kd cap:Nat}{rows:List (List PV)}{cur:Array Value}(h:Sim C γ s a w)(hsz:0<sz)(hm:cap<=maxLen)(hcap:cur.size=cap*sz)(hrc:rows.length<=cap)(hf:FlatRep (ao C γ s w) kd sz rows (cur.toList.take (rows.length*sz))) :
  Sim C (iD γ k (some w.heap.size)) (s.fin k ⟨T,sz,rows,kd⟩) a (w.alloc (.cells cur T)) /\
   Rep (ao C (iD γ k (some w.heap.size)) (s.fin k ⟨T,sz,rows,kd⟩) (w.alloc (.cells cur T))) (.als k ((s.own k).1+1) 0 rows.length) (.slice (some ⟨w.heap.size,0,none⟩) rows.length cap):=by
 have ht:Turn C γ s w (w.alloc (.cells cur T)) k (some w.heap.size):=Turn.alloc _ k;have hle:=ht.le h ⟨T,sz,rows,kd⟩;have hmul:rows.length*sz<=cap*sz:=Nat.mul_le_mul_right _ hrc;refine⟨ht.sim h (SiteOk.of_flat (hf.mono hle) hsz (bj _ _) J O),.als ?_ fun _ l hl=>?_⟩
 .show _<=((s.fin k _).own k).1;rw[St.fin,ak];exact aP
 .simp only[ao,St.fin,ak,bU,Option.map_some,Option.some.injEq]at hl;subst hl;exact .inr ⟨w.heap.size,cap,cur,O,ah,bj _ _,hrc,hm,by rw[hcap,Nat.zero_add],ah⟩
end
def su (P:Program):Nat->List Field->List Sh->Bool
 |_,[],[]=>true
 |i, f :: fs, k :: ks => !(f.name == "_") && Nat.beq f.offset i && (match P.underlying f.type with | some d => (match k with | .bool => Sh.fits .bool d | .int k => Sh.fits (.int k) d | .str => Sh.fits .str d | _ => false) | none => false) && su P (i + 1) fs ks
 |_,_,_=>false
def Cz (P:Program)(T:TypeId)(ks:List Sh):Bool:=match P.underlying T with
 |some (.struct fs)=>su P 0 fs.toList ks&&!P.stoodInHeld T&&!P.eqGuardType P.depth T
 |_=>false
def kW:List Sh->List PV->List PV->Option Bool
 |[],[],[]=>some true
 |.int k::ks,.int k1 a::us,.int k2 b::vs=>match decide (k=k1),decide (k=k2) with
  |true,true=>(match kW ks us vs with|some r=>some (decide (a=b)&&r)|none=>none)
  |_,_=>none
 |.bool::ks,.bool a::us,.bool b::vs=>match kW ks us vs with|some r=>some (decide (a=b)&&r)|none=>none
 |.str::ks,.str a::us,.str b::vs=>match kW ks us vs with|some r=>some (decide (a=b)&&r)|none=>none
 |_,_,_=>none
section
variable {P:Program}{E:Env}{w:World}
theorem ti (d : Nat){xs ys : Array Value}{f : Field}{fs : List Field}{x y : Value}{e r : Bool}(hn : f.name ≠ "_")(hp : P.plainKey f.type = true)(hx : xs[f.offset]? = some x)(hy : ys[f.offset]? = some y)
  (he:(Op.equalIn (d+1) f.type x y).run P w = .ok e w) (hr:(Op.eqFields (d+1) xs ys fs).run P w = .ok r w):(Op.eqFields (d+1) xs ys (f::fs)).run P w = .ok (e&&r) w:=by
 simp only[Op.eqFields,hn,ne_eq,not_false_eq_true,if_true,Sem.run_bind,run_part_plain w hp hx,run_part_plain w hp hy,Result.andThen_ok,he];cases e
 .simp
 .simpa using hr
theorem vC (d:Nat){xs ys:Array Value}:∀(fs:List Field) (ks:List Sh) (us vs:List PV) (i:Nat) (b:Bool),su P i fs ks=true->kW ks us vs=some b ->
  (∀(j:Nat) (c:PV),us[j]? = some c->∃v,xs[i+j]? = some v/\Rep E c v)->(∀(j:Nat) (c:PV),vs[j]? = some c->∃v,ys[i+j]? = some v/\Rep E c v)->(Op.eqFields (d+1) xs ys fs).run P w = .ok b w
 |[],ks,us,vs,i,b,h1,h2,_,_=>by
  cases ks with
  |cons=>simp[su]at h1
  |nil =>
   unfold kW at h2;split at h2<;>simp_all [Op.eqFields]
 |f::fs,ks,us,vs,i,b,h1,h2,hx,hy=>by
  cases ks with
  |nil=>simp[su]at h1
  |cons k ks =>
   simp only[su,Bool.and_eq_true,Bool.not_eq_true',beq_eq_false_iff_ne]at h1;obtain⟨⟨⟨hn,ho⟩,ht⟩,hr⟩:=h1;have ho:=Nat.eq_of_beq_eq_true ho;cases hu:P.underlying f.type with
   |none=>rw[hu]at ht;cases ht
   |some de =>
    rw[hu]at ht;dsimp only at ht;have next:∀(us' vs':List PV) (u v:PV) (r:Bool),us=u::us'->vs=v::vs'->kW ks us' vs'=some r->(Op.eqFields (d+1) xs ys fs).run P w = .ok r w:=by
     rintro us' vs' u v r rfl rfl hl;refine vC d fs ks us' vs' (i+1) r hr hl (fun j c hj=>?_) (fun j c hj=>?_)
     .have:=hx (j+1) c (by simpa using hj);rwa [show i+(j+1)=i+1+j by omega]at this
     .have:=hy (j+1) c (by simpa using hj);rwa [show i+(j+1)=i+1+j by omega]at this
    unfold kW at h2;split at h2
    .cases ‹_::_=[]›
    .rename_i k' ks' k1 a us' k2 c vs' hk;cases hk;have hde:de = .int k':=by cases de<;>simp[Sh.fits]at ht;subst ht;rfl
     subst hde;split at h2
     .rename_i hk1 hk2;have hk1:=aC hk1;have hk2:=aC hk2;subst hk1;subst hk2;split at h2
      .rename_i r hl;cases h2;obtain⟨x,g1,g2⟩:=hx 0 _ O;obtain⟨y,g3,g4⟩:=hy 0 _ O;rw[g2.int_inv]at g1;rw[g4.int_inv]at g3;refine ti d hn (by unfold Program.plainKey;rw[hu]) (by rw[ho];exact g1) (by rw[ho];exact g3) ?_ (next _ _ _ _ r O O hl);rw[run_equalIn_int w d f.type k' k' a c hu,Bool.beq_eq_decide_eq]
      .cases h2
     .cases h2
    .rename_i ks' a us' c vs' hk;cases hk;have hde:de = .bool:=by cases de<;>simp[Sh.fits]at ht;rfl
     subst hde;split at h2
     .rename_i r hl;cases h2;obtain⟨x,g1,g2⟩:=hx 0 _ O;obtain⟨y,g3,g4⟩:=hy 0 _ O;rw[g2.bool_inv]at g1;rw[g4.bool_inv]at g3;refine ti d hn (by unfold Program.plainKey;rw[hu]) (by rw[ho];exact g1) (by rw[ho];exact g3) ?_ (next _ _ _ _ r O O hl);rw[run_equalIn_bool' w d f.type a c hu,Bool.beq_eq_decide_eq]
     .cases h2
    .rename_i ks' a us' c vs' hk;cases hk;have hde:de = .string:=by cases de<;>simp[Sh.fits]at ht;rfl
     subst hde;split at h2
     .rename_i r hl;cases h2;obtain⟨x,g1,g2⟩:=hx 0 _ O;obtain⟨y,g3,g4⟩:=hy 0 _ O;rw[g2.str_inv]at g1;rw[g4.str_inv]at g3;refine ti d hn (by unfold Program.plainKey;rw[hu]) (by rw[ho];exact g1) (by rw[ho];exact g3) ?_ (next _ _ _ _ r O O hl);rw[run_equalIn_string w d f.type _ _ hu,lF,lF,Bool.beq_eq_decide_eq]
     .cases h2
    .cases h2
theorem pH {T:TypeId}{ks:List Sh}{us vs:List PV}{a b:Value}{r:Bool}(hT:Cz P T ks=true)(hl:kW ks us vs=some r)(hx:Rep E (.agg us) a)(hy:Rep E (.agg vs) b):(Op.equalIn 10000 T a b).run P w = .ok r w:=by
 obtain⟨xs,rfl,hxl,hxs⟩:=hx.agg_inv;obtain⟨ys,rfl,hyl,hys⟩:=hy.agg_inv;unfold Cz at hT;split at hT
 .rename_i fs hu;simp only[Bool.and_eq_true,Bool.not_eq_true']at hT;obtain⟨⟨h1,h2⟩,h3⟩:=hT;have hfo:P.fieldsOf T=fs:=by unfold Program.fieldsOf;rw[hu]
  rw[show(10000:Nat)=9998+1+1 from O,run_equalIn_struct w (9998+1) T _ _ (by rw[hfo];exact hu) h2,hfo];refine vC (E:=E) 9998 _ _ us vs 0 r h1 hl (fun j c hj=>?_) (fun j c hj=>?_)
  .have hlt:j<xs.length:=by rw[<-hxl];exact(bb hj).1
   exact⟨xs[j],by rw[Nat.zero_add];simp[hlt],hxs j c _ hj (List.getElem?_eq_getElem hlt)⟩
  .have hlt:j<ys.length:=by rw[<-hyl];exact(bb hj).1
   exact⟨ys[j],by rw[Nat.zero_add];simp[hlt],hys j c _ hj (List.getElem?_eq_getElem hlt)⟩
 .cases hT
theorem Gr {T:TypeId}{ks:List Sh}{us vs:List PV}{a b:Value}{r:Bool}{x y:Operand}(hT:Cz P T ks=true)(hl:kW ks us vs=some r)(hx:Rep E (.agg us) a)(hy:Rep E (.agg vs) b) :
  (do eqGuard .eql T x y a b;binOp .eql T a b:Sem Value).run P w = .ok (.bool r) w/\(do eqGuard .neq T x y a b;binOp .neq T a b:Sem Value).run P w = .ok (.bool (!r)) w:=by
 obtain⟨xs,rfl,hxl,hxs⟩:=hx.agg_inv;obtain⟨ys,rfl,hyl,hys⟩:=hy.agg_inv;have hT0:=hT;unfold Cz at hT;split at hT
 .rename_i fs hu;simp only[Bool.and_eq_true,Bool.not_eq_true']at hT;obtain⟨⟨h1,h2⟩,h3⟩:=hT;have hrun:(Op.equalIn 10000 T (.agg xs.toArray) (.agg ys.toArray)).run P w = .ok r w:=pH hT0 hl hx hy;constructor
  .rw[Sem.run_bind,run_eqGuard_agg w .eql T x y _ _ h3,Result.andThen_ok,run_eql_struct,hrun,Result.andThen_ok]
  .rw[Sem.run_bind,run_eqGuard_agg w .neq T x y _ _ h3,Result.andThen_ok,run_neq_struct,hrun,Result.andThen_ok]
 .cases hT
def mC:List Sh->List PV->Bool
 |[],[]=>true
 |.int k::ks,.int k' _::us=>decide (k=k')&&mC ks us
 |.bool::ks,.bool _::us=>mC ks us
 |.str::ks,.str _::us=>mC ks us
 |_,_=>false
def scv:PV->Value
 |.int k n => .int k n
 |.bool b => .bool b
 |.str s => .string ⟨s.toArray⟩
 |_=>undef
theorem cV {ks:List Sh}{u:PV}{us:List PV}(h:mC ks (u::us)=true):∃k ks',ks=k::ks'/\mC ks' us=true/\((∃q n,k = .int q/\u = .int q n)\/(∃b,k = .bool/\u = .bool b)\/∃s,k = .str/\u = .str s):=by
 unfold mC at h;split at h
 .rename_i he;cases he
 .rename_i q ks' q' n us' he;cases he;rw[Bool.and_eq_true]at h;have:=aC h.1;subst this;exact⟨_,_,O,h.2,.inl ⟨_,_,O,O⟩⟩
 .rename_i ks' b us' he;cases he;exact⟨_,_,O,h,.inr (.inl ⟨_,O,O⟩)⟩
 .rename_i ks' s us' he;cases he;exact⟨_,_,O,h,.inr (.inr ⟨_,O,O⟩)⟩
 .cases h
theorem Gu {ks:List Sh}{u:PV}{us:List PV}{v:Value}(h:mC ks (u::us)=true)(hr:Rep E u v):v=scv u:=by
 obtain⟨k,ks',_,_,h⟩:=cV h;rcases h with⟨q,n,_,rfl⟩|⟨b,_,rfl⟩|⟨s,_,rfl⟩
 .exact hr.int_inv
 .exact hr.bool_inv
 .exact hr.str_inv
theorem vL:∀ {ks:List Sh} {us:List PV} {vs:List Value},mC ks us=true->us.length=vs.length->(∀(i:Nat) (c:PV) (v:Value),us[i]? = some c->vs[i]? = some v->Rep E c v)->vs=us.map scv
 |_,[],vs,_,hl,_=>by
  have:vs=[]:=List.eq_nil_of_length_eq_zero (by simpa using hl.symm);rw[this];rfl
 |_,u::us,[],_,hl,_=>by simp at hl
 |_,u::us,v::vs,h,hl,hd=>by
  obtain⟨k,ks',_,h2,_⟩:=cV h;have h5:vs=us.map scv:=vL h2 (by simpa using hl) fun i c v e1 e2=>hd (i+1) c v (by simpa using e1) (by simpa using e2);have h6:v=scv u:=Gu h (hd 0 u v O O);rw[List.map_cons,h5,h6]
theorem j3 {ks:List Sh}{us:List PV}{v:Value}(h:mC ks us=true)(hr:Rep E (.agg us) v):v = .agg (us.map scv).toArray:=by
 obtain⟨vs,rfl,hl,hd⟩:=hr.agg_inv;rw[vL h hl hd]
theorem vK (w:World)(ok:Nat->Prop):∀ {ks:List Sh} {us:List PV},mC ks us=true->∀(i:Nat) (c:PV),us[i]? = some c->DRep w ok c (scv c)/\(scv c).oneCell'=true
 |_,[],_,i,c,hi=>by simp at hi
 |_,u::us,h,i,c,hi=>by
  obtain⟨k,ks',_,h2,h⟩:=cV h;cases i with
  |zero =>
   simp at hi;subst hi;rcases h with⟨q,n,_,rfl⟩|⟨b,_,rfl⟩|⟨s,_,rfl⟩
   .exact⟨.int _ _,O⟩
   .exact⟨.bool _,O⟩
   .exact⟨.str _,O⟩
  |succ i=>exact vK w ok h2 i c (by simpa using hi)
theorem tm:∀ {ks:List Sh} {us vs:List PV},mC ks us=true->mC ks vs=true->us.map scv=vs.map scv->us=vs
 |ks,[],[],_,_,_=>rfl
 |ks,[],v::vs,_,_,h=>by simp at h
 |ks,u::us,[],_,_,h=>by simp at h
 |ks,u::us,v::vs,h1,h2,h=>by
  obtain⟨k,ks',rfl,g1,g2⟩:=cV h1;obtain⟨k2,ks2,hk,g3,g4⟩:=cV h2;cases hk;simp only[List.map_cons,List.cons.injEq]at h;have:=tm g1 g3 h.2;subst this;congr 1;have h:=h.1;rcases g2 with⟨q,n,rfl,rfl⟩|⟨b,rfl,rfl⟩|⟨s,rfl,rfl⟩<;>rcases g4 with⟨q',n',hk',rfl⟩|⟨b',hk',rfl⟩|⟨s',hk',rfl⟩<;>(try cases hk')<;>simp[scv]at h<;>rw[h]
theorem uH:∀ {ks:List Sh} {us vs:List PV},mC ks us=true->mC ks vs=true->∃r,kW ks us vs=some r/\(r=true↔us=vs)
 |ks,[],[],h,_=>by
  unfold mC at h;split at h<;>simp_all [kW]
 |ks,[],v::vs,h,h'=>by
  obtain⟨k,ks',rfl,_⟩:=cV h';cases k<;>simp[mC]at h
 |ks,u::us,[],h,h'=>by
  obtain⟨k,ks',rfl,_⟩:=cV h;cases k<;>simp[mC]at h'
 |ks,u::us,v::vs,h1,h2=>by
  obtain⟨k,ks',rfl,g1,g2⟩:=cV h1;obtain⟨k2,ks2,hk,g3,g4⟩:=cV h2;cases hk;obtain⟨r,e1,e2⟩:=uH g1 g3;rcases g2 with⟨q,n,rfl,rfl⟩|⟨b,rfl,rfl⟩|⟨s,rfl,rfl⟩<;>rcases g4 with⟨q',n',hk',rfl⟩|⟨b',hk',rfl⟩|⟨s',hk',rfl⟩<;>(try cases hk')
  .exact⟨decide (n=n')&&r,by simp[kW,e1],by simp[e2]⟩
  .exact⟨decide (b=b')&&r,by simp[kW,e1],by simp[e2]⟩
  .exact⟨decide (s=s')&&r,by simp[kW,e1],by simp[e2]⟩
theorem qB {T:TypeId}{ks:List Sh}{us:List PV}{v:Value}(em:Bool)(hT:Cz P T ks=true)(hs:mC ks us=true)(hx:Rep E (.agg us) v):(Instr.checkKey em 10000 T v).run P w = .ok () w:=by
 obtain⟨vs,rfl,hxl,hxs⟩:=hx.agg_inv;unfold Cz at hT;split at hT
 .rename_i fs hu;simp only[Bool.and_eq_true,Bool.not_eq_true']at hT;obtain⟨⟨h1,_⟩,_⟩:=hT;rw[show(10000:Nat)=9998+1+1 from O,Instr.checkKey];simp only[Sem.run_bind,run_underlying hu,Result.andThen_ok];rw[<-Array.forIn_toList]
  have key:∀(L:List Field) (ks:List Sh) (us:List PV) (i:Nat),su P i L ks=true->mC ks us=true->(∀(j:Nat) (c:PV),us[j]? = some c->∃v,vs.toArray[i+j]? = some v/\Rep E c v) ->
    (forIn L PUnit.unit (fun f (_ : PUnit) => if f.name ≠ "_" then do
      let x <-_root_.Go.part f.type vs.toArray f.offset
      Instr.checkKey em (9998+1) f.type x
      pure (ForInStep.yield PUnit.unit)
     else pure (ForInStep.yield PUnit.unit)):Sem PUnit).run P w = .ok () w:=by
   intro L
   induction L with
   |nil=>intro ks us i _ _ _;simp
   |cons f L ih =>
    intro ks us i h1 h2 h3;cases ks with
    |nil=>simp[su]at h1
    |cons k ks =>
     simp only[su,Bool.and_eq_true,Bool.not_eq_true',beq_eq_false_iff_ne]at h1;obtain⟨⟨⟨hn,ho⟩,ht⟩,hr⟩:=h1;have ho:=Nat.eq_of_beq_eq_true ho;cases us with
     |nil=>cases k<;>simp[mC]at h2
     |cons u us =>
      obtain⟨k',ks',hk',g1,g2⟩:=cV h2;cases hk';obtain⟨x,x1,x2⟩:=h3 0 u O;rw[Nat.add_zero]at x1;cases hud:P.underlying f.type with
      |none=>rw[hud]at ht;cases ht
      |some de =>
       rw[hud]at ht;dsimp only at ht;have hIs:MapKept.IsKey de x/\P.plainKey f.type=true:=by
        rcases g2 with⟨q,n,rfl,rfl⟩|⟨b,rfl,rfl⟩|⟨s,rfl,rfl⟩
        .have hde:de = .int q:=by cases de<;>simp[Sh.fits]at ht;subst ht;rfl
         subst hde;rw[x2.int_inv];exact⟨O,by unfold Program.plainKey;rw[hud]⟩
        .have hde:de = .bool:=by cases de<;>simp[Sh.fits]at ht;rfl
         subst hde;rw[x2.bool_inv];exact⟨trivial,by unfold Program.plainKey;rw[hud]⟩
        .have hde:de = .string:=by cases de<;>simp[Sh.fits]at ht;rfl
         subst hde;rw[x2.str_inv];exact⟨trivial,by unfold Program.plainKey;rw[hud]⟩
       have p1:=run_part_plain w hIs.2 (off:=f.offset) (by rw[ho];exact x1);have p2:=MapKept.run_checkKey (w:=w) hud hIs.1 em 9998;simp only[List.forIn_cons,Sem.run_bind,hn,ne_eq,not_false_eq_true,if_true,Result.andThen_ok,p1,p2,Sem.run_pure];refine ih ks us (i+1) hr g1 fun j c hj=>?_;have:=h3 (j+1) c (by simpa using hj);rwa [show i+(j+1)=i+1+j by omega]at this
  rw[key fs.toList ks us 0 h1 hs fun j c hj=>?_]
  .rfl
  have hlt:j<vs.length:=by rw[<-hxl];exact(bb hj).1
  exact⟨vs[j],by rw[Nat.zero_add];simp[hlt],hxs j c _ hj (List.getElem?_eq_getElem hlt)⟩
 .cases hT
theorem xC {ks:List Sh}{us:List PV}{v:Value}(hs:mC ks us=true)(hx:Rep E (.agg us) v):(Instr.keyThatStays v v).run P w = .ok v w:=by
 have hv:=j3 hs hx;subst hv;have one:∀(n:Nat) (c:PV),c∈us->Instr.sameBits (n+1) (scv c) (scv c)=true:=fun n c hc=>by
  obtain⟨i,hi,rfl⟩:=List.getElem_of_mem hc;have:∀ {ks:List Sh} {us:List PV} (i:Nat) (c:PV),mC ks us=true->us[i]? = some c->(∃q n,c = .int q n)\/(∃b,c = .bool b)\/∃s,c = .str s:=by
   intro ks us
   induction us generalizing ks with
   |nil=>intro i c _ h;simp at h
   |cons u us ih =>
    intro i c h hi;obtain⟨k,ks',_,h2,h⟩:=cV h;cases i with
    |zero =>
     simp at hi;subst hi;rcases h with⟨q,n,_,rfl⟩|⟨b,_,rfl⟩|⟨s,_,rfl⟩
     .exact .inl ⟨_,_,O⟩
     .exact .inr (.inl ⟨_,O⟩)
     .exact .inr (.inr ⟨_,O⟩)
    |succ i=>exact ih i c h2 (by simpa using hi)
  rcases this i _ hs (List.getElem?_eq_getElem hi) with⟨q,m,h⟩|⟨b,h⟩|⟨s,h⟩<;>rw[h]<;>simp[scv,Instr.sameBits,MapKept.bytes_beq]
 have hb:Instr.sameBits 10000 (.agg (us.map scv).toArray) (.agg (us.map scv).toArray)=true:=by
  rw[show(10000:Nat)=9998+1+1 from O,Instr.sameBits];rw[Bool.and_eq_true];refine⟨ah,?_⟩;rw[List.all_eq_true];rintro⟨x,y⟩ hxy;have hzip:∀(l:List Value),(x,y)∈l.zip l->x=y/\x∈l:=by
   intro l
   induction l with
   |nil=>intro h;simp at h
   |cons a l ih =>
    intro h;rw[List.zip_cons_cons,List.mem_cons]at h;rcases h with h|h
    .cases h;exact⟨O,ah⟩
    .exact⟨(ih h).1,by simp[(ih h).2]⟩
  obtain⟨rfl,hm⟩:=hzip _ hxy;simp only[List.mem_map]at hm;obtain⟨c,hc,rfl⟩:=hm;exact one 9998 c hc
 simp[Instr.keyThatStays,hb]
theorem th {T:TypeId}{ks:List Sh}{us:List PV}{v:Value}(hT:Cz P T ks=true)(hs:mC ks us=true)(hx:Rep E (.agg us) v)(es:List MapEntry)(hes:∀e∈es,∃us',mC ks us'=true/\Rep E (.agg us') e.key) :
  ((Instr.findKey T v es).run P w = .ok none w/\∀e∈es,e.key≠v)\/∃j e,(Instr.findKey T v es).run P w = .ok (some (j,e.val)) w/\es[j]? = some e/\e.key=v/\∀i e',i<j->es[i]? = some e'->e'.key≠v:=by
 have hT0:=hT;unfold Cz at hT;split at hT
 .rename_i fs hu
  have ask:∀(l:List MapEntry) (n:Nat),(∀e∈l,∃us',mC ks us'=true/\Rep E (.agg us') e.key) ->
    ((Instr.findAsking T v l n).run P w = .ok none w/\∀e∈l,e.key≠v)\/∃j e,(Instr.findAsking T v l n).run P w = .ok (some (n+j,e.val)) w/\l[j]? = some e/\e.key=v/\∀i e',i<j->l[i]? = some e'->e'.key≠v:=by
   intro l
   induction l with
   |nil=>intro n _;exact .inl ⟨by simp[Instr.findAsking],fun e he=>by simp at he⟩
   |cons e l ih =>
    intro n hl;obtain⟨us',h1,h2⟩:=hl e ah;obtain⟨r,hr,hiff⟩:=uH hs h1;have heq:(Op.equal T v e.key).run P w = .ok r w:=pH hT0 hr hx h2;have hkey:r=true↔e.key=v:=by
     rw[hiff,j3 hs hx,j3 h1 h2];constructor
     .intro h;rw[h]
     .intro h;simp only[Value.agg.injEq]at h;have h:=congrArg Array.toList h;simp only[List.toList_toArray]at h;exact(tm h1 hs h).symm
    cases r with
    |true=>exact .inr ⟨0,e,by simp[Instr.findAsking,heq],rfl,hkey.1 rfl,fun i e' hi=>by omega⟩
    |false =>
     have hne:e.key≠v:=fun h=>by have:=hkey.2 h;cases this
     rcases ih (n+1) (fun e he=>hl e (by simp[he])) with⟨g1,g2⟩|⟨j,e',g1,g2,g3,g4⟩
     .refine .inl ⟨by simp[Instr.findAsking,heq,g1],fun x hx=>?_⟩;rcases List.mem_cons.1 hx with rfl|hx
      .exact hne
      .exact g2 x hx
     .refine .inr ⟨j+1,e',by simp only[Instr.findAsking,Sem.run_bind,heq,Result.andThen_ok,Bool.false_eq_true,if_false,g1];rw[show n+1+j=n+(j+1) by omega],by simpa using g2,g3,fun i x hi hxi=>?_⟩;cases i with
      |zero=>simp at hxi;subst hxi;exact hne
      |succ i=>exact g4 i x J (by simpa using hxi)
  have hfind:(Instr.findKey T v es).run P w=(Instr.findAsking T v es 0).run P w:=by
   cases es with
   |nil=>simp[Instr.findKey,run_underlying hu,Result.andThen,Instr.findNow,Instr.findAsking]
   |cons e es =>
    have:Instr.findNow (.struct fs) v (e::es) 0=none:=by simp[Instr.findNow,Instr.sameNow]
    simp[Instr.findKey,run_underlying hu,Result.andThen,this]
  rw[hfind];rcases ask es 0 hes with h|⟨j,e,g1,g2,g3,g4⟩
  .exact .inl h
  .exact .inr ⟨j,e,by rw[g1,Nat.zero_add],g2,g3,g4⟩
 .cases hT
end
end Go.Pv
namespace Go.Pv
open Go.RowKit Go.MapKept Go.ChangeMaps
def Au:PV->PV->Bool
 |.int _ a,.int _ b=>decide (a=b)
 |.str a,.str b=>decide (a=b)
 |.bool a,.bool b=>a==b
 |_,_=>false
def wV:List PV->List PV->Bool
 |[],[]=>true
 |a::as,b::bs=>Au a b&&wV as bs
 |_,_=>false
def FI:PV->PV->Bool
 |.agg as,.agg bs=>wV as bs
 |a,b=>Au a b
def wt (k:PV):List PV->Bool
 |c::_=>FI c k
 |[]=>false
def gj (k:PV):List (List PV)->Option Nat
 |[]=>none
 |row::rows=>bif wt k row then some 0 else(gj k rows).map (·+1)
def Sh.key:Sh->PV->Bool
 |.int k,.int k' _=>decide (k=k')
 |.str,.str _=>true
 |.bool,.bool _=>true
 |_,_=>false
def gL (sh:Sh)(rows:List (List PV)):Bool:=rows.all fun row=>match row with|c::_=>sh.key c|[]=>false
theorem mM {key:PV}:∀ {rows:List (List PV)} {i:Nat},gj key rows=some i->i<rows.length
 |[],i,h=>by simp[gj]at h
 |row::rows,i,h=>by
  simp only[gj]at h;cases hb:wt key row with
  |true=>rw[hb]at h;simp at h;subst h;simp
  |false =>
   rw[hb]at h;simp only[cond_false,Option.map_eq_some_iff]at h;obtain⟨j,hj,rfl⟩:=h;have:=mM hj;simp;omega
theorem dU {d:TypeDesc}{sh:Sh}{c:PV}{v:Value}{E:Env}(hf:sh.fits d=true)(hk:sh.key c=true)(hr:Rep E c v):IsKey d v:=by
 cases sh<;>cases c<;>simp only[Sh.key,Bool.false_eq_true]at hk<;>cases d<;>simp only[Sh.fits,Bool.false_eq_true]at hf
 .rw[hr.int_inv];have h1:=aC hf;have h2:=aC hk;subst h1;subst h2;simp[IsKey]
 .rw[hr.str_inv];simp[IsKey]
 .rw[hr.bool_inv];simp[IsKey]
theorem ux {sh:Sh}{c k:PV}{v u:Value}{E:Env}(h1:sh.key c=true)(h2:sh.key k=true)(r1:Rep E c v)(r2:Rep E k u):FI c k=true↔v=u:=by
 cases sh<;>cases c<;>simp only[Sh.key,Bool.false_eq_true]at h1<;>cases k<;>simp only[Sh.key,Bool.false_eq_true]at h2
 .rw[r1.int_inv,r2.int_inv];have e1:=aC h1;have e2:=aC h2;subst e1;subst e2;simp[FI,Au]
 .rw[r1.str_inv,r2.str_inv];simp[FI,Au]
 .rw[r1.bool_inv,r2.bool_inv];simp[FI,Au]
theorem js {E:Env}{sh:Sh}{key:PV}{kv:Value}(hk:sh.key key=true)(hr:Rep E key kv):∀(rows:List (List PV)) (es:List MapEntry),gL sh rows=true->rows.length=es.length ->
  (∀(i:Nat) (row:List PV) (c:PV) (e:MapEntry),rows[i]? = some row->row[0]? = some c->es[i]? = some e->Rep E c e.key) ->
  (gj key rows=none->∀e∈es,e.key≠kv)/\(∀i,gj key rows=some i->(∃e,es[i]? = some e/\e.key=kv)/\∀j e,j<i->es[j]? = some e->e.key≠kv)
 |[],es,_,hl,_=>by
  have:es=[]:=List.eq_nil_of_length_eq_zero (by simpa using hl.symm);subst this;exact⟨fun _ e he=>by simp at he,fun i h=>by simp[gj]at h⟩
 |row::rows,es,hrows,hl,hd=>by
  cases es with
  |nil=>simp at hl
  |cons e es =>
   simp only[gL,List.all_cons,Bool.and_eq_true]at hrows;obtain⟨ih1,ih2⟩:=js hk hr rows es hrows.2 (by simpa using hl) (fun i row c e e1 e2 e3=>hd (i+1) row c e (by simpa using e1) e2 (by simpa using e3));cases row with
   |nil=>simp at hrows
   |cons c row =>
    have h0:=ux (E:=E) (by simpa using hrows.1) hk (hd 0 (c::row) c e O O O) hr;cases hq:FI c key with
    |true =>
     have he:=h0.1 hq;refine⟨fun h=>by simp[gj,wt,hq]at h,fun i h=>?_⟩;simp[gj,wt,hq]at h;subst h;exact⟨⟨e,O,he⟩,fun j e' hj _=>by omega⟩
    |false =>
     have he:e.key≠kv:=fun q=>by have:=h0.2 q;rw[hq]at this;cases this
     refine⟨fun h e' he'=>?_,fun i h=>?_⟩
     .simp[gj,wt,hq]at h;rcases List.mem_cons.1 he' with rfl|he'
      .exact he
      .exact ih1 h e' he'
     .simp only[gj,wt,hq,cond_false,Option.map_eq_some_iff]at h;obtain⟨i',h1,rfl⟩:=h;obtain⟨⟨e',f1,f2⟩,f3⟩:=ih2 i' h1;refine⟨⟨e',by simpa using f1,f2⟩,fun j e'' hj hje=>?_⟩;cases j with
      |zero=>simp at hje;subst hje;exact he
      |succ j=>exact f3 j e'' J (by simpa using hje)
theorem f_ {d:TypeDesc}{kv:Value}(hk:IsKey d kv):∀(l:List MapEntry) (n j i:Nat) (e e':MapEntry),(∀x∈l,IsKey d x.key)->l[i]? = some e->e.key=kv->i<j->Instr.findNow d kv l n≠some (some (n+j,e'.val))
 |[],n,j,i,e,e',_,hl,_,_,_=>by simp at hl
 |q::l,n,j,i,e,e',hq,hl,he,hij,hfn=>by
  obtain⟨rr,hrr,hiff⟩:=sameNow_of_keys hk (hq q (.head _));cases rr with
  |true=>simp[Instr.findNow,hrr]at hfn;omega
  |false =>
   cases i with
   |zero=>simp at hl;subst hl;have:=hiff.2 he.symm;cases this
   |succ i =>
    simp only[Instr.findNow,hrr]at hfn;exact f_ hk l (n+1) (j-1) i e e' (fun x hx=>hq x (.tail _ hx)) (by simpa using hl) he J (by rw[hfn];congr 3;omega)
theorem lS {sh:Sh}{rows:List (List PV)}(h:gL sh rows=true){i:Nat}{row:List PV}{c:PV}(e1:rows[i]? = some row)(e2:row[0]? = some c):sh.key c=true:=by
 have:=List.all_eq_true.1 h row (bc e1);cases row with
 |nil=>simp at e2
 |cons c' row=>simp at e2;subst e2;exact this
theorem q_:∀ {ks:List Sh} {us vs:List PV},mC ks us=true->mC ks vs=true->(wV us vs=true↔us=vs)
 |ks,[],[],_,_=>by simp[wV]
 |ks,[],v::vs,_,_=>by simp[wV]
 |ks,u::us,[],_,_=>by simp[wV]
 |ks,u::us,v::vs,h1,h2=>by
  obtain⟨k,ks',rfl,g1,g2⟩:=cV h1;obtain⟨k2,ks2,hk,g3,g4⟩:=cV h2;cases hk;have ih:=q_ g1 g3;rcases g2 with⟨q,n,rfl,rfl⟩|⟨b,rfl,rfl⟩|⟨s,rfl,rfl⟩<;>rcases g4 with⟨q',n',hk',rfl⟩|⟨b',hk',rfl⟩|⟨s',hk',rfl⟩<;>(try cases hk')<;>simp[wV,Au,ih]
def ja (sh:Sh)(kk:Option (List Sh))(c:PV):Bool:=match kk with
 |none=>sh.key c
 |some ks=>match c with | .agg us=>mC ks us | _=>false
def jo (sh:Sh)(kk:Option (List Sh))(rows:List (List PV)):Bool:=rows.all fun row=>match row with|c::_=>ja sh kk c|[]=>false
def uA (P:Program)(K:TypeId)(kk:Option (List Sh)):Bool:=match kk with
 |none=>true
 |some ks=>Cz P K ks
theorem Av {sh:Sh}{kk:Option (List Sh)}{rows:List (List PV)}(h:jo sh kk rows=true){i:Nat}{row:List PV}{c:PV}(e1:rows[i]? = some row)(e2:row[0]? = some c):ja sh kk c=true:=by
 have:=List.all_eq_true.1 h row (bc e1);cases row with
 |nil=>simp at e2
 |cons c' row=>simp at e2;subst e2;exact this
theorem Ax {sh:Sh}{kk:Option (List Sh)}{c k:PV}{v u:Value}{E:Env}(h1:ja sh kk c=true)(h2:ja sh kk k=true)(r1:Rep E c v)(r2:Rep E k u):FI c k=true↔v=u:=by
 cases kk with
 |none=>exact ux h1 h2 r1 r2
 |some ks =>
  cases c<;>simp only[ja,Bool.false_eq_true]at h1;cases k<;>simp only[ja,Bool.false_eq_true]at h2;rw[j3 h1 r1,j3 h2 r2,FI,q_ h1 h2];constructor
  .intro h;rw[h]
  .intro h;simp only[Value.agg.injEq]at h;have h:=congrArg Array.toList h;simp only[List.toList_toArray]at h;exact tm h1 h2 h
theorem Aw {sh:Sh}{kk:Option (List Sh)}{c:PV}{v:Value}{E:Env}(h:ja sh kk c=true)(hr:Rep E c v)(w:World)(ok:Nat->Prop):DRep w ok c v:=by
 cases kk with
 |none =>
  cases sh<;>cases c<;>simp only[ja,Sh.key,Bool.false_eq_true]at h
  .rw[hr.int_inv];exact .int _ _
  .rw[hr.str_inv];exact .str _
  .rw[hr.bool_inv];exact .bool _
 |some ks =>
  cases c<;>simp only[ja,Bool.false_eq_true]at h;rw[j3 h hr];refine .agg _ _ ah fun i c v e1 e2=>?_;rw[List.getElem?_map,e1]at e2;simp at e2;subst e2;exact(vK w ok h i c e1).1
theorem rj {E:Env}{sh:Sh}{kk:Option (List Sh)}{key:PV}{kv:Value}(hk:ja sh kk key=true)(hr:Rep E key kv):∀(rows:List (List PV)) (es:List MapEntry),jo sh kk rows=true->rows.length=es.length ->
  (∀(i:Nat) (row:List PV) (c:PV) (e:MapEntry),rows[i]? = some row->row[0]? = some c->es[i]? = some e->Rep E c e.key) ->
  (gj key rows=none->∀e∈es,e.key≠kv)/\(∀i,gj key rows=some i->(∃e,es[i]? = some e/\e.key=kv)/\∀j e,j<i->es[j]? = some e->e.key≠kv)
 |[],es,_,hl,_=>by
  have:es=[]:=List.eq_nil_of_length_eq_zero (by simpa using hl.symm);subst this;exact⟨fun _ e he=>by simp at he,fun i h=>by simp[gj]at h⟩
 |row::rows,es,hrows,hl,hd=>by
  cases es with
  |nil=>simp at hl
  |cons e es =>
   simp only[jo,List.all_cons,Bool.and_eq_true]at hrows;obtain⟨ih1,ih2⟩:=rj hk hr rows es hrows.2 (by simpa using hl) (fun i row c e e1 e2 e3=>hd (i+1) row c e (by simpa using e1) e2 (by simpa using e3));cases row with
   |nil=>simp at hrows
   |cons c row =>
    have h0:=Ax (E:=E) (by simpa using hrows.1) hk (hd 0 (c::row) c e O O O) hr;cases hq:FI c key with
    |true =>
     have he:=h0.1 hq;refine⟨fun h=>by simp[gj,wt,hq]at h,fun i h=>?_⟩;simp[gj,wt,hq]at h;subst h;exact⟨⟨e,O,he⟩,fun j e' hj _=>by omega⟩
    |false =>
     have he:e.key≠kv:=fun q=>by have:=h0.2 q;rw[hq]at this;cases this
     refine⟨fun h e' he'=>?_,fun i h=>?_⟩
     .simp[gj,wt,hq]at h;rcases List.mem_cons.1 he' with rfl|he'
      .exact he
      .exact ih1 h e' he'
     .simp only[gj,wt,hq,cond_false,Option.map_eq_some_iff]at h;obtain⟨i',h1,rfl⟩:=h;obtain⟨⟨e',f1,f2⟩,f3⟩:=ih2 i' h1;refine⟨⟨e',by simpa using f1,f2⟩,fun j e'' hj hje=>?_⟩;cases j with
      |zero=>simp at hje;subst hje;exact he
      |succ j=>exact f3 j e'' J (by simpa using hje)
theorem uy {P:Program}{L:Lay}{E:Env}{w:World}(hL:ig P L){K:TypeId}{rk:LRow}{kk:Option (List Sh)}{key:PV}{kv:Value}(hrk:L K=some rk)(hg:uA P K kk=true)(hky:ja rk.sh kk key=true)(hr:Rep E key kv)
  {rows:List (List PV)} {es:Array MapEntry} (hkeys:jo rk.sh kk rows=true) (f2:rows.length=es.size) (f3:∀row∈rows,row.length=2)
  (f5:∀(i:Nat) (row:List PV) (c:PV) (e:MapEntry),rows[i]? = some row->row[0]? = some c->es[i]? = some e->Rep E c e.key) :
  (∀em,(Instr.checkKey em 10000 K kv).run P w = .ok () w)/\(Instr.keyThatStays kv kv).run P w = .ok kv w /\
  (((Instr.findKey K kv es.toList).run P w = .ok none w/\gj key rows=none)\/∃j e,(Instr.findKey K kv es.toList).run P w = .ok (some (j,e.val)) w/\es[j]? = some e/\e.key=kv/\gj key rows=some j):=by
 obtain⟨m1,m2⟩:=rj hky hr rows es.toList hkeys (by simpa using f2) (fun i row c e e1 e2 e3=>f5 i row c e e1 e2 (by simpa using e3));have hks:∀e∈es.toList,∃c,ja rk.sh kk c=true/\Rep E c e.key:=fun e he=>by
  obtain⟨j,hj,rfl⟩:=List.getElem_of_mem he;have hj':j<rows.length:=by rw[f2];simpa using hj
  have h2:=f3 rows[j] ah;obtain⟨c0,hc0⟩:∃c0,rows[j][0]? = some c0:=⟨rows[j][0],by simp[h2]⟩;exact⟨c0,Av hkeys (List.getElem?_eq_getElem hj') hc0,f5 j _ c0 _ (List.getElem?_eq_getElem hj') hc0 ah⟩
 have fin:∀ {r:Option (Nat × Value)},(r=none->∀e∈es.toList,e.key≠kv)->(∀j v,r=some (j,v)->∃e,es.toList[j]? = some e/\e.key=kv/\v=e.val/\∀i e',i<j->es.toList[i]? = some e'->e'.key≠kv)->(Instr.findKey K kv es.toList).run P w = .ok r w ->
   (((Instr.findKey K kv es.toList).run P w = .ok none w/\gj key rows=none)\/∃j e,(Instr.findKey K kv es.toList).run P w = .ok (some (j,e.val)) w/\es[j]? = some e/\e.key=kv/\gj key rows=some j):=by
  intro r h1 h2 hrun;cases r with
  |none =>
   refine .inl ⟨hrun,?_⟩;cases hm:gj key rows with
   |none=>rfl
   |some i =>
    obtain⟨⟨e,g1,g2⟩,_⟩:=m2 i hm;exact absurd g2 (h1 O e (bc g1))
  |some p =>
   obtain⟨j,v⟩:=p;obtain⟨e,g1,g2,rfl,g4⟩:=h2 j v O;refine .inr ⟨j,e,hrun,by simpa using g1,g2,?_⟩;cases hm:gj key rows with
   |none=>exact absurd g2 (m1 hm e (bc g1))
   |some i =>
    obtain⟨⟨e',q1,q2⟩,q3⟩:=m2 i hm;rcases Nat.lt_trichotomy j i with hlt|heq|hgt
    .exact absurd g2 (q3 j e hlt g1)
    .rw[heq]
    .exact absurd q2 (g4 i e' hgt q1)
 cases kk with
 |none =>
  obtain⟨ik,d,_,hd,_,_,hfit,_⟩:=LRow.spec (hL K rk hrk);have hk:=dU hfit hky hr;have hks':∀e∈es.toList,IsKey d e.key:=fun e he=>by
   obtain⟨c,h1,h2⟩:=hks e he;exact dU hfit h1 h2
  refine⟨fun em=>run_checkKey hd hk em 9999,run_keyThatStays hk,?_⟩;rcases findNow_spec hk es.toList 0 hks' with⟨h1,h2⟩|⟨j,e,h1,h2,h3⟩
  .exact fin (r:=none) (fun _=>h2) (fun j v h=>by cases h) (run_findKey hd h1)
  .refine fin (r:=some (0+j,e.val)) (fun h=>by cases h) (fun j' v h=>?_) (run_findKey hd h1);cases h;refine⟨e,by rw[Nat.zero_add];exact h2,h3,O,fun i e' hi hei hek=>?_⟩;rw[Nat.zero_add]at hi;exact f_ hk es.toList 0 j i e' e hks' hei hek hi h1
 |some ks =>
  have hT:Cz P K ks=true:=hg;cases key<;>simp only[ja,Bool.false_eq_true]at hky;rename_i us;refine⟨fun em=>qB em hT hky hr,xC hky hr,?_⟩;rcases th (w:=w) hT hky hr es.toList (fun e he=>by
   obtain⟨c,h1,h2⟩:=hks e he;cases c<;>simp only[ja,Bool.false_eq_true]at h1
   exact⟨_,h1,h2⟩) with⟨h1,h2⟩|⟨j,e,h1,h2,h3,h4⟩
  .exact fin (r:=none) (fun _=>h2) (fun j v h=>by cases h) h1
  .refine fin (r:=some (j,e.val)) (fun h=>by cases h) (fun j' v h=>?_) h1;cases h;exact⟨e,h2,h3,O,h4⟩
section
variable {P:Program}{L:Lay}{C:Ctx}{γ:Nat->Option Nat}{s:St}{a:Act}{w w':World}
theorem iX {T K V:TypeId}{r:LRow}(h:r.fits P T=true)(hs:r.sh = .map K V):P.underlying T=some (.map K V):=by
 obtain⟨i,d,_,hd,_,_,hf,_⟩:=LRow.spec h;rw[hs]at hf;cases d<;>simp[Sh.fits]at hf;obtain⟨rfl,rfl⟩:=hf;exact hd
structure Put (w w':World) (b:Nat):Prop where
 os:w'.os=w.os
 tape:w'.tape=w.tape
 output:w'.output=w.output
 size:w'.heap.size=w.heap.size
 other:∀b',b'≠b->w'.heap[b']? = w.heap[b']?
theorem yV (_h:Sim C γ s a w){k g b:Nat}{c c':Cont}(ho:s.own k=(g,some c))(hb:γ k=some b)(hn:∀cur,w.heap[b]? ≠ some (.cells cur c.ty (0,0)))(hp:Put w w' b)
  (h1:c'.ty=c.ty) (h2:c'.sz=c.sz) (h3:c.rows.length<=c'.rows.length):(ao C γ s w).Le (ao C γ (s.setOwn k g (some c')) w'):=by
 have hown:∀k' c'',((s.setOwn k g (some c')).own k').2=some c''->∃c3,(s.own k').2=some c3:=by
  intro k' c'' hc;by_cases hk:k'=k
  .subst hk;exact⟨c,by rw[ho]⟩
  .rw[aF hk]at hc;exact⟨c'',hc⟩
 have hok:∀b',eE C γ s w b'->eE C γ (s.setOwn k g (some c')) w' b':=by
  rintro b' ⟨f1,f2,f3⟩;exact⟨by rw[hp.size];exact f1,f2,fun k' c'' hc=>let ⟨c3,hc3⟩:=hown k' c'' hc;f3 k' c3 hc3⟩
 have hne:∀b',eE C γ s w b'->b'≠b:=fun b' hb' e=>hb'.2.2 k c (by rw[ho]) (by rw[e];exact hb);refine⟨hok,fun b' hb'=>⟨hb'.1,hok b' hb'.2⟩,fun b' hb'=>hb'.2,fun b' hb'=>?_,fun k'=>?_,fun k' l' _ hl=>?_,fun k' l' b' cur'' _ hl hb' hh'=>?_⟩
 .exact hp.other b' (hne b' hb')
 .show(s.own k').1<=((s.setOwn k g (some c')).own k').1;by_cases hk:k'=k
  .subst hk;rw[ak,ho];exact aP
  .rw[aF hk];exact aP
 .by_cases hk:k'=k
  .subst hk;simp only[ao,ak,Option.map_some,Option.some.injEq]at hl;subst hl;exact⟨⟨γ k',c.ty,c.sz,c.rows.length⟩,by simp[ao,ho],O,h1,h2,h3⟩
  .simp only[ao,aF hk]at hl;exact⟨l',hl,O,O,O,aP⟩
 .refine⟨cur'',?_,O⟩;show w'.heap[b']? = _;have hne':b'≠b:=fun e=>by
   have hl2:∃c3,((s.setOwn k g (some c')).own k').2=some c3/\l'=⟨γ k',c3.ty,c3.sz,c3.rows.length⟩:=by
    simp only[ao,Option.map_eq_some_iff]at hl;obtain⟨c3,e1,e2⟩:=hl;exact⟨c3,e1,e2.symm⟩
   obtain⟨c3,e1,e2⟩:=hl2;obtain⟨c4,e3⟩:=hown k' c3 e1;have e5:γ k'=some b:=by rw[e2]at hb';rw[<-e];exact hb'
   have e4:k'=k:=_h.inj k' k c4 c b e3 (by rw[ho]) e5 hb;subst e4;rw[ak]at e1;simp at e1;subst e1;rw[e2]at hh';have hh':w.heap[b']? = some (.cells cur'' c'.ty (0,0)):=hh';rw[e,h1]at hh';exact hn _ hh'
  rw[hp.other b' hne'];exact hh'
theorem jx (_h:Sim C γ s a w){k g b:Nat}{c c':Cont}(ho:s.own k=(g,some c))(hb:γ k=some b)(hn:∀cur T f,w.heap[b]? ≠ some (.cells cur T f))(hp:Put w w' b)
  (h1:c'.ty=c.ty) (h2:c'.sz=c.sz) (h3:c.rows.length<=c'.rows.length):(ao C γ s w).Le (ao C γ (s.setOwn k g (some c')) w'):=yV _h ho hb (fun cur=>hn cur _ _) hp h1 h2 h3
theorem DA (h:Sim C γ s a w){k g b:Nat}{c c':Cont}(ho:s.own k=(g,some c))(hb:γ k=some b)(hn:∀cur,w.heap[b]? ≠ some (.cells cur c.ty (0,0)))(hp:Put w w' b)
  (h1:c'.ty=c.ty) (h2:c'.sz=c.sz) (h3:c.rows.length<=c'.rows.length) (hs:SiteOk (ao C γ (s.setOwn k g (some c')) w') (some b) c'):Sim C γ (s.setOwn k g (some c')) a w':=by
 have hle:=yV h ho hb hn hp h1 h2 h3;have hown:∀k' c'',((s.setOwn k g (some c')).own k').2=some c''->∃c3,(s.own k').2=some c3:=by
  intro k' c'' hc;by_cases hk:k'=k
  .subst hk;exact⟨c,by rw[ho]⟩
  .rw[aF hk]at hc;exact⟨c'',hc⟩
 refine⟨h.defers,h.size,fun r=>(h.regs r).mono hle,fun k' c'' hc=>?_,fun k1 k2 c1 c2 b' e1 e2 e3 e4=>?_,fun k' c'' b' e1 e2=>?_,?_,by rw[hp.size];exact h.top,fun c v hk=>(h.kept c v hk).mono hle⟩
 .by_cases hk:k'=k
  .subst hk;rw[ak]at hc;simp at hc;subst hc;rw[hb];exact hs
  .rw[aF hk]at hc;refine(h.sites k' c'' hc).mono hle fun b' hb'=>hp.other b' fun e=>?_;subst e;exact hk (h.inj k' k c'' c b' hc (by rw[ho]) hb' hb)
 .obtain⟨d1,f1⟩:=hown k1 c1 e1;obtain⟨d2,f2⟩:=hown k2 c2 e2;exact h.inj k1 k2 d1 d2 b' f1 f2 e3 e4
 .obtain⟨d1,f1⟩:=hown k' c'' e1;rw[hp.size];exact h.base k' d1 b' f1 e2
 .refine h.below.trans ⟨hp.os,hp.tape,hp.output,by rw[hp.size];exact aP,fun b' hb'=>hp.other b' fun e=>?_⟩;have:=(h.base k c b (by rw[ho]) hb).1;omega
theorem gQ (h:Sim C γ s a w){k g b:Nat}{c c':Cont}(ho:s.own k=(g,some c))(hb:γ k=some b)(hn:∀cur T f,w.heap[b]? ≠ some (.cells cur T f))(hp:Put w w' b)
  (h1:c'.ty=c.ty) (h2:c'.sz=c.sz) (h3:c.rows.length<=c'.rows.length) (hs:SiteOk (ao C γ (s.setOwn k g (some c')) w') (some b) c'):Sim C γ (s.setOwn k g (some c')) a w':=DA h ho hb (fun cur=>hn cur _ _) hp h1 h2 h3 hs
theorem gP {b:Nat}{o o':Obj}(hb:w.heap[b]? = some o):Put w { w with heap:=w.heap.setIfInBounds b o' } b/\({ w with heap:=w.heap.setIfInBounds b o' }:World).heap[b]? = some o' :=
 ⟨⟨O,O,O,ah,fun b' hb'=>(heap_set hb).2 b' hb'⟩,(heap_set hb).1⟩
theorem lT {E:Env}(hf:∀b,E.okf b->E.ok b){k:Nat}{c:PV}{v:Value}(h:DRep E.w E.okf c v):KRep E k c v:=KRep.up hf (Nat.zero_le k) (k:=0) h
def BI (P:Program)(V:TypeId):Bool :=
 match P.info? V with
 |some i=>(match i.zero with|some v=>v.oneCell'|none=>false)
 |none=>false
theorem rX {V:TypeId}(h:BI P V=true):∀i,P.info? V=some i->∀zv,i.zero=some zv->zv.cells=#[zv]:=fun i hi zv hz=>by
 unfold BI at h;rw[hi]at h;simp only[hz]at h;exact iE h
theorem xH (hL:ig P L)(h:Sim C γ s a w){T K V:TypeId}{r rk:LRow}{x y:Operand}{k g i:Nat}{c:Cont}(hr:L T=some r)(hs:r.sh = .map K V)(hrk:L K=some rk)(hx:s.ev x = .mp k g)(ho:s.own k=(g,some c))(hkd:c.kind=0)
  (hky:rk.sh.key (s.ev y)=true) (hkeys:gL rk.sh c.rows=true) (hm:gj (s.ev y) c.rows=some i) {row:List PV} {v:PV} (hrow:c.rows[i]? = some row) (hv:row[1]? = some v) :
  ∃w' u,(Instr.mapEntry T (a.eval x) (a.eval y)).run P w = .ok (.tuple #[u,goInt i]) w'/\Sim C γ s a w'/\Rep (ao C γ s w') v u:=by
 have hxr:=h.ev x;rw[hx]at hxr;obtain⟨hz,b,hb,hxv⟩:=h.mp_at hxr ho;obtain⟨es,nn,f1,f2,f3,f4,f5,f6⟩:=(h.sites k c (by rw[ho])).mp b hb hz J;obtain⟨rfl,f4c⟩:=f4.2.2 hkd;have f1:w.heap[b]? = some (.map es es.size):=f1;obtain⟨ik,d,_,hd,_,_,hfit,_⟩:=LRow.spec (hL K rk hrk);have hkrep:=h.ev y;have hk:=dU hfit hky hkrep;have hks:∀e∈es.toList,IsKey d e.key:=fun e he=>by
  obtain⟨j,hj,rfl⟩:=List.getElem_of_mem he;have hj':j<c.rows.length:=by rw[f2];simpa using hj
  have h2:=f3 c.rows[j] ah;obtain⟨c0,hc0⟩:∃c0,c.rows[j][0]? = some c0:=⟨c.rows[j][0],by simp[h2]⟩;exact dU hfit (lS hkeys (List.getElem?_eq_getElem hj') hc0) ((f5 j _ c0 _ (List.getElem?_eq_getElem hj') hc0 ah).rep ax)
 obtain⟨⟨e,g1,g2⟩,g3⟩:=(js hky hkrep c.rows es.toList hkeys (by simpa using f2) (fun i row c e e1 e2 e3=>(f5 i row c e e1 e2 (by simpa using e3)).rep ax)).2 i hm;have g1':es[i]? = some e:=by simpa using g1
 rcases findNow_spec hk es.toList 0 hks with⟨h1,h2⟩|⟨j,e',h1,h2,h3⟩
 .exact absurd g2 (h2 e (bc g1))
 .have hji:j=i:=by
   rcases Nat.lt_trichotomy j i with hlt|heq|hgt
   .exact absurd h3 (g3 j e' hlt h2)
   .exact heq
   ·
    exfalso;exact f_ hk es.toList 0 j i e e' hks g1 g2 hgt h1
  subst hji;have hee:e'=e:=by rw[g1]at h2;exact(Option.some.inj h2).symm
  subst hee;rw[Nat.zero_add]at h1;have hu:=iX (hL T r hr) hs;have hst:=run_keyThatStays (P:=P) (w:=w) hk;let es':=es.modify j fun e=>{ e with key:=a.eval y };refine⟨{ w with heap:=w.heap.setIfInBounds b (.map es' es.size) },e'.val,?_,?_⟩
  .rw[hxv];have hborn:e'.born=j:=f4c j e' g1';simp only[Instr.mapEntry,Sem.run_bind,run_underlying hu,Result.andThen,MapKept.run_getObj_map f1,run_checkKey hd hk,run_findKey hd h1,g1',Option.map_some,Option.getD_some,h3,hst,MapKept.run_setObj_map _ f1,hborn];rfl
  .have hes':es'=es:=by
    apply Array.ext_getElem?;intro n;simp only[es',Array.getElem?_modify];by_cases hn:j=n
    .subst hn;rw[g1',if_pos O];simp only[Option.map_some];rw[<-h3]
    .rw[if_neg hn]
   have hw:({ w with heap:=w.heap.setIfInBounds b (.map es' es.size) }:World)=w:=by
    rw[hes'];have:w.heap.setIfInBounds b (.map es es.size)=w.heap:=by
     apply Array.ext_getElem?;intro n;by_cases hn:n=b
     .subst hn;rw[(heap_set f1).1,f1]
     .rw[(heap_set f1).2 n hn]
    rw[this]
   rw[hw];exact⟨h,(f6 j row v e' hrow hv g1').rep ax⟩
theorem xG (hL:ig P L)(h:Sim C γ s a w){T K V:TypeId}{r rk rv:LRow}{x y:Operand}{k g:Nat}{c:Cont}{z:PV}(hr:L T=some r)(hs:r.sh = .map K V)(hrk:L K=some rk)(hrv:L V=some rv)(hz:rv.zero=some [z])(hx:s.ev x = .mp k g)(ho:s.own k=(g,some c))(hkd:c.kind=0)
  (hzone:∀i,P.info? V=some i->∀zv,i.zero=some zv->zv.cells=#[zv])
  (hky:rk.sh.key (s.ev y)=true) (hkeys:gL rk.sh c.rows=true) (hm:gj (s.ev y) c.rows=none) :
  ∃w' u,(Instr.mapEntry T (a.eval x) (a.eval y)).run P w = .ok (.tuple #[u,goInt c.rows.length]) w'/\Sim C γ (s.setOwn k g (some ⟨c.ty,c.sz,c.rows++[[s.ev y,z]],c.kind⟩)) a w' /\
   Rep (ao C γ (s.setOwn k g (some ⟨c.ty,c.sz,c.rows++[[s.ev y,z]],c.kind⟩)) w') z u:=by
 have hxr:=h.ev x;rw[hx]at hxr;obtain⟨hsz,b,hb,hxv⟩:=h.mp_at hxr ho;obtain⟨es,nn,f1,f2,f3,f4,f5,f6⟩:=(h.sites k c (by rw[ho])).mp b hb hsz J;obtain⟨rfl,_⟩:=f4.2.2 hkd;have f1:w.heap[b]? = some (.map es es.size):=f1;obtain⟨ik,d,_,hd,_,_,hfit,_⟩:=LRow.spec (hL K rk hrk);obtain⟨iv,dv,hiv,_,_,_,_,hzero⟩:=LRow.spec (hL V rv hrv);obtain⟨zv,z1,z2,z3,z4⟩:=hzero _ hz;have hcz:=hzone iv hiv zv z1;have hzeq:=iC (z4 0 z zv O (by rw[hcz];rfl));have hkrep:=h.ev y;have hk:=dU hfit hky hkrep;have hks:∀e∈es.toList,IsKey d e.key:=fun e he=>by
  obtain⟨j,hj,rfl⟩:=List.getElem_of_mem he;have hj':j<c.rows.length:=by rw[f2];simpa using hj
  have h2:=f3 c.rows[j] ah;obtain⟨c0,hc0⟩:∃c0,c.rows[j][0]? = some c0:=⟨c.rows[j][0],by simp[h2]⟩;exact dU hfit (lS hkeys (List.getElem?_eq_getElem hj') hc0) ((f5 j _ c0 _ (List.getElem?_eq_getElem hj') hc0 ah).rep ax)
 have hnone:=(js hky hkrep c.rows es.toList hkeys (by simpa using f2) (fun i row c e e1 e2 e3=>(f5 i row c e e1 e2 (by simpa using e3)).rep ax)).1 hm;rcases findNow_spec hk es.toList 0 hks with⟨h1,h2⟩|⟨j,e',h1,h2,h3⟩
 .have hu:=iX (hL T r hr) hs;obtain⟨hp,hnew⟩:=gP (o' := .map (es.push { key:=a.eval y,val:=zv,born:=es.size }) (es.size+1)) f1;have hl1:c.rows.length<=(c.rows++[[s.ev y,z]]).length:=ah;have hnc:∀cur T f,w.heap[b]? ≠ some (.cells cur T f):=fun cur T f e=>by rw[f1]at e;simp at e
  have hle:=jx (c':=⟨c.ty,c.sz,c.rows++[[s.ev y,z]],c.kind⟩) h ho hb hnc hp O O hl1;refine⟨_,zv,?_,gQ h ho hb hnc hp O O hl1 ⟨(fun e=>by cases e),fun b' hb' _ _=>?_,(fun b' _ _ hk3=>by simp only at hk3;omega),(fun b' _ hz'=>by simp only at hz';omega)⟩,.d (hzeq _ _).1⟩
  .rw[hxv];simp only[Instr.mapEntry,Sem.run_bind,run_underlying hu,Result.andThen,MapKept.run_getObj_map f1,run_checkKey hd hk,run_findKey hd h1,zeroValue,typeInfo,run_program,hiv,z1,Sem.run_pure,MapKept.run_setObj_map _ f1,f2]
  .have hb':b'=b:=(Option.some.inj hb').symm;subst hb';have key0:KRep (ao C γ s w) c.kind (s.ev y) (a.eval y):=by
    have hd0:DRep w (ao C γ s w).okf (s.ev y) (a.eval y):=by
     generalize s.ev y=pk at hky hkrep;generalize rk.sh=shk at hky;cases shk<;>cases pk<;>simp only[Sh.key,Bool.false_eq_true]at hky
     .rw[hkrep.int_inv];exact .int _ _
     .rw[hkrep.str_inv];exact .str _
     .rw[hkrep.bool_inv];exact .bool _
    exact lT ax hd0
   refine⟨_,_,hnew,by simp[f2],fun row hrow=>?_,f4.push _ O,fun i row c0 e e1 e2 e3=>?_,fun i row c0 e e1 e2 e3=>?_⟩
   .rcases List.mem_append.1 hrow with hrow|hrow
    .exact f3 row hrow
    .simp at hrow;subst hrow;rfl
   .rw[Array.getElem?_push]at e3;rw[List.getElem?_append]at e1;split at e3
    .rename_i hi;subst hi;rw[if_neg J,f2,Nat.sub_self]at e1;simp at e1 e3;subst e1;subst e3;simp at e2;subst e2;exact key0.mono hle
    .rename_i hi;have hlt:i<es.size:=(cD e3).1;rw[if_pos J]at e1;exact(f5 i row c0 e e1 e2 e3).mono hle
   .rw[Array.getElem?_push]at e3;rw[List.getElem?_append]at e1;split at e3
    .rename_i hi;subst hi;rw[if_neg J,f2,Nat.sub_self]at e1;simp at e1 e3;subst e1;subst e3;simp at e2;subst e2;exact lT ax (hzeq _ _).1
    .rename_i hi;have hlt:i<es.size:=(cD e3).1;rw[if_pos J]at e1;exact(f6 i row c0 e e1 e2 e3).mono hle
 .exact absurd h3 (hnone e' (bc h2))
theorem pQ (h:Sim C γ s a w){T:TypeId}{x st y:Operand}{k g i kd:Nat}{ki:IntKind}{c:Cont}{row:List PV}(hx:s.ev x = .mp k g)(ho:s.own k=(g,some c))(hst:s.ev st = .int ki i)(hrow:c.rows[i]? = some row)(hk0:c.kind=0)(hk:c.kind<=kd)(hk3:kd<3)(hkd:mA kd (s.ev y)=true) :
  ∃w',(Instr.entryStore T (a.eval x) (a.eval st) (a.eval y)).run P w = .ok () w'/\Sim C γ (s.setOwn k g (some ⟨c.ty,c.sz,c.rows.set i (row.set 1 (dY kd (s.ev y))),kd⟩)) a w':=by
 have hxr:=h.ev x;rw[hx]at hxr;obtain⟨hsz,b,hb,hxv⟩:=h.mp_at hxr ho;obtain⟨es,nn,f1,f2,f3,f4,f5,f6⟩:=(h.sites k c (by rw[ho])).mp b hb hsz J;obtain⟨rfl,f4c⟩:=f4.2.2 hk0;have f1:w.heap[b]? = some (.map es es.size):=f1;have hi:i<es.size:=by rw[<-f2];exact(bb hrow).1
 have hsv:=h.ev st;rw[hst]at hsv;obtain⟨hp,hnew⟩:=gP (o' := .map (es.modify i fun e=>{ e with val:=a.eval y }) es.size) f1;have hl1:c.rows.length<=(c.rows.set i (row.set 1 (dY kd (s.ev y)))).length:=ah;have hnc:∀cur T f,w.heap[b]? ≠ some (.cells cur T f):=fun cur T f e=>by rw[f1]at e;simp at e
 have hle:=jx (c':=⟨c.ty,c.sz,c.rows.set i (row.set 1 (dY kd (s.ev y))),kd⟩) h ho hb hnc hp O O hl1;have hidx:es.findIdx? (fun e=>(e.born:Int)==(i:Int))=some i:=by
  rw[Array.findIdx?_eq_some_iff_getElem];refine⟨hi,?_,fun j hj=>?_⟩
  .simp[f4c i _ (Array.getElem?_eq_getElem hi)]
  .have hj':j<es.size:=J;have:=f4c j _ (Array.getElem?_eq_getElem hj');simp[this];omega
 refine⟨_,?_,gQ h ho hb hnc hp O O hl1 ⟨(fun e=>by cases e),fun b' hb' _ _=>?_,(fun b' _ _ hk3=>by simp only at hk3;omega),(fun b' _ hz'=>by simp only at hz';omega)⟩⟩
 .rw[hxv,hsv.int_inv];simp only[Instr.entryStore,Sem.run_bind,Result.andThen,MapKept.run_getObj_map f1,asInt,asIntOf,Sem.run_pure,hidx,MapKept.run_setObj_map _ f1]
 .have hb':b'=b:=(Option.some.inj hb').symm;subst hb';have hrl:row.length=2:=f3 row (bc hrow);refine⟨_,_,hnew,by simp[f2],fun row' hr'=>?_,(f4.up hk).modify i _ (fun _=>rfl),fun j row' c0 e e1 e2 e3=>?_,fun j row' c0 e e1 e2 e3=>?_⟩
  .rcases List.mem_or_eq_of_mem_set hr' with hr'|rfl
   .exact f3 row' hr'
   .simpa using hrl
  .rw[Array.getElem?_modify]at e3;split at e3
   .rename_i hij;subst hij;cases hq:es[i]? with
    |none=>rw[hq]at e3;simp at e3
    |some q =>
     rw[hq]at e3;simp at e3;subst e3;rw[List.getElem?_set_self J]at e1;have e1:=Option.some.inj e1;subst e1;rw[List.getElem?_set_ne Y]at e2;exact((f5 i row c0 q hrow e2 hq).up ax hk).mono hle
   .rename_i hij;rw[List.getElem?_set_ne hij]at e1;exact((f5 j row' c0 e e1 e2 e3).up ax hk).mono hle
  .rw[Array.getElem?_modify]at e3;split at e3
   .rename_i hij;subst hij;cases hq:es[i]? with
    |none=>rw[hq]at e3;simp at e3
    |some q =>
     rw[hq]at e3;simp at e3;subst e3;rw[List.getElem?_set_self J]at e1;have e1:=Option.some.inj e1;subst e1;rw[List.getElem?_set_self J]at e2;have e2:=Option.some.inj e2;subst e2;exact(gd ax hkd (h.ev y)).mono hle
   .rename_i hij;rw[List.getElem?_set_ne hij]at e1;exact((f6 j row' c0 e e1 e2 e3).up ax hk).mono hle
theorem vN (h:Sim C γ s a w)(T:TypeId)(k:Nat) :
  Sim C (iD γ k (some w.heap.size)) (s.fin k ⟨T,0,[],0⟩) a (w.alloc (.map #[] 0))/\Rep (ao C (iD γ k (some w.heap.size)) (s.fin k ⟨T,0,[],0⟩) (w.alloc (.map #[] 0))) (.mp k ((s.own k).1+1)) (.map (some w.heap.size)):=by
 have ht:Turn C γ s w (w.alloc (.map #[] 0)) k (some w.heap.size):=Turn.alloc _ k;refine⟨ht.sim h ⟨(fun e=>by cases e),fun b' hb' _ _=>?_,(fun b' _ _ hk3=>by simp only at hk3;omega),(fun b' _ hz'=>by simp only at hz';omega)⟩,.mp ?_ fun _ l hl=>?_⟩
 .have hb':b'=w.heap.size:=(Option.some.inj hb').symm;subst hb';exact⟨#[],0,bj _ _,O,(fun row hr=>by simp at hr),.nil 0,(fun i row c e e1=>by simp at e1),(fun i row c e e1=>by simp at e1)⟩
 .show _<=((s.fin k _).own k).1;rw[St.fin,ak];exact aP
 .simp only[ao,St.fin,ak,bU,Option.map_some,Option.some.injEq]at hl;subst hl;exact⟨O,w.heap.size,O,O⟩
def yS (rows:List (List PV)):List (List PV):=[.nil::rows.map .agg]
theorem Bo (hL:ig P L)(h:Sim C γ s a w){T K V:TypeId}{r:LRow}{x:Operand}{rows:List (List PV)}(k:Nat)(hr:L T=some r)(hs:r.sh = .map K V)(hx:s.ev x = .mapd rows) :
  ∃w',(Instr.range T (a.eval x)).run P w = .ok (.pointer (some ⟨w.heap.size,0,none⟩)) w'/\Sim C (iD γ k (some w.heap.size)) (s.fin k ⟨T,0,yS rows,3⟩) a w' /\
   Rep (ao C (iD γ k (some w.heap.size)) (s.fin k ⟨T,0,yS rows,3⟩) w') (.mi k ((s.own k).1+1)) (.pointer (some ⟨w.heap.size,0,none⟩)):=by
 have hxr:=h.ev x;rw[hx]at hxr
 obtain⟨b,es,nn,hxv,hok,f1,f2,f3,f4,f5,f6⟩:∃(b:Nat) (es:Array MapEntry) (nn:Nat),a.eval x = .map (some b)/\eE C γ s w b/\w.heap[b]? = some (.map es nn)/\rows.length=es.size/\(∀row∈rows,row.length=2)/\BornOk 1 es nn /\
   (∀(i:Nat) (row:List PV) (c:PV) (e:MapEntry),rows[i]? = some row->row[0]? = some c->es[i]? = some e->DRep w (eE C γ s w) c e.key) /\
   (∀(i:Nat) (row:List PV) (c:PV) (e:MapEntry),rows[i]? = some row->row[1]? = some c->es[i]? = some e->DRep w (eE C γ s w) c e.val):=by
  generalize a.eval x=xv at hxr;cases hxr with
  |d hd=>cases hd with|mapd rows b es nn h1 h2 h3 h4 h5 h6 h7=>exact⟨b,es,nn,rfl,h1,h2,h3,h4,h5,h6,h7⟩
 have ht:Turn C γ s w (w.alloc (.mapIter (some b) nn #[] nn)) k (some w.heap.size):=Turn.alloc _ k;have hle:=ht.le h ⟨T,0,yS rows,3⟩;refine⟨w.alloc (.mapIter (some b) nn #[] nn),by rw[hxv];exact run_range_map w T K V b es nn (iX (hL T r hr) hs) f1,ht.sim h ⟨(fun e=>by cases e),(fun b' _ _ hk3=>by simp only at hk3;omega),fun b' hb' _ _=>?_,(fun b' _ hz'=>by simp only at hz';omega)⟩,.mi ?_ fun _ l hl=>?_⟩
 .have hb':b'=w.heap.size:=(Option.some.inj hb').symm;subst hb';have hfil:(es.filter fun e=>!(#[]:Array Nat).contains e.born)=es:=Array.filter_eq_self.2 (fun e _=>by simp);show rY _ _ _;refine⟨b,es,#[],nn,bj _ _,hle.ok b hok,hle.mapc b _ _ hok f1,f4,.nil,rows.map .agg,O,.inl O,by rw[hfil];simpa using f2,fun i c e e1 e2=>?_⟩;rw[hfil]at e2;rw[List.getElem?_map]at e1;cases hq:rows[i]? with
  |none=>rw[hq]at e1;simp at e1
  |some row =>
   rw[hq]at e1;simp at e1;subst e1;have h2:=f3 row (bc hq);obtain⟨ck,cv,rfl⟩:∃ck cv,row=[ck,cv]:=by
    match row,h2 with
    |[ck,cv],_=>exact⟨ck,cv,rfl⟩
   exact⟨ck,cv,O,hle.drep (f5 i _ ck e hq O e2),hle.drep (f6 i _ cv e hq O e2)⟩
 .show _<=((s.fin k _).own k).1;rw[St.fin,ak];exact aP
 .simp only[ao,St.fin,ak,bU,Option.map_some,Option.some.injEq]at hl;subst hl;exact⟨O,w.heap.size,O,O⟩
def gX (z key:PV)(rows:List (List PV)):PV:=match gj key rows with|some i=>(match rows[i]? with|some row=>row.getD 1 z|none=>z)|none=>z
def jt (key v:PV)(rows:List (List PV)):List (List PV):=match gj key rows with|some i=>(match rows[i]? with|some row=>rows.set i (row.set 1 v)|none=>rows)|none=>rows++[[key,v]]
theorem DZ {E:Env}{b nn:Nat}{es:Array MapEntry}{rows:List (List PV)}(hL:ig P L){T K V:TypeId}{r rk rv:LRow}{z key:PV}{kv:Value}{ok:Bool}(hr:L T=some r)(hs:r.sh = .map K V)(hrk:L K=some rk)(hrv:L V=some rv)(hz:rv.zero=some [z])(hz1:BI P V=true)
  (f1:E.w.heap[b]? = some (.map es nn)) (f2:rows.length=es.size) (f3:∀row∈rows,row.length=2)
  (f5:∀(i:Nat) (row:List PV) (c:PV) (e:MapEntry),rows[i]? = some row->row[0]? = some c->es[i]? = some e->Rep E c e.key)
  (f6:∀(i:Nat) (row:List PV) (c:PV) (e:MapEntry),rows[i]? = some row->row[1]? = some c->es[i]? = some e->Rep E c e.val)
  (hky:rk.sh.key key=true) (hkrep:Rep E key kv) (hkeys:gL rk.sh rows=true) :
  ∃u,(Instr.lookup T (.map (some b)) kv ok).run P E.w = .ok u E.w/\Rep E (bif ok then .tup [gX z key rows,.bool (gj key rows).isSome] else gX z key rows) u:=by
 obtain⟨ik,d,_,hd,_,_,hfit,_⟩:=LRow.spec (hL K rk hrk);obtain⟨iv,dv,hiv,_,_,_,_,hzero⟩:=LRow.spec (hL V rv hrv);obtain⟨zv,z1,z2,z3,z4⟩:=hzero _ hz;have hcz:=rX hz1 iv hiv zv z1;have hzeq:=iC (z4 0 z zv O (by rw[hcz];rfl));have hk:=dU hfit hky hkrep;have hks:∀e∈es.toList,IsKey d e.key:=fun e he=>by
  obtain⟨j,hj,rfl⟩:=List.getElem_of_mem he;have hj':j<rows.length:=by rw[f2];simpa using hj
  have h2:=f3 rows[j] ah;obtain⟨c0,hc0⟩:∃c0,rows[j][0]? = some c0:=⟨rows[j][0],by simp[h2]⟩;exact dU hfit (lS hkeys (List.getElem?_eq_getElem hj') hc0) (f5 j _ c0 _ (List.getElem?_eq_getElem hj') hc0 ah)
 obtain⟨m1,m2⟩:=js hky hkrep rows es.toList hkeys (by simpa using f2) (fun i row c e e1 e2 e3=>f5 i row c e e1 e2 (by simpa using e3));have hu:=iX (hL T r hr) hs;have fin:∀(v:Value) (f:Bool) (p:PV),Rep E p v->Rep E (bif ok then .tup [p,.bool f] else p) (if ok then .tuple #[v,.bool f] else v):=by
  intro v f p hp;cases ok
  .exact hp
  .refine .tup [p,.bool f] [v,.bool f] O fun j c0 v0 g1 g2=>?_
   match j with
   |0=>simp at g1 g2;subst g1;subst g2;exact hp
   |1=>simp at g1 g2;subst g1;subst g2;exact .d (.bool _)
   |j+2=>simp at g1
 rcases findNow_spec hk es.toList 0 hks with⟨h1,h2⟩|⟨j,e,h1,h2,h3⟩
 .have hm:gj key rows=none:=by
   cases hm:gj key rows with
   |none=>rfl
   |some i =>
    obtain⟨⟨e,g1,g2⟩,_⟩:=m2 i hm;exact absurd g2 (h2 e (bc g1))
  refine⟨if ok then .tuple #[zv,.bool false] else zv,?_,?_⟩
  .simp only[Instr.lookup,Sem.run_bind,run_underlying hu,Result.andThen,MapKept.run_getObj_map f1,Sem.run_pure,run_checkKey hd hk,run_findKey hd h1,zeroValue,typeInfo,run_program,hiv,z1]
  .have hmv:gX z key rows=z:=by simp[gX,hm]
   rw[hmv,hm];exact fin zv false z (.d (hzeq _ _).1)
 .have hex:∃i,gj key rows=some i:=by
   cases hm:gj key rows with
   |none=>exact absurd h3 (m1 hm e (bc h2))
   |some i=>exact⟨i,rfl⟩
  obtain⟨i,hm⟩:=hex;obtain⟨⟨e',g1,g2⟩,g3⟩:=m2 i hm;have hji:j=i:=by
   rcases Nat.lt_trichotomy j i with hlt|heq|hgt
   .exact absurd h3 (g3 j e hlt h2)
   .exact heq
   .exact absurd h1 (f_ hk es.toList 0 j i e' e hks g1 g2 hgt)
  subst hji;have hlt:=mM hm;have hrow:rows[j]? = some rows[j]:=List.getElem?_eq_getElem hlt;have hl2:=f3 rows[j] ah;have hv1:rows[j][1]? = some (rows[j].getD 1 z):=by rw[List.getD_eq_getElem?_getD,List.getElem?_eq_getElem J];rfl
  have hej:es[j]? = some e:=by simpa using h2
  refine⟨if ok then .tuple #[e.val,.bool true] else e.val,?_,?_⟩
  .simp only[Instr.lookup,Sem.run_bind,run_underlying hu,Result.andThen,MapKept.run_getObj_map f1,Sem.run_pure,run_checkKey hd hk,run_findKey hd h1]
  .have hmv:gX z key rows=rows[j].getD 1 z:=by simp only[gX,hm,hrow]
   rw[hmv,hm];exact fin e.val true _ (f6 j _ _ e hrow hv1 hej)
def Jq (P:Program)(V:TypeId)(z:PV):Prop:=∃iv zv,P.info? V=some iv/\iv.zero=some zv/\∀w ok,DRep w ok z zv
theorem Bc {E:Env}{b nn:Nat}{es:Array MapEntry}{rows:List (List PV)}(hL:ig P L){T K V:TypeId}{r rk:LRow}{kk:Option (List Sh)}{z key:PV}{kv:Value}{ok:Bool}(hr:L T=some r)(hs:r.sh = .map K V)(hrk:L K=some rk)(hz:Jq P V z)
  (f1:E.w.heap[b]? = some (.map es nn)) (f2:rows.length=es.size) (f3:∀row∈rows,row.length=2)
  (f5:∀(i:Nat) (row:List PV) (c:PV) (e:MapEntry),rows[i]? = some row->row[0]? = some c->es[i]? = some e->Rep E c e.key)
  (f6:∀(i:Nat) (row:List PV) (c:PV) (e:MapEntry),rows[i]? = some row->row[1]? = some c->es[i]? = some e->Rep E c e.val)
  (hg:uA P K kk=true) (hky:ja rk.sh kk key=true) (hkrep:Rep E key kv) (hkeys:jo rk.sh kk rows=true) :
  ∃u,(Instr.lookup T (.map (some b)) kv ok).run P E.w = .ok u E.w/\Rep E (bif ok then .tup [gX z key rows,.bool (gj key rows).isSome] else gX z key rows) u:=by
 obtain⟨iv,zv,hiv,z1,hzeq⟩:=hz;have hu:=iX (hL T r hr) hs;obtain⟨k1,k2,k3⟩:=uy (w:=E.w) hL hrk hg hky hkrep hkeys f2 f3 f5;have fin:∀(v:Value) (f:Bool) (p:PV),Rep E p v->Rep E (bif ok then .tup [p,.bool f] else p) (if ok then .tuple #[v,.bool f] else v):=by
  intro v f p hp;cases ok
  .exact hp
  .refine .tup [p,.bool f] [v,.bool f] O fun j c0 v0 g1 g2=>?_
   match j with
   |0=>simp at g1 g2;subst g1;subst g2;exact hp
   |1=>simp at g1 g2;subst g1;subst g2;exact .d (.bool _)
   |j+2=>simp at g1
 rcases k3 with⟨h1,hm⟩|⟨j,e,h1,hej,h3,hm⟩
 .refine⟨if ok then .tuple #[zv,.bool false] else zv,?_,?_⟩
  .simp only[Instr.lookup,Sem.run_bind,run_underlying hu,Result.andThen,MapKept.run_getObj_map f1,Sem.run_pure,k1,h1,zeroValue,typeInfo,run_program,hiv,z1]
  .have hmv:gX z key rows=z:=by simp[gX,hm]
   rw[hmv,hm];exact fin zv false z (.d (hzeq _ _))
 .have hlt:=mM hm;have hrow:rows[j]? = some rows[j]:=List.getElem?_eq_getElem hlt;have hl2:=f3 rows[j] ah;have hv1:rows[j][1]? = some (rows[j].getD 1 z):=by rw[List.getD_eq_getElem?_getD,List.getElem?_eq_getElem J];rfl
  refine⟨if ok then .tuple #[e.val,.bool true] else e.val,?_,?_⟩
  .simp only[Instr.lookup,Sem.run_bind,run_underlying hu,Result.andThen,MapKept.run_getObj_map f1,Sem.run_pure,k1,h1]
  .have hmv:gX z key rows=rows[j].getD 1 z:=by simp only[gX,hm,hrow]
   rw[hmv,hm];exact fin e.val true _ (f6 j _ _ e hrow hv1 hej)
theorem xJ (hL:ig P L)(h:Sim C γ s a w){T K V:TypeId}{r rk:LRow}{x y v:Operand}{k g kd:Nat}{c:Cont}(hr:L T=some r)(hs:r.sh = .map K V)(hrk:L K=some rk)(hx:s.ev x = .mp k g)(ho:s.own k=(g,some c))(hk1:c.kind<=kd)(hk3:kd<3)
  (hky:rk.sh.key (s.ev y)=true) (hkeys:gL rk.sh c.rows=true) (hkd:mA kd (s.ev v)=true) :
  ∃w',(Instr.mapUpdate T (a.eval x) (a.eval y) (a.eval v)).run P w = .ok () w'/\Sim C γ (s.setOwn k g (some ⟨c.ty,c.sz,jt (s.ev y) (dY kd (s.ev v)) c.rows,kd⟩)) a w':=by
 have hxr:=h.ev x;rw[hx]at hxr;obtain⟨hsz,b,hb,hxv⟩:=h.mp_at hxr ho;obtain⟨es,nn,f1,f2,f3,f4,f5,f6⟩:=(h.sites k c (by rw[ho])).mp b hb hsz J;have f1:w.heap[b]? = some (.map es nn):=f1;obtain⟨ik,d,_,hd,_,_,hfit,_⟩:=LRow.spec (hL K rk hrk);have hkrep:=h.ev y;have hk:=dU hfit hky hkrep;have hks:∀e∈es.toList,IsKey d e.key:=fun e he=>by
  obtain⟨j,hj,rfl⟩:=List.getElem_of_mem he;have hj':j<c.rows.length:=by rw[f2];simpa using hj
  have h2:=f3 c.rows[j] ah;obtain⟨c0,hc0⟩:∃c0,c.rows[j][0]? = some c0:=⟨c.rows[j][0],by simp[h2]⟩;exact dU hfit (lS hkeys (List.getElem?_eq_getElem hj') hc0) ((f5 j _ c0 _ (List.getElem?_eq_getElem hj') hc0 ah).rep ax)
 obtain⟨m1,m2⟩:=js hky hkrep c.rows es.toList hkeys (by simpa using f2) (fun i row c e e1 e2 e3=>(f5 i row c e e1 e2 (by simpa using e3)).rep ax);have hu:=iX (hL T r hr) hs;have hnc:∀cur T f,w.heap[b]? ≠ some (.cells cur T f):=fun cur T f e=>by rw[f1]at e;simp at e
 have vrep:=gd (k:=kd) ax hkd (h.ev v);have key0:∀ {kd:Nat},KRep (ao C γ s w) kd (s.ev y) (a.eval y):=by
  intro kd;have hd0:DRep w (ao C γ s w).okf (s.ev y) (a.eval y):=by
   generalize s.ev y=pk at hky hkrep;generalize rk.sh=shk at hky;cases shk<;>cases pk<;>simp only[Sh.key,Bool.false_eq_true]at hky
   .rw[hkrep.int_inv];exact .int _ _
   .rw[hkrep.str_inv];exact .str _
   .rw[hkrep.bool_inv];exact .bool _
  exact lT ax hd0
 rcases findNow_spec hk es.toList 0 hks with⟨h1,h2⟩|⟨j,e,h1,h2,h3⟩
 .have hm:gj (s.ev y) c.rows=none:=by
   cases hm:gj (s.ev y) c.rows with
   |none=>rfl
   |some i =>
    obtain⟨⟨e,g1,g2⟩,_⟩:=m2 i hm;exact absurd g2 (h2 e (bc g1))
  have hmp:jt (s.ev y) (dY kd (s.ev v)) c.rows=c.rows++[[s.ev y,dY kd (s.ev v)]]:=by simp only[jt,hm]
  rw[hmp];obtain⟨hp,hnew⟩:=gP (o' := .map (es.push { key:=a.eval y,val:=a.eval v,born:=nn }) (nn+1)) f1;have hl1:c.rows.length<=(c.rows++[[s.ev y,dY kd (s.ev v)]]).length:=ah;have hle:=jx (c':=⟨c.ty,c.sz,c.rows++[[s.ev y,dY kd (s.ev v)]],kd⟩) h ho hb hnc hp O O hl1;refine⟨_,?_,gQ h ho hb hnc hp O O hl1 ⟨(fun e=>by cases e),fun b' hb' _ _=>?_,(fun b' _ _ hk3=>by simp only at hk3;omega),(fun b' _ hz'=>by simp only at hz';omega)⟩⟩
  .rw[hxv];simp only[Instr.mapUpdate,Sem.run_bind,run_underlying hu,Result.andThen,MapKept.run_getObj_map f1,run_checkKey hd hk,run_findKey hd h1,MapKept.run_setObj_map _ f1]
  .have hb':b'=b:=(Option.some.inj hb').symm;subst hb';refine⟨_,_,hnew,by simp[f2],fun row hrow=>?_,(f4.up hk1).push _ O,fun i row c0 e e1 e2 e3=>?_,fun i row c0 e e1 e2 e3=>?_⟩
   .rcases List.mem_append.1 hrow with hrow|hrow
    .exact f3 row hrow
    .simp at hrow;subst hrow;rfl
   .rw[Array.getElem?_push]at e3;rw[List.getElem?_append]at e1;split at e3
    .rename_i hi;subst hi;rw[if_neg J,f2,Nat.sub_self]at e1;simp at e1 e3;subst e1;subst e3;simp at e2;subst e2;exact key0.mono hle
    .rename_i hi;have hlt:i<es.size:=(cD e3).1;rw[if_pos J]at e1;exact((f5 i row c0 e e1 e2 e3).up ax hk1).mono hle
   .rw[Array.getElem?_push]at e3;rw[List.getElem?_append]at e1;split at e3
    .rename_i hi;subst hi;rw[if_neg J,f2,Nat.sub_self]at e1;simp at e1 e3;subst e1;subst e3;simp at e2;subst e2;exact vrep.mono hle
    .rename_i hi;have hlt:i<es.size:=(cD e3).1;rw[if_pos J]at e1;exact((f6 i row c0 e e1 e2 e3).up ax hk1).mono hle
 .have hex:∃i,gj (s.ev y) c.rows=some i:=by
   cases hm:gj (s.ev y) c.rows with
   |none=>exact absurd h3 (m1 hm e (bc h2))
   |some i=>exact⟨i,rfl⟩
  obtain⟨i,hm⟩:=hex;obtain⟨⟨e',g1,g2⟩,g3⟩:=m2 i hm;have hji:j=i:=by
   rcases Nat.lt_trichotomy j i with hlt|heq|hgt
   .exact absurd h3 (g3 j e hlt h2)
   .exact heq
   .exact absurd h1 (f_ hk es.toList 0 j i e' e hks g1 g2 hgt)
  subst hji;rw[Nat.zero_add]at h1;have hlt:=mM hm;have hrow:c.rows[j]? = some c.rows[j]:=List.getElem?_eq_getElem hlt;have hrl:=f3 c.rows[j] ah;have hej:es[j]? = some e:=by simpa using h2
  have hmp:jt (s.ev y) (dY kd (s.ev v)) c.rows=c.rows.set j (c.rows[j].set 1 (dY kd (s.ev v))):=by simp only[jt,hm,hrow]
  rw[hmp];have hst:=run_keyThatStays (P:=P) (w:=w) hk;obtain⟨hp,hnew⟩:=gP (o' := .map (es.modify j fun e=>{ e with key:=a.eval y,val:=a.eval v }) nn) f1;have hl1:c.rows.length<=(c.rows.set j (c.rows[j].set 1 (dY kd (s.ev v)))).length:=ah;have hle:=jx (c':=⟨c.ty,c.sz,c.rows.set j (c.rows[j].set 1 (dY kd (s.ev v))),kd⟩) h ho hb hnc hp O O hl1;refine⟨_,?_,gQ h ho hb hnc hp O O hl1 ⟨(fun e=>by cases e),fun b' hb' _ _=>?_,(fun b' _ _ hk3=>by simp only at hk3;omega),(fun b' _ hz'=>by simp only at hz';omega)⟩⟩
  .rw[hxv];simp only[Instr.mapUpdate,Sem.run_bind,run_underlying hu,Result.andThen,MapKept.run_getObj_map f1,run_checkKey hd hk,run_findKey hd h1,hej,Option.map_some,Option.getD_some,h3,hst,MapKept.run_setObj_map _ f1]
  .have hb':b'=b:=(Option.some.inj hb').symm;subst hb';refine⟨_,_,hnew,by simp[f2],fun row' hr'=>?_,(f4.up hk1).modify j _ (fun _=>rfl),fun i row' c0 e e1 e2 e3=>?_,fun i row' c0 e e1 e2 e3=>?_⟩
   .rcases List.mem_or_eq_of_mem_set hr' with hr'|rfl
    .exact f3 row' hr'
    .simpa using hrl
   .rw[Array.getElem?_modify]at e3;split at e3
    .rename_i hij;subst hij;rw[hej]at e3;simp at e3;subst e3;rw[List.getElem?_set_self J]at e1;have e1:=Option.some.inj e1;subst e1;rw[List.getElem?_set_ne Y]at e2;have:=((f5 j _ c0 _ hrow e2 hej).up ax hk1).mono hle;rw[h3]at this;exact this
    .rename_i hij;rw[List.getElem?_set_ne hij]at e1;exact((f5 i row' c0 e e1 e2 e3).up ax hk1).mono hle
   .rw[Array.getElem?_modify]at e3;split at e3
    .rename_i hij;subst hij;rw[hej]at e3;simp at e3;subst e3;rw[List.getElem?_set_self J]at e1;have e1:=Option.some.inj e1;subst e1;rw[List.getElem?_set_self J]at e2;have e2:=Option.some.inj e2;subst e2;exact vrep.mono hle
    .rename_i hij;rw[List.getElem?_set_ne hij]at e1;exact((f6 i row' c0 e e1 e2 e3).up ax hk1).mono hle
theorem vO (hL:ig P L)(h:Sim C γ s a w){T K V:TypeId}{r rk:LRow}{kk:Option (List Sh)}{x y v:Operand}{k g kd:Nat}{c:Cont}(hr:L T=some r)(hs:r.sh = .map K V)(hrk:L K=some rk)(hx:s.ev x = .mp k g)(ho:s.own k=(g,some c))(hk1:c.kind<=kd)(hk3:kd<3)
  (hg:uA P K kk=true) (hky:ja rk.sh kk (s.ev y)=true) (hkeys:jo rk.sh kk c.rows=true) (hkd:mA kd (s.ev v)=true) :
  ∃w',(Instr.mapUpdate T (a.eval x) (a.eval y) (a.eval v)).run P w = .ok () w'/\Sim C γ (s.setOwn k g (some ⟨c.ty,c.sz,jt (s.ev y) (dY kd (s.ev v)) c.rows,kd⟩)) a w':=by
 have hxr:=h.ev x;rw[hx]at hxr;obtain⟨hsz,b,hb,hxv⟩:=h.mp_at hxr ho;obtain⟨es,nn,f1,f2,f3,f4,f5,f6⟩:=(h.sites k c (by rw[ho])).mp b hb hsz J;have f1:w.heap[b]? = some (.map es nn):=f1;have hkrep:=h.ev y;obtain⟨k1,k2,k3⟩:=uy (w:=w) hL hrk hg hky hkrep hkeys f2 f3 (fun i row c e e1 e2 e3=>(f5 i row c e e1 e2 e3).rep ax);have hu:=iX (hL T r hr) hs;have hnc:∀cur T f,w.heap[b]? ≠ some (.cells cur T f):=fun cur T f e=>by rw[f1]at e;simp at e
 have vrep:=gd (k:=kd) ax hkd (h.ev v);have key0:∀ {kd:Nat},KRep (ao C γ s w) kd (s.ev y) (a.eval y):=by
  intro kd;have hd0:DRep w (ao C γ s w).okf (s.ev y) (a.eval y):=Aw hky hkrep w _;exact lT ax hd0
 rcases k3 with⟨h1,hm⟩|⟨j,e,h1,hej,h3,hm⟩
 .have hmp:jt (s.ev y) (dY kd (s.ev v)) c.rows=c.rows++[[s.ev y,dY kd (s.ev v)]]:=by simp only[jt,hm]
  rw[hmp];obtain⟨hp,hnew⟩:=gP (o' := .map (es.push { key:=a.eval y,val:=a.eval v,born:=nn }) (nn+1)) f1;have hl1:c.rows.length<=(c.rows++[[s.ev y,dY kd (s.ev v)]]).length:=ah;have hle:=jx (c':=⟨c.ty,c.sz,c.rows++[[s.ev y,dY kd (s.ev v)]],kd⟩) h ho hb hnc hp O O hl1;refine⟨_,?_,gQ h ho hb hnc hp O O hl1 ⟨(fun e=>by cases e),fun b' hb' _ _=>?_,(fun b' _ _ hk3=>by simp only at hk3;omega),(fun b' _ hz'=>by simp only at hz';omega)⟩⟩
  .rw[hxv];simp only[Instr.mapUpdate,Sem.run_bind,run_underlying hu,Result.andThen,MapKept.run_getObj_map f1,k1,h1,MapKept.run_setObj_map _ f1]
  .have hb':b'=b:=(Option.some.inj hb').symm;subst hb';refine⟨_,_,hnew,by simp[f2],fun row hrow=>?_,(f4.up hk1).push _ O,fun i row c0 e e1 e2 e3=>?_,fun i row c0 e e1 e2 e3=>?_⟩
   .rcases List.mem_append.1 hrow with hrow|hrow
    .exact f3 row hrow
    .simp at hrow;subst hrow;rfl
   .rw[Array.getElem?_push]at e3;rw[List.getElem?_append]at e1;split at e3
    .rename_i hi;subst hi;rw[if_neg J,f2,Nat.sub_self]at e1;simp at e1 e3;subst e1;subst e3;simp at e2;subst e2;exact key0.mono hle
    .rename_i hi;have hlt:i<es.size:=(cD e3).1;rw[if_pos J]at e1;exact((f5 i row c0 e e1 e2 e3).up ax hk1).mono hle
   .rw[Array.getElem?_push]at e3;rw[List.getElem?_append]at e1;split at e3
    .rename_i hi;subst hi;rw[if_neg J,f2,Nat.sub_self]at e1;simp at e1 e3;subst e1;subst e3;simp at e2;subst e2;exact vrep.mono hle
    .rename_i hi;have hlt:i<es.size:=(cD e3).1;rw[if_pos J]at e1;exact((f6 i row c0 e e1 e2 e3).up ax hk1).mono hle
 .have hlt:=mM hm;have hrow:c.rows[j]? = some c.rows[j]:=List.getElem?_eq_getElem hlt;have hrl:=f3 c.rows[j] ah;have hmp:jt (s.ev y) (dY kd (s.ev v)) c.rows=c.rows.set j (c.rows[j].set 1 (dY kd (s.ev v))):=by simp only[jt,hm,hrow]
  rw[hmp];have hst:=k2;obtain⟨hp,hnew⟩:=gP (o' := .map (es.modify j fun e=>{ e with key:=a.eval y,val:=a.eval v }) nn) f1;have hl1:c.rows.length<=(c.rows.set j (c.rows[j].set 1 (dY kd (s.ev v)))).length:=ah;have hle:=jx (c':=⟨c.ty,c.sz,c.rows.set j (c.rows[j].set 1 (dY kd (s.ev v))),kd⟩) h ho hb hnc hp O O hl1;refine⟨_,?_,gQ h ho hb hnc hp O O hl1 ⟨(fun e=>by cases e),fun b' hb' _ _=>?_,(fun b' _ _ hk3=>by simp only at hk3;omega),(fun b' _ hz'=>by simp only at hz';omega)⟩⟩
  .rw[hxv];simp only[Instr.mapUpdate,Sem.run_bind,run_underlying hu,Result.andThen,MapKept.run_getObj_map f1,k1,h1,hej,Option.map_some,Option.getD_some,h3,hst,MapKept.run_setObj_map _ f1]
  .have hb':b'=b:=(Option.some.inj hb').symm;subst hb';refine⟨_,_,hnew,by simp[f2],fun row' hr'=>?_,(f4.up hk1).modify j _ (fun _=>rfl),fun i row' c0 e e1 e2 e3=>?_,fun i row' c0 e e1 e2 e3=>?_⟩
   .rcases List.mem_or_eq_of_mem_set hr' with hr'|rfl
    .exact f3 row' hr'
    .simpa using hrl
   .rw[Array.getElem?_modify]at e3;split at e3
    .rename_i hij;subst hij;rw[hej]at e3;simp at e3;subst e3;rw[List.getElem?_set_self J]at e1;have e1:=Option.some.inj e1;subst e1;rw[List.getElem?_set_ne Y]at e2;have:=((f5 j _ c0 _ hrow e2 hej).up ax hk1).mono hle;rw[h3]at this;exact this
    .rename_i hij;rw[List.getElem?_set_ne hij]at e1;exact((f5 i row' c0 e e1 e2 e3).up ax hk1).mono hle
   .rw[Array.getElem?_modify]at e3;split at e3
    .rename_i hij;subst hij;rw[hej]at e3;simp at e3;subst e3;rw[List.getElem?_set_self J]at e1;have e1:=Option.some.inj e1;subst e1;rw[List.getElem?_set_self J]at e2;have e2:=Option.some.inj e2;subst e2;exact vrep.mono hle
    .rename_i hij;rw[List.getElem?_set_ne hij]at e1;exact((f6 i row' c0 e e1 e2 e3).up ax hk1).mono hle
theorem K8 {E:Env}{blk:Option Nat}{c:Cont}(h:SiteOk E blk c){b:Nat}(hb:blk=some b)(hz:c.sz=0)(hk:c.kind=3):rY E b c.rows:=by
 have h1:=h.it b hb hz J;rw[hk]at h1;exact h1
theorem Bm (h:Sim C γ s a w){x:Operand}{k g:Nat}{c:Cont}{ck cv:PV}{rem:List PV}(hx:s.ev x = .mi k g)(ho:s.own k=(g,some c))(hk3:c.kind=3)(hrows:c.rows=[.agg [ck,cv]::rem]) :
  ∃u,(Instr.entry (a.eval x)).run P w = .ok u w/\Rep (ao C γ s w) (.tup [ck,cv]) u:=by
 have hxr:=h.ev x;rw[hx]at hxr;obtain⟨hsz,b,hb,hxv⟩:=h.mi_at hxr ho;obtain⟨m,es,seen,nn,f1,hok,f2,f4,last',rem',hr',hlast,hlen,hd⟩:=K8 (h.sites k c (by rw[ho])) hb hsz hk3;have f1:w.heap[b]? = some (.mapIter (some m) nn seen nn):=f1;have f2:w.heap[m]? = some (.map es nn):=f2;rw[hrows]at hr';simp at hr';obtain⟨rfl,rfl⟩:=hr';rcases hlast with hlast|⟨j,e,ck',cv',g1,g2,g3,g4,g5⟩
 .cases hlast
 .simp at g1;obtain⟨rfl,rfl⟩:=g1;have hfind:es.find? (fun q=>q.born==j)=some e:=by
   obtain⟨hm,hj⟩:=g3;obtain⟨i,hi,hie⟩:=List.getElem_of_mem hm;rw[Array.find?_eq_some_iff_getElem];have hi':i<es.size:=by simpa using hi
   refine⟨by simp[hj],i,hi',by simpa using hie,fun q hq=>?_⟩;have h5:=List.pairwise_iff_getElem.1 f4.2.1 q i aU hi hq;rw[hie]at h5;have h6:es[q].born<e.born:=by simpa using h5
   have:es[q].born≠j:=J;simpa using this
  refine⟨.tuple #[e.key,e.val],?_,.tup [ck,cv] [e.key,e.val] O fun i c0 v0 q1 q2=>?_⟩
  .rw[hxv];simp only[Instr.entry,getObj,Sem.run_bind,Sem.run,f1,f2,Result.andThen,g2,hfind];simp
  .match i with
   |0=>simp at q1 q2;subst q1;subst q2;exact .d g4
   |1=>simp at q1 q2;subst q1;subst q2;exact .d g5
   |i+2=>simp at q1
theorem mf (h:Sim C γ s a w):Sim C γ s a w.drew:=h.ext (f7 w)
theorem Eo (h:Sim C γ s a w){x:Operand}{ty:TypeId}{k g:Nat}{c:Cont}{last:PV}{rem:List PV}(hx:s.ev x = .mi k g)(ho:s.own k=(g,some c))(hk3:c.kind=3)(hrows:c.rows=[last::rem]) :
  (rem=[]/\(Instr.next (a.eval x) false ty).run P w = .ok (.tuple #[.bool false]) w) \/
  ∃i ck cv uk uv w',rem[i]? = some (.agg [ck,cv])/\(Instr.next (a.eval x) false ty).run P w = .ok (.tuple #[.bool true,uk,uv]) w'/\Sim C γ (s.setOwn k g (some ⟨c.ty,c.sz,[.agg [ck,cv]::rem.eraseIdx i],3⟩)) a w' /\
   Rep (ao C γ (s.setOwn k g (some ⟨c.ty,c.sz,[.agg [ck,cv]::rem.eraseIdx i],3⟩)) w') ck uk/\Rep (ao C γ (s.setOwn k g (some ⟨c.ty,c.sz,[.agg [ck,cv]::rem.eraseIdx i],3⟩)) w') cv uv:=by
 have hxr:=h.ev x;rw[hx]at hxr;obtain⟨hsz,b,hb,hxv⟩:=h.mi_at hxr ho;obtain⟨m,es,seen,nn,f1,hok,f2,f4,last',rem',hr',_,hlen,hd⟩:=K8 (h.sites k c (by rw[ho])) hb hsz hk3;have f1:w.heap[b]? = some (.mapIter (some m) nn seen nn):=f1;have f2:w.heap[m]? = some (.map es nn):=f2;have hrr:rem'=rem:=by rw[hrows]at hr';simp at hr';exact hr'.2.symm
 subst hrr;rcases run_next_at (P:=P) w ty b m nn nn seen es nn f1 f2 f4.1 (aP) with⟨h0,hrun⟩|⟨e,he,w1,hw1,hrun⟩
 .refine .inl ⟨List.eq_nil_of_length_eq_zero (by rw[hlen];exact h0),by rw[hxv];exact hrun⟩
 .right;obtain⟨i,hi,hie⟩:=List.getElem_of_mem he;have hie':(es.filter fun e=>!seen.contains e.born)[i]? = some e:=by
   have:(leftOf es seen)[i]? = some e:=by rw[<-Array.getElem?_toList,List.getElem?_eq_getElem hi,hie]
   exact this
  have hi':i<rem'.length:=by rw[hlen];exact(cD hie').1
  obtain⟨ck,cv,hc,hck,hcv⟩:=hd i rem'[i] e (List.getElem?_eq_getElem hi') hie';have hs1:Sim C γ s a w1:=by
   rcases hw1 with rfl|rfl
   .exact h
   .exact mf h
  have f1':w1.heap[b]? = some (.mapIter (some m) nn seen nn):=by rcases hw1 with rfl|rfl<;>exact f1
  have f2':w1.heap[m]? = some (.map es nn):=by rcases hw1 with rfl|rfl<;>exact f2
  have hok':(ao C γ s w1).ok m:=by rcases hw1 with rfl|rfl<;>exact hok
  have hdr:∀ {c:PV} {v:Value},DRep w (eE C γ s w) c v->DRep w1 (eE C γ s w1) c v:=by
   intro c v hd;rcases hw1 with rfl|rfl
   .exact hd
   .exact(fX (f7 w) h.base).drep hd
  have hput:=gP (o' := .mapIter (some m) nn (seen.push e.born) nn) f1';have hnc:∀cur T f,w1.heap[b]? ≠ some (.cells cur T f):=fun cur T f q=>by rw[f1']at q;simp at q
  have hl1:c.rows.length<=[PV.agg [ck,cv]::rem'.eraseIdx i].length:=by rw[hrows];simp
  have hle:=jx (c':=⟨c.ty,c.sz,[.agg [ck,cv]::rem'.eraseIdx i],3⟩) hs1 ho hb hnc hput.1 O O hl1;refine⟨i,ck,cv,e.key,e.val,_,by rw[List.getElem?_eq_getElem hi',hc],by rw[hxv];exact hrun,gQ hs1 ho hb hnc hput.1 O O hl1 ⟨(fun e=>by cases e),(fun b' _ _ hk3=>by simp only at hk3;omega),fun b' hb' _ _=>?_,(fun b' _ hz'=>by simp only at hz';omega)⟩,.d (hle.drep (hdr hck)),.d (hle.drep (hdr hcv))⟩;have hb':b'=b:=(Option.some.inj hb').symm;subst hb';have hborn:∀(q:MapEntry),q∈es.toList->∀q'∈es.toList,q.born=q'.born->q=q':=by
   intro q hq q' hq' hqq;obtain⟨j,hj,rfl⟩:=List.getElem_of_mem hq;obtain⟨j',hj',rfl⟩:=List.getElem_of_mem hq';rcases Nat.lt_trichotomy j j' with hlt|heq|hgt
   .have:=List.pairwise_iff_getElem.1 f4.2.1 j j' hj hj' hlt;omega
   .subst heq;rfl
   .have:=List.pairwise_iff_getElem.1 f4.2.1 j' j hj' hj hgt;omega
  have hnodup:es.toList.Nodup:=f4.2.1.imp fun {a b} hab hE=>by subst hE;omega
  have hfl:(es.filter fun q=>!(seen.push e.born).contains q.born).toList=(es.filter fun q=>!seen.contains q.born).toList.eraseIdx i:=by
   have hL:((es.filter fun q=>!seen.contains q.born).toList).Nodup:=by
    rw[Array.toList_filter];exact List.Pairwise.filter _ hnodup
   have hsub:∀q∈(es.filter fun q=>!seen.contains q.born).toList,q∈es.toList:=fun q hq=>by rw[Array.toList_filter]at hq;exact(List.mem_filter.1 hq).1
   have hmemE:e∈es.toList:=hsub e he;have h1:(es.filter fun q=>!(seen.push e.born).contains q.born).toList=(es.filter fun q=>!seen.contains q.born).toList.filter (fun q=>!decide (q.born=e.born)):=by
    rw[Array.toList_filter,Array.toList_filter,List.filter_filter];apply List.filter_congr;intro q hq;by_cases hqe:q.born=e.born<;>simp[hqe]
   have h2:∀(l:List MapEntry) (i:Nat) (hi:i<l.length),l.Nodup->(∀q∈l,q.born=e.born->q=e)->l[i]=e->l.filter (fun q=>!decide (q.born=e.born))=l.eraseIdx i:=by
    intro l
    induction l with
    |nil=>intro i hi;simp at hi
    |cons q l ih =>
     intro i hi hn hqb he';rw[List.nodup_cons]at hn;cases i with
     |zero =>
      simp at he';subst he';simp only[List.eraseIdx_cons_zero,List.filter_cons];rw[if_neg ah];rw[List.filter_eq_self];intro q' hq';have:q'.born≠q.born:=fun hh=>hn.1 (by rw[<-hqb q' (.tail _ hq') hh];exact hq');simpa using this
     |succ i =>
      simp only[List.getElem_cons_succ]at he';have hne:q.born≠e.born:=fun hh=>hn.1 (by rw[hqb q (.head _) hh,<-he'];exact List.getElem_mem _);simp only[List.eraseIdx_cons_succ,List.filter_cons];rw[if_pos (by simpa using hne),ih i (by simpa using hi) hn.2 (fun q' hq'=>hqb q' (.tail _ hq')) he']
   rw[h1];exact h2 _ i hi hL (fun q hq hqe=>hborn q (hsub q hq) e hmemE hqe) hie
  have hself:e∈es.toList/\e.born=e.born:=⟨by have:=he;rw[leftOf,Array.toList_filter]at this;exact(List.mem_filter.1 this).1,O⟩;have hfl':∀j,(es.filter fun q=>!(seen.push e.born).contains q.born)[j]? = ((es.filter fun q=>!seen.contains q.born).toList.eraseIdx i)[j]? := fun j=>by rw[<-hfl,Array.getElem?_toList]
  show rY _ _ _;refine⟨m,es,seen.push e.born,nn,hput.2,hle.ok m hok',hle.mapc m _ _ hok' f2',f4,.agg [ck,cv],rem'.eraseIdx i,O,.inr ⟨e.born,e,ck,cv,O,ah,hself,hle.drep (hdr hck),hle.drep (hdr hcv)⟩,?_,fun j c' q e1 e2=>?_⟩
  .have:=congrArg List.length hfl;rw[Array.length_toList]at this;rw[this,List.length_eraseIdx,List.length_eraseIdx,hlen];rfl
  .rw[hfl' j,List.getElem?_eraseIdx]at e2;rw[List.getElem?_eraseIdx]at e1;split at e1
   .rename_i hj;rw[if_pos hj,Array.getElem?_toList]at e2;obtain⟨ck',cv',g1,g2,g3⟩:=hd j c' q e1 e2;exact⟨ck',cv',g1,hle.drep (hdr g2),hle.drep (hdr g3)⟩
   .rename_i hj;rw[if_neg hj,Array.getElem?_toList]at e2;obtain⟨ck',cv',g1,g2,g3⟩:=hd (j+1) c' q e1 e2;exact⟨ck',cv',g1,hle.drep (hdr g2),hle.drep (hdr g3)⟩
end
end Go.Pv
namespace Go.Pv
open Go.RowKit
variable [Globs]
inductive Eff (P:Program) (L:Lay) (s:St) (o:Oper):St->Prop
 |nils (e:TypeId) (sz kd:Nat) {x:Operand} {d:Nat} (ho:o.op = .move x\/o.op = .assign x) (hd:o.dst=some d) (hx:s.ev x = .nil):Eff P L s o ((s.fin d ⟨e,sz,[],kd⟩).putR d (.als d ((s.own d).1+1) 0 0))
 |box {T:TypeId} {x:Operand} {d:Nat} {Pr:Prop} (ho:o.op = .box T x) (hd:o.dst=some d) (h1:du s (s.ev x).cells=some Pr) (h2:Pr) (h0:0<(s.ev x).cells.length) :
   Eff P L s o ((s.fin d ⟨T,(s.ev x).cells.length,[(s.ev x).cells],2⟩).putR d (.ptr d ((s.own d).1+1) 0 0))
 |alloc {T:TypeId} {r:LRow} {z:List PV} {d:Nat} (ho:o.op = .alloc T) (hd:o.dst=some d) (hr:L T=some r) (hz:r.zero=some z) (h0:0<z.length) :
   Eff P L s o ((s.fin d ⟨T,z.length,[z],2⟩).putR d (.ptr d ((s.own d).1+1) 0 0))
 |store {T:TypeId} {r:LRow} {x y:Operand} {k g i j:Nat} {c:Cont} {row:List PV} {Pr:Prop} (kd:Nat) (ho:o.op = .store T x y) (hd:o.dst=none) (hr:L T=some r) (hx:s.ev x = .ptr k g i j) (hown:s.own k=(g,some c))
   (hrow:c.rows[i]? = some row) (h1:du s (s.ev y).cells=some Pr) (h2:Pr) (hsz:(s.ev y).cells.length=r.size) (hle:j+r.size<=row.length) (hk:c.kind<=kd) (hkd:(s.ev y).cells.all (mA kd)=true) :
   Eff P L s o (s.setOwn k g (some ⟨c.ty,c.sz,c.rows.set i (mg row j ((s.ev y).cells.map (dY kd))),kd⟩))
 |appN {T e:TypeId} {r re:LRow} {x y:Operand} {d:Nat} {rows2:List (List PV)} {k2:Nat} {Cd2:Prop} (ho:o.op = .call ⟨.builtin .append,#[x,y],#[T,T]⟩) (hd:o.dst=some d) (hr:L T=some r) (hs:r.sh = .sl e) (hre:L e=some re)
   (hz:re.zero.isSome=true) (hsz:0<re.size) (hx:s.ev x = .nil) (hq:kx s (s.ev y)=some (rows2,k2,Cd2)) (hc2:Cd2) (hlen:∀row∈rows2,row.length=re.size) (hb:rows2.length*re.bytes<=140737488355328) (h63:rows2.length<=9223372036854775807) :
   Eff P L s o ((s.fin d ⟨e,re.size,rows2,k2⟩).putR d (.als d ((s.own d).1+1) 0 rows2.length))
 |app {T e:TypeId} {r re:LRow} {x y:Operand} {d k g:Nat} {c:Cont} {m:Nat} {rows2:List (List PV)} {k2:Nat} {Cd2:Prop} (kd:Nat) (ho:o.op = .call ⟨.builtin .append,#[x,y],#[T,T]⟩) (hd:o.dst=some d) (hr:L T=some r) (hs:r.sh = .sl e) (hre:L e=some re)
   (hz:re.zero.isSome=true) (hsz:0<re.size) (hx:s.ev x = .als k g 0 m) (hown:s.own k=(g,some c)) (hm:m=c.rows.length) (hcs:c.sz=re.size) (hct:c.ty=e)
   (hq:kx s (s.ev y)=some (rows2,k2,Cd2)) (hc2:Cd2) (hlen:∀row∈rows2,row.length=re.size) (hk1:c.kind<=kd) (hk2:k2<=kd) (hb:(c.rows.length+rows2.length)*re.bytes<=140737488355328) (h63:c.rows.length+rows2.length<=9223372036854775807) :
   Eff P L s o ((s.fin k ⟨e,re.size,c.rows++rows2,kd⟩).putR d (.als k (g+1) 0 (c.rows++rows2).length))
 |make {T e:TypeId} {r re:LRow} {l c:Operand} {kl kc:IntKind} {n m:Int} {z:List PV} {d:Nat} (ho:o.op = .makeSlice T l c) (hd:o.dst=some d) (hr:L T=some r) (hs:r.sh = .sl e) (hre:L e=some re) (hz:re.zero=some z) (hsz:0<re.size)
   (hl:s.ev l = .int kl n) (hc:s.ev c = .int kc m) (h0:0<=n) (hnm:n<=m) (hb:(re.bytes:Int)*m<=140737488355328) (h63:m<=9223372036854775807) :
   Eff P L s o ((s.fin d ⟨e,re.size,List.replicate n.toNat z,0⟩).putR d (.als d ((s.own d).1+1) 0 (List.replicate n.toNat z).length))
 |slit {T e:TypeId} {r re:LRow} {n d:Nat} {parts:Array (Nat × Operand)} {Pr:Prop} (kd:Nat) (ho:o.op = .buildSlice T n parts) (hd:o.dst=some d) (hr:L T=some r) (hs:r.sh = .sl e) (hre:L e=some re) (hz:re.zero.isSome=true) (hsz:0<re.size)
   (hn:parts.toList.map (·.1)=List.range n) (hN:n*re.size<=16777216) (hcells:∀p∈parts.toList,(s.ev p.2).cells.length=re.size)
   (h1:du s (parts.toList.flatMap fun p=>(s.ev p.2).cells)=some Pr) (h2:Pr) (hkd:(parts.toList.flatMap fun p=>(s.ev p.2).cells).all (mA kd)=true) :
   Eff P L s o ((s.fin d ⟨e,re.size,parts.toList.map fun p=>(s.ev p.2).cells.map (dY kd),kd⟩).putR d (.als d ((s.own d).1+1) 0 (parts.toList.map fun p=>(s.ev p.2).cells.map (dY kd)).length))
 |makeMap {T d:Nat} (ho:o.op = .makeMap T none) (hd:o.dst=some d):Eff P L s o ((s.fin d ⟨T,0,[],0⟩).putR d (.mp d ((s.own d).1+1)))
 |mapOld {T K V:TypeId} {r rk:LRow} {x y:Operand} {k g i d:Nat} {c:Cont} {row:List PV} {v:PV} (ho:o.op = .mapEntry T x y) (hd:o.dst=some d) (hr:L T=some r) (hs:r.sh = .map K V) (hrk:L K=some rk) (hx:s.ev x = .mp k g) (hown:s.own k=(g,some c)) (hkd:c.kind=0)
   (hky:rk.sh.key (s.ev y)=true) (hkeys:gL rk.sh c.rows=true) (hm:gj (s.ev y) c.rows=some i) (hrow:c.rows[i]? = some row) (hv:row[1]? = some v):Eff P L s o (s.putR d (.tup [v,.int .i64 i]))
 |mapNew {T K V:TypeId} {r rk rv:LRow} {x y:Operand} {k g d:Nat} {c:Cont} {z:PV} (ho:o.op = .mapEntry T x y) (hd:o.dst=some d) (hr:L T=some r) (hs:r.sh = .map K V) (hrk:L K=some rk) (hrv:L V=some rv) (hz:rv.zero=some [z]) (hz1:BI P V=true) (hx:s.ev x = .mp k g) (hown:s.own k=(g,some c)) (hkd:c.kind=0)
   (hky:rk.sh.key (s.ev y)=true) (hkeys:gL rk.sh c.rows=true) (hm:gj (s.ev y) c.rows=none):Eff P L s o ((s.setOwn k g (some ⟨c.ty,c.sz,c.rows++[[s.ev y,z]],c.kind⟩)).putR d (.tup [z,.int .i64 c.rows.length]))
 |entStore {T:TypeId} {x st y:Operand} {k g i:Nat} {ki:IntKind} {c:Cont} {row:List PV} (kd:Nat) (ho:o.op = .entryStore T x st y) (hd:o.dst=none) (hx:s.ev x = .mp k g) (hown:s.own k=(g,some c)) (hst:s.ev st = .int ki i) (hrow:c.rows[i]? = some row) (hk0:c.kind=0) (hk:c.kind<=kd) (hk3:kd<3) (hkd:mA kd (s.ev y)=true) :
   Eff P L s o (s.setOwn k g (some ⟨c.ty,c.sz,c.rows.set i (row.set 1 (dY kd (s.ev y))),kd⟩))
 |mapSet {T K V:TypeId} {r rk:LRow} {x y v:Operand} {k g:Nat} {c:Cont} (kd:Nat) (ho:o.op = .mapUpdate T x y v) (hd:o.dst=none) (hr:L T=some r) (hs:r.sh = .map K V) (hrk:L K=some rk) (hx:s.ev x = .mp k g) (hown:s.own k=(g,some c)) (hk1:c.kind<=kd) (hk3:kd<3)
   (hky:rk.sh.key (s.ev y)=true) (hkeys:gL rk.sh c.rows=true) (hkd:mA kd (s.ev v)=true):Eff P L s o (s.setOwn k g (some ⟨c.ty,c.sz,jt (s.ev y) (dY kd (s.ev v)) c.rows,kd⟩))
 |mapSetG {T K V:TypeId} {r rk:LRow} {kk:Option (List Sh)} {x y v:Operand} {k g:Nat} {c:Cont} (kd:Nat) (ho:o.op = .mapUpdate T x y v) (hd:o.dst=none) (hr:L T=some r) (hs:r.sh = .map K V) (hrk:L K=some rk) (hx:s.ev x = .mp k g) (hown:s.own k=(g,some c)) (hk1:c.kind<=kd) (hk3:kd<3)
   (hg:uA P K kk=true) (hky:ja rk.sh kk (s.ev y)=true) (hkeys:jo rk.sh kk c.rows=true) (hkd:mA kd (s.ev v)=true):Eff P L s o (s.setOwn k g (some ⟨c.ty,c.sz,jt (s.ev y) (dY kd (s.ev v)) c.rows,kd⟩))
 |callO {fop:Operand} {args:Array Operand} {tys:Array TypeId} {f:FuncId} {caps pargs:List PV} {Cd:Prop} {b:Fl} {T:TypeId} {sz d:Nat} {rows:List (List PV)} (ho:o.op = .call ⟨.value fop,args,tys⟩) (hd:o.dst=some d) (hf:s.ev fop = .clo f caps) (hret:RetO P f pargs T sz rows)
   (hres:e_ (eZ s 4) (args.toList.map s.ev++caps)=some (pargs,Cd,b)) (hc:Cd):Eff P L s o ((s.fin d ⟨T,sz,rows,0⟩).putR d (.als d ((s.own d).1+1) 0 rows.length))
 |range {T K V:TypeId} {r:LRow} {x:Operand} {rows:List (List PV)} {d:Nat} (ho:o.op = .range T x) (hd:o.dst=some d) (hr:L T=some r) (hs:r.sh = .map K V) (hx:s.ev x = .mapd rows):Eff P L s o ((s.fin d ⟨T,0,yS rows,3⟩).putR d (.mi d ((s.own d).1+1)))
section
variable {P:Program}{L:Lay}{C:Ctx}{γ:Nat->Option Nat}{s:St}{a:Act}{w w':World}
def SimE (C:Ctx)(s:St)(a:Act)(w:World):Prop:=∃γ,Sim C γ s a w
theorem qV {place:Nat->Option (Nat × Nat)}{size:Nat}(hpl:∀i,place i=some (i*size,size)):∀(parts:List (Nat × Value)) (k:Nat) (ws:List (List Value)) (pre:List Value) (post:List Value),
  parts.map (·.1)=(List.range parts.length).map (k+·)->pre.length=k*size->parts.length*size<=post.length->ws.length=parts.length ->
  (∀(i:Nat) (p:Nat × Value) (u:List Value),parts[i]? = some p->ws[i]? = some u->p.2.cells=u.toArray/\u.length=size) ->
  Instr.fill place (pre++post).toArray parts=some (pre++ws.flatten++post.drop (parts.length*size)).toArray
 |[],k,ws,pre,post,_,_,_,hw,_=>by
  have:ws=[]:=List.eq_nil_of_length_eq_zero (by simpa using hw);subst this;simp[Instr.fill]
 |(i,v)::parts,k,ws,pre,post,hi,hpre,hpost,hw,hd=>by
  cases ws with
  |nil=>simp at hw
  |cons u ws =>
   obtain⟨h1,h2⟩:=hd 0 (i,v) u O O;simp only[List.length_cons,List.map_cons,List.range_succ_eq_map,List.map_map,List.cons.injEq,Nat.add_zero]at hi;obtain⟨rfl,hi⟩:=hi;have hpost':size+parts.length*size<=post.length:=by
    have:(parts.length+1)*size<=post.length:=by simpa using hpost
    rw[Nat.add_mul,Nat.one_mul]at this;omega
   rw[mI (hpl i) u h1 h2 (by simp[hpre,h2];omega)];have e1:(pre++post).take (i*size)=pre:=by rw[<-hpre,List.take_left]
   have e2:(pre++post).drop (i*size+u.length)=post.drop size:=by
    rw[List.drop_append,List.drop_eq_nil_of_le (by rw[hpre];omega),List.nil_append,hpre,h2];congr 1;omega
   rw[e1,e2];have ih:=qV hpl parts (i+1) ws (pre++u) (post.drop size) (by rw[hi];apply List.map_congr_left;intro x _;simp;omega) (by simp[hpre,h2,Nat.add_mul]) aU (by simpa using hw)
    (fun j p u' e1 e2=>hd (j+1) p u' (by simpa using e1) (by simpa using e2))
   rw[ih];congr 2;simp only[List.flatten_cons,List.append_assoc,List.drop_drop,List.length_cons];congr 3;rw[Nat.add_mul,Nat.one_mul,Nat.add_comm]
theorem nE:∀ {l1 l2:List PV} {Pr:Prop},du s (l1++l2)=some Pr->Pr->(∃A,du s l1=some A/\A)/\(∃B,du s l2=some B/\B)
 |[],l2,Pr,h,hp=>⟨⟨True,rfl,trivial⟩,⟨Pr,h,hp⟩⟩
 |c::l1,l2,Pr,h,hp=>by
  simp only[List.cons_append,du]at h;split at h
  .rename_i A hA;split at h
   .rename_i B hB;have h':=Option.some.inj h;subst h';obtain⟨⟨A',f1,f2⟩,g⟩:=nE hB hp.2;exact⟨⟨A/\A',by simp[du,hA,f1],hp.1,f2⟩,g⟩
   .cases h
  .cases h
theorem rx:∀ {l:List (Nat × Operand)} {Pr:Prop},du s (l.flatMap fun p=>(s.ev p.2).cells)=some Pr->Pr->∀p∈l,∃A,du s (s.ev p.2).cells=some A/\A
 |[],_,_,_,_,hp=>by cases hp
 |q::l,Pr,h,hp,p,hm=>by
  rw[List.flatMap_cons]at h;obtain⟨h1,B,h2,h3⟩:=nE h hp;rcases List.mem_cons.1 hm with rfl|hm
  .exact h1
  .exact rx h2 h3 p hm
theorem qY {E:Env}{k sz:Nat}:∀(rows:List (List PV)) (vals:List (List Value)),rows.length=vals.length->(∀row∈rows,row.length=sz) ->
  (∀(i:Nat) (row:List PV) (vs:List Value),rows[i]? = some row->vals[i]? = some vs->row.length=vs.length/\∀(j:Nat) (c:PV) (v:Value),row[j]? = some c->vs[j]? = some v->v.oneCell'=true/\KRep E k c v)->FlatRep E k sz rows vals.flatten
 |[],vals,hl,_,_=>by
  have:vals=[]:=List.eq_nil_of_length_eq_zero (by simpa using hl.symm);subst this;exact FlatRep.nil E k sz
 |row::rows,vals,hl,hr,hd=>by
  cases vals with
  |nil=>simp at hl
  |cons vs vals =>
   have h0:=hd 0 row vs O O;have ih:=qY rows vals (by simpa using hl) (fun r hr'=>hr r (by simp[hr'])) (fun i r v e1 e2=>hd (i+1) r v (by simpa using e1) (by simpa using e2));have h1:FlatRep E k sz [row] vs:=by
    have hlr:=hr row ah;refine⟨by simp;omega,by simpa using hlr,fun i j r pv e1 e2=>?_⟩;cases i with
    |succ i=>simp at e1
    |zero =>
     simp at e1;subst e1;have hj:j<vs.length:=by rw[<-h0.1];exact(bb e2).1
     have:=h0.2 j pv vs[j] e2 (List.getElem?_eq_getElem hj);exact⟨vs[j],by simp[hj],this.1,this.2⟩
   exact h1.append ih
theorem m_ (hL:ig P L)(h:Sim C γ s a w){o:Oper}{T e:TypeId}{r re:LRow}{n:Nat}{parts:Array (Nat × Operand)}{Pr:Prop}(kd:Nat)(ho:o.op = .buildSlice T n parts)(hr:L T=some r)(hs:r.sh = .sl e)(hre:L e=some re)(hz:re.zero.isSome=true)(hsz:0<re.size)
  (hn:parts.toList.map (·.1)=List.range n) (hNs:n*re.size<=16777216) (hcells:∀p∈parts.toList,(s.ev p.2).cells.length=re.size)
  (h1:du s (parts.toList.flatMap fun p=>(s.ev p.2).cells)=some Pr) (h2:Pr) (hkd:(parts.toList.flatMap fun p=>(s.ev p.2).cells).all (mA kd)=true) :
  ∃cur:Array Value,FlatRep (ao C γ s w) kd re.size (parts.toList.map fun p=>(s.ev p.2).cells.map (dY kd)) cur.toList/\(parts.toList.map fun p=>(s.ev p.2).cells.map (dY kd)).length<=maxLen /\
   (execOp a.eval o).run P w = .ok (.value (.slice (some ⟨w.heap.size,0,none⟩) (parts.toList.map fun p=>(s.ev p.2).cells.map (dY kd)).length (parts.toList.map fun p=>(s.ev p.2).cells.map (dY kd)).length)) (w.alloc (.cells cur e)):=by
 have wrapv:∀ {m:Sem Value} {v:Value} {w':World},m.run P w = .ok v w'->(do pure (Next.value (<-m)):Sem Next).run P w = .ok (.value v) w':=fun hm=>by simp[hm]
 obtain⟨i,dd,hi,hud,hisz,hiby,_,hzero⟩:=LRow.spec (hL e re hre);obtain⟨zv,z1,z2,z3,z4⟩:=hzero _ (Option.some_get hz).symm;have hu:=gE (hL T r hr) hs;have hlen:parts.toList.length=n:=by have:=congrArg List.length hn;simpa using this
 have hp:∀p∈parts.toList,∃vs:List Value,(a.eval p.2).cells=vs.toArray/\(s.ev p.2).cells.length=vs.length/\(∀(i:Nat) (c:PV) (u:Value),(s.ev p.2).cells[i]? = some c->vs[i]? = some u->Rep (ao C γ s w) c u)/\∀u∈vs,u.oneCell'=true:=fun p hp=>by
  obtain⟨A,e1,e2⟩:=rx h1 h2 p hp;exact kF h.live (h.ev p.2) e1 e2
 let ws:List (List Value):=parts.toList.map fun p=>(a.eval p.2).cells.toList;have hflat:FlatRep (ao C γ s w) kd re.size (parts.toList.map fun p=>(s.ev p.2).cells.map (dY kd)) ws.flatten:=by
  refine qY _ _ (by simp[ws]) (fun row hr=>?_) fun i' row vs e1 e2=>?_
  .obtain⟨p,hp',rfl⟩:=List.mem_map.1 hr;simpa using hcells p hp'
  .rw[List.getElem?_map]at e1 e2;cases hx:parts.toList[i']? with
   |none=>rw[hx]at e1;simp at e1
   |some p =>
    rw[hx]at e1 e2;simp at e1 e2;subst e1;subst e2;have hmem:p∈parts.toList:=bc hx;obtain⟨vs,f1,f2,f3,f4⟩:=hp p hmem;rw[f1];refine⟨by simp[f2],fun j c v g1 g2=>?_⟩;rw[List.getElem?_map]at g1;cases hq:(s.ev p.2).cells[j]? with
    |none=>rw[hq]at g1;simp at g1
    |some q =>
     rw[hq]at g1;simp at g1 g2;subst g1;have hkq:mA kd q=true:=List.all_eq_true.1 hkd q (List.mem_flatMap.2 ⟨p,hmem,bc hq⟩);exact⟨f4 v (bc g2),gd ax hkq (f3 j q v hq g2)⟩
 have hmx:(parts.toList.map fun p=>(s.ev p.2).cells.map (dY kd)).length<=maxLen:=by
  have:n*1<=n*re.size:=Nat.mul_le_mul_left _ hsz;simp[hlen,maxLen];omega
 refine⟨ws.flatten.toArray,by simpa using hflat,hmx,?_⟩;simp only[execOp,ho];refine wrapv ?_;have hfill:∀zc:Array Value,zc.size=n*re.size->Instr.fill (fun i=>some (i*re.size,re.size)) zc (parts.toList.map fun p=>(p.1,a.eval p.2))=some ws.flatten.toArray:=by
  intro zc y1
  have hfill:=qV (place:=fun i=>some (i*re.size,re.size)) (fun _=>rfl) (parts.toList.map fun p=>(p.1,a.eval p.2)) 0 ws [] zc.toList (by
    simp only[List.map_map,List.length_map,Nat.zero_add];rw[show(List.range parts.toList.length).map (fun x=>x)=List.range parts.toList.length by simp,hlen,<-hn]
    apply List.map_congr_left;intro p _;rfl) ah (by rw[List.length_map,hlen,Array.length_toList,y1];exact aP) (by simp[ws]) (fun i' p u e1 e2=>by
    simp only[ws]at e2;rw[List.getElem?_map]at e1 e2;cases hx:parts.toList[i']? with
    |none=>rw[hx]at e1;simp at e1
    |some q =>
     rw[hx]at e1 e2;simp at e1 e2;subst e1;subst e2;have hmem:q∈parts.toList:=bc hx;obtain⟨vs,f1,f2,_⟩:=hp q hmem;refine⟨ah,?_⟩
     rw[<-hcells q hmem,f2,f1])
  have hdrop:zc.toList.drop ((parts.toList.map fun p=>(p.1,a.eval p.2)).length*re.size)=[]:=List.drop_eq_nil_of_le (by rw[List.length_map,hlen,Array.length_toList,y1];exact aP);rw[hdrop]at hfill;simp only[List.nil_append,List.append_nil]at hfill;rwa [show zc.toList.toArray=zc by simp]at hfill
 have hparts:(parts.map fun(i,x)=>(i,a.eval x)).toList=parts.toList.map fun p=>(p.1,a.eval p.2):=ah;have hn24:¬(n*re.size>2^24):=J;have hl2:(parts.toList.map fun p=>(s.ev p.2).cells.map (dY kd)).length=n:=by simp[hlen]
 rw[hl2];by_cases h00:n*re.size=0
 .simp only[Instr.buildSlice,Sem.run_bind,run_underlying hu,Result.andThen_ok,dC (hL e re hre),Sem.run_ite,Sem.run_pure,hparts,h00,if_true];have:=hfill ((Array.range 0).map (fun i=>(#[]:Array Value)[i%(#[]:Array Value).size]!)) (by simp[h00]);rw[this];simp[newRow]
 .simp only[Instr.buildSlice,Sem.run_bind,run_underlying hu,Result.andThen_ok,dC (hL e re hre),Sem.run_ite,if_neg hn24,Sem.run_pure,hparts,h00,if_false,zeroValue,typeInfo,run_program,hi,z1];have:=hfill ((Array.range (n*re.size)).map (fun i=>zv.cells[i%zv.cells.size]!)) ah;rw[this];simp[newRow]
theorem Eff.sound (hL:ig P L)(hX:∀b,C.X b->b<C.B)(hgl:∀w,Below C.B C.w0 w->Globs.glob w)(h:SimE C s a w){o:Oper}(hN:b9 C.N o.dst=true){s':St}(hq:Eff P L s o s'){K:Act->World->Prop}{Q:Exit->Act->World->Prop}(hK:∀a' w',SimE C s' a' w'->K a' w'):o.wp P a w K Q:=by
 obtain⟨γ,h⟩:=h;have wrapv:∀ {m:Sem Value} {v:Value} {w':World},m.run P w = .ok v w'->(do pure (Next.value (<-m)):Sem Next).run P w = .ok (.value v) w':=fun hm=>by simp[hm]
 have done:∀ {γ':Nat->Option Nat} {s1:St} {d:Nat} {pv:PV} {v:Value} {w':World},(execOp a.eval o).run P w = .ok (.value v) w'->o.dst=some d->Sim C γ' s1 a w'->Rep (ao C γ' s1 w') pv v->s1.putR d pv=s'->o.wp P a w K Q:=by
  intro γ' s1 d pv v w' hrun hd hsim hrep heq;unfold Oper.wp;rw[hrun,Oper.upon_value,hd];refine hK _ _ ⟨γ',?_⟩;rw[<-heq];exact hsim.put (d:=some d) (by rw[<-hd];exact hN) hrep
 cases hq with
 |nils e sz kd ho hd hx =>
  rename_i x d;have hv:a.eval x = .slice none 0 0:=by
   have:=h.ev x;rw[hx]at this;exact this.nil_inv
  have ht:Turn C γ s w w d none:=⟨O,O,O,aP,fun b _ => .inl O,fun b hb=>by cases hb⟩;refine done (γ':=iD γ d none) (w':=w) (v := .slice none 0 0) ?_ hd (ht.sim h (.none_ O)) (.als ?_ fun _ l hl=>?_) O
  .rcases ho with ho|ho<;>simp[execOp,ho,hv]
  .show _<=((s.fin d _).own d).1;rw[St.fin,ak];exact aP
  .simp only[ao,St.fin,ak,bU,Option.map_some,Option.some.injEq]at hl;subst hl;exact .inl ⟨O,O,O,O⟩
 |box ho hd h1 h2 h0 =>
  rename_i T x d Pr;obtain⟨w',e1,e2,e3⟩:=xK (P:=P) (T:=T) (k:=d) h (h.ev x) h1 h2 h0;refine done (γ':=iD γ d (some w.heap.size)) (w':=w') (v := .pointer (some ⟨w.heap.size,0,none⟩)) ?_ hd e2 e3 O;simp only[execOp,ho];exact wrapv (by simp[Instr.box,e1])
 |alloc ho hd hr hz h0 =>
  rename_i T r z d;obtain⟨i,dd,hi,hud,hisz,hiby,_,hzero⟩:=LRow.spec (hL T r hr);obtain⟨zv,z1,z2,z3,z4⟩:=hzero z hz;have hrep:∀(i:Nat) (c:PV) (v:Value),z[i]? = some c->zv.cells.toList[i]? = some v->Rep (ao C γ s w) c v/\v.oneCell'=true:=fun i c v e1 e2=>by
   have:=iC (z4 i c v e1 (by simpa using e2)) w (eE C γ s w);exact⟨.d this.1,this.2⟩
  have ht:Turn C γ s w (w.alloc (.cells zv.cells T)) d (some w.heap.size):=Turn.alloc _ d;have hle:=ht.le h ⟨T,z.length,[z],2⟩
  refine done (γ':=iD γ d (some w.heap.size)) (w':=w.alloc (.cells zv.cells T)) (v := .pointer (some ⟨w.heap.size,0,none⟩)) ?_ hd (ht.sim h (SiteOk.row (vs:=zv.cells.toList) (by
    show(w.alloc (.cells zv.cells T)).heap[w.heap.size]? = _
    rw[bj]) (by simpa using z3) h0 (fun v hv=>?_) fun i c u f1 f2=>(hrep i c u f1 f2).1.mono hle)) (.ptr ?_ fun _ l hl=>?_) O
  .simp only[execOp,ho];refine wrapv ?_;simp[Instr.alloc,zeroValue,typeInfo,hi,z1,newVar,newRow]
  .obtain⟨i,hi',rfl⟩:=List.getElem_of_mem hv;have hzl:i<z.length:=by rw[z3];simpa using hi'
   exact(hrep i z[i] _ (List.getElem?_eq_getElem hzl) (List.getElem?_eq_getElem hi')).2
  .show _<=((s.fin d _).own d).1;rw[St.fin,ak];exact aP
  .simp only[ao,St.fin,ak,bU,Option.map_some,Option.some.injEq]at hl;subst hl;exact⟨w.heap.size,O,ah,ah,h0⟩
 |store kd ho hd hr hx hown hrow h1 h2 hsz hle hk hkd =>
  obtain⟨w',e1,e2⟩:=Bp (P:=P) hL h hr hx hown hrow h1 h2 hsz hle hk hkd;unfold Oper.wp;have:(execOp a.eval o).run P w = .ok .skip w':=by
   simp only[execOp,ho];simp[e1]
  rw[this,Oper.upon_skip,hd];exact hK _ _ ⟨γ,e2⟩
 |appN ho hd hr hs hre hz hsz hx hq hc2 hlen hb h63 =>
  rename_i T e r re x y d rows2 k2 Cd2;have hxr:=h.ev x;rw[hx]at hxr;obtain⟨v',w',blk',e1,e2,e3⟩:=pP (P:=P) (ty:=o.type) (k:=d) (kd:=k2) (rows1:=[]) (k1:=0) (Cd1:=True) hL h hr hs hre hz hsz hxr (h.ev y) (.inl ⟨O,O,O⟩) trivial hq hc2 hlen (Nat.zero_le _) (aP) (by simpa using hb) (by simpa [maxLen] using h63);refine done (γ':=iD γ d blk') (w':=w') (v:=v') ?_ hd e2 e3 O;simp only[execOp,ho,resolve,invoke,builtin,Sem.run_bind,Sem.run_pure,Result.andThen_ok,List.map_toArray,List.map_cons,List.map_nil];rw[e1];rfl
 |app kd ho hd hr hs hre hz hsz hx hown hm hcs hct hq hc2 hlen hk1 hk2 hb h63 =>
  rename_i T e r re x y d k g c m rows2 k2 Cd2;have hxr:=h.ev x;rw[hx]at hxr;obtain⟨v',w',blk',e1,e2,e3⟩:=pP (P:=P) (ty:=o.type) (k:=k) (kd:=kd) (rows1:=c.rows) (k1:=c.kind) (Cd1:=(s.own k).1=g/\0=0/\m=c.rows.length) hL h hr hs hre hz hsz hxr (h.ev y)
   (.inr ⟨c,by simp[uc,hown],O,O,hcs,hct⟩) ⟨by rw[hown],O,hm⟩ hq hc2 hlen hk1 hk2 hb (by simpa [maxLen] using h63)
  refine done (γ':=iD γ k blk') (w':=w') (v:=v') ?_ hd e2 e3 (by rw[hown]);simp only[execOp,ho,resolve,invoke,builtin,Sem.run_bind,Sem.run_pure,Result.andThen_ok,List.map_toArray,List.map_cons,List.map_nil];rw[e1];rfl
 |make ho hd hr hs hre hz hsz hl hc h0 hnm hb h63 =>
  rename_i T e r re l c kl kc n m z d;obtain⟨i,dd,hi,hud,hisz,hiby,_,hzero⟩:=LRow.spec (hL e re hre);obtain⟨zv,z1,z2,z3,z4⟩:=hzero z hz;have hu:=gE (hL T r hr) hs;have hlr:=h.ev l;rw[hl]at hlr;have hcr:=h.ev c;rw[hc]at hcr;have hrun:=run_make (P:=P) w T e i zv hu hi z1 kl kc n m h0 hnm (by rw[hiby];omega) h63;have hnm':n.toNat*re.size<=m.toNat*re.size:=Nat.mul_le_mul_right _ J;have hflat:FlatRep (ao C γ s w) 0 re.size (List.replicate n.toNat z) ((madeCells zv.cells (m.toNat*i.size)).toList.take ((List.replicate n.toNat z).length*re.size)):=by
   have e0:(madeCells zv.cells (m.toNat*i.size)).toList.length=m.toNat*re.size:=by simp[size_madeCells,hisz]
   refine⟨by
    show(List.take _ _).length=(List.replicate n.toNat z).length*re.size
    rw[List.length_take,e0,List.length_replicate];exact Nat.min_eq_left hnm',fun row hr=>?_,fun i' j row pv e1 e2=>?_⟩
   .rw[List.eq_of_mem_replicate hr,z3,z2]
   .have hi':i'<n.toNat:=by have:=(bb e1).1;simpa using this
    have hrow:row=z:=by rw[List.getElem?_replicate,if_pos hi']at e1;simpa using e1.symm
    subst hrow;have hj:j<re.size:=by have:=(bb e2).1;rw[z3,z2]at this;exact this
    have hmul:(i'+1)*re.size<=n.toNat*re.size:=Nat.mul_le_mul_right _ hi';rw[Nat.add_mul,Nat.one_mul]at hmul;have hjz:j<zv.cells.size:=by rw[z2];exact hj
    have hz4:=iC (z4 j pv zv.cells[j] e2 (Array.getElem?_eq_getElem hjz)) w (ao C γ s w).okf;refine⟨zv.cells[j],?_,hz4.2,hz4.1⟩;have hm:(i'*re.size+j)%zv.cells.size=j:=by rw[z2,Nat.mul_comm,Nat.mul_add_mod,Nat.mod_eq_of_lt hj]
    rw[List.getElem?_take,if_pos (by rw[List.length_replicate];omega)];simp only[madeCells,Array.toList_map,List.getElem?_map];rw[Array.toList_range,List.getElem?_range (by rw[hisz];omega)];simp[hm,hjz]
  have hmx:m.toNat<=maxLen:=by simp[maxLen];omega
  obtain⟨f1,f2⟩:=AM (T:=e) (k:=d) (cap:=m.toNat) (cur:=madeCells zv.cells (m.toNat*i.size)) h hsz hmx (by simp[size_madeCells,hisz]) aU hflat;refine done (γ':=iD γ d (some w.heap.size)) (w':=w.alloc (.cells (madeCells zv.cells (m.toNat*i.size)) e)) (v := .slice (some ⟨w.heap.size,0,none⟩) (List.replicate n.toNat z).length m.toNat) ?_ hd f1 f2 O;simp only[execOp,ho,hlr.int_inv,hcr.int_inv];exact wrapv (by rw[hrun];simp)
 |slit kd ho hd hr hs hre hz hsz hn hNs hcells h1 h2 hkd =>
  rename_i T e r re n d parts Pr;obtain⟨cur,g1,g2,g3⟩:=m_ (P:=P) hL h kd ho hr hs hre hz hsz hn hNs hcells h1 h2 hkd;obtain⟨f1,f2⟩:=Dj (T:=e) (k:=d) (cur:=cur) h hsz g2 g1;exact done (γ':=iD γ d (some w.heap.size)) g3 hd f1 f2 O
 |makeMap ho hd =>
  rename_i T d;obtain⟨e1,e2⟩:=vN h T d;refine done (γ':=iD γ d (some w.heap.size)) (w':=w.alloc (.map #[] 0)) (v := .map (some w.heap.size)) ?_ hd e1 e2 O;simp only[execOp,ho];exact wrapv (run_makeMap T w)
 |mapOld ho hd hr hs hrk hx hown hkd hky hkeys hm hrow hv =>
  rename_i T K V r rk x y k g i d c row v;obtain⟨w',u,e1,e2,e3⟩:=xH (P:=P) hL h hr hs hrk hx hown hkd hky hkeys hm hrow hv;refine done (γ':=γ) (w':=w') (v := .tuple #[u,goInt i]) ?_ hd e2 (.tup [v,.int .i64 i] [u,goInt i] O fun j c0 v0 f1 f2=>?_) O
  .simp only[execOp,ho];exact wrapv e1
  .match j with
   |0=>simp at f1 f2;subst f1;subst f2;exact e3
   |1=>simp at f1 f2;subst f1;subst f2;exact .d (.int _ _)
   |j+2=>simp at f1
 |mapNew ho hd hr hs hrk hrv hz hz1 hx hown hkd hky hkeys hm =>
  rename_i T K V r rk rv x y k g d c z;obtain⟨w',u,e1,e2,e3⟩:=xG (P:=P) hL h hr hs hrk hrv hz hx hown hkd (rX hz1) hky hkeys hm;refine done (γ':=γ) (w':=w') (v := .tuple #[u,goInt c.rows.length]) ?_ hd e2 (.tup [z,.int .i64 c.rows.length] [u,goInt c.rows.length] O fun j c0 v0 f1 f2=>?_) O
  .simp only[execOp,ho];exact wrapv e1
  .match j with
   |0=>simp at f1 f2;subst f1;subst f2;exact e3
   |1=>simp at f1 f2;subst f1;subst f2;exact .d (.int _ _)
   |j+2=>simp at f1
 |entStore kd ho hd hx hown hst hrow hk0 hk hk3 hkd =>
  rename_i T x st y k g i ki c row;obtain⟨w',e1,e2⟩:=pQ (P:=P) (T:=T) h hx hown hst hrow hk0 hk hk3 hkd;unfold Oper.wp;have:(execOp a.eval o).run P w = .ok .skip w':=by
   simp only[execOp,ho];simp[e1]
  rw[this,Oper.upon_skip,hd];exact hK _ _ ⟨γ,e2⟩
 |mapSet kd ho hd hr hs hrk hx hown hk1 hk3 hky hkeys hkd =>
  obtain⟨w',e1,e2⟩:=xJ (P:=P) hL h hr hs hrk hx hown hk1 hk3 hky hkeys hkd;unfold Oper.wp;have:(execOp a.eval o).run P w = .ok .skip w':=by
   simp only[execOp,ho];simp[e1]
  rw[this,Oper.upon_skip,hd];exact hK _ _ ⟨γ,e2⟩
 |mapSetG kd ho hd hr hs hrk hx hown hk1 hk3 hg hky hkeys hkd =>
  obtain⟨w',e1,e2⟩:=vO (P:=P) hL h hr hs hrk hx hown hk1 hk3 hg hky hkeys hkd;unfold Oper.wp;have:(execOp a.eval o).run P w = .ok .skip w':=by
   simp only[execOp,ho];simp[e1]
  rw[this,Oper.upon_skip,hd];exact hK _ _ ⟨γ,e2⟩
 |callO ho hd hf hret hres hc =>
  rename_i fop args tys f caps pargs Cd b T sz d rows;have hfv:=h.ev fop;rw[hf]at hfv;obtain⟨vs,hv,hl,hdv⟩:=hfv.clo_inv;have hspec:=iy (S:=Rep (ao C γ s w)) (R:=fun b=>DRep w (dM C γ s w b)) (fun b1 b2 c v=>⟨fun hd=>hd.weaken fun k=>et.1,fun hd=>hd.weaken fun k=>et.2⟩) (fun c d Cd b v e1 e2 e3=>iz hX h 4 c d Cd b v e1 e2 e3) _ _ _ _ (args.toList.map a.eval++vs) hres hc
   (by simp[hl]) (fun i c v e1 e2=>by
    rw[List.getElem?_append]at e1 e2;simp only[List.length_map]at e1 e2;split at e1
    .rename_i hlt;rw[if_pos hlt]at e2;rw[List.getElem?_map]at e1 e2;cases hx:args.toList[i]? with
     |none=>rw[hx]at e1;simp at e1
     |some x=>rw[hx]at e1 e2;simp at e1 e2;subst e1;subst e2;exact h.ev x
    .rename_i hlt;rw[if_neg hlt]at e2
     exact hdv _ c v e1 e2)
  unfold Oper.wp;rw[jC (f:=f) ho hv hret.1,Oper.upon_enter];refine(hret.2 w (fun k=>k<w.heap.size/\¬dM C γ s w b k) _ (hgl _ h.below) (fun _ hb=>hb.1) hspec.1 (fun i c v e1 e2=>(hspec.2 i c v e1 e2).weaken fun k hk=>⟨hk.1,fun hn=>hn.2 hk⟩)).mono ?_;rintro e w' ⟨v,rfl,hbel,hov⟩;have main:∀(blk:Option Nat),(∀b,blk=some b->b<w'.heap.size/\w.heap.size<=b)->SiteOk (ao C (iD γ d blk) (s.fin d ⟨T,sz,rows,0⟩) w') blk ⟨T,sz,rows,0⟩->BT w' ⟨blk,T,sz,rows.length⟩ 0 rows.length v->K (a.put o.dst v) w':=by
   intro blk hblk hsite hals;have ht:Turn C γ s w w' d blk:=⟨hbel.os,hbel.tape,hbel.output,hbel.size,fun b hb => .inl (hbel.block b hb),fun b hb=>⟨(hblk b hb).1,.inl (hblk b hb).2⟩⟩;have hsim:=ht.sim h hsite;rw[hd];refine hK _ _ ⟨_,hsim.put (d:=some d) (by rw[<-hd];exact hN) (.als ?_ fun _ l hl=>?_)⟩
   .show _<=((s.fin d _).own d).1;rw[St.fin,ak];exact aP
   .simp only[ao,St.fin,ak,bU,Option.map_some,Option.some.injEq]at hl;subst hl;exact hals
  rcases hov with⟨rfl,rfl⟩|⟨b,cap,cur,h1,rfl,h3,h4,h5,h6,h7,h8,h9,h10⟩
  .exact main none (fun b hb=>by cases hb) (.none_ O) (.inl ⟨O,O,O,O⟩)
  .have hb:b<w'.heap.size:=(cD h3).1;refine main (some b) (fun b' hb'=>by simp at hb';subst hb';exact⟨hb,h1⟩) ⟨(fun e=>by cases e),(fun b' _ hz=>by simp only at hz;omega),(fun b' _ hz=>by simp only at hz;omega),fun b' hb' _=>?_⟩ (.inr ⟨b,cap,cur,O,ah,h3,h4,h5,by simpa using h6,ah⟩);simp at hb';subst hb';refine⟨cur,h3,h7,h8,h9,fun i j row pv e1 e2=>?_⟩;obtain⟨u,u1,u2,u3⟩:=h10 i j row pv e1 e2;exact⟨u,u1,u2,u3 _ _⟩
 |range ho hd hr hs hx =>
  rename_i T K V r x rows d;obtain⟨w',e1,e2,e3⟩:=Bo (P:=P) hL h d hr hs hx;refine done (γ':=iD γ d (some w.heap.size)) (w':=w') (v := .pointer (some ⟨w.heap.size,0,none⟩)) ?_ hd e2 e3 O;simp only[execOp,ho];exact wrapv e1
inductive Dem (P:Program) (L:Lay) (s:St) (o:Oper) (K:St->Prop):Prop
 |next {x:Operand} {k g d:Nat} {c:Cont} {last:PV} {rem:List PV} (ho:o.op = .next x false) (hd:o.dst=some d) (hx:s.ev x = .mi k g) (hown:s.own k=(g,some c)) (hk3:c.kind=3) (hrows:c.rows=[last::rem])
   (h0:rem=[]->K (s.putR d (.tup [.bool false])))
   (h1:∀i ck cv,rem[i]? = some (.agg [ck,cv])->K ((s.setOwn k g (some ⟨c.ty,c.sz,[.agg [ck,cv]::rem.eraseIdx i],3⟩)).putR d (.tup [.bool true,ck,cv]))):Dem P L s o K
theorem Dem.sound (h:SimE C s a w){o:Oper}(hN:b9 C.N o.dst=true){K':St->Prop}(hq:Dem P L s o K'){K:Act->World->Prop}{Q:Exit->Act->World->Prop}(hK:∀s' a' w',SimE C s' a' w'->K' s'->K a' w'):o.wp P a w K Q:=by
 obtain⟨γ,h⟩:=h;have wrapv:∀ {m:Sem Value} {v:Value} {w':World},m.run P w = .ok v w'->(do pure (Next.value (<-m)):Sem Next).run P w = .ok (.value v) w':=fun hm=>by simp[hm]
 cases hq with
 |next ho hd hx hown hk3 hrows h0 h1 =>
  rename_i x k g d c last rem;unfold Oper.wp;rcases Eo (P:=P) (ty:=o.type) h hx hown hk3 hrows with⟨e0,e1⟩|⟨i,ck,cv,uk,uv,w',e0,e1,e2,e3,e4⟩
  .have:(execOp a.eval o).run P w = .ok (.value (.tuple #[.bool false])) w:=by
    simp only[execOp,ho];exact wrapv e1
   rw[this,Oper.upon_value,hd];refine hK _ _ _ ⟨γ,h.put (d:=some d) (by rw[<-hd];exact hN) (.tup [.bool false] [.bool false] O fun j c0 v0 f1 f2=>?_)⟩ (h0 e0)
   match j with
   |0=>simp at f1 f2;subst f1;subst f2;exact .d (.bool _)
   |j+1=>simp at f1
  .have:(execOp a.eval o).run P w = .ok (.value (.tuple #[.bool true,uk,uv])) w':=by
    simp only[execOp,ho];exact wrapv e1
   rw[this,Oper.upon_value,hd];refine hK _ _ _ ⟨γ,e2.put (d:=some d) (by rw[<-hd];exact hN) (.tup [.bool true,ck,cv] [.bool true,uk,uv] O fun j c0 v0 f1 f2=>?_)⟩ (h1 i ck cv e0)
   match j with
   |0=>simp at f1 f2;subst f1;subst f2;exact .d (.bool _)
   |1=>simp at f1 f2;subst f1;subst f2;exact e3
   |2=>simp at f1 f2;subst f1;subst f2;exact e4
   |j+3=>simp at f1
theorem Dem.mono {o:Oper}{K K':St->Prop}(hk:∀s,K s->K' s)(h:Dem P L s o K):Dem P L s o K':=by
 cases h with
 |next ho hd hx hown hk3 hrows h0 h1=>exact .next ho hd hx hown hk3 hrows (fun e=>hk _ (h0 e)) (fun i ck cv e=>hk _ (h1 i ck cv e))
end
end Go.Pv
