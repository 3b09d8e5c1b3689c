/- Texts of one hand, gathered: Pre, FaA, FaB, FaC, PvA, PvB, PvC, PvD, PvE, PvF, PvG, PvH, PvI, PvW, PvV, PvJ, PvQ, PvK, PvL. -/
import Derived.WalkKit
import Derived.ChangeKeysEq
import Derived.MapKept
import Derived.Laws.StructEq
import Derived.Maps.RangeRun
import Derived.StillTail
import Derived.Lib.ConvBytes
import Derived.Laws.BytesArg
set_option maxRecDepth 20000
set_option linter.unusedSectionVars false
set_option linter.unusedSimpArgs false
set_option linter.unusedVariables false
set_option linter.unnecessarySimpa false
namespace Go.Pv
theorem O {α:Sort _}{a:α}:a=a:=rfl
theorem J {p:Prop}(h:p:=by omega):p:=h
theorem Y {p:Prop}(h:p:=by decide):p:=h
theorem aN {p:Prop}(h:p:=by decide +kernel):p:=h
theorem ak {p:Prop}(h:p:=by repeat' constructor):p:=h
theorem aj {p:Prop}(h:p:=by simp):p:=h
theorem aX {p:Prop}(h:p:=by simp;omega):p:=h
theorem aW {p:Prop}(h:p:=by grind):p:=h
theorem bK {p:Prop}[Decidable p](h:decide p=true):p:=of_decide_eq_true h
theorem cJ {p:Prop}[Decidable p](h:decide p=false):¬p:=of_decide_eq_false h
theorem bD {α:Type _}{l:List α}{i:Nat}{a:α}(h:l[i]?=some a):∃h:i<l.length,l[i]=a:=List.getElem?_eq_some_iff.1 h
theorem bG {α:Type _}{l:List α}{i:Nat}{a:α}(h:l[i]?=some a):a∈l:=List.mem_of_getElem? h
theorem eO {α:Type _}{l:Array α}{i:Nat}{a:α}(h:l[i]?=some a):∃h:i<l.size,l[i]=a:=Array.getElem?_eq_some_iff.1 h
theorem aH {n:Nat}:n<=n:=Nat.le_refl n
theorem jM {p:Prop}(h:p:=by(intro row hr;first|(simp at hr;subst hr;rfl)|simp at hr)):p:=h
theorem bP:True:=trivial
theorem cP {c p:Prop}[Decidable c](h:decide c=true)(k:c->p:=by intro _;omega):p:=k (of_decide_eq_true h)
theorem cG {c p:Prop}[Decidable c](h:decide c=false)(k:¬c->p:=by intro _;omega):p:=k (of_decide_eq_false h)
abbrev aQ:=@List.getElem?_eq_getElem
abbrev aJ:=@Option.some.injEq
abbrev aM:=@List.length_map
abbrev aS:=@Int.toNat_natCast
abbrev aV:=@List.getElem?_map
abbrev aG:=@Nat.zero_add
abbrev bt:=@List.append_assoc
abbrev cH:=@List.getD_eq_getElem?_getD
abbrev bT:=@List.length_append
abbrev cm:=@Nat.mul_le_mul_right
abbrev bE:=@List.getElem?_take
abbrev aF:=@Nat.zero_le
abbrev aP:=@Prod.mk.injEq
abbrev bj:=@Bool.and_eq_true
abbrev cC:=@Array.getElem?_eq_getElem
abbrev bx:=@List.all_eq_true
abbrev bk:=@Option.some.inj
abbrev bI:=@List.length_take
abbrev aT:=@Nat.lt_or_ge
abbrev dO:=@List.eq_nil_of_length_eq_zero
abbrev dj:=@List.getElem?_append_right
abbrev bM:=@List.take_length
abbrev cD:=@List.take_append_drop
abbrev bQ:=@List.map_append
abbrev cq:=@List.getElem?_drop
abbrev cE:=@List.map_congr_left
abbrev cV:=@List.getElem?_set_ne
abbrev dl:=@List.getElem?_set_self
abbrev dp:=@List.take_of_length_le
abbrev cF:=@Bool.false_eq_true
abbrev bz:=@Nat.le_trans
abbrev cW:=@Nat.mul_le_mul_left
abbrev be:=@Nat.add_mul
abbrev dq:=@Array.getElem?_toList
abbrev bF:=@List.mem_map
abbrev ca:=@Option.map_some
abbrev dF:=@List.getElem?_eq_none
abbrev bS:=@Nat.mul_assoc
abbrev bB:=@Nat.mul_add
abbrev cM:=@Nat.mod_eq_of_lt
abbrev cu:=@List.append_nil
abbrev fG:=@List.getElem?_append_left
abbrev cw:=@List.mem_cons
abbrev b0:=@Nat.mul_comm
abbrev dP:=@Nat.eq_zero_or_pos
abbrev eH:=@Nat.lt_of_lt_of_le
abbrev fb:=@Nat.pow_le_pow_right
abbrev cn:=@Nat.pow_succ
abbrev eJ:=@List.length_cons
abbrev fc:=@List.getElem_of_mem
abbrev ip:=@Array.getD_eq_getD_getElem?
abbrev cx:=@Classical.em
abbrev iq:=@List.mem_append_left
abbrev dr:=@Nat.mul_le_mul
abbrev fe:=@List.mem_append
abbrev db:=@List.map_cons
abbrev dG:=@List.mem_range
abbrev gl:=@List.getElem?_append
abbrev gp:=@List.mem_of_mem_take
abbrev ir:=@List.mem_cons_of_mem
abbrev gN:=@List.mem_append_right
abbrev fN:=@Int.natAbs_natCast
abbrev fO:=@List.mem_cons_self
abbrev fP:=@List.ext_getElem?
abbrev jk:=@Option.map_eq_some_iff
abbrev fR:=@List.length_drop
abbrev gO:=@Nat.add_sub_cancel
abbrev lQ:=@List.mem_singleton
abbrev du:=@Rat.le_refl
abbrev lR:=@List.drop_eq_getElem_cons
abbrev dH:=@Nat.one_mul
abbrev jZ:=@List.drop_eq_nil_of_le
abbrev j0:=@Array.getElem?_eq_none
abbrev lS:=@Option.isSome_iff_exists
abbrev jl:=@List.getElem?_range
abbrev jm:=@Array.length_toList
abbrev nN:=@Array.getElem?_append_right
abbrev j1:=@List.mem_iff_getElem?
abbrev fS:=@List.drop_zero
abbrev jn:=@Rat.div_mul_cancel
abbrev jo:=@Nat.lt_of_le_of_lt
abbrev jp:=@Nat.pos_of_ne_zero
abbrev nO:=@List.pairwise_iff_getElem
abbrev iu:=@List.flatMap_def
abbrev iw:=@List.drop_length
abbrev jq:=@Rat.divInt_eq_div
abbrev lT:=@Bool.beq_eq_decide_eq
abbrev jr:=@Nat.lt_trichotomy
abbrev js:=@List.flatMap_cons
abbrev iy:=@Nat.min_eq_left
abbrev iz:=@List.foldl_cons
abbrev iA:=@List.length_set
abbrev iB:=@Int.natCast_mul
abbrev nP:=@List.length_eq_zero_iff
abbrev lU:=@Nat.div_lt_of_lt_mul
abbrev lW:=@List.pairwise_append
abbrev d0:=@Nat.mod_lt
abbrev fT:=@Nat.zero_mul
abbrev fU:=@Nat.sub_self
abbrev qo:=@Array.getElem?_append_left
abbrev f8:=@Int.natAbs_mul
abbrev fA:=@Nat.add_assoc
abbrev mG:=@List.mem_or_eq_of_mem_set
abbrev gD:=@Nat.div_le_self
abbrev gE:=@Nat.mod_add_div
abbrev e_:=@Rat.le_of_lt
abbrev mH:=@Array.getElem?_replicate
abbrev kx:=@Nat.mul_lt_mul_right
abbrev ky:=@List.mem_of_mem_drop
abbrev fB:=@Nat.add_zero
abbrev fC:=@List.map_nil
abbrev fD:=@List.map_set
abbrev gF:=@Rat.mul_nonneg
abbrev i8:=@Bool.not_eq_true'
abbrev i9:=@Nat.mul_left_comm
abbrev tg:=@List.drop_eq_getElem?_toList_append
abbrev i_:=@Bool.not_eq_true
abbrev kz:=@Rat.sub_eq_add_neg
abbrev mI:=@Array.getElem?_modify
abbrev mJ:=@List.getElem?_toArray
abbrev kA:=@List.pairwise_cons
abbrev fE:=@Nat.pow_pos
abbrev oT:=@List.getLast?_eq_getElem?
abbrev fF:=@Nat.pow_add
abbrev ib:=@List.take_zero
abbrev ja:=@Rat.intCast_mul
abbrev kB:=@List.size_toArray
abbrev jb:=@Nat.div_add_mod
abbrev kC:=@List.nodup_cons
abbrev mK:=@Array.toList_filter
abbrev oU:=@List.getElem?_cons_succ
abbrev th:=@Int.mul_le_mul_of_nonneg_left
abbrev oV:=@Nat.le_div_iff_mul_le
abbrev ic:=@Nat.add_comm
abbrev kD:=@Int.mul_ne_zero
abbrev oW:=@Nat.eq_of_beq_eq_true
abbrev kE:=@List.nil_append
abbrev oX:=@Array.mem_of_getElem?
abbrev oY:=@Nat.div_lt_iff_lt_mul
abbrev oZ:=@List.set_append_right
abbrev mL:=@List.take_add_one
abbrev jc:=@List.map_take
abbrev jd:=@Bool.true_and
abbrev mM:=@List.foldl_append
abbrev o0:=@Array.toArray_toList
abbrev o4:=@Nat.add_mul_div_left
abbrev kF:=@List.drop_drop
abbrev ti:=@Nat.add_mul_mod_self_left
abbrev kG:=@Bool.false_and
abbrev mN:=@Nat.div_eq_of_lt
abbrev o5:=@Nat.div_mul_le_self
abbrev o6:=@List.flatMap_append
abbrev o7:=@List.length_pos_iff
abbrev je:=@Nat.le_of_lt
abbrev jf:=@Nat.gcd_comm
abbrev jg:=@List.map_map
abbrev tj:=@List.length_erase_of_mem
abbrev jh:=@Nat.beq_refl
abbrev tk:=@Nat.gcd_pos_of_pos_right
abbrev mO:=@Rat.intCast_inj
abbrev o8:=@List.zip_cons_cons
abbrev kH:=@List.all_cons
abbrev mP:=@List.mem_filter
abbrev kI:=@Bool.false_or
abbrev y6:=@Array.all_eq_true_iff_forall_mem
abbrev tl:=@List.drop_of_length_le
abbrev tm:=@List.range_succ_eq_map
abbrev tn:=@Classical.epsilon_spec
abbrev to:=@List.length_eq_one_iff
abbrev tp:=@Rat.intCast_lt_intCast
abbrev y7:=@Array.getElem?_setIfInBounds_ne
abbrev ie:=@Nat.beq_eq
abbrev o9:=@List.mapM_toArray
abbrev o_:=@List.take_sublist
abbrev ji:=@Nat.le_refl
abbrev tq:=@List.length_singleton
abbrev y8:=@List.eq_nil_iff_forall_not_mem
abbrev y9:=@Int.mul_le_mul_of_nonneg_right
abbrev pc:=@List.map_toArray
abbrev y_:=@Rat.mul_le_mul_of_nonneg_left
abbrev tt:=@Nat.pow_lt_pow_right
abbrev tu:=@List.set_append_left
abbrev kJ:=@Rat.div_def
abbrev tv:=@Array.getElem?_push
abbrev pd:=@Bool.or_eq_true
abbrev pe:=@Nat.mul_add_mod
abbrev pf:=@Int.natCast_add
abbrev tz:=@Rat.intCast_natCast
abbrev ze:=@Int.sign_eq_neg_one_of_neg
abbrev zf:=@Int.tdiv_eq_ediv_of_nonneg
abbrev tA:=@Nat.lt_or_gt_of_ne
abbrev mR:=@Nat.mul_zero
abbrev tB:=@List.mem_filterMap
abbrev tC:=@Nat.gcd_zero_right
abbrev pg:=@Int.natAbs_neg
abbrev pj:=@List.take_left
abbrev zg:=@Nat.lt_of_mul_lt_mul_left
abbrev tD:=@Array.size_append
abbrev tE:=@List.getElem?_set
abbrev tF:=@List.drop_sublist
abbrev mS:=@Int.le_refl
abbrev pl:=@Bool.not_true
abbrev tG:=@List.cons_append
abbrev tI:=@List.getElem_mem
abbrev tJ:=@Array.toList_map
abbrev tK:=@Option.bind_some
abbrev tM:=@List.nodup_range
abbrev tN:=@Nat.zero_lt_succ
abbrev tO:=@List.perm_middle
abbrev tP:=@List.not_mem_nil
abbrev tQ:=@Rat.intCast_add
abbrev tR:=@Option.map_none
abbrev pm:=@Nat.sub_zero
abbrev pn:=@Rat.add_zero
abbrev tS:=@List.range_succ
abbrev tT:=@Int.mul_nonneg
abbrev po:=@Nat.mul_pos
abbrev pp:=@Nat.mul_one
abbrev pq:=@Rat.inv_pos
abbrev pr:=@Rat.one_mul
def nv:List UInt16->Nat
 |[]=>0
 |x::l=>x.toNat+65536*nv l
def Trm (l:List UInt16):Prop:=∀x,l.getLast? = some x->x.toNat≠0
def aq (n:Nat):List UInt16 :=
 if h:n=0 then [] else UInt16.ofNat n::aq (n/65536)
termination_by n
decreasing_by omega
theorem bN:aq 0=[]:=by unfold aq;simp
theorem et {n:Nat}(h:n≠0):aq n=UInt16.ofNat n::aq (n/65536):=by
 conv=>lhs;unfold aq
 rw[dif_neg h]
theorem bh (n:Nat):(UInt16.ofNat n).toNat=n%65536:=by simp[UInt16.toNat_ofNat']
theorem bm (x:UInt16):x.toNat<65536:=x.toNat_lt
theorem aO (n:Nat):nv (aq n)=n:=by
 induction n using Nat.strongRecOn with
 |_ n ih =>
  by_cases h:n=0
  .subst h;rw[bN];rfl
  .rw[et h,nv,ih _ J,bh];omega
theorem q_ {x y:UInt16}(h:x.toNat=y.toNat):x=y:=UInt16.toNat_inj.1 h
theorem Trm.tail {x:UInt16}{l:List UInt16}(h:Trm (x::l)):Trm l:=by
 intro y hy;cases l with
 |nil=>simp at hy
 |cons z l=>exact h y (by rw[List.getLast?_cons_cons];exact hy)
theorem GB:Trm []:=fun x h=>by simp at h
theorem pF {x:UInt16}{l:List UInt16}(h:Trm (x::l)):nv (x::l)≠0:=by
 induction l generalizing x with
 |nil=>have:=h x aj;simpa [nv] using this
 |cons y l ih=>have:=ih h.tail;rw[nv];omega
theorem gP:∀ {l:List UInt16},Trm l->aq (nv l)=l
 |[],_=>by simp[nv,bN]
 |x::l,h=>by
  have ih:=gP h.tail;have hx:=bm x;rw[et (pF h),nv];congr 1
  .apply q_;rw[bh];omega
  .rw[show(x.toNat+65536*nv l)/65536=nv l by omega];exact ih
theorem cf (n:Nat):Trm (aq n):=by
 induction n using Nat.strongRecOn with
 |_ n ih =>
  by_cases h:n=0
  .subst h;rw[bN];exact GB
  .rw[et h];intro x hx;by_cases h2:n/65536=0
   .rw[h2,bN]at hx;simp at hx;subst hx;rw[bh];omega
   .rw[et h2,List.getLast?_cons_cons,<-et h2]at hx;exact ih _ J x hx
theorem cS {n:Nat}:∀ {k:Nat},n<65536^k->(aq n).length<=k:=by
 induction n using Nat.strongRecOn with
 |_ n ih =>
  intro k hk;by_cases h:n=0
  .subst h;rw[bN];simp
  .rw[et h];cases k with
   |zero=>simp at hk;omega
   |succ k =>
    have:n/65536<65536^k:=by
     rw[cn]at hk;exact lU (by rw[b0];exact hk)
    have:=ih _ J this;simp;exact this
theorem cX:∀(l:List UInt16),nv l<65536^l.length
 |[]=>by simp[nv]
 |x::l=>by
  have:=cX l;have:=bm x;rw[nv,eJ,cn];omega
theorem kK:∀(a b:List UInt16),nv (a++b)=nv a+65536^a.length*nv b
 |[],b=>by simp[nv]
 |x::a,b=>by
  rw[tG,nv,kK a b,nv,eJ,cn,bB,<-bS,b0 65536 (65536^a.length)];omega
def a_ (l:List UInt16):List UInt16:=aq (nv l)
theorem l7 (k:Nat):0<65536^k:=fE Y
theorem d9 {l:List UInt16}{i:Nat}{x:UInt16}(h:l[i]?=some x):nv (l.take (i+1))=nv (l.take i)+65536^i*x.toNat:=by
 have hi:=(bD h).1;rw[mL,h,kK,bI,iy (je hi)];simp[nv]
theorem fH {l:List UInt16}{i:Nat}{x:UInt16}(h:l[i]?=some x):nv (l.drop i)=x.toNat+65536*nv (l.drop (i+1)):=by
 have:=tg (l:=l) (i:=i);rw[h]at this;rw[this];rfl
theorem dx (l:List UInt16)(i:Nat)(h:i<=l.length):nv l=nv (l.take i)+65536^i*nv (l.drop i):=by
 conv=>lhs;rw[<-cD i l]
 rw[kK,bI,iy h]
theorem Dp {l:List UInt16}{i:Nat}{x:UInt16}(h:l[i]?=some x)(y:UInt16):nv (l.set i y)+65536^i*x.toNat=nv l+65536^i*y.toNat:=by
 have hi:=(bD h).1;have h2:(l.set i y)[i]?=some y:=dl hi;rw[dx (l.set i y) i aX,dx l i J,fH h,fH h2];have e1:(l.set i y).take i=l.take i:=by
  apply fP;intro j;rw[bE,bE];split
  .rw[cV J]
  .rfl
 have e2:(l.set i y).drop (i+1)=l.drop (i+1):=by
  apply fP;intro j;rw[cq,cq,cV J]
 rw[e1,e2,bB,bB];omega
theorem ud:∀n,nv (List.replicate n 0)=0
 |0=>rfl
 |n+1=>by rw[List.replicate_succ,nv,ud n];rfl
theorem xY (l:List UInt16)(i:Nat):nv (l.take i)<=nv l:=by
 rcases aT i l.length with h|h
 .rw[dx l i J];exact Nat.le_add_right ..
 .rw[dp h];exact aH
theorem fW (l:List UInt16)(i:Nat):nv (l.take i)<65536^i:=by
 have:=cX (l.take i);refine eH this (fb Y ?_);rw[bI];exact Nat.min_le_left ..
theorem yC {l:List UInt16}(h:Trm l){k:Nat}(hk:l.length=k+1):65536^k<=nv l:=by
 obtain⟨x,hx⟩:∃x,l[k]?=some x:=⟨l[k],aQ J⟩;have h0:=h x (by rw[oT,hk];exact hx);have hd:l.drop (k+1)=[]:=tl J;rw[dx l k J,fH hx,hd];have:65536^k*1<=65536^k*(x.toNat+65536*nv []):=cW _ (by simp[nv];omega);omega
def ms (a b:List UInt16):Nat->Int
 |0=>0
 |i+1=>if (a.getD i 0).toNat=(b.getD i 0).toNat then ms a b i else((a.getD i 0).toNat:Int)-(b.getD i 0).toNat
def kX (a b:List UInt16):Int:=if a.length=b.length then ms a b a.length else(a.length:Int)-b.length
theorem cK {l:List UInt16}{i:Nat}(h:i<l.length):l[i]?=some (l.getD i 0):=by
 rw[cH,aQ h];rfl
theorem rM (a b:List UInt16):∀i,i<=a.length->i<=b.length->(ms a b i<0↔nv (a.take i)<nv (b.take i))/\(ms a b i=0↔nv (a.take i)=nv (b.take i))
 |0,_,_=>by simp[ms,nv]
 |i+1,ha,hb=>by
  obtain⟨h1,h2⟩:=rM a b i J J;have ea:=d9 (cK (l:=a) (i:=i) J);have eb:=d9 (cK (l:=b) (i:=i) J);have la:=fW a i;have lb:=fW b i;rw[ms,ea,eb];generalize (a.getD i 0).toNat=x,(b.getD i 0).toNat=y,nv (a.take i)=A,nv (b.take i)=C,65536^i=W at *
  split
  .rename_i he;subst he;rw[h1,h2];omega
  .rename_i he;rcases tA he with g|g
   .have:W*(x+1)<=W*y:=cW W g;rw[bB]at this;omega
   .have:W*(y+1)<=W*x:=cW W g;rw[bB]at this;omega
theorem iJ {a b:List UInt16}(ha:Trm a)(hb:Trm b):(kX a b<0↔nv a<nv b)/\(kX a b=0↔nv a=nv b):=by
 have key:∀ {a b:List UInt16},Trm b->a.length<b.length->nv a<nv b:=by
  intro a b hb h;obtain⟨k,hk⟩:∃k,b.length=k+1:=⟨b.length-1,J⟩;have:=yC hb hk;have h2:=cX a;have:65536^a.length<=65536^k:=fb Y J;omega
 rw[kX];split
 .rename_i h;have:=rM a b a.length (aH) J;rw[bM,dp J]at this;exact this
 .rename_i h;rcases tA h with g|g
  .have:=key hb g;omega
  .have:=key ha g;omega
theorem AA {V U v1 top W:Nat}(h1:v1*W<=V)(h2:U<(top+1)*W)(h3:0<v1):U/V<=top/v1:=by
 have h4:U/V*V<=U:=o5 U V;have h5:U/V*(v1*W)<=U/V*V:=cW _ h1;generalize U/V=Q at *
 rw[oV h3];rcases aT top (Q*v1) with h|h
 .have h6:(top+1)*W<=(Q*v1)*W:=cm W h;rw[bS]at h6;omega
 .exact h
theorem Cs {V U q r v1 v2 u2 top W:Nat}(he:q*v1+r=top)(hV:(v1*65536+v2)*W<=V)(hU:U<(top*65536+u2+1)*W)(hc:r*65536+u2<q*v2):U/V<=q-1:=by
 have e1:q*(v1*65536+v2)=q*v1*65536+q*v2:=by rw[bB,bS]
 have e2:top*65536=q*v1*65536+r*65536:=by rw[<-he,be]
 have h1:top*65536+u2+1<=q*(v1*65536+v2):=J;have h2:(top*65536+u2+1)*W<=q*(v1*65536+v2)*W:=cm W h1;have h3:q*((v1*65536+v2)*W)<=q*V:=cW q hV;rw[bS]at h2;have h4:U<q*V:=J;have:U/V<q:=lU (by rw[b0];exact h4);omega
theorem Ct {V U q r v1 v2 u2 top W:Nat}(he:q*v1+r=top)(hV:(v1*65536+v2)*W<=V)(hV2:V<(v1*65536+v2+1)*W)(hU:(top*65536+u2)*W<=U)(hv:32768<=v1)(hv2:v2<65536)(hq:q<=65535)
  (hc:65536<=r\/q*v2<=r*65536+u2):q*V<U+V:=by
 have e1:q*(v1*65536+v2)=q*v1*65536+q*v2:=by rw[bB,bS]
 have e2:top*65536=q*v1*65536+r*65536:=by rw[<-he,be]
 rcases dP q with h0|h0
 .subst h0;have:0<V:=by
   rcases dP V with hz|hz
   .subst hz;rcases dP W with hw|hw
    .subst hw;simp at hV2
    .have:0<(v1*65536+v2)*W:=po J hw;omega
   .exact hz
  omega
 have h1:q*V<q*((v1*65536+v2+1)*W):=(Nat.mul_lt_mul_left h0).2 hV2;have e3:q*((v1*65536+v2+1)*W)=(q*(v1*65536+v2)+q)*W:=by rw[<-bS,bB,pp]
 rw[e3]at h1;rcases hc with hc|hc
 ·
  have h2:q*v2<=q*65535:=cW q J;have h3:q*(v1*65536+v2)+q<=top*65536+u2:=J;have h4:(q*(v1*65536+v2)+q)*W<=(top*65536+u2)*W:=cm W h3;omega
 .have h3:q*(v1*65536+v2)+q<=top*65536+u2+(v1*65536+v2):=J;have h4:=cm W h3;rw[be (top*65536+u2)]at h4;omega
structure RI where
 neg:Bool
 l:List UInt16
 deriving Inhabited
structure RR where
 n:RI
 d:RI
 deriving Inhabited
def RI.val (a:RI):Int:=if a.neg then -(nv a.l:Int) else(nv a.l:Int)
def RI.den (a:RI):Int:=if nv a.l=0 then 1 else a.val
def RR.val (x:RR):Rat:=(x.n.val:Rat)/(x.d.den:Rat)
def dQ (z:Int):RI:=⟨decide (z<0),aq z.natAbs⟩
def ofQ (q:Rat):RR:=⟨dQ q.num,⟨false,aq q.den⟩⟩
theorem dV (z:Int):(dQ z).val=z:=by
 rw[RI.val,dQ];simp only[aO,decide_eq_true_eq];split<;>omega
theorem RI.val_abs (a:RI):a.val.natAbs=nv a.l:=by
 rw[RI.val];split<;>omega
theorem RI.den_ne (a:RI):a.den≠0:=by
 rw[RI.den];split
 .decide
 .rename_i h;intro e;have:=a.val_abs;rw[e]at this;exact h this.symm
theorem FP (q:Rat):(ofQ q).d.den=q.den:=by
 rw[ofQ,RI.den,RI.val];simp only[aO,cF,if_false];rw[if_neg q.den_nz]
theorem ofQ_val (q:Rat):(ofQ q).val=q:=by
 rw[RR.val,FP];show((dQ q.num).val:Rat)/_=q;rw[dV];rw[<-jq];exact Rat.num_divInt_den q
theorem un (a b:Int)(hb:b≠0):((a:Rat)/(b:Rat)).num.natAbs=a.natAbs/Nat.gcd a.natAbs b.natAbs/\((a:Rat)/(b:Rat)).den=b.natAbs/Nat.gcd a.natAbs b.natAbs/\(((a:Rat)/(b:Rat)).num<0↔(a<0/\0<b)\/(0<a/\b<0)):=by
 rw[<-jq];have hg:(0:Int)<b.gcd a:=by
  have:=Int.gcd_pos_of_ne_zero_left a hb;omega
 have hgc:b.gcd a=Nat.gcd a.natAbs b.natAbs:=by rw[Int.gcd,jf]
 have hd:((b.gcd a:Nat):Int)∣b.sign*a:=Int.dvd_mul_of_dvd_right (Int.gcd_dvd_right b a);refine⟨?_,?_,?_⟩
 .rw[Rat.num_divInt,Int.natAbs_ediv_of_dvd hd,f8,fN,hgc];have:b.sign.natAbs=1:=by
   rcases Int.lt_or_gt_of_ne hb with h|h
   .rw[ze h];rfl
   .rw[Int.sign_eq_one_of_pos h];rfl
  rw[this,dH]
 .rw[Rat.den_divInt,if_neg hb,hgc]
 .rw[Rat.num_divInt];obtain⟨k,hk⟩:=hd;rw[hk,Int.mul_ediv_cancel_left _ J];generalize ((b.gcd a:Nat):Int)=g at *
  have h1:k<0↔b.sign*a<0:=by
   rw[hk];constructor
   .intro h;exact Int.mul_neg_of_pos_of_neg hg h
   .intro h;rcases Int.lt_or_le k 0 with h'|h'
    .exact h'
    .have:=tT (Int.le_of_lt hg) h';omega
  rw[h1];rcases Int.lt_or_gt_of_ne hb with h|h
  .rw[ze h];omega
  .rw[Int.sign_eq_one_of_pos h];omega
end Go.Pv
namespace Go.Pv
theorem FR (a b:Int)(hb:b≠0):ofQ ((a:Rat)/(b:Rat))=⟨⟨decide ((a<0/\0<b)\/(0<a/\b<0)),aq (a.natAbs/Nat.gcd a.natAbs b.natAbs)⟩,⟨false,aq (b.natAbs/Nat.gcd a.natAbs b.natAbs)⟩⟩:=by
 obtain⟨h1,h2,h3⟩:=un a b hb;rw[ofQ,dQ,h1,h2];simp only[h3]
theorem RR.val_ne (x:RR):(x.d.den:Rat)≠0:=by
 have:=x.d.den_ne;intro h;exact this (mO.1 (by simpa using h))
theorem RR.zero_iff (x:RR):x.val=0↔nv x.n.l=0:=by
 have hd:=x.val_ne;rw[RR.val];constructor
 .intro h;have h2:(x.n.val:Rat)=0:=by
   have:(x.n.val:Rat)/(x.d.den:Rat)*(x.d.den:Rat)=x.n.val:=jn hd;rw[h]at this;grind
  have h3:x.n.val=0:=mO.1 (by simpa using h2);have:=x.n.val_abs;rw[h3]at this;omega
 .intro h;have:x.n.val=0:=by rw[RI.val,h];simp
  rw[this];grind
theorem zQ (a b c d:Int)(hb:b≠0)(hd:d≠0):(a:Rat)/b+(c:Rat)/d=((a*d+c*b:Int):Rat)/((b*d:Int):Rat):=by
 have h1:(b:Rat)≠0:=fun h=>hb (mO.1 (by simpa using h));have h2:(d:Rat)≠0:=fun h=>hd (mO.1 (by simpa using h));rw[tQ,ja,ja,ja];grind
theorem zT (a b c d:Int):(a:Rat)/b*((c:Rat)/d)=((a*c:Int):Rat)/((b*d:Int):Rat):=by
 rw[<-jq,<-jq,<-jq,Rat.divInt_mul_divInt]
theorem zR (a b c d:Int):(a:Rat)/b/((c:Rat)/d)=((a*d:Int):Rat)/((b*c:Int):Rat):=by
 rw[kJ ((a:Rat)/b),<-jq,<-jq,Rat.inv_divInt,Rat.divInt_mul_divInt,jq]
theorem Gc (a b:Int) : -((a:Rat)/b)=((-a:Int):Rat)/b:=by
 rw[Rat.intCast_neg];grind
class SZ (x:RR) (n:outParam Nat):Prop where
 ok:x.n.l.length<=n/\x.d.l.length<=n
def hq (q:Rat)(n:Nat):Prop:=q.num.natAbs<65536^n/\q.den<65536^n
theorem CY {q:Rat}{n:Nat}(h:hq q n):1<=n:=by
 cases n with
 |zero=>have:=h.2;have:=q.den_pos;simp at *;omega
 |succ n=>omega
theorem lj {q:Rat}{n:Nat}(h:hq q n):SZ (ofQ q) n:=⟨cS h.1,cS h.2⟩
theorem dJ {n m:Nat}(h:n<=m):65536^n<=65536^m:=fb Y h
theorem ep {q:Rat}{n m:Nat}(h:hq q n)(hm:n<=m):hq q m:=⟨eH h.1 (dJ hm),eH h.2 (dJ hm)⟩
theorem i6 {a b:Int}{n:Nat}(hb:b≠0)(h1:a.natAbs<65536^n)(h2:b.natAbs<65536^n):hq ((a:Rat)/(b:Rat)) n:=by
 obtain⟨e1,e2,_⟩:=un a b hb;refine⟨?_,?_⟩
 .rw[e1];exact jo (gD ..) h1
 .rw[e2];exact jo (gD ..) h2
theorem lL (q:Rat):q=(q.num:Rat)/((q.den:Int):Rat):=by
 rw[<-jq];exact(Rat.num_divInt_den q).symm
theorem gS {a b n m:Nat}(ha:a<65536^n)(hb:b<65536^m):a*b<65536^(n+m):=by
 rw[fF];rcases dP b with h|h
 .subst h;rw[mR];exact po (l7 _) (l7 _)
 .exact eH ((kx h).2 ha) (cW _ (je hb))
theorem dW (q:Rat):(q.den:Int)≠0:=by have:=q.den_pos;omega
theorem s_ {p q:Rat}{n m:Nat}(h1:hq p n)(h2:hq q m):hq (p+q) (n+m+1):=by
 rw[lL p,lL q,zQ _ _ _ _ (dW p) (dW q)];have e1:=gS h1.1 h2.2;have e2:=gS h2.1 h1.2;have e3:=gS h1.2 h2.2;rw[ic m n]at e2;have e4:65536^(n+m)+65536^(n+m)<=65536^(n+m+1):=by rw[cn];omega
 refine i6 (kD (dW p) (dW q)) ?_ ?_
 .refine jo (Int.natAbs_add_le ..) ?_;rw[f8,f8,fN,fN];omega
 .rw[f8,fN,fN];omega
theorem CX {p q:Rat}{n m:Nat}(h1:hq p n)(h2:hq q m):hq (p*q) (n+m):=by
 rw[lL p,lL q,zT];refine i6 (kD (dW p) (dW q)) ?_ ?_
 .rw[f8];exact gS h1.1 h2.1
 .rw[f8,fN,fN];exact gS h1.2 h2.2
theorem qi {q:Rat}{n:Nat}(h:hq q n):hq (-q) n:=by
 rw[hq,Rat.neg_num,Rat.neg_den,pg];exact h
theorem i5 {z:Int}{n:Nat}(h:z.natAbs<65536^n)(hn:1<=n):hq (z:Rat) n:=by
 rw[hq,Rat.num_intCast,Rat.den_intCast];refine⟨h,?_⟩;have:=dJ hn;omega
theorem CW {p q:Rat}{n m:Nat}(h1:hq p n)(h2:hq q m):hq (p/q) (n+m):=by
 by_cases hz:q.num=0
 .have:q=0:=Rat.num_eq_zero.1 hz;subst this;rw[kJ,Rat.inv_zero,Rat.mul_zero];refine i5 (z:=0) (l7 _) ?_;have:=CY h1;omega
 .rw[lL p,lL q,zR];refine i6 (kD (dW p) hz) ?_ ?_
  .rw[f8,fN];exact gS h1.1 h2.2
  .rw[f8,fN,b0,ic];rw[ic];have:=gS h1.2 h2.1;rw[b0];exact this
theorem RI.val_lt (a:RI){n:Nat}(h:a.l.length<=n):a.val.natAbs<65536^n:=by
 rw[a.val_abs];exact eH (cX a.l) (dJ h)
theorem RI.den_lt (a:RI){n:Nat}(h:a.l.length<=n)(hn:1<=n):a.den.natAbs<65536^n:=by
 rw[RI.den];split
 .have:=dJ hn;simp at *;omega
 .exact a.val_lt h
theorem SZ.hq {x:RR}{n:Nat}(h:SZ x n):hq x.val (n+1) :=
 i6 x.d.den_ne (x.n.val_lt (by have:=h.ok.1;omega)) (x.d.den_lt (by have:=h.ok.2;omega) J)
def RR.add (x y:RR):RR:=ofQ (x.val+y.val)
def RR.sub (x y:RR):RR:=ofQ (x.val-y.val)
def RR.mul (x y:RR):RR:=ofQ (x.val*y.val)
def RR.quo (x y:RR):RR:=ofQ (x.val/y.val)
def RR.neg (x:RR):RR:=ofQ (-x.val)
def RR.norm (x:RR):RR:=ofQ x.val
def RR.int (z:Int):RR:=ofQ z
def RR.zero:RR:=⟨⟨false,[]⟩,⟨false,[]⟩⟩
def sgn (q:Rat):Int:=if q<0 then -1 else if q=0 then 0 else 1
def RR.sgn (x:RR):Int:=Go.Pv.sgn x.val
@[simp] theorem RR.add_val (x y:RR):(x.add y).val=x.val+y.val:=ofQ_val _
@[simp] theorem RR.sub_val (x y:RR):(x.sub y).val=x.val-y.val:=ofQ_val _
@[simp] theorem RR.mul_val (x y:RR):(x.mul y).val=x.val*y.val:=ofQ_val _
@[simp] theorem RR.quo_val (x y:RR):(x.quo y).val=x.val/y.val:=ofQ_val _
@[simp] theorem RR.neg_val (x:RR):x.neg.val = -x.val:=ofQ_val _
@[simp] theorem RR.norm_val (x:RR):x.norm.val=x.val:=ofQ_val _
@[simp] theorem RR.int_val (z:Int):(RR.int z).val=z:=ofQ_val _
@[simp] theorem RR.ofQ_val (q:Rat):(ofQ q).val=q:=Go.Pv.ofQ_val _
@[simp] theorem RR.zero_val:RR.zero.val=0:=by rw[RR.zero_iff];rfl
instance {x y:RR} {n m:Nat} [h1:SZ x n] [h2:SZ y m]:SZ (x.add y) (n+m+3):=lj (ep (s_ h1.hq h2.hq) J)
instance {x y:RR} {n m:Nat} [h1:SZ x n] [h2:SZ y m]:SZ (x.mul y) (n+m+2):=lj (ep (CX h1.hq h2.hq) J)
instance {x y:RR} {n m:Nat} [h1:SZ x n] [h2:SZ y m]:SZ (x.quo y) (n+m+2):=lj (ep (CW h1.hq h2.hq) J)
instance {x y:RR} {n m:Nat} [h1:SZ x n] [h2:SZ y m]:SZ (x.sub y) (n+m+3):=by
 refine lj ?_;rw[kz];exact ep (s_ h1.hq (qi h2.hq)) J
instance {x:RR} {n:Nat} [h:SZ x n]:SZ x.neg (n+1):=lj (qi h.hq)
instance {x:RR} {n:Nat} [h:SZ x n]:SZ x.norm (n+1):=lj h.hq
instance:SZ RR.zero 0:=⟨⟨aH,aH⟩⟩
theorem SZ.int {z:Int}(h:z.natAbs<65536^4):SZ (RR.int z) 4:=lj (i5 h Y)
theorem SZ.mono {x:RR}{n m:Nat}(h:SZ x n)(hm:n<=m):SZ x m:=⟨⟨bz h.ok.1 hm,bz h.ok.2 hm⟩⟩
end Go.Pv
namespace Go.Pv
open Go.RowKit
inductive PV where
 |bool (b:Bool)
 |int (k:IntKind) (n:Int)
 |str (s:List UInt8)
 |raw (v:Value)
 |agg (cs:List PV)
 |tup (cs:List PV)
 |nil
 |sl (rows:List (List PV))
 |dref (cs:List PV) (j:Nat)
 |clo (f:FuncId) (caps:List PV)
 |fsl (rows:List (List PV))
 |als (s g i n:Nat)
 |ptr (s g i j:Nat)
 |mapd (rows:List (List PV))
 |mp (s g:Nat)
 |mi (s g:Nat)
 |yl (s g:Nat)
 |lbl (params:Array Tmp) (assign body:Code) (st:LoopState) (pend:Option Code) (regs:Nat->PV)
 |dfd
 deriving Inhabited
def BornOk (k:Nat)(es:Array MapEntry)(n:Nat):Prop :=
 (∀e∈es.toList,e.born<n)/\es.toList.Pairwise (fun a b=>a.born<b.born)/\(k=0->n=es.size/\∀(i:Nat) (e:MapEntry),es[i]?=some e->e.born=i)
theorem BornOk.up {k k' n:Nat}{es:Array MapEntry}(h:BornOk k es n)(hk:k<=k'):BornOk k' es n:=⟨h.1,h.2.1,fun e=>h.2.2 J⟩
theorem BornOk.nil (k:Nat):BornOk k #[] 0:=⟨fun e he=>by simp at he,aj,fun _=>⟨O,fun i e he=>by simp at he⟩⟩
theorem BornOk.push {k n:Nat}{es:Array MapEntry}(h:BornOk k es n)(e:MapEntry)(he:e.born=n):BornOk k (es.push e) (n+1):=by
 refine⟨fun q hq=>?_,?_,fun hk=>?_⟩
 .rw[Array.toList_push,fe]at hq;rcases hq with hq|hq
  .exact Nat.lt_succ_of_lt (h.1 q hq)
  .simp at hq;subst hq;omega
 .rw[Array.toList_push,lW];refine⟨h.2.1,aj,fun a ha b hb=>?_⟩;simp at hb;subst hb;rw[he];exact h.1 a ha
 .obtain⟨h1,h2⟩:=h.2.2 hk;refine⟨by simp[h1],fun i q hq=>?_⟩;rw[tv]at hq;split at hq
  .rename_i hi;simp at hq;subst hq;omega
  .exact h2 i q hq
theorem BornOk.modify {k n:Nat}{es:Array MapEntry}(h:BornOk k es n)(i:Nat)(f:MapEntry->MapEntry)(hf:∀e,(f e).born=e.born):BornOk k (es.modify i f) n:=by
 have hget:∀(j:Nat) (e:MapEntry),(es.modify i f)[j]?=some e->∃e',es[j]?=some e'/\e.born=e'.born:=by
  intro j e he;rw[mI]at he;split at he
  .cases hq:es[j]? with
   |none=>rw[hq]at he;simp at he
   |some q=>rw[hq]at he;simp at he;subst he;exact⟨q,rfl,hf q⟩
  .exact⟨e,he,O⟩
 refine⟨fun q hq=>?_,?_,fun hk=>?_⟩
 .obtain⟨j,hj,rfl⟩:=fc hq;obtain⟨e',h1,h2⟩:=hget j (es.modify i f).toList[j] (by rw[<-dq];exact aQ hj);rw[h2];exact h.1 e' (bG (by simpa using h1))
 .rw[nO];intro a b ha hb hab;obtain⟨e1,h1,h2⟩:=hget a (es.modify i f).toList[a] (by rw[<-dq];exact aQ ha);obtain⟨e2,h3,h4⟩:=hget b (es.modify i f).toList[b] (by rw[<-dq];exact aQ hb);rw[h2,h4];have ha':a<es.toList.length:=by simpa using ha
  have hb':b<es.toList.length:=by simpa using hb
  have h5:=nO.1 h.2.1 a b ha' hb' hab;have q1:es.toList[a]=e1:=by have:=aQ ha';rw[dq,h1]at this;exact(bk this).symm
  have q2:es.toList[b]=e2:=by have:=aQ hb';rw[dq,h3]at this;exact(bk this).symm
  rw[q1,q2]at h5;exact h5
 .obtain⟨h1,h2⟩:=h.2.2 hk;refine⟨by simp[h1],fun j e he=>?_⟩;obtain⟨e',h3,h4⟩:=hget j e he;rw[h4];exact h2 j e' h3
theorem BornOk.erase {k n:Nat}{es:Array MapEntry}(h:BornOk k es n)(i:Nat):BornOk 1 (es.eraseIdxIfInBounds i) n:=by
 have hl:(es.eraseIdxIfInBounds i).toList=es.toList.eraseIdx i:=aj;refine⟨fun q hq=>?_,?_,fun hk=>by cases hk⟩
 .rw[hl]at hq;exact h.1 q (List.mem_of_mem_eraseIdx hq)
 .rw[hl];exact h.2.1.sublist (List.eraseIdx_sublist ..)
inductive DRep (w:World) (ok:Nat->Prop):PV->Value->Prop
 |bool (b:Bool):DRep w ok (.bool b) (.bool b)
 |int (k:IntKind) (n:Int):DRep w ok (.int k n) (.int k n)
 |str (s:List UInt8):DRep w ok (.str s) (.string ⟨s.toArray⟩)
 |raw (v:Value):DRep w ok (.raw v) v
 |nil:DRep w ok .nil (.slice none 0 0)
 |agg (cs:List PV) (vs:List Value):cs.length=vs.length->(∀(i:Nat) (c:PV) (v:Value),cs[i]?=some c->vs[i]?=some v->DRep w ok c v)->DRep w ok (.agg cs) (.agg vs.toArray)
 |tup (cs:List PV) (vs:List Value):cs.length=vs.length->(∀(i:Nat) (c:PV) (v:Value),cs[i]?=some c->vs[i]?=some v->DRep w ok c v)->DRep w ok (.tup cs) (.tuple vs.toArray)
 |sl0 (a:Option Addr) (cap:Nat):DRep w ok (.sl []) (.slice a 0 cap)
 |sl (rows:List (List PV)) (b off cap sz:Nat) (vals:Nat->Nat->Value):ok b->0<sz->rows.length<=cap->(∀(row:List PV),row∈rows->row.length=sz) ->
   (∀(i j:Nat) (row:List PV) (c:PV),rows[i]?=some row->row[j]?=some c->w.cell? ⟨b,off+i*sz+j,none⟩=some (vals i j)/\(vals i j).oneCell'=true) ->
   (∀(i j:Nat) (row:List PV) (c:PV),rows[i]?=some row->row[j]?=some c->DRep w ok c (vals i j)) ->
   DRep w ok (.sl rows) (.slice (some ⟨b,off,none⟩) rows.length cap)
 |dref (cs:List PV) (j b off:Nat) (vals:Nat->Value):ok b ->
   (∀(i:Nat) (c:PV),cs[i]?=some c->w.cell? ⟨b,off+i,none⟩=some (vals i)/\(vals i).oneCell'=true) ->
   (∀(i:Nat) (c:PV),cs[i]?=some c->DRep w ok c (vals i)) ->
   DRep w ok (.dref cs j) (.pointer (some ⟨b,off+j,none⟩))
 |clo (f:FuncId) (caps:List PV) (vs:List Value):caps.length=vs.length->(∀(i:Nat) (c:PV) (v:Value),caps[i]?=some c->vs[i]?=some v->DRep w ok c v) ->
   DRep w ok (.clo f caps) (.func (.func f) #[] vs.toArray)
 |mapd (rows:List (List PV)) (b:Nat) (es:Array MapEntry) (nn:Nat):ok b->w.heap[b]?=some (.map es nn)->rows.length=es.size->(∀row∈rows,row.length=2)->BornOk 1 es nn ->
   (∀(i:Nat) (row:List PV) (c:PV) (e:MapEntry),rows[i]?=some row->row[0]?=some c->es[i]?=some e->DRep w ok c e.key) ->
   (∀(i:Nat) (row:List PV) (c:PV) (e:MapEntry),rows[i]?=some row->row[1]?=some c->es[i]?=some e->DRep w ok c e.val) ->
   DRep w ok (.mapd rows) (.map (some b))
theorem DRep.mono {w w':World}{ok ok':Nat->Prop}(hok:∀b,ok b->ok' b)
  (hc:∀b o v,ok b->w.cell? ⟨b,o,none⟩=some v->w'.cell? ⟨b,o,none⟩=some v) (hm:∀b es n,ok b->w.heap[b]?=some (.map es n)->w'.heap[b]?=some (.map es n)) {c:PV} {v:Value} (h:DRep w ok c v):DRep w' ok' c v:=by
 induction h with
 |bool b=>exact .bool b
 |int k n=>exact .int k n
 |str s=>exact .str s
 |raw v=>exact .raw v
 |nil=>exact .nil
 |agg cs vs hl _ ih=>exact .agg cs vs hl ih
 |tup cs vs hl _ ih=>exact .tup cs vs hl ih
 |sl0 a cap=>exact .sl0 a cap
 |sl rows b off cap sz vals hb hs hcap hrow hcell _ ih =>
  exact .sl rows b off cap sz vals (hok b hb) hs hcap hrow (fun i j row c h1 h2=>⟨hc b _ _ hb (hcell i j row c h1 h2).1,(hcell i j row c h1 h2).2⟩) ih
 |dref cs j b off vals hb hcell _ ih =>
  exact .dref cs j b off vals (hok b hb) (fun i c h1=>⟨hc b _ _ hb (hcell i c h1).1,(hcell i c h1).2⟩) ih
 |clo f caps vs hl _ ih=>exact .clo f caps vs hl ih
 |mapd rows b es nn hb hh hl h2 hborn _ _ ih1 ih2=>exact .mapd rows b es nn (hok b hb) (hm b _ _ hb hh) hl h2 hborn ih1 ih2
structure SLoc where
 blk:Option Nat
 ty:TypeId
 sz:Nat
 m:Nat
structure Env where
 w:World
 ok:Nat->Prop
 okf:Nat->Prop
 gen:Nat->Nat
 loc:Nat->Option SLoc
def B4 (w:World)(l:SLoc)(i n:Nat)(v:Value):Prop :=
 (l.blk=none/\i=0/\n=0/\v=.slice none 0 0) \/
 (∃b cap cur,l.blk=some b/\v=.slice (some ⟨b,i*l.sz,none⟩) n cap/\w.heap[b]?=some (.cells cur l.ty (0,0))/\n<=cap/\cap<=maxLen/\cur.size=(i+cap)*l.sz/\i+n<=l.m)
def IE (l:SLoc)(i j:Nat)(v:Value):Prop :=
 ∃b,l.blk=some b/\v=.pointer (some ⟨b,i*l.sz+j,none⟩)/\i<l.m/\j<l.sz
inductive Rep (E:Env):PV->Value->Prop
 |d {c:PV} {v:Value}:DRep E.w E.ok c v->Rep E c v
 |fsl {rows:List (List PV)} {v:Value}:DRep E.w E.okf (.sl rows) v->Rep E (.fsl rows) v
 |als {s g i n:Nat} {v:Value}:g<=E.gen s->(g=E.gen s->∀l,E.loc s=some l->B4 E.w l i n v)->Rep E (.als s g i n) v
 |ptr {s g i j:Nat} {v:Value}:g<=E.gen s->(g=E.gen s->∀l,E.loc s=some l->IE l i j v)->Rep E (.ptr s g i j) v
 |agg (cs:List PV) (vs:List Value):cs.length=vs.length->(∀(i:Nat) (c:PV) (v:Value),cs[i]?=some c->vs[i]?=some v->Rep E c v)->Rep E (.agg cs) (.agg vs.toArray)
 |tup (cs:List PV) (vs:List Value):cs.length=vs.length->(∀(i:Nat) (c:PV) (v:Value),cs[i]?=some c->vs[i]?=some v->Rep E c v)->Rep E (.tup cs) (.tuple vs.toArray)
 |clo (f:FuncId) (caps:List PV) (vs:List Value):caps.length=vs.length->(∀(i:Nat) (c:PV) (v:Value),caps[i]?=some c->vs[i]?=some v->Rep E c v) ->
   Rep E (.clo f caps) (.func (.func f) #[] vs.toArray)
 |mp {s g:Nat} {v:Value}:g<=E.gen s->(g=E.gen s->∀l,E.loc s=some l->l.sz=0/\∃b,l.blk=some b/\v=.map (some b))->Rep E (.mp s g) v
 |mi {s g:Nat} {v:Value}:g<=E.gen s->(g=E.gen s->∀l,E.loc s=some l->l.sz=0/\∃b,l.blk=some b/\v=.pointer (some ⟨b,0,none⟩))->Rep E (.mi s g) v
 |yl {s g:Nat} {v:Value}:g<=E.gen s->(g=E.gen s->∀l,E.loc s=some l->l.sz=0/\∃b,l.blk=some b/\v=.func (.yield b) #[] #[])->Rep E (.yl s g) v
 |dfd {b:Nat}:E.ok b->E.w.heap[b]?=some (.deferred (some []))->Rep E .dfd (.pointer (some ⟨b,0,none⟩))
structure Env.Le (E E':Env):Prop where
 ok:∀b,E.ok b->E'.ok b
 okf:∀b,E.okf b->E'.okf b
 okfok:∀b,E.okf b->E.ok b
 obj:∀b,E.ok b->E'.w.heap[b]? = E.w.heap[b]?
 gen:∀s,E.gen s<=E'.gen s
 loc:∀s l',E'.gen s=E.gen s->E'.loc s=some l'->∃l,E.loc s=some l/\l'.blk=l.blk/\l'.ty=l.ty/\l'.sz=l.sz/\l.m<=l'.m
 blk:∀s l' b cur,E'.gen s=E.gen s->E'.loc s=some l'->l'.blk=some b->E.w.heap[b]?=some (.cells cur l'.ty (0,0)) ->
  ∃cur',E'.w.heap[b]?=some (.cells cur' l'.ty (0,0))/\cur'.size=cur.size
theorem Env.Le.cell {E E':Env}(h:E.Le E')(b o:Nat)(v:Value)(hb:E.ok b)(hc:E.w.cell? ⟨b,o,none⟩=some v):E'.w.cell? ⟨b,o,none⟩=some v:=by
 rw[World.cell?_of_block (w:=E.w) (a:=⟨b,o,none⟩) (h.obj b hb)];exact hc
theorem Env.Le.mapc {E E':Env}(h:E.Le E')(b:Nat)(es:Array MapEntry)(n:Nat)(hb:E.ok b)(hc:E.w.heap[b]?=some (.map es n)):E'.w.heap[b]?=some (.map es n):=by rw[h.obj b hb];exact hc
theorem Env.Le.trans' {E E' E'':Env}(h:E.Le E')(k:E'.Le E''):E.Le E'' where
 ok b hb:=k.ok b (h.ok b hb)
 okf b hb:=k.okf b (h.okf b hb)
 okfok:=h.okfok
 obj b hb:=(k.obj b (h.ok b hb)).trans (h.obj b hb)
 gen s:=bz (h.gen s) (k.gen s)
 loc s l'' hg hl:=by
  have h1:=h.gen s;have h2:=k.gen s;obtain⟨l',e1,e2,e3,e4,e5⟩:=k.loc s l'' J hl;obtain⟨l,f1,f2,f3,f4,f5⟩:=h.loc s l' J e1;exact⟨l,f1,e2.trans f2,e3.trans f3,e4.trans f4,bz f5 e5⟩
 blk s l'' b cur hg hl hb hh:=by
  have h1:=h.gen s;have h2:=k.gen s;obtain⟨l',e1,e2,e3,e4,e5⟩:=k.loc s l'' J hl;obtain⟨c1,g1,g2⟩:=h.blk s l' b cur J e1 (by rw[<-e2];exact hb) (by rw[<-e3];exact hh);obtain⟨c2,g3,g4⟩:=k.blk s l'' b c1 J hl hb (by rw[e3];exact g1);exact⟨c2,g3,g4.trans g2⟩
theorem Env.Le.drep {E E':Env}(h:E.Le E'){c:PV}{v:Value}(hr:DRep E.w E.ok c v):DRep E'.w E'.ok c v :=
 hr.mono h.ok h.cell h.mapc
theorem Env.Le.drepf {E E':Env}(h:E.Le E'){c:PV}{v:Value}(hr:DRep E.w E.okf c v):DRep E'.w E'.okf c v :=
 hr.mono h.okf (fun b o v hb=>h.cell b o v (h.okfok b hb)) (fun b es n hb=>h.mapc b es n (h.okfok b hb))
theorem Rep.mono {E E':Env}(h:E.Le E'){c:PV}{v:Value}(hr:Rep E c v):Rep E' c v:=by
 induction hr with
 |d hd=>exact .d (h.drep hd)
 |fsl hd=>exact .fsl (h.drepf hd)
 |als hg hl =>
  rename_i s g i n v;refine .als (bz hg (h.gen _)) fun he l' hl'=>?_;have h1:=h.gen s;have h2:g=E.gen s:=J;obtain⟨l,e1,e2,e3,e4,e5⟩:=h.loc s l' J hl';have h3:=hl h2 l e1;rcases h3 with⟨a1,a2,a3,a4⟩|⟨b,cap,cur,a1,a2,a3,a4,a5,a6,a7⟩
  .exact .inl ⟨e2.trans a1,a2,a3,a4⟩
  .obtain⟨cur',b1,b2⟩:=h.blk s l' b cur J hl' (e2.trans a1) (by rw[e3];exact a3);exact .inr ⟨b,cap,cur',e2.trans a1,by rw[e4];exact a2,b1,a4,a5,by rw[b2,e4];exact a6,J⟩
 |ptr hg hl =>
  rename_i s g i j v;refine .ptr (bz hg (h.gen _)) fun he l' hl'=>?_;have h1:=h.gen s;obtain⟨l,e1,e2,e3,e4,e5⟩:=h.loc s l' J hl';obtain⟨b,a1,a2,a3,a4⟩:=hl J l e1;exact⟨b,e2.trans a1,by rw[e4];exact a2,J,J⟩
 |agg cs vs hl _ ih=>exact .agg cs vs hl ih
 |tup cs vs hl _ ih=>exact .tup cs vs hl ih
 |clo f caps vs hl _ ih=>exact .clo f caps vs hl ih
 |mp hg hl =>
  rename_i s g v;refine .mp (bz hg (h.gen _)) fun he l' hl'=>?_;have h1:=h.gen s;obtain⟨l,e1,e2,e3,e4,e5⟩:=h.loc s l' J hl';obtain⟨a0,b,a1,a2⟩:=hl J l e1;exact⟨e4.trans a0,b,e2.trans a1,a2⟩
 |mi hg hl =>
  rename_i s g v;refine .mi (bz hg (h.gen _)) fun he l' hl'=>?_;have h1:=h.gen s;obtain⟨l,e1,e2,e3,e4,e5⟩:=h.loc s l' J hl';obtain⟨a0,b,a1,a2⟩:=hl J l e1;exact⟨e4.trans a0,b,e2.trans a1,a2⟩
 |yl hg hl =>
  rename_i s g v;refine .yl (bz hg (h.gen _)) fun he l' hl'=>?_;have h1:=h.gen s;obtain⟨l,e1,e2,e3,e4,e5⟩:=h.loc s l' J hl';obtain⟨a0,b,a1,a2⟩:=hl J l e1;exact⟨e4.trans a0,b,e2.trans a1,a2⟩
 |dfd hb hd=>exact .dfd (h.ok _ hb) (by rw[h.obj _ hb];exact hd)
def KRep (E:Env)(k:Nat)(c:PV)(v:Value):Prop :=
 match k with
 |0=>DRep E.w E.okf c v
 |1=>DRep E.w E.ok c v
 |_=>Rep E c v
theorem KRep.mono {E E':Env}(h:E.Le E'){k:Nat}{c:PV}{v:Value}(hr:KRep E k c v):KRep E' k c v:=by
 match k with
 |0=>exact h.drepf hr
 |1=>exact h.drep hr
 |_+2=>exact Rep.mono h hr
theorem KRep.rep {E:Env}(hf:∀b,E.okf b->E.ok b){k:Nat}{c:PV}{v:Value}(hr:KRep E k c v):Rep E c v:=by
 match k with
 |0=>exact .d (DRep.mono hf (fun _ _ _ _ h=>h) (fun _ _ _ _ h=>h) hr)
 |1=>exact .d hr
 |_+2=>exact hr
theorem bR {a b:Nat}(h:a≠b):Nat.beq a b=false:=by
 cases e:Nat.beq a b with
 |false=>rfl
 |true=>exact absurd (oW e) h
structure Cont where
 ty:TypeId
 sz:Nat
 rows:List (List PV)
 kind:Nat
structure St where
 reg:Nat->PV
 own:Nat->Nat × Option Cont
def St.putR (s:St)(d:Nat)(v:PV):St:={ s with reg:=fun r=>bif Nat.beq r d then v else s.reg r }
def St.put (s:St)(d:Option Nat)(v:PV):St:=match d with|some d=>s.putR d v|none=>s
def St.setOwn (s:St)(k:Nat)(g:Nat)(c:Option Cont):St:={ s with own:=fun r=>bif Nat.beq r k then(g,c) else s.own r }
def cst1:Value->PV
 |.bool b => .bool b
 |.int k n => .int k n
 |.string s => .str s.data.toList
 |.slice none 0 0 => .nil
 |.func (.func f) ⟨[]⟩ ⟨[]⟩ => .clo f []
 |v => .raw v
def cst:Value->PV
 |.agg cs => .agg (cs.toList.map cst1)
 |v=>cst1 v
def St.ev (s:St):Operand->PV
 |.tmp t=>s.reg t
 |.const v=>cst v
 |.global g => .raw (.pointer (some ⟨g,0,none⟩))
 |.func f => .clo f []
theorem DRep.cst1 (w:World)(ok:Nat->Prop)(v:Value):DRep w ok (cst1 v) v:=by
 unfold Pv.cst1;split
 .exact .bool _
 .exact .int _ _
 .exact .str _
 .exact .nil
 .exact .clo _ [] [] O (fun i c v h=>by simp at h)
 .exact .raw _
theorem DRep.cst (w:World)(ok:Nat->Prop)(v:Value):DRep w ok (cst v) v:=by
 unfold Pv.cst;split
 .rename_i cs;have h:DRep w ok (.agg (cs.toList.map Pv.cst1)) (.agg cs.toList.toArray):=by
   refine .agg _ _ aj fun i c v h1 h2=>?_;rw[aV,h2]at h1;simp at h1;subst h1;exact DRep.cst1 w ok v
  simpa using h
 .exact DRep.cst1 w ok v
structure Ctx where
 B:Nat
 X:Nat->Prop
 w0:World
 N:Nat
 keep:PV->Value->Prop
 dfs:List Nat
def xV (D0:Nat):Deferred:={ target := .collected D0,args:=#[] }
def fu (C:Ctx)(γ:Nat->Option Nat)(s:St)(w:World)(b:Nat):Prop :=
 b<w.heap.size/\¬C.X b/\∀k c,(s.own k).2=some c->γ k≠some b
def ai (C:Ctx)(γ:Nat->Option Nat)(s:St)(w:World):Env where
 w:=w
 ok:=fu C γ s w
 okf b:=C.B<=b/\fu C γ s w b
 gen k:=(s.own k).1
 loc k:=(s.own k).2.map fun c=>⟨γ k,c.ty,c.sz,c.rows.length⟩
def IC (E:Env)(k:Nat)(b:Nat)(rows:List (List PV)):Prop :=
 ∃(es:Array MapEntry) (nn:Nat),E.w.heap[b]?=some (.map es nn)/\rows.length=es.size/\(∀row∈rows,row.length=2)/\BornOk k es nn /\
  (∀(i:Nat) (row:List PV) (c:PV) (e:MapEntry),rows[i]?=some row->row[0]?=some c->es[i]?=some e->KRep E k c e.key) /\
  (∀(i:Nat) (row:List PV) (c:PV) (e:MapEntry),rows[i]?=some row->row[1]?=some c->es[i]?=some e->KRep E k c e.val)
def sK (E:Env)(b:Nat)(rows:List (List PV)):Prop :=
 ∃(m:Nat) (es:Array MapEntry) (seen:Array Nat) (nn:Nat),E.w.heap[b]?=some (.mapIter (some m) nn seen nn)/\E.ok m/\E.w.heap[m]?=some (.map es nn)/\BornOk 1 es nn /\
  ∃(last:PV) (rem:List PV),rows=[last::rem]/\(last=.nil\/∃j e ck cv,last=.agg [ck,cv]/\seen.back? = some j/\(e∈es.toList/\e.born=j)/\DRep E.w E.ok ck e.key/\DRep E.w E.ok cv e.val)/\rem.length=(es.filter fun e=>!seen.contains e.born).size /\
   ∀(i:Nat) (c:PV) (e:MapEntry),rem[i]?=some c->(es.filter fun e=>!seen.contains e.born)[i]?=some e->∃ck cv,c=.agg [ck,cv]/\DRep E.w E.ok ck e.key/\DRep E.w E.ok cv e.val
def cT (N:Nat):Option Nat->Bool
 |some d=>Nat.blt d N
 |none=>true
def dw:Op->Bool
 |.defer _=>false
 |_=>true
def gx (r:Bool)(N:Nat):Code->Bool
 |.region _ ops _=>ops.toList.all fun o=>cT N o.dst&&dw o.op
 |.seq x y=>gx r N x&&gx r N y
 |.cond _ x y=>gx r N x&&gx r N y
 |.block _ c=>gx r N c
 |.loop c=>gx r N c
 |.rangeFunc _ ps assign body=>r&&ps.toList.all (fun p=>Nat.blt p N)&&gx false N assign&&gx false N body
 |_=>true
abbrev jP (N:Nat)(c:Code):Bool:=gx false N c
def pN (E:Env)(b:Nat)(rows:List (List PV)):Prop :=
 ∃(rec:Loop) (regs:Nat->PV),E.w.heap[b]?=some (.loop rec)/\rows=[[.lbl rec.params rec.assign rec.body rec.state rec.pending regs]]/\jP rec.tmps.size rec.assign=true/\jP rec.tmps.size rec.body=true /\
  (rec.params.toList.all fun p=>Nat.blt p rec.tmps.size)=true/\∀t,Rep E (regs t) (rec.tmps.getD t undef)
def Ix (E:Env)(b:Nat)(rows:List (List PV)):Prop :=
 ∃(T kb gb n:Nat) (p v:Value),rows=[[.int .i64 T,.als kb gb 0 n]]/\E.w.heap[b]?=some (.cells #[p,v] T (0,0))/\(p=.pointer none\/p=.pointer (some ⟨b,0,none⟩))/\Rep E (.als kb gb 0 n) v
def Hv (E:Env)(k b:Nat)(rows:List (List PV)):Prop:=match k with
 |3=>sK E b rows
 |5=>Ix E b rows
 |_=>pN E b rows
structure SiteOk (E:Env) (blk:Option Nat) (c:Cont):Prop where
 emp:blk=none->c.rows=[]
 mp:∀b,blk=some b->c.sz=0->c.kind<3->IC E c.kind b c.rows
 it:∀b,blk=some b->c.sz=0->3<=c.kind->Hv E c.kind b c.rows
 at_:∀b,blk=some b->0<c.sz->∃cur,E.w.heap[b]?=some (.cells cur c.ty (0,0))/\0<c.sz/\c.rows.length*c.sz<=cur.size/\(∀row∈c.rows,row.length=c.sz) /\
  ∀(i j:Nat) (row:List PV) (pv:PV),c.rows[i]?=some row->row[j]?=some pv->∃v,cur[i*c.sz+j]?=some v/\v.oneCell'=true/\KRep E c.kind pv v
structure Sim (C:Ctx) (γ:Nat->Option Nat) (s:St) (a:Act) (w:World):Prop where
 defers:a.defers=C.dfs.map xV
 size:a.tmps.size=C.N
 regs:∀r,Rep (ai C γ s w) (s.reg r) (a.tmps.getD r undef)
 sites:∀k c,(s.own k).2=some c->SiteOk (ai C γ s w) (γ k) c
 inj:∀k k' c c' b,(s.own k).2=some c->(s.own k').2=some c'->γ k=some b->γ k'=some b->k=k'
 base:∀k c b,(s.own k).2=some c->γ k=some b->C.B<=b/\b<w.heap.size
 below:Below C.B C.w0 w
 top:C.B<=w.heap.size
 kept:∀c v,C.keep c v->Rep (ai C γ s w) c v
theorem aI {C:Ctx}{γ:Nat->Option Nat}{s:St}{w:World}:∀b,(ai C γ s w).okf b->(ai C γ s w).ok b:=fun _ h=>h.2
theorem Sim.ev {C:Ctx}{γ:Nat->Option Nat}{s:St}{a:Act}{w:World}(h:Sim C γ s a w)(x:Operand):Rep (ai C γ s w) (s.ev x) (a.eval x):=by
 cases x with
 |tmp t=>exact h.regs t
 |const v=>exact .d (DRep.cst _ _ v)
 |global g=>exact .d (.raw _)
 |func f=>exact .d (.clo f [] [] rfl (fun i c v h=>by simp at h))
theorem Sim.put {C:Ctx}{γ:Nat->Option Nat}{s:St}{a:Act}{w:World}(h:Sim C γ s a w){d:Option Nat}(hd:cT C.N d=true){c:PV}{v:Value}
  (hr:Rep (ai C γ s w) c v):Sim C γ (s.put d c) (a.put d v) w:=by
 cases d with
 |none=>exact h
 |some d =>
  have hlt:d<C.N:=by simpa [cT] using hd
  refine⟨h.defers,by simp[Act.put,h.size],fun r=>?_,h.sites,h.inj,h.base,h.below,h.top,h.kept⟩;show Rep (ai C γ s w) (bif Nat.beq r d then c else s.reg r) ((a.tmps.setIfInBounds d v).getD r undef);by_cases hrd:r=d
  .subst hrd;have:(a.tmps.setIfInBounds r v).getD r undef=v:=by simp[h.size,hlt]
   rw[this];simpa using hr
  .have h1:Nat.beq r d=false:=bR hrd;have h2:(a.tmps.setIfInBounds d v).getD r undef=a.tmps.getD r undef:=by
    simp[y7 (Ne.symm hrd)]
   rw[h1,h2];exact h.regs r
inductive Sh where
 |sl (e:TypeId)
 |st (fs:List (Nat × TypeId))
 |arr (n:Nat) (e:TypeId)
 |int (k:IntKind)
 |str
 |bool
 |ptr (e:TypeId)
 |map (k e:TypeId)
 |other
structure LRow where
 size:Nat
 bytes:Nat
 sh:Sh
 zero:Option (List PV)
abbrev b9:=Nat->Option LRow
def Sh.agg:Sh->Bool
 |.st _ | .arr _ _=>true
 |_=>false
def Sh.fits:Sh->TypeDesc->Bool
 |.sl e,.slice e'=>Nat.beq e e'
 |.st fs,.struct fs'=>fs==fs'.toList.map fun f=>(f.offset,f.type)
 |.arr n e,.array n' e'=>Nat.beq n n'&&Nat.beq e e'
 |.int k,.int k'=>decide (k=k')
 |.str,.string=>true
 |.bool,.bool=>true
 |.ptr e,.pointer e'=>Nat.beq e e'
 |.map k e,.map k' e'=>Nat.beq k k'&&Nat.beq e e'
 |.other,.struct _ | .other,.array _ _=>false
 |.other,_=>true
 |_,_=>false
def Ip:PV->Value->Bool
 |.bool b,.bool b'=>b==b'
 |.int k n,.int k' n'=>decide (k=k')&&decide (n=n')
 |.str s,.string t=>s==t.data.toList
 |.nil,.slice none 0 0=>true
 |.raw .nilFunc,.nilFunc=>true
 |.raw .nilIface,.nilIface=>true
 |.raw (.pointer none),.pointer none=>true
 |.raw (.map none),.map none=>true
 |_,_=>false
theorem iT {c:PV}{v:Value}(h:Ip c v=true)(w:World)(ok:Nat->Prop):DRep w ok c v/\v.oneCell'=true:=by
 unfold Ip at h;split at h
 .simp at h;subst h;exact⟨.bool _,O⟩
 .simp at h;obtain⟨rfl,rfl⟩:=h;exact⟨.int _ _,O⟩
 .rename_i s t;have h1:s=t.data.toList:=by simpa using h
  subst h1;exact⟨.str t.data.toList,O⟩
 .exact⟨.nil,O⟩
 .exact⟨.raw _,O⟩
 .exact⟨.raw _,O⟩
 .exact⟨.raw _,O⟩
 .exact⟨.raw _,O⟩
 .cases h
def BW:List PV->List Value->Bool
 |[],[]=>true
 |c::cs,v::vs=>Ip c v&&BW cs vs
 |_,_=>false
theorem sJ:∀ {cs:List PV} {vs:List Value},BW cs vs=true->cs.length=vs.length/\∀(i:Nat) (c:PV) (v:Value),cs[i]?=some c->vs[i]?=some v->Ip c v=true
 |[],[],_=>⟨rfl,fun i c v h=>by simp at h⟩
 |c::cs,v::vs,h=>by
  simp only[BW,bj]at h;obtain⟨h1,h2⟩:=sJ h.2;refine⟨by simp[h1],fun i c' v' e1 e2=>?_⟩;cases i with
  |zero=>simp at e1 e2;subst e1;subst e2;exact h.1
  |succ i=>exact h2 i c' v' (by simpa using e1) (by simpa using e2)
 |[],_::_,h=>by simp[BW]at h
 |_::_,[],h=>by simp[BW]at h
def LRow.fits (P:Program)(T:TypeId)(r:LRow):Bool :=
 match P.info? T,P.underlying T with
 |some i,some d=>Nat.beq i.size r.size&&Nat.beq i.bytes r.bytes&&r.sh.fits d &&
   (match r.zero with
    |none=>true
    |some cs=>match i.zero with|some z=>BW cs z.cells.toList&&Nat.beq z.cells.size r.size|none=>false)
 |_,_=>false
def iW (P:Program)(L:b9):Prop:=∀T r,L T=some r->r.fits P T=true
inductive Tr where
 |lf (T:Nat) (r:LRow)
 |no
 |nd (k:Nat) (l r:Tr)
def Tr.get:Tr->Nat->Option LRow
 |.lf T r,n=>bif Nat.beq n T then some r else none
 |.no,_=>none
 |.nd k l r,n=>bif Nat.blt n k then l.get n else r.get n
def Tr.fits (P:Program):Tr->Bool
 |.lf T r=>r.fits P T
 |.no=>true
 |.nd _ l r=>l.fits P&&r.fits P
theorem Tr.ok {P:Program}:∀ {t:Tr},t.fits P=true->iW P t.get
 |.lf T r,h=>fun n r' e=>by
  simp only[Tr.get]at e;by_cases hn:n=T
  .subst hn;simp at e;subst e;exact h
  .have:Nat.beq n T=false:=bR hn;simp[this]at e
 |.no,_=>fun n r' e=>by simp[Tr.get]at e
 |.nd k l r,h=>fun n r' e=>by
  simp only[Tr.fits,bj]at h;simp only[Tr.get]at e;cases hb:Nat.blt n k with
  |true=>rw[hb]at e;exact Tr.ok h.1 n r' e
  |false=>rw[hb]at e;exact Tr.ok h.2 n r' e
section rows
variable {P:Program}{T:TypeId}{r:LRow}
theorem LRow.spec (h:r.fits P T=true):∃i d,P.info? T=some i/\P.underlying T=some d/\i.size=r.size/\i.bytes=r.bytes/\r.sh.fits d=true /\
  ∀cs,r.zero=some cs->∃z,i.zero=some z/\z.cells.size=r.size/\cs.length=z.cells.size/\∀(i:Nat) (c:PV) (v:Value),cs[i]?=some c->z.cells[i]?=some v->Ip c v=true:=by
 unfold LRow.fits at h;split at h
 .rename_i i d hi hd;simp only[bj,ie]at h;refine⟨i,d,hi,hd,h.1.1.1,h.1.1.2,h.1.2,fun cs hcs=>?_⟩;have h2:=h.2;rw[hcs]at h2;simp only at h2;split at h2
  .rename_i z hz;simp only[bj,ie]at h2;obtain⟨e1,e2⟩:=sJ h2.1;exact⟨z,hz,h2.2,by simpa using e1,fun i c v h3 h4=>e2 i c v h3 (by simpa using h4)⟩
  .cases h2
 .cases h
theorem ec (h:r.fits P T=true)(w:World):(sizeOf T).run P w=.ok r.size w:=by
 obtain⟨i,d,hi,_,hs,_⟩:=LRow.spec h;simp[sizeOf,typeInfo,hi,hs]
theorem Sh.fits_agg {sh:Sh}{d:TypeDesc}(h:sh.fits d=true):(match d with | .struct _ | .array _ _=>true | _=>false)=sh.agg:=by
 cases sh<;>cases d<;>simp[Sh.fits,Sh.agg]at h ⊢
theorem kS (h:r.fits P T=true)(w:World):(isAgg T).run P w=.ok r.sh.agg w:=by
 obtain⟨i,d,_,hd,_,_,hf,_⟩:=LRow.spec h;have:=Sh.fits_agg hf;rw[<-this];cases d<;>simp[isAgg,run_underlying hd]
theorem gZ {e:TypeId}(h:r.fits P T=true)(hs:r.sh=.sl e):P.underlying T=some (.slice e):=by
 obtain⟨i,d,_,hd,_,_,hf,_⟩:=LRow.spec h;rw[hs]at hf;cases d<;>simp[Sh.fits]at hf;subst hf;exact hd
theorem kW (h:r.fits P T=true)(hs:r.sh=.str):P.underlying T=some .string:=by
 obtain⟨i,d,_,hd,_,_,hf,_⟩:=LRow.spec h;rw[hs]at hf;cases d<;>simp[Sh.fits]at hf;exact hd
theorem ra (h:r.fits P T=true)(hs:r.sh=.bool):P.underlying T=some .bool:=by
 obtain⟨i,d,_,hd,_,_,hf,_⟩:=LRow.spec h;rw[hs]at hf;cases d<;>simp[Sh.fits]at hf;exact hd
theorem GF {e:TypeId}(h:r.fits P T=true)(hs:r.sh=.ptr e):P.underlying T=some (.pointer e):=by
 obtain⟨i,d,_,hd,_,_,hf,_⟩:=LRow.spec h;rw[hs]at hf;cases d<;>simp[Sh.fits]at hf;subst hf;exact hd
theorem uJ (h:r.fits P T=true):(P.underlying T).isSome=true:=by
 obtain⟨i,d,_,hd,_⟩:=LRow.spec h;simp[hd]
theorem nw {k:IntKind}(h:r.fits P T=true)(hs:r.sh=.int k):P.underlying T=some (.int k):=by
 obtain⟨i,d,_,hd,_,_,hf,_⟩:=LRow.spec h;rw[hs]at hf;cases d<;>simp[Sh.fits]at hf;subst hf;exact hd
theorem rb {fs:List (Nat × TypeId)}(h:r.fits P T=true)(hs:r.sh=.st fs):∃fs':Array Field,P.underlying T=some (.struct fs')/\fs'.toList.map (fun f=>(f.offset,f.type))=fs:=by
 obtain⟨i,d,_,hd,_,_,hf,_⟩:=LRow.spec h;rw[hs]at hf;cases d<;>simp[Sh.fits]at hf;exact⟨_,hd,hf.symm⟩
end rows
def part (r:LRow)(cs:List PV)(j:Nat):Option PV :=
 bif r.sh.agg then
  bif Nat.beq j 0&&Nat.beq cs.length r.size then some (.agg cs)
  else bif Nat.ble (j+r.size) cs.length then some (.agg ((cs.drop j).take r.size)) else none
 else cs[j]?
theorem Addr.add_mk (b o n:Nat):(⟨b,o,none⟩:Addr).add n=⟨b,o+n,none⟩:=by
 unfold Addr.add;split
 .subst_vars;rfl
 .rfl
theorem wO {P:Program}{T:TypeId}{r:LRow}(h:r.fits P T=true){b o j:Nat}{cs:List PV}{pv:PV}(vals:Nat->Value)(hp:part r cs j=some pv) :
  ∃v,(∀w:World,(∀(i:Nat) (c:PV),cs[i]?=some c->w.cell? ⟨b,o+i,none⟩=some (vals i))->(loadVar T ⟨b,o+j,none⟩).run P w=.ok v w) /\
   ((∃c,pv=c/\v=vals j/\cs[j]?=some c) \/
    (∃ds:List PV,∃vs:List Value,pv=.agg ds/\v=.agg vs.toArray/\ds.length=vs.length/\∀(i:Nat) (c:PV) (u:Value),ds[i]?=some c->vs[i]?=some u->cs[j+i]?=some c/\u=vals (j+i))):=by
 unfold part at hp;cases hagg:r.sh.agg with
 |false =>
  simp only[hagg,cond_false]at hp;refine⟨vals j,fun w hc=>?_,.inl ⟨pv,O,O,hp⟩⟩;simp[loadVar,kS h,hagg,hc j pv hp]
 |true =>
  have key:∀n,j+n<=cs.length->n=r.size->∀w:World,(∀(i:Nat) (c:PV),cs[i]?=some c->w.cell? ⟨b,o+i,none⟩=some (vals i))->(loadVar T ⟨b,o+j,none⟩).run P w=.ok (.agg ((List.range n).map fun i=>vals (j+i)).toArray) w:=by
   intro n hn hnr w hc;have hl:=run_loadCells (P:=P) w ⟨b,o+j,none⟩ n (fun i=>vals (j+i)) (fun i hi=>by
    rw[Addr.add_mk,fA];have hlt:j+i<cs.length:=J
    exact hc (j+i) cs[j+i] (aQ hlt))
   simp[loadVar,kS h,hagg,ec h,<-hnr,hl]
  simp only[hagg,cond_true]at hp;cases hb:(Nat.beq j 0&&Nat.beq cs.length r.size) with
  |true =>
   simp only[hb,cond_true]at hp;simp only[bj,ie]at hb;obtain⟨rfl,hlen⟩:=hb;have hpv:pv=.agg cs:=by simpa using hp.symm
   subst hpv;refine⟨_,key cs.length J hlen,.inr ⟨cs,_,O,O,aj,fun i c u h1 h2=>?_⟩⟩;rw[aV]at h2;have hlt:i<cs.length:=(bD h1).1;rw[jl hlt]at h2;simp at h2;exact⟨by simpa using h1,by rw[<-h2];simp⟩
  |false =>
   simp only[hb,cond_false]at hp;cases hle:Nat.ble (j+r.size) cs.length with
   |false=>simp[hle]at hp
   |true =>
    simp only[hle,cond_true]at hp;have hpv:pv=.agg ((cs.drop j).take r.size):=by simpa using hp.symm
    subst hpv;have hle':j+r.size<=cs.length:=by simpa using hle
    refine⟨_,key r.size hle' O,.inr ⟨_,_,O,O,by simp;omega,fun i c u h1 h2=>?_⟩⟩;rw[aV]at h2;rw[bE]at h1;split at h1
    .rename_i hlt;rw[jl hlt]at h2;simp at h2;rw[cq]at h1;exact⟨h1,h2.symm⟩
    .cases h1
section inv
variable {E:Env}{v:Value}
theorem Rep.bool_inv {b:Bool}(h:Rep E (.bool b) v):v=.bool b:=by cases h with|d h=>cases h;rfl
theorem Rep.int_inv {k:IntKind}{n:Int}(h:Rep E (.int k n) v):v=.int k n:=by cases h with|d h=>cases h;rfl
theorem Rep.str_inv {s:List UInt8}(h:Rep E (.str s) v):v=.string ⟨s.toArray⟩:=by cases h with|d h=>cases h;rfl
theorem Rep.raw_inv {u:Value}(h:Rep E (.raw u) v):v=u:=by cases h with|d h=>cases h;rfl
theorem Rep.nil_inv (h:Rep E .nil v):v=.slice none 0 0:=by cases h with|d h=>cases h;rfl
theorem Rep.dref_inv {cs:List PV}{j:Nat}(h:Rep E (.dref cs j) v):∃(b off:Nat) (vals:Nat->Value),v=.pointer (some ⟨b,off+j,none⟩) /\
  (∀(i:Nat) (c:PV),cs[i]?=some c->E.w.cell? ⟨b,off+i,none⟩=some (vals i)/\(vals i).oneCell'=true)/\(∀(i:Nat) (c:PV),cs[i]?=some c->DRep E.w E.ok c (vals i))/\E.ok b:=by
 cases h with|d h=>cases h with|dref cs j b off vals hb hc hd=>exact⟨b,off,vals,O,hc,hd,hb⟩
theorem Rep.agg_inv {cs:List PV}(h:Rep E (.agg cs) v):∃vs:List Value,v=.agg vs.toArray/\cs.length=vs.length/\∀(i:Nat) (c:PV) (u:Value),cs[i]?=some c->vs[i]?=some u->Rep E c u:=by
 cases h with
 |d h=>cases h with|agg cs vs hl hd=>exact⟨vs,rfl,hl,fun i c u h1 h2 => .d (hd i c u h1 h2)⟩
 |agg cs vs hl hd=>exact⟨vs,rfl,hl,hd⟩
theorem Rep.tup_inv {cs:List PV}(h:Rep E (.tup cs) v):∃vs:List Value,v=.tuple vs.toArray/\cs.length=vs.length/\∀(i:Nat) (c:PV) (u:Value),cs[i]?=some c->vs[i]?=some u->Rep E c u:=by
 cases h with
 |d h=>cases h with|tup cs vs hl hd=>exact⟨vs,rfl,hl,fun i c u h1 h2 => .d (hd i c u h1 h2)⟩
 |tup cs vs hl hd=>exact⟨vs,rfl,hl,hd⟩
theorem Rep.clo_inv {f:FuncId}{cs:List PV}(h:Rep E (.clo f cs) v):∃vs:List Value,v=.func (.func f) #[] vs.toArray/\cs.length=vs.length/\∀(i:Nat) (c:PV) (u:Value),cs[i]?=some c->vs[i]?=some u->Rep E c u:=by
 cases h with
 |d h=>cases h with|clo f cs vs hl hd=>exact⟨vs,rfl,hl,fun i c u h1 h2 => .d (hd i c u h1 h2)⟩
 |clo f cs vs hl hd=>exact⟨vs,rfl,hl,hd⟩
end inv
section sites
variable {C:Ctx}{γ:Nat->Option Nat}{s:St}{a:Act}{w:World}
theorem Sim.ptr_at (_h:Sim C γ s a w){k g i j:Nat}{c:Cont}{v:Value}(hr:Rep (ai C γ s w) (.ptr k g i j) v)(ho:s.own k=(g,some c)) :
  ∃b,γ k=some b/\v=.pointer (some ⟨b,i*c.sz+j,none⟩)/\i<c.rows.length/\j<c.sz:=by
 cases hr with
 |d h=>cases h
 |ptr hg hl =>
  have:=hl (by simp[ai,ho]) ⟨γ k,c.ty,c.sz,c.rows.length⟩ (by simp[ai,ho]);exact this
theorem Sim.als_at (_h:Sim C γ s a w){k g i n:Nat}{c:Cont}{v:Value}(hr:Rep (ai C γ s w) (.als k g i n) v)(ho:s.own k=(g,some c)) :
  B4 w ⟨γ k,c.ty,c.sz,c.rows.length⟩ i n v:=by
 cases hr with
 |d h=>cases h
 |als hg hl=>exact hl (by simp[ai,ho]) ⟨γ k,c.ty,c.sz,c.rows.length⟩ (by simp[ai,ho])
theorem Sim.cells_sz (h:Sim C γ s a w){k g b:Nat}{c:Cont}{cur:Array Value}{T:TypeId}{f:Nat × Nat}(ho:s.own k=(g,some c))(hb:γ k=some b)(hh:w.heap[b]?=some (.cells cur T f)){m:Nat}(hm:cur.size=m*c.sz):0<c.sz:=by
 rcases dP c.sz with h0|h0
 .have hs:=h.sites k c (by simp[ho]);rcases aT c.kind 3 with hk|hk
  .obtain⟨es,nn,h1,_⟩:=hs.mp b hb h0 hk;have h1:w.heap[b]? = _:=h1;rw[hh]at h1;simp at h1
  .have h2:=hs.it b hb h0 hk;unfold Hv at h2;split at h2
   .obtain⟨m,es,seen,nn,h1,_⟩:=h2;have h1:w.heap[b]? = _:=h1;rw[hh]at h1;simp at h1
   .obtain⟨T',kb,gb,n,p,v,_,h1,_⟩:=h2;have h1:w.heap[b]? = _:=h1;rw[hh]at h1;simp only[aJ,Obj.cells.injEq]at h1;rw[h1.1,h0]at hm;simp at hm
   .obtain⟨rec,regs,h1,_⟩:=h2;have h1:w.heap[b]? = _:=h1;rw[hh]at h1;simp at h1
 .exact h0
theorem Sim.mp_at (_h:Sim C γ s a w){k g:Nat}{c:Cont}{v:Value}(hr:Rep (ai C γ s w) (.mp k g) v)(ho:s.own k=(g,some c)):c.sz=0/\∃b,γ k=some b/\v=.map (some b):=by
 cases hr with
 |d h=>cases h
 |mp hg hl=>exact hl (by simp[ai,ho]) ⟨γ k,c.ty,c.sz,c.rows.length⟩ (by simp[ai,ho])
theorem Sim.mi_at (_h:Sim C γ s a w){k g:Nat}{c:Cont}{v:Value}(hr:Rep (ai C γ s w) (.mi k g) v)(ho:s.own k=(g,some c)):c.sz=0/\∃b,γ k=some b/\v=.pointer (some ⟨b,0,none⟩):=by
 cases hr with
 |d h=>cases h
 |mi hg hl=>exact hl (by simp[ai,ho]) ⟨γ k,c.ty,c.sz,c.rows.length⟩ (by simp[ai,ho])
theorem Sim.site_at (h:Sim C γ s a w){k g b:Nat}{c:Cont}(ho:s.own k=(g,some c))(hb:γ k=some b)(hz:0<c.sz) :
  ∃cur,w.heap[b]?=some (.cells cur c.ty (0,0))/\0<c.sz/\c.rows.length*c.sz<=cur.size/\(∀row∈c.rows,row.length=c.sz) /\
   ∀(i j:Nat) (row:List PV) (pv:PV),c.rows[i]?=some row->row[j]?=some pv->∃v,cur[i*c.sz+j]?=some v/\v.oneCell'=true/\KRep (ai C γ s w) c.kind pv v :=
 (h.sites k c (by simp[ho])).at_ b hb hz
end sites
theorem bc {w:World}{b:Nat}{cur:Array Value}{T:TypeId}{f:Nat × Nat}(h:w.heap[b]?=some (.cells cur T f))(o:Nat):w.cell? ⟨b,o,none⟩=cur[o]? := by
 simp[World.cell?,h]
def PV.fz:PV->Option PV
 |.bool b=>some (.bool b)
 |.int k n=>some (.int k n)
 |.str s=>some (.str s)
 |.raw v=>some (.raw v)
 |.agg cs=>some (.agg cs)
 |.tup cs=>some (.tup cs)
 |.nil=>some .nil
 |.sl rows=>some (.sl rows)
 |.dref cs j=>some (.dref cs j)
 |.clo f cs=>some (.clo f cs)
 |.fsl rows=>some (.fsl rows)
 |.als s g i n=>some (.als s g i n)
 |.ptr s g i j=>some (.ptr s g i j)
 |.mapd rows=>some (.mapd rows)
 |.mp s g=>some (.mp s g)
 |.mi s g=>some (.mi s g)
 |.yl s g=>some (.yl s g)
 |.lbl p a b s q r=>some (.lbl p a b s q r)
 |.dfd=>some .dfd
theorem PV.fz_eq (v:PV):v.fz=some v:=by cases v<;>rfl
def H2 (r:Option LRow)(op:BinOp):PV->PV->Option (PV × Prop)
 |.int k a,.int k' b =>
  bif decide (k=k') then
   match op with
   |.add=>some (.int k (k.wrap (a+b)),True)
   |.sub=>some (.int k (k.wrap (a-b)),True)
   |.mul=>some (.int k (k.wrap (a*b)),True)
   |.quo=>some (.int k (k.wrap (a.tdiv b)),b≠0)
   |.rem=>some (.int k (a.tmod b),b≠0)
   |.and=>some (.int k (bits .and k a b),True)
   |.or=>some (.int k (bits .or k a b),True)
   |.xor=>some (.int k (bits .xor k a b),True)
   |.eql=>some (.bool (decide (a=b)),True)
   |.neq=>some (.bool (!decide (a=b)),True)
   |.lss=>some (.bool (decide (a<b)),True)
   |.leq=>some (.bool (decide (a<=b)),True)
   |.gtr=>some (.bool (decide (b<a)),True)
   |.geq=>some (.bool (decide (b<=a)),True)
   |.shl=>some (.int k (k.wrap (a*2^b.toNat)),0<=b/\b<=k.bits)
   |.shr=>some (.int k (a/2^b.toNat),0<=b/\b<=k.bits)
   |_=>none
  else match op with
   |.shl=>some (.int k (k.wrap (a*2^b.toNat)),0<=b/\b<=k.bits)
   |.shr=>some (.int k (a/2^b.toNat),0<=b/\b<=k.bits)
   |_=>none
 |.bool a,.bool b =>
  match r with
  |some r=>(match r.sh,op with
   |.bool,.eql=>some (.bool (a==b),True)
   |.bool,.neq=>some (.bool (a != b),True)
   |_,_=>none)
  |none=>none
 |.str a,.str b =>
  match op with
  |.eql=>some (.bool (decide (a=b)),True)
  |.neq=>some (.bool (!decide (a=b)),True)
  |.add=>some (.str (a++b),(a.length:Int)+b.length<=9223372036854775807)
  |.lss=>some (.bool (Op.bytesLess a b),True)
  |_=>none
 |_,_=>none
def HW (u:Value)(b:Bool):Option (PV × Prop):=match u with
 |.pointer none=>some (.bool b,True)
 |_=>none
def rC (s:St)(r:Option LRow)(op:BinOp)(x:PV):Option (PV × Prop):=match r with
 |some r=>match r.sh with
  |.ptr _=>match op with
   |.eql=>(match x with
    |.dref _ _=>some (.bool false,True)
    |.ptr k g _ _=>(match (s.own k).2 with|some _=>some (.bool false,(s.own k).1=g)|none=>none)
    |.raw u=>HW u true
    |_=>none)
   |.neq=>(match x with
    |.dref _ _=>some (.bool true,True)
    |.ptr k g _ _=>(match (s.own k).2 with|some _=>some (.bool true,(s.own k).1=g)|none=>none)
    |.raw u=>HW u false
    |_=>none)
   |_=>none
  |_=>none
 |none=>none
def Dn:Operand->Bool
 |.const (.pointer none)=>true
 |_=>false
def wC (s:St):PV->Option (PV × Prop)
 |.sl rows=>some (.int .i64 rows.length,True)
 |.fsl rows=>some (.int .i64 rows.length,True)
 |.nil=>some (.int .i64 0,True)
 |.als k g _ n=>match (s.own k).2 with|some _=>some (.int .i64 n,(s.own k).1=g)|none=>none
 |_=>none
def mW (s:St):PV->Option Prop
 |.als k g _ _=>match (s.own k).2 with|some _=>some ((s.own k).1=g)|none=>none
 |.ptr k g _ _=>match (s.own k).2 with|some _=>some ((s.own k).1=g)|none=>none
 |.mp k g=>match (s.own k).2 with|some _=>some ((s.own k).1=g)|none=>none
 |.raw v=>some (v.oneCell'=true)
 |.agg _ | .tup _ | .mi _ _ | .yl _ _ | .lbl _ _ _ _ _ _ | .dfd=>none
 |_=>some True
def jH (L:b9)(s:St)(fs:List (Nat × TypeId)):List (Nat × PV)->List PV->Prop->Option (List PV × Prop)
 |[],cs,C=>some (cs,C)
 |(i,x)::rest,cs,C =>
  match fs[i]? with
  |some (off,ft) =>
   match L ft with
   |some r=>(match x with
    |.agg ds=>bif Nat.beq ds.length r.size&&Nat.ble (off+ds.length) cs.length then jH L s fs rest (cs.take off++ds++cs.drop (off+ds.length)) C else none
    |x=>(match mW s x with
     |some Pr=>bif Nat.beq 1 r.size&&Nat.ble (off+1) cs.length then jH L s fs rest (cs.take off++[x]++cs.drop (off+1)) (Pr/\C) else none
     |none=>none))
   |none=>none
  |none=>none
def qv (L:b9)(s:St):Op->Option (PV × Prop)
 |.move x | .assign x=>match (s.ev x).fz with|some v=>some (v,True)|none=>none
 |.pick c a b=>match s.ev c with
  |.bool true=>(match (s.ev a).fz with|some v=>some (v,True)|none=>none)
  |.bool false=>(match (s.ev b).fz with|some v=>some (v,True)|none=>none)
  |_=>none
 |.nilCheck x=>match s.ev x with
  |.dref cs j=>some (.dref cs j,True)
  |.ptr k g i j=>match (s.own k).2 with|some _=>some (.ptr k g i j,(s.own k).1=g)|none=>none
  |.clo f cs=>some (.clo f cs,True)
  |_=>none
 |.binOp op T x y _=>bif Dn y then rC s (L T) op (s.ev x) else H2 (L T) op (s.ev x) (s.ev y)
 |.unOp op _ x=>match op,s.ev x with
  |.not,.bool b=>some (.bool (!b),True)
  |.neg,.int k n=>some (.int k (k.wrap (0-n)),True)
  |_,_=>none
 |.convert src dst x=>match L src,L dst,s.ev x with
  |some _,some rd,.int _ n=>(match rd.sh with | .int k=>some (.int k (k.wrap n),True) | _=>none)
  |some _,some rd,.str b=>(match rd.sh with | .str=>some (.str b,True) | _=>none)
  |_,_,_=>none
 |.makeFunc (.func f) ⟨[]⟩ caps=>some (.clo f (caps.toList.map s.ev),True)
 |.fieldAddr T x f=>match L T with
  |some r=>(match r.sh with
   |.st fs=>(match fs[f]? with
    |some (off,ft)=>(match L ft with
     |some rf=>bif Nat.blt 0 rf.size then
       (match s.ev x with
        |.dref cs j=>some (.dref cs (j+off),True)
        |.ptr k g i j=>(match (s.own k).2 with|some c=>bif Nat.blt (j+off) c.sz then some (.ptr k g i (j+off),(s.own k).1=g) else none|none=>none)
        |_=>none) else none
     |none=>none)
    |none=>none)
   |_=>none)
  |none=>none
 |.field T x f=>match L T with
  |some r=>(match r.sh with
   |.st fs=>(match fs[f]? with
    |some (off,ft)=>(match L ft with
     |some rf=>(match s.ev x with
      |.agg cs=>(match part rf cs off with|some v=>some (v,True)|none=>none)
      |_=>none)
     |none=>none)
    |none=>none)
   |_=>none)
  |none=>none
 |.load T x=>match L T with
  |some r=>(match s.ev x with
   |.dref cs j=>(match part r cs j with|some v=>some (v,True)|none=>none)
   |.ptr k g i j=>(match (s.own k).2 with
    |some c=>(match c.rows[i]? with
     |some row=>(match part r row j with|some v=>some (v,(s.own k).1=g)|none=>none)
     |none=>none)
    |none=>none)
   |_=>none)
  |none=>none
 |.extract x i=>match s.ev x with
  |.tup vs=>(match vs[i]? with|some v=>some (v,True)|none=>none)
  |_=>none
 |.index T x ix=>match L T,s.ev x,s.ev ix with
  |some r,.str b,.int _ n=>(match r.sh with | .str=>some (.int .u8 (b.getD n.toNat 0).toNat,0<=n/\n<b.length) | _=>none)
  |_,_,_=>none
 |.build T parts=>match L T with
  |some r=>(match r.sh,r.zero with
   |.st fs,some z=>bif fs.all (fun p=>(L p.2).isSome) then(match jH L s fs (parts.toList.map fun p=>(p.1,s.ev p.2)) z True with|some (cs,C)=>some (.agg cs,C)|none=>none) else none
   |_,_=>none)
  |none=>none
 |.call ⟨.builtin .len,⟨[x]⟩,⟨[T]⟩⟩=>match L T with
  |some r=>(match r.sh,s.ev x with
   |.str,.str b=>some (.int .i64 b.length,True)
   |.sl _,v=>wC s v
   |_,_=>none)
  |none=>none
 |.call ⟨.builtin .min,⟨[x,y]⟩,_⟩=>match s.ev x,s.ev y with
  |.int k a,.int _ b=>some (.int k (if b<a then b else a),True)
  |_,_=>none
 |.call ⟨.builtin .max,⟨[x,y]⟩,_⟩=>match s.ev x,s.ev y with
  |.int k a,.int _ b=>some (.int k (if a<b then b else a),True)
  |_,_=>none
 |_=>none
section
variable {P:Program}{L:b9}{C:Ctx}{γ:Nat->Option Nat}{s:St}{a:Act}{w:World}
theorem mn (x:List UInt8):(⟨x.toArray⟩:ByteArray).toList=x:=by
 rw[ByteArray.toList_eq]
theorem lD (x:List UInt8):(⟨x.toArray⟩:ByteArray).size=x.length:=by simp[ByteArray.size]
theorem sT (x y:List UInt8):(⟨x.toArray⟩:ByteArray)++(⟨y.toArray⟩:ByteArray)=⟨(x++y).toArray⟩:=by
 apply ByteArray.ext;simp[ByteArray.data_append]
theorem En {E:Env}{op:BinOp}{T:TypeId}{x y:Operand}{px py pv:PV}{Cd:Prop}{vx vy:Value}(hL:iW P L)(hx:Rep E px vx)(hy:Rep E py vy)
  (hq:H2 (L T) op px py=some (pv,Cd)) (hc:Cd):∃v,(do eqGuard op T x y vx vy;binOp op T vx vy:Sem Value).run P w=.ok v w/\Rep E pv v:=by
 unfold H2 at hq;split at hq
 .rename_i k n k' m;have e1:=hx.int_inv;have e2:=hy.int_inv;subst e1;subst e2;by_cases hk:k=k'
  .subst hk;simp only[decide_true,cond_true]at hq;cases op<;>simp only[aJ,aP,reduceCtorEq]at hq;all_goals (obtain⟨rfl,rfl⟩:=hq)
   all_goals (simp only[Sem.run_bind,eqGuard_at_int,Sem.run_pure,Result.andThen_ok])
   .exact⟨_,by simp[binOp_add,Op.intArith],.d (.int _ _)⟩
   .exact⟨_,by simp[binOp_sub,Op.intArith],.d (.int _ _)⟩
   .exact⟨_,by simp[binOp_mul,Op.intArith],.d (.int _ _)⟩
   .exact⟨_,by simp[binOp_quo,Op.intDiv,hc],.d (.int _ _)⟩
   .exact⟨_,by simp[binOp_rem,Op.intDiv,hc],.d (.int _ _)⟩
   .exact⟨_,by simp[binOp_and,intBits_and],.d (.int _ _)⟩
   .exact⟨_,by simp[binOp_or,intBits_or],.d (.int _ _)⟩
   .exact⟨_,by simp[binOp_xor,intBits_xor],.d (.int _ _)⟩
   .exact⟨_,by rw[binOp_shl,shift_shl _ _ _ _ hc.1 hc.2];rfl,.d (.int _ _)⟩
   .exact⟨_,by rw[binOp_shr,shift_shr _ _ _ _ hc.1 hc.2];rfl,.d (.int _ _)⟩
   .exact⟨_,by simp[binOp_eql,lT],.d (.bool _)⟩
   .exact⟨_,by simp[binOp_neq,bne,lT],.d (.bool _)⟩
   .exact⟨_,by simp[binOp_lss],.d (.bool _)⟩
   .exact⟨_,by simp[binOp_leq],.d (.bool _)⟩
   .exact⟨_,by simp[binOp_gtr],.d (.bool _)⟩
   .exact⟨_,by simp[binOp_geq],.d (.bool _)⟩
  .have hd:decide (k=k')=false:=by simpa using hk
   simp only[hd,cond_false]at hq;cases op<;>simp only[aJ,aP,reduceCtorEq]at hq;all_goals (obtain⟨rfl,rfl⟩:=hq)
   all_goals (simp only[Sem.run_bind,eqGuard_at_int,Sem.run_pure,Result.andThen_ok])
   .exact⟨_,by rw[binOp_shl,shift_shl _ _ _ _ hc.1 hc.2];rfl,.d (.int _ _)⟩
   .exact⟨_,by rw[binOp_shr,shift_shr _ _ _ _ hc.1 hc.2];rfl,.d (.int _ _)⟩
 .rename_i b b';have e1:=hx.bool_inv;have e2:=hy.bool_inv;subst e1;subst e2;split at hq
  .rename_i r hr;have hfit:=hL T r hr;split at hq<;>simp only[aJ,aP,reduceCtorEq]at hq;all_goals
    rename_i hs;obtain⟨rfl,rfl⟩:=hq;have hu:=ra hfit hs;refine⟨_,?_,.d (.bool _)⟩;simp[eqGuard_at_bool,binOp,run_equal_bool w T _ _ hu,bne]
  .cases hq
 .rename_i b b';have e1:=hx.str_inv;have e2:=hy.str_inv;subst e1;subst e2;cases op<;>simp only[aJ,aP,reduceCtorEq]at hq;all_goals (obtain⟨rfl,rfl⟩:=hq)
  all_goals (simp only[Sem.run_bind,eqGuard_at_string,Sem.run_pure,Result.andThen_ok])
  .refine⟨_,?_,.d (.str _)⟩;have:¬(9223372036854775807<(b.length:Int)+b'.length):=J;simp[binOp,Op.stringOp,lD,sT,IntKind.max_i64,this]
  .exact⟨_,by simp[binOp,Op.stringOp,lT],.d (.bool _)⟩
  .exact⟨_,by simp[binOp,Op.stringOp,lT],.d (.bool _)⟩
  .exact⟨_,by simp[binOp,Op.stringOp],.d (.bool _)⟩
 .cases hq
theorem Eo {C:Ctx}{γ:Nat->Option Nat}{s:St}{a:Act}{w:World}{op:BinOp}{T:TypeId}{x y:Operand}{pv:PV}{Cd:Prop}(hL:iW P L)(h:Sim C γ s a w)(hy:Dn y=true)
  (hq:rC s (L T) op (s.ev x)=some (pv,Cd)) (hc:Cd):∃v,(do eqGuard op T x y (a.eval x) (a.eval y);binOp op T (a.eval x) (a.eval y):Sem Value).run P w=.ok v w/\Rep (ai C γ s w) pv v:=by
 have hyv:a.eval y=.pointer none:=by
  unfold Dn at hy;split at hy
  .rfl
  .cases hy
 have hx:=h.ev x;unfold rC at hq;split at hq
 .rename_i r hr;split at hq
  .rename_i e hs;have hu:=GF (hL T r hr) hs;have hu':P.underlying T=some (.pointer (P.pointee T)):=by simp[Program.pointee,hu]
   have hg:∀(op:BinOp) (p:Option Addr),(eqGuard op T x y (.pointer p) (.pointer none)).run P w=.ok () w:=fun op p=>by cases op<;>simp[eqGuard]
   have two:∀(p:Option Addr),(do eqGuard .eql T x y (.pointer p) (.pointer none);binOp .eql T (.pointer p) (.pointer none):Sem Value).run P w=.ok (.bool p.isNone) w/\(do eqGuard .neq T x y (.pointer p) (.pointer none);binOp .neq T (.pointer p) (.pointer none):Sem Value).run P w=.ok (.bool (!p.isNone)) w:=fun p=>by
    constructor
    .rw[Sem.run_bind,hg,Result.andThen_ok];exact run_eql_pointer_nil w T p hu'
    .rw[Sem.run_bind,hg,Result.andThen_ok];exact run_neq_pointer_nil w T p hu'
   split at hq<;>(try (cases hq;done));all_goals
    split at hq
    .rename_i hev;rw[hev]at hx;obtain⟨b,off,vals,hv,_⟩:=hx.dref_inv;cases hq;rw[hv,hyv];first|exact⟨_,(two _).1,.d (.bool _)⟩|exact⟨_,(two _).2,.d (.bool _)⟩
    .rename_i k g i j hev;rw[hev]at hx;split at hq
     .rename_i c hown;cases hq;have ho:s.own k=(g,some c):=by rw[<-hc,<-hown]
      obtain⟨b,_,hv,_⟩:=h.ptr_at hx ho;rw[hv,hyv];first|exact⟨_,(two _).1,.d (.bool _)⟩|exact⟨_,(two _).2,.d (.bool _)⟩
     .cases hq
    .rename_i hev;rw[hev]at hx;unfold HW at hq;split at hq
     .cases hq;rw[hx.raw_inv,hyv];first|exact⟨_,(two _).1,.d (.bool _)⟩|exact⟨_,(two _).2,.d (.bool _)⟩
     .cases hq
    .cases hq
  .cases hq
 .cases hq
theorem nW {E:Env}{P:Program}{T:TypeId}{r:LRow}(hf:r.fits P T=true){b off j:Nat}{cs:List PV}{pv:PV}(vals:Nat->Value)
  (hc:∀(i:Nat) (c:PV),cs[i]?=some c->E.w.cell? ⟨b,off+i,none⟩=some (vals i)) (hd:∀(i:Nat) (c:PV),cs[i]?=some c->Rep E c (vals i)) (hp:part r cs j=some pv) :
  ∃v,(∀w2:World,(∀a u,E.w.cell? a=some u->w2.cell? a=some u)->(loadVar T ⟨b,off+j,none⟩).run P w2=.ok v w2)/\Rep E pv v:=by
 obtain⟨v,h1,h2⟩:=wO (b:=b) (o:=off) hf vals hp;refine⟨v,fun w2 hk=>h1 w2 fun i c e=>hk _ _ (hc i c e),?_⟩;rcases h2 with⟨c,rfl,rfl,e⟩|⟨ds,vs,rfl,rfl,hl,he⟩
 .exact hd j _ e
 .exact .agg ds vs hl fun i c u e1 e2=>by
   obtain⟨e3,rfl⟩:=he i c u e1 e2;exact hd _ _ e3
theorem DN {E:Env}{P:Program}{T:TypeId}{r:LRow}(hf:r.fits P T=true){b off j:Nat}{cs:List PV}{pv:PV}(vals:Nat->Value)
  (hc:∀(i:Nat) (c:PV),cs[i]?=some c->E.w.cell? ⟨b,off+i,none⟩=some (vals i)) (hd:∀(i:Nat) (c:PV),cs[i]?=some c->Rep E c (vals i)) (hp:part r cs j=some pv) :
  ∃v,(loadVar T ⟨b,off+j,none⟩).run P E.w=.ok v E.w/\Rep E pv v:=by
 obtain⟨v,h1,h2⟩:=nW hf vals hc hd hp;exact⟨v,h1 _ fun _ _ h=>h,h2⟩
theorem sC {T:TypeId}{x:Operand}{pv:PV}{Cd:Prop}(hL:iW P L)(h:Sim C γ s a w)(hq:qv L s (.load T x)=some (pv,Cd))(hc:Cd) :
  ∃v,(∀w2:World,(∀a u,w.cell? a=some u->w2.cell? a=some u)->(Instr.loadAt T (a.eval x)).run P w2=.ok v w2)/\Rep (ai C γ s w) pv v:=by
 have hx:=h.ev x;simp only[qv]at hq;split at hq
 .rename_i r hr;have hfit:=hL T r hr;split at hq
  .rename_i cs j hev;rw[hev]at hx;obtain⟨b,off,vals,hv,h1,h2,h3⟩:=hx.dref_inv;split at hq
   .rename_i v hp;simp only[aJ,aP]at hq;obtain⟨rfl,rfl⟩:=hq;rw[hv];simp only[Instr.loadAt,Instr.sureAddr,Sem.run_bind,Sem.run_pure,Result.andThen_ok];exact nW (E:=ai C γ s w) hfit vals (fun i c e=>(h1 i c e).1) (fun i c e => .d (h2 i c e)) hp
   .cases hq
  .rename_i k g i j hev;rw[hev]at hx;split at hq
   .rename_i c hown;split at hq
    .rename_i row hrow;split at hq
     .rename_i v hp;simp only[aJ,aP]at hq;obtain⟨rfl,rfl⟩:=hq;have ho:s.own k=(g,some c):=by rw[<-hc,<-hown]
      obtain⟨b,hb,hv,hi,hj⟩:=h.ptr_at hx ho;obtain⟨cur,hh,hsz,hle,hrows,hcell⟩:=h.site_at ho hb J;rw[hv];simp only[Instr.loadAt,Instr.sureAddr,Sem.run_bind,Sem.run_pure,Result.andThen_ok];refine nW (E:=ai C γ s w) hfit (fun i'=>cur.getD (i*c.sz+i') undef) (fun i' c' e=>?_) (fun i' c' e=>?_) hp
      .obtain⟨u,e1,_,_⟩:=hcell i i' row c' hrow e;show w.cell? _=_;rw[bc hh,e1];simp[e1]
      .obtain⟨u,e1,_,e2⟩:=hcell i i' row c' hrow e;have:cur.getD (i*c.sz+i') undef=u:=by simp[e1]
       rw[this];exact e2.rep aI
     .cases hq
    .cases hq
   .cases hq
  .cases hq
 .cases hq
theorem El {T:TypeId}{x:Operand}{pv:PV}{Cd:Prop}(hL:iW P L)(h:Sim C γ s a w)(hq:qv L s (.load T x)=some (pv,Cd))(hc:Cd) :
  ∃v,(Instr.loadAt T (a.eval x)).run P w=.ok v w/\Rep (ai C γ s w) pv v:=by
 obtain⟨v,h1,h2⟩:=sC (P:=P) hL h hq hc;exact⟨v,h1 _ fun _ _ h=>h,h2⟩
theorem oE {T ft:TypeId}{r rf:LRow}{fs:List (Nat × TypeId)}{f off b o:Nat}(hL:iW P L)(hr:L T=some r)(hs:r.sh=.st fs)(hf:fs[f]?=some (off,ft))(hrf:L ft=some rf)
  (hsz:Nat.blt 0 rf.size=true):(Instr.fieldAt T (.pointer (some ⟨b,o,none⟩)) f).run P w=.ok (.pointer (some ⟨b,o+off,none⟩)) w:=by
 obtain⟨fs',hu,hm⟩:=rb (hL T r hr) hs;rw[<-hm,aV]at hf;cases hf':fs'.toList[f]? with
 |none=>rw[hf']at hf;simp at hf
 |some fd =>
  rw[hf']at hf;simp at hf;obtain⟨rfl,rfl⟩:=hf;have hz:rf.size≠0:=by
   have:0<rf.size:=by simpa using hsz
   omega
  have hget:fs'[f]?=some fd:=by rw[<-hf'];simp
  simp[Instr.fieldAt,run_underlying hu,hget,Instr.sureAddr,fieldPlace,ec (hL _ rf hrf),hz,Addr.add_mk]
theorem rF {T:TypeId}{x:Operand}{f:Nat}{pv:PV}{Cd:Prop}(hL:iW P L)(h:Sim C γ s a w)(hq:qv L s (.fieldAddr T x f)=some (pv,Cd))(hc:Cd) :
  ∃v,(Instr.fieldAt T (a.eval x) f).run P w=.ok v w/\Rep (ai C γ s w) pv v:=by
 have hx:=h.ev x;simp only[qv]at hq;split at hq
 .rename_i r hr;split at hq
  .rename_i fs hs;split at hq
   .rename_i off ft hf;split at hq
    .rename_i rf hrf;cases hsz:Nat.blt 0 rf.size with
     |false=>simp[hsz]at hq
     |true =>
      simp only[hsz,cond_true]at hq;split at hq
      .rename_i cs j hev;simp only[aJ,aP]at hq;obtain⟨rfl,rfl⟩:=hq;rw[hev]at hx;obtain⟨b,o,vals,hv,h1,h2,h3⟩:=hx.dref_inv;rw[hv];refine⟨_,oE hL hr hs hf hrf hsz,?_⟩;rw[fA];exact .d (.dref cs (j+off) b o vals h3 h1 h2)
      .rename_i k g i j hev;split at hq
       .rename_i c hown;cases hlt:Nat.blt (j+off) c.sz with
        |false=>simp[hlt]at hq
        |true =>
         simp only[hlt,cond_true,aJ,aP]at hq;obtain⟨rfl,rfl⟩:=hq;have hlt':j+off<c.sz:=by simpa using hlt
         rw[hev]at hx;have ho:s.own k=(g,some c):=by rw[<-hc,<-hown]
         obtain⟨b,hb,hv,hi,hj⟩:=h.ptr_at hx ho;rw[hv];refine⟨_,oE hL hr hs hf hrf hsz,?_⟩;refine .ptr (by simp[ai,ho]) fun _ l hl=>?_;simp[ai,ho]at hl;subst hl;exact⟨b,hb,by rw[fA],hi,hlt'⟩
       .cases hq
      .cases hq
    .cases hq
   .cases hq
  .cases hq
 .cases hq
theorem DW {E:Env}{T:TypeId}{r:LRow}(hf:r.fits P T=true){cs:List PV}{vs:List Value}(hl:cs.length=vs.length)
  (hd:∀(i:Nat) (c:PV) (u:Value),cs[i]?=some c->vs[i]?=some u->Rep E c u) {j:Nat} {pv:PV} (hp:part r cs j=some pv) :
  ∃v,(Go.part T vs.toArray j).run P w=.ok v w/\Rep E pv v:=by
 unfold part at hp;cases hagg:r.sh.agg with
 |false =>
  simp only[hagg,cond_false]at hp;have hlt:j<vs.length:=by rw[<-hl];exact(bD hp).1
  refine⟨vs[j],?_,hd j pv vs[j] hp (aQ hlt)⟩;simp[Go.part,kS hf,hagg,hlt]
 |true =>
  simp only[hagg,cond_true]at hp;have key:j+r.size<=cs.length->∃v,(Go.part T vs.toArray j).run P w=.ok v w/\Rep E (.agg ((cs.drop j).take r.size)) v:=by
   intro hle;refine⟨.agg ((vs.drop j).take r.size).toArray,?_,.agg _ _ (by simp[hl]) fun i c u h1 h2=>?_⟩
   .simp[Go.part,kS hf,hagg,ec hf]
   .rw[bE]at h1 h2;split at h1
    .rename_i hlt;rw[if_pos hlt]at h2;rw[cq]at h1 h2;exact hd _ c u h1 h2
    .cases h1
  cases hb:(Nat.beq j 0&&Nat.beq cs.length r.size) with
  |true =>
   simp only[hb,cond_true]at hp;simp only[bj,ie]at hb;obtain⟨rfl,hlen⟩:=hb;have hpv:pv=.agg cs:=by simpa using hp.symm
   subst hpv;have:=key J;rwa [<-hlen,fS,bM]at this
  |false =>
   simp only[hb,cond_false]at hp;cases hle:Nat.ble (j+r.size) cs.length with
   |false=>simp[hle]at hp
   |true =>
    simp only[hle,cond_true]at hp;have hpv:pv=.agg ((cs.drop j).take r.size):=by simpa using hp.symm
    subst hpv;exact key (by simpa using hle)
theorem BB {T:TypeId}{x:Operand}{f:Nat}{pv:PV}{Cd:Prop}(hL:iW P L)(h:Sim C γ s a w)(hq:qv L s (.field T x f)=some (pv,Cd)) :
  ∃v,(Instr.field T (a.eval x) f).run P w=.ok v w/\Rep (ai C γ s w) pv v:=by
 have hx:=h.ev x;simp only[qv]at hq;split at hq
 .rename_i r hr;split at hq
  .rename_i fs hs;split at hq
   .rename_i off ft hf;split at hq
    .rename_i rf hrf;split at hq
     .rename_i cs hev;split at hq
      .rename_i v hp;simp only[aJ,aP]at hq;obtain⟨rfl,rfl⟩:=hq;rw[hev]at hx;obtain⟨vs,hv,hl,hd⟩:=hx.agg_inv;obtain⟨fs',hu,hm⟩:=rb (hL T r hr) hs;rw[<-hm,aV]at hf;cases hf':fs'.toList[f]? with
       |none=>rw[hf']at hf;simp at hf
       |some fd =>
        rw[hf']at hf;simp at hf;obtain⟨rfl,rfl⟩:=hf;have hget:fs'[f]?=some fd:=by rw[<-hf'];simp
        obtain⟨v',h1,h2⟩:=DW (P:=P) (w:=w) (E:=ai C γ s w) (hL _ rf hrf) hl hd hp;refine⟨v',?_,h2⟩;rw[hv];simp[Instr.field,run_underlying hu,hget,asAgg,h1]
      .cases hq
     .cases hq
    .cases hq
   .cases hq
  .cases hq
 .cases hq
theorem sb {E:Env}(hlive:∀k g c,s.own k=(g,some c)->E.gen k=g/\E.loc k=some ⟨γ k,c.ty,c.sz,c.rows.length⟩){x:PV}{Pr:Prop}{v:Value}(h1:mW s x=some Pr)(h2:Pr)(hr:Rep E x v):v.oneCell'=true:=by
 cases x<;>simp only[mW,aJ,reduceCtorEq]at h1
 case bool=>rw[hr.bool_inv];rfl
 case int=>rw[hr.int_inv];rfl
 case str=>rw[hr.str_inv];rfl
 case raw=>subst h1;rw[hr.raw_inv];exact h2
 case nil=>rw[hr.nil_inv];rfl
 case sl=>cases hr with|d h=>cases h<;>rfl
 case dref=>obtain⟨b,off,vals,hv,_⟩:=hr.dref_inv;rw[hv];rfl
 case clo=>obtain⟨vs,hv,_⟩:=hr.clo_inv;rw[hv];rfl
 case fsl=>cases hr with
  |d h=>cases h
  |fsl h=>cases h<;>rfl
 case mapd=>cases hr with|d h=>cases h;rfl
 case mp k g =>
  split at h1
  case h_2=>cases h1
  rename_i c hown;have h1':=bk h1;subst h1';have ho:s.own k=(g,some c):=by rw[<-h2,<-hown]
  obtain⟨e1,e2⟩:=hlive k g c ho;cases hr with
  |d h=>cases h
  |mp hg hl =>
   obtain⟨_,b,_,rfl⟩:=hl e1.symm _ e2;rfl
 case als k g i n =>
  split at h1
  case h_2=>cases h1
  rename_i c hown;have h1':=bk h1;subst h1';have ho:s.own k=(g,some c):=by rw[<-h2,<-hown]
  obtain⟨e1,e2⟩:=hlive k g c ho;cases hr with
  |d h=>cases h
  |als hg hl =>
   rcases hl e1.symm _ e2 with⟨_,_,_,rfl⟩|⟨b,cap,cur,_,rfl,_⟩<;>rfl
 case ptr k g i n =>
  split at h1
  case h_2=>cases h1
  rename_i c hown;have h1':=bk h1;subst h1';have ho:s.own k=(g,some c):=by rw[<-h2,<-hown]
  obtain⟨e1,e2⟩:=hlive k g c ho;cases hr with
  |d h=>cases h
  |ptr hg hl=>obtain⟨b,_,rfl,_⟩:=hl e1.symm _ e2;rfl
theorem vq {k g:Nat}{c:Cont}(h:s.own k=(g,some c)):(ai C γ s w).gen k=g/\(ai C γ s w).loc k=some ⟨γ k,c.ty,c.sz,c.rows.length⟩:=by
 simp[ai,h]
theorem iX {v:Value}(h:v.oneCell'=true):v.cells=#[v]:=by
 cases v<;>first|rfl|(simp[Value.oneCell']at h)
theorem Er (off:Nat):∀(l:List Value) (k:Nat) (cells:List Value),off+k+l.length<=cells.length ->
  (l.zipIdx k).foldl (fun(cs:Array Value) (p:Value × Nat)=>cs.setIfInBounds (off+p.2) p.1) cells.toArray=(cells.take (off+k)++l++cells.drop (off+k+l.length)).toArray
 |[],k,cells,_=>by simp
 |v::l,k,cells,h=>by
  simp only[eJ]at h;simp only[List.zipIdx_cons,iz,List.setIfInBounds_toArray];rw[Er off l (k+1) (cells.set (off+k) v) aX];congr 1;have h1:(cells.set (off+k) v).take (off+(k+1))=cells.take (off+k)++[v]:=by
   rw[<-fA,List.take_succ_eq_append_getElem aX];rw[List.take_set_of_le (aH)];simp
  have h2:(cells.set (off+k) v).drop (off+(k+1)+l.length)=cells.drop (off+k+(v::l).length):=by
   rw[List.drop_set_of_lt J];congr 1;simp;omega
  rw[h1,h2];simp
theorem qL {E:Env}{cs ds:List PV}{vs us:List Value}{off:Nat}(hl:cs.length=vs.length)(hd:∀(i:Nat) (c:PV) (u:Value),cs[i]?=some c->vs[i]?=some u->Rep E c u)
  (hl':ds.length=us.length) (hd':∀(i:Nat) (c:PV) (u:Value),ds[i]?=some c->us[i]?=some u->Rep E c u) (hle:off+ds.length<=cs.length) :
  (cs.take off++ds++cs.drop (off+ds.length)).length=(vs.take off++us++vs.drop (off+us.length)).length /\
  ∀(i:Nat) (c:PV) (u:Value),(cs.take off++ds++cs.drop (off+ds.length))[i]?=some c->(vs.take off++us++vs.drop (off+us.length))[i]?=some u->Rep E c u:=by
 refine⟨by simp[hl,hl'],fun i c u h1 h2=>?_⟩;rw[bt,gl]at h1 h2;have e1:(cs.take off).length=off:=by simp;omega
 have e2:(vs.take off).length=off:=by simp;omega
 rw[e1]at h1;rw[e2]at h2;by_cases hi:i<off
 .rw[if_pos hi]at h1 h2;rw[bE,if_pos hi]at h1 h2;exact hd i c u h1 h2
 .rw[if_neg hi]at h1 h2;rw[gl]at h1 h2;rw[hl']at h1;by_cases hi2:i-off<us.length
  .rw[if_pos hi2]at h1 h2;exact hd' _ c u h1 h2
  .rw[if_neg hi2]at h1 h2;rw[cq]at h1 h2;exact hd _ c u h1 h2
theorem yo {fs:Array Field}(hall:∀f∈fs.toList,∃r,L f.type=some r)(hL:iW P L) :
  (fs.mapM fun f=>(do pure (f.offset,<-sizeOf f.type):Sem (Nat × Nat))).run P w=.ok (fs.map fun f=>(f.offset,((L f.type).map (·.size)).getD 0)) w:=by
 obtain⟨l⟩:=fs;simp only[o9,pc]at *
 have key:∀l:List Field,(∀f∈l,∃r,L f.type=some r)->(l.mapM fun f=>(do pure (f.offset,<-sizeOf f.type):Sem (Nat × Nat))).run P w=.ok (l.map fun f=>(f.offset,((L f.type).map (·.size)).getD 0)) w:=by
  intro l hl
  induction l with
  |nil=>simp
  |cons f l ih =>
   obtain⟨r,hr⟩:=hl f aj;have:=ih (fun f' hf'=>hl f' (by simp[hf']));simp[ec (hL _ r hr),hr]at this ⊢;simp[this]
 rw[Sem.run_map,key l (by simpa using hall)];simp
theorem nI {place:Nat->Option (Nat × Nat)}{i off size:Nat}{v:Value}{rest:List (Nat × Value)}{cells:List Value}(hp:place i=some (off,size))(ws:List Value)(hw:v.cells=ws.toArray)
  (h1:ws.length=size) (h2:off+ws.length<=cells.length):Instr.fill place cells.toArray ((i,v)::rest)=Instr.fill place (cells.take off++ws++cells.drop (off+ws.length)).toArray rest:=by
 have hsp:=Er off ws 0 cells (by simpa using h2);rw[fB]at hsp;rw[Instr.fill,hp];generalize v.cells=c at hw;subst hw;simp only;split
 .rename_i hbad;exfalso;simp only[pd,decide_eq_true_eq,kB]at hbad;omega
 .rw[<-Array.foldl_toList];simp only[Array.toList_zipIdx,hsp]
theorem lJ {E:Env}(hlive:∀k g c,s.own k=(g,some c)->E.gen k=g/\E.loc k=some ⟨γ k,c.ty,c.sz,c.rows.length⟩)
  {fs:List (Nat × TypeId)} {place:Nat->Option (Nat × Nat)}
  (hpl:∀(i off:Nat) (ft:TypeId) (r:LRow),fs[i]?=some (off,ft)->L ft=some r->place i=some (off,r.size)):∀(parts:List (Nat × PV)) (us:List (Nat × Value)) (cs:List PV) (vs:List Value) (C0 C1:Prop) (out:List PV),
  parts.length=us.length->(∀(i:Nat) (p:Nat × PV) (u:Nat × Value),parts[i]?=some p->us[i]?=some u->p.1=u.1/\Rep E p.2 u.2) ->
  cs.length=vs.length->(∀(i:Nat) (c:PV) (u:Value),cs[i]?=some c->vs[i]?=some u->Rep E c u) ->
  jH L s fs parts cs C0=some (out,C1)->C1->∃outv:List Value,Instr.fill place vs.toArray us=some outv.toArray/\out.length=outv.length /\
   (∀(i:Nat) (c:PV) (u:Value),out[i]?=some c->outv[i]?=some u->Rep E c u)/\C0
 |[],[],cs,vs,C0,C1,out,_,_,hl,hd,hq,hc=>by
  simp only[jH,aJ,aP]at hq;obtain⟨rfl,rfl⟩:=hq;exact⟨vs,O,hl,hd,hc⟩
 |(n,x)::parts,(n',u)::us,cs,vs,C0,C1,out,hpl',hpr,hl,hd,hq,hc=>by
  obtain⟨e1,hx⟩:=hpr 0 (n,x) (n',u) O O;simp only at e1 hx;subst e1;have hrest:∀(i:Nat) (p:Nat × PV) (u:Nat × Value),parts[i]?=some p->us[i]?=some u->p.1=u.1/\Rep E p.2 u.2:=fun i p u h1 h2=>hpr (i+1) p u (by simpa using h1) (by simpa using h2);have hlen:parts.length=us.length:=by simpa using hpl'
  simp only[jH]at hq;split at hq
  .rename_i off ft hf;split at hq
   .rename_i r hr;have hp:=hpl n off ft r hf hr;split at hq
    .rename_i ds;cases hb:(Nat.beq ds.length r.size&&Nat.ble (off+ds.length) cs.length) with
     |false=>simp[hb]at hq
     |true =>
      simp only[hb,cond_true]at hq;simp only[bj,ie,Nat.ble_eq]at hb;obtain⟨ws,rfl,hwl,hwd⟩:=hx.agg_inv;obtain⟨s1,s2⟩:=qL hl hd hwl hwd hb.2;obtain⟨outv,g1,g2,g3,g4⟩:=lJ hlive hpl parts us _ _ C0 C1 out hlen hrest s1 s2 hq hc;refine⟨outv,?_,g2,g3,g4⟩;rw[nI hp ws O J J];exact g1
    .split at hq
     .rename_i Pr hone;cases hb:(Nat.beq 1 r.size&&Nat.ble (off+1) cs.length) with
      |false=>simp[hb]at hq
      |true =>
       simp only[hb,cond_true]at hq;simp only[bj,ie,Nat.ble_eq]at hb;obtain⟨s1,s2⟩:=qL (ds:=[_]) (us:=[u]) hl hd O (fun i c v h1 h2=>by
        cases i with
        |zero=>simp at h1 h2;subst h1;subst h2;exact hx
        |succ i=>simp at h1) hb.2
       obtain⟨outv,g1,g2,g3,g4⟩:=lJ hlive hpl parts us _ _ (Pr/\C0) C1 out hlen hrest s1 s2 hq hc;have h1c:=sb hlive hone g4.1 hx;refine⟨outv,?_,g2,g3,g4.2⟩;rw[nI hp [u] (iX h1c) (by simpa using hb.1) (by simp[<-hl];omega)];exact g1
     .cases hq
   .cases hq
  .cases hq
 |[],_::_,_,_,_,_,_,h,_,_,_,_,_=>by simp at h
 |_::_,[],_,_,_,_,_,h,_,_,_,_,_=>by simp at h
theorem Bz {T:TypeId}{parts:Array (Nat × Operand)}{pv:PV}{Cd:Prop}(hL:iW P L)(h:Sim C γ s a w)(hq:qv L s (.build T parts)=some (pv,Cd))(hc:Cd) :
  ∃v,(Instr.build T (parts.map fun(i,x)=>(i,a.eval x))).run P w=.ok v w/\Rep (ai C γ s w) pv v:=by
 simp only[qv]at hq;split at hq
 .rename_i r hr;split at hq
  .rename_i fs z hs hz;cases hall:fs.all (fun p=>(L p.2).isSome) with
   |false=>simp[hall]at hq
   |true =>
    simp only[hall,cond_true]at hq;split at hq
    .rename_i cs C1 hfill;simp only[aJ,aP]at hq;obtain⟨rfl,rfl⟩:=hq;obtain⟨i,d,hi,hd,hsz,_,hf,hzero⟩:=LRow.spec (hL T r hr);obtain⟨zv,e1,e2,e3,e4⟩:=hzero z hz;obtain⟨fs',hu,hm⟩:=rb (hL T r hr) hs;have hpl:∀(i off:Nat) (ft:TypeId) (r:LRow),fs[i]?=some (off,ft)->L ft=some r->(fs'.map fun f=>(f.offset,((L f.type).map (·.size)).getD 0))[i]?=some (off,r.size):=by
      intro i off ft r h1 h2;rw[<-hm,aV]at h1;rw[Array.getElem?_map];cases hx:fs'.toList[i]? with
      |none=>rw[hx]at h1;simp at h1
      |some f =>
       rw[hx]at h1;simp at h1;have:fs'[i]?=some f:=by rw[<-hx];simp
       rw[this];simp[h1.1,h1.2,h2]
     obtain⟨outv,g1,g2,g3,_⟩:=lJ (E:=ai C γ s w) (γ:=γ) (fun k g c ho=>vq ho) hpl (parts.toList.map fun p=>(p.1,s.ev p.2)) (parts.toList.map fun p=>(p.1,a.eval p.2)) z zv.cells.toList True C1 cs
      aj (fun i p u h1 h2=>by
       rw[aV]at h1 h2;cases hx:parts.toList[i]? with
       |none=>rw[hx]at h1;simp at h1
       |some q =>
        rw[hx]at h1 h2;simp at h1 h2;subst h1;subst h2
        exact⟨O,h.ev q.2⟩)
      (by simpa using e3) (fun i c u h1 h2 => .d (iT (e4 i c u h1 (by simpa using h2)) _ _).1) hfill hc
     refine⟨.agg outv.toArray,?_,.agg cs outv g2 g3⟩;have hplaces:=yo (P:=P) (L:=L) (w:=w) (fs:=fs') (fun f hf=>by
      have hmem:(f.offset,f.type)∈fs:=by rw[<-hm];exact bF.2 ⟨f,hf,O⟩
      exact lS.1 (bx.1 hall _ hmem)) hL
     have hz':(zeroValue T).run P w=.ok zv w:=by simp[zeroValue,typeInfo,hi,e1]
     have hparts:(parts.map fun(i,x)=>(i,a.eval x)).toList=parts.toList.map fun p=>(p.1,a.eval p.2):=aj;simp only[Instr.build,Sem.run_bind,hz',Result.andThen_ok,run_underlying hu,hplaces,hparts];rw[show zv.cells.toList.toArray=zv.cells by simp]at g1;rw[g1];rfl
    .cases hq
  .cases hq
 .cases hq
theorem DK (hL:iW P L)(h:Sim C γ s a w){o:Oper}{pv:PV}{Cd:Prop}(hq:qv L s o.op=some (pv,Cd))(hc:Cd) :
  ∃v,(execOp a.eval o).run P w=.ok (.value v) w/\Rep (ai C γ s w) pv v:=by
 obtain⟨dst,op,type,pos,after,guard⟩:=o;simp only at hq;have wrapv:∀ {m:Sem Value} {v:Value},m.run P w=.ok v w->(do pure (Next.value (<-m)):Sem Next).run P w=.ok (.value v) w:=fun hm=>by simp[hm]
 cases op
 case move x =>
  simp only[qv,PV.fz_eq,aJ,aP]at hq;obtain⟨rfl,rfl⟩:=hq;exact⟨_,by simp[execOp],h.ev x⟩
 case assign x =>
  simp only[qv,PV.fz_eq,aJ,aP]at hq;obtain⟨rfl,rfl⟩:=hq;exact⟨_,by simp[execOp],h.ev x⟩
 case pick c x y =>
  simp only[qv,PV.fz_eq]at hq;split at hq
  .rename_i hev;simp only[aJ,aP]at hq;obtain⟨rfl,rfl⟩:=hq;have hb:=h.ev c;rw[hev]at hb;have hb':=hb.bool_inv;exact⟨a.eval x,by simp[execOp,hb',asBool],h.ev x⟩
  .rename_i hev;simp only[aJ,aP]at hq;obtain⟨rfl,rfl⟩:=hq;have hb:=h.ev c;rw[hev]at hb;have hb':=hb.bool_inv;exact⟨a.eval y,by simp[execOp,hb',asBool],h.ev y⟩
  .cases hq
 case nilCheck x =>
  simp only[qv]at hq;have hx:=h.ev x;split at hq
  .rename_i cs j hev;simp only[aJ,aP]at hq;obtain⟨rfl,rfl⟩:=hq;rw[hev]at hx;obtain⟨b,off,vals,hv,_⟩:=hx.dref_inv;exact⟨a.eval x,by simp only[execOp];rw[hv];rfl,hx⟩
  .rename_i k g i j hev;split at hq
   case h_2=>cases hq
   rename_i c hown;simp only[aJ,aP]at hq;obtain⟨rfl,rfl⟩:=hq;rw[hev]at hx;have ho:s.own k=(g,some c):=by rw[<-hc,<-hown]
   obtain⟨b,_,hv,_⟩:=h.ptr_at hx ho;exact⟨a.eval x,by simp only[execOp];rw[hv];rfl,hx⟩
  .rename_i f cs hev;simp only[aJ,aP]at hq;obtain⟨rfl,rfl⟩:=hq;rw[hev]at hx;obtain⟨vs,hv,_⟩:=hx.clo_inv;exact⟨a.eval x,by simp only[execOp];rw[hv];rfl,hx⟩
  .cases hq
 case binOp op T x y T' =>
  simp only[qv]at hq;cases hn:Dn y with
  |true =>
   rw[hn,cond_true]at hq;obtain⟨v,h1,h2⟩:=Eo (P:=P) hL h hn hq hc;exact⟨v,by simp only[execOp];exact wrapv h1,h2⟩
  |false =>
   rw[hn,cond_false]at hq;obtain⟨v,h1,h2⟩:=En (P:=P) (w:=w) (x:=x) (y:=y) hL (h.ev x) (h.ev y) hq hc;exact⟨v,by simp only[execOp];exact wrapv h1,h2⟩
 case unOp op T x =>
  simp only[qv]at hq;have hx:=h.ev x;split at hq
  .rename_i b hev;simp only[aJ,aP]at hq;obtain⟨rfl,rfl⟩:=hq;rw[hev]at hx;exact⟨_,by simp[execOp,hx.bool_inv,Op.unary],.d (.bool _)⟩
  .rename_i k n hev;simp only[aJ,aP]at hq;obtain⟨rfl,rfl⟩:=hq;rw[hev]at hx;exact⟨_,by simp[execOp,hx.int_inv,Op.unary,Op.intArith],.d (.int _ _)⟩
  .cases hq
 case convert src dst x =>
  simp only[qv]at hq;have hx:=h.ev x;split at hq
  .rename_i rs rd k n hrs hrd hev;split at hq
   .rename_i k' hs;simp only[aJ,aP]at hq;obtain⟨rfl,rfl⟩:=hq;rw[hev]at hx;have hu:=nw (hL _ _ hrd) hs;have hk:P.intKind dst=k':=by simp[Program.intKind,hu]
    have:=run_convert_int (P:=P) w src dst k n (uJ (hL _ _ hrs)) (by rw[hk];exact hu);rw[hk]at this;exact⟨_,by simp only[execOp,hx.int_inv];exact wrapv this,.d (.int _ _)⟩
   .cases hq
  .rename_i rs rd b hrs hrd hev;split at hq
   .rename_i hs;simp only[aJ,aP]at hq;obtain⟨rfl,rfl⟩:=hq;rw[hev]at hx;have hu:=kW (hL _ _ hrd) hs;obtain⟨d,hd⟩:=lS.1 (uJ (hL _ _ hrs));refine⟨_,?_,.d (.str b)⟩;simp only[execOp,hx.str_inv];refine wrapv ?_;simp only[convert,Sem.run_bind,run_underlying hd,run_underlying hu,Result.andThen_ok];cases d<;>rfl
   .cases hq
  .cases hq
 case makeFunc fn first caps =>
  obtain⟨first⟩:=first;cases fn<;>cases first<;>simp only[qv,reduceCtorEq]at hq;rename_i f;simp only[aJ,aP]at hq;obtain⟨rfl,rfl⟩:=hq;obtain⟨caps⟩:=caps;refine⟨.func (.func f) #[] (caps.map a.eval).toArray,by simp[execOp,Instr.makeFunc],.clo f _ _ aj fun i c v h1 h2=>?_⟩;rw[aV]at h1 h2;cases hx:caps[i]? with
  |none=>rw[hx]at h1;simp at h1
  |some x =>
   rw[hx]at h1 h2;simp at h1 h2;subst h1;subst h2;exact h.ev x
 case fieldAddr T x f =>
  obtain⟨v,h1,h2⟩:=rF (P:=P) hL h hq hc;exact⟨v,by simp only[execOp];exact wrapv h1,h2⟩
 case field T x f =>
  obtain⟨v,h1,h2⟩:=BB (P:=P) hL h hq;exact⟨v,by simp only[execOp];exact wrapv h1,h2⟩
 case load T x =>
  obtain⟨v,h1,h2⟩:=El (P:=P) hL h hq hc;exact⟨v,by simp only[execOp];exact wrapv h1,h2⟩
 case build T parts =>
  obtain⟨v,h1,h2⟩:=Bz (P:=P) hL h hq hc;exact⟨v,by simp only[execOp];exact wrapv h1,h2⟩
 case extract x i =>
  simp only[qv]at hq;have hx:=h.ev x;split at hq
  .rename_i vs hev;split at hq
   .rename_i c hci;simp only[aJ,aP]at hq;obtain⟨rfl,rfl⟩:=hq;rw[hev]at hx;obtain⟨us,hv,hl,hd⟩:=hx.tup_inv;have hlt:i<us.length:=by rw[<-hl];exact(bD hci).1
    exact⟨us[i],by simp[execOp,hv,Instr.extract,hlt],hd i c us[i] hci (aQ hlt)⟩
   .cases hq
  .cases hq
 case index T x ix =>
  simp only[qv]at hq;have hx:=h.ev x;have hix:=h.ev ix;split at hq
  .rename_i r b k n hr hev hevi;split at hq
   .rename_i hs;simp only[aJ,aP]at hq;obtain⟨rfl,rfl⟩:=hq;rw[hev]at hx;rw[hevi]at hix;have hu:=kW (hL _ _ hr) hs;obtain⟨h0,h1⟩:=hc;have hlt:n.toNat<b.length:=J;have hget:(⟨b.toArray⟩:ByteArray)[n.toNat]?=some b[n.toNat]:=by
     have hsz:n.toNat<(⟨b.toArray⟩:ByteArray).size:=by rw[lD];exact hlt
     have:=getElem?_pos (⟨b.toArray⟩:ByteArray) n.toNat hsz;rw[this];rfl
    refine⟨.int .u8 (b[n.toNat].toNat:Int),?_,?_⟩
    .simp only[execOp,hx.str_inv,hix.int_inv];refine wrapv ?_;simp[Instr.index,asIntOf,run_underlying hu,h0,hget]
    .have:b.getD n.toNat 0=b[n.toNat]:=by simp[hlt]
     rw[this];exact .d (.int _ _)
   .cases hq
  .cases hq
 case call c =>
  unfold qv at hq;split at hq;any_goals (rename_i heq;cases heq;done)
  .rename_i x T heq;cases heq;split at hq
   .rename_i r hr;have hfit:=hL _ _ hr;have hx:=h.ev x
    have ru:∀ {v:Value} {n:Nat},(Builtin.len_ #[T] type #[a.eval x]).run P w=.ok (goInt n) w->v=.int .i64 n ->
      (execOp a.eval { dst:=dst,op := .call ⟨.builtin .len,⟨[x]⟩,⟨[T]⟩⟩,type:=type,pos:=pos,after:=after,guard:=guard }).run P w=.ok (.value v) w:=fun h1 h2=>by
     subst h2;simp only[execOp,resolve,invoke,builtin,Sem.run_bind,Sem.run_pure,Result.andThen_ok,pc,db,fC];rw[h1];rfl
    split at hq
    .rename_i b hs hev;simp only[aJ,aP]at hq;obtain⟨rfl,rfl⟩:=hq;rw[hev]at hx;have hu:=kW hfit hs;refine⟨_,ru (n:=b.length) ?_ O,.d (.int _ _)⟩;rw[hx.str_inv,run_len_string w T type _ hu,lD]
    .rename_i e hs;have hu:=gZ hfit hs;have ls:∀(ad:Option Addr) (n cap:Nat),a.eval x=.slice ad n cap->(Builtin.len_ #[T] type #[a.eval x]).run P w=.ok (goInt n) w:=fun ad n cap h1=>by
      rw[h1];simp[Builtin.len_,run_underlying hu]
     unfold wC at hq;split at hq
     .rename_i rows hev;simp only[aJ,aP]at hq;obtain⟨rfl,rfl⟩:=hq;rw[hev]at hx;refine⟨_,ru (n:=rows.length) ?_ O,.d (.int _ _)⟩;generalize hv:a.eval x=v at hx ls;cases hx with|d hx=>cases hx with
       |sl0 ad cap=>exact ls _ _ _ rfl
       |sl rows b off cap sz vals=>exact ls _ _ _ rfl
     .rename_i rows hev;simp only[aJ,aP]at hq;obtain⟨rfl,rfl⟩:=hq;rw[hev]at hx;refine⟨_,ru (n:=rows.length) ?_ O,.d (.int _ _)⟩;generalize hv:a.eval x=v at hx ls;cases hx with
      |d hx=>cases hx
      |fsl hx=>cases hx with
       |sl0 ad cap=>exact ls _ _ _ rfl
       |sl rows b off cap sz vals=>exact ls _ _ _ rfl
     .rename_i hev;simp only[aJ,aP]at hq;obtain⟨rfl,rfl⟩:=hq;rw[hev]at hx;exact⟨_,ru (n:=0) (ls _ _ _ hx.nil_inv) O,.d (.int _ _)⟩
     .rename_i k g i n hev;split at hq
      case h_2=>cases hq
      rename_i c hown;simp only[aJ,aP]at hq;obtain⟨rfl,rfl⟩:=hq;rw[hev]at hx;have ho:s.own k=(g,some c):=by rw[<-hc,<-hown]
      rcases h.als_at hx ho with⟨_,_,rfl,hv⟩|⟨b,cap,cur,_,hv,_⟩
      .exact⟨_,ru (n:=0) (ls _ _ _ hv) O,.d (.int _ _)⟩
      .exact⟨_,ru (n:=n) (ls _ _ _ hv) O,.d (.int _ _)⟩
     .cases hq
    .cases hq
   .cases hq
  .rename_i x y tys heq;cases heq;split at hq
   .rename_i k n k' m hx hy;simp only[aJ,aP]at hq;obtain⟨rfl,rfl⟩:=hq;have h1:=h.ev x;have h2:=h.ev y;rw[hx]at h1;rw[hy]at h2;refine⟨_,?_,.d (.int _ _)⟩;simp[execOp,resolve,invoke,builtin,Builtin.min_,h1.int_inv,h2.int_inv,Builtin.min2]
   .cases hq
  .rename_i x y tys heq;cases heq;split at hq
   .rename_i k n k' m hx hy;simp only[aJ,aP]at hq;obtain⟨rfl,rfl⟩:=hq;have h1:=h.ev x;have h2:=h.ev y;rw[hx]at h1;rw[hy]at h2;refine⟨_,?_,.d (.int _ _)⟩;simp[execOp,resolve,invoke,builtin,Builtin.max_,h1.int_inv,h2.int_inv,Builtin.max2]
   .cases hq
  .cases hq
 all_goals (simp only[qv,reduceCtorEq]at hq)
end
section
variable {C:Ctx}{γ:Nat->Option Nat}{s:St}{a:Act}{w w':World}
theorem gJ (hb:Below w.heap.size w w')(hbase:∀k c b,(s.own k).2=some c->γ k=some b->C.B<=b/\b<w.heap.size):(ai C γ s w).Le (ai C γ s w') where
 ok b h:=⟨eH h.1 hb.size,h.2⟩
 okf b h:=⟨h.1,eH h.2.1 hb.size,h.2.2⟩
 okfok b h:=h.2
 obj b h:=hb.block b h.1
 gen _:=aH
 loc k l' _ h:=⟨l',h,O,O,O,aH⟩
 blk k l' b cur _ hl hb' hh:=by
  refine⟨cur,?_,O⟩;show w'.heap[b]? = _;simp only[ai,jk]at hl;obtain⟨c,hc,rfl⟩:=hl;rw[hb.block b (hbase k c b hc hb').2];exact hh
theorem SiteOk.mono {E E':Env}(h:E.Le E'){blk:Option Nat}{c:Cont}(hs:SiteOk E blk c)(hblk:∀b,blk=some b->E'.w.heap[b]? = E.w.heap[b]?):SiteOk E' blk c where
 emp:=hs.emp
 mp b hb hz hk:=by
  obtain⟨es,nn,h1,h2,h3,h4,h5,h6⟩:=hs.mp b hb hz hk;exact⟨es,nn,by rw[hblk b hb];exact h1,h2,h3,h4,fun i row c e e1 e2 e3=>(h5 i row c e e1 e2 e3).mono h,fun i row c e e1 e2 e3=>(h6 i row c e e1 e2 e3).mono h⟩
 it b hb hz hk:=by
  have h0:=hs.it b hb hz hk;unfold Hv at h0 ⊢;split at h0
  case h_2 =>
   obtain⟨T,kb,gb,n,p,v,h1,h2,h3,h4⟩:=h0;exact⟨T,kb,gb,n,p,v,h1,by rw[hblk b hb];exact h2,h3,h4.mono h⟩
  case h_3 =>
   obtain⟨rec,regs,h1,h2,h3,h3',h4,h5⟩:=h0;exact⟨rec,regs,by rw[hblk b hb];exact h1,h2,h3,h3',h4,fun t=>(h5 t).mono h⟩
  obtain⟨m,es,seen,nn,h1,h2,h3,h4,last,rem,h5,hl,h6,h7⟩:=h0;exact⟨m,es,seen,nn,by rw[hblk b hb];exact h1,h.ok m h2,h.mapc m _ _ h2 h3,h4,last,rem,h5,hl.imp id (fun⟨j,e,ck,cv,g1,g2,g3,g4,g5⟩=>⟨j,e,ck,cv,g1,g2,g3,h.drep g4,h.drep g5⟩),h6,fun i c e e1 e2=>let ⟨ck,cv,g1,g2,g3⟩:=h7 i c e e1 e2;⟨ck,cv,g1,h.drep g2,h.drep g3⟩⟩
 at_ b hb hz:=by
  obtain⟨cur,h1,h2,h3,h4,h5⟩:=hs.at_ b hb hz;exact⟨cur,by rw[hblk b hb];exact h1,h2,h3,h4,fun i j row pv e1 e2=>let ⟨v,g1,g2,g3⟩:=h5 i j row pv e1 e2;⟨v,g1,g2,g3.mono h⟩⟩
theorem SiteOk.none_ {E:Env}{c:Cont}(h:c.rows=[]):SiteOk E none c:=⟨fun _=>h,(fun b hb=>by cases hb),(fun b hb=>by cases hb),fun b hb=>by cases hb⟩
theorem Sim.ext (h:Sim C γ s a w)(hb:Below w.heap.size w w'):Sim C γ s a w':=by
 have hle:=gJ hb h.base;refine⟨h.defers,h.size,fun r=>(h.regs r).mono hle,fun k c hc=>(h.sites k c hc).mono hle fun b hb'=>hb.block b (h.base k c b hc hb').2,h.inj,fun k c b h1 h2=>?_,?_,bz h.top hb.size,fun c v hk=>(h.kept c v hk).mono hle⟩
 .exact⟨(h.base k c b h1 h2).1,eH (h.base k c b h1 h2).2 hb.size⟩
 .exact h.below.trans (hb.mono h.top)
theorem lC (w:World):Below w.heap.size w { w with drawn:=w.drawn+1 }:=⟨O,O,O,aH,fun _ _=>rfl⟩
structure Fl where
 cl:Bool
 fr:Bool
def Fl.and (x y:Fl):Fl:=⟨x.cl&&y.cl,x.fr&&y.fr⟩
def fK (f:PV->Option (PV × Prop × Fl)):List PV->Option (List PV × Prop × Fl)
 |[]=>some ([],True,⟨true,true⟩)
 |c::cs=>match f c with
  |some (d,C1,b1)=>(match fK f cs with
   |some (ds,C2,b2)=>some (d::ds,C1/\C2,b1.and b2)
   |none=>none)
  |none=>none
def fJ (s:St):Nat->PV->Option (PV × Prop × Fl)
 |0,_=>none
 |n+1,v=>match v with
  |.fsl rows=>some (.sl rows,True,⟨true,true⟩)
  |.als k g i m=>match (s.own k).2 with
   |some c=>bif Nat.ble c.kind 1 then some (.sl c.rows,(s.own k).1=g/\i=0/\m=c.rows.length,⟨false,Nat.beq c.kind 0⟩) else none
   |none=>none
  |.ptr k g i j=>match (s.own k).2 with
   |some c=>(match c.rows[i]? with
    |some row=>bif Nat.ble c.kind 1 then some (.dref row j,(s.own k).1=g,⟨false,Nat.beq c.kind 0⟩)
      else(match fK (fJ s n) row with|some (row',C1,b)=>some (.dref row' j,(s.own k).1=g/\C1,⟨false,b.fr⟩)|none=>none)
    |none=>none)
   |none=>none
  |.agg cs=>match fK (fJ s n) cs with|some (ds,C1,b)=>some (.agg ds,C1,b)|none=>none
  |.tup cs=>match fK (fJ s n) cs with|some (ds,C1,b)=>some (.tup ds,C1,b)|none=>none
  |.clo f cs=>match fK (fJ s n) cs with|some (ds,C1,b)=>some (.clo f ds,C1,b)|none=>none
  |.sl rows=>some (.sl rows,True,⟨true,false⟩)
  |.dref cs j=>some (.dref cs j,True,⟨true,false⟩)
  |.mapd rows=>some (.mapd rows,True,⟨true,false⟩)
  |.mp k g=>match (s.own k).2 with
   |some c=>bif Nat.ble c.kind 1&&Nat.beq c.sz 0 then some (.mapd c.rows,(s.own k).1=g,⟨false,Nat.beq c.kind 0⟩) else none
   |none=>none
  |.mi _ _ | .yl _ _ | .lbl _ _ _ _ _ _ | .dfd=>none
  |v=>some (v,True,⟨true,true⟩)
def eF (C:Ctx)(γ:Nat->Option Nat)(s:St)(w:World)(b:Fl)(k:Nat):Prop:=k<w.heap.size/\¬C.X k/\(b.cl=true->fu C γ s w k)/\(b.fr=true->C.B<=k)
theorem fm {b1 b2:Fl}{k:Nat}:(eF C γ s w b1 k->eF C γ s w (b1.and b2) k)/\(eF C γ s w b2 k->eF C γ s w (b1.and b2) k):=by
 constructor
 .rintro⟨h1,h2,h3,h4⟩;exact⟨h1,h2,fun h=>h3 (by simp[Fl.and]at h;exact h.1),fun h=>h4 (by simp[Fl.and]at h;exact h.1)⟩
 .rintro⟨h1,h2,h3,h4⟩;exact⟨h1,h2,fun h=>h3 (by simp[Fl.and]at h;exact h.2),fun h=>h4 (by simp[Fl.and]at h;exact h.2)⟩
theorem DRep.weaken {ok ok':Nat->Prop}(h:∀b,ok b->ok' b){c:PV}{v:Value}(hr:DRep w ok c v):DRep w ok' c v:=hr.mono h (fun _ _ _ _ e=>e) (fun _ _ _ _ e=>e)
theorem iO {f:PV->Option (PV × Prop × Fl)}{R:Fl->PV->Value->Prop}{S:PV->Value->Prop}(hw:∀b1 b2 c v,(R b1 c v->R (b1.and b2) c v)/\(R b2 c v->R (b1.and b2) c v))
  (hf:∀c d Cd b v,f c=some (d,Cd,b)->Cd->S c v->R b d v):∀(cs ds:List PV) (Cd:Prop) (b:Fl) (vs:List Value),fK f cs=some (ds,Cd,b)->Cd ->
   cs.length=vs.length->(∀(i:Nat) (c:PV) (v:Value),cs[i]?=some c->vs[i]?=some v->S c v) ->
   ds.length=vs.length/\∀(i:Nat) (d:PV) (v:Value),ds[i]?=some d->vs[i]?=some v->R b d v
 |[],ds,Cd,b,vs,h,_,hl,_=>by
  simp only[fK,aJ,aP]at h;obtain⟨rfl,_⟩:=h;exact⟨hl,fun i d v h=>by simp at h⟩
 |c::cs,ds,Cd,b,vs,h,hc,hl,hs=>by
  simp only[fK]at h;split at h
  .rename_i d C1 b1 hd;split at h
   .rename_i ds' C2 b2 hds;simp only[aJ,aP]at h;obtain⟨rfl,rfl,rfl⟩:=h;cases vs with
    |nil=>simp at hl
    |cons v vs =>
     have ih:=iO hw hf cs ds' C2 b2 vs hds hc.2 (by simpa using hl) (fun i c u e1 e2=>hs (i+1) c u (by simpa using e1) (by simpa using e2));have h0:=hf c d C1 b1 v hd hc.1 (hs 0 c v O O);refine⟨by simp[ih.1],fun i e u e1 e2=>?_⟩;cases i with
     |zero =>
      simp at e1 e2;subst e1;subst e2;exact(hw b1 b2 _ _).1 h0
     |succ i=>exact(hw b1 b2 _ _).2 (ih.2 i e u (by simpa using e1) (by simpa using e2))
   .cases h
  .cases h
theorem iP (hX:∀b,C.X b->b<C.B)(h:Sim C γ s a w):∀(n:Nat) (c d:PV) (Cd:Prop) (b:Fl) (v:Value),fJ s n c=some (d,Cd,b)->Cd->Rep (ai C γ s w) c v->DRep w (eF C γ s w b) d v
 |0,_,_,_,_,_,hq,_,_=>by simp[fJ]at hq
 |n+1,c,d,Cd,b,v,hq,hc,hr=>by
  have hdat:∀ {cl:Bool} {c:PV} {v:Value},DRep w (fu C γ s w) c v->DRep w (eF C γ s w ⟨cl,false⟩) c v:=fun hd=>hd.weaken fun k hk=>⟨hk.1,hk.2.1,fun _=>hk,aj⟩;have hdatf:∀ {cl fr:Bool} {c:PV} {v:Value},DRep w (ai C γ s w).okf c v->DRep w (eF C γ s w ⟨cl,fr⟩) c v:=fun hd=>hd.weaken fun k hk=>⟨hk.2.1,hk.2.2.1,fun _=>hk.2,fun _=>hk.1⟩
  have ih:∀(cs ds:List PV) (Cd:Prop) (b:Fl) (vs:List Value),fK (fJ s n) cs=some (ds,Cd,b)->Cd->cs.length=vs.length ->
    (∀(i:Nat) (c:PV) (v:Value),cs[i]?=some c->vs[i]?=some v->Rep (ai C γ s w) c v)->ds.length=vs.length/\∀(i:Nat) (d:PV) (v:Value),ds[i]?=some d->vs[i]?=some v->DRep w (eF C γ s w b) d v :=
   iO (R:=fun b=>DRep w (eF C γ s w b)) (fun b1 b2 c v=>⟨fun hd=>hd.weaken fun k=>fm.1,fun hd=>hd.weaken fun k=>fm.2⟩) (fun c d Cd b v e1 e2 e3=>iP hX h n c d Cd b v e1 e2 e3)
  have kd:∀ {k:Nat} {pv:PV} {u:Value},k<=1->KRep (ai C γ s w) k pv u->DRep w (eF C γ s w ⟨false,Nat.beq k 0⟩) pv u:=by
   intro k pv u hk hkr
   match k,hk with
   |0,_=>exact hdatf hkr
   |1,_=>exact hdat hkr
  have site:∀ {k b:Nat} {c:Cont} (fr:Bool),(s.own k).2=some c->γ k=some b->eF C γ s w ⟨false,fr⟩ b:=fun fr h1 h2=>by
   have:=h.base _ _ _ h1 h2;exact⟨this.2,fun hx=>by have:=hX _ hx;omega,aj,fun _=>this.1⟩
  cases c with
  |fsl rows =>
   simp only[fJ,aJ,aP]at hq;obtain⟨rfl,rfl,rfl⟩:=hq;cases hr with
   |d hd=>cases hd
   |fsl hd=>exact hdatf hd
  |als k g i m =>
   simp only[fJ]at hq;split at hq
   .rename_i c hown;cases hk:Nat.ble c.kind 1 with
    |false=>simp[hk]at hq
    |true =>
     simp only[hk,cond_true,aJ,aP]at hq;obtain⟨rfl,rfl,rfl⟩:=hq;obtain⟨hg,rfl,rfl⟩:=hc;have ho:s.own k=(g,some c):=by rw[<-hg,<-hown]
     have hk':c.kind<=1:=by simpa using hk
     rcases h.als_at hr ho with⟨h1,_,h3,rfl⟩|⟨b,cap,cur,h1,rfl,h3,h4,h5,h6,h7⟩
     .have:c.rows=[]:=(h.sites k c hown).emp h1;rw[this];exact .sl0 none 0
     .obtain⟨cur',g1,g2,g3,g4,g5⟩:=h.site_at ho h1 (h.cells_sz ho h1 h3 h6);simp only[fT];refine .sl c.rows b 0 cap c.sz (fun i j=>cur'.getD (i*c.sz+j) undef) (site _ hown h1) g2 h4 g4 (fun i j row pv e1 e2=>?_) (fun i j row pv e1 e2=>?_)
      .obtain⟨u,f1,f2,_⟩:=g5 i j row pv e1 e2;rw[bc g1,aG,f1];simp[f1,f2]
      .obtain⟨u,f1,f2,f3⟩:=g5 i j row pv e1 e2;have:cur'.getD (i*c.sz+j) undef=u:=by simp[f1]
       simp only[this];exact kd hk' f3
   .cases hq
  |ptr k g i j =>
   simp only[fJ]at hq;split at hq
   .rename_i c hown;split at hq
    .rename_i row hrow;cases hk:Nat.ble c.kind 1 with
     |true =>
      simp only[hk,cond_true,aJ,aP]at hq;obtain⟨rfl,rfl,rfl⟩:=hq;have ho:s.own k=(g,some c):=by rw[<-hc,<-hown]
      have hk':c.kind<=1:=by simpa using hk
      obtain⟨b,h1,rfl,h3,h4⟩:=h.ptr_at hr ho;obtain⟨cur',g1,g2,g3,g4,g5⟩:=h.site_at ho h1 J;refine .dref row j b (i*c.sz) (fun j=>cur'.getD (i*c.sz+j) undef) (site _ hown h1) (fun j pv e=>?_) (fun j pv e=>?_)
      .obtain⟨u,f1,f2,_⟩:=g5 i j row pv hrow e;rw[bc g1,f1];simp[f1,f2]
      .obtain⟨u,f1,f2,f3⟩:=g5 i j row pv hrow e;have:cur'.getD (i*c.sz+j) undef=u:=by simp[f1]
       simp only[this];exact kd hk' f3
     |false =>
      simp only[hk,cond_false]at hq;split at hq
      .rename_i row' C1 b1 hres;simp only[aJ,aP]at hq;obtain⟨rfl,rfl,rfl⟩:=hq;have ho:s.own k=(g,some c):=by rw[<-hc.1,<-hown]
       obtain⟨b,h1,rfl,h3,h4⟩:=h.ptr_at hr ho;obtain⟨cur',g1,g2,g3,g4,g5⟩:=h.site_at ho h1 J;have hrl:row.length=c.sz:=g4 row (bG hrow);have hcs:=ih row row' C1 b1 ((List.range row.length).map fun j=>cur'.getD (i*c.sz+j) undef) hres hc.2 aj (fun j pv v e1 e2=>by
        obtain⟨u,f1,f2,f3⟩:=g5 i j row pv hrow e1;rw[aV]at e2;have hj:j<row.length:=(bD e1).1;rw[jl hj]at e2;simp[f1]at e2;subst e2
        exact f3.rep aI)
       refine .dref row' j b (i*c.sz) (fun j=>cur'.getD (i*c.sz+j) undef) (site _ hown h1) (fun j pv e=>?_) (fun j pv e=>?_)
       .have hj:j<row.length:=by have:=(bD e).1;simp at hcs;omega
        obtain⟨u,f1,f2,_⟩:=g5 i j row row[j] hrow (aQ hj);rw[bc g1,f1];simp[f1,f2]
       .have hj:j<row.length:=by have:=(bD e).1;simp at hcs;omega
        have:=hcs.2 j pv (cur'.getD (i*c.sz+j) undef) e (by rw[aV,jl hj];rfl);exact this.weaken fun k hk=>⟨hk.1,hk.2.1,aj,hk.2.2.2⟩
      .cases hq
    .cases hq
   .cases hq
  |agg cs =>
   simp only[fJ]at hq;split at hq
   .rename_i ds C1 b1 hds;simp only[aJ,aP]at hq;obtain⟨rfl,rfl,rfl⟩:=hq;obtain⟨vs,rfl,hl,hd⟩:=hr.agg_inv;obtain⟨e1,e2⟩:=ih cs ds C1 b1 vs hds hc hl hd;exact .agg ds vs e1 e2
   .cases hq
  |tup cs =>
   simp only[fJ]at hq;split at hq
   .rename_i ds C1 b1 hds;simp only[aJ,aP]at hq;obtain⟨rfl,rfl,rfl⟩:=hq;obtain⟨vs,rfl,hl,hd⟩:=hr.tup_inv;obtain⟨e1,e2⟩:=ih cs ds C1 b1 vs hds hc hl hd;exact .tup ds vs e1 e2
   .cases hq
  |clo f cs =>
   simp only[fJ]at hq;split at hq
   .rename_i ds C1 b1 hds;simp only[aJ,aP]at hq;obtain⟨rfl,rfl,rfl⟩:=hq;obtain⟨vs,rfl,hl,hd⟩:=hr.clo_inv;obtain⟨e1,e2⟩:=ih cs ds C1 b1 vs hds hc hl hd;exact .clo f ds vs e1 e2
   .cases hq
  |sl rows =>
   simp only[fJ,aJ,aP]at hq;obtain⟨rfl,rfl,rfl⟩:=hq;cases hr with|d hd=>exact hdat hd
  |dref cs j =>
   simp only[fJ,aJ,aP]at hq;obtain⟨rfl,rfl,rfl⟩:=hq;cases hr with|d hd=>exact hdat hd
  |mapd rows =>
   simp only[fJ,aJ,aP]at hq;obtain⟨rfl,rfl,rfl⟩:=hq;cases hr with|d hd=>exact hdat hd
  |mi k g=>simp[fJ]at hq
  |yl k g=>simp[fJ]at hq
  |lbl=>simp[fJ]at hq
  |dfd=>simp[fJ]at hq
  |mp k g =>
   simp only[fJ]at hq;split at hq
   .rename_i c hown;cases hk:(Nat.ble c.kind 1&&Nat.beq c.sz 0) with
    |false=>simp[hk]at hq
    |true =>
     simp only[hk,cond_true,aJ,aP]at hq;obtain⟨rfl,rfl,rfl⟩:=hq;simp only[bj,ie]at hk;have hk':c.kind<=1:=by simpa using hk.1
     have ho:s.own k=(g,some c):=by rw[<-hc,<-hown]
     obtain⟨_,b,h1,rfl⟩:=h.mp_at hr ho;obtain⟨es,nn,f1,f2,f3,f4,f5,f6⟩:=(h.sites k c hown).mp b h1 hk.2 J;exact .mapd c.rows b es nn (site _ hown h1) f1 f2 f3 (f4.up hk') (fun i row c e e1 e2 e3=>kd hk' (f5 i row c e e1 e2 e3)) (fun i row c e e1 e2 e3=>kd hk' (f6 i row c e e1 e2 e3))
   .cases hq
  |_ =>
   simp only[fJ,aJ,aP]at hq;obtain⟨rfl,rfl,rfl⟩:=hq;cases hr with|d hd=>cases hd<;>first|exact .bool _ | exact .int _ _ | exact .str _ | exact .raw _ | exact .nil
end
inductive Mode where
 |shared
 |fresh
def Mode.ok (m:Mode)(X:Nat->Prop)(w w':World)(b:Nat):Prop :=
 match m with
 |.shared=>b<w'.heap.size/\¬X b
 |.fresh=>w.heap.size<=b/\b<w'.heap.size
class Globs where
 glob:World->Prop
 keep:∀w w',glob w->Below w.heap.size w w'->glob w'
def f_ (P : Program)(f : FuncId) : Prop := ∃ fn, P.funcs[f]?=some fn /\ (fn.name == "runtime.NumGoroutine") = false /\ fn.body.isNone = false
def Ret [Globs](P:Program)(m:Mode)(f:FuncId)(pargs:List PV)(r:PV):Prop :=
 f_ P f/\∀(w:World) (X:Nat->Prop) (args:List Value),Globs.glob w->(∀b,X b->b<w.heap.size)->pargs.length=args.length ->
  (∀(i:Nat) (c:PV) (v:Value),pargs[i]?=some c->args[i]?=some v->DRep w (fun b=>b<w.heap.size/\¬X b) c v) ->
  Calls P f args.toArray w (fun e w'=>∃v,e=.returned v/\Below w.heap.size w w'/\DRep w' (m.ok X w w') r v)
def PV.flat:PV->Bool
 |.bool _ | .int _ _ | .str _ | .raw _ | .nil=>true
 |.tup cs=>cs.all fun c=>match c with | .bool _ | .int _ _ | .str _ | .raw _ | .nil=>true | _=>false
 |.agg cs=>cs.all fun c=>match c with | .bool _ | .int _ _ | .str _ | .raw _ | .nil=>true | _=>false
 |_=>false
theorem DRep.of_flat {w w':World}{ok ok':Nat->Prop}{c:PV}{v:Value}(hf:c.flat=true)(h:DRep w ok c v):DRep w' ok' c v:=by
 have leaf:∀ {c:PV} {v:Value},(match c with | .bool _ | .int _ _ | .str _ | .raw _ | .nil=>true | _=>false)=true->DRep w ok c v->DRep w' ok' c v:=by
  intro c v hc h;cases h<;>first|exact .bool _ | exact .int _ _ | exact .str _ | exact .raw _ | exact .nil|(simp at hc)
 cases h with
 |bool=>exact .bool _
 |int=>exact .int _ _
 |str=>exact .str _
 |raw=>exact .raw _
 |nil=>exact .nil
 |agg cs vs hl hd =>
  refine .agg cs vs hl fun i c v e1 e2=>leaf ?_ (hd i c v e1 e2);exact bx.1 hf c (bG e1)
 |tup cs vs hl hd =>
  refine .tup cs vs hl fun i c v e1 e2=>leaf ?_ (hd i c v e1 e2);exact bx.1 hf c (bG e1)
 |sl0=>simp[PV.flat]at hf
 |sl=>simp[PV.flat]at hf
 |dref=>simp[PV.flat]at hf
 |clo=>simp[PV.flat]at hf
 |mapd=>simp[PV.flat]at hf
def PV.frs:PV->PV
 |.sl rows => .fsl rows
 |.tup cs => .tup (cs.map fun c=>match c with | .sl rows => .fsl rows|c=>c)
 |.agg cs => .agg (cs.map fun c=>match c with | .sl rows => .fsl rows|c=>c)
 |c=>c
theorem Rep.frs {E:Env}(hf:∀b,E.okf b->E.ok b){c:PV}{v:Value}(h:DRep E.w E.okf c v):Rep E c.frs v:=by
 have leaf:∀ {c:PV} {v:Value},DRep E.w E.okf c v->Rep E (match c with | .sl rows => .fsl rows|c=>c) v:=by
  intro c v h;split
  .exact .fsl h
  .exact .d (h.weaken hf)
 unfold PV.frs;split
 .exact .fsl h
 .rename_i cs;cases h with
  |tup cs vs hl hd =>
   refine .tup _ vs (by simp[hl]) fun i c v e1 e2=>?_;rw[aV]at e1;cases hc:cs[i]? with
   |none=>rw[hc]at e1;simp at e1
   |some c'=>rw[hc]at e1;simp only[ca,aJ]at e1;subst e1;exact leaf (hd i c' v hc e2)
 .rename_i cs;cases h with
  |agg cs vs hl hd =>
   refine .agg _ vs (by simp[hl]) fun i c v e1 e2=>?_;rw[aV]at e1;cases hc:cs[i]? with
   |none=>rw[hc]at e1;simp at e1
   |some c'=>rw[hc]at e1;simp only[ca,aJ]at e1;subst e1;exact leaf (hd i c' v hc e2)
 .exact .d (h.weaken hf)
theorem Ret.fresh_of_flat [Globs]{P:Program}{f:FuncId}{pargs:List PV}{r:PV}(hf:r.flat=true)(h:Ret P .shared f pargs r):Ret P .fresh f pargs r :=
 ⟨h.1,fun w X args h0 h1 h2 h3=>(h.2 w X args h0 h1 h2 h3).mono fun _ _ ⟨v,e1,e2,e3⟩=>⟨v,e1,e2,e3.of_flat hf⟩⟩
section
variable {P:Program}{L:b9}{C:Ctx}{γ:Nat->Option Nat}{s:St}{a:Act}{w:World}
theorem nh {f:FuncId}(h:f_ P f)(args:Array Value):(callFunc f args).run P w=.ok (.enter f args) w:=by
 obtain⟨fn,h1,h2,h3⟩:=h;simp only[callFunc,Sem.run_bind,run_program,Result.andThen_ok,h1,h2,h3,cF,if_false,Sem.run_pure]
theorem ke {fop:Operand}{args:Array Operand}{tys:Array TypeId}{f:FuncId}{vs:List Value}{o:Oper}(ho:o.op=.call ⟨.value fop,args,tys⟩)(hv:a.eval fop=.func (.func f) #[] vs.toArray)(h:f_ P f) :
  (execOp a.eval o).run P w=.ok (.enter f (args.toList.map a.eval++vs).toArray) w:=by
 simp only[execOp,ho,resolve,hv,Deferred.ofValue,Sem.run_bind,Sem.run_pure,Result.andThen_ok,invoke];rw[nh h];congr 2;obtain⟨l⟩:=args;simp
theorem II {b:Fl}(hX:∀b,C.X b->b<C.B)(h:Sim C γ s a w){m:Mode}{w':World}(_hbel:Below w.heap.size w w')(k:Nat)
  (hk:m.ok (fun k=>k<w.heap.size/\¬eF C γ s w b k) w w' k):(match m with | .shared=>b.cl=true->fu C γ s w' k | .fresh=>(ai C γ s w').okf k):=by
 cases m with
 |shared =>
  intro hb1;obtain⟨h1,h2⟩:=hk;rcases aT k w.heap.size with hlt|hge
  .have:eF C γ s w b k:=by
    by_cases h3:eF C γ s w b k
    .exact h3
    .exact absurd ⟨hlt,h3⟩ h2
   have:=this.2.2.1 hb1;exact⟨h1,this.2⟩
  .refine⟨h1,fun hx=>?_,fun k' c' hc' hg=>?_⟩
   .have:=hX k hx;have:=h.top;omega
   .have:=(h.base k' c' k hc' hg).2;omega
 |fresh =>
  obtain⟨h1,h2⟩:=hk;have htop:=h.top;refine⟨J,h2,fun hx=>?_,fun k' c' hc' hg=>?_⟩
  .have:=hX k hx;omega
  .have:=(h.base k' c' k hc' hg).2;omega
theorem gK {T e:TypeId}{r re:LRow}(hL:iW P L)(hr:L T=some r)(hs:r.sh=.sl e)(hre:L e=some re) :
  P.underlying T=some (.slice (P.elem T))/\P.elem T=e/\(sizeOf (P.elem T)).run P w=.ok re.size w:=by
 have hu:=gZ (hL T r hr) hs;have he:P.elem T=e:=by simp[Program.elem,hu]
 refine⟨by rw[he];exact hu,he,by rw[he];exact ec (hL e re hre) w⟩
theorem z_ {T e:TypeId}{r re:LRow}{base:Addr}{len cap:Nat}{k:IntKind}{n:Int}(hL:iW P L)(hr:L T=some r)(hs:r.sh=.sl e)(hre:L e=some re)(h0:0<=n)(hlt:n<len) :
  (Instr.indexAt T (.slice (some base) len cap) (.int k n)).run P w=.ok (.pointer (some (base.add (n.toNat*re.size)))) w:=by
 obtain⟨h1,h2,h3⟩:=gK (w:=w) hL hr hs hre;rw[run_indexAt_slice w T base len cap k n h1,if_pos ⟨h0,hlt⟩,h3];rfl
theorem n3 {E:Env}{ok:Nat->Prop}{rows:List (List PV)}{v:Value}(h:DRep E.w ok (.sl rows) v) :
  (rows=[]/\∃ad cap,v=.slice ad 0 cap)\/∃(b off cap sz:Nat) (vals:Nat->Nat->Value),v=.slice (some ⟨b,off,none⟩) rows.length cap/\ok b/\0<sz/\rows.length<=cap/\(∀(row:List PV),row∈rows->row.length=sz) /\
   (∀(i j:Nat) (row:List PV) (c:PV),rows[i]?=some row->row[j]?=some c->E.w.cell? ⟨b,off+i*sz+j,none⟩=some (vals i j)/\(vals i j).oneCell'=true) /\
   (∀(i j:Nat) (row:List PV) (c:PV),rows[i]?=some row->row[j]?=some c->DRep E.w ok c (vals i j)):=by
 cases h with
 |sl0 ad cap=>exact .inl ⟨rfl,ad,cap,rfl⟩
 |sl rows b off cap sz vals h1 h2 h3 h4 h5 h6=>exact .inr ⟨b,off,cap,sz,vals,rfl,h1,h2,h3,h4,h5,h6⟩
end
variable [Globs]
def ID (w w':World)(T:TypeId)(sz:Nat)(rows:List (List PV))(v:Value):Prop :=
 (rows=[]/\v=.slice none 0 0) \/
 ∃(b cap:Nat) (cur:Array Value),w.heap.size<=b/\v=.slice (some ⟨b,0,none⟩) rows.length cap/\w'.heap[b]?=some (.cells cur T (0,0))/\rows.length<=cap/\cap<=maxLen/\cur.size=cap*sz/\0<sz/\rows.length*sz<=cur.size/\(∀row∈rows,row.length=sz) /\
  ∀(i j:Nat) (row:List PV) (c:PV),rows[i]?=some row->row[j]?=some c->∃u,cur[i*sz+j]?=some u/\u.oneCell'=true/\∀(w:World) (ok:Nat->Prop),DRep w ok c u
def RetO (P:Program)(f:FuncId)(pargs:List PV)(T:TypeId)(sz:Nat)(rows:List (List PV)):Prop :=
 f_ P f/\∀(w:World) (X:Nat->Prop) (args:List Value),Globs.glob w->(∀b,X b->b<w.heap.size)->pargs.length=args.length ->
  (∀(i:Nat) (c:PV) (v:Value),pargs[i]?=some c->args[i]?=some v->DRep w (fun b=>b<w.heap.size/\¬X b) c v) ->
  Calls P f args.toArray w (fun e w'=>∃v,e=.returned v/\Below w.heap.size w w'/\ID w w' T sz rows v)
end Go.Pv
namespace Go.Pv
open Go.RowKit
def St.fin (s:St)(k:Nat)(c:Cont):St:=s.setOwn k ((s.own k).1+1) (some c)
def iV (γ:Nat->Option Nat)(k:Nat)(b:Option Nat):Nat->Option Nat:=fun r=>bif Nat.beq r k then b else γ r
theorem bZ (γ:Nat->Option Nat)(k:Nat)(b:Option Nat):iV γ k b k=b:=by simp[iV]
theorem gw {γ:Nat->Option Nat}{k r:Nat}{b:Option Nat}(h:r≠k):iV γ k b r=γ r:=by simp[iV,bR h]
theorem ah (s:St)(k g:Nat)(c:Option Cont):(s.setOwn k g c).own k=(g,c):=by simp[St.setOwn]
theorem ar {s:St}{k r g:Nat}{c:Option Cont}(h:r≠k):(s.setOwn k g c).own r=s.own r:=by simp[St.setOwn,bR h]
section
variable {P:Program}{L:b9}{C:Ctx}{γ:Nat->Option Nat}{s:St}{a:Act}{w w':World}
structure Turn (C:Ctx) (γ:Nat->Option Nat) (s:St) (w w':World) (k:Nat) (blk:Option Nat):Prop where
 os:w'.os=w.os
 tape:w'.tape=w.tape
 output:w'.output=w.output
 size:w.heap.size<=w'.heap.size
 blocks:∀b,b<w.heap.size->w'.heap[b]? = w.heap[b]? \/ ((s.own k).2.isSome=true/\γ k=some b)
 at_:∀b,blk=some b->b<w'.heap.size/\(w.heap.size<=b\/((s.own k).2.isSome=true/\γ k=some b))
theorem Turn.kept (h:Sim C γ s a w){k:Nat}{blk:Option Nat}(ht:Turn C γ s w w' k blk){b:Nat}(hb:b<w.heap.size)(hne:∀c,(s.own k).2=some c->γ k≠some b):w'.heap[b]? = w.heap[b]? := by
 have:=h.top;rcases ht.blocks b hb with h1|⟨h1,h2⟩
 .exact h1
 .obtain⟨c,hc⟩:=lS.1 h1;exact absurd h2 (hne c hc)
theorem Turn.le (h:Sim C γ s a w){k:Nat}{blk:Option Nat}(ht:Turn C γ s w w' k blk)(c:Cont):(ai C γ s w).Le (ai C (iV γ k blk) (s.fin k c) w'):=by
 have hok:∀b,fu C γ s w b->fu C (iV γ k blk) (s.fin k c) w' b:=by
  rintro b ⟨h1,h2,h3⟩;refine⟨eH h1 ht.size,h2,fun k' c' hc'=>?_⟩;by_cases hk:k'=k
  .subst hk;rw[bZ];intro hb;rcases(ht.at_ b hb).2 with h4|⟨h4,h5⟩
   .omega
   .obtain⟨c'',hc''⟩:=lS.1 h4;exact h3 k' c'' hc'' h5
  .rw[gw hk];rw[St.fin,ar hk]at hc';exact h3 k' c' hc'
 refine⟨hok,fun b hb=>⟨hb.1,hok b hb.2⟩,fun b hb=>hb.2,fun b hb=>?_,fun k'=>?_,fun k' l' hg hl=>?_,fun k' l' b cur hg hl hb hh=>?_⟩
 .exact ht.kept h hb.1 (fun c hc=>hb.2.2 k c hc)
 .show(s.own k').1<=((s.fin k c).own k').1;by_cases hk:k'=k
  .subst hk;rw[St.fin,ah];simp
  .rw[St.fin,ar hk];exact aH
 .have hk:k'≠k:=by
   intro hk;subst hk;have:((s.fin k' c).own k').1=(s.own k').1:=hg;rw[St.fin,ah]at this;simp at this
  refine⟨l',?_,O,O,O,aH⟩;simp only[ai,St.fin,ar hk,gw hk]at hl ⊢;exact hl
 .have hk:k'≠k:=by
   intro hk;subst hk;have:((s.fin k' c).own k').1=(s.own k').1:=hg;rw[St.fin,ah]at this;simp at this
  refine⟨cur,?_,O⟩;simp only[ai,St.fin,ar hk,gw hk,jk]at hl;obtain⟨c',hc',rfl⟩:=hl;simp only at hb;have:w'.heap[b]? = w.heap[b]? := ht.kept h (h.base k' c' b hc' hb).2 (fun c'' hc'' hg'=>hk (h.inj k' k c' c'' b hc' hc'' hb hg'));show w'.heap[b]? = _;rw[this];exact hh
theorem Turn.sim (h:Sim C γ s a w){k:Nat}{blk:Option Nat}(ht:Turn C γ s w w' k blk){c:Cont}
  (hs:SiteOk (ai C (iV γ k blk) (s.fin k c) w') blk c):Sim C (iV γ k blk) (s.fin k c) a w':=by
 have hle:=ht.le h c;have htop:=h.top;refine⟨h.defers,h.size,fun r=>(h.regs r).mono hle,fun k' c' hc'=>?_,fun k1 k2 c1 c2 b e1 e2 e3 e4=>?_,fun k' c' b e1 e2=>?_,?_,bz h.top ht.size,fun c v hk=>(h.kept c v hk).mono hle⟩
 .by_cases hk:k'=k
  .subst hk;rw[St.fin,ah]at hc';simp at hc';subst hc';rw[bZ];exact hs
  .rw[gw hk];rw[St.fin,ar hk]at hc';exact(h.sites k' c' hc').mono hle fun b hb=>ht.kept h (h.base k' c' b hc' hb).2 (fun c'' hc'' hg'=>hk (h.inj k' k c' c'' b hc' hc'' hb hg'))
 .have key:∀k1 k2 c1,k1=k->k2≠k->(s.own k2).2=some c1->γ k2=some b->blk=some b->False:=by
   intro k1 k2 c1 _ hk2 f1 f2 f3;rcases(ht.at_ b f3).2 with f4|⟨f4,f5⟩
   .have:=(h.base k2 c1 b f1 f2).2;omega
   .obtain⟨c'',hc''⟩:=lS.1 f4;exact hk2 (h.inj k2 k c1 c'' b f1 hc'' f2 f5)
  by_cases hk1:k1=k
  .by_cases hk2:k2=k
   .omega
   .subst hk1;rw[bZ]at e3;rw[gw hk2]at e4;rw[St.fin,ar hk2]at e2;exact(key k1 k2 c2 O hk2 e2 e4 e3).elim
  .by_cases hk2:k2=k
   .subst hk2;rw[bZ]at e4;rw[gw hk1]at e3;rw[St.fin,ar hk1]at e1;exact(key k2 k1 c1 O hk1 e1 e3 e4).elim
   .rw[gw hk1]at e3;rw[gw hk2]at e4;rw[St.fin,ar hk1]at e1;rw[St.fin,ar hk2]at e2;exact h.inj k1 k2 c1 c2 b e1 e2 e3 e4
 .by_cases hk:k'=k
  .subst hk;rw[bZ]at e2;refine⟨?_,(ht.at_ b e2).1⟩;rcases(ht.at_ b e2).2 with f|⟨f1,f2⟩
   .omega
   .obtain⟨c'',hc''⟩:=lS.1 f1;exact(h.base k' c'' b hc'' f2).1
  .rw[gw hk]at e2;rw[St.fin,ar hk]at e1;exact⟨(h.base k' c' b e1 e2).1,eH (h.base k' c' b e1 e2).2 ht.size⟩
 .refine h.below.trans ⟨ht.os,ht.tape,ht.output,ht.size,fun b hb=>?_⟩;exact ht.kept h J (fun c'' hc'' hg'=>by have:=(h.base k c'' b hc'' hg').1;omega)
theorem Turn.alloc (o:Obj)(k:Nat):Turn C γ s w (w.alloc o) k (some w.heap.size) :=
 ⟨O,O,O,aj,fun b hb => .inl (Below.heap_alloc w o b hb),fun b hb=>by simp at hb;subst hb;exact⟨aj,.inl (aH)⟩⟩
theorem bi (w:World)(o:Obj):(w.alloc o).heap[w.heap.size]?=some o:=by
 show(w.heap.push o)[w.heap.size]? = _;simp
theorem SiteOk.row {E:Env}{b:Nat}{T:TypeId}{cs:List PV}{vs:List Value}(hb:E.w.heap[b]?=some (.cells vs.toArray T (0,0)))(hl:cs.length=vs.length)(h0:0<cs.length)
  (h1:∀v∈vs,v.oneCell'=true) (hd:∀(i:Nat) (c:PV) (v:Value),cs[i]?=some c->vs[i]?=some v->Rep E c v):SiteOk E (some b) ⟨T,cs.length,[cs],2⟩ where
 emp h:=by cases h
 mp b' _ hz:=by simp only at hz;omega
 it b' _ hz:=by simp only at hz;omega
 at_ b' hb' _:=by
  simp at hb';subst hb';refine⟨_,hb,h0,by simp[hl],fun row hr=>by simp at hr;subst hr;rfl,fun i j row pv e1 e2=>?_⟩;cases i with
  |succ i=>simp at e1
  |zero =>
   simp at e1;subst e1;have hj:j<vs.length:=by rw[<-hl];exact(bD e2).1
   exact⟨vs[j],by simp[hj],h1 _ aj,hd j pv vs[j] e2 (aQ hj)⟩
end
def dR (s:St):List PV->Option Prop
 |[]=>some True
 |c::cs=>match mW s c with
  |some A=>(match dR s cs with|some B=>some (A/\B)|none=>none)
  |none=>none
def PV.cells:PV->List PV
 |.agg cs=>cs
 |c=>[c]
section
variable {P:Program}{L:b9}{C:Ctx}{γ:Nat->Option Nat}{s:St}{a:Act}{w w':World}
theorem nS {E:Env}(hlive:∀k g c,s.own k=(g,some c)->E.gen k=g/\E.loc k=some ⟨γ k,c.ty,c.sz,c.rows.length⟩):∀ {cs:List PV} {vs:List Value} {Pr:Prop},dR s cs=some Pr->Pr->cs.length=vs.length ->
  (∀(i:Nat) (c:PV) (v:Value),cs[i]?=some c->vs[i]?=some v->Rep E c v)->∀v∈vs,v.oneCell'=true
 |[],[],_,_,_,_,_=>fun v hv=>by cases hv
 |c::cs,u::vs,Pr,h,hp,hl,hd=>by
  simp only[dR]at h;split at h
  .rename_i A hA;split at h
   .rename_i B hB;have h':=bk h;subst h';intro v hv;rcases cw.1 hv with rfl|hv
    .exact sb hlive hA hp.1 (hd 0 c v O O)
    .exact nS hlive hB hp.2 (by simpa using hl) (fun i c v e1 e2=>hd (i+1) c v (by simpa using e1) (by simpa using e2)) v hv
   .cases h
  .cases h
 |[],_::_,_,_,_,hl,_=>by simp at hl
 |_::_,[],_,_,_,hl,_=>by simp at hl
theorem lF {E:Env}(hlive:∀k g c,s.own k=(g,some c)->E.gen k=g/\E.loc k=some ⟨γ k,c.ty,c.sz,c.rows.length⟩){x:PV}{v:Value}(hr:Rep E x v){Pr:Prop}(h1:dR s x.cells=some Pr)(h2:Pr) :
  ∃vs:List Value,v.cells=vs.toArray/\x.cells.length=vs.length/\(∀(i:Nat) (c:PV) (u:Value),x.cells[i]?=some c->vs[i]?=some u->Rep E c u)/\∀u∈vs,u.oneCell'=true:=by
 by_cases hx:∃cs,x=.agg cs
 .obtain⟨cs,rfl⟩:=hx;obtain⟨vs,rfl,hl,hd⟩:=hr.agg_inv;exact⟨vs,O,hl,hd,nS hlive h1 h2 hl hd⟩
 .have hc:x.cells=[x]:=by
   unfold PV.cells;split
   .rename_i cs;exact absurd ⟨cs,O⟩ hx
   .rfl
  rw[hc]at h1 ⊢;have hd:∀(i:Nat) (c:PV) (u:Value),[x][i]?=some c->[v][i]?=some u->Rep E c u:=fun i c u e1 e2=>by
   cases i with
   |zero=>simp at e1 e2;subst e1;subst e2;exact hr
   |succ i=>simp at e1
  have hone:=nS hlive h1 h2 (vs:=[v]) O hd;exact⟨[v],iX (hone v aj),O,hd,hone⟩
theorem Sim.live (_h:Sim C γ s a w):∀k g c,s.own k=(g,some c)->(ai C γ s w).gen k=g/\(ai C γ s w).loc k=some ⟨γ k,c.ty,c.sz,c.rows.length⟩:=fun _ _ _ ho=>vq ho
theorem yr {T:TypeId}{x:PV}{v:Value}{k:Nat}{Pr:Prop}(h:Sim C γ s a w)(hr:Rep (ai C γ s w) x v)(h1:dR s x.cells=some Pr)(h2:Pr)(h0:0<x.cells.length) :
  ∃w',(Go.newVar T v).run P w=.ok ⟨w.heap.size,0,none⟩ w'/\Sim C (iV γ k (some w.heap.size)) (s.fin k ⟨T,x.cells.length,[x.cells],2⟩) a w' /\
   Rep (ai C (iV γ k (some w.heap.size)) (s.fin k ⟨T,x.cells.length,[x.cells],2⟩) w') (.ptr k ((s.own k).1+1) 0 0) (.pointer (some ⟨w.heap.size,0,none⟩)):=by
 obtain⟨vs,e1,e2,e3,e4⟩:=lF h.live hr h1 h2;refine⟨w.alloc (.cells vs.toArray T),?_,?_,?_⟩
 .simp[Go.newVar,newRow,e1]
 .have ht:Turn C γ s w (w.alloc (.cells vs.toArray T)) k (some w.heap.size):=Turn.alloc _ k;have hle:=ht.le h ⟨T,x.cells.length,[x.cells],2⟩;exact ht.sim h (SiteOk.row (bi _ _) e2 h0 e4 fun i c u f1 f2=>(e3 i c u f1 f2).mono hle)
 .refine .ptr ?_ fun _ l hl=>?_
  .show _<=((s.fin k _).own k).1;rw[St.fin,ah];exact aH
  .simp only[ai,St.fin,ah,bZ,ca,aJ]at hl;subst hl;exact⟨w.heap.size,O,aj,aj,by simpa using h0⟩
end
def PV.flat1:PV->Bool
 |.bool _ | .int _ _ | .str _ | .raw _ | .nil=>true
 |_=>false
def oS:Nat->PV->Bool
 |0,.fsl _=>true
 |0,.clo _ []=>true
 |1,.clo _ []=>true
 |0,.agg cs=>cs.all PV.flat1
 |1,.agg cs=>cs.all PV.flat1
 |0,c=>c.flat1
 |1,.fsl _ | 1,.sl _ | 1,.dref _ _ | 1,.mapd _=>true
 |1,c=>c.flat1
 |_,_=>true
def gv (k:Nat)(c:PV):PV :=
 match k,c with
 |0,.fsl rows => .sl rows
 |1,.fsl rows => .sl rows
 |_,c=>c
theorem yL {E:Env}{w:World}{ok:Nat->Prop}{f:FuncId}{v:Value}(h:Rep E (.clo f []) v):DRep w ok (.clo f []) v:=by
 obtain⟨vs,rfl,hl,_⟩:=h.clo_inv;have:vs=[]:=dO (by simpa using hl.symm);subst this;exact .clo f [] [] O (fun i c v e=>by simp at e)
theorem uR {E:Env}{cs:List PV}{v:Value}(h:cs.all PV.flat1=true)(hr:Rep E (.agg cs) v)(w:World)(ok:Nat->Prop):DRep w ok (.agg cs) v:=by
 obtain⟨vs,rfl,hl,hd⟩:=hr.agg_inv;refine .agg cs vs hl fun i c u e1 e2=>?_;have hf:=bx.1 h c (bG e1);have hc:=hd i c u e1 e2;cases c<;>simp only[PV.flat1,cF]at hf<;>(cases hc with|d hd=>exact DRep.of_flat O hd)
theorem mD {E:Env}(hf:∀b,E.okf b->E.ok b){k:Nat}{c:PV}{v:Value}(h:oS k c=true)(hr:Rep E c v):KRep E k (gv k c) v:=by
 match k with
 |0 =>
  cases c with
  |fsl rows=>cases hr with
   |d hd=>cases hd
   |fsl hd=>exact hd
  |clo f cs =>
   cases cs with
   |nil=>exact yL hr
   |cons c cs=>simp[oS,PV.flat1]at h
  |agg cs=>exact uR h hr _ _
  |_=>first
   |(cases hr with|d hd=>exact DRep.of_flat rfl hd)
   |(simp[oS,PV.flat1]at h)
 |1 =>
  cases c with
  |fsl rows=>cases hr with
   |d hd=>cases hd
   |fsl hd=>exact hd.weaken hf
  |clo f cs =>
   cases cs with
   |nil=>exact yL hr
   |cons c cs=>simp[oS,PV.flat1]at h
  |agg cs=>exact uR h hr _ _
  |_=>first
   |(cases hr with|d hd=>exact hd)
   |(simp[oS,PV.flat1]at h)
 |_+2=>exact hr
theorem KRep.up {E:Env}(hf:∀b,E.okf b->E.ok b){k k':Nat}(h:k<=k'){c:PV}{v:Value}(hr:KRep E k c v):KRep E k' c v:=by
 match k',k,h with
 |0,0,_=>exact hr
 |1,0,_=>exact DRep.weaken hf hr
 |1,1,_=>exact hr
 |_+2,0,_=>exact .d (DRep.weaken hf hr)
 |_+2,1,_=>exact .d hr
 |_+2,_+2,_=>exact hr
structure FlatRep (E:Env) (k sz:Nat) (rows:List (List PV)) (vals:List Value):Prop where
 len:vals.length=rows.length*sz
 row_:∀row∈rows,row.length=sz
 at_:∀(i j:Nat) (row:List PV) (pv:PV),rows[i]?=some row->row[j]?=some pv->∃v,vals[i*sz+j]?=some v/\v.oneCell'=true/\KRep E k pv v
theorem FlatRep.nil (E:Env)(k sz:Nat):FlatRep E k sz [] []:=⟨aj,aj,fun i j row pv h=>by simp at h⟩
theorem FlatRep.append {E:Env}{k sz:Nat}{r1 r2:List (List PV)}{v1 v2:List Value}(h1:FlatRep E k sz r1 v1)(h2:FlatRep E k sz r2 v2):FlatRep E k sz (r1++r2) (v1++v2):=by
 refine⟨by simp[h1.len,h2.len,be],fun row hr=>?_,fun i j row pv e1 e2=>?_⟩
 .rcases fe.1 hr with h|h
  .exact h1.row_ row h
  .exact h2.row_ row h
 .rw[gl]at e1;split at e1
  .rename_i hlt;obtain⟨v,f1,f2,f3⟩:=h1.at_ i j row pv e1 e2;exact⟨v,by rw[fG (bD f1).1];exact f1,f2,f3⟩
  .rename_i hlt;obtain⟨v,f1,f2,f3⟩:=h2.at_ _ j row pv e1 e2;refine⟨v,?_,f2,f3⟩;have hge:r1.length*sz<=i*sz:=cm _ J;rw[dj (by rw[h1.len];omega),h1.len];rw[Nat.sub_mul]at f1;rwa [show i*sz+j-r1.length*sz=i*sz-r1.length*sz+j by omega]
theorem FlatRep.mono {E E':Env}(h:E.Le E'){k sz:Nat}{rows:List (List PV)}{vals:List Value}(hr:FlatRep E k sz rows vals):FlatRep E' k sz rows vals :=
 ⟨hr.len,hr.row_,fun i j row pv e1 e2=>let ⟨v,f1,f2,f3⟩:=hr.at_ i j row pv e1 e2;⟨v,f1,f2,f3.mono h⟩⟩
theorem FlatRep.up {E:Env}(hf:∀b,E.okf b->E.ok b){k k' sz:Nat}(h:k<=k'){rows:List (List PV)}{vals:List Value}(hr:FlatRep E k sz rows vals):FlatRep E k' sz rows vals :=
 ⟨hr.len,hr.row_,fun i j row pv e1 e2=>let ⟨v,f1,f2,f3⟩:=hr.at_ i j row pv e1 e2;⟨v,f1,f2,f3.up hf h⟩⟩
theorem SiteOk.of_flat {E:Env}{b:Nat}{T:TypeId}{k sz:Nat}{rows:List (List PV)}{vals:List Value}{cur:Array Value}(hf:FlatRep E k sz rows vals)(hsz:0<sz)(hb:E.w.heap[b]?=some (.cells cur T (0,0)))
  (hle:rows.length*sz<=cur.size) (ht:cur.toList.take (rows.length*sz)=vals):SiteOk E (some b) ⟨T,sz,rows,k⟩ where
 emp h:=by cases h
 mp b' _ hz:=by simp only at hz;omega
 it b' _ hz:=by simp only at hz;omega
 at_ b' hb' _:=by
  simp at hb';subst hb';refine⟨cur,hb,hsz,hle,hf.row_,fun i j row pv e1 e2=>?_⟩;obtain⟨v,f1,f2,f3⟩:=hf.at_ i j row pv e1 e2;refine⟨v,?_,f2,f3⟩;rw[<-ht,bE]at f1;split at f1
  .simpa using f1
  .cases f1
theorem SiteOk.flat {E:Env}{b:Nat}{c:Cont}(h:SiteOk E (some b) c)(hz:0<c.sz):∃cur,E.w.heap[b]?=some (.cells cur c.ty (0,0))/\0<c.sz/\c.rows.length*c.sz<=cur.size /\
  FlatRep E c.kind c.sz c.rows (cur.toList.take (c.rows.length*c.sz)):=by
 obtain⟨cur,h1,h2,h3,h4,h5⟩:=h.at_ b O hz;refine⟨cur,h1,h2,h3,⟨by simp;omega,h4,fun i j row pv e1 e2=>?_⟩⟩;obtain⟨v,f1,f2,f3⟩:=h5 i j row pv e1 e2;refine⟨v,?_,f2,f3⟩;have hi:i<c.rows.length:=(bD e1).1;have hj:j<c.sz:=by rw[<-h4 row (bG e1)];exact(bD e2).1
 have:(i+1)*c.sz<=c.rows.length*c.sz:=cm _ hi;rw[be,dH]at this;rw[bE,if_pos J];simpa using f1
def ma (row:List PV)(j:Nat)(cs:List PV):List PV:=row.take j++cs++row.drop (j+cs.length)
section
variable {P:Program}{L:b9}{C:Ctx}{γ:Nat->Option Nat}{s:St}{a:Act}{w w':World}
theorem wZ (_h:Sim C γ s a w){k g b:Nat}{c c':Cont}{cur cur':Array Value}(ho:s.own k=(g,some c))(hb:γ k=some b)(hh:w.heap[b]?=some (.cells cur c.ty (0,0)))(hsz:cur'.size=cur.size)
  (h1:c'.ty=c.ty) (h2:c'.sz=c.sz) (h3:c.rows.length<=c'.rows.length):(ai C γ s w).Le (ai C γ (s.setOwn k g (some c')) (w.setRow b cur')):=by
 have hown:∀k' c'',((s.setOwn k g (some c')).own k').2=some c''->∃c3,(s.own k').2=some c3:=by
  intro k' c'' hc;by_cases hk:k'=k
  .subst hk;exact⟨c,by rw[ho]⟩
  .rw[ar hk]at hc;exact⟨c'',hc⟩
 have hok:∀b',fu C γ s w b'->fu C γ (s.setOwn k g (some c')) (w.setRow b cur') b':=by
  rintro b' ⟨f1,f2,f3⟩;exact⟨by simpa using f1,f2,fun k' c'' hc=>let ⟨c3,hc3⟩:=hown k' c'' hc;f3 k' c3 hc3⟩
 refine⟨hok,fun b' hb'=>⟨hb'.1,hok b' hb'.2⟩,fun b' hb'=>hb'.2,fun b' hb'=>?_,fun k'=>?_,fun k' l' _ hl=>?_,fun k' l' b' cur'' _ hl hb' hh'=>?_⟩
 .have hne:b'≠b:=fun e=>hb'.2.2 k c (by rw[ho]) (by rw[e];exact hb);exact setRow_other w b b' cur' hne
 .show(s.own k').1<=((s.setOwn k g (some c')).own k').1;by_cases hk:k'=k
  .subst hk;rw[ah,ho];exact aH
  .rw[ar hk];exact aH
 .by_cases hk:k'=k
  .subst hk;simp only[ai,ah,ca,aJ]at hl;subst hl;exact⟨⟨γ k',c.ty,c.sz,c.rows.length⟩,by simp[ai,ho],O,h1,h2,h3⟩
  .simp only[ai,ar hk]at hl;exact⟨l',hl,O,O,O,aH⟩
 .show ∃cur1,(w.setRow b cur').heap[b']? = _/\_;have hl':∃c3,(s.own k').2=some c3/\γ k'=some b':=by
   by_cases hk:k'=k
   .subst hk;simp only[ai,ah,ca,aJ]at hl;subst hl;exact⟨c,by rw[ho],hb'⟩
   .simp only[ai,ar hk,jk]at hl;obtain⟨c3,hc3,rfl⟩:=hl;exact⟨c3,hc3,hb'⟩
  have hh'':w.heap[b']?=some (.cells cur'' l'.ty (0,0)):=hh';by_cases hbb:b'=b
  .subst hbb;rw[hh]at hh'';simp only[aJ,Obj.cells.injEq,and_true]at hh'';obtain⟨rfl,hty⟩:=hh'';exact⟨cur',by rw[setRow_heap w b' cur cur' c.ty (0,0) hh,hty],hsz⟩
  .exact⟨cur'',by rw[setRow_other w b b' cur' hbb];exact hh'',O⟩
theorem sE (h:Sim C γ s a w){k g b:Nat}{c c':Cont}{cur cur':Array Value}(ho:s.own k=(g,some c))(hb:γ k=some b)(hh:w.heap[b]?=some (.cells cur c.ty (0,0)))(hsz:cur'.size=cur.size)
  (h1:c'.ty=c.ty) (h2:c'.sz=c.sz) (h3:c.rows.length<=c'.rows.length) (hs:SiteOk (ai C γ (s.setOwn k g (some c')) (w.setRow b cur')) (some b) c'):Sim C γ (s.setOwn k g (some c')) a (w.setRow b cur'):=by
 have hle:=wZ h ho hb hh hsz h1 h2 h3;have hown:∀k' c'',((s.setOwn k g (some c')).own k').2=some c''->∃c3,(s.own k').2=some c3:=by
  intro k' c'' hc;by_cases hk:k'=k
  .subst hk;exact⟨c,by rw[ho]⟩
  .rw[ar hk]at hc;exact⟨c'',hc⟩
 refine⟨h.defers,h.size,fun r=>(h.regs r).mono hle,fun k' c'' hc=>?_,fun k1 k2 c1 c2 b' e1 e2 e3 e4=>?_,fun k' c'' b' e1 e2=>?_,?_,by simpa using h.top,fun c v hk=>(h.kept c v hk).mono hle⟩
 .by_cases hk:k'=k
  .subst hk;rw[ah]at hc;simp at hc;subst hc;rw[hb];exact hs
  .rw[ar hk]at hc;refine(h.sites k' c'' hc).mono hle fun b' hb'=>setRow_other w b b' cur' fun e=>?_;subst e;exact hk (h.inj k' k c'' c b' hc (by rw[ho]) hb' hb)
 .obtain⟨d1,f1⟩:=hown k1 c1 e1;obtain⟨d2,f2⟩:=hown k2 c2 e2;exact h.inj k1 k2 d1 d2 b' f1 f2 e3 e4
 .obtain⟨d1,f1⟩:=hown k' c'' e1;simpa using h.base k' d1 b' f1 e2
 .refine h.below.trans ⟨O,O,O,aj,fun b' hb'=>setRow_other w b b' cur' fun e=>?_⟩;have:=(h.base k c b (by rw[ho]) hb).1;omega
theorem BD {T:TypeId}{r:LRow}{x y:Operand}{k g i j:Nat}{c:Cont}{row:List PV}{kd:Nat}{Pr:Prop}(hL:iW P L)(h:Sim C γ s a w)(hr:L T=some r)(hx:s.ev x=.ptr k g i j)(ho:s.own k=(g,some c))
  (hrow:c.rows[i]?=some row) (h1:dR s (s.ev y).cells=some Pr) (h2:Pr) (hsz:(s.ev y).cells.length=r.size) (hle:j+r.size<=row.length) (hk:c.kind<=kd) (hkd:(s.ev y).cells.all (oS kd)=true) :
  ∃w',(Instr.storeAt T (a.eval x) (a.eval y)).run P w=.ok () w' /\
   Sim C γ (s.setOwn k g (some { c with rows:=c.rows.set i (ma row j ((s.ev y).cells.map (gv kd))),kind:=kd })) a w':=by
 obtain⟨vs,e1,e2,e3,e4⟩:=lF h.live (h.ev y) h1 h2;have hxr:=h.ev x;rw[hx]at hxr;obtain⟨b,hb,hv,hi,hj⟩:=h.ptr_at hxr ho;have hsite:=h.sites k c (by rw[ho]);rw[hb]at hsite;obtain⟨cur,hh,hsz',hle',hflat⟩:=hsite.flat J;have hh:w.heap[b]?=some (.cells cur c.ty (0,0)):=hh;have hrl:row.length=c.sz:=hflat.row_ row (bG hrow);have hmul:(i+1)*c.sz<=c.rows.length*c.sz:=cm _ hi;rw[be,dH]at hmul;have hfit:i*c.sz+j+0+vs.length<=cur.size:=by rw[<-e2,hsz];omega
 have hst:=run_storeCells_at P b (i*c.sz+j) c.ty vs 0 cur w hh hfit e4;refine⟨w.setRow b (cur.toList.take (i*c.sz+j+0)++vs++cur.toList.drop (i*c.sz+j+0+vs.length)).toArray,?_,?_⟩
 .rw[hv];simp only[Instr.storeAt,Instr.sureAddr,storeVar,Sem.run_bind,Sem.run_pure,Result.andThen_ok,ec (hL T r hr),Sem.run_ite];have hcs:(a.eval y).cells.size=r.size:=by rw[e1,<-hsz,e2];simp
  rw[if_neg (by simp[hcs])];rw[e1];exact hst
 .have hsize:(cur.toList.take (i*c.sz+j+0)++vs++cur.toList.drop (i*c.sz+j+0+vs.length)).toArray.size=cur.size:=by
   simp only[kB,bT,bI,fR,jm];omega
  refine sE h ho hb hh hsize O O aj ?_;have hlE:=wZ (c':={ c with rows:=c.rows.set i (ma row j ((s.ev y).cells.map (gv kd))),kind:=kd }) h ho hb hh hsize O O aj;refine⟨(fun e=>by cases e),(fun b' _ hz=>by simp only at hz;omega),(fun b' _ hz=>by simp only at hz;omega),fun b' hb' _=>?_⟩;simp at hb';subst hb';have hspl:(ma row j ((s.ev y).cells.map (gv kd))).length=c.sz:=by simp[ma];omega
  refine⟨_,setRow_heap w b cur _ c.ty (0,0) hh,hsz',?_,fun row' hr'=>?_,fun i' j' row' pv f1 f2=>?_⟩
  .rw[hsize];simpa using hle'
  .rcases mG hr' with h'|h'
   .exact hflat.row_ row' h'
   .rw[h'];exact hspl
  .simp only[fB];have hi':i'<c.rows.length:=by have:=(bD f1).1;simpa using this
   by_cases hii:i'=i
   .subst hii;rw[dl hi]at f1;simp at f1;subst f1;have hjl:j'<c.sz:=by rw[<-hspl];exact(bD f2).1
    unfold ma at f2;rw[bt,gl]at f2;have hlt:(row.take j).length=j:=by simp;omega
    rw[hlt]at f2;by_cases hjj:j'<j
    .rw[if_pos hjj,bE,if_pos hjj]at f2;obtain⟨v,g1,g2,g3⟩:=hflat.at_ i' j' row pv hrow f2;rw[bE,if_pos J]at g1;refine⟨v,?_,g2,(g3.up aI hk).mono hlE⟩;rw[mJ,bt,fG aX,bE,if_pos J];exact g1
    .rw[if_neg hjj,gl]at f2;simp only[aM]at f2;by_cases hjm:j'-j<(s.ev y).cells.length
     .rw[if_pos hjm,aV]at f2;cases hq:(s.ev y).cells[j'-j]? with
      |none=>rw[hq]at f2;simp at f2
      |some q =>
       rw[hq]at f2;simp at f2;subst f2;have hlt2:j'-j<vs.length:=by rw[<-e2];exact hjm
       have hkq:oS kd q=true:=bx.1 hkd q (bG hq);refine⟨vs[j'-j],?_,e4 _ aj,(mD aI hkq (e3 _ q _ hq (aQ hlt2))).mono hlE⟩;rw[mJ,bt,dj aX,fG aX];rw[show i'*c.sz+j'-(cur.toList.take (i'*c.sz+j)).length=j'-j by simp;omega];simp[hlt2]
     .rw[if_neg hjm,cq]at f2;try simp only[aM]at f2
      rw[show j+(s.ev y).cells.length+(j'-j-(s.ev y).cells.length)=j' by omega]at f2;obtain⟨v,g1,g2,g3⟩:=hflat.at_ i' j' row pv hrow f2;rw[bE,if_pos J]at g1;refine⟨v,?_,g2,(g3.up aI hk).mono hlE⟩;rw[mJ,bt,dj aX,dj aX,cq];simp only[bI,jm];rw[show i'*c.sz+j+vs.length+(i'*c.sz+j'-min (i'*c.sz+j) cur.size-vs.length)=i'*c.sz+j' by omega];exact g1
   .rw[cV (Ne.symm hii)]at f1;obtain⟨v,g1,g2,g3⟩:=hflat.at_ i' j' row' pv f1 f2;have hjl:j'<c.sz:=by rw[<-hflat.row_ row' (bG f1)];exact(bD f2).1
    have hmul':(i'+1)*c.sz<=c.rows.length*c.sz:=cm _ hi';rw[be,dH]at hmul';rw[bE,if_pos J]at g1;refine⟨v,?_,g2,(g3.up aI hk).mono hlE⟩;rcases tA hii with hlt|hgt
    .have:(i'+1)*c.sz<=i*c.sz:=cm _ hlt;rw[be,dH]at this;rw[mJ,bt,fG aX,bE,if_pos J];exact g1
    .have:(i+1)*c.sz<=i'*c.sz:=cm _ hgt;rw[be,dH]at this;rw[mJ,bt,dj aX,dj aX,cq];simp only[bI,jm];rw[show i*c.sz+j+vs.length+(i'*c.sz+j'-min (i*c.sz+j) cur.size-vs.length)=i'*c.sz+j' by omega];exact g1
end
def Whole (w:World)(e:TypeId)(sz:Nat)(blk:Option Nat)(v:Value)(n:Nat)(vals:List Value):Prop :=
 vals.length=n*sz /\
 ((blk=none/\v=.slice none 0 0/\n=0) \/
  ∃b cap cur,blk=some b/\v=.slice (some ⟨b,0,none⟩) n cap/\w.heap[b]?=some (.cells cur e (0,0))/\n<=cap/\cap<=maxLen/\cur.size=cap*sz/\cur.toList.take (n*sz)=vals)
def Ju (w:World)(sz:Nat)(x:Value)(m:Nat)(news:List Value):Prop :=
 news.length=m*sz/\(∀u∈news,u.oneCell'=true) /\
 ((m=0/\∃ad c,x=.slice ad 0 c)\/∃ad c,x=.slice (some ad) m c/\∀(j:Nat) (u:Value),news[j]?=some u->w.cell? (ad.add j)=some u)
theorem fa {P:Program}{w:World}(t ty e:TypeId)(i:TypeInfo)(ht:P.underlying t=some (.slice e))(hi:P.info? e=some i)(base:Option Addr)(n cap:Nat)(h:n<=cap)(ad:Option Addr)(c:Nat) :
  (Builtin.append_ #[t,t] ty #[.slice base n cap,.slice ad 0 c]).run P w=.ok (.slice base n cap) w:=by
 cases base<;>cases ad<;>simp[Builtin.append_,run_underlying ht,sizeOf,typeInfo,hi,Builtin.lenOf,h,Builtin.firstCells,loadCells,loadCellsFrom,storeCells]
theorem uV {P:Program}{w:World}(t ty e:TypeId)(i:TypeInfo)(z:Value)(sz:Nat)(ht:P.underlying t=some (.slice e))(hi:P.info? e=some i)(hz:i.zero=some z)(hsize:i.size=sz)(hzs:z.cells.size=sz)
  (blk:Option Nat) (v:Value) (n:Nat) (olds:List Value) (hv:Whole w e sz blk v n olds) (x:Value) (m:Nat) (news:List Value) (hx:Ju w sz x m news)
  (h63:n+m<=maxLen) (hbytes:(n+m)*i.bytes<=140737488355328) :
  ∃v' w' blk',(Builtin.append_ #[t,t] ty #[v,x]).run P w=.ok v' w'/\Whole w' e sz blk' v' (n+m) (olds++news)/\w'.os=w.os/\w'.tape=w.tape/\w'.output=w.output/\w.heap.size<=w'.heap.size /\
   (∀b,b<w.heap.size->w'.heap[b]? = w.heap[b]? \/ blk=some b)/\(∀b,blk'=some b->b<w'.heap.size/\(w.heap.size<=b\/blk=some b)):=by
 subst hsize;obtain⟨hlo,hv⟩:=hv;obtain⟨hln,h1,hx⟩:=hx;have hlen:(olds++news).length=(n+m)*i.size:=by rw[bT,hlo,hln,be]
 have hsmall:((n+m:Nat):Int)<=9223372036854775807:=by simp only[maxLen]at h63;omega
 have grown:∀(old:Nat),old<n+m->Whole (w.drew.alloc (.cells (olds.toArray++news.toArray++Builtin.zeroCells z.cells (grownCap w (n+m) old e-(n+m))) e)) e i.size (some w.heap.size)
    (.slice (some ⟨w.heap.size,0,none⟩) (n+m) (grownCap w (n+m) old e)) (n+m) (olds++news):=by
  intro old ho;have hge:=grownCap_ge w (n+m) old e;refine⟨hlen,.inr ⟨w.heap.size,_,_,O,O,bi w.drew _,hge,grownCap_le_maxLen w (n+m) old e h63,?_,?_⟩⟩
  .simp only[tD,kB,size_zeroCells,hzs,hlo,hln,<-be];congr 1;omega
  .simp only[Array.toList_append,bt];rw[<-bt,<-hlen];exact pj
 rcases hx with⟨rfl,ad,c,rfl⟩|⟨ad,c,rfl,hcell⟩
 .have hn0:news=[]:=dO (by simpa using hln);subst hn0;rcases hv with⟨rfl,rfl,rfl⟩|⟨b,cap,cur,rfl,rfl,hb,hnc,hcm,hcs,htk⟩
  .exact⟨_,w,none,fa t ty e i ht hi none 0 0 (aH) ad c,⟨by simpa using hlo,.inl ⟨O,O,O⟩⟩,O,O,O,aH,fun _ _ => .inl O,fun b hb=>by cases hb⟩
  .refine⟨_,w,some b,fa t ty e i ht hi _ n cap hnc ad c,⟨hlen,.inr ⟨b,cap,cur,O,O,hb,hnc,hcm,hcs,by simpa using htk⟩⟩,O,O,O,aH,fun _ _ => .inl O,fun b' hb'=>⟨?_,.inr hb'⟩⟩;simp at hb';subst hb';exact(eO hb).1
 .by_cases hm:m=0
  .subst hm;have hn0:news=[]:=dO (by simpa using hln);subst hn0;rcases hv with⟨rfl,rfl,rfl⟩|⟨b,cap,cur,rfl,rfl,hb,hnc,hcm,hcs,htk⟩
   .exact⟨_,w,none,fa t ty e i ht hi none 0 0 (aH) _ c,⟨by simpa using hlo,.inl ⟨O,O,O⟩⟩,O,O,O,aH,fun _ _ => .inl O,fun b hb=>by cases hb⟩
   .refine⟨_,w,some b,fa t ty e i ht hi _ n cap hnc _ c,⟨hlen,.inr ⟨b,cap,cur,O,O,hb,hnc,hcm,hcs,by simpa using htk⟩⟩,O,O,O,aH,fun _ _ => .inl O,fun b' hb'=>⟨?_,.inr hb'⟩⟩;simp at hb';subst hb';exact(eO hb).1
  .have hsz:∀X:Obj,w.heap.size<=(w.drew.alloc X).heap.size:=fun X=>by simp
   have hnew:∀(X:Obj) (b:Nat),some w.heap.size=some b->b<(w.drew.alloc X).heap.size/\(w.heap.size<=b\/blk=some b):=fun X b hb=>by
    simp at hb;subst hb;exact⟨aj,.inl (aH)⟩
   rcases hv with⟨rfl,rfl,rfl⟩|⟨b,cap,cur,rfl,rfl,hb,hnc,hcm,hcs,htk⟩
   .have ho0:olds=[]:=dO (by simpa using hlo);subst ho0;have hr:=run_append_nil (P:=P) w t ty e i z ht hi hz ad m c news hln hcell J (by simpa using hsmall) (by simp only[aG]at hbytes;omega);have hg:=grown 0 J;simp only[aG,kE,Array.empty_append]at hg ⊢;exact⟨_,_,some w.heap.size,hr,hg,O,O,O,hsz _,fun b hb => .inl (Below.heap_alloc w.drew _ b hb),hnew _⟩
   .by_cases hroom:n+m<=cap
    .have hfit:n*i.size+news.length<=cur.size:=by rw[hln,hcs,<-be];exact cm _ hroom
     have hr:=run_append_room (P:=P) w t ty e i ht hi b n cap cur hb ad m c news hln hcell h1 hroom hfit;refine⟨_,_,some b,hr,⟨hlen,.inr ⟨b,cap,_,O,O,setRow_heap w b cur _ e _ hb,hroom,hcm,?_,?_⟩⟩,O,O,O,aj,fun b' hb'=>?_,fun b' hb'=>⟨?_,.inr hb'⟩⟩
     .simp only[kB,bT,bI,fR,jm];omega
     .rw[htk,<-hlen];exact pj
     .by_cases he:b'=b
      .exact .inr (by rw[he])
      .exact .inl (setRow_other w b b' _ he)
     .simp at hb';subst hb';simpa using (eO hb).1
    .have holds:∀(j:Nat) (u:Value),olds[j]?=some u->w.cell? ((⟨b,0,none⟩:Addr).add j)=some u:=fun j u hu=>by
      rw[Addr.add_mk,aG,bc hb];rw[<-htk,bE]at hu;split at hu
      .simpa using hu
      .cases hu
     have hr:=run_append_grow (P:=P) w t ty e i z ht hi hz ⟨b,0,none⟩ n cap olds hlo holds ad m c news hln hcell J hsmall (growslice_fits J hbytes);exact⟨_,_,some w.heap.size,hr,grown cap J,O,O,O,hsz _,fun b' hb' => .inl (Below.heap_alloc w.drew _ b' hb'),hnew _⟩
def lx (s:St):PV->Option (List (List PV) × Nat × Prop)
 |.sl rows=>some (rows,1,True)
 |.fsl rows=>some (rows,0,True)
 |.nil=>some ([],0,True)
 |.als k g i m=>match (s.own k).2 with
  |some c=>some (c.rows,c.kind,(s.own k).1=g/\i=0/\m=c.rows.length)
  |none=>none
 |_=>none
section
variable {P:Program}{L:b9}{C:Ctx}{γ:Nat->Option Nat}{s:St}{a:Act}{w w':World}
theorem mB {E:Env}{k b off sz:Nat}{rows:List (List PV)}{vals:Nat->Nat->Value}(hsz:0<sz)(h4:∀row∈rows,row.length=sz)
  (h5:∀(i j:Nat) (row:List PV) (c:PV),rows[i]?=some row->row[j]?=some c->E.w.cell? ⟨b,off+i*sz+j,none⟩=some (vals i j)/\(vals i j).oneCell'=true)
  (h6:∀(i j:Nat) (row:List PV) (c:PV),rows[i]?=some row->row[j]?=some c->KRep E k c (vals i j)) :
  ∃news:List Value,FlatRep E k sz rows news/\(∀u∈news,u.oneCell'=true)/\∀(p:Nat) (u:Value),news[p]?=some u->E.w.cell? ((⟨b,off,none⟩:Addr).add p)=some u:=by
 have key:∀p,p<rows.length*sz->∃row c,rows[p/sz]?=some row/\row[p%sz]?=some c:=by
  intro p hp;have hd:p/sz<rows.length:=lU (by rw[b0];exact hp);have hm:p%sz<sz:=d0 _ hsz;have hr:rows[p/sz].length=sz:=h4 _ aj;exact⟨rows[p/sz],rows[p/sz][p%sz],aQ hd,aQ J⟩
 have hat:∀(p:Nat) (u:Value),((List.range (rows.length*sz)).map fun p=>vals (p/sz) (p%sz))[p]?=some u->p<rows.length*sz/\u=vals (p/sz) (p%sz):=by
  intro p u hu;rw[aV]at hu;rcases aT p (rows.length*sz) with hp|hp
  .rw[jl hp]at hu;simp at hu;exact⟨hp,hu.symm⟩
  .rw[dF (by simpa using hp)]at hu;simp at hu
 refine⟨(List.range (rows.length*sz)).map fun p=>vals (p/sz) (p%sz),⟨aj,h4,fun i j row pv e1 e2=>?_⟩,fun u hu=>?_,fun p u hu=>?_⟩
 .have hi:i<rows.length:=(bD e1).1;have hj:j<sz:=by rw[<-h4 row (bG e1)];exact(bD e2).1
  have hmul:(i+1)*sz<=rows.length*sz:=cm _ hi;rw[be,dH]at hmul;refine⟨vals i j,?_,(h5 i j row pv e1 e2).2,h6 i j row pv e1 e2⟩;rw[aV,jl J];have hd:(i*sz+j)/sz=i:=by rw[b0,Nat.mul_add_div hsz,mN hj,fB]
  have hm:(i*sz+j)%sz=j:=by rw[b0,pe,cM hj]
  simp[hd,hm]
 .obtain⟨p,hp,rfl⟩:=bF.1 hu;obtain⟨row,c,e1,e2⟩:=key p (dG.1 hp);exact(h5 _ _ row c e1 e2).2
 .obtain⟨hp,rfl⟩:=hat p u hu;obtain⟨row,c,e1,e2⟩:=key p hp;rw[Addr.add_mk];have:=(h5 _ _ row c e1 e2).1;rwa [show off+p/sz*sz+p%sz=off+p by have:=jb p sz;rw[b0]at this;omega]at this
theorem Es (h:Sim C γ s a w){x:PV}{v:Value}{rows:List (List PV)}{kd sz:Nat}{Cd:Prop}(hq:lx s x=some (rows,kd,Cd))(hc:Cd)(hr:Rep (ai C γ s w) x v)(hsz:0<sz)(hlen:∀row∈rows,row.length=sz) :
  ∃news,Ju w sz v rows.length news/\FlatRep (ai C γ s w) kd sz rows news:=by
 have data:∀ {ok:Nat->Prop} {kd:Nat},(∀c v,DRep w ok c v->KRep (ai C γ s w) kd c v)->DRep w ok (.sl rows) v->∃news,Ju w sz v rows.length news/\FlatRep (ai C γ s w) kd sz rows news:=by
  intro ok kd hk hd;rcases n3 (E:=ai C γ s w) hd with⟨rfl,ad,cap,rfl⟩|⟨b,off,cap,sz',vals,rfl,h1,h2,h3,h4,h5,h6⟩
  .exact⟨[],⟨aj,aj,.inl ⟨O,ad,cap,O⟩⟩,FlatRep.nil _ _ _⟩
  .cases rows with
   |nil=>exact⟨[],⟨aj,aj,.inr ⟨_,cap,rfl,fun j u hu=>by simp at hu⟩⟩,FlatRep.nil _ _ _⟩
   |cons row0 rest =>
    have hss:sz'=sz:=by rw[<-hlen row0 aj];exact(h4 row0 aj).symm
    subst hss;obtain⟨news,f1,f2,f3⟩:=mB (E:=ai C γ s w) (k:=kd) hsz h4 h5 (fun i j row c e1 e2=>hk c _ (h6 i j row c e1 e2));exact⟨news,⟨f1.len,f2,.inr ⟨_,cap,O,f3⟩⟩,f1⟩
 unfold lx at hq;split at hq
 .simp only[aJ,aP]at hq;obtain⟨rfl,rfl,rfl⟩:=hq;cases hr with|d hd=>exact data (ok:=fu C γ s w) (fun c v hd=>hd) hd
 .simp only[aJ,aP]at hq;obtain⟨rfl,rfl,rfl⟩:=hq;cases hr with
  |d hd=>cases hd
  |fsl hd=>exact data (ok:=(ai C γ s w).okf) (fun c v hd=>hd) hd
 .simp only[aJ,aP]at hq;obtain⟨rfl,rfl,rfl⟩:=hq;rw[hr.nil_inv];exact⟨[],⟨aj,aj,.inl ⟨O,none,0,O⟩⟩,FlatRep.nil _ _ _⟩
 .rename_i k g i m;split at hq
  .rename_i c hown;simp only[aJ,aP]at hq;obtain⟨rfl,rfl,rfl⟩:=hq;obtain⟨hg,rfl,rfl⟩:=hc;have ho:s.own k=(g,some c):=by rw[<-hg,<-hown]
   rcases h.als_at hr ho with⟨h1,_,h3,rfl⟩|⟨b,cap,cur,h1,rfl,h3,h4,h5,h6,h7⟩
   .have:c.rows=[]:=(h.sites k c hown).emp h1;rw[this];exact⟨[],⟨aj,aj,.inl ⟨O,none,0,O⟩⟩,FlatRep.nil _ _ _⟩
   .obtain⟨cur',g1,g2,g3,g4,g5⟩:=h.site_at ho h1 (h.cells_sz ho h1 h3 h6);cases hrows:c.rows with
    |nil=>exact⟨[],⟨aj,aj,.inr ⟨_,cap,rfl,fun j u hu=>by simp at hu⟩⟩,FlatRep.nil _ _ _⟩
    |cons row0 rest =>
     have hss:c.sz=sz:=by rw[<-hlen row0 (by rw[hrows];simp)];exact(g4 row0 (by rw[hrows];simp)).symm
     rw[<-hrows];have hcl:∀(i j:Nat) (row:List PV) (pv:PV),c.rows[i]?=some row->row[j]?=some pv->cur'[i*c.sz+j]?=some (cur'.getD (i*c.sz+j) undef):=by
      intro i j row pv e1 e2;obtain⟨u,f1,_⟩:=g5 i j row pv e1 e2;rw[f1];simp[f1]
     obtain⟨news,f1,f2,f3⟩:=mB (E:=ai C γ s w) (k:=c.kind) (b:=b) (off:=0) (sz:=c.sz) (rows:=c.rows) (vals:=fun i j=>cur'.getD (i*c.sz+j) undef) g2 g4
      (fun i j row pv e1 e2=>by
       obtain⟨u,f1,f2,_⟩:=g5 i j row pv e1 e2;refine⟨?_,by simp[f1,f2]⟩;show w.cell? _=_;rw[bc g1,aG]
       exact hcl i j row pv e1 e2)
      (fun i j row pv e1 e2=>by
       obtain⟨u,f1,_,f3⟩:=g5 i j row pv e1 e2;have:cur'.getD (i*c.sz+j) undef=u:=by simp[f1]
       simp only[this];exact f3)
     subst hss;simp only[fT];exact⟨news,⟨f1.len,f2,.inr ⟨_,cap,O,f3⟩⟩,f1⟩
  .cases hq
 .cases hq
def vm (s:St):PV->Option (Option (Nat × Cont) × Prop)
 |.nil=>some (none,True)
 |.als k g i m=>match (s.own k).2 with
  |some c=>some (some (k,c),(s.own k).1=g/\i=0/\m=c.rows.length)
  |none=>none
 |_=>none
theorem qT {T e:TypeId}{r re:LRow}{ty:TypeId}{x y:PV}{vx vy:Value}{k kd:Nat}{rows1 rows2:List (List PV)}{k1 k2:Nat}{Cd1 Cd2:Prop}(hL:iW P L)(h:Sim C γ s a w)(hr:L T=some r)(hs:r.sh=.sl e)(hre:L e=some re)
  (hz:re.zero.isSome=true) (hsz:0<re.size) (hx:Rep (ai C γ s w) x vx) (hy:Rep (ai C γ s w) y vy)
  (hd:(vm s x=some (none,Cd1)/\rows1=[]/\k1=0)\/∃c,vm s x=some (some (k,c),Cd1)/\rows1=c.rows/\k1=c.kind/\c.sz=re.size/\c.ty=e) (hc1:Cd1)
  (hq:lx s y=some (rows2,k2,Cd2)) (hc2:Cd2) (hlen:∀row∈rows2,row.length=re.size) (hk1:k1<=kd) (hk2:k2<=kd) (hb:(rows1.length+rows2.length)*re.bytes<=140737488355328) (h63:rows1.length+rows2.length<=maxLen) :
  ∃v' w' blk',(Builtin.append_ #[T,T] ty #[vx,vy]).run P w=.ok v' w'/\Sim C (iV γ k blk') (s.fin k ⟨e,re.size,rows1++rows2,kd⟩) a w' /\
   Rep (ai C (iV γ k blk') (s.fin k ⟨e,re.size,rows1++rows2,kd⟩) w') (.als k ((s.own k).1+1) 0 (rows1++rows2).length) v':=by
 obtain⟨i,d,hi,hud,hisz,hiby,_,hzero⟩:=LRow.spec (hL e re hre);obtain⟨z,hz1,hz2,_⟩:=hzero _ (Option.some_get hz).symm;have hu:=gZ (hL T r hr) hs;obtain⟨news,hsrc,hfl2⟩:=Es h hq hc2 hy hsz hlen;obtain⟨blk,olds,hwh,hfl1,hblk⟩:∃blk olds,Whole w e re.size blk vx rows1.length olds/\FlatRep (ai C γ s w) k1 re.size rows1 olds/\(∀b,blk=some b->(s.own k).2.isSome=true/\γ k=some b):=by
  rcases hd with⟨hd,rfl,rfl⟩|⟨c,hd,rfl,rfl,hcs,hct⟩
  .cases x<;>simp only[vm,aJ,aP,reduceCtorEq]at hd
   .rw[hx.nil_inv];exact⟨none,[],⟨aj,.inl ⟨O,O,O⟩⟩,FlatRep.nil _ _ _,fun b hb=>by cases hb⟩
   .split at hd<;>simp at hd
  .cases x<;>simp only[vm,aJ,aP,reduceCtorEq,false_and]at hd;rename_i k' g i' m;split at hd
   .rename_i c' hown;simp only[aJ,aP]at hd;obtain⟨⟨rfl,rfl⟩,rfl⟩:=hd;obtain⟨hg,rfl,rfl⟩:=hc1;have ho:s.own k'=(g,some c'):=by rw[<-hg,<-hown]
    rcases h.als_at hx ho with⟨h1,_,h3,rfl⟩|⟨b,cap,cur,h1,rfl,h3,h4,h5,h6,h7⟩
    .have:c'.rows=[]:=(h.sites k' c' hown).emp h1;rw[this];exact⟨none,[],⟨aj,.inl ⟨O,O,O⟩⟩,FlatRep.nil _ _ _,fun b hb=>by cases hb⟩
    .have hsite:=h.sites k' c' hown;simp only at h1 h3 h6;rw[h1]at hsite;obtain⟨cur',g1,g2,g3,g4⟩:=hsite.flat (h.cells_sz ho h1 h3 h6);have g1':w.heap[b]?=some (.cells cur' c'.ty (0,0)):=g1;rw[g1']at h3;simp only[aJ,Obj.cells.injEq,and_true]at h3;obtain⟨rfl,_⟩:=h3;rw[<-hcs];refine⟨some b,_,⟨g4.len,.inr ⟨b,cap,_,O,aj,by rw[<-hct];exact g1',h4,h5,by rw[h6,aG],O⟩⟩,g4,fun b' hb'=>?_⟩;simp at hb';subst hb';exact⟨by simp[hown],h1⟩
   .simp at hd
 obtain⟨v',w',blk',hrun,⟨hwl,hwhole⟩,t1,t2,t3,t4,t5,t6⟩:=uV (P:=P) (w:=w) T ty e i z re.size hu hi hz1 hisz hz2 blk vx rows1.length olds hwh vy rows2.length news hsrc h63 (by rw[hiby];exact hb);have ht:Turn C γ s w w' k blk':=⟨t1,t2,t3,t4,fun b hb=>(t5 b hb).imp id (fun e=>hblk b e),fun b hb=>⟨(t6 b hb).1,(t6 b hb).2.imp id (fun e=>hblk b e)⟩⟩;have hle:=ht.le h ⟨e,re.size,rows1++rows2,kd⟩;have hfl:=((hfl1.up aI hk1).append (hfl2.up aI hk2)).mono hle;have hl':(rows1++rows2).length=rows1.length+rows2.length:=bT;refine⟨v',w',blk',hrun,ht.sim h ?_,.als ?_ fun _ l hl=>?_⟩
 .rcases hwhole with⟨rfl,rfl,h0⟩|⟨b,cap,cur,rfl,rfl,f1,f2,f3,f4,f5⟩
  .exact .none_ (dO (by rw[hl'];exact h0))
  .refine SiteOk.of_flat hfl hsz f1 ?_ (by rw[hl'];exact f5);rw[hl',f4];exact cm _ f2
 .show _<=((s.fin k _).own k).1;rw[St.fin,ah];exact aH
 .simp only[ai,St.fin,ah,bZ,ca,aJ]at hl;subst hl;rw[hl'];rcases hwhole with⟨rfl,rfl,h0⟩|⟨b,cap,cur,rfl,rfl,f1,f2,f3,f4,f5⟩
  .exact .inl ⟨O,O,h0,O⟩
  .exact .inr ⟨b,cap,cur,O,aj,f1,f2,f3,by rw[f4,aG],aj⟩
theorem Dm {T:TypeId}{k sz kd:Nat}{rows:List (List PV)}{cur:Array Value}(h:Sim C γ s a w)(hsz:0<sz)(hm:rows.length<=maxLen)(hf:FlatRep (ai C γ s w) kd sz rows cur.toList) :
  Sim C (iV γ k (some w.heap.size)) (s.fin k ⟨T,sz,rows,kd⟩) a (w.alloc (.cells cur T)) /\
   Rep (ai C (iV γ k (some w.heap.size)) (s.fin k ⟨T,sz,rows,kd⟩) (w.alloc (.cells cur T))) (.als k ((s.own k).1+1) 0 rows.length) (.slice (some ⟨w.heap.size,0,none⟩) rows.length rows.length):=by
 have ht:Turn C γ s w (w.alloc (.cells cur T)) k (some w.heap.size):=Turn.alloc _ k;have hle:=ht.le h ⟨T,sz,rows,kd⟩;have hlen:cur.size=rows.length*sz:=by have:=hf.len;simpa using this
 refine⟨ht.sim h (SiteOk.of_flat (hf.mono hle) hsz (bi _ _) J ?_),.als ?_ fun _ l hl=>?_⟩
 .exact dp (by simp[hlen])
 .show _<=((s.fin k _).own k).1;rw[St.fin,ah];exact aH
 .simp only[ai,St.fin,ah,bZ,ca,aJ]at hl;subst hl;exact .inr ⟨w.heap.size,rows.length,cur,O,aj,bi _ _,aH,hm,by rw[hlen,aG],aj⟩
theorem Be {T:TypeId}{k sz kd cap:Nat}{rows:List (List PV)}{cur:Array Value}(h:Sim C γ s a w)(hsz:0<sz)(hm:cap<=maxLen)(hcap:cur.size=cap*sz)(hrc:rows.length<=cap)(hf:FlatRep (ai C γ s w) kd sz rows (cur.toList.take (rows.length*sz))) :
  Sim C (iV γ k (some w.heap.size)) (s.fin k ⟨T,sz,rows,kd⟩) a (w.alloc (.cells cur T)) /\
   Rep (ai C (iV γ k (some w.heap.size)) (s.fin k ⟨T,sz,rows,kd⟩) (w.alloc (.cells cur T))) (.als k ((s.own k).1+1) 0 rows.length) (.slice (some ⟨w.heap.size,0,none⟩) rows.length cap):=by
 have ht:Turn C γ s w (w.alloc (.cells cur T)) k (some w.heap.size):=Turn.alloc _ k;have hle:=ht.le h ⟨T,sz,rows,kd⟩;have hmul:rows.length*sz<=cap*sz:=cm _ hrc;refine⟨ht.sim h (SiteOk.of_flat (hf.mono hle) hsz (bi _ _) J O),.als ?_ fun _ l hl=>?_⟩
 .show _<=((s.fin k _).own k).1;rw[St.fin,ah];exact aH
 .simp only[ai,St.fin,ah,bZ,ca,aJ]at hl;subst hl;exact .inr ⟨w.heap.size,cap,cur,O,aj,bi _ _,hrc,hm,by rw[hcap,aG],aj⟩
end
def s9 (P:Program):Nat->List Field->List Sh->Bool
 |_,[],[]=>true
 |i, f :: fs, k :: ks => !(f.name == "_") && Nat.beq f.offset i && (match P.underlying f.type with | some d => (match k with | .bool => Sh.fits .bool d | .int k => Sh.fits (.int k) d | .str => Sh.fits .str d | _ => false) | none => false) && s9 P (i + 1) fs ks
 |_,_,_=>false
def CC (P:Program)(T:TypeId)(ks:List Sh):Bool:=match P.underlying T with
 |some (.struct fs)=>s9 P 0 fs.toList ks&&!P.stoodInHeld T&&!P.eqGuardType P.depth T
 |_=>false
def lP:List Sh->List PV->List PV->Option Bool
 |[],[],[]=>some true
 |.int k::ks,.int k1 a::us,.int k2 b::vs=>match decide (k=k1),decide (k=k2) with
  |true,true=>(match lP ks us vs with|some r=>some (decide (a=b)&&r)|none=>none)
  |_,_=>none
 |.bool::ks,.bool a::us,.bool b::vs=>match lP ks us vs with|some r=>some (decide (a=b)&&r)|none=>none
 |.str::ks,.str a::us,.str b::vs=>match lP ks us vs with|some r=>some (decide (a=b)&&r)|none=>none
 |_,_,_=>none
section
variable {P:Program}{E:Env}{w:World}
theorem uu (d : Nat){xs ys : Array Value}{f : Field}{fs : List Field}{x y : Value}{e r : Bool}(hn : f.name ≠ "_")(hp : P.plainKey f.type = true)(hx : xs[f.offset]?=some x)(hy : ys[f.offset]?=some y)
  (he:(Op.equalIn (d+1) f.type x y).run P w=.ok e w) (hr:(Op.eqFields (d+1) xs ys fs).run P w=.ok r w):(Op.eqFields (d+1) xs ys (f::fs)).run P w=.ok (e&&r) w:=by
 simp only[Op.eqFields,hn,ne_eq,not_false_eq_true,if_true,Sem.run_bind,run_part_plain w hp hx,run_part_plain w hp hy,Result.andThen_ok,he];cases e
 .simp
 .simpa using hr
theorem wN (d:Nat){xs ys:Array Value}:∀(fs:List Field) (ks:List Sh) (us vs:List PV) (i:Nat) (b:Bool),s9 P i fs ks=true->lP ks us vs=some b ->
  (∀(j:Nat) (c:PV),us[j]?=some c->∃v,xs[i+j]?=some v/\Rep E c v)->(∀(j:Nat) (c:PV),vs[j]?=some c->∃v,ys[i+j]?=some v/\Rep E c v)->(Op.eqFields (d+1) xs ys fs).run P w=.ok b w
 |[],ks,us,vs,i,b,h1,h2,_,_=>by
  cases ks with
  |cons=>simp[s9]at h1
  |nil =>
   unfold lP at h2;split at h2<;>simp_all [Op.eqFields]
 |f::fs,ks,us,vs,i,b,h1,h2,hx,hy=>by
  cases ks with
  |nil=>simp[s9]at h1
  |cons k ks =>
   simp only[s9,bj,i8,beq_eq_false_iff_ne]at h1;obtain⟨⟨⟨hn,ho⟩,ht⟩,hr⟩:=h1;have ho:=oW ho;cases hu:P.underlying f.type with
   |none=>rw[hu]at ht;cases ht
   |some de =>
    rw[hu]at ht;dsimp only at ht;have next:∀(us' vs':List PV) (u v:PV) (r:Bool),us=u::us'->vs=v::vs'->lP ks us' vs'=some r->(Op.eqFields (d+1) xs ys fs).run P w=.ok r w:=by
     rintro us' vs' u v r rfl rfl hl;refine wN d fs ks us' vs' (i+1) r hr hl (fun j c hj=>?_) (fun j c hj=>?_)
     .have:=hx (j+1) c (by simpa using hj);rwa [show i+(j+1)=i+1+j by omega]at this
     .have:=hy (j+1) c (by simpa using hj);rwa [show i+(j+1)=i+1+j by omega]at this
    unfold lP at h2;split at h2
    .cases ‹_::_=[]›
    .rename_i k' ks' k1 a us' k2 c vs' hk;cases hk;have hde:de=.int k':=by cases de<;>simp[Sh.fits]at ht;subst ht;rfl
     subst hde;split at h2
     .rename_i hk1 hk2;have hk1:=bK hk1;have hk2:=bK hk2;subst hk1;subst hk2;split at h2
      .rename_i r hl;cases h2;obtain⟨x,g1,g2⟩:=hx 0 _ O;obtain⟨y,g3,g4⟩:=hy 0 _ O;rw[g2.int_inv]at g1;rw[g4.int_inv]at g3;refine uu d hn (by unfold Program.plainKey;rw[hu]) (by rw[ho];exact g1) (by rw[ho];exact g3) ?_ (next _ _ _ _ r O O hl);rw[run_equalIn_int w d f.type k' k' a c hu,lT]
      .cases h2
     .cases h2
    .rename_i ks' a us' c vs' hk;cases hk;have hde:de=.bool:=by cases de<;>simp[Sh.fits]at ht;rfl
     subst hde;split at h2
     .rename_i r hl;cases h2;obtain⟨x,g1,g2⟩:=hx 0 _ O;obtain⟨y,g3,g4⟩:=hy 0 _ O;rw[g2.bool_inv]at g1;rw[g4.bool_inv]at g3;refine uu d hn (by unfold Program.plainKey;rw[hu]) (by rw[ho];exact g1) (by rw[ho];exact g3) ?_ (next _ _ _ _ r O O hl);rw[run_equalIn_bool' w d f.type a c hu,lT]
     .cases h2
    .rename_i ks' a us' c vs' hk;cases hk;have hde:de=.string:=by cases de<;>simp[Sh.fits]at ht;rfl
     subst hde;split at h2
     .rename_i r hl;cases h2;obtain⟨x,g1,g2⟩:=hx 0 _ O;obtain⟨y,g3,g4⟩:=hy 0 _ O;rw[g2.str_inv]at g1;rw[g4.str_inv]at g3;refine uu d hn (by unfold Program.plainKey;rw[hu]) (by rw[ho];exact g1) (by rw[ho];exact g3) ?_ (next _ _ _ _ r O O hl);rw[run_equalIn_string w d f.type _ _ hu,mn,mn,lT]
     .cases h2
    .cases h2
theorem qO {T:TypeId}{ks:List Sh}{us vs:List PV}{a b:Value}{r:Bool}(hT:CC P T ks=true)(hl:lP ks us vs=some r)(hx:Rep E (.agg us) a)(hy:Rep E (.agg vs) b):(Op.equalIn 10000 T a b).run P w=.ok r w:=by
 obtain⟨xs,rfl,hxl,hxs⟩:=hx.agg_inv;obtain⟨ys,rfl,hyl,hys⟩:=hy.agg_inv;unfold CC at hT;split at hT
 .rename_i fs hu;simp only[bj,i8]at hT;obtain⟨⟨h1,h2⟩,h3⟩:=hT;have hfo:P.fieldsOf T=fs:=by unfold Program.fieldsOf;rw[hu]
  rw[show(10000:Nat)=9998+1+1 from O,run_equalIn_struct w (9998+1) T _ _ (by rw[hfo];exact hu) h2,hfo];refine wN (E:=E) 9998 _ _ us vs 0 r h1 hl (fun j c hj=>?_) (fun j c hj=>?_)
  .have hlt:j<xs.length:=by rw[<-hxl];exact(bD hj).1
   exact⟨xs[j],by rw[aG];simp[hlt],hxs j c _ hj (aQ hlt)⟩
  .have hlt:j<ys.length:=by rw[<-hyl];exact(bD hj).1
   exact⟨ys[j],by rw[aG];simp[hlt],hys j c _ hj (aQ hlt)⟩
 .cases hT
theorem Gf {T:TypeId}{ks:List Sh}{us vs:List PV}{a b:Value}{r:Bool}{x y:Operand}(hT:CC P T ks=true)(hl:lP ks us vs=some r)(hx:Rep E (.agg us) a)(hy:Rep E (.agg vs) b) :
  (do eqGuard .eql T x y a b;binOp .eql T a b:Sem Value).run P w=.ok (.bool r) w/\(do eqGuard .neq T x y a b;binOp .neq T a b:Sem Value).run P w=.ok (.bool (!r)) w:=by
 obtain⟨xs,rfl,hxl,hxs⟩:=hx.agg_inv;obtain⟨ys,rfl,hyl,hys⟩:=hy.agg_inv;have hT0:=hT;unfold CC at hT;split at hT
 .rename_i fs hu;simp only[bj,i8]at hT;obtain⟨⟨h1,h2⟩,h3⟩:=hT;have hrun:(Op.equalIn 10000 T (.agg xs.toArray) (.agg ys.toArray)).run P w=.ok r w:=qO hT0 hl hx hy;constructor
  .rw[Sem.run_bind,run_eqGuard_agg w .eql T x y _ _ h3,Result.andThen_ok,run_eql_struct,hrun,Result.andThen_ok]
  .rw[Sem.run_bind,run_eqGuard_agg w .neq T x y _ _ h3,Result.andThen_ok,run_neq_struct,hrun,Result.andThen_ok]
 .cases hT
def nZ:List Sh->List PV->Bool
 |[],[]=>true
 |.int k::ks,.int k' _::us=>decide (k=k')&&nZ ks us
 |.bool::ks,.bool _::us=>nZ ks us
 |.str::ks,.str _::us=>nZ ks us
 |_,_=>false
def scv:PV->Value
 |.int k n => .int k n
 |.bool b => .bool b
 |.str s => .string ⟨s.toArray⟩
 |_=>undef
theorem dM {ks:List Sh}{u:PV}{us:List PV}(h:nZ ks (u::us)=true):∃k ks',ks=k::ks'/\nZ ks' us=true/\((∃q n,k=.int q/\u=.int q n)\/(∃b,k=.bool/\u=.bool b)\/∃s,k=.str/\u=.str s):=by
 unfold nZ at h;split at h
 .rename_i he;cases he
 .rename_i q ks' q' n us' he;cases he;rw[bj]at h;have:=bK h.1;subst this;exact⟨_,_,O,h.2,.inl ⟨_,_,O,O⟩⟩
 .rename_i ks' b us' he;cases he;exact⟨_,_,O,h,.inr (.inl ⟨_,O,O⟩)⟩
 .rename_i ks' s us' he;cases he;exact⟨_,_,O,h,.inr (.inr ⟨_,O,O⟩)⟩
 .cases h
theorem Gi {ks:List Sh}{u:PV}{us:List PV}{v:Value}(h:nZ ks (u::us)=true)(hr:Rep E u v):v=scv u:=by
 obtain⟨k,ks',_,_,h⟩:=dM h;rcases h with⟨q,n,_,rfl⟩|⟨b,_,rfl⟩|⟨s,_,rfl⟩
 .exact hr.int_inv
 .exact hr.bool_inv
 .exact hr.str_inv
theorem wU:∀ {ks:List Sh} {us:List PV} {vs:List Value},nZ ks us=true->us.length=vs.length->(∀(i:Nat) (c:PV) (v:Value),us[i]?=some c->vs[i]?=some v->Rep E c v)->vs=us.map scv
 |_,[],vs,_,hl,_=>by
  have:vs=[]:=dO (by simpa using hl.symm);rw[this];rfl
 |_,u::us,[],_,hl,_=>by simp at hl
 |_,u::us,v::vs,h,hl,hd=>by
  obtain⟨k,ks',_,h2,_⟩:=dM h;have h5:vs=us.map scv:=wU h2 (by simpa using hl) fun i c v e1 e2=>hd (i+1) c v (by simpa using e1) (by simpa using e2);have h6:v=scv u:=Gi h (hd 0 u v O O);rw[db,h5,h6]
theorem nl {ks:List Sh}{us:List PV}{v:Value}(h:nZ ks us=true)(hr:Rep E (.agg us) v):v=.agg (us.map scv).toArray:=by
 obtain⟨vs,rfl,hl,hd⟩:=hr.agg_inv;rw[wU h hl hd]
theorem uz:∀ {ks:List Sh} {us vs:List PV},nZ ks us=true->nZ ks vs=true->us.map scv=vs.map scv->us=vs
 |ks,[],[],_,_,_=>rfl
 |ks,[],v::vs,_,_,h=>by simp at h
 |ks,u::us,[],_,_,h=>by simp at h
 |ks,u::us,v::vs,h1,h2,h=>by
  obtain⟨k,ks',rfl,g1,g2⟩:=dM h1;obtain⟨k2,ks2,hk,g3,g4⟩:=dM h2;cases hk;simp only[db,List.cons.injEq]at h;have:=uz g1 g3 h.2;subst this;congr 1;have h:=h.1;rcases g2 with⟨q,n,rfl,rfl⟩|⟨b,rfl,rfl⟩|⟨s,rfl,rfl⟩<;>rcases g4 with⟨q',n',hk',rfl⟩|⟨b',hk',rfl⟩|⟨s',hk',rfl⟩<;>(try cases hk')<;>simp[scv]at h<;>rw[h]
theorem vV:∀ {ks:List Sh} {us vs:List PV},nZ ks us=true->nZ ks vs=true->∃r,lP ks us vs=some r/\(r=true↔us=vs)
 |ks,[],[],h,_=>by
  unfold nZ at h;split at h<;>simp_all [lP]
 |ks,[],v::vs,h,h'=>by
  obtain⟨k,ks',rfl,_⟩:=dM h';cases k<;>simp[nZ]at h
 |ks,u::us,[],h,h'=>by
  obtain⟨k,ks',rfl,_⟩:=dM h;cases k<;>simp[nZ]at h'
 |ks,u::us,v::vs,h1,h2=>by
  obtain⟨k,ks',rfl,g1,g2⟩:=dM h1;obtain⟨k2,ks2,hk,g3,g4⟩:=dM h2;cases hk;obtain⟨r,e1,e2⟩:=vV g1 g3;rcases g2 with⟨q,n,rfl,rfl⟩|⟨b,rfl,rfl⟩|⟨s,rfl,rfl⟩<;>rcases g4 with⟨q',n',hk',rfl⟩|⟨b',hk',rfl⟩|⟨s',hk',rfl⟩<;>(try cases hk')
  .exact⟨decide (n=n')&&r,by simp[lP,e1],by simp[e2]⟩
  .exact⟨decide (b=b')&&r,by simp[lP,e1],by simp[e2]⟩
  .exact⟨decide (s=s')&&r,by simp[lP,e1],by simp[e2]⟩
theorem rE {T:TypeId}{ks:List Sh}{us:List PV}{v:Value}(em:Bool)(hT:CC P T ks=true)(hs:nZ ks us=true)(hx:Rep E (.agg us) v):(Instr.checkKey em 10000 T v).run P w=.ok () w:=by
 obtain⟨vs,rfl,hxl,hxs⟩:=hx.agg_inv;unfold CC at hT;split at hT
 .rename_i fs hu;simp only[bj,i8]at hT;obtain⟨⟨h1,_⟩,_⟩:=hT;rw[show(10000:Nat)=9998+1+1 from O,Instr.checkKey];simp only[Sem.run_bind,run_underlying hu,Result.andThen_ok];rw[<-Array.forIn_toList]
  have key:∀(L:List Field) (ks:List Sh) (us:List PV) (i:Nat),s9 P i L ks=true->nZ ks us=true->(∀(j:Nat) (c:PV),us[j]?=some c->∃v,vs.toArray[i+j]?=some v/\Rep E c v) ->
    (forIn L PUnit.unit (fun f (_ : PUnit) => if f.name ≠ "_" then do
      let x <-_root_.Go.part f.type vs.toArray f.offset
      Instr.checkKey em (9998+1) f.type x
      pure (ForInStep.yield PUnit.unit)
     else pure (ForInStep.yield PUnit.unit)):Sem PUnit).run P w=.ok () w:=by
   intro L
   induction L with
   |nil=>intro ks us i _ _ _;simp
   |cons f L ih =>
    intro ks us i h1 h2 h3;cases ks with
    |nil=>simp[s9]at h1
    |cons k ks =>
     simp only[s9,bj,i8,beq_eq_false_iff_ne]at h1;obtain⟨⟨⟨hn,ho⟩,ht⟩,hr⟩:=h1;have ho:=oW ho;cases us with
     |nil=>cases k<;>simp[nZ]at h2
     |cons u us =>
      obtain⟨k',ks',hk',g1,g2⟩:=dM h2;cases hk';obtain⟨x,x1,x2⟩:=h3 0 u O;rw[fB]at x1;cases hud:P.underlying f.type with
      |none=>rw[hud]at ht;cases ht
      |some de =>
       rw[hud]at ht;dsimp only at ht;have hIs:MapKept.IsKey de x/\P.plainKey f.type=true:=by
        rcases g2 with⟨q,n,rfl,rfl⟩|⟨b,rfl,rfl⟩|⟨s,rfl,rfl⟩
        .have hde:de=.int q:=by cases de<;>simp[Sh.fits]at ht;subst ht;rfl
         subst hde;rw[x2.int_inv];exact⟨O,by unfold Program.plainKey;rw[hud]⟩
        .have hde:de=.bool:=by cases de<;>simp[Sh.fits]at ht;rfl
         subst hde;rw[x2.bool_inv];exact⟨trivial,by unfold Program.plainKey;rw[hud]⟩
        .have hde:de=.string:=by cases de<;>simp[Sh.fits]at ht;rfl
         subst hde;rw[x2.str_inv];exact⟨trivial,by unfold Program.plainKey;rw[hud]⟩
       have p1:=run_part_plain w hIs.2 (off:=f.offset) (by rw[ho];exact x1);have p2:=MapKept.run_checkKey (w:=w) hud hIs.1 em 9998;simp only[List.forIn_cons,Sem.run_bind,hn,ne_eq,not_false_eq_true,if_true,Result.andThen_ok,p1,p2,Sem.run_pure];refine ih ks us (i+1) hr g1 fun j c hj=>?_;have:=h3 (j+1) c (by simpa using hj);rwa [show i+(j+1)=i+1+j by omega]at this
  rw[key fs.toList ks us 0 h1 hs fun j c hj=>?_]
  .rfl
  have hlt:j<vs.length:=by rw[<-hxl];exact(bD hj).1
  exact⟨vs[j],by rw[aG];simp[hlt],hxs j c _ hj (aQ hlt)⟩
 .cases hT
theorem yp {ks:List Sh}{us:List PV}{v:Value}(hs:nZ ks us=true)(hx:Rep E (.agg us) v):(Instr.keyThatStays v v).run P w=.ok v w:=by
 have hv:=nl hs hx;subst hv;have one:∀(n:Nat) (c:PV),c∈us->Instr.sameBits (n+1) (scv c) (scv c)=true:=fun n c hc=>by
  obtain⟨i,hi,rfl⟩:=fc hc;have:∀ {ks:List Sh} {us:List PV} (i:Nat) (c:PV),nZ ks us=true->us[i]?=some c->(∃q n,c=.int q n)\/(∃b,c=.bool b)\/∃s,c=.str s:=by
   intro ks us
   induction us generalizing ks with
   |nil=>intro i c _ h;simp at h
   |cons u us ih =>
    intro i c h hi;obtain⟨k,ks',_,h2,h⟩:=dM h;cases i with
    |zero =>
     simp at hi;subst hi;rcases h with⟨q,n,_,rfl⟩|⟨b,_,rfl⟩|⟨s,_,rfl⟩
     .exact .inl ⟨_,_,O⟩
     .exact .inr (.inl ⟨_,O⟩)
     .exact .inr (.inr ⟨_,O⟩)
    |succ i=>exact ih i c h2 (by simpa using hi)
  rcases this i _ hs (aQ hi) with⟨q,m,h⟩|⟨b,h⟩|⟨s,h⟩<;>rw[h]<;>simp[scv,Instr.sameBits,MapKept.bytes_beq]
 have hb:Instr.sameBits 10000 (.agg (us.map scv).toArray) (.agg (us.map scv).toArray)=true:=by
  rw[show(10000:Nat)=9998+1+1 from O,Instr.sameBits];rw[bj];refine⟨aj,?_⟩;rw[bx];rintro⟨x,y⟩ hxy;have hzip:∀(l:List Value),(x,y)∈l.zip l->x=y/\x∈l:=by
   intro l
   induction l with
   |nil=>intro h;simp at h
   |cons a l ih =>
    intro h;rw[o8,cw]at h;rcases h with h|h
    .cases h;exact⟨O,aj⟩
    .exact⟨(ih h).1,by simp[(ih h).2]⟩
  obtain⟨rfl,hm⟩:=hzip _ hxy;simp only[bF]at hm;obtain⟨c,hc,rfl⟩:=hm;exact one 9998 c hc
 simp[Instr.keyThatStays,hb]
theorem ut {T:TypeId}{ks:List Sh}{us:List PV}{v:Value}(hT:CC P T ks=true)(hs:nZ ks us=true)(hx:Rep E (.agg us) v)(es:List MapEntry)(hes:∀e∈es,∃us',nZ ks us'=true/\Rep E (.agg us') e.key) :
  ((Instr.findKey T v es).run P w=.ok none w/\∀e∈es,e.key≠v)\/∃j e,(Instr.findKey T v es).run P w=.ok (some (j,e.val)) w/\es[j]?=some e/\e.key=v/\∀i e',i<j->es[i]?=some e'->e'.key≠v:=by
 have hT0:=hT;unfold CC at hT;split at hT
 .rename_i fs hu
  have ask:∀(l:List MapEntry) (n:Nat),(∀e∈l,∃us',nZ ks us'=true/\Rep E (.agg us') e.key) ->
    ((Instr.findAsking T v l n).run P w=.ok none w/\∀e∈l,e.key≠v)\/∃j e,(Instr.findAsking T v l n).run P w=.ok (some (n+j,e.val)) w/\l[j]?=some e/\e.key=v/\∀i e',i<j->l[i]?=some e'->e'.key≠v:=by
   intro l
   induction l with
   |nil=>intro n _;exact .inl ⟨by simp[Instr.findAsking],fun e he=>by simp at he⟩
   |cons e l ih =>
    intro n hl;obtain⟨us',h1,h2⟩:=hl e aj;obtain⟨r,hr,hiff⟩:=vV hs h1;have heq:(Op.equal T v e.key).run P w=.ok r w:=qO hT0 hr hx h2;have hkey:r=true↔e.key=v:=by
     rw[hiff,nl hs hx,nl h1 h2];constructor
     .intro h;rw[h]
     .intro h;simp only[Value.agg.injEq]at h;have h:=congrArg Array.toList h;simp only[List.toList_toArray]at h;exact(uz h1 hs h).symm
    cases r with
    |true=>exact .inr ⟨0,e,by simp[Instr.findAsking,heq],rfl,hkey.1 rfl,fun i e' hi=>by omega⟩
    |false =>
     have hne:e.key≠v:=fun h=>by have:=hkey.2 h;cases this
     rcases ih (n+1) (fun e he=>hl e (by simp[he])) with⟨g1,g2⟩|⟨j,e',g1,g2,g3,g4⟩
     .refine .inl ⟨by simp[Instr.findAsking,heq,g1],fun x hx=>?_⟩;rcases cw.1 hx with rfl|hx
      .exact hne
      .exact g2 x hx
     .refine .inr ⟨j+1,e',by simp only[Instr.findAsking,Sem.run_bind,heq,Result.andThen_ok,cF,if_false,g1];rw[show n+1+j=n+(j+1) by omega],by simpa using g2,g3,fun i x hi hxi=>?_⟩;cases i with
      |zero=>simp at hxi;subst hxi;exact hne
      |succ i=>exact g4 i x J (by simpa using hxi)
  have hfind:(Instr.findKey T v es).run P w=(Instr.findAsking T v es 0).run P w:=by
   cases es with
   |nil=>simp[Instr.findKey,run_underlying hu,Result.andThen,Instr.findNow,Instr.findAsking]
   |cons e es =>
    have:Instr.findNow (.struct fs) v (e::es) 0=none:=by simp[Instr.findNow,Instr.sameNow]
    simp[Instr.findKey,run_underlying hu,Result.andThen,this]
  rw[hfind];rcases ask es 0 hes with h|⟨j,e,g1,g2,g3,g4⟩
  .exact .inl h
  .exact .inr ⟨j,e,by rw[g1,aG],g2,g3,g4⟩
 .cases hT
end
end Go.Pv
namespace Go.Pv
open Go.RowKit Go.MapKept Go.ChangeMaps
def AV:PV->PV->Bool
 |.int _ a,.int _ b=>decide (a=b)
 |.str a,.str b=>decide (a=b)
 |.bool a,.bool b=>a==b
 |_,_=>false
def xN:List PV->List PV->Bool
 |[],[]=>true
 |a::as,b::bs=>AV a b&&xN as bs
 |_,_=>false
def FC:PV->PV->Bool
 |.agg as,.agg bs=>xN as bs
 |a,b=>AV a b
def uL (k:PV):List PV->Bool
 |c::_=>FC c k
 |[]=>false
def iD (k:PV):List (List PV)->Option Nat
 |[]=>none
 |row::rows=>bif uL k row then some 0 else(iD k rows).map (·+1)
def Sh.key:Sh->PV->Bool
 |.int k,.int k' _=>decide (k=k')
 |.str,.str _=>true
 |.bool,.bool _=>true
 |_,_=>false
def jX (sh:Sh)(rows:List (List PV)):Bool:=rows.all fun row=>match row with|c::_=>sh.key c|[]=>false
theorem qy {key:PV}:∀ {rows:List (List PV)} {i:Nat},iD key rows=some i->i<rows.length
 |[],i,h=>by simp[iD]at h
 |row::rows,i,h=>by
  simp only[iD]at h;cases hb:uL key row with
  |true=>rw[hb]at h;simp at h;subst h;simp
  |false =>
   rw[hb]at h;simp only[cond_false,jk]at h;obtain⟨j,hj,rfl⟩:=h;have:=qy hj;simp;omega
theorem iM {d:TypeDesc}{sh:Sh}{c:PV}{v:Value}{E:Env}(hf:sh.fits d=true)(hk:sh.key c=true)(hr:Rep E c v):IsKey d v:=by
 cases sh<;>cases c<;>simp only[Sh.key,cF]at hk<;>cases d<;>simp only[Sh.fits,cF]at hf
 .rw[hr.int_inv];have h1:=bK hf;have h2:=bK hk;subst h1;subst h2;simp[IsKey]
 .rw[hr.str_inv];simp[IsKey]
 .rw[hr.bool_inv];simp[IsKey]
theorem vM {sh:Sh}{c k:PV}{v u:Value}{E:Env}(h1:sh.key c=true)(h2:sh.key k=true)(r1:Rep E c v)(r2:Rep E k u):FC c k=true↔v=u:=by
 cases sh<;>cases c<;>simp only[Sh.key,cF]at h1<;>cases k<;>simp only[Sh.key,cF]at h2
 .rw[r1.int_inv,r2.int_inv];have e1:=bK h1;have e2:=bK h2;subst e1;subst e2;simp[FC,AV]
 .rw[r1.str_inv,r2.str_inv];simp[FC,AV]
 .rw[r1.bool_inv,r2.bool_inv];simp[FC,AV]
theorem qz {E:Env}{sh:Sh}{key:PV}{kv:Value}(hk:sh.key key=true)(hr:Rep E key kv):∀(rows:List (List PV)) (es:List MapEntry),jX sh rows=true->rows.length=es.length ->
  (∀(i:Nat) (row:List PV) (c:PV) (e:MapEntry),rows[i]?=some row->row[0]?=some c->es[i]?=some e->Rep E c e.key) ->
  (iD key rows=none->∀e∈es,e.key≠kv)/\(∀i,iD key rows=some i->(∃e,es[i]?=some e/\e.key=kv)/\∀j e,j<i->es[j]?=some e->e.key≠kv)
 |[],es,_,hl,_=>by
  have:es=[]:=dO (by simpa using hl.symm);subst this;exact⟨fun _ e he=>by simp at he,fun i h=>by simp[iD]at h⟩
 |row::rows,es,hrows,hl,hd=>by
  cases es with
  |nil=>simp at hl
  |cons e es =>
   simp only[jX,kH,bj]at hrows;obtain⟨ih1,ih2⟩:=qz hk hr rows es hrows.2 (by simpa using hl) (fun i row c e e1 e2 e3=>hd (i+1) row c e (by simpa using e1) e2 (by simpa using e3));cases row with
   |nil=>simp at hrows
   |cons c row =>
    have h0:=vM (E:=E) (by simpa using hrows.1) hk (hd 0 (c::row) c e O O O) hr;cases hq:FC c key with
    |true =>
     have he:=h0.1 hq;refine⟨fun h=>by simp[iD,uL,hq]at h,fun i h=>?_⟩;simp[iD,uL,hq]at h;subst h;exact⟨⟨e,O,he⟩,fun j e' hj _=>by omega⟩
    |false =>
     have he:e.key≠kv:=fun q=>by have:=h0.2 q;rw[hq]at this;cases this
     refine⟨fun h e' he'=>?_,fun i h=>?_⟩
     .simp[iD,uL,hq]at h;rcases cw.1 he' with rfl|he'
      .exact he
      .exact ih1 h e' he'
     .simp only[iD,uL,hq,cond_false,jk]at h;obtain⟨i',h1,rfl⟩:=h;obtain⟨⟨e',f1,f2⟩,f3⟩:=ih2 i' h1;refine⟨⟨e',by simpa using f1,f2⟩,fun j e'' hj hje=>?_⟩;cases j with
      |zero=>simp at hje;subst hje;exact he
      |succ j=>exact f3 j e'' J (by simpa using hje)
theorem iZ {d:TypeDesc}{kv:Value}(hk:IsKey d kv):∀(l:List MapEntry) (n j i:Nat) (e e':MapEntry),(∀x∈l,IsKey d x.key)->l[i]?=some e->e.key=kv->i<j->Instr.findNow d kv l n≠some (some (n+j,e'.val))
 |[],n,j,i,e,e',_,hl,_,_,_=>by simp at hl
 |q::l,n,j,i,e,e',hq,hl,he,hij,hfn=>by
  obtain⟨rr,hrr,hiff⟩:=sameNow_of_keys hk (hq q (.head _));cases rr with
  |true=>simp[Instr.findNow,hrr]at hfn;omega
  |false =>
   cases i with
   |zero=>simp at hl;subst hl;have:=hiff.2 he.symm;cases this
   |succ i =>
    simp only[Instr.findNow,hrr]at hfn;exact iZ hk l (n+1) (j-1) i e e' (fun x hx=>hq x (.tail _ hx)) (by simpa using hl) he J (by rw[hfn];congr 3;omega)
theorem vO {sh:Sh}{rows:List (List PV)}(h:jX sh rows=true){i:Nat}{row:List PV}{c:PV}(e1:rows[i]?=some row)(e2:row[0]?=some c):sh.key c=true:=by
 have:=bx.1 h row (bG e1);cases row with
 |nil=>simp at e2
 |cons c' row=>simp at e2;subst e2;exact this
theorem rZ:∀ {ks:List Sh} {us vs:List PV},nZ ks us=true->nZ ks vs=true->(xN us vs=true↔us=vs)
 |ks,[],[],_,_=>by simp[xN]
 |ks,[],v::vs,_,_=>by simp[xN]
 |ks,u::us,[],_,_=>by simp[xN]
 |ks,u::us,v::vs,h1,h2=>by
  obtain⟨k,ks',rfl,g1,g2⟩:=dM h1;obtain⟨k2,ks2,hk,g3,g4⟩:=dM h2;cases hk;have ih:=rZ g1 g3;rcases g2 with⟨q,n,rfl,rfl⟩|⟨b,rfl,rfl⟩|⟨s,rfl,rfl⟩<;>rcases g4 with⟨q',n',hk',rfl⟩|⟨b',hk',rfl⟩|⟨s',hk',rfl⟩<;>(try cases hk')<;>simp[xN,AV,ih]
def mE (sh:Sh)(kk:Option (List Sh))(c:PV):Bool:=match kk with
 |none=>sh.key c
 |some ks=>match c with | .agg us=>nZ ks us | _=>false
def jY (sh:Sh)(kk:Option (List Sh))(rows:List (List PV)):Bool:=rows.all fun row=>match row with|c::_=>mE sh kk c|[]=>false
def y5 (P:Program)(K:TypeId)(kk:Option (List Sh)):Bool:=match kk with
 |none=>true
 |some ks=>CC P K ks
theorem AW {sh:Sh}{kk:Option (List Sh)}{rows:List (List PV)}(h:jY sh kk rows=true){i:Nat}{row:List PV}{c:PV}(e1:rows[i]?=some row)(e2:row[0]?=some c):mE sh kk c=true:=by
 have:=bx.1 h row (bG e1);cases row with
 |nil=>simp at e2
 |cons c' row=>simp at e2;subst e2;exact this
theorem AX {sh:Sh}{kk:Option (List Sh)}{c k:PV}{v u:Value}{E:Env}(h1:mE sh kk c=true)(h2:mE sh kk k=true)(r1:Rep E c v)(r2:Rep E k u):FC c k=true↔v=u:=by
 cases kk with
 |none=>exact vM h1 h2 r1 r2
 |some ks =>
  cases c<;>simp only[mE,cF]at h1;cases k<;>simp only[mE,cF]at h2;rw[nl h1 r1,nl h2 r2,FC,rZ h1 h2];constructor
  .intro h;rw[h]
  .intro h;simp only[Value.agg.injEq]at h;have h:=congrArg Array.toList h;simp only[List.toList_toArray]at h;exact uz h1 h2 h
theorem r8 {E:Env}{sh:Sh}{kk:Option (List Sh)}{key:PV}{kv:Value}(hk:mE sh kk key=true)(hr:Rep E key kv):∀(rows:List (List PV)) (es:List MapEntry),jY sh kk rows=true->rows.length=es.length ->
  (∀(i:Nat) (row:List PV) (c:PV) (e:MapEntry),rows[i]?=some row->row[0]?=some c->es[i]?=some e->Rep E c e.key) ->
  (iD key rows=none->∀e∈es,e.key≠kv)/\(∀i,iD key rows=some i->(∃e,es[i]?=some e/\e.key=kv)/\∀j e,j<i->es[j]?=some e->e.key≠kv)
 |[],es,_,hl,_=>by
  have:es=[]:=dO (by simpa using hl.symm);subst this;exact⟨fun _ e he=>by simp at he,fun i h=>by simp[iD]at h⟩
 |row::rows,es,hrows,hl,hd=>by
  cases es with
  |nil=>simp at hl
  |cons e es =>
   simp only[jY,kH,bj]at hrows;obtain⟨ih1,ih2⟩:=r8 hk hr rows es hrows.2 (by simpa using hl) (fun i row c e e1 e2 e3=>hd (i+1) row c e (by simpa using e1) e2 (by simpa using e3));cases row with
   |nil=>simp at hrows
   |cons c row =>
    have h0:=AX (E:=E) (by simpa using hrows.1) hk (hd 0 (c::row) c e O O O) hr;cases hq:FC c key with
    |true =>
     have he:=h0.1 hq;refine⟨fun h=>by simp[iD,uL,hq]at h,fun i h=>?_⟩;simp[iD,uL,hq]at h;subst h;exact⟨⟨e,O,he⟩,fun j e' hj _=>by omega⟩
    |false =>
     have he:e.key≠kv:=fun q=>by have:=h0.2 q;rw[hq]at this;cases this
     refine⟨fun h e' he'=>?_,fun i h=>?_⟩
     .simp[iD,uL,hq]at h;rcases cw.1 he' with rfl|he'
      .exact he
      .exact ih1 h e' he'
     .simp only[iD,uL,hq,cond_false,jk]at h;obtain⟨i',h1,rfl⟩:=h;obtain⟨⟨e',f1,f2⟩,f3⟩:=ih2 i' h1;refine⟨⟨e',by simpa using f1,f2⟩,fun j e'' hj hje=>?_⟩;cases j with
      |zero=>simp at hje;subst hje;exact he
      |succ j=>exact f3 j e'' J (by simpa using hje)
theorem C8 {P:Program}{L:b9}{E:Env}{w:World}(hL:iW P L){K:TypeId}{rk:LRow}{kk:Option (List Sh)}{key:PV}{kv:Value}(hrk:L K=some rk)(hg:y5 P K kk=true)(hky:mE rk.sh kk key=true)(hr:Rep E key kv)
  {rows:List (List PV)} {es:Array MapEntry} (hkeys:jY rk.sh kk rows=true) (f2:rows.length=es.size) (f3:∀row∈rows,row.length=2)
  (f5:∀(i:Nat) (row:List PV) (c:PV) (e:MapEntry),rows[i]?=some row->row[0]?=some c->es[i]?=some e->Rep E c e.key) :
  (∀em,(Instr.checkKey em 10000 K kv).run P w=.ok () w)/\(Instr.keyThatStays kv kv).run P w=.ok kv w /\
  (((Instr.findKey K kv es.toList).run P w=.ok none w/\iD key rows=none)\/∃j e,(Instr.findKey K kv es.toList).run P w=.ok (some (j,e.val)) w/\es[j]?=some e/\e.key=kv/\iD key rows=some j):=by
 obtain⟨m1,m2⟩:=r8 hky hr rows es.toList hkeys (by simpa using f2) (fun i row c e e1 e2 e3=>f5 i row c e e1 e2 (by simpa using e3));have hks:∀e∈es.toList,∃c,mE rk.sh kk c=true/\Rep E c e.key:=fun e he=>by
  obtain⟨j,hj,rfl⟩:=fc he;have hj':j<rows.length:=by rw[f2];simpa using hj
  have h2:=f3 rows[j] aj;obtain⟨c0,hc0⟩:∃c0,rows[j][0]?=some c0:=⟨rows[j][0],by simp[h2]⟩;exact⟨c0,AW hkeys (aQ hj') hc0,f5 j _ c0 _ (aQ hj') hc0 aj⟩
 have fin:∀ {r:Option (Nat × Value)},(r=none->∀e∈es.toList,e.key≠kv)->(∀j v,r=some (j,v)->∃e,es.toList[j]?=some e/\e.key=kv/\v=e.val/\∀i e',i<j->es.toList[i]?=some e'->e'.key≠kv)->(Instr.findKey K kv es.toList).run P w=.ok r w ->
   (((Instr.findKey K kv es.toList).run P w=.ok none w/\iD key rows=none)\/∃j e,(Instr.findKey K kv es.toList).run P w=.ok (some (j,e.val)) w/\es[j]?=some e/\e.key=kv/\iD key rows=some j):=by
  intro r h1 h2 hrun;cases r with
  |none =>
   refine .inl ⟨hrun,?_⟩;cases hm:iD key rows with
   |none=>rfl
   |some i =>
    obtain⟨⟨e,g1,g2⟩,_⟩:=m2 i hm;exact absurd g2 (h1 O e (bG g1))
  |some p =>
   obtain⟨j,v⟩:=p;obtain⟨e,g1,g2,rfl,g4⟩:=h2 j v O;refine .inr ⟨j,e,hrun,by simpa using g1,g2,?_⟩;cases hm:iD key rows with
   |none=>exact absurd g2 (m1 hm e (bG g1))
   |some i =>
    obtain⟨⟨e',q1,q2⟩,q3⟩:=m2 i hm;rcases jr j i with hlt|heq|hgt
    .exact absurd g2 (q3 j e hlt g1)
    .rw[heq]
    .exact absurd q2 (g4 i e' hgt q1)
 cases kk with
 |none =>
  obtain⟨ik,d,_,hd,_,_,hfit,_⟩:=LRow.spec (hL K rk hrk);have hk:=iM hfit hky hr;have hks':∀e∈es.toList,IsKey d e.key:=fun e he=>by
   obtain⟨c,h1,h2⟩:=hks e he;exact iM hfit h1 h2
  refine⟨fun em=>run_checkKey hd hk em 9999,run_keyThatStays hk,?_⟩;rcases findNow_spec hk es.toList 0 hks' with⟨h1,h2⟩|⟨j,e,h1,h2,h3⟩
  .exact fin (r:=none) (fun _=>h2) (fun j v h=>by cases h) (run_findKey hd h1)
  .refine fin (r:=some (0+j,e.val)) (fun h=>by cases h) (fun j' v h=>?_) (run_findKey hd h1);cases h;refine⟨e,by rw[aG];exact h2,h3,O,fun i e' hi hei hek=>?_⟩;rw[aG]at hi;exact iZ hk es.toList 0 j i e' e hks' hei hek hi h1
 |some ks =>
  have hT:CC P K ks=true:=hg;cases key<;>simp only[mE,cF]at hky;rename_i us;refine⟨fun em=>rE em hT hky hr,yp hky hr,?_⟩;rcases ut (w:=w) hT hky hr es.toList (fun e he=>by
   obtain⟨c,h1,h2⟩:=hks e he;cases c<;>simp only[mE,cF]at h1
   exact⟨_,h1,h2⟩) with⟨h1,h2⟩|⟨j,e,h1,h2,h3,h4⟩
  .exact fin (r:=none) (fun _=>h2) (fun j v h=>by cases h) h1
  .refine fin (r:=some (j,e.val)) (fun h=>by cases h) (fun j' v h=>?_) h1;cases h;exact⟨e,h2,h3,O,h4⟩
section
variable {P:Program}{L:b9}{C:Ctx}{γ:Nat->Option Nat}{s:St}{a:Act}{w w':World}
theorem pJ {T K V:TypeId}{r:LRow}(h:r.fits P T=true)(hs:r.sh=.map K V):P.underlying T=some (.map K V):=by
 obtain⟨i,d,_,hd,_,_,hf,_⟩:=LRow.spec h;rw[hs]at hf;cases d<;>simp[Sh.fits]at hf;obtain⟨rfl,rfl⟩:=hf;exact hd
structure Put (w w':World) (b:Nat):Prop where
 os:w'.os=w.os
 tape:w'.tape=w.tape
 output:w'.output=w.output
 size:w'.heap.size=w.heap.size
 other:∀b',b'≠b->w'.heap[b']? = w.heap[b']?
theorem zL (_h:Sim C γ s a w){k g b:Nat}{c c':Cont}(ho:s.own k=(g,some c))(hb:γ k=some b)(hn:∀cur,w.heap[b]? ≠ some (.cells cur c.ty (0,0)))(hp:Put w w' b)
  (h1:c'.ty=c.ty) (h2:c'.sz=c.sz) (h3:c.rows.length<=c'.rows.length):(ai C γ s w).Le (ai C γ (s.setOwn k g (some c')) w'):=by
 have hown:∀k' c'',((s.setOwn k g (some c')).own k').2=some c''->∃c3,(s.own k').2=some c3:=by
  intro k' c'' hc;by_cases hk:k'=k
  .subst hk;exact⟨c,by rw[ho]⟩
  .rw[ar hk]at hc;exact⟨c'',hc⟩
 have hok:∀b',fu C γ s w b'->fu C γ (s.setOwn k g (some c')) w' b':=by
  rintro b' ⟨f1,f2,f3⟩;exact⟨by rw[hp.size];exact f1,f2,fun k' c'' hc=>let ⟨c3,hc3⟩:=hown k' c'' hc;f3 k' c3 hc3⟩
 have hne:∀b',fu C γ s w b'->b'≠b:=fun b' hb' e=>hb'.2.2 k c (by rw[ho]) (by rw[e];exact hb);refine⟨hok,fun b' hb'=>⟨hb'.1,hok b' hb'.2⟩,fun b' hb'=>hb'.2,fun b' hb'=>?_,fun k'=>?_,fun k' l' _ hl=>?_,fun k' l' b' cur'' _ hl hb' hh'=>?_⟩
 .exact hp.other b' (hne b' hb')
 .show(s.own k').1<=((s.setOwn k g (some c')).own k').1;by_cases hk:k'=k
  .subst hk;rw[ah,ho];exact aH
  .rw[ar hk];exact aH
 .by_cases hk:k'=k
  .subst hk;simp only[ai,ah,ca,aJ]at hl;subst hl;exact⟨⟨γ k',c.ty,c.sz,c.rows.length⟩,by simp[ai,ho],O,h1,h2,h3⟩
  .simp only[ai,ar hk]at hl;exact⟨l',hl,O,O,O,aH⟩
 .refine⟨cur'',?_,O⟩;show w'.heap[b']? = _;have hne':b'≠b:=fun e=>by
   have hl2:∃c3,((s.setOwn k g (some c')).own k').2=some c3/\l'=⟨γ k',c3.ty,c3.sz,c3.rows.length⟩:=by
    simp only[ai,jk]at hl;obtain⟨c3,e1,e2⟩:=hl;exact⟨c3,e1,e2.symm⟩
   obtain⟨c3,e1,e2⟩:=hl2;obtain⟨c4,e3⟩:=hown k' c3 e1;have e5:γ k'=some b:=by rw[e2]at hb';rw[<-e];exact hb'
   have e4:k'=k:=_h.inj k' k c4 c b e3 (by rw[ho]) e5 hb;subst e4;rw[ah]at e1;simp at e1;subst e1;rw[e2]at hh';have hh':w.heap[b']?=some (.cells cur'' c'.ty (0,0)):=hh';rw[e,h1]at hh';exact hn _ hh'
  rw[hp.other b' hne'];exact hh'
theorem ui (_h:Sim C γ s a w){k g b:Nat}{c c':Cont}(ho:s.own k=(g,some c))(hb:γ k=some b)(hn:∀cur T f,w.heap[b]? ≠ some (.cells cur T f))(hp:Put w w' b)
  (h1:c'.ty=c.ty) (h2:c'.sz=c.sz) (h3:c.rows.length<=c'.rows.length):(ai C γ s w).Le (ai C γ (s.setOwn k g (some c')) w'):=zL _h ho hb (fun cur=>hn cur _ _) hp h1 h2 h3
theorem DD (h:Sim C γ s a w){k g b:Nat}{c c':Cont}(ho:s.own k=(g,some c))(hb:γ k=some b)(hn:∀cur,w.heap[b]? ≠ some (.cells cur c.ty (0,0)))(hp:Put w w' b)
  (h1:c'.ty=c.ty) (h2:c'.sz=c.sz) (h3:c.rows.length<=c'.rows.length) (hs:SiteOk (ai C γ (s.setOwn k g (some c')) w') (some b) c'):Sim C γ (s.setOwn k g (some c')) a w':=by
 have hle:=zL h ho hb hn hp h1 h2 h3;have hown:∀k' c'',((s.setOwn k g (some c')).own k').2=some c''->∃c3,(s.own k').2=some c3:=by
  intro k' c'' hc;by_cases hk:k'=k
  .subst hk;exact⟨c,by rw[ho]⟩
  .rw[ar hk]at hc;exact⟨c'',hc⟩
 refine⟨h.defers,h.size,fun r=>(h.regs r).mono hle,fun k' c'' hc=>?_,fun k1 k2 c1 c2 b' e1 e2 e3 e4=>?_,fun k' c'' b' e1 e2=>?_,?_,by rw[hp.size];exact h.top,fun c v hk=>(h.kept c v hk).mono hle⟩
 .by_cases hk:k'=k
  .subst hk;rw[ah]at hc;simp at hc;subst hc;rw[hb];exact hs
  .rw[ar hk]at hc;refine(h.sites k' c'' hc).mono hle fun b' hb'=>hp.other b' fun e=>?_;subst e;exact hk (h.inj k' k c'' c b' hc (by rw[ho]) hb' hb)
 .obtain⟨d1,f1⟩:=hown k1 c1 e1;obtain⟨d2,f2⟩:=hown k2 c2 e2;exact h.inj k1 k2 d1 d2 b' f1 f2 e3 e4
 .obtain⟨d1,f1⟩:=hown k' c'' e1;rw[hp.size];exact h.base k' d1 b' f1 e2
 .refine h.below.trans ⟨hp.os,hp.tape,hp.output,by rw[hp.size];exact aH,fun b' hb'=>hp.other b' fun e=>?_⟩;have:=(h.base k c b (by rw[ho]) hb).1;omega
theorem pz (h:Sim C γ s a w){k g b:Nat}{c c':Cont}(ho:s.own k=(g,some c))(hb:γ k=some b)(hn:∀cur T f,w.heap[b]? ≠ some (.cells cur T f))(hp:Put w w' b)
  (h1:c'.ty=c.ty) (h2:c'.sz=c.sz) (h3:c.rows.length<=c'.rows.length) (hs:SiteOk (ai C γ (s.setOwn k g (some c')) w') (some b) c'):Sim C γ (s.setOwn k g (some c')) a w':=DD h ho hb (fun cur=>hn cur _ _) hp h1 h2 h3 hs
theorem pw {b:Nat}{o o':Obj}(hb:w.heap[b]?=some o):Put w { w with heap:=w.heap.setIfInBounds b o' } b/\({ w with heap:=w.heap.setIfInBounds b o' }:World).heap[b]?=some o' :=
 ⟨⟨O,O,O,aj,fun b' hb'=>(heap_set hb).2 b' hb'⟩,(heap_set hb).1⟩
theorem Da {E:Env}(hf:∀b,E.okf b->E.ok b){k:Nat}{c:PV}{v:Value}(h:DRep E.w E.okf c v):KRep E k c v:=KRep.up hf (aF k) (k:=0) h
def ET (P:Program)(V:TypeId):Bool :=
 match P.info? V with
 |some i=>(match i.zero with|some v=>v.oneCell'|none=>false)
 |none=>false
theorem BX {V:TypeId}(h:ET P V=true):∀i,P.info? V=some i->∀zv,i.zero=some zv->zv.cells=#[zv]:=fun i hi zv hz=>by
 unfold ET at h;rw[hi]at h;simp only[hz]at h;exact iX h
theorem wX (h:Sim C γ s a w)(T:TypeId)(k:Nat) :
  Sim C (iV γ k (some w.heap.size)) (s.fin k ⟨T,0,[],0⟩) a (w.alloc (.map #[] 0))/\Rep (ai C (iV γ k (some w.heap.size)) (s.fin k ⟨T,0,[],0⟩) (w.alloc (.map #[] 0))) (.mp k ((s.own k).1+1)) (.map (some w.heap.size)):=by
 have ht:Turn C γ s w (w.alloc (.map #[] 0)) k (some w.heap.size):=Turn.alloc _ k;refine⟨ht.sim h ⟨(fun e=>by cases e),fun b' hb' _ _=>?_,(fun b' _ _ hk3=>by simp only at hk3;omega),(fun b' _ hz'=>by simp only at hz';omega)⟩,.mp ?_ fun _ l hl=>?_⟩
 .have hb':b'=w.heap.size:=(bk hb').symm;subst hb';exact⟨#[],0,bi _ _,O,(fun row hr=>by simp at hr),.nil 0,(fun i row c e e1=>by simp at e1),(fun i row c e e1=>by simp at e1)⟩
 .show _<=((s.fin k _).own k).1;rw[St.fin,ah];exact aH
 .simp only[ai,St.fin,ah,bZ,ca,aJ]at hl;subst hl;exact⟨O,w.heap.size,O,O⟩
def zI (rows:List (List PV)):List (List PV):=[.nil::rows.map .agg]
theorem BC (hL:iW P L)(h:Sim C γ s a w){T K V:TypeId}{r:LRow}{x:Operand}{rows:List (List PV)}(k:Nat)(hr:L T=some r)(hs:r.sh=.map K V)(hx:s.ev x=.mapd rows) :
  ∃w',(Instr.range T (a.eval x)).run P w=.ok (.pointer (some ⟨w.heap.size,0,none⟩)) w'/\Sim C (iV γ k (some w.heap.size)) (s.fin k ⟨T,0,zI rows,3⟩) a w' /\
   Rep (ai C (iV γ k (some w.heap.size)) (s.fin k ⟨T,0,zI rows,3⟩) w') (.mi k ((s.own k).1+1)) (.pointer (some ⟨w.heap.size,0,none⟩)):=by
 have hxr:=h.ev x;rw[hx]at hxr
 obtain⟨b,es,nn,hxv,hok,f1,f2,f3,f4,f5,f6⟩:∃(b:Nat) (es:Array MapEntry) (nn:Nat),a.eval x=.map (some b)/\fu C γ s w b/\w.heap[b]?=some (.map es nn)/\rows.length=es.size/\(∀row∈rows,row.length=2)/\BornOk 1 es nn /\
   (∀(i:Nat) (row:List PV) (c:PV) (e:MapEntry),rows[i]?=some row->row[0]?=some c->es[i]?=some e->DRep w (fu C γ s w) c e.key) /\
   (∀(i:Nat) (row:List PV) (c:PV) (e:MapEntry),rows[i]?=some row->row[1]?=some c->es[i]?=some e->DRep w (fu C γ s w) c e.val):=by
  generalize a.eval x=xv at hxr;cases hxr with
  |d hd=>cases hd with|mapd rows b es nn h1 h2 h3 h4 h5 h6 h7=>exact⟨b,es,nn,rfl,h1,h2,h3,h4,h5,h6,h7⟩
 have ht:Turn C γ s w (w.alloc (.mapIter (some b) nn #[] nn)) k (some w.heap.size):=Turn.alloc _ k;have hle:=ht.le h ⟨T,0,zI rows,3⟩;refine⟨w.alloc (.mapIter (some b) nn #[] nn),by rw[hxv];exact run_range_map w T K V b es nn (pJ (hL T r hr) hs) f1,ht.sim h ⟨(fun e=>by cases e),(fun b' _ _ hk3=>by simp only at hk3;omega),fun b' hb' _ _=>?_,(fun b' _ hz'=>by simp only at hz';omega)⟩,.mi ?_ fun _ l hl=>?_⟩
 .have hb':b'=w.heap.size:=(bk hb').symm;subst hb';have hfil:(es.filter fun e=>!(#[]:Array Nat).contains e.born)=es:=Array.filter_eq_self.2 (fun e _=>by simp);show sK _ _ _;refine⟨b,es,#[],nn,bi _ _,hle.ok b hok,hle.mapc b _ _ hok f1,f4,.nil,rows.map .agg,O,.inl O,by rw[hfil];simpa using f2,fun i c e e1 e2=>?_⟩;rw[hfil]at e2;rw[aV]at e1;cases hq:rows[i]? with
  |none=>rw[hq]at e1;simp at e1
  |some row =>
   rw[hq]at e1;simp at e1;subst e1;have h2:=f3 row (bG hq);obtain⟨ck,cv,rfl⟩:∃ck cv,row=[ck,cv]:=by
    match row,h2 with
    |[ck,cv],_=>exact⟨ck,cv,rfl⟩
   exact⟨ck,cv,O,hle.drep (f5 i _ ck e hq O e2),hle.drep (f6 i _ cv e hq O e2)⟩
 .show _<=((s.fin k _).own k).1;rw[St.fin,ah];exact aH
 .simp only[ai,St.fin,ah,bZ,ca,aJ]at hl;subst hl;exact⟨O,w.heap.size,O,O⟩
def gT (z key:PV)(rows:List (List PV)):PV:=match iD key rows with|some i=>(match rows[i]? with|some row=>row.getD 1 z|none=>z)|none=>z
def oI (key v:PV)(rows:List (List PV)):List (List PV):=match iD key rows with|some i=>(match rows[i]? with|some row=>rows.set i (row.set 1 v)|none=>rows)|none=>rows++[[key,v]]
theorem DV {E:Env}{b nn:Nat}{es:Array MapEntry}{rows:List (List PV)}(hL:iW P L){T K V:TypeId}{r rk rv:LRow}{z key:PV}{kv:Value}{ok:Bool}(hr:L T=some r)(hs:r.sh=.map K V)(hrk:L K=some rk)(hrv:L V=some rv)(hz:rv.zero=some [z])(hz1:ET P V=true)
  (f1:E.w.heap[b]?=some (.map es nn)) (f2:rows.length=es.size) (f3:∀row∈rows,row.length=2)
  (f5:∀(i:Nat) (row:List PV) (c:PV) (e:MapEntry),rows[i]?=some row->row[0]?=some c->es[i]?=some e->Rep E c e.key)
  (f6:∀(i:Nat) (row:List PV) (c:PV) (e:MapEntry),rows[i]?=some row->row[1]?=some c->es[i]?=some e->Rep E c e.val)
  (hky:rk.sh.key key=true) (hkrep:Rep E key kv) (hkeys:jX rk.sh rows=true) :
  ∃u,(Instr.lookup T (.map (some b)) kv ok).run P E.w=.ok u E.w/\Rep E (bif ok then .tup [gT z key rows,.bool (iD key rows).isSome] else gT z key rows) u:=by
 obtain⟨ik,d,_,hd,_,_,hfit,_⟩:=LRow.spec (hL K rk hrk);obtain⟨iv,dv,hiv,_,_,_,_,hzero⟩:=LRow.spec (hL V rv hrv);obtain⟨zv,z1,z2,z3,z4⟩:=hzero _ hz;have hcz:=BX hz1 iv hiv zv z1;have hzeq:=iT (z4 0 z zv O (by rw[hcz];rfl));have hk:=iM hfit hky hkrep;have hks:∀e∈es.toList,IsKey d e.key:=fun e he=>by
  obtain⟨j,hj,rfl⟩:=fc he;have hj':j<rows.length:=by rw[f2];simpa using hj
  have h2:=f3 rows[j] aj;obtain⟨c0,hc0⟩:∃c0,rows[j][0]?=some c0:=⟨rows[j][0],by simp[h2]⟩;exact iM hfit (vO hkeys (aQ hj') hc0) (f5 j _ c0 _ (aQ hj') hc0 aj)
 obtain⟨m1,m2⟩:=qz hky hkrep rows es.toList hkeys (by simpa using f2) (fun i row c e e1 e2 e3=>f5 i row c e e1 e2 (by simpa using e3));have hu:=pJ (hL T r hr) hs;have fin:∀(v:Value) (f:Bool) (p:PV),Rep E p v->Rep E (bif ok then .tup [p,.bool f] else p) (if ok then .tuple #[v,.bool f] else v):=by
  intro v f p hp;cases ok
  .exact hp
  .refine .tup [p,.bool f] [v,.bool f] O fun j c0 v0 g1 g2=>?_
   match j with
   |0=>simp at g1 g2;subst g1;subst g2;exact hp
   |1=>simp at g1 g2;subst g1;subst g2;exact .d (.bool _)
   |j+2=>simp at g1
 rcases findNow_spec hk es.toList 0 hks with⟨h1,h2⟩|⟨j,e,h1,h2,h3⟩
 .have hm:iD key rows=none:=by
   cases hm:iD key rows with
   |none=>rfl
   |some i =>
    obtain⟨⟨e,g1,g2⟩,_⟩:=m2 i hm;exact absurd g2 (h2 e (bG g1))
  refine⟨if ok then .tuple #[zv,.bool false] else zv,?_,?_⟩
  .simp only[Instr.lookup,Sem.run_bind,run_underlying hu,Result.andThen,MapKept.run_getObj_map f1,Sem.run_pure,run_checkKey hd hk,run_findKey hd h1,zeroValue,typeInfo,run_program,hiv,z1]
  .have hmv:gT z key rows=z:=by simp[gT,hm]
   rw[hmv,hm];exact fin zv false z (.d (hzeq _ _).1)
 .have hex:∃i,iD key rows=some i:=by
   cases hm:iD key rows with
   |none=>exact absurd h3 (m1 hm e (bG h2))
   |some i=>exact⟨i,rfl⟩
  obtain⟨i,hm⟩:=hex;obtain⟨⟨e',g1,g2⟩,g3⟩:=m2 i hm;have hji:j=i:=by
   rcases jr j i with hlt|heq|hgt
   .exact absurd h3 (g3 j e hlt h2)
   .exact heq
   .exact absurd h1 (iZ hk es.toList 0 j i e' e hks g1 g2 hgt)
  subst hji;have hlt:=qy hm;have hrow:rows[j]?=some rows[j]:=aQ hlt;have hl2:=f3 rows[j] aj;have hv1:rows[j][1]?=some (rows[j].getD 1 z):=by rw[cH,aQ J];rfl
  have hej:es[j]?=some e:=by simpa using h2
  refine⟨if ok then .tuple #[e.val,.bool true] else e.val,?_,?_⟩
  .simp only[Instr.lookup,Sem.run_bind,run_underlying hu,Result.andThen,MapKept.run_getObj_map f1,Sem.run_pure,run_checkKey hd hk,run_findKey hd h1]
  .have hmv:gT z key rows=rows[j].getD 1 z:=by simp only[gT,hm,hrow]
   rw[hmv,hm];exact fin e.val true _ (f6 j _ _ e hrow hv1 hej)
def Hw (P:Program)(V:TypeId)(z:PV):Prop:=∃iv zv,P.info? V=some iv/\iv.zero=some zv/\∀w ok,DRep w ok z zv
def BV:List PV->List Value->Bool
 |[],[]=>true
 |c::cs,v::vs=>Ip c v&&BV cs vs
 |_,_=>false
theorem sI:∀ {cs:List PV} {vs:List Value},BV cs vs=true->cs.length=vs.length/\∀(i:Nat) (c:PV) (v:Value),cs[i]?=some c->vs[i]?=some v->Ip c v=true
 |[],[],_=>⟨rfl,fun i c v h=>by simp at h⟩
 |[],_::_,h=>by simp[BV]at h
 |_::_,[],h=>by simp[BV]at h
 |c::cs,v::vs,h=>by
  simp only[BV,bj]at h;obtain⟨h1,h2⟩:=sI h.2;refine⟨by simp[h1],fun i c' v' e1 e2=>?_⟩;cases i with
  |zero=>simp at e1 e2;subst e1;subst e2;exact h.1
  |succ i=>exact h2 i c' v' (by simpa using e1) (by simpa using e2)
def GO (P:Program)(V:TypeId)(zs:List PV):Bool:=match P.info? V with
 |some i=>(match i.zero with|some (.agg vs)=>BV zs vs.toList | _=>false)
 |none=>false
theorem Jh {V:TypeId}{zs:List PV}(h:GO P V zs=true):Hw P V (.agg zs):=by
 unfold GO at h;split at h
 .rename_i i hi;split at h
  .rename_i vs hz;obtain⟨h1,h2⟩:=sI h;exact⟨i,_,hi,hz,fun w ok => .agg zs vs.toList h1 fun j c v e1 e2=>(iT (h2 j c v e1 e2) w ok).1⟩
  .cases h
 .cases h
theorem Bt {E:Env}{b nn:Nat}{es:Array MapEntry}{rows:List (List PV)}(hL:iW P L){T K V:TypeId}{r rk:LRow}{kk:Option (List Sh)}{z key:PV}{kv:Value}{ok:Bool}(hr:L T=some r)(hs:r.sh=.map K V)(hrk:L K=some rk)(hz:Hw P V z)
  (f1:E.w.heap[b]?=some (.map es nn)) (f2:rows.length=es.size) (f3:∀row∈rows,row.length=2)
  (f5:∀(i:Nat) (row:List PV) (c:PV) (e:MapEntry),rows[i]?=some row->row[0]?=some c->es[i]?=some e->Rep E c e.key)
  (f6:∀(i:Nat) (row:List PV) (c:PV) (e:MapEntry),rows[i]?=some row->row[1]?=some c->es[i]?=some e->Rep E c e.val)
  (hg:y5 P K kk=true) (hky:mE rk.sh kk key=true) (hkrep:Rep E key kv) (hkeys:jY rk.sh kk rows=true) :
  ∃u,(Instr.lookup T (.map (some b)) kv ok).run P E.w=.ok u E.w/\Rep E (bif ok then .tup [gT z key rows,.bool (iD key rows).isSome] else gT z key rows) u:=by
 obtain⟨iv,zv,hiv,z1,hzeq⟩:=hz;have hu:=pJ (hL T r hr) hs;obtain⟨k1,k2,k3⟩:=C8 (w:=E.w) hL hrk hg hky hkrep hkeys f2 f3 f5;have fin:∀(v:Value) (f:Bool) (p:PV),Rep E p v->Rep E (bif ok then .tup [p,.bool f] else p) (if ok then .tuple #[v,.bool f] else v):=by
  intro v f p hp;cases ok
  .exact hp
  .refine .tup [p,.bool f] [v,.bool f] O fun j c0 v0 g1 g2=>?_
   match j with
   |0=>simp at g1 g2;subst g1;subst g2;exact hp
   |1=>simp at g1 g2;subst g1;subst g2;exact .d (.bool _)
   |j+2=>simp at g1
 rcases k3 with⟨h1,hm⟩|⟨j,e,h1,hej,h3,hm⟩
 .refine⟨if ok then .tuple #[zv,.bool false] else zv,?_,?_⟩
  .simp only[Instr.lookup,Sem.run_bind,run_underlying hu,Result.andThen,MapKept.run_getObj_map f1,Sem.run_pure,k1,h1,zeroValue,typeInfo,run_program,hiv,z1]
  .have hmv:gT z key rows=z:=by simp[gT,hm]
   rw[hmv,hm];exact fin zv false z (.d (hzeq _ _))
 .have hlt:=qy hm;have hrow:rows[j]?=some rows[j]:=aQ hlt;have hl2:=f3 rows[j] aj;have hv1:rows[j][1]?=some (rows[j].getD 1 z):=by rw[cH,aQ J];rfl
  refine⟨if ok then .tuple #[e.val,.bool true] else e.val,?_,?_⟩
  .simp only[Instr.lookup,Sem.run_bind,run_underlying hu,Result.andThen,MapKept.run_getObj_map f1,Sem.run_pure,k1,h1]
  .have hmv:gT z key rows=rows[j].getD 1 z:=by simp only[gT,hm,hrow]
   rw[hmv,hm];exact fin e.val true _ (f6 j _ _ e hrow hv1 hej)
theorem yq (hL:iW P L)(h:Sim C γ s a w){T K V:TypeId}{r rk:LRow}{x y v:Operand}{k g kd:Nat}{c:Cont}(hr:L T=some r)(hs:r.sh=.map K V)(hrk:L K=some rk)(hx:s.ev x=.mp k g)(ho:s.own k=(g,some c))(hk1:c.kind<=kd)(hk3:kd<3)
  (hky:rk.sh.key (s.ev y)=true) (hkeys:jX rk.sh c.rows=true) (hkd:oS kd (s.ev v)=true) :
  ∃w',(Instr.mapUpdate T (a.eval x) (a.eval y) (a.eval v)).run P w=.ok () w'/\Sim C γ (s.setOwn k g (some ⟨c.ty,c.sz,oI (s.ev y) (gv kd (s.ev v)) c.rows,kd⟩)) a w':=by
 have hxr:=h.ev x;rw[hx]at hxr;obtain⟨hsz,b,hb,hxv⟩:=h.mp_at hxr ho;obtain⟨es,nn,f1,f2,f3,f4,f5,f6⟩:=(h.sites k c (by rw[ho])).mp b hb hsz J;have f1:w.heap[b]?=some (.map es nn):=f1;obtain⟨ik,d,_,hd,_,_,hfit,_⟩:=LRow.spec (hL K rk hrk);have hkrep:=h.ev y;have hk:=iM hfit hky hkrep;have hks:∀e∈es.toList,IsKey d e.key:=fun e he=>by
  obtain⟨j,hj,rfl⟩:=fc he;have hj':j<c.rows.length:=by rw[f2];simpa using hj
  have h2:=f3 c.rows[j] aj;obtain⟨c0,hc0⟩:∃c0,c.rows[j][0]?=some c0:=⟨c.rows[j][0],by simp[h2]⟩;exact iM hfit (vO hkeys (aQ hj') hc0) ((f5 j _ c0 _ (aQ hj') hc0 aj).rep aI)
 obtain⟨m1,m2⟩:=qz hky hkrep c.rows es.toList hkeys (by simpa using f2) (fun i row c e e1 e2 e3=>(f5 i row c e e1 e2 (by simpa using e3)).rep aI);have hu:=pJ (hL T r hr) hs;have hnc:∀cur T f,w.heap[b]? ≠ some (.cells cur T f):=fun cur T f e=>by rw[f1]at e;simp at e
 have vrep:=mD (k:=kd) aI hkd (h.ev v);have key0:∀ {kd:Nat},KRep (ai C γ s w) kd (s.ev y) (a.eval y):=by
  intro kd;have hd0:DRep w (ai C γ s w).okf (s.ev y) (a.eval y):=by
   generalize s.ev y=pk at hky hkrep;generalize rk.sh=shk at hky;cases shk<;>cases pk<;>simp only[Sh.key,cF]at hky
   .rw[hkrep.int_inv];exact .int _ _
   .rw[hkrep.str_inv];exact .str _
   .rw[hkrep.bool_inv];exact .bool _
  exact Da aI hd0
 rcases findNow_spec hk es.toList 0 hks with⟨h1,h2⟩|⟨j,e,h1,h2,h3⟩
 .have hm:iD (s.ev y) c.rows=none:=by
   cases hm:iD (s.ev y) c.rows with
   |none=>rfl
   |some i =>
    obtain⟨⟨e,g1,g2⟩,_⟩:=m2 i hm;exact absurd g2 (h2 e (bG g1))
  have hmp:oI (s.ev y) (gv kd (s.ev v)) c.rows=c.rows++[[s.ev y,gv kd (s.ev v)]]:=by simp only[oI,hm]
  rw[hmp];obtain⟨hp,hnew⟩:=pw (o' := .map (es.push { key:=a.eval y,val:=a.eval v,born:=nn }) (nn+1)) f1;have hl1:c.rows.length<=(c.rows++[[s.ev y,gv kd (s.ev v)]]).length:=aj;have hle:=ui (c':=⟨c.ty,c.sz,c.rows++[[s.ev y,gv kd (s.ev v)]],kd⟩) h ho hb hnc hp O O hl1;refine⟨_,?_,pz h ho hb hnc hp O O hl1 ⟨(fun e=>by cases e),fun b' hb' _ _=>?_,(fun b' _ _ hk3=>by simp only at hk3;omega),(fun b' _ hz'=>by simp only at hz';omega)⟩⟩
  .rw[hxv];simp only[Instr.mapUpdate,Sem.run_bind,run_underlying hu,Result.andThen,MapKept.run_getObj_map f1,run_checkKey hd hk,run_findKey hd h1,MapKept.run_setObj_map _ f1]
  .have hb':b'=b:=(bk hb').symm;subst hb';refine⟨_,_,hnew,by simp[f2],fun row hrow=>?_,(f4.up hk1).push _ O,fun i row c0 e e1 e2 e3=>?_,fun i row c0 e e1 e2 e3=>?_⟩
   .rcases fe.1 hrow with hrow|hrow
    .exact f3 row hrow
    .simp at hrow;subst hrow;rfl
   .rw[tv]at e3;rw[gl]at e1;split at e3
    .rename_i hi;subst hi;rw[if_neg J,f2,fU]at e1;simp at e1 e3;subst e1;subst e3;simp at e2;subst e2;exact key0.mono hle
    .rename_i hi;have hlt:i<es.size:=(eO e3).1;rw[if_pos J]at e1;exact((f5 i row c0 e e1 e2 e3).up aI hk1).mono hle
   .rw[tv]at e3;rw[gl]at e1;split at e3
    .rename_i hi;subst hi;rw[if_neg J,f2,fU]at e1;simp at e1 e3;subst e1;subst e3;simp at e2;subst e2;exact vrep.mono hle
    .rename_i hi;have hlt:i<es.size:=(eO e3).1;rw[if_pos J]at e1;exact((f6 i row c0 e e1 e2 e3).up aI hk1).mono hle
 .have hex:∃i,iD (s.ev y) c.rows=some i:=by
   cases hm:iD (s.ev y) c.rows with
   |none=>exact absurd h3 (m1 hm e (bG h2))
   |some i=>exact⟨i,rfl⟩
  obtain⟨i,hm⟩:=hex;obtain⟨⟨e',g1,g2⟩,g3⟩:=m2 i hm;have hji:j=i:=by
   rcases jr j i with hlt|heq|hgt
   .exact absurd h3 (g3 j e hlt h2)
   .exact heq
   .exact absurd h1 (iZ hk es.toList 0 j i e' e hks g1 g2 hgt)
  subst hji;rw[aG]at h1;have hlt:=qy hm;have hrow:c.rows[j]?=some c.rows[j]:=aQ hlt;have hrl:=f3 c.rows[j] aj;have hej:es[j]?=some e:=by simpa using h2
  have hmp:oI (s.ev y) (gv kd (s.ev v)) c.rows=c.rows.set j (c.rows[j].set 1 (gv kd (s.ev v))):=by simp only[oI,hm,hrow]
  rw[hmp];have hst:=run_keyThatStays (P:=P) (w:=w) hk;obtain⟨hp,hnew⟩:=pw (o' := .map (es.modify j fun e=>{ e with key:=a.eval y,val:=a.eval v }) nn) f1;have hl1:c.rows.length<=(c.rows.set j (c.rows[j].set 1 (gv kd (s.ev v)))).length:=aj;have hle:=ui (c':=⟨c.ty,c.sz,c.rows.set j (c.rows[j].set 1 (gv kd (s.ev v))),kd⟩) h ho hb hnc hp O O hl1;refine⟨_,?_,pz h ho hb hnc hp O O hl1 ⟨(fun e=>by cases e),fun b' hb' _ _=>?_,(fun b' _ _ hk3=>by simp only at hk3;omega),(fun b' _ hz'=>by simp only at hz';omega)⟩⟩
  .rw[hxv];simp only[Instr.mapUpdate,Sem.run_bind,run_underlying hu,Result.andThen,MapKept.run_getObj_map f1,run_checkKey hd hk,run_findKey hd h1,hej,ca,Option.getD_some,h3,hst,MapKept.run_setObj_map _ f1]
  .have hb':b'=b:=(bk hb').symm;subst hb';refine⟨_,_,hnew,by simp[f2],fun row' hr'=>?_,(f4.up hk1).modify j _ (fun _=>rfl),fun i row' c0 e e1 e2 e3=>?_,fun i row' c0 e e1 e2 e3=>?_⟩
   .rcases mG hr' with hr'|rfl
    .exact f3 row' hr'
    .simpa using hrl
   .rw[mI]at e3;split at e3
    .rename_i hij;subst hij;rw[hej]at e3;simp at e3;subst e3;rw[dl J]at e1;have e1:=bk e1;subst e1;rw[cV Y]at e2;have:=((f5 j _ c0 _ hrow e2 hej).up aI hk1).mono hle;rw[h3]at this;exact this
    .rename_i hij;rw[cV hij]at e1;exact((f5 i row' c0 e e1 e2 e3).up aI hk1).mono hle
   .rw[mI]at e3;split at e3
    .rename_i hij;subst hij;rw[hej]at e3;simp at e3;subst e3;rw[dl J]at e1;have e1:=bk e1;subst e1;rw[dl J]at e2;have e2:=bk e2;subst e2;exact vrep.mono hle
    .rename_i hij;rw[cV hij]at e1;exact((f6 i row' c0 e e1 e2 e3).up aI hk1).mono hle
theorem JX {E:Env}{blk:Option Nat}{c:Cont}(h:SiteOk E blk c){b:Nat}(hb:blk=some b)(hz:c.sz=0)(hk:c.kind=3):sK E b c.rows:=by
 have h1:=h.it b hb hz J;rw[hk]at h1;exact h1
theorem BA (h:Sim C γ s a w){x:Operand}{k g:Nat}{c:Cont}{ck cv:PV}{rem:List PV}(hx:s.ev x=.mi k g)(ho:s.own k=(g,some c))(hk3:c.kind=3)(hrows:c.rows=[.agg [ck,cv]::rem]) :
  ∃u,(Instr.entry (a.eval x)).run P w=.ok u w/\Rep (ai C γ s w) (.tup [ck,cv]) u:=by
 have hxr:=h.ev x;rw[hx]at hxr;obtain⟨hsz,b,hb,hxv⟩:=h.mi_at hxr ho;obtain⟨m,es,seen,nn,f1,hok,f2,f4,last',rem',hr',hlast,hlen,hd⟩:=JX (h.sites k c (by rw[ho])) hb hsz hk3;have f1:w.heap[b]?=some (.mapIter (some m) nn seen nn):=f1;have f2:w.heap[m]?=some (.map es nn):=f2;rw[hrows]at hr';simp at hr';obtain⟨rfl,rfl⟩:=hr';rcases hlast with hlast|⟨j,e,ck',cv',g1,g2,g3,g4,g5⟩
 .cases hlast
 .simp at g1;obtain⟨rfl,rfl⟩:=g1;have hfind:es.find? (fun q=>q.born==j)=some e:=by
   obtain⟨hm,hj⟩:=g3;obtain⟨i,hi,hie⟩:=fc hm;rw[Array.find?_eq_some_iff_getElem];have hi':i<es.size:=by simpa using hi
   refine⟨by simp[hj],i,hi',by simpa using hie,fun q hq=>?_⟩;have h5:=nO.1 f4.2.1 q i aX hi hq;rw[hie]at h5;have h6:es[q].born<e.born:=by simpa using h5
   have:es[q].born≠j:=J;simpa using this
  refine⟨.tuple #[e.key,e.val],?_,.tup [ck,cv] [e.key,e.val] O fun i c0 v0 q1 q2=>?_⟩
  .rw[hxv];simp only[Instr.entry,getObj,Sem.run_bind,Sem.run,f1,f2,Result.andThen,g2,hfind];simp
  .match i with
   |0=>simp at q1 q2;subst q1;subst q2;exact .d g4
   |1=>simp at q1 q2;subst q1;subst q2;exact .d g5
   |i+2=>simp at q1
theorem nk (h:Sim C γ s a w):Sim C γ s a w.drew:=h.ext (lC w)
theorem Em (h:Sim C γ s a w){x:Operand}{ty:TypeId}{k g:Nat}{c:Cont}{last:PV}{rem:List PV}(hx:s.ev x=.mi k g)(ho:s.own k=(g,some c))(hk3:c.kind=3)(hrows:c.rows=[last::rem]) :
  (rem=[]/\(Instr.next (a.eval x) false ty).run P w=.ok (.tuple #[.bool false]) w) \/
  ∃i ck cv uk uv w',rem[i]?=some (.agg [ck,cv])/\(Instr.next (a.eval x) false ty).run P w=.ok (.tuple #[.bool true,uk,uv]) w'/\Sim C γ (s.setOwn k g (some ⟨c.ty,c.sz,[.agg [ck,cv]::rem.eraseIdx i],3⟩)) a w' /\
   Rep (ai C γ (s.setOwn k g (some ⟨c.ty,c.sz,[.agg [ck,cv]::rem.eraseIdx i],3⟩)) w') ck uk/\Rep (ai C γ (s.setOwn k g (some ⟨c.ty,c.sz,[.agg [ck,cv]::rem.eraseIdx i],3⟩)) w') cv uv:=by
 have hxr:=h.ev x;rw[hx]at hxr;obtain⟨hsz,b,hb,hxv⟩:=h.mi_at hxr ho;obtain⟨m,es,seen,nn,f1,hok,f2,f4,last',rem',hr',_,hlen,hd⟩:=JX (h.sites k c (by rw[ho])) hb hsz hk3;have f1:w.heap[b]?=some (.mapIter (some m) nn seen nn):=f1;have f2:w.heap[m]?=some (.map es nn):=f2;have hrr:rem'=rem:=by rw[hrows]at hr';simp at hr';exact hr'.2.symm
 subst hrr;rcases run_next_at (P:=P) w ty b m nn nn seen es nn f1 f2 f4.1 (aH) with⟨h0,hrun⟩|⟨e,he,w1,hw1,hrun⟩
 .refine .inl ⟨dO (by rw[hlen];exact h0),by rw[hxv];exact hrun⟩
 .right;obtain⟨i,hi,hie⟩:=fc he;have hie':(es.filter fun e=>!seen.contains e.born)[i]?=some e:=by
   have:(leftOf es seen)[i]?=some e:=by rw[<-dq,aQ hi,hie]
   exact this
  have hi':i<rem'.length:=by rw[hlen];exact(eO hie').1
  obtain⟨ck,cv,hc,hck,hcv⟩:=hd i rem'[i] e (aQ hi') hie';have hs1:Sim C γ s a w1:=by
   rcases hw1 with rfl|rfl
   .exact h
   .exact nk h
  have f1':w1.heap[b]?=some (.mapIter (some m) nn seen nn):=by rcases hw1 with rfl|rfl<;>exact f1
  have f2':w1.heap[m]?=some (.map es nn):=by rcases hw1 with rfl|rfl<;>exact f2
  have hok':(ai C γ s w1).ok m:=by rcases hw1 with rfl|rfl<;>exact hok
  have hdr:∀ {c:PV} {v:Value},DRep w (fu C γ s w) c v->DRep w1 (fu C γ s w1) c v:=by
   intro c v hd;rcases hw1 with rfl|rfl
   .exact hd
   .exact(gJ (lC w) h.base).drep hd
  have hput:=pw (o' := .mapIter (some m) nn (seen.push e.born) nn) f1';have hnc:∀cur T f,w1.heap[b]? ≠ some (.cells cur T f):=fun cur T f q=>by rw[f1']at q;simp at q
  have hl1:c.rows.length<=[PV.agg [ck,cv]::rem'.eraseIdx i].length:=by rw[hrows];simp
  have hle:=ui (c':=⟨c.ty,c.sz,[.agg [ck,cv]::rem'.eraseIdx i],3⟩) hs1 ho hb hnc hput.1 O O hl1;refine⟨i,ck,cv,e.key,e.val,_,by rw[aQ hi',hc],by rw[hxv];exact hrun,pz hs1 ho hb hnc hput.1 O O hl1 ⟨(fun e=>by cases e),(fun b' _ _ hk3=>by simp only at hk3;omega),fun b' hb' _ _=>?_,(fun b' _ hz'=>by simp only at hz';omega)⟩,.d (hle.drep (hdr hck)),.d (hle.drep (hdr hcv))⟩;have hb':b'=b:=(bk hb').symm;subst hb';have hborn:∀(q:MapEntry),q∈es.toList->∀q'∈es.toList,q.born=q'.born->q=q':=by
   intro q hq q' hq' hqq;obtain⟨j,hj,rfl⟩:=fc hq;obtain⟨j',hj',rfl⟩:=fc hq';rcases jr j j' with hlt|heq|hgt
   .have:=nO.1 f4.2.1 j j' hj hj' hlt;omega
   .subst heq;rfl
   .have:=nO.1 f4.2.1 j' j hj' hj hgt;omega
  have hnodup:es.toList.Nodup:=f4.2.1.imp fun {a b} hab hE=>by subst hE;omega
  have hfl:(es.filter fun q=>!(seen.push e.born).contains q.born).toList=(es.filter fun q=>!seen.contains q.born).toList.eraseIdx i:=by
   have hL:((es.filter fun q=>!seen.contains q.born).toList).Nodup:=by
    rw[mK];exact List.Pairwise.filter _ hnodup
   have hsub:∀q∈(es.filter fun q=>!seen.contains q.born).toList,q∈es.toList:=fun q hq=>by rw[mK]at hq;exact(mP.1 hq).1
   have hmemE:e∈es.toList:=hsub e he;have h1:(es.filter fun q=>!(seen.push e.born).contains q.born).toList=(es.filter fun q=>!seen.contains q.born).toList.filter (fun q=>!decide (q.born=e.born)):=by
    rw[mK,mK,List.filter_filter];apply List.filter_congr;intro q hq;by_cases hqe:q.born=e.born<;>simp[hqe]
   have h2:∀(l:List MapEntry) (i:Nat) (hi:i<l.length),l.Nodup->(∀q∈l,q.born=e.born->q=e)->l[i]=e->l.filter (fun q=>!decide (q.born=e.born))=l.eraseIdx i:=by
    intro l
    induction l with
    |nil=>intro i hi;simp at hi
    |cons q l ih =>
     intro i hi hn hqb he';rw[kC]at hn;cases i with
     |zero =>
      simp at he';subst he';simp only[List.eraseIdx_cons_zero,List.filter_cons];rw[if_neg aj];rw[List.filter_eq_self];intro q' hq';have:q'.born≠q.born:=fun hh=>hn.1 (by rw[<-hqb q' (.tail _ hq') hh];exact hq');simpa using this
     |succ i =>
      simp only[List.getElem_cons_succ]at he';have hne:q.born≠e.born:=fun hh=>hn.1 (by rw[hqb q (.head _) hh,<-he'];exact tI _);simp only[List.eraseIdx_cons_succ,List.filter_cons];rw[if_pos (by simpa using hne),ih i (by simpa using hi) hn.2 (fun q' hq'=>hqb q' (.tail _ hq')) he']
   rw[h1];exact h2 _ i hi hL (fun q hq hqe=>hborn q (hsub q hq) e hmemE hqe) hie
  have hself:e∈es.toList/\e.born=e.born:=⟨by have:=he;rw[leftOf,mK]at this;exact(mP.1 this).1,O⟩;have hfl':∀j,(es.filter fun q=>!(seen.push e.born).contains q.born)[j]? = ((es.filter fun q=>!seen.contains q.born).toList.eraseIdx i)[j]? := fun j=>by rw[<-hfl,dq]
  show sK _ _ _;refine⟨m,es,seen.push e.born,nn,hput.2,hle.ok m hok',hle.mapc m _ _ hok' f2',f4,.agg [ck,cv],rem'.eraseIdx i,O,.inr ⟨e.born,e,ck,cv,O,aj,hself,hle.drep (hdr hck),hle.drep (hdr hcv)⟩,?_,fun j c' q e1 e2=>?_⟩
  .have:=congrArg List.length hfl;rw[jm]at this;rw[this,List.length_eraseIdx,List.length_eraseIdx,hlen];rfl
  .rw[hfl' j,List.getElem?_eraseIdx]at e2;rw[List.getElem?_eraseIdx]at e1;split at e1
   .rename_i hj;rw[if_pos hj,dq]at e2;obtain⟨ck',cv',g1,g2,g3⟩:=hd j c' q e1 e2;exact⟨ck',cv',g1,hle.drep (hdr g2),hle.drep (hdr g3)⟩
   .rename_i hj;rw[if_neg hj,dq]at e2;obtain⟨ck',cv',g1,g2,g3⟩:=hd (j+1) c' q e1 e2;exact⟨ck',cv',g1,hle.drep (hdr g2),hle.drep (hdr g3)⟩
end
end Go.Pv
namespace Go.Pv
open Go.RowKit
variable [Globs]
inductive Eff (P:Program) (L:b9) (s:St) (o:Oper):St->Prop
 |nils (e:TypeId) (sz kd:Nat) {x:Operand} {d:Nat} (ho:o.op=.move x\/o.op=.assign x) (hd:o.dst=some d) (hx:s.ev x=.nil):Eff P L s o ((s.fin d ⟨e,sz,[],kd⟩).putR d (.als d ((s.own d).1+1) 0 0))
 |box {T:TypeId} {x:Operand} {d:Nat} {Pr:Prop} (ho:o.op=.box T x) (hd:o.dst=some d) (h1:dR s (s.ev x).cells=some Pr) (h2:Pr) (h0:0<(s.ev x).cells.length) :
   Eff P L s o ((s.fin d ⟨T,(s.ev x).cells.length,[(s.ev x).cells],2⟩).putR d (.ptr d ((s.own d).1+1) 0 0))
 |alloc {T:TypeId} {r:LRow} {z:List PV} {d:Nat} (ho:o.op=.alloc T) (hd:o.dst=some d) (hr:L T=some r) (hz:r.zero=some z) (h0:0<z.length) :
   Eff P L s o ((s.fin d ⟨T,z.length,[z],2⟩).putR d (.ptr d ((s.own d).1+1) 0 0))
 |store {T:TypeId} {r:LRow} {x y:Operand} {k g i j:Nat} {c:Cont} {row:List PV} {Pr:Prop} (kd:Nat) (ho:o.op=.store T x y) (hd:o.dst=none) (hr:L T=some r) (hx:s.ev x=.ptr k g i j) (hown:s.own k=(g,some c))
   (hrow:c.rows[i]?=some row) (h1:dR s (s.ev y).cells=some Pr) (h2:Pr) (hsz:(s.ev y).cells.length=r.size) (hle:j+r.size<=row.length) (hk:c.kind<=kd) (hkd:(s.ev y).cells.all (oS kd)=true) :
   Eff P L s o (s.setOwn k g (some ⟨c.ty,c.sz,c.rows.set i (ma row j ((s.ev y).cells.map (gv kd))),kd⟩))
 |appN {T e:TypeId} {r re:LRow} {x y:Operand} {d:Nat} {rows2:List (List PV)} {k2:Nat} {Cd2:Prop} (ho:o.op=.call ⟨.builtin .append,#[x,y],#[T,T]⟩) (hd:o.dst=some d) (hr:L T=some r) (hs:r.sh=.sl e) (hre:L e=some re)
   (hz:re.zero.isSome=true) (hsz:0<re.size) (hx:s.ev x=.nil) (hq:lx s (s.ev y)=some (rows2,k2,Cd2)) (hc2:Cd2) (hlen:∀row∈rows2,row.length=re.size) (hb:rows2.length*re.bytes<=140737488355328) (h63:rows2.length<=9223372036854775807) :
   Eff P L s o ((s.fin d ⟨e,re.size,rows2,k2⟩).putR d (.als d ((s.own d).1+1) 0 rows2.length))
 |app {T e:TypeId} {r re:LRow} {x y:Operand} {d k g:Nat} {c:Cont} {m:Nat} {rows2:List (List PV)} {k2:Nat} {Cd2:Prop} (kd:Nat) (ho:o.op=.call ⟨.builtin .append,#[x,y],#[T,T]⟩) (hd:o.dst=some d) (hr:L T=some r) (hs:r.sh=.sl e) (hre:L e=some re)
   (hz:re.zero.isSome=true) (hsz:0<re.size) (hx:s.ev x=.als k g 0 m) (hown:s.own k=(g,some c)) (hm:m=c.rows.length) (hcs:c.sz=re.size) (hct:c.ty=e)
   (hq:lx s (s.ev y)=some (rows2,k2,Cd2)) (hc2:Cd2) (hlen:∀row∈rows2,row.length=re.size) (hk1:c.kind<=kd) (hk2:k2<=kd) (hb:(c.rows.length+rows2.length)*re.bytes<=140737488355328) (h63:c.rows.length+rows2.length<=9223372036854775807) :
   Eff P L s o ((s.fin k ⟨e,re.size,c.rows++rows2,kd⟩).putR d (.als k (g+1) 0 (c.rows++rows2).length))
 |make {T e:TypeId} {r re:LRow} {l c:Operand} {kl kc:IntKind} {n m:Int} {z:List PV} {d:Nat} (ho:o.op=.makeSlice T l c) (hd:o.dst=some d) (hr:L T=some r) (hs:r.sh=.sl e) (hre:L e=some re) (hz:re.zero=some z) (hsz:0<re.size)
   (hl:s.ev l=.int kl n) (hc:s.ev c=.int kc m) (h0:0<=n) (hnm:n<=m) (hb:(re.bytes:Int)*m<=140737488355328) (h63:m<=9223372036854775807) :
   Eff P L s o ((s.fin d ⟨e,re.size,List.replicate n.toNat z,0⟩).putR d (.als d ((s.own d).1+1) 0 (List.replicate n.toNat z).length))
 |slit {T e:TypeId} {r re:LRow} {n d:Nat} {parts:Array (Nat × Operand)} {Pr:Prop} (kd:Nat) (ho:o.op=.buildSlice T n parts) (hd:o.dst=some d) (hr:L T=some r) (hs:r.sh=.sl e) (hre:L e=some re) (hz:re.zero.isSome=true) (hsz:0<re.size)
   (hn:parts.toList.map (·.1)=List.range n) (hN:n*re.size<=16777216) (hcells:∀p∈parts.toList,(s.ev p.2).cells.length=re.size)
   (h1:dR s (parts.toList.flatMap fun p=>(s.ev p.2).cells)=some Pr) (h2:Pr) (hkd:(parts.toList.flatMap fun p=>(s.ev p.2).cells).all (oS kd)=true) :
   Eff P L s o ((s.fin d ⟨e,re.size,parts.toList.map fun p=>(s.ev p.2).cells.map (gv kd),kd⟩).putR d (.als d ((s.own d).1+1) 0 (parts.toList.map fun p=>(s.ev p.2).cells.map (gv kd)).length))
 |makeMap {T d:Nat} (ho:o.op=.makeMap T none) (hd:o.dst=some d):Eff P L s o ((s.fin d ⟨T,0,[],0⟩).putR d (.mp d ((s.own d).1+1)))
 |mapSet {T K V:TypeId} {r rk:LRow} {x y v:Operand} {k g:Nat} {c:Cont} (kd:Nat) (ho:o.op=.mapUpdate T x y v) (hd:o.dst=none) (hr:L T=some r) (hs:r.sh=.map K V) (hrk:L K=some rk) (hx:s.ev x=.mp k g) (hown:s.own k=(g,some c)) (hk1:c.kind<=kd) (hk3:kd<3)
   (hky:rk.sh.key (s.ev y)=true) (hkeys:jX rk.sh c.rows=true) (hkd:oS kd (s.ev v)=true):Eff P L s o (s.setOwn k g (some ⟨c.ty,c.sz,oI (s.ev y) (gv kd (s.ev v)) c.rows,kd⟩))
 |callO {fop:Operand} {args:Array Operand} {tys:Array TypeId} {f:FuncId} {caps pargs:List PV} {Cd:Prop} {b:Fl} {T:TypeId} {sz d:Nat} {rows:List (List PV)} (ho:o.op=.call ⟨.value fop,args,tys⟩) (hd:o.dst=some d) (hf:s.ev fop=.clo f caps) (hret:RetO P f pargs T sz rows)
   (hres:fK (fJ s 4) (args.toList.map s.ev++caps)=some (pargs,Cd,b)) (hc:Cd):Eff P L s o ((s.fin d ⟨T,sz,rows,0⟩).putR d (.als d ((s.own d).1+1) 0 rows.length))
 |range {T K V:TypeId} {r:LRow} {x:Operand} {rows:List (List PV)} {d:Nat} (ho:o.op=.range T x) (hd:o.dst=some d) (hr:L T=some r) (hs:r.sh=.map K V) (hx:s.ev x=.mapd rows):Eff P L s o ((s.fin d ⟨T,0,zI rows,3⟩).putR d (.mi d ((s.own d).1+1)))
section
variable {P:Program}{L:b9}{C:Ctx}{γ:Nat->Option Nat}{s:St}{a:Act}{w w':World}
def SimE (C:Ctx)(s:St)(a:Act)(w:World):Prop:=∃γ,Sim C γ s a w
theorem rS {place:Nat->Option (Nat × Nat)}{size:Nat}(hpl:∀i,place i=some (i*size,size)):∀(parts:List (Nat × Value)) (k:Nat) (ws:List (List Value)) (pre:List Value) (post:List Value),
  parts.map (·.1)=(List.range parts.length).map (k+·)->pre.length=k*size->parts.length*size<=post.length->ws.length=parts.length ->
  (∀(i:Nat) (p:Nat × Value) (u:List Value),parts[i]?=some p->ws[i]?=some u->p.2.cells=u.toArray/\u.length=size) ->
  Instr.fill place (pre++post).toArray parts=some (pre++ws.flatten++post.drop (parts.length*size)).toArray
 |[],k,ws,pre,post,_,_,_,hw,_=>by
  have:ws=[]:=dO (by simpa using hw);subst this;simp[Instr.fill]
 |(i,v)::parts,k,ws,pre,post,hi,hpre,hpost,hw,hd=>by
  cases ws with
  |nil=>simp at hw
  |cons u ws =>
   obtain⟨h1,h2⟩:=hd 0 (i,v) u O O;simp only[eJ,db,tm,jg,List.cons.injEq,fB]at hi;obtain⟨rfl,hi⟩:=hi;have hpost':size+parts.length*size<=post.length:=by
    have:(parts.length+1)*size<=post.length:=by simpa using hpost
    rw[be,dH]at this;omega
   rw[nI (hpl i) u h1 h2 (by simp[hpre,h2];omega)];have e1:(pre++post).take (i*size)=pre:=by rw[<-hpre,pj]
   have e2:(pre++post).drop (i*size+u.length)=post.drop size:=by
    rw[List.drop_append,jZ (by rw[hpre];omega),kE,hpre,h2];congr 1;omega
   rw[e1,e2];have ih:=rS hpl parts (i+1) ws (pre++u) (post.drop size) (by rw[hi];apply cE;intro x _;simp;omega) (by simp[hpre,h2,be]) aX (by simpa using hw)
    (fun j p u' e1 e2=>hd (j+1) p u' (by simpa using e1) (by simpa using e2))
   rw[ih];congr 2;simp only[List.flatten_cons,bt,kF,eJ];congr 3;rw[be,dH,ic]
theorem oC:∀ {l1 l2:List PV} {Pr:Prop},dR s (l1++l2)=some Pr->Pr->(∃A,dR s l1=some A/\A)/\(∃B,dR s l2=some B/\B)
 |[],l2,Pr,h,hp=>⟨⟨True,rfl,bP⟩,⟨Pr,h,hp⟩⟩
 |c::l1,l2,Pr,h,hp=>by
  simp only[tG,dR]at h;split at h
  .rename_i A hA;split at h
   .rename_i B hB;have h':=bk h;subst h';obtain⟨⟨A',f1,f2⟩,g⟩:=oC hB hp.2;exact⟨⟨A/\A',by simp[dR,hA,f1],hp.1,f2⟩,g⟩
   .cases h
  .cases h
theorem sd:∀ {l:List (Nat × Operand)} {Pr:Prop},dR s (l.flatMap fun p=>(s.ev p.2).cells)=some Pr->Pr->∀p∈l,∃A,dR s (s.ev p.2).cells=some A/\A
 |[],_,_,_,_,hp=>by cases hp
 |q::l,Pr,h,hp,p,hm=>by
  rw[js]at h;obtain⟨h1,B,h2,h3⟩:=oC h hp;rcases cw.1 hm with rfl|hm
  .exact h1
  .exact sd h2 h3 p hm
theorem rU {E:Env}{k sz:Nat}:∀(rows:List (List PV)) (vals:List (List Value)),rows.length=vals.length->(∀row∈rows,row.length=sz) ->
  (∀(i:Nat) (row:List PV) (vs:List Value),rows[i]?=some row->vals[i]?=some vs->row.length=vs.length/\∀(j:Nat) (c:PV) (v:Value),row[j]?=some c->vs[j]?=some v->v.oneCell'=true/\KRep E k c v)->FlatRep E k sz rows vals.flatten
 |[],vals,hl,_,_=>by
  have:vals=[]:=dO (by simpa using hl.symm);subst this;exact FlatRep.nil E k sz
 |row::rows,vals,hl,hr,hd=>by
  cases vals with
  |nil=>simp at hl
  |cons vs vals =>
   have h0:=hd 0 row vs O O;have ih:=rU rows vals (by simpa using hl) (fun r hr'=>hr r (by simp[hr'])) (fun i r v e1 e2=>hd (i+1) r v (by simpa using e1) (by simpa using e2));have h1:FlatRep E k sz [row] vs:=by
    have hlr:=hr row aj;refine⟨by simp;omega,by simpa using hlr,fun i j r pv e1 e2=>?_⟩;cases i with
    |succ i=>simp at e1
    |zero =>
     simp at e1;subst e1;have hj:j<vs.length:=by rw[<-h0.1];exact(bD e2).1
     have:=h0.2 j pv vs[j] e2 (aQ hj);exact⟨vs[j],by simp[hj],this.1,this.2⟩
   exact h1.append ih
theorem n5 (hL:iW P L)(h:Sim C γ s a w){o:Oper}{T e:TypeId}{r re:LRow}{n:Nat}{parts:Array (Nat × Operand)}{Pr:Prop}(kd:Nat)(ho:o.op=.buildSlice T n parts)(hr:L T=some r)(hs:r.sh=.sl e)(hre:L e=some re)(hz:re.zero.isSome=true)(hsz:0<re.size)
  (hn:parts.toList.map (·.1)=List.range n) (hNs:n*re.size<=16777216) (hcells:∀p∈parts.toList,(s.ev p.2).cells.length=re.size)
  (h1:dR s (parts.toList.flatMap fun p=>(s.ev p.2).cells)=some Pr) (h2:Pr) (hkd:(parts.toList.flatMap fun p=>(s.ev p.2).cells).all (oS kd)=true) :
  ∃cur:Array Value,FlatRep (ai C γ s w) kd re.size (parts.toList.map fun p=>(s.ev p.2).cells.map (gv kd)) cur.toList/\(parts.toList.map fun p=>(s.ev p.2).cells.map (gv kd)).length<=maxLen /\
   (execOp a.eval o).run P w=.ok (.value (.slice (some ⟨w.heap.size,0,none⟩) (parts.toList.map fun p=>(s.ev p.2).cells.map (gv kd)).length (parts.toList.map fun p=>(s.ev p.2).cells.map (gv kd)).length)) (w.alloc (.cells cur e)):=by
 have wrapv:∀ {m:Sem Value} {v:Value} {w':World},m.run P w=.ok v w'->(do pure (Next.value (<-m)):Sem Next).run P w=.ok (.value v) w':=fun hm=>by simp[hm]
 obtain⟨i,dd,hi,hud,hisz,hiby,_,hzero⟩:=LRow.spec (hL e re hre);obtain⟨zv,z1,z2,z3,z4⟩:=hzero _ (Option.some_get hz).symm;have hu:=gZ (hL T r hr) hs;have hlen:parts.toList.length=n:=by have:=congrArg List.length hn;simpa using this
 have hp:∀p∈parts.toList,∃vs:List Value,(a.eval p.2).cells=vs.toArray/\(s.ev p.2).cells.length=vs.length/\(∀(i:Nat) (c:PV) (u:Value),(s.ev p.2).cells[i]?=some c->vs[i]?=some u->Rep (ai C γ s w) c u)/\∀u∈vs,u.oneCell'=true:=fun p hp=>by
  obtain⟨A,e1,e2⟩:=sd h1 h2 p hp;exact lF h.live (h.ev p.2) e1 e2
 let ws:List (List Value):=parts.toList.map fun p=>(a.eval p.2).cells.toList;have hflat:FlatRep (ai C γ s w) kd re.size (parts.toList.map fun p=>(s.ev p.2).cells.map (gv kd)) ws.flatten:=by
  refine rU _ _ (by simp[ws]) (fun row hr=>?_) fun i' row vs e1 e2=>?_
  .obtain⟨p,hp',rfl⟩:=bF.1 hr;simpa using hcells p hp'
  .rw[aV]at e1 e2;cases hx:parts.toList[i']? with
   |none=>rw[hx]at e1;simp at e1
   |some p =>
    rw[hx]at e1 e2;simp at e1 e2;subst e1;subst e2;have hmem:p∈parts.toList:=bG hx;obtain⟨vs,f1,f2,f3,f4⟩:=hp p hmem;rw[f1];refine⟨by simp[f2],fun j c v g1 g2=>?_⟩;rw[aV]at g1;cases hq:(s.ev p.2).cells[j]? with
    |none=>rw[hq]at g1;simp at g1
    |some q =>
     rw[hq]at g1;simp at g1 g2;subst g1;have hkq:oS kd q=true:=bx.1 hkd q (List.mem_flatMap.2 ⟨p,hmem,bG hq⟩);exact⟨f4 v (bG g2),mD aI hkq (f3 j q v hq g2)⟩
 have hmx:(parts.toList.map fun p=>(s.ev p.2).cells.map (gv kd)).length<=maxLen:=by
  have:n*1<=n*re.size:=cW _ hsz;simp[hlen,maxLen];omega
 refine⟨ws.flatten.toArray,by simpa using hflat,hmx,?_⟩;simp only[execOp,ho];refine wrapv ?_;have hfill:∀zc:Array Value,zc.size=n*re.size->Instr.fill (fun i=>some (i*re.size,re.size)) zc (parts.toList.map fun p=>(p.1,a.eval p.2))=some ws.flatten.toArray:=by
  intro zc y1
  have hfill:=rS (place:=fun i=>some (i*re.size,re.size)) (fun _=>rfl) (parts.toList.map fun p=>(p.1,a.eval p.2)) 0 ws [] zc.toList (by
    simp only[jg,aM,aG];rw[show(List.range parts.toList.length).map (fun x=>x)=List.range parts.toList.length by simp,hlen,<-hn]
    apply cE;intro p _;rfl) aj (by rw[aM,hlen,jm,y1];exact aH) (by simp[ws]) (fun i' p u e1 e2=>by
    simp only[ws]at e2;rw[aV]at e1 e2;cases hx:parts.toList[i']? with
    |none=>rw[hx]at e1;simp at e1
    |some q =>
     rw[hx]at e1 e2;simp at e1 e2;subst e1;subst e2;have hmem:q∈parts.toList:=bG hx;obtain⟨vs,f1,f2,_⟩:=hp q hmem;refine⟨aj,?_⟩
     rw[<-hcells q hmem,f2,f1])
  have hdrop:zc.toList.drop ((parts.toList.map fun p=>(p.1,a.eval p.2)).length*re.size)=[]:=jZ (by rw[aM,hlen,jm,y1];exact aH);rw[hdrop]at hfill;simp only[kE,cu]at hfill;rwa [show zc.toList.toArray=zc by simp]at hfill
 have hparts:(parts.map fun(i,x)=>(i,a.eval x)).toList=parts.toList.map fun p=>(p.1,a.eval p.2):=aj;have hn24:¬(n*re.size>2^24):=J;have hl2:(parts.toList.map fun p=>(s.ev p.2).cells.map (gv kd)).length=n:=by simp[hlen]
 rw[hl2];by_cases h00:n*re.size=0
 .simp only[Instr.buildSlice,Sem.run_bind,run_underlying hu,Result.andThen_ok,ec (hL e re hre),Sem.run_ite,Sem.run_pure,hparts,h00,if_true];have:=hfill ((Array.range 0).map (fun i=>(#[]:Array Value)[i%(#[]:Array Value).size]!)) (by simp[h00]);rw[this];simp[newRow]
 .simp only[Instr.buildSlice,Sem.run_bind,run_underlying hu,Result.andThen_ok,ec (hL e re hre),Sem.run_ite,if_neg hn24,Sem.run_pure,hparts,h00,if_false,zeroValue,typeInfo,run_program,hi,z1];have:=hfill ((Array.range (n*re.size)).map (fun i=>zv.cells[i%zv.cells.size]!)) aj;rw[this];simp[newRow]
theorem Eff.sound (hL:iW P L)(hX:∀b,C.X b->b<C.B)(hgl:∀w,Below C.B C.w0 w->Globs.glob w)(h:SimE C s a w){o:Oper}(hN:cT C.N o.dst=true){s':St}(hq:Eff P L s o s'){K:Act->World->Prop}{Q:Exit->Act->World->Prop}(hK:∀a' w',SimE C s' a' w'->K a' w'):o.wp P a w K Q:=by
 obtain⟨γ,h⟩:=h;have wrapv:∀ {m:Sem Value} {v:Value} {w':World},m.run P w=.ok v w'->(do pure (Next.value (<-m)):Sem Next).run P w=.ok (.value v) w':=fun hm=>by simp[hm]
 have done:∀ {γ':Nat->Option Nat} {s1:St} {d:Nat} {pv:PV} {v:Value} {w':World},(execOp a.eval o).run P w=.ok (.value v) w'->o.dst=some d->Sim C γ' s1 a w'->Rep (ai C γ' s1 w') pv v->s1.putR d pv=s'->o.wp P a w K Q:=by
  intro γ' s1 d pv v w' hrun hd hsim hrep heq;unfold Oper.wp;rw[hrun,Oper.upon_value,hd];refine hK _ _ ⟨γ',?_⟩;rw[<-heq];exact hsim.put (d:=some d) (by rw[<-hd];exact hN) hrep
 cases hq with
 |nils e sz kd ho hd hx =>
  rename_i x d;have hv:a.eval x=.slice none 0 0:=by
   have:=h.ev x;rw[hx]at this;exact this.nil_inv
  have ht:Turn C γ s w w d none:=⟨O,O,O,aH,fun b _ => .inl O,fun b hb=>by cases hb⟩;refine done (γ':=iV γ d none) (w':=w) (v := .slice none 0 0) ?_ hd (ht.sim h (.none_ O)) (.als ?_ fun _ l hl=>?_) O
  .rcases ho with ho|ho<;>simp[execOp,ho,hv]
  .show _<=((s.fin d _).own d).1;rw[St.fin,ah];exact aH
  .simp only[ai,St.fin,ah,bZ,ca,aJ]at hl;subst hl;exact .inl ⟨O,O,O,O⟩
 |box ho hd h1 h2 h0 =>
  rename_i T x d Pr;obtain⟨w',e1,e2,e3⟩:=yr (P:=P) (T:=T) (k:=d) h (h.ev x) h1 h2 h0;refine done (γ':=iV γ d (some w.heap.size)) (w':=w') (v := .pointer (some ⟨w.heap.size,0,none⟩)) ?_ hd e2 e3 O;simp only[execOp,ho];exact wrapv (by simp[Instr.box,e1])
 |alloc ho hd hr hz h0 =>
  rename_i T r z d;obtain⟨i,dd,hi,hud,hisz,hiby,_,hzero⟩:=LRow.spec (hL T r hr);obtain⟨zv,z1,z2,z3,z4⟩:=hzero z hz;have hrep:∀(i:Nat) (c:PV) (v:Value),z[i]?=some c->zv.cells.toList[i]?=some v->Rep (ai C γ s w) c v/\v.oneCell'=true:=fun i c v e1 e2=>by
   have:=iT (z4 i c v e1 (by simpa using e2)) w (fu C γ s w);exact⟨.d this.1,this.2⟩
  have ht:Turn C γ s w (w.alloc (.cells zv.cells T)) d (some w.heap.size):=Turn.alloc _ d;have hle:=ht.le h ⟨T,z.length,[z],2⟩
  refine done (γ':=iV γ d (some w.heap.size)) (w':=w.alloc (.cells zv.cells T)) (v := .pointer (some ⟨w.heap.size,0,none⟩)) ?_ hd (ht.sim h (SiteOk.row (vs:=zv.cells.toList) (by
    show(w.alloc (.cells zv.cells T)).heap[w.heap.size]? = _
    rw[bi]) (by simpa using z3) h0 (fun v hv=>?_) fun i c u f1 f2=>(hrep i c u f1 f2).1.mono hle)) (.ptr ?_ fun _ l hl=>?_) O
  .simp only[execOp,ho];refine wrapv ?_;simp[Instr.alloc,zeroValue,typeInfo,hi,z1,newVar,newRow]
  .obtain⟨i,hi',rfl⟩:=fc hv;have hzl:i<z.length:=by rw[z3];simpa using hi'
   exact(hrep i z[i] _ (aQ hzl) (aQ hi')).2
  .show _<=((s.fin d _).own d).1;rw[St.fin,ah];exact aH
  .simp only[ai,St.fin,ah,bZ,ca,aJ]at hl;subst hl;exact⟨w.heap.size,O,aj,aj,h0⟩
 |store kd ho hd hr hx hown hrow h1 h2 hsz hle hk hkd =>
  obtain⟨w',e1,e2⟩:=BD (P:=P) hL h hr hx hown hrow h1 h2 hsz hle hk hkd;unfold Oper.wp;have:(execOp a.eval o).run P w=.ok .skip w':=by
   simp only[execOp,ho];simp[e1]
  rw[this,Oper.upon_skip,hd];exact hK _ _ ⟨γ,e2⟩
 |appN ho hd hr hs hre hz hsz hx hq hc2 hlen hb h63 =>
  rename_i T e r re x y d rows2 k2 Cd2;have hxr:=h.ev x;rw[hx]at hxr;obtain⟨v',w',blk',e1,e2,e3⟩:=qT (P:=P) (ty:=o.type) (k:=d) (kd:=k2) (rows1:=[]) (k1:=0) (Cd1:=True) hL h hr hs hre hz hsz hxr (h.ev y) (.inl ⟨O,O,O⟩) trivial hq hc2 hlen (aF _) (aH) (by simpa using hb) (by simpa [maxLen] using h63);refine done (γ':=iV γ d blk') (w':=w') (v:=v') ?_ hd e2 e3 O;simp only[execOp,ho,resolve,invoke,builtin,Sem.run_bind,Sem.run_pure,Result.andThen_ok,pc,db,fC];rw[e1];rfl
 |app kd ho hd hr hs hre hz hsz hx hown hm hcs hct hq hc2 hlen hk1 hk2 hb h63 =>
  rename_i T e r re x y d k g c m rows2 k2 Cd2;have hxr:=h.ev x;rw[hx]at hxr;obtain⟨v',w',blk',e1,e2,e3⟩:=qT (P:=P) (ty:=o.type) (k:=k) (kd:=kd) (rows1:=c.rows) (k1:=c.kind) (Cd1:=(s.own k).1=g/\0=0/\m=c.rows.length) hL h hr hs hre hz hsz hxr (h.ev y)
   (.inr ⟨c,by simp[vm,hown],O,O,hcs,hct⟩) ⟨by rw[hown],O,hm⟩ hq hc2 hlen hk1 hk2 hb (by simpa [maxLen] using h63)
  refine done (γ':=iV γ k blk') (w':=w') (v:=v') ?_ hd e2 e3 (by rw[hown]);simp only[execOp,ho,resolve,invoke,builtin,Sem.run_bind,Sem.run_pure,Result.andThen_ok,pc,db,fC];rw[e1];rfl
 |make ho hd hr hs hre hz hsz hl hc h0 hnm hb h63 =>
  rename_i T e r re l c kl kc n m z d;obtain⟨i,dd,hi,hud,hisz,hiby,_,hzero⟩:=LRow.spec (hL e re hre);obtain⟨zv,z1,z2,z3,z4⟩:=hzero z hz;have hu:=gZ (hL T r hr) hs;have hlr:=h.ev l;rw[hl]at hlr;have hcr:=h.ev c;rw[hc]at hcr;have hrun:=run_make (P:=P) w T e i zv hu hi z1 kl kc n m h0 hnm (by rw[hiby];omega) h63;have hnm':n.toNat*re.size<=m.toNat*re.size:=cm _ J;have hflat:FlatRep (ai C γ s w) 0 re.size (List.replicate n.toNat z) ((madeCells zv.cells (m.toNat*i.size)).toList.take ((List.replicate n.toNat z).length*re.size)):=by
   have e0:(madeCells zv.cells (m.toNat*i.size)).toList.length=m.toNat*re.size:=by simp[size_madeCells,hisz]
   refine⟨by
    show(List.take _ _).length=(List.replicate n.toNat z).length*re.size
    rw[bI,e0,List.length_replicate];exact iy hnm',fun row hr=>?_,fun i' j row pv e1 e2=>?_⟩
   .rw[List.eq_of_mem_replicate hr,z3,z2]
   .have hi':i'<n.toNat:=by have:=(bD e1).1;simpa using this
    have hrow:row=z:=by rw[List.getElem?_replicate,if_pos hi']at e1;simpa using e1.symm
    subst hrow;have hj:j<re.size:=by have:=(bD e2).1;rw[z3,z2]at this;exact this
    have hmul:(i'+1)*re.size<=n.toNat*re.size:=cm _ hi';rw[be,dH]at hmul;have hjz:j<zv.cells.size:=by rw[z2];exact hj
    have hz4:=iT (z4 j pv zv.cells[j] e2 (cC hjz)) w (ai C γ s w).okf;refine⟨zv.cells[j],?_,hz4.2,hz4.1⟩;have hm:(i'*re.size+j)%zv.cells.size=j:=by rw[z2,b0,pe,cM hj]
    rw[bE,if_pos (by rw[List.length_replicate];omega)];simp only[madeCells,tJ,aV];rw[Array.toList_range,jl (by rw[hisz];omega)];simp[hm,hjz]
  have hmx:m.toNat<=maxLen:=by simp[maxLen];omega
  obtain⟨f1,f2⟩:=Be (T:=e) (k:=d) (cap:=m.toNat) (cur:=madeCells zv.cells (m.toNat*i.size)) h hsz hmx (by simp[size_madeCells,hisz]) aX hflat;refine done (γ':=iV γ d (some w.heap.size)) (w':=w.alloc (.cells (madeCells zv.cells (m.toNat*i.size)) e)) (v := .slice (some ⟨w.heap.size,0,none⟩) (List.replicate n.toNat z).length m.toNat) ?_ hd f1 f2 O;simp only[execOp,ho,hlr.int_inv,hcr.int_inv];exact wrapv (by rw[hrun];simp)
 |slit kd ho hd hr hs hre hz hsz hn hNs hcells h1 h2 hkd =>
  rename_i T e r re n d parts Pr;obtain⟨cur,g1,g2,g3⟩:=n5 (P:=P) hL h kd ho hr hs hre hz hsz hn hNs hcells h1 h2 hkd;obtain⟨f1,f2⟩:=Dm (T:=e) (k:=d) (cur:=cur) h hsz g2 g1;exact done (γ':=iV γ d (some w.heap.size)) g3 hd f1 f2 O
 |makeMap ho hd =>
  rename_i T d;obtain⟨e1,e2⟩:=wX h T d;refine done (γ':=iV γ d (some w.heap.size)) (w':=w.alloc (.map #[] 0)) (v := .map (some w.heap.size)) ?_ hd e1 e2 O;simp only[execOp,ho];exact wrapv (run_makeMap T w)
 |mapSet kd ho hd hr hs hrk hx hown hk1 hk3 hky hkeys hkd =>
  obtain⟨w',e1,e2⟩:=yq (P:=P) hL h hr hs hrk hx hown hk1 hk3 hky hkeys hkd;unfold Oper.wp;have:(execOp a.eval o).run P w=.ok .skip w':=by
   simp only[execOp,ho];simp[e1]
  rw[this,Oper.upon_skip,hd];exact hK _ _ ⟨γ,e2⟩
 |callO ho hd hf hret hres hc =>
  rename_i fop args tys f caps pargs Cd b T sz d rows;have hfv:=h.ev fop;rw[hf]at hfv;obtain⟨vs,hv,hl,hdv⟩:=hfv.clo_inv;have hspec:=iO (S:=Rep (ai C γ s w)) (R:=fun b=>DRep w (eF C γ s w b)) (fun b1 b2 c v=>⟨fun hd=>hd.weaken fun k=>fm.1,fun hd=>hd.weaken fun k=>fm.2⟩) (fun c d Cd b v e1 e2 e3=>iP hX h 4 c d Cd b v e1 e2 e3) _ _ _ _ (args.toList.map a.eval++vs) hres hc
   (by simp[hl]) (fun i c v e1 e2=>by
    rw[gl]at e1 e2;simp only[aM]at e1 e2;split at e1
    .rename_i hlt;rw[if_pos hlt]at e2;rw[aV]at e1 e2;cases hx:args.toList[i]? with
     |none=>rw[hx]at e1;simp at e1
     |some x=>rw[hx]at e1 e2;simp at e1 e2;subst e1;subst e2;exact h.ev x
    .rename_i hlt;rw[if_neg hlt]at e2
     exact hdv _ c v e1 e2)
  unfold Oper.wp;rw[ke (f:=f) ho hv hret.1,Oper.upon_enter];refine(hret.2 w (fun k=>k<w.heap.size/\¬eF C γ s w b k) _ (hgl _ h.below) (fun _ hb=>hb.1) hspec.1 (fun i c v e1 e2=>(hspec.2 i c v e1 e2).weaken fun k hk=>⟨hk.1,fun hn=>hn.2 hk⟩)).mono ?_;rintro e w' ⟨v,rfl,hbel,hov⟩;have main:∀(blk:Option Nat),(∀b,blk=some b->b<w'.heap.size/\w.heap.size<=b)->SiteOk (ai C (iV γ d blk) (s.fin d ⟨T,sz,rows,0⟩) w') blk ⟨T,sz,rows,0⟩->B4 w' ⟨blk,T,sz,rows.length⟩ 0 rows.length v->K (a.put o.dst v) w':=by
   intro blk hblk hsite hals;have ht:Turn C γ s w w' d blk:=⟨hbel.os,hbel.tape,hbel.output,hbel.size,fun b hb => .inl (hbel.block b hb),fun b hb=>⟨(hblk b hb).1,.inl (hblk b hb).2⟩⟩;have hsim:=ht.sim h hsite;rw[hd];refine hK _ _ ⟨_,hsim.put (d:=some d) (by rw[<-hd];exact hN) (.als ?_ fun _ l hl=>?_)⟩
   .show _<=((s.fin d _).own d).1;rw[St.fin,ah];exact aH
   .simp only[ai,St.fin,ah,bZ,ca,aJ]at hl;subst hl;exact hals
  rcases hov with⟨rfl,rfl⟩|⟨b,cap,cur,h1,rfl,h3,h4,h5,h6,h7,h8,h9,h10⟩
  .exact main none (fun b hb=>by cases hb) (.none_ O) (.inl ⟨O,O,O,O⟩)
  .have hb:b<w'.heap.size:=(eO h3).1;refine main (some b) (fun b' hb'=>by simp at hb';subst hb';exact⟨hb,h1⟩) ⟨(fun e=>by cases e),(fun b' _ hz=>by simp only at hz;omega),(fun b' _ hz=>by simp only at hz;omega),fun b' hb' _=>?_⟩ (.inr ⟨b,cap,cur,O,aj,h3,h4,h5,by simpa using h6,aj⟩);simp at hb';subst hb';refine⟨cur,h3,h7,h8,h9,fun i j row pv e1 e2=>?_⟩;obtain⟨u,u1,u2,u3⟩:=h10 i j row pv e1 e2;exact⟨u,u1,u2,u3 _ _⟩
 |range ho hd hr hs hx =>
  rename_i T K V r x rows d;obtain⟨w',e1,e2,e3⟩:=BC (P:=P) hL h d hr hs hx;refine done (γ':=iV γ d (some w.heap.size)) (w':=w') (v := .pointer (some ⟨w.heap.size,0,none⟩)) ?_ hd e2 e3 O;simp only[execOp,ho];exact wrapv e1
inductive Dem (P:Program) (L:b9) (s:St) (o:Oper) (K:St->Prop):Prop
 |next {x:Operand} {k g d:Nat} {c:Cont} {last:PV} {rem:List PV} (ho:o.op=.next x false) (hd:o.dst=some d) (hx:s.ev x=.mi k g) (hown:s.own k=(g,some c)) (hk3:c.kind=3) (hrows:c.rows=[last::rem])
   (h0:rem=[]->K (s.putR d (.tup [.bool false])))
   (h1:∀i ck cv,rem[i]?=some (.agg [ck,cv])->K ((s.setOwn k g (some ⟨c.ty,c.sz,[.agg [ck,cv]::rem.eraseIdx i],3⟩)).putR d (.tup [.bool true,ck,cv]))):Dem P L s o K
theorem Dem.sound (h:SimE C s a w){o:Oper}(hN:cT C.N o.dst=true){K':St->Prop}(hq:Dem P L s o K'){K:Act->World->Prop}{Q:Exit->Act->World->Prop}(hK:∀s' a' w',SimE C s' a' w'->K' s'->K a' w'):o.wp P a w K Q:=by
 obtain⟨γ,h⟩:=h;have wrapv:∀ {m:Sem Value} {v:Value} {w':World},m.run P w=.ok v w'->(do pure (Next.value (<-m)):Sem Next).run P w=.ok (.value v) w':=fun hm=>by simp[hm]
 cases hq with
 |next ho hd hx hown hk3 hrows h0 h1 =>
  rename_i x k g d c last rem;unfold Oper.wp;rcases Em (P:=P) (ty:=o.type) h hx hown hk3 hrows with⟨e0,e1⟩|⟨i,ck,cv,uk,uv,w',e0,e1,e2,e3,e4⟩
  .have:(execOp a.eval o).run P w=.ok (.value (.tuple #[.bool false])) w:=by
    simp only[execOp,ho];exact wrapv e1
   rw[this,Oper.upon_value,hd];refine hK _ _ _ ⟨γ,h.put (d:=some d) (by rw[<-hd];exact hN) (.tup [.bool false] [.bool false] O fun j c0 v0 f1 f2=>?_)⟩ (h0 e0)
   match j with
   |0=>simp at f1 f2;subst f1;subst f2;exact .d (.bool _)
   |j+1=>simp at f1
  .have:(execOp a.eval o).run P w=.ok (.value (.tuple #[.bool true,uk,uv])) w':=by
    simp only[execOp,ho];exact wrapv e1
   rw[this,Oper.upon_value,hd];refine hK _ _ _ ⟨γ,e2.put (d:=some d) (by rw[<-hd];exact hN) (.tup [.bool true,ck,cv] [.bool true,uk,uv] O fun j c0 v0 f1 f2=>?_)⟩ (h1 i ck cv e0)
   match j with
   |0=>simp at f1 f2;subst f1;subst f2;exact .d (.bool _)
   |1=>simp at f1 f2;subst f1;subst f2;exact e3
   |2=>simp at f1 f2;subst f1;subst f2;exact e4
   |j+3=>simp at f1
theorem Dem.mono {o:Oper}{K K':St->Prop}(hk:∀s,K s->K' s)(h:Dem P L s o K):Dem P L s o K':=by
 cases h with
 |next ho hd hx hown hk3 hrows h0 h1=>exact .next ho hd hx hown hk3 hrows (fun e=>hk _ (h0 e)) (fun i ck cv e=>hk _ (h1 i ck cv e))
end
end Go.Pv
namespace Go.Pv
open Go.RowKit
variable [Globs]
def IT:PV->Option Value
 |.bool b=>some (.bool b)
 |.int k n=>some (.int k n)
 |.str s=>some (.string ⟨s.toArray⟩)
 |.raw v=>some v
 |_=>none
def Ck (s:St)(o:Option Operand)(d n:Nat):Prop:=(o=none/\n=d)\/∃x k,o=some x/\s.ev x=.int k (n:Int)
inductive QOp (P:Program) (L:b9) (s:St) (o:Oper):PV->Prop
 |v {pv:PV} {Cd:Prop} (hq:qv L s o.op=some (pv,Cd)) (hc:Cd):QOp P L s o pv
 |idx {T e:TypeId} {x ix:Operand} {r re:LRow} {rows:List (List PV)} {row:List PV} {k:IntKind} {n:Int} (ho:o.op=.indexAddr T x ix) (hr:L T=some r) (hs:r.sh=.sl e) (hre:L e=some re)
   (hx:s.ev x=.sl rows\/s.ev x=.fsl rows) (hix:s.ev ix=.int k n) (h0:0<=n) (hrow:rows[n.toNat]?=some row) (hlen:row.length=re.size):QOp P L s o (.dref row 0)
 |idxA {T e:TypeId} {x ix:Operand} {r re:LRow} {k:IntKind} {n:Int} {st g i m:Nat} {c:Cont} (ho:o.op=.indexAddr T x ix) (hr:L T=some r) (hs:r.sh=.sl e) (hre:L e=some re)
   (hx:s.ev x=.als st g i m) (hown:s.own st=(g,some c)) (hsz:c.sz=re.size) (hix:s.ev ix=.int k n) (h0:0<=n) (hlt:n<m):QOp P L s o (.ptr st g (i+n.toNat) 0)
 |ldp {T:TypeId} {x:Operand} {r:LRow} {st g i j:Nat} {c:Cont} {row:List PV} {pv:PV} (ho:o.op=.load T x) (hr:L T=some r) (hx:s.ev x=.ptr st g i j) (hown:s.own st=(g,some c))
   (hrow:c.rows[i]?=some row) (hp:part r row j=some pv):QOp P L s o pv
 |slc {T e:TypeId} {x lo:Operand} {r re:LRow} {rows:List (List PV)} {k:IntKind} {n:Int} (ho:o.op=.slice T x (some lo) none none) (hr:L T=some r) (hs:r.sh=.sl e) (hre:L e=some re)
   (hx:s.ev x=.sl rows) (hix:s.ev lo=.int k n) (h0:0<=n) (hle:n<=rows.length) (hlen:∀row∈rows,row.length=re.size):QOp P L s o (.sl (rows.drop n.toNat))
 |slh {T e:TypeId} {x hi:Operand} {r re:LRow} {rows:List (List PV)} {k:IntKind} {n:Int} (ho:o.op=.slice T x none (some hi) none) (hr:L T=some r) (hs:r.sh=.sl e) (hre:L e=some re)
   (hx:s.ev x=.sl rows) (hix:s.ev hi=.int k n) (h0:0<=n) (hle:n<=rows.length) (hlen:∀row∈rows,row.length=re.size):QOp P L s o (.sl (rows.take n.toNat))
 |slg {T e:TypeId} {x:Operand} {lo hi:Option Operand} {r re:LRow} {rows:List (List PV)} {l h:Nat} (fr:Bool) (ho:o.op=.slice T x lo hi none) (hr:L T=some r) (hs:r.sh=.sl e) (hre:L e=some re)
   (hx:s.ev x=bif fr then .fsl rows else .sl rows) (hlo:Ck s lo 0 l) (hhi:Ck s hi rows.length h) (hlh:l<=h) (hle:h<=rows.length) (hlen:∀row∈rows,row.length=re.size):QOp P L s o (bif fr then .fsl ((rows.take h).drop l) else .sl ((rows.take h).drop l))
 |slA {T e:TypeId} {x:Operand} {lo hi:Option Operand} {r re:LRow} {st g i m l h:Nat} {c:Cont} (ho:o.op=.slice T x lo hi none) (hr:L T=some r) (hs:r.sh=.sl e) (hre:L e=some re)
   (hx:s.ev x=.als st g i m) (hown:s.own st=(g,some c)) (hsz:c.sz=re.size) (hlo:Ck s lo 0 l) (hhi:Ck s hi m h) (hlt:l<h) (hle:h<=m):QOp P L s o (.als st g (i+l) (h-l))
 |slE {T e:TypeId} {x:Operand} {lo hi:Option Operand} {r re:LRow} {st g i m l:Nat} {c:Cont} (ho:o.op=.slice T x lo hi none) (hr:L T=some r) (hs:r.sh=.sl e) (hre:L e=some re)
   (hx:s.ev x=.als st g i m) (hown:s.own st=(g,some c)) (hlo:Ck s lo 0 l) (hhi:Ck s hi m l) (hle:l<=m):QOp P L s o (.sl [])
 |call {fop:Operand} {args:Array Operand} {tys:Array TypeId} {f:FuncId} {caps pargs:List PV} {Cd:Prop} {b:Fl} {r:PV} (ho:o.op=.call ⟨.value fop,args,tys⟩) (hf:s.ev fop=.clo f caps)
   (hres:fK (fJ s 4) (args.toList.map s.ev++caps)=some (pargs,Cd,b)) (hc:Cd) (hb:b.cl=true) (hret:Ret P .shared f pargs r):QOp P L s o r
 |callF {fop:Operand} {args:Array Operand} {tys:Array TypeId} {f:FuncId} {caps pargs:List PV} {Cd:Prop} {b:Fl} {r:PV} (ho:o.op=.call ⟨.value fop,args,tys⟩) (hf:s.ev fop=.clo f caps)
   (hres:fK (fJ s 4) (args.toList.map s.ev++caps)=some (pargs,Cd,b)) (hc:Cd) (hret:Ret P .fresh f pargs r):QOp P L s o r.frs
 |slit {T e:TypeId} {r re:LRow} {n:Nat} {parts:Array (Nat × Operand)} {Pr:Prop} (ho:o.op=.buildSlice T n parts) (hr:L T=some r) (hs:r.sh=.sl e) (hre:L e=some re) (hz:re.zero.isSome=true) (hsz:0<re.size)
   (hn:parts.toList.map (·.1)=List.range n) (hN:n*re.size<=16777216) (hcells:∀p∈parts.toList,(s.ev p.2).cells.length=re.size)
   (h1:dR s (parts.toList.flatMap fun p=>(s.ev p.2).cells)=some Pr) (h2:Pr) (hkd:(parts.toList.flatMap fun p=>(s.ev p.2).cells).all (oS 0)=true):QOp P L s o (.fsl (parts.toList.map fun p=>(s.ev p.2).cells.map (gv 0)))
 |slitD {T e:TypeId} {r re:LRow} {n:Nat} {parts:Array (Nat × Operand)} {Pr:Prop} (ho:o.op=.buildSlice T n parts) (hr:L T=some r) (hs:r.sh=.sl e) (hre:L e=some re) (hz:re.zero.isSome=true) (hsz:0<re.size)
   (hn:parts.toList.map (·.1)=List.range n) (hN:n*re.size<=16777216) (hcells:∀p∈parts.toList,(s.ev p.2).cells.length=re.size)
   (h1:dR s (parts.toList.flatMap fun p=>(s.ev p.2).cells)=some Pr) (h2:Pr) (hkd:(parts.toList.flatMap fun p=>(s.ev p.2).cells).all (oS 1)=true):QOp P L s o (.sl (parts.toList.map fun p=>(s.ev p.2).cells.map (gv 1)))
 |mks {T e:TypeId} {r re:LRow} {l c:Operand} {kl kc:IntKind} {n:Int} {z:List PV} (ho:o.op=.makeSlice T l c) (hr:L T=some r) (hs:r.sh=.sl e) (hre:L e=some re) (hz:re.zero=some z) (hsz:0<re.size)
   (hl:s.ev l=.int kl n) (hc:s.ev c=.int kc n) (h0:0<=n) (hb:(re.bytes:Int)*n<=140737488355328) (h63:n<=9223372036854775807):QOp P L s o (.fsl (List.replicate n.toNat z))
 |look {T K V:TypeId} {r rk rv:LRow} {x y:Operand} {k g:Nat} {c:Cont} {z:PV} {ok:Bool} (ho:o.op=.lookup T x y ok) (hr:L T=some r) (hs:r.sh=.map K V) (hrk:L K=some rk) (hrv:L V=some rv) (hz:rv.zero=some [z]) (hz1:ET P V=true) (hx:s.ev x=.mp k g) (hown:s.own k=(g,some c)) (hk3:c.kind<3)
   (hky:rk.sh.key (s.ev y)=true) (hkeys:jX rk.sh c.rows=true):QOp P L s o (bif ok then .tup [gT z (s.ev y) c.rows,.bool (iD (s.ev y) c.rows).isSome] else gT z (s.ev y) c.rows)
 |entry {x:Operand} {k g:Nat} {c:Cont} {ck cv:PV} {rem:List PV} (ho:o.op=.entry x) (hx:s.ev x=.mi k g) (hown:s.own k=(g,some c)) (hk3:c.kind=3) (hrows:c.rows=[.agg [ck,cv]::rem]):QOp P L s o (.tup [ck,cv])
 |sem {x:Operand} {u v:Value} {pv:PV} (hx:s.ev x=.raw u) (ho:o.op.operands=#[x]) (hrun:∀(ev:Operand->Value) (w:World),Globs.glob w->ev x=u->(execOp ev o).run P w=.ok (.value v) w) (hpv:∀(w:World) (ok:Nat->Prop),DRep w ok pv v):QOp P L s o pv
 |semF {v:Value} {pv:PV} (hne:o.op.operands.size≠0) (hall:∀x∈o.op.operands,∃u,IT (s.ev x)=some u) (hrun:∀(ev:Operand->Value) (w:World),Globs.glob w->(∀x∈o.op.operands,IT (s.ev x)=some (ev x))->(execOp ev o).run P w=.ok (.value v) w) (hpv:∀(w:World) (ok:Nat->Prop),DRep w ok pv v):QOp P L s o pv
 |lookG {T K V:TypeId} {r rk:LRow} {kk:Option (List Sh)} {x y:Operand} {rows:List (List PV)} {z:PV} {ok:Bool} (ho:o.op=.lookup T x y ok) (hr:L T=some r) (hs:r.sh=.map K V) (hrk:L K=some rk) (hz:iW P L->Hw P V z)
   (hx:s.ev x=.mapd rows\/∃k g c,s.ev x=.mp k g/\s.own k=(g,some c)/\c.kind<3/\c.rows=rows) (hg:y5 P K kk=true) (hky:mE rk.sh kk (s.ev y)=true) (hkeys:jY rk.sh kk rows=true) :
   QOp P L s o (bif ok then .tup [gT z (s.ev y) rows,.bool (iD (s.ev y) rows).isSome] else gT z (s.ev y) rows)
 |s2b {src T e:TypeId} {x:Operand} {r re rs:LRow} {l:List UInt8} (ho:o.op=.convert src T x) (hrs:L src=some rs) (hr:L T=some r) (hs:r.sh=.sl e) (hre:L e=some re) (hsh:re.sh=.int .u8) (hx:s.ev x=.str l):QOp P L s o (.fsl (l.map fun c=>[.int .u8 c.toNat]))
 |b2s {src T e:TypeId} {x:Operand} {r re rs:LRow} {l:List UInt8} (ho:o.op=.convert src T x) (hrs:L src=some rs) (hr:L T=some r) (hs:rs.sh=.sl e) (hre:L e=some re) (hsh:re.sh=.int .u8) (hrd:r.sh=.str) (hl:l≠[]) (hx:s.ev x=.fsl (l.map fun c=>[.int .u8 c.toNat])\/s.ev x=.sl (l.map fun c=>[.int .u8 c.toNat])):QOp P L s o (.str l)
 |seq {T:TypeId} {x y:Operand} {T':TypeId} {ks:List Sh} {us vs:List PV} {r neg:Bool} (ho:o.op=.binOp (bif neg then .neq else .eql) T x y T') (hT:CC P T ks=true) (hx:s.ev x=.agg us) (hy:s.ev y=.agg vs) (hl:lP ks us vs=some r):QOp P L s o (.bool (bif neg then !r else r))
def IA (P:Program)(C:Ctx)(γ:Nat->Option Nat)(s:St)(a:Act)(w:World)(o:Oper)(pv:PV):Prop :=
 (∃v,(execOp a.eval o).run P w=.ok (.value v) w/\Rep (ai C γ s w) pv v) \/
 (∃v w',(execOp a.eval o).run P w=.ok (.value v) w'/\Below w.heap.size w w'/\Rep (ai C γ s w') pv v) \/
 (∃f args,(execOp a.eval o).run P w=.ok (.enter f args) w/\Calls P f args w fun e w'=>∃v,e=.returned v/\Below w.heap.size w w'/\Rep (ai C γ s w') pv v)
section
variable {P:Program}{L:b9}{C:Ctx}{γ:Nat->Option Nat}{s:St}{a:Act}{w:World}
theorem iF {w:World}{T:TypeId}{ad:Option Addr}{len cap l h:Nat}{lo hi:Option Value}(ht:P.underlying T=some (.slice (P.elem T)))
  (hlo:(lo=none/\l=0)\/∃k,lo=some (.int k (l:Int))) (hhi:(hi=none/\h=len)\/∃k,hi=some (.int k (h:Int))) (hlh:l<=h) (hc:h<=cap) :
  (Instr.slice T (.slice ad len cap) lo hi none).run P w=((sizeOf (P.elem T)).run P w).andThen fun s w => .ok (sliced ad l h cap s) w:=by
 rcases hlo with⟨rfl,rfl⟩|⟨kl,rfl⟩<;>rcases hhi with⟨rfl,rfl⟩|⟨kh,rfl⟩
 .rw[run_slice_all w T ad h cap ht]
 .rw[run_slice_h w T ad len cap ht kh h J J];rfl
 .rw[run_slice_l w T ad h cap ht kl l J J];rfl
 .rw[run_slice_lh w T ad len cap ht kl kh l h J J J];rfl
theorem p5 {E:Env}{ok:Nat->Prop}{rows:List (List PV)}{v:Value}{sz l h:Nat}(hd:DRep E.w ok (.sl rows) v)(hsz:∀row∈rows,row.length=sz)(hlh:l<=h)(hle:h<=rows.length) :
  ∃ad cap,v=.slice ad rows.length cap/\h<=cap/\DRep E.w ok (.sl ((rows.take h).drop l)) (sliced ad l h cap sz):=by
 rcases n3 hd with⟨rfl,ad,cap,hv⟩|⟨b,off,cap,sz',vals,hv,h1,h2,h3,h4,h5,h6⟩
 .simp at hle;refine⟨ad,cap,hv,J,?_⟩;have:l=0:=J;subst this;subst hle;exact .sl0 _ _
 .refine⟨_,cap,hv,J,?_⟩;by_cases he:l=h
  .subst he;have:(rows.take l).drop l=[]:=jZ (by rw[bI];exact Nat.min_le_left _ _);rw[this,sliced,fU];exact .sl0 _ _
  .have hszz:sz'=sz:=by
    have hx:=hsz rows[0] aj;rw[<-hx];exact(h4 _ aj).symm
   subst hszz;rw[sliced,if_neg J];simp only[ca,Addr.add_mk];have hlen:((rows.take h).drop l).length=h-l:=by simp;omega
   have hget:∀i,((rows.take h).drop l)[i]? = if l+i<h then rows[l+i]? else none:=fun i=>by rw[cq,bE]
   have:=DRep.sl (w:=E.w) (ok:=ok) ((rows.take h).drop l) b (off+l*sz') (cap-l) sz' (fun i j=>vals (l+i) j) h1 h2 J (fun row hr=>h4 row (gp (ky hr)))
    (fun i j row c e1 e2=>by
     rw[hget]at e1;split at e1
     .have:=h5 _ _ _ _ e1 e2;rwa [show off+(l+i)*sz'+j=off+l*sz'+i*sz'+j by rw[be];omega]at this
     .cases e1)
    (fun i j row c e1 e2=>by
     rw[hget]at e1;split at e1
     .exact h6 _ _ _ _ e1 e2
     .cases e1)
   rwa [hlen]at this
theorem ku {γ:Nat->Option Nat}(h:Sim C γ s a w){o:Option Operand}{d n:Nat}(hb:Ck s o d n):(o.map a.eval=none/\n=d)\/∃k,o.map a.eval=some (.int k (n:Int)):=by
 rcases hb with⟨rfl,rfl⟩|⟨x,k,rfl,hx⟩
 .exact .inl ⟨O,O⟩
 .have hv:=h.ev x;rw[hx]at hv;exact .inr ⟨k,by rw[ca,hv.int_inv]⟩
theorem QOp.sound (hL:iW P L)(hX:∀b,C.X b->b<C.B)(hglob:Globs.glob w)(h:Sim C γ s a w){o:Oper}{pv:PV}(hq:QOp P L s o pv):IA P C γ s a w o pv:=by
 have wrapv:∀ {m:Sem Value} {v:Value},m.run P w=.ok v w->(do pure (Next.value (<-m)):Sem Next).run P w=.ok (.value v) w:=fun hm=>by simp[hm]
 cases hq with
 |v hq hc=>exact .inl (DK hL h hq hc)
 |seq ho hT hx hy hl =>
  rename_i T x y T' ks us vs r neg;have hxr:=h.ev x;rw[hx]at hxr;have hyr:=h.ev y;rw[hy]at hyr;obtain⟨e1,e2⟩:=Gf (P:=P) (w:=w) (x:=x) (y:=y) hT hl hxr hyr;cases neg
  .refine .inl ⟨.bool r,?_,.d (.bool r)⟩;simp only[execOp,ho,cond_false];exact wrapv e1
  .refine .inl ⟨.bool (!r),?_,.d (.bool _)⟩;simp only[execOp,ho,cond_true];exact wrapv e2
 |look ho hr hs hrk hrv hz hz1 hx hown hk3 hky hkeys =>
  rename_i T K V r rk rv x y k g c z ok;have hxr:=h.ev x;rw[hx]at hxr;obtain⟨hsz,b,hb,hxv⟩:=h.mp_at hxr hown;obtain⟨es,nn,f1,f2,f3,f4,f5,f6⟩:=(h.sites k c (by rw[hown])).mp b hb hsz hk3;obtain⟨u,e1,e2⟩:=DV (E:=ai C γ s w) (P:=P) (ok:=ok) hL hr hs hrk hrv hz hz1 f1 f2 f3 (fun i row c e e1 e2 e3=>(f5 i row c e e1 e2 e3).rep aI) (fun i row c e e1 e2 e3=>(f6 i row c e e1 e2 e3).rep aI) hky (h.ev y) hkeys;refine .inl ⟨u,?_,e2⟩;simp only[execOp,ho,hxv];exact wrapv e1
 |sem hx ho hrun hpv =>
  rename_i x u v;have hxr:=h.ev x;rw[hx]at hxr;exact .inl ⟨_,hrun a.eval w hglob hxr.raw_inv,.d (hpv _ _)⟩
 |semF hne hall hrun hpv =>
  refine .inl ⟨_,hrun a.eval w hglob (fun x hx=>?_),.d (hpv _ _)⟩;obtain⟨u,hu⟩:=hall x hx;have hxr:=h.ev x;generalize s.ev x=c at hu hxr ⊢;rw[hu];cases c with
  |bool b=>cases hu;rw[hxr.bool_inv]
  |int k n=>cases hu;rw[hxr.int_inv]
  |str l=>cases hu;rw[hxr.str_inv]
  |raw v=>cases hu;rw[hxr.raw_inv]
  |_=>cases hu
 |lookG ho hr hs hrk hz hx hg hky hkeys =>
  rename_i T K V r rk kk x y rows z ok;have hxr:=h.ev x
  obtain⟨b,es,nn,hxv,f1,f2,f3,f5,f6⟩:∃b es nn,a.eval x=.map (some b)/\w.heap[b]?=some (.map es nn)/\rows.length=es.size/\(∀row∈rows,row.length=2) /\
    (∀(i:Nat) (row:List PV) (c:PV) (e:MapEntry),rows[i]?=some row->row[0]?=some c->es[i]?=some e->Rep (ai C γ s w) c e.key) /\
    (∀(i:Nat) (row:List PV) (c:PV) (e:MapEntry),rows[i]?=some row->row[1]?=some c->es[i]?=some e->Rep (ai C γ s w) c e.val):=by
   rcases hx with hx|⟨k,g,c,hx,hown,hk3,hrows⟩
   .rw[hx]at hxr;cases hxr with|d hd =>
    generalize he:a.eval x=v at hd;cases hd with
    |mapd rows b es nn hb hh hl h2 hborn hk hv=>exact⟨b,es,nn,rfl,hh,hl,h2,fun i row c e e1 e2 e3 => .d (hk i row c e e1 e2 e3),fun i row c e e1 e2 e3 => .d (hv i row c e e1 e2 e3)⟩
   .rw[hx]at hxr;obtain⟨hsz,b,hb,hxv⟩:=h.mp_at hxr hown;obtain⟨es,nn,f1,f2,f3,f4,f5,f6⟩:=(h.sites k c (by rw[hown])).mp b hb hsz hk3;subst hrows;exact⟨b,es,nn,hxv,f1,f2,f3,fun i row c e e1 e2 e3=>(f5 i row c e e1 e2 e3).rep aI,fun i row c e e1 e2 e3=>(f6 i row c e e1 e2 e3).rep aI⟩
  obtain⟨u,e1,e2⟩:=Bt (E:=ai C γ s w) (P:=P) (ok:=ok) hL hr hs hrk (hz hL) f1 f2 f3 f5 f6 hg hky (h.ev y) hkeys;refine .inl ⟨u,?_,e2⟩;simp only[execOp,ho,hxv];exact wrapv e1
 |b2s ho hrs hr hs hre hsh hrd hl hx =>
  rename_i src T e x r re rs l;have hxr:=h.ev x;have main:∀(ok:Nat->Prop) (v:Value),DRep w ok (.sl (l.map fun c=>[PV.int .u8 c.toNat])) v->(convert src T v).run P w=.ok (.string ⟨l.toArray⟩) w:=by
   intro ok v hd;rcases n3 (E:=⟨w,ok,ok,fun _=>0,fun _=>none⟩) hd with⟨h0,_⟩|⟨b,off,cap,sz,vals,hv,_,hsz,_,hrow,hcell,hdr⟩
   .exact absurd (by simpa using h0) hl
   .have h1:sz=1:=by
     cases l with
     |nil=>exact absurd rfl hl
     |cons a l=>exact(hrow [.int .u8 a.toNat] aj).symm
    subst h1;have hrun:=run_convert_bytes_arg (P:=P) w src e (gZ (hL src rs hrs) hs) (nw (hL e re hre) hsh) b off l.length cap (l.map fun c=>(c.toNat:Int)) aj (fun i hi=>by
     have g1:(l.map fun c=>[PV.int .u8 c.toNat])[i]?=some [.int .u8 l[i].toNat]:=by rw[aV,aQ hi];rfl
     have g2:=(hcell i 0 _ _ g1 O).1;have g3:=hdr i 0 _ _ g1 O;generalize vals i 0=u at g2 g3;cases g3;rw[show off+i=off+i*1+0 by omega];rw[show(w.cell? ⟨b,off+i*1+0,none⟩)=_ from g2]
     rw[cH,aV,aQ hi];rfl) T (kW (hL T r hr) hrd)
    rw[hv,aM,hrun];congr 2;rw[strOfNums,jg];congr 2
    conv=>rhs;rw[<-List.map_id l]
    exact cE fun c _=>by simp
  rcases hx with hx|hx
  .rw[hx]at hxr;cases hxr with
   |d hd=>cases hd
   |fsl hd =>
    refine .inl ⟨_,?_,.d (.str l)⟩;simp only[execOp,ho];rw[Sem.run_bind,main _ _ hd];rfl
  .rw[hx]at hxr;cases hxr with
   |d hd =>
    refine .inl ⟨_,?_,.d (.str l)⟩;simp only[execOp,ho];rw[Sem.run_bind,main _ _ hd];rfl
 |s2b ho hrs hr hs hre hsh hx =>
  rename_i src T e x r re rs l;have hxr:=h.ev x;rw[hx]at hxr;have hus:∃u,P.underlying src=some u:=lS.1 (uJ (hL src rs hrs));obtain⟨u,hu⟩:=hus;have hrun:=Lib.run_convert_string_bytes (P:=P) w src T e ⟨l.toArray⟩ hu (gZ (hL T r hr) hs) (nw (hL e re hre) hsh);have hsz:(⟨l.toArray⟩:ByteArray).size=l.length:=O;rw[hsz]at hrun;have hbel:Below w.heap.size w (Lib.bytesWorld w e ⟨l.toArray⟩):=⟨O,O,O,by rw[Lib.bytesWorld_size];omega,fun b hb=>Lib.bytesWorld_at_old w e _ b hb⟩;refine .inr (.inl ⟨.slice (some ⟨w.heap.size,0,none⟩) (l.map fun c=>[PV.int .u8 c.toNat]).length (grownCap w l.length 0 e),Lib.bytesWorld w e ⟨l.toArray⟩,?_,hbel,.fsl ?_⟩)
  .simp only[execOp,ho,hxr.str_inv,aM];rw[Sem.run_bind,hrun];rfl
  have hcap:l.length<=grownCap w l.length 0 e:=grownCap_ge w l.length 0 e;have:=DRep.sl (w:=Lib.bytesWorld w e ⟨l.toArray⟩) (ok:=(ai C γ s (Lib.bytesWorld w e ⟨l.toArray⟩)).okf) (l.map fun c=>[PV.int .u8 c.toNat]) w.heap.size 0 (grownCap w l.length 0 e) 1 (fun i _ => .int .u8 (l.getD i 0).toNat)
   ⟨h.top,by show _<(Lib.bytesWorld w e _).heap.size;rw[Lib.bytesWorld_size];omega,fun hx=>by have:=hX _ hx;have:=h.top;omega,fun k c hc hk=>by have:=(h.base k c _ hc hk).2;omega⟩ J (by simpa using hcap)
   (fun row hr=>by simp only[bF]at hr;obtain⟨c,_,rfl⟩:=hr;rfl) (fun i j row c e1 e2=>by
    have hi:i<l.length:=by have:=(bD e1).1;simpa using this
    rw[aV,aQ hi]at e1;simp only[ca,aJ]at e1;subst e1;have hj:j=0:=by have:=(bD e2).1;simp at this;omega
    subst hj;refine⟨?_,O⟩;have:=Lib.bytesWorld_cell w e ⟨l.toArray⟩ i (by rw[hsz];exact hi)
    simpa using this) (fun i j row c e1 e2=>by
    have hi:i<l.length:=by have:=(bD e1).1;simpa using this
    rw[aV,aQ hi]at e1;simp only[ca,aJ]at e1;subst e1;have hj:j=0:=by have:=(bD e2).1;simp at this;omega
    subst hj;simp at e2;subst e2;have:l.getD i 0=l[i]:=by simp[cH,hi]
    simp only[this]
    exact .int _ _)
  exact this
 |entry ho hx hown hk3 hrows =>
  obtain⟨u,e1,e2⟩:=BA (P:=P) h hx hown hk3 hrows;refine .inl ⟨u,?_,e2⟩;simp only[execOp,ho];exact wrapv e1
 |slit ho hr hs hre hz hsz hn hN hcells h1 h2 hkd =>
  rename_i T e r re n parts Pr;obtain⟨cur,g1,g2,g3⟩:=n5 (P:=P) hL h 0 ho hr hs hre hz hsz hn hN hcells h1 h2 hkd;have hb:Below w.heap.size w (w.alloc (.cells cur e)):=⟨O,O,O,aj,fun b hb=>Below.heap_alloc w _ b hb⟩;have hle:=gJ (C:=C) (γ:=γ) (s:=s) hb h.base;refine .inr (.inl ⟨_,_,g3,hb,.fsl ?_⟩);have hf:=g1.mono hle;have hblk:(w.alloc (.cells cur e)).heap[w.heap.size]?=some (.cells cur e (0,0)):=bi _ _;refine .sl _ w.heap.size 0 _ re.size (fun i j=>cur.getD (i*re.size+j) undef) ⟨h.top,aj,fun hx=>?_,fun k c hc hk=>?_⟩ hsz (aH) hf.row_ (fun i j row pv e1 e2=>?_) (fun i j row pv e1 e2=>?_)
  .have:=hX _ hx;have:=h.top;omega
  .have:=(h.base k c _ hc hk).2;omega
  .obtain⟨v,f1,f2,f3⟩:=hf.at_ i j row pv e1 e2;rw[dq]at f1;show(w.alloc (.cells cur e)).cell? _=_/\_;rw[bc hblk,aG,f1];simp[f1,f2]
  .obtain⟨v,f1,f2,f3⟩:=hf.at_ i j row pv e1 e2;rw[dq]at f1;have:cur.getD (i*re.size+j) undef=v:=by simp[f1]
   simp only[this];exact f3
 |slitD ho hr hs hre hz hsz hn hN hcells h1 h2 hkd =>
  rename_i T e r re n parts Pr;obtain⟨cur,g1,g2,g3⟩:=n5 (P:=P) hL h 1 ho hr hs hre hz hsz hn hN hcells h1 h2 hkd;have hb:Below w.heap.size w (w.alloc (.cells cur e)):=⟨O,O,O,aj,fun b hb=>Below.heap_alloc w _ b hb⟩;have hle:=gJ (C:=C) (γ:=γ) (s:=s) hb h.base;refine .inr (.inl ⟨_,_,g3,hb,.d ?_⟩);have hf:=g1.mono hle;have hblk:(w.alloc (.cells cur e)).heap[w.heap.size]?=some (.cells cur e (0,0)):=bi _ _;refine .sl _ w.heap.size 0 _ re.size (fun i j=>cur.getD (i*re.size+j) undef) ⟨aj,fun hx=>?_,fun k c hc hk=>?_⟩ hsz (aH) hf.row_ (fun i j row pv e1 e2=>?_) (fun i j row pv e1 e2=>?_)
  .have:=hX _ hx;have:=h.top;omega
  .have:=(h.base k c _ hc hk).2;omega
  .obtain⟨v,f1,f2,f3⟩:=hf.at_ i j row pv e1 e2;rw[dq]at f1;show(w.alloc (.cells cur e)).cell? _=_/\_;rw[bc hblk,aG,f1];simp[f1,f2]
  .obtain⟨v,f1,f2,f3⟩:=hf.at_ i j row pv e1 e2;rw[dq]at f1;have:cur.getD (i*re.size+j) undef=v:=by simp[f1]
   simp only[this];exact f3
 |mks ho hr hs hre hz hsz hl hc h0 hb h63 =>
  rename_i T e r re l c kl kc n z;obtain⟨i,dd,hi,hud,hisz,hiby,_,hzero⟩:=LRow.spec (hL e re hre);obtain⟨zv,z1,z2,z3,z4⟩:=hzero z hz;have hu:=gZ (hL T r hr) hs;have hlr:=h.ev l;rw[hl]at hlr;have hcr:=h.ev c;rw[hc]at hcr;have hrun:=run_make (P:=P) w T e i zv hu hi z1 kl kc n n h0 (mS _) (by rw[hiby];omega) h63;have hflat:FlatRep (ai C γ s w) 0 re.size (List.replicate n.toNat z) (madeCells zv.cells (n.toNat*i.size)).toList:=by
   refine⟨by simp[size_madeCells,hisz],fun row hr=>?_,fun i' j row pv e1 e2=>?_⟩
   .rw[List.eq_of_mem_replicate hr,z3,z2]
   .have hi':i'<n.toNat:=by have:=(bD e1).1;simpa using this
    have hrow:row=z:=by rw[List.getElem?_replicate,if_pos hi']at e1;simpa using e1.symm
    subst hrow;have hj:j<re.size:=by have:=(bD e2).1;rw[z3,z2]at this;exact this
    have hmul:(i'+1)*re.size<=n.toNat*re.size:=cm _ hi';rw[be,dH]at hmul;have hjz:j<zv.cells.size:=by rw[z2];exact hj
    have hz4:=iT (z4 j pv zv.cells[j] e2 (cC hjz)) w (ai C γ s w).okf;refine⟨zv.cells[j],?_,hz4.2,hz4.1⟩;have hm:(i'*re.size+j)%zv.cells.size=j:=by rw[z2,b0,pe,cM hj]
    simp only[madeCells,tJ,aV];rw[Array.toList_range,jl (by rw[hisz];omega)];simp[hm,hjz]
  generalize madeCells zv.cells (n.toNat*i.size)=cur at *
  have hbel:Below w.heap.size w (w.alloc (.cells cur e)):=⟨O,O,O,aj,fun b hb=>Below.heap_alloc w _ b hb⟩;have hle:=gJ (C:=C) (γ:=γ) (s:=s) hbel h.base;refine .inr (.inl ⟨.slice (some ⟨w.heap.size,0,none⟩) (List.replicate n.toNat z).length (List.replicate n.toNat z).length,w.alloc (.cells cur e),?_,hbel,.fsl ?_⟩)
  .simp only[execOp,ho,hlr.int_inv,hcr.int_inv];simp[hrun]
  have hf:=hflat.mono hle;have hblk:(w.alloc (.cells cur e)).heap[w.heap.size]?=some (.cells cur e (0,0)):=bi _ _;refine .sl _ w.heap.size 0 _ re.size (fun i j=>cur.getD (i*re.size+j) undef) ⟨h.top,aj,fun hx=>?_,fun k c hc hk=>?_⟩ hsz (aH) hf.row_ (fun i j row pv e1 e2=>?_) (fun i j row pv e1 e2=>?_)
  .have:=hX _ hx;have:=h.top;omega
  .have:=(h.base k c _ hc hk).2;omega
  .obtain⟨v,f1,f2,f3⟩:=hf.at_ i j row pv e1 e2;rw[dq]at f1;show(w.alloc (.cells cur e)).cell? _=_/\_;rw[bc hblk,aG,f1];simp[f1,f2]
  .obtain⟨v,f1,f2,f3⟩:=hf.at_ i j row pv e1 e2;rw[dq]at f1;have:cur.getD (i*re.size+j) undef=v:=by simp[f1]
   simp only[this];exact f3
 |idx ho hr hs hre hx hix h0 hrow hlen =>
  rename_i T e x ix r re rows row k n;have hi:=h.ev ix;rw[hix]at hi;have hxr:=h.ev x;obtain⟨ok,hok,hd⟩:∃ok:Nat->Prop,(∀b,ok b->fu C γ s w b)/\DRep w ok (.sl rows) (a.eval x):=by
   rcases hx with hx|hx
   .rw[hx]at hxr;cases hxr with|d hd=>exact⟨_,fun b hb=>hb,hd⟩
   .rw[hx]at hxr;cases hxr with
    |d hd=>cases hd
    |fsl hd=>exact⟨_,fun b hb=>hb.2,hd⟩
  have hlt:n.toNat<rows.length:=(bD hrow).1;rcases n3 (E:=ai C γ s w) hd with⟨rfl,_⟩|⟨b,off,cap,sz,vals,hv,h1,h2,h3,h4,h5,h6⟩
  .simp at hrow
  .have hsz:sz=re.size:=by rw[<-hlen];exact(h4 row (bG hrow)).symm
   refine .inl ⟨.pointer (some ⟨b,(off+n.toNat*sz)+0,none⟩),?_,.d (.dref row 0 b (off+n.toNat*sz) (fun j=>vals n.toNat j) (hok b h1) (fun j c e=>h5 _ _ _ _ hrow e) (fun j c e=>(h6 _ _ _ _ hrow e).weaken hok))⟩;simp only[execOp,ho,hv,hi.int_inv];refine wrapv ?_;rw[z_ hL hr hs hre h0 J,Addr.add_mk,hsz];rfl
 |idxA ho hr hs hre hx hown hsz hix h0 hlt =>
  rename_i T e x ix r re k n st g i m c;have hi:=h.ev ix;rw[hix]at hi;have hxr:=h.ev x;rw[hx]at hxr;rcases h.als_at hxr hown with⟨_,_,h3,_⟩|⟨b,cap,cur,h1,hv,h3,h4,h5,h6,h7⟩
  .omega
  .obtain⟨cur',g1,g2,_⟩:=h.site_at hown h1 (h.cells_sz hown h1 h3 h6);refine .inl ⟨.pointer (some ⟨b,(i+n.toNat)*c.sz+0,none⟩),?_,.ptr (by simp[ai,hown]) fun _ l hl=>?_⟩
   .simp only[execOp,ho,hv,hi.int_inv];refine wrapv ?_;rw[z_ hL hr hs hre h0 hlt,Addr.add_mk,hsz,be];rfl
   .simp[ai,hown]at hl;subst hl;exact⟨b,h1,O,by simp only at h7 ⊢;omega,g2⟩
 |ldp ho hr hx hown hrow hp =>
  rename_i T x r st g i j c row;have hxr:=h.ev x;rw[hx]at hxr;obtain⟨b,hb,hv,hi,hj⟩:=h.ptr_at hxr hown;obtain⟨cur,hh,hsz,hle,hrows,hcell⟩:=h.site_at hown hb J;obtain⟨v,e1,e2⟩:=DN (E:=ai C γ s w) (P:=P) (hL T r hr) (b:=b) (off:=i*c.sz) (fun i'=>cur.getD (i*c.sz+i') undef) (fun i' c' e=>by
   obtain⟨u,e1,_,_⟩:=hcell i i' row c' hrow e;show w.cell? _=_
   rw[bc hh,e1];simp[e1]) (fun i' c' e=>by
   obtain⟨u,e1,_,e2⟩:=hcell i i' row c' hrow e;have:cur.getD (i*c.sz+i') undef=u:=by simp[e1]
   rw[this]
   exact e2.rep aI) hp
  refine .inl ⟨v,?_,e2⟩;simp only[execOp,ho,hv];refine wrapv ?_;simp only[Instr.loadAt,Instr.sureAddr,Sem.run_bind,Sem.run_pure,Result.andThen_ok];exact e1
 |slc ho hr hs hre hx hix h0 hle hlen =>
  rename_i T e x lo r re rows k n;have hi:=h.ev lo;rw[hix]at hi;have hxr:=h.ev x;rw[hx]at hxr;cases hxr with|d hd =>
  obtain⟨u1,u2,u3⟩:=gK (P:=P) (w:=w) hL hr hs hre;have run:∀(ad:Option Addr) (len cap:Nat),a.eval x=.slice ad len cap->n<=len->(execOp a.eval o).run P w=.ok (.value (sliced ad n.toNat len cap re.size)) w:=by
   intro ad len cap hv hn;simp only[execOp,ho,hv,hi.int_inv,ca,tR];refine wrapv ?_;rw[run_sliceAt_slice w T _ _ _ _ u1,run_slice_l w T ad len cap u1 k n h0 hn,u3];rfl
  rcases n3 (E:=ai C γ s w) hd with⟨rfl,ad,cap,hv⟩|⟨b,off,cap,sz,vals,hv,h1,h2,h3,h4,h5,h6⟩
  .have hn0:n=0:=by simp at hle;omega
   subst hn0;refine .inl ⟨_,run ad 0 cap hv J,?_⟩;simp only[sliced,Int.toNat_zero,pm,List.drop_nil];exact .d (.sl0 _ _)
  .refine .inl ⟨_,run _ _ cap hv hle,.d ?_⟩;have hlt:n.toNat<=rows.length:=J;unfold sliced;by_cases hnil:rows.drop n.toNat=[]
   .have:rows.length-n.toNat=0:=by have:=congrArg List.length hnil;simpa using this
    rw[hnil,this];exact .sl0 _ _
   .have hlt':n.toNat<rows.length:=by
     rcases aT n.toNat rows.length with h'|h'
     .exact h'
     .exact absurd (jZ h') hnil
    rw[if_neg J];have hsz:sz=re.size:=by
     have h':=hlen rows[n.toNat] aj;rw[<-h'];exact(h4 _ aj).symm
    simp only[ca,Addr.add_mk];rw[<-hsz];have:=DRep.sl (w:=w) (ok:=(ai C γ s w).ok) (rows.drop n.toNat) b (off+n.toNat*sz) (cap-n.toNat) sz (fun i j=>vals (n.toNat+i) j) h1 h2 aX (fun row hr=>h4 row (ky hr))
     (fun i j row c e1 e2=>by
      rw[cq]at e1;have:=h5 _ _ _ _ e1 e2
      rwa [show off+(n.toNat+i)*sz+j=off+n.toNat*sz+i*sz+j by rw[be];omega]at this)
     (fun i j row c e1 e2=>by
      rw[cq]at e1
      exact h6 _ _ _ _ e1 e2)
    rwa [fR]at this
 |slh ho hr hs hre hx hix h0 hle hlen =>
  rename_i T e x hi' r re rows k n;have hi:=h.ev hi';rw[hix]at hi;have hxr:=h.ev x;rw[hx]at hxr;cases hxr with|d hd =>
  obtain⟨u1,u2,u3⟩:=gK (P:=P) (w:=w) hL hr hs hre;have run:∀(ad:Option Addr) (len cap:Nat),a.eval x=.slice ad len cap->n<=cap->(execOp a.eval o).run P w=.ok (.value (sliced ad 0 n.toNat cap re.size)) w:=by
   intro ad len cap hv hn;simp only[execOp,ho,hv,hi.int_inv,ca,tR];refine wrapv ?_;rw[run_sliceAt_slice w T _ _ _ _ u1,run_slice_h w T ad len cap u1 k n h0 hn,u3];rfl
  rcases n3 (E:=ai C γ s w) hd with⟨rfl,ad,cap,hv⟩|⟨b,off,cap,sz,vals,hv,h1,h2,h3,h4,h5,h6⟩
  .have hn0:n=0:=by simp at hle;omega
   subst hn0;refine .inl ⟨_,run ad 0 cap hv J,?_⟩;simp only[sliced,Int.toNat_zero,pm,List.take_nil];exact .d (.sl0 _ _)
  .refine .inl ⟨_,run _ _ cap hv J,.d ?_⟩;have hlt:n.toNat<=rows.length:=J;unfold sliced;have hz:(if cap=0 then some (⟨b,off,none⟩:Addr) else(some (⟨b,off,none⟩:Addr)).map fun x=>x.add (0*re.size))=some ⟨b,off,none⟩:=by
    split
    .rfl
    .simp[Addr.add]
   rw[hz,pm,pm];have hlen':(rows.take n.toNat).length=n.toNat:=by simp;omega
   have:=DRep.sl (w:=w) (ok:=(ai C γ s w).ok) (rows.take n.toNat) b off cap sz vals h1 h2 J (fun row hr=>h4 row (gp hr))
    (fun i j row c e1 e2=>by
     rw[bE]at e1;split at e1
     .exact h5 _ _ _ _ e1 e2
     .cases e1)
    (fun i j row c e1 e2=>by
     rw[bE]at e1;split at e1
     .exact h6 _ _ _ _ e1 e2
     .cases e1)
   rwa [hlen']at this
 |slg fr ho hr hs hre hx hlo hhi hlh hle hlen =>
  rename_i T e x lo hi r re rows l h';have hxr:=h.ev x;obtain⟨u1,u2,u3⟩:=gK (P:=P) (w:=w) hL hr hs hre;have run:∀(ad:Option Addr) (cap:Nat),a.eval x=.slice ad rows.length cap->h'<=cap->(execOp a.eval o).run P w=.ok (.value (sliced ad l h' cap re.size)) w:=by
   intro ad cap hv hc;simp only[execOp,ho,hv];refine wrapv ?_;show(Instr.sliceAt T (.slice ad rows.length cap) (lo.map a.eval) (hi.map a.eval) none).run P w=_;rw[run_sliceAt_slice w T _ _ _ _ u1,iF u1 (ku h hlo) (ku h hhi) hlh hc,u3];rfl
  cases fr with
  |false =>
   rw[hx]at hxr;cases hxr with|d hd =>
   obtain⟨ad,cap,e1,e2,e3⟩:=p5 (E:=ai C γ s w) hd hlen hlh hle;exact .inl ⟨_,run ad cap e1 e2,.d e3⟩
  |true =>
   rw[hx]at hxr;cases hxr with
   |d hd=>cases hd
   |fsl hd =>
   obtain⟨ad,cap,e1,e2,e3⟩:=p5 (E:=ai C γ s w) hd hlen hlh hle;exact .inl ⟨_,run ad cap e1 e2,.fsl e3⟩
 |slA ho hr hs hre hx hown hsz hlo hhi hlt hle =>
  rename_i T e x lo hi r re st g i m l h' c;have hxr:=h.ev x;rw[hx]at hxr;obtain⟨u1,u2,u3⟩:=gK (P:=P) (w:=w) hL hr hs hre;rcases h.als_at hxr hown with⟨_,_,h3,_⟩|⟨b,cap,cur,h1,hv,h3,h4,h5,h6,h7⟩
  .omega
  .refine .inl ⟨sliced (some ⟨b,i*c.sz,none⟩) l h' cap re.size,?_,.als (by simp[ai,hown]) fun _ q hq=>?_⟩
   .simp only[execOp,ho,hv];refine wrapv ?_;show(Instr.sliceAt T (.slice (some ⟨b,i*c.sz,none⟩) m cap) (lo.map a.eval) (hi.map a.eval) none).run P w=_;rw[run_sliceAt_slice w T _ _ _ _ u1,iF u1 (ku h hlo) (ku h hhi) J J,u3];rfl
   .simp[ai,hown]at hq;subst hq;refine .inr ⟨b,cap-l,cur,h1,?_,h3,J,J,?_,?_⟩
    .rw[sliced,if_neg J,<-hsz];simp only[ca,Addr.add_mk];rw[be]
    .rw[h6,show i+l+(cap-l)=i+cap by omega]
    .simp only at h7 ⊢;omega
 |slE ho hr hs hre hx hown hlo hhi hle =>
  rename_i T e x lo hi r re st g i m l c;have hxr:=h.ev x;rw[hx]at hxr;obtain⟨u1,u2,u3⟩:=gK (P:=P) (w:=w) hL hr hs hre;have run:∀(ad:Option Addr) (cap:Nat),a.eval x=.slice ad m cap->l<=cap->(execOp a.eval o).run P w=.ok (.value (sliced ad l l cap re.size)) w:=by
   intro ad cap hv hc;simp only[execOp,ho,hv];refine wrapv ?_;show(Instr.sliceAt T (.slice ad m cap) (lo.map a.eval) (hi.map a.eval) none).run P w=_;rw[run_sliceAt_slice w T _ _ _ _ u1,iF u1 (ku h hlo) (ku h hhi) (aH) hc,u3];rfl
  rcases h.als_at hxr hown with⟨_,_,rfl,hv⟩|⟨b,cap,cur,h1,hv,h3,h4,h5,h6,h7⟩
  .refine .inl ⟨_,run none 0 hv J,.d ?_⟩;rw[sliced,fU];exact .sl0 _ _
  .refine .inl ⟨_,run _ cap hv J,.d ?_⟩;rw[sliced,fU];exact .sl0 _ _
 |call ho hf hres hc hb hret =>
  rename_i fop args tys f caps pargs Cd b;have hfv:=h.ev fop;rw[hf]at hfv;obtain⟨vs,hv,hl,hd⟩:=hfv.clo_inv;have hspec:=iO (S:=Rep (ai C γ s w)) (R:=fun b=>DRep w (eF C γ s w b)) (fun b1 b2 c v=>⟨fun hd=>hd.weaken fun k=>fm.1,fun hd=>hd.weaken fun k=>fm.2⟩) (fun c d Cd b v e1 e2 e3=>iP hX h 4 c d Cd b v e1 e2 e3) (args.toList.map s.ev++caps) pargs Cd b (args.toList.map a.eval++vs) hres hc (by simp[hl]) (fun i c v e1 e2=>by
   rw[gl]at e1 e2;simp only[aM]at e1 e2;split at e1
   .rename_i hlt;rw[if_pos hlt]at e2;rw[aV]at e1 e2;cases hx:args.toList[i]? with
    |none=>rw[hx]at e1;simp at e1
    |some x=>rw[hx]at e1 e2;simp at e1 e2;subst e1;subst e2;exact h.ev x
   .rename_i hlt;rw[if_neg hlt]at e2
    exact hd _ c v e1 e2)
  refine .inr (.inr ⟨f,_,ke ho hv hret.1,?_⟩);refine(hret.2 w (fun k=>k<w.heap.size/\¬eF C γ s w b k) _ hglob (fun _ hb=>hb.1) hspec.1 (fun i c v e1 e2=>(hspec.2 i c v e1 e2).weaken fun k hk=>⟨hk.1,fun hn=>hn.2 hk⟩)).mono ?_;rintro e w' ⟨v,rfl,hbel,hdr⟩;exact⟨v,O,hbel,.d (hdr.weaken fun k hk=>II (b:=b) (m := .shared) hX h hbel k hk hb)⟩
 |callF ho hf hres hc hret =>
  rename_i fop args tys f caps pargs Cd b r;have hfv:=h.ev fop;rw[hf]at hfv;obtain⟨vs,hv,hl,hd⟩:=hfv.clo_inv;have hspec:=iO (S:=Rep (ai C γ s w)) (R:=fun b=>DRep w (eF C γ s w b)) (fun b1 b2 c v=>⟨fun hd=>hd.weaken fun k=>fm.1,fun hd=>hd.weaken fun k=>fm.2⟩) (fun c d Cd b v e1 e2 e3=>iP hX h 4 c d Cd b v e1 e2 e3) (args.toList.map s.ev++caps) pargs Cd b (args.toList.map a.eval++vs) hres hc (by simp[hl]) (fun i c v e1 e2=>by
   rw[gl]at e1 e2;simp only[aM]at e1 e2;split at e1
   .rename_i hlt;rw[if_pos hlt]at e2;rw[aV]at e1 e2;cases hx:args.toList[i]? with
    |none=>rw[hx]at e1;simp at e1
    |some x=>rw[hx]at e1 e2;simp at e1 e2;subst e1;subst e2;exact h.ev x
   .rename_i hlt;rw[if_neg hlt]at e2
    exact hd _ c v e1 e2)
  refine .inr (.inr ⟨f,_,ke ho hv hret.1,?_⟩);refine(hret.2 w (fun k=>k<w.heap.size/\¬eF C γ s w b k) _ hglob (fun _ hb=>hb.1) hspec.1 (fun i c v e1 e2=>(hspec.2 i c v e1 e2).weaken fun k hk=>⟨hk.1,fun hn=>hn.2 hk⟩)).mono ?_;rintro e w' ⟨v,rfl,hbel,hdr⟩;refine⟨v,O,hbel,Rep.frs aI ?_⟩;exact hdr.weaken fun k hk=>II (b:=b) (m := .fresh) hX h hbel k hk
end
end Go.Pv
namespace Go.Pv
open Go.RowKit
variable [Globs]
inductive Wants (ops:Array Oper) (s:St) (o:Oper):Bool->Prop
 |none (h:o.guard=none):Wants ops s o true
 |yes {j d:Nat} {want:Bool} (h:o.guard=some (j,want)) (hd:(ops[j]?).bind (·.dst)=some d) (hr:s.reg d=.bool want):Wants ops s o true
 |no {j d:Nat} {want b:Bool} (h:o.guard=some (j,want)) (hd:(ops[j]?).bind (·.dst)=some d) (hr:s.reg d=.bool b) (hne:b≠want):Wants ops s o false
 |junk {j d:Nat} {want:Bool} (h:o.guard=some (j,want)) (hd:(ops[j]?).bind (·.dst)=some d) (hr:s.reg d=.raw undef):Wants ops s o false
section
variable {P:Program}{L:b9}{C:Ctx}{s:St}{a:Act}{w w':World}{ops:Array Oper}
theorem Wants.spec (h:SimE C s a w){o:Oper}{b:Bool}(hw:Wants ops s o b):Region.wanted o (yielded ops a.tmps)=b:=by
 obtain⟨γ,h⟩:=h;have key:∀ {d:Nat} {t:Bool},s.reg d=.bool t->a.tmps[d]?=some (.bool t):=by
  intro d t hr;have h1:=h.regs d;rw[hr]at h1;have h2:=h1.bool_inv;rcases aT d a.tmps.size with hlt|hge
  .rw[cC hlt];simpa [hlt] using h2
  .rw[show a.tmps.getD d undef=undef by simp[j0 hge]]at h2;cases h2
 cases hw with
 |none h=>simp[Region.wanted,h]
 |yes h hd hr=>simp[Region.wanted,h,yielded,hd,key hr]
 |no h hd hr hne =>
  rename_i j d want b;simp only[Region.wanted,h,yielded,hd,tK,key hr];cases b<;>cases want<;>simp_all
 |junk h hd hr =>
  rename_i j d want;have h1:=‹Sim C γ s a w›.regs d;rw[hr]at h1;have h2:=h1.raw_inv;simp only[Region.wanted,h,yielded,hd,tK];rcases aT d a.tmps.size with hlt|hge
  .have h3:a.tmps[d]?=some undef:=by rw[cC hlt];simpa [hlt] using h2
   rw[h3];rfl
  .rw[j0 hge];rfl
def POp (P:Program)(L:b9)(s:St)(o:Oper)(K:St->Prop):Prop:=(∃pv,QOp P L s o pv/\K (s.put o.dst pv))\/(∃s',Eff P L s o s'/\K s')\/Dem P L s o K
def POps (P:Program)(L:b9)(ops:Array Oper)(K:St->Prop):List Oper->St->Prop
 |[],s=>K s
 |o::rest,s=>(Wants ops s o true/\POp P L s o (POps P L ops K rest))\/(Wants ops s o false/\POps P L ops K rest (s.put o.dst (.raw undef)))
structure Good (P:Program) (L:b9) (C:Ctx):Prop where
 lay:iW P L
 x:∀b,C.X b->b<C.B
 mixed:P.follows .mixedOrders=true
 glob:∀w,Below C.B C.w0 w->Globs.glob w
theorem QOp.wp (hG:Good P L C)(h:SimE C s a w){o:Oper}(hN:cT C.N o.dst=true){pv:PV}(hq:QOp P L s o pv){K:Act->World->Prop}{Q:Exit->Act->World->Prop}(hK:∀a' w',SimE C (s.put o.dst pv) a' w'->K a' w'):o.wp P a w K Q:=by
 obtain⟨γ,h⟩:=h;unfold Oper.wp;rcases hq.sound hG.lay hG.x (hG.glob _ h.below) h with⟨v,h1,h2⟩|⟨v,w',h1,hb,h2⟩|⟨f,args,h1,h2⟩
 .rw[h1,Oper.upon_value];exact hK _ _ ⟨γ,h.put hN h2⟩
 .rw[h1,Oper.upon_value];exact hK _ _ ⟨γ,(h.ext hb).put hN h2⟩
 .rw[h1,Oper.upon_enter];refine h2.mono ?_;rintro e w' ⟨v,rfl,hb,hr⟩;exact hK _ _ ⟨γ,(h.ext hb).put hN hr⟩
theorem POp.wp (hG:Good P L C)(h:SimE C s a w){o:Oper}(hN:cT C.N o.dst=true){K':St->Prop}(hq:POp P L s o K'){K:Act->World->Prop}{Q:Exit->Act->World->Prop}(hK:∀s' a' w',SimE C s' a' w'->K' s'->K a' w'):o.wp P a w K Q:=by
 rcases hq with⟨pv,h1,h2⟩|⟨s',h1,h2⟩|h1
 .exact h1.wp hG h hN fun a' w' h'=>hK _ a' w' h' h2
 .exact h1.sound hG.lay hG.x hG.glob h hN fun a' w' h'=>hK _ a' w' h' h2
 .exact h1.sound h hN hK
theorem SimE.put (h:SimE C s a w){d:Option Nat}(hd:cT C.N d=true)(v:Value):SimE C (s.put d (.raw v)) (a.put d v) w :=
 let ⟨γ,h⟩:=h
 ⟨γ,h.put hd (.d (.raw v))⟩
theorem POps.sound (hG:Good P L C){K':St->Prop}{Q:Exit->Act->World->Prop}(hK:∀s' a' w',SimE C s' a' w'->K' s'->Q .normal a' w') :
  ∀(l:List Oper) (s:St) (a:Act) (w:World),(∀o∈l,cT C.N o.dst=true)->SimE C s a w->POps P L ops K' l s->wpList P ops Q l a w
 |[],s,a,w,_,h,hp=>hK s a w h hp
 |o::l,s,a,w,hN,h,hp=>by
  unfold wpList;rcases hp with⟨hw,hp⟩|⟨hw,hp⟩
  .rw[if_pos (hw.spec h)];exact .inl (hp.wp hG h (hN o aj) fun s' a' w' h' hp'=>POps.sound hG hK l s' a' w' (fun o' ho'=>hN o' (by simp[ho'])) h' hp')
  .rw[if_neg (by rw[hw.spec h];simp)];exact POps.sound hG hK l _ _ w (fun o' ho'=>hN o' (by simp[ho'])) (h.put (hN o aj) undef) hp
def Sm (P:Program)(L:b9)(s:St)(o:Oper)(K:St->Prop):Prop:=∀(C:Ctx) (a:Act) (w:World) (Q:Exit->Act->World->Prop),Good P L C->SimE C s a w->cT C.N o.dst=true->o.wp P a w (fun a' w'=>∃s',SimE C s' a' w'/\K s') Q
def PSem (P:Program)(L:b9)(ops:Array Oper)(K:St->Prop):List Oper->St->Prop
 |[],s=>K s
 |o::rest,s=>(Wants ops s o true/\(POp P L s o (PSem P L ops K rest)\/Sm P L s o (PSem P L ops K rest)))\/(Wants ops s o false/\PSem P L ops K rest (s.put o.dst (.raw undef)))
theorem PSem.sound (hG:Good P L C){K':St->Prop}{Q:Exit->Act->World->Prop}(hK:∀s' a' w',SimE C s' a' w'->K' s'->Q .normal a' w') :
  ∀(l:List Oper) (s:St) (a:Act) (w:World),(∀o∈l,cT C.N o.dst=true)->SimE C s a w->PSem P L ops K' l s->wpList P ops Q l a w
 |[],s,a,w,_,h,hp=>hK s a w h hp
 |o::l,s,a,w,hN,h,hp=>by
  unfold wpList;rcases hp with⟨hw,hp⟩|⟨hw,hp⟩
  .rw[if_pos (hw.spec h)];rcases hp with hp|hp
   .exact .inl (hp.wp hG h (hN o aj) fun s' a' w' h' hp'=>PSem.sound hG hK l s' a' w' (fun o' ho'=>hN o' (by simp[ho'])) h' hp')
   .exact .inl (Oper.wp_mono (fun a' w' ⟨s',h',hp'⟩=>PSem.sound hG hK l s' a' w' (fun o' ho'=>hN o' (by simp[ho'])) h' hp') (hp C a w _ hG h (hN o aj)))
  .rw[if_neg (by rw[hw.spec h];simp)];exact PSem.sound hG hK l _ _ w (fun o' ho'=>hN o' (by simp[ho'])) (h.put (hN o aj) undef) hp
def PQuiet (P:Program)(L:b9)(ops:Array Oper)(K:St->Prop):List Oper->St->Prop
 |[],s=>K s
 |o::rest,s=>(Wants ops s o true/\∃pv,QOp P L s o pv/\PQuiet P L ops K rest (s.put o.dst pv))\/(Wants ops s o false/\PQuiet P L ops K rest (s.put o.dst (.raw undef)))
def Yld (P:Program)(L:b9)(ops:Array Oper)(s:St)(o:Oper)(v:PV):Prop:=(Wants ops s o true/\QOp P L s o v)\/(Wants ops s o false/\v=.raw undef)
theorem ur {s s':St}(ho:s.own=s'.own):∀(n:Nat) (c:PV),fJ s n c=fJ s' n c
 |0,_=>rfl
 |n+1,c=>by
  have hf:fJ s n=fJ s' n:=funext (ur ho n);cases c<;>simp only[fJ,ho,hf]
theorem DJ {s s':St}(ho:s.own=s'.own){op:Op}(he:∀x∈op.operands,s.ev x=s'.ev x):qv L s op=qv L s' op:=by
 have hplen:wC s=wC s':=by funext v;cases v<;>simp only[wC,ho]
 have hone:mW s=mW s':=by funext v;cases v<;>simp only[mW,ho]
 have hpn:rC s=rC s':=by funext r op v;cases v<;>simp only[rC,ho]
 have hfill:∀fs l cs C,jH L s fs l cs C=jH L s' fs l cs C:=by
  intro fs l
  induction l with
  |nil=>intro cs C;rfl
  |cons p l ih =>
   intro cs C;obtain⟨i,x⟩:=p;simp only[jH,hone,ih]
 cases op<;>simp only[Op.operands]at he
 case move x=>simp only[qv,he x aj]
 case assign x=>simp only[qv,he x aj]
 case pick c x y=>simp only[qv,he c aj,he x aj,he y aj]
 case nilCheck x=>simp only[qv,he x aj,ho]
 case binOp op T x y T'=>simp only[qv,he x aj,he y aj,hpn]
 case unOp op T x=>simp only[qv,he x aj]
 case convert src dst x=>simp only[qv,he x aj]
 case makeFunc fn first caps =>
  obtain⟨caps⟩:=caps;obtain⟨first⟩:=first;cases fn<;>cases first<;>simp only[qv];rw[cE (fun x hx=>he x (by simp[hx]))]
 case fieldAddr T x f=>simp only[qv,he x aj,ho]
 case field T x f=>simp only[qv,he x aj]
 case load T x=>simp only[qv,he x aj,ho]
 case extract x i=>simp only[qv,he x aj]
 case index T x ix=>simp only[qv,he x aj,he ix aj]
 case build T parts =>
  have:(parts.toList.map fun p=>(p.1,s.ev p.2))=parts.toList.map fun p=>(p.1,s'.ev p.2):=by
   apply cE;intro p hp;rw[he p.2 (by simp;exact⟨p.1,by simpa using hp⟩)]
  simp only[qv,this,hfill]
 case call c =>
  unfold qv;split;any_goals (rename_i heq;cases heq;done)
  .rename_i x T heq;cases heq;have h1:=he x (by simp[Call.operands]);simp only[h1,hplen]
  .rename_i x y tys heq;cases heq;simp only[he x (by simp[Call.operands]),he y (by simp[Call.operands])]
  .rename_i x y tys heq;cases heq;simp only[he x (by simp[Call.operands]),he y (by simp[Call.operands])]
  .rfl
 all_goals rfl
theorem iN {s s':St}(ho:s.own=s'.own):∀l,dR s l=dR s' l
 |[]=>rfl
 |c::l=>by
  have h1:mW s c=mW s' c:=by cases c<;>simp only[mW,ho]
  simp only[dR,h1,iN ho l]
theorem QOp.congr {s s':St}(ho:s.own=s'.own){o:Oper}(he:∀x∈o.op.operands,s.ev x=s'.ev x){v:PV}(h:QOp P L s o v):QOp P L s' o v:=by
 have hres:fJ s 4=fJ s' 4:=funext (ur ho 4);cases h with
 |v hq hc=>exact .v (by rw[<-DJ ho he];exact hq) hc
 |seq h1 hT hx hy hl =>
  rw[h1]at he;simp only[Op.operands]at he;rename_i T x y T' ks us vs r neg;exact .seq h1 hT (by rw[<-he x aj];exact hx) (by rw[<-he y aj];exact hy) hl
 |idx h1 hr hs hre hx hix h0 hrow hlen =>
  rw[h1]at he;simp only[Op.operands]at he;rename_i T e x ix r re rows row k n;exact .idx h1 hr hs hre (by rw[<-he x aj];exact hx) (by rw[<-he ix aj];exact hix) h0 hrow hlen
 |idxA h1 hr hs hre hx hown hsz hix h0 hlt =>
  rw[h1]at he;simp only[Op.operands]at he;rename_i T e x ix r re k n st g i m c;exact .idxA h1 hr hs hre (by rw[<-he x aj];exact hx) (by rw[<-ho];exact hown) hsz (by rw[<-he ix aj];exact hix) h0 hlt
 |ldp h1 hr hx hown hrow hp =>
  rw[h1]at he;simp only[Op.operands]at he;rename_i T x r st g i j c row;exact .ldp h1 hr (by rw[<-he x aj];exact hx) (by rw[<-ho];exact hown) hrow hp
 |slc h1 hr hs hre hx hix h0 hle hlen =>
  rw[h1]at he;simp only[Op.operands]at he;rename_i T e x lo r re rows k n;exact .slc h1 hr hs hre (by rw[<-he x aj];exact hx) (by rw[<-he lo aj];exact hix) h0 hle hlen
 |slh h1 hr hs hre hx hix h0 hle hlen =>
  rw[h1]at he;simp only[Op.operands]at he;rename_i T e x hi r re rows k n;exact .slh h1 hr hs hre (by rw[<-he x aj];exact hx) (by rw[<-he hi aj];exact hix) h0 hle hlen
 |slg fr h1 hr hs hre hx hlo hhi hlh hle hlen =>
  rw[h1]at he;simp only[Op.operands]at he;rename_i T e x lo hi r re rows l h';exact .slg fr h1 hr hs hre (by rw[<-he x aj];exact hx) (hlo.imp id fun⟨y,k,e1,e2⟩=>⟨y,k,e1,by rw[<-he y (by simp[e1])];exact e2⟩) (hhi.imp id fun⟨y,k,e1,e2⟩=>⟨y,k,e1,by rw[<-he y (by simp[e1])];exact e2⟩) hlh hle hlen
 |slA h1 hr hs hre hx hown hsz hlo hhi hlt hle =>
  rw[h1]at he;simp only[Op.operands]at he;rename_i T e x lo hi r re st g i m l h' c;exact .slA h1 hr hs hre (by rw[<-he x aj];exact hx) (by rw[<-ho];exact hown) hsz (hlo.imp id fun⟨y,k,e1,e2⟩=>⟨y,k,e1,by rw[<-he y (by simp[e1])];exact e2⟩) (hhi.imp id fun⟨y,k,e1,e2⟩=>⟨y,k,e1,by rw[<-he y (by simp[e1])];exact e2⟩) hlt hle
 |slE h1 hr hs hre hx hown hlo hhi hle =>
  rw[h1]at he;simp only[Op.operands]at he;rename_i T e x lo hi r re st g i m l c;exact .slE h1 hr hs hre (by rw[<-he x aj];exact hx) (by rw[<-ho];exact hown) (hlo.imp id fun⟨y,k,e1,e2⟩=>⟨y,k,e1,by rw[<-he y (by simp[e1])];exact e2⟩) (hhi.imp id fun⟨y,k,e1,e2⟩=>⟨y,k,e1,by rw[<-he y (by simp[e1])];exact e2⟩) hle
 |call h1 hf hr hc hb hret =>
  rw[h1]at he;simp only[Op.operands,Call.operands]at he;rename_i fop args tys f caps pargs Cd b;have hm:args.toList.map s.ev=args.toList.map s'.ev:=cE fun x hx=>he x (by simp;exact .inr (by simpa using hx));exact .call h1 (by rw[<-he fop aj];exact hf) (by rw[<-hm,<-hres];exact hr) hc hb hret
 |callF h1 hf hr hc hret =>
  rw[h1]at he;simp only[Op.operands,Call.operands]at he;rename_i fop args tys f caps pargs Cd b r;have hm:args.toList.map s.ev=args.toList.map s'.ev:=cE fun x hx=>he x (by simp;exact .inr (by simpa using hx));exact .callF h1 (by rw[<-he fop aj];exact hf) (by rw[<-hm,<-hres];exact hr) hc hret
 |look h1 hr hs hrk hrv hz hz1 hx hown hk3 hky hkeys =>
  rename_i T K V r rk rv x y k g c z ok;rw[h1]at he;simp only[Op.operands]at he;have hy:=he y aj;rw[hy];exact .look h1 hr hs hrk hrv hz hz1 (by rw[<-he x aj];exact hx) (by rw[<-ho];exact hown) hk3 (by rw[<-hy];exact hky) hkeys
 |sem hx h1 hrun hpv=>exact .sem (by rw[<-he _ (by rw[h1];simp)];exact hx) h1 hrun hpv
 |semF hne hall hrun hpv=>exact .semF hne (fun x hx=>by rw[<-he x hx];exact hall x hx) (fun ev w hw h=>hrun ev w hw fun x hx=>by rw[he x hx];exact h x hx) hpv
 |lookG h1 hr hs hrk hz hx hg hky hkeys =>
  rename_i T K V r rk kk x y rows z ok;rw[h1]at he;simp only[Op.operands]at he;have hy:=he y aj;rw[hy];exact .lookG h1 hr hs hrk hz (by rw[<-he x aj,<-ho];exact hx) hg (by rw[<-hy];exact hky) hkeys
 |s2b h1 hrs hr hs hre hsh hx =>
  rw[h1]at he;simp only[Op.operands]at he;exact .s2b h1 hrs hr hs hre hsh (by rw[<-he _ aj];exact hx)
 |b2s h1 hrs hr hs hre hsh hrd hl hx =>
  rw[h1]at he;simp only[Op.operands]at he;exact .b2s h1 hrs hr hs hre hsh hrd hl (by rw[<-he _ aj];exact hx)
 |entry h1 hx hown hk3 hrows =>
  rename_i x k g c ck cv rem;rw[h1]at he;simp only[Op.operands]at he;exact .entry h1 (by rw[<-he x aj];exact hx) (by rw[<-ho];exact hown) hk3 hrows
 |mks h1 hr hs hre hz hsz hl hc h0 hb h63 =>
  rw[h1]at he;simp only[Op.operands]at he;exact .mks h1 hr hs hre hz hsz (by rw[<-he _ aj];exact hl) (by rw[<-he _ aj];exact hc) h0 hb h63
 |slit h1 hr hs hre hz hsz hn hN hcells hp1 hp2 hkd =>
  rw[h1]at he;simp only[Op.operands]at he;rename_i T e r re n parts Pr;have hp:∀p∈parts.toList,s.ev p.2=s'.ev p.2:=fun p hp=>he p.2 (by simp;exact⟨p.1,by simpa using hp⟩);have hm:(parts.toList.map fun p=>(s.ev p.2).cells.map (gv 0))=parts.toList.map fun p=>(s'.ev p.2).cells.map (gv 0):=cE fun p h=>by rw[hp p h]
  have hf:(parts.toList.flatMap fun p=>(s.ev p.2).cells)=parts.toList.flatMap fun p=>(s'.ev p.2).cells:=by
   rw[iu,iu];congr 1;exact cE fun p h=>by rw[hp p h]
  rw[hm];exact .slit h1 hr hs hre hz hsz hn hN (fun p h=>by rw[<-hp p h];exact hcells p h) (by rw[<-hf,<-iN ho];exact hp1) hp2 (by rw[<-hf];exact hkd)
 |slitD h1 hr hs hre hz hsz hn hN hcells hp1 hp2 hkd =>
  rw[h1]at he;simp only[Op.operands]at he;rename_i T e r re n parts Pr;have hp:∀p∈parts.toList,s.ev p.2=s'.ev p.2:=fun p hp=>he p.2 (by simp;exact⟨p.1,by simpa using hp⟩);have hm:(parts.toList.map fun p=>(s.ev p.2).cells.map (gv 1))=parts.toList.map fun p=>(s'.ev p.2).cells.map (gv 1):=cE fun p h=>by rw[hp p h]
  have hf:(parts.toList.flatMap fun p=>(s.ev p.2).cells)=parts.toList.flatMap fun p=>(s'.ev p.2).cells:=by
   rw[iu,iu];congr 1;exact cE fun p h=>by rw[hp p h]
  rw[hm];exact .slitD h1 hr hs hre hz hsz hn hN (fun p h=>by rw[<-hp p h];exact hcells p h) (by rw[<-hf,<-iN ho];exact hp1) hp2 (by rw[<-hf];exact hkd)
theorem Wants.congr {s s':St}{o:Oper}(he:∀t∈o.looksAt ops,s.reg t=s'.reg t){b:Bool}(h:Wants ops s o b):Wants ops s' o b:=by
 have key:∀ {j d:Nat} {want:Bool},o.guard=some (j,want)->(ops[j]?).bind (·.dst)=some d->s.reg d=s'.reg d:=by
  intro j d want hg hd;exact he d (by simp[Oper.looksAt,hg,hd])
 cases h with
 |none h=>exact .none h
 |yes h hd hr=>exact .yes h hd (by rw[<-key h hd];exact hr)
 |no h hd hr hne=>exact .no h hd (by rw[<-key h hd];exact hr) hne
 |junk h hd hr=>exact .junk h hd (by rw[<-key h hd];exact hr)
theorem Yld.congr {s s':St}(ho:s.own=s'.own){o:Oper}(he:∀t∈o.looksAt ops,s.reg t=s'.reg t){v:PV}(h:Yld P L ops s o v):Yld P L ops s' o v:=by
 have hev:∀x∈o.op.operands,s.ev x=s'.ev x:=by
  intro x hx;cases x with
  |tmp t=>exact he t (iq _ (tB.2 ⟨.tmp t,by simpa using hx,rfl⟩))
  |_=>rfl
 rcases h with⟨h1,h2⟩|⟨h1,h2⟩
 .exact .inl ⟨h1.congr he,h2.congr ho hev⟩
 .exact .inr ⟨h1.congr he,h2⟩
def l6:List (Nat × PV)->St->St
 |[],s=>s
 |(d,v)::l,s=>l6 l (s.putR d v)
theorem qF:∀(l:List (Nat × PV)) (s:St),(l6 l s).own=s.own
 |[],_=>rfl
 |(d,v)::l,s=>by rw[l6,qF l];rfl
theorem kN:∀(l:List (Nat × PV)) (s:St) (t:Nat),(∀p∈l,p.1≠t)->(l6 l s).reg t=s.reg t
 |[],_,_,_=>rfl
 |(d,v)::l,s,t,h=>by
  rw[l6,kN l _ t (fun p hp=>h p (by simp[hp]))];show(bif Nat.beq t d then v else s.reg t)=_;have:t≠d:=fun e=>h (d,v) aj e.symm;rw[bR this];rfl
theorem qE:∀(l:List (Nat × PV)) (s:St) (j t:Nat) (v:PV),l[j]?=some (t,v)->(l.map (·.1)).Nodup->(l6 l s).reg t=v
 |[],_,_,_,_,h,_=>by simp at h
 |(d,u)::l,s,j,t,v,h,hn=>by
  rw[l6];simp only[db,kC]at hn;cases j with
  |zero =>
   simp at h;obtain⟨rfl,rfl⟩:=h;rw[kN l _ d (fun p hp e=>hn.1 (bF.2 ⟨p,hp,e⟩))];simp[St.putR]
  |succ j=>exact qE l _ j t v (by simpa using h) hn.2
theorem PQuiet.ylds {K:St->Prop}:∀(l:List Oper) (ds:List Nat) (s:St),l.map (·.dst)=ds.map some->PQuiet P L ops K l s ->
  ∃vs:List PV,vs.length=ds.length/\(∀(k:Nat) (o:Oper) (v:PV),l[k]?=some o->vs[k]?=some v->Yld P L ops (l6 ((ds.zip vs).take k) s) o v)/\K (l6 (ds.zip vs) s)
 |[],ds,s,hd,h=>by
  have:ds=[]:=by simpa using hd.symm
  subst this;exact⟨[],O,fun k o v h=>by simp at h,h⟩
 |o::l,ds,s,hd,h=>by
  cases ds with
  |nil=>simp at hd
  |cons d ds =>
   simp only[db,List.cons.injEq]at hd;have main:∀v,Yld P L ops s o v->PQuiet P L ops K l (s.put o.dst v)->∃vs:List PV,vs.length=(d::ds).length/\(∀(k:Nat) (o':Oper) (v:PV),(o::l)[k]?=some o'->vs[k]?=some v->Yld P L ops (l6 (((d::ds).zip vs).take k) s) o' v)/\K (l6 ((d::ds).zip vs) s):=by
    intro v hy hq;rw[hd.1]at hq;obtain⟨vs,h1,h2,h3⟩:=PQuiet.ylds l ds _ hd.2 hq;refine⟨v::vs,by simp[h1],fun k o' v' e1 e2=>?_,h3⟩;cases k with
    |zero=>simp at e1 e2;subst e1;subst e2;exact hy
    |succ k=>exact h2 k o' v' (by simpa using e1) (by simpa using e2)
   rcases h with⟨hw,pv,hq,hr⟩|⟨hw,hr⟩
   .exact main pv (.inl ⟨hw,hq⟩) hr
   .exact main (.raw undef) (.inr ⟨hw,O⟩) hr
def nG (ops:Array Oper)(n:Nat)(ds:List Nat):Bool :=
 decide (n<=ops.size)&&((ops.toList.take n).map (·.dst)==ds.map some)&&decide ds.Nodup &&
 ((List.range n).all fun i=>match ops[i]? with
  |some o=>(o.looksAt ops).all fun t=>(List.range n).all fun j=>!(ds[j]? == some t)||(decide (j<i)&&o.after.any fun e=>Region.binds .any e&&e.on==j)
  |none=>false) &&
 ((List.range ops.size).all fun i=>match ops[i]? with
  |some o=>o.after.all fun e=>!Region.binds .any e||decide (e.on<i)
  |none=>false) &&
 (decide (n=ops.size)||(Region.sinkB .any ops n&&Region.chainB .any ops n)) &&
 Region.seqB .any ops (ops.size-n) n ((List.replicate n true++List.replicate (ops.size-n) false).toArray)
end
end Go.Pv
namespace Go.Pv
open Go.RowKit
variable [Globs]
section
variable {P:Program}{L:b9}{C:Ctx}{s:St}{a:Act}{w w':World}{ops:Array Oper}
structure DrawOk (ops:Array Oper) (n:Nat) (ds:List Nat):Prop where
 le:n<=ops.size
 dst:(ops.toList.take n).map (·.dst)=ds.map some
 nodup:ds.Nodup
 looks:∀i o,i<n->ops[i]?=some o->∀t∈o.looksAt ops,∀j,j<n->ds[j]?=some t->j<i/\∃e∈o.after,Region.binds .any e=true/\e.on=j
 lex:∀i o,ops[i]?=some o->∀e∈o.after,Region.binds .any e=true->e.on<i
 tail:n=ops.size\/(Region.sinkB .any ops n=true/\Region.chainB .any ops n=true)
 seq:Region.seqB .any ops (ops.size-n) n ((List.replicate n true++List.replicate (ops.size-n) false).toArray)=true
theorem vj {n:Nat}{ds:List Nat}(h:nG ops n ds=true):DrawOk ops n ds:=by
 simp only[nG,bj,decide_eq_true_eq,beq_iff_eq,pd]at h;obtain⟨⟨⟨⟨⟨⟨h1,h2⟩,h3⟩,h4⟩,h5⟩,h6⟩,h7⟩:=h;refine⟨h1,h2,h3,fun i o hi ho t ht j hj hd=>?_,fun i o ho e he hb=>?_,h6,h7⟩
 .have e1:=bx.1 h4 i (dG.2 hi);rw[ho]at e1;have e2:=bx.1 e1 t ht;have e3:=bx.1 e2 j (dG.2 hj);simp only[hd,beq_self_eq_true,pl,kI,bj,decide_eq_true_eq]at e3;obtain⟨e,he,hb⟩:=Array.any_eq_true'.1 e3.2;simp only[bj,beq_iff_eq]at hb;exact⟨e3.1,e,he,hb.1,hb.2⟩
 .have hi:i<ops.size:=(eO ho).1;have e1:=bx.1 h5 i (dG.2 hi);rw[ho]at e1;have e2:=y6.1 e1 e he;simpa [hb] using e2
structure Agr (ds:List Nat) (vs:List PV) (n:Nat) (listed:Array Bool) (s0 s:St):Prop where
 own:s.own=s0.own
 hit:∀t j,j<n->listed.getD j false=true->ds[j]?=some t->vs[j]?=some (s.reg t)
 miss:∀t,(∀j,j<n->listed.getD j false=true->ds[j]? ≠ some t)->s.reg t=s0.reg t
theorem St.ext' {s s':St}(h1:s.reg=s'.reg)(h2:s.own=s'.own):s=s':=by
 cases s;cases s';simp_all
theorem Ar {ds:List Nat}{vs:List PV}(_hl:vs.length=ds.length){j t:Nat}{v:PV}(h1:ds[j]?=some t)(h2:vs[j]?=some v):(ds.zip vs)[j]?=some (t,v):=by
 rw[List.getElem?_zip_eq_some];exact⟨h1,h2⟩
end
end Go.Pv
