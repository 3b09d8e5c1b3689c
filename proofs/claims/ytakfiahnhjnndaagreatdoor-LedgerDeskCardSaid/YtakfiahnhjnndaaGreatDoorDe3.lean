/- Texts of one hand, gathered: PvN, PvT, PvO, PvP, PvY, PvZ, LaA, LaB, LaC, LaD, LaE, LaF, LaG, LaH, LaI, LaJ, LaK, LaL. -/
import Derived.Test.YtakfiahnhjnndaaGreatDoorDe2
import Derived.Test.YtakfiahnhjnndaaGreatDoorProg
import Derived.KernelRfl
import Derived.Lib.SmallJoins
import Derived.Lib.ItoaNum
set_option linter.unusedSectionVars false
set_option linter.unusedSimpArgs false
set_option linter.unusedVariables false
set_option linter.unnecessarySimpa false
namespace Go.Pv
open Go.RowKit
variable [Globs]
section
variable {P : Program} {L : Lay} {Q : Exit → St → Prop} {K : St → Prop} {s : St} {ops : Array Oper} {rest : List Oper} {o : Oper}
theorem POp.mono' {K' : St → Prop} (hk : ∀ s,K s → K' s) (h : POp P L s o K) : POp P L s o K' := by
 rcases h with ⟨pv,h1,h2⟩ | ⟨s',h1,h2⟩ | h1
 ·exact .inl ⟨pv,h1,hk _ h2⟩
 ·exact .inr (.inl ⟨s',h1,hk _ h2⟩)
 ·exact .inr (.inr (h1.mono hk))
theorem pw_seq {x y : Code} (h : PWP P L x (XThen (fun s' => PWP P L y Q s') Q) s) : PWP P L (.seq x y) Q s := h
theorem pw_skip (h : Q .normal s) : PWP P L .skip Q s := Gh.of h
theorem pw_ret (h : Q .ret s) : PWP P L .ret Q s := Gh.of h
theorem pw_exit {id : Nat} (h : Q (.exit id) s) : PWP P L (.exit id) Q s := Gh.of h
theorem pw_region {id : Nat} {l : List Oper} (h : POps P L l.toArray (Q .normal) l s) : PWP P L (.region id l.toArray false) Q s := Gh.of (.inl h)
theorem psem_app {K : St → Prop} : ∀ (l1 l2 : List Oper) (s : St),POps P L ops (fun s' => PSem P L ops K l2 s') l1 s → PSem P L ops K (l1 ++ l2) s
 |[],_,_,h => h
 |_ :: l1,l2,_,h => h.imp (fun x => ⟨x.1,.inl (x.2.mono' fun s' h' => psem_app l1 l2 s' h')⟩) (fun x => ⟨x.1,psem_app l1 l2 _ x.2⟩)
theorem pw_regionS {id : Nat} {l : List Oper} (n : Nat) (h : POps P L l.toArray (fun s' => PSem P L l.toArray (Q .normal) (l.drop n) s') (l.take n) s) : PWP P L (.region id l.toArray false) Q s := by
 have := psem_app (K := Q .normal) (l.take n) (l.drop n) s h
 rw [List.take_append_drop] at this
 exact Gh.of (.inr (.inl this))
theorem psemi_app {K : St → Prop} : ∀ (l1 l2 : List Oper) (s : St),POps P L ops (fun s' => PSemI P L ops K l2 s') l1 s → PSemI P L ops K (l1 ++ l2) s
 |[],_,_,h => h
 |_ :: l1,l2,_,h => h.imp (fun x => ⟨x.1,.inl (x.2.mono' fun s' h' => psemi_app l1 l2 s' h')⟩) (fun x => ⟨x.1,psemi_app l1 l2 _ x.2⟩)
theorem pw_regionI {id : Nat} {l : List Oper} (n : Nat) (h : POps P L l.toArray (fun s' => PSemI P L l.toArray (Q .normal) (l.drop n) s') (l.take n) s) : PWP P L (.region id l.toArray false) Q s := by
 have := psemi_app (K := Q .normal) (l.take n) (l.drop n) s h
 rw [List.take_append_drop] at this
 exact Gh.of (.inr (.inr this))
theorem psemi_sm (hg : o.guard = none) (h : SmI P L s o (PSemI P L ops K rest)) : PSemI P L ops K (o :: rest) s := .inl ⟨.none hg,.inr (.inr h)⟩
theorem psemi_ops (h : POps P L ops K rest s) : PSemI P L ops K rest s := by
 have := psemi_app (P := P) (L := L) (ops := ops) (K := K) rest [] s h
 rwa [List.append_nil] at this
theorem psem_sm (hg : o.guard = none) (h : Sm P L s o (PSem P L ops K rest)) : PSem P L ops K (o :: rest) s := .inl ⟨.none hg,.inr h⟩
theorem psem_ops (h : POps P L ops K rest s) : PSem P L ops K rest s := by
 have := psem_app (P := P) (L := L) (ops := ops) (K := K) rest [] s h
 rwa [List.append_nil] at this
theorem pw_draw {id : Nat} {l : List Oper} (n : Nat) (ds : List Nat) (hok : drawOk l.toArray n ds = true) (h : PQuiet P L l.toArray (fun s' => POps P L l.toArray (Q .normal) (l.drop n) s') (l.take n) s) : PWP P L (.region id l.toArray true) Q s :=
 Gh.of (Or.inl ⟨n,ds,hok,h⟩)
theorem pw_draw3 {id : Nat} {l : List Oper} (Z ch : List Nat) (hok : drawOk3 l.toArray ch = true) (h : P3 P L l.toArray Z (zin ch) (Q .normal) 0 l s) : PWP P L (.region id l.toArray true) Q s :=
 Gh.of (Or.inr (Or.inr (Or.inl ⟨Z,ch,hok,h⟩)))
theorem pw_tree {id : Nat} {l : List Oper} (h : PTree P L l.toArray (Q .normal) l.length (Array.replicate l.length false) s) : PWP P L (.region id l.toArray true) Q s :=
 Gh.of (Or.inr (Or.inr (Or.inr h)))
theorem pw_draw2 {id : Nat} {l : List Oper} (n m : Nat) (ds F : List Nat) (hok : drawOk2 l.toArray n m ds F = true) (hnone : (ds.drop n).all (fun d => (s.own d).2.isNone) = true) (h : PQuiet P L l.toArray (fun s' => FD l.toArray (n + m) F s' = true ∧ POps P L l.toArray (Q .normal) (l.drop n) s') (l.take n) s) : PWP P L (.region id l.toArray true) Q s :=
 Gh.of (Or.inr (Or.inl ⟨n,m,ds,F,hok,fun d hd => by simpa using List.all_eq_true.1 hnone d hd,h⟩))
theorem pw_cond {c : Operand} {x y : Code} {b : Bool} (hc : s.ev c = .bool b) (h1 : b = true → PWP P L x Q s) (h2 : b = false → PWP P L y Q s) : PWP P L (.cond c x y) Q s := Gh.of ⟨b,hc,h1,h2⟩
theorem pw_true {c : Operand} {x y : Code} (hc : s.ev c = .bool true) (h1 : PWP P L x Q s) : PWP P L (.cond c x y) Q s := Gh.of ⟨true,hc,fun _ => h1,fun h => by cases h⟩
theorem pw_false {c : Operand} {x y : Code} (hc : s.ev c = .bool false) (h1 : PWP P L y Q s) : PWP P L (.cond c x y) Q s := Gh.of ⟨false,hc,(fun h => by cases h),fun _ => h1⟩
theorem x_norm {next : St → Prop} (h : next s) : XThen next Q .normal s := h
theorem xb_norm {id : Nat} (h : Q .normal s) : XBlock id Q .normal s := h
theorem xb_here {id : Nat} (h : Q .normal s) : XBlock id Q (.exit id) s := by show if id = id then _ else _;rw [if_pos rfl];exact h
theorem xb_away {id id' : Nat} (hne : Nat.beq id' id = false) (h : Q (.exit id') s) : XBlock id Q (.exit id') s := by
 show if id' = id then _ else _
 rw [if_neg (fun e => by subst e;simp at hne)];exact h
variable {d e j : Nat} {op : Op} {ty : TypeId} {pos : String} {af : Array Edge} {want : Bool}
theorem ps_nil (h : K s) : POps P L ops K [] s := h
theorem ps_run (h : POp P L s ⟨some d,op,ty,pos,af,none⟩ (POps P L ops K rest)) : POps P L ops K (⟨some d,op,ty,pos,af,none⟩ :: rest) s := .inl ⟨.none rfl,h⟩
theorem ps_run0 (h : POp P L s ⟨none,op,ty,pos,af,none⟩ (POps P L ops K rest)) : POps P L ops K (⟨none,op,ty,pos,af,none⟩ :: rest) s := .inl ⟨.none rfl,h⟩
theorem pq_nil (h : K s) : PQuiet P L ops K [] s := h
theorem ps_v {pv : PV} {Cd : Prop} (hq : qv L s op = some (pv,Cd)) (hc : Cd) (h : POps P L ops K rest (s.putR d pv)) : POps P L ops K (⟨some d,op,ty,pos,af,none⟩ :: rest) s := ps_run (.inl ⟨pv,.v hq hc,h⟩)
theorem op_v {pv : PV} {Cd : Prop} {g : Option (Nat × Bool)} (hq : qv L s op = some (pv,Cd)) (hc : Cd) (h : K (s.putR d pv)) : POp P L s ⟨some d,op,ty,pos,af,g⟩ K := .inl ⟨pv,.v hq hc,h⟩
theorem op_q {pv : PV} {g : Option (Nat × Bool)} (hq : QOp P L s ⟨some d,op,ty,pos,af,g⟩ pv) (h : K (s.putR d pv)) : POp P L s ⟨some d,op,ty,pos,af,g⟩ K := .inl ⟨pv,hq,h⟩
theorem pq_q {pv : PV} (hq : QOp P L s ⟨some d,op,ty,pos,af,none⟩ pv) (h : PQuiet P L ops K rest (s.putR d pv)) : PQuiet P L ops K (⟨some d,op,ty,pos,af,none⟩ :: rest) s := .inl ⟨.none rfl,pv,hq,h⟩
theorem pq_v {pv : PV} {Cd : Prop} (hq : qv L s op = some (pv,Cd)) (hc : Cd) (h : PQuiet P L ops K rest (s.putR d pv)) : PQuiet P L ops K (⟨some d,op,ty,pos,af,none⟩ :: rest) s := pq_q (.v hq hc) h
section ops
variable {g : Option (Nat × Bool)} {T : TypeId} {x y : Operand} {r re : LRow} {E : TypeId}
theorem q_idx {ix : Operand} {rows : List (List PV)} {row : List PV} {k : IntKind} {n : Int} (hr : L T = some r) (hs : r.sh = .sl E) (hre : L E = some re) (hx : s.ev x = .sl rows) (hix : s.ev ix = .int k n) (h0 : 0 ≤ n) (hrow : rows[n.toNat]? = some row)
  (hlen : row.length = re.size) : QOp P L s ⟨some d,.indexAddr T x ix,ty,pos,af,g⟩ (.dref row 0) := .idx rfl hr hs hre (.inl hx) hix h0 hrow hlen
theorem q_idxF {ix : Operand} {rows : List (List PV)} {row : List PV} {k : IntKind} {n : Int} (hr : L T = some r) (hs : r.sh = .sl E) (hre : L E = some re) (hx : s.ev x = .fsl rows) (hix : s.ev ix = .int k n) (h0 : 0 ≤ n) (hrow : rows[n.toNat]? = some row)
  (hlen : row.length = re.size) : QOp P L s ⟨some d,.indexAddr T x ix,ty,pos,af,g⟩ (.dref row 0) := .idx rfl hr hs hre (.inr hx) hix h0 hrow hlen
theorem q_idxm {α : Type} {enc : α → List PV} {l : List α} {a : α} {ix : Operand} {k : IntKind} {n : Int} (hr : L T = some r) (hs : r.sh = .sl E) (hre : L E = some re) (hx : s.ev x = .sl (l.map enc)) (hix : s.ev ix = .int k n) (h0 : 0 ≤ n) (hget : l[n.toNat]? = some a)
  (hlen : (enc a).length = re.size) : QOp P L s ⟨some d,.indexAddr T x ix,ty,pos,af,g⟩ (.dref (enc a) 0) := q_idx hr hs hre hx hix h0 (by rw [List.getElem?_map,hget];rfl) hlen
theorem q_idxmF {α : Type} {enc : α → List PV} {l : List α} {a : α} {ix : Operand} {k : IntKind} {n : Int} (hr : L T = some r) (hs : r.sh = .sl E) (hre : L E = some re) (hx : s.ev x = .fsl (l.map enc)) (hix : s.ev ix = .int k n) (h0 : 0 ≤ n) (hget : l[n.toNat]? = some a)
  (hlen : (enc a).length = re.size) : QOp P L s ⟨some d,.indexAddr T x ix,ty,pos,af,g⟩ (.dref (enc a) 0) := q_idxF hr hs hre hx hix h0 (by rw [List.getElem?_map,hget];rfl) hlen
theorem q_idxA {ix : Operand} {k : IntKind} {n : Int} {st gn i m : Nat} {c : Cont} (hr : L T = some r) (hs : r.sh = .sl E) (hre : L E = some re) (hx : s.ev x = .als st gn i m) (hown : s.own st = (gn,some c)) (hsz : c.sz = re.size) (hix : s.ev ix = .int k n) (h0 : 0 ≤ n) (hlt : n < m) :
  QOp P L s ⟨some d,.indexAddr T x ix,ty,pos,af,g⟩ (.ptr st gn (i + n.toNat) 0) := .idxA rfl hr hs hre hx hown hsz hix h0 hlt
theorem q_seqN {x y : Operand} {T' : TypeId} {ks : List Sh} {us vs : List PV} {r : Bool} (hT : eqT P T ks = true) (hx : s.ev x = .agg us) (hy : s.ev y = .agg vs) (hl : leqs ks us vs = some r) :
  QOp P L s ⟨some d,.binOp .neq T x y T',ty,pos,af,g⟩ (.bool (!r)) := .seq (neg := true) rfl hT hx hy hl
theorem q_seqE {x y : Operand} {T' : TypeId} {ks : List Sh} {us vs : List PV} {r : Bool} (hT : eqT P T ks = true) (hx : s.ev x = .agg us) (hy : s.ev y = .agg vs) (hl : leqs ks us vs = some r) :
  QOp P L s ⟨some d,.binOp .eql T x y T',ty,pos,af,g⟩ (.bool r) := .seq (neg := false) rfl hT hx hy hl
theorem q_ldp {st gn i jj : Nat} {c : Cont} {row : List PV} {pv : PV} (hr : L T = some r) (hx : s.ev x = .ptr st gn i jj) (hown : s.own st = (gn,some c)) (hrow : c.rows[i]? = some row) (hp : part r row jj = some pv) :
  QOp P L s ⟨some d,.load T x,ty,pos,af,g⟩ pv := .ldp rfl hr hx hown hrow hp
theorem q_call {fop : Operand} {args : Array Operand} {tys : Array TypeId} {f : FuncId} {caps pargs : List PV} {Cd : Prop} {b : Fl} {rr : PV} (hf : s.ev fop = .clo f caps) (hret : Ret P .shared f pargs rr) (hres : resL (res s 4) (args.toList.map s.ev ++ caps) = some (pargs,Cd,b)) (hc : Cd) (hb : b.cl = true) :
  QOp P L s ⟨some d,.call ⟨.value fop,args,tys⟩,ty,pos,af,g⟩ rr := .call rfl hf hres hc hb hret
theorem q_callF {fop : Operand} {args : Array Operand} {tys : Array TypeId} {f : FuncId} {caps pargs : List PV} {Cd : Prop} {b : Fl} {rr rf : PV} (hf : s.ev fop = .clo f caps) (hret : Ret P .fresh f pargs rr) (hres : resL (res s 4) (args.toList.map s.ev ++ caps) = some (pargs,Cd,b)) (hc : Cd) (hrf : rr.frs.fz = some rf) :
  QOp P L s ⟨some d,.call ⟨.value fop,args,tys⟩,ty,pos,af,g⟩ rf := by
 rw [PV.fz_eq] at hrf
 have := QOp.callF (P := P) (L := L) (o := ⟨some d,.call ⟨.value fop,args,tys⟩,ty,pos,af,g⟩) rfl hf hres hc hret
 rwa [Option.some.inj hrf] at this
theorem q_callP {fop : Operand} {args : Array Operand} {tys : Array TypeId} {f : FuncId} {caps pargs : List PV} {Cd : Prop} {b : Fl} {rr rf : PV} (hf : s.ev fop = .clo f caps) (hret : Ret P .shared f pargs rr) (hres : resL (res s 4) (args.toList.map s.ev ++ caps) = some (pargs,Cd,b)) (hc : Cd) (hfl : rr.flat = true) (hrf : rr.frs.fz = some rf) :
  QOp P L s ⟨some d,.call ⟨.value fop,args,tys⟩,ty,pos,af,g⟩ rf := q_callF hf (hret.fresh_of_flat hfl) hres hc hrf
theorem o_box {v : PV} {gn : Nat} {oc : Option Cont} {Pr : Prop} (hx : (s.ev x).fz = some v) (hown : s.own d = (gn,oc)) (h1 : oneL s v.cells = some Pr) (h2 : Pr) (h0 : Nat.blt 0 v.cells.length = true)
  (h : K ((s.setOwn d (gn + 1) (some ⟨T,v.cells.length,[v.cells],2⟩)).putR d (.ptr d (gn + 1) 0 0))) : POp P L s ⟨some d,.box T x,ty,pos,af,g⟩ K := by
 rw [PV.fz_eq] at hx
 have hx' := Option.some.inj hx
 refine .inr (.inl ⟨_,.box rfl rfl (by rw [hx'];exact h1) h2 (by rw [hx'];simpa using h0),?_⟩)
 rw [hx',St.fin,hown];exact h
theorem o_alloc {z : List PV} {gn : Nat} {oc : Option Cont} (hr : L T = some r) (hz : r.zero = some z) (hown : s.own d = (gn,oc)) (h0 : Nat.blt 0 z.length = true)
  (h : K ((s.setOwn d (gn + 1) (some ⟨T,z.length,[z],2⟩)).putR d (.ptr d (gn + 1) 0 0))) : POp P L s ⟨some d,.alloc T,ty,pos,af,g⟩ K := by
 refine .inr (.inl ⟨_,.alloc rfl rfl hr hz (by simpa using h0),?_⟩)
 rw [St.fin,hown];exact h
theorem o_store1 {v : PV} {k gn jj : Nat} {tc : TypeId} {sz : Nat} {row new : List PV} {Pr : Prop} (hr : L T = some r) (hx : s.ev x = .ptr k gn 0 jj) (hown : s.own k = (gn,some ⟨tc,sz,[row],2⟩)) (hv : (s.ev y).fz = some v) (h1 : oneL s v.cells = some Pr) (h2 : Pr)
  (hsz : v.cells.length = r.size) (hle : Nat.ble (jj + r.size) row.length = true) (hnew : splc row jj v.cells = new) (h : K (s.setOwn k gn (some ⟨tc,sz,[new],2⟩))) : POp P L s ⟨none,.store T x y,ty,pos,af,g⟩ K := by
 rw [PV.fz_eq] at hv
 have hv' := Option.some.inj hv
 refine .inr (.inl ⟨_,.store 2 rfl rfl hr hx hown (by rfl) (by rw [hv'];exact h1) h2 (by rw [hv'];exact hsz) (by simpa using hle) (Nat.le_refl _) (by rw [List.all_eq_true];intro c _;cases c <;> rfl),?_⟩)
 have hm : ∀ l : List PV,l.map (nrm 2) = l := by intro l;induction l with | nil => rfl | cons c l ih => rw [List.map_cons,ih];cases c <;> rfl
 rw [hv',hm]
 have : ([row] : List (List PV)).set 0 (splc row jj v.cells) = [new] := by rw [hnew];rfl
 rw [this];exact h
theorem o_store {v : PV} {k gn i jj kd kd' : Nat} {tc : TypeId} {sz : Nat} {rows : List (List PV)} {row : List PV} {Pr : Prop} (hr : L T = some r) (hx : s.ev x = .ptr k gn i jj) (hown : s.own k = (gn,some ⟨tc,sz,rows,kd⟩)) (hrow : rows[i]? = some row) (hv : (s.ev y).fz = some v) (h1 : oneL s v.cells = some Pr) (h2 : Pr)
  (hsz : v.cells.length = r.size) (hle : Nat.ble (jj + r.size) row.length = true) (hk : Nat.ble kd kd' = true) (hkd : v.cells.all (kOk kd') = true) (h : K (s.setOwn k gn (some ⟨tc,sz,rows.set i (splc row jj (v.cells.map (nrm kd'))),kd'⟩))) : POp P L s ⟨none,.store T x y,ty,pos,af,g⟩ K := by
 rw [PV.fz_eq] at hv
 have hv' := Option.some.inj hv
 refine .inr (.inl ⟨_,.store kd' rfl rfl hr hx hown hrow (by rw [hv'];exact h1) h2 (by rw [hv'];exact hsz) (by simpa using hle) (by simpa using hk) (by rw [hv'];exact hkd),?_⟩)
 rw [hv'];exact h
theorem o_app {k gn m k1 k2 : Nat} {tc : TypeId} {sz : Nat} {rows1 rows2 : List (List PV)} {Cd2 : Prop} (kd : Nat) (hr : L T = some r) (hs : r.sh = .sl E) (hre : L E = some re) (hz : re.zero.isSome = true) (hsz : Nat.blt 0 re.size = true) (hx : s.ev x = .als k gn 0 m) (hown : s.own k = (gn,some ⟨tc,sz,rows1,k1⟩))
  (hcs : sz = re.size) (hct : tc = E) (hq : srcOf s (s.ev y) = some (rows2,k2,Cd2)) (hm : m = rows1.length) (hc2 : Cd2) (hlen : ∀ row ∈ rows2,row.length = re.size) (hk1 : Nat.ble k1 kd = true) (hk2 : Nat.ble k2 kd = true) (hb : (rows1.length + rows2.length) * re.bytes ≤ 140737488355328) (h63 : rows1.length + rows2.length ≤ 9223372036854775807)
  (h : K ((s.setOwn k (gn + 1) (some ⟨E,re.size,rows1 ++ rows2,kd⟩)).putR d (.als k (gn + 1) 0 (rows1 ++ rows2).length))) :
  POp P L s ⟨some d,.call ⟨.builtin .append,#[x,y],#[T,T]⟩,ty,pos,af,g⟩ K := by
 refine .inr (.inl ⟨_,.app kd rfl rfl hr hs hre hz (by simpa using hsz) hx hown hm hcs hct hq hc2 hlen (by simpa using hk1) (by simpa using hk2) hb h63,?_⟩)
 rw [St.fin,hown];exact h
theorem o_make {l c : Operand} {kl kc : IntKind} {n : Int} {z : List PV} {gn : Nat} {oc : Option Cont} (hr : L T = some r) (hs : r.sh = .sl E) (hre : L E = some re) (hz : re.zero = some z) (hsz : Nat.blt 0 re.size = true) (hl : s.ev l = .int kl n) (hc : s.ev c = .int kc n) (hown : s.own d = (gn,oc))
  (h0 : 0 ≤ n) (hb : (re.bytes : Int) * n ≤ 140737488355328) (h63 : n ≤ 9223372036854775807) (h : K ((s.setOwn d (gn + 1) (some ⟨E,re.size,List.replicate n.toNat z,0⟩)).putR d (.als d (gn + 1) 0 (List.replicate n.toNat z).length))) :
  POp P L s ⟨some d,.makeSlice T l c,ty,pos,af,g⟩ K := by
 refine .inr (.inl ⟨_,.make rfl rfl hr hs hre hz (by simpa using hsz) hl hc h0 hb h63,?_⟩)
 rw [St.fin,hown];exact h
def litRows (s : St) (kd : Nat) : List (Nat × Operand) → Option (List (List PV))
 |[] => some []
 |p :: ps => match (s.ev p.2).fz with
  |some v => (match litRows s kd ps with | some rs => some (v.cells.map (nrm kd) :: rs) | none => none)
  |none => none
theorem litRows_eq (kd : Nat) : ∀ (ps : List (Nat × Operand)) (rows : List (List PV)),litRows s kd ps = some rows → rows = ps.map fun p => (s.ev p.2).cells.map (nrm kd)
 |[],rows,h => by simp [litRows] at h;exact h
 |p :: ps,rows,h => by
  simp only [litRows,PV.fz_eq] at h
  split at h
  ·rename_i rs hrs
   have := litRows_eq kd ps rs hrs
   have h' := Option.some.inj h
   rw [← h',this];rfl
  ·cases h
def nats : Nat → Nat → List Nat
 |_,0 => []
 |k,n + 1 => k :: nats (k + 1) n
theorem nats_range : ∀ (n k : Nat),nats k n = (List.range n).map (k + ·)
 |0,k => rfl
 |n + 1,k => by
  rw [nats,nats_range n (k + 1),List.range_succ_eq_map]
  simp only [List.map_cons,List.map_map,Nat.add_zero]
  congr 1
  apply List.map_congr_left
  intro i _
  simp;omega
theorem o_slit {n gn : Nat} {ps : List (Nat × Operand)} {oc : Option Cont} {rows : List (List PV)} {Pr : Prop} (kd : Nat) (hr : L T = some r) (hs : r.sh = .sl E) (hre : L E = some re) (hz : re.zero.isSome = true) (hsz : Nat.blt 0 re.size = true) (hown : s.own d = (gn,oc)) (hrows : litRows s kd ps = some rows)
  (hn : ps.map (·.1) = nats 0 n) (hN : Nat.ble (n * re.size) 16777216 = true) (hcells : ps.all (fun p => Nat.beq (s.ev p.2).cells.length re.size) = true) (h1 : oneL s (ps.flatMap fun p => (s.ev p.2).cells) = some Pr) (h2 : Pr) (hkd : (ps.flatMap fun p => (s.ev p.2).cells).all (kOk kd) = true)
  (h : K ((s.setOwn d (gn + 1) (some ⟨E,re.size,rows,kd⟩)).putR d (.als d (gn + 1) 0 rows.length))) : POp P L s ⟨some d,.buildSlice T n ps.toArray,ty,pos,af,g⟩ K := by
 refine .inr (.inl ⟨_,.slit kd rfl rfl hr hs hre hz (by simpa using hsz) (by rw [nats_range] at hn;simpa using hn) (by simpa using hN) (fun p hp => ?_) h1 h2 hkd,?_⟩)
 ·have := List.all_eq_true.1 hcells p hp
  simpa using this
 ·rw [St.fin,hown]
  rw [litRows_eq kd ps rows hrows] at h
  exact h
theorem o_mkmap {gn : Nat} {oc : Option Cont} (hown : s.own d = (gn,oc)) (h : K ((s.setOwn d (gn + 1) (some ⟨T,0,[],0⟩)).putR d (.mp d (gn + 1)))) : POp P L s ⟨some d,.makeMap T none,ty,pos,af,g⟩ K := by
 refine .inr (.inl ⟨_,.makeMap rfl rfl,?_⟩)
 rw [St.fin,hown];exact h
theorem o_mset {V : TypeId} {x y v : Operand} {k gn kd : Nat} {rows : List (List PV)} {T' : TypeId} {key pv : PV} (kd' : Nat) (hr : L T = some r) (hs : r.sh = .map E V) (hre : L E = some re) (hx : s.ev x = .mp k gn) (hown : s.own k = (gn,some ⟨T',0,rows,kd⟩)) (hk1 : Nat.ble kd kd' = true) (hk3 : Nat.blt kd' 3 = true)
  (hy : (s.ev y).fz = some key) (hky : re.sh.key key = true) (hkeys : keyed re.sh rows = true) (hv : (s.ev v).fz = some pv) (hkd : kOk kd' pv = true) (h : K (s.setOwn k gn (some ⟨T',0,mput key (nrm kd' pv) rows,kd'⟩))) : POp P L s ⟨none,.mapUpdate T x y v,ty,pos,af,g⟩ K := by
 rw [PV.fz_eq] at hy hv
 have hy := Option.some.inj hy
 have hv := Option.some.inj hv
 exact .inr (.inl ⟨_,.mapSet kd' rfl rfl hr hs hre hx hown (by simpa using hk1) (by simpa using hk3) (by rw [hy];exact hky) hkeys (by rw [hv];exact hkd),by rw [hy,hv];exact h⟩)
theorem o_msetG {V : TypeId} {x y v : Operand} {k gn kd : Nat} {rows : List (List PV)} {T' : TypeId} {key pv : PV} (kk : Option (List Sh)) (kd' : Nat) (hr : L T = some r) (hs : r.sh = .map E V) (hre : L E = some re) (hg : kgood P E kk = true) (hx : s.ev x = .mp k gn) (hown : s.own k = (gn,some ⟨T',0,rows,kd⟩)) (hk1 : Nat.ble kd kd' = true) (hk3 : Nat.blt kd' 3 = true)
  (hy : (s.ev y).fz = some key) (hky : kkey re.sh kk key = true) (hkeys : keyedG re.sh kk rows = true) (hv : (s.ev v).fz = some pv) (hkd : kOk kd' pv = true) (h : K (s.setOwn k gn (some ⟨T',0,mput key (nrm kd' pv) rows,kd'⟩))) : POp P L s ⟨none,.mapUpdate T x y v,ty,pos,af,g⟩ K := by
 rw [PV.fz_eq] at hy hv
 have hy := Option.some.inj hy
 have hv := Option.some.inj hv
 exact .inr (.inl ⟨_,.mapSetG kd' rfl rfl hr hs hre hx hown (by simpa using hk1) (by simpa using hk3) hg (by rw [hy];exact hky) hkeys (by rw [hv];exact hkd),by rw [hy,hv];exact h⟩)
theorem q_lookD {V : TypeId} {rv : LRow} {rows : List (List PV)} {key z : PV} (kk : Option (List Sh)) (hr : L T = some r) (hs : r.sh = .map E V) (hre : L E = some re) (hrv : L V = some rv) (hz : rv.zero = some [z]) (hz1 : zone P V = true) (hg : kgood P E kk = true) (hx : s.ev x = .mapd rows)
  (hy : (s.ev y).fz = some key) (hky : kkey re.sh kk key = true) (hkeys : keyedG re.sh kk rows = true) : QOp P L s ⟨some d,.lookup T x y false,ty,pos,af,g⟩ (mval z key rows) := by
 rw [PV.fz_eq] at hy
 have hy := Option.some.inj hy
 have := QOp.lookG (P := P) (L := L) (s := s) (o := ⟨some d,.lookup T x y false,ty,pos,af,g⟩) rfl hr hs hre (fun hL => zval1 hL hrv hz hz1) (.inl hx) hg (by rw [hy];exact hky) hkeys
 rw [hy] at this
 exact this
theorem q_lookG {V : TypeId} {rv : LRow} {k gn kd : Nat} {rows : List (List PV)} {T' : TypeId} {key z : PV} (kk : Option (List Sh)) (hr : L T = some r) (hs : r.sh = .map E V) (hre : L E = some re) (hrv : L V = some rv) (hz : rv.zero = some [z]) (hz1 : zone P V = true) (hg : kgood P E kk = true) (hx : s.ev x = .mp k gn) (hown : s.own k = (gn,some ⟨T',0,rows,kd⟩)) (hkd : Nat.blt kd 3 = true)
  (hy : (s.ev y).fz = some key) (hky : kkey re.sh kk key = true) (hkeys : keyedG re.sh kk rows = true) : QOp P L s ⟨some d,.lookup T x y false,ty,pos,af,g⟩ (mval z key rows) := by
 rw [PV.fz_eq] at hy
 have hy := Option.some.inj hy
 have := QOp.lookG (P := P) (L := L) (s := s) (o := ⟨some d,.lookup T x y false,ty,pos,af,g⟩) rfl hr hs hre (fun hL => zval1 hL hrv hz hz1) (.inr ⟨k,gn,_,hx,hown,(by simpa using hkd),rfl⟩) hg (by rw [hy];exact hky) hkeys
 rw [hy] at this
 exact this
theorem q_s2b {src : TypeId} {rs : LRow} {l : List UInt8} (hrs : L src = some rs) (hr : L T = some r) (hs : r.sh = .sl E) (hre : L E = some re) (hsh : re.sh = .int .u8) (hx : s.ev x = .str l) : QOp P L s ⟨some d,.convert src T x,ty,pos,af,g⟩ (.fsl (l.map fun c => [.int .u8 c.toNat])) :=
 .s2b rfl hrs hr hs hre hsh hx
theorem q_nckR {b o : Nat} (hx : s.ev x = .raw (.pointer (some ⟨b,o,none⟩))) : QOp P L s ⟨some d,.nilCheck x,ty,pos,af,g⟩ (.raw (.pointer (some ⟨b,o,none⟩))) :=
 .sem hx rfl (fun ev w _ he => by simp only [execOp,he];rfl) fun _ _ => .raw _
theorem q_faR {fs : List (Nat × TypeId)} {f off ft b o : Nat} {rf : LRow} (hL : LOk P L) (hr : L T = some r) (hs : r.sh = .st fs) (hf : fs[f]? = some (off,ft)) (hrf : L ft = some rf) (hsz : Nat.blt 0 rf.size = true) (hx : s.ev x = .raw (.pointer (some ⟨b,o,none⟩))) :
  QOp P L s ⟨some d,.fieldAddr T x f,ty,pos,af,g⟩ (.raw (.pointer (some ⟨b,o + off,none⟩))) :=
 .sem hx rfl (fun ev w _ he => by
  simp only [execOp,he]
  rw [Sem.run_bind,run_fieldAt hL hr hs hf hrf hsz]
  rfl) fun _ _ => .raw _
theorem q_ldR {b o : Nat} {k : IntKind} {n : Int} (hL : LOk P L) (hG : ∀ w : World,Globs.glob w → w.cell? ⟨b,o,none⟩ = some (.int k n)) (hr : L T = some r) (hp : part r [.int k n] 0 = some (.int k n)) (hx : s.ev x = .raw (.pointer (some ⟨b,o,none⟩))) :
  QOp P L s ⟨some d,.load T x,ty,pos,af,g⟩ (.int k n) :=
 .sem hx rfl (fun ev w hw he => by
  obtain ⟨v,e1,e2⟩ := rep_part (E := ⟨w,fun _ => True,fun _ => True,fun _ => 0,fun _ => none⟩) (P := P) (hL T r hr) (b := b) (off := o) (fun _ => .int k n) (fun i c e => by
   match i,e with
   |0,e => exact hG w hw) (fun i c e => by
   match i,e with
   |0,e => simp at e;subst e;exact .d (.int _ _)) hp
  have hv := e2.int_inv
  subst hv
  simp only [execOp,he,Instr.loadAt,Instr.sureAddr,Sem.run_bind,Sem.run_pure,Result.andThen_ok]
  rw [Nat.add_zero] at e1
  rw [e1]
  rfl) fun _ _ => .int _ _
end ops
theorem POp.mono {K' : St → Prop} (hk : ∀ s,K s → K' s) (h : POp P L s o K) : POp P L s o K' := by
 rcases h with ⟨pv,h1,h2⟩ | ⟨s',h1,h2⟩ | h1
 ·exact .inl ⟨pv,h1,hk _ h2⟩
 ·exact .inr (.inl ⟨s',h1,hk _ h2⟩)
 ·exact .inr (.inr (h1.mono hk))
theorem POps.mono {K' : St → Prop} (hk : ∀ s,K s → K' s) : ∀ (l : List Oper) (s : St),POps P L ops K l s → POps P L ops K' l s
 |[],s,h => hk s h
 |_ :: l,_,h => h.imp (fun x => ⟨x.1,x.2.mono (fun s' h' => POps.mono hk l s' h')⟩) (fun x => ⟨x.1,POps.mono hk l _ x.2⟩)
theorem PSem.mono {K' : St → Prop} (hk : ∀ s,K s → K' s) : ∀ (l : List Oper) (s : St),PSem P L ops K l s → PSem P L ops K' l s
 |[],s,h => hk s h
 |_ :: l,_,h => h.imp (fun x => ⟨x.1,x.2.imp (POp.mono' fun s' h' => PSem.mono hk l s' h') (fun y C a w Q hG hs hN => Oper.wp_mono (fun _ _ ⟨s',e1,e2⟩ => ⟨s',e1,PSem.mono hk l s' e2⟩) (y C a w Q hG hs hN))⟩) (fun x => ⟨x.1,PSem.mono hk l _ x.2⟩)
theorem PSemI.mono {K' : St → Prop} (hk : ∀ s,K s → K' s) : ∀ (l : List Oper) (s : St),PSemI P L ops K l s → PSemI P L ops K' l s
 |[],s,h => hk s h
 |_ :: l,_,h => h.imp (fun x => ⟨x.1,x.2.imp (POp.mono' fun s' h' => PSemI.mono hk l s' h') (Or.imp (fun y C a w Q hG hs hN => Oper.wp_mono (fun _ _ ⟨s',e1,e2⟩ => ⟨s',e1,PSemI.mono hk l s' e2⟩) (y C a w Q hG hs hN))
   (fun y ro n C a w Q hG hs hN hL => Oper.wpIn_mono (fun _ _ ⟨s',e1,e2⟩ => ⟨s',e1,PSemI.mono hk l s' e2⟩) (y ro n C a w Q hG hs hN hL)))⟩) (fun x => ⟨x.1,PSemI.mono hk l _ x.2⟩)
theorem PQuiet.mono {K' : St → Prop} (hk : ∀ s,K s → K' s) : ∀ (l : List Oper) (s : St),PQuiet P L ops K l s → PQuiet P L ops K' l s
 |[],s,h => hk s h
 |_ :: l,_,h => h.imp (fun ⟨x,pv,y,z⟩ => ⟨x,pv,y,PQuiet.mono hk l _ z⟩) (fun x => ⟨x.1,PQuiet.mono hk l _ x.2⟩)
theorem P3.mono {K' : St → Prop} (hk : ∀ s,K s → K' s) {Z : List Nat} {cls : Nat → Bool} : ∀ (l : List Oper) (i : Nat) (s : St),P3 P L ops Z cls K i l s → P3 P L ops Z cls K' i l s
 |[],_,s,h => hk s h
 |_ :: l,i,_,⟨s',h1,h2⟩ => ⟨s',h1,P3.mono hk l (i + 1) s' h2⟩
theorem PTree.mono {K' : St → Prop} (hk : ∀ s,K s → K' s) : ∀ (f : Nat) (listed : Array Bool) (s : St),PTree P L ops K f listed s → PTree P L ops K' f listed s
 |0,_,s,h => ⟨h.1,hk s h.2⟩
 |f + 1,_,_,h => ⟨fun e => hk _ (h.1 e),fun i hi => let ⟨o,ho,hs⟩ := h.2 i hi;⟨o,ho,PSem.mono (PTree.mono hk f _) _ _ hs⟩⟩
theorem Gh.mono {K K' : St → Prop} (hk : ∀ s,K s → K' s) {s : St} (h : Gh K s) : Gh K' s := let ⟨s1,h1,h2⟩ := h;⟨s1,h1,hk s1 h2⟩
theorem PWP.mono {c : Code} : ∀ {Q Q' : Exit → St → Prop},(∀ e s,Q e s → Q' e s) → ∀ s,PWP P L c Q s → PWP P L c Q' s := by
 induction c with
 |skip => intro Q Q' hq s h;exact Gh.mono (hq _) h
 |region id ops d =>
  intro Q Q' hq s h
  refine Gh.mono (fun s h => ?_) h
  cases d with
  |true =>
   rcases h with ⟨n,ds,h1,h2⟩ | ⟨n,m,ds,F,h1,h3,h2⟩ | ⟨Z,ch,h1,h2⟩ | h2
   ·exact Or.inl ⟨n,ds,h1,PQuiet.mono (fun s' h' => POps.mono (hq _) _ s' h') _ _ h2⟩
   ·exact Or.inr (Or.inl ⟨n,m,ds,F,h1,h3,PQuiet.mono (fun s' h' => ⟨h'.1,POps.mono (hq _) _ s' h'.2⟩) _ _ h2⟩)
   ·exact Or.inr (Or.inr (Or.inl ⟨Z,ch,h1,P3.mono (hq _) _ _ _ h2⟩))
   ·exact Or.inr (Or.inr (Or.inr (PTree.mono (hq _) _ _ _ h2)))
  |false => exact h.imp (POps.mono (hq _) _ s) (Or.imp (PSem.mono (hq _) _ s) (PSemI.mono (hq _) _ s))
 |seq x y ihx ihy =>
  intro Q Q' hq s h
  refine ihx ?_ s h
  intro e s' he
  cases e
  case normal => exact ihy hq s' he
  all_goals exact hq _ _ he
 |cond c x y ihx ihy =>
  intro Q Q' hq s h
  refine Gh.mono (fun s h => ?_) h
  obtain ⟨b,h1,h2,h3⟩ := h
  exact ⟨b,h1,fun hb => ihx hq s (h2 hb),fun hb => ihy hq s (h3 hb)⟩
 |block id c ih =>
  intro Q Q' hq s h
  refine ih ?_ s h
  intro e s' he
  cases e
  case exit id' =>
   show if id' = id then _ else _
   have he' : if id' = id then Q .normal s' else Q (.exit id') s' := he
   split
   ·rename_i hid;rw [if_pos hid] at he';exact hq _ _ he'
   ·rename_i hid;rw [if_neg hid] at he';exact hq _ _ he'
  all_goals exact hq _ _ he
 |loop c ih =>
  intro Q Q' hq s h
  refine Gh.mono (fun s h => ?_) h
  obtain ⟨I,μ,h0,hr⟩ := h
  refine ⟨I,μ,h0,fun s1 hs1 => ih ?_ s1 (hr s1 hs1)⟩
  intro e s' he
  cases e
  case normal => exact he
  all_goals exact hq _ _ he
 |exit id => intro Q Q' hq s h;exact Gh.mono (hq _) h
 |ret => intro Q Q' hq s h;exact Gh.mono (hq _) h
 |label l => intro Q Q' hq s h;exact Gh.mono (hq _) h
 |goto l => intro Q Q' hq s h;exact h.elim
 |rangeFunc => intro Q Q' hq s h;exact Gh.mono (fun s h n C a w hG hs hc hQ => wpIn_mono (h n C a w hG hs hc fun s hs => hQ s (hq _ s hs)) fun e a w ⟨C',s',hE,h',hq'⟩ => ⟨C',s',hE,h',hq _ _ hq'⟩) h
 |scope => intro Q Q' hq s h;exact h.elim
 |refuse => intro Q Q' hq s h;exact h.elim
def St.over (s : St) (l : List (Nat × PV)) (m : List (Nat × Nat × Cont)) : St :=
 ⟨l.foldr (fun p f r => bif Nat.beq r p.1 then p.2 else f r) s.reg,m.foldr (fun p f r => bif Nat.beq r p.1 then (p.2.1,some p.2.2) else f r) s.own⟩
def St.fits (s : St) (l : List (Nat × PV)) (m : List (Nat × Nat × Cont)) : Prop := (∀ p ∈ l,s.reg p.1 = p.2) ∧ ∀ p ∈ m,s.own p.1 = (p.2.1,some p.2.2)
def FitO (s : St) : List (Nat × Nat × Cont) → Prop
 |[] => True
 |(k,g,c) :: m => s.own k = (g,some c) ∧ FitO s m
def Fit (s : St) (l : List (Nat × PV)) (m : List (Nat × Nat × Cont)) : Prop :=
 match l with
 |[] => FitO s m
 |(r,v) :: l => s.reg r = v ∧ Fit s l m
theorem over_reg (s : St) : ∀ l : List (Nat × PV),(∀ p ∈ l,s.reg p.1 = p.2) → l.foldr (fun p f r => bif Nat.beq r p.1 then p.2 else f r) s.reg = s.reg
 |[],_ => rfl
 |(r,v) :: l,h => by
  rw [List.foldr_cons,over_reg s l (fun p hp => h p (by simp [hp]))]
  funext t
  by_cases ht : t = r
  ·subst ht;simp;exact (h (t,v) (by simp)).symm
  ·simp [nbeq_ne ht]
theorem over_own (s : St) : ∀ m : List (Nat × Nat × Cont),(∀ p ∈ m,s.own p.1 = (p.2.1,some p.2.2)) → m.foldr (fun p f r => bif Nat.beq r p.1 then (p.2.1,some p.2.2) else f r) s.own = s.own
 |[],_ => rfl
 |(k,g,c) :: m,h => by
  rw [List.foldr_cons,over_own s m (fun p hp => h p (by simp [hp]))]
  funext t
  by_cases ht : t = k
  ·subst ht;simp;exact (h (t,g,c) (by simp)).symm
  ·simp [nbeq_ne ht]
theorem FitO.fits {s : St} : ∀ {m : List (Nat × Nat × Cont)},FitO s m → ∀ p ∈ m,s.own p.1 = (p.2.1,some p.2.2)
 |[],_ => by simp
 |(k,g,c) :: m,h => fun p hp => by
  have h' : s.own k = (g,some c) ∧ FitO s m := h
  rcases List.mem_cons.1 hp with rfl | hp
  ·exact h'.1
  ·exact FitO.fits h'.2 p hp
theorem Fit.fits {s : St} : ∀ {l : List (Nat × PV)} {m : List (Nat × Nat × Cont)},Fit s l m → s.fits l m
 |[],m,h => ⟨by simp,FitO.fits h⟩
 |(r,v) :: l,m,h => by
  have h' : s.reg r = v ∧ Fit s l m := h
  have := Fit.fits h'.2
  refine ⟨fun p hp => ?_,this.2⟩
  rcases List.mem_cons.1 hp with rfl | hp
  ·exact h'.1
  ·exact this.1 p hp
theorem Fit.over {s : St} {l : List (Nat × PV)} {m : List (Nat × Nat × Cont)} (h : Fit s l m) : s.over l m = s := by
 have := h.fits
 exact St.ext' (over_reg s l this.1) (over_own s m this.2)
theorem pw_loop {ι : Type} (I : ι → Prop) (regs : ι → List (Nat × PV)) (owns : ι → List (Nat × Nat × Cont)) (μ : ι → Nat) {c : Code} (i0 : ι) (h0 : I i0) (hs : Fit s (regs i0) (owns i0))
  (round : ∀ (i : ι) (s : St),I i → PWP P L c (XThen (fun s' => ∃ j,I j ∧ μ j < μ i ∧ Fit s' (regs j) (owns j)) Q) (s.over (regs i) (owns i))) : PWP P L (.loop c) Q s := by
 let J : St → Nat → Prop := fun s n => ∃ i,I i ∧ Fit s (regs i) (owns i) ∧ μ i = n
 have least : ∀ s,(∃ n,J s n) → ∃ n,J s n ∧ ∀ m,J s m → n ≤ m := by
  intro s ⟨n,hn⟩
  induction n using Nat.strongRecOn with
  |_ n ih =>
   by_cases hx : ∃ m,m < n ∧ J s m
   ·obtain ⟨m,hm,hj⟩ := hx
    exact ih m hm hj
   ·exact ⟨n,hn,fun m hm => by
     rcases Nat.lt_or_ge m n with h | h
     ·exact absurd ⟨m,h,hm⟩ hx
     ·exact h⟩
 have hμ : ∃ f : St → Nat,∀ s,(∃ n,J s n) → J s (f s) ∧ ∀ m,J s m → f s ≤ m :=
  ⟨fun s => Classical.epsilon fun n => J s n ∧ ∀ m,J s m → n ≤ m,fun s hx => Classical.epsilon_spec (least s hx)⟩
 obtain ⟨f,hf⟩ := hμ
 refine Gh.of ⟨fun s => ∃ i,I i ∧ Fit s (regs i) (owns i),f,⟨i0,h0,hs⟩,?_⟩
 rintro s1 ⟨i1,hi1,hfit1⟩
 obtain ⟨⟨i,hi,hfit,hm⟩,_⟩ := hf s1 ⟨_,i1,hi1,hfit1,rfl⟩
 have := round i s1 hi
 rw [hfit.over] at this
 refine PWP.mono ?_ _ this
 intro e s' hq
 cases e
 case normal =>
  obtain ⟨j,hj,hlt,hfj⟩ := hq
  refine ⟨⟨j,hj,hfj⟩,?_⟩
  have := (hf s' ⟨_,j,hj,hfj,rfl⟩).2 _ ⟨j,hj,hfj,rfl⟩
  omega
 all_goals exact hq
end
end Go.Pv


namespace Go.Pv
open Go.Proofs Go.RowKit
set_option maxRecDepth 100000
def lay : Tr := (.nd 152 (.nd 76 (.nd 38 (.nd 19 (.nd 9 (.nd 4 (.nd 2 (.nd 1 (.lf 0 ⟨1,0,.other,none⟩)
 (.lf 1 ⟨1,8,.other,(some [(.raw .nilFunc)])⟩))
 (.nd 3 (.lf 2 ⟨1,8,(.int .i64),(some [(.int .i64 0)])⟩)
 (.lf 3 ⟨1,8,(.int .i64),(some [(.int .i64 0)])⟩)))
 (.nd 6 (.nd 5 (.lf 4 ⟨1,1,.bool,(some [(.bool false)])⟩)
 (.lf 5 ⟨1,1,(.int .u8),(some [(.int .u8 0)])⟩))
 (.nd 7 (.lf 6 ⟨1,1,(.int .u8),(some [(.int .u8 0)])⟩)
 (.nd 8 (.lf 7 ⟨4,24,(.st [(0,2),(1,3),(2,4),(3,6)]),(some [(.int .i64 0),(.int .i64 0),(.bool false),(.int .u8 0)])⟩)
 (.lf 8 ⟨4,24,(.st [(0,2),(1,3),(2,4),(3,6)]),(some [(.int .i64 0),(.int .i64 0),(.bool false),(.int .u8 0)])⟩)))))
 (.nd 14 (.nd 11 (.nd 10 (.lf 9 ⟨1,16,.str,(some [(.str [])])⟩)
 (.lf 10 ⟨1,16,.str,(some [(.str [])])⟩))
 (.nd 12 (.lf 11 ⟨1,16,.str,(some [(.str [])])⟩)
 (.nd 13 (.lf 12 ⟨1,8,(.int .u64),(some [(.int .u64 0)])⟩)
 (.lf 13 ⟨2,24,(.st [(0,9),(1,12)]),(some [(.str []),(.int .u64 0)])⟩))))
 (.nd 16 (.nd 15 (.lf 14 ⟨2,24,(.st [(0,9),(1,12)]),(some [(.str []),(.int .u64 0)])⟩)
 (.lf 15 ⟨1,8,(.ptr 293),(some [(.raw (.pointer none))])⟩))
 (.nd 17 (.lf 16 ⟨1,8,(.ptr 296),(some [(.raw (.pointer none))])⟩)
 (.nd 18 (.lf 17 ⟨1,8,(.ptr 303),(some [(.raw (.pointer none))])⟩)
 (.lf 18 ⟨1,8,(.st [(0,17)]),(some [(.raw (.pointer none))])⟩))))))
 (.nd 28 (.nd 23 (.nd 21 (.nd 20 (.lf 19 ⟨1,8,(.st [(0,17)]),(some [(.raw (.pointer none))])⟩)
 (.lf 20 ⟨1,16,.other,(some [(.raw .nilIface)])⟩))
 (.nd 22 (.lf 21 ⟨1,4,(.int .i32),(some [(.int .i32 0)])⟩)
 (.lf 22 ⟨9,104,(.st [(0,3),(1,3),(2,9),(3,9),(4,9),(5,9),(6,3),(7,3),(8,3)]),(some [(.int .i64 0),(.int .i64 0),(.str []),(.str []),(.str []),(.str []),(.int .i64 0),(.int .i64 0),(.int .i64 0)])⟩)))
 (.nd 25 (.nd 24 (.lf 23 ⟨9,104,(.st [(0,3),(1,3),(2,9),(3,9),(4,9),(5,9),(6,3),(7,3),(8,3)]),(some [(.int .i64 0),(.int .i64 0),(.str []),(.str []),(.str []),(.str []),(.int .i64 0),(.int .i64 0),(.int .i64 0)])⟩)
 (.lf 24 ⟨1,8,.other,(some [(.raw .nilFunc)])⟩))
 (.nd 26 (.lf 25 ⟨1,8,.other,(some [(.raw .nilFunc)])⟩)
 (.nd 27 (.lf 26 ⟨1,8,(.int .i64),(some [(.int .i64 0)])⟩)
 (.lf 27 ⟨1,0,.other,none⟩)))))
 (.nd 33 (.nd 30 (.nd 29 (.lf 28 ⟨1,8,.other,(some [(.raw .nilFunc)])⟩)
 (.lf 29 ⟨1,0,.other,none⟩))
 (.nd 31 (.lf 30 ⟨1,8,.other,(some [(.raw .nilFunc)])⟩)
 (.nd 32 (.lf 31 ⟨1,0,.other,none⟩)
 (.lf 32 ⟨1,8,.other,(some [(.raw .nilFunc)])⟩))))
 (.nd 35 (.nd 34 (.lf 33 ⟨1,0,.other,none⟩)
 (.lf 34 ⟨1,8,.other,(some [(.raw .nilFunc)])⟩))
 (.nd 36 (.lf 35 ⟨1,8,.other,(some [(.raw .nilFunc)])⟩)
 (.nd 37 (.lf 36 ⟨1,8,.other,(some [(.raw .nilFunc)])⟩)
 (.lf 37 ⟨1,8,.other,(some [(.raw .nilFunc)])⟩)))))))
 (.nd 57 (.nd 47 (.nd 42 (.nd 40 (.nd 39 (.lf 38 ⟨1,8,.other,(some [(.raw .nilFunc)])⟩)
 (.lf 39 ⟨1,24,(.sl 23),(some [.nil])⟩))
 (.nd 41 (.lf 40 ⟨1,8,.other,(some [(.raw .nilFunc)])⟩)
 (.lf 41 ⟨1,8,(.ptr 146),(some [(.raw (.pointer none))])⟩)))
 (.nd 44 (.nd 43 (.lf 42 ⟨1,0,.other,none⟩)
 (.lf 43 ⟨1,8,.other,(some [(.raw .nilFunc)])⟩))
 (.nd 45 (.lf 44 ⟨1,0,.other,none⟩)
 (.nd 46 (.lf 45 ⟨1,8,.other,(some [(.raw .nilFunc)])⟩)
 (.lf 46 ⟨1,0,.other,none⟩)))))
 (.nd 52 (.nd 49 (.nd 48 (.lf 47 ⟨1,8,.other,(some [(.raw .nilFunc)])⟩)
 (.lf 48 ⟨1,8,.other,(some [(.raw .nilFunc)])⟩))
 (.nd 50 (.lf 49 ⟨1,8,.other,(some [(.raw .nilFunc)])⟩)
 (.nd 51 (.lf 50 ⟨1,8,.other,(some [(.raw .nilFunc)])⟩)
 (.lf 51 ⟨1,8,.other,(some [(.raw .nilFunc)])⟩))))
 (.nd 54 (.nd 53 (.lf 52 ⟨1,8,.other,(some [(.raw .nilFunc)])⟩)
 (.lf 53 ⟨1,8,.other,(some [(.raw .nilFunc)])⟩))
 (.nd 55 (.lf 54 ⟨1,24,(.sl 5),(some [.nil])⟩)
 (.nd 56 (.lf 55 ⟨1,8,.other,(some [(.raw .nilFunc)])⟩)
 (.lf 56 ⟨1,24,(.sl 149),(some [.nil])⟩))))))
 (.nd 66 (.nd 61 (.nd 59 (.nd 58 (.lf 57 ⟨1,8,.other,(some [(.raw .nilFunc)])⟩)
 (.lf 58 ⟨1,24,(.sl 9),(some [.nil])⟩))
 (.nd 60 (.lf 59 ⟨1,0,.other,none⟩)
 (.lf 60 ⟨1,8,.other,(some [(.raw .nilFunc)])⟩)))
 (.nd 63 (.nd 62 (.lf 61 ⟨1,0,.other,none⟩)
 (.lf 62 ⟨1,8,.other,(some [(.raw .nilFunc)])⟩))
 (.nd 64 (.lf 63 ⟨1,8,.other,(some [(.raw .nilFunc)])⟩)
 (.nd 65 (.lf 64 ⟨1,8,.other,(some [(.raw .nilFunc)])⟩)
 (.lf 65 ⟨1,8,.other,(some [(.raw .nilFunc)])⟩)))))
 (.nd 71 (.nd 68 (.nd 67 (.lf 66 ⟨1,8,.other,(some [(.raw .nilFunc)])⟩)
 (.lf 67 ⟨1,8,.other,(some [(.raw .nilFunc)])⟩))
 (.nd 69 (.lf 68 ⟨1,24,(.sl 56),(some [.nil])⟩)
 (.nd 70 (.lf 69 ⟨1,0,.other,none⟩)
 (.lf 70 ⟨1,8,.other,(some [(.raw .nilFunc)])⟩))))
 (.nd 73 (.nd 72 (.lf 71 ⟨1,24,(.sl 159),(some [.nil])⟩)
 (.lf 72 ⟨1,0,.other,none⟩))
 (.nd 74 (.lf 73 ⟨1,8,.other,(some [(.raw .nilFunc)])⟩)
 (.nd 75 (.lf 74 ⟨1,0,.other,none⟩)
 (.lf 75 ⟨1,8,.other,(some [(.raw .nilFunc)])⟩))))))))
 (.nd 114 (.nd 95 (.nd 85 (.nd 80 (.nd 78 (.nd 77 (.lf 76 ⟨1,0,.other,none⟩)
 (.lf 77 ⟨1,8,.other,(some [(.raw .nilFunc)])⟩))
 (.nd 79 (.lf 78 ⟨1,0,.other,none⟩)
 (.lf 79 ⟨1,8,.other,(some [(.raw .nilFunc)])⟩)))
 (.nd 82 (.nd 81 (.lf 80 ⟨1,8,.other,(some [(.raw .nilFunc)])⟩)
 (.lf 81 ⟨1,8,.other,(some [(.raw .nilFunc)])⟩))
 (.nd 83 (.lf 82 ⟨1,8,.other,(some [(.raw .nilFunc)])⟩)
 (.nd 84 (.lf 83 ⟨1,8,(.ptr 162),(some [(.raw (.pointer none))])⟩)
 (.lf 84 ⟨1,8,.other,(some [(.raw .nilFunc)])⟩)))))
 (.nd 90 (.nd 87 (.nd 86 (.lf 85 ⟨1,8,.other,(some [(.raw .nilFunc)])⟩)
 (.lf 86 ⟨1,0,.other,none⟩))
 (.nd 88 (.lf 87 ⟨1,8,.other,(some [(.raw .nilFunc)])⟩)
 (.nd 89 (.lf 88 ⟨1,8,.other,(some [(.raw .nilFunc)])⟩)
 (.lf 89 ⟨1,0,.other,none⟩))))
 (.nd 92 (.nd 91 (.lf 90 ⟨1,8,.other,(some [(.raw .nilFunc)])⟩)
 (.lf 91 ⟨1,24,(.sl 185),(some [.nil])⟩))
 (.nd 93 (.lf 92 ⟨1,0,.other,none⟩)
 (.nd 94 (.lf 93 ⟨1,8,.other,(some [(.raw .nilFunc)])⟩)
 (.lf 94 ⟨1,0,.other,none⟩))))))
 (.nd 104 (.nd 99 (.nd 97 (.nd 96 (.lf 95 ⟨1,8,.other,(some [(.raw .nilFunc)])⟩)
 (.lf 96 ⟨1,24,(.sl 3),(some [.nil])⟩))
 (.nd 98 (.lf 97 ⟨5,72,(.st [(0,3),(1,3),(2,96),(3,96),(4,3)]),(some [(.int .i64 0),(.int .i64 0),.nil,.nil,(.int .i64 0)])⟩)
 (.lf 98 ⟨5,72,(.st [(0,3),(1,3),(2,96),(3,96),(4,3)]),(some [(.int .i64 0),(.int .i64 0),.nil,.nil,(.int .i64 0)])⟩)))
 (.nd 101 (.nd 100 (.lf 99 ⟨1,0,.other,none⟩)
 (.lf 100 ⟨1,8,.other,(some [(.raw .nilFunc)])⟩))
 (.nd 102 (.lf 101 ⟨1,8,.other,(some [(.raw .nilFunc)])⟩)
 (.nd 103 (.lf 102 ⟨1,8,.other,(some [(.raw .nilFunc)])⟩)
 (.lf 103 ⟨1,0,.other,none⟩)))))
 (.nd 109 (.nd 106 (.nd 105 (.lf 104 ⟨1,8,.other,(some [(.raw .nilFunc)])⟩)
 (.lf 105 ⟨6,48,(.st [(0,3),(1,3),(2,3),(3,3),(4,3),(5,3)]),(some [(.int .i64 0),(.int .i64 0),(.int .i64 0),(.int .i64 0),(.int .i64 0),(.int .i64 0)])⟩))
 (.nd 107 (.lf 106 ⟨6,48,(.st [(0,3),(1,3),(2,3),(3,3),(4,3),(5,3)]),(some [(.int .i64 0),(.int .i64 0),(.int .i64 0),(.int .i64 0),(.int .i64 0),(.int .i64 0)])⟩)
 (.nd 108 (.lf 107 ⟨1,0,.other,none⟩)
 (.lf 108 ⟨1,8,.other,(some [(.raw .nilFunc)])⟩))))
 (.nd 111 (.nd 110 (.lf 109 ⟨1,8,.other,(some [(.raw .nilFunc)])⟩)
 (.lf 110 ⟨1,8,.other,(some [(.raw .nilFunc)])⟩))
 (.nd 112 (.lf 111 ⟨1,8,.other,(some [(.raw .nilFunc)])⟩)
 (.nd 113 (.lf 112 ⟨1,8,.other,(some [(.raw .nilFunc)])⟩)
 (.lf 113 ⟨1,8,.other,(some [(.raw .nilFunc)])⟩)))))))
 (.nd 133 (.nd 123 (.nd 118 (.nd 116 (.nd 115 (.lf 114 ⟨1,16,.other,(some [(.raw .nilIface)])⟩)
 (.lf 115 ⟨1,16,.other,(some [(.raw .nilIface)])⟩))
 (.nd 117 (.lf 116 ⟨1,0,.other,none⟩)
 (.lf 117 ⟨1,8,.other,(some [(.raw .nilFunc)])⟩)))
 (.nd 120 (.nd 119 (.lf 118 ⟨1,8,.other,(some [(.raw .nilFunc)])⟩)
 (.lf 119 ⟨1,24,(.sl 125),(some [.nil])⟩))
 (.nd 121 (.lf 120 ⟨1,8,.other,(some [(.raw .nilFunc)])⟩)
 (.nd 122 (.lf 121 ⟨1,8,(.ptr 23),(some [(.raw (.pointer none))])⟩)
 (.lf 122 ⟨1,8,(.ptr 9),(some [(.raw (.pointer none))])⟩)))))
 (.nd 128 (.nd 125 (.nd 124 (.lf 123 ⟨1,8,(.ptr 3),(some [(.raw (.pointer none))])⟩)
 (.lf 124 ⟨4,32,(.st [(0,122),(1,123),(2,3),(3,3)]),(some [(.raw (.pointer none)),(.raw (.pointer none)),(.int .i64 0),(.int .i64 0)])⟩))
 (.nd 126 (.lf 125 ⟨4,32,(.st [(0,122),(1,123),(2,3),(3,3)]),(some [(.raw (.pointer none)),(.raw (.pointer none)),(.int .i64 0),(.int .i64 0)])⟩)
 (.nd 127 (.lf 126 ⟨1,0,.other,none⟩)
 (.lf 127 ⟨1,8,.other,(some [(.raw .nilFunc)])⟩))))
 (.nd 130 (.nd 129 (.lf 128 ⟨1,8,.other,(some [(.raw .nilFunc)])⟩)
 (.lf 129 ⟨1,8,.other,(some [(.raw .nilFunc)])⟩))
 (.nd 131 (.lf 130 ⟨1,8,.other,(some [(.raw .nilFunc)])⟩)
 (.nd 132 (.lf 131 ⟨1,8,.other,(some [(.raw .nilFunc)])⟩)
 (.lf 132 ⟨1,8,.other,(some [(.raw .nilFunc)])⟩))))))
 (.nd 142 (.nd 137 (.nd 135 (.nd 134 (.lf 133 ⟨1,8,.other,(some [(.raw .nilFunc)])⟩)
 (.lf 134 ⟨1,8,.other,(some [(.raw .nilFunc)])⟩))
 (.nd 136 (.lf 135 ⟨1,0,.other,none⟩)
 (.lf 136 ⟨1,8,.other,(some [(.raw .nilFunc)])⟩)))
 (.nd 139 (.nd 138 (.lf 137 ⟨1,8,.other,(some [(.raw .nilFunc)])⟩)
 (.lf 138 ⟨1,8,.other,(some [(.raw .nilFunc)])⟩))
 (.nd 140 (.lf 139 ⟨1,8,(.ptr 141),(some [(.raw (.pointer none))])⟩)
 (.nd 141 (.lf 140 ⟨2,32,(.st [(0,139),(1,54)]),(some [(.raw (.pointer none)),.nil])⟩)
 (.lf 141 ⟨2,32,(.st [(0,139),(1,54)]),(some [(.raw (.pointer none)),.nil])⟩)))))
 (.nd 147 (.nd 144 (.nd 143 (.lf 142 ⟨1,8,(.map 9 3),(some [(.raw (.map none))])⟩)
 (.lf 143 ⟨1,8,(.map 172 3),(some [(.raw (.map none))])⟩))
 (.nd 145 (.lf 144 ⟨1,8,(.map 3 4),(some [(.raw (.map none))])⟩)
 (.nd 146 (.lf 145 ⟨4,48,(.st [(0,39),(1,142),(2,143),(3,144)]),(some [.nil,(.raw (.map none)),(.raw (.map none)),(.raw (.map none))])⟩)
 (.lf 146 ⟨4,48,(.st [(0,39),(1,142),(2,143),(3,144)]),(some [.nil,(.raw (.map none)),(.raw (.map none)),(.raw (.map none))])⟩))))
 (.nd 149 (.nd 148 (.lf 147 ⟨1,8,.other,(some [(.raw .nilFunc)])⟩)
 (.lf 148 ⟨2,32,(.st [(0,9),(1,9)]),(some [(.str []),(.str [])])⟩))
 (.nd 150 (.lf 149 ⟨2,32,(.st [(0,9),(1,9)]),(some [(.str []),(.str [])])⟩)
 (.nd 151 (.lf 150 ⟨1,8,.other,(some [(.raw .nilFunc)])⟩)
 (.lf 151 ⟨1,8,(.map 9 156),(some [(.raw (.map none))])⟩)))))))))
 (.nd 228 (.nd 190 (.nd 171 (.nd 161 (.nd 156 (.nd 154 (.nd 153 (.lf 152 ⟨1,8,(.map 9 156),(some [(.raw (.map none))])⟩)
 (.lf 153 ⟨1,8,.other,(some [(.raw .nilFunc)])⟩))
 (.nd 155 (.lf 154 ⟨1,8,.other,(some [(.raw .nilFunc)])⟩)
 (.lf 155 ⟨2,24,(.st [(0,9),(1,4)]),(some [(.str []),(.bool false)])⟩)))
 (.nd 158 (.nd 157 (.lf 156 ⟨2,24,(.st [(0,9),(1,4)]),(some [(.str []),(.bool false)])⟩)
 (.lf 157 ⟨1,8,.other,(some [(.raw .nilFunc)])⟩))
 (.nd 159 (.lf 158 ⟨5,56,(.st [(0,9),(1,9),(2,9),(3,4),(4,4)]),(some [(.str []),(.str []),(.str []),(.bool false),(.bool false)])⟩)
 (.nd 160 (.lf 159 ⟨5,56,(.st [(0,9),(1,9),(2,9),(3,4),(4,4)]),(some [(.str []),(.str []),(.str []),(.bool false),(.bool false)])⟩)
 (.lf 160 ⟨1,8,.other,(some [(.raw .nilFunc)])⟩)))))
 (.nd 166 (.nd 163 (.nd 162 (.lf 161 ⟨1,8,(.st [(0,41)]),(some [(.raw (.pointer none))])⟩)
 (.lf 162 ⟨1,8,(.st [(0,41)]),(some [(.raw (.pointer none))])⟩))
 (.nd 164 (.lf 163 ⟨1,8,.other,(some [(.raw .nilFunc)])⟩)
 (.nd 165 (.lf 164 ⟨1,8,.other,(some [(.raw .nilFunc)])⟩)
 (.lf 165 ⟨1,0,.other,none⟩))))
 (.nd 168 (.nd 167 (.lf 166 ⟨1,8,.other,(some [(.raw .nilFunc)])⟩)
 (.lf 167 ⟨1,8,.other,(some [(.raw .nilFunc)])⟩))
 (.nd 169 (.lf 168 ⟨1,0,.other,none⟩)
 (.nd 170 (.lf 169 ⟨1,8,.other,(some [(.raw .nilFunc)])⟩)
 (.lf 170 ⟨1,8,.other,(some [(.raw .nilFunc)])⟩))))))
 (.nd 180 (.nd 175 (.nd 173 (.nd 172 (.lf 171 ⟨2,32,(.st [(0,9),(1,9)]),(some [(.str []),(.str [])])⟩)
 (.lf 172 ⟨2,32,(.st [(0,9),(1,9)]),(some [(.str []),(.str [])])⟩))
 (.nd 174 (.lf 173 ⟨1,8,.other,(some [(.raw .nilFunc)])⟩)
 (.lf 174 ⟨1,8,.other,(some [(.raw .nilFunc)])⟩)))
 (.nd 177 (.nd 176 (.lf 175 ⟨1,8,.other,(some [(.raw .nilFunc)])⟩)
 (.lf 176 ⟨1,8,.other,(some [(.raw .nilFunc)])⟩))
 (.nd 178 (.lf 177 ⟨1,8,.other,(some [(.raw .nilFunc)])⟩)
 (.nd 179 (.lf 178 ⟨1,8,.other,(some [(.raw .nilFunc)])⟩)
 (.lf 179 ⟨1,8,.other,(some [(.raw .nilFunc)])⟩)))))
 (.nd 185 (.nd 182 (.nd 181 (.lf 180 ⟨1,8,(.map 3 3),(some [(.raw (.map none))])⟩)
 (.lf 181 ⟨1,8,.other,(some [(.raw .nilFunc)])⟩))
 (.nd 183 (.lf 182 ⟨1,8,.other,(some [(.raw .nilFunc)])⟩)
 (.nd 184 (.lf 183 ⟨1,8,.other,(some [(.raw .nilFunc)])⟩)
 (.lf 184 ⟨7,64,(.st [(0,9),(1,3),(2,3),(3,3),(4,3),(5,3),(6,3)]),(some [(.str []),(.int .i64 0),(.int .i64 0),(.int .i64 0),(.int .i64 0),(.int .i64 0),(.int .i64 0)])⟩))))
 (.nd 187 (.nd 186 (.lf 185 ⟨7,64,(.st [(0,9),(1,3),(2,3),(3,3),(4,3),(5,3),(6,3)]),(some [(.str []),(.int .i64 0),(.int .i64 0),(.int .i64 0),(.int .i64 0),(.int .i64 0),(.int .i64 0)])⟩)
 (.lf 186 ⟨1,8,.other,(some [(.raw .nilFunc)])⟩))
 (.nd 188 (.lf 187 ⟨1,8,.other,(some [(.raw .nilFunc)])⟩)
 (.nd 189 (.lf 188 ⟨1,8,.other,(some [(.raw .nilFunc)])⟩)
 (.lf 189 ⟨1,8,.other,(some [(.raw .nilFunc)])⟩)))))))
 (.nd 209 (.nd 199 (.nd 194 (.nd 192 (.nd 191 (.lf 190 ⟨1,8,.other,(some [(.raw .nilFunc)])⟩)
 (.lf 191 ⟨1,8,.other,(some [(.raw .nilFunc)])⟩))
 (.nd 193 (.lf 192 ⟨1,8,.other,(some [(.raw .nilFunc)])⟩)
 (.lf 193 ⟨1,8,.other,(some [(.raw .nilFunc)])⟩)))
 (.nd 196 (.nd 195 (.lf 194 ⟨1,8,.other,(some [(.raw .nilFunc)])⟩)
 (.lf 195 ⟨1,8,.other,(some [(.raw .nilFunc)])⟩))
 (.nd 197 (.lf 196 ⟨1,8,(.ptr 5),(some [(.raw (.pointer none))])⟩)
 (.nd 198 (.lf 197 ⟨1,24,(.sl 152),(some [.nil])⟩)
 (.lf 198 ⟨1,8,.other,(some [(.raw .nilFunc)])⟩)))))
 (.nd 204 (.nd 201 (.nd 200 (.lf 199 ⟨1,8,.other,(some [(.raw .nilFunc)])⟩)
 (.lf 200 ⟨1,8,.other,(some [(.raw .nilFunc)])⟩))
 (.nd 202 (.lf 201 ⟨1,8,.other,(some [(.raw .nilFunc)])⟩)
 (.nd 203 (.lf 202 ⟨1,8,.other,(some [(.raw .nilFunc)])⟩)
 (.lf 203 ⟨1,8,.other,(some [(.raw .nilFunc)])⟩))))
 (.nd 206 (.nd 205 (.lf 204 ⟨1,8,.other,(some [(.raw .nilFunc)])⟩)
 (.lf 205 ⟨1,8,.other,(some [(.raw .nilFunc)])⟩))
 (.nd 207 (.lf 206 ⟨1,0,.other,none⟩)
 (.nd 208 (.lf 207 ⟨1,8,.other,(some [(.raw .nilFunc)])⟩)
 (.lf 208 ⟨1,8,.other,(some [(.raw .nilFunc)])⟩))))))
 (.nd 218 (.nd 213 (.nd 211 (.nd 210 (.lf 209 ⟨1,8,.other,(some [(.raw .nilFunc)])⟩)
 (.lf 210 ⟨1,8,(.ptr 185),(some [(.raw (.pointer none))])⟩))
 (.nd 212 (.lf 211 ⟨1,8,.other,(some [(.raw .nilFunc)])⟩)
 (.lf 212 ⟨1,8,.other,(some [(.raw .nilFunc)])⟩)))
 (.nd 215 (.nd 214 (.lf 213 ⟨1,8,.other,(some [(.raw .nilFunc)])⟩)
 (.lf 214 ⟨1,8,.other,(some [(.raw .nilFunc)])⟩))
 (.nd 216 (.lf 215 ⟨1,8,(.int .i64),(some [(.int .i64 0)])⟩)
 (.nd 217 (.lf 216 ⟨1,0,.other,none⟩)
 (.lf 217 ⟨1,8,.other,(some [(.raw .nilFunc)])⟩)))))
 (.nd 223 (.nd 220 (.nd 219 (.lf 218 ⟨1,8,(.ptr 241),(some [(.raw (.pointer none))])⟩)
 (.lf 219 ⟨1,8,.other,(some [(.raw .nilFunc)])⟩))
 (.nd 221 (.lf 220 ⟨1,8,.other,(some [(.raw .nilFunc)])⟩)
 (.nd 222 (.lf 221 ⟨1,0,.other,none⟩)
 (.lf 222 ⟨1,8,.other,(some [(.raw .nilFunc)])⟩))))
 (.nd 225 (.nd 224 (.lf 223 ⟨1,8,.other,(some [(.raw (.pointer none))])⟩)
 (.lf 224 ⟨1,8,.other,(some [(.raw .nilFunc)])⟩))
 (.nd 226 (.lf 225 ⟨1,8,.other,(some [(.raw .nilFunc)])⟩)
 (.nd 227 (.lf 226 ⟨1,8,.other,(some [(.raw .nilFunc)])⟩)
 (.lf 227 ⟨1,8,(.int .u64),(some [(.int .u64 0)])⟩))))))))
 (.nd 266 (.nd 247 (.nd 237 (.nd 232 (.nd 230 (.nd 229 (.lf 228 ⟨1,8,.other,(some [(.raw .nilFunc)])⟩)
 (.lf 229 ⟨1,8,.other,(some [(.raw .nilFunc)])⟩))
 (.nd 231 (.lf 230 ⟨1,8,.other,(some [(.raw .nilFunc)])⟩)
 (.lf 231 ⟨1,8,.other,(some [(.raw .nilFunc)])⟩)))
 (.nd 234 (.nd 233 (.lf 232 ⟨1,8,.other,(some [(.raw .nilFunc)])⟩)
 (.lf 233 ⟨1,8,.other,(some [(.raw .nilFunc)])⟩))
 (.nd 235 (.lf 234 ⟨1,8,.other,(some [(.raw .nilFunc)])⟩)
 (.nd 236 (.lf 235 ⟨1,8,.other,(some [(.raw .nilFunc)])⟩)
 (.lf 236 ⟨1,8,.other,(some [(.raw .nilFunc)])⟩)))))
 (.nd 242 (.nd 239 (.nd 238 (.lf 237 ⟨1,8,(.int .u64),(some [(.int .u64 0)])⟩)
 (.lf 238 ⟨1,0,.other,none⟩))
 (.nd 240 (.lf 239 ⟨1,8,.other,(some [(.raw .nilFunc)])⟩)
 (.nd 241 (.lf 240 ⟨3,48,(.st [(0,9),(1,9),(2,115)]),(some [(.str []),(.str []),(.raw .nilIface)])⟩)
 (.lf 241 ⟨3,48,(.st [(0,9),(1,9),(2,115)]),(some [(.str []),(.str []),(.raw .nilIface)])⟩))))
 (.nd 244 (.nd 243 (.lf 242 ⟨1,8,.other,(some [(.raw .nilFunc)])⟩)
 (.lf 243 ⟨1,8,.other,(some [(.raw .nilFunc)])⟩))
 (.nd 245 (.lf 244 ⟨1,8,.other,(some [(.raw .nilFunc)])⟩)
 (.nd 246 (.lf 245 ⟨1,8,(.int .i64),(some [(.int .i64 0)])⟩)
 (.lf 246 ⟨1,0,.other,none⟩))))))
 (.nd 256 (.nd 251 (.nd 249 (.nd 248 (.lf 247 ⟨1,8,.other,(some [(.raw .nilFunc)])⟩)
 (.lf 248 ⟨1,8,.other,(some [(.raw .nilFunc)])⟩))
 (.nd 250 (.lf 249 ⟨1,8,.other,(some [(.raw .nilFunc)])⟩)
 (.lf 250 ⟨1,8,.other,(some [(.raw .nilFunc)])⟩)))
 (.nd 253 (.nd 252 (.lf 251 ⟨1,8,.other,(some [(.raw .nilFunc)])⟩)
 (.lf 252 ⟨1,4,(.int .u32),(some [(.int .u32 0)])⟩))
 (.nd 254 (.lf 253 ⟨1,8,.other,(some [(.raw .nilFunc)])⟩)
 (.nd 255 (.lf 254 ⟨1,8,.other,(some [(.raw .nilFunc)])⟩)
 (.lf 255 ⟨1,8,.other,(some [(.raw .nilFunc)])⟩)))))
 (.nd 261 (.nd 258 (.nd 257 (.lf 256 ⟨1,8,.other,(some [(.raw .nilFunc)])⟩)
 (.lf 257 ⟨1,8,.other,(some [(.raw .nilFunc)])⟩))
 (.nd 259 (.lf 258 ⟨1,8,.other,(some [(.raw .nilFunc)])⟩)
 (.nd 260 (.lf 259 ⟨24,24,(.arr 24 5),(some [(.int .u8 0),(.int .u8 0),(.int .u8 0),(.int .u8 0),(.int .u8 0),(.int .u8 0),(.int .u8 0),(.int .u8 0),(.int .u8 0),(.int .u8 0),(.int .u8 0),(.int .u8 0),(.int .u8 0),(.int .u8 0),(.int .u8 0),(.int .u8 0),(.int .u8 0),(.int .u8 0),(.int .u8 0),(.int .u8 0),(.int .u8 0),(.int .u8 0),(.int .u8 0),(.int .u8 0)])⟩)
 (.lf 260 ⟨1,8,.other,(some [(.raw .nilFunc)])⟩))))
 (.nd 263 (.nd 262 (.lf 261 ⟨1,0,.other,none⟩)
 (.lf 262 ⟨1,8,.other,(some [(.raw .nilFunc)])⟩))
 (.nd 264 (.lf 263 ⟨1,8,.other,(some [(.raw .nilFunc)])⟩)
 (.nd 265 (.lf 264 ⟨1,8,.other,(some [(.raw .nilFunc)])⟩)
 (.lf 265 ⟨1,8,.other,(some [(.raw .nilFunc)])⟩)))))))
 (.nd 285 (.nd 275 (.nd 270 (.nd 268 (.nd 267 (.lf 266 ⟨1,8,.other,(some [(.raw .nilFunc)])⟩)
 (.lf 267 ⟨1,8,(.ptr 269),(some [(.raw (.pointer none))])⟩))
 (.nd 269 (.lf 268 ⟨1,16,(.st [(0,9)]),(some [(.str [])])⟩)
 (.lf 269 ⟨1,16,(.st [(0,9)]),(some [(.str [])])⟩)))
 (.nd 272 (.nd 271 (.lf 270 ⟨256,256,(.arr 256 5),none⟩)
 (.lf 271 ⟨2,2,(.st [(0,5),(1,5)]),(some [(.int .u8 0),(.int .u8 0)])⟩))
 (.nd 273 (.lf 272 ⟨2,2,(.st [(0,5),(1,5)]),(some [(.int .u8 0),(.int .u8 0)])⟩)
 (.nd 274 (.lf 273 ⟨32,32,(.arr 16 272),(some [(.int .u8 0),(.int .u8 0),(.int .u8 0),(.int .u8 0),(.int .u8 0),(.int .u8 0),(.int .u8 0),(.int .u8 0),(.int .u8 0),(.int .u8 0),(.int .u8 0),(.int .u8 0),(.int .u8 0),(.int .u8 0),(.int .u8 0),(.int .u8 0),(.int .u8 0),(.int .u8 0),(.int .u8 0),(.int .u8 0),(.int .u8 0),(.int .u8 0),(.int .u8 0),(.int .u8 0),(.int .u8 0),(.int .u8 0),(.int .u8 0),(.int .u8 0),(.int .u8 0),(.int .u8 0),(.int .u8 0),(.int .u8 0)])⟩)
 (.lf 274 ⟨1,0,.other,none⟩)))))
 (.nd 280 (.nd 277 (.nd 276 (.lf 275 ⟨1,8,.other,(some [(.raw .nilFunc)])⟩)
 (.lf 276 ⟨1,8,(.int .u64),(some [(.int .u64 0)])⟩))
 (.nd 278 (.lf 277 ⟨1,8,.other,(some [(.raw .nilFunc)])⟩)
 (.nd 279 (.lf 278 ⟨1,8,.other,(some [(.raw .nilFunc)])⟩)
 (.lf 279 ⟨1,8,.other,(some [(.raw .nilFunc)])⟩))))
 (.nd 282 (.nd 281 (.lf 280 ⟨1,8,.other,(some [(.raw .nilFunc)])⟩)
 (.lf 281 ⟨1,8,.other,(some [(.raw .nilFunc)])⟩))
 (.nd 283 (.lf 282 ⟨1,8,.other,(some [(.raw .nilFunc)])⟩)
 (.nd 284 (.lf 283 ⟨1,8,.other,(some [(.raw .nilFunc)])⟩)
 (.lf 284 ⟨20,160,(.arr 20 237),(some [(.int .u64 0),(.int .u64 0),(.int .u64 0),(.int .u64 0),(.int .u64 0),(.int .u64 0),(.int .u64 0),(.int .u64 0),(.int .u64 0),(.int .u64 0),(.int .u64 0),(.int .u64 0),(.int .u64 0),(.int .u64 0),(.int .u64 0),(.int .u64 0),(.int .u64 0),(.int .u64 0),(.int .u64 0),(.int .u64 0)])⟩))))))
 (.nd 294 (.nd 289 (.nd 287 (.nd 286 (.lf 285 ⟨65,65,(.arr 65 5),none⟩)
 (.lf 286 ⟨1,8,(.ptr 276),(some [(.raw (.pointer none))])⟩))
 (.nd 288 (.lf 287 ⟨1,0,.other,none⟩)
 (.lf 288 ⟨1,8,.other,(some [(.raw .nilFunc)])⟩)))
 (.nd 291 (.nd 290 (.lf 289 ⟨1,8,.other,(some [(.raw .nilFunc)])⟩)
 (.lf 290 ⟨32,32,(.arr 32 5),(some [(.int .u8 0),(.int .u8 0),(.int .u8 0),(.int .u8 0),(.int .u8 0),(.int .u8 0),(.int .u8 0),(.int .u8 0),(.int .u8 0),(.int .u8 0),(.int .u8 0),(.int .u8 0),(.int .u8 0),(.int .u8 0),(.int .u8 0),(.int .u8 0),(.int .u8 0),(.int .u8 0),(.int .u8 0),(.int .u8 0),(.int .u8 0),(.int .u8 0),(.int .u8 0),(.int .u8 0),(.int .u8 0),(.int .u8 0),(.int .u8 0),(.int .u8 0),(.int .u8 0),(.int .u8 0),(.int .u8 0),(.int .u8 0)])⟩))
 (.nd 292 (.lf 291 ⟨64,64,(.arr 64 5),(some [(.int .u8 0),(.int .u8 0),(.int .u8 0),(.int .u8 0),(.int .u8 0),(.int .u8 0),(.int .u8 0),(.int .u8 0),(.int .u8 0),(.int .u8 0),(.int .u8 0),(.int .u8 0),(.int .u8 0),(.int .u8 0),(.int .u8 0),(.int .u8 0),(.int .u8 0),(.int .u8 0),(.int .u8 0),(.int .u8 0),(.int .u8 0),(.int .u8 0),(.int .u8 0),(.int .u8 0),(.int .u8 0),(.int .u8 0),(.int .u8 0),(.int .u8 0),(.int .u8 0),(.int .u8 0),(.int .u8 0),(.int .u8 0),(.int .u8 0),(.int .u8 0),(.int .u8 0),(.int .u8 0),(.int .u8 0),(.int .u8 0),(.int .u8 0),(.int .u8 0),(.int .u8 0),(.int .u8 0),(.int .u8 0),(.int .u8 0),(.int .u8 0),(.int .u8 0),(.int .u8 0),(.int .u8 0),(.int .u8 0),(.int .u8 0),(.int .u8 0),(.int .u8 0),(.int .u8 0),(.int .u8 0),(.int .u8 0),(.int .u8 0),(.int .u8 0),(.int .u8 0),(.int .u8 0),(.int .u8 0),(.int .u8 0),(.int .u8 0),(.int .u8 0),(.int .u8 0)])⟩)
 (.nd 293 (.lf 292 ⟨4,40,(.st [(0,17),(1,17),(2,17),(3,9)]),(some [(.raw (.pointer none)),(.raw (.pointer none)),(.raw (.pointer none)),(.str [])])⟩)
 (.lf 293 ⟨4,40,(.st [(0,17),(1,17),(2,17),(3,9)]),(some [(.raw (.pointer none)),(.raw (.pointer none)),(.raw (.pointer none)),(.str [])])⟩)))))
 (.nd 299 (.nd 296 (.nd 295 (.lf 294 ⟨0,0,(.arr 0 16),(some [])⟩)
 (.lf 295 ⟨0,0,(.st [(0,294)]),(some [])⟩))
 (.nd 297 (.lf 296 ⟨0,0,(.st [(0,294)]),(some [])⟩)
 (.nd 298 (.lf 297 ⟨1,1,(.int .u8),(some [(.int .u8 0)])⟩)
 (.lf 298 ⟨1,1,(.int .u8),(some [(.int .u8 0)])⟩))))
 (.nd 301 (.nd 300 (.lf 299 ⟨1,8,.other,(some [(.raw .nilFunc)])⟩)
 (.lf 300 ⟨1,4,(.int .i32),(some [(.int .i32 0)])⟩))
 (.nd 302 (.lf 301 ⟨1,4,(.int .i32),(some [(.int .i32 0)])⟩)
 (.nd 303 (.lf 302 ⟨11,48,(.st [(0,12),(1,12),(2,252),(3,297),(4,5),(5,5),(6,298),(7,299),(8,196),(9,300),(10,301)]),(some [(.int .u64 0),(.int .u64 0),(.int .u32 0),(.int .u8 0),(.int .u8 0),(.int .u8 0),(.int .u8 0),(.raw .nilFunc),(.raw (.pointer none)),(.int .i32 0),(.int .i32 0)])⟩)
 (.lf 303 ⟨11,48,(.st [(0,12),(1,12),(2,252),(3,297),(4,5),(5,5),(6,298),(7,299),(8,196),(9,300),(10,301)]),(some [(.int .u64 0),(.int .u64 0),(.int .u32 0),(.int .u8 0),(.int .u8 0),(.int .u8 0),(.int .u8 0),(.raw .nilFunc),(.raw (.pointer none)),(.int .i32 0),(.int .i32 0)])⟩))))))))))
theorem lay_fits : lay.fits Tryz.prog = true := by kernel_rfl
theorem layOk : LOk Tryz.prog lay.get := Tr.ok lay_fits
theorem mixed : Tryz.prog.follows .mixedOrders = true := by kernel_rfl
theorem powNamed : ∃ g, Tryz.prog.globalNamed "internal/strconv.uint64pow10" = some g := by
 refine ⟨(Tryz.prog.globalNamed "internal/strconv.uint64pow10").getD 0, ?_⟩
 kernel_rfl
def HoldsErr (w : World) (nm : String) : Prop := ∃ g te pe,Tryz.prog.globalNamed nm = some g ∧ w.cell? ⟨g,0,none⟩ = some (.iface te pe)
theorem HoldsErr.keep {w w2 : World} {nm : String} (h : HoldsErr w nm) (hb : Below w.heap.size w w2) : HoldsErr w2 nm := by
 obtain ⟨g,te,pe,h1,h2⟩ := h
 have hl : g < w.heap.size := World.block_lt_of_cell? _ _ h2
 exact ⟨g,te,pe,h1,(hb.cell (p := ⟨g,0,none⟩) hl).trans h2⟩
def MaxIs (w : World) : Prop := ∃ g m, Tryz.prog.globalNamed "internal/bytealg.MaxLen" = some g ∧ w.cell? ⟨g, 0, none⟩ = some (.int .i64 m)
theorem MaxIs.keep {w w2 : World} (h : MaxIs w) (hb : Below w.heap.size w w2) : MaxIs w2 := by
 obtain ⟨g,m,h1,h2⟩ := h
 have hl : g < w.heap.size := World.block_lt_of_cell? _ _ h2
 exact ⟨g,m,h1,(hb.cell (p := ⟨g,0,none⟩) hl).trans h2⟩
instance : Globs := ⟨fun w => Lib.TabIs Tryz.prog w "internal/strconv.uint64pow10" .u64 Lib.pow10Tab ∧ HoldsErr w "strconv.ErrSyntax" ∧ HoldsErr w "strconv.ErrRange" ∧ MaxIs w, fun _ _ h hb => by obtain ⟨g, hg⟩ := powNamed; exact ⟨Joins.tab_stays hg h.1 hb (Nat.le_refl _), h.2.1.keep hb, h.2.2.1.keep hb, h.2.2.2.keep hb⟩⟩
theorem pow_of {w : World} (h : Globs.glob w) : Lib.TabIs Tryz.prog w "internal/strconv.uint64pow10" .u64 Lib.pow10Tab := h.1
theorem max_of {w : World} (h : Globs.glob w) : ∃ g m, Tryz.prog.globalNamed "internal/bytealg.MaxLen" = some g ∧ w.cell? ⟨g, 0, none⟩ = some (.int .i64 m) := h.2.2.2
theorem errs_of {w : World} (h : Globs.glob w) : HoldsErr w "strconv.ErrSyntax" ∧ HoldsErr w "strconv.ErrRange" := ⟨h.2.1, h.2.2.1⟩
end Go.Pv


namespace Go.Pv
open Go.RowKit
variable [Globs]
section
variable {P : Program} {L : Lay} {Q : Exit → St → Prop} {K : St → Prop} {s : St} {ops : Array Oper} {rest : List Oper} {o : Oper}
variable {d e j : Nat} {op : Op} {ty : TypeId} {pos : String} {af : Array Edge} {want : Bool} {g : Option (Nat × Bool)}
theorem putR_same {b : Bool} (hr : s.reg e = .bool b) : s.putR e (.bool b) = s := by
 refine St.ext' ?_ rfl
 funext t
 show (bif Nat.beq t e then PV.bool b else s.reg t) = s.reg t
 by_cases ht : t = e
 ·subst ht;simp [hr]
 ·simp [nbeq_ne ht]
theorem ps_split {b : Bool} (_hd : (ops[j]?).bind (·.dst) = some e) (hr : s.reg e = .bool b) (h1 : b = true → POps P L ops K (⟨some d,op,ty,pos,af,some (j,want)⟩ :: rest) (s.putR e (.bool true))) (h0 : b = false → POps P L ops K (⟨some d,op,ty,pos,af,some (j,want)⟩ :: rest) (s.putR e (.bool false))) :
  POps P L ops K (⟨some d,op,ty,pos,af,some (j,want)⟩ :: rest) s := by
 have := putR_same hr
 cases b
 ·have h := h0 rfl;rwa [this] at h
 ·have h := h1 rfl;rwa [this] at h
theorem pq_split {b : Bool} (_hd : (ops[j]?).bind (·.dst) = some e) (hr : s.reg e = .bool b) (h1 : b = true → PQuiet P L ops K (⟨some d,op,ty,pos,af,some (j,want)⟩ :: rest) (s.putR e (.bool true))) (h0 : b = false → PQuiet P L ops K (⟨some d,op,ty,pos,af,some (j,want)⟩ :: rest) (s.putR e (.bool false))) :
  PQuiet P L ops K (⟨some d,op,ty,pos,af,some (j,want)⟩ :: rest) s := by
 have := putR_same hr
 cases b
 ·have h := h0 rfl;rwa [this] at h
 ·have h := h1 rfl;rwa [this] at h
theorem o_nilm {x : Operand} {gn : Nat} {oc : Option Cont} (T : TypeId) (sz kd : Nat) (hx : s.ev x = .nil) (hown : s.own d = (gn,oc)) (h : K ((s.setOwn d (gn + 1) (some ⟨T,sz,[],kd⟩)).putR d (.als d (gn + 1) 0 0))) : POp P L s ⟨some d,.move x,ty,pos,af,g⟩ K := by
 refine .inr (.inl ⟨_,.nils T sz kd (.inl rfl) rfl hx,?_⟩)
 rw [St.fin,hown];exact h
theorem o_nila {x : Operand} {gn : Nat} {oc : Option Cont} (T : TypeId) (sz kd : Nat) (hx : s.ev x = .nil) (hown : s.own d = (gn,oc)) (h : K ((s.setOwn d (gn + 1) (some ⟨T,sz,[],kd⟩)).putR d (.als d (gn + 1) 0 0))) : POp P L s ⟨some d,.assign x,ty,pos,af,g⟩ K := by
 refine .inr (.inl ⟨_,.nils T sz kd (.inr rfl) rfl hx,?_⟩)
 rw [St.fin,hown];exact h
theorem q_slit {T E : TypeId} {r re : LRow} {n : Nat} {ps : List (Nat × Operand)} {rows : List (List PV)} {Pr : Prop} (hr : L T = some r) (hs : r.sh = .sl E) (hre : L E = some re) (hz : re.zero.isSome = true) (hsz : Nat.blt 0 re.size = true) (hrows : litRows s 0 ps = some rows)
  (hn : ps.map (·.1) = nats 0 n) (hN : Nat.ble (n * re.size) 16777216 = true) (hcells : ps.all (fun p => Nat.beq (s.ev p.2).cells.length re.size) = true) (h1 : oneL s (ps.flatMap fun p => (s.ev p.2).cells) = some Pr) (h2 : Pr) (hkd : (ps.flatMap fun p => (s.ev p.2).cells).all (kOk 0) = true) :
  QOp P L s ⟨some d,.buildSlice T n ps.toArray,ty,pos,af,g⟩ (.fsl rows) := by
 have := QOp.slit (P := P) (L := L) (s := s) (o := ⟨some d,.buildSlice T n ps.toArray,ty,pos,af,g⟩) rfl hr hs hre hz (by simpa using hsz) (by rw [nats_range] at hn;simpa using hn) (by simpa using hN) (fun p hp => by
  have := List.all_eq_true.1 hcells p (by simpa using hp)
  simpa using this) h1 h2 hkd
 rw [litRows_eq 0 ps rows hrows]
 exact this
variable {fn : Func} {r : PV}
theorem end1 {t : Nat} {v d : PV} {Cd : Prop} {fl : Fl} (h : fn.results.toList = [.tmp t]) (hv : (s.reg t).fz = some v) (hres : res s 5 v = some (d,Cd,fl)) (hc : Cd) (hd : d = r) : RetPost L fn .shared r .ret s := by
 rw [PV.fz_eq] at hv
 have hv := Option.some.inj hv
 subst hv
 exact ⟨[s.reg t],True ∧ True,d,Cd,fl,by rw [h];rfl,⟨trivial,trivial⟩,hres,hc,trivial,hd⟩
theorem end1b {t : Nat} {b : Bool} (h : fn.results.toList = [.tmp t]) (hv : s.reg t = .bool b) (hd : PV.bool b = r) : RetPost L fn .shared r .ret s :=
 end1 h (v := .bool b) (by rw [hv];rfl) rfl trivial hd
theorem end1i {t : Nat} {k : IntKind} {n : Int} (h : fn.results.toList = [.tmp t]) (hv : s.reg t = .int k n) (hd : PV.int k n = r) : RetPost L fn .shared r .ret s :=
 end1 h (v := .int k n) (by rw [hv];rfl) rfl trivial hd
theorem end2 {t1 t2 : Nat} {v1 v2 d1 d2 : PV} {C1 C2 : Prop} {f1 f2 : Fl} (h : fn.results.toList = [.tmp t1,.tmp t2]) (h1 : (s.reg t1).fz = some v1) (h2 : (s.reg t2).fz = some v2) (r1 : res s 4 v1 = some (d1,C1,f1)) (r2 : res s 4 v2 = some (d2,C2,f2)) (c1 : C1) (c2 : C2)
  (hd : PV.tup [d1,d2] = r) : RetPost L fn .shared r .ret s := by
 rw [PV.fz_eq] at h1 h2
 have h1 := Option.some.inj h1
 have h2 := Option.some.inj h2
 subst h1 h2
 refine ⟨[s.reg t1,s.reg t2],True ∧ True ∧ True,.tup [d1,d2],C1 ∧ C2 ∧ True,f1.and (f2.and ⟨true,true⟩),by rw [h];rfl,⟨trivial,trivial,trivial⟩,?_,⟨c1,c2,trivial⟩,trivial,hd⟩
 show (match resL (res s 4) [s.reg t1,s.reg t2] with | some (ds,C1,b) => some (PV.tup ds,C1,b) | none => none) = _
 simp only [resL,r1,r2]
theorem end1f {t : Nat} {v d : PV} {Cd : Prop} {c : Bool} (h : fn.results.toList = [.tmp t]) (hv : (s.reg t).fz = some v) (hres : res s 5 v = some (d,Cd,⟨c,true⟩)) (hc : Cd) (hd : d = r) : RetPost L fn .fresh r .ret s := by
 rw [PV.fz_eq] at hv
 have hv := Option.some.inj hv
 subst hv
 exact ⟨[s.reg t],True ∧ True,d,Cd,⟨c,true⟩,by rw [h];rfl,⟨trivial,trivial⟩,hres,hc,rfl,hd⟩
end
section
variable {P : Program} {L : Lay} {Q : Exit → St → Prop} {K : St → Prop} {s : St} {ops : Array Oper}
theorem POps.app {K : St → Prop} : ∀ (l1 l2 : List Oper) (s : St),POps P L ops (fun s' => POps P L ops K l2 s') l1 s → POps P L ops K (l1 ++ l2) s
 |[],_,_,h => h
 |_ :: l1,l2,_,h => h.imp (fun x => ⟨x.1,x.2.mono fun s' h' => POps.app l1 l2 s' h'⟩) fun x => ⟨x.1,POps.app l1 l2 _ x.2⟩
theorem PQuiet.app {K : St → Prop} : ∀ (l1 l2 : List Oper) (s : St),PQuiet P L ops (fun s' => PQuiet P L ops K l2 s') l1 s → PQuiet P L ops K (l1 ++ l2) s
 |[],_,_,h => h
 |_ :: l1,l2,_,h => h.imp (fun ⟨x,pv,y,z⟩ => ⟨x,pv,y,PQuiet.app l1 l2 _ z⟩) fun x => ⟨x.1,PQuiet.app l1 l2 _ x.2⟩
theorem ps_cut {l : List Oper} (n : Nat) (regs : List (Nat × PV)) (owns : List (Nat × Nat × Cont)) (h1 : POps P L ops (fun s' => Fit s' regs owns) (l.take n) s) (h2 : ∀ s : St,POps P L ops K (l.drop n) (s.over regs owns)) : POps P L ops K l s := by
 have := POps.app (K := K) (l.take n) (l.drop n) s (h1.mono (fun s' hf => by have := h2 s';rwa [hf.over] at this) _ _)
 rwa [List.take_append_drop] at this
theorem pw_cutP {x y : Code} (X : Prop) (regs : List (Nat × PV)) (owns : List (Nat × Nat × Cont)) (h1 : PWP P L x (XThen (fun s' => X ∧ Fit s' regs owns) Q) s) (h2 : X → ∀ s : St,PWP P L y Q (s.over regs owns)) : PWP P L (.seq x y) Q s := by
 refine pw_seq (PWP.mono ?_ _ h1)
 intro e s' h
 cases e
 case normal =>
  have := h2 h.1 s'
  rwa [Fit.over h.2] at this
 all_goals exact h
theorem pw_cut {x y : Code} (regs : List (Nat × PV)) (owns : List (Nat × Nat × Cont)) (h1 : PWP P L x (XThen (fun s' => Fit s' regs owns) Q) s) (h2 : ∀ s : St,PWP P L y Q (s.over regs owns)) : PWP P L (.seq x y) Q s := by
 refine pw_seq (PWP.mono ?_ _ h1)
 intro e s' h
 cases e
 case normal =>
  have := h2 s'
  rwa [Fit.over h] at this
 all_goals exact h
theorem pw_cutN {x y : Code} (regs : List (Nat × PV)) (owns : List (Nat × Nat × Cont)) (h1 : PWP P L x (XThen (fun s' => Fit s' regs owns) Q) s) (h2 : ∀ s : St,PWP P L y Q (s.over regs owns)) : PWP P L x (XThen (fun s' => PWP P L y Q s') Q) s := pw_cut regs owns h1 h2
end
theorem wrap_i64 {n : Int} (h1 : -9223372036854775808 ≤ n) (h2 : n ≤ 9223372036854775807) : IntKind.i64.wrap n = n := by
 rw [IntKind.wrap_i64];omega
theorem i64_next {n : Int} (h1 : -9223372036854775808 ≤ n) (h2 : n < 9223372036854775807) : PV.int .i64 (IntKind.i64.wrap (n + 1)) = .int .i64 (n + 1) := by rw [wrap_i64 (by omega) (by omega)]
theorem get_lt {α : Type} {l : List α} {k : Nat} (h : k < l.length) : ∃ x,l[k]? = some x := ⟨l[k],List.getElem?_eq_getElem h⟩
end Go.Pv


namespace Go.Pv
open Go.RowKit
variable [Globs]
section
variable {C : Ctx} {γ : Nat → Option Nat} {s : St} {a : Act} {w : World}
theorem envOf_recell {k0 g0 : Nat} {c0 c1 : Cont} (ho : s.own k0 = (g0,some c0)) (ht : c1.ty = c0.ty) (hs : c1.sz = c0.sz) (hl : c1.rows.length = c0.rows.length) :
  envOf C γ (s.setOwn k0 g0 (some c1)) w = envOf C γ s w := by
 have hown : ∀ k,((s.setOwn k0 g0 (some c1)).own k).1 = (s.own k).1 ∧ (((s.setOwn k0 g0 (some c1)).own k).2.map fun c => (⟨γ k,c.ty,c.sz,c.rows.length⟩ : SLoc)) = (s.own k).2.map fun c => (⟨γ k,c.ty,c.sz,c.rows.length⟩ : SLoc) := by
  intro k
  by_cases hk : k = k0
  ·subst hk;rw [setOwn_same,ho];simp [ht,hs,hl]
  ·rw [setOwn_ne hk];exact ⟨rfl,rfl⟩
 have hok : ∀ b,okOf C γ (s.setOwn k0 g0 (some c1)) w b = okOf C γ s w b := by
  intro b
  refine propext ⟨fun h => ⟨h.1,h.2.1,fun k c hc => ?_⟩,fun h => ⟨h.1,h.2.1,fun k c hc => ?_⟩⟩
  ·by_cases hk : k = k0
   ·subst hk;exact h.2.2 k c1 (by rw [setOwn_same])
   ·exact h.2.2 k c (by rw [setOwn_ne hk];exact hc)
  ·by_cases hk : k = k0
   ·subst hk;exact h.2.2 k c0 (by rw [ho])
   ·rw [setOwn_ne hk] at hc;exact h.2.2 k c hc
 unfold envOf
 congr 1
 ·funext b;exact hok b
 ·funext b;rw [hok b]
 ·funext k;exact (hown k).1
 ·funext k;exact (hown k).2
theorem SiteOk.rowlen {E : Env} {blk : Option Nat} {c : Cont} (h : SiteOk E blk c) (hz : 0 < c.sz) : ∀ r ∈ c.rows,r.length = c.sz := by
 intro r hr
 cases blk with
 |none => rw [h.emp rfl] at hr;cases hr
 |some b => obtain ⟨cur,_,_,_,f4,_⟩ := h.at_ b rfl hz;exact f4 r hr
theorem Sim.recell (h : Sim C γ s a w) {k0 g0 : Nat} {c0 c1 : Cont} (ho : s.own k0 = (g0,some c0)) (ht : c1.ty = c0.ty) (hs : c1.sz = c0.sz) (hz0 : 0 < c0.sz) (hl : c1.rows.length = c0.rows.length) (hrl : ∀ row ∈ c1.rows,row.length = c1.sz)
  (hcell : ∀ (i j : Nat) (row1 : List PV) (pv1 : PV),c1.rows[i]? = some row1 → row1[j]? = some pv1 → ∃ row0 pv0,c0.rows[i]? = some row0 ∧ row0[j]? = some pv0 ∧ ∀ v,KRep (envOf C γ s w) c0.kind pv0 v → KRep (envOf C γ s w) c1.kind pv1 v) :
  Sim C γ (s.setOwn k0 g0 (some c1)) a w := by
 have he := envOf_recell (C := C) (γ := γ) (w := w) ho ht hs hl
 have hsome : ∀ k c,((s.setOwn k0 g0 (some c1)).own k).2 = some c → ∃ c',(s.own k).2 = some c' := by
  intro k c hc
  by_cases hk : k = k0
  ·subst hk;exact ⟨c0,by rw [ho]⟩
  ·rw [setOwn_ne hk] at hc;exact ⟨c,hc⟩
 refine ⟨h.defers,h.size,fun r => by rw [he];exact h.regs r,fun k c hc => ?_,fun k k' c c' b e1 e2 e3 e4 => ?_,fun k c b e1 e2 => ?_,h.below,h.top,fun c v hk => by rw [he];exact h.kept c v hk⟩
 ·rw [he]
  by_cases hk : k = k0
  ·subst hk
   rw [setOwn_same] at hc
   have hc : c1 = c := Option.some.inj hc
   subst hc
   have hsite := h.sites k c0 (by rw [ho])
   refine ⟨fun hb => ?_,(fun b _ hz => by omega),(fun b _ hz => by omega),fun b hb _ => ?_⟩
   ·have := hsite.emp hb
    exact List.eq_nil_of_length_eq_zero (by rw [hl,this];rfl)
   ·obtain ⟨cur,f1,f2,f3,f4,f5⟩ := hsite.at_ b hb hz0
    refine ⟨cur,by rw [ht];exact f1,by rw [hs];exact f2,by rw [hl,hs];exact f3,hrl,fun i j row pv e1 e2 => ?_⟩
    obtain ⟨row0,pv0,g1,g2,g3⟩ := hcell i j row pv e1 e2
    obtain ⟨v,u1,u2,u3⟩ := f5 i j row0 pv0 g1 g2
    exact ⟨v,by rw [hs];exact u1,u2,g3 v u3⟩
  ·rw [setOwn_ne hk] at hc
   exact h.sites k c hc
 ·obtain ⟨d,hd⟩ := hsome k c e1
  obtain ⟨d',hd'⟩ := hsome k' c' e2
  exact h.inj k k' d d' b hd hd' e3 e4
 ·obtain ⟨d,hd⟩ := hsome k c e1
  exact h.base k d b hd e2
theorem Sim.drop (hX : ∀ b,C.X b → b < C.B) (h : Sim C γ s a w) {k g : Nat} {c : Cont} (ho : s.own k = (g,some c)) :
  Sim C γ (s.setOwn k (g + 1) none) a w ∧ (envOf C γ s w).Le (envOf C γ (s.setOwn k (g + 1) none) w) ∧
   (c.kind = 0 → ∀ v,Rep (envOf C γ s w) (.als k g 0 c.rows.length) v → DRep w (envOf C γ (s.setOwn k (g + 1) none) w).okf (.sl c.rows) v) := by
 have hok : ∀ b,okOf C γ s w b → okOf C γ (s.setOwn k (g + 1) none) w b := fun b hb => ⟨hb.1,hb.2.1,fun k' c' hc' => by
  by_cases hk : k' = k
  ·subst hk;rw [setOwn_same] at hc';cases hc'
  ·rw [setOwn_ne hk] at hc';exact hb.2.2 k' c' hc'⟩
 have hle : (envOf C γ s w).Le (envOf C γ (s.setOwn k (g + 1) none) w) := by
  refine ⟨hok,fun b hb => ⟨hb.1,hok b hb.2⟩,fun b hb => hb.2,fun b _ => rfl,fun k' => ?_,fun k' l' hg hl => ?_,fun k' l' b cur hg hl hb hh => ⟨cur,hh,rfl⟩⟩
  ·show (s.own k').1 ≤ ((s.setOwn k (g + 1) none).own k').1
   by_cases hk : k' = k
   ·subst hk;rw [setOwn_same,ho];simp
   ·rw [setOwn_ne hk];exact Nat.le_refl _
  ·by_cases hk : k' = k
   ·subst hk
    simp only [envOf,setOwn_same,Option.map_none] at hl
    cases hl
   ·refine ⟨l',?_,rfl,rfl,rfl,Nat.le_refl _⟩
    simp only [envOf,setOwn_ne hk] at hl ⊢
    exact hl
 refine ⟨⟨h.defers,h.size,fun r => (h.regs r).mono hle,fun k' c' hc' => ?_,fun k1 k2 c1 c2 b e1 e2 e3 e4 => ?_,fun k' c' b e1 e2 => ?_,h.below,h.top,fun c v hk => (h.kept c v hk).mono hle⟩,hle,fun hk v hv => ?_⟩
 ·by_cases hk : k' = k
  ·subst hk;rw [setOwn_same] at hc';cases hc'
  ·rw [setOwn_ne hk] at hc'
   exact (h.sites k' c' hc').mono hle fun b hb => rfl
 ·have hne : ∀ {k' c'},((s.setOwn k (g + 1) none).own k').2 = some c' → (s.own k').2 = some c' := by
   intro k' c' hc'
   by_cases hk : k' = k
   ·subst hk;rw [setOwn_same] at hc';cases hc'
   ·rwa [setOwn_ne hk] at hc'
  exact h.inj k1 k2 c1 c2 b (hne e1) (hne e2) e3 e4
 ·by_cases hk : k' = k
  ·subst hk;rw [setOwn_same] at e1;cases e1
  ·rw [setOwn_ne hk] at e1;exact h.base k' c' b e1 e2
 ·rcases h.als_at hv ho with ⟨h1,_,h3,rfl⟩ | ⟨b,cap,cur,h1,rfl,h3,h4,h5,h6,h7⟩
  ·have : c.rows = [] := (h.sites k c (by rw [ho])).emp h1
   rw [this]
   exact .sl0 _ _
  ·obtain ⟨cur',g1,g2,g3,g4,g5⟩ := h.site_at ho h1 (h.cells_sz ho h1 h3 h6)
   have hb : (envOf C γ (s.setOwn k (g + 1) none) w).okf b := by
    have hbase := h.base k c b (by rw [ho]) h1
    refine ⟨hbase.1,hbase.2,fun hx => ?_,fun k' c' hc' hb' => ?_⟩
    ·have := hX b hx;omega
    ·by_cases hk' : k' = k
     ·subst hk';rw [setOwn_same] at hc';cases hc'
     ·rw [setOwn_ne hk'] at hc'
      exact hk' (h.inj k' k c' c b hc' (by rw [ho]) hb' h1)
   simp only [Nat.zero_mul]
   refine .sl c.rows b 0 cap c.sz (fun i j => cur'.getD (i * c.sz + j) undef) hb g2 h4 g4 (fun i j row pv e1 e2 => ?_) (fun i j row pv e1 e2 => ?_)
   ·obtain ⟨u,f1,f2,_⟩ := g5 i j row pv e1 e2
    rw [cell_of_cells g1,Nat.zero_add,f1]
    simp [f1,f2]
   ·obtain ⟨u,f1,_,f3⟩ := g5 i j row pv e1 e2
    have : cur'.getD (i * c.sz + j) undef = u := by simp [f1]
    simp only [this]
    rw [hk] at f3
    exact hle.drepf f3
end
section
variable {s : St}
theorem Ghost.drop {k g : Nat} {oc : Option Cont} (ho : s.own k = (g,oc)) : Ghost s (s.setOwn k (g + 2) none) := by
 intro C a w hX ⟨γ,h⟩
 have ht : Turn C γ s w w k none := ⟨rfl,rfl,rfl,Nat.le_refl _,fun b _ => .inl rfl,fun b hb => by cases hb⟩
 have h1 := ht.sim h (c := ⟨0,0,[],0⟩) (.none_ rfl)
 have hfin : s.fin k ⟨0,0,[],0⟩ = s.setOwn k (g + 1) (some ⟨0,0,[],0⟩) := by rw [St.fin,ho]
 rw [hfin] at h1
 have h2 := (h1.drop hX (setOwn_same _ _ _ _)).1
 have he : (s.setOwn k (g + 1) (some ⟨0,0,[],0⟩)).setOwn k (g + 1 + 1) none = s.setOwn k (g + 2) none := by
  refine St.ext' rfl (funext fun r => ?_)
  show (bif Nat.beq r k then _ else (bif Nat.beq r k then _ else _)) = (bif Nat.beq r k then _ else _)
  cases Nat.beq r k <;> rfl
 rw [he] at h2
 exact ⟨_,h2⟩
theorem Ghost.move {k g k' g' t i j : Nat} {c : Cont} {oc' : Option Cont} (hk : Nat.beq k k' = false) (ho : s.own k = (g,some c)) (ho' : s.own k' = (g',oc')) (hr : s.reg t = .ptr k g i j) :
  Ghost s (((s.setOwn k (g + 1) none).setOwn k' (g' + 1) (some c)).putR t (.ptr k' (g' + 1) i j)) := by
 intro C a w hX ⟨γ,h⟩
 have hne : k ≠ k' := fun e => by subst e;simp at hk
 have o1 : ((s.setOwn k (g + 1) none).setOwn k' (g' + 1) (some c)).own k = (g + 1,none) := by rw [setOwn_ne hne,setOwn_same]
 have o2 : ((s.setOwn k (g + 1) none).setOwn k' (g' + 1) (some c)).own k' = (g' + 1,some c) := setOwn_same _ _ _ _
 have o3 : ∀ q,q ≠ k → q ≠ k' → ((s.setOwn k (g + 1) none).setOwn k' (g' + 1) (some c)).own q = s.own q := fun q h1 h2 => by rw [setOwn_ne h2,setOwn_ne h1]
 have hregs : ((s.setOwn k (g + 1) none).setOwn k' (g' + 1) (some c)).reg = s.reg := rfl
 generalize (s.setOwn k (g + 1) none).setOwn k' (g' + 1) (some c) = s1 at *
 have hval : ∀ {q : Nat} {d : Cont},(s1.own q).2 = some d → ∃ q0,(s.own q0).2 = some d ∧ γ q0 = upg γ k' (γ k) q ∧ ((q = k' ∧ q0 = k) ∨ (q ≠ k' ∧ q ≠ k ∧ q0 = q)) := by
  intro q d hd
  by_cases h2 : q = k'
  ·subst h2
   rw [o2] at hd
   exact ⟨k,by rw [ho];exact hd,by rw [upg_same],.inl ⟨rfl,rfl⟩⟩
  ·by_cases h1 : q = k
   ·subst h1;rw [o1] at hd;cases hd
   ·rw [o3 q h1 h2] at hd
    exact ⟨q,hd,by rw [upg_ne h2],.inr ⟨h2,h1,rfl⟩⟩
 have hok : ∀ b,okOf C γ s w b → okOf C (upg γ k' (γ k)) s1 w b := fun b hb => ⟨hb.1,hb.2.1,fun q d hd => by
  obtain ⟨q0,e1,e2,_⟩ := hval hd
  rw [← e2];exact hb.2.2 q0 d e1⟩
 have hle : (envOf C γ s w).Le (envOf C (upg γ k' (γ k)) s1 w) := by
  refine ⟨hok,fun b hb => ⟨hb.1,hok b hb.2⟩,fun b hb => hb.2,fun b _ => rfl,fun q => ?_,fun q l' hg hl => ?_,fun q l' b cur hg hl hb hh => ⟨cur,hh,rfl⟩⟩
  ·show (s.own q).1 ≤ (s1.own q).1
   by_cases h2 : q = k'
   ·subst h2;rw [o2,ho'];simp
   ·by_cases h1 : q = k
    ·subst h1;rw [o1,ho];simp
    ·rw [o3 q h1 h2];exact Nat.le_refl _
  ·have hgg : (s1.own q).1 = (s.own q).1 := hg
   by_cases h2 : q = k'
   ·subst h2;rw [o2,ho'] at hgg;simp at hgg
   ·by_cases h1 : q = k
    ·subst h1;rw [o1,ho] at hgg;simp at hgg
    ·refine ⟨l',?_,rfl,rfl,rfl,Nat.le_refl _⟩
     simp only [envOf,o3 q h1 h2,upg_ne h2] at hl ⊢
     exact hl
 refine ⟨upg γ k' (γ k),h.defers,h.size,fun r => ?_,fun q d hd => ?_,fun q1 q2 d1 d2 b e1 e2 e3 e4 => ?_,fun q d b e1 e2 => ?_,h.below,h.top,fun d v hd => (h.kept d v hd).mono hle⟩
 ·show Rep (envOf C (upg γ k' (γ k)) s1 w) (bif Nat.beq r t then _ else s1.reg r) _
  by_cases hrt : r = t
  ·subst hrt
   have hp := h.regs r
   rw [hr] at hp
   simp only [Nat.beq_refl,cond_true]
   have hp' := h.ptr_at hp ho
   refine .ptr ?_ fun _ l hl => ?_
   ·show g' + 1 ≤ (s1.own k').1
    rw [o2];exact Nat.le_refl _
   ·simp only [envOf,o2,upg_same,Option.map_some,Option.some.injEq] at hl
    subst hl
    exact hp'
  ·rw [nbeq_ne hrt,hregs];exact (h.regs r).mono hle
 ·obtain ⟨q0,e1,e2,_⟩ := hval hd
  have := (h.sites q0 d e1).mono hle fun b _ => rfl
  rwa [e2] at this
 ·obtain ⟨p1,f1,f2,f3⟩ := hval e1
  obtain ⟨p2,f4,f5,f6⟩ := hval e2
  have := h.inj p1 p2 d1 d2 b f1 f4 (by rw [f2];exact e3) (by rw [f5];exact e4)
  rcases f3 with ⟨a1,a2⟩ | ⟨a1,a2,a3⟩ <;> rcases f6 with ⟨b1,b2⟩ | ⟨b1,b2,b3⟩
  ·rw [a1,b1]
  ·exact absurd (by rw [← b3,← this,a2]) b2
  ·exact absurd (by rw [← a3,this,b2]) a2
  ·rw [← a3,← b3,this]
 ·obtain ⟨q0,f1,f2,_⟩ := hval e1
  exact h.base q0 d b f1 (by rw [f2];exact e2)
theorem Sim.moveS {C : Ctx} {γ : Nat → Option Nat} {a : Act} {w : World} {k g k' g' : Nat} {c : Cont} {oc' : Option Cont} (h : Sim C γ s a w) (hk : Nat.beq k k' = false) (ho : s.own k = (g,some c)) (ho' : s.own k' = (g',oc')) :
  Sim C (upg γ k' (γ k)) ((s.setOwn k (g + 1) none).setOwn k' (g' + 1) (some c)) a w := by
 have hne : k ≠ k' := fun e => by subst e;simp at hk
 have o1 : ((s.setOwn k (g + 1) none).setOwn k' (g' + 1) (some c)).own k = (g + 1,none) := by rw [setOwn_ne hne,setOwn_same]
 have o2 : ((s.setOwn k (g + 1) none).setOwn k' (g' + 1) (some c)).own k' = (g' + 1,some c) := setOwn_same _ _ _ _
 have o3 : ∀ q,q ≠ k → q ≠ k' → ((s.setOwn k (g + 1) none).setOwn k' (g' + 1) (some c)).own q = s.own q := fun q h1 h2 => by rw [setOwn_ne h2,setOwn_ne h1]
 have hregs : ((s.setOwn k (g + 1) none).setOwn k' (g' + 1) (some c)).reg = s.reg := rfl
 generalize (s.setOwn k (g + 1) none).setOwn k' (g' + 1) (some c) = s1 at *
 have hval : ∀ {q : Nat} {d : Cont},(s1.own q).2 = some d → ∃ q0,(s.own q0).2 = some d ∧ γ q0 = upg γ k' (γ k) q ∧ ((q = k' ∧ q0 = k) ∨ (q ≠ k' ∧ q ≠ k ∧ q0 = q)) := by
  intro q d hd
  by_cases h2 : q = k'
  ·subst h2
   rw [o2] at hd
   exact ⟨k,by rw [ho];exact hd,by rw [upg_same],.inl ⟨rfl,rfl⟩⟩
  ·by_cases h1 : q = k
   ·subst h1;rw [o1] at hd;cases hd
   ·rw [o3 q h1 h2] at hd
    exact ⟨q,hd,by rw [upg_ne h2],.inr ⟨h2,h1,rfl⟩⟩
 have hok : ∀ b,okOf C γ s w b → okOf C (upg γ k' (γ k)) s1 w b := fun b hb => ⟨hb.1,hb.2.1,fun q d hd => by
  obtain ⟨q0,e1,e2,_⟩ := hval hd
  rw [← e2];exact hb.2.2 q0 d e1⟩
 have hle : (envOf C γ s w).Le (envOf C (upg γ k' (γ k)) s1 w) := by
  refine ⟨hok,fun b hb => ⟨hb.1,hok b hb.2⟩,fun b hb => hb.2,fun b _ => rfl,fun q => ?_,fun q l' hg hl => ?_,fun q l' b cur hg hl hb hh => ⟨cur,hh,rfl⟩⟩
  ·show (s.own q).1 ≤ (s1.own q).1
   by_cases h2 : q = k'
   ·subst h2;rw [o2,ho'];simp
   ·by_cases h1 : q = k
    ·subst h1;rw [o1,ho];simp
    ·rw [o3 q h1 h2];exact Nat.le_refl _
  ·have hgg : (s1.own q).1 = (s.own q).1 := hg
   by_cases h2 : q = k'
   ·subst h2;rw [o2,ho'] at hgg;simp at hgg
   ·by_cases h1 : q = k
    ·subst h1;rw [o1,ho] at hgg;simp at hgg
    ·refine ⟨l',?_,rfl,rfl,rfl,Nat.le_refl _⟩
     simp only [envOf,o3 q h1 h2,upg_ne h2] at hl ⊢
     exact hl
 refine ⟨h.defers,h.size,fun r => ?_,fun q d hd => ?_,fun q1 q2 d1 d2 b e1 e2 e3 e4 => ?_,fun q d b e1 e2 => ?_,h.below,h.top,fun d v hd => (h.kept d v hd).mono hle⟩
 ·rw [hregs];exact (h.regs r).mono hle
 ·obtain ⟨q0,e1,e2,_⟩ := hval hd
  have := (h.sites q0 d e1).mono hle fun b _ => rfl
  rwa [e2] at this
 ·obtain ⟨p1,f1,f2,f3⟩ := hval e1
  obtain ⟨p2,f4,f5,f6⟩ := hval e2
  have := h.inj p1 p2 d1 d2 b f1 f4 (by rw [f2];exact e3) (by rw [f5];exact e4)
  rcases f3 with ⟨a1,a2⟩ | ⟨a1,a2,a3⟩ <;> rcases f6 with ⟨b1,b2⟩ | ⟨b1,b2,b3⟩
  ·rw [a1,b1]
  ·exact absurd (by rw [← b3,← this,a2]) b2
  ·exact absurd (by rw [← a3,this,b2]) a2
  ·rw [← a3,← b3,this]
 ·obtain ⟨q0,f1,f2,_⟩ := hval e1
  exact h.base q0 d b f1 (by rw [f2];exact e2)
theorem Ghost.moveC {k g k' g' k0 g0 i j : Nat} {c c0 : Cont} {oc' : Option Cont} {row : List PV} (hk : Nat.beq k k' = false) (hk0 : Nat.beq k0 k = false) (hk0' : Nat.beq k0 k' = false) (ho : s.own k = (g,some c)) (ho' : s.own k' = (g',oc')) (h0 : s.own k0 = (g0,some c0)) (hkind : c0.kind = 2)
  (hrow : c0.rows[i]? = some row) (hj : row[j]? = some (.mp k g)) (hz0 : Nat.blt 0 c0.sz = true) :
  Ghost s (((s.setOwn k (g + 1) none).setOwn k' (g' + 1) (some c)).setOwn k0 g0 (some ⟨c0.ty,c0.sz,c0.rows.set i (row.set j (.mp k' (g' + 1))),2⟩)) := by
 intro C a w hX ⟨γ,h⟩
 have n0 : k0 ≠ k := fun e => by subst e;simp at hk0
 have n0' : k0 ≠ k' := fun e => by subst e;simp at hk0'
 have nk : k ≠ k' := fun e => by subst e;simp at hk
 have hzz : 0 < c0.sz := by simpa using hz0
 have hlt := (List.getElem?_eq_some_iff.1 hrow).1
 have hlt2 := (List.getElem?_eq_some_iff.1 hj).1
 have hrl := (h.sites k0 c0 (by rw [h0])).rowlen hzz
 obtain ⟨cty,csz,crows,ckind⟩ := c0
 simp only at hkind hrow hzz hlt hrl
 subst hkind
 cases hb0 : γ k0 with
 |none =>
  have := (h.sites k0 _ (by rw [h0])).emp hb0
  simp only at this
  rw [this] at hlt;simp at hlt
 |some b0 =>
 obtain ⟨cur,q1,_,_,_,q5⟩ := h.site_at h0 hb0 hzz
 obtain ⟨u,u1,u2,u3⟩ := q5 i j row _ hrow hj
 obtain ⟨hsz,b,hb,hu⟩ := h.mp_at u3 ho
 have s1 : Sim C γ (s.setOwn k0 g0 (some ⟨cty,csz,crows.set i (row.set j (.raw (.map (some b)))),2⟩)) a w := by
  refine h.recell h0 rfl rfl hzz (by simp) (fun r hr => ?_) fun i' j' row1 pv1 e1 e2 => ?_
  ·rcases List.mem_or_eq_of_mem_set hr with hr | rfl
   ·exact hrl r hr
   ·simpa using hrl row (List.mem_of_getElem? hrow)
  ·by_cases hi : i' = i
   ·subst hi
    rw [List.getElem?_set_self hlt] at e1
    have e1 := Option.some.inj e1
    subst e1
    by_cases hjj : j' = j
    ·subst hjj
     rw [List.getElem?_set_self hlt2] at e2
     have e2 := Option.some.inj e2
     subst e2
     refine ⟨row,_,hrow,hj,fun v hv => ?_⟩
     obtain ⟨_,b',hb',hv'⟩ := h.mp_at hv ho
     rw [hb] at hb'
     cases hb'
     rw [hv']
     exact .d (.raw _)
    ·rw [List.getElem?_set_ne (Ne.symm hjj)] at e2
     exact ⟨row,pv1,hrow,e2,fun v hv => hv⟩
   ·rw [List.getElem?_set_ne (Ne.symm hi)] at e1
    exact ⟨row1,pv1,e1,e2,fun v hv => hv⟩
 have o0 : (s.setOwn k0 g0 (some ⟨cty,csz,crows.set i (row.set j (.raw (.map (some b)))),2⟩)).own k = (g,some c) := by rw [setOwn_ne (fun e => n0 e.symm)];exact ho
 have o0' : (s.setOwn k0 g0 (some ⟨cty,csz,crows.set i (row.set j (.raw (.map (some b)))),2⟩)).own k' = (g',oc') := by rw [setOwn_ne (fun e => n0' e.symm)];exact ho'
 have s2 := s1.moveS hk o0 o0'
 have o2 : (((s.setOwn k0 g0 (some ⟨cty,csz,crows.set i (row.set j (.raw (.map (some b)))),2⟩)).setOwn k (g + 1) none).setOwn k' (g' + 1) (some c)).own k0 = (g0,some ⟨cty,csz,crows.set i (row.set j (.raw (.map (some b)))),2⟩) := by rw [setOwn_ne n0',setOwn_ne n0,setOwn_same]
 have o3 : (((s.setOwn k0 g0 (some ⟨cty,csz,crows.set i (row.set j (.raw (.map (some b)))),2⟩)).setOwn k (g + 1) none).setOwn k' (g' + 1) (some c)).own k' = (g' + 1,some c) := setOwn_same _ _ _ _
 have s3 := s2.recell (c1 := ⟨cty,csz,crows.set i (row.set j (.mp k' (g' + 1))),2⟩) o2 rfl rfl hzz (by simp) (fun r hr => ?_) fun i' j' row1 pv1 e1 e2 => ?_
 ·refine ⟨upg γ k' (γ k),?_⟩
  have he : ((((s.setOwn k0 g0 (some ⟨cty,csz,crows.set i (row.set j (.raw (.map (some b)))),2⟩)).setOwn k (g + 1) none).setOwn k' (g' + 1) (some c)).setOwn k0 g0 (some ⟨cty,csz,crows.set i (row.set j (.mp k' (g' + 1))),2⟩)) =
    (((s.setOwn k (g + 1) none).setOwn k' (g' + 1) (some c)).setOwn k0 g0 (some ⟨cty,csz,crows.set i (row.set j (.mp k' (g' + 1))),2⟩)) := by
   refine St.ext' rfl (funext fun r => ?_)
   show (bif Nat.beq r k0 then _ else (bif Nat.beq r k' then _ else (bif Nat.beq r k then _ else (bif Nat.beq r k0 then _ else _)))) = (bif Nat.beq r k0 then _ else (bif Nat.beq r k' then _ else (bif Nat.beq r k then _ else _)))
   cases Nat.beq r k0 <;> rfl
  rw [he] at s3
  exact s3
 ·rcases List.mem_or_eq_of_mem_set hr with hr | rfl
  ·exact hrl r hr
  ·simpa using hrl row (List.mem_of_getElem? hrow)
 ·have hlt' : i < (crows.set i (row.set j (.raw (.map (some b))))).length := by simpa using hlt
  by_cases hi : i' = i
  ·subst hi
   rw [List.getElem?_set_self hlt] at e1
   have e1 := Option.some.inj e1
   subst e1
   by_cases hjj : j' = j
   ·subst hjj
    rw [List.getElem?_set_self hlt2] at e2
    have e2 := Option.some.inj e2
    subst e2
    refine ⟨row.set j' (.raw (.map (some b))),.raw (.map (some b)),List.getElem?_set_self hlt,List.getElem?_set_self hlt2,fun v hv => ?_⟩
    have hv : Rep _ _ v := hv
    rw [hv.raw_inv]
    refine .mp ?_ fun _ l hl => ?_
    ·show _ ≤ (_ : Nat × Option Cont).1
     rw [o3];exact Nat.le_refl _
    ·simp only [envOf,o3,upg_same,Option.map_some,Option.some.injEq] at hl
     subst hl
     exact ⟨hsz,b,hb,rfl⟩
   ·rw [List.getElem?_set_ne (Ne.symm hjj)] at e2
    exact ⟨row.set j (.raw (.map (some b))),pv1,List.getElem?_set_self hlt,by rw [List.getElem?_set_ne (Ne.symm hjj)];exact e2,fun v hv => hv⟩
  ·rw [List.getElem?_set_ne (Ne.symm hi)] at e1
   exact ⟨row1,pv1,by rw [List.getElem?_set_ne (Ne.symm hi)];exact e1,e2,fun v hv => hv⟩
theorem Ghost.data {k g t kd : Nat} {T : TypeId} {row : List PV} (ho : s.own k = (g,some ⟨T,row.length,[row],kd⟩)) (hr : s.reg t = .ptr k g 0 0) (hall : row.all (kOk 1) = true) (hz0 : Nat.blt 0 row.length = true) :
  Ghost s ((s.setOwn k (g + 1) none).putR t (.dref (row.map (nrm 1)) 0)) := by
 intro C a w hX ⟨γ,h⟩
 obtain ⟨h1,hle,_⟩ := h.drop hX ho
 have hz0 : 0 < row.length := by simpa using hz0
 have hp := h.regs t
 rw [hr] at hp
 obtain ⟨b,hb,hv,hi,hj⟩ := h.ptr_at hp ho
 obtain ⟨cur,f1,f2,f3,f4,f5⟩ := h.site_at ho hb hz0
 have hokb : okOf C γ (s.setOwn k (g + 1) none) w b := by
  have hbase := h.base k _ b (by rw [ho]) hb
  refine ⟨hbase.2,fun hx => ?_,fun k' c' hc' hb' => ?_⟩
  ·have := hX b hx;omega
  ·by_cases hk' : k' = k
   ·subst hk';rw [setOwn_same] at hc';cases hc'
   ·rw [setOwn_ne hk'] at hc'
    exact hk' (h.inj k' k c' _ b hc' (by rw [ho]) hb' hb)
 have hd : Rep (envOf C γ (s.setOwn k (g + 1) none) w) (.dref (row.map (nrm 1)) 0) (a.tmps.getD t undef) := by
  rw [hv]
  simp only [Nat.zero_mul,Nat.zero_add]
  have key : ∀ (i : Nat) (c : PV),(row.map (nrm 1))[i]? = some c → ∃ c0 u,row[i]? = some c0 ∧ c = nrm 1 c0 ∧ cur[i]? = some u ∧ u.oneCell' = true ∧ KRep (envOf C γ s w) kd c0 u := by
   intro i c hc
   rw [List.getElem?_map] at hc
   cases hq : row[i]? with
   |none => rw [hq] at hc;simp at hc
   |some c0 =>
    rw [hq] at hc;simp at hc
    obtain ⟨u,e1,e2,e3⟩ := f5 0 i row c0 rfl hq
    exact ⟨c0,u,rfl,hc.symm,by simpa using e1,e2,e3⟩
  have := DRep.dref (w := w) (ok := (envOf C γ (s.setOwn k (g + 1) none) w).ok) (row.map (nrm 1)) 0 b 0 (fun i => cur.getD i undef) hokb (fun i c hc => by
   obtain ⟨c0,u,e1,e2,e3,e4,e5⟩ := key i c hc
   rw [cell_of_cells f1,Nat.zero_add,e3]
   simp [e3,e4]) (fun i c hc => by
   obtain ⟨c0,u,e1,rfl,e3,e4,e5⟩ := key i c hc
   have hu : cur.getD i undef = u := by simp [e3]
   rw [hu]
   exact hle.drep (kOk_spec (k := 1) envOf_okfok (List.all_eq_true.1 hall c0 (List.mem_of_getElem? e1)) (e5.rep envOf_okfok)))
  exact .d this
 refine ⟨γ,h1.defers,h1.size,fun r => ?_,h1.sites,h1.inj,h1.base,h1.below,h1.top,h1.kept⟩
 show Rep (envOf C γ (s.setOwn k (g + 1) none) w) (bif Nat.beq r t then _ else s.reg r) _
 by_cases hrt : r = t
 ·subst hrt;simpa using hd
 ·rw [nbeq_ne hrt];exact h1.regs r
theorem Ghost.nilcell {k gk k0 g0 i j : Nat} {oc : Option Cont} {c0 : Cont} {row : List PV} (T : TypeId) (sz kd : Nat) (hk : Nat.beq k0 k = false) (ho : s.own k = (gk,oc)) (h0 : s.own k0 = (g0,some c0)) (hkind : c0.kind = 2) (hrow : c0.rows[i]? = some row) (hj : row[j]? = some .nil) (hz0 : Nat.blt 0 c0.sz = true) :
  Ghost s ((s.setOwn k (gk + 1) (some ⟨T,sz,[],kd⟩)).setOwn k0 g0 (some ⟨c0.ty,c0.sz,c0.rows.set i (row.set j (.als k (gk + 1) 0 0)),2⟩)) := by
 intro C a w hX ⟨γ,h⟩
 have hne : k0 ≠ k := fun e => by subst e;simp at hk
 have ht : Turn C γ s w w k none := ⟨rfl,rfl,rfl,Nat.le_refl _,fun b _ => .inl rfl,fun b hb => by cases hb⟩
 have h1 := ht.sim h (c := ⟨T,sz,[],kd⟩) (.none_ rfl)
 have hfin : s.fin k ⟨T,sz,[],kd⟩ = s.setOwn k (gk + 1) (some ⟨T,sz,[],kd⟩) := by rw [St.fin,ho]
 rw [hfin] at h1
 have ho1 : (s.setOwn k (gk + 1) (some ⟨T,sz,[],kd⟩)).own k0 = (g0,some c0) := by rw [setOwn_ne hne];exact h0
 have hz0 : 0 < c0.sz := by simpa using hz0
 refine ⟨_,h1.recell ho1 rfl rfl hz0 (by simp) (fun r hr => ?_) fun i' j' row1 pv1 e1 e2 => ?_⟩
 ·rcases List.mem_or_eq_of_mem_set hr with hr | rfl
  ·exact (h.sites k0 c0 (by rw [h0])).rowlen hz0 r hr
  ·simpa using (h.sites k0 c0 (by rw [h0])).rowlen hz0 row (List.mem_of_getElem? hrow)
 ·by_cases hi : i' = i
  ·subst hi
   have hlt := (List.getElem?_eq_some_iff.1 hrow).1
   rw [List.getElem?_set_self hlt] at e1
   have e1 := Option.some.inj e1
   subst e1
   by_cases hjj : j' = j
   ·subst hjj
    have hlt2 := (List.getElem?_eq_some_iff.1 hj).1
    rw [List.getElem?_set_self hlt2] at e2
    have e2 := Option.some.inj e2
    subst e2
    refine ⟨row,.nil,hrow,hj,fun v hv => ?_⟩
    rw [hkind] at hv
    have hv : Rep _ PV.nil v := hv
    rw [hv.nil_inv]
    refine Rep.als ?_ fun _ l hl => ?_
    ·show _ ≤ ((s.setOwn k (gk + 1) (some ⟨T,sz,[],kd⟩)).own k).1
     rw [setOwn_same];exact Nat.le_refl _
    ·simp only [envOf,setOwn_same,upg_same,Option.map_some,Option.some.injEq] at hl
     subst hl
     exact .inl ⟨rfl,rfl,rfl,rfl⟩
   ·rw [List.getElem?_set_ne (Ne.symm hjj)] at e2
    exact ⟨row,pv1,hrow,e2,fun v hv => by rw [hkind] at hv;exact hv⟩
  ·rw [List.getElem?_set_ne (Ne.symm hi)] at e1
   exact ⟨row1,pv1,e1,e2,fun v hv => by rw [hkind] at hv;exact hv⟩
theorem Ghost.freeze {k gk k0 g0 i j n : Nat} {c c0 : Cont} {row : List PV} (hk : Nat.beq k0 k = false) (ho : s.own k = (gk,some c)) (hc : c.kind = 0) (h0 : s.own k0 = (g0,some c0)) (hkind : c0.kind = 2) (hrow : c0.rows[i]? = some row) (hj : row[j]? = some (.als k gk 0 n)) (hz0 : Nat.blt 0 c0.sz = true) (hn : n = c.rows.length) :
  Ghost s ((s.setOwn k (gk + 1) none).setOwn k0 g0 (some ⟨c0.ty,c0.sz,c0.rows.set i (row.set j (.fsl c.rows)),2⟩)) := by
 intro C a w hX ⟨γ,h⟩
 subst hn
 have hne : k0 ≠ k := fun e => by subst e;simp at hk
 obtain ⟨h1,hle,hfr⟩ := h.drop hX ho
 have ho1 : (s.setOwn k (gk + 1) none).own k0 = (g0,some c0) := by rw [setOwn_ne hne];exact h0
 have hsite := h.sites k0 c0 (by rw [h0])
 have hlt := (List.getElem?_eq_some_iff.1 hrow).1
 have hlt2 := (List.getElem?_eq_some_iff.1 hj).1
 have he := envOf_recell (C := C) (γ := γ) (w := w) (c1 := ⟨c0.ty,c0.sz,c0.rows.set i (row.set j (.fsl c.rows)),2⟩) ho1 rfl rfl (by simp)
 have hother : ∀ k',k' ≠ k0 → ((s.setOwn k (gk + 1) none).setOwn k0 g0 (some ⟨c0.ty,c0.sz,c0.rows.set i (row.set j (.fsl c.rows)),2⟩)).own k' = (s.setOwn k (gk + 1) none).own k' := fun k' hk' => setOwn_ne hk'
 have hsome : ∀ k' c',(((s.setOwn k (gk + 1) none).setOwn k0 g0 (some ⟨c0.ty,c0.sz,c0.rows.set i (row.set j (.fsl c.rows)),2⟩)).own k').2 = some c' → ∃ c'',((s.setOwn k (gk + 1) none).own k').2 = some c'' := by
  intro k' c' hc'
  by_cases hk' : k' = k0
  ·subst hk';exact ⟨c0,by rw [ho1]⟩
  ·rw [hother k' hk'] at hc';exact ⟨c',hc'⟩
 refine ⟨γ,h1.defers,h1.size,fun r => by rw [he];exact h1.regs r,fun k' c' hc' => ?_,fun k1 k2 c1 c2 b e1 e2 e3 e4 => ?_,fun k' c' b e1 e2 => ?_,h1.below,h1.top,fun c v hk => by rw [he];exact h1.kept c v hk⟩
 ·rw [he]
  by_cases hk' : k' = k0
  ·subst hk'
   rw [setOwn_same] at hc'
   have hc' := Option.some.inj hc'
   subst hc'
   have hz0 : 0 < c0.sz := by simpa using hz0
   refine ⟨fun hb => ?_,(fun b _ hz => by simp only at hz;omega),(fun b _ hz => by simp only at hz;omega),fun b hb _ => ?_⟩
   ·have := hsite.emp hb
    rw [this] at hrow;simp at hrow
   ·obtain ⟨cur,f1,f2,f3,f4,f5⟩ := hsite.at_ b hb hz0
    refine ⟨cur,f1,f2,by simpa using f3,fun r hr => ?_,fun i' j' row1 pv1 e1 e2 => ?_⟩
    ·rcases List.mem_or_eq_of_mem_set hr with hr | rfl
     ·exact f4 r hr
     ·simpa using f4 row (List.mem_of_getElem? hrow)
    ·by_cases hi : i' = i
     ·subst hi
      rw [List.getElem?_set_self hlt] at e1
      have e1 := Option.some.inj e1
      subst e1
      by_cases hjj : j' = j
      ·subst hjj
       rw [List.getElem?_set_self hlt2] at e2
       have e2 := Option.some.inj e2
       subst e2
       obtain ⟨v,u1,u2,u3⟩ := f5 i' j' row _ hrow hj
       rw [hkind] at u3
       exact ⟨v,u1,u2,Rep.fsl (hfr hc v u3)⟩
      ·rw [List.getElem?_set_ne (Ne.symm hjj)] at e2
       obtain ⟨v,u1,u2,u3⟩ := f5 i' j' row pv1 hrow e2
       rw [hkind] at u3
       exact ⟨v,u1,u2,Rep.mono hle u3⟩
     ·rw [List.getElem?_set_ne (Ne.symm hi)] at e1
      obtain ⟨v,u1,u2,u3⟩ := f5 i' j' row1 pv1 e1 e2
      rw [hkind] at u3
      exact ⟨v,u1,u2,Rep.mono hle u3⟩
  ·rw [hother k' hk'] at hc'
   exact h1.sites k' c' hc'
 ·obtain ⟨d,hd⟩ := hsome k1 c1 e1
  obtain ⟨d',hd'⟩ := hsome k2 c2 e2
  exact h1.inj k1 k2 d d' b hd hd' e3 e4
 ·obtain ⟨d,hd⟩ := hsome k' c' e1
  exact h1.base k' d b hd e2
end
theorem Ghost.nilreg {s : St} {k gk t : Nat} {oc : Option Cont} (T : TypeId) (sz kd : Nat) (ho : s.own k = (gk,oc)) (hr : s.reg t = .nil) : Ghost s ((s.setOwn k (gk + 1) (some ⟨T,sz,[],kd⟩)).putR t (.als k (gk + 1) 0 0)) := by
 intro C a w hX ⟨γ,h⟩
 have ht : Turn C γ s w w k none := ⟨rfl,rfl,rfl,Nat.le_refl _,fun b _ => .inl rfl,fun b hb => by cases hb⟩
 have h1 := ht.sim h (c := ⟨T,sz,[],kd⟩) (.none_ rfl)
 have hfin : s.fin k ⟨T,sz,[],kd⟩ = s.setOwn k (gk + 1) (some ⟨T,sz,[],kd⟩) := by rw [St.fin,ho]
 rw [hfin] at h1
 refine ⟨_,h1.defers,h1.size,fun r => ?_,h1.sites,h1.inj,h1.base,h1.below,h1.top,h1.kept⟩
 show Rep _ (bif Nat.beq r t then _ else s.reg r) _
 by_cases hrt : r = t
 ·subst hrt
  have hv := h.regs r
  rw [hr] at hv
  rw [hv.nil_inv]
  simp only [Nat.beq_refl,cond_true]
  refine .als ?_ fun _ l hl => ?_
  ·show _ ≤ ((s.setOwn k (gk + 1) (some ⟨T,sz,[],kd⟩)).own k).1
   rw [setOwn_same];exact Nat.le_refl _
  ·have hl : (((s.setOwn k (gk + 1) (some ⟨T,sz,[],kd⟩)).own k).2.map fun c => (⟨upg γ k none k,c.ty,c.sz,c.rows.length⟩ : SLoc)) = some l := hl
   rw [setOwn_same,upg_same] at hl
   have hl := Option.some.inj hl
   subst hl
   exact .inl ⟨rfl,rfl,rfl,rfl⟩
 ·rw [nbeq_ne hrt];exact h1.regs r
theorem Ghost.nilsl {s : St} {t : Nat} (hr : s.reg t = .nil) : Ghost s (s.putR t (.sl [])) := by
 intro C a w hX ⟨γ,h⟩
 refine ⟨_,h.defers,h.size,fun r => ?_,h.sites,h.inj,h.base,h.below,h.top,h.kept⟩
 show Rep _ (bif Nat.beq r t then _ else s.reg r) _
 by_cases hrt : r = t
 ·subst hrt
  have hv := h.regs r
  rw [hr] at hv
  rw [hv.nil_inv]
  simp only [Nat.beq_refl,cond_true]
  exact .d (.sl0 _ _)
 ·rw [nbeq_ne hrt];exact h.regs r
end Go.Pv


namespace Go.Pv
open Go.RowKit
variable [Globs]
def OwnV (w w' : World) (T : TypeId) (sz : Nat) (rows : List (List PV)) (v : Value) : Prop :=
 (rows = [] ∧ v = .slice none 0 0) ∨
 ∃ (b cap : Nat) (cur : Array Value),w.heap.size ≤ b ∧ v = .slice (some ⟨b,0,none⟩) rows.length cap ∧ w'.heap[b]? = some (.cells cur T (0,0)) ∧ rows.length ≤ cap ∧ cap ≤ maxLen ∧ cur.size = cap * sz ∧ 0 < sz ∧ rows.length * sz ≤ cur.size ∧ (∀ row ∈ rows,row.length = sz) ∧
  ∀ (i j : Nat) (row : List PV) (c : PV),rows[i]? = some row → row[j]? = some c → ∃ u,cur[i * sz + j]? = some u ∧ u.oneCell' = true ∧ ∀ (w : World) (ok : Nat → Prop),DRep w ok c u
def RetO (P : Program) (f : FuncId) (pargs : List PV) (T : TypeId) (sz : Nat) (rows : List (List PV)) : Prop :=
 callable P f ∧ ∀ (w : World) (X : Nat → Prop) (args : List Value),Globs.glob w → (∀ b,X b → b < w.heap.size) → pargs.length = args.length →
  (∀ (i : Nat) (c : PV) (v : Value),pargs[i]? = some c → args[i]? = some v → DRep w (fun b => b < w.heap.size ∧ ¬ X b) c v) →
  Calls P f args.toArray w (fun e w' => ∃ v,e = .returned v ∧ Below w.heap.size w w' ∧ OwnV w w' T sz rows v)
def PostO (fn : Func) (T : TypeId) (sz : Nat) (rows : List (List PV)) (s : St) : Prop :=
 ∃ t k g m kd,fn.results.toList = [.tmp t] ∧ s.reg t = .als k g 0 m ∧ s.own k = (g,some ⟨T,sz,rows,kd⟩) ∧ m = rows.length ∧ rows.all (·.all PV.flat1) = true
def RetPostO (fn : Func) (T : TypeId) (sz : Nat) (rows : List (List PV)) : Exit → St → Prop
 |.normal,s | .ret,s => PostO fn T sz rows s
 |_,_ => False
theorem flat1_any {E : Env} {k : Nat} {c : PV} {v : Value} (hf : c.flat1 = true) (h : KRep E k c v) (hE : ∀ b,E.okf b → E.ok b) (w : World) (ok : Nat → Prop) : DRep w ok c v := by
 have hr := h.rep hE
 cases c with
 |bool b => rw [hr.bool_inv];exact .bool _
 |int k n => rw [hr.int_inv];exact .int _ _
 |str s => rw [hr.str_inv];exact .str _
 |raw u => rw [hr.raw_inv];exact .raw _
 |nil => rw [hr.nil_inv];exact .nil
 |_ => simp [PV.flat1] at hf
section
variable {P : Program} {L : Lay} {s : St}
theorem RetO.of_pwp {f : FuncId} {fn : Func} {body : Code} {pargs : List PV} {T : TypeId} {sz : Nat} {rows : List (List PV)} (hL : LOk P L) (hm : P.follows .mixedOrders = true) (hf : P.funcs[f]? = some fn) (hb : fn.body = some body) (hn : (fn.name == "runtime.NumGoroutine") = false)
  (hlen : Nat.ble pargs.length fn.ntmps = true) (hc : codeOk fn.ntmps body = true) (h : PWP P L body (RetPostO fn T sz rows) (initSt pargs)) : RetO P f pargs T sz rows := by
 refine ⟨⟨fn,hf,hn,by simp [hb]⟩,fun w X args hg hX hl hargs => ?_⟩
 let C : Ctx := ⟨w.heap.size,X,w,fn.ntmps,fun _ _ => False,[]⟩
 have hG : Good P L C := ⟨hL,hX,hm,fun w' hb => Globs.keep w w' hg hb⟩
 have hle : args.length ≤ fn.ntmps := by rw [← hl];simpa using hlen
 have hsim : SimE C (initSt pargs) { tmps := args.toArray ++ Array.replicate (fn.ntmps - args.toArray.size) undef,defers := [] } w := by
  refine ⟨fun _ => none,rfl,by simp [C];omega,fun t => ?_,fun k c hk => by simp [initSt] at hk,fun k k' c c' b hk => by simp [initSt] at hk,fun k c b hk => by simp [initSt] at hk,Below.refl _ _,Nat.le_refl _,fun c v hk => hk.elim⟩
  show Rep _ (pargs.getD t (.raw undef)) _
  rcases Nat.lt_or_ge t args.length with hlt | hge
  ·have hlt' : t < pargs.length := by omega
   have e1 : pargs.getD t (.raw undef) = pargs[t] := by simp [hlt']
   have e2 : (args.toArray ++ Array.replicate (fn.ntmps - args.toArray.size) undef).getD t undef = args[t] := by
    rw [Array.getD_eq_getD_getElem?,Array.getElem?_append_left (by simpa using hlt)]
    simp [hlt]
   rw [e1,e2]
   refine .d ((hargs t pargs[t] args[t] (List.getElem?_eq_getElem hlt') (List.getElem?_eq_getElem hlt)).weaken fun b hb => ⟨hb.1,hb.2,fun k c hk => by simp [initSt] at hk⟩)
  ·have e1 : pargs.getD t (.raw undef) = .raw undef := by simp [List.getElem?_eq_none (by omega : pargs.length ≤ t)]
   have e2 : (args.toArray ++ Array.replicate (fn.ntmps - args.toArray.size) undef).getD t undef = undef := by
    rw [Array.getD_eq_getD_getElem?,Array.getElem?_append_right (by simpa using hge)]
    rcases Nat.lt_or_ge (t - args.toArray.size) (fn.ntmps - args.toArray.size) with h1 | h1
    ·rw [Array.getElem?_replicate,if_pos h1];rfl
    ·rw [Array.getElem?_eq_none (by simpa using h1)];rfl
   rw [e1,e2]
   exact .d (.raw _)
 refine calls_of_wp hf hb (wp_mono (PWP.sound hG body _ _ _ w hc (fun _ hq => hq) hsim h) ?_)
 have fin : ∀ {s : St} {a : Act} {w' : World},SimE C s a w' → PostO fn T sz rows s → a.defers = [] ∧ ∃ v,(results fn a.tmps).run P w' = .ok v w' ∧ ∃ u,Ending.returned v = .returned u ∧ Below w.heap.size w w' ∧ OwnV w w' T sz rows u := by
  rintro s a w' ⟨γ,hs⟩ ⟨t,k,g,m,kd,h1,h2,h3,h4,h5⟩
  refine ⟨hs.defers,a.tmps.getD t undef,?_,_,rfl,hs.below,?_⟩
  ·unfold results
   rw [← Array.toArray_toList (xs := fn.results),h1]
   simp
  ·have hr := hs.regs t
   rw [h2] at hr
   subst h4
   rcases hs.als_at hr h3 with ⟨e1,_,_,e4⟩ | ⟨b,cap,cur,e1,e2,e3,e4,e5,e6,e7⟩
   ·exact .inl ⟨(hs.sites k _ (by rw [h3])).emp e1,e4⟩
   ·obtain ⟨cur',g1,g2,g3,g4,g5⟩ := hs.site_at h3 e1 (hs.cells_sz h3 e1 e3 e6)
    have hcc : cur' = cur := by
     have e3 : w'.heap[b]? = some (.cells cur T (0,0)) := e3
     have g1 : w'.heap[b]? = some (.cells cur' T (0,0)) := g1
     rw [g1] at e3
     simpa using e3
    subst hcc
    refine .inr ⟨b,cap,cur',(hs.base k _ b (by rw [h3]) e1).1,by simpa using e2,e3,e4,e5,by simpa using e6,g2,g3,g4,fun i j row c r1 r2 => ?_⟩
    obtain ⟨u,u1,u2,u3⟩ := g5 i j row c r1 r2
    have hfl : c.flat1 = true := List.all_eq_true.1 (List.all_eq_true.1 h5 row (List.mem_of_getElem? r1)) c (List.mem_of_getElem? r2)
    exact ⟨u,u1,u2,fun w ok => flat1_any hfl u3 envOf_okfok w ok⟩
 rintro e a w' ⟨s,hs,hq⟩
 cases e
 case normal => exact fin hs hq
 case ret => exact fin hs hq
 all_goals exact hq.elim
theorem endO {fn : Func} {T : TypeId} {sz : Nat} {rows rows' : List (List PV)} {t k g m kd : Nat} (h : fn.results.toList = [.tmp t]) (hv : s.reg t = .als k g 0 m) (ho : s.own k = (g,some ⟨T,sz,rows,kd⟩)) (hm : m = rows.length) (hf : rows.all (·.all PV.flat1) = true) (hr : rows = rows') : RetPostO fn T sz rows' .ret s := by
 subst hr
 exact ⟨t,k,g,m,kd,h,hv,ho,hm,hf⟩
inductive TC where
 |p (o : Nat)
 |c (v : PV)
def TC.inst (mk : Nat → PV) : TC → PV
 |.p o => mk o
 |.c v => v
def TC.ok (sz : Nat) : TC → Bool
 |.p o => Nat.blt o sz
 |.c v => v.flat1
def rawP (b off o : Nat) : PV := .raw (.pointer (some ⟨b,off + o,none⟩))
@[reducible] def globAt (G : Globs) (b off : Nat) (u : Value) : Globs := ⟨fun w => G.glob w ∧ b < w.heap.size ∧ w.cell? ⟨b,off,none⟩ = some u,fun w w' h hb => ⟨G.keep w w' h.1 hb,Nat.lt_of_lt_of_le h.2.1 hb.size,by rw [cell_ext hb h.2.1];exact h.2.2⟩⟩
theorem sm_callP {d : Nat} {ty : TypeId} {pos : String} {af : Array Edge} {fop x : Operand} {tys : Array TypeId} {f : FuncId} {T : TypeId} {sz gn k g i : Nat} {ki : IntKind} {op : Int} {oc : Option Cont} {c : Cont} {row : List PV} {K : St → Prop} (tm : List (List TC))
  (hret : ∀ b off,@RetO (globAt ‹Globs› b off (.int ki op)) P f [rawP b off 0] T sz (tm.map fun r => r.map (TC.inst (rawP b off))))
  (hf : s.ev fop = .clo f []) (hx : s.ev x = .ptr k g i 0) (hk : s.own k = (g,some c)) (hrow : c.rows[i]? = some row) (h0 : row[0]? = some (.int ki op)) (hne : Nat.beq d k = false) (htm : tm.all (fun r => r.all (TC.ok c.sz)) = true)
  (hown : s.own d = (gn,oc)) (h : K ((s.setOwn d (gn + 1) (some ⟨T,sz,tm.map fun r => r.map (TC.inst fun o => .ptr k g i o),2⟩)).putR d (.als d (gn + 1) 0 tm.length))) : Sm P L s ⟨some d,.call ⟨.value fop,#[x],tys⟩,ty,pos,af,none⟩ K := by
 intro C a w Q hG hs hN
 obtain ⟨γ,hs⟩ := hs
 have hdk : d ≠ k := fun e => by subst e;simp at hne
 have hfv := hs.ev fop
 rw [hf] at hfv
 obtain ⟨vs,hv,hl,_⟩ := hfv.clo_inv
 have hvs : vs = [] := List.eq_nil_of_length_eq_zero (by simpa using hl.symm)
 subst hvs
 have hxr := hs.ev x
 rw [hx] at hxr
 obtain ⟨b,hb,hxv,hi,hj⟩ := hs.ptr_at hxr hk
 have hz : 0 < c.sz := by omega
 obtain ⟨cur,hh,_,hle,hrows,hcell⟩ := hs.site_at hk hb hz
 obtain ⟨u,u1,u2,u3⟩ := hcell i 0 row _ hrow h0
 have hu : u = .int ki op := (u3.rep envOf_okfok).int_inv
 subst hu
 have hbb : b < w.heap.size := (hs.base k c b (by rw [hk]) hb).2
 have hglob : (globAt ‹Globs› b (i * c.sz) (.int ki op)).glob w := ⟨hG.glob _ hs.below,hbb,by rw [cell_of_cells hh];exact u1⟩
 have hr := hret b (i * c.sz)
 unfold Oper.wp
 rw [run_call (f := f) rfl hv hr.1,Oper.upon_enter]
 refine (hr.2 w (fun _ => False) _ hglob (fun _ hb => hb.elim) (by simp) (fun j p v e1 e2 => by
  match j with
  |0 =>
   simp at e1 e2
   subst e1;subst e2
   rw [hxv]
   exact .raw _
  |j + 1 => simp at e1)).mono ?_
 rintro e w' ⟨v,rfl,hbel,hov⟩
 have hblkk : ∀ blk,upg γ d blk k = γ k := fun blk => upg_ne (fun e => hdk e.symm)
 have hptr : ∀ (blk : Option Nat) (o : Nat),o < c.sz → Rep (envOf C (upg γ d blk) (s.fin d ⟨T,sz,tm.map fun r => r.map (TC.inst fun o => .ptr k g i o),2⟩) w') (.ptr k g i o) (.pointer (some ⟨b,i * c.sz + o,none⟩)) := by
  intro blk o ho
  have hok : (s.fin d ⟨T,sz,tm.map fun r => r.map (TC.inst fun o => .ptr k g i o),2⟩).own k = (g,some c) := by rw [St.fin,setOwn_ne (fun e => hdk e.symm)];exact hk
  refine .ptr (by simp [envOf,hok]) fun _ l hl => ?_
  simp only [envOf,hok,Option.map_some,Option.some.injEq] at hl
  subst hl
  exact ⟨b,by rw [hblkk];exact hb,rfl,hi,ho⟩
 have main : ∀ (blk : Option Nat),(∀ b,blk = some b → b < w'.heap.size ∧ w.heap.size ≤ b) → SiteOk (envOf C (upg γ d blk) (s.fin d ⟨T,sz,tm.map fun r => r.map (TC.inst fun o => .ptr k g i o),2⟩) w') blk ⟨T,sz,tm.map fun r => r.map (TC.inst fun o => .ptr k g i o),2⟩ → AlsAt w' ⟨blk,T,sz,tm.length⟩ 0 tm.length v → ∃ s',SimE C s' (a.put (some d) v) w' ∧ K s' := by
  intro blk hblk hsite hals
  have ht : Turn C γ s w w' d blk := ⟨hbel.os,hbel.tape,hbel.output,hbel.size,fun b hb => .inl (hbel.block b hb),fun b hb => ⟨(hblk b hb).1,.inl (hblk b hb).2⟩⟩
  have hsim := ht.sim hs hsite
  have hfin : s.fin d ⟨T,sz,tm.map fun r => r.map (TC.inst fun o => .ptr k g i o),2⟩ = s.setOwn d (gn + 1) (some ⟨T,sz,tm.map fun r => r.map (TC.inst fun o => .ptr k g i o),2⟩) := by rw [St.fin,hown]
  rw [hfin] at hsim
  refine ⟨_,⟨_,hsim.put (d := some d) hN (.als ?_ fun _ l hl => ?_)⟩,h⟩
  ·show _ ≤ ((s.setOwn d (gn + 1) (some ⟨T,sz,tm.map fun r => r.map (TC.inst fun o => .ptr k g i o),2⟩)).own d).1
   rw [setOwn_same];exact Nat.le_refl _
  ·simp only [envOf,setOwn_same,upg_same,Option.map_some,Option.some.injEq,List.length_map] at hl
   subst hl
   exact hals
 rcases hov with ⟨hnil,hvv⟩ | ⟨b',cap,cur',h1,hvv,h3,h4,h5,h6,h7,h8,h9,h10⟩
 ·have : tm = [] := by simpa using hnil
  subst this
  exact main none (fun b hb => by cases hb) (.none_ rfl) (.inl ⟨rfl,rfl,rfl,hvv⟩)
 ·rw [List.length_map] at h4 h8 hvv
  have hb' : b' < w'.heap.size := (Array.getElem?_eq_some_iff.1 h3).1
  refine main (some b') (fun b'' hb'' => by simp at hb'';subst hb'';exact ⟨hb',h1⟩) ⟨(fun e => by cases e),(fun b' _ hz => by simp only at hz;omega),(fun b' _ hz => by simp only at hz;omega),fun b'' hb'' _ => ?_⟩ (.inr ⟨b',cap,cur',rfl,by simpa using hvv,h3,h4,h5,by simpa using h6,by simp⟩)
  simp at hb'';subst hb''
  refine ⟨cur',h3,h7,by simpa using h8,fun r hr => ?_,fun i' j' r' pv e1 e2 => ?_⟩
  ·simp only [List.mem_map] at hr
   obtain ⟨r0,hr0,rfl⟩ := hr
   have := h9 _ (List.mem_map.2 ⟨r0,hr0,rfl⟩)
   simpa using this
  ·simp only [List.getElem?_map,Option.map_eq_some_iff] at e1
   obtain ⟨r0,hr0,rfl⟩ := e1
   simp only [List.getElem?_map,Option.map_eq_some_iff] at e2
   obtain ⟨t,ht,rfl⟩ := e2
   obtain ⟨q,q1,q2,q3⟩ := h10 i' j' (r0.map (TC.inst (rawP b (i * c.sz)))) (TC.inst (rawP b (i * c.sz)) t) (by rw [List.getElem?_map,hr0];rfl) (by rw [List.getElem?_map,ht];rfl)
   refine ⟨q,q1,q2,?_⟩
   have htok : TC.ok c.sz t = true := List.all_eq_true.1 (List.all_eq_true.1 htm r0 (List.mem_of_getElem? hr0)) t (List.mem_of_getElem? ht)
   cases t with
   |p o =>
    have hq := (Rep.d (E := envOf C γ s w) (q3 _ _)).raw_inv
    subst hq
    exact hptr (some b') o (by simpa [TC.ok] using htok)
   |c v => exact .d (q3 _ _)
end
end Go.Pv


namespace Go.Pv
open Go.RowKit
variable [Globs]
def gB (ops : Array Oper) (s : St) : Option (Nat × Bool) → Option Bool
 |none => some true
 |some (j,want) => match (ops[j]?).bind (·.dst) with
  |some e => match s.reg e with
   |.bool b => match b,want with
    |true,true => some true
    |false,false => some true
    |true,false => some false
    |false,true => some false
   |.raw u => match u with
    |.tuple a => match a with
     |⟨[]⟩ => some false
     |_ => none
    |_ => none
   |_ => none
  |none => none
def sOp (L : Lay) (s : St) : Option Nat → Op → Option (St × Prop)
 |some d,.box T x => match (s.ev x).fz,s.own d with
  |some v,(gn,_) => match oneL s v.cells with
   |some Pr => some ((s.setOwn d (gn + 1) (some ⟨T,v.cells.length,[v.cells],2⟩)).putR d (.ptr d (gn + 1) 0 0),Nat.blt 0 v.cells.length = true ∧ Pr)
   |none => none
  |none,_ => none
 |some d,.alloc T => match L T with
  |some r => match r.zero,s.own d with
   |some z,(gn,_) => some ((s.setOwn d (gn + 1) (some ⟨T,z.length,[z],2⟩)).putR d (.ptr d (gn + 1) 0 0),Nat.blt 0 z.length = true)
   |none,_ => none
  |none => none
 |none,.store T x y => match L T with
  |some r => match s.ev x with
   |.ptr k gn i jj => match i with
    |0 => match s.own k with
     |(gn',some ⟨tc,sz,rows,kd⟩) => match rows,kd with
      |[row],2 => match (s.ev y).fz with
       |some v => match oneL s v.cells with
        |some Pr => some (s.setOwn k gn (some ⟨tc,sz,[splc row jj v.cells],2⟩),gn' = gn ∧ v.cells.length = r.size ∧ Nat.ble (jj + r.size) row.length = true ∧ Pr)
        |none => none
       |none => none
      |_,_ => none
     |(_,none) => none
    |_ => none
   |_ => none
  |none => none
 |some d,op => match qv L s op with
  |some (pv,Cd) => some (s.putR d pv,Cd)
  |none => none
 |none,_ => none
section
variable {P : Program} {L : Lay} {s s' : St} {ops : Array Oper} {K : St → Prop} {Q : Exit → St → Prop} {rest : List Oper}
theorem gB_yes {o : Oper} (h : gB ops s o.guard = some true) : Wants ops s o true := by
 cases hg : o.guard with
 |none => exact .none hg
 |some p =>
  obtain ⟨j,want⟩ := p
  rw [hg] at h
  simp only [gB] at h
  split at h
  ·rename_i e hd
   split at h
   ·rename_i b hr
    cases b <;> cases want <;> simp at h
    ·exact .yes hg hd hr
    ·exact .yes hg hd hr
   ·split at h
    ·split at h <;> cases h
    ·cases h
   ·cases h
  ·cases h
theorem gB_no {o : Oper} (h : gB ops s o.guard = some false) : Wants ops s o false := by
 cases hg : o.guard with
 |none => rw [hg] at h;cases h
 |some p =>
  obtain ⟨j,want⟩ := p
  rw [hg] at h
  simp only [gB] at h
  split at h
  ·rename_i e hd
   split at h
   ·rename_i b hr
    cases b <;> cases want <;> simp at h
    ·exact .no hg hd hr (by simp)
    ·exact .no hg hd hr (by simp)
   ·rename_i hr
    split at h
    ·split at h
     ·exact .junk hg hd hr
     ·cases h
    ·cases h
   ·cases h
  ·cases h
theorem sOp_ok {d : Option Nat} {op : Op} {Cd : Prop} {ty : TypeId} {pos : String} {af : Array Edge} {g : Option (Nat × Bool)} (h : sOp L s d op = some (s',Cd)) (hc : Cd) (hk : K s') : POp P L s ⟨d,op,ty,pos,af,g⟩ K := by
 unfold sOp at h
 split at h
 ·split at h
  ·rename_i hx hown
   split at h
   ·rename_i h1
    cases h
    exact o_box hx hown h1 hc.2 hc.1 hk
   ·cases h
  ·cases h
 ·split at h
  ·rename_i hr
   split at h
   ·rename_i hz hown
    cases h
    exact o_alloc hr hz hown hc hk
   ·cases h
  ·cases h
 ·split at h
  ·rename_i r hr
   split at h
   ·rename_i hx
    split at h
    ·split at h
     ·rename_i hown
      split at h
      ·split at h
       ·rename_i hv
        split at h
        ·rename_i h1
         cases h
         obtain ⟨c1,c2,c3,c4⟩ := hc
         subst c1
         exact o_store1 hr hx hown hv h1 c4 c2 c3 rfl hk
        ·cases h
       ·cases h
      ·cases h
     ·cases h
    ·cases h
   ·cases h
  ·cases h
 ·split at h
  ·rename_i hq
   cases h
   exact op_v hq hc hk
  ·cases h
 ·cases h
def stS (P : Program) (L : Lay) (ops : Array Oper) (K : St → Prop) : List Oper → St → Option (Prop × Prop)
 |[],s => some (True,K s)
 |o :: rest,s => match o with
  |⟨d,op,_,_,_,g⟩ => match gB ops s g with
   |some true => match sOp L s d op with
    |some (s',Cd) => some (Cd,POps P L ops K rest s')
    |none => none
   |some false => some (True,POps P L ops K rest (s.put d (.raw undef)))
   |none => none
theorem zs {l : List Oper} {Cd A : Prop} (h : stS P L ops K l s = some (Cd,A)) (hc : Cd) (k : A) : POps P L ops K l s := by
 cases l with
 |nil => cases h;exact k
 |cons o rest =>
  obtain ⟨d,op,ty,pos,af,g⟩ := o
  unfold stS at h
  dsimp only at h
  split at h
  ·rename_i hg
   split at h
   ·rename_i hs
    cases h
    exact .inl ⟨gB_yes hg,sOp_ok hs hc k⟩
   ·cases h
  ·rename_i hg
   cases h
   exact .inr ⟨gB_no hg,k⟩
  ·cases h
def stQ (P : Program) (L : Lay) (ops : Array Oper) (K : St → Prop) : List Oper → St → Option (Prop × Prop)
 |[],s => some (True,K s)
 |o :: rest,s => match o with
  |⟨d,op,_,_,_,g⟩ => match gB ops s g with
   |some true => match d with
    |some d => match qv L s op with
     |some (pv,Cd) => some (Cd,PQuiet P L ops K rest (s.putR d pv))
     |none => none
    |none => none
   |some false => some (True,PQuiet P L ops K rest (s.put d (.raw undef)))
   |none => none
theorem zq {l : List Oper} {Cd A : Prop} (h : stQ P L ops K l s = some (Cd,A)) (hc : Cd) (k : A) : PQuiet P L ops K l s := by
 cases l with
 |nil => cases h;exact k
 |cons o rest =>
  obtain ⟨d,op,ty,pos,af,g⟩ := o
  unfold stQ at h
  dsimp only at h
  split at h
  ·rename_i hg
   split at h
   ·split at h
    ·rename_i hs
     cases h
     exact .inl ⟨gB_yes hg,_,.v hs hc,k⟩
    ·cases h
   ·cases h
  ·rename_i hg
   cases h
   exact .inr ⟨gB_no hg,k⟩
  ·cases h
def stW (P : Program) (L : Lay) : Code → (Exit → St → Prop) → St → Option Prop
 |.skip,Q,s => some (Q .normal s)
 |.region _ ops false,Q,s => match ops with | ⟨l⟩ => some (POps P L ops (Q .normal) l s)
 |.seq x y,Q,s => some (PWP P L x (XThen (fun s' => PWP P L y Q s') Q) s)
 |.cond c x y,Q,s => match s.ev c with
  |.bool b => match b with
   |true => some (PWP P L x Q s)
   |false => some (PWP P L y Q s)
  |_ => none
 |.block id c,Q,s => some (PWP P L c (XBlock id Q) s)
 |.exit id,Q,s => some (Q (.exit id) s)
 |.ret,Q,s => some (Q .ret s)
 |_,_,_ => none
theorem zw {c : Code} {A : Prop} (h : stW P L c Q s = some A) (k : A) : PWP P L c Q s := by
 unfold stW at h
 split at h
 ·cases h;exact pw_skip k
 ·cases h;exact pw_region k
 ·cases h;exact k
 ·split at h
  ·rename_i hc
   split at h
   ·cases h;exact pw_true hc k
   ·cases h;exact pw_false hc k
  ·cases h
 ·cases h;exact k
 ·cases h;exact pw_exit k
 ·cases h;exact pw_ret k
 ·cases h
def stX (next : St → Prop) (Q : Exit → St → Prop) : Exit → St → Option Prop
 |.normal,s => some (next s)
 |.ret,s => some (Q .ret s)
 |.exit id,s => some (Q (.exit id) s)
 |_,_ => none
theorem zx {next : St → Prop} {e : Exit} {A : Prop} (h : stX next Q e s = some A) (k : A) : XThen next Q e s := by
 unfold stX at h
 split at h <;> cases h <;> exact k
def stB (id : Nat) (Q : Exit → St → Prop) : Exit → St → Option Prop
 |.normal,s => some (Q .normal s)
 |.ret,s => some (Q .ret s)
 |.exit id',s => match Nat.beq id' id with
  |true => some (Q .normal s)
  |false => some (Q (.exit id') s)
 |_,_ => none
theorem zb {id : Nat} {e : Exit} {A : Prop} (h : stB id Q e s = some A) (k : A) : XBlock id Q e s := by
 unfold stB at h
 split at h
 ·cases h;exact k
 ·cases h;exact k
 ·split at h
  ·rename_i he
   cases h
   have := Nat.eq_of_beq_eq_true he
   subst this
   exact xb_here k
  ·rename_i he
   cases h
   exact xb_away he k
 ·cases h
theorem zsq {d : Nat} {op : Op} {ty : TypeId} {pos : String} {af : Array Edge} {g : Option (Nat × Bool)} {pv : PV} (hg : gB ops s g = some true) (hq : QOp P L s ⟨some d,op,ty,pos,af,g⟩ pv) (k : POps P L ops K rest (s.putR d pv)) : POps P L ops K (⟨some d,op,ty,pos,af,g⟩ :: rest) s :=
 .inl ⟨gB_yes hg,op_q hq k⟩
theorem zqq {d : Nat} {op : Op} {ty : TypeId} {pos : String} {af : Array Edge} {g : Option (Nat × Bool)} {pv : PV} (hg : gB ops s g = some true) (hq : QOp P L s ⟨some d,op,ty,pos,af,g⟩ pv) (k : PQuiet P L ops K rest (s.putR d pv)) : PQuiet P L ops K (⟨some d,op,ty,pos,af,g⟩ :: rest) s :=
 .inl ⟨gB_yes hg,_,hq,k⟩
def isNx : Op → Bool
 |.next _ _ => true
 |_ => false
def st3 (P : Program) (L : Lay) (ops : Array Oper) (Z : List Nat) (cls : Nat → Bool) (K : St → Prop) (i : Nat) : List Oper → St → Option (Prop × Prop)
 |[],s => some (True,K s)
 |o :: rest,s => match o with
  |⟨d,op,_,_,_,g⟩ => match gB ops s g with
   |some true => match d with
    |some d => match cls i with
     |true => match qv L s op with
      |some (pv,Cd) => some (Cd,P3 P L ops Z cls K (i + 1) rest (s.putR d pv))
      |none => none
     |false => match qv L (s.erase Z) op with
      |some (pv,Cd) => some (Cd,P3 P L ops Z cls K (i + 1) rest (s.putR d pv))
      |none => none
    |none => none
   |some false => some (True,P3 P L ops Z cls K (i + 1) rest (s.put d (.raw undef)))
   |none => none
theorem z3 {Z : List Nat} {cls : Nat → Bool} {i : Nat} {l : List Oper} {Cd A : Prop} (h : st3 P L ops Z cls K i l s = some (Cd,A)) (hc : Cd) (k : A) : P3 P L ops Z cls K i l s := by
 cases l with
 |nil => cases h;exact k
 |cons o rest =>
  obtain ⟨d,op,ty,pos,af,g⟩ := o
  unfold st3 at h
  dsimp only at h
  split at h
  ·rename_i hg
   split at h
   ·rename_i dd
    split at h
    ·rename_i hcl
     split at h
     ·rename_i hs
      cases h
      refine ⟨_,?_,k⟩
      rw [hcl]
      exact Step3.quiet (o := ⟨some dd,op,ty,pos,af,g⟩) (gB_yes hg) (.v hs hc)
     ·cases h
    ·rename_i hcl
     split at h
     ·rename_i hs
      cases h
      refine ⟨_,?_,k⟩
      rw [hcl]
      exact Step3.free (o := ⟨some dd,op,ty,pos,af,g⟩) (gB_yes hg) (.v hs hc)
     ·cases h
   ·cases h
  ·rename_i hg
   cases h
   exact ⟨_,.no (gB_no hg),k⟩
  ·cases h
theorem z3q {Z : List Nat} {cls : Nat → Bool} {i d : Nat} {op : Op} {ty : TypeId} {pos : String} {af : Array Edge} {g : Option (Nat × Bool)} {pv : PV} (hg : gB ops s g = some true) (hc : cls i = false) (hq : QOp P L (s.erase Z) ⟨some d,op,ty,pos,af,g⟩ pv)
  (k : P3 P L ops Z cls K (i + 1) rest (s.putR d pv)) : P3 P L ops Z cls K i (⟨some d,op,ty,pos,af,g⟩ :: rest) s := by
 refine ⟨_,?_,k⟩
 rw [hc]
 exact Step3.free (o := ⟨some d,op,ty,pos,af,g⟩) (gB_yes hg) hq
theorem z3c {Z : List Nat} {cls : Nat → Bool} {i d : Nat} {op : Op} {ty : TypeId} {pos : String} {af : Array Edge} {g : Option (Nat × Bool)} {pv : PV} (hg : gB ops s g = some true) (hc : cls i = true) (hq : QOp P L s ⟨some d,op,ty,pos,af,g⟩ pv)
  (k : P3 P L ops Z cls K (i + 1) rest (s.putR d pv)) : P3 P L ops Z cls K i (⟨some d,op,ty,pos,af,g⟩ :: rest) s := by
 refine ⟨_,?_,k⟩
 rw [hc]
 exact Step3.quiet (o := ⟨some d,op,ty,pos,af,g⟩) (gB_yes hg) hq
theorem z3e {Z : List Nat} {cls : Nat → Bool} {i : Nat} {d : Option Nat} {op : Op} {ty : TypeId} {pos : String} {af : Array Edge} {g : Option (Nat × Bool)} (hg : gB ops s g = some true) (hc : cls i = true) (hn : isNx op = false)
  (h : POp P L s ⟨d,op,ty,pos,af,g⟩ (fun s' => (∀ k,zin Z k = false → s'.own k = s.own k) ∧ P3 P L ops Z cls K (i + 1) rest s')) : P3 P L ops Z cls K i (⟨d,op,ty,pos,af,g⟩ :: rest) s := by
 rcases h with ⟨pv,h1,h2⟩ | ⟨s',h1,h2⟩ | h1
 ·refine ⟨_,?_,h2.2⟩
  rw [hc]
  exact Step3.quiet (o := ⟨d,op,ty,pos,af,g⟩) (gB_yes hg) h1
 ·refine ⟨_,?_,h2.2⟩
  rw [hc]
  exact Step3.eff (o := ⟨d,op,ty,pos,af,g⟩) (gB_yes hg) h1 h2.1
 ·exfalso
  cases h1 with
  |next ho =>
   simp only at ho
   rw [ho] at hn
   cases hn
theorem offz {Z : List Nat} {k g d : Nat} {c : Option Cont} {v : PV} (hz : zin Z k = true) : ∀ q,zin Z q = false → ((s.setOwn k g c).putR d v).own q = s.own q := fun q hq => by
 have hne : q ≠ k := fun e => by rw [e,hz] at hq;cases hq
 show (bif Nat.beq q k then _ else s.own q) = _
 rw [nbeq_ne hne];rfl
def touch (s : St) : Option Nat → Op → Option Nat
 |some d,.box _ _ => some d
 |some d,.alloc _ => some d
 |none,.store _ x _ => match s.ev x with | .ptr k _ _ _ => some k | _ => none
 |_,_ => none
def st3e (P : Program) (L : Lay) (ops : Array Oper) (Z : List Nat) (cls : Nat → Bool) (K : St → Prop) (i : Nat) : List Oper → St → Option (Prop × Prop)
 |[],_ => none
 |o :: rest,s => match o with
  |⟨d,op,_,_,_,g⟩ => match gB ops s g,cls i,touch s d op,isNx op with
   |some true,true,some t,false => match zin Z t,sOp L s d op with
    |true,some (s',Cd) => some (Cd,P3 P L ops Z cls K (i + 1) rest s')
    |_,_ => none
   |_,_,_,_ => none
theorem touch_off {d : Option Nat} {op : Op} {t : Nat} {Cd : Prop} (ht : touch s d op = some t) (h : sOp L s d op = some (s',Cd)) : ∀ q,q ≠ t → s'.own q = s.own q := by
 intro q hq
 have one : ∀ (g : Nat) (c : Option Cont),(s.setOwn t g c).own q = s.own q := fun g c => by
  show (bif Nat.beq q t then _ else s.own q) = _
  rw [nbeq_ne hq];rfl
 unfold touch at ht
 split at ht
 ·cases ht
  unfold sOp at h
  dsimp only at h
  split at h
  ·split at h
   ·cases h;exact one _ _
   ·cases h
  ·cases h
 ·cases ht
  unfold sOp at h
  dsimp only at h
  split at h
  ·split at h
   ·cases h;exact one _ _
   ·cases h
  ·cases h
 ·split at ht
  ·rename_i hx
   cases ht
   unfold sOp at h
   dsimp only at h
   split at h
   ·rw [hx] at h
    dsimp only at h
    split at h
    ·split at h
     ·split at h
      ·split at h
       ·split at h
        ·cases h;exact one _ _
        ·cases h
       ·cases h
      ·cases h
     ·cases h
    ·cases h
   ·cases h
  ·cases ht
 ·cases ht
theorem z3s {Z : List Nat} {cls : Nat → Bool} {i : Nat} {l : List Oper} {Cd A : Prop} (h : st3e P L ops Z cls K i l s = some (Cd,A)) (hc : Cd) (k : A) : P3 P L ops Z cls K i l s := by
 cases l with
 |nil => cases h
 |cons o rest =>
  obtain ⟨d,op,ty,pos,af,g⟩ := o
  unfold st3e at h
  dsimp only at h
  split at h
  ·rename_i hg hcl ht hn
   split at h
   ·rename_i hz hs
    cases h
    exact z3e hg hcl hn (sOp_ok hs hc ⟨fun q hq => touch_off ht hs q (fun e => by rw [e,hz] at hq;cases hq),k⟩)
   ·cases h
  ·cases h
theorem p3_split {Z : List Nat} {cls : Nat → Bool} {i d e j : Nat} {op : Op} {ty : TypeId} {pos : String} {af : Array Edge} {want b : Bool} (_hd : (ops[j]?).bind (·.dst) = some e) (hr : s.reg e = .bool b)
  (h1 : b = true → P3 P L ops Z cls K i (⟨some d,op,ty,pos,af,some (j,want)⟩ :: rest) (s.putR e (.bool true))) (h0 : b = false → P3 P L ops Z cls K i (⟨some d,op,ty,pos,af,some (j,want)⟩ :: rest) (s.putR e (.bool false))) :
  P3 P L ops Z cls K i (⟨some d,op,ty,pos,af,some (j,want)⟩ :: rest) s := by
 have := putR_same hr
 cases b
 ·rw [← this];exact h0 rfl
 ·rw [← this];exact h1 rfl
class Nx (G : Prop) where
 nx : Option (Prop × Prop)
 ok : ∀ Cd A,nx = some (Cd,A) → Cd → A → G
theorem stp {G : Prop} [i : Nx G] {Cd A : Prop} (h : i.nx = some (Cd,A)) (hc : Cd) (k : A) : G := i.ok Cd A h hc k
instance {l : List Oper} : Nx (POps P L ops K l s) := ⟨stS P L ops K l s,fun _ _ h hc k => zs h hc k⟩
instance {l : List Oper} : Nx (PQuiet P L ops K l s) := ⟨stQ P L ops K l s,fun _ _ h hc k => zq h hc k⟩
def or3 (a b : Option (Prop × Prop)) : Option (Prop × Prop) := match a with
 |some x => some x
 |none => b
instance {Z : List Nat} {cls : Nat → Bool} {i : Nat} {l : List Oper} : Nx (P3 P L ops Z cls K i l s) := ⟨or3 (st3 P L ops Z cls K i l s) (st3e P L ops Z cls K i l s),fun _ _ h hc k => by
 unfold or3 at h
 split at h
 ·cases h;exact z3 ‹_› hc k
 ·exact z3s h hc k⟩
def tr1 : Option Prop → Option (Prop × Prop)
 |some A => some (True,A)
 |none => none
theorem tr1_spec {a : Option Prop} {Cd A : Prop} (h : tr1 a = some (Cd,A)) : a = some A := by
 unfold tr1 at h
 split at h
 ·cases h;rfl
 ·cases h
instance {c : Code} : Nx (PWP P L c Q s) := ⟨tr1 (stW P L c Q s),fun _ _ h _ k => zw (tr1_spec h) k⟩
instance {next : St → Prop} {e : Exit} : Nx (XThen next Q e s) := ⟨tr1 (stX next Q e s),fun _ _ h _ k => zx (tr1_spec h) k⟩
instance {id : Nat} {e : Exit} : Nx (XBlock id Q e s) := ⟨tr1 (stB id Q e s),fun _ _ h _ k => zb (tr1_spec h) k⟩
def fd1 (b : Bool) (A : Prop) : Option (Prop × Prop) := match b with
 |true => some (True,A)
 |false => none
instance {nm : Nat} {F : List Nat} {G : Prop} : Nx (FD ops nm F s = true ∧ G) := ⟨fd1 (FD ops nm F s) G,fun _ _ h _ k => by
 unfold fd1 at h
 split at h
 ·cases h;exact ⟨‹_›,k⟩
 ·cases h⟩
class Qx (G : Prop) (P : outParam Program) (L : outParam Lay) (s : outParam St) (ops : outParam (Array Oper)) (l : outParam (List Oper)) (K : outParam (List Oper → Nat → PV → Prop)) where
 ok : ∀ (d : Nat) (op : Op) (ty : TypeId) (pos : String) (af : Array Edge) (g : Option (Nat × Bool)) (rest : List Oper) (pv : PV),l = ⟨some d,op,ty,pos,af,g⟩ :: rest → gB ops s g = some true → QOp P L s ⟨some d,op,ty,pos,af,g⟩ pv → K rest d pv → G
instance {l : List Oper} : Qx (POps P L ops K l s) P L s ops l (fun rest d pv => POps P L ops K rest (s.putR d pv)) :=
 ⟨fun _ _ _ _ _ _ _ _ hl hg hq k => by subst hl;exact zsq hg hq k⟩
instance {l : List Oper} : Qx (PQuiet P L ops K l s) P L s ops l (fun rest d pv => PQuiet P L ops K rest (s.putR d pv)) :=
 ⟨fun _ _ _ _ _ _ _ _ hl hg hq k => by subst hl;exact zqq hg hq k⟩
def St.era (Z : List Nat) (c : Bool) (s : St) : St := match c with
 |true => s
 |false => s.erase Z
theorem gB_era {Z : List Nat} {c : Bool} {g : Option (Nat × Bool)} : gB ops (s.era Z c) g = gB ops s g := by cases c <;> rfl
instance {Z : List Nat} {cls : Nat → Bool} {i : Nat} {l : List Oper} : Qx (P3 P L ops Z cls K i l s) P L (s.era Z (cls i)) ops l (fun rest d pv => P3 P L ops Z cls K (i + 1) rest (s.putR d pv)) :=
 ⟨fun _ _ _ _ _ _ _ _ hl hg hq k => by
  subst hl
  rw [gB_era] at hg
  cases hc : cls i with
  |true => rw [hc] at hq;exact z3c hg hc hq k
  |false => rw [hc] at hq;exact z3q hg hc hq k⟩
theorem qst {G : Prop} {P : Program} {L : Lay} {s : St} {ops : Array Oper} {l : List Oper} {K : List Oper → Nat → PV → Prop} [i : Qx G P L s ops l K] {d : Nat} {op : Op} {ty : TypeId} {pos : String} {af : Array Edge} {g : Option (Nat × Bool)} {rest : List Oper} {pv : PV}
  (hl : l = ⟨some d,op,ty,pos,af,g⟩ :: rest) (hb : gB ops s g = some true) (hq : QOp P L s ⟨some d,op,ty,pos,af,g⟩ pv) (k : K rest d pv) : G := i.ok d op ty pos af g rest pv hl hb hq k
end
theorem stq {G : Prop} [i : Nx G] {Cd A : Prop} (h : i.nx = some (Cd,A)) (k : A) (hc : Cd := by ((repeat' constructor);first|done|fail)) : G := stp h hc k
theorem stx {G : Prop} [i : Nx G] {Cd A : Prop} (h : i.nx = some (Cd,A)) (k : A) (hc : Cd := by ((repeat' (first|exact True.intro|exact rfl|refine And.intro ?_ ?_));first|done|fail)) : G := stp h hc k
theorem pw_no {P : Program} {L : Lay} {Q : Exit → St → Prop} {s : St} {c : Operand} {x y : Code} {b : Bool} (hc : s.ev c = .bool b) (h2 : PWP P L y Q s) (h : ¬ b = true := by intro hA;simp only [decide_eq_true_eq,decide_eq_false_iff_not,Bool.not_eq_true',Bool.not_eq_false'] at hA;omega) : PWP P L (.cond c x y) Q s := pw_cond hc (fun hA => absurd hA h) fun _ => h2
theorem pw_yes {P : Program} {L : Lay} {Q : Exit → St → Prop} {s : St} {c : Operand} {x y : Code} {b : Bool} (hc : s.ev c = .bool b) (h2 : PWP P L x Q s) (h : ¬ b = false := by intro hA;simp only [decide_eq_true_eq,decide_eq_false_iff_not,Bool.not_eq_true',Bool.not_eq_false'] at hA;omega) : PWP P L (.cond c x y) Q s := pw_cond hc (fun _ => h2) fun hA => absurd hA h
theorem q_cp {P : Program} {L : Lay} {s : St} {d : Nat} {ty : TypeId} {pos : String} {af : Array Edge} {g : Option (Nat × Bool)} {fop : Operand} {args : Array Operand} {tys : Array TypeId} {f : FuncId} {caps pargs : List PV} {Cd : Prop} {b : Fl} {rr rf : PV} (hf : s.ev fop = .clo f caps) (hret : Ret P .shared f pargs rr) (hres : resL (res s 4) (args.toList.map s.ev ++ caps) = some (pargs,Cd,b)) (hfl : rr.flat = true) (hrf : rr.frs.fz = some rf) (hc : Cd := by ((repeat' constructor);first|done|fail)) : QOp P L s ⟨some d,.call ⟨.value fop,args,tys⟩,ty,pos,af,g⟩ rf := q_callP hf hret hres hc hfl hrf
theorem q_cf {P : Program} {L : Lay} {s : St} {d : Nat} {ty : TypeId} {pos : String} {af : Array Edge} {g : Option (Nat × Bool)} {fop : Operand} {args : Array Operand} {tys : Array TypeId} {f : FuncId} {caps pargs : List PV} {Cd : Prop} {b : Fl} {rr rf : PV} (hf : s.ev fop = .clo f caps) (hret : Ret P .fresh f pargs rr) (hres : resL (res s 4) (args.toList.map s.ev ++ caps) = some (pargs,Cd,b)) (hrf : rr.frs.fz = some rf) (hc : Cd := by ((repeat' constructor);first|done|fail)) : QOp P L s ⟨some d,.call ⟨.value fop,args,tys⟩,ty,pos,af,g⟩ rf := q_callF hf hret hres hc hrf
theorem q_cs {P : Program} {L : Lay} {s : St} {d : Nat} {ty : TypeId} {pos : String} {af : Array Edge} {g : Option (Nat × Bool)} {fop : Operand} {args : Array Operand} {tys : Array TypeId} {f : FuncId} {caps pargs : List PV} {Cd : Prop} {b : Fl} {rr : PV} (hf : s.ev fop = .clo f caps) (hret : Ret P .shared f pargs rr) (hres : resL (res s 4) (args.toList.map s.ev ++ caps) = some (pargs,Cd,b)) (hb : b.cl = true) (hc : Cd := by ((repeat' constructor);first|done|fail)) : QOp P L s ⟨some d,.call ⟨.value fop,args,tys⟩,ty,pos,af,g⟩ rr := q_call hf hret hres hc hb
end Go.Pv


set_option maxHeartbeats 2000000
namespace Go.Pv
attribute [local irreducible] PWP POps PQuiet PSem XThen XBlock RetPost InlPost
open Go.Proofs
abbrev Str := List UInt8
abbrev I (n : Int) : PV := .int .i64 n
theorem endc {L : Lay} {s : St} {fn : Func} {r v d : PV} {t : Nat} {T : TypeId} {A Cd : Prop} {fl : Fl} (h : fn.results.toList = [.cell t T]) (hq : qv L s (.load T (.tmp t)) = some (v,A)) (ha : A) (hres : res s 5 v = some (d,Cd,fl)) (hc : Cd) (hd : d = r) : RetPost L fn .shared r .ret s := by
 unfold RetPost
 refine ⟨[v],A ∧ True,d,Cd,fl,?_,⟨ha,trivial⟩,hres,hc,trivial,hd⟩
 rw [h]
 show (match rv L s (.cell t T) with | some (v,A) => (match rvs L s [] with | some (vs,B) => some (v :: vs,A ∧ B) | none => none) | none => none) = _
 rw [show rv L s (.cell t T) = some (v,A) from hq];rfl
def idx {α : Type} (l : List α) (p : α → Bool) : Int := match l.findIdx? p with | some i => i | none => -1
theorem idx_found {α : Type} {l : List α} {p : α → Bool} {i : Nat} {a : α} (h : l[i]? = some a) (hp : p a = true) (hn : ∀ j b,j < i → l[j]? = some b → p b = false) : idx l p = i := by
 have : l.findIdx? p = some i := by
  rw [List.findIdx?_eq_some_iff_getElem]
  obtain ⟨hi,he⟩ := List.getElem?_eq_some_iff.1 h
  refine ⟨hi,by rw [he];exact hp,fun j hj => ?_⟩
  have := hn j l[j] hj (List.getElem?_eq_getElem _)
  simp [this]
 simp [idx,this]
theorem idx_none {α : Type} {l : List α} {p : α → Bool} (hn : ∀ (j : Nat) b,l[j]? = some b → p b = false) : idx l p = -1 := by
 have : l.findIdx? p = none := by
  rw [List.findIdx?_eq_none_iff]
  intro x hx
  obtain ⟨j,hj,rfl⟩ := List.getElem_of_mem hx
  exact hn j _ (List.getElem?_eq_getElem hj)
 simp [idx,this]
def Clear {α : Type} (l : List α) (p : α → Bool) (k : Nat) : Prop := k ≤ l.length ∧ ∀ j b,j < k → l[j]? = some b → p b = false
theorem Clear.zero {α : Type} {l : List α} {p : α → Bool} : Clear l p 0 := ⟨Nat.zero_le _,fun j b h => by omega⟩
theorem Clear.succ {α : Type} {l : List α} {p : α → Bool} {k : Nat} {x : α} (h : Clear l p k) (hx : l[k]? = some x) (hp : p x = false) : Clear l p (k + 1) := by
 have := (List.getElem?_eq_some_iff.1 hx).1
 refine ⟨this,fun j b hj hb => ?_⟩
 rcases Nat.lt_or_ge j k with hlt | hge
 ·exact h.2 j b hlt hb
 ·have : j = k := by omega
  subst this;rw [hx] at hb;cases hb;exact hp
theorem Clear.found {α : Type} {l : List α} {p : α → Bool} {k : Nat} {x : α} (h : Clear l p k) (hx : l[k]? = some x) (hp : p x = true) : idx l p = k := idx_found hx hp h.2
theorem Clear.all {α : Type} {l : List α} {p : α → Bool} {k : Nat} (h : Clear l p k) (hk : ¬ k < l.length) : ∀ (j : Nat) b,l[j]? = some b → p b = false :=
 fun j b hb => h.2 j b (by have := (List.getElem?_eq_some_iff.1 hb).1;have := h.1;omega) hb
theorem Clear.none {α : Type} {l : List α} {p : α → Bool} {k : Nat} (h : Clear l p k) (hk : ¬ k < l.length) : idx l p = -1 := idx_none (h.all hk)
theorem Clear.any {α : Type} {l : List α} {p : α → Bool} {k : Nat} (h : Clear l p k) (hk : ¬ k < l.length) : l.any p = false := by
 rw [List.any_eq_false]
 intro x hx
 obtain ⟨j,hj,rfl⟩ := List.getElem_of_mem hx
 simp [h.all hk j _ (List.getElem?_eq_getElem hj)]
theorem any_of {α : Type} {l : List α} {p : α → Bool} {k : Nat} {x : α} (hx : l[k]? = some x) (hp : p x = true) : l.any p = true :=
 List.any_eq_true.2 ⟨x,List.mem_of_getElem? hx,hp⟩
theorem idx_nonneg {α : Type} (l : List α) (p : α → Bool) : decide (0 ≤ idx l p) = l.any p := by
 unfold idx
 cases h : l.findIdx? p with
 |none =>
  rw [List.findIdx?_eq_none_iff] at h
  have : l.any p = false := by rw [List.any_eq_false];intro x hx;simp [h x hx]
  simp [this]
 |some i =>
  rw [List.findIdx?_eq_some_iff_getElem] at h
  obtain ⟨hi,h1,_⟩ := h
  have : l.any p = true := List.any_eq_true.2 ⟨l[i],by simp,h1⟩
  simp [this]
theorem idx_lt {α : Type} {l : List α} {p : α → Bool} (h : 0 ≤ idx l p) : ∃ x,l[(idx l p).toNat]? = some x ∧ p x = true := by
 unfold idx at *
 cases hf : l.findIdx? p with
 |none => rw [hf] at h;simp at h
 |some i =>
  rw [List.findIdx?_eq_some_iff_getElem] at hf
  obtain ⟨hi,h1,_⟩ := hf
  exact ⟨l[i],by simp [hi],h1⟩
def fstE {α : Type} : List α → (Nat → α → Int) → Int
 |[],_ => 0
 |a :: l,f => if f 0 a = 0 then fstE l (fun i => f (i + 1)) else f 0 a
theorem fstE_found {α : Type} : ∀ {l : List α} {f : Nat → α → Int} {i : Nat} {a : α},l[i]? = some a → f i a ≠ 0 → (∀ j b,j < i → l[j]? = some b → f j b = 0) → fstE l f = f i a
 |[],f,i,a,h,_,_ => by simp at h
 |b :: l,f,0,a,h,he,_ => by
  simp at h;subst h
  simp [fstE,he]
 |b :: l,f,i + 1,a,h,he,hn => by
  have h0 := hn 0 b (by omega) rfl
  rw [fstE,if_pos h0]
  exact fstE_found (f := fun i => f (i + 1)) (by simpa using h) he fun j c hj hc => hn (j + 1) c (by omega) (by simpa using hc)
theorem fstE_none {α : Type} : ∀ {l : List α} {f : Nat → α → Int},(∀ (j : Nat) b,l[j]? = some b → f j b = 0) → fstE l f = 0
 |[],f,_ => rfl
 |b :: l,f,hn => by
  rw [fstE,if_pos (hn 0 b rfl)]
  exact fstE_none fun j c hc => hn (j + 1) c (by simpa using hc)
theorem fstE_zero {α : Type} : ∀ {l : List α} {f : Nat → α → Int},fstE l f = 0 → ∀ (j : Nat) b,l[j]? = some b → f j b = 0
 |[],f,_,j,b,h => by simp at h
 |a :: l,f,h,j,b,hb => by
  rw [fstE] at h
  split at h
  ·rename_i hz
   cases j with
   |zero => simp at hb;subst hb;exact hz
   |succ j => exact fstE_zero h j b (by simpa using hb)
  ·contradiction
def ClearE {α : Type} (l : List α) (f : Nat → α → Int) (k : Nat) : Prop := k ≤ l.length ∧ ∀ j b,j < k → l[j]? = some b → f j b = 0
theorem ClearE.zero' {α : Type} {l : List α} {p : Nat → α → Int} : ClearE l p 0 := ⟨Nat.zero_le _,fun j b h => by omega⟩
theorem ClearE.succ {α : Type} {l : List α} {p : Nat → α → Int} {k : Nat} {x : α} (h : ClearE l p k) (hx : l[k]? = some x) (hp : p k x = 0) : ClearE l p (k + 1) := by
 have := (List.getElem?_eq_some_iff.1 hx).1
 refine ⟨this,fun j b hj hb => ?_⟩
 rcases Nat.lt_or_ge j k with hlt | hge
 ·exact h.2 j b hlt hb
 ·have : j = k := by omega
  subst this;rw [hx] at hb;cases hb;exact hp
theorem ClearE.found {α : Type} {l : List α} {p : Nat → α → Int} {k : Nat} {x : α} {e : Int} (h : ClearE l p k) (hx : l[k]? = some x) (hp : p k x = e) (he : e ≠ 0) : fstE l p = e := by
 subst hp;exact fstE_found hx he h.2
theorem ClearE.none {α : Type} {l : List α} {p : Nat → α → Int} {k : Nat} (h : ClearE l p k) (hk : ¬ k < l.length) : fstE l p = 0 :=
 fstE_none fun j b hb => h.2 j b (by have := (List.getElem?_eq_some_iff.1 hb).1;have := h.1;omega) hb
theorem take_snoc {α : Type} {l : List α} {k : Nat} {x : α} (hx : l[k]? = some x) : l.take (k + 1) = l.take k ++ [x] := by
 rw [List.take_add_one,hx];rfl
def letter (c : UInt8) : Bool := (decide (97 ≤ (c.toNat : Int)) && decide ((c.toNat : Int) ≤ 122)) || (decide (65 ≤ (c.toNat : Int)) && decide ((c.toNat : Int) ≤ 90))
def badc (i : Nat) (c : UInt8) : Bool := !letter c && (decide ((i : Int) = 0) || (!decide ((c.toNat : Int) = 45) && (decide ((c.toNat : Int) < 48) || decide (57 < (c.toNat : Int)))))
def badE (i : Nat) (c : UInt8) : Int := if badc i c then 1 else 0
def isName (s : Str) : Bool := decide (1 ≤ s.length) && decide (s.length ≤ 12) && decide (fstE s badE = 0)
theorem als_snoc {α : Type} (e : α → List PV) (k g : Nat) (l : List α) (a : α) : PV.als k (g + l.length + 1) 0 (l.map e ++ [e a]).length = PV.als k (g + (l ++ [a]).length) 0 ((l ++ [a]).map e).length := by simp [Nat.add_assoc]
theorem cont_snoc {α : Type} (e : α → List PV) (g T sz kd : Nat) (l : List α) (a : α) : (g + l.length + 1,some (Cont.mk T sz (l.map e ++ [e a]) kd)) = (g + (l ++ [a]).length,some (Cont.mk T sz ((l ++ [a]).map e) kd)) := by simp [Nat.add_assoc]
structure SPost where
 op : Int
 day : Int
 order : Str
 item : Str
 ship : Str
 who : Str
 amount : Int
 ref : Int
 role : Int
 deriving DecidableEq,Inhabited
def eS (s : Str) : List PV := [.str s]
def eI (n : Int) : List PV := [I n]
def ePost (p : SPost) : List PV := [I p.op,I p.day,.str p.order,.str p.item,.str p.ship,.str p.who,I p.amount,I p.ref,I p.role]
def ordNo (l : List SPost) (nm : Str) : Int := idx l (fun p => decide (p.op = 0) && decide (p.order = nm)) + 1
def itmNo (l : List SPost) (o nm : Str) : Int := idx l (fun p => decide (p.op = 1) && decide (p.order = o) && decide (p.item = nm)) + 1
def supNo (l : List SPost) (p : SPost) : Int :=
 if p.op = 1 ∨ p.op = 6 ∨ p.op = 7 then ordNo l p.order else if p.op = 2 ∨ p.op = 3 then itmNo l p.order p.item else if p.op = 4 ∨ p.op = 5 then p.ref else 0
def entL (l : List SPost) (n : Int) : SPost := l.getD (n - 1).toNat default
def goneB (l : List SPost) (n : Int) : Bool := l.any fun p => decide (p.op = 8) && decide (p.ref = n)
def liveF (l : List SPost) : Nat → Int → Bool
 |0,_ => true
 |f + 1,n => if n ≤ 0 then true else !goneB l n && liveF l f (supNo l (entL l n))
def liveB (l : List SPost) (n : Int) : Bool := liveF l n.toNat n
structure Wf (l : List SPost) : Prop where
 sup : ∀ (i : Nat) p,l[i]? = some p → 0 ≤ supNo l p ∧ supNo l p ≤ i
 len : l.length ≤ 400
end Go.Pv


set_option maxHeartbeats 2000000
namespace Go.Pv
attribute [local irreducible] PWP POps PQuiet PSem XThen XBlock RetPost InlPost
open Go.Proofs
def eB (c : UInt8) : List PV := [.int .u8 c.toNat]
def inside (n lo hi : Int) : Bool := decide (lo ≤ n) && decide (n ≤ hi)
theorem between_ret (n lo hi : Int) : Ret Tryz.prog .shared 67 [I n,I lo,I hi] (.bool (inside n lo hi)) := by
 refine Ret.of_pwp layOk mixed Go.Proofs.Tryz.func67 rfl (by decide) rfl rfl ?_
 repeat refine stq rfl ?_
 (first|refine ps_split rfl rfl ?_ ?_|refine pq_split rfl rfl ?_ ?_|refine p3_split rfl rfl ?_ ?_)<;>intro h
 ·repeat refine stq rfl ?_
  exact end1b rfl rfl (by simp [inside,of_decide_eq_true h])
 ·repeat refine stq rfl ?_
  exact end1b rfl rfl (by simp [inside,h])
theorem within_ret (n lo hi : Int) : Ret Tryz.prog .shared 69 [I n,I lo,I hi] (.bool (inside n lo hi)) := by
 refine Ret.of_pwp layOk mixed Go.Proofs.Tryz.func69 rfl (by decide) rfl rfl ?_
 repeat refine stq rfl ?_
 (first|refine ps_split rfl rfl ?_ ?_|refine pq_split rfl rfl ?_ ?_|refine p3_split rfl rfl ?_ ?_)<;>intro h
 ·repeat refine stq rfl ?_
  exact end1b rfl rfl (by simp [inside,of_decide_eq_true h])
 ·repeat refine stq rfl ?_
  exact end1b rfl rfl (by simp [inside,h])
theorem index_ret (l : List Int) (n : Int) (hl : l.length ≤ 1000000) : Ret Tryz.prog .shared 175 [.sl (l.map eI),I n] (I (idx l (· == n))) := by
 have hll : ((l.map eI).length : Int) = l.length := by simp
 refine Ret.of_pwp layOk mixed Go.Proofs.Tryz.func175 rfl (by decide) rfl rfl ?_
 repeat refine stq rfl ?_
 refine pw_loop (Clear l (· == n)) (fun k => [(0,.sl (l.map eI)),(1,I n),(7,I (l.map eI).length),(8,I k)]) (fun _ => []) (fun k => l.length - k) 0 .zero ⟨rfl,rfl,rfl,rfl,trivial⟩ ?_
 intro k s hk
 repeat refine stq rfl ?_
 refine pw_cond rfl (fun h => ?_) (fun h => ?_)
 ·have hlt : k < l.length := by simpa using h
  obtain ⟨x,hx⟩ := get_lt hlt
  repeat refine stq rfl ?_
  refine qst rfl rfl (q_idxm rfl rfl rfl rfl rfl (by omega) hx rfl) ?_
  repeat refine stq rfl ?_
  refine pw_cond rfl (fun h => ?_) (fun h => ?_)
  ·repeat refine stq rfl ?_
   exact end1i rfl rfl (by rw [hk.found hx (by have := of_decide_eq_true h;simp [this])])
  ·repeat refine stq rfl ?_
   refine ⟨k + 1,hk.succ hx (by have := of_decide_eq_false h;simp;exact fun e => this e.symm),by omega,rfl,rfl,rfl,?_,trivial⟩
   exact i64_next (by omega) (by omega)
 ·repeat refine stq rfl ?_
  exact end1i rfl rfl (by rw [hk.none (by simpa using h)])
theorem contains_ret (l : List Int) (n : Int) (hl : l.length ≤ 1000000) : Ret Tryz.prog .shared 147 [.sl (l.map eI),I n] (.bool (l.any (· == n))) := by
 have h1 := index_ret l n hl
 refine Ret.of_pwp layOk mixed Go.Proofs.Tryz.func147 rfl (by decide) rfl rfl ?_
 repeat refine stq rfl ?_
 refine qst rfl rfl (q_cp rfl h1 rfl rfl rfl) ?_
 repeat refine stq rfl ?_
 exact end1b rfl rfl (by rw [idx_nonneg])
theorem isName_ret (s : Str) : Ret Tryz.prog .shared 68 [.str s] (.bool (isName s)) := by
 have h1 := between_ret s.length 1 12
 have hin : inside s.length 1 12 = (decide (1 ≤ s.length) && decide (s.length ≤ 12)) := by
  have e1 : (1 ≤ (s.length : Int)) = (1 ≤ s.length) := by simp only [eq_iff_iff];omega
  have e2 : ((s.length : Int) ≤ 12) = (s.length ≤ 12) := by simp only [eq_iff_iff];omega
  simp only [inside,e1,e2]
 refine Ret.of_pwp layOk mixed Go.Proofs.Tryz.func68 rfl (by decide) rfl rfl ?_
 repeat refine stq rfl ?_
 refine qst rfl rfl (q_cp rfl h1 rfl rfl rfl) ?_
 repeat refine stq rfl ?_
 refine pw_cond rfl (fun h => ?_) (fun h => ?_)
 ·repeat refine stq rfl ?_
  have h' : inside s.length 1 12 = false := by simpa using h
  exact end1b rfl rfl (by rw [isName,← hin,h'];rfl)
 have h' : inside s.length 1 12 = true := by simpa using h
 have hb : s.length ≤ 12 := by simp [inside] at h';omega
 have hll : ((s.map eB).length : Int) = s.length := by simp
 have hin' := hin
 rw [h'] at hin'
 clear hin h1
 repeat refine stq rfl ?_
 refine qst rfl rfl (q_s2b rfl rfl rfl rfl rfl rfl) ?_
 repeat refine stq rfl ?_
 refine pw_loop (ClearE s badE) (fun k => [(11,.fsl (s.map eB)),(12,I (s.map eB).length),(13,I k)]) (fun _ => []) (fun k => s.length - k) 0 .zero' ⟨rfl,rfl,rfl,trivial⟩ ?_
 intro k st hk
 have hkl := hk.1
 repeat refine stq rfl ?_
 refine pw_cond rfl (fun h => ?_) (fun h => ?_)
 ·have hlt : k < s.length := by simpa using h
  obtain ⟨x,hx⟩ := get_lt hlt
  have hkb : k < 12 := by omega
  clear h
  repeat refine stq rfl ?_
  refine qst rfl rfl (q_idxmF rfl rfl rfl rfl rfl (by omega) hx rfl) ?_
  repeat (refine stp rfl ?_ ?_;· repeat' constructor)
  refine ps_cut 100 [(3,I k),(4,.int .u8 x.toNat),(5,.bool (letter x)),(11,.fsl (s.map eB)),(12,I (s.map eB).length),(13,I k)] [] ?_ ?_
  ·clear hin' h' hll hb
   repeat' (first|refine stq rfl ?_|refine ps_split rfl rfl (fun h => ?_) (fun h => ?_)|refine pq_split rfl rfl (fun h => ?_) (fun h => ?_)|refine p3_split rfl rfl (fun h => ?_) (fun h => ?_))
   all_goals exact ⟨rfl,rfl,(congrArg PV.bool (by clear hk hx;simp_all [letter] <;> omega)),rfl,rfl,rfl,trivial⟩
  clear hin' h' hll hb
  intro s
  repeat' (first|refine stq rfl ?_|refine ps_split rfl rfl (fun h => ?_) (fun h => ?_)|refine pq_split rfl rfl (fun h => ?_) (fun h => ?_)|refine p3_split rfl rfl (fun h => ?_) (fun h => ?_))
  all_goals try (refine pw_cond rfl (fun hc => ?_) (fun hc => ?_))
  all_goals repeat refine stq rfl ?_
  all_goals first
   |(refine end1b rfl rfl ?_
     have hb : badE k x = 1 := by simp_all [badE,badc] <;> omega
     have := hk.found hx hb (by omega)
     simp [isName,this])
   |(refine ⟨k + 1,hk.succ hx (by simp_all [badE,badc] <;> omega),by omega,rfl,rfl,?_,trivial⟩
     exact i64_next (by omega) (by omega))
 ·repeat refine stq rfl ?_
  exact end1b rfl rfl (by rw [isName,← hin',hk.none (by simpa using h)];rfl)
theorem isName_ref (l : Str) : Ret Tryz.prog .shared 70 [.str l] (.bool (isName l)) := by
 refine Ret.of_pwp layOk mixed Go.Proofs.Tryz.func70 rfl (by decide) rfl rfl ?_
 repeat' (first|refine stq rfl ?_|refine ps_split rfl rfl (fun h => ?_) (fun h => ?_)|refine pq_split rfl rfl (fun h => ?_) (fun h => ?_)|refine p3_split rfl rfl (fun h => ?_) (fun h => ?_))
 ·have := of_decide_eq_true h
  exact end1b rfl rfl (by simp [isName];omega)
 have h1 := of_decide_eq_false h
 refine pw_cond rfl (fun h => ?_) (fun h => ?_)
 ·have := of_decide_eq_true h
  repeat refine stq rfl ?_
  exact end1b rfl rfl (by simp [isName];omega)
 have h2 := of_decide_eq_false h
 repeat refine stq rfl ?_
 refine pw_loop (ClearE l badE) (fun k => [(0,.str l),(3,I k)]) (fun _ => []) (fun k => l.length - k) 0 .zero' ⟨rfl,rfl,trivial⟩ ?_
 intro k s hk
 repeat refine stq rfl ?_
 refine pw_cond rfl (fun h => ?_) (fun h => ?_)
 ·have hlt : k < l.length := by simpa using h
  obtain ⟨x,hx⟩ := get_lt hlt
  have hget : l.getD k 0 = x := by rw [List.getD_eq_getElem?_getD,hx];rfl
  repeat refine stq rfl ?_
  refine ps_v rfl ⟨by omega,by omega⟩ ?_
  have hn : ((l.getD (Int.toNat (k : Int)) 0).toNat : Int) = x.toNat := by rw [Int.toNat_natCast,hget]
  rw [hn]
  have hkb : k < 12 := by omega
  clear h hn h1 h2
  refine ps_v rfl trivial ?_
  ((repeat (first | refine ps_nil ?_ | refine pq_nil ?_ | refine x_norm ?_ | refine pw_seq ?_));refine pw_region ?_)
  refine ps_cut 100 [(0,.str l),(3,I k),(4,.int .u8 x.toNat),(5,.bool (letter x))] [] ?_ ?_
  ·repeat' (first|refine stq rfl ?_|refine ps_split rfl rfl (fun h => ?_) (fun h => ?_)|refine pq_split rfl rfl (fun h => ?_) (fun h => ?_)|refine p3_split rfl rfl (fun h => ?_) (fun h => ?_))
   all_goals exact ⟨rfl,rfl,rfl,(congrArg PV.bool (by simp_all [letter] <;> omega)),trivial⟩
  intro s
  repeat' (first|refine stq rfl ?_|refine ps_split rfl rfl (fun h => ?_) (fun h => ?_)|refine pq_split rfl rfl (fun h => ?_) (fun h => ?_)|refine p3_split rfl rfl (fun h => ?_) (fun h => ?_))
  all_goals try (refine pw_cond rfl (fun hc => ?_) (fun hc => ?_))
  all_goals repeat refine stq rfl ?_
  all_goals first
   |(refine end1b rfl rfl ?_
     have hb : badE k x = 1 := by simp_all [badE,badc] <;> omega
     have := hk.found hx hb (by omega)
     simp [isName,this])
   |(refine ⟨k + 1,hk.succ hx (by simp_all [badE,badc] <;> omega),by omega,rfl,?_,trivial⟩
     exact i64_next (by omega) (by omega))
 ·repeat refine stq rfl ?_
  exact end1b rfl rfl (by simp only [isName,hk.none (by simpa using h)];simp;omega)
end Go.Pv


set_option maxHeartbeats 2000000
namespace Go.Pv
attribute [local irreducible] PWP POps PQuiet PSem XThen XBlock RetPost InlPost
open Go.Proofs
theorem mval_cons (z k : PV) (row : List PV) (rows : List (List PV)) : mval z k (row :: rows) = bif mhd k row then row.getD 1 z else mval z k rows := by
 simp only [mval,mix]
 cases mhd k row
 ·simp only [cond_false]
  cases mix k rows <;> rfl
 ·rfl
def mrows (key : SPost → Option PV) (val : Nat → PV) : List SPost → Nat → List (List PV)
 |[],_ => []
 |p :: l,i => match key p with
  |some k => [k,val i] :: mrows key val l (i + 1)
  |none => mrows key val l (i + 1)
theorem mrows_snoc (key : SPost → Option PV) (val : Nat → PV) (p : SPost) : ∀ (l : List SPost) (i : Nat),mrows key val (l ++ [p]) i = mrows key val l i ++ (match key p with | some k => [[k,val (i + l.length)]] | none => [])
 |[],i => by simp only [List.nil_append,mrows,List.length_nil,Nat.add_zero]
 |q :: l,i => by
  have ih := mrows_snoc key val p l (i + 1)
  simp only [List.cons_append,mrows,List.length_cons,ih,show i + 1 + l.length = i + (l.length + 1) by omega]
  cases key q <;> rfl
theorem mrows_keyed {key : SPost → Option PV} {val : Nat → PV} {sh : Sh} {kk : Option (List Sh)} (h : ∀ p k,key p = some k → kkey sh kk k = true) : ∀ (l : List SPost) (i : Nat),keyedG sh kk (mrows key val l i) = true
 |[],i => rfl
 |q :: l,i => by
  have ih := mrows_keyed (val := val) h l (i + 1)
  simp only [mrows]
  cases hq : key q with
  |none => exact ih
  |some k =>
   simp only [keyedG,List.all_cons,Bool.and_eq_true]
   exact ⟨h q k hq,ih⟩
theorem mrows_at {key : SPost → Option PV} {val : Nat → PV} {q z : PV} {pr : SPost → Bool} (h : ∀ p,pr p = (match key p with | some k => keq k q | none => false)) : ∀ (l : List SPost) (i : Nat),
  mval z q (mrows key val l i) = (match l.findIdx? pr with | some j => val (i + j) | none => z) ∧ ((mix q (mrows key val l i)).isSome = l.any pr)
 |[],i => ⟨rfl,rfl⟩
 |p :: l,i => by
  have ih := mrows_at (z := z) (val := val) h l (i + 1)
  have hp := h p
  simp only [mrows,List.findIdx?_cons,List.any_cons]
  cases hq : key p with
  |none =>
   rw [hq] at hp
   simp only at hp ⊢
   rw [hp,ih.1,ih.2]
   simp only [Bool.false_eq_true,if_false,Bool.false_or]
   refine ⟨?_,trivial⟩
   cases l.findIdx? pr with
   |none => rfl
   |some j => simp only [Option.map_some];congr 1;omega
  |some k =>
   rw [hq] at hp
   simp only at hp ⊢
   rw [mval_cons,mix,← show mhd q [k,val i] = keq k q from rfl] at *
   rw [hp]
   cases hm : mhd q [k,val i] with
   |true => simp
   |false =>
    simp only [cond_false,ih.1,Bool.false_eq_true,if_false,Bool.false_or,Option.isSome_map,ih.2]
    refine ⟨?_,trivial⟩
    cases l.findIdx? pr with
    |none => rfl
    |some j => simp only [Option.map_some];congr 1;omega
def ordK (p : SPost) : Option PV := if p.op = 0 then some (.str p.order) else none
def itmK (p : SPost) : Option PV := if p.op = 1 then some (.agg [.str p.order,.str p.item]) else none
def gonK (p : SPost) : Option PV := if p.op = 8 then some (I p.ref) else none
def numV (i : Nat) : PV := I ((i : Int) + 1)
def ordR (l : List SPost) : List (List PV) := mrows ordK numV l 0
def itmR (l : List SPost) : List (List PV) := mrows itmK numV l 0
def gonR (l : List SPost) : List (List PV) := mrows gonK (fun _ => .bool true) l 0
def eBook (l : List SPost) : List PV := [.sl (l.map ePost),.mapd (ordR l),.mapd (itmR l),.mapd (gonR l)]
theorem ordR_keyed (l : List SPost) : keyedG .str none (ordR l) = true := mrows_keyed (fun p k h => by unfold ordK at h;split at h <;> cases h;rfl) l 0
theorem itmR_keyed (l : List SPost) (sh : Sh) : keyedG sh (some [.str,.str]) (itmR l) = true := mrows_keyed (fun p k h => by unfold itmK at h;split at h <;> cases h;rfl) l 0
theorem gonR_keyed (l : List SPost) : keyedG (.int .i64) none (gonR l) = true := mrows_keyed (fun p k h => by unfold gonK at h;split at h <;> cases h;rfl) l 0
theorem ordR_at (l : List SPost) (nm : Str) : mval (I 0) (.str nm) (ordR l) = I (ordNo l nm) ∧ (mix (.str nm) (ordR l)).isSome = l.any (fun p => decide (p.op = 0) && decide (p.order = nm)) := by
 have := mrows_at (key := ordK) (val := numV) (q := .str nm) (z := I 0) (pr := fun p => decide (p.op = 0) && decide (p.order = nm)) (fun p => by
  by_cases h : p.op = 0 <;> simp [h,ordK,keq,keq1]) l 0
 refine ⟨?_,this.2⟩
 rw [ordR,this.1,ordNo,idx]
 cases l.findIdx? fun p => decide (p.op = 0) && decide (p.order = nm) with
 |none => rfl
 |some j => simp [numV]
theorem itmR_at (l : List SPost) (o nm : Str) : mval (I 0) (.agg [.str o,.str nm]) (itmR l) = I (itmNo l o nm) ∧ (mix (.agg [.str o,.str nm]) (itmR l)).isSome = l.any (fun p => decide (p.op = 1) && decide (p.order = o) && decide (p.item = nm)) := by
 have := mrows_at (key := itmK) (val := numV) (q := .agg [.str o,.str nm]) (z := I 0) (pr := fun p => decide (p.op = 1) && decide (p.order = o) && decide (p.item = nm)) (fun p => by
  by_cases h : p.op = 1 <;> simp [h,itmK,keq,keqs,keq1]) l 0
 refine ⟨?_,this.2⟩
 rw [itmR,this.1,itmNo,idx]
 cases l.findIdx? fun p => decide (p.op = 1) && decide (p.order = o) && decide (p.item = nm) with
 |none => rfl
 |some j => simp [numV]
theorem gonR_at (l : List SPost) (n : Int) : mval (.bool false) (I n) (gonR l) = .bool (goneB l n) ∧ (mix (I n) (gonR l)).isSome = goneB l n := by
 have := mrows_at (key := gonK) (val := fun _ => .bool true) (q := I n) (z := .bool false) (pr := fun p => decide (p.op = 8) && decide (p.ref = n)) (fun p => by
  by_cases h : p.op = 8 <;> simp [h,gonK,keq,keq1]) l 0
 refine ⟨?_,this.2⟩
 rw [gonR,this.1,goneB]
 cases hf : l.findIdx? fun p => decide (p.op = 8) && decide (p.ref = n) with
 |none =>
  rw [List.findIdx?_eq_none_iff] at hf
  have : l.any (fun p => decide (p.op = 8) && decide (p.ref = n)) = false := by rw [List.any_eq_false];intro x hx;simp only [hf x hx];simp
  rw [this]
 |some j =>
  rw [List.findIdx?_eq_some_iff_getElem] at hf
  obtain ⟨hi,h1,_⟩ := hf
  have : l.any (fun p => decide (p.op = 8) && decide (p.ref = n)) = true := List.any_eq_true.2 ⟨l[j],by simp,h1⟩
  rw [this]
theorem zone3 : zone Tryz.prog 3 = true := by decide +kernel
theorem zone4 : zone Tryz.prog 4 = true := by decide +kernel
theorem good72 : kgood Tryz.prog 172 (some [.str,.str]) = true := by decide +kernel
section
variable {P : Program} {L : Lay} {s : St} {T E d : Nat} {r re : LRow} {x y : Operand} {ty : TypeId} {pos : String} {af : Array Edge} {g : Option (Nat × Bool)}
theorem q_lookV {V : TypeId} {rv : LRow} {rows : List (List PV)} {key z v : PV} (kk : Option (List Sh)) (hv : mval z key rows = v) (hkeys : keyedG re.sh kk rows = true) (hz1 : zone P V = true) (hg : kgood P E kk = true) (hr : L T = some r) (hs : r.sh = .map E V) (hre : L E = some re) (hrv : L V = some rv) (hz : rv.zero = some [z]) (hx : s.ev x = .mapd rows)
  (hy : (s.ev y).fz = some key) (hky : kkey re.sh kk key = true) : QOp P L s ⟨some d,.lookup T x y false,ty,pos,af,g⟩ v := hv ▸ q_lookD kk hr hs hre hrv hz hz1 hg hx hy hky hkeys
end
end Go.Pv


set_option maxHeartbeats 2000000
namespace Go.Pv
attribute [local irreducible] PWP POps PQuiet PSem XThen XBlock RetPost InlPost
open Go.Proofs
theorem idx_bounds {α : Type} (l : List α) (p : α → Bool) : -1 ≤ idx l p ∧ idx l p < l.length := by
 unfold idx
 cases h : l.findIdx? p with
 |none => simp;omega
 |some i =>
  rw [List.findIdx?_eq_some_iff_getElem] at h
  obtain ⟨hi,_⟩ := h
  simp;omega
theorem entL_at {l : List SPost} {n : Int} (h1 : 1 ≤ n) (h2 : n ≤ l.length) : l[(n - 1).toNat]? = some (entL l n) := by
 have : (n - 1).toNat < l.length := by omega
 rw [entL,List.getD_eq_getElem?_getD,List.getElem?_eq_getElem this];rfl
theorem Wf.lt {l : List SPost} (hW : Wf l) {n : Int} (h1 : 1 ≤ n) : 0 ≤ supNo l (entL l n) ∧ supNo l (entL l n) < n := by
 by_cases h2 : n ≤ l.length
 ·have := hW.sup _ _ (entL_at h1 h2)
  omega
 ·have : entL l n = default := by
   have : ¬ (n - 1).toNat < l.length := by omega
   rw [entL,List.getD_eq_getElem?_getD,List.getElem?_eq_none (by omega)];rfl
  rw [this]
  have : supNo l default = 0 := rfl
  omega
theorem liveF_zero {l : List SPost} : ∀ {f : Nat} {n : Int},n ≤ 0 → liveF l f n = true
 |0,n,_ => rfl
 |f + 1,n,h => by simp [liveF,h]
theorem liveF_eq {l : List SPost} (hW : Wf l) : ∀ {f g : Nat} {n : Int},n.toNat ≤ f → n.toNat ≤ g → liveF l f n = liveF l g n
 |0,g,n,h,_ => by rw [liveF_zero (by omega),liveF_zero (by omega)]
 |f + 1,0,n,_,h => by rw [liveF_zero (by omega),liveF_zero (by omega)]
 |f + 1,g + 1,n,h1,h2 => by
  simp only [liveF]
  split
  ·rfl
  ·have := hW.lt (n := n) (by omega)
   rw [liveF_eq hW (f := f) (g := g) (by omega) (by omega)]
theorem liveB_zero {l : List SPost} {n : Int} (h : n ≤ 0) : liveB l n = true := liveF_zero h
theorem liveB_pos {l : List SPost} (hW : Wf l) {n : Int} (h : 1 ≤ n) : liveB l n = (!goneB l n && liveB l (supNo l (entL l n))) := by
 have := hW.lt h
 rw [liveB,show n.toNat = (n.toNat - 1) + 1 by omega,liveF,if_neg (by omega),liveB]
 rw [liveF_eq hW (f := n.toNat - 1) (g := (supNo l (entL l n)).toNat) (by omega) (by omega)]
theorem entry_ret (l : List SPost) (n : Int) (h1 : 1 ≤ n) (h2 : n ≤ l.length) (hl : l.length ≤ 400) : Ret Tryz.prog .shared 109 [.dref (eBook l) 0,I n] (.agg (ePost (entL l n))) := by
 have he := entL_at h1 h2
 have hw : IntKind.wrap .i64 (n - 1) = n - 1 := wrap_i64 (by omega) (by omega)
 refine Ret.of_pwp layOk mixed Go.Proofs.Tryz.func109 rfl (by decide) rfl rfl ?_
 repeat refine stq rfl ?_
 rw [hw]
 refine qst rfl rfl (q_idxm rfl rfl rfl rfl rfl (by omega) he rfl) ?_
 repeat refine stq rfl ?_
 exact endc rfl rfl rfl rfl (by repeat' constructor) rfl
theorem has_ret (l : List SPost) (n : Int) : Ret Tryz.prog .shared 106 [.dref (eBook l) 0,I n] (.bool (inside n 1 l.length)) := by
 have h1 := between_ret n 1 l.length
 have hll : ((l.map ePost).length : Int) = l.length := by simp
 refine Ret.of_pwp layOk mixed Go.Proofs.Tryz.func106 rfl (by decide) rfl rfl ?_
 repeat refine stq rfl ?_
 rw [hll]
 refine qst rfl rfl (q_cp rfl h1 rfl rfl rfl) ?_
 repeat refine stq rfl ?_
 exact end1b rfl rfl rfl
theorem support_ret (l : List SPost) (p : SPost) : Ret Tryz.prog .shared 144 [.dref (eBook l) 0,.agg (ePost p)] (I (supNo l p)) := by
 have ho := (ordR_at l p.order).1
 have hi := (itmR_at l p.order p.item).1
 have L1 : (p.op = 1 ∨ p.op = 6 ∨ p.op = 7) → supNo l p = ordNo l p.order := fun h => by rw [supNo,if_pos h]
 have L2 : (p.op = 2 ∨ p.op = 3) → supNo l p = itmNo l p.order p.item := fun h => by rw [supNo,if_neg (by omega),if_pos h]
 have L3 : (p.op = 4 ∨ p.op = 5) → supNo l p = p.ref := fun h => by rw [supNo,if_neg (by omega),if_neg (by omega),if_pos h]
 have L4 : ¬ (p.op = 1 ∨ p.op = 6 ∨ p.op = 7) → ¬ (p.op = 2 ∨ p.op = 3) → ¬ (p.op = 4 ∨ p.op = 5) → supNo l p = 0 := fun h1 h2 h3 => by rw [supNo,if_neg h1,if_neg h2,if_neg h3]
 by_cases h1 : p.op = 1 ∨ p.op = 6 ∨ p.op = 7
 ·have hr := L1 h1
  clear L1 L2 L3 L4
  rcases h1 with h1 | h1 | h1 <;>
  ·refine Ret.of_pwp layOk mixed Go.Proofs.Tryz.func144 rfl (by decide) rfl rfl ?_
   repeat (first|refine stq rfl ?_|refine pw_no rfl ?_|refine pw_yes rfl ?_)
   refine pw_draw 8 [11,12,13,14,15,16,17,4] (by decide +kernel) ?_
   repeat refine stq rfl ?_
   refine qst rfl rfl (q_lookV none ho (ordR_keyed l) zone3 rfl rfl rfl rfl rfl rfl rfl rfl rfl) ?_
   repeat refine stq rfl ?_
   exact end1i rfl rfl (by rw [hr])
 by_cases h2 : p.op = 2 ∨ p.op = 3
 ·have hr := L2 h2
  clear L1 L2 L3 L4 h1
  rcases h2 with h1 | h1 <;>
  ·refine Ret.of_pwp layOk mixed Go.Proofs.Tryz.func144 rfl (by decide) rfl rfl ?_
   repeat (first|refine stq rfl ?_|refine pw_no rfl ?_|refine pw_yes rfl ?_)
   refine pw_draw 11 [21,22,23,24,25,26,27,28,29,30,4] (by decide +kernel) ?_
   repeat refine stq rfl ?_
   refine qst rfl rfl (q_lookV (some [.str,.str]) hi (itmR_keyed l _) zone3 good72 rfl rfl rfl rfl rfl rfl rfl rfl) ?_
   repeat refine stq rfl ?_
   exact end1i rfl rfl (by rw [hr])
 by_cases h3 : p.op = 4 ∨ p.op = 5
 ·have hr := L3 h3
  clear L1 L2 L3 L4 h1 h2
  rcases h3 with h1 | h1 <;>
  ·refine Ret.of_pwp layOk mixed Go.Proofs.Tryz.func144 rfl (by decide) rfl rfl ?_
   repeat (first|refine stq rfl ?_|refine pw_no rfl ?_|refine pw_yes rfl ?_)
   exact end1i rfl rfl (by rw [hr])
 ·have hr := L4 h1 h2 h3
  clear L1 L2 L3 L4
  refine Ret.of_pwp layOk mixed Go.Proofs.Tryz.func144 rfl (by decide) rfl rfl ?_
  repeat (first|refine stq rfl ?_|refine pw_no rfl ?_|refine pw_yes rfl ?_)
  exact end1i rfl rfl (by rw [hr])
end Go.Pv


set_option maxHeartbeats 2000000
namespace Go.Pv
attribute [local irreducible] PWP POps PQuiet PSem XThen XBlock RetPost InlPost
open Go.Proofs
theorem live_ret (l : List SPost) (hW : Wf l) (n : Int) (hn : n ≤ l.length) : Ret Tryz.prog .shared 107 [.dref (eBook l) 0,I n] (.bool (liveB l n)) := by
 have hlen := hW.len
 refine Ret.of_pwp layOk mixed Go.Proofs.Tryz.func107 rfl (by decide) rfl rfl ?_
 repeat refine stq rfl ?_
 refine pw_loop (fun m : Int => m ≤ l.length ∧ liveB l m = liveB l n) (fun m => [(0,.dref (eBook l) 0),(1,I m)]) (fun _ => []) (fun m => m.toNat) n ⟨hn,rfl⟩ ⟨rfl,rfl,trivial⟩ ?_
 intro m s hm
 repeat refine stq rfl ?_
 refine pw_cond rfl (fun h => ?_) (fun h => ?_)
 ·have hp : 1 ≤ m := by have := of_decide_eq_true h;omega
  clear h
  have hg := (gonR_at l m).1
  have he := entry_ret l m hp hm.1 hlen
  have hs := support_ret l (entL l m)
  have hlt := hW.lt hp
  have hlv := liveB_pos hW hp
  generalize hgb : goneB l m = gb at hg hlv
  repeat refine stq rfl ?_
  refine qst rfl rfl (q_lookV none hg (gonR_keyed l) zone4 rfl rfl rfl rfl rfl rfl rfl rfl rfl) ?_
  cases gb with
  |true =>
   repeat refine stq rfl ?_
   exact end1b rfl rfl (by rw [← hm.2,hlv];rfl)
  |false =>
   repeat refine stq rfl ?_
   refine qst rfl rfl (q_cs rfl he rfl rfl) ?_
   repeat refine stq rfl ?_
   refine qst rfl rfl (q_cp rfl hs rfl rfl rfl) ?_
   repeat refine stq rfl ?_
   exact ⟨supNo l (entL l m),⟨by omega,by rw [← hm.2,hlv];simp⟩,by omega,rfl,rfl,trivial⟩
 ·have hz : m ≤ 0 := by have := of_decide_eq_false h;omega
  repeat refine stq rfl ?_
  exact end1b rfl rfl (by rw [← hm.2,liveB_zero hz])
def standE (l : List SPost) (n : Int) : Int := if n = 0 then 6 else if liveB l n = true then 0 else 27
theorem standing_ret (l : List SPost) (hW : Wf l) (n : Int) (hn : n ≤ l.length) : Ret Tryz.prog .shared 143 [.dref (eBook l) 0,I n] (I (standE l n)) := by
 have hv := live_ret l hW n hn
 rw [standE]
 refine Ret.of_pwp layOk mixed Go.Proofs.Tryz.func143 rfl (by decide) rfl rfl ?_
 repeat refine stq rfl ?_
 refine pw_cond rfl (fun h => ?_) (fun h => ?_)
 ·have h0 := of_decide_eq_true h
  repeat (first|refine stq rfl ?_|refine pw_no rfl ?_|refine pw_yes rfl ?_)
  exact end1i rfl rfl (by rw [if_pos h0])
 have h0 := of_decide_eq_false h
 rw [if_neg h0]
 generalize liveB l n = b at hv
 cases b with
 |true =>
  repeat refine stq rfl ?_
  refine qst rfl rfl (q_cp rfl hv rfl rfl rfl) ?_
  repeat refine stq rfl ?_
  exact end1i rfl rfl rfl
 |false =>
  repeat refine stq rfl ?_
  refine qst rfl rfl (q_cp rfl hv rfl rfl rfl) ?_
  repeat refine stq rfl ?_
  exact end1i rfl rfl rfl
def aimE (l : List SPost) (n : Int) (ks : List Int) : Int := if inside n 1 l.length = false then 6 else if ks.any (· == (entL l n).op) = false then 3 else standE l n
theorem aimed_ret (l : List SPost) (hW : Wf l) (n : Int) (ks : List Int) (hk : ks.length ≤ 1000000) : Ret Tryz.prog .shared 108 [.dref (eBook l) 0,I n,.sl (ks.map eI)] (I (aimE l n ks)) := by
 have h1 := has_ret l n
 rw [aimE]
 cases hi : inside n 1 l.length with
 |false =>
  rw [hi] at h1
  refine Ret.of_pwp layOk mixed Go.Proofs.Tryz.func108 rfl (by decide) rfl rfl ?_
  repeat refine stq rfl ?_
  refine qst rfl rfl (q_cp rfl h1 rfl rfl rfl) ?_
  repeat refine stq rfl ?_
  exact end1i rfl rfl rfl
 |true =>
 rw [hi] at h1
 have hb : 1 ≤ n ∧ n ≤ l.length := by simpa [inside] using hi
 have he := entry_ret l n hb.1 hb.2 hW.len
 have hc := contains_ret ks (entL l n).op hk
 have hs := standing_ret l hW n hb.2
 rw [if_neg (by simp)]
 generalize hcb : ks.any (· == (entL l n).op) = c at hc
 cases c with
 |false =>
  refine Ret.of_pwp layOk mixed Go.Proofs.Tryz.func108 rfl (by decide) rfl rfl ?_
  repeat refine stq rfl ?_
  refine qst rfl rfl (q_cp rfl h1 rfl rfl rfl) ?_
  repeat refine stq rfl ?_
  refine qst rfl rfl (q_cs rfl he rfl rfl) ?_
  repeat refine stq rfl ?_
  refine qst rfl rfl (q_cp rfl hc rfl rfl rfl) ?_
  repeat refine stq rfl ?_
  exact end1i rfl rfl rfl
 |true =>
  refine Ret.of_pwp layOk mixed Go.Proofs.Tryz.func108 rfl (by decide) rfl rfl ?_
  repeat refine stq rfl ?_
  refine qst rfl rfl (q_cp rfl h1 rfl rfl rfl) ?_
  repeat refine stq rfl ?_
  refine qst rfl rfl (q_cs rfl he rfl rfl) ?_
  repeat refine stq rfl ?_
  refine qst rfl rfl (q_cp rfl hc rfl rfl rfl) ?_
  repeat refine stq rfl ?_
  refine qst rfl rfl (q_cp rfl hs rfl rfl rfl) ?_
  repeat refine stq rfl ?_
  exact end1i rfl rfl rfl
end Go.Pv


set_option maxHeartbeats 2000000
namespace Go.Pv
attribute [local irreducible] PWP POps PQuiet PSem XThen XBlock RetPost InlPost
open Go.Proofs
def refE (l : List SPost) (p : SPost) : Int :=
 if p.op = 0 then (if 0 < ordNo l p.order then 5 else 0)
 else if p.op = 1 then (if standE l (ordNo l p.order) = 0 then (if 0 < itmNo l p.order p.item then 5 else 0) else standE l (ordNo l p.order))
 else if p.op = 4 then (if aimE l p.ref [2,3] = 0 then (if (entL l p.ref).op = 3 ∧ (entL l p.ref).who = p.who then 26 else 0) else aimE l p.ref [2,3])
 else if p.op = 5 then (if aimE l p.ref [1,2,3] = 0 then (if ¬ (entL l p.ref).op = 2 ∧ p.amount < 0 then 2 else 0) else aimE l p.ref [1,2,3])
 else if p.op = 8 then aimE l p.ref [0,1,2,3,4,5,6,7]
 else standE l (supNo l p)
theorem ordNo_le (l : List SPost) (nm : Str) : 0 ≤ ordNo l nm ∧ ordNo l nm ≤ l.length := by
 have := idx_bounds l fun p => decide (p.op = 0) && decide (p.order = nm)
 rw [ordNo];omega
theorem itmNo_le (l : List SPost) (o nm : Str) : 0 ≤ itmNo l o nm ∧ itmNo l o nm ≤ l.length := by
 have := idx_bounds l fun p => decide (p.op = 1) && decide (p.order = o) && decide (p.item = nm)
 rw [itmNo];omega
theorem aimE_zero {l : List SPost} {n : Int} {ks : List Int} (h : aimE l n ks = 0) : 1 ≤ n ∧ n ≤ l.length := by
 rw [aimE] at h
 split at h
 ·omega
 ·rename_i h';simpa [inside] using h'
theorem refused_ret (l : List SPost) (hW : Wf l) (p : SPost) : Ret Tryz.prog .shared 102 [.dref (eBook l) 0,.agg (ePost p)] (I (refE l p)) := by
 have ho := (ordR_at l p.order).1
 have hi := (itmR_at l p.order p.item).1
 have hob := ordNo_le l p.order
 rw [refE]
 by_cases h0 : p.op = 0
 ·rw [if_pos h0]
  refine Ret.of_pwp layOk mixed Go.Proofs.Tryz.func102 rfl (by decide) rfl rfl ?_
  repeat (first|refine stq rfl ?_|refine pw_no rfl ?_|refine pw_yes rfl ?_)
  refine pw_draw 8 [13,14,15,16,17,18,19,20] (by decide +kernel) ?_
  repeat refine stq rfl ?_
  refine qst rfl rfl (q_lookV none ho (ordR_keyed l) zone3 rfl rfl rfl rfl rfl rfl rfl rfl rfl) ?_
  repeat refine stq rfl ?_
  refine pw_cond rfl (fun h => ?_) (fun h => ?_)
  ·have := of_decide_eq_true h
   repeat refine stq rfl ?_
   exact end1i rfl rfl (by rw [if_pos this])
  ·have := of_decide_eq_false h
   repeat refine stq rfl ?_
   exact end1i rfl rfl (by rw [if_neg this])
 rw [if_neg h0]
 by_cases h1 : p.op = 1
 ·rw [if_pos h1]
  have hs := standing_ret l hW _ hob.2
  clear h0
  refine Ret.of_pwp layOk mixed Go.Proofs.Tryz.func102 rfl (by decide) rfl rfl ?_
  repeat (first|refine stq rfl ?_|refine pw_no rfl ?_|refine pw_yes rfl ?_)
  refine pw_draw 10 [23,24,25,26,27,28,29,30,31,5] (by decide +kernel) ?_
  repeat refine stq rfl ?_
  refine qst rfl rfl (q_lookV none ho (ordR_keyed l) zone3 rfl rfl rfl rfl rfl rfl rfl rfl rfl) ?_
  repeat refine stq rfl ?_
  refine qst rfl rfl (q_cp rfl hs rfl rfl rfl) ?_
  repeat refine stq rfl ?_
  refine pw_cond rfl (fun h => ?_) (fun h => ?_)
  ·have he : ¬ standE l (ordNo l p.order) = 0 := by simpa using h
   repeat refine stq rfl ?_
   exact end1i rfl rfl (by rw [if_neg he])
  have he : standE l (ordNo l p.order) = 0 := by simpa using h
  rw [if_pos he]
  clear h
  repeat refine stq rfl ?_
  refine pw_draw 11 [35,36,37,38,39,40,41,42,43,44,45] (by decide +kernel) ?_
  repeat refine stq rfl ?_
  refine qst rfl rfl (q_lookV (some [.str,.str]) hi (itmR_keyed l _) zone3 good72 rfl rfl rfl rfl rfl rfl rfl rfl) ?_
  repeat refine stq rfl ?_
  refine pw_cond rfl (fun h => ?_) (fun h => ?_)
  ·have := of_decide_eq_true h
   repeat refine stq rfl ?_
   exact end1i rfl rfl (by rw [if_pos this])
  ·have := of_decide_eq_false h
   repeat refine stq rfl ?_
   exact end1i rfl rfl (by rw [if_neg this])
 rw [if_neg h1]
 by_cases h4 : p.op = 4
 ·rw [if_pos h4]
  have ha := aimed_ret l hW p.ref [2,3] (by decide)
  have hz := fun h => aimE_zero (l := l) (n := p.ref) (ks := [2,3]) h
  clear h0 h1
  refine Ret.of_pwp layOk mixed Go.Proofs.Tryz.func102 rfl (by decide) rfl rfl ?_
  repeat (first|refine stq rfl ?_|refine pw_no rfl ?_|refine pw_yes rfl ?_)
  refine qst rfl rfl (q_slit rfl rfl rfl rfl rfl rfl rfl rfl rfl rfl (by repeat' constructor) rfl) ?_
  repeat refine stq rfl ?_
  refine qst rfl rfl (q_cp rfl ha rfl rfl rfl) ?_
  repeat refine stq rfl ?_
  refine pw_cond rfl (fun h => ?_) (fun h => ?_)
  ·have he : ¬ aimE l p.ref [2,3] = 0 := by simpa using h
   repeat refine stq rfl ?_
   exact end1i rfl rfl (by rw [if_neg he])
  have he : aimE l p.ref [2,3] = 0 := by simpa using h
  rw [if_pos he]
  clear h
  have hb := hz he
  have hen := entry_ret l p.ref hb.1 hb.2 hW.len
  repeat refine stq rfl ?_
  refine qst rfl rfl (q_cs rfl hen rfl rfl) ?_
  repeat refine stq rfl ?_
  (first|refine ps_split rfl rfl ?_ ?_|refine pq_split rfl rfl ?_ ?_|refine p3_split rfl rfl ?_ ?_)<;>intro h
  ·have g1 := of_decide_eq_true h
   repeat refine stq rfl ?_
   refine pw_cond rfl (fun h => ?_) (fun h => ?_)
   ·have g2 := of_decide_eq_true h
    repeat refine stq rfl ?_
    exact end1i rfl rfl (by rw [if_pos ⟨g1,g2⟩])
   ·have g2 := of_decide_eq_false h
    repeat refine stq rfl ?_
    exact end1i rfl rfl (by rw [if_neg (fun h => g2 h.2)])
  ·have g1 : ¬ (entL l p.ref).op = 3 := by simpa using h
   repeat refine stq rfl ?_
   exact end1i rfl rfl (by rw [if_neg (fun h => g1 h.1)])
 rw [if_neg h4]
 by_cases h5 : p.op = 5
 ·rw [if_pos h5]
  have ha := aimed_ret l hW p.ref [1,2,3] (by decide)
  have hz := fun h => aimE_zero (l := l) (n := p.ref) (ks := [1,2,3]) h
  clear h0 h1 h4
  refine Ret.of_pwp layOk mixed Go.Proofs.Tryz.func102 rfl (by decide) rfl rfl ?_
  repeat (first|refine stq rfl ?_|refine pw_no rfl ?_|refine pw_yes rfl ?_)
  refine qst rfl rfl (q_slit rfl rfl rfl rfl rfl rfl rfl rfl rfl rfl (by repeat' constructor) rfl) ?_
  repeat refine stq rfl ?_
  refine qst rfl rfl (q_cp rfl ha rfl rfl rfl) ?_
  repeat refine stq rfl ?_
  refine pw_cond rfl (fun h => ?_) (fun h => ?_)
  ·have he : ¬ aimE l p.ref [1,2,3] = 0 := by simpa using h
   repeat refine stq rfl ?_
   exact end1i rfl rfl (by rw [if_neg he])
  have he : aimE l p.ref [1,2,3] = 0 := by simpa using h
  rw [if_pos he]
  clear h
  have hb := hz he
  have hen := entry_ret l p.ref hb.1 hb.2 hW.len
  repeat refine stq rfl ?_
  refine qst rfl rfl (q_cs rfl hen rfl rfl) ?_
  repeat refine stq rfl ?_
  (first|refine ps_split rfl rfl ?_ ?_|refine pq_split rfl rfl ?_ ?_|refine p3_split rfl rfl ?_ ?_)<;>intro h
  ·have g1 : ¬ (entL l p.ref).op = 2 := by simpa using h
   repeat refine stq rfl ?_
   refine pw_cond rfl (fun h => ?_) (fun h => ?_)
   ·have g2 := of_decide_eq_true h
    repeat refine stq rfl ?_
    exact end1i rfl rfl (by rw [if_pos ⟨g1,g2⟩])
   ·have g2 := of_decide_eq_false h
    repeat refine stq rfl ?_
    exact end1i rfl rfl (by rw [if_neg (fun h => g2 h.2)])
  ·have g1 : (entL l p.ref).op = 2 := by simpa using h
   repeat refine stq rfl ?_
   exact end1i rfl rfl (by rw [if_neg (fun h => h.1 g1)])
 rw [if_neg h5]
 by_cases h8 : p.op = 8
 ·rw [if_pos h8]
  have ha := aimed_ret l hW p.ref [0,1,2,3,4,5,6,7] (by decide)
  clear h0 h1 h4 h5
  refine Ret.of_pwp layOk mixed Go.Proofs.Tryz.func102 rfl (by decide) rfl rfl ?_
  repeat (first|refine stq rfl ?_|refine pw_no rfl ?_|refine pw_yes rfl ?_)
  refine qst rfl rfl (q_slit rfl rfl rfl rfl rfl rfl rfl rfl rfl rfl (by repeat' constructor) rfl) ?_
  repeat refine stq rfl ?_
  refine qst rfl rfl (q_cp rfl ha rfl rfl rfl) ?_
  repeat refine stq rfl ?_
  exact end1i rfl rfl rfl
 rw [if_neg h8]
 have hsl : supNo l p ≤ l.length := by
  rw [supNo]
  have := itmNo_le l p.order p.item
  split
  ·omega
  ·split
   ·omega
   ·rw [if_neg (by omega)];omega
 have hs := standing_ret l hW _ hsl
 have hsu := support_ret l p
 refine Ret.of_pwp layOk mixed Go.Proofs.Tryz.func102 rfl (by decide) rfl rfl ?_
 repeat (first|refine stq rfl ?_|refine pw_no rfl ?_|refine pw_yes rfl ?_)
 refine qst rfl rfl (q_cp rfl hsu rfl rfl rfl) ?_
 repeat refine stq rfl ?_
 refine qst rfl rfl (q_cp rfl hs rfl rfl rfl) ?_
 repeat refine stq rfl ?_
 exact end1i rfl rfl rfl
end Go.Pv


set_option maxHeartbeats 2000000
namespace Go.Pv
attribute [local irreducible] PWP POps PQuiet PSem XThen XBlock RetPost InlPost
open Go.Proofs
theorem order_ref (l : List SPost) (nm : Str) (hl : l.length ≤ 400) : Ret Tryz.prog .shared 121 [.sl (l.map ePost),.str nm] (I (ordNo l nm)) := by
 have hll : ((l.map ePost).length : Int) = l.length := by simp
 refine Ret.of_pwp layOk mixed Go.Proofs.Tryz.func121 rfl (by decide) rfl rfl ?_
 repeat refine stq rfl ?_
 refine pw_loop (Clear l fun p => decide (p.op = 0) && decide (p.order = nm)) (fun k => [(0,.sl (l.map ePost)),(1,.str nm),(5,I k)]) (fun _ => []) (fun k => l.length - k) 0 .zero ⟨rfl,rfl,rfl,trivial⟩ ?_
 intro k s hk
 repeat refine stq rfl ?_
 refine pw_cond rfl (fun h => ?_) (fun h => ?_)
 ·have hlt : k < l.length := by simpa using h
  clear h
  obtain ⟨x,hx⟩ := get_lt hlt
  repeat refine stq rfl ?_
  refine qst rfl rfl (q_idxm rfl rfl rfl rfl rfl (by omega) hx rfl) ?_
  repeat refine stq rfl ?_
  (first|refine ps_split rfl rfl ?_ ?_|refine pq_split rfl rfl ?_ ?_|refine p3_split rfl rfl ?_ ?_)<;>intro h
  ·have g1 := of_decide_eq_true h
   repeat refine stq rfl ?_
   refine qst rfl rfl (q_idxm rfl rfl rfl rfl rfl (by omega) hx rfl) ?_
   repeat refine stq rfl ?_
   refine pw_cond rfl (fun h => ?_) (fun h => ?_)
   ·have g2 := of_decide_eq_true h
    repeat refine stq rfl ?_
    exact end1i rfl rfl (by rw [wrap_i64 (by omega) (by omega),ordNo,hk.found hx (by simp [g1,g2])])
   ·have g2 := of_decide_eq_false h
    repeat refine stq rfl ?_
    refine ⟨k + 1,hk.succ hx (by simp [g2]),by omega,rfl,rfl,?_,trivial⟩
    exact i64_next (by omega) (by omega)
  ·have g1 := of_decide_eq_false h
   repeat refine stq rfl ?_
   refine ⟨k + 1,hk.succ hx (by simp [g1]),by omega,rfl,rfl,?_,trivial⟩
   exact i64_next (by omega) (by omega)
 ·repeat refine stq rfl ?_
  exact end1i rfl rfl (by rw [ordNo,hk.none (by simpa using h)];rfl)
theorem item_ref (l : List SPost) (o nm : Str) (hl : l.length ≤ 400) : Ret Tryz.prog .shared 123 [.sl (l.map ePost),.str o,.str nm] (I (itmNo l o nm)) := by
 have hll : ((l.map ePost).length : Int) = l.length := by simp
 refine Ret.of_pwp layOk mixed Go.Proofs.Tryz.func123 rfl (by decide) rfl rfl ?_
 repeat refine stq rfl ?_
 refine pw_loop (Clear l fun p => decide (p.op = 1) && decide (p.order = o) && decide (p.item = nm)) (fun k => [(0,.sl (l.map ePost)),(1,.str o),(2,.str nm),(7,I k)]) (fun _ => []) (fun k => l.length - k) 0 .zero ⟨rfl,rfl,rfl,rfl,trivial⟩ ?_
 intro k s hk
 repeat refine stq rfl ?_
 refine pw_cond rfl (fun h => ?_) (fun h => ?_)
 ·have hlt : k < l.length := by simpa using h
  clear h
  obtain ⟨x,hx⟩ := get_lt hlt
  repeat refine stq rfl ?_
  refine qst rfl rfl (q_idxm rfl rfl rfl rfl rfl (by omega) hx rfl) ?_
  repeat refine stq rfl ?_
  (first|refine ps_split rfl rfl ?_ ?_|refine pq_split rfl rfl ?_ ?_|refine p3_split rfl rfl ?_ ?_)<;>intro h
  ·have g1 := of_decide_eq_true h
   clear h
   repeat refine stq rfl ?_
   refine qst rfl rfl (q_idxm rfl rfl rfl rfl rfl (by omega) hx rfl) ?_
   repeat refine stq rfl ?_
   (first|refine ps_split rfl rfl ?_ ?_|refine pq_split rfl rfl ?_ ?_|refine p3_split rfl rfl ?_ ?_)<;>intro h
   ·have g2 := of_decide_eq_true h
    repeat refine stq rfl ?_
    refine qst rfl rfl (q_idxm rfl rfl rfl rfl rfl (by omega) hx rfl) ?_
    repeat refine stq rfl ?_
    refine pw_cond rfl (fun h => ?_) (fun h => ?_)
    ·have g3 := of_decide_eq_true h
     repeat refine stq rfl ?_
     exact end1i rfl rfl (by rw [wrap_i64 (by omega) (by omega),itmNo,hk.found hx (by simp [g1,g2,g3])])
    ·have g3 := of_decide_eq_false h
     repeat refine stq rfl ?_
     refine ⟨k + 1,hk.succ hx (by simp [g3]),by omega,rfl,rfl,rfl,?_,trivial⟩
     exact i64_next (by omega) (by omega)
   ·have g2 := of_decide_eq_false h
    repeat refine stq rfl ?_
    refine ⟨k + 1,hk.succ hx (by simp [g2]),by omega,rfl,rfl,rfl,?_,trivial⟩
    exact i64_next (by omega) (by omega)
  ·have g1 := of_decide_eq_false h
   repeat refine stq rfl ?_
   refine ⟨k + 1,hk.succ hx (by simp [g1]),by omega,rfl,rfl,rfl,?_,trivial⟩
   exact i64_next (by omega) (by omega)
 ·repeat refine stq rfl ?_
  exact end1i rfl rfl (by rw [itmNo,hk.none (by simpa using h)];rfl)
theorem base_ref (l : List SPost) (n : Int) (h1 : 1 ≤ n) (h2 : n ≤ l.length) (hl : l.length ≤ 400) : Ret Tryz.prog .shared 140 [.sl (l.map ePost),I n] (I (supNo l (entL l n))) := by
 have he := entL_at h1 h2
 have hw : IntKind.wrap .i64 (n - 1) = n - 1 := wrap_i64 (by omega) (by omega)
 generalize hp : entL l n = p at *
 have ho := order_ref l p.order hl
 have hi := item_ref l p.order p.item hl
 have L1 : (p.op = 1 ∨ p.op = 6 ∨ p.op = 7) → supNo l p = ordNo l p.order := fun h => by rw [supNo,if_pos h]
 have L2 : (p.op = 2 ∨ p.op = 3) → supNo l p = itmNo l p.order p.item := fun h => by rw [supNo,if_neg (by omega),if_pos h]
 have L3 : (p.op = 4 ∨ p.op = 5) → supNo l p = p.ref := fun h => by rw [supNo,if_neg (by omega),if_neg (by omega),if_pos h]
 have L4 : ¬ (p.op = 1 ∨ p.op = 6 ∨ p.op = 7) → ¬ (p.op = 2 ∨ p.op = 3) → ¬ (p.op = 4 ∨ p.op = 5) → supNo l p = 0 := fun h1 h2 h3 => by rw [supNo,if_neg h1,if_neg h2,if_neg h3]
 by_cases c1 : p.op = 1 ∨ p.op = 6 ∨ p.op = 7
 ·have hr := L1 c1
  clear L1 L2 L3 L4
  rcases c1 with c1 | c1 | c1 <;>
  ·refine Ret.of_pwp layOk mixed Go.Proofs.Tryz.func140 rfl (by decide) rfl rfl ?_
   repeat refine stq rfl ?_
   rw [hw]
   refine qst rfl rfl (q_idxm rfl rfl rfl rfl rfl (by omega) he rfl) ?_
   repeat (first|refine stq rfl ?_|refine pw_no rfl ?_|refine pw_yes rfl ?_)
   refine qst rfl rfl (q_cp rfl ho rfl rfl rfl) ?_
   repeat refine stq rfl ?_
   exact end1i rfl rfl (by rw [hr])
 by_cases c2 : p.op = 2 ∨ p.op = 3
 ·have hr := L2 c2
  clear L1 L2 L3 L4 c1
  rcases c2 with c1 | c1 <;>
  ·refine Ret.of_pwp layOk mixed Go.Proofs.Tryz.func140 rfl (by decide) rfl rfl ?_
   repeat refine stq rfl ?_
   rw [hw]
   refine qst rfl rfl (q_idxm rfl rfl rfl rfl rfl (by omega) he rfl) ?_
   repeat (first|refine stq rfl ?_|refine pw_no rfl ?_|refine pw_yes rfl ?_)
   refine qst rfl rfl (q_cp rfl hi rfl rfl rfl) ?_
   repeat refine stq rfl ?_
   exact end1i rfl rfl (by rw [hr])
 by_cases c3 : p.op = 4 ∨ p.op = 5
 ·have hr := L3 c3
  clear L1 L2 L3 L4 c1 c2
  rcases c3 with c1 | c1 <;>
  ·refine Ret.of_pwp layOk mixed Go.Proofs.Tryz.func140 rfl (by decide) rfl rfl ?_
   repeat refine stq rfl ?_
   rw [hw]
   refine qst rfl rfl (q_idxm rfl rfl rfl rfl rfl (by omega) he rfl) ?_
   repeat (first|refine stq rfl ?_|refine pw_no rfl ?_|refine pw_yes rfl ?_)
   exact end1i rfl rfl (by rw [hr])
 ·have hr := L4 c1 c2 c3
  clear L1 L2 L3 L4
  refine Ret.of_pwp layOk mixed Go.Proofs.Tryz.func140 rfl (by decide) rfl rfl ?_
  repeat refine stq rfl ?_
  rw [hw]
  refine qst rfl rfl (q_idxm rfl rfl rfl rfl rfl (by omega) he rfl) ?_
  repeat (first|refine stq rfl ?_|refine pw_no rfl ?_|refine pw_yes rfl ?_)
  exact end1i rfl rfl (by rw [hr])
theorem goneB_none {l : List SPost} {n : Int} {k : Nat} (h : Clear l (fun p => decide (p.op = 8) && decide (p.ref = n)) k) (hk : ¬ k < l.length) : goneB l n = false := h.any hk
theorem live_ref (l : List SPost) (hW : Wf l) : ∀ (f : Nat) (n : Int),n.toNat ≤ f → 1 ≤ n → n ≤ l.length → Ret Tryz.prog .shared 101 [.sl (l.map ePost),I n] (.bool (liveB l n))
 |0,n,hf,h1,_ => by omega
 |f + 1,n,hf,h1,h2 => by
  have hl := hW.len
  have hll : ((l.map ePost).length : Int) = l.length := by simp
  have hlt := hW.lt h1
  have hlv := liveB_pos hW h1
  have ih := live_ref l hW f (supNo l (entL l n)) (by omega)
  have hb := base_ref l n h1 h2 hl
  refine Ret.of_pwp layOk mixed Go.Proofs.Tryz.func101 rfl (by decide) rfl rfl ?_
  repeat refine stq rfl ?_
  refine pw_loop (Clear l fun p => decide (p.op = 8) && decide (p.ref = n)) (fun k => [(0,.sl (l.map ePost)),(1,I n),(5,I k)]) (fun _ => []) (fun k => l.length - k) 0 .zero ⟨rfl,rfl,rfl,trivial⟩ ?_
  intro k s hk
  repeat refine stq rfl ?_
  refine pw_cond rfl (fun h => ?_) (fun h => ?_)
  ·have hlt : k < l.length := by simpa using h
   clear h
   obtain ⟨x,hx⟩ := get_lt hlt
   repeat refine stq rfl ?_
   refine qst rfl rfl (q_idxm rfl rfl rfl rfl rfl (by omega) hx rfl) ?_
   repeat refine stq rfl ?_
   (first|refine ps_split rfl rfl ?_ ?_|refine pq_split rfl rfl ?_ ?_|refine p3_split rfl rfl ?_ ?_)<;>intro h
   ·have g1 := of_decide_eq_true h
    repeat refine stq rfl ?_
    refine qst rfl rfl (q_idxm rfl rfl rfl rfl rfl (by omega) hx rfl) ?_
    repeat refine stq rfl ?_
    refine pw_cond rfl (fun h => ?_) (fun h => ?_)
    ·have g2 := of_decide_eq_true h
     repeat refine stq rfl ?_
     refine end1b rfl rfl ?_
     rw [hlv,goneB,any_of hx (by simp [g1,g2])]
     rfl
    ·have g2 := of_decide_eq_false h
     repeat refine stq rfl ?_
     refine ⟨k + 1,hk.succ hx (by simp [g2]),by omega,rfl,rfl,?_,trivial⟩
     exact i64_next (by omega) (by omega)
   ·have g1 := of_decide_eq_false h
    repeat refine stq rfl ?_
    refine ⟨k + 1,hk.succ hx (by simp [g1]),by omega,rfl,rfl,?_,trivial⟩
    exact i64_next (by omega) (by omega)
  ·have hg := goneB_none hk (by simpa using h)
   rw [hg,Bool.not_false,Bool.true_and] at hlv
   rw [hlv]
   repeat refine stq rfl ?_
   refine qst rfl rfl (q_cp rfl hb rfl rfl rfl) ?_
   repeat refine stq rfl ?_
   generalize supNo l (entL l n) = b at *
   (first|refine ps_split rfl rfl ?_ ?_|refine pq_split rfl rfl ?_ ?_|refine p3_split rfl rfl ?_ ?_)<;>intro h
   ·have hz := of_decide_eq_true h
    repeat refine stq rfl ?_
    exact end1b rfl rfl (by rw [liveB_zero (by omega)])
   ·have hz := of_decide_eq_false h
    have ih := ih (by omega) (by omega)
    repeat refine stq rfl ?_
    refine qst rfl rfl (q_cp rfl ih rfl rfl rfl) ?_
    repeat refine stq rfl ?_
    exact end1b rfl rfl rfl
theorem of_ref (l : List SPost) (hW : Wf l) (n : Int) (h0 : 0 ≤ n) (h2 : n ≤ l.length) : Ret Tryz.prog .shared 122 [.sl (l.map ePost),I n] (I (standE l n)) := by
 have hv := live_ref l hW n.toNat n (by omega)
 rw [standE]
 refine Ret.of_pwp layOk mixed Go.Proofs.Tryz.func122 rfl (by decide) rfl rfl ?_
 repeat refine stq rfl ?_
 refine pw_cond rfl (fun h => ?_) (fun h => ?_)
 ·have h0 := of_decide_eq_true h
  repeat (first|refine stq rfl ?_|refine pw_no rfl ?_|refine pw_yes rfl ?_)
  exact end1i rfl rfl (by rw [if_pos h0])
 have hz := of_decide_eq_false h
 rw [if_neg hz]
 have hv := hv (by omega) h2
 generalize liveB l n = b at hv
 cases b with
 |true =>
  repeat refine stq rfl ?_
  refine qst rfl rfl (q_cp rfl hv rfl rfl rfl) ?_
  repeat refine stq rfl ?_
  exact end1i rfl rfl rfl
 |false =>
  repeat refine stq rfl ?_
  refine qst rfl rfl (q_cp rfl hv rfl rfl rfl) ?_
  repeat refine stq rfl ?_
  exact end1i rfl rfl rfl
theorem refers_ref (l : List SPost) (hW : Wf l) (n : Int) (h0 : 1 ≤ n) (ks : List Int) (hk : ks.length ≤ 1000000) : Ret Tryz.prog .shared 124 [.sl (l.map ePost),I n,.sl (ks.map eI)] (I (aimE l n ks)) := by
 have hl := hW.len
 have hll : ((l.map ePost).length : Int) = l.length := by simp
 have hkl : ((ks.map eI).length : Int) = ks.length := by simp
 rw [aimE]
 refine Ret.of_pwp layOk mixed Go.Proofs.Tryz.func124 rfl (by decide) rfl rfl ?_
 repeat refine stq rfl ?_
 refine pw_cond rfl (fun h => ?_) (fun h => ?_)
 ·have h2 := of_decide_eq_true h
  rw [hll] at h2
  repeat refine stq rfl ?_
  refine end1i rfl rfl ?_
  rw [if_pos]
  simp [inside];omega
 have h2 : n ≤ l.length := by have := of_decide_eq_false h;omega
 clear h
 rw [if_neg (by simp [inside];omega)]
 have he := entL_at h0 h2
 have hw : IntKind.wrap .i64 (n - 1) = n - 1 := wrap_i64 (by omega) (by omega)
 have hv := live_ref l hW n.toNat n (by omega) h0 h2
 rw [standE,if_neg (show ¬ n = 0 by omega)]
 repeat refine stq rfl ?_
 refine pw_loop (Clear ks (· == (entL l n).op)) (fun k => [(0,.sl (l.map ePost)),(1,I n),(2,.sl (ks.map eI)),(7,I k)]) (fun _ => []) (fun k => ks.length - k) 0 .zero ⟨rfl,rfl,rfl,rfl,trivial⟩ ?_
 intro k s hc
 repeat refine stq rfl ?_
 refine pw_cond rfl (fun h => ?_) (fun h => ?_)
 ·have hlt : k < ks.length := by simpa using h
  clear h
  obtain ⟨x,hx⟩ := get_lt hlt
  repeat refine stq rfl ?_
  refine pw_draw 11 [18,19,20,21,22,23,24,25,26,27,28] (by decide +kernel) ?_
  repeat refine stq rfl ?_
  rw [hw]
  refine qst rfl rfl (q_idxm rfl rfl rfl rfl rfl (by omega) he rfl) ?_
  repeat refine stq rfl ?_
  refine qst rfl rfl (q_idxm rfl rfl rfl rfl rfl (by omega) hx rfl) ?_
  repeat refine stq rfl ?_
  refine pw_cond rfl (fun h => ?_) (fun h => ?_)
  ·have g := of_decide_eq_true h
   rw [any_of hx (by simp [g]),if_neg (by simp)]
   generalize liveB l n = b at hv
   cases b with
   |true =>
    repeat refine stq rfl ?_
    refine qst rfl rfl (q_cp rfl hv rfl rfl rfl) ?_
    repeat refine stq rfl ?_
    exact end1i rfl rfl rfl
   |false =>
    repeat refine stq rfl ?_
    refine qst rfl rfl (q_cp rfl hv rfl rfl rfl) ?_
    repeat refine stq rfl ?_
    exact end1i rfl rfl rfl
  ·have g := of_decide_eq_false h
   repeat refine stq rfl ?_
   refine ⟨k + 1,hc.succ hx (by simp;exact fun e => g e.symm),by omega,rfl,rfl,rfl,?_,trivial⟩
   exact i64_next (by omega) (by omega)
 ·repeat refine stq rfl ?_
  exact end1i rfl rfl (by rw [hc.any (by simpa using h)];rfl)
end Go.Pv


set_option maxHeartbeats 2000000
namespace Go.Pv
attribute [local irreducible] PWP POps PQuiet PSem XThen XBlock RetPost InlPost RetPostO
open Go.Proofs
inductive Fd where
 |o | i | s | w
 |a (lo hi : Int) | r (lo hi : Int) | l (lo hi : Int)
abbrev nilp : PV := .raw (.pointer none)
def Fd.tm : Fd → List TC
 |.o => [.p 2,.c nilp,.c (I 0),.c (I 0)]
 |.i => [.p 3,.c nilp,.c (I 0),.c (I 0)]
 |.s => [.p 4,.c nilp,.c (I 0),.c (I 0)]
 |.w => [.p 5,.c nilp,.c (I 0),.c (I 0)]
 |.a lo hi => [.c nilp,.p 6,.c (I lo),.c (I hi)]
 |.r lo hi => [.c nilp,.p 7,.c (I lo),.c (I hi)]
 |.l lo hi => [.c nilp,.p 8,.c (I lo),.c (I hi)]
def fdsOf (op : Int) : List Fd :=
 if op = 0 then [.o,.s] else if op = 1 then [.o,.i,.a 0 1000000000] else if op = 2 then [.o,.i,.a (-1000000000) 1000000000] else if op = 3 then [.o,.i,.w,.a 0 1000000000]
 else if op = 4 then [.r 1 400,.w,.l 0 1] else if op = 5 then [.r 1 400,.a (-1000000000) 1000000000] else if op = 6 then [.o] else if op = 7 then [.o,.a 1 1000000000] else [.r 1 400]
theorem text_raw [Globs] (b o : Nat) : Ret Tryz.prog .shared 119 [.raw (.pointer (some ⟨b,o,none⟩))] (.agg [.raw (.pointer (some ⟨b,o,none⟩)),nilp,I 0,I 0]) := by
 refine Ret.of_pwp layOk mixed Go.Proofs.Tryz.func119 rfl (by decide) rfl rfl ?_
 repeat refine stq rfl ?_
 exact endc rfl rfl rfl rfl (by repeat' constructor) rfl
theorem amount_raw [Globs] (b off : Nat) (lo hi : Int) : Ret Tryz.prog .shared 120 [I lo,I hi,.dref [.raw (.pointer (some ⟨b,off,none⟩))] 0] (.agg [nilp,.raw (.pointer (some ⟨b,off + 6,none⟩)),I lo,I hi]) := by
 refine Ret.of_pwp layOk mixed Go.Proofs.Tryz.func120 rfl (by decide) rfl rfl ?_
 repeat refine stq rfl ?_
 refine qst rfl rfl (q_nckR rfl) ?_
 repeat refine stq rfl ?_
 refine qst rfl rfl (q_faR layOk rfl rfl rfl rfl rfl rfl) ?_
 repeat refine stq rfl ?_
 exact endc rfl rfl rfl rfl (by repeat' constructor) rfl
theorem fields_raw [G : Globs] (b off : Nat) (op : Int) : @RetO (globAt G b off (.int .i64 op)) Tryz.prog 65 [rawP b off 0] 125 4 ((fdsOf op).map fun f => f.tm.map (TC.inst (rawP b off))) := by
 letI : Globs := globAt G b off (.int .i64 op)
 have hG : ∀ w : World,Globs.glob w → w.cell? ⟨b,off,none⟩ = some (.int .i64 op) := fun w h => h.2.2
 have ht := fun o => text_raw b (off + o)
 have ha := amount_raw b off
 show RetO Tryz.prog 65 [.raw (.pointer (some ⟨b,off,none⟩))] 125 4 ((fdsOf op).map fun f => f.tm.map (TC.inst (rawP b off)))
 have start : ∀ r,r = ((fdsOf op).map fun f => f.tm.map (TC.inst (rawP b off))) → RetO Tryz.prog 65 [.raw (.pointer (some ⟨b,off,none⟩))] 125 4 r → RetO Tryz.prog 65 [.raw (.pointer (some ⟨b,off,none⟩))] 125 4 ((fdsOf op).map fun f => f.tm.map (TC.inst (rawP b off))) := fun r h1 h2 => h1 ▸ h2
 by_cases h0 : op = 0
 ·subst h0
  clear start
  refine RetO.of_pwp layOk mixed Go.Proofs.Tryz.func65 rfl (by decide) rfl rfl ?_
  ((repeat (first | refine ps_nil ?_ | refine pq_nil ?_ | refine x_norm ?_ | refine pw_seq ?_));refine pw_region ?_)
  refine ps_run (o_box rfl rfl rfl (by repeat' constructor) rfl ?_)
  repeat refine stq rfl ?_
  refine qst rfl rfl (q_nckR rfl) ?_
  repeat refine stq rfl ?_
  refine qst rfl rfl (q_faR layOk rfl rfl rfl rfl rfl rfl) ?_
  repeat refine stq rfl ?_
  refine qst rfl rfl (q_nckR rfl) ?_
  repeat refine stq rfl ?_
  refine qst rfl rfl (q_faR layOk rfl rfl rfl rfl rfl rfl) ?_
  repeat refine stq rfl ?_
  refine qst rfl rfl (q_ldR layOk hG rfl rfl rfl) ?_
  repeat (first|refine stq rfl ?_|refine pw_no rfl ?_|refine pw_yes rfl ?_)
  refine pw_draw 10 [17,18,19,20,21,22,23,24,25,26] (by decide +kernel) ?_
  repeat refine stq rfl ?_
  refine qst rfl rfl (q_nckR rfl) ?_
  repeat refine stq rfl ?_
  refine qst rfl rfl (q_faR layOk rfl rfl rfl rfl rfl rfl) ?_
  repeat refine stq rfl ?_
  refine qst rfl rfl (q_cp rfl (ht 2) rfl rfl rfl) ?_
  repeat refine stq rfl ?_
  refine qst rfl rfl (q_nckR rfl) ?_
  repeat refine stq rfl ?_
  refine qst rfl rfl (q_faR layOk rfl rfl rfl rfl rfl rfl) ?_
  repeat refine stq rfl ?_
  refine qst rfl rfl (q_cp rfl (ht 4) rfl rfl rfl) ?_
  repeat refine stq rfl ?_
  refine ps_run (o_slit 0 rfl rfl rfl rfl rfl rfl rfl rfl rfl rfl rfl (by repeat' constructor) rfl ?_)
  repeat refine stq rfl ?_
  exact endO rfl rfl rfl rfl rfl rfl
 by_cases h1 : op = 1
 ·subst h1
  clear start
  refine RetO.of_pwp layOk mixed Go.Proofs.Tryz.func65 rfl (by decide) rfl rfl ?_
  ((repeat (first | refine ps_nil ?_ | refine pq_nil ?_ | refine x_norm ?_ | refine pw_seq ?_));refine pw_region ?_)
  refine ps_run (o_box rfl rfl rfl (by repeat' constructor) rfl ?_)
  repeat refine stq rfl ?_
  refine qst rfl rfl (q_nckR rfl) ?_
  repeat refine stq rfl ?_
  refine qst rfl rfl (q_faR layOk rfl rfl rfl rfl rfl rfl) ?_
  repeat refine stq rfl ?_
  refine qst rfl rfl (q_nckR rfl) ?_
  repeat refine stq rfl ?_
  refine qst rfl rfl (q_faR layOk rfl rfl rfl rfl rfl rfl) ?_
  repeat refine stq rfl ?_
  refine qst rfl rfl (q_ldR layOk hG rfl rfl rfl) ?_
  repeat (first|refine stq rfl ?_|refine pw_no rfl ?_|refine pw_yes rfl ?_)
  refine pw_draw 12 [30,31,32,33,34,35,36,37,38,39,40,41] (by decide +kernel) ?_
  repeat refine stq rfl ?_
  refine qst rfl rfl (q_nckR rfl) ?_
  repeat refine stq rfl ?_
  refine qst rfl rfl (q_faR layOk rfl rfl rfl rfl rfl rfl) ?_
  repeat refine stq rfl ?_
  refine qst rfl rfl (q_cp rfl (ht 2) rfl rfl rfl) ?_
  repeat refine stq rfl ?_
  refine qst rfl rfl (q_nckR rfl) ?_
  repeat refine stq rfl ?_
  refine qst rfl rfl (q_faR layOk rfl rfl rfl rfl rfl rfl) ?_
  repeat refine stq rfl ?_
  refine qst rfl rfl (q_cp rfl (ht 3) rfl rfl rfl) ?_
  repeat refine stq rfl ?_
  refine qst rfl rfl (q_cp rfl (ha 0 1000000000) rfl rfl rfl) ?_
  repeat refine stq rfl ?_
  refine ps_run (o_slit 0 rfl rfl rfl rfl rfl rfl rfl rfl rfl rfl rfl (by repeat' constructor) rfl ?_)
  repeat refine stq rfl ?_
  exact endO rfl rfl rfl rfl rfl rfl
 by_cases h2 : op = 2
 ·subst h2
  clear start
  refine RetO.of_pwp layOk mixed Go.Proofs.Tryz.func65 rfl (by decide) rfl rfl ?_
  ((repeat (first | refine ps_nil ?_ | refine pq_nil ?_ | refine x_norm ?_ | refine pw_seq ?_));refine pw_region ?_)
  refine ps_run (o_box rfl rfl rfl (by repeat' constructor) rfl ?_)
  repeat refine stq rfl ?_
  refine qst rfl rfl (q_nckR rfl) ?_
  repeat refine stq rfl ?_
  refine qst rfl rfl (q_faR layOk rfl rfl rfl rfl rfl rfl) ?_
  repeat refine stq rfl ?_
  refine qst rfl rfl (q_nckR rfl) ?_
  repeat refine stq rfl ?_
  refine qst rfl rfl (q_faR layOk rfl rfl rfl rfl rfl rfl) ?_
  repeat refine stq rfl ?_
  refine qst rfl rfl (q_ldR layOk hG rfl rfl rfl) ?_
  repeat (first|refine stq rfl ?_|refine pw_no rfl ?_|refine pw_yes rfl ?_)
  refine pw_draw 12 [45,46,47,48,49,50,51,52,53,54,55,56] (by decide +kernel) ?_
  repeat refine stq rfl ?_
  refine qst rfl rfl (q_nckR rfl) ?_
  repeat refine stq rfl ?_
  refine qst rfl rfl (q_faR layOk rfl rfl rfl rfl rfl rfl) ?_
  repeat refine stq rfl ?_
  refine qst rfl rfl (q_cp rfl (ht 2) rfl rfl rfl) ?_
  repeat refine stq rfl ?_
  refine qst rfl rfl (q_nckR rfl) ?_
  repeat refine stq rfl ?_
  refine qst rfl rfl (q_faR layOk rfl rfl rfl rfl rfl rfl) ?_
  repeat refine stq rfl ?_
  refine qst rfl rfl (q_cp rfl (ht 3) rfl rfl rfl) ?_
  repeat refine stq rfl ?_
  refine qst rfl rfl (q_cp rfl (ha (-1000000000) 1000000000) rfl rfl rfl) ?_
  repeat refine stq rfl ?_
  refine ps_run (o_slit 0 rfl rfl rfl rfl rfl rfl rfl rfl rfl rfl rfl (by repeat' constructor) rfl ?_)
  repeat refine stq rfl ?_
  exact endO rfl rfl rfl rfl rfl rfl
 by_cases h3 : op = 3
 ·subst h3
  clear start
  refine RetO.of_pwp layOk mixed Go.Proofs.Tryz.func65 rfl (by decide) rfl rfl ?_
  ((repeat (first | refine ps_nil ?_ | refine pq_nil ?_ | refine x_norm ?_ | refine pw_seq ?_));refine pw_region ?_)
  refine ps_run (o_box rfl rfl rfl (by repeat' constructor) rfl ?_)
  repeat refine stq rfl ?_
  refine qst rfl rfl (q_nckR rfl) ?_
  repeat refine stq rfl ?_
  refine qst rfl rfl (q_faR layOk rfl rfl rfl rfl rfl rfl) ?_
  repeat refine stq rfl ?_
  refine qst rfl rfl (q_nckR rfl) ?_
  repeat refine stq rfl ?_
  refine qst rfl rfl (q_faR layOk rfl rfl rfl rfl rfl rfl) ?_
  repeat refine stq rfl ?_
  refine qst rfl rfl (q_ldR layOk hG rfl rfl rfl) ?_
  repeat (first|refine stq rfl ?_|refine pw_no rfl ?_|refine pw_yes rfl ?_)
  refine pw_draw 17 [60,61,62,63,64,65,66,67,68,69,70,71,72,73,74,75,76] (by decide +kernel) ?_
  repeat refine stq rfl ?_
  refine qst rfl rfl (q_nckR rfl) ?_
  repeat refine stq rfl ?_
  refine qst rfl rfl (q_faR layOk rfl rfl rfl rfl rfl rfl) ?_
  repeat refine stq rfl ?_
  refine qst rfl rfl (q_cp rfl (ht 2) rfl rfl rfl) ?_
  repeat refine stq rfl ?_
  refine qst rfl rfl (q_nckR rfl) ?_
  repeat refine stq rfl ?_
  refine qst rfl rfl (q_faR layOk rfl rfl rfl rfl rfl rfl) ?_
  repeat refine stq rfl ?_
  refine qst rfl rfl (q_cp rfl (ht 3) rfl rfl rfl) ?_
  repeat refine stq rfl ?_
  refine qst rfl rfl (q_nckR rfl) ?_
  repeat refine stq rfl ?_
  refine qst rfl rfl (q_faR layOk rfl rfl rfl rfl rfl rfl) ?_
  repeat refine stq rfl ?_
  refine qst rfl rfl (q_cp rfl (ht 5) rfl rfl rfl) ?_
  repeat refine stq rfl ?_
  refine qst rfl rfl (q_cp rfl (ha 0 1000000000) rfl rfl rfl) ?_
  repeat refine stq rfl ?_
  refine ps_run (o_slit 0 rfl rfl rfl rfl rfl rfl rfl rfl rfl rfl rfl (by repeat' constructor) rfl ?_)
  repeat refine stq rfl ?_
  exact endO rfl rfl rfl rfl rfl rfl
 by_cases h4 : op = 4
 ·subst h4
  clear start
  refine RetO.of_pwp layOk mixed Go.Proofs.Tryz.func65 rfl (by decide) rfl rfl ?_
  ((repeat (first | refine ps_nil ?_ | refine pq_nil ?_ | refine x_norm ?_ | refine pw_seq ?_));refine pw_region ?_)
  refine ps_run (o_box rfl rfl rfl (by repeat' constructor) rfl ?_)
  repeat refine stq rfl ?_
  refine qst rfl rfl (q_nckR rfl) ?_
  repeat refine stq rfl ?_
  refine qst rfl rfl (q_faR layOk rfl rfl rfl rfl rfl rfl) ?_
  repeat refine stq rfl ?_
  refine qst rfl rfl (q_nckR rfl) ?_
  repeat refine stq rfl ?_
  refine qst rfl rfl (q_faR layOk rfl rfl rfl rfl rfl rfl) ?_
  repeat refine stq rfl ?_
  refine qst rfl rfl (q_ldR layOk hG rfl rfl rfl) ?_
  repeat (first|refine stq rfl ?_|refine pw_no rfl ?_|refine pw_yes rfl ?_)
  refine pw_draw 10 [80,81,82,83,84,85,86,87,88,89] (by decide +kernel) ?_
  repeat refine stq rfl ?_
  refine qst rfl rfl (q_nckR rfl) ?_
  repeat refine stq rfl ?_
  refine qst rfl rfl (q_faR layOk rfl rfl rfl rfl rfl rfl) ?_
  repeat refine stq rfl ?_
  refine qst rfl rfl (q_cp rfl (ht 5) rfl rfl rfl) ?_
  repeat refine stq rfl ?_
  refine qst rfl rfl (q_nckR rfl) ?_
  repeat refine stq rfl ?_
  refine qst rfl rfl (q_faR layOk rfl rfl rfl rfl rfl rfl) ?_
  repeat refine stq rfl ?_
  refine ps_run (o_slit 0 rfl rfl rfl rfl rfl rfl rfl rfl rfl rfl rfl (by repeat' constructor) rfl ?_)
  repeat refine stq rfl ?_
  exact endO rfl rfl rfl rfl rfl rfl
 by_cases h5 : op = 5
 ·subst h5
  clear start
  refine RetO.of_pwp layOk mixed Go.Proofs.Tryz.func65 rfl (by decide) rfl rfl ?_
  ((repeat (first | refine ps_nil ?_ | refine pq_nil ?_ | refine x_norm ?_ | refine pw_seq ?_));refine pw_region ?_)
  refine ps_run (o_box rfl rfl rfl (by repeat' constructor) rfl ?_)
  repeat refine stq rfl ?_
  refine qst rfl rfl (q_nckR rfl) ?_
  repeat refine stq rfl ?_
  refine qst rfl rfl (q_faR layOk rfl rfl rfl rfl rfl rfl) ?_
  repeat refine stq rfl ?_
  refine qst rfl rfl (q_nckR rfl) ?_
  repeat refine stq rfl ?_
  refine qst rfl rfl (q_faR layOk rfl rfl rfl rfl rfl rfl) ?_
  repeat refine stq rfl ?_
  refine qst rfl rfl (q_ldR layOk hG rfl rfl rfl) ?_
  repeat (first|refine stq rfl ?_|refine pw_no rfl ?_|refine pw_yes rfl ?_)
  refine pw_draw 3 [93,94,95] (by decide +kernel) ?_
  repeat refine stq rfl ?_
  refine qst rfl rfl (q_cp rfl (ha (-1000000000) 1000000000) rfl rfl rfl) ?_
  repeat refine stq rfl ?_
  refine ps_run (o_slit 0 rfl rfl rfl rfl rfl rfl rfl rfl rfl rfl rfl (by repeat' constructor) rfl ?_)
  repeat refine stq rfl ?_
  exact endO rfl rfl rfl rfl rfl rfl
 by_cases h6 : op = 6
 ·subst h6
  clear start
  refine RetO.of_pwp layOk mixed Go.Proofs.Tryz.func65 rfl (by decide) rfl rfl ?_
  ((repeat (first | refine ps_nil ?_ | refine pq_nil ?_ | refine x_norm ?_ | refine pw_seq ?_));refine pw_region ?_)
  refine ps_run (o_box rfl rfl rfl (by repeat' constructor) rfl ?_)
  repeat refine stq rfl ?_
  refine qst rfl rfl (q_nckR rfl) ?_
  repeat refine stq rfl ?_
  refine qst rfl rfl (q_faR layOk rfl rfl rfl rfl rfl rfl) ?_
  repeat refine stq rfl ?_
  refine qst rfl rfl (q_nckR rfl) ?_
  repeat refine stq rfl ?_
  refine qst rfl rfl (q_faR layOk rfl rfl rfl rfl rfl rfl) ?_
  repeat refine stq rfl ?_
  refine qst rfl rfl (q_ldR layOk hG rfl rfl rfl) ?_
  repeat (first|refine stq rfl ?_|refine pw_no rfl ?_|refine pw_yes rfl ?_)
  repeat refine stq rfl ?_
  refine qst rfl rfl (q_nckR rfl) ?_
  repeat refine stq rfl ?_
  refine qst rfl rfl (q_faR layOk rfl rfl rfl rfl rfl rfl) ?_
  repeat refine stq rfl ?_
  refine qst rfl rfl (q_cp rfl (ht 2) rfl rfl rfl) ?_
  repeat refine stq rfl ?_
  refine ps_run (o_slit 0 rfl rfl rfl rfl rfl rfl rfl rfl rfl rfl rfl (by repeat' constructor) rfl ?_)
  repeat refine stq rfl ?_
  exact endO rfl rfl rfl rfl rfl rfl
 by_cases h7 : op = 7
 ·subst h7
  clear start
  refine RetO.of_pwp layOk mixed Go.Proofs.Tryz.func65 rfl (by decide) rfl rfl ?_
  ((repeat (first | refine ps_nil ?_ | refine pq_nil ?_ | refine x_norm ?_ | refine pw_seq ?_));refine pw_region ?_)
  refine ps_run (o_box rfl rfl rfl (by repeat' constructor) rfl ?_)
  repeat refine stq rfl ?_
  refine qst rfl rfl (q_nckR rfl) ?_
  repeat refine stq rfl ?_
  refine qst rfl rfl (q_faR layOk rfl rfl rfl rfl rfl rfl) ?_
  repeat refine stq rfl ?_
  refine qst rfl rfl (q_nckR rfl) ?_
  repeat refine stq rfl ?_
  refine qst rfl rfl (q_faR layOk rfl rfl rfl rfl rfl rfl) ?_
  repeat refine stq rfl ?_
  refine qst rfl rfl (q_ldR layOk hG rfl rfl rfl) ?_
  repeat (first|refine stq rfl ?_|refine pw_no rfl ?_|refine pw_yes rfl ?_)
  repeat refine stq rfl ?_
  refine qst rfl rfl (q_nckR rfl) ?_
  repeat refine stq rfl ?_
  refine qst rfl rfl (q_faR layOk rfl rfl rfl rfl rfl rfl) ?_
  repeat refine stq rfl ?_
  refine qst rfl rfl (q_cp rfl (ht 2) rfl rfl rfl) ?_
  repeat refine stq rfl ?_
  refine qst rfl rfl (q_cp rfl (ha 1 1000000000) rfl rfl rfl) ?_
  repeat refine stq rfl ?_
  refine ps_run (o_slit 0 rfl rfl rfl rfl rfl rfl rfl rfl rfl rfl rfl (by repeat' constructor) rfl ?_)
  repeat refine stq rfl ?_
  exact endO rfl rfl rfl rfl rfl rfl
 ·have hf : fdsOf op = [.r 1 400] := by simp [fdsOf,h0,h1,h2,h3,h4,h5,h6,h7]
  rw [hf]
  clear start hf
  refine RetO.of_pwp layOk mixed Go.Proofs.Tryz.func65 rfl (by decide) rfl rfl ?_
  ((repeat (first | refine ps_nil ?_ | refine pq_nil ?_ | refine x_norm ?_ | refine pw_seq ?_));refine pw_region ?_)
  refine ps_run (o_box rfl rfl rfl (by repeat' constructor) rfl ?_)
  repeat refine stq rfl ?_
  refine qst rfl rfl (q_nckR rfl) ?_
  repeat refine stq rfl ?_
  refine qst rfl rfl (q_faR layOk rfl rfl rfl rfl rfl rfl) ?_
  repeat refine stq rfl ?_
  refine qst rfl rfl (q_nckR rfl) ?_
  repeat refine stq rfl ?_
  refine qst rfl rfl (q_faR layOk rfl rfl rfl rfl rfl rfl) ?_
  repeat refine stq rfl ?_
  refine qst rfl rfl (q_ldR layOk hG rfl rfl rfl) ?_
  repeat (first|refine stq rfl ?_|refine pw_no rfl ?_|refine pw_yes rfl ?_)
  repeat refine stq rfl ?_
  refine ps_run (o_slit 0 rfl rfl rfl rfl rfl rfl rfl rfl rfl rfl rfl (by repeat' constructor) rfl ?_)
  repeat refine stq rfl ?_
  exact endO rfl rfl rfl rfl rfl rfl
end Go.Pv


set_option maxHeartbeats 2000000
namespace Go.Pv
attribute [local irreducible] PWP POps PQuiet PSem XThen XBlock RetPost InlPost
open Go.Proofs
theorem fields_tm [G : Globs] (b off : Nat) (op : Int) : @RetO (globAt G b off (.int .i64 op)) Tryz.prog 65 [rawP b off 0] 125 4 (((fdsOf op).map Fd.tm).map fun r => r.map (TC.inst (rawP b off))) := by
 rw [List.map_map]
 exact fields_raw b off op
def Fd.txt (p : SPost) : Fd → Str
 |.o => p.order | .i => p.item | .s => p.ship | .w => p.who | _ => []
def Fd.num (p : SPost) : Fd → Int
 |.a _ _ => p.amount | .r _ _ => p.ref | .l _ _ => p.role | _ => 0
def Fd.err (p : SPost) (f : Fd) : Int := match f with
 |.o | .i | .s | .w => if isName (f.txt p) = true then 0 else 4
 |.a lo hi | .r lo hi | .l lo hi => if inside (f.num p) lo hi = true then 0 else 2
def checkE (p : SPost) : Int := if inside p.op 0 8 = true ∧ inside p.day 0 10000 = true then fstE (fdsOf p.op) (fun _ f => f.err p) else 2
theorem fdsOf_tm_ok (op : Int) : ((fdsOf op).map Fd.tm).all (fun r => r.all (TC.ok 9)) = true := by
 rw [List.all_map,List.all_eq_true]
 intro f _
 cases f <;> rfl
theorem fdsOf_len (op : Int) : (fdsOf op).length ≤ 4 := by
 simp only [fdsOf]
 repeat' (first | split | (simp only [List.length_cons,List.length_nil];omega))
set_option maxRecDepth 20000 in
theorem checkPost_ret (p : SPost) : Ret Tryz.prog .shared 16 [.agg (ePost p)] (I (checkE p)) := by
 have h1 := between_ret p.op 0 8
 have h2 := between_ret p.day 0 10000
 rw [checkE]
 cases hi : inside p.op 0 8 with
 |false =>
  rw [hi] at h1
  refine Ret.of_pwp layOk mixed Go.Proofs.Tryz.func16 rfl (by decide) rfl rfl ?_
  repeat refine stq rfl ?_
  refine qst rfl rfl (q_cp rfl h1 rfl rfl rfl) ?_
  repeat refine stq rfl ?_
  exact end1i rfl rfl rfl
 |true =>
 rw [hi] at h1
 cases hd : inside p.day 0 10000 with
 |false =>
  rw [hd] at h2
  refine Ret.of_pwp layOk mixed Go.Proofs.Tryz.func16 rfl (by decide) rfl rfl ?_
  repeat refine stq rfl ?_
  refine qst rfl rfl (q_cp rfl h1 rfl rfl rfl) ?_
  repeat refine stq rfl ?_
  refine qst rfl rfl (q_cp rfl h2 rfl rfl rfl) ?_
  repeat refine stq rfl ?_
  exact end1i rfl rfl rfl
 |true =>
 rw [hd] at h2
 rw [if_pos ⟨rfl,rfl⟩]
 have hfl := fdsOf_len p.op
 have htl : ((fdsOf p.op).map Fd.tm).length = (fdsOf p.op).length := List.length_map _
 refine Ret.of_pwp layOk mixed Go.Proofs.Tryz.func16 rfl (by decide) rfl rfl ?_
 repeat refine stq rfl ?_
 refine qst rfl rfl (q_cp rfl h1 rfl rfl rfl) ?_
 repeat refine stq rfl ?_
 refine qst rfl rfl (q_cp rfl h2 rfl rfl rfl) ?_
 iterate 6 refine stq rfl ?_
 ((repeat (first | refine x_norm ?_ | refine pw_seq ?_));refine pw_regionS 0 ?_)
 refine ps_nil ?_
 refine psem_sm rfl (sm_callP ((fdsOf p.op).map Fd.tm) (fun b off => fields_tm b off p.op) rfl rfl rfl rfl rfl rfl (fdsOf_tm_ok p.op) rfl ?_)
 refine psem_ops ?_
 rw [htl]
 repeat refine stq rfl ?_
 have hrow : ∀ (k : Nat) (f : Fd),(fdsOf p.op)[k]? = some f → (((fdsOf p.op).map Fd.tm).map fun r => r.map (TC.inst fun o => PV.ptr 1 1 0 o))[0 + (k : Int).toNat]? = some (f.tm.map (TC.inst fun o => PV.ptr 1 1 0 o)) := fun k f h => by
  rw [List.getElem?_map,List.getElem?_map,Int.toNat_natCast,Nat.zero_add,h];rfl
 generalize (((fdsOf p.op).map Fd.tm).map fun r => r.map (TC.inst fun o => PV.ptr 1 1 0 o)) = rows at hrow
 clear h1 h2
 have hN := fun s => isName_ret s
 have hB := between_ret
 generalize fdsOf p.op = fs at *
 refine pw_loop (ClearE fs fun _ f => f.err p) (fun k => [(1,.ptr 1 1 0 0),(15,.als 15 1 0 fs.length),(16,I fs.length),(17,I k)]) (fun _ => [(1,1,⟨23,9,[ePost p],2⟩),(15,1,⟨125,4,rows,2⟩)]) (fun k => fs.length - k) 0 .zero' ⟨rfl,rfl,rfl,rfl,rfl,rfl,trivial⟩ ?_
 intro k s hk
 have hkl := hk.1
 repeat refine stq rfl ?_
 refine pw_cond rfl (fun h => ?_) (fun h => ?_)
 ·have hlt : k < fs.length := by simpa using h
  clear h
  obtain ⟨f,hf⟩ := get_lt hlt
  have hr := hrow k f hf
  cases f
  case o =>
   have hn := hN p.order
   have he : (Fd.o).err p = if isName p.order = true then 0 else 4 := rfl
   generalize isName p.order = b at hn he
   repeat refine stq rfl ?_
   refine qst rfl rfl (q_idxA rfl rfl rfl rfl rfl rfl rfl (by omega) (by omega)) ?_
   refine qst rfl rfl (q_ldp rfl rfl rfl hr rfl) ?_
   repeat refine stq rfl ?_
   refine qst rfl rfl (q_cp rfl hn rfl rfl rfl) ?_
   cases b with
   |true =>
    repeat refine stq rfl ?_
    refine pw_draw 16 [34,35,36,37,38,39,40,41,42,43,44,45,46,47,48,33] (by decide +kernel) ?_
    repeat refine stq rfl ?_
    exact ⟨k + 1,hk.succ hf he,by omega,rfl,rfl,rfl,i64_next (by omega) (by omega),rfl,rfl,trivial⟩
   |false =>
    repeat refine stq rfl ?_
    exact end1i rfl rfl (by rw [hk.found hf he (by decide)];rfl)
  case i =>
   have hn := hN p.item
   have he : (Fd.i).err p = if isName p.item = true then 0 else 4 := rfl
   generalize isName p.item = b at hn he
   repeat refine stq rfl ?_
   refine qst rfl rfl (q_idxA rfl rfl rfl rfl rfl rfl rfl (by omega) (by omega)) ?_
   refine qst rfl rfl (q_ldp rfl rfl rfl hr rfl) ?_
   repeat refine stq rfl ?_
   refine qst rfl rfl (q_cp rfl hn rfl rfl rfl) ?_
   cases b with
   |true =>
    repeat refine stq rfl ?_
    refine pw_draw 16 [34,35,36,37,38,39,40,41,42,43,44,45,46,47,48,33] (by decide +kernel) ?_
    repeat refine stq rfl ?_
    exact ⟨k + 1,hk.succ hf he,by omega,rfl,rfl,rfl,i64_next (by omega) (by omega),rfl,rfl,trivial⟩
   |false =>
    repeat refine stq rfl ?_
    exact end1i rfl rfl (by rw [hk.found hf he (by decide)];rfl)
  case s =>
   have hn := hN p.ship
   have he : (Fd.s).err p = if isName p.ship = true then 0 else 4 := rfl
   generalize isName p.ship = b at hn he
   repeat refine stq rfl ?_
   refine qst rfl rfl (q_idxA rfl rfl rfl rfl rfl rfl rfl (by omega) (by omega)) ?_
   refine qst rfl rfl (q_ldp rfl rfl rfl hr rfl) ?_
   repeat refine stq rfl ?_
   refine qst rfl rfl (q_cp rfl hn rfl rfl rfl) ?_
   cases b with
   |true =>
    repeat refine stq rfl ?_
    refine pw_draw 16 [34,35,36,37,38,39,40,41,42,43,44,45,46,47,48,33] (by decide +kernel) ?_
    repeat refine stq rfl ?_
    exact ⟨k + 1,hk.succ hf he,by omega,rfl,rfl,rfl,i64_next (by omega) (by omega),rfl,rfl,trivial⟩
   |false =>
    repeat refine stq rfl ?_
    exact end1i rfl rfl (by rw [hk.found hf he (by decide)];rfl)
  case w =>
   have hn := hN p.who
   have he : (Fd.w).err p = if isName p.who = true then 0 else 4 := rfl
   generalize isName p.who = b at hn he
   repeat refine stq rfl ?_
   refine qst rfl rfl (q_idxA rfl rfl rfl rfl rfl rfl rfl (by omega) (by omega)) ?_
   refine qst rfl rfl (q_ldp rfl rfl rfl hr rfl) ?_
   repeat refine stq rfl ?_
   refine qst rfl rfl (q_cp rfl hn rfl rfl rfl) ?_
   cases b with
   |true =>
    repeat refine stq rfl ?_
    refine pw_draw 16 [34,35,36,37,38,39,40,41,42,43,44,45,46,47,48,33] (by decide +kernel) ?_
    repeat refine stq rfl ?_
    exact ⟨k + 1,hk.succ hf he,by omega,rfl,rfl,rfl,i64_next (by omega) (by omega),rfl,rfl,trivial⟩
   |false =>
    repeat refine stq rfl ?_
    exact end1i rfl rfl (by rw [hk.found hf he (by decide)];rfl)
  case a lo hi =>
   have hn := hB p.amount lo hi
   have he : (Fd.a lo hi).err p = if inside p.amount lo hi = true then 0 else 2 := rfl
   generalize inside p.amount lo hi = b at hn he
   repeat refine stq rfl ?_
   refine qst rfl rfl (q_idxA rfl rfl rfl rfl rfl rfl rfl (by omega) (by omega)) ?_
   refine qst rfl rfl (q_ldp rfl rfl rfl hr rfl) ?_
   repeat refine stq rfl ?_
   refine pw_draw 16 [34,35,36,37,38,39,40,41,42,43,44,45,46,47,48,33] (by decide +kernel) ?_
   repeat refine stq rfl ?_
   refine qst rfl rfl (q_cp rfl hn rfl rfl rfl) ?_
   cases b with
   |true =>
    repeat refine stq rfl ?_
    exact ⟨k + 1,hk.succ hf he,by omega,rfl,rfl,rfl,i64_next (by omega) (by omega),rfl,rfl,trivial⟩
   |false =>
    repeat refine stq rfl ?_
    exact end1i rfl rfl (by rw [hk.found hf he (by decide)];rfl)
  case r lo hi =>
   have hn := hB p.ref lo hi
   have he : (Fd.r lo hi).err p = if inside p.ref lo hi = true then 0 else 2 := rfl
   generalize inside p.ref lo hi = b at hn he
   repeat refine stq rfl ?_
   refine qst rfl rfl (q_idxA rfl rfl rfl rfl rfl rfl rfl (by omega) (by omega)) ?_
   refine qst rfl rfl (q_ldp rfl rfl rfl hr rfl) ?_
   repeat refine stq rfl ?_
   refine pw_draw 16 [34,35,36,37,38,39,40,41,42,43,44,45,46,47,48,33] (by decide +kernel) ?_
   repeat refine stq rfl ?_
   refine qst rfl rfl (q_cp rfl hn rfl rfl rfl) ?_
   cases b with
   |true =>
    repeat refine stq rfl ?_
    exact ⟨k + 1,hk.succ hf he,by omega,rfl,rfl,rfl,i64_next (by omega) (by omega),rfl,rfl,trivial⟩
   |false =>
    repeat refine stq rfl ?_
    exact end1i rfl rfl (by rw [hk.found hf he (by decide)];rfl)
  case l lo hi =>
   have hn := hB p.role lo hi
   have he : (Fd.l lo hi).err p = if inside p.role lo hi = true then 0 else 2 := rfl
   generalize inside p.role lo hi = b at hn he
   repeat refine stq rfl ?_
   refine qst rfl rfl (q_idxA rfl rfl rfl rfl rfl rfl rfl (by omega) (by omega)) ?_
   refine qst rfl rfl (q_ldp rfl rfl rfl hr rfl) ?_
   repeat refine stq rfl ?_
   refine pw_draw 16 [34,35,36,37,38,39,40,41,42,43,44,45,46,47,48,33] (by decide +kernel) ?_
   repeat refine stq rfl ?_
   refine qst rfl rfl (q_cp rfl hn rfl rfl rfl) ?_
   cases b with
   |true =>
    repeat refine stq rfl ?_
    exact ⟨k + 1,hk.succ hf he,by omega,rfl,rfl,rfl,i64_next (by omega) (by omega),rfl,rfl,trivial⟩
   |false =>
    repeat refine stq rfl ?_
    exact end1i rfl rfl (by rw [hk.found hf he (by decide)];rfl)
 ·repeat refine stq rfl ?_
  exact end1i rfl rfl (by rw [hk.none (by simpa using h)])
end Go.Pv


set_option maxHeartbeats 2000000
namespace Go.Pv
attribute [local irreducible] PWP POps PQuiet PSem XThen XBlock RetPost InlPost
open Go.Proofs
def Fd.set (p o : SPost) : Fd → SPost
 |.o => { o with order := p.order }
 |.i => { o with item := p.item }
 |.s => { o with ship := p.ship }
 |.w => { o with who := p.who }
 |.a _ _ => { o with amount := p.amount }
 |.r _ _ => { o with ref := p.ref }
 |.l _ _ => { o with role := p.role }
def bareP (p : SPost) : SPost := ⟨p.op,p.day,[],[],[],[],0,0,0⟩
def cpyK (p : SPost) (fs : List Fd) : SPost := fs.foldl (fun o f => f.set p o) (bareP p)
def cleanP (p : SPost) : SPost := cpyK p (fdsOf p.op)
theorem cpyK_snoc (p : SPost) {fs : List Fd} {k : Nat} {f : Fd} (h : fs[k]? = some f) : cpyK p (fs.take (k + 1)) = f.set p (cpyK p (fs.take k)) := by
 rw [take_snoc h,cpyK,List.foldl_append];rfl
set_option maxRecDepth 20000 in
theorem cleared_ret (p : SPost) : Ret Tryz.prog .shared 103 [.agg (ePost p)] (.agg (ePost (cleanP p))) := by
 have hfl := fdsOf_len p.op
 have htl : ((fdsOf p.op).map Fd.tm).length = (fdsOf p.op).length := List.length_map _
 rw [cleanP]
 refine Ret.of_pwp layOk mixed Go.Proofs.Tryz.func103 rfl (by decide) rfl rfl ?_
 ((repeat (first | refine ps_nil ?_ | refine pq_nil ?_ | refine x_norm ?_ | refine pw_seq ?_));refine pw_region ?_)
 refine ps_run (o_box rfl rfl rfl (by repeat' constructor) rfl ?_)
 iterate 13 refine stq rfl ?_
 ((repeat (first | refine x_norm ?_ | refine pw_seq ?_));refine pw_regionS 0 ?_)
 refine ps_nil ?_
 refine psem_sm rfl (sm_callP ((fdsOf p.op).map Fd.tm) (fun b off => fields_tm b off p.op) rfl rfl rfl rfl rfl rfl (fdsOf_tm_ok p.op) rfl ?_)
 refine psem_ops ?_
 rw [htl]
 refine ps_v rfl trivial ?_
 refine ps_nil ?_
 ((repeat (first | refine x_norm ?_ | refine pw_seq ?_));refine pw_regionS 0 ?_)
 refine ps_nil ?_
 refine psem_sm rfl (sm_callP ((fdsOf p.op).map Fd.tm) (fun b off => fields_tm b off p.op) rfl rfl rfl rfl rfl rfl (fdsOf_tm_ok p.op) rfl ?_)
 refine psem_ops ?_
 rw [htl]
 repeat refine stq rfl ?_
 have hrow : ∀ (q : Nat) (k : Nat) (f : Fd),(fdsOf p.op)[k]? = some f → (((fdsOf p.op).map Fd.tm).map fun r => r.map (TC.inst fun o => PV.ptr q 1 0 o))[0 + (k : Int).toNat]? = some (f.tm.map (TC.inst fun o => PV.ptr q 1 0 o)) := fun q k f h => by
  rw [List.getElem?_map,List.getElem?_map,Int.toNat_natCast,Nat.zero_add,h];rfl
 have hr1 := hrow 1
 have hr3 := hrow 3
 clear hrow
 refine pw_loop (fun k => k ≤ (fdsOf p.op).length) (fun k => [(2,.ptr 2 1 0 0),(3,.ptr 3 1 0 0),(4,.als 12 1 0 (fdsOf p.op).length),(13,.als 13 1 0 (fdsOf p.op).length),(14,I (fdsOf p.op).length),(15,I k)])
  (fun k => [(1,1,⟨23,9,[ePost p],2⟩),(2,1,⟨23,9,[[I 0,I 0,.str [],.str [],.str [],.str [],I 0,I 0,I 0]],2⟩),(3,1,⟨23,9,[ePost (cpyK p ((fdsOf p.op).take k))],2⟩),
   (12,1,⟨125,4,((fdsOf p.op).map Fd.tm).map fun r => r.map (TC.inst fun o => PV.ptr 3 1 0 o),2⟩),(13,1,⟨125,4,((fdsOf p.op).map Fd.tm).map fun r => r.map (TC.inst fun o => PV.ptr 1 1 0 o),2⟩)]) (fun k => (fdsOf p.op).length - k) 0 (Nat.zero_le _) ⟨rfl,rfl,rfl,rfl,rfl,rfl,rfl,rfl,rfl,rfl,rfl,trivial⟩ ?_
 generalize (((fdsOf p.op).map Fd.tm).map fun r => r.map (TC.inst fun o => PV.ptr 1 1 0 o)) = rows1 at *
 generalize (((fdsOf p.op).map Fd.tm).map fun r => r.map (TC.inst fun o => PV.ptr 3 1 0 o)) = rows3 at *
 generalize fdsOf p.op = fs at *
 intro k s hk
 have hk : k ≤ fs.length := hk
 repeat refine stq rfl ?_
 refine pw_cond rfl (fun h => ?_) (fun h => ?_)
 ·have hlt : k < fs.length := by simpa using h
  clear h
  obtain ⟨f,hf⟩ := get_lt hlt
  have g1 := hr1 k f hf
  have g3 := hr3 k f hf
  have hnx := cpyK_snoc p hf
  generalize cpyK p (fs.take k) = q at *
  cases f
  case o =>
   repeat refine stq rfl ?_
   refine qst rfl rfl (q_idxA rfl rfl rfl rfl rfl rfl rfl (by omega) (by omega)) ?_
   refine qst rfl rfl (q_ldp rfl rfl rfl g1 rfl) ?_
   repeat refine stq rfl ?_
   refine pw_draw 10 [23,24,25,26,27,28,29,30,31,32] (by decide +kernel) ?_
   repeat refine stq rfl ?_
   refine qst rfl rfl (q_idxA rfl rfl rfl rfl rfl rfl rfl (by omega) (by omega)) ?_
   repeat refine stq rfl ?_
   refine qst rfl rfl (q_ldp rfl rfl rfl g3 rfl) ?_
   repeat refine stq rfl ?_
   exact ⟨k + 1,hlt,by omega,rfl,rfl,rfl,rfl,rfl,i64_next (by omega) (by omega),rfl,rfl,by rw [hnx];rfl,rfl,rfl,trivial⟩
  case i =>
   repeat refine stq rfl ?_
   refine qst rfl rfl (q_idxA rfl rfl rfl rfl rfl rfl rfl (by omega) (by omega)) ?_
   refine qst rfl rfl (q_ldp rfl rfl rfl g1 rfl) ?_
   repeat refine stq rfl ?_
   refine pw_draw 10 [23,24,25,26,27,28,29,30,31,32] (by decide +kernel) ?_
   repeat refine stq rfl ?_
   refine qst rfl rfl (q_idxA rfl rfl rfl rfl rfl rfl rfl (by omega) (by omega)) ?_
   repeat refine stq rfl ?_
   refine qst rfl rfl (q_ldp rfl rfl rfl g3 rfl) ?_
   repeat refine stq rfl ?_
   exact ⟨k + 1,hlt,by omega,rfl,rfl,rfl,rfl,rfl,i64_next (by omega) (by omega),rfl,rfl,by rw [hnx];rfl,rfl,rfl,trivial⟩
  case s =>
   repeat refine stq rfl ?_
   refine qst rfl rfl (q_idxA rfl rfl rfl rfl rfl rfl rfl (by omega) (by omega)) ?_
   refine qst rfl rfl (q_ldp rfl rfl rfl g1 rfl) ?_
   repeat refine stq rfl ?_
   refine pw_draw 10 [23,24,25,26,27,28,29,30,31,32] (by decide +kernel) ?_
   repeat refine stq rfl ?_
   refine qst rfl rfl (q_idxA rfl rfl rfl rfl rfl rfl rfl (by omega) (by omega)) ?_
   repeat refine stq rfl ?_
   refine qst rfl rfl (q_ldp rfl rfl rfl g3 rfl) ?_
   repeat refine stq rfl ?_
   exact ⟨k + 1,hlt,by omega,rfl,rfl,rfl,rfl,rfl,i64_next (by omega) (by omega),rfl,rfl,by rw [hnx];rfl,rfl,rfl,trivial⟩
  case w =>
   repeat refine stq rfl ?_
   refine qst rfl rfl (q_idxA rfl rfl rfl rfl rfl rfl rfl (by omega) (by omega)) ?_
   refine qst rfl rfl (q_ldp rfl rfl rfl g1 rfl) ?_
   repeat refine stq rfl ?_
   refine pw_draw 10 [23,24,25,26,27,28,29,30,31,32] (by decide +kernel) ?_
   repeat refine stq rfl ?_
   refine qst rfl rfl (q_idxA rfl rfl rfl rfl rfl rfl rfl (by omega) (by omega)) ?_
   repeat refine stq rfl ?_
   refine qst rfl rfl (q_ldp rfl rfl rfl g3 rfl) ?_
   repeat refine stq rfl ?_
   exact ⟨k + 1,hlt,by omega,rfl,rfl,rfl,rfl,rfl,i64_next (by omega) (by omega),rfl,rfl,by rw [hnx];rfl,rfl,rfl,trivial⟩
  case a lo hi =>
   repeat refine stq rfl ?_
   refine qst rfl rfl (q_idxA rfl rfl rfl rfl rfl rfl rfl (by omega) (by omega)) ?_
   refine qst rfl rfl (q_ldp rfl rfl rfl g1 rfl) ?_
   repeat refine stq rfl ?_
   refine pw_draw 10 [33,34,35,36,37,38,39,40,41,42] (by decide +kernel) ?_
   repeat refine stq rfl ?_
   refine qst rfl rfl (q_idxA rfl rfl rfl rfl rfl rfl rfl (by omega) (by omega)) ?_
   repeat refine stq rfl ?_
   refine qst rfl rfl (q_ldp rfl rfl rfl g3 rfl) ?_
   repeat refine stq rfl ?_
   exact ⟨k + 1,hlt,by omega,rfl,rfl,rfl,rfl,rfl,i64_next (by omega) (by omega),rfl,rfl,by rw [hnx];rfl,rfl,rfl,trivial⟩
  case r lo hi =>
   repeat refine stq rfl ?_
   refine qst rfl rfl (q_idxA rfl rfl rfl rfl rfl rfl rfl (by omega) (by omega)) ?_
   refine qst rfl rfl (q_ldp rfl rfl rfl g1 rfl) ?_
   repeat refine stq rfl ?_
   refine pw_draw 10 [33,34,35,36,37,38,39,40,41,42] (by decide +kernel) ?_
   repeat refine stq rfl ?_
   refine qst rfl rfl (q_idxA rfl rfl rfl rfl rfl rfl rfl (by omega) (by omega)) ?_
   repeat refine stq rfl ?_
   refine qst rfl rfl (q_ldp rfl rfl rfl g3 rfl) ?_
   repeat refine stq rfl ?_
   exact ⟨k + 1,hlt,by omega,rfl,rfl,rfl,rfl,rfl,i64_next (by omega) (by omega),rfl,rfl,by rw [hnx];rfl,rfl,rfl,trivial⟩
  case l lo hi =>
   repeat refine stq rfl ?_
   refine qst rfl rfl (q_idxA rfl rfl rfl rfl rfl rfl rfl (by omega) (by omega)) ?_
   refine qst rfl rfl (q_ldp rfl rfl rfl g1 rfl) ?_
   repeat refine stq rfl ?_
   refine pw_draw 10 [33,34,35,36,37,38,39,40,41,42] (by decide +kernel) ?_
   repeat refine stq rfl ?_
   refine qst rfl rfl (q_idxA rfl rfl rfl rfl rfl rfl rfl (by omega) (by omega)) ?_
   repeat refine stq rfl ?_
   refine qst rfl rfl (q_ldp rfl rfl rfl g3 rfl) ?_
   repeat refine stq rfl ?_
   exact ⟨k + 1,hlt,by omega,rfl,rfl,rfl,rfl,rfl,i64_next (by omega) (by omega),rfl,rfl,by rw [hnx];rfl,rfl,rfl,trivial⟩
 ·have hz : k = fs.length := by have : ¬ k < fs.length := by simpa using h
                                omega
  subst hz
  rw [List.take_length]
  repeat refine stq rfl ?_
  exact endc rfl rfl rfl rfl (by repeat' constructor) rfl
end Go.Pv


set_option maxHeartbeats 2000000
namespace Go.Pv
attribute [local irreducible] PWP POps PQuiet PSem XThen XBlock RetPost InlPost
open Go.Proofs
def Fd.chr : Fd → UInt8
 |.o => 111 | .i => 105 | .s => 115 | .w => 119 | .a _ _ => 97 | .r _ _ => 114 | .l _ _ => 108
theorem op_cases {op : Int} (h : inside op 0 8 = true) : op = 0 ∨ op = 1 ∨ op = 2 ∨ op = 3 ∨ op = 4 ∨ op = 5 ∨ op = 6 ∨ op = 7 ∨ op = 8 := by
 simp [inside] at h;omega
theorem fields_ref (op : Int) (h : inside op 0 8 = true) : Ret Tryz.prog .shared 59 [I op] (.str ((fdsOf op).map Fd.chr)) := by
 rcases op_cases h with rfl | rfl | rfl | rfl | rfl | rfl | rfl | rfl | rfl <;> clear h <;>
 ·refine Ret.of_pwp layOk mixed Go.Proofs.Tryz.func59 rfl (by decide) rfl rfl ?_
  repeat refine stq rfl ?_
  refine qst rfl rfl (q_slit rfl rfl rfl rfl rfl rfl rfl rfl rfl rfl (by repeat' constructor) rfl) ?_
  repeat refine stq rfl ?_
  refine qst rfl rfl (q_idxF rfl rfl rfl rfl rfl (by decide) rfl rfl) ?_
  repeat refine stq rfl ?_
  exact end1 rfl rfl rfl trivial rfl
def Fd.isT : Fd → Bool
 |.o | .i | .s | .w => true
 |_ => false
theorem text_ref (p : SPost) (f : Fd) (h : f.isT = true) : Ret Tryz.prog .shared 60 [.agg (ePost p),.int .u8 f.chr.toNat] (.str (f.txt p)) := by
 cases f <;> simp only [Fd.isT,Bool.false_eq_true] at h <;> clear h
 ·show Ret Tryz.prog .shared 60 [.agg (ePost p),.int .u8 111] _
  refine Ret.of_pwp layOk mixed Go.Proofs.Tryz.func60 rfl (by decide) rfl rfl ?_
  repeat refine stq rfl ?_
  exact end1 rfl rfl rfl trivial rfl
 ·show Ret Tryz.prog .shared 60 [.agg (ePost p),.int .u8 105] _
  refine Ret.of_pwp layOk mixed Go.Proofs.Tryz.func60 rfl (by decide) rfl rfl ?_
  repeat refine stq rfl ?_
  exact end1 rfl rfl rfl trivial rfl
 ·show Ret Tryz.prog .shared 60 [.agg (ePost p),.int .u8 115] _
  refine Ret.of_pwp layOk mixed Go.Proofs.Tryz.func60 rfl (by decide) rfl rfl ?_
  repeat refine stq rfl ?_
  exact end1 rfl rfl rfl trivial rfl
 ·show Ret Tryz.prog .shared 60 [.agg (ePost p),.int .u8 119] _
  refine Ret.of_pwp layOk mixed Go.Proofs.Tryz.func60 rfl (by decide) rfl rfl ?_
  repeat refine stq rfl ?_
  exact end1 rfl rfl rfl trivial rfl
def amtB (op n : Int) : Bool := if op = 1 ∨ op = 3 then inside n 0 1000000000 else if op = 7 then inside n 1 1000000000 else inside n (-1000000000) 1000000000
theorem amount_ref (op n : Int) (h : inside op 0 8 = true) : Ret Tryz.prog .shared 71 [I op,I n] (.bool (amtB op n)) := by
 have h1 := within_ret n
 rcases op_cases h with rfl | rfl | rfl | rfl | rfl | rfl | rfl | rfl | rfl <;> clear h
 ·refine Ret.of_pwp layOk mixed Go.Proofs.Tryz.func71 rfl (by decide) rfl rfl ?_
  repeat refine stq rfl ?_
  refine qst rfl rfl (q_cp rfl (h1 (-1000000000) 1000000000) rfl rfl rfl) ?_
  repeat refine stq rfl ?_
  exact end1b rfl rfl rfl
 ·refine Ret.of_pwp layOk mixed Go.Proofs.Tryz.func71 rfl (by decide) rfl rfl ?_
  repeat refine stq rfl ?_
  refine qst rfl rfl (q_cp rfl (h1 0 1000000000) rfl rfl rfl) ?_
  repeat refine stq rfl ?_
  exact end1b rfl rfl rfl
 ·refine Ret.of_pwp layOk mixed Go.Proofs.Tryz.func71 rfl (by decide) rfl rfl ?_
  repeat refine stq rfl ?_
  refine qst rfl rfl (q_cp rfl (h1 (-1000000000) 1000000000) rfl rfl rfl) ?_
  repeat refine stq rfl ?_
  exact end1b rfl rfl rfl
 ·refine Ret.of_pwp layOk mixed Go.Proofs.Tryz.func71 rfl (by decide) rfl rfl ?_
  repeat refine stq rfl ?_
  refine qst rfl rfl (q_cp rfl (h1 0 1000000000) rfl rfl rfl) ?_
  repeat refine stq rfl ?_
  exact end1b rfl rfl rfl
 ·refine Ret.of_pwp layOk mixed Go.Proofs.Tryz.func71 rfl (by decide) rfl rfl ?_
  repeat refine stq rfl ?_
  refine qst rfl rfl (q_cp rfl (h1 (-1000000000) 1000000000) rfl rfl rfl) ?_
  repeat refine stq rfl ?_
  exact end1b rfl rfl rfl
 ·refine Ret.of_pwp layOk mixed Go.Proofs.Tryz.func71 rfl (by decide) rfl rfl ?_
  repeat refine stq rfl ?_
  refine qst rfl rfl (q_cp rfl (h1 (-1000000000) 1000000000) rfl rfl rfl) ?_
  repeat refine stq rfl ?_
  exact end1b rfl rfl rfl
 ·refine Ret.of_pwp layOk mixed Go.Proofs.Tryz.func71 rfl (by decide) rfl rfl ?_
  repeat refine stq rfl ?_
  refine qst rfl rfl (q_cp rfl (h1 (-1000000000) 1000000000) rfl rfl rfl) ?_
  repeat refine stq rfl ?_
  exact end1b rfl rfl rfl
 ·refine Ret.of_pwp layOk mixed Go.Proofs.Tryz.func71 rfl (by decide) rfl rfl ?_
  repeat refine stq rfl ?_
  refine qst rfl rfl (q_cp rfl (h1 1 1000000000) rfl rfl rfl) ?_
  repeat refine stq rfl ?_
  exact end1b rfl rfl rfl
 ·refine Ret.of_pwp layOk mixed Go.Proofs.Tryz.func71 rfl (by decide) rfl rfl ?_
  repeat refine stq rfl ?_
  refine qst rfl rfl (q_cp rfl (h1 (-1000000000) 1000000000) rfl rfl rfl) ?_
  repeat refine stq rfl ?_
  exact end1b rfl rfl rfl
theorem fdsOf_bounds {op : Int} {f : Fd} (h : f ∈ fdsOf op) (hi : inside op 0 8 = true) : match f with
  |.a lo hi => ∀ n,amtB op n = inside n lo hi
  |.r lo hi => lo = 1 ∧ hi = 400
  |.l lo hi => lo = 0 ∧ hi = 1
  |_ => True := by
 rcases op_cases hi with rfl | rfl | rfl | rfl | rfl | rfl | rfl | rfl | rfl <;> clear hi <;> simp [fdsOf] at h <;> rcases h with rfl | rfl | rfl | rfl <;> simp [amtB]
set_option maxRecDepth 20000 in
theorem checkPost_ref (p : SPost) : Ret Tryz.prog .shared 17 [.agg (ePost p)] (I (checkE p)) := by
 have h1 := within_ret p.op 0 8
 have h2 := within_ret p.day 0 10000
 rw [checkE]
 cases hi : inside p.op 0 8 with
 |false =>
  rw [hi] at h1
  refine Ret.of_pwp layOk mixed Go.Proofs.Tryz.func17 rfl (by decide) rfl rfl ?_
  repeat refine stq rfl ?_
  refine qst rfl rfl (q_cp rfl h1 rfl rfl rfl) ?_
  repeat refine stq rfl ?_
  exact end1i rfl rfl rfl
 |true =>
 rw [hi] at h1
 cases hd : inside p.day 0 10000 with
 |false =>
  rw [hd] at h2
  refine Ret.of_pwp layOk mixed Go.Proofs.Tryz.func17 rfl (by decide) rfl rfl ?_
  repeat refine stq rfl ?_
  refine qst rfl rfl (q_cp rfl h1 rfl rfl rfl) ?_
  repeat refine stq rfl ?_
  refine qst rfl rfl (q_cp rfl h2 rfl rfl rfl) ?_
  repeat refine stq rfl ?_
  exact end1i rfl rfl rfl
 |true =>
 rw [hd] at h2
 rw [if_pos ⟨rfl,rfl⟩]
 have hfl := fdsOf_len p.op
 have h47 := fields_ref p.op hi
 have hml : ((fdsOf p.op).map Fd.chr).length = (fdsOf p.op).length := List.length_map _
 have h60 := text_ref p
 have h59 := isName_ref
 have h61 := amount_ref p.op p.amount hi
 have h58 := within_ret
 refine Ret.of_pwp layOk mixed Go.Proofs.Tryz.func17 rfl (by decide) rfl rfl ?_
 repeat refine stq rfl ?_
 refine qst rfl rfl (q_cp rfl h1 rfl rfl rfl) ?_
 repeat refine stq rfl ?_
 refine qst rfl rfl (q_cp rfl h2 rfl rfl rfl) ?_
 repeat refine stq rfl ?_
 refine qst rfl rfl (q_cp rfl h47 rfl rfl rfl) ?_
 repeat refine stq rfl ?_
 refine pw_loop (ClearE (fdsOf p.op) fun _ f => f.err p) (fun k => [(1,.ptr 1 1 0 0),(3,.str ((fdsOf p.op).map Fd.chr)),(4,I k)]) (fun _ => [(1,1,⟨23,9,[ePost p],2⟩)]) (fun k => (fdsOf p.op).length - k) 0 .zero' ⟨rfl,rfl,rfl,rfl,trivial⟩ ?_
 intro k s hk
 have hkl := hk.1
 repeat refine stq rfl ?_
 rw [hml]
 refine pw_cond rfl (fun h => ?_) (fun h => ?_)
 ·have hlt : k < (fdsOf p.op).length := by simpa using h
  clear h
  obtain ⟨f,hf⟩ := get_lt hlt
  have hbd := fdsOf_bounds (List.mem_of_getElem? hf) hi
  cases f
  case o =>
   have hn : ((((fdsOf p.op).map Fd.chr).getD ((k : Nat) : Int).toNat 0).toNat : Int) = 111 := by
    rw [Int.toNat_natCast,List.getD_eq_getElem?_getD,List.getElem?_map,hf];rfl
   have h60 := h60 .o rfl
   have h59 := h59 p.order
   have he : (Fd.o).err p = if isName p.order = true then 0 else 4 := rfl
   generalize isName p.order = b at h59 he
   repeat refine stq rfl ?_
   refine ps_v rfl ⟨by omega,by rw [hml];omega⟩ ?_
   rw [hn]
   repeat refine stq rfl ?_
   refine pw_draw 7 [32,33,34,35,36,37,38] (by decide +kernel) ?_
   repeat refine stq rfl ?_
   refine qst rfl rfl (.v rfl ⟨by omega,by rw [hml];omega⟩) ?_
   rw [hn]
   repeat refine stq rfl ?_
   refine qst rfl rfl (q_cp rfl h60 rfl rfl rfl) ?_
   repeat refine stq rfl ?_
   refine qst rfl rfl (q_cp rfl h59 rfl rfl rfl) ?_
   cases b with
   |true =>
    repeat refine stq rfl ?_
    exact ⟨k + 1,hk.succ hf he,by omega,rfl,rfl,i64_next (by omega) (by omega),rfl,trivial⟩
   |false =>
    repeat refine stq rfl ?_
    exact end1i rfl rfl (by rw [hk.found hf he (by decide)];rfl)
  case i =>
   have hn : ((((fdsOf p.op).map Fd.chr).getD ((k : Nat) : Int).toNat 0).toNat : Int) = 105 := by
    rw [Int.toNat_natCast,List.getD_eq_getElem?_getD,List.getElem?_map,hf];rfl
   have h60 := h60 .i rfl
   have h59 := h59 p.item
   have he : (Fd.i).err p = if isName p.item = true then 0 else 4 := rfl
   generalize isName p.item = b at h59 he
   repeat refine stq rfl ?_
   refine ps_v rfl ⟨by omega,by rw [hml];omega⟩ ?_
   rw [hn]
   repeat refine stq rfl ?_
   refine pw_draw 7 [32,33,34,35,36,37,38] (by decide +kernel) ?_
   repeat refine stq rfl ?_
   refine qst rfl rfl (.v rfl ⟨by omega,by rw [hml];omega⟩) ?_
   rw [hn]
   repeat refine stq rfl ?_
   refine qst rfl rfl (q_cp rfl h60 rfl rfl rfl) ?_
   repeat refine stq rfl ?_
   refine qst rfl rfl (q_cp rfl h59 rfl rfl rfl) ?_
   cases b with
   |true =>
    repeat refine stq rfl ?_
    exact ⟨k + 1,hk.succ hf he,by omega,rfl,rfl,i64_next (by omega) (by omega),rfl,trivial⟩
   |false =>
    repeat refine stq rfl ?_
    exact end1i rfl rfl (by rw [hk.found hf he (by decide)];rfl)
  case s =>
   have hn : ((((fdsOf p.op).map Fd.chr).getD ((k : Nat) : Int).toNat 0).toNat : Int) = 115 := by
    rw [Int.toNat_natCast,List.getD_eq_getElem?_getD,List.getElem?_map,hf];rfl
   have h60 := h60 .s rfl
   have h59 := h59 p.ship
   have he : (Fd.s).err p = if isName p.ship = true then 0 else 4 := rfl
   generalize isName p.ship = b at h59 he
   repeat refine stq rfl ?_
   refine ps_v rfl ⟨by omega,by rw [hml];omega⟩ ?_
   rw [hn]
   repeat refine stq rfl ?_
   refine pw_draw 7 [32,33,34,35,36,37,38] (by decide +kernel) ?_
   repeat refine stq rfl ?_
   refine qst rfl rfl (.v rfl ⟨by omega,by rw [hml];omega⟩) ?_
   rw [hn]
   repeat refine stq rfl ?_
   refine qst rfl rfl (q_cp rfl h60 rfl rfl rfl) ?_
   repeat refine stq rfl ?_
   refine qst rfl rfl (q_cp rfl h59 rfl rfl rfl) ?_
   cases b with
   |true =>
    repeat refine stq rfl ?_
    exact ⟨k + 1,hk.succ hf he,by omega,rfl,rfl,i64_next (by omega) (by omega),rfl,trivial⟩
   |false =>
    repeat refine stq rfl ?_
    exact end1i rfl rfl (by rw [hk.found hf he (by decide)];rfl)
  case w =>
   have hn : ((((fdsOf p.op).map Fd.chr).getD ((k : Nat) : Int).toNat 0).toNat : Int) = 119 := by
    rw [Int.toNat_natCast,List.getD_eq_getElem?_getD,List.getElem?_map,hf];rfl
   have h60 := h60 .w rfl
   have h59 := h59 p.who
   have he : (Fd.w).err p = if isName p.who = true then 0 else 4 := rfl
   generalize isName p.who = b at h59 he
   repeat refine stq rfl ?_
   refine ps_v rfl ⟨by omega,by rw [hml];omega⟩ ?_
   rw [hn]
   repeat refine stq rfl ?_
   refine pw_draw 7 [32,33,34,35,36,37,38] (by decide +kernel) ?_
   repeat refine stq rfl ?_
   refine qst rfl rfl (.v rfl ⟨by omega,by rw [hml];omega⟩) ?_
   rw [hn]
   repeat refine stq rfl ?_
   refine qst rfl rfl (q_cp rfl h60 rfl rfl rfl) ?_
   repeat refine stq rfl ?_
   refine qst rfl rfl (q_cp rfl h59 rfl rfl rfl) ?_
   cases b with
   |true =>
    repeat refine stq rfl ?_
    exact ⟨k + 1,hk.succ hf he,by omega,rfl,rfl,i64_next (by omega) (by omega),rfl,trivial⟩
   |false =>
    repeat refine stq rfl ?_
    exact end1i rfl rfl (by rw [hk.found hf he (by decide)];rfl)
  case a lo hi =>
   have hn : ((((fdsOf p.op).map Fd.chr).getD ((k : Nat) : Int).toNat 0).toNat : Int) = 97 := by
    rw [Int.toNat_natCast,List.getD_eq_getElem?_getD,List.getElem?_map,hf];rfl
   rw [hbd p.amount] at h61
   have hc := h61
   have he : (Fd.a lo hi).err p = if inside p.amount lo hi = true then 0 else 2 := rfl
   generalize inside p.amount lo hi = b at hc he
   repeat refine stq rfl ?_
   refine ps_v rfl ⟨by omega,by rw [hml];omega⟩ ?_
   rw [hn]
   repeat refine stq rfl ?_
   refine qst rfl rfl (q_cp rfl hc rfl rfl rfl) ?_
   cases b with
   |true =>
    repeat refine stq rfl ?_
    exact ⟨k + 1,hk.succ hf he,by omega,rfl,rfl,i64_next (by omega) (by omega),rfl,trivial⟩
   |false =>
    repeat refine stq rfl ?_
    exact end1i rfl rfl (by rw [hk.found hf he (by decide)];rfl)
  case r lo hi =>
   have hn : ((((fdsOf p.op).map Fd.chr).getD ((k : Nat) : Int).toNat 0).toNat : Int) = 114 := by
    rw [Int.toNat_natCast,List.getD_eq_getElem?_getD,List.getElem?_map,hf];rfl
   obtain ⟨rfl,rfl⟩ := hbd
   have hc := h58 p.ref 1 400
   have he : (Fd.r 1 400).err p = if inside p.ref 1 400 = true then 0 else 2 := rfl
   generalize inside p.ref 1 400 = b at hc he
   repeat refine stq rfl ?_
   refine ps_v rfl ⟨by omega,by rw [hml];omega⟩ ?_
   rw [hn]
   repeat refine stq rfl ?_
   refine qst rfl rfl (q_cp rfl hc rfl rfl rfl) ?_
   cases b with
   |true =>
    repeat refine stq rfl ?_
    exact ⟨k + 1,hk.succ hf he,by omega,rfl,rfl,i64_next (by omega) (by omega),rfl,trivial⟩
   |false =>
    repeat refine stq rfl ?_
    exact end1i rfl rfl (by rw [hk.found hf he (by decide)];rfl)
  case l lo hi =>
   have hn : ((((fdsOf p.op).map Fd.chr).getD ((k : Nat) : Int).toNat 0).toNat : Int) = 108 := by
    rw [Int.toNat_natCast,List.getD_eq_getElem?_getD,List.getElem?_map,hf];rfl
   obtain ⟨rfl,rfl⟩ := hbd
   have hc := h58 p.role 0 1
   have he : (Fd.l 0 1).err p = if inside p.role 0 1 = true then 0 else 2 := rfl
   generalize inside p.role 0 1 = b at hc he
   repeat refine stq rfl ?_
   refine ps_v rfl ⟨by omega,by rw [hml];omega⟩ ?_
   rw [hn]
   repeat refine stq rfl ?_
   refine qst rfl rfl (q_cp rfl hc rfl rfl rfl) ?_
   cases b with
   |true =>
    repeat refine stq rfl ?_
    exact ⟨k + 1,hk.succ hf he,by omega,rfl,rfl,i64_next (by omega) (by omega),rfl,trivial⟩
   |false =>
    repeat refine stq rfl ?_
    exact end1i rfl rfl (by rw [hk.found hf he (by decide)];rfl)
 ·repeat refine stq rfl ?_
  exact end1i rfl rfl (by rw [hk.none (by simpa using h)])
end Go.Pv


set_option maxHeartbeats 2000000
namespace Go.Pv
attribute [local irreducible] PWP POps PQuiet PSem XThen XBlock RetPost InlPost
open Go.Proofs
theorem checkE_op {p : SPost} (h : checkE p = 0) : inside p.op 0 8 = true ∧ inside p.day 0 10000 = true ∧ fstE (fdsOf p.op) (fun _ f => f.err p) = 0 := by
 rw [checkE] at h
 split at h
 ·rename_i h';exact ⟨h'.1,h'.2,h⟩
 ·omega
theorem checkE_ref {p : SPost} (h : checkE p = 0) (ho : p.op = 4 ∨ p.op = 5 ∨ p.op = 8) : 1 ≤ p.ref ∧ p.ref ≤ 400 := by
 have hz := fstE_zero (checkE_op h).2.2 0 (.r 1 400) (by rcases ho with e | e | e <;> rw [e] <;> rfl)
 have hz : (if inside p.ref 1 400 = true then (0 : Int) else 2) = 0 := hz
 by_cases h' : inside p.ref 1 400 = true
 ·simpa [inside] using h'
 ·rw [if_neg h'] at hz;omega
def refusalR (l : List SPost) (p : SPost) : Int :=
 if checkE p = 0 then (if 400 ≤ l.length then 8 else if 0 < l.length ∧ p.day < (entL l l.length).day then 10 else refE l p) else checkE p
set_option maxRecDepth 20000 in
theorem refusal_ref (l : List SPost) (hW : Wf l) (p : SPost) : Ret Tryz.prog .shared 72 [.sl (l.map ePost),.agg (ePost p)] (I (refusalR l p)) := by
 have hl := hW.len
 have hll : ((l.map ePost).length : Int) = l.length := by simp
 have h39 := checkPost_ref p
 rw [refusalR]
 by_cases hc : checkE p = 0
 case neg =>
  rw [if_neg hc]
  refine Ret.of_pwp layOk mixed Go.Proofs.Tryz.func72 rfl (by decide) rfl rfl ?_
  repeat refine stq rfl ?_
  refine qst rfl rfl (q_cp rfl h39 rfl rfl rfl) ?_
  repeat refine stq rfl ?_
  refine pw_cond rfl (fun h => ?_) (fun h => ?_)
  ·repeat refine stq rfl ?_
   exact end1i rfl rfl rfl
  ·exact absurd (by simpa using h) hc
 rw [if_pos hc]
 have href := checkE_ref hc
 rw [hc] at h39
 have hin := op_cases (checkE_op hc).1
 clear hc
 by_cases h4 : 400 ≤ l.length
 ·rw [if_pos h4]
  refine Ret.of_pwp layOk mixed Go.Proofs.Tryz.func72 rfl (by decide) rfl rfl ?_
  repeat refine stq rfl ?_
  refine qst rfl rfl (q_cp rfl h39 rfl rfl rfl) ?_
  repeat refine stq rfl ?_
  rw [hll]
  refine pw_cond rfl (fun h => ?_) (fun h => ?_)
  ·repeat refine stq rfl ?_
   exact end1i rfl rfl rfl
  ·exact absurd (of_decide_eq_false h) (by omega)
 rw [if_neg h4]
 have h33 := order_ref l p.order hl
 have h41 := item_ref l p.order p.item hl
 have hob := ordNo_le l p.order
 have hib := itmNo_le l p.order p.item
 have h40 := of_ref l hW
 have h42 := refers_ref l hW p.ref
 have hwl : 0 < l.length → IntKind.wrap .i64 ((l.length : Int) - 1) = (l.length : Int) - 1 := fun h => wrap_i64 (by omega) (by omega)
 by_cases hday : 0 < l.length ∧ p.day < (entL l l.length).day
 ·rw [if_pos hday]
  have he := entL_at (l := l) (n := l.length) (by omega) (by omega)
  have hwl := hwl hday.1
  refine Ret.of_pwp layOk mixed Go.Proofs.Tryz.func72 rfl (by decide) rfl rfl ?_
  repeat refine stq rfl ?_
  refine qst rfl rfl (q_cp rfl h39 rfl rfl rfl) ?_
  repeat refine stq rfl ?_
  rw [hll]
  refine pw_cond rfl (fun h => ?_) (fun h => ?_)
  ·exact absurd (of_decide_eq_true h) (by omega)
  clear h
  repeat refine stq rfl ?_
  refine pw_draw 15 [18,19,20,21,22,23,24,25,26,27,28,29,30,31,32] (by decide +kernel) ?_
  repeat refine stq rfl ?_
  rw [hll]
  (first|refine ps_split rfl rfl ?_ ?_|refine pq_split rfl rfl ?_ ?_|refine p3_split rfl rfl ?_ ?_)<;>intro h
  ·repeat refine stq rfl ?_
   rw [hll,hwl]
   refine qst rfl rfl (q_idxm rfl rfl rfl rfl rfl (by omega) he rfl) ?_
   repeat refine stq rfl ?_
   refine pw_cond rfl (fun h => ?_) (fun h => ?_)
   ·repeat refine stq rfl ?_
    exact end1i rfl rfl rfl
   ·exact absurd (of_decide_eq_false h) (by omega)
  ·exact absurd (of_decide_eq_false h) (by omega)
 rw [if_neg hday]
 refine Ret.of_pwp layOk mixed Go.Proofs.Tryz.func72 rfl (by decide) rfl rfl ?_
 repeat refine stq rfl ?_
 refine qst rfl rfl (q_cp rfl h39 rfl rfl rfl) ?_
 repeat refine stq rfl ?_
 rw [hll]
 refine pw_cond rfl (fun h => ?_) (fun h => ?_)
 ·exact absurd (of_decide_eq_true h) (by omega)
 clear h
 refine pw_skip ?_
 refine x_norm ?_
 refine pw_cut [(0,.sl (l.map ePost)),(3,.ptr 3 1 0 0)] [(3,1,⟨23,9,[ePost p],2⟩)] ?_ ?_
 ·repeat refine stq rfl ?_
  refine pw_draw 15 [18,19,20,21,22,23,24,25,26,27,28,29,30,31,32] (by decide +kernel) ?_
  repeat refine stq rfl ?_
  rw [hll]
  (first|refine ps_split rfl rfl ?_ ?_|refine pq_split rfl rfl ?_ ?_|refine p3_split rfl rfl ?_ ?_)<;>intro h
  ·have hlp := of_decide_eq_true h
   have he := entL_at (l := l) (n := l.length) (by omega) (by omega)
   have hwl := hwl (by omega)
   repeat refine stq rfl ?_
   rw [hll,hwl]
   refine qst rfl rfl (q_idxm rfl rfl rfl rfl rfl (by omega) he rfl) ?_
   repeat refine stq rfl ?_
   refine pw_cond rfl (fun h => ?_) (fun h => ?_)
   ·exact absurd (of_decide_eq_true h) (by omega)
   ·repeat refine stq rfl ?_
    exact ⟨rfl,rfl,rfl,trivial⟩
  ·repeat refine stq rfl ?_
   exact ⟨rfl,rfl,rfl,trivial⟩
 intro s
 clear hday hwl h39 h4
 rw [refE]
 by_cases h0 : p.op = 0
 ·rw [if_pos h0]
  repeat refine stq rfl ?_
  refine qst rfl rfl (q_cp rfl h33 rfl rfl rfl) ?_
  repeat (first|refine stq rfl ?_|refine pw_no rfl ?_|refine pw_yes rfl ?_)
  refine pw_cond rfl (fun h => ?_) (fun h => ?_)
  ·have := of_decide_eq_true h
   repeat refine stq rfl ?_
   exact end1i rfl rfl (by rw [if_pos this])
  ·have := of_decide_eq_false h
   repeat refine stq rfl ?_
   exact end1i rfl rfl (by rw [if_neg this])
 rw [if_neg h0]
 by_cases h1 : p.op = 1
 ·rw [if_pos h1]
  have hs := h40 _ hob.1 hob.2
  clear h0
  repeat refine stq rfl ?_
  refine qst rfl rfl (q_cp rfl h33 rfl rfl rfl) ?_
  repeat (first|refine stq rfl ?_|refine pw_no rfl ?_|refine pw_yes rfl ?_)
  refine qst rfl rfl (q_cp rfl hs rfl rfl rfl) ?_
  repeat refine stq rfl ?_
  refine pw_cond rfl (fun h => ?_) (fun h => ?_)
  ·have he : ¬ standE l (ordNo l p.order) = 0 := by simpa using h
   repeat refine stq rfl ?_
   exact end1i rfl rfl (by rw [if_neg he])
  have he : standE l (ordNo l p.order) = 0 := by simpa using h
  rw [if_pos he]
  clear h
  repeat refine stq rfl ?_
  refine qst rfl rfl (q_cp rfl h41 rfl rfl rfl) ?_
  repeat refine stq rfl ?_
  refine pw_cond rfl (fun h => ?_) (fun h => ?_)
  ·have := of_decide_eq_true h
   repeat refine stq rfl ?_
   exact end1i rfl rfl (by rw [if_pos this])
  ·have := of_decide_eq_false h
   repeat refine stq rfl ?_
   exact end1i rfl rfl (by rw [if_neg this])
 rw [if_neg h1]
 by_cases h4 : p.op = 4
 ·rw [if_pos h4]
  have hrf := href (.inl h4)
  have ha := h42 hrf.1 [2,3] (by decide)
  have hz := fun h => aimE_zero (l := l) (n := p.ref) (ks := [2,3]) h
  clear h0 h1
  repeat refine stq rfl ?_
  refine qst rfl rfl (q_cp rfl h33 rfl rfl rfl) ?_
  repeat (first|refine stq rfl ?_|refine pw_no rfl ?_|refine pw_yes rfl ?_)
  refine qst rfl rfl (q_slit rfl rfl rfl rfl rfl rfl rfl rfl rfl rfl (by repeat' constructor) rfl) ?_
  repeat refine stq rfl ?_
  refine qst rfl rfl (q_cp rfl ha rfl rfl rfl) ?_
  repeat refine stq rfl ?_
  refine pw_cond rfl (fun h => ?_) (fun h => ?_)
  ·have he : ¬ aimE l p.ref [2,3] = 0 := by simpa using h
   repeat refine stq rfl ?_
   exact end1i rfl rfl (by rw [if_neg he])
  have he : aimE l p.ref [2,3] = 0 := by simpa using h
  rw [if_pos he]
  clear h
  have hb := hz he
  have hen := entL_at hb.1 hb.2
  have hw : IntKind.wrap .i64 (p.ref - 1) = p.ref - 1 := wrap_i64 (by omega) (by omega)
  repeat refine stq rfl ?_
  refine pw_draw 20 [79,80,81,82,83,84,85,86,87,88,89,90,91,92,93,94,95,96,97,98] (by decide +kernel) ?_
  repeat refine stq rfl ?_
  rw [hw]
  refine qst rfl rfl (q_idxm rfl rfl rfl rfl rfl (by omega) hen rfl) ?_
  repeat refine stq rfl ?_
  (first|refine ps_split rfl rfl ?_ ?_|refine pq_split rfl rfl ?_ ?_|refine p3_split rfl rfl ?_ ?_)<;>intro h
  ·have g1 := of_decide_eq_true h
   repeat refine stq rfl ?_
   rw [hw]
   refine qst rfl rfl (q_idxm rfl rfl rfl rfl rfl (by omega) hen rfl) ?_
   repeat refine stq rfl ?_
   refine pw_cond rfl (fun h => ?_) (fun h => ?_)
   ·have g2 := of_decide_eq_true h
    repeat refine stq rfl ?_
    exact end1i rfl rfl (by rw [if_pos ⟨g1,g2⟩])
   ·have g2 := of_decide_eq_false h
    repeat refine stq rfl ?_
    exact end1i rfl rfl (by rw [if_neg (fun h => g2 h.2)])
  ·have g1 := of_decide_eq_false h
   repeat refine stq rfl ?_
   exact end1i rfl rfl (by rw [if_neg (fun h => g1 h.1)])
 rw [if_neg h4]
 by_cases h5 : p.op = 5
 ·rw [if_pos h5]
  have hrf := href (.inr (.inl h5))
  have ha := h42 hrf.1 [1,2,3] (by decide)
  have hz := fun h => aimE_zero (l := l) (n := p.ref) (ks := [1,2,3]) h
  clear h0 h1 h4
  repeat refine stq rfl ?_
  refine qst rfl rfl (q_cp rfl h33 rfl rfl rfl) ?_
  repeat (first|refine stq rfl ?_|refine pw_no rfl ?_|refine pw_yes rfl ?_)
  refine qst rfl rfl (q_slit rfl rfl rfl rfl rfl rfl rfl rfl rfl rfl (by repeat' constructor) rfl) ?_
  repeat refine stq rfl ?_
  refine qst rfl rfl (q_cp rfl ha rfl rfl rfl) ?_
  repeat refine stq rfl ?_
  refine pw_cond rfl (fun h => ?_) (fun h => ?_)
  ·have he : ¬ aimE l p.ref [1,2,3] = 0 := by simpa using h
   repeat refine stq rfl ?_
   exact end1i rfl rfl (by rw [if_neg he])
  have he : aimE l p.ref [1,2,3] = 0 := by simpa using h
  rw [if_pos he]
  clear h
  have hb := hz he
  have hen := entL_at hb.1 hb.2
  have hw : IntKind.wrap .i64 (p.ref - 1) = p.ref - 1 := wrap_i64 (by omega) (by omega)
  repeat refine stq rfl ?_
  rw [hw]
  refine qst rfl rfl (q_idxm rfl rfl rfl rfl rfl (by omega) hen rfl) ?_
  repeat refine stq rfl ?_
  (first|refine ps_split rfl rfl ?_ ?_|refine pq_split rfl rfl ?_ ?_|refine p3_split rfl rfl ?_ ?_)<;>intro h
  ·have g1 : ¬ (entL l p.ref).op = 2 := by simpa using h
   repeat refine stq rfl ?_
   refine pw_cond rfl (fun h => ?_) (fun h => ?_)
   ·have g2 := of_decide_eq_true h
    repeat refine stq rfl ?_
    exact end1i rfl rfl (by rw [if_pos ⟨g1,g2⟩])
   ·have g2 := of_decide_eq_false h
    repeat refine stq rfl ?_
    exact end1i rfl rfl (by rw [if_neg (fun h => g2 h.2)])
  ·have g1 : (entL l p.ref).op = 2 := by simpa using h
   repeat refine stq rfl ?_
   exact end1i rfl rfl (by rw [if_neg (fun h => h.1 g1)])
 rw [if_neg h5]
 by_cases h8 : p.op = 8
 ·rw [if_pos h8]
  have hrf := href (.inr (.inr h8))
  have ha := h42 hrf.1 [0,1,2,3,4,5,6,7] (by decide)
  clear h0 h1 h4 h5
  repeat refine stq rfl ?_
  refine qst rfl rfl (q_cp rfl h33 rfl rfl rfl) ?_
  repeat (first|refine stq rfl ?_|refine pw_no rfl ?_|refine pw_yes rfl ?_)
  refine qst rfl rfl (q_slit rfl rfl rfl rfl rfl rfl rfl rfl rfl rfl (by repeat' constructor) rfl) ?_
  repeat refine stq rfl ?_
  refine qst rfl rfl (q_cp rfl ha rfl rfl rfl) ?_
  repeat refine stq rfl ?_
  exact end1i rfl rfl rfl
 rw [if_neg h8]
 by_cases h2 : p.op = 2 ∨ p.op = 3
 ·have hs := h40 _ hib.1 hib.2
  have hsu : supNo l p = itmNo l p.order p.item := by rw [supNo,if_neg (by omega),if_pos h2]
  rw [hsu]
  clear h0 h1 h4 h5 h8 hin
  rcases h2 with h2 | h2 <;>
  ·repeat refine stq rfl ?_
   refine qst rfl rfl (q_cp rfl h33 rfl rfl rfl) ?_
   repeat (first|refine stq rfl ?_|refine pw_no rfl ?_|refine pw_yes rfl ?_)
   refine qst rfl rfl (q_cp rfl h41 rfl rfl rfl) ?_
   repeat refine stq rfl ?_
   refine qst rfl rfl (q_cp rfl hs rfl rfl rfl) ?_
   repeat refine stq rfl ?_
   exact end1i rfl rfl rfl
 have hs := h40 _ hob.1 hob.2
 have hsu : supNo l p = ordNo l p.order := by rw [supNo,if_pos (by omega)]
 rw [hsu]
 have h6 : p.op = 6 ∨ p.op = 7 := by omega
 clear h0 h1 h4 h5 h8 hin h2
 rcases h6 with h2 | h2 <;>
 ·repeat refine stq rfl ?_
  refine qst rfl rfl (q_cp rfl h33 rfl rfl rfl) ?_
  repeat (first|refine stq rfl ?_|refine pw_no rfl ?_|refine pw_yes rfl ?_)
  refine qst rfl rfl (q_cp rfl hs rfl rfl rfl) ?_
  repeat refine stq rfl ?_
  exact end1i rfl rfl rfl
end Go.Pv

