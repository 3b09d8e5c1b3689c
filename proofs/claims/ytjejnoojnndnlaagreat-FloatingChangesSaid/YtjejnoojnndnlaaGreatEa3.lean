/- Texts of one hand, gathered: PvN, PvO, PvP, PvY, PvZ, PvEnd, PvTk, PvX, PvT, FbA, PvGq, FbB, FbC, PvEq, FbD, FbE, FbF, FbG, FaD, FbH, FbI, FbJ, FbK, FbL, FbM, FbN. -/
import Derived.Test.YtjejnoojnndnlaaGreatEa2
import Derived.ProofKit
import Derived.OpenShut
import Derived.Carry
import Derived.Test.YtjejnoojnndnlaaGreatProg
import Derived.KernelRfl
import Derived.Laws.BitsLemmas
import Derived.Lib.EndianBits
set_option linter.unusedSectionVars false
set_option linter.unusedSimpArgs false
set_option linter.unusedVariables false
set_option linter.unnecessarySimpa false
namespace Go.Pv
open Go.RowKit
variable [Globs]
section
variable {P : Program} {L : Lay} {Q : Exit → St → Prop} {K : St → Prop} {s : St} {ops : Array Oper} {rest : List Oper} {o : Oper}
theorem POp.mono' {K' : St → Prop} (hk : ∀ s,K s → K' s) (h : POp P L s o K) : POp P L s o K' := by
 rcases h with ⟨pv,h1,h2⟩ | ⟨s',h1,h2⟩ | h1
 ·exact .inl ⟨pv,h1,hk _ h2⟩
 ·exact .inr (.inl ⟨s',h1,hk _ h2⟩)
 ·exact .inr (.inr (h1.mono hk))
theorem bQ {x y : Code} (h : PWP P L x (aC (fun s' => PWP P L y Q s') Q) s) : PWP P L (.seq x y) Q s := h
theorem xQ (h : Q .normal s) : PWP P L .skip Q s := Gh.of h
theorem zD (h : Q .ret s) : PWP P L .ret Q s := Gh.of h
theorem xP {id : Nat} (h : Q (.exit id) s) : PWP P L (.exit id) Q s := Gh.of h
theorem aY {id : Nat} {l : List Oper} (h : POps P L l.toArray (Q .normal) l s) : PWP P L (.region id l.toArray false) Q s := Gh.of (.inl h)
theorem iO {K : St → Prop} : ∀ (l1 l2 : List Oper) (s : St),POps P L ops (fun s' => PSem P L ops K l2 s') l1 s → PSem P L ops K (l1 ++ l2) s
 |[],_,_,h => h
 |_ :: l1,l2,_,h => h.imp (fun x => ⟨x.1,.inl (x.2.mono' fun s' h' => iO l1 l2 s' h')⟩) (fun x => ⟨x.1,iO l1 l2 _ x.2⟩)
theorem aE {id : Nat} {l : List Oper} (n : Nat) (h : POps P L l.toArray (fun s' => PSem P L l.toArray (Q .normal) (l.drop n) s') (l.take n) s) : PWP P L (.region id l.toArray false) Q s := by
 have := iO (K := Q .normal) (l.take n) (l.drop n) s h
 rw [List.take_append_drop] at this
 exact Gh.of (.inr (.inl this))
theorem jh {K : St → Prop} : ∀ (l1 l2 : List Oper) (s : St),POps P L ops (fun s' => PSemI P L ops K l2 s') l1 s → PSemI P L ops K (l1 ++ l2) s
 |[],_,_,h => h
 |_ :: l1,l2,_,h => h.imp (fun x => ⟨x.1,.inl (x.2.mono' fun s' h' => jh l1 l2 s' h')⟩) (fun x => ⟨x.1,jh l1 l2 _ x.2⟩)
theorem sW {j e : Nat} {want : Bool} (hg : o.guard = some (j,want)) (hd : (ops[j]?).bind (·.dst) = some e) (hr : s.reg e = .bool want) (h : AF P L s o (PSemI P L ops K rest)) : PSemI P L ops K (o :: rest) s := .inl ⟨.yes hg hd hr,.inr (.inr h)⟩
theorem mA (h : POps P L ops K rest s) : PSemI P L ops K rest s := by
 have := jh (P := P) (L := L) (ops := ops) (K := K) rest [] s h
 rwa [List.append_nil] at this
theorem aV (hg : o.guard = none) (h : Sm P L s o (PSem P L ops K rest)) : PSem P L ops K (o :: rest) s := .inl ⟨.none hg,.inr h⟩
theorem aJ (h : POps P L ops K rest s) : PSem P L ops K rest s := by
 have := iO (P := P) (L := L) (ops := ops) (K := K) rest [] s h
 rwa [List.append_nil] at this
theorem PQuiet.mono {K K' : St → Prop} (hk : ∀ s,K s → K' s) : ∀ (l : List Oper) (s : St),PQuiet P L ops K l s → PQuiet P L ops K' l s
 |[],s,h => hk s h
 |_ :: l,_,h => h.imp (fun ⟨x,pv,y,z⟩ => ⟨x,pv,y,PQuiet.mono hk l _ z⟩) (fun x => ⟨x.1,PQuiet.mono hk l _ x.2⟩)
theorem am {id : Nat} {l : List Oper} (n : Nat) (ds : List Nat) (hok : ja l.toArray n ds = true) (h : PQuiet P L l.toArray (fun s' => POps P L l.toArray (Q .normal) (l.drop n) s') (l.take n) s) : PWP P L (.region id l.toArray true) Q s :=
 Gh.of (Or.inl ⟨n,ds,hok,PQuiet.mono (fun _ h => aJ h) _ _ h⟩)
theorem vA {id : Nat} {l : List Oper} (n : Nat) (ds : List Nat) (hok : ja l.toArray n ds = true) (h : PQuiet P L l.toArray (fun s' => PSemI P L l.toArray (Q .normal) (l.drop n) s') (l.take n) s) : PWP P L (.region id l.toArray true) Q s :=
 Gh.of (Or.inr (Or.inr (Or.inr (Or.inr ⟨n,ds,hok,h⟩))))
theorem dw {id : Nat} {l : List Oper} (Z Y : List Nat) (f : Nat) (ch : List Nat) (hok : ff l.toArray ch = true) (hlt : kO l.toArray ch f = true) (h : P3 P L l.toArray (zP Z Y f) (cW ch) (Q .normal) 0 l s) : PWP P L (.region id l.toArray true) Q s :=
 Gh.of (Or.inr (Or.inr (Or.inl (.inl ⟨Z,Y,f,ch,hok,hlt,h⟩))))
theorem vz {id : Nat} {ops : List Oper} (l : List (Nat × Nat)) (hok : ff ops.toArray [] = true) (hlc : uU ops.toArray l = true) (h : P5 P L ops.toArray (l.map (·.2)) (oK l) (Q .normal) 0 ops s) : PWP P L (.region id ops.toArray true) Q s :=
 Gh.of (Or.inr (Or.inr (Or.inl (.inr ⟨l,hok,hlc,h⟩))))
theorem oJ (ops : Array Oper) (ch : List Nat) : kO ops ch 0 = true := by
 rw [kO,List.all_eq_true]
 intro i _
 simp
theorem bM {id : Nat} {l : List Oper} (Z ch : List Nat) (hok : ff l.toArray ch = true) (h : P3 P L l.toArray (zP Z [] 0) (cW ch) (Q .normal) 0 l s) : PWP P L (.region id l.toArray true) Q s :=
 dw Z [] 0 ch hok (oJ _ _) h
theorem aZ {id : Nat} {l : List Oper} (n m : Nat) (ds F : List Nat) (hok : jW l.toArray n m ds F = true) (hnone : (ds.drop n).all (fun d => (s.own d).2.isNone) = true) (h : PQuiet P L l.toArray (fun s' => FD l.toArray (n + m) F s' = true ∧ POps P L l.toArray (Q .normal) (l.drop n) s') (l.take n) s) : PWP P L (.region id l.toArray true) Q s :=
 Gh.of (Or.inr (Or.inl ⟨n,m,ds,F,hok,fun d hd => by simpa using List.all_eq_true.1 hnone d hd,h⟩))
theorem ae {c : Operand} {x y : Code} {b : Bool} (hc : s.ev c = .bool b) (h1 : b = true → PWP P L x Q s) (h2 : b = false → PWP P L y Q s) : PWP P L (.cond c x y) Q s := Gh.of ⟨b,hc,h1,h2⟩
theorem xR {c : Operand} {x y : Code} (hc : s.ev c = .bool true) (h1 : PWP P L x Q s) : PWP P L (.cond c x y) Q s := Gh.of ⟨true,hc,fun _ => h1,fun h => by cases h⟩
theorem vB {c : Operand} {x y : Code} (hc : s.ev c = .bool false) (h1 : PWP P L y Q s) : PWP P L (.cond c x y) Q s := Gh.of ⟨false,hc,(fun h => by cases h),fun _ => h1⟩
theorem bR {next : St → Prop} (h : next s) : aC next Q .normal s := h
theorem yo {id : Nat} (h : Q .normal s) : au id Q (.exit id) s := by show if id = id then _ else _;rw [if_pos rfl];exact h
theorem ym {id id' : Nat} (hne : Nat.beq id' id = false) (h : Q (.exit id') s) : au id Q (.exit id') s := by
 show if id' = id then _ else _
 rw [if_neg (fun e => by subst e;simp at hne)];exact h
variable {d e j : Nat} {op : Op} {ty : TypeId} {pos : String} {af : Array Edge} {want : Bool}
theorem aR (h : K s) : POps P L ops K [] s := h
theorem ay (h : POp P L s ⟨some d,op,ty,pos,af,none⟩ (POps P L ops K rest)) : POps P L ops K (⟨some d,op,ty,pos,af,none⟩ :: rest) s := .inl ⟨.none rfl,h⟩
theorem bJ (h : POp P L s ⟨none,op,ty,pos,af,none⟩ (POps P L ops K rest)) : POps P L ops K (⟨none,op,ty,pos,af,none⟩ :: rest) s := .inl ⟨.none rfl,h⟩
theorem bV (h : K s) : PQuiet P L ops K [] s := h
theorem gy {pv : PV} {Cd : Prop} (hq : qv L s op = some (pv,Cd)) (hc : Cd) (h : POps P L ops K rest (s.putR d pv)) : POps P L ops K (⟨some d,op,ty,pos,af,none⟩ :: rest) s := ay (.inl ⟨pv,.v hq hc,h⟩)
theorem xJ {pv : PV} {Cd : Prop} {g : Option (Nat × Bool)} (hq : qv L s op = some (pv,Cd)) (hc : Cd) (h : K (s.putR d pv)) : POp P L s ⟨some d,op,ty,pos,af,g⟩ K := .inl ⟨pv,.v hq hc,h⟩
theorem iM {pv : PV} {g : Option (Nat × Bool)} (hq : QOp P L s ⟨some d,op,ty,pos,af,g⟩ pv) (h : K (s.putR d pv)) : POp P L s ⟨some d,op,ty,pos,af,g⟩ K := .inl ⟨pv,hq,h⟩
section ops
variable {g : Option (Nat × Bool)} {T : TypeId} {x y : Operand} {r re : LRow} {E : TypeId}
theorem vC {ix : Operand} {rows : List (List PV)} {row : List PV} {k : IntKind} {n : Int} (hr : L T = some r) (hs : r.sh = .sl E) (hre : L E = some re) (hx : s.ev x = .sl rows) (hix : s.ev ix = .int k n) (h0 : 0 ≤ n) (hrow : rows[n.toNat]? = some row)
  (hlen : row.length = re.size) : QOp P L s ⟨some d,.indexAddr T x ix,ty,pos,af,g⟩ (.dref row 0) := .idx rfl hr hs hre (.inl hx) hix h0 hrow hlen
theorem ie {ix : Operand} {rows : List (List PV)} {row : List PV} {k : IntKind} {n : Int} (hr : L T = some r) (hs : r.sh = .sl E) (hre : L E = some re) (hx : s.ev x = .fsl rows) (hix : s.ev ix = .int k n) (h0 : 0 ≤ n) (hrow : rows[n.toNat]? = some row)
  (hlen : row.length = re.size) : QOp P L s ⟨some d,.indexAddr T x ix,ty,pos,af,g⟩ (.dref row 0) := .idx rfl hr hs hre (.inr hx) hix h0 hrow hlen
theorem nD {α : Type} {enc : α → List PV} {l : List α} {a : α} {ix : Operand} {k : IntKind} {n : Int} (hr : L T = some r) (hs : r.sh = .sl E) (hre : L E = some re) (hx : s.ev x = .sl (l.map enc)) (hix : s.ev ix = .int k n) (h0 : 0 ≤ n) (hget : l[n.toNat]? = some a)
  (hlen : (enc a).length = re.size) : QOp P L s ⟨some d,.indexAddr T x ix,ty,pos,af,g⟩ (.dref (enc a) 0) := vC hr hs hre hx hix h0 (by rw [List.getElem?_map,hget];rfl) hlen
theorem bc {ix : Operand} {k : IntKind} {n : Int} {st gn i m : Nat} {c : Cont} (hr : L T = some r) (hs : r.sh = .sl E) (hre : L E = some re) (hx : s.ev x = .als st gn i m) (hown : s.own st = (gn,some c)) (hsz : c.sz = re.size) (hix : s.ev ix = .int k n) (h0 : 0 ≤ n) (hlt : n < m) :
  QOp P L s ⟨some d,.indexAddr T x ix,ty,pos,af,g⟩ (.ptr st gn (i + n.toNat) 0) := .idxA rfl hr hs hre hx hown hsz hix h0 hlt
theorem Aw {lo hi : Option Operand} {st gn i m : Nat} {c : Cont} (l h : Nat) (hr : L T = some r) (hs : r.sh = .sl E) (hre : L E = some re) (hx : s.ev x = .als st gn i m) (hown : s.own st = (gn,some c)) (hsz : c.sz = re.size) (hlo : ua s lo 0 l) (hhi : ua s hi m h) (hlt : l < h) (hle : h ≤ m) :
  QOp P L s ⟨some d,.slice T x lo hi none,ty,pos,af,g⟩ (.als st gn (i + l) (h - l)) := .slA rfl hr hs hre hx hown hsz hlo hhi hlt hle
theorem Ax {lo hi : Option Operand} {α : Type} {e : α → List PV} {q : List α} (l h : Nat) (hr : L T = some r) (hs : r.sh = .sl E) (hre : L E = some re) (hx : s.ev x = .fsl (q.map e)) (hlo : ua s lo 0 l) (hhi : ua s hi q.length h) (hlh : l ≤ h) (hle : h ≤ q.length) (hlen : ∀ a,(e a).length = re.size) :
  QOp P L s ⟨some d,.slice T x lo hi none,ty,pos,af,g⟩ (.fsl (((q.take h).drop l).map e)) := by
 have := QOp.slg (P := P) (L := L) (s := s) (o := ⟨some d,.slice T x lo hi none,ty,pos,af,g⟩) true rfl hr hs hre hx hlo (by rw [List.length_map];exact hhi) hlh (by rw [List.length_map];exact hle) (fun row hrow => by obtain ⟨a,_,rfl⟩ := List.mem_map.1 hrow;exact hlen a)
 rw [cond_true,← List.map_take,← List.map_drop] at this
 exact this
theorem di {st gn i jj : Nat} {c : Cont} {row : List PV} {pv : PV} (hr : L T = some r) (hx : s.ev x = .ptr st gn i jj) (hown : s.own st = (gn,some c)) (hrow : c.rows[i]? = some row) (hp : part r row jj = some pv) :
  QOp P L s ⟨some d,.load T x,ty,pos,af,g⟩ pv := .ldp rfl hr hx hown hrow hp
theorem c_ {fop : Operand} {args : Array Operand} {tys : Array TypeId} {f : FuncId} {caps pargs : List PV} {Cd : Prop} {b : Fl} {rr : PV} (hf : s.ev fop = .clo f caps) (hret : Ret P .shared f pargs rr) (hres : dK (dy s 4) (args.toList.map s.ev ++ caps) = some (pargs,Cd,b)) (hc : Cd) (hb : b.cl = true) :
  QOp P L s ⟨some d,.call ⟨.value fop,args,tys⟩,ty,pos,af,g⟩ rr := .call rfl hf hres hc hb hret
theorem rp {fop : Operand} {args : Array Operand} {tys : Array TypeId} {f : FuncId} {caps pargs : List PV} {Cd : Prop} {b : Fl} {rr rf : PV} (hf : s.ev fop = .clo f caps) (hret : Ret P .fresh f pargs rr) (hres : dK (dy s 4) (args.toList.map s.ev ++ caps) = some (pargs,Cd,b)) (hc : Cd) (hrf : rr.frs.fz = some rf) :
  QOp P L s ⟨some d,.call ⟨.value fop,args,tys⟩,ty,pos,af,g⟩ rf := by
 rw [PV.fz_eq] at hrf
 have := QOp.callF (P := P) (L := L) (o := ⟨some d,.call ⟨.value fop,args,tys⟩,ty,pos,af,g⟩) rfl hf hres hc hret
 rwa [Option.some.inj hrf] at this
theorem xT {fop : Operand} {args : Array Operand} {tys : Array TypeId} {f : FuncId} {caps pargs : List PV} {Cd : Prop} {b : Fl} {rr rf : PV} (hf : s.ev fop = .clo f caps) (hret : Ret P .shared f pargs rr) (hres : dK (dy s 4) (args.toList.map s.ev ++ caps) = some (pargs,Cd,b)) (hc : Cd) (hfl : rr.flat = true) (hrf : rr.frs.fz = some rf) :
  QOp P L s ⟨some d,.call ⟨.value fop,args,tys⟩,ty,pos,af,g⟩ rf := rp hf (hret.fresh_of_flat hfl) hres hc hrf
theorem Au {v : PV} {gn : Nat} {oc : Option Cont} {Pr : Prop} (hx : (s.ev x).fz = some v) (hown : s.own d = (gn,oc)) (h1 : cx s v.cells = some Pr) (h2 : Pr) (h0 : Nat.blt 0 v.cells.length = true)
  (h : K ((s.setOwn d (gn + 1) (some ⟨T,v.cells.length,[v.cells],2⟩)).putR d (.ptr d (gn + 1) 0 0))) : POp P L s ⟨some d,.box T x,ty,pos,af,g⟩ K := by
 rw [PV.fz_eq] at hx
 have hx' := Option.some.inj hx
 refine .inr (.inl ⟨_,.box rfl rfl (by rw [hx'];exact h1) h2 (by rw [hx'];simpa using h0),?_⟩)
 rw [hx',St.fin,hown];exact h
theorem xC {z : List PV} {gn : Nat} {oc : Option Cont} (hr : L T = some r) (hz : r.zero = some z) (hown : s.own d = (gn,oc)) (h0 : Nat.blt 0 z.length = true)
  (h : K ((s.setOwn d (gn + 1) (some ⟨T,z.length,[z],2⟩)).putR d (.ptr d (gn + 1) 0 0))) : POp P L s ⟨some d,.alloc T,ty,pos,af,g⟩ K := by
 refine .inr (.inl ⟨_,.alloc rfl rfl hr hz (by simpa using h0),?_⟩)
 rw [St.fin,hown];exact h
theorem u5 {v : PV} {k gn jj : Nat} {tc : TypeId} {sz : Nat} {row new : List PV} {Pr : Prop} (hr : L T = some r) (hx : s.ev x = .ptr k gn 0 jj) (hown : s.own k = (gn,some ⟨tc,sz,[row],2⟩)) (hv : (s.ev y).fz = some v) (h1 : cx s v.cells = some Pr) (h2 : Pr)
  (hsz : v.cells.length = r.size) (hle : Nat.ble (jj + r.size) row.length = true) (hnew : iX row jj v.cells = new) (h : K (s.setOwn k gn (some ⟨tc,sz,[new],2⟩))) : POp P L s ⟨none,.store T x y,ty,pos,af,g⟩ K := by
 rw [PV.fz_eq] at hv
 have hv' := Option.some.inj hv
 refine .inr (.inl ⟨_,.store 2 rfl rfl hr hx hown (by rfl) (by rw [hv'];exact h1) h2 (by rw [hv'];exact hsz) (by simpa using hle) (Nat.le_refl _) (by rw [List.all_eq_true];intro c _;cases c <;> rfl),?_⟩)
 have hm : ∀ l : List PV,l.map (df 2) = l := by intro l;induction l with | nil => rfl | cons c l ih => rw [List.map_cons,ih];cases c <;> rfl
 rw [hv',hm]
 have : ([row] : List (List PV)).set 0 (iX row jj v.cells) = [new] := by rw [hnew];rfl
 rw [this];exact h
theorem bI {v : PV} {k gn i jj kd kd' : Nat} {tc : TypeId} {sz : Nat} {rows : List (List PV)} {row : List PV} {Pr : Prop} (hr : L T = some r) (hx : s.ev x = .ptr k gn i jj) (hown : s.own k = (gn,some ⟨tc,sz,rows,kd⟩)) (hrow : rows[i]? = some row) (hv : (s.ev y).fz = some v) (h1 : cx s v.cells = some Pr) (h2 : Pr)
  (hsz : v.cells.length = r.size) (hle : Nat.ble (jj + r.size) row.length = true) (hk : Nat.ble kd kd' = true) (hkd : v.cells.all (jY kd') = true) (h : K (s.setOwn k gn (some ⟨tc,sz,rows.set i (iX row jj (v.cells.map (df kd'))),kd'⟩))) : POp P L s ⟨none,.store T x y,ty,pos,af,g⟩ K := by
 rw [PV.fz_eq] at hv
 have hv' := Option.some.inj hv
 refine .inr (.inl ⟨_,.store kd' rfl rfl hr hx hown hrow (by rw [hv'];exact h1) h2 (by rw [hv'];exact hsz) (by simpa using hle) (by simpa using hk) (by rw [hv'];exact hkd),?_⟩)
 rw [hv'];exact h
theorem bC {k gn m k1 k2 : Nat} {tc : TypeId} {sz : Nat} {rows1 rows2 : List (List PV)} {Cd2 : Prop} (kd : Nat) (hr : L T = some r) (hs : r.sh = .sl E) (hre : L E = some re) (hz : re.zero.isSome = true) (hsz : Nat.blt 0 re.size = true) (hx : s.ev x = .als k gn 0 m) (hown : s.own k = (gn,some ⟨tc,sz,rows1,k1⟩))
  (hcs : sz = re.size) (hct : tc = E) (hq : gK s (s.ev y) = some (rows2,k2,Cd2)) (hm : m = rows1.length) (hc2 : Cd2) (hlen : ∀ row ∈ rows2,row.length = re.size) (hk1 : Nat.ble k1 kd = true) (hk2 : Nat.ble k2 kd = true) (hb : (rows1.length + rows2.length) * re.bytes ≤ 140737488355328) (h63 : rows1.length + rows2.length ≤ 9223372036854775807)
  (h : K ((s.setOwn k (gn + 1) (some ⟨E,re.size,rows1 ++ rows2,kd⟩)).putR d (.als k (gn + 1) 0 (rows1 ++ rows2).length))) :
  POp P L s ⟨some d,.call ⟨.builtin .append,#[x,y],#[T,T]⟩,ty,pos,af,g⟩ K := by
 refine .inr (.inl ⟨_,.app kd rfl rfl hr hs hre hz (by simpa using hsz) hx hown hm hcs hct hq hc2 hlen (by simpa using hk1) (by simpa using hk2) hb h63,?_⟩)
 rw [St.fin,hown];exact h
theorem fi {l c : Operand} {kl kc : IntKind} {n : Int} {z : List PV} {gn : Nat} {oc : Option Cont} (hr : L T = some r) (hs : r.sh = .sl E) (hre : L E = some re) (hz : re.zero = some z) (hsz : Nat.blt 0 re.size = true) (hl : s.ev l = .int kl n) (hc : s.ev c = .int kc n) (hown : s.own d = (gn,oc))
  (h0 : 0 ≤ n) (hb : (re.bytes : Int) * n ≤ 140737488355328) (h63 : n ≤ 9223372036854775807) (h : K ((s.setOwn d (gn + 1) (some ⟨E,re.size,List.replicate n.toNat z,0⟩)).putR d (.als d (gn + 1) 0 (List.replicate n.toNat z).length))) :
  POp P L s ⟨some d,.makeSlice T l c,ty,pos,af,g⟩ K := by
 refine .inr (.inl ⟨_,.make rfl rfl hr hs hre hz (by simpa using hsz) hl hc h0 (Int.le_refl _) hb h63,?_⟩)
 rw [St.fin,hown];exact h
theorem xE {l c : Operand} {kl kc : IntKind} {n m : Int} {z : List PV} {gn : Nat} {oc : Option Cont} (hr : L T = some r) (hs : r.sh = .sl E) (hre : L E = some re) (hz : re.zero = some z) (hsz : Nat.blt 0 re.size = true) (hl : s.ev l = .int kl n) (hc : s.ev c = .int kc m) (hown : s.own d = (gn,oc))
  (h0 : 0 ≤ n) (hnm : n ≤ m) (hb : (re.bytes : Int) * m ≤ 140737488355328) (h63 : m ≤ 9223372036854775807) (h : K ((s.setOwn d (gn + 1) (some ⟨E,re.size,List.replicate n.toNat z,0⟩)).putR d (.als d (gn + 1) 0 (List.replicate n.toNat z).length))) :
  POp P L s ⟨some d,.makeSlice T l c,ty,pos,af,g⟩ K := by
 refine .inr (.inl ⟨_,.make rfl rfl hr hs hre hz (by simpa using hsz) hl hc h0 hnm hb h63,?_⟩)
 rw [St.fin,hown];exact h
theorem xD {fop : Operand} {args : Array Operand} {tys : Array TypeId} {f : FuncId} {caps pargs : List PV} {Cd : Prop} {b : Fl} {sz gn : Nat} {oc : Option Cont} {rows : List (List PV)}
  (hf : s.ev fop = .clo f caps) (hret : RetO P f pargs T sz rows) (hres : dK (dy s 4) (args.toList.map s.ev ++ caps) = some (pargs,Cd,b)) (hc : Cd) (hown : s.own d = (gn,oc))
  (h : K ((s.setOwn d (gn + 1) (some ⟨T,sz,rows,0⟩)).putR d (.als d (gn + 1) 0 rows.length))) : POp P L s ⟨some d,.call ⟨.value fop,args,tys⟩,ty,pos,af,g⟩ K := by
 refine .inr (.inl ⟨_,.callO rfl rfl hf hret hres hc,?_⟩)
 rw [St.fin,hown];exact h
def ga (s : St) (kd : Nat) : List (Nat × Operand) → Option (List (List PV))
 |[] => some []
 |p :: ps => match (s.ev p.2).fz with
  |some v => (match ga s kd ps with | some rs => some (v.cells.map (df kd) :: rs) | none => none)
  |none => none
theorem gY (kd : Nat) : ∀ (ps : List (Nat × Operand)) (rows : List (List PV)),ga s kd ps = some rows → rows = ps.map fun p => (s.ev p.2).cells.map (df kd)
 |[],rows,h => by simp [ga] at h;exact h
 |p :: ps,rows,h => by
  simp only [ga,PV.fz_eq] at h
  split at h
  ·rename_i rs hrs
   have := gY kd ps rs hrs
   have h' := Option.some.inj h
   rw [← h',this];rfl
  ·cases h
def uY : Nat → Nat → List Nat
 |_,0 => []
 |k,n + 1 => k :: uY (k + 1) n
theorem g_ : ∀ (n k : Nat),uY k n = (List.range n).map (k + ·)
 |0,k => rfl
 |n + 1,k => by
  rw [uY,g_ n (k + 1),List.range_succ_eq_map]
  simp only [List.map_cons,List.map_map,Nat.add_zero]
  congr 1
  apply List.map_congr_left
  intro i _
  simp;omega
theorem bb {n gn : Nat} {ps : List (Nat × Operand)} {oc : Option Cont} {rows : List (List PV)} {Pr : Prop} (kd : Nat) (hr : L T = some r) (hs : r.sh = .sl E) (hre : L E = some re) (hz : re.zero.isSome = true) (hsz : Nat.blt 0 re.size = true) (hown : s.own d = (gn,oc)) (hrows : ga s kd ps = some rows)
  (hn : ps.map (·.1) = uY 0 n) (hN : Nat.ble (n * re.size) 16777216 = true) (hcells : ps.all (fun p => Nat.beq (s.ev p.2).cells.length re.size) = true) (h1 : cx s (ps.flatMap fun p => (s.ev p.2).cells) = some Pr) (h2 : Pr) (hkd : (ps.flatMap fun p => (s.ev p.2).cells).all (jY kd) = true)
  (h : K ((s.setOwn d (gn + 1) (some ⟨E,re.size,rows,kd⟩)).putR d (.als d (gn + 1) 0 rows.length))) : POp P L s ⟨some d,.buildSlice T n ps.toArray,ty,pos,af,g⟩ K := by
 refine .inr (.inl ⟨_,.slit kd rfl rfl hr hs hre hz (by simpa using hsz) (by rw [g_] at hn;simpa using hn) (by simpa using hN) (fun p hp => ?_) h1 h2 hkd,?_⟩)
 ·have := List.all_eq_true.1 hcells p hp
  simpa using this
 ·rw [St.fin,hown]
  rw [gY kd ps rows hrows] at h
  exact h
end ops
theorem POp.mono {K' : St → Prop} (hk : ∀ s,K s → K' s) (h : POp P L s o K) : POp P L s o K' := by
 rcases h with ⟨pv,h1,h2⟩ | ⟨s',h1,h2⟩ | h1
 ·exact .inl ⟨pv,h1,hk _ h2⟩
 ·exact .inr (.inl ⟨s',h1,hk _ h2⟩)
 ·exact .inr (.inr (h1.mono hk))
theorem POps.mono {K' : St → Prop} (hk : ∀ s,K s → K' s) : ∀ (l : List Oper) (s : St),POps P L ops K l s → POps P L ops K' l s
 |[],s,h => hk s h
 |_ :: l,_,h => h.imp (fun x => ⟨x.1,x.2.mono (fun s' h' => POps.mono hk l s' h')⟩) (fun x => ⟨x.1,POps.mono hk l _ x.2⟩)
theorem PSem.mono {K' : St → Prop} (hk : ∀ s,K s → K' s) : ∀ (l : List Oper) (s : St),PSem P L ops K l s → PSem P L ops K' l s
 |[],s,h => hk s h
 |_ :: l,_,h => h.imp (fun x => ⟨x.1,x.2.imp (POp.mono' fun s' h' => PSem.mono hk l s' h') (fun y C a w Q hG hs hN => Oper.wp_mono (fun _ _ ⟨s',e1,e2⟩ => ⟨s',e1,PSem.mono hk l s' e2⟩) (y C a w Q hG hs hN))⟩) (fun x => ⟨x.1,PSem.mono hk l _ x.2⟩)
theorem PSemI.mono {K' : St → Prop} (hk : ∀ s,K s → K' s) : ∀ (l : List Oper) (s : St),PSemI P L ops K l s → PSemI P L ops K' l s
 |[],s,h => hk s h
 |_ :: l,_,h => h.imp (fun x => ⟨x.1,x.2.imp (POp.mono' fun s' h' => PSemI.mono hk l s' h') (Or.imp (fun y C a w Q hG hs hN => Oper.wp_mono (fun _ _ ⟨s',e1,e2⟩ => ⟨s',e1,PSemI.mono hk l s' e2⟩) (y C a w Q hG hs hN))
   (fun y ro n C a w Q hG hs hN hL => Oper.wpIn_mono (fun _ _ ⟨s',e1,e2⟩ => ⟨s',e1,PSemI.mono hk l s' e2⟩) (y ro n C a w Q hG hs hN hL)))⟩) (fun x => ⟨x.1,PSemI.mono hk l _ x.2⟩)
theorem P3.mono {K' : St → Prop} (hk : ∀ s,K s → K' s) {Z : Nat → List Nat} {cls : Nat → Bool} : ∀ (l : List Oper) (i : Nat) (s : St),P3 P L ops Z cls K i l s → P3 P L ops Z cls K' i l s
 |[],_,s,h => hk s h
 |_ :: l,i,_,⟨s',h1,h2⟩ => ⟨s',h1,P3.mono hk l (i + 1) s' h2⟩
theorem P5.mono {K' : St → Prop} (hk : ∀ s,K s → K' s) {Z : List Nat} {lc : Nat → Option Nat} : ∀ (l : List Oper) (i : Nat) (s : St),P5 P L ops Z lc K i l s → P5 P L ops Z lc K' i l s
 |[],_,s,h => hk s h
 |_ :: l,i,_,⟨s',h1,h2⟩ => ⟨s',h1,P5.mono hk l (i + 1) s' h2⟩
theorem PTree.mono {K' : St → Prop} (hk : ∀ s,K s → K' s) : ∀ (f : Nat) (listed : Array Bool) (s : St),PTree P L ops K f listed s → PTree P L ops K' f listed s
 |0,_,s,h => ⟨h.1,hk s h.2⟩
 |f + 1,_,_,h => ⟨fun e => hk _ (h.1 e),fun i hi => let ⟨o,ho,hs⟩ := h.2 i hi;⟨o,ho,PSem.mono (PTree.mono hk f _) _ _ hs⟩⟩
theorem Gh.mono {K K' : St → Prop} (hk : ∀ s,K s → K' s) {s : St} (h : Gh K s) : Gh K' s := let ⟨s1,h1,h2⟩ := h;⟨s1,h1,hk s1 h2⟩
theorem PWP.mono {c : Code} : ∀ {Q Q' : Exit → St → Prop},(∀ e s,Q e s → Q' e s) → ∀ s,PWP P L c Q s → PWP P L c Q' s := by
 induction c with
 |skip => intro Q Q' hq s h;exact Gh.mono (hq _) h
 |region id ops d =>
  intro Q Q' hq s h
  refine Gh.mono (fun s h => ?_) h
  cases d with
  |true =>
   rcases h with ⟨n,ds,h1,h2⟩ | ⟨n,m,ds,F,h1,h3,h2⟩ | (⟨Z,Y,f,ch,h1,h3,h2⟩ | ⟨l,h1,h3,h2⟩) | h2 | ⟨n,ds,h1,h2⟩
   ·exact Or.inl ⟨n,ds,h1,PQuiet.mono (fun s' h' => PSem.mono (hq _) _ s' h') _ _ h2⟩
   ·exact Or.inr (Or.inl ⟨n,m,ds,F,h1,h3,PQuiet.mono (fun s' h' => ⟨h'.1,POps.mono (hq _) _ s' h'.2⟩) _ _ h2⟩)
   ·exact Or.inr (Or.inr (Or.inl (.inl ⟨Z,Y,f,ch,h1,h3,P3.mono (hq _) _ _ _ h2⟩)))
   ·exact Or.inr (Or.inr (Or.inl (.inr ⟨l,h1,h3,P5.mono (hq _) _ _ _ h2⟩)))
   ·exact Or.inr (Or.inr (Or.inr (Or.inl (PTree.mono (hq _) _ _ _ h2))))
   ·exact Or.inr (Or.inr (Or.inr (Or.inr ⟨n,ds,h1,PQuiet.mono (fun s' h' => PSemI.mono (hq _) _ s' h') _ _ h2⟩)))
  |false => exact h.imp (POps.mono (hq _) _ s) (Or.imp (PSem.mono (hq _) _ s) (PSemI.mono (hq _) _ s))
 |seq x y ihx ihy =>
  intro Q Q' hq s h
  refine ihx ?_ s h
  intro e s' he
  cases e
  case normal => exact ihy hq s' he
  all_goals exact hq _ _ he
 |cond c x y ihx ihy =>
  intro Q Q' hq s h
  refine Gh.mono (fun s h => ?_) h
  obtain ⟨b,h1,h2,h3⟩ := h
  exact ⟨b,h1,fun hb => ihx hq s (h2 hb),fun hb => ihy hq s (h3 hb)⟩
 |block id c ih =>
  intro Q Q' hq s h
  refine ih ?_ s h
  intro e s' he
  cases e
  case exit id' =>
   show if id' = id then _ else _
   have he' : if id' = id then Q .normal s' else Q (.exit id') s' := he
   split
   ·rename_i hid;rw [if_pos hid] at he';exact hq _ _ he'
   ·rename_i hid;rw [if_neg hid] at he';exact hq _ _ he'
  all_goals exact hq _ _ he
 |loop c ih =>
  intro Q Q' hq s h
  refine Gh.mono (fun s h => ?_) h
  obtain ⟨I,μ,h0,hr⟩ := h
  refine ⟨I,μ,h0,fun s1 hs1 => ih ?_ s1 (hr s1 hs1)⟩
  intro e s' he
  cases e
  case normal => exact he
  all_goals exact hq _ _ he
 |exit id => intro Q Q' hq s h;exact Gh.mono (hq _) h
 |ret => intro Q Q' hq s h;exact Gh.mono (hq _) h
 |label l => intro Q Q' hq s h;exact Gh.mono (hq _) h
 |goto l => intro Q Q' hq s h;exact h.elim
 |rangeFunc => intro Q Q' hq s h;exact Gh.mono (fun s h n C a w hG hs hc hQ => wpIn_mono (h n C a w hG hs hc fun s hs => hQ s (hq _ s hs)) fun e a w ⟨C',s',hE,h',hq'⟩ => ⟨C',s',hE,h',hq _ _ hq'⟩) h
 |scope => intro Q Q' hq s h;exact h.elim
 |refuse => intro Q Q' hq s h;exact h.elim
def St.over (s : St) (l : List (Nat × PV)) (m : List (Nat × Nat × Cont)) : St :=
 ⟨l.foldr (fun p f r => bif Nat.beq r p.1 then p.2 else f r) s.reg,m.foldr (fun p f r => bif Nat.beq r p.1 then (p.2.1,some p.2.2) else f r) s.own⟩
def St.fits (s : St) (l : List (Nat × PV)) (m : List (Nat × Nat × Cont)) : Prop := (∀ p ∈ l,s.reg p.1 = p.2) ∧ ∀ p ∈ m,s.own p.1 = (p.2.1,some p.2.2)
def FitO (s : St) : List (Nat × Nat × Cont) → Prop
 |[] => True
 |(k,g,c) :: m => s.own k = (g,some c) ∧ FitO s m
def Fit (s : St) (l : List (Nat × PV)) (m : List (Nat × Nat × Cont)) : Prop :=
 match l with
 |[] => FitO s m
 |(r,v) :: l => s.reg r = v ∧ Fit s l m
theorem o4 (s : St) : ∀ l : List (Nat × PV),(∀ p ∈ l,s.reg p.1 = p.2) → l.foldr (fun p f r => bif Nat.beq r p.1 then p.2 else f r) s.reg = s.reg
 |[],_ => rfl
 |(r,v) :: l,h => by
  rw [List.foldr_cons,o4 s l (fun p hp => h p (by simp [hp]))]
  funext t
  by_cases ht : t = r
  ·subst ht;simp;exact (h (t,v) (by simp)).symm
  ·simp [aU ht]
theorem o0 (s : St) : ∀ m : List (Nat × Nat × Cont),(∀ p ∈ m,s.own p.1 = (p.2.1,some p.2.2)) → m.foldr (fun p f r => bif Nat.beq r p.1 then (p.2.1,some p.2.2) else f r) s.own = s.own
 |[],_ => rfl
 |(k,g,c) :: m,h => by
  rw [List.foldr_cons,o0 s m (fun p hp => h p (by simp [hp]))]
  funext t
  by_cases ht : t = k
  ·subst ht;simp;exact (h (t,g,c) (by simp)).symm
  ·simp [aU ht]
theorem FitO.fits {s : St} : ∀ {m : List (Nat × Nat × Cont)},FitO s m → ∀ p ∈ m,s.own p.1 = (p.2.1,some p.2.2)
 |[],_ => by simp
 |(k,g,c) :: m,h => fun p hp => by
  have h' : s.own k = (g,some c) ∧ FitO s m := h
  rcases List.mem_cons.1 hp with rfl | hp
  ·exact h'.1
  ·exact FitO.fits h'.2 p hp
theorem Fit.fits {s : St} : ∀ {l : List (Nat × PV)} {m : List (Nat × Nat × Cont)},Fit s l m → s.fits l m
 |[],m,h => ⟨by simp,FitO.fits h⟩
 |(r,v) :: l,m,h => by
  have h' : s.reg r = v ∧ Fit s l m := h
  have := Fit.fits h'.2
  refine ⟨fun p hp => ?_,this.2⟩
  rcases List.mem_cons.1 hp with rfl | hp
  ·exact h'.1
  ·exact this.1 p hp
theorem Fit.over {s : St} {l : List (Nat × PV)} {m : List (Nat × Nat × Cont)} (h : Fit s l m) : s.over l m = s := by
 have := h.fits
 exact St.ext' (o4 s l this.1) (o0 s m this.2)
theorem ax {ι : Type} (I : ι → Prop) (regs : ι → List (Nat × PV)) (owns : ι → List (Nat × Nat × Cont)) (μ : ι → Nat) {c : Code} (i0 : ι) (h0 : I i0) (hs : Fit s (regs i0) (owns i0))
  (round : ∀ (i : ι) (s : St),I i → PWP P L c (aC (fun s' => ∃ j,I j ∧ μ j < μ i ∧ Fit s' (regs j) (owns j)) Q) (s.over (regs i) (owns i))) : PWP P L (.loop c) Q s := by
 let J : St → Nat → Prop := fun s n => ∃ i,I i ∧ Fit s (regs i) (owns i) ∧ μ i = n
 have least : ∀ s,(∃ n,J s n) → ∃ n,J s n ∧ ∀ m,J s m → n ≤ m := by
  intro s ⟨n,hn⟩
  induction n using Nat.strongRecOn with
  |_ n ih =>
   by_cases hx : ∃ m,m < n ∧ J s m
   ·obtain ⟨m,hm,hj⟩ := hx
    exact ih m hm hj
   ·exact ⟨n,hn,fun m hm => by
     rcases Nat.lt_or_ge m n with h | h
     ·exact absurd ⟨m,h,hm⟩ hx
     ·exact h⟩
 have hμ : ∃ f : St → Nat,∀ s,(∃ n,J s n) → J s (f s) ∧ ∀ m,J s m → f s ≤ m :=
  ⟨fun s => Classical.epsilon fun n => J s n ∧ ∀ m,J s m → n ≤ m,fun s hx => Classical.epsilon_spec (least s hx)⟩
 obtain ⟨f,hf⟩ := hμ
 refine Gh.of ⟨fun s => ∃ i,I i ∧ Fit s (regs i) (owns i),f,⟨i0,h0,hs⟩,?_⟩
 rintro s1 ⟨i1,hi1,hfit1⟩
 obtain ⟨⟨i,hi,hfit,hm⟩,_⟩ := hf s1 ⟨_,i1,hi1,hfit1,rfl⟩
 have := round i s1 hi
 rw [hfit.over] at this
 refine PWP.mono ?_ _ this
 intro e s' hq
 cases e
 case normal =>
  obtain ⟨j,hj,hlt,hfj⟩ := hq
  refine ⟨⟨j,hj,hfj⟩,?_⟩
  have := (hf s' ⟨_,j,hj,hfj,rfl⟩).2 _ ⟨j,hj,hfj,rfl⟩
  omega
 all_goals exact hq
end
end Go.Pv
namespace Go.Pv
open Go.RowKit
variable [Globs]
section
variable {P : Program} {L : Lay} {Q : Exit → St → Prop} {K : St → Prop} {s : St} {ops : Array Oper} {rest : List Oper} {o : Oper}
variable {d e j : Nat} {op : Op} {ty : TypeId} {pos : String} {af : Array Edge} {want : Bool} {g : Option (Nat × Bool)}
theorem sX {b : Bool} (hr : s.reg e = .bool b) : s.putR e (.bool b) = s := by
 refine St.ext' ?_ rfl
 funext t
 show (bif Nat.beq t e then PV.bool b else s.reg t) = s.reg t
 by_cases ht : t = e
 ·subst ht;simp [hr]
 ·simp [aU ht]
theorem eE {x : Operand} {gn : Nat} {oc : Option Cont} (T : TypeId) (sz kd : Nat) (hx : s.ev x = .nil) (hown : s.own d = (gn,oc)) (h : K ((s.setOwn d (gn + 1) (some ⟨T,sz,[],kd⟩)).putR d (.als d (gn + 1) 0 0))) : POp P L s ⟨some d,.move x,ty,pos,af,g⟩ K := by
 refine .inr (.inl ⟨_,.nils T sz kd (.inl rfl) rfl hx,?_⟩)
 rw [St.fin,hown];exact h
theorem ez {x : Operand} {gn : Nat} {oc : Option Cont} (T : TypeId) (sz kd : Nat) (hx : s.ev x = .nil) (hown : s.own d = (gn,oc)) (h : K ((s.setOwn d (gn + 1) (some ⟨T,sz,[],kd⟩)).putR d (.als d (gn + 1) 0 0))) : POp P L s ⟨some d,.assign x,ty,pos,af,g⟩ K := by
 refine .inr (.inl ⟨_,.nils T sz kd (.inr rfl) rfl hx,?_⟩)
 rw [St.fin,hown];exact h
theorem da {T E : TypeId} {r re : LRow} {n : Nat} {ps : List (Nat × Operand)} {rows : List (List PV)} {Pr : Prop} (hr : L T = some r) (hs : r.sh = .sl E) (hre : L E = some re) (hz : re.zero.isSome = true) (hsz : Nat.blt 0 re.size = true) (hrows : ga s 0 ps = some rows)
  (hn : ps.map (·.1) = uY 0 n) (hN : Nat.ble (n * re.size) 16777216 = true) (hcells : ps.all (fun p => Nat.beq (s.ev p.2).cells.length re.size) = true) (h1 : cx s (ps.flatMap fun p => (s.ev p.2).cells) = some Pr) (h2 : Pr) (hkd : (ps.flatMap fun p => (s.ev p.2).cells).all (jY 0) = true) :
  QOp P L s ⟨some d,.buildSlice T n ps.toArray,ty,pos,af,g⟩ (.fsl rows) := by
 have := QOp.slit (P := P) (L := L) (s := s) (o := ⟨some d,.buildSlice T n ps.toArray,ty,pos,af,g⟩) rfl hr hs hre hz (by simpa using hsz) (by rw [g_] at hn;simpa using hn) (by simpa using hN) (fun p hp => by
  have := List.all_eq_true.1 hcells p (by simpa using hp)
  simpa using this) h1 h2 hkd
 rw [gY 0 ps rows hrows]
 exact this
variable {fn : Func} {r : PV}
theorem eM {t : Nat} {v d : PV} {Cd : Prop} {fl : Fl} (h : fn.results.toList = [.tmp t]) (hv : (s.reg t).fz = some v) (hres : dy s 5 v = some (d,Cd,fl)) (hc : Cd) (hd : d = r) : aj L fn .shared r .ret s := by
 rw [PV.fz_eq] at hv
 have hv := Option.some.inj hv
 subst hv
 exact ⟨[s.reg t],True ∧ True,d,Cd,fl,by rw [h];rfl,⟨trivial,trivial⟩,hres,hc,trivial,hd⟩
theorem bj {t : Nat} {b : Bool} (h : fn.results.toList = [.tmp t]) (hv : s.reg t = .bool b) (hd : PV.bool b = r) : aj L fn .shared r .ret s :=
 eM h (v := .bool b) (by rw [hv];rfl) rfl trivial hd
theorem aO {t : Nat} {k : IntKind} {n : Int} (h : fn.results.toList = [.tmp t]) (hv : s.reg t = .int k n) (hd : PV.int k n = r) : aj L fn .shared r .ret s :=
 eM h (v := .int k n) (by rw [hv];rfl) rfl trivial hd
theorem pP {t1 t2 : Nat} {v1 v2 d1 d2 : PV} {C1 C2 : Prop} {f1 f2 : Fl} (h : fn.results.toList = [.tmp t1,.tmp t2]) (h1 : (s.reg t1).fz = some v1) (h2 : (s.reg t2).fz = some v2) (r1 : dy s 4 v1 = some (d1,C1,f1)) (r2 : dy s 4 v2 = some (d2,C2,f2)) (c1 : C1) (c2 : C2)
  (hd : PV.tup [d1,d2] = r) : aj L fn .shared r .ret s := by
 rw [PV.fz_eq] at h1 h2
 have h1 := Option.some.inj h1
 have h2 := Option.some.inj h2
 subst h1 h2
 refine ⟨[s.reg t1,s.reg t2],True ∧ True ∧ True,.tup [d1,d2],C1 ∧ C2 ∧ True,f1.and (f2.and ⟨true,true⟩),by rw [h];rfl,⟨trivial,trivial,trivial⟩,?_,⟨c1,c2,trivial⟩,trivial,hd⟩
 show (match dK (dy s 4) [s.reg t1,s.reg t2] with | some (ds,C1,b) => some (PV.tup ds,C1,b) | none => none) = _
 simp only [dK,r1,r2]
theorem ox {t : Nat} {v d : PV} {Cd : Prop} {c : Bool} (h : fn.results.toList = [.tmp t]) (hv : (s.reg t).fz = some v) (hres : dy s 5 v = some (d,Cd,⟨c,true⟩)) (hc : Cd) (hd : d = r) : aj L fn .fresh r .ret s := by
 rw [PV.fz_eq] at hv
 have hv := Option.some.inj hv
 subst hv
 exact ⟨[s.reg t],True ∧ True,d,Cd,⟨c,true⟩,by rw [h];rfl,⟨trivial,trivial⟩,hres,hc,rfl,hd⟩
end
section
variable {P : Program} {L : Lay} {Q : Exit → St → Prop} {K : St → Prop} {s : St} {ops : Array Oper}
theorem POps.app {K : St → Prop} : ∀ (l1 l2 : List Oper) (s : St),POps P L ops (fun s' => POps P L ops K l2 s') l1 s → POps P L ops K (l1 ++ l2) s
 |[],_,_,h => h
 |_ :: l1,l2,_,h => h.imp (fun x => ⟨x.1,x.2.mono fun s' h' => POps.app l1 l2 s' h'⟩) fun x => ⟨x.1,POps.app l1 l2 _ x.2⟩
theorem PQuiet.app {K : St → Prop} : ∀ (l1 l2 : List Oper) (s : St),PQuiet P L ops (fun s' => PQuiet P L ops K l2 s') l1 s → PQuiet P L ops K (l1 ++ l2) s
 |[],_,_,h => h
 |_ :: l1,l2,_,h => h.imp (fun ⟨x,pv,y,z⟩ => ⟨x,pv,y,PQuiet.app l1 l2 _ z⟩) fun x => ⟨x.1,PQuiet.app l1 l2 _ x.2⟩
theorem zC {x y : Code} (regs : List (Nat × PV)) (owns : List (Nat × Nat × Cont)) (h1 : PWP P L x (aC (fun s' => Fit s' regs owns) Q) s) (h2 : ∀ s : St,PWP P L y Q (s.over regs owns)) : PWP P L (.seq x y) Q s := by
 refine bQ (PWP.mono ?_ _ h1)
 intro e s' h
 cases e
 case normal =>
  have := h2 s'
  rwa [Fit.over h] at this
 all_goals exact h
theorem nC {x y : Code} (regs : List (Nat × PV)) (owns : List (Nat × Nat × Cont)) (h1 : PWP P L x (aC (fun s' => Fit s' regs owns) Q) s) (h2 : ∀ s : St,PWP P L y Q (s.over regs owns)) : PWP P L x (aC (fun s' => PWP P L y Q s') Q) s := zC regs owns h1 h2
end
theorem wrap_i64 {n : Int} (h1 : -9223372036854775808 ≤ n) (h2 : n ≤ 9223372036854775807) : IntKind.i64.wrap n = n := by
 rw [IntKind.wrap_i64];omega
theorem bG {n : Int} (h1 : -9223372036854775808 ≤ n) (h2 : n < 9223372036854775807) : PV.int .i64 (IntKind.i64.wrap (n + 1)) = .int .i64 (n + 1) := by rw [wrap_i64 (by omega) (by omega)]
theorem aM {α : Type} {l : List α} {k : Nat} (h : k < l.length) : ∃ x,l[k]? = some x := ⟨l[k],List.getElem?_eq_getElem h⟩
end Go.Pv
namespace Go.Pv
open Go.RowKit
variable [Globs]
section
variable {C : Ctx} {γ : Nat → Option Nat} {s : St} {a : Act} {w : World}
theorem iD {k0 g0 : Nat} {c0 c1 : Cont} (ho : s.own k0 = (g0,some c0)) (ht : c1.ty = c0.ty) (hs : c1.sz = c0.sz) (hl : c1.rows.length = c0.rows.length) :
  ah C γ (s.setOwn k0 g0 (some c1)) w = ah C γ s w := by
 have hown : ∀ k,((s.setOwn k0 g0 (some c1)).own k).1 = (s.own k).1 ∧ (((s.setOwn k0 g0 (some c1)).own k).2.map fun c => (⟨γ k,c.ty,c.sz,c.rows.length⟩ : SLoc)) = (s.own k).2.map fun c => (⟨γ k,c.ty,c.sz,c.rows.length⟩ : SLoc) := by
  intro k
  by_cases hk : k = k0
  ·subst hk;rw [ag,ho];simp [ht,hs,hl]
  ·rw [ar hk];exact ⟨rfl,rfl⟩
 have hok : ∀ b,cV C γ (s.setOwn k0 g0 (some c1)) w b = cV C γ s w b := by
  intro b
  refine propext ⟨fun h => ⟨h.1,h.2.1,fun k c hc => ?_⟩,fun h => ⟨h.1,h.2.1,fun k c hc => ?_⟩⟩
  ·by_cases hk : k = k0
   ·subst hk;exact h.2.2 k c1 (by rw [ag])
   ·exact h.2.2 k c (by rw [ar hk];exact hc)
  ·by_cases hk : k = k0
   ·subst hk;exact h.2.2 k c0 (by rw [ho])
   ·rw [ar hk] at hc;exact h.2.2 k c hc
 unfold ah
 congr 1
 ·funext b;exact hok b
 ·funext b;rw [hok b]
 ·funext k;exact (hown k).1
 ·funext k;exact (hown k).2
theorem SiteOk.rowlen {E : Env} {blk : Option Nat} {c : Cont} (h : SiteOk E blk c) (hz : 0 < c.sz) : ∀ r ∈ c.rows,r.length = c.sz := by
 intro r hr
 cases blk with
 |none => rw [h.emp rfl] at hr;cases hr
 |some b => obtain ⟨cur,_,_,_,f4,_⟩ := h.at_ b rfl hz;exact f4 r hr
theorem Sim.recell (h : Sim C γ s a w) {k0 g0 : Nat} {c0 c1 : Cont} (ho : s.own k0 = (g0,some c0)) (ht : c1.ty = c0.ty) (hs : c1.sz = c0.sz) (hz0 : 0 < c0.sz) (hl : c1.rows.length = c0.rows.length) (hrl : ∀ row ∈ c1.rows,row.length = c1.sz)
  (hcell : ∀ (i j : Nat) (row1 : List PV) (pv1 : PV),c1.rows[i]? = some row1 → row1[j]? = some pv1 → ∃ row0 pv0,c0.rows[i]? = some row0 ∧ row0[j]? = some pv0 ∧ ∀ v,KRep (ah C γ s w) c0.kind pv0 v → KRep (ah C γ s w) c1.kind pv1 v) :
  Sim C γ (s.setOwn k0 g0 (some c1)) a w := by
 have he := iD (C := C) (γ := γ) (w := w) ho ht hs hl
 have hsome : ∀ k c,((s.setOwn k0 g0 (some c1)).own k).2 = some c → ∃ c',(s.own k).2 = some c' := by
  intro k c hc
  by_cases hk : k = k0
  ·subst hk;exact ⟨c0,by rw [ho]⟩
  ·rw [ar hk] at hc;exact ⟨c,hc⟩
 refine ⟨h.defers,h.size,fun r => by rw [he];exact h.regs r,fun k c hc => ?_,fun k k' c c' b e1 e2 e3 e4 => ?_,fun k c b e1 e2 => ?_,h.below,h.top,fun c v hk => by rw [he];exact h.kept c v hk⟩
 ·rw [he]
  by_cases hk : k = k0
  ·subst hk
   rw [ag] at hc
   have hc : c1 = c := Option.some.inj hc
   subst hc
   have hsite := h.sites k c0 (by rw [ho])
   refine ⟨fun hb => ?_,(fun b _ hz => by omega),(fun b _ hz => by omega),fun b hb _ => ?_⟩
   ·have := hsite.emp hb
    exact List.eq_nil_of_length_eq_zero (by rw [hl,this];rfl)
   ·obtain ⟨cur,f1,f2,f3,f4,f5⟩ := hsite.at_ b hb hz0
    refine ⟨cur,by rw [ht];exact f1,by rw [hs];exact f2,by rw [hl,hs];exact f3,hrl,fun i j row pv e1 e2 => ?_⟩
    obtain ⟨row0,pv0,g1,g2,g3⟩ := hcell i j row pv e1 e2
    obtain ⟨v,u1,u2,u3⟩ := f5 i j row0 pv0 g1 g2
    exact ⟨v,by rw [hs];exact u1,u2,g3 v u3⟩
  ·rw [ar hk] at hc
   exact h.sites k c hc
 ·obtain ⟨d,hd⟩ := hsome k c e1
  obtain ⟨d',hd'⟩ := hsome k' c' e2
  exact h.inj k k' d d' b hd hd' e3 e4
 ·obtain ⟨d,hd⟩ := hsome k c e1
  exact h.base k d b hd e2
theorem Sim.drop (hX : ∀ b,C.X b → b < C.B) (h : Sim C γ s a w) {k g : Nat} {c : Cont} (ho : s.own k = (g,some c)) :
  Sim C γ (s.setOwn k (g + 1) none) a w ∧ (ah C γ s w).Le (ah C γ (s.setOwn k (g + 1) none) w) ∧
   (c.kind = 0 → ∀ v,Rep (ah C γ s w) (.als k g 0 c.rows.length) v → DRep w (ah C γ (s.setOwn k (g + 1) none) w).okf (.sl c.rows) v) := by
 have hok : ∀ b,cV C γ s w b → cV C γ (s.setOwn k (g + 1) none) w b := fun b hb => ⟨hb.1,hb.2.1,fun k' c' hc' => by
  by_cases hk : k' = k
  ·subst hk;rw [ag] at hc';cases hc'
  ·rw [ar hk] at hc';exact hb.2.2 k' c' hc'⟩
 have hle : (ah C γ s w).Le (ah C γ (s.setOwn k (g + 1) none) w) := by
  refine ⟨hok,fun b hb => ⟨hb.1,hok b hb.2⟩,fun b hb => hb.2,fun b _ => rfl,fun k' => ?_,fun k' l' hg hl => ?_,fun k' l' b cur hg hl hb hh => ⟨cur,hh,rfl⟩⟩
  ·show (s.own k').1 ≤ ((s.setOwn k (g + 1) none).own k').1
   by_cases hk : k' = k
   ·subst hk;rw [ag,ho];simp
   ·rw [ar hk];exact Nat.le_refl _
  ·by_cases hk : k' = k
   ·subst hk
    simp only [ah,ag,Option.map_none] at hl
    cases hl
   ·refine ⟨l',?_,rfl,rfl,rfl,Nat.le_refl _⟩
    simp only [ah,ar hk] at hl ⊢
    exact hl
 refine ⟨⟨h.defers,h.size,fun r => (h.regs r).mono hle,fun k' c' hc' => ?_,fun k1 k2 c1 c2 b e1 e2 e3 e4 => ?_,fun k' c' b e1 e2 => ?_,h.below,h.top,fun c v hk => (h.kept c v hk).mono hle⟩,hle,fun hk v hv => ?_⟩
 ·by_cases hk : k' = k
  ·subst hk;rw [ag] at hc';cases hc'
  ·rw [ar hk] at hc'
   exact (h.sites k' c' hc').mono hle fun b hb => rfl
 ·have hne : ∀ {k' c'},((s.setOwn k (g + 1) none).own k').2 = some c' → (s.own k').2 = some c' := by
   intro k' c' hc'
   by_cases hk : k' = k
   ·subst hk;rw [ag] at hc';cases hc'
   ·rwa [ar hk] at hc'
  exact h.inj k1 k2 c1 c2 b (hne e1) (hne e2) e3 e4
 ·by_cases hk : k' = k
  ·subst hk;rw [ag] at e1;cases e1
  ·rw [ar hk] at e1;exact h.base k' c' b e1 e2
 ·rcases h.als_at hv ho with ⟨h1,_,h3,rfl⟩ | ⟨b,cap,cur,h1,rfl,h3,h4,h5,h6,h7⟩
  ·have : c.rows = [] := (h.sites k c (by rw [ho])).emp h1
   rw [this]
   exact .sl0 _ _
  ·obtain ⟨cur',g1,g2,g3,g4,g5⟩ := h.site_at ho h1 (h.cells_sz ho h1 h3 h6)
   have hb : (ah C γ (s.setOwn k (g + 1) none) w).okf b := by
    have hbase := h.base k c b (by rw [ho]) h1
    refine ⟨hbase.1,hbase.2,fun hx => ?_,fun k' c' hc' hb' => ?_⟩
    ·have := hX b hx;omega
    ·by_cases hk' : k' = k
     ·subst hk';rw [ag] at hc';cases hc'
     ·rw [ar hk'] at hc'
      exact hk' (h.inj k' k c' c b hc' (by rw [ho]) hb' h1)
   simp only [Nat.zero_mul]
   refine .sl c.rows b 0 cap c.sz (fun i j => cur'.getD (i * c.sz + j) undef) hb g2 h4 g4 (fun i j row pv e1 e2 => ?_) (fun i j row pv e1 e2 => ?_)
   ·obtain ⟨u,f1,f2,_⟩ := g5 i j row pv e1 e2
    rw [aI g1,Nat.zero_add,f1]
    simp [f1,f2]
   ·obtain ⟨u,f1,_,f3⟩ := g5 i j row pv e1 e2
    have : cur'.getD (i * c.sz + j) undef = u := by simp [f1]
    simp only [this]
    rw [hk] at f3
    exact hle.drepf f3
end
section
variable {s : St}
theorem Ghost.drop {k g : Nat} {oc : Option Cont} (ho : s.own k = (g,oc)) : Ghost s (s.setOwn k (g + 2) none) := by
 intro C a w hX ⟨γ,h⟩
 have ht : Turn C γ s w w k none := ⟨rfl,rfl,rfl,Nat.le_refl _,fun b _ => .inl rfl,fun b hb => by cases hb⟩
 have h1 := ht.sim h (c := ⟨0,0,[],0⟩) (.none_ rfl)
 have hfin : s.fin k ⟨0,0,[],0⟩ = s.setOwn k (g + 1) (some ⟨0,0,[],0⟩) := by rw [St.fin,ho]
 rw [hfin] at h1
 have h2 := (h1.drop hX (ag _ _ _ _)).1
 have he : (s.setOwn k (g + 1) (some ⟨0,0,[],0⟩)).setOwn k (g + 1 + 1) none = s.setOwn k (g + 2) none := by
  refine St.ext' rfl (funext fun r => ?_)
  show (bif Nat.beq r k then _ else (bif Nat.beq r k then _ else _)) = (bif Nat.beq r k then _ else _)
  cases Nat.beq r k <;> rfl
 rw [he] at h2
 exact ⟨_,h2⟩
theorem Ghost.move {k g k' g' t i j : Nat} {c : Cont} {oc' : Option Cont} (hk : Nat.beq k k' = false) (ho : s.own k = (g,some c)) (ho' : s.own k' = (g',oc')) (hr : s.reg t = .ptr k g i j) :
  Ghost s (((s.setOwn k (g + 1) none).setOwn k' (g' + 1) (some c)).putR t (.ptr k' (g' + 1) i j)) := by
 intro C a w hX ⟨γ,h⟩
 have hne : k ≠ k' := fun e => by subst e;simp at hk
 have o1 : ((s.setOwn k (g + 1) none).setOwn k' (g' + 1) (some c)).own k = (g + 1,none) := by rw [ar hne,ag]
 have o2 : ((s.setOwn k (g + 1) none).setOwn k' (g' + 1) (some c)).own k' = (g' + 1,some c) := ag _ _ _ _
 have o3 : ∀ q,q ≠ k → q ≠ k' → ((s.setOwn k (g + 1) none).setOwn k' (g' + 1) (some c)).own q = s.own q := fun q h1 h2 => by rw [ar h2,ar h1]
 have hregs : ((s.setOwn k (g + 1) none).setOwn k' (g' + 1) (some c)).reg = s.reg := rfl
 generalize (s.setOwn k (g + 1) none).setOwn k' (g' + 1) (some c) = s1 at *
 have hval : ∀ {q : Nat} {d : Cont},(s1.own q).2 = some d → ∃ q0,(s.own q0).2 = some d ∧ γ q0 = fc γ k' (γ k) q ∧ ((q = k' ∧ q0 = k) ∨ (q ≠ k' ∧ q ≠ k ∧ q0 = q)) := by
  intro q d hd
  by_cases h2 : q = k'
  ·subst h2
   rw [o2] at hd
   exact ⟨k,by rw [ho];exact hd,by rw [bk],.inl ⟨rfl,rfl⟩⟩
  ·by_cases h1 : q = k
   ·subst h1;rw [o1] at hd;cases hd
   ·rw [o3 q h1 h2] at hd
    exact ⟨q,hd,by rw [dF h2],.inr ⟨h2,h1,rfl⟩⟩
 have hok : ∀ b,cV C γ s w b → cV C (fc γ k' (γ k)) s1 w b := fun b hb => ⟨hb.1,hb.2.1,fun q d hd => by
  obtain ⟨q0,e1,e2,_⟩ := hval hd
  rw [← e2];exact hb.2.2 q0 d e1⟩
 have hle : (ah C γ s w).Le (ah C (fc γ k' (γ k)) s1 w) := by
  refine ⟨hok,fun b hb => ⟨hb.1,hok b hb.2⟩,fun b hb => hb.2,fun b _ => rfl,fun q => ?_,fun q l' hg hl => ?_,fun q l' b cur hg hl hb hh => ⟨cur,hh,rfl⟩⟩
  ·show (s.own q).1 ≤ (s1.own q).1
   by_cases h2 : q = k'
   ·subst h2;rw [o2,ho'];simp
   ·by_cases h1 : q = k
    ·subst h1;rw [o1,ho];simp
    ·rw [o3 q h1 h2];exact Nat.le_refl _
  ·have hgg : (s1.own q).1 = (s.own q).1 := hg
   by_cases h2 : q = k'
   ·subst h2;rw [o2,ho'] at hgg;simp at hgg
   ·by_cases h1 : q = k
    ·subst h1;rw [o1,ho] at hgg;simp at hgg
    ·refine ⟨l',?_,rfl,rfl,rfl,Nat.le_refl _⟩
     simp only [ah,o3 q h1 h2,dF h2] at hl ⊢
     exact hl
 refine ⟨fc γ k' (γ k),h.defers,h.size,fun r => ?_,fun q d hd => ?_,fun q1 q2 d1 d2 b e1 e2 e3 e4 => ?_,fun q d b e1 e2 => ?_,h.below,h.top,fun d v hd => (h.kept d v hd).mono hle⟩
 ·show Rep (ah C (fc γ k' (γ k)) s1 w) (bif Nat.beq r t then _ else s1.reg r) _
  by_cases hrt : r = t
  ·subst hrt
   have hp := h.regs r
   rw [hr] at hp
   simp only [Nat.beq_refl,cond_true]
   have hp' := h.ptr_at hp ho
   refine .ptr ?_ fun _ l hl => ?_
   ·show g' + 1 ≤ (s1.own k').1
    rw [o2];exact Nat.le_refl _
   ·simp only [ah,o2,bk,Option.map_some,Option.some.injEq] at hl
    subst hl
    exact hp'
  ·rw [aU hrt,hregs];exact (h.regs r).mono hle
 ·obtain ⟨q0,e1,e2,_⟩ := hval hd
  have := (h.sites q0 d e1).mono hle fun b _ => rfl
  rwa [e2] at this
 ·obtain ⟨p1,f1,f2,f3⟩ := hval e1
  obtain ⟨p2,f4,f5,f6⟩ := hval e2
  have := h.inj p1 p2 d1 d2 b f1 f4 (by rw [f2];exact e3) (by rw [f5];exact e4)
  rcases f3 with ⟨a1,a2⟩ | ⟨a1,a2,a3⟩ <;> rcases f6 with ⟨b1,b2⟩ | ⟨b1,b2,b3⟩
  ·rw [a1,b1]
  ·exact absurd (by rw [← b3,← this,a2]) b2
  ·exact absurd (by rw [← a3,this,b2]) a2
  ·rw [← a3,← b3,this]
 ·obtain ⟨q0,f1,f2,_⟩ := hval e1
  exact h.base q0 d b f1 (by rw [f2];exact e2)
theorem Ghost.data {k g t kd : Nat} {T : TypeId} {row : List PV} (ho : s.own k = (g,some ⟨T,row.length,[row],kd⟩)) (hr : s.reg t = .ptr k g 0 0) (hall : row.all (jY 1) = true) (hz0 : Nat.blt 0 row.length = true) :
  Ghost s ((s.setOwn k (g + 1) none).putR t (.dref (row.map (df 1)) 0)) := by
 intro C a w hX ⟨γ,h⟩
 obtain ⟨h1,hle,_⟩ := h.drop hX ho
 have hz0 : 0 < row.length := by simpa using hz0
 have hp := h.regs t
 rw [hr] at hp
 obtain ⟨b,hb,hv,hi,hj⟩ := h.ptr_at hp ho
 obtain ⟨cur,f1,f2,f3,f4,f5⟩ := h.site_at ho hb hz0
 have hokb : cV C γ (s.setOwn k (g + 1) none) w b := by
  have hbase := h.base k _ b (by rw [ho]) hb
  refine ⟨hbase.2,fun hx => ?_,fun k' c' hc' hb' => ?_⟩
  ·have := hX b hx;omega
  ·by_cases hk' : k' = k
   ·subst hk';rw [ag] at hc';cases hc'
   ·rw [ar hk'] at hc'
    exact hk' (h.inj k' k c' _ b hc' (by rw [ho]) hb' hb)
 have hd : Rep (ah C γ (s.setOwn k (g + 1) none) w) (.dref (row.map (df 1)) 0) (a.tmps.getD t undef) := by
  rw [hv]
  simp only [Nat.zero_mul,Nat.zero_add]
  have key : ∀ (i : Nat) (c : PV),(row.map (df 1))[i]? = some c → ∃ c0 u,row[i]? = some c0 ∧ c = df 1 c0 ∧ cur[i]? = some u ∧ u.oneCell' = true ∧ KRep (ah C γ s w) kd c0 u := by
   intro i c hc
   rw [List.getElem?_map] at hc
   cases hq : row[i]? with
   |none => rw [hq] at hc;simp at hc
   |some c0 =>
    rw [hq] at hc;simp at hc
    obtain ⟨u,e1,e2,e3⟩ := f5 0 i row c0 rfl hq
    exact ⟨c0,u,rfl,hc.symm,by simpa using e1,e2,e3⟩
  have := DRep.dref (w := w) (ok := (ah C γ (s.setOwn k (g + 1) none) w).ok) (row.map (df 1)) 0 b 0 (fun i => cur.getD i undef) hokb (fun i c hc => by
   obtain ⟨c0,u,e1,e2,e3,e4,e5⟩ := key i c hc
   rw [aI f1,Nat.zero_add,e3]
   simp [e3,e4]) (fun i c hc => by
   obtain ⟨c0,u,e1,rfl,e3,e4,e5⟩ := key i c hc
   have hu : cur.getD i undef = u := by simp [e3]
   rw [hu]
   exact hle.drep (eQ (k := 1) ap (List.all_eq_true.1 hall c0 (List.mem_of_getElem? e1)) (e5.rep ap)))
  exact .d this
 refine ⟨γ,h1.defers,h1.size,fun r => ?_,h1.sites,h1.inj,h1.base,h1.below,h1.top,h1.kept⟩
 show Rep (ah C γ (s.setOwn k (g + 1) none) w) (bif Nat.beq r t then _ else s.reg r) _
 by_cases hrt : r = t
 ·subst hrt;simpa using hd
 ·rw [aU hrt];exact h1.regs r
theorem Ghost.nilcell {k gk k0 g0 i j : Nat} {oc : Option Cont} {c0 : Cont} {row : List PV} (T : TypeId) (sz kd : Nat) (hk : Nat.beq k0 k = false) (ho : s.own k = (gk,oc)) (h0 : s.own k0 = (g0,some c0)) (hkind : c0.kind = 2) (hrow : c0.rows[i]? = some row) (hj : row[j]? = some .nil) (hz0 : Nat.blt 0 c0.sz = true) :
  Ghost s ((s.setOwn k (gk + 1) (some ⟨T,sz,[],kd⟩)).setOwn k0 g0 (some ⟨c0.ty,c0.sz,c0.rows.set i (row.set j (.als k (gk + 1) 0 0)),2⟩)) := by
 intro C a w hX ⟨γ,h⟩
 have hne : k0 ≠ k := fun e => by subst e;simp at hk
 have ht : Turn C γ s w w k none := ⟨rfl,rfl,rfl,Nat.le_refl _,fun b _ => .inl rfl,fun b hb => by cases hb⟩
 have h1 := ht.sim h (c := ⟨T,sz,[],kd⟩) (.none_ rfl)
 have hfin : s.fin k ⟨T,sz,[],kd⟩ = s.setOwn k (gk + 1) (some ⟨T,sz,[],kd⟩) := by rw [St.fin,ho]
 rw [hfin] at h1
 have ho1 : (s.setOwn k (gk + 1) (some ⟨T,sz,[],kd⟩)).own k0 = (g0,some c0) := by rw [ar hne];exact h0
 have hz0 : 0 < c0.sz := by simpa using hz0
 refine ⟨_,h1.recell ho1 rfl rfl hz0 (by simp) (fun r hr => ?_) fun i' j' row1 pv1 e1 e2 => ?_⟩
 ·rcases List.mem_or_eq_of_mem_set hr with hr | rfl
  ·exact (h.sites k0 c0 (by rw [h0])).rowlen hz0 r hr
  ·simpa using (h.sites k0 c0 (by rw [h0])).rowlen hz0 row (List.mem_of_getElem? hrow)
 ·by_cases hi : i' = i
  ·subst hi
   have hlt := (List.getElem?_eq_some_iff.1 hrow).1
   rw [List.getElem?_set_self hlt] at e1
   have e1 := Option.some.inj e1
   subst e1
   by_cases hjj : j' = j
   ·subst hjj
    have hlt2 := (List.getElem?_eq_some_iff.1 hj).1
    rw [List.getElem?_set_self hlt2] at e2
    have e2 := Option.some.inj e2
    subst e2
    refine ⟨row,.nil,hrow,hj,fun v hv => ?_⟩
    rw [hkind] at hv
    have hv : Rep _ PV.nil v := hv
    rw [hv.nil_inv]
    refine Rep.als ?_ fun _ l hl => ?_
    ·show _ ≤ ((s.setOwn k (gk + 1) (some ⟨T,sz,[],kd⟩)).own k).1
     rw [ag];exact Nat.le_refl _
    ·simp only [ah,ag,bk,Option.map_some,Option.some.injEq] at hl
     subst hl
     exact .inl ⟨rfl,rfl,rfl,rfl⟩
   ·rw [List.getElem?_set_ne (Ne.symm hjj)] at e2
    exact ⟨row,pv1,hrow,e2,fun v hv => by rw [hkind] at hv;exact hv⟩
  ·rw [List.getElem?_set_ne (Ne.symm hi)] at e1
   exact ⟨row1,pv1,e1,e2,fun v hv => by rw [hkind] at hv;exact hv⟩
end
theorem Ghost.nilreg {s : St} {k gk t : Nat} {oc : Option Cont} (T : TypeId) (sz kd : Nat) (ho : s.own k = (gk,oc)) (hr : s.reg t = .nil) : Ghost s ((s.setOwn k (gk + 1) (some ⟨T,sz,[],kd⟩)).putR t (.als k (gk + 1) 0 0)) := by
 intro C a w hX ⟨γ,h⟩
 have ht : Turn C γ s w w k none := ⟨rfl,rfl,rfl,Nat.le_refl _,fun b _ => .inl rfl,fun b hb => by cases hb⟩
 have h1 := ht.sim h (c := ⟨T,sz,[],kd⟩) (.none_ rfl)
 have hfin : s.fin k ⟨T,sz,[],kd⟩ = s.setOwn k (gk + 1) (some ⟨T,sz,[],kd⟩) := by rw [St.fin,ho]
 rw [hfin] at h1
 refine ⟨_,h1.defers,h1.size,fun r => ?_,h1.sites,h1.inj,h1.base,h1.below,h1.top,h1.kept⟩
 show Rep _ (bif Nat.beq r t then _ else s.reg r) _
 by_cases hrt : r = t
 ·subst hrt
  have hv := h.regs r
  rw [hr] at hv
  rw [hv.nil_inv]
  simp only [Nat.beq_refl,cond_true]
  refine .als ?_ fun _ l hl => ?_
  ·show _ ≤ ((s.setOwn k (gk + 1) (some ⟨T,sz,[],kd⟩)).own k).1
   rw [ag];exact Nat.le_refl _
  ·have hl : (((s.setOwn k (gk + 1) (some ⟨T,sz,[],kd⟩)).own k).2.map fun c => (⟨fc γ k none k,c.ty,c.sz,c.rows.length⟩ : SLoc)) = some l := hl
   rw [ag,bk] at hl
   have hl := Option.some.inj hl
   subst hl
   exact .inl ⟨rfl,rfl,rfl,rfl⟩
 ·rw [aU hrt];exact h1.regs r
theorem Ghost.nilsl {s : St} {t : Nat} (hr : s.reg t = .nil) : Ghost s (s.putR t (.sl [])) := by
 intro C a w hX ⟨γ,h⟩
 refine ⟨_,h.defers,h.size,fun r => ?_,h.sites,h.inj,h.base,h.below,h.top,h.kept⟩
 show Rep _ (bif Nat.beq r t then _ else s.reg r) _
 by_cases hrt : r = t
 ·subst hrt
  have hv := h.regs r
  rw [hr] at hv
  rw [hv.nil_inv]
  simp only [Nat.beq_refl,cond_true]
  exact .d (.sl0 _ _)
 ·rw [aU hrt];exact h.regs r
end Go.Pv
namespace Go.Pv
open Go.RowKit
variable [Globs]
def yu (fn : Func) (T : TypeId) (sz : Nat) (rows : List (List PV)) (s : St) : Prop :=
 ∃ t k g m kd,fn.results.toList = [.tmp t] ∧ s.reg t = .als k g 0 m ∧ s.own k = (g,some ⟨T,sz,rows,kd⟩) ∧ m = rows.length ∧ rows.all (·.all PV.flat1) = true
def n4 (fn : Func) (T : TypeId) (sz : Nat) (rows : List (List PV)) : Exit → St → Prop
 |.normal,s | .ret,s => yu fn T sz rows s
 |_,_ => False
theorem sx {E : Env} {k : Nat} {c : PV} {v : Value} (hf : c.flat1 = true) (h : KRep E k c v) (hE : ∀ b,E.okf b → E.ok b) (w : World) (ok : Nat → Prop) : DRep w ok c v := by
 have hr := h.rep hE
 cases c with
 |bool b => rw [hr.bool_inv];exact .bool _
 |int k n => rw [hr.int_inv];exact .int _ _
 |str s => rw [hr.str_inv];exact .str _
 |raw u => rw [hr.raw_inv];exact .raw _
 |nil => rw [hr.nil_inv];exact .nil
 |_ => simp [PV.flat1] at hf
section
variable {P : Program} {L : Lay} {s : St}
theorem RetO.of_pwp {f : FuncId} {fn : Func} {body : Code} {pargs : List PV} {T : TypeId} {sz : Nat} {rows : List (List PV)} (hL : eG P L) (hm : P.follows .mixedOrders = true) (hf : P.funcs[f]? = some fn) (hb : fn.body = some body) (hn : (fn.name == "runtime.NumGoroutine") = false)
  (hlen : Nat.ble pargs.length fn.ntmps = true) (hc : gQ fn.ntmps body = true) (h : PWP P L body (n4 fn T sz rows) (ca pargs)) : RetO P f pargs T sz rows := by
 refine ⟨⟨fn,hf,hn,by simp [hb]⟩,fun w X args hg hX hl hargs => ?_⟩
 let C : Ctx := ⟨w.heap.size,X,w,fn.ntmps,fun _ _ => False,[]⟩
 have hG : Good P L C := ⟨hL,hX,hm,fun w' hb => Globs.keep w w' hg hb⟩
 have hle : args.length ≤ fn.ntmps := by rw [← hl];simpa using hlen
 have hsim : SimE C (ca pargs) { tmps := args.toArray ++ Array.replicate (fn.ntmps - args.toArray.size) undef,defers := [] } w := by
  refine ⟨fun _ => none,rfl,by simp [C];omega,fun t => ?_,fun k c hk => by simp [ca] at hk,fun k k' c c' b hk => by simp [ca] at hk,fun k c b hk => by simp [ca] at hk,Below.refl _ _,Nat.le_refl _,fun c v hk => hk.elim⟩
  show Rep _ (pargs.getD t (.raw undef)) _
  rcases Nat.lt_or_ge t args.length with hlt | hge
  ·have hlt' : t < pargs.length := by omega
   have e1 : pargs.getD t (.raw undef) = pargs[t] := by simp [hlt']
   have e2 : (args.toArray ++ Array.replicate (fn.ntmps - args.toArray.size) undef).getD t undef = args[t] := by
    rw [Array.getD_eq_getD_getElem?,Array.getElem?_append_left (by simpa using hlt)]
    simp [hlt]
   rw [e1,e2]
   refine .d ((hargs t pargs[t] args[t] (List.getElem?_eq_getElem hlt') (List.getElem?_eq_getElem hlt)).weaken fun b hb => ⟨hb.1,hb.2,fun k c hk => by simp [ca] at hk⟩)
  ·have e1 : pargs.getD t (.raw undef) = .raw undef := by simp [List.getElem?_eq_none (by omega : pargs.length ≤ t)]
   have e2 : (args.toArray ++ Array.replicate (fn.ntmps - args.toArray.size) undef).getD t undef = undef := by
    rw [Array.getD_eq_getD_getElem?,Array.getElem?_append_right (by simpa using hge)]
    rcases Nat.lt_or_ge (t - args.toArray.size) (fn.ntmps - args.toArray.size) with h1 | h1
    ·rw [Array.getElem?_replicate,if_pos h1];rfl
    ·rw [Array.getElem?_eq_none (by simpa using h1)];rfl
   rw [e1,e2]
   exact .d (.raw _)
 refine calls_of_wp hf hb (wp_mono (PWP.sound hG body _ _ _ w hc (fun _ hq => hq) hsim h) ?_)
 have fin : ∀ {s : St} {a : Act} {w' : World},SimE C s a w' → yu fn T sz rows s → a.defers = [] ∧ ∃ v,(results fn a.tmps).run P w' = .ok v w' ∧ ∃ u,Ending.returned v = .returned u ∧ Below w.heap.size w w' ∧ z6 w w' T sz rows u := by
  rintro s a w' ⟨γ,hs⟩ ⟨t,k,g,m,kd,h1,h2,h3,h4,h5⟩
  refine ⟨hs.defers,a.tmps.getD t undef,?_,_,rfl,hs.below,?_⟩
  ·unfold results
   rw [← Array.toArray_toList (xs := fn.results),h1]
   simp
  ·have hr := hs.regs t
   rw [h2] at hr
   subst h4
   rcases hs.als_at hr h3 with ⟨e1,_,_,e4⟩ | ⟨b,cap,cur,e1,e2,e3,e4,e5,e6,e7⟩
   ·exact .inl ⟨(hs.sites k _ (by rw [h3])).emp e1,e4⟩
   ·obtain ⟨cur',g1,g2,g3,g4,g5⟩ := hs.site_at h3 e1 (hs.cells_sz h3 e1 e3 e6)
    have hcc : cur' = cur := by
     have e3 : w'.heap[b]? = some (.cells cur T (0,0)) := e3
     have g1 : w'.heap[b]? = some (.cells cur' T (0,0)) := g1
     rw [g1] at e3
     simpa using e3
    subst hcc
    refine .inr ⟨b,cap,cur',(hs.base k _ b (by rw [h3]) e1).1,by simpa using e2,e3,e4,e5,by simpa using e6,g2,g3,g4,fun i j row c r1 r2 => ?_⟩
    obtain ⟨u,u1,u2,u3⟩ := g5 i j row c r1 r2
    have hfl : c.flat1 = true := List.all_eq_true.1 (List.all_eq_true.1 h5 row (List.mem_of_getElem? r1)) c (List.mem_of_getElem? r2)
    exact ⟨u,u1,u2,fun w ok => sx hfl u3 ap w ok⟩
 rintro e a w' ⟨s,hs,hq⟩
 cases e
 case normal => exact fin hs hq
 case ret => exact fin hs hq
 all_goals exact hq.elim
theorem AI {fn : Func} {T : TypeId} {sz : Nat} {rows rows' : List (List PV)} {t k g m kd : Nat} (h : fn.results.toList = [.tmp t]) (hv : s.reg t = .als k g 0 m) (ho : s.own k = (g,some ⟨T,sz,rows,kd⟩)) (hm : m = rows.length) (hf : rows.all (·.all PV.flat1) = true) (hr : rows = rows') : n4 fn T sz rows' .ret s := by
 subst hr
 exact ⟨t,k,g,m,kd,h,hv,ho,hm,hf⟩
inductive TC where
 |p (o : Nat)
 |c (v : PV)
def TC.inst (mk : Nat → PV) : TC → PV
 |.p o => mk o
 |.c v => v
def TC.ok (sz : Nat) : TC → Bool
 |.p o => Nat.blt o sz
 |.c v => v.flat1
end
end Go.Pv
namespace Go.Pv
open Go.RowKit
variable [Globs]
def gB (ops : Array Oper) (s : St) : Option (Nat × Bool) → Option Bool
 |none => some true
 |some (j,want) => match (ops[j]?).bind (·.dst) with
  |some e => match s.reg e with
   |.bool b => match b,want with
    |true,true => some true
    |false,false => some true
    |true,false => some false
    |false,true => some false
   |.raw u => match u with
    |.tuple a => match a with
     |⟨[]⟩ => some false
     |_ => none
    |_ => none
   |_ => none
  |none => none
def yJ (L : Lay) (s : St) : Option Nat → Op → Option (St × Prop)
 |some d,.box T x => match (s.ev x).fz,s.own d with
  |some v,(gn,_) => match cx s v.cells with
   |some Pr => some ((s.setOwn d (gn + 1) (some ⟨T,v.cells.length,[v.cells],2⟩)).putR d (.ptr d (gn + 1) 0 0),Nat.blt 0 v.cells.length = true ∧ Pr)
   |none => none
  |none,_ => none
 |some d,.alloc T => match L T with
  |some r => match r.zero,s.own d with
   |some z,(gn,_) => some ((s.setOwn d (gn + 1) (some ⟨T,z.length,[z],2⟩)).putR d (.ptr d (gn + 1) 0 0),Nat.blt 0 z.length = true)
   |none,_ => none
  |none => none
 |none,.store T x y => match L T with
  |some r => match s.ev x with
   |.ptr k gn i jj => match i with
    |0 => match s.own k with
     |(gn',some ⟨tc,sz,rows,kd⟩) => match rows,kd with
      |[row],2 => match (s.ev y).fz with
       |some v => match cx s v.cells with
        |some Pr => some (s.setOwn k gn (some ⟨tc,sz,[iX row jj v.cells],2⟩),gn' = gn ∧ v.cells.length = r.size ∧ Nat.ble (jj + r.size) row.length = true ∧ Pr)
        |none => none
       |none => none
      |_,_ => none
     |(_,none) => none
    |_ => none
   |_ => none
  |none => none
 |some d,op => match qv L s op with
  |some (pv,Cd) => some (s.putR d pv,Cd)
  |none => none
 |none,_ => none
section
variable {P : Program} {L : Lay} {s s' : St} {ops : Array Oper} {K : St → Prop} {Q : Exit → St → Prop} {rest : List Oper}
theorem c6 {o : Oper} (h : gB ops s o.guard = some true) : Wants ops s o true := by
 cases hg : o.guard with
 |none => exact .none hg
 |some p =>
  obtain ⟨j,want⟩ := p
  rw [hg] at h
  simp only [gB] at h
  split at h
  ·rename_i e hd
   split at h
   ·rename_i b hr
    cases b <;> cases want <;> simp at h
    ·exact .yes hg hd hr
    ·exact .yes hg hd hr
   ·split at h
    ·split at h <;> cases h
    ·cases h
   ·cases h
  ·cases h
theorem qX {o : Oper} (h : gB ops s o.guard = some false) : Wants ops s o false := by
 cases hg : o.guard with
 |none => rw [hg] at h;cases h
 |some p =>
  obtain ⟨j,want⟩ := p
  rw [hg] at h
  simp only [gB] at h
  split at h
  ·rename_i e hd
   split at h
   ·rename_i b hr
    cases b <;> cases want <;> simp at h
    ·exact .no hg hd hr (by simp)
    ·exact .no hg hd hr (by simp)
   ·rename_i hr
    split at h
    ·split at h
     ·exact .junk hg hd hr
     ·cases h
    ·cases h
   ·cases h
  ·cases h
theorem vW {d : Option Nat} {op : Op} {Cd : Prop} {ty : TypeId} {pos : String} {af : Array Edge} {g : Option (Nat × Bool)} (h : yJ L s d op = some (s',Cd)) (hc : Cd) (hk : K s') : POp P L s ⟨d,op,ty,pos,af,g⟩ K := by
 unfold yJ at h
 split at h
 ·split at h
  ·rename_i hx hown
   split at h
   ·rename_i h1
    cases h
    exact Au hx hown h1 hc.2 hc.1 hk
   ·cases h
  ·cases h
 ·split at h
  ·rename_i hr
   split at h
   ·rename_i hz hown
    cases h
    exact xC hr hz hown hc hk
   ·cases h
  ·cases h
 ·split at h
  ·rename_i r hr
   split at h
   ·rename_i hx
    split at h
    ·split at h
     ·rename_i hown
      split at h
      ·split at h
       ·rename_i hv
        split at h
        ·rename_i h1
         cases h
         obtain ⟨c1,c2,c3,c4⟩ := hc
         subst c1
         exact u5 hr hx hown hv h1 c4 c2 c3 rfl hk
        ·cases h
       ·cases h
      ·cases h
     ·cases h
    ·cases h
   ·cases h
  ·cases h
 ·split at h
  ·rename_i hq
   cases h
   exact xJ hq hc hk
  ·cases h
 ·cases h
def AT (P : Program) (L : Lay) (ops : Array Oper) (K : St → Prop) : List Oper → St → Option (Prop × Prop)
 |[],s => some (True,K s)
 |o :: rest,s => match o with
  |⟨d,op,_,_,_,g⟩ => match gB ops s g with
   |some true => match yJ L s d op with
    |some (s',Cd) => some (Cd,POps P L ops K rest s')
    |none => none
   |some false => some (True,POps P L ops K rest (s.put d (.raw undef)))
   |none => none
theorem zs {l : List Oper} {Cd A : Prop} (h : AT P L ops K l s = some (Cd,A)) (hc : Cd) (k : A) : POps P L ops K l s := by
 cases l with
 |nil => cases h;exact k
 |cons o rest =>
  obtain ⟨d,op,ty,pos,af,g⟩ := o
  unfold AT at h
  dsimp only at h
  split at h
  ·rename_i hg
   split at h
   ·rename_i hs
    cases h
    exact .inl ⟨c6 hg,vW hs hc k⟩
   ·cases h
  ·rename_i hg
   cases h
   exact .inr ⟨qX hg,k⟩
  ·cases h
def AS (P : Program) (L : Lay) (ops : Array Oper) (K : St → Prop) : List Oper → St → Option (Prop × Prop)
 |[],s => some (True,K s)
 |o :: rest,s => match o with
  |⟨d,op,_,_,_,g⟩ => match gB ops s g with
   |some true => match d with
    |some d => match qv L s op with
     |some (pv,Cd) => some (Cd,PQuiet P L ops K rest (s.putR d pv))
     |none => none
    |none => none
   |some false => some (True,PQuiet P L ops K rest (s.put d (.raw undef)))
   |none => none
theorem zq {l : List Oper} {Cd A : Prop} (h : AS P L ops K l s = some (Cd,A)) (hc : Cd) (k : A) : PQuiet P L ops K l s := by
 cases l with
 |nil => cases h;exact k
 |cons o rest =>
  obtain ⟨d,op,ty,pos,af,g⟩ := o
  unfold AS at h
  dsimp only at h
  split at h
  ·rename_i hg
   split at h
   ·split at h
    ·rename_i hs
     cases h
     exact .inl ⟨c6 hg,_,.v hs hc,k⟩
    ·cases h
   ·cases h
  ·rename_i hg
   cases h
   exact .inr ⟨qX hg,k⟩
  ·cases h
def AU (P : Program) (L : Lay) : Code → (Exit → St → Prop) → St → Option Prop
 |.skip,Q,s => some (Q .normal s)
 |.region _ ops false,Q,s => match ops with | ⟨l⟩ => some (POps P L ops (Q .normal) l s)
 |.seq x y,Q,s => some (PWP P L x (aC (fun s' => PWP P L y Q s') Q) s)
 |.cond c x y,Q,s => match s.ev c with
  |.bool b => match b with
   |true => some (PWP P L x Q s)
   |false => some (PWP P L y Q s)
  |_ => none
 |.block id c,Q,s => some (PWP P L c (au id Q) s)
 |.exit id,Q,s => some (Q (.exit id) s)
 |.ret,Q,s => some (Q .ret s)
 |_,_,_ => none
theorem zw {c : Code} {A : Prop} (h : AU P L c Q s = some A) (k : A) : PWP P L c Q s := by
 unfold AU at h
 split at h
 ·cases h;exact xQ k
 ·cases h;exact aY k
 ·cases h;exact k
 ·split at h
  ·rename_i hc
   split at h
   ·cases h;exact xR hc k
   ·cases h;exact vB hc k
  ·cases h
 ·cases h;exact k
 ·cases h;exact xP k
 ·cases h;exact zD k
 ·cases h
def AV (next : St → Prop) (Q : Exit → St → Prop) : Exit → St → Option Prop
 |.normal,s => some (next s)
 |.ret,s => some (Q .ret s)
 |.exit id,s => some (Q (.exit id) s)
 |_,_ => none
theorem zx {next : St → Prop} {e : Exit} {A : Prop} (h : AV next Q e s = some A) (k : A) : aC next Q e s := by
 unfold AV at h
 split at h <;> cases h <;> exact k
def AQ (id : Nat) (Q : Exit → St → Prop) : Exit → St → Option Prop
 |.normal,s => some (Q .normal s)
 |.ret,s => some (Q .ret s)
 |.exit id',s => match Nat.beq id' id with
  |true => some (Q .normal s)
  |false => some (Q (.exit id') s)
 |_,_ => none
theorem zb {id : Nat} {e : Exit} {A : Prop} (h : AQ id Q e s = some A) (k : A) : au id Q e s := by
 unfold AQ at h
 split at h
 ·cases h;exact k
 ·cases h;exact k
 ·split at h
  ·rename_i he
   cases h
   have := Nat.eq_of_beq_eq_true he
   subst this
   exact yo k
  ·rename_i he
   cases h
   exact ym he k
 ·cases h
theorem Bk {d : Nat} {op : Op} {ty : TypeId} {pos : String} {af : Array Edge} {g : Option (Nat × Bool)} {pv : PV} (hg : gB ops s g = some true) (hq : QOp P L s ⟨some d,op,ty,pos,af,g⟩ pv) (k : POps P L ops K rest (s.putR d pv)) : POps P L ops K (⟨some d,op,ty,pos,af,g⟩ :: rest) s :=
 .inl ⟨c6 hg,iM hq k⟩
theorem Bj {d : Nat} {op : Op} {ty : TypeId} {pos : String} {af : Array Edge} {g : Option (Nat × Bool)} {pv : PV} (hg : gB ops s g = some true) (hq : QOp P L s ⟨some d,op,ty,pos,af,g⟩ pv) (k : PQuiet P L ops K rest (s.putR d pv)) : PQuiet P L ops K (⟨some d,op,ty,pos,af,g⟩ :: rest) s :=
 .inl ⟨c6 hg,_,hq,k⟩
def Ar : Op → Bool
 |.next _ _ => true
 |_ => false
def AO (P : Program) (L : Lay) (ops : Array Oper) (Z : Nat → List Nat) (cls : Nat → Bool) (K : St → Prop) (i : Nat) : List Oper → St → Option (Prop × Prop)
 |[],s => some (True,K s)
 |o :: rest,s => match o with
  |⟨d,op,_,_,_,g⟩ => match gB ops s g with
   |some true => match d with
    |some d => match cls i with
     |true => match qv L s op with
      |some (pv,Cd) => some (Cd,P3 P L ops Z cls K (i + 1) rest (s.putR d pv))
      |none => none
     |false => match qv L (s.erase (Z i)) op with
      |some (pv,Cd) => some (Cd,P3 P L ops Z cls K (i + 1) rest (s.putR d pv))
      |none => none
    |none => none
   |some false => some (True,P3 P L ops Z cls K (i + 1) rest (s.put d (.raw undef)))
   |none => none
theorem z3 {Z : Nat → List Nat} {cls : Nat → Bool} {i : Nat} {l : List Oper} {Cd A : Prop} (h : AO P L ops Z cls K i l s = some (Cd,A)) (hc : Cd) (k : A) : P3 P L ops Z cls K i l s := by
 cases l with
 |nil => cases h;exact k
 |cons o rest =>
  obtain ⟨d,op,ty,pos,af,g⟩ := o
  unfold AO at h
  dsimp only at h
  split at h
  ·rename_i hg
   split at h
   ·rename_i dd
    split at h
    ·rename_i hcl
     split at h
     ·rename_i hs
      cases h
      refine ⟨_,?_,k⟩
      rw [hcl]
      exact Step3.quiet (o := ⟨some dd,op,ty,pos,af,g⟩) (c6 hg) (.v hs hc)
     ·cases h
    ·rename_i hcl
     split at h
     ·rename_i hs
      cases h
      refine ⟨_,?_,k⟩
      rw [hcl]
      exact Step3.free (o := ⟨some dd,op,ty,pos,af,g⟩) (c6 hg) (.v hs hc)
     ·cases h
   ·cases h
  ·rename_i hg
   cases h
   exact ⟨_,.no (qX hg),k⟩
  ·cases h
theorem Bh {Z : Nat → List Nat} {cls : Nat → Bool} {i d : Nat} {op : Op} {ty : TypeId} {pos : String} {af : Array Edge} {g : Option (Nat × Bool)} {pv : PV} (hg : gB ops s g = some true) (hc : cls i = false) (hq : QOp P L (s.erase (Z i)) ⟨some d,op,ty,pos,af,g⟩ pv)
  (k : P3 P L ops Z cls K (i + 1) rest (s.putR d pv)) : P3 P L ops Z cls K i (⟨some d,op,ty,pos,af,g⟩ :: rest) s := by
 refine ⟨_,?_,k⟩
 rw [hc]
 exact Step3.free (o := ⟨some d,op,ty,pos,af,g⟩) (c6 hg) hq
theorem Bg {Z : Nat → List Nat} {cls : Nat → Bool} {i d : Nat} {op : Op} {ty : TypeId} {pos : String} {af : Array Edge} {g : Option (Nat × Bool)} {pv : PV} (hg : gB ops s g = some true) (hc : cls i = true) (hq : QOp P L s ⟨some d,op,ty,pos,af,g⟩ pv)
  (k : P3 P L ops Z cls K (i + 1) rest (s.putR d pv)) : P3 P L ops Z cls K i (⟨some d,op,ty,pos,af,g⟩ :: rest) s := by
 refine ⟨_,?_,k⟩
 rw [hc]
 exact Step3.quiet (o := ⟨some d,op,ty,pos,af,g⟩) (c6 hg) hq
theorem qH {Z : Nat → List Nat} {cls : Nat → Bool} {i : Nat} {d : Option Nat} {op : Op} {ty : TypeId} {pos : String} {af : Array Edge} {g : Option (Nat × Bool)} (hg : gB ops s g = some true) (hc : cls i = true) (hn : Ar op = false)
  (h : POp P L s ⟨d,op,ty,pos,af,g⟩ (fun s' => (∀ k,cW (Z i) k = false → s'.own k = s.own k) ∧ P3 P L ops Z cls K (i + 1) rest s')) : P3 P L ops Z cls K i (⟨d,op,ty,pos,af,g⟩ :: rest) s := by
 rcases h with ⟨pv,h1,h2⟩ | ⟨s',h1,h2⟩ | h1
 ·refine ⟨_,?_,h2.2⟩
  rw [hc]
  exact Step3.quiet (o := ⟨d,op,ty,pos,af,g⟩) (c6 hg) h1
 ·refine ⟨_,?_,h2.2⟩
  rw [hc]
  exact Step3.eff (o := ⟨d,op,ty,pos,af,g⟩) (c6 hg) h1 h2.1
 ·exfalso
  cases h1 with
  |next ho =>
   simp only at ho
   rw [ho] at hn
   cases hn
theorem iL {Z : List Nat} {k g d : Nat} {c : Option Cont} {v : PV} (hz : cW Z k = true) : ∀ q,cW Z q = false → ((s.setOwn k g c).putR d v).own q = s.own q := fun q hq => by
 have hne : q ≠ k := fun e => by rw [e,hz] at hq;cases hq
 show (bif Nat.beq q k then _ else s.own q) = _
 rw [aU hne];rfl
def wF (s : St) : Option Nat → Op → Option Nat
 |some d,.box _ _ => some d
 |some d,.alloc _ => some d
 |none,.store _ x _ => match s.ev x with | .ptr k _ _ _ => some k | _ => none
 |_,_ => none
def zH (P : Program) (L : Lay) (ops : Array Oper) (Z : Nat → List Nat) (cls : Nat → Bool) (K : St → Prop) (i : Nat) : List Oper → St → Option (Prop × Prop)
 |[],_ => none
 |o :: rest,s => match o with
  |⟨d,op,_,_,_,g⟩ => match gB ops s g,cls i,wF s d op,Ar op with
   |some true,true,some t,false => match cW (Z i) t,yJ L s d op with
    |true,some (s',Cd) => some (Cd,P3 P L ops Z cls K (i + 1) rest s')
    |_,_ => none
   |_,_,_,_ => none
theorem tC {d : Option Nat} {op : Op} {t : Nat} {Cd : Prop} (ht : wF s d op = some t) (h : yJ L s d op = some (s',Cd)) : ∀ q,q ≠ t → s'.own q = s.own q := by
 intro q hq
 have one : ∀ (g : Nat) (c : Option Cont),(s.setOwn t g c).own q = s.own q := fun g c => by
  show (bif Nat.beq q t then _ else s.own q) = _
  rw [aU hq];rfl
 unfold wF at ht
 split at ht
 ·cases ht
  unfold yJ at h
  dsimp only at h
  split at h
  ·split at h
   ·cases h;exact one _ _
   ·cases h
  ·cases h
 ·cases ht
  unfold yJ at h
  dsimp only at h
  split at h
  ·split at h
   ·cases h;exact one _ _
   ·cases h
  ·cases h
 ·split at ht
  ·rename_i hx
   cases ht
   unfold yJ at h
   dsimp only at h
   split at h
   ·rw [hx] at h
    dsimp only at h
    split at h
    ·split at h
     ·split at h
      ·split at h
       ·split at h
        ·cases h;exact one _ _
        ·cases h
       ·cases h
      ·cases h
     ·cases h
    ·cases h
   ·cases h
  ·cases ht
 ·cases ht
theorem Bi {Z : Nat → List Nat} {cls : Nat → Bool} {i : Nat} {l : List Oper} {Cd A : Prop} (h : zH P L ops Z cls K i l s = some (Cd,A)) (hc : Cd) (k : A) : P3 P L ops Z cls K i l s := by
 cases l with
 |nil => cases h
 |cons o rest =>
  obtain ⟨d,op,ty,pos,af,g⟩ := o
  unfold zH at h
  dsimp only at h
  split at h
  ·rename_i hg hcl ht hn
   split at h
   ·rename_i hz hs
    cases h
    exact qH hg hcl hn (vW hs hc ⟨fun q hq => tC ht hs q (fun e => by rw [e,hz] at hq;cases hq),k⟩)
   ·cases h
  ·cases h
class Nx (G : Prop) where
 nx : Option (Prop × Prop)
 ok : ∀ Cd A,nx = some (Cd,A) → Cd → A → G
theorem Ba {G : Prop} [i : Nx G] {Cd A : Prop} (h : i.nx = some (Cd,A)) (hc : Cd) (k : A) : G := i.ok Cd A h hc k
instance {l : List Oper} : Nx (POps P L ops K l s) := ⟨AT P L ops K l s,fun _ _ h hc k => zs h hc k⟩
instance {l : List Oper} : Nx (PQuiet P L ops K l s) := ⟨AS P L ops K l s,fun _ _ h hc k => zq h hc k⟩
def A_ (a b : Option (Prop × Prop)) : Option (Prop × Prop) := match a with
 |some x => some x
 |none => b
instance {Z : Nat → List Nat} {cls : Nat → Bool} {i : Nat} {l : List Oper} : Nx (P3 P L ops Z cls K i l s) := ⟨A_ (AO P L ops Z cls K i l s) (zH P L ops Z cls K i l s),fun _ _ h hc k => by
 unfold A_ at h
 split at h
 ·cases h;exact z3 ‹_› hc k
 ·exact Bi h hc k⟩
def AB : Option Prop → Option (Prop × Prop)
 |some A => some (True,A)
 |none => none
theorem lD {a : Option Prop} {Cd A : Prop} (h : AB a = some (Cd,A)) : a = some A := by
 unfold AB at h
 split at h
 ·cases h;rfl
 ·cases h
instance {c : Code} : Nx (PWP P L c Q s) := ⟨AB (AU P L c Q s),fun _ _ h _ k => zw (lD h) k⟩
instance {next : St → Prop} {e : Exit} : Nx (aC next Q e s) := ⟨AB (AV next Q e s),fun _ _ h _ k => zx (lD h) k⟩
instance {id : Nat} {e : Exit} : Nx (au id Q e s) := ⟨AB (AQ id Q e s),fun _ _ h _ k => zb (lD h) k⟩
def AZ (b : Bool) (A : Prop) : Option (Prop × Prop) := match b with
 |true => some (True,A)
 |false => none
instance {nm : Nat} {F : List Nat} {G : Prop} : Nx (FD ops nm F s = true ∧ G) := ⟨AZ (FD ops nm F s) G,fun _ _ h _ k => by
 unfold AZ at h
 split at h
 ·cases h;exact ⟨‹_›,k⟩
 ·cases h⟩
class Qx (G : Prop) (P : outParam Program) (L : outParam Lay) (s : outParam St) (ops : outParam (Array Oper)) (l : outParam (List Oper)) (K : outParam (List Oper → Nat → PV → Prop)) where
 ok : ∀ (d : Nat) (op : Op) (ty : TypeId) (pos : String) (af : Array Edge) (g : Option (Nat × Bool)) (rest : List Oper) (pv : PV),l = ⟨some d,op,ty,pos,af,g⟩ :: rest → gB ops s g = some true → QOp P L s ⟨some d,op,ty,pos,af,g⟩ pv → K rest d pv → G
instance {l : List Oper} : Qx (POps P L ops K l s) P L s ops l (fun rest d pv => POps P L ops K rest (s.putR d pv)) :=
 ⟨fun _ _ _ _ _ _ _ _ hl hg hq k => by subst hl;exact Bk hg hq k⟩
instance {l : List Oper} : Qx (PQuiet P L ops K l s) P L s ops l (fun rest d pv => PQuiet P L ops K rest (s.putR d pv)) :=
 ⟨fun _ _ _ _ _ _ _ _ hl hg hq k => by subst hl;exact Bj hg hq k⟩
def St.era (Z : List Nat) (c : Bool) (s : St) : St := match c with
 |true => s
 |false => s.erase Z
theorem zk {Z : List Nat} {c : Bool} {g : Option (Nat × Bool)} : gB ops (s.era Z c) g = gB ops s g := by cases c <;> rfl
instance {Z : Nat → List Nat} {cls : Nat → Bool} {i : Nat} {l : List Oper} : Qx (P3 P L ops Z cls K i l s) P L (s.era (Z i) (cls i)) ops l (fun rest d pv => P3 P L ops Z cls K (i + 1) rest (s.putR d pv)) :=
 ⟨fun _ _ _ _ _ _ _ _ hl hg hq k => by
  subst hl
  rw [zk] at hg
  cases hc : cls i with
  |true => rw [hc] at hq;exact Bg hg hc hq k
  |false => rw [hc] at hq;exact Bh hg hc hq k⟩
def AP (P : Program) (L : Lay) (ops : Array Oper) (Z : List Nat) (lc : Nat → Option Nat) (K : St → Prop) (i : Nat) : List Oper → St → Option (Prop × Prop)
 |[],s => some (True,K s)
 |o :: rest,s => match o with
  |⟨d,op,_,_,_,g⟩ => match gB ops s g with
   |some true => match d with
    |some d => match qv L (s.erase Z) op with
     |some (pv,Cd) => some (Cd,P5 P L ops Z lc K (i + 1) rest (s.putR d pv))
     |none => none
    |none => none
   |some false => some (True,P5 P L ops Z lc K (i + 1) rest (s.put d (.raw undef)))
   |none => none
theorem z5 {Z : List Nat} {lc : Nat → Option Nat} {i : Nat} {l : List Oper} {Cd A : Prop} (h : AP P L ops Z lc K i l s = some (Cd,A)) (hc : Cd) (k : A) : P5 P L ops Z lc K i l s := by
 cases l with
 |nil => cases h;exact k
 |cons o rest =>
  obtain ⟨d,op,ty,pos,af,g⟩ := o
  unfold AP at h
  dsimp only at h
  split at h
  ·rename_i hg
   split at h
   ·rename_i dd
    split at h
    ·rename_i hs
     cases h
     exact ⟨_,Step5.free (o := ⟨some dd,op,ty,pos,af,g⟩) (c6 hg) (.v hs hc),k⟩
    ·cases h
   ·cases h
  ·rename_i hg
   cases h
   exact ⟨_,.no (qX hg),k⟩
  ·cases h
instance {Z : List Nat} {lc : Nat → Option Nat} {i : Nat} {l : List Oper} : Nx (P5 P L ops Z lc K i l s) := ⟨AP P L ops Z lc K i l s,fun _ _ h hc k => z5 h hc k⟩
theorem uH {Z : List Nat} {g : Option (Nat × Bool)} : gB ops (s.erase Z) g = gB ops s g := rfl
instance {Z : List Nat} {lc : Nat → Option Nat} {i : Nat} {l : List Oper} : Qx (P5 P L ops Z lc K i l s) P L (s.erase Z) ops l (fun rest d pv => P5 P L ops Z lc K (i + 1) rest (s.putR d pv)) :=
 ⟨fun _ _ _ _ _ _ _ _ hl hg hq k => by
  subst hl
  rw [uH] at hg
  exact ⟨_,Step5.free (o := ⟨some _,_,_,_,_,_⟩) (c6 hg) hq,k⟩⟩
theorem Bb {Z : List Nat} {lc : Nat → Option Nat} {i d : Nat} {T ty : TypeId} {r : LRow} {z : List PV} {pos : String} {af : Array Edge} {g : Option (Nat × Bool)} (hg : gB ops s g = some true) (hc : lc i = some d) (hr : L T = some r) (hz : r.zero = some z) (h0 : Nat.blt 0 z.length = true)
  (h : P5 P L ops Z lc K (i + 1) rest ((s.setOwn d ((s.own d).1 + 1) (some ⟨T,z.length,[z],2⟩)).putR d (.ptr d ((s.own d).1 + 1) 0 0))) : P5 P L ops Z lc K i (⟨some d,.alloc T,ty,pos,af,g⟩ :: rest) s := by
 refine ⟨_,?_,h⟩
 rw [hc]
 exact Step5.loc (o := ⟨some d,.alloc T,ty,pos,af,g⟩) (c6 hg) (.alloc rfl rfl hr hz (by simpa using h0))
theorem Bc {Z : List Nat} {lc : Nat → Option Nat} {i k gn ii j : Nat} {T ty : TypeId} {r : LRow} {x y : Operand} {c : Cont} {row : List PV} {Pr : Prop} {pos : String} {af : Array Edge} {g : Option (Nat × Bool)} (kd : Nat) (hg : gB ops s g = some true) (hc : lc i = some k) (hr : L T = some r) (hx : s.ev x = .ptr k gn ii j) (hown : s.own k = (gn,some c))
  (hrow : c.rows[ii]? = some row) (h1 : ∀ s' : St,cx s' (s.ev y).cells = some Pr) (h2 : Pr) (hsz : (s.ev y).cells.length = r.size) (hle : Nat.ble (j + r.size) row.length = true) (hk : Nat.ble c.kind kd = true) (hkd : (s.ev y).cells.all (jY kd) = true)
  (h : P5 P L ops Z lc K (i + 1) rest (s.setOwn k gn (some ⟨c.ty,c.sz,c.rows.set ii (iX row j ((s.ev y).cells.map (df kd))),kd⟩))) : P5 P L ops Z lc K i (⟨none,.store T x y,ty,pos,af,g⟩ :: rest) s := by
 refine ⟨_,?_,h⟩
 rw [hc]
 exact Step5.loc (o := ⟨none,.store T x y,ty,pos,af,g⟩) (c6 hg) (.store kd rfl rfl hr hx hown hrow h1 h2 hsz (by simpa using hle) (by simpa using hk) hkd)
theorem bx {G : Prop} {P : Program} {L : Lay} {s : St} {ops : Array Oper} {l : List Oper} {K : List Oper → Nat → PV → Prop} [i : Qx G P L s ops l K] {d : Nat} {op : Op} {ty : TypeId} {pos : String} {af : Array Edge} {g : Option (Nat × Bool)} {rest : List Oper} {pv : PV}
  (hl : l = ⟨some d,op,ty,pos,af,g⟩ :: rest) (hb : gB ops s g = some true) (hq : QOp P L s ⟨some d,op,ty,pos,af,g⟩ pv) (k : K rest d pv) : G := i.ok d op ty pos af g rest pv hl hb hq k
end
theorem ac {G : Prop} [i : Nx G] {Cd A : Prop} (h : i.nx = some (Cd,A)) (k : A) (hc : Cd := by ((repeat' constructor);first|done|fail)) : G := Ba h hc k
theorem cF {G : Prop} [i : Nx G] {Cd A : Prop} (h : i.nx = some (Cd,A)) (k : A) (hc : Cd := by ((repeat' (first|exact True.intro|exact rfl|refine And.intro ?_ ?_));first|done|fail)) : G := Ba h hc k
theorem aT {G : Prop} {P : Program} {L : Lay} {s : St} {ops : Array Oper} {l : List Oper} {K : List Oper → Nat → PV → Prop} [i : Qx G P L s ops l K] {d : Nat} {ty : TypeId} {pos : String} {af : Array Edge} {g : Option (Nat × Bool)} {rest : List Oper} {fop : Operand} {args : Array Operand} {tys : Array TypeId} {f : FuncId} {caps pargs : List PV} {Cd : Prop} {b : Fl} {rr rf : PV} (hl : l = ⟨some d,.call ⟨.value fop,args,tys⟩,ty,pos,af,g⟩ :: rest) (hb : gB ops s g = some true) (hf : s.ev fop = .clo f caps) (hret : Ret P .shared f pargs rr) (hres : dK (dy s 4) (args.toList.map s.ev ++ caps) = some (pargs,Cd,b)) (hfl : rr.flat = true) (hrf : rr.frs.fz = some rf) (k : K rest d rf) (hc : Cd := by ((repeat' constructor);first|done|fail)) : G := bx hl hb (xT hf hret hres hc hfl hrf) k
theorem AM {G : Prop} {P : Program} {L : Lay} {s : St} {ops : Array Oper} {l : List Oper} {K : List Oper → Nat → PV → Prop} [i : Qx G P L s ops l K] {d : Nat} {ty : TypeId} {pos : String} {af : Array Edge} {g : Option (Nat × Bool)} {rest : List Oper} {fop : Operand} {args : Array Operand} {tys : Array TypeId} {f : FuncId} {caps pargs : List PV} {Cd : Prop} {b : Fl} {rr rf : PV} (hl : l = ⟨some d,.call ⟨.value fop,args,tys⟩,ty,pos,af,g⟩ :: rest) (hb : gB ops s g = some true) (hf : s.ev fop = .clo f caps) (hret : Ret P .fresh f pargs rr) (hres : dK (dy s 4) (args.toList.map s.ev ++ caps) = some (pargs,Cd,b)) (hrf : rr.frs.fz = some rf) (k : K rest d rf) (hc : Cd := by ((repeat' constructor);first|done|fail)) : G := bx hl hb (rp hf hret hres hc hrf) k
theorem aq {G : Prop} {P : Program} {L : Lay} {s : St} {ops : Array Oper} {l : List Oper} {K : List Oper → Nat → PV → Prop} [i : Qx G P L s ops l K] {d : Nat} {ty : TypeId} {pos : String} {af : Array Edge} {g : Option (Nat × Bool)} {rest : List Oper} {fop : Operand} {args : Array Operand} {tys : Array TypeId} {f : FuncId} {caps pargs : List PV} {Cd : Prop} {b : Fl} {rr : PV} (hl : l = ⟨some d,.call ⟨.value fop,args,tys⟩,ty,pos,af,g⟩ :: rest) (hb : gB ops s g = some true) (hf : s.ev fop = .clo f caps) (hret : Ret P .shared f pargs rr) (hres : dK (dy s 4) (args.toList.map s.ev ++ caps) = some (pargs,Cd,b)) (hb2 : b.cl = true) (k : K rest d rr) (hc : Cd := by ((repeat' constructor);first|done|fail)) : G := bx hl hb (c_ hf hret hres hc hb2) k
theorem bm {G : Prop} {P : Program} {L : Lay} {s : St} {ops : Array Oper} {l : List Oper} {K : List Oper → Nat → PV → Prop} [i : Qx G P L s ops l K] {d : Nat} {ty : TypeId} {pos : String} {af : Array Edge} {g : Option (Nat × Bool)} {rest : List Oper} {T E : TypeId} {r re : LRow} {x ix : Operand} {kk : IntKind} {n : Int} {α : Type} {enc : α → List PV} {ls : List α} {a : α} (hl : l = ⟨some d,.indexAddr T x ix,ty,pos,af,g⟩ :: rest) (hb : gB ops s g = some true) (hr : L T = some r) (hs : r.sh = .sl E) (hre : L E = some re) (hx : s.ev x = .sl (ls.map enc)) (hix : s.ev ix = .int kk n) (hget : ls[n.toNat]? = some a) (hlen : (enc a).length = re.size) (k : K rest d (.dref (enc a) 0)) (h0 : 0 ≤ n := by omega) : G := bx hl hb (nD hr hs hre hx hix h0 hget hlen) k
theorem wR {G : Prop} {P : Program} {L : Lay} {s : St} {ops : Array Oper} {l : List Oper} {K : List Oper → Nat → PV → Prop} [i : Qx G P L s ops l K] {d : Nat} {ty : TypeId} {pos : String} {af : Array Edge} {g : Option (Nat × Bool)} {rest : List Oper} {T E : TypeId} {r re : LRow} {x ix : Operand} {kk : IntKind} {n : Int} {st gn i0 m : Nat} {c : Cont} (hl : l = ⟨some d,.indexAddr T x ix,ty,pos,af,g⟩ :: rest) (hb : gB ops s g = some true) (hr : L T = some r) (hs : r.sh = .sl E) (hre : L E = some re) (hx : s.ev x = .als st gn i0 m) (hown : s.own st = (gn,some c)) (hsz : c.sz = re.size) (hix : s.ev ix = .int kk n) (k : K rest d (.ptr st gn (i0 + n.toNat) 0)) (h0 : 0 ≤ n := by omega) (hlt : n < m := by omega) : G := bx hl hb (bc hr hs hre hx hown hsz hix h0 hlt) k
class Sx (G : Prop) (ops : outParam (Array Oper)) (l : outParam (List Oper)) (s : outParam St) (F : outParam (St → Prop)) : Prop where
 ok : F s → G
instance {P : Program} {L : Lay} {ops : Array Oper} {K : St → Prop} {l : List Oper} {s : St} : Sx (POps P L ops K l s) ops l s (fun s' => POps P L ops K l s') := ⟨fun h => h⟩
instance {P : Program} {L : Lay} {ops : Array Oper} {K : St → Prop} {l : List Oper} {s : St} : Sx (PQuiet P L ops K l s) ops l s (fun s' => PQuiet P L ops K l s') := ⟨fun h => h⟩
instance {P : Program} {L : Lay} {ops : Array Oper} {K : St → Prop} {l : List Oper} {s : St} {Z : Nat → List Nat} {cls : Nat → Bool} {i : Nat} : Sx (P3 P L ops Z cls K i l s) ops l s (fun s' => P3 P L ops Z cls K i l s') := ⟨fun h => h⟩
theorem cb {G : Prop} {ops : Array Oper} {l : List Oper} {s : St} {F : St → Prop} [i : Sx G ops l s F] {j e : Nat} {want b : Bool} (_hl : l.head?.bind (·.guard) = some (j,want)) (_hd : (ops[j]?).bind (·.dst) = some e) (hr : s.reg e = .bool b) (h1 : b = true → F (s.putR e (.bool true))) (h0 : b = false → F (s.putR e (.bool false))) : G := by
 have := sX hr
 cases b
 ·have q := h0 rfl;rw [this] at q;exact i.ok q
 ·have q := h1 rfl;rw [this] at q;exact i.ok q
theorem f7 (k : Nat) (h : k ≤ 9223372036854775806 := by omega) : IntKind.i64.wrap (((k : Nat) : Int) + 1) = ((k + 1 : Nat) : Int) := by rw [wrap_i64 (by omega) (by omega)];omega
end Go.Pv
namespace Go.Pv
open Go.RowKit
variable [Globs]
section
variable {L : Lay} {s : St} {fn : Func} {r : PV}
end
end Go.Pv
namespace Go.Pv
open Go.RowKit
def fU : PV → Bool
 |.int _ _ | .bool _ | .str _ => true
 |_ => false
theorem mx {E : Env} {c : PV} {v : Value} (h : fU c = true) (hr : Rep E c v) : v = scv c := by
 cases c <;> simp only [fU,Bool.false_eq_true] at h
 ·exact hr.bool_inv
 ·exact hr.int_inv
 ·exact hr.str_inv
theorem dY {c : PV} (h : fU c = true) (w : World) (ok : Nat → Prop) : DRep w ok c (scv c) ∧ (scv c).oneCell' = true := by
 cases c <;> simp only [fU,Bool.false_eq_true] at h
 ·exact ⟨.bool _,rfl⟩
 ·exact ⟨.int _ _,rfl⟩
 ·exact ⟨.str _,rfl⟩
variable [Globs]
theorem nE {P : Program} {L : Lay} {s : St} {d : Nat} {ty : TypeId} {pos : String} {af : Array Edge} {g : Option (Nat × Bool)} {T E : TypeId} {x hi : Operand} {r re : LRow} {α : Type} {enc : α → List PV} {l : List α} {k : IntKind} {n : Int} (hr : L T = some r) (hs : r.sh = .sl E) (hre : L E = some re)
  (hx : s.ev x = .sl (l.map enc)) (hix : s.ev hi = .int k n) (h0 : 0 ≤ n) (hle : n ≤ l.length) (hlen : ∀ a,(enc a).length = re.size) : QOp P L s ⟨some d,.slice T x none (some hi) none,ty,pos,af,g⟩ (.sl ((l.take n.toNat).map enc)) := by
 have := QOp.slh (P := P) (L := L) (s := s) (o := ⟨some d,.slice T x none (some hi) none,ty,pos,af,g⟩) rfl hr hs hre hx hix h0 (by simpa using hle) (by intro row h;obtain ⟨a,_,rfl⟩ := List.mem_map.1 h;exact hlen a)
 rwa [← List.map_take] at this
theorem zE {P : Program} {L : Lay} {s : St} {d : Nat} {ty : TypeId} {pos : String} {af : Array Edge} {g : Option (Nat × Bool)} {T E : TypeId} {x lo : Operand} {r re : LRow} {α : Type} {enc : α → List PV} {l : List α} {k : IntKind} {n : Int} (hr : L T = some r) (hs : r.sh = .sl E) (hre : L E = some re)
  (hx : s.ev x = .sl (l.map enc)) (hix : s.ev lo = .int k n) (h0 : 0 ≤ n) (hle : n ≤ l.length) (hlen : ∀ a,(enc a).length = re.size) : QOp P L s ⟨some d,.slice T x (some lo) none none,ty,pos,af,g⟩ (.sl ((l.drop n.toNat).map enc)) := by
 have := QOp.slc (P := P) (L := L) (s := s) (o := ⟨some d,.slice T x (some lo) none none,ty,pos,af,g⟩) rfl hr hs hre hx hix h0 (by simpa using hle) (by intro row h;obtain ⟨a,_,rfl⟩ := List.mem_map.1 h;exact hlen a)
 rwa [← List.map_drop] at this
theorem Ghost.nilfs {s : St} {t : Nat} (hr : s.reg t = .nil) : Ghost s (s.putR t (.fsl [])) := by
 intro C a w hX ⟨γ,h⟩
 refine ⟨γ,h.defers,h.size,fun r => ?_,h.sites,h.inj,h.base,h.below,h.top,h.kept⟩
 show Rep _ (bif Nat.beq r t then _ else s.reg r) _
 by_cases hrt : r = t
 ·subst hrt
  have hp := h.regs r
  rw [hr] at hp
  simp only [Nat.beq_refl,cond_true]
  rw [hp.nil_inv]
  exact .fsl (.sl0 _ _)
 ·rw [aU hrt];exact h.regs r
theorem Ghost.takeF {s : St} {k g t n kd sz : Nat} {T : TypeId} {rows : List (List PV)} {α : Type} {enc : α → List PV} (l : List α) (ho : s.own k = (g,some ⟨T,sz,rows,kd⟩)) (hr : s.reg t = .als k g 0 n) (he : rows = l.map enc) (hn : n = rows.length) (hpl : ∀ x,(enc x).all fU = true) :
  Ghost s ((s.setOwn k (g + 1) none).putR t (.fsl (l.map enc))) := by
 intro C a w hX ⟨γ,h⟩
 subst hn
 subst he
 obtain ⟨h1,hle,_⟩ := h.drop hX ho
 refine ⟨γ,h1.defers,h1.size,fun r => ?_,h1.sites,h1.inj,h1.base,h1.below,h1.top,h1.kept⟩
 show Rep _ (bif Nat.beq r t then _ else (s.setOwn k (g + 1) none).reg r) _
 by_cases hrt : r = t
 ·subst hrt
  have hp := h.regs r
  rw [hr] at hp
  simp only [Nat.beq_refl,cond_true]
  refine .fsl ?_
  rcases h.als_at hp ho with ⟨q1,_,q3,q4⟩ | ⟨b,cap,cur,q1,q2,q3,q4,q5,q6,q7⟩
  ·have : l.map enc = [] := (h.sites k _ (by rw [ho])).emp q1
   rw [this,q4]
   exact .sl0 _ _
  ·obtain ⟨cur',g1,g2,g3,g4,g5⟩ := h.site_at ho q1 (h.cells_sz ho q1 q3 q6)
   have hb : (ah C γ (s.setOwn k (g + 1) none) w).okf b := by
    have hbase := h.base k _ b (by rw [ho]) q1
    refine ⟨hbase.1,hbase.2,fun hx => ?_,fun k' c' hc' hb' => ?_⟩
    ·have := hX b hx;omega
    ·by_cases hk' : k' = k
     ·subst hk';rw [ag] at hc';cases hc'
     ·rw [ar hk'] at hc'
      exact hk' (h.inj k' k c' _ b hc' (by rw [ho]) hb' q1)
   rw [q2]
   simp only [Nat.zero_mul]
   refine .sl (l.map enc) b 0 cap sz (fun i j => cur'.getD (i * sz + j) undef) hb g2 q4 g4 (fun i j row pv e1 e2 => ?_) (fun i j row pv e1 e2 => ?_)
   ·obtain ⟨u,f1,f2,_⟩ := g5 i j row pv e1 e2
    have g1 : w.heap[b]? = some (.cells cur' T (0,0)) := g1
    show w.cell? _ = _ ∧ _
    rw [aI g1,Nat.zero_add,f1]
    simp [f1,f2]
   ·obtain ⟨u,f1,_,f3⟩ := g5 i j row pv e1 e2
    have hu : cur'.getD (i * sz + j) undef = u := by simp [f1]
    simp only [hu]
    rw [List.getElem?_map,Option.map_eq_some_iff] at e1
    obtain ⟨y,_,rfl⟩ := e1
    have hpv := List.all_eq_true.1 (hpl y) _ (List.mem_of_getElem? e2)
    rw [mx hpv (f3.rep ap)]
    exact (dY hpv _ _).1
 ·rw [aU hrt];exact h1.regs r
theorem Ret.shared_of_fresh {P : Program} {f : FuncId} {pargs : List PV} {r : PV} (h : Ret P .fresh f pargs r) : Ret P .shared f pargs r :=
 ⟨h.1,fun w X args h0 h1 h2 h3 => (h.2 w X args h0 h1 h2 h3).mono fun _ _ ⟨v,e1,e2,e3⟩ => ⟨v,e1,e2,e3.weaken fun b hb => ⟨hb.2,fun hx => by have := h1 b hx;have := hb.1;omega⟩⟩⟩
section
variable {P : Program} {L : Lay} {Q : Exit → St → Prop} {s : St}
theorem kZ {ι : Type} {c : Code} {id : Nat} {next : St → Prop} (X : ι → Prop) (regs : ι → List (Nat × PV)) (owns : ι → List (Nat × Nat × Cont)) (h1 : PWP P L c (au id (aC (fun s' => ∃ i,X i ∧ Fit s' (regs i) (owns i)) Q)) s) (h2 : ∀ i,X i → ∀ s : St,next (s.over (regs i) (owns i))) : PWP P L c (au id (aC next Q)) s := by
 refine PWP.mono ?_ _ h1
 intro e s' h
 have key : (∃ i,X i ∧ Fit s' (regs i) (owns i)) → next s' := by
  rintro ⟨i,hX,hf⟩
  have := h2 i hX s'
  rwa [Fit.over hf] at this
 cases e
 case normal => exact key h
 case exit id' =>
  show if id' = id then _ else _
  have h : if id' = id then _ else _ := h
  split
  ·rename_i he
   rw [if_pos he] at h
   exact key h
  ·rename_i he
   rw [if_neg he] at h
   exact h
 all_goals exact h
end
theorem aP (id : Nat) {P : Program} {L : Lay} {s : St} {ops : Array Oper} {d : Bool} {Q : Exit → St → Prop} (h : PWP P L (.region id ops d) Q s) : PWP P L (.region id ops d) Q s := h
end Go.Pv
namespace Go.Pv
open Go.RowKit Go.ChangeShapes Go.WideShapes Go.ChangeAt
def fK (L : Lay) : List (Nat × TypeId) → Nat → Nat → Bool
 |[],o,tot => Nat.beq o tot
 |(off,T) :: fs,o,tot => match L T with | some r => Nat.beq off o && fK L fs (o + r.size) tot | none => false
def dX (L : Lay) : Nat → TypeId → Bool
 |0,_ => false
 |n + 1,T => match L T with
  |some r => (match r.sh with
   |.bool | .int _ | .str => true
   |.sl e => (match L e with | some re => Nat.blt 0 re.size && dX L n e | none => false)
   |.st fs => fK L fs 0 r.size && fs.all (fun f => dX L n f.2)
   |_ => false)
  |none => false
def iZ (L : Lay) : Nat → TypeId → List PV → Prop
 |0,_,_ => False
 |n + 1,T,cs => ∃ r,L T = some r ∧ (match r.sh with
  |.bool => ∃ b,cs = [.bool b]
  |.int k => ∃ m,cs = [.int k m] ∧ k.min ≤ m ∧ m ≤ k.max
  |.str => ∃ s : List UInt8,cs = [.str s] ∧ s.length ≤ maxLen
  |.sl e => ∃ rows,cs = [.sl rows] ∧ rows.length ≤ maxLen ∧ ∀ row ∈ rows,iZ L n e row
  |.st fs => ∃ parts : List (List PV),cs = parts.flatten ∧ parts.length = fs.length ∧ ∀ (i : Nat) f p,fs[i]? = some f → parts[i]? = some p → iZ L n f.2 p
  |_ => False)
section
variable {L : Lay} {n : Nat} {T : TypeId} {cs : List PV}
theorem nV {r : LRow} {sh : Sh} (hr : L T = some r) (hs : (L T).map (·.sh) = some sh) : r.sh = sh := by rw [hr] at hs;exact Option.some.inj hs
theorem wH (h : iZ L (n + 1) T cs) (hs : (L T).map (·.sh) = some .bool) : ∃ b,cs = [.bool b] := by
 obtain ⟨r,hr,h⟩ := h
 rw [nV hr hs] at h;exact h
theorem pw {k : IntKind} (h : iZ L (n + 1) T cs) (hs : (L T).map (·.sh) = some (.int k)) : ∃ m,cs = [.int k m] ∧ k.min ≤ m ∧ m ≤ k.max := by
 obtain ⟨r,hr,h⟩ := h
 rw [nV hr hs] at h;exact h
theorem j9 {e : TypeId} (h : iZ L (n + 1) T cs) (hs : (L T).map (·.sh) = some (.sl e)) : ∃ rows,cs = [.sl rows] ∧ rows.length ≤ maxLen ∧ ∀ row ∈ rows,iZ L n e row := by
 obtain ⟨r,hr,h⟩ := h
 rw [nV hr hs] at h;exact h
theorem zJ {e : TypeId} (h : iZ L (n + 1) T cs) (hs : (L T).map (·.sh) = some (.sl e)) : ∃ rows,cs = [.sl rows] ∧ ∀ row ∈ rows,iZ L n e row := let ⟨m,e,_,h⟩ := j9 h hs;⟨m,e,h⟩
theorem ju {fs : List (Nat × TypeId)} (h : iZ L (n + 1) T cs) (hs : (L T).map (·.sh) = some (.st fs)) : ∃ parts : List (List PV),cs = parts.flatten ∧ parts.length = fs.length ∧ ∀ (i : Nat) f p,fs[i]? = some f → parts[i]? = some p → iZ L n f.2 p := by
 obtain ⟨r,hr,h⟩ := h
 rw [nV hr hs] at h;exact h
end
def Reads (w : World) (pvs : List PV) (cs : List Value) : Prop :=
 pvs.length = cs.length ∧ ∀ (i : Nat) (c : PV) (v : Value),pvs[i]? = some c → cs[i]? = some v → DRep w (fun b => b < w.heap.size) c v ∧ v.oneCell' = true
theorem Reads.append {w : World} {p1 p2 : List PV} {c1 c2 : List Value} (h1 : Reads w p1 c1) (h2 : Reads w p2 c2) : Reads w (p1 ++ p2) (c1 ++ c2) := by
 refine ⟨by simp [h1.1,h2.1],fun i c v e1 e2 => ?_⟩
 rw [List.getElem?_append] at e1 e2
 split at e1
 ·rename_i hlt
  rw [if_pos (by rw [← h1.1];exact hlt)] at e2
  exact h1.2 i c v e1 e2
 ·rename_i hlt
  rw [if_neg (by rw [← h1.1];exact hlt),← h1.1] at e2
  exact h2.2 _ c v e1 e2
section
variable {H : Type} {enc : TypeId × Value → H} {P : Program} {L : Lay} {w : World} {sp : Nat → Bool} {held : Bool}
theorem gO (hL : eG P L) {T : TypeId} {r : LRow} (hr : L T = some r) : P.cellsOf T = r.size := by
 obtain ⟨i,d,hi,_,hs,_⟩ := LRow.spec (hL T r hr)
 simp [Program.cellsOf,hi,hs]
theorem l_ : ∀ (fs : List (Nat × TypeId)) (o tot : Nat),fK L fs o tot = true → o ≤ tot
 |[],o,tot,h => by simp [fK] at h;omega
 |(off,T) :: fs,o,tot,h => by
  simp only [fK] at h
  split at h
  ·rename_i r hr
   simp only [Bool.and_eq_true] at h
   have := l_ fs _ _ h.2
   omega
  ·cases h
theorem kB (hL : eG P L) {n : Nat} {cs : List Value}
  (IH : ∀ (T : TypeId) (cs : List Value) (fuel : Nat) x,dX L n T = true → DataW.trod enc P w 0 sp held fuel T cs = some x → ∃ pvs,Reads w pvs cs ∧ iZ L n T pvs) :
  ∀ (fs : List (Nat × TypeId)) (o : Nat),fK L fs o cs.length = true → fs.all (fun f => dX L n f.2) = true →
   (∀ f ∈ fs,∃ m x,DataW.trod enc P w 0 sp held m f.2 ((cs.drop f.1).take (P.cellsOf f.2)) = some x) →
   ∃ parts : List (List PV),Reads w parts.flatten (cs.drop o) ∧ parts.length = fs.length ∧ ∀ (i : Nat) f p,fs[i]? = some f → parts[i]? = some p → iZ L n f.2 p
 |[],o,h,_,_ => by
  simp [fK] at h
  refine ⟨[],⟨by simp [h],fun i c v e => by simp at e⟩,rfl,fun i f p e => by simp at e⟩
 |(off,T) :: fs,o,h,hall,hd => by
  simp only [fK] at h
  split at h
  ·rename_i r hr
   simp only [Bool.and_eq_true,Nat.beq_eq] at h
   obtain ⟨rfl,h⟩ := h
   simp only [List.all_cons,Bool.and_eq_true] at hall
   have hle := l_ fs _ _ h
   obtain ⟨m,x,hx⟩ := hd (off,T) (by simp)
   obtain ⟨pvs,hp1,hp2⟩ := IH T _ m x hall.1 hx
   obtain ⟨parts,g1,g2,g3⟩ := kB hL IH fs (off + r.size) h hall.2 (fun f hf => hd f (by simp [hf]))
   rw [gO hL hr] at hp1
   refine ⟨pvs :: parts,?_,by simp [g2],fun i f p e1 e2 => ?_⟩
   ·have hsplit : cs.drop off = (cs.drop off).take r.size ++ cs.drop (off + r.size) := by rw [← List.drop_drop,List.take_append_drop]
    rw [hsplit,List.flatten_cons]
    exact hp1.append g1
   ·cases i with
    |zero => simp at e1 e2;subst e1;subst e2;exact hp2
    |succ i => exact g3 i f p (by simpa using e1) (by simpa using e2)
  ·cases h
theorem lE (hL : eG P L) : ∀ (n : Nat) (T : TypeId) (cs : List Value) (fuel : Nat) (x : DataW H × List MemPlace),dX L n T = true → DataW.trod enc P w 0 sp held fuel T cs = some x → ∃ pvs,Reads w pvs cs ∧ iZ L n T pvs
 |0,_,_,_,_,h,_ => by simp [dX] at h
 |n + 1,T,cs,fuel,x,h,ht => by
  simp only [dX] at h
  split at h
  ·rename_i r hr
   have hfit := hL T r hr
   have one : ∀ {c : PV} {v : Value},DRep w (fun b => b < w.heap.size) c v → v.oneCell' = true → Reads w [c] [v] := fun h1 h2 => ⟨rfl,fun i c v e1 e2 => by
    cases i with
    |zero => simp at e1 e2;subst e1;subst e2;exact ⟨h1,h2⟩
    |succ i => simp at e1⟩
   split at h
   ·rename_i hs
    obtain ⟨b,rfl,_⟩ := DataW.trod_bool (lG hfit hs) ht
    exact ⟨[.bool b],one (.bool b) rfl,r,hr,by rw [hs];exact ⟨b,rfl⟩⟩
   ·rename_i k hs
    obtain ⟨m,rfl,_,hwf⟩ := DataW.trod_int (i4 hfit hs) ht
    simp only [Lit.wf,Bool.and_eq_true,decide_eq_true_eq] at hwf
    exact ⟨[.int k m],one (.int k m) rfl,r,hr,by rw [hs];exact ⟨m,rfl,hwf⟩⟩
   ·rename_i hs
    obtain ⟨s,rfl,_,hsz⟩ := DataW.trod_string (gp hfit hs) ht
    exact ⟨[.str s.data.toList],one (.str s.data.toList) rfl,r,hr,by rw [hs];exact ⟨_,rfl,by rw [Array.length_toList];exact hsz⟩⟩
   ·rename_i e hs
    split at h
    ·rename_i re hre
     simp only [Bool.and_eq_true] at h
     have hsz : 0 < re.size := by simpa using h.1
     have hce := gO hL hre
     rcases DataW.trod_slice (ef hfit hs) ht with ⟨rfl,_⟩ | ⟨a,len,cap,elems,rest,m,rfl,rfl,_,_,hlc,hcm,hel,hat,_⟩
     ·exact ⟨[.sl []],one (.sl0 none 0) rfl,r,hr,by rw [hs];exact ⟨[],rfl,Nat.zero_le _,fun row hrow => by cases hrow⟩⟩
     ·rw [hce] at hat
      have key : ∀ i,i < len → ∃ ecs,w.cells? 0 (a.add (i * re.size)) re.size = some ecs ∧ ∃ pvs,Reads w pvs ecs ∧ iZ L n e pvs := by
       intro i hi
       have h1 := hat i hi
       rw [List.getElem?_eq_getElem (by omega)] at h1
       obtain ⟨ecs,e1,e2⟩ := Option.bind_eq_some_iff.1 h1
       obtain ⟨pvs,g1,g2⟩ := lE hL n e ecs m _ h.2 e2
       exact ⟨ecs,e1,pvs,g1,g2⟩
      by_cases h0 : len = 0
      ·subst h0
       exact ⟨[.sl []],one (.sl0 _ _) rfl,r,hr,by rw [hs];exact ⟨[],rfl,Nat.zero_le _,fun row hrow => by cases hrow⟩⟩
      ·
       have cellAt : ∀ (i : Nat) ecs,w.cells? 0 (a.add (i * re.size)) re.size = some ecs → ecs.length = re.size ∧ ∀ j v,ecs[j]? = some v → w.cell? ((a.add (i * re.size)).add j) = some v := by
        intro i ecs he
        unfold World.cells? at he
        rw [if_pos (Nat.zero_le _)] at he
        refine ⟨by simpa using mapM_some_length he,fun j v hv => ?_⟩
        have hj : j < re.size := by have := mapM_some_length he;have := (List.getElem?_eq_some_iff.1 hv).1;simp at *;omega
        have := mapM_some_get he j j (by simp [hj])
        rw [hv] at this
        exact this
       obtain ⟨b,off,spot⟩ := a
       obtain ⟨ecs0,f1,pvs0,f2,_⟩ := key 0 (by omega)
       obtain ⟨f3,f4⟩ := cellAt 0 ecs0 f1
       have hc0 : ∃ v,w.cell? (((⟨b,off,spot⟩ : Addr).add (0 * re.size)).add 0) = some v := ⟨ecs0[0],f4 0 _ (List.getElem?_eq_getElem (by omega))⟩
       have hspot : spot = none := by
        obtain ⟨v,hv⟩ := hc0
        simpa [Addr.add] using World.cell?_spot hv
       subst hspot
       have hbl : b < w.heap.size := by
        obtain ⟨v,hv⟩ := hc0
        simp only [Nat.zero_mul,Addr.add_mk,Nat.add_zero] at hv
        rcases Nat.lt_or_ge b w.heap.size with hlt | hge
        ·exact hlt
        ·simp [World.cell?,Array.getElem?_eq_none hge] at hv
       have hch : ∀ i : Nat,∃ p : List PV × List Value,i < len → w.cells? 0 ((⟨b,off,none⟩ : Addr).add (i * re.size)) re.size = some p.2 ∧ Reads w p.1 p.2 ∧ iZ L n e p.1 := by
        intro i
        by_cases hi : i < len
        ·obtain ⟨ecs,e1,pvs,e2,e3⟩ := key i hi
         exact ⟨(pvs,ecs),fun _ => ⟨e1,e2,e3⟩⟩
        ·exact ⟨([],[]),fun h => absurd h hi⟩
       let g : Nat → List PV × List Value := fun i => Classical.choose (hch i)
       have hg : ∀ i,i < len → w.cells? 0 ((⟨b,off,none⟩ : Addr).add (i * re.size)) re.size = some (g i).2 ∧ Reads w (g i).1 (g i).2 ∧ iZ L n e (g i).1 := fun i hi => Classical.choose_spec (hch i) hi
       have hrow : ∀ (i : Nat) (row : List PV),((List.range len).map fun i => (g i).1)[i]? = some row → i < len ∧ row = (g i).1 := by
        intro i row hrow
        rw [List.getElem?_map] at hrow
        rcases Nat.lt_or_ge i len with hlt | hge
        ·rw [List.getElem?_range hlt] at hrow
         simp at hrow
         exact ⟨hlt,hrow.symm⟩
        ·rw [List.getElem?_eq_none (by simpa using hge)] at hrow
         simp at hrow
       have hmem : ∀ row ∈ (List.range len).map fun i => (g i).1,∃ i,i < len ∧ row = (g i).1 := by
        intro row hrow
        obtain ⟨i,hi,rfl⟩ := List.mem_map.1 hrow
        exact ⟨i,List.mem_range.1 hi,rfl⟩
       have hlen : ((List.range len).map fun i => (g i).1).length = len := by simp
       have hlen' : ∀ i,i < len → (g i).1.length = re.size := fun i hi => by
        rw [(hg i hi).2.1.1];exact (cellAt i _ (hg i hi).1).1
       have hD : DRep w (fun b => b < w.heap.size) (.sl ((List.range len).map fun i => (g i).1)) (.slice (some ⟨b,off,none⟩) len cap) := by
        have := DRep.sl (w := w) (ok := fun b => b < w.heap.size) ((List.range len).map fun i => (g i).1) b off cap re.size (fun i j => ((g i).2[j]?).getD undef) hbl hsz (by rw [hlen];exact hlc)
         (fun row hr => by obtain ⟨i,hi,rfl⟩ := hmem row hr;exact hlen' i hi)
         (fun i j row c e1 e2 => by
          obtain ⟨hi,rfl⟩ := hrow i row e1
          have hj : j < (g i).2.length := by rw [← (hg i hi).2.1.1];exact (List.getElem?_eq_some_iff.1 e2).1
          have hv : (g i).2[j]? = some (g i).2[j] := List.getElem?_eq_getElem hj
          have := (cellAt i _ (hg i hi).1).2 j _ hv
          rw [Addr.add_mk,Addr.add_mk] at this
          rw [hv]
          exact ⟨this,((hg i hi).2.1.2 j c _ e2 hv).2⟩)
         (fun i j row c e1 e2 => by
          obtain ⟨hi,rfl⟩ := hrow i row e1
          have hj : j < (g i).2.length := by rw [← (hg i hi).2.1.1];exact (List.getElem?_eq_some_iff.1 e2).1
          have hv : (g i).2[j]? = some (g i).2[j] := List.getElem?_eq_getElem hj
          rw [hv]
          exact ((hg i hi).2.1.2 j c _ e2 hv).1)
        rw [hlen] at this
        exact this
       exact ⟨[.sl ((List.range len).map fun i => (g i).1)],one hD rfl,r,hr,by
        rw [hs]
        exact ⟨_,rfl,by rw [hlen];exact Nat.le_trans hlc hcm,fun row hr => by obtain ⟨i,hi,rfl⟩ := hmem row hr;exact (hg i hi).2.2⟩⟩
    ·cases h
   ·rename_i fs hs
    simp only [Bool.and_eq_true] at h
    obtain ⟨fs',hu,hm⟩ := lH hfit hs
    obtain ⟨xs,m,_,_,hlen,hxl,hf⟩ := DataW.trod_struct hu ht
    rw [gO hL hr] at hlen
    obtain ⟨parts,g1,g2,g3⟩ := kB hL (cs := cs) (fun T cs fuel x a b => lE hL n T cs fuel x a b) fs 0 (by rw [hlen];exact h.1) h.2 (fun f hf' => by
     rw [← hm] at hf'
     obtain ⟨fd,hfd,rfl⟩ := List.mem_map.1 hf'
     obtain ⟨i,hi,hie⟩ := List.getElem_of_mem hfd
     have hi' : i < fs'.size := by simpa using hi
     have h1 : fs'[i]? = some fd := by rw [Array.getElem?_eq_getElem hi'];simpa using hie
     have h2 := hf i fd h1
     rw [List.getElem?_eq_getElem (by omega)] at h2
     exact ⟨m,_,h2⟩)
    exact ⟨parts.flatten,by simpa using g1,r,hr,by rw [hs];exact ⟨parts,rfl,g2,g3⟩⟩
   ·cases h
  ·cases h
theorem gL (hl : laidOutB P = true) {W W' : World} (hb : Below W.heap.size W W') : ∀ (ts : List TypeId) (vs : List Value) (ds : List (DataW H)) (ps : List MemPlace),(∀ t ∈ ts,P.readableRec t = true ∧ t < P.types.size) →
  DataW.TrodAll enc P W 0 (fun _ => true) true ts vs ds ps → (∀ x ∈ ps,x.block < W.heap.size) → DataW.TrodAll enc P W' 0 (fun b => decide (b < W.heap.size)) true ts vs ds ps
 |[],vs,ds,ps,_,h,_ => by
  obtain ⟨rfl,rfl,rfl⟩ := trodAll_nil h
  exact trodAll_mk0
 |t :: ts,vs,ds,ps,hr,h,hlt => by
  obtain ⟨v,vs',d,ds',p,q,rfl,rfl,rfl,h1,h2⟩ := trodAll_cons h
  have ht := hr t (by simp)
  exact ⟨p,q,Below.trod hl ht.1 ht.2 h1 hb (fun x hx => hlt x (by simp [hx])),gL hl hb ts vs' ds' q (fun t ht => hr t (by simp [ht])) h2 (fun x hx => hlt x (by simp [hx])),rfl⟩
end
end Go.Pv
namespace Go.Pv
open Go.Proofs Go.RowKit
set_option maxRecDepth 100000
def lay : Tr := (.nd 130 (.nd 65 (.nd 32 (.nd 16 (.nd 8 (.nd 4 (.nd 2 (.nd 1 (.lf 0 ⟨1,0,.other,none⟩)
 (.lf 1 ⟨1,8,.other,(some [(.raw .nilFunc)])⟩))
 (.nd 3 (.lf 2 ⟨1,8,(.int .i64),(some [(.int .i64 0)])⟩)
 (.lf 3 ⟨1,8,(.int .i64),(some [(.int .i64 0)])⟩)))
 (.nd 6 (.nd 5 (.lf 4 ⟨1,1,.bool,(some [(.bool false)])⟩)
 (.lf 5 ⟨1,1,(.int .u8),(some [(.int .u8 0)])⟩))
 (.nd 7 (.lf 6 ⟨1,1,(.int .u8),(some [(.int .u8 0)])⟩)
 (.lf 7 ⟨4,24,(.st [(0,2),(1,3),(2,4),(3,6)]),(some [(.int .i64 0),(.int .i64 0),(.bool false),(.int .u8 0)])⟩))))
 (.nd 12 (.nd 10 (.nd 9 (.lf 8 ⟨4,24,(.st [(0,2),(1,3),(2,4),(3,6)]),(some [(.int .i64 0),(.int .i64 0),(.bool false),(.int .u8 0)])⟩)
 (.lf 9 ⟨1,16,.str,(some [(.str [])])⟩))
 (.nd 11 (.lf 10 ⟨1,16,.str,(some [(.str [])])⟩)
 (.lf 11 ⟨1,16,.str,(some [(.str [])])⟩)))
 (.nd 14 (.nd 13 (.lf 12 ⟨1,8,(.int .u64),(some [(.int .u64 0)])⟩)
 (.lf 13 ⟨2,24,(.st [(0,9),(1,12)]),(some [(.str []),(.int .u64 0)])⟩))
 (.nd 15 (.lf 14 ⟨2,24,(.st [(0,9),(1,12)]),(some [(.str []),(.int .u64 0)])⟩)
 (.lf 15 ⟨1,8,(.ptr 246),(some [(.raw (.pointer none))])⟩)))))
 (.nd 24 (.nd 20 (.nd 18 (.nd 17 (.lf 16 ⟨1,8,(.ptr 249),(some [(.raw (.pointer none))])⟩)
 (.lf 17 ⟨1,8,(.ptr 258),(some [(.raw (.pointer none))])⟩))
 (.nd 19 (.lf 18 ⟨1,8,(.st [(0,17)]),(some [(.raw (.pointer none))])⟩)
 (.lf 19 ⟨1,8,(.st [(0,17)]),(some [(.raw (.pointer none))])⟩)))
 (.nd 22 (.nd 21 (.lf 20 ⟨1,16,.other,(some [(.raw .nilIface)])⟩)
 (.lf 21 ⟨1,4,(.int .i32),(some [(.int .i32 0)])⟩))
 (.nd 23 (.lf 22 ⟨1,24,(.sl 180),(some [.nil])⟩)
 (.lf 23 ⟨2,32,(.st [(0,4),(1,22)]),(some [(.bool false),.nil])⟩))))
 (.nd 28 (.nd 26 (.nd 25 (.lf 24 ⟨2,32,(.st [(0,4),(1,22)]),(some [(.bool false),.nil])⟩)
 (.lf 25 ⟨4,64,(.st [(0,24),(2,24)]),(some [(.bool false),.nil,(.bool false),.nil])⟩))
 (.nd 27 (.lf 26 ⟨4,64,(.st [(0,24),(2,24)]),(some [(.bool false),.nil,(.bool false),.nil])⟩)
 (.lf 27 ⟨1,24,(.sl 122),(some [.nil])⟩)))
 (.nd 30 (.nd 29 (.lf 28 ⟨6,96,(.st [(0,3),(1,26),(5,27)]),(some [(.int .i64 0),(.bool false),.nil,(.bool false),.nil,.nil])⟩)
 (.lf 29 ⟨6,96,(.st [(0,3),(1,26),(5,27)]),(some [(.int .i64 0),(.bool false),.nil,(.bool false),.nil,.nil])⟩))
 (.nd 31 (.lf 30 ⟨1,8,.other,(some [(.raw .nilFunc)])⟩)
 (.lf 31 ⟨1,8,.other,(some [(.raw .nilFunc)])⟩))))))
 (.nd 48 (.nd 40 (.nd 36 (.nd 34 (.nd 33 (.lf 32 ⟨1,8,.other,(some [(.raw .nilFunc)])⟩)
 (.lf 33 ⟨1,8,(.int .i64),(some [(.int .i64 0)])⟩))
 (.nd 35 (.lf 34 ⟨1,8,.other,(some [(.raw .nilFunc)])⟩)
 (.lf 35 ⟨1,8,.other,(some [(.raw .nilFunc)])⟩)))
 (.nd 38 (.nd 37 (.lf 36 ⟨1,8,.other,(some [(.raw .nilFunc)])⟩)
 (.lf 37 ⟨1,8,.other,(some [(.raw .nilFunc)])⟩))
 (.nd 39 (.lf 38 ⟨1,8,.other,(some [(.raw .nilFunc)])⟩)
 (.lf 39 ⟨8,128,(.st [(0,26),(4,26)]),(some [(.bool false),.nil,(.bool false),.nil,(.bool false),.nil,(.bool false),.nil])⟩))))
 (.nd 44 (.nd 42 (.nd 41 (.lf 40 ⟨8,128,(.st [(0,26),(4,26)]),(some [(.bool false),.nil,(.bool false),.nil,(.bool false),.nil,(.bool false),.nil])⟩)
 (.lf 41 ⟨1,8,.other,(some [(.raw .nilFunc)])⟩))
 (.nd 43 (.lf 42 ⟨1,24,(.sl 26),(some [.nil])⟩)
 (.lf 43 ⟨1,0,.other,none⟩)))
 (.nd 46 (.nd 45 (.lf 44 ⟨1,8,.other,(some [(.raw .nilFunc)])⟩)
 (.lf 45 ⟨1,8,.other,(some [(.raw .nilFunc)])⟩))
 (.nd 47 (.lf 46 ⟨1,8,.other,(some [(.raw .nilFunc)])⟩)
 (.lf 47 ⟨1,8,.other,(some [(.raw .nilFunc)])⟩)))))
 (.nd 56 (.nd 52 (.nd 50 (.nd 49 (.lf 48 ⟨1,8,.other,(some [(.raw .nilFunc)])⟩)
 (.lf 49 ⟨1,0,.other,none⟩))
 (.nd 51 (.lf 50 ⟨1,8,.other,(some [(.raw .nilFunc)])⟩)
 (.lf 51 ⟨1,8,.other,(some [(.raw .nilFunc)])⟩)))
 (.nd 54 (.nd 53 (.lf 52 ⟨1,0,.other,none⟩)
 (.lf 53 ⟨1,8,.other,(some [(.raw .nilFunc)])⟩))
 (.nd 55 (.lf 54 ⟨1,8,.other,(some [(.raw .nilFunc)])⟩)
 (.lf 55 ⟨1,0,.other,none⟩))))
 (.nd 60 (.nd 58 (.nd 57 (.lf 56 ⟨1,8,.other,(some [(.raw .nilFunc)])⟩)
 (.lf 57 ⟨1,8,.other,(some [(.raw .nilFunc)])⟩))
 (.nd 59 (.lf 58 ⟨1,8,.other,(some [(.raw .nilFunc)])⟩)
 (.lf 59 ⟨9,152,(.st [(0,40),(8,42)]),(some [(.bool false),.nil,(.bool false),.nil,(.bool false),.nil,(.bool false),.nil,.nil])⟩)))
 (.nd 62 (.nd 61 (.lf 60 ⟨9,152,(.st [(0,40),(8,42)]),(some [(.bool false),.nil,(.bool false),.nil,(.bool false),.nil,(.bool false),.nil,.nil])⟩)
 (.lf 61 ⟨8,128,(.st [(0,26),(4,26)]),(some [(.bool false),.nil,(.bool false),.nil,(.bool false),.nil,(.bool false),.nil])⟩))
 (.nd 63 (.lf 62 ⟨8,128,(.st [(0,26),(4,26)]),(some [(.bool false),.nil,(.bool false),.nil,(.bool false),.nil,(.bool false),.nil])⟩)
 (.nd 64 (.lf 63 ⟨1,8,.other,(some [(.raw .nilFunc)])⟩)
 (.lf 64 ⟨1,8,.other,(some [(.raw .nilFunc)])⟩))))))))
 (.nd 97 (.nd 81 (.nd 73 (.nd 69 (.nd 67 (.nd 66 (.lf 65 ⟨1,8,.other,(some [(.raw .nilFunc)])⟩)
 (.lf 66 ⟨1,8,.other,(some [(.raw .nilFunc)])⟩))
 (.nd 68 (.lf 67 ⟨1,8,.other,(some [(.raw .nilFunc)])⟩)
 (.lf 68 ⟨1,8,.other,(some [(.raw .nilFunc)])⟩)))
 (.nd 71 (.nd 70 (.lf 69 ⟨1,0,.other,none⟩)
 (.lf 70 ⟨1,8,.other,(some [(.raw .nilFunc)])⟩))
 (.nd 72 (.lf 71 ⟨1,8,.other,(some [(.raw .nilFunc)])⟩)
 (.lf 72 ⟨1,0,.other,none⟩))))
 (.nd 77 (.nd 75 (.nd 74 (.lf 73 ⟨1,8,.other,(some [(.raw .nilFunc)])⟩)
 (.lf 74 ⟨1,8,.other,(some [(.raw .nilFunc)])⟩))
 (.nd 76 (.lf 75 ⟨1,8,.other,(some [(.raw .nilFunc)])⟩)
 (.lf 76 ⟨1,8,.other,(some [(.raw .nilFunc)])⟩)))
 (.nd 79 (.nd 78 (.lf 77 ⟨1,8,.other,(some [(.raw .nilFunc)])⟩)
 (.lf 78 ⟨5,48,(.st [(0,9),(1,3),(2,3),(3,3),(4,3)]),(some [(.str []),(.int .i64 0),(.int .i64 0),(.int .i64 0),(.int .i64 0)])⟩))
 (.nd 80 (.lf 79 ⟨5,48,(.st [(0,9),(1,3),(2,3),(3,3),(4,3)]),(some [(.str []),(.int .i64 0),(.int .i64 0),(.int .i64 0),(.int .i64 0)])⟩)
 (.lf 80 ⟨1,0,.other,none⟩)))))
 (.nd 89 (.nd 85 (.nd 83 (.nd 82 (.lf 81 ⟨1,8,.other,(some [(.raw .nilFunc)])⟩)
 (.lf 82 ⟨1,8,.other,(some [(.raw .nilFunc)])⟩))
 (.nd 84 (.lf 83 ⟨1,0,.other,none⟩)
 (.lf 84 ⟨1,8,.other,(some [(.raw .nilFunc)])⟩)))
 (.nd 87 (.nd 86 (.lf 85 ⟨1,8,.other,(some [(.raw .nilFunc)])⟩)
 (.lf 86 ⟨1,24,(.sl 3),(some [.nil])⟩))
 (.nd 88 (.lf 87 ⟨1,0,.other,none⟩)
 (.lf 88 ⟨1,8,.other,(some [(.raw .nilFunc)])⟩))))
 (.nd 93 (.nd 91 (.nd 90 (.lf 89 ⟨8,128,(.st [(0,26),(4,26)]),(some [(.bool false),.nil,(.bool false),.nil,(.bool false),.nil,(.bool false),.nil])⟩)
 (.lf 90 ⟨8,128,(.st [(0,26),(4,26)]),(some [(.bool false),.nil,(.bool false),.nil,(.bool false),.nil,(.bool false),.nil])⟩))
 (.nd 92 (.lf 91 ⟨1,0,.other,none⟩)
 (.lf 92 ⟨1,8,.other,(some [(.raw .nilFunc)])⟩)))
 (.nd 95 (.nd 94 (.lf 93 ⟨12,192,(.st [(0,26),(4,26),(8,26)]),(some [(.bool false),.nil,(.bool false),.nil,(.bool false),.nil,(.bool false),.nil,(.bool false),.nil,(.bool false),.nil])⟩)
 (.lf 94 ⟨12,192,(.st [(0,26),(4,26),(8,26)]),(some [(.bool false),.nil,(.bool false),.nil,(.bool false),.nil,(.bool false),.nil,(.bool false),.nil,(.bool false),.nil])⟩))
 (.nd 96 (.lf 95 ⟨1,0,.other,none⟩)
 (.lf 96 ⟨1,8,.other,(some [(.raw .nilFunc)])⟩))))))
 (.nd 113 (.nd 105 (.nd 101 (.nd 99 (.nd 98 (.lf 97 ⟨1,8,.other,(some [(.raw .nilFunc)])⟩)
 (.lf 98 ⟨1,8,.other,(some [(.raw .nilFunc)])⟩))
 (.nd 100 (.lf 99 ⟨1,8,.other,(some [(.raw .nilFunc)])⟩)
 (.lf 100 ⟨1,8,.other,(some [(.raw .nilFunc)])⟩)))
 (.nd 103 (.nd 102 (.lf 101 ⟨1,0,.other,none⟩)
 (.lf 102 ⟨1,8,.other,(some [(.raw .nilFunc)])⟩))
 (.nd 104 (.lf 103 ⟨1,8,.other,(some [(.raw .nilFunc)])⟩)
 (.lf 104 ⟨1,8,.other,(some [(.raw .nilFunc)])⟩))))
 (.nd 109 (.nd 107 (.nd 106 (.lf 105 ⟨1,8,.other,(some [(.raw .nilFunc)])⟩)
 (.lf 106 ⟨1,8,.other,(some [(.raw .nilFunc)])⟩))
 (.nd 108 (.lf 107 ⟨1,8,.other,(some [(.raw .nilFunc)])⟩)
 (.lf 108 ⟨1,8,.other,(some [(.raw .nilFunc)])⟩)))
 (.nd 111 (.nd 110 (.lf 109 ⟨7,88,(.st [(0,26),(4,3),(5,3),(6,3)]),(some [(.bool false),.nil,(.bool false),.nil,(.int .i64 0),(.int .i64 0),(.int .i64 0)])⟩)
 (.lf 110 ⟨7,88,(.st [(0,26),(4,3),(5,3),(6,3)]),(some [(.bool false),.nil,(.bool false),.nil,(.int .i64 0),(.int .i64 0),(.int .i64 0)])⟩))
 (.nd 112 (.lf 111 ⟨1,8,.other,(some [(.raw .nilFunc)])⟩)
 (.lf 112 ⟨1,8,.other,(some [(.raw .nilFunc)])⟩)))))
 (.nd 121 (.nd 117 (.nd 115 (.nd 114 (.lf 113 ⟨1,8,.other,(some [(.raw .nilFunc)])⟩)
 (.lf 114 ⟨1,0,.other,none⟩))
 (.nd 116 (.lf 115 ⟨1,8,.other,(some [(.raw .nilFunc)])⟩)
 (.lf 116 ⟨1,8,.other,(some [(.raw .nilFunc)])⟩)))
 (.nd 119 (.nd 118 (.lf 117 ⟨1,8,.other,(some [(.raw .nilFunc)])⟩)
 (.lf 118 ⟨1,8,.other,(some [(.raw .nilFunc)])⟩))
 (.nd 120 (.lf 119 ⟨2,48,(.st [(0,86),(1,42)]),(some [.nil,.nil])⟩)
 (.lf 120 ⟨2,48,(.st [(0,86),(1,42)]),(some [.nil,.nil])⟩))))
 (.nd 125 (.nd 123 (.nd 122 (.lf 121 ⟨7,120,(.st [(0,3),(1,26),(5,120)]),(some [(.int .i64 0),(.bool false),.nil,(.bool false),.nil,.nil,.nil])⟩)
 (.lf 122 ⟨7,120,(.st [(0,3),(1,26),(5,120)]),(some [(.int .i64 0),(.bool false),.nil,(.bool false),.nil,.nil,.nil])⟩))
 (.nd 124 (.lf 123 ⟨1,8,.other,(some [(.raw .nilFunc)])⟩)
 (.lf 124 ⟨1,8,.other,(some [(.raw .nilFunc)])⟩)))
 (.nd 127 (.nd 126 (.lf 125 ⟨1,8,.other,(some [(.raw .nilFunc)])⟩)
 (.lf 126 ⟨1,8,.other,(some [(.raw .nilFunc)])⟩))
 (.nd 128 (.lf 127 ⟨1,8,.other,(some [(.raw .nilFunc)])⟩)
 (.nd 129 (.lf 128 ⟨1,8,.other,(some [(.raw .nilFunc)])⟩)
 (.lf 129 ⟨1,8,.other,(some [(.raw .nilFunc)])⟩)))))))))
 (.nd 195 (.nd 162 (.nd 146 (.nd 138 (.nd 134 (.nd 132 (.nd 131 (.lf 130 ⟨1,8,.other,(some [(.raw .nilFunc)])⟩)
 (.lf 131 ⟨1,8,.other,(some [(.raw .nilFunc)])⟩))
 (.nd 133 (.lf 132 ⟨1,8,.other,(some [(.raw .nilFunc)])⟩)
 (.lf 133 ⟨1,8,.other,(some [(.raw .nilFunc)])⟩)))
 (.nd 136 (.nd 135 (.lf 134 ⟨1,8,.other,(some [(.raw .nilFunc)])⟩)
 (.lf 135 ⟨1,8,.other,(some [(.raw .nilFunc)])⟩))
 (.nd 137 (.lf 136 ⟨1,8,.other,(some [(.raw .nilFunc)])⟩)
 (.lf 137 ⟨1,8,.other,(some [(.raw .nilFunc)])⟩))))
 (.nd 142 (.nd 140 (.nd 139 (.lf 138 ⟨1,0,.other,none⟩)
 (.lf 139 ⟨1,8,.other,(some [(.raw .nilFunc)])⟩))
 (.nd 141 (.lf 140 ⟨1,24,(.sl 62),(some [.nil])⟩)
 (.lf 141 ⟨1,8,.other,(some [(.raw .nilFunc)])⟩)))
 (.nd 144 (.nd 143 (.lf 142 ⟨1,8,.other,(some [(.raw .nilFunc)])⟩)
 (.lf 143 ⟨1,8,.other,(some [(.raw .nilFunc)])⟩))
 (.nd 145 (.lf 144 ⟨1,8,.other,(some [(.raw .nilFunc)])⟩)
 (.lf 145 ⟨1,0,.other,none⟩)))))
 (.nd 154 (.nd 150 (.nd 148 (.nd 147 (.lf 146 ⟨1,8,.other,(some [(.raw .nilFunc)])⟩)
 (.lf 147 ⟨1,8,.other,(some [(.raw .nilFunc)])⟩))
 (.nd 149 (.lf 148 ⟨1,8,.other,(some [(.raw .nilFunc)])⟩)
 (.lf 149 ⟨1,8,.other,(some [(.raw .nilFunc)])⟩)))
 (.nd 152 (.nd 151 (.lf 150 ⟨1,8,.other,(some [(.raw .nilFunc)])⟩)
 (.lf 151 ⟨1,8,.other,(some [(.raw .nilFunc)])⟩))
 (.nd 153 (.lf 152 ⟨1,8,.other,(some [(.raw .nilFunc)])⟩)
 (.lf 153 ⟨1,8,.other,(some [(.raw .nilFunc)])⟩))))
 (.nd 158 (.nd 156 (.nd 155 (.lf 154 ⟨1,8,.other,(some [(.raw .nilFunc)])⟩)
 (.lf 155 ⟨1,8,.other,(some [(.raw .nilFunc)])⟩))
 (.nd 157 (.lf 156 ⟨1,8,(.ptr 122),(some [(.raw (.pointer none))])⟩)
 (.lf 157 ⟨1,8,.other,(some [(.raw .nilFunc)])⟩)))
 (.nd 160 (.nd 159 (.lf 158 ⟨1,0,.other,none⟩)
 (.lf 159 ⟨1,8,.other,(some [(.raw .nilFunc)])⟩))
 (.nd 161 (.lf 160 ⟨1,8,.other,(some [(.raw .nilFunc)])⟩)
 (.lf 161 ⟨1,8,.other,(some [(.raw .nilFunc)])⟩))))))
 (.nd 178 (.nd 170 (.nd 166 (.nd 164 (.nd 163 (.lf 162 ⟨1,8,.other,(some [(.raw .nilFunc)])⟩)
 (.lf 163 ⟨1,8,.other,(some [(.raw .nilFunc)])⟩))
 (.nd 165 (.lf 164 ⟨12,192,(.st [(0,26),(4,26),(8,26)]),(some [(.bool false),.nil,(.bool false),.nil,(.bool false),.nil,(.bool false),.nil,(.bool false),.nil,(.bool false),.nil])⟩)
 (.lf 165 ⟨12,192,(.st [(0,26),(4,26),(8,26)]),(some [(.bool false),.nil,(.bool false),.nil,(.bool false),.nil,(.bool false),.nil,(.bool false),.nil,(.bool false),.nil])⟩)))
 (.nd 168 (.nd 167 (.lf 166 ⟨1,8,.other,(some [(.raw .nilFunc)])⟩)
 (.lf 167 ⟨1,8,.other,(some [(.raw .nilFunc)])⟩))
 (.nd 169 (.lf 168 ⟨1,8,.other,(some [(.raw .nilFunc)])⟩)
 (.lf 169 ⟨1,8,.other,(some [(.raw .nilFunc)])⟩))))
 (.nd 174 (.nd 172 (.nd 171 (.lf 170 ⟨1,8,(.int .u64),(some [(.int .u64 0)])⟩)
 (.lf 171 ⟨1,24,(.sl 3),(some [.nil])⟩))
 (.nd 173 (.lf 172 ⟨1,8,.other,(some [(.raw .nilFunc)])⟩)
 (.lf 173 ⟨1,8,.other,(some [(.raw .nilFunc)])⟩)))
 (.nd 176 (.nd 175 (.lf 174 ⟨1,8,.other,(some [(.raw .nilFunc)])⟩)
 (.lf 175 ⟨1,0,.other,none⟩))
 (.nd 177 (.lf 176 ⟨1,8,.other,(some [(.raw .nilFunc)])⟩)
 (.lf 177 ⟨1,8,.other,(some [(.raw .nilFunc)])⟩)))))
 (.nd 186 (.nd 182 (.nd 180 (.nd 179 (.lf 178 ⟨1,8,.other,(some [(.raw .nilFunc)])⟩)
 (.lf 179 ⟨1,8,.other,(some [(.raw .nilFunc)])⟩))
 (.nd 181 (.lf 180 ⟨1,2,(.int .u16),(some [(.int .u16 0)])⟩)
 (.lf 181 ⟨1,8,.other,(some [(.raw .nilFunc)])⟩)))
 (.nd 184 (.nd 183 (.lf 182 ⟨1,8,.other,(some [(.raw .nilFunc)])⟩)
 (.lf 183 ⟨1,8,.other,(some [(.raw .nilFunc)])⟩))
 (.nd 185 (.lf 184 ⟨1,8,.other,(some [(.raw .nilFunc)])⟩)
 (.lf 185 ⟨1,8,.other,(some [(.raw .nilFunc)])⟩))))
 (.nd 190 (.nd 188 (.nd 187 (.lf 186 ⟨1,8,.other,(some [(.raw .nilFunc)])⟩)
 (.lf 187 ⟨1,8,.other,(some [(.raw .nilFunc)])⟩))
 (.nd 189 (.lf 188 ⟨1,8,.other,(some [(.raw .nilFunc)])⟩)
 (.lf 189 ⟨1,8,.other,(some [(.raw .nilFunc)])⟩)))
 (.nd 192 (.nd 191 (.lf 190 ⟨1,8,.other,(some [(.raw .nilFunc)])⟩)
 (.lf 191 ⟨1,8,.other,(some [(.raw .nilFunc)])⟩))
 (.nd 193 (.lf 192 ⟨1,8,(.int .u64),(some [(.int .u64 0)])⟩)
 (.nd 194 (.lf 193 ⟨1,8,.other,(some [(.raw .nilFunc)])⟩)
 (.lf 194 ⟨1,8,.other,(some [(.raw .nilFunc)])⟩))))))))
 (.nd 227 (.nd 211 (.nd 203 (.nd 199 (.nd 197 (.nd 196 (.lf 195 ⟨1,8,.other,(some [(.raw .nilFunc)])⟩)
 (.lf 196 ⟨1,8,.other,(some [(.raw .nilFunc)])⟩))
 (.nd 198 (.lf 197 ⟨1,8,.other,(some [(.raw .nilFunc)])⟩)
 (.lf 198 ⟨1,8,.other,(some [(.raw .nilFunc)])⟩)))
 (.nd 201 (.nd 200 (.lf 199 ⟨1,0,.other,none⟩)
 (.lf 200 ⟨1,8,.other,(some [(.raw .nilFunc)])⟩))
 (.nd 202 (.lf 201 ⟨1,8,.other,(some [(.raw .nilFunc)])⟩)
 (.lf 202 ⟨1,8,.other,(some [(.raw .nilFunc)])⟩))))
 (.nd 207 (.nd 205 (.nd 204 (.lf 203 ⟨1,24,(.sl 206),(some [.nil])⟩)
 (.lf 204 ⟨1,8,.other,(some [(.raw .nilFunc)])⟩))
 (.nd 206 (.lf 205 ⟨8,128,(.st [(0,26),(4,26)]),(some [(.bool false),.nil,(.bool false),.nil,(.bool false),.nil,(.bool false),.nil])⟩)
 (.lf 206 ⟨8,128,(.st [(0,26),(4,26)]),(some [(.bool false),.nil,(.bool false),.nil,(.bool false),.nil,(.bool false),.nil])⟩)))
 (.nd 209 (.nd 208 (.lf 207 ⟨1,24,(.sl 132),(some [.nil])⟩)
 (.lf 208 ⟨1,8,.other,(some [(.raw .nilFunc)])⟩))
 (.nd 210 (.lf 209 ⟨1,8,.other,(some [(.raw .nilFunc)])⟩)
 (.lf 210 ⟨1,8,.other,(some [(.raw .nilFunc)])⟩)))))
 (.nd 219 (.nd 215 (.nd 213 (.nd 212 (.lf 211 ⟨1,0,.other,none⟩)
 (.lf 212 ⟨1,8,.other,(some [(.raw .nilFunc)])⟩))
 (.nd 214 (.lf 213 ⟨1,0,.other,none⟩)
 (.lf 214 ⟨1,8,.other,(some [(.raw .nilFunc)])⟩)))
 (.nd 217 (.nd 216 (.lf 215 ⟨1,8,.other,(some [(.raw .nilFunc)])⟩)
 (.lf 216 ⟨1,8,.other,(some [(.raw .nilFunc)])⟩))
 (.nd 218 (.lf 217 ⟨1,8,.other,(some [(.raw .nilFunc)])⟩)
 (.lf 218 ⟨1,4,(.int .u32),(some [(.int .u32 0)])⟩))))
 (.nd 223 (.nd 221 (.nd 220 (.lf 219 ⟨1,8,.other,(some [(.raw .nilFunc)])⟩)
 (.lf 220 ⟨1,8,.other,(some [(.raw .nilFunc)])⟩))
 (.nd 222 (.lf 221 ⟨1,8,.other,(some [(.raw .nilFunc)])⟩)
 (.lf 222 ⟨1,8,(.int .i64),(some [(.int .i64 0)])⟩)))
 (.nd 225 (.nd 224 (.lf 223 ⟨1,0,.other,none⟩)
 (.lf 224 ⟨1,8,.other,(some [(.raw .nilFunc)])⟩))
 (.nd 226 (.lf 225 ⟨1,8,.other,(some [(.raw .nilFunc)])⟩)
 (.lf 226 ⟨1,8,.other,(some [(.raw .nilFunc)])⟩))))))
 (.nd 243 (.nd 235 (.nd 231 (.nd 229 (.nd 228 (.lf 227 ⟨1,8,.other,(some [(.raw .nilFunc)])⟩)
 (.lf 228 ⟨1,0,.other,none⟩))
 (.nd 230 (.lf 229 ⟨1,8,.other,(some [(.raw .nilFunc)])⟩)
 (.lf 230 ⟨1,8,.other,(some [(.raw .nilFunc)])⟩)))
 (.nd 233 (.nd 232 (.lf 231 ⟨1,8,.other,(some [(.raw .nilFunc)])⟩)
 (.lf 232 ⟨1,8,.other,(some [(.raw .nilFunc)])⟩))
 (.nd 234 (.lf 233 ⟨1,8,(.int .u64),(some [(.int .u64 0)])⟩)
 (.lf 234 ⟨1,8,.other,(some [(.raw .nilFunc)])⟩))))
 (.nd 239 (.nd 237 (.nd 236 (.lf 235 ⟨1,8,.other,(some [(.raw .nilFunc)])⟩)
 (.lf 236 ⟨1,8,.other,(some [(.raw .nilFunc)])⟩))
 (.nd 238 (.lf 237 ⟨1,8,(.ptr 3),(some [(.raw (.pointer none))])⟩)
 (.lf 238 ⟨1,8,.other,(some [(.raw .nilFunc)])⟩)))
 (.nd 241 (.nd 240 (.lf 239 ⟨1,8,.other,(some [(.raw .nilFunc)])⟩)
 (.lf 240 ⟨1,8,.other,(some [(.raw .nilFunc)])⟩))
 (.nd 242 (.lf 241 ⟨1,8,(.ptr 233),(some [(.raw (.pointer none))])⟩)
 (.lf 242 ⟨1,0,.other,none⟩)))))
 (.nd 251 (.nd 247 (.nd 245 (.nd 244 (.lf 243 ⟨1,8,.other,(some [(.raw .nilFunc)])⟩)
 (.lf 244 ⟨1,8,.other,(some [(.raw .nilFunc)])⟩))
 (.nd 246 (.lf 245 ⟨4,40,(.st [(0,17),(1,17),(2,17),(3,9)]),(some [(.raw (.pointer none)),(.raw (.pointer none)),(.raw (.pointer none)),(.str [])])⟩)
 (.lf 246 ⟨4,40,(.st [(0,17),(1,17),(2,17),(3,9)]),(some [(.raw (.pointer none)),(.raw (.pointer none)),(.raw (.pointer none)),(.str [])])⟩)))
 (.nd 249 (.nd 248 (.lf 247 ⟨0,0,(.arr 0 16),(some [])⟩)
 (.lf 248 ⟨0,0,(.st [(0,247)]),(some [])⟩))
 (.nd 250 (.lf 249 ⟨0,0,(.st [(0,247)]),(some [])⟩)
 (.lf 250 ⟨1,8,.other,(some [(.raw .nilFunc)])⟩))))
 (.nd 255 (.nd 253 (.nd 252 (.lf 251 ⟨1,1,(.int .u8),(some [(.int .u8 0)])⟩)
 (.lf 252 ⟨1,1,(.int .u8),(some [(.int .u8 0)])⟩))
 (.nd 254 (.lf 253 ⟨1,8,.other,(some [(.raw .nilFunc)])⟩)
 (.lf 254 ⟨1,8,(.ptr 5),(some [(.raw (.pointer none))])⟩)))
 (.nd 257 (.nd 256 (.lf 255 ⟨1,4,(.int .i32),(some [(.int .i32 0)])⟩)
 (.lf 256 ⟨1,4,(.int .i32),(some [(.int .i32 0)])⟩))
 (.nd 258 (.lf 257 ⟨11,48,(.st [(0,12),(1,12),(2,218),(3,251),(4,5),(5,5),(6,252),(7,253),(8,254),(9,255),(10,256)]),(some [(.int .u64 0),(.int .u64 0),(.int .u32 0),(.int .u8 0),(.int .u8 0),(.int .u8 0),(.int .u8 0),(.raw .nilFunc),(.raw (.pointer none)),(.int .i32 0),(.int .i32 0)])⟩)
 (.nd 259 (.lf 258 ⟨11,48,(.st [(0,12),(1,12),(2,218),(3,251),(4,5),(5,5),(6,252),(7,253),(8,254),(9,255),(10,256)]),(some [(.int .u64 0),(.int .u64 0),(.int .u32 0),(.int .u8 0),(.int .u8 0),(.int .u8 0),(.int .u8 0),(.raw .nilFunc),(.raw (.pointer none)),(.int .i32 0),(.int .i32 0)])⟩)
 (.lf 259 ⟨1,8,.other,(some [(.raw (.pointer none))])⟩))))))))))
theorem uR : lay.fits Tryz.prog = true := by kernel_rfl
theorem layOk : eG Tryz.prog lay.get := Tr.ok uR
theorem mixed : Tryz.prog.follows .mixedOrders = true := by kernel_rfl
instance : Globs := ⟨fun _ => True,fun _ _ _ _ => trivial⟩
end Go.Pv
set_option maxHeartbeats 2000000
namespace Go.Pv
attribute [local irreducible] PWP POps PQuiet PSem aC au aj ai
open Go.Proofs
abbrev I (n : Int) : PV := .int .i64 n
def eU (x : UInt16) : List PV := [.int .u16 x.toNat]
theorem dq (l : List UInt16) : Trm (aG l) := a8 _
theorem bY (l : List UInt16) : nv (aG l) = nv l := aD _
theorem bq (l : List UInt16) : (aG l).length ≤ l.length := bE (bB l)
theorem wrap_u16 (n : Nat) : IntKind.u16.wrap (n : Int) = ((UInt16.ofNat n).toNat : Int) := by
 rw [aL,IntKind.wrap_u16];omega
theorem wrap_u32 {n : Int} (h0 : 0 ≤ n) (h1 : n < 4294967296) : IntKind.u32.wrap n = n := by
 rw [IntKind.wrap_u32];omega
theorem wrap_u64 {n : Int} (h0 : 0 ≤ n) (h1 : n < 18446744073709551616) : IntKind.u64.wrap n = n := by
 rw [IntKind.wrap_u64];omega
theorem jU {α : Type} (e : α → List PV) (k g : Nat) (l : List α) (a : α) : PV.als k (g + l.length + 1) 0 (l.map e ++ [e a]).length = PV.als k (g + (l ++ [a]).length) 0 ((l ++ [a]).map e).length := by simp [Nat.add_assoc]
theorem iy {α : Type} (e : α → List PV) (g T sz kd : Nat) (l : List α) (a : α) : (g + l.length + 1,some (Cont.mk T sz (l.map e ++ [e a]) kd)) = (g + (l ++ [a]).length,some (Cont.mk T sz ((l ++ [a]).map e) kd)) := by simp [Nat.add_assoc]
theorem bN (l : List UInt16) (hl : l.length ≤ 1000000000) : Ret Tryz.prog .shared 184 [.sl (l.map eU)] (.sl ((aG l).map eU)) := by
 refine Ret.of_pwp layOk mixed Go.Proofs.Tryz.func184 rfl (by decide) rfl rfl ?_
 repeat refine ac rfl ?_
 refine ax (fun k => k ≤ l.length ∧ nv (l.take k) = nv l) (fun k => [(0,.sl ((l.take k).map eU))]) (fun _ => []) (fun k => k) l.length ⟨Nat.le_refl _,by rw [List.take_length]⟩ ⟨?_,trivial⟩ ?_
 ·rw [List.take_length];rfl
 rintro k s ⟨hk,hv⟩
 have hkl : (l.take k).length = k := by rw [List.length_take];omega
 have hml : ((l.take k).map eU).length = k := by rw [List.length_map,hkl]
 repeat refine ac rfl ?_
 refine cb rfl rfl rfl ?_ ?_<;>intro h
 ·have hk0 : 0 < k := by have := of_decide_eq_true h;rw [hml] at this;omega
  clear h
  obtain ⟨j,rfl⟩ : ∃ j,k = j + 1 := ⟨k - 1,by omega⟩
  obtain ⟨x,hx⟩ := aM (show j < l.length by omega)
  have hx2 : (l.take (j + 1))[j]? = some x := by rw [List.getElem?_take,if_pos (by omega)];exact hx
  have hw1 : IntKind.i64.wrap (((((l.take (j + 1)).map eU).length : Nat) : Int) - 1) = (j : Nat) := by rw [hml,wrap_i64 (by omega) (by omega)];omega
  repeat refine ac rfl ?_
  rw [hw1]
  refine bx rfl rfl (nD (n := ((j : Nat) : Int)) rfl rfl rfl rfl rfl (by omega) (by rw [Int.toNat_natCast];exact hx2) rfl) ?_
  repeat refine ac rfl ?_
  refine ae rfl ?_ ?_<;>intro h
  ·have hx0 : x.toNat = 0 := by have := of_decide_eq_true h;omega
   clear h
   repeat refine ac rfl ?_
   rw [hw1]
   refine bx rfl rfl (nE (n := ((j : Nat) : Int)) rfl rfl rfl rfl rfl (by omega) (by rw [hkl];omega) (fun _ => rfl)) ?_
   repeat refine ac rfl ?_
   refine ⟨j,⟨by omega,?_⟩,by omega,?_,trivial⟩
   ·rw [← hv,cf hx,hx0];omega
   ·rw [Int.toNat_natCast,List.take_take,Nat.min_eq_left (by omega)];rfl
  ·have hx0 : x.toNat ≠ 0 := by have := of_decide_eq_false h;omega
   clear h
   have ht : l.take (j + 1) = aG l := by
    rw [aG,← hv]
    exact (dR fun y hy => by
     rw [List.getLast?_eq_getElem?,hkl,Nat.add_sub_cancel,hx2] at hy
     cases hy;exact hx0).symm
   rw [ht]
   repeat refine ac rfl ?_
   exact eM rfl rfl rfl trivial rfl
 ·have hk0 : k = 0 := by have := of_decide_eq_false h;rw [hml] at this;omega
  subst hk0
  clear h
  have ht : l.take 0 = aG l := by
   rw [aG,← hv];simp [nv,a_]
  rw [ht]
  repeat refine ac rfl ?_
  exact eM rfl rfl rfl trivial rfl
theorem eg (a b : List UInt16) (ha : a.length ≤ 1000000000) (hb : b.length ≤ 1000000000) : Ret Tryz.prog .shared 189 [.sl (a.map eU),.sl (b.map eU)] (I (gv a b)) := by
 have hal : (a.map eU).length = a.length := by simp
 have hbl : (b.map eU).length = b.length := by simp
 by_cases he : a.length = b.length
 ·rw [gv,if_pos he]
  have hw0 : IntKind.i64.wrap (((((a.map eU).length : Nat) : Int)) - 1) = (a.length : Int) - 1 := by rw [hal,wrap_i64 (by omega) (by omega)]
  refine Ret.of_pwp layOk mixed Go.Proofs.Tryz.func189 rfl (by decide) rfl rfl ?_
  repeat refine ac rfl ?_
  refine ae rfl ?_ ?_<;>intro h
  ·simp at h;omega
  clear h
  repeat refine ac rfl ?_
  rw [hw0]
  refine ax (fun k : Nat => k ≤ a.length ∧ iw a b k = iw a b a.length) (fun k => [(0,.sl (a.map eU)),(1,.sl (b.map eU)),(5,I ((k : Int) - 1))]) (fun _ => []) (fun k => k) a.length ⟨Nat.le_refl _,rfl⟩ ⟨rfl,rfl,rfl,trivial⟩ ?_
  rintro k s ⟨hk,hc⟩
  rw [← hc]
  repeat refine ac rfl ?_
  refine ae rfl ?_ ?_<;>intro h
  ·have hk0 : 0 < k := by have := of_decide_eq_true h;omega
   clear h
   obtain ⟨j,rfl⟩ : ∃ j,k = j + 1 := ⟨k - 1,by omega⟩
   have e1 : (((j + 1 : Nat) : Int) - 1) = (j : Nat) := by omega
   rw [e1]
   have hx := bH (l := a) (i := j) (by omega)
   have hy := bH (l := b) (i := j) (by omega)
   have hc1 : iw a b (j + 1) = if (a.getD j 0).toNat = (b.getD j 0).toNat then iw a b j else ((a.getD j 0).toNat : Int) - (b.getD j 0).toNat := rfl
   have hxl := aQ (a.getD j 0)
   have hyl := aQ (b.getD j 0)
   generalize a.getD j 0 = x at *
   generalize b.getD j 0 = y at *
   repeat refine ac rfl ?_
   refine am 9 [23,24,25,26,27,28,29,30,31] (by decide +kernel) ?_
   repeat refine ac rfl ?_
   refine bm rfl rfl rfl rfl rfl rfl rfl hx rfl ?_
   repeat refine ac rfl ?_
   refine bm rfl rfl rfl rfl rfl rfl rfl hy rfl ?_
   repeat refine ac rfl ?_
   refine ae rfl ?_ ?_<;>intro h
   ·have hne : ¬ x.toNat = y.toNat := by simp at h;intro he;apply h;omega
    clear h
    rw [if_neg hne] at hc1
    rw [hc1]
    repeat refine ac rfl ?_
    refine am 12 [32,33,34,35,36,37,38,39,40,41,42,4] (by decide +kernel) ?_
    repeat refine ac rfl ?_
    refine bm rfl rfl rfl rfl rfl rfl rfl hx rfl ?_
    repeat refine ac rfl ?_
    refine bm rfl rfl rfl rfl rfl rfl rfl hy rfl ?_
    repeat refine ac rfl ?_
    rw [wrap_i64 (n := (x.toNat : Int)) (by omega) (by omega),wrap_i64 (n := (y.toNat : Int)) (by omega) (by omega),wrap_i64 (by omega) (by omega)]
    repeat refine ac rfl ?_
    exact aO rfl rfl rfl
   ·have hne : x.toNat = y.toNat := by simp at h;omega
    clear h
    rw [if_pos hne] at hc1
    repeat refine ac rfl ?_
    refine ⟨j,⟨by omega,by rw [← hc1,hc]⟩,by omega,rfl,rfl,?_,trivial⟩
    exact congrArg I (wrap_i64 (by omega) (by omega))
  ·have hk0 : k = 0 := by have := of_decide_eq_false h;omega
   subst hk0
   clear h
   repeat refine ac rfl ?_
   exact aO rfl rfl rfl
 ·rw [gv,if_neg he]
  refine Ret.of_pwp layOk mixed Go.Proofs.Tryz.func189 rfl (by decide) rfl rfl ?_
  repeat refine ac rfl ?_
  refine ae rfl ?_ ?_<;>intro h
  ·repeat refine ac rfl ?_
   rw [hal,hbl,wrap_i64 (by omega) (by omega)]
   exact aO rfl rfl rfl
  ·simp at h;omega
end Go.Pv
namespace Go.Pv
open Go.RowKit
variable [Globs]
theorem cy {P : Program} {L : Lay} {s s1 : St} {o : Oper} {K : St → Prop} (hg : Ghost s s1) (h : POp P L s1 o K) : Sm P L s o K :=
 fun _ _ _ _ hG hs hN => POp.wp hG (hg _ _ _ hG.x hs) hN h fun s' _ _ h' hk => ⟨s',h',hk⟩
end Go.Pv
set_option maxHeartbeats 2000000
namespace Go.Pv
attribute [local irreducible] PWP POps PQuiet PSem aC au aj ai
open Go.Proofs
theorem j0 (l : List UInt16) (d : UInt16) : nv (l ++ [d]) = nv l + 65536 ^ l.length * d.toNat := by
 rw [gc];simp [nv]
theorem cO {l : List UInt16} {k : Nat} (h : l.length ≤ k) : nv (l.take k) = nv l := by rw [List.take_of_length_le h]
theorem ra {l : List UInt16} {i t : Nat} {x : UInt16} (h : l[i]? = some x) (hi : i < t) (y : UInt16) : nv ((l.set i y).take t) + 65536 ^ i * x.toNat = nv (l.take t) + 65536 ^ i * y.toNat := by
 have e : (l.set i y).take t = (l.take t).set i y := by
  apply List.ext_getElem?;intro j
  rw [List.getElem?_take,List.getElem?_set,List.getElem?_set,List.getElem?_take,List.length_take]
  have := (List.getElem?_eq_some_iff.1 h).1
  by_cases hj : j < t
  ·rw [if_pos hj]
   by_cases hij : i = j
   ·subst hij;rw [if_pos rfl,if_pos rfl,if_pos (by omega),if_pos (by omega)]
   ·rw [if_neg hij,if_neg hij,if_pos hj]
  ·rw [if_neg hj,if_neg (by omega),if_neg hj]
 rw [e]
 exact u4 (by rw [List.getElem?_take,if_pos hi];exact h) y
theorem h_ {l : List UInt16} {i t : Nat} (hi : t ≤ i) (y : UInt16) : nv ((l.set i y).take t) = nv (l.take t) := by
 have e : (l.set i y).take t = l.take t := by
  apply List.ext_getElem?;intro j
  rw [List.getElem?_take,List.getElem?_take]
  split
  ·rw [List.getElem?_set_ne (by omega)]
  ·rfl
 rw [e]
theorem dT (l : List UInt16) (i : Nat) (y : UInt16) : (l.map eU).set i (eU y) = (l.set i y).map eU := by rw [List.map_set]
structure PlusI (A B : List UInt16) (q : Nat × List UInt16 × Nat) : Prop where
 k : q.1 ≤ A.length
 l : q.2.1.length = q.1
 c : q.2.2 ≤ 1
 v : nv q.2.1 + 65536 ^ q.1 * q.2.2 = nv (A.take q.1) + nv (B.take q.1)
theorem my {A B : List UInt16} {k : Nat} {L : List UInt16} {c y : Nat} {x : UInt16} (h : PlusI A B (k,L,c)) (hx : A[k]? = some x) (hy : nv (B.take (k + 1)) = nv (B.take k) + 65536 ^ k * y) (hy2 : y < 65536) :
  PlusI A B (k + 1,L ++ [UInt16.ofNat (c + x.toNat + y)],(c + x.toNat + y) / 65536) := by
 obtain ⟨h1,h2,h3,h4⟩ := h
 simp only at h1 h2 h3 h4
 have hk := (List.getElem?_eq_some_iff.1 hx).1
 have hx2 := aQ x
 refine ⟨hk,by simp [h2],by simp only;omega,?_⟩
 simp only
 rw [j0,cf hx,hy,h2,aL,Nat.pow_succ]
 have e : (c + x.toNat + y) % 65536 + 65536 * ((c + x.toNat + y) / 65536) = c + x.toNat + y := Nat.mod_add_div _ _
 generalize 65536 ^ k = W at *
 generalize (c + x.toNat + y) % 65536 = m at *
 generalize (c + x.toNat + y) / 65536 = d at *
 have : W * (m + 65536 * d) = W * (c + x.toNat + y) := by rw [e]
 simp only [Nat.mul_add] at this
 rw [Nat.mul_assoc]
 omega
set_option maxRecDepth 20000 in
theorem vo (a b : List UInt16) (ha : a.length ≤ 100000000) (hb : b.length ≤ 100000000) : Ret Tryz.prog .shared 188 [.sl (a.map eU),.sl (b.map eU)] (.sl ((ao (nv a + nv b)).map eU)) := by
 have hal : (a.map eU).length = a.length := by simp
 have hbl : (b.map eU).length = b.length := by simp
 obtain ⟨A,B,hAB,hsum,hle,hA,hsw⟩ : ∃ A B : List UInt16,(if a.length < b.length then A = b ∧ B = a else A = a ∧ B = b) ∧ nv A + nv B = nv a + nv b ∧ B.length ≤ A.length ∧ A.length ≤ 100000000 ∧ True := by
  by_cases h : a.length < b.length
  ·exact ⟨b,a,by rw [if_pos h];exact ⟨rfl,rfl⟩,by omega,by omega,hb,trivial⟩
  ·exact ⟨a,b,by rw [if_neg h];exact ⟨rfl,rfl⟩,rfl,by omega,ha,trivial⟩
 have hAl : (A.map eU).length = A.length := by simp
 have hBl : (B.map eU).length = B.length := by simp
 refine Ret.of_pwp layOk mixed Go.Proofs.Tryz.func188 rfl (by decide) rfl rfl ?_
 repeat refine ac rfl ?_
 refine nC [(0,.sl (A.map eU)),(1,.sl (B.map eU))] [] ?_ (fun s1 => ?_)
 ·refine ae rfl ?_ ?_<;>intro h
  ·have hlt : a.length < b.length := by have := of_decide_eq_true h;rw [hal,hbl] at this;omega
   clear h
   rw [if_pos hlt] at hAB
   obtain ⟨rfl,rfl⟩ := hAB
   repeat refine ac rfl ?_
   exact ⟨rfl,rfl,trivial⟩
  ·have hlt : ¬ a.length < b.length := by have := of_decide_eq_false h;rw [hal,hbl] at this;omega
   clear h
   rw [if_neg hlt] at hAB
   obtain ⟨rfl,rfl⟩ := hAB
   repeat refine ac rfl ?_
   exact ⟨rfl,rfl,trivial⟩
 clear hAB hsw hal hbl ha hb
 have hw1 : IntKind.i64.wrap ((((A.map eU).length : Nat) : Int) + 1) = ((A.length + 1 : Nat) : Int) := by rw [hAl,wrap_i64 (by omega) (by omega)];omega
 repeat refine ac rfl ?_
 rw [hw1]
 refine ay (xE (n := 0) rfl rfl rfl rfl rfl rfl rfl rfl (by omega) (by omega) (by show (2 : Int) * ((A.length + 1 : Nat) : Int) ≤ _;omega) (by omega) ?_)
 generalize (s1.own 19).1 = g0
 repeat refine ac rfl ?_
 refine ax (PlusI A B) (fun q => [(1,.sl (B.map eU)),(5,.als 19 (g0 + 1 + q.2.1.length) 0 (q.2.1.map eU).length),(6,.int .u32 (q.2.2 : Nat)),(20,.sl (A.map eU)),(21,I A.length),(22,I q.1)])
  (fun q => [(19,g0 + 1 + q.2.1.length,⟨180,1,q.2.1.map eU,0⟩)]) (fun q => A.length - q.1) (0,[],0) ⟨Nat.zero_le _,rfl,by decide,by simp [nv]⟩ ⟨rfl,rfl,rfl,rfl,?_,rfl,rfl,trivial⟩ ?_
 ·show I ((A.map eU).length) = _
  rw [hAl]
 rintro ⟨k,L,c⟩ s2 hI
 have hk := hI.k
 have hc := hI.c
 have hLl := hI.l
 simp only at hk hc hLl
 dsimp only
 repeat refine ac rfl ?_
 refine ae rfl ?_ ?_<;>intro h
 ·have hlt : k < A.length := by have := of_decide_eq_true h;omega
  clear h
  obtain ⟨x,hx⟩ := aM hlt
  have hxl := aQ x
  have e1 : IntKind.u32.wrap ((c : Nat) + IntKind.u32.wrap (x.toNat : Int)) = ((c + x.toNat : Nat) : Int) := by rw [wrap_u32 (n := (x.toNat : Int)) (by omega) (by omega),wrap_u32 (by omega) (by omega)];omega
  repeat refine ac rfl ?_
  refine bm rfl rfl rfl rfl rfl rfl rfl hx rfl ?_
  repeat refine ac rfl ?_
  rw [e1]
  by_cases hb : k < B.length
  ·obtain ⟨y,hy⟩ := aM hb
   have hyl := aQ y
   have hst := my hI hx (cf hy) hyl
   have e2 : IntKind.u32.wrap (((c + x.toNat : Nat) : Int) + IntKind.u32.wrap (y.toNat : Int)) = ((c + x.toNat + y.toNat : Nat) : Int) := by rw [wrap_u32 (n := (y.toNat : Int)) (by omega) (by omega),wrap_u32 (by omega) (by omega)];omega
   generalize hs : c + x.toNat + y.toNat = sm at *
   repeat refine ac rfl ?_
   refine ae rfl ?_ ?_<;>intro h
   ·clear h
    repeat refine ac rfl ?_
    refine bm rfl rfl rfl rfl rfl rfl rfl hy rfl ?_
    repeat refine ac rfl ?_
    rw [e2,wrap_u16]
    repeat refine ac rfl ?_
    refine bx rfl rfl (da rfl rfl rfl rfl rfl rfl rfl rfl rfl rfl (by repeat' constructor) rfl) ?_
    refine ay (bC 0 rfl rfl rfl rfl rfl rfl rfl rfl rfl rfl rfl (by repeat' constructor) (by intro row hr;first | (simp at hr;subst hr;rfl) | simp at hr) rfl rfl (by simp;omega) (by simp;omega) ?_)
    repeat refine ac rfl ?_
    refine ⟨(k + 1,L ++ [UInt16.ofNat sm],sm / 65536),hst,by simp only;omega,rfl,?_,?_,rfl,rfl,bG (by omega) (by omega),?_,trivial⟩
    ·exact jU eU 19 (g0 + 1) L (UInt16.ofNat sm)
    ·show PV.int .u32 ((sm : Int) / 2 ^ 16) = PV.int .u32 ((sm / 65536 : Nat) : Int)
     congr 1
    ·exact iy eU (g0 + 1) 180 1 0 L (UInt16.ofNat sm)
   ·have := of_decide_eq_false h;rw [hBl] at this;omega
  ·have hst := my (y := 0) hI hx (by rw [cO (by omega),cO (by omega)];omega) (by omega)
   rw [Nat.add_zero] at hst
   generalize hs : c + x.toNat = sm at *
   repeat refine ac rfl ?_
   refine ae rfl ?_ ?_<;>intro h
   ·have := of_decide_eq_true h;rw [hBl] at this;omega
   ·clear h
    repeat refine ac rfl ?_
    rw [wrap_u16]
    repeat refine ac rfl ?_
    refine bx rfl rfl (da rfl rfl rfl rfl rfl rfl rfl rfl rfl rfl (by repeat' constructor) rfl) ?_
    refine ay (bC 0 rfl rfl rfl rfl rfl rfl rfl rfl rfl rfl rfl (by repeat' constructor) (by intro row hr;first | (simp at hr;subst hr;rfl) | simp at hr) rfl rfl (by simp;omega) (by simp;omega) ?_)
    repeat refine ac rfl ?_
    refine ⟨(k + 1,L ++ [UInt16.ofNat sm],sm / 65536),hst,by simp only;omega,rfl,?_,?_,rfl,rfl,bG (by omega) (by omega),?_,trivial⟩
    ·exact jU eU 19 (g0 + 1) L (UInt16.ofNat sm)
    ·show PV.int .u32 ((sm : Int) / 2 ^ 16) = PV.int .u32 ((sm / 65536 : Nat) : Int)
     congr 1
    ·exact iy eU (g0 + 1) 180 1 0 L (UInt16.ofNat sm)
 ·have hge : k = A.length := by have := of_decide_eq_false h;omega
  subst hge
  clear h
  have hv := hI.v
  simp only at hv
  rw [List.take_length,cO hle] at hv
  have hfin : aG (L ++ [UInt16.ofNat c]) = ao (nv a + nv b) := by
   rw [aG,j0,aL,Nat.mod_eq_of_lt (by omega),hLl,hv,hsum]
  have ht := bN (L ++ [UInt16.ofNat c]) (by simp;omega)
  rw [hfin] at ht
  ((repeat ((fail_if_success (with_reducible refine aP 14 ?_));refine cF rfl ?_));refine aE 5 ?_)
  repeat refine ac rfl ?_
  rw [wrap_u16]
  refine bx rfl rfl (da rfl rfl rfl rfl rfl rfl rfl rfl rfl rfl (by repeat' constructor) rfl) ?_
  refine ay (bC 0 rfl rfl rfl rfl rfl rfl rfl rfl rfl rfl rfl (by repeat' constructor) (by intro row hr;first | (simp at hr;subst hr;rfl) | simp at hr) rfl rfl (by simp;omega) (by simp;omega) ?_)
  repeat refine ac rfl ?_
  refine aV rfl (cy (Ghost.takeF (enc := eU) (t := 54) (L ++ [UInt16.ofNat c]) rfl rfl (by rw [List.map_append];rfl) rfl (fun _ => rfl)) ?_)
  (refine iM (c_ rfl (ht) rfl ?_ rfl) ?_;·repeat' constructor)
  refine aJ ?_
  repeat refine ac rfl ?_
  exact eM rfl rfl rfl trivial rfl
structure MinI (A B : List UInt16) (q : Nat × List UInt16 × Nat) : Prop where
 k : q.1 ≤ A.length
 l : q.2.1.length = A.length
 c : q.2.2 ≤ 1
 v : nv (q.2.1.take q.1) + nv (B.take q.1) = nv (A.take q.1) + 65536 ^ q.1 * q.2.2
theorem uW {A B : List UInt16} {k : Nat} {R : List UInt16} {c y : Nat} {x : UInt16} (h : MinI A B (k,R,c)) (hx : A[k]? = some x) (hy : nv (B.take (k + 1)) = nv (B.take k) + 65536 ^ k * y) (hy2 : y < 65536) :
  MinI A B (k + 1,R.set k (UInt16.ofNat (x.toNat + (if x.toNat < c + y then 65536 else 0) - (c + y))),if x.toNat < c + y then 1 else 0) := by
 obtain ⟨h1,h2,h3,h4⟩ := h
 simp only at h1 h2 h3 h4
 have hk := (List.getElem?_eq_some_iff.1 hx).1
 have hx2 := aQ x
 refine ⟨hk,by simp [h2],by simp only;split <;> omega,?_⟩
 simp only
 obtain ⟨r,hr⟩ : ∃ r,R[k]? = some r := ⟨R[k],List.getElem?_eq_getElem (by omega)⟩
 have e1 : nv ((R.set k (UInt16.ofNat (x.toNat + (if x.toNat < c + y then 65536 else 0) - (c + y)))).take (k + 1)) = nv (R.take k) + 65536 ^ k * (x.toNat + (if x.toNat < c + y then 65536 else 0) - (c + y)) := by
  rw [cf (List.getElem?_set_self (by omega)),h_ (Nat.le_refl _),aL,Nat.mod_eq_of_lt (by split <;> omega)]
 rw [e1,cf hx,hy,Nat.pow_succ]
 generalize 65536 ^ k = W at *
 split
 ·rename_i hlt
  have : W * (x.toNat + 65536 - (c + y)) + W * c + W * y = W * x.toNat + W * 65536 := by rw [← Nat.mul_add,← Nat.mul_add,← Nat.mul_add];congr 1;omega
  omega
 ·rename_i hlt
  have : W * (x.toNat + 0 - (c + y)) + W * c + W * y = W * x.toNat := by rw [← Nat.mul_add,← Nat.mul_add];congr 1;omega
  omega
theorem xA {A B : List UInt16} {R : List UInt16} {c : Nat} (h : MinI A B (A.length,R,c)) (hle : nv B ≤ nv A) : nv R = nv A - nv B := by
 obtain ⟨h1,h2,h3,h4⟩ := h
 simp only at h1 h2 h3 h4
 rw [List.take_length,List.take_of_length_le (by omega)] at h4
 have hA := bB A
 have hR := bB R
 rw [h2] at hR
 rcases Nat.lt_or_ge B.length A.length with hb | hb
 ·rw [cO (by omega)] at h4
  generalize 65536 ^ A.length = W at *
  have : c = 0 := by
   rcases Nat.eq_zero_or_pos c with h | h
   ·exact h
   ·have : c = 1 := by omega
    subst this
    omega
  subst this
  omega
 ·have hs := bU B A.length hb
  generalize 65536 ^ A.length = W at *
  have hz : nv (B.drop A.length) = 0 := by
   rcases Nat.eq_zero_or_pos (nv (B.drop A.length)) with h | h
   ·exact h
   ·have := Nat.mul_le_mul_left W h
    omega
  rw [hz] at hs
  have : c = 0 := by
   rcases Nat.eq_zero_or_pos c with h | h
   ·exact h
   ·have : c = 1 := by omega
    subst this
    omega
  subst this
  omega
theorem jb {R : List UInt16} {i : Nat} (h : i < R.length) : ∃ r,(R.map eU)[i]? = some (eU r) := by
 obtain ⟨r,hr⟩ := aM h
 exact ⟨r,by rw [List.getElem?_map,hr];rfl⟩
theorem ij (n : Nat) : List.replicate n [PV.int .u16 0] = (List.replicate n (0 : UInt16)).map eU := by rw [List.map_replicate];rfl
set_option maxRecDepth 20000 in
theorem mj (a b : List UInt16) (ha : a.length ≤ 100000000) (hb : b.length ≤ 100000000) (hle : nv b ≤ nv a) : Ret Tryz.prog .shared 190 [.sl (a.map eU),.sl (b.map eU)] (.sl ((ao (nv a - nv b)).map eU)) := by
 have hal : (a.map eU).length = a.length := by simp
 have hbl : (b.map eU).length = b.length := by simp
 refine Ret.of_pwp layOk mixed Go.Proofs.Tryz.func190 rfl (by decide) rfl rfl ?_
 repeat refine ac rfl ?_
 refine ay (fi rfl rfl rfl rfl rfl rfl rfl rfl (by omega) (by show (2 : Int) * _ ≤ _;omega) (by omega) ?_)
 rw [show (((a.map eU).length : Nat) : Int).toNat = a.length by omega,ij]
 repeat refine ac rfl ?_
 refine ax (MinI a b) (fun q => [(1,.sl (b.map eU)),(5,.als 12 1 0 (q.2.1.map eU).length),(6,.int .u32 (q.2.2 : Nat)),(13,.sl (a.map eU)),(14,I a.length),(15,I q.1)])
  (fun q => [(12,1,⟨180,1,q.2.1.map eU,0⟩)]) (fun q => a.length - q.1) (0,List.replicate a.length 0,0) ⟨Nat.zero_le _,by simp,Nat.zero_le _,by simp [nv]⟩ ⟨rfl,rfl,rfl,rfl,?_,rfl,rfl,trivial⟩ ?_
 ·show I ((a.map eU).length) = _
  rw [hal]
 rintro ⟨k,R,c⟩ s2 hI
 have hk := hI.k
 have hc := hI.c
 have hRl := hI.l
 simp only at hk hc hRl
 dsimp only
 repeat refine ac rfl ?_
 refine ae rfl ?_ ?_<;>intro h
 ·have hlt : k < a.length := by have := of_decide_eq_true h;omega
  clear h
  obtain ⟨x,hx⟩ := aM hlt
  have hxl := aQ x
  obtain ⟨r,hr⟩ := jb (R := R) (i := k) (by omega)
  obtain ⟨y,hyl,hy,hyb⟩ : ∃ y : Nat,y < 65536 ∧ nv (b.take (k + 1)) = nv (b.take k) + 65536 ^ k * y ∧ (if k < b.length then ∃ u : UInt16,b[k]? = some u ∧ u.toNat = y else y = 0) := by
   by_cases hb : k < b.length
   ·obtain ⟨u,hu⟩ := aM hb
    exact ⟨u.toNat,aQ u,cf hu,by rw [if_pos hb];exact ⟨u,hu,rfl⟩⟩
   ·exact ⟨0,by decide,by rw [cO (by omega),cO (by omega)];omega,by rw [if_neg hb]⟩
  have hst := uW hI hx hy hyl
  have e0 : IntKind.u32.wrap (x.toNat : Int) = (x.toNat : Int) := wrap_u32 (by omega) (by omega)
  repeat refine ac rfl ?_
  refine bm rfl rfl rfl rfl rfl rfl rfl hx rfl ?_
  repeat refine ac rfl ?_
  refine nC [(1,.sl (b.map eU)),(5,.als 12 1 0 (R.map eU).length),(6,.int .u32 (c : Nat)),(7,I k),(8,.int .u16 x.toNat),(9,.int .u32 ((c + y : Nat) : Int)),(13,.sl (a.map eU)),(14,I a.length),(15,I k)] [(12,1,⟨180,1,R.map eU,0⟩)] ?_ (fun s3 => ?_)
  ·refine ae rfl ?_ ?_<;>intro h
   ·have hb : k < b.length := by have := of_decide_eq_true h;rw [hbl] at this;omega
    clear h
    rw [if_pos hb] at hyb
    obtain ⟨u,hu,rfl⟩ := hyb
    have e1 : IntKind.u32.wrap ((c : Int) + IntKind.u32.wrap (u.toNat : Int)) = ((c + u.toNat : Nat) : Int) := by rw [wrap_u32 (n := (u.toNat : Int)) (by omega) (by omega),wrap_u32 (by omega) (by omega)];omega
    repeat refine ac rfl ?_
    refine bm rfl rfl rfl rfl rfl rfl rfl hu rfl ?_
    repeat refine ac rfl ?_
    rw [e1]
    exact ⟨rfl,rfl,rfl,rfl,rfl,rfl,rfl,rfl,rfl,rfl,trivial⟩
   ·have hb : ¬ k < b.length := by have := of_decide_eq_false h;rw [hbl] at this;omega
    clear h
    rw [if_neg hb] at hyb
    subst hyb
    repeat refine ac rfl ?_
    exact ⟨rfl,rfl,rfl,rfl,rfl,rfl,rfl,rfl,rfl,rfl,trivial⟩
  by_cases hlt2 : x.toNat < c + y
  ·rw [if_pos hlt2,if_pos hlt2] at hst
   have e2 : IntKind.u16.wrap (IntKind.u32.wrap (IntKind.u32.wrap ((x.toNat : Int) + IntKind.u32.wrap ((1 : Int) * 2 ^ (16 : Int).toNat)) - ((c + y : Nat) : Int))) = ((UInt16.ofNat (x.toNat + 65536 - (c + y))).toNat : Int) := by
    rw [show IntKind.u32.wrap ((1 : Int) * 2 ^ (16 : Int).toNat) = 65536 by decide,wrap_u32 (n := (x.toNat : Int) + 65536) (by omega) (by omega),wrap_u32 (by omega) (by omega),← wrap_u16]
    congr 1;omega
   repeat refine ac rfl ?_
   rw [e0]
   repeat refine ac rfl ?_
   refine ae rfl ?_ ?_<;>intro h
   ·clear h
    repeat refine ac rfl ?_
    rw [e0]
    repeat refine ac rfl ?_
    rw [e2]
    refine bx rfl rfl (bc rfl rfl rfl rfl rfl rfl rfl (by omega) (by rw [List.length_map];omega)) ?_
    rw [Int.toNat_natCast,Nat.zero_add k]
    refine bJ (bI (kd' := 0) rfl rfl rfl hr rfl rfl (by repeat' constructor) rfl rfl rfl rfl ?_)
    repeat refine ac rfl ?_
    refine ⟨(k + 1,_,_),hst,by simp only;omega,rfl,?_,rfl,rfl,rfl,bG (by omega) (by omega),?_,trivial⟩
    ·show PV.als 12 1 0 _ = PV.als 12 1 0 _
     rw [List.length_map,List.length_map,List.length_set]
    ·refine Eq.trans (b := (1,some (Cont.mk 180 1 ((R.map eU).set k (eU (UInt16.ofNat (x.toNat + 65536 - (c + y))))) 0))) rfl ?_
     rw [dT]
   ·have := of_decide_eq_false h;omega
  ·rw [if_neg hlt2,if_neg hlt2] at hst
   have e2 : IntKind.u16.wrap (IntKind.u32.wrap (IntKind.u32.wrap ((x.toNat : Int) + IntKind.u32.wrap ((0 : Int) * 2 ^ (16 : Int).toNat)) - ((c + y : Nat) : Int))) = ((UInt16.ofNat (x.toNat + 0 - (c + y))).toNat : Int) := by
    rw [show IntKind.u32.wrap ((0 : Int) * 2 ^ (16 : Int).toNat) = 0 by decide,wrap_u32 (n := (x.toNat : Int) + 0) (by omega) (by omega),wrap_u32 (by omega) (by omega),← wrap_u16]
    congr 1;omega
   repeat refine ac rfl ?_
   rw [e0]
   repeat refine ac rfl ?_
   refine ae rfl ?_ ?_<;>intro h
   ·have := of_decide_eq_true h;omega
   ·clear h
    repeat refine ac rfl ?_
    rw [e0]
    repeat refine ac rfl ?_
    rw [e2]
    refine bx rfl rfl (bc rfl rfl rfl rfl rfl rfl rfl (by omega) (by rw [List.length_map];omega)) ?_
    rw [Int.toNat_natCast,Nat.zero_add k]
    refine bJ (bI (kd' := 0) rfl rfl rfl hr rfl rfl (by repeat' constructor) rfl rfl rfl rfl ?_)
    repeat refine ac rfl ?_
    refine ⟨(k + 1,_,_),hst,by simp only;omega,rfl,?_,rfl,rfl,rfl,bG (by omega) (by omega),?_,trivial⟩
    ·show PV.als 12 1 0 _ = PV.als 12 1 0 _
     rw [List.length_map,List.length_map,List.length_set]
    ·refine Eq.trans (b := (1,some (Cont.mk 180 1 ((R.map eU).set k (eU (UInt16.ofNat (x.toNat + 0 - (c + y))))) 0))) rfl ?_
     rw [dT]
 ·have hge : k = a.length := by have := of_decide_eq_false h;omega
  subst hge
  clear h
  have hfin : aG R = ao (nv a - nv b) := by rw [aG,xA hI hle]
  have ht := bN R (by omega)
  rw [hfin] at ht
  ((repeat ((fail_if_success (with_reducible refine aP 14 ?_));refine cF rfl ?_));refine aE 1 ?_)
  repeat refine ac rfl ?_
  refine aV rfl (cy (Ghost.takeF (enc := eU) (t := 48) (R) rfl rfl (rfl) rfl (fun _ => rfl)) ?_)
  (refine iM (c_ rfl (ht) rfl ?_ rfl) ?_;·repeat' constructor)
  refine aJ ?_
  repeat refine ac rfl ?_
  exact eM rfl rfl rfl trivial rfl
theorem mY (k g i : Nat) (R : List UInt16) (y : UInt16) : PV.als k g 0 (((R.map eU).set i (eU y))).length = PV.als k g 0 ((R.set i y).map eU).length := by simp
theorem cz (g T sz kd i : Nat) (R : List UInt16) (y : UInt16) : (g,some (Cont.mk T sz ((R.map eU).set i (eU y)) kd)) = (g,some (Cont.mk T sz ((R.set i y).map eU) kd)) := by rw [dT]
structure TimO (A B : List UInt16) (q : Nat × List UInt16) : Prop where
 i : q.1 ≤ A.length
 l : q.2.length = A.length + B.length
 v : nv (q.2.take (q.1 + B.length)) = nv (A.take q.1) * nv B
structure TimI (A B : List UInt16) (i x : Nat) (q : Nat × List UInt16 × Nat) : Prop where
 k : q.1 ≤ B.length
 l : q.2.1.length = A.length + B.length
 c : q.2.2 < 65536
 v : nv (q.2.1.take (i + B.length)) + 65536 ^ (i + q.1) * q.2.2 = nv (A.take i) * nv B + 65536 ^ i * (x * nv (B.take q.1))
theorem oT {x y : Nat} (hx : x < 65536) (hy : y < 65536) : x * y ≤ 4294836225 := by
 have := Nat.mul_le_mul (show x ≤ 65535 by omega) (show y ≤ 65535 by omega)
 omega
theorem wE {A B : List UInt16} {i x k : Nat} {R : List UInt16} {c : Nat} {y r : UInt16} (h : TimI A B i x (k,R,c)) (hx : x < 65536) (hy : B[k]? = some y) (hr : R[i + k]? = some r) :
  TimI A B i x (k + 1,R.set (i + k) (UInt16.ofNat (c + (x * y.toNat + r.toNat))),(c + (x * y.toNat + r.toNat)) / 65536) := by
 obtain ⟨h1,h2,h3,h4⟩ := h
 simp only at h1 h2 h3 h4
 have hk := (List.getElem?_eq_some_iff.1 hy).1
 have hyl := aQ y
 have hrl := aQ r
 have hm := oT hx hyl
 refine ⟨hk,by simp [h2],by simp only;omega,?_⟩
 simp only
 have hs := ra (t := i + B.length) hr (by omega) (UInt16.ofNat (c + (x * y.toNat + r.toNat)))
 rw [aL] at hs
 rw [cf hy,show i + (k + 1) = (i + k) + 1 by omega,Nat.pow_succ]
 have e := Nat.mod_add_div (c + (x * y.toNat + r.toNat)) 65536
 generalize (c + (x * y.toNat + r.toNat)) % 65536 = m at *
 generalize (c + (x * y.toNat + r.toNat)) / 65536 = d at *
 have e2 : 65536 ^ i * (x * (nv (B.take k) + 65536 ^ k * y.toNat)) = 65536 ^ i * (x * nv (B.take k)) + 65536 ^ (i + k) * (x * y.toNat) := by
  rw [Nat.mul_add,Nat.mul_add,Nat.pow_add]
  congr 1
  simp only [Nat.mul_assoc,Nat.mul_left_comm,Nat.mul_comm]
 rw [e2]
 generalize 65536 ^ (i + k) = W at *
 have e3 : W * (m + 65536 * d) = W * (c + (x * y.toNat + r.toNat)) := by rw [e]
 simp only [Nat.mul_add] at e3
 rw [Nat.mul_assoc]
 omega
theorem wD {A B : List UInt16} {i : Nat} {x r : UInt16} {R : List UInt16} {c : Nat} (hx : A[i]? = some x) (h : TimI A B i x.toNat (B.length,R,c)) (hr : R[i + B.length]? = some r) : TimO A B (i + 1,R.set (i + B.length) (UInt16.ofNat c)) := by
 obtain ⟨h1,h2,h3,h4⟩ := h
 simp only at h1 h2 h3 h4
 have hk := (List.getElem?_eq_some_iff.1 hx).1
 refine ⟨hk,by simp [h2],?_⟩
 simp only
 rw [show i + 1 + B.length = i + B.length + 1 by omega,cf (List.getElem?_set_self (by omega)),h_ (Nat.le_refl _),aL,Nat.mod_eq_of_lt h3,h4,List.take_length,cf hx,Nat.add_mul,Nat.mul_assoc]
theorem ye {A B R : List UInt16} (h : TimO A B (A.length,R)) : nv R = nv A * nv B := by
 have h1 := h.l
 have h2 := h.v
 simp only at h1 h2
 rwa [List.take_length,List.take_of_length_le (by omega)] at h2
set_option maxRecDepth 20000 in
theorem tA (a b : List UInt16) (ha : a.length ≤ 100000000) (hb : b.length ≤ 100000000) : Ret Tryz.prog .shared 187 [.sl (a.map eU),.sl (b.map eU)] (.sl ((ao (nv a * nv b)).map eU)) := by
 have hal : (a.map eU).length = a.length := by simp
 have hbl : (b.map eU).length = b.length := by simp
 have hw0 : IntKind.i64.wrap ((((a.map eU).length : Nat) : Int) + (((b.map eU).length : Nat) : Int)) = ((a.length + b.length : Nat) : Int) := by rw [hal,hbl,wrap_i64 (by omega) (by omega)];omega
 refine Ret.of_pwp layOk mixed Go.Proofs.Tryz.func187 rfl (by decide) rfl rfl ?_
 repeat refine ac rfl ?_
 rw [hw0]
 refine ay (fi rfl rfl rfl rfl rfl rfl rfl rfl (by omega) (by show (2 : Int) * _ ≤ _;omega) (by omega) ?_)
 rw [Int.toNat_natCast,ij]
 repeat refine ac rfl ?_
 refine ax (TimO a b) (fun q => [(1,.sl (b.map eU)),(5,.als 16 1 0 (q.2.map eU).length),(17,.sl (a.map eU)),(18,I a.length),(19,I q.1)])
  (fun q => [(16,1,⟨180,1,q.2.map eU,0⟩)]) (fun q => a.length - q.1) (0,List.replicate (a.length + b.length) 0) ⟨Nat.zero_le _,by simp,by simp [nv];exact nz _⟩ ⟨rfl,rfl,rfl,?_,rfl,rfl,trivial⟩ ?_
 ·show I ((a.map eU).length) = _
  rw [hal]
 rintro ⟨i,R⟩ s1 hO
 have hi := hO.i
 have hRl := hO.l
 have hOv := hO.v
 simp only at hi hRl hOv
 dsimp only
 repeat refine ac rfl ?_
 refine ae rfl ?_ ?_<;>intro h
 ·have hlt : i < a.length := by have := of_decide_eq_true h;omega
  clear h
  obtain ⟨x,hx⟩ := aM hlt
  have hxl := aQ x
  have ex : IntKind.u32.wrap (x.toNat : Int) = (x.toNat : Int) := wrap_u32 (by omega) (by omega)
  repeat refine ac rfl ?_
  refine bm rfl rfl rfl rfl rfl rfl rfl hx rfl ?_
  repeat refine ac rfl ?_
  refine ax (TimI a b i x.toNat) (fun q => [(1,.sl (b.map eU)),(5,.als 16 1 0 (q.2.1.map eU).length),(6,I i),(7,.int .u16 x.toNat),(8,.int .u32 (q.2.2 : Nat)),(17,.sl (a.map eU)),(18,I a.length),(19,I i),(24,.sl (b.map eU)),(25,I b.length),(26,I q.1)])
   (fun q => [(16,1,⟨180,1,q.2.1.map eU,0⟩)]) (fun q => b.length - q.1) (0,R,0) ⟨Nat.zero_le _,hRl,Nat.zero_lt_succ _,by simp [nv];exact hOv⟩ ⟨rfl,rfl,rfl,rfl,rfl,rfl,rfl,rfl,rfl,?_,rfl,rfl,trivial⟩ ?_
  ·show I ((b.map eU).length) = _
   rw [hbl]
  rintro ⟨k,Q,c⟩ s2 hI
  have hk := hI.k
  have hQl := hI.l
  have hc := hI.c
  simp only at hk hQl hc
  dsimp only
  repeat refine ac rfl ?_
  refine ae rfl ?_ ?_<;>intro h
  ·have hlt2 : k < b.length := by have := of_decide_eq_true h;omega
   clear h
   obtain ⟨y,hy⟩ := aM hlt2
   obtain ⟨r,hr⟩ := aM (show i + k < Q.length by omega)
   have hr2 : (Q.map eU)[i + k]? = some (eU r) := by rw [List.getElem?_map,hr];rfl
   have hst := wE hI hxl hy hr
   have hyl := aQ y
   have hrl := aQ r
   have hm := oT hxl hyl
   have hmi : (x.toNat : Int) * (y.toNat : Int) = ((x.toNat * y.toNat : Nat) : Int) := by rw [Int.natCast_mul]
   have ey : IntKind.u32.wrap (y.toNat : Int) = (y.toNat : Int) := wrap_u32 (by omega) (by omega)
   have er : IntKind.u32.wrap (r.toNat : Int) = (r.toNat : Int) := wrap_u32 (by omega) (by omega)
   have e1 : IntKind.u32.wrap ((c : Int) + IntKind.u32.wrap (IntKind.u32.wrap ((x.toNat : Int) * (y.toNat : Int)) + (r.toNat : Int))) = ((c + (x.toNat * y.toNat + r.toNat) : Nat) : Int) := by
    rw [hmi,wrap_u32 (n := ((x.toNat * y.toNat : Nat) : Int)) (by omega) (by omega),wrap_u32 (n := ((x.toNat * y.toNat : Nat) : Int) + (r.toNat : Int)) (by omega) (by omega),wrap_u32 (by omega) (by omega)];omega
   have ei : IntKind.i64.wrap ((i : Int) + (k : Int)) = ((i + k : Nat) : Int) := by rw [wrap_i64 (by omega) (by omega)];omega
   generalize hsm : c + (x.toNat * y.toNat + r.toNat) = sm at *
   repeat refine ac rfl ?_
   refine bm rfl rfl rfl rfl rfl rfl rfl hy rfl ?_
   repeat refine ac rfl ?_
   rw [ex]
   repeat refine ac rfl ?_
   rw [ey]
   repeat refine ac rfl ?_
   rw [ei]
   refine bx rfl rfl (bc rfl rfl rfl rfl rfl rfl rfl (by omega) (by rw [List.length_map];omega)) ?_
   rw [Int.toNat_natCast,Nat.zero_add (i + k)]
   refine bx rfl rfl (di rfl rfl rfl hr2 rfl) ?_
   repeat refine ac rfl ?_
   rw [er]
   repeat refine ac rfl ?_
   rw [e1]
   repeat refine ac rfl ?_
   rw [ei]
   repeat refine ac rfl ?_
   rw [wrap_u16]
   refine bx rfl rfl (bc rfl rfl rfl rfl rfl rfl rfl (by omega) (by rw [List.length_map];omega)) ?_
   rw [Int.toNat_natCast,Nat.zero_add (i + k)]
   refine bJ (bI (kd' := 0) rfl rfl rfl hr2 rfl rfl (by repeat' constructor) rfl rfl rfl rfl ?_)
   repeat refine ac rfl ?_
   refine ⟨(k + 1,_,_),hst,by simp only;omega,rfl,?_,rfl,rfl,?_,rfl,rfl,rfl,rfl,rfl,bG (by omega) (by omega),?_,trivial⟩
   ·exact mY 16 1 (i + k) Q (UInt16.ofNat sm) |> fun h => by
     show PV.als 16 1 0 (Q.map eU).length = _
     rw [← h,List.length_set]
   ·show PV.int .u32 ((sm : Int) / 2 ^ 16) = PV.int .u32 ((sm / 65536 : Nat) : Int)
    congr 1
   ·exact cz 1 180 1 0 (i + k) Q (UInt16.ofNat sm)
  ·have hge : k = b.length := by have := of_decide_eq_false h;omega
   subst hge
   clear h
   obtain ⟨r,hr⟩ := aM (show i + b.length < Q.length by omega)
   have hr2 : (Q.map eU)[i + b.length]? = some (eU r) := by rw [List.getElem?_map,hr];rfl
   have hst := wD hx hI hr
   have ei : IntKind.i64.wrap ((i : Int) + (((b.map eU).length : Nat) : Int)) = ((i + b.length : Nat) : Int) := by rw [hbl,wrap_i64 (by omega) (by omega)];omega
   repeat refine ac rfl ?_
   rw [ei]
   repeat refine ac rfl ?_
   rw [wrap_u16]
   refine bx rfl rfl (bc rfl rfl rfl rfl rfl rfl rfl (by omega) (by rw [List.length_map];omega)) ?_
   rw [Int.toNat_natCast,Nat.zero_add (i + b.length)]
   refine bJ (bI (kd' := 0) rfl rfl rfl hr2 rfl rfl (by repeat' constructor) rfl rfl rfl rfl ?_)
   repeat refine ac rfl ?_
   refine ⟨(i + 1,_),hst,by simp only;omega,rfl,?_,rfl,rfl,bG (by omega) (by omega),?_,trivial⟩
   ·show PV.als 16 1 0 (Q.map eU).length = _
    rw [← mY 16 1 (i + b.length) Q (UInt16.ofNat c),List.length_set]
   ·exact cz 1 180 1 0 (i + b.length) Q (UInt16.ofNat c)
 ·have hge : i = a.length := by have := of_decide_eq_false h;omega
  subst hge
  clear h
  have hfin : aG R = ao (nv a * nv b) := by rw [aG,ye hO]
  have ht := bN R (by omega)
  rw [hfin] at ht
  ((repeat ((fail_if_success (with_reducible refine aP 15 ?_));refine cF rfl ?_));refine aE 1 ?_)
  repeat refine ac rfl ?_
  refine aV rfl (cy (Ghost.takeF (enc := eU) (t := 65) (R) rfl rfl (rfl) rfl (fun _ => rfl)) ?_)
  (refine iM (c_ rfl (ht) rfl ?_ rfl) ?_;·repeat' constructor)
  refine aJ ?_
  repeat refine ac rfl ?_
  exact eM rfl rfl rfl trivial rfl
end Go.Pv
namespace Go.Pv
open Go.RowKit
theorem zO {P : Program} {w : World} {m : Sem Value} {v : Value} (h : m.run P w = .ok v w) : (do pure (Next.value (← m)) : Sem Next).run P w = .ok (.value v) w := by simp [h]
section
variable {P : Program} {L : Lay} {s : St}
theorem mK [Globs] {T T' : TypeId} {d : Nat} {x : Operand} {r : LRow} {E : TypeId} {ty : TypeId} {pos : String} {af : Array Edge} {rows : List (List PV)} {K : St → Prop} (hL : eG P L) (hr : L T = some r) (hs : r.sh = .sl E) (hx : s.ev x = .sl rows)
  (h1 : rows = [] → K (s.putR d (.bool true))) (h2 : K (s.putR d (.bool false))) : Sm P L s ⟨some d,.binOp .eql T x (.const (.slice none 0 0)) T',ty,pos,af,none⟩ K := by
 intro C a w Q hG ⟨γ,hs'⟩ hN
 have hv := hs'.ev x
 rw [hx] at hv
 have hu := ef (hL T r hr) hs
 have run : ∀ (v : Value) (b : Bool),a.eval x = v → ((v = .slice none 0 0 ∨ ∃ c,v = .slice none 0 c) ∧ b = true ∨ (∃ q n c,v = .slice (some q) n c) ∧ b = false) →
   (execOp a.eval ⟨some d,.binOp .eql T x (.const (.slice none 0 0)) T',ty,pos,af,none⟩).run P w = .ok (.value (.bool b)) w := by
  intro v b hv hb
  have e2 : a.eval (.const (.slice none 0 0)) = .slice none 0 0 := rfl
  simp only [execOp,hv,e2]
  refine zO ?_
  rcases hb with ⟨rfl | ⟨c,rfl⟩,rfl⟩ | ⟨⟨q,n,c,rfl⟩,rfl⟩
  ·have hg : eqGuard .eql T x (.const (.slice none 0 0)) (.slice none 0 0) (.slice none 0 0) = pure () := by cases x <;> rfl
   rw [hg]
   have h : ∀ d : Nat,(Op.equalIn (d + 1) T (.slice none 0 0) (.slice none 0 0)).run P w = .ok true w := fun d => by simp [Op.equalIn,run_underlying hu]
   simp only [Sem.run_bind,Sem.run_pure,Result.andThen_ok,binOp]
   simp [Op.equal,Op.maxDepth,h 9999]
  ·have hg : eqGuard .eql T x (.const (.slice none 0 0)) (.slice none 0 c) (.slice none 0 0) = pure () := by cases x <;> rfl
   rw [hg]
   have h : ∀ d : Nat,(Op.equalIn (d + 1) T (.slice none 0 c) (.slice none 0 0)).run P w = .ok true w := fun d => by simp [Op.equalIn,run_underlying hu]
   simp only [Sem.run_bind,Sem.run_pure,Result.andThen_ok,binOp]
   simp [Op.equal,Op.maxDepth,h 9999]
  ·have hg : eqGuard .eql T x (.const (.slice none 0 0)) (.slice (some q) n c) (.slice none 0 0) = pure () := by cases x <;> rfl
   rw [hg]
   have h : ∀ d : Nat,(Op.equalIn (d + 1) T (.slice (some q) n c) (.slice none 0 0)).run P w = .ok false w := fun d => by simp [Op.equalIn,run_underlying hu]
   simp only [Sem.run_bind,Sem.run_pure,Result.andThen_ok,binOp]
   simp [Op.equal,Op.maxDepth,h 9999]
 generalize hev : a.eval x = v0 at hv
 cases hv with
 |d hd =>
  cases hd with
  |sl0 q cap =>
   cases q with
   |none =>
    unfold Oper.wp
    rw [run _ true hev (.inl ⟨.inr ⟨_,rfl⟩,rfl⟩),Oper.upon_value]
    exact ⟨_,⟨_,hs'.put (d := some d) hN (.d (.bool _))⟩,h1 rfl⟩
   |some q =>
    unfold Oper.wp
    rw [run _ false hev (.inr ⟨⟨_,_,_,rfl⟩,rfl⟩),Oper.upon_value]
    exact ⟨_,⟨_,hs'.put (d := some d) hN (.d (.bool _))⟩,h2⟩
  |sl rows b off cap sz vals =>
   unfold Oper.wp
   rw [run _ false hev (.inr ⟨⟨_,_,_,rfl⟩,rfl⟩),Oper.upon_value]
   exact ⟨_,⟨_,hs'.put (d := some d) hN (.d (.bool _))⟩,h2⟩
end
theorem ic [Globs] {P : Program} {L : Lay} {Q : Exit → St → Prop} {s : St} (h : PWP P L .ret Q s) : PWP P L .ret Q s := h
end Go.Pv
set_option maxHeartbeats 2000000
namespace Go.Pv
attribute [local irreducible] PWP POps PQuiet PSem aC au aj ai
open Go.Proofs
theorem pr (a b : Nat) : (a : Int).tdiv (b : Int) = ((a / b : Nat) : Int) := rfl
theorem iY (a b : Nat) : (a : Int).tmod (b : Int) = ((a % b : Nat) : Int) := rfl
theorem AL {x y : Nat} (hx : x < 65536) (hy : y < 65536) : bits .or .u32 ((x * 65536 : Nat) : Int) (y : Int) = ((x * 65536 + y : Nat) : Int) := by
 rw [bits_join .u32 32 (by decide) wraps_u32 16 _ _ (by omega) (by omega) (by omega) (by omega) (by omega) (by omega)];omega
theorem zt {x y : Nat} (hx : x < 281474976710656) (hy : y < 65536) : bits .or .u64 ((x * 65536 : Nat) : Int) (y : Int) = ((x * 65536 + y : Nat) : Int) := by
 rw [bits_join .u64 64 (by decide) wraps_u64 16 _ _ (by omega) (by omega) (by omega) (by omega) (by omega) (by omega)];omega
theorem yL {x : Nat} (hx : x < 65536) : IntKind.u32.wrap ((x : Int) * 2 ^ (16 : Int).toNat) = ((x * 65536 : Nat) : Int) := by
 rw [show ((2 : Int) ^ (16 : Int).toNat) = 65536 by decide,wrap_u32 (by omega) (by omega)];omega
theorem wc {x : Nat} (hx : x < 281474976710656) : IntKind.u64.wrap ((x : Int) * 2 ^ (16 : Int).toNat) = ((x * 65536 : Nat) : Int) := by
 rw [show ((2 : Int) ^ (16 : Int).toNat) = 65536 by decide,wrap_u64 (by omega) (by omega)];omega
structure ShI (A : List UInt16) (b : Nat) (q : Nat × List UInt16 × Nat) : Prop where
 k : q.1 ≤ A.length
 l : q.2.1.length = A.length
 c : q.2.2 < b
 v : nv (A.drop q.1) = b * nv (q.2.1.drop q.1) + q.2.2
theorem lN {l : List UInt16} {i : Nat} {y : UInt16} (h : i < l.length) : (l.set i y).drop i = y :: l.drop (i + 1) := by
 have h1 : (l.set i y)[i]? = some y := List.getElem?_set_self h
 have h2 := List.drop_eq_getElem?_toList_append (l := l.set i y) (i := i)
 rw [h1] at h2
 rw [h2]
 show y :: (l.set i y).drop (i + 1) = _
 congr 1
 apply List.ext_getElem?;intro j
 rw [List.getElem?_drop,List.getElem?_drop,List.getElem?_set_ne (by omega)]
theorem x_ {A : List UInt16} {b j : Nat} {Q : List UInt16} {c : Nat} {x : UInt16} (h : ShI A b (j + 1,Q,c)) (hb : b < 65536) (hx : A[j]? = some x) :
  ShI A b (j,Q.set j (UInt16.ofNat ((c * 65536 + x.toNat) / b)),(c * 65536 + x.toNat) % b) := by
 obtain ⟨h1,h2,h3,h4⟩ := h
 simp only at h1 h2 h3 h4
 have hj := (List.getElem?_eq_some_iff.1 hx).1
 have hxl := aQ x
 refine ⟨by simp only;omega,by simp [h2],Nat.mod_lt _ (by omega),?_⟩
 simp only
 have hq : (c * 65536 + x.toNat) / b < 65536 := by
  rw [Nat.div_lt_iff_lt_mul (by omega)]
  have := Nat.mul_le_mul_right 65536 (show c + 1 ≤ b by omega)
  omega
 rw [c9 hx,h4,lN (by omega),nv,aL,Nat.mod_eq_of_lt hq,Nat.mul_add 65536,Nat.mul_add b]
 have e := Nat.div_add_mod (c * 65536 + x.toNat) b
 have e2 : b * (65536 * nv (Q.drop (j + 1))) = 65536 * (b * nv (Q.drop (j + 1))) := by rw [Nat.mul_left_comm]
 rw [e2]
 omega
set_option maxRecDepth 20000 in
theorem tk (a : List UInt16) (b : UInt16) (ha : a.length ≤ 100000000) (hb : 0 < b.toNat) : Ret Tryz.prog .shared 200 [.sl (a.map eU),.int .u16 b.toNat] (.tup [.sl ((ao (nv a / b.toNat)).map eU),.int .u16 ((nv a % b.toNat : Nat) : Int)]) := by
 have hal : (a.map eU).length = a.length := by simp
 have hbl := aQ b
 have hw0 : IntKind.i64.wrap (((((a.map eU).length : Nat) : Int)) - 1) = (a.length : Int) - 1 := by rw [hal,wrap_i64 (by omega) (by omega)]
 have eb : IntKind.u32.wrap (b.toNat : Int) = (b.toNat : Int) := wrap_u32 (by omega) (by omega)
 have hb0 : ¬ ((b.toNat : Nat) : Int) = 0 := by omega
 refine Ret.of_pwp layOk mixed Go.Proofs.Tryz.func200 rfl (by decide) rfl rfl ?_
 repeat refine ac rfl ?_
 refine ay (fi rfl rfl rfl rfl rfl rfl rfl rfl (by omega) (by show (2 : Int) * _ ≤ _;omega) (by omega) ?_)
 rw [show (((a.map eU).length : Nat) : Int).toNat = a.length by omega,ij]
 repeat refine ac rfl ?_
 rw [hw0]
 refine ax (ShI a b.toNat) (fun q => [(0,.sl (a.map eU)),(1,.int .u16 b.toNat),(6,.als 11 1 0 (q.2.1.map eU).length),(7,.int .u32 (q.2.2 : Nat)),(8,I ((q.1 : Int) - 1))])
  (fun q => [(11,1,⟨180,1,q.2.1.map eU,0⟩)]) (fun q => q.1) (a.length,List.replicate a.length 0,0) ⟨Nat.le_refl _,by simp,hb,by simp [nv]⟩ ⟨rfl,rfl,rfl,rfl,rfl,rfl,trivial⟩ ?_
 rintro ⟨k,Q,c⟩ s1 hI
 have hk := hI.k
 have hQl := hI.l
 have hc := hI.c
 simp only at hk hQl hc
 dsimp only
 repeat refine ac rfl ?_
 refine ae rfl ?_ ?_<;>intro h
 ·have hk0 : 0 < k := by have := of_decide_eq_true h;omega
  clear h
  obtain ⟨j,rfl⟩ : ∃ j,k = j + 1 := ⟨k - 1,by omega⟩
  have e1 : (((j + 1 : Nat) : Int) - 1) = (j : Nat) := by omega
  obtain ⟨x,hx⟩ := aM (show j < a.length by omega)
  have hxl := aQ x
  obtain ⟨r,hr⟩ := jb (R := Q) (i := j) (by omega)
  have hst := x_ hI hbl hx
  have hst2 := hst.c
  simp only at hst2
  have ex : IntKind.u32.wrap (x.toNat : Int) = (x.toNat : Int) := wrap_u32 (by omega) (by omega)
  have hsmb : c * 65536 + x.toNat < 4294967296 := by omega
  have hor := AL (x := c) (y := x.toNat) (by omega) hxl
  have hq : (c * 65536 + x.toNat) / b.toNat ≤ c * 65536 + x.toNat := Nat.div_le_self _ _
  rw [e1]
  repeat refine ac rfl ?_
  rw [yL (by omega)]
  refine bm rfl rfl rfl rfl rfl rfl rfl hx rfl ?_
  repeat refine ac rfl ?_
  rw [ex,hor]
  generalize c * 65536 + x.toNat = sm at *
  repeat refine ac rfl ?_
  rw [eb]
  refine gy rfl hb0 ?_
  rw [pr]
  generalize hqq : sm / b.toNat = qq at *
  rw [wrap_u32 (n := (qq : Int)) (by omega) (by omega)]
  repeat refine ac rfl ?_
  rw [wrap_u16]
  refine bx rfl rfl (bc rfl rfl rfl rfl rfl rfl rfl (by omega) (by rw [List.length_map];omega)) ?_
  rw [Int.toNat_natCast,Nat.zero_add j]
  refine bJ (bI (kd' := 0) rfl rfl rfl hr rfl rfl (by repeat' constructor) rfl rfl rfl rfl ?_)
  repeat refine ac rfl ?_
  rw [eb]
  refine gy rfl hb0 ?_
  rw [iY]
  repeat refine ac rfl ?_
  refine ⟨(j,_,_),hst,by simp only;omega,rfl,rfl,?_,rfl,?_,?_,trivial⟩
  ·show PV.als 11 1 0 (Q.map eU).length = _
   rw [← mY 11 1 j Q (UInt16.ofNat qq),List.length_set]
  ·exact congrArg I (wrap_i64 (by omega) (by omega))
  ·exact cz 1 180 1 0 j Q (UInt16.ofNat qq)
 ·have hge : k = 0 := by have := of_decide_eq_false h;omega
  subst hge
  clear h
  have hv := hI.v
  simp only [List.drop_zero] at hv
  have hd : nv a / b.toNat = nv Q ∧ nv a % b.toNat = c := by
   rw [hv,Nat.mul_add_div hb,Nat.mul_add_mod,Nat.div_eq_of_lt hc,Nat.mod_eq_of_lt hc];omega
  have ht := bN Q (by omega)
  rw [aG,← hd.1] at ht
  ((repeat ((fail_if_success (with_reducible refine aP 9 ?_));refine cF rfl ?_));refine aE 1 ?_)
  repeat refine ac rfl ?_
  refine aV rfl (cy (Ghost.takeF (enc := eU) (t := 39) (Q) rfl rfl (rfl) rfl (fun _ => rfl)) ?_)
  (refine iM (c_ rfl (ht) rfl ?_ rfl) ?_;·repeat' constructor)
  refine aJ ?_
  repeat refine ac rfl ?_
  rw [wrap_u16,aL,Nat.mod_eq_of_lt (show c < 65536 by omega),← hd.2]
  repeat refine ac rfl ?_
  exact pP rfl rfl rfl rfl rfl trivial trivial rfl
def fL : Nat → Nat → List UInt16
 |0,_ => []
 |k + 1,v => UInt16.ofNat v :: fL k (v / 65536)
theorem fM : ∀ k v,(fL k v).length = k
 |0,_ => rfl
 |k + 1,v => by rw [fL,List.length_cons,fM k]
theorem nh : ∀ k v,v < 65536 ^ k → nv (fL k v) = v
 |0,v,h => by simp at h;subst h;rfl
 |k + 1,v,h => by
  rw [fL,nv,aL,nh k (v / 65536) (by rw [Nat.pow_succ] at h;exact Nat.div_lt_of_lt_mul (by rw [Nat.mul_comm];exact h))]
  exact Nat.mod_add_div _ _
theorem ni : ∀ (l : List UInt16),l = fL l.length (nv l)
 |[] => rfl
 |x :: l => by
  have hx := aQ x
  rw [List.length_cons,fL,nv]
  have e1 : UInt16.ofNat (x.toNat + 65536 * nv l) = x := by apply lF;rw [aL];omega
  have e2 : (x.toNat + 65536 * nv l) / 65536 = nv l := by omega
  rw [e1,e2,← ni l]
structure SfI (A : List UInt16) (s : Nat) (q : Nat × List UInt16) : Prop where
 i : q.1 ≤ A.length
 l : q.2.length = A.length + 1
 r : (q.2.getD q.1 0).toNat < 2 ^ s
 v : nv (q.2.take (q.1 + 1)) = nv (A.take q.1) * 2 ^ s
theorem vX {x s : Nat} (hs : s ≤ 16) : (x * 2 ^ s % 65536) % 2 ^ s = 0 := by
 rw [show 65536 = 2 ^ s * 2 ^ (16 - s) by rw [← Nat.pow_add,show s + (16 - s) = 16 by omega]]
 rw [Nat.mod_mul_right_mod,Nat.mul_mod_left]
theorem rB {A : List UInt16} {s i : Nat} {R : List UInt16} {x : UInt16} (h : SfI A s (i,R)) (hs : s ≤ 16) (hx : A[i]? = some x) :
  ((R.getD i 0).toNat + x.toNat * 2 ^ s % 65536 < 65536) ∧ SfI A s (i + 1,(R.set i (UInt16.ofNat ((R.getD i 0).toNat + x.toNat * 2 ^ s % 65536))).set (i + 1) (UInt16.ofNat (x.toNat * 2 ^ s / 65536))) := by
 obtain ⟨h1,h2,h3,h4⟩ := h
 simp only at h1 h2 h3 h4
 have hk := (List.getElem?_eq_some_iff.1 hx).1
 have hxl := aQ x
 have hp : 0 < 2 ^ s := Nat.pow_pos (by decide)
 have hw : x.toNat * 2 ^ s / 65536 < 2 ^ s := by
  rw [Nat.div_lt_iff_lt_mul (by decide)]
  have := (Nat.mul_lt_mul_right hp).2 hxl
  rw [Nat.mul_comm (2 ^ s)];exact this
 have hp2 : 2 ^ s ≤ 65536 := Nat.pow_le_pow_right (n := 2) (by decide) hs
 have hlo := vX (x := x.toNat) hs
 have hd : 2 ^ s * 2 ^ (16 - s) = 65536 := by rw [← Nat.pow_add,show s + (16 - s) = 16 by omega]
 have hm := Nat.mod_lt (x.toNat * 2 ^ s) (show 65536 > 0 by decide)
 have hlt : (R.getD i 0).toNat + x.toNat * 2 ^ s % 65536 < 65536 := by
  generalize x.toNat * 2 ^ s % 65536 = m at *
  obtain ⟨c,hc⟩ := Nat.dvd_of_mod_eq_zero hlo
  have hc2 : c < 2 ^ (16 - s) := by
   rw [hc,← hd] at hm
   exact Nat.lt_of_mul_lt_mul_left hm
  have := Nat.mul_le_mul_left (2 ^ s) (show c + 1 ≤ 2 ^ (16 - s) by omega)
  rw [Nat.mul_add] at this
  omega
 have hRi : R[i]? = some (R.getD i 0) := bH (by omega)
 refine ⟨hlt,hk,by simp [h2],?_,?_⟩
 ·simp only
  rw [List.getD_eq_getElem?_getD,List.getElem?_set_self (by simp;omega)]
  show (UInt16.ofNat _).toNat < _
  rw [aL,Nat.mod_eq_of_lt (by omega)];exact hw
 ·simp only
  rw [cf (i := i + 1) (List.getElem?_set_self (by simp;omega)),h_ (Nat.le_refl _),aL,Nat.mod_eq_of_lt (a := x.toNat * 2 ^ s / 65536) (by omega)]
  have e1 := ra (t := i + 1) hRi (by omega) (UInt16.ofNat ((R.getD i 0).toNat + x.toNat * 2 ^ s % 65536))
  rw [aL,Nat.mod_eq_of_lt hlt,h4] at e1
  rw [cf hx,Nat.add_mul]
  have e2 := Nat.mod_add_div (x.toNat * 2 ^ s) 65536
  have e3 : 65536 ^ i * x.toNat * 2 ^ s = 65536 ^ i * (x.toNat * 2 ^ s % 65536) + 65536 ^ (i + 1) * (x.toNat * 2 ^ s / 65536) := by
   rw [Nat.pow_succ,Nat.mul_assoc,Nat.mul_assoc,← Nat.mul_add,e2]
  rw [e3]
  rw [Nat.mul_add] at e1
  omega
set_option maxRecDepth 20000 in
theorem pg (a : List UInt16) (s : Nat) (ha : a.length ≤ 100000000) (hs : s ≤ 16) : Ret Tryz.prog .fresh 202 [.sl (a.map eU),I s] (.sl ((fL (a.length + 1) (nv a * 2 ^ s)).map eU)) := by
 have hal : (a.map eU).length = a.length := by simp
 have hw0 : IntKind.i64.wrap (((((a.map eU).length : Nat) : Int)) + 1) = ((a.length + 1 : Nat) : Int) := by rw [hal,wrap_i64 (by omega) (by omega)];omega
 have hp2 : 2 ^ s ≤ 65536 := Nat.pow_le_pow_right (n := 2) (by decide) hs
 refine Ret.of_pwp layOk mixed Go.Proofs.Tryz.func202 rfl (by decide) rfl rfl ?_
 repeat refine ac rfl ?_
 rw [hw0]
 refine ay (fi rfl rfl rfl rfl rfl rfl rfl rfl (by omega) (by show (2 : Int) * _ ≤ _;omega) (by omega) ?_)
 rw [Int.toNat_natCast,ij]
 repeat refine ac rfl ?_
 refine ax (SfI a s) (fun q => [(1,I s),(5,.als 12 1 0 (q.2.map eU).length),(13,.sl (a.map eU)),(14,I a.length),(15,I q.1)])
  (fun q => [(12,1,⟨180,1,q.2.map eU,0⟩)]) (fun q => a.length - q.1) (0,List.replicate (a.length + 1) 0) ⟨Nat.zero_le _,by simp,by simp [List.getD_eq_getElem?_getD];exact Nat.pow_pos (by decide),by simp [nv]⟩ ⟨rfl,rfl,rfl,?_,rfl,rfl,trivial⟩ ?_
 ·show I ((a.map eU).length) = _
  rw [hal]
 rintro ⟨i,R⟩ s1 hI
 have hi := hI.i
 have hRl := hI.l
 have hrr := hI.r
 simp only at hi hRl hrr
 dsimp only
 repeat refine ac rfl ?_
 refine ae rfl ?_ ?_<;>intro h
 ·have hlt : i < a.length := by have := of_decide_eq_true h;omega
  clear h
  obtain ⟨x,hx⟩ := aM hlt
  have hxl := aQ x
  obtain ⟨hst0,hst⟩ := rB hI hs hx
  have hr : (R.map eU)[i]? = some (eU (R.getD i 0)) := by rw [List.getElem?_map,bH (by omega)];rfl
  generalize hrd : R.getD i 0 = r at *
  obtain ⟨r2,hr2⟩ := jb (R := R.set i (UInt16.ofNat (r.toNat + x.toNat * 2 ^ s % 65536))) (i := i + 1) (by simp;omega)
  have hlo := vX (x := x.toNat) hs
  have hwb : x.toNat * 2 ^ s < 4294967296 := by
   have := Nat.mul_le_mul (show x.toNat ≤ 65535 by omega) hp2
   omega
  have ex : IntKind.u32.wrap (x.toNat : Int) = (x.toNat : Int) := wrap_u32 (by omega) (by omega)
  have esh : IntKind.u32.wrap ((x.toNat : Int) * 2 ^ (s : Int).toNat) = ((x.toNat * 2 ^ s : Nat) : Int) := by
   rw [Int.toNat_natCast,show ((x.toNat : Int) * 2 ^ s) = ((x.toNat * 2 ^ s : Nat) : Int) by push_cast;rfl,wrap_u32 (by omega) (by omega)]
  have e16 : IntKind.u16.wrap ((x.toNat * 2 ^ s : Nat) : Int) = ((x.toNat * 2 ^ s % 65536 : Nat) : Int) := by rw [wrap_u16,aL]
  have hor : bits .or .u16 (r.toNat : Int) ((x.toNat * 2 ^ s % 65536 : Nat) : Int) = ((UInt16.ofNat (r.toNat + x.toNat * 2 ^ s % 65536)).toNat : Int) := by
   rw [bits_join_low .u16 16 (by decide) wraps_u16 s _ _ (by omega) (by exact_mod_cast hrr) (by have := aQ r;omega) (by omega) (by exact_mod_cast hlo) (by have := Nat.mod_lt (x.toNat * 2 ^ s) (show 65536 > 0 by decide);omega),aL,Nat.mod_eq_of_lt hst0];omega
  have ei : IntKind.i64.wrap ((i : Int) + 1) = ((i + 1 : Nat) : Int) := by rw [wrap_i64 (by omega) (by omega)];omega
  generalize x.toNat * 2 ^ s = w at *
  repeat refine ac rfl ?_
  refine bm rfl rfl rfl rfl rfl rfl rfl hx rfl ?_
  repeat refine ac rfl ?_
  rw [ex]
  repeat refine ac rfl ?_
  refine gy rfl (show (0 : Int) ≤ (s : Int) ∧ (s : Int) ≤ (IntKind.u32.bits : Nat) by constructor;omega;show (s : Int) ≤ 32;omega) ?_
  rw [esh]
  repeat refine ac rfl ?_
  refine bx rfl rfl (bc rfl rfl rfl rfl rfl rfl rfl (by omega) (by rw [List.length_map];omega)) ?_
  rw [Int.toNat_natCast,Nat.zero_add i]
  refine bx rfl rfl (di rfl rfl rfl hr rfl) ?_
  repeat refine ac rfl ?_
  rw [e16]
  repeat refine ac rfl ?_
  rw [hor]
  refine bx rfl rfl (bc rfl rfl rfl rfl rfl rfl rfl (by omega) (by rw [List.length_map];omega)) ?_
  rw [Int.toNat_natCast,Nat.zero_add i]
  refine bJ (bI (kd' := 0) rfl rfl rfl hr rfl rfl (by repeat' constructor) rfl rfl rfl rfl ?_)
  rw [show ((R.map eU).set i (iX (eU r) 0 ((PV.int IntKind.u16 ((UInt16.ofNat (r.toNat + w % 65536)).toNat : Int)).cells.map (df 0)))) = (R.set i (UInt16.ofNat (r.toNat + w % 65536))).map eU from dT _ _ _]
  repeat refine ac rfl ?_
  rw [ei]
  repeat refine ac rfl ?_
  rw [show IntKind.u16.wrap ((w : Int) / 2 ^ (16 : Int).toNat) = ((UInt16.ofNat (w / 65536)).toNat : Int) from wrap_u16 (w / 65536)]
  refine bx rfl rfl (bc rfl rfl rfl rfl rfl rfl rfl (by omega) (by rw [List.length_map];omega)) ?_
  rw [Int.toNat_natCast,Nat.zero_add (i + 1)]
  refine bJ (bI (kd' := 0) rfl rfl rfl hr2 rfl rfl (by repeat' constructor) rfl rfl rfl rfl ?_)
  repeat refine ac rfl ?_
  refine ⟨(i + 1,_),hst,by simp only;omega,rfl,?_,rfl,rfl,bG (by omega) (by omega),?_,trivial⟩
  ·show PV.als 12 1 0 (R.map eU).length = _
   simp
  ·exact cz 1 180 1 0 (i + 1) (R.set i (UInt16.ofNat (r.toNat + w % 65536))) (UInt16.ofNat (w / 65536))
 ·have hge : i = a.length := by have := of_decide_eq_false h;omega
  subst hge
  clear h
  have hv := hI.v
  simp only at hv
  rw [List.take_length,List.take_of_length_le (by omega)] at hv
  have hR : R = fL (a.length + 1) (nv a * 2 ^ s) := by rw [← hv,← hRl];exact ni R
  rw [← hR]
  repeat refine ac rfl ?_
  exact ox rfl rfl rfl ⟨rfl,rfl,rfl⟩ rfl
set_option maxRecDepth 20000 in
theorem nS (a : List UInt16) (s : Nat) (ha : a.length ≤ 100000000) (hs : s ≤ 16) : RetO Tryz.prog 202 [.sl (a.map eU),I s] 180 1 ((fL (a.length + 1) (nv a * 2 ^ s)).map eU) := by
 have hal : (a.map eU).length = a.length := by simp
 have hw0 : IntKind.i64.wrap (((((a.map eU).length : Nat) : Int)) + 1) = ((a.length + 1 : Nat) : Int) := by rw [hal,wrap_i64 (by omega) (by omega)];omega
 have hp2 : 2 ^ s ≤ 65536 := Nat.pow_le_pow_right (n := 2) (by decide) hs
 refine RetO.of_pwp layOk mixed Go.Proofs.Tryz.func202 rfl (by decide) rfl rfl ?_
 repeat refine ac rfl ?_
 rw [hw0]
 refine ay (fi rfl rfl rfl rfl rfl rfl rfl rfl (by omega) (by show (2 : Int) * _ ≤ _;omega) (by omega) ?_)
 rw [Int.toNat_natCast,ij]
 repeat refine ac rfl ?_
 refine ax (SfI a s) (fun q => [(1,I s),(5,.als 12 1 0 (q.2.map eU).length),(13,.sl (a.map eU)),(14,I a.length),(15,I q.1)])
  (fun q => [(12,1,⟨180,1,q.2.map eU,0⟩)]) (fun q => a.length - q.1) (0,List.replicate (a.length + 1) 0) ⟨Nat.zero_le _,by simp,by simp [List.getD_eq_getElem?_getD];exact Nat.pow_pos (by decide),by simp [nv]⟩ ⟨rfl,rfl,rfl,?_,rfl,rfl,trivial⟩ ?_
 ·show I ((a.map eU).length) = _
  rw [hal]
 rintro ⟨i,R⟩ s1 hI
 have hi := hI.i
 have hRl := hI.l
 have hrr := hI.r
 simp only at hi hRl hrr
 dsimp only
 repeat refine ac rfl ?_
 refine ae rfl ?_ ?_<;>intro h
 ·have hlt : i < a.length := by have := of_decide_eq_true h;omega
  clear h
  obtain ⟨x,hx⟩ := aM hlt
  have hxl := aQ x
  obtain ⟨hst0,hst⟩ := rB hI hs hx
  have hr : (R.map eU)[i]? = some (eU (R.getD i 0)) := by rw [List.getElem?_map,bH (by omega)];rfl
  generalize hrd : R.getD i 0 = r at *
  obtain ⟨r2,hr2⟩ := jb (R := R.set i (UInt16.ofNat (r.toNat + x.toNat * 2 ^ s % 65536))) (i := i + 1) (by simp;omega)
  have hlo := vX (x := x.toNat) hs
  have hwb : x.toNat * 2 ^ s < 4294967296 := by
   have := Nat.mul_le_mul (show x.toNat ≤ 65535 by omega) hp2
   omega
  have ex : IntKind.u32.wrap (x.toNat : Int) = (x.toNat : Int) := wrap_u32 (by omega) (by omega)
  have esh : IntKind.u32.wrap ((x.toNat : Int) * 2 ^ (s : Int).toNat) = ((x.toNat * 2 ^ s : Nat) : Int) := by
   rw [Int.toNat_natCast,show ((x.toNat : Int) * 2 ^ s) = ((x.toNat * 2 ^ s : Nat) : Int) by push_cast;rfl,wrap_u32 (by omega) (by omega)]
  have e16 : IntKind.u16.wrap ((x.toNat * 2 ^ s : Nat) : Int) = ((x.toNat * 2 ^ s % 65536 : Nat) : Int) := by rw [wrap_u16,aL]
  have hor : bits .or .u16 (r.toNat : Int) ((x.toNat * 2 ^ s % 65536 : Nat) : Int) = ((UInt16.ofNat (r.toNat + x.toNat * 2 ^ s % 65536)).toNat : Int) := by
   rw [bits_join_low .u16 16 (by decide) wraps_u16 s _ _ (by omega) (by exact_mod_cast hrr) (by have := aQ r;omega) (by omega) (by exact_mod_cast hlo) (by have := Nat.mod_lt (x.toNat * 2 ^ s) (show 65536 > 0 by decide);omega),aL,Nat.mod_eq_of_lt hst0];omega
  have ei : IntKind.i64.wrap ((i : Int) + 1) = ((i + 1 : Nat) : Int) := by rw [wrap_i64 (by omega) (by omega)];omega
  generalize x.toNat * 2 ^ s = w at *
  repeat refine ac rfl ?_
  refine bm rfl rfl rfl rfl rfl rfl rfl hx rfl ?_
  repeat refine ac rfl ?_
  rw [ex]
  repeat refine ac rfl ?_
  refine gy rfl (show (0 : Int) ≤ (s : Int) ∧ (s : Int) ≤ (IntKind.u32.bits : Nat) by constructor;omega;show (s : Int) ≤ 32;omega) ?_
  rw [esh]
  repeat refine ac rfl ?_
  refine bx rfl rfl (bc rfl rfl rfl rfl rfl rfl rfl (by omega) (by rw [List.length_map];omega)) ?_
  rw [Int.toNat_natCast,Nat.zero_add i]
  refine bx rfl rfl (di rfl rfl rfl hr rfl) ?_
  repeat refine ac rfl ?_
  rw [e16]
  repeat refine ac rfl ?_
  rw [hor]
  refine bx rfl rfl (bc rfl rfl rfl rfl rfl rfl rfl (by omega) (by rw [List.length_map];omega)) ?_
  rw [Int.toNat_natCast,Nat.zero_add i]
  refine bJ (bI (kd' := 0) rfl rfl rfl hr rfl rfl (by repeat' constructor) rfl rfl rfl rfl ?_)
  rw [show ((R.map eU).set i (iX (eU r) 0 ((PV.int IntKind.u16 ((UInt16.ofNat (r.toNat + w % 65536)).toNat : Int)).cells.map (df 0)))) = (R.set i (UInt16.ofNat (r.toNat + w % 65536))).map eU from dT _ _ _]
  repeat refine ac rfl ?_
  rw [ei]
  repeat refine ac rfl ?_
  rw [show IntKind.u16.wrap ((w : Int) / 2 ^ (16 : Int).toNat) = ((UInt16.ofNat (w / 65536)).toNat : Int) from wrap_u16 (w / 65536)]
  refine bx rfl rfl (bc rfl rfl rfl rfl rfl rfl rfl (by omega) (by rw [List.length_map];omega)) ?_
  rw [Int.toNat_natCast,Nat.zero_add (i + 1)]
  refine bJ (bI (kd' := 0) rfl rfl rfl hr2 rfl rfl (by repeat' constructor) rfl rfl rfl rfl ?_)
  repeat refine ac rfl ?_
  refine ⟨(i + 1,_),hst,by simp only;omega,rfl,?_,rfl,rfl,bG (by omega) (by omega),?_,trivial⟩
  ·show PV.als 12 1 0 (R.map eU).length = _
   simp
  ·exact cz 1 180 1 0 (i + 1) (R.set i (UInt16.ofNat (r.toNat + w % 65536))) (UInt16.ofNat (w / 65536))
 ·have hge : i = a.length := by have := of_decide_eq_false h;omega
  subst hge
  clear h
  have hv := hI.v
  simp only at hv
  rw [List.take_length,List.take_of_length_le (by omega)] at hv
  have hR : R = fL (a.length + 1) (nv a * 2 ^ s) := by rw [← hv,← hRl];exact ni R
  rw [← hR]
  repeat refine ac rfl ?_
  exact AI rfl rfl rfl rfl (by rw [List.all_eq_true];intro row hr;obtain ⟨y,_,rfl⟩ := List.mem_map.1 hr;rfl) rfl
def AW : List UInt8 := [0,1,2,2,3,3,3,3,4,4,4,4,4,4,4,4,5,5,5,5,5,5,5,5,5,5,5,5,5,5,5,5,6,6,6,6,6,6,6,6,6,6,6,6,6,6,6,6,6,6,6,6,6,6,6,6,6,6,6,6,6,6,6,6,7,7,7,7,7,7,7,7,7,7,7,7,7,7,7,7,7,7,7,7,7,7,7,7,7,7,7,7,7,7,7,7,7,7,7,7,7,7,7,7,7,7,7,7,7,7,7,7,7,7,7,7,7,7,7,7,7,7,7,7,7,7,7,7,8,8,8,8,8,8,8,8,8,8,8,8,8,8,8,8,8,8,8,8,8,8,8,8,8,8,8,8,8,8,8,8,8,8,8,8,8,8,8,8,8,8,8,8,8,8,8,8,8,8,8,8,8,8,8,8,8,8,8,8,8,8,8,8,8,8,8,8,8,8,8,8,8,8,8,8,8,8,8,8,8,8,8,8,8,8,8,8,8,8,8,8,8,8,8,8,8,8,8,8,8,8,8,8,8,8,8,8,8,8,8,8,8,8,8,8,8,8,8,8,8,8,8,8,8,8,8,8]
def tb (x : Nat) : Nat := (AW.getD x 0).toNat
theorem wB : ∀ x : Fin 256,x.val ≠ 0 → 1 ≤ tb x.val ∧ tb x.val ≤ 8 ∧ 2 ^ tb x.val ≤ 2 * x.val ∧ x.val < 2 ^ tb x.val := by decide +kernel
def gF (x : Nat) : Nat := if 256 ≤ x then 8 + tb (x / 256) else tb x
theorem oO {x : Nat} (h0 : x ≠ 0) (h : x < 65536) : 1 ≤ gF x ∧ gF x ≤ 16 ∧ 2 ^ gF x ≤ 2 * x ∧ x < 2 ^ gF x := by
 rw [gF]
 split
 ·have := wB ⟨x / 256,by omega⟩ (by show x / 256 ≠ 0;omega)
  simp only at this
  obtain ⟨h1,h2,h3,h4⟩ := this
  rw [Nat.pow_add,show 2 ^ 8 = 256 by decide]
  generalize 2 ^ tb (x / 256) = p at *
  generalize tb (x / 256) = t at *
  omega
 ·have := wB ⟨x,by omega⟩ h0
  simp only at this
  obtain ⟨h1,h2,h3,h4⟩ := this
  exact ⟨h1,by omega,h3,h4⟩
theorem yO {x : Nat} (h : x < 256) : tb x ≤ 8 := by
 by_cases h0 : x = 0
 ·subst h0;decide
 ·exact (wB ⟨x,h⟩ h0).2.1
set_option maxRecDepth 20000 in
theorem sM (x : UInt16) : Ret Tryz.prog .shared 218 [.int .u16 x.toNat] (I (gF x.toNat)) := by
 have hxl := aQ x
 rw [gF]
 by_cases hx : 256 ≤ x.toNat
 ·rw [if_pos hx]
  have ew : IntKind.u8.wrap ((x.toNat : Int) / 2 ^ (8 : Int).toNat) = ((x.toNat / 256 : Nat) : Int) := by
   rw [show ((2 : Int) ^ (8 : Int).toNat) = 256 by decide,IntKind.wrap_u8];omega
  have hb := yO (x := x.toNat / 256) (by omega)
  refine Ret.of_pwp layOk mixed Go.Proofs.Tryz.func218 rfl (by decide) rfl rfl ?_
  repeat refine ac rfl ?_
  refine ae rfl ?_ ?_<;>intro h
  ·repeat refine ac rfl ?_
   rw [ew]
   refine gy (pv := .int .u8 ((tb (x.toNat / 256) : Nat) : Int)) rfl (show (0 : Int) ≤ ((x.toNat / 256 : Nat) : Int) ∧ ((x.toNat / 256 : Nat) : Int) < ((256 : Nat) : Int) by omega) ?_
   generalize tb (x.toNat / 256) = t at *
   repeat refine ac rfl ?_
   rw [wrap_i64 (n := (t : Int)) (by omega) (by omega),wrap_i64 (by omega) (by omega),show (8 : Int) + (t : Int) = ((8 + t : Nat) : Int) by omega]
   repeat refine ac rfl ?_
   exact aO rfl rfl rfl
  ·have := of_decide_eq_false h;omega
 ·rw [if_neg hx]
  have ew : IntKind.u8.wrap (x.toNat : Int) = (x.toNat : Int) := by rw [IntKind.wrap_u8];omega
  have hb := yO (x := x.toNat) (by omega)
  refine Ret.of_pwp layOk mixed Go.Proofs.Tryz.func218 rfl (by decide) rfl rfl ?_
  repeat refine ac rfl ?_
  refine ae rfl ?_ ?_<;>intro h
  ·have := of_decide_eq_true h;omega
  ·repeat refine ac rfl ?_
   rw [ew]
   refine gy (pv := .int .u8 ((tb x.toNat : Nat) : Int)) rfl (show (0 : Int) ≤ (x.toNat : Int) ∧ (x.toNat : Int) < ((256 : Nat) : Int) by omega) ?_
   generalize tb x.toNat = t at *
   repeat refine ac rfl ?_
   rw [wrap_i64 (n := (t : Int)) (by omega) (by omega),wrap_i64 (by omega) (by omega),show (0 : Int) + (t : Int) = (t : Int) by omega]
   repeat refine ac rfl ?_
   exact aO rfl rfl rfl
theorem uS (x : UInt16) (h0 : x.toNat ≠ 0) : Ret Tryz.prog .shared 201 [.int .u16 x.toNat] (I ((16 - gF x.toNat : Nat) : Int)) := by
 have hl := oO h0 (aQ x)
 have hr := sM x
 generalize gF x.toNat = t at *
 refine Ret.of_pwp layOk mixed Go.Proofs.Tryz.func201 rfl (by decide) rfl rfl ?_
 repeat refine ac rfl ?_
 refine aT rfl rfl rfl hr rfl rfl rfl ?_
 repeat refine ac rfl ?_
 rw [wrap_i64 (by omega) (by omega),show (16 : Int) - (t : Int) = ((16 - t : Nat) : Int) by omega]
 exact aO rfl rfl rfl
def uw (R : List UInt16) (j m : Nat) : Nat := nv ((R.drop j).take m)
def ul (R : List UInt16) (i : Nat) : Nat := (R.getD i 0).toNat
theorem cm (R : List UInt16) (i : Nat) : ul R i < 65536 := aQ _
theorem i2 {R : List UInt16} {i : Nat} (h : i < R.length) : R[i]? = some (R.getD i 0) := bH h
theorem rP (R : List UInt16) (j : Nat) : uw R j 0 = 0 := by rw [uw,List.take_zero];rfl
theorem ct {R : List UInt16} {j m : Nat} (h : j + m < R.length) : uw R j (m + 1) = uw R j m + 65536 ^ m * ul R (j + m) := by
 have h1 : (R.drop j)[m]? = some (R.getD (j + m) 0) := by rw [List.getElem?_drop];exact bH h
 rw [uw,cf h1];rfl
theorem mQ (R : List UInt16) (j m : Nat) : uw R j m < 65536 ^ m := dp _ _
theorem fY {R : List UInt16} {i : Nat} {y : UInt16} (h : i < R.length) : ul (R.set i y) i = y.toNat := by
 rw [ul,List.getD_eq_getElem?_getD,List.getElem?_set_self h];rfl
theorem jv {R : List UInt16} {i k : Nat} {y : UInt16} (h : i ≠ k) : ul (R.set i y) k = ul R k := by
 rw [ul,ul,List.getD_eq_getElem?_getD,List.getD_eq_getElem?_getD,List.getElem?_set_ne h]
theorem jw {R : List UInt16} {j m i : Nat} {y : UInt16} (h : j + m ≤ i) : uw (R.set i y) j m = uw R j m := by
 rw [uw,uw]
 congr 1
 apply List.ext_getElem?;intro k
 rw [List.getElem?_take,List.getElem?_take]
 split
 ·rw [List.getElem?_drop,List.getElem?_drop,List.getElem?_set_ne (by omega)]
 ·rfl
theorem AA {R : List UInt16} {j n : Nat} (h : j + (n + 2) ≤ R.length) : uw R j (n + 2) = uw R j n + 65536 ^ n * (ul R (j + n) + 65536 * ul R (j + (n + 1))) := by
 rw [show n + 2 = n + 1 + 1 by omega,ct (by omega),ct (by omega),Nat.pow_succ,Nat.mul_add,Nat.mul_assoc]
 omega
theorem AX {R : List UInt16} {j n : Nat} (h : j + (n + 3) ≤ R.length) : uw R j (n + 3) = uw R j n + 65536 ^ n * (ul R (j + n) + 65536 * (ul R (j + (n + 1)) + 65536 * ul R (j + (n + 2)))) := by
 rw [show n + 3 = n + 2 + 1 by omega,ct (by omega),AA (by omega),Nat.pow_succ,Nat.pow_succ]
 have : 65536 ^ n * (ul R (j + n) + 65536 * (ul R (j + (n + 1)) + 65536 * ul R (j + (n + 2)))) = 65536 ^ n * (ul R (j + n) + 65536 * ul R (j + (n + 1))) + 65536 ^ n * 65536 * 65536 * ul R (j + (n + 2)) := by
  rw [Nat.mul_assoc,Nat.mul_assoc,← Nat.mul_add]
  congr 1;omega
 rw [this];omega
structure Est (U V top u2 v1 v2 W : Nat) : Prop where
 u0 : (top * 65536 + u2) * W ≤ U
 u1 : U < (top * 65536 + u2 + 1) * W
 v0 : (v1 * 65536 + v2) * W ≤ V
 v3 : V < (v1 * 65536 + v2 + 1) * W
 hv : 32768 ≤ v1
 v1l : v1 < 65536
 v2l : v2 < 65536
 u2l : u2 < 65536
 top : top < 4294967296
 lt : U < 65536 * V
theorem zi {R V : List UInt16} {j n : Nat} (hR : j + (n + 3) ≤ R.length) (hV : V.length = n + 2) (ht : 32768 ≤ ul V (n + 1)) (hlt : uw R j (n + 3) < 65536 * nv V) :
  Est (uw R j (n + 3)) (nv V) (ul R (j + (n + 2)) * 65536 + ul R (j + (n + 1))) (ul R (j + n)) (ul V (n + 1)) (ul V n) (65536 ^ n) := by
 have e1 := AX hR
 have e2 : nv V = uw V 0 (n + 2) := by rw [uw,List.drop_zero,List.take_of_length_le (by omega)]
 rw [e2] at hlt ⊢
 have e3 := AA (R := V) (j := 0) (n := n) (by omega)
 simp only [Nat.zero_add] at e3
 have l1 := mQ R j n
 have l2 := mQ V 0 n
 have a1 := cm R (j + n)
 have a2 := cm R (j + (n + 1))
 have a3 := cm R (j + (n + 2))
 have b1 := cm V n
 have b2 := cm V (n + 1)
 generalize 65536 ^ n = W at *
 generalize ul R (j + n) = x0 at *
 generalize ul R (j + (n + 1)) = x1 at *
 generalize ul R (j + (n + 2)) = x2 at *
 generalize ul V n = y0 at *
 generalize ul V (n + 1) = y1 at *
 have c1 : W * (x0 + 65536 * (x1 + 65536 * x2)) = ((x2 * 65536 + x1) * 65536 + x0) * W := by rw [Nat.mul_comm W];congr 1;omega
 have c2 : W * (y0 + 65536 * y1) = (y1 * 65536 + y0) * W := by rw [Nat.mul_comm W];congr 1;omega
 rw [c1] at e1
 rw [c2] at e3
 refine ⟨by omega,?_,by omega,?_,ht,b2,b1,a1,by omega,hlt⟩
 ·rw [Nat.add_mul (_ * 65536 + x0),Nat.one_mul];omega
 ·rw [Nat.add_mul (_ * 65536 + y0),Nat.one_mul];omega
structure Gs (U V top v1 : Nat) (k : Nat × Nat) : Prop where
 e : k.1 * v1 + k.2 = top
 q : U / V ≤ k.1
 r : k.2 < 131072
 l : k.1 ≤ top
section
variable {U V top u2 v1 v2 W : Nat}
theorem Est.V0 (h : Est U V top u2 v1 v2 W) : 0 < V := by
 have := h.lt
 rcases Nat.eq_zero_or_pos V with h0 | h0
 ·subst h0;omega
 ·exact h0
theorem Est.W0 (h : Est U V top u2 v1 v2 W) : 0 < W := by
 rcases Nat.eq_zero_or_pos W with h0 | h0
 ·subst h0
  have := h.v3
  rw [Nat.mul_zero] at this;omega
 ·exact h0
theorem Est.start (h : Est U V top u2 v1 v2 W) : Gs U V top v1 (top / v1,top % v1) := by
 have hv := h.hv
 have hvl := h.v1l
 have h1 := h.u1
 have h2 := h.v0
 have e1 : v1 * (65536 * W) ≤ V := by
  have : v1 * (65536 * W) = v1 * 65536 * W := by rw [Nat.mul_assoc]
  rw [this]
  refine Nat.le_trans (Nat.mul_le_mul_right W ?_) h2
  omega
 have e2 : U < (top + 1) * (65536 * W) := by
  have h3 := h.u2l
  have : (top + 1) * (65536 * W) = (top + 1) * 65536 * W := by rw [Nat.mul_assoc]
  rw [this]
  refine Nat.lt_of_lt_of_le h1 (Nat.mul_le_mul_right W ?_)
  omega
 refine ⟨by simp only;rw [Nat.mul_comm];exact Nat.div_add_mod _ _,sj e1 e2 (by omega),?_,Nat.div_le_self _ _⟩
 have := Nat.mod_lt top (show v1 > 0 by omega)
 simp only;omega
theorem Est.quo (h : Est U V top u2 v1 v2 W) : U / V < 65536 := by
 have := h.lt
 exact Nat.div_lt_of_lt_mul (by rw [Nat.mul_comm];exact this)
theorem Gs.less (h : Est U V top u2 v1 v2 W) {q r : Nat} (g : Gs U V top v1 (q,r)) (hr : r < 65536) (hc : 65535 < q ∨ r * 65536 + u2 < q * v2) : 1 ≤ q ∧ Gs U V top v1 (q - 1,r + v1) := by
 obtain ⟨g1,g2,g3,g4⟩ := g
 simp only at g1 g2 g3 g4
 have hq : 1 ≤ q := by
  rcases Nat.eq_zero_or_pos q with h0 | h0
  ·subst h0;rcases hc with hc | hc
   ·omega
   ·rw [Nat.zero_mul] at hc;omega
  ·exact h0
 have hv := h.v1l
 refine ⟨hq,?_,?_,by simp only;omega,by simp only;omega⟩
 ·simp only
  obtain ⟨p,rfl⟩ : ∃ p,q = p + 1 := ⟨q - 1,by omega⟩
  rw [Nat.add_mul] at g1
  rw [Nat.add_sub_cancel];omega
 ·simp only
  rcases hc with hc | hc
  ·have := h.quo;omega
  ·exact un g1 h.v0 h.u1 hc
theorem Gs.near (h : Est U V top u2 v1 v2 W) {q r : Nat} (g : Gs U V top v1 (q,r)) (hc : 65536 ≤ r ∨ (q ≤ 65535 ∧ q * v2 ≤ r * 65536 + u2)) : q ≤ 65535 ∧ U / V ≤ q ∧ q * V < U + V := by
 obtain ⟨g1,g2,g3,g4⟩ := g
 simp only at g1 g2 g3 g4
 have hq : q ≤ 65535 := by
  rcases hc with hc | hc
  ·rcases Nat.lt_or_ge 65535 q with h1 | h1
   ·exfalso
    have e1 := Nat.mul_le_mul_right v1 (show 65536 ≤ q by omega)
    have e2 : 65536 * (v1 + 1) ≤ top := by omega
    have e3 := h.u0
    have e4 := h.v3
    have e5 := h.lt
    have e6 := h.v2l
    have e7 : V < (v1 + 1) * 65536 * W := Nat.lt_of_lt_of_le e4 (Nat.mul_le_mul_right W (by omega))
    have e8 : top * 65536 * W ≤ U := Nat.le_trans (Nat.mul_le_mul_right W (by omega)) e3
    have e9 : 65536 * (v1 + 1) * 65536 * W ≤ top * 65536 * W := Nat.mul_le_mul_right W (Nat.mul_le_mul_right 65536 e2)
    have e10 : 65536 * ((v1 + 1) * 65536 * W) = 65536 * (v1 + 1) * 65536 * W := by simp only [Nat.mul_assoc]
    omega
   ·exact h1
  ·exact hc.1
 refine ⟨hq,g2,uo g1 h.v0 h.v3 h.u0 h.hv h.v2l hq (hc.imp id And.right)⟩
end
structure Sub (R V : List UInt16) (j n q : Nat) (k : Nat × List UInt16 × Nat × Int) : Prop where
 i : k.1 ≤ n + 1
 l : k.2.1.length = R.length
 c : k.2.2.1 < 65536
 b : k.2.2.2 = 0 ∨ k.2.2.2 = -1
 o : ∀ t,t < j ∨ j + k.1 ≤ t → ul k.2.1 t = ul R t
 v : (uw k.2.1 j k.1 : Int) = uw R j k.1 - q * uw V 0 (min k.1 n) + 65536 ^ k.1 * ((k.2.2.1 : Int) - k.2.2.2)
 z : k.1 = n + 1 → k.2.2.1 = 0
theorem fh (n : Nat) : ((65536 ^ n : Nat) : Int) = (65536 : Int) ^ n := by rw [Int.natCast_pow];rfl
def At (d : Int) : UInt16 := UInt16.ofNat (d % 65536).toNat
theorem rb (d : Int) : ((At d).toNat : Int) = d % 65536 := by rw [At,aL];omega
theorem tw {R V : List UInt16} {j n q : Nat} : Sub R V j n q (0,R,0,0) := ⟨Nat.zero_le _,rfl,Nat.zero_lt_succ _,.inl rfl,fun _ _ => rfl,by simp [rP],fun h => by simp at h⟩
theorem wy {R V : List UInt16} {j n q i : Nat} {Q : List UInt16} {c : Nat} {b : Int} (h : Sub R V j n q (i,Q,c,b)) (hi : i ≤ n) (hq : q ≤ 65535) (hR : j + (n + 1) ≤ R.length) (hV : n ≤ V.length) {x : Nat} (hx : x = c + (if i < n then q * ul V i else 0)) {d : Int} (hd : d = (ul R (j + i) : Int) - (x % 65536 : Nat) + b) :
  Sub R V j n q (i + 1,Q.set (j + i) (At d),x / 65536,d / 65536) ∧ x < 4294967296 ∧ -65536 ≤ d ∧ d ≤ 65535 := by
 obtain ⟨h1,h2,h3,h4,h5,h6,h7⟩ := h
 simp only at h1 h2 h3 h4 h5 h6 h7
 have hr := cm R (j + i)
 have hxb : x < 4294901761 := by
  rw [hx]
  split
  ·have := Nat.mul_le_mul hq (show ul V i ≤ 65535 by have := cm V i;omega)
   omega
  ·omega
 have hm := Nat.mod_lt x (show 65536 > 0 by decide)
 refine ⟨⟨by simp only;omega,by simp [h2],by simp only;omega,?_,fun t ht => ?_,?_,fun hz => ?_⟩,by omega,by omega,by omega⟩
 ·simp only
  rcases h4 with h4 | h4 <;> omega
 ·simp only at ht ⊢
  rw [jv (by omega)]
  exact h5 t (by omega)
 ·simp only
  rw [ct (by simp;omega),jw (by omega),fY (by omega),ct (R := R) (by omega),Int.natCast_add,Int.natCast_mul,rb,h6,fh,Int.natCast_add,Int.natCast_mul,fh,Int.pow_succ]
  have e1 := Int.emod_add_mul_ediv d 65536
  have e2 : ((x % 65536 : Nat) : Int) + 65536 * ((x / 65536 : Nat) : Int) = x := by omega
  rw [hd] at e1
  have e3 : (uw V 0 (min (i + 1) n) : Int) * q = uw V 0 (min i n) * q + 65536 ^ i * ((x : Int) - c) := by
   rw [hx]
   split
   ·rename_i hlt
    rw [Nat.min_eq_left (by omega),Nat.min_eq_left (by omega),ct (by omega),Nat.zero_add,Int.natCast_add,Int.natCast_mul,fh,Int.natCast_add,Int.natCast_mul]
    grind
   ·rw [Nat.min_eq_right (by omega),Nat.min_eq_right (by omega)]
    grind
  rw [← hd] at e1
  generalize (65536 : Int) ^ i = W at *
  generalize ((x % 65536 : Nat) : Int) = xm at *
  generalize ((x / 65536 : Nat) : Int) = xd at *
  generalize d % 65536 = dm at *
  generalize d / 65536 = dd at *
  grind
 ·simp only at hz ⊢
  rw [hx,if_neg (by omega)];omega
structure Adb (R V : List UInt16) (j n : Nat) (k : Nat × List UInt16 × Nat) : Prop where
 i : k.1 ≤ n
 l : k.2.1.length = R.length
 c : k.2.2 ≤ 1
 o : ∀ t,t < j ∨ j + k.1 ≤ t → ul k.2.1 t = ul R t
 v : uw k.2.1 j k.1 + 65536 ^ k.1 * k.2.2 = uw R j k.1 + uw V 0 k.1
theorem rX {R V : List UInt16} {j n : Nat} : Adb R V j n (0,R,0) := ⟨Nat.zero_le _,rfl,Nat.zero_le _,fun _ _ => rfl,by simp [rP]⟩
theorem tS {R V : List UInt16} {j n i : Nat} {Q : List UInt16} {c : Nat} (h : Adb R V j n (i,Q,c)) (hi : i < n) (hR : j + (n + 1) ≤ R.length) (hV : n ≤ V.length) {x : Nat} (hx : x = c + (ul R (j + i) + ul V i)) :
  Adb R V j n (i + 1,Q.set (j + i) (UInt16.ofNat x),x / 65536) := by
 obtain ⟨h1,h2,h3,h4,h5⟩ := h
 simp only at h1 h2 h3 h4 h5
 have a1 := cm R (j + i)
 have a2 := cm V i
 refine ⟨by simp only;omega,by simp [h2],by simp only;omega,fun t ht => ?_,?_⟩
 ·simp only at ht ⊢
  rw [jv (by omega)]
  exact h4 t (by omega)
 ·simp only
  rw [ct (by simp;omega),jw (by omega),fY (by omega),ct (R := R) (by omega),ct (R := V) (by omega),aL,Nat.pow_succ,Nat.zero_add]
  have e := Nat.mod_add_div x 65536
  have e2 : 65536 ^ i * (x % 65536) + 65536 ^ i * 65536 * (x / 65536) = 65536 ^ i * (c + (ul R (j + i) + ul V i)) := by rw [Nat.mul_assoc,← Nat.mul_add,e,hx]
  simp only [Nat.mul_add] at e2
  omega
structure Digd (R V : List UInt16) (j n : Nat) (R' : List UInt16) : Prop where
 l : R'.length = R.length
 o : ∀ t,t < j ∨ j + (n + 1) ≤ t → ul R' t = ul R t
 v : uw R' j (n + 1) = uw R j (n + 1) % nv V
theorem lI {V : List UInt16} {n m : Nat} (h : V.length = n) (hm : n ≤ m) : uw V 0 m = nv V := by rw [uw,List.drop_zero,List.take_of_length_le (by omega)]
theorem xi {R V : List UInt16} {j n q c : Nat} {Q : List UInt16} (hVl : V.length = n) (hV0 : 0 < nv V) (h : Sub R V j n q (n + 1,Q,c,0)) (hq1 : uw R j (n + 1) / nv V ≤ q) : q = uw R j (n + 1) / nv V ∧ Digd R V j n Q := by
 have hc := h.z rfl
 simp only at hc
 subst hc
 have h6 := h.v
 simp only at h6
 rw [lI hVl (by omega)] at h6
 have h8 : uw Q j (n + 1) + q * nv V = uw R j (n + 1) := by
  have : ((uw Q j (n + 1) : Nat) : Int) + ((q * nv V : Nat) : Int) = (uw R j (n + 1) : Nat) := by rw [h6,Int.natCast_mul];simp
  omega
 have h9 : q ≤ uw R j (n + 1) / nv V := (Nat.le_div_iff_mul_le hV0).2 (by omega)
 have hqe : q = uw R j (n + 1) / nv V := by omega
 refine ⟨hqe,h.l,h.o,?_⟩
 have e := Nat.div_add_mod (uw R j (n + 1)) (nv V)
 rw [← hqe,Nat.mul_comm] at e
 omega
theorem uq {R V : List UInt16} {j n q c c2 : Nat} {Q Q2 : List UInt16} (hVl : V.length = n) (hV0 : 0 < nv V) (hR : j + (n + 1) ≤ R.length) (h : Sub R V j n q (n + 1,Q,c,-1)) (hq1 : uw R j (n + 1) / nv V ≤ q) (hq2 : q * nv V < uw R j (n + 1) + nv V) (h2 : Adb Q V j n (n,Q2,c2)) :
  1 ≤ q ∧ q - 1 = uw R j (n + 1) / nv V ∧ Digd R V j n (Q2.set (j + n) (UInt16.ofNat (ul Q2 (j + n) + c2))) := by
 have hc := h.z rfl
 simp only at hc
 subst hc
 have h6 := h.v
 simp only at h6
 rw [lI hVl (by omega),← fh] at h6
 have hQl := mQ Q j (n + 1)
 have h8 : uw Q j (n + 1) + q * nv V = uw R j (n + 1) + 65536 ^ (n + 1) := by
  have : ((uw Q j (n + 1) : Nat) : Int) + ((q * nv V : Nat) : Int) = (uw R j (n + 1) : Nat) + ((65536 ^ (n + 1) : Nat) : Int) := by rw [h6,Int.natCast_mul];grind
  omega
 have hq : 1 ≤ q := by
  rcases Nat.eq_zero_or_pos q with h0 | h0
  ·subst h0;rw [Nat.zero_mul] at h8;omega
  ·exact h0
 obtain ⟨p,rfl⟩ : ∃ p,q = p + 1 := ⟨q - 1,by omega⟩
 rw [Nat.add_mul,Nat.one_mul] at h8 hq2
 have hpd : p = uw R j (n + 1) / nv V := by
  have a1 : p ≤ uw R j (n + 1) / nv V := (Nat.le_div_iff_mul_le hV0).2 (by omega)
  have a2 : uw R j (n + 1) / nv V < p + 1 := (Nat.div_lt_iff_lt_mul hV0).2 (by rw [Nat.add_mul,Nat.one_mul];omega)
  omega
 refine ⟨hq,by omega,by simp [h2.l,h.l],fun t ht => ?_,?_⟩
 ·rw [jv (by omega),h2.o t (by simp only;omega),h.o t (by simp only;omega)]
 ·have h2l := h2.l
  have hl := h.l
  have h5 := h2.v
  have hc2 := h2.c
  have ho := h2.o (j + n) (.inr (Nat.le_refl _))
  simp only at h2l hl h5 hc2 ho
  rw [ct (by simp;omega),jw (by omega),fY (by omega),aL,ho]
  rw [lI hVl (Nat.le_refl _)] at h5
  have e1 := ct (R := Q) (j := j) (m := n) (by omega)
  have hmod : uw R j (n + 1) % nv V = uw R j (n + 1) - p * nv V := by
   have e := Nat.div_add_mod (uw R j (n + 1)) (nv V)
   rw [← hpd,Nat.mul_comm] at e
   omega
  rw [hmod]
  have hle : p * nv V ≤ uw R j (n + 1) := by rw [hpd];exact Nat.div_mul_le_self _ _
  have hml := Nat.mod_lt (uw R j (n + 1)) hV0
  rw [hmod] at hml
  have hVlt : nv V < 65536 ^ n := by rw [← hVl];exact bB V
  have hQ2 := mQ Q2 j n
  have hur := cm Q (j + n)
  rw [Nat.pow_succ] at h8
  generalize 65536 ^ n = W at *
  generalize ul Q (j + n) = x at *
  have key : uw Q2 j n + W * (x + c2) = uw R j (n + 1) - p * nv V + W * 65536 := by rw [Nat.mul_add];omega
  have hx : 65536 ≤ x + c2 := by
   rcases Nat.lt_or_ge (x + c2) 65536 with hlt | hge
   ·exfalso
    have := Nat.mul_le_mul_left W (show x + c2 + 1 ≤ 65536 by omega)
    rw [Nat.mul_add] at this
    omega
   ·exact hge
  have hx2 : x + c2 = 65536 := by omega
  rw [hx2] at key ⊢
  rw [show 65536 % 65536 = 0 from rfl,Nat.mul_zero]
  omega
theorem zl {L : Lay} {fn : Func} {K : (Nat → Nat × Option Cont) → PV → Prop} {s : St} {t : Nat} {v : PV} {e : Exit} (owns : List (Nat × Nat × Cont)) (he : e = .ret ∨ e = .normal) (h : fn.results.toList = [.tmp t]) (h1 : s.reg t = v) (ho : FitO s owns)
  (hk : ∀ s1 : St,K (s1.over [] owns).own v) : ai L fn (fun s' r => K s'.own r) e s := by
 have hk := hk s
 rw [Fit.over (l := []) ho] at hk
 rcases he with rfl | rfl <;>
 ·unfold ai
  refine ⟨[s.reg t],True ∧ True,by rw [h];rfl,⟨trivial,trivial⟩,?_⟩
  rw [h1];exact hk
theorem yw (x : Nat) (hx : x < 18446744073709551616) : bits .and .u64 (x : Int) 65535 = ((x - x / 65536 * 65536 : Nat) : Int) := by
 have := (bits_nat .u64 64 (by decide) wraps_u64 x 65535 (by omega) (by decide)).1
 rw [show ((65535 : Nat) : Int) = 65535 by rfl] at this
 rw [this,show (65535 : Nat) = 2 ^ 16 - 1 by decide,Nat.and_two_pow_sub_one_eq_mod]
 omega
theorem jx {n : Nat} (h : n < 18446744073709551616) : IntKind.u64.wrap (n : Int) = (n : Int) := wrap_u64 (Int.natCast_nonneg n) (by omega)
theorem iC {R : List UInt16} {i : Nat} (h : i < R.length) : (R.map eU)[i]? = some [PV.int .u16 ((ul R i : Nat) : Int)] := by
 rw [List.getElem?_map,i2 h];rfl
theorem kD {R : List UInt16} {i : Nat} (h : i < R.length) : (R.map eU)[((i : Nat) : Int).toNat]? = some [PV.int .u16 ((ul R i : Nat) : Int)] := by
 rw [Int.toNat_natCast];exact iC h
theorem gm (R : List UInt16) (i : Nat) : IntKind.u64.wrap ((ul R i : Nat) : Int) = ((ul R i : Nat) : Int) := wrap_u64 (by omega) (by have := cm R i;omega)
theorem j_ (R : List UInt16) (i : Nat) : IntKind.u32.wrap ((ul R i : Nat) : Int) = ((ul R i : Nat) : Int) := wrap_u32 (by omega) (by have := cm R i;omega)
theorem yh (R : List UInt16) (i : Nat) : IntKind.i64.wrap ((ul R i : Nat) : Int) = ((ul R i : Nat) : Int) := wrap_i64 (by omega) (by have := cm R i;omega)
def yB (g gq : Nat) (Q Qr : List UInt16) : List (Nat × Nat × Cont) := [(44,g,⟨180,1,Q.map eU,0⟩),(57,gq,⟨180,1,Qr.map eU,0⟩)]
set_option maxRecDepth 40000 in
set_option maxHeartbeats 4000000 in
theorem ur {K : St → Prop} {s : St} {d g gq : Nat} {x y : Operand} {tys : Array TypeId} {ty : TypeId} {pos : String} {af : Array Edge} {R V Qr : List UInt16} {j n : Nat}
  (hV : V.length = n + 2) (hR : j + (n + 3) ≤ R.length) (hRl : R.length ≤ 200000000) (ht : 32768 ≤ ul V (n + 1)) (hlt : uw R j (n + 3) < 65536 * nv V)
  (hx : s.ev x = .als 44 g j (n + 3)) (hy : s.ev y = .fsl (V.map eU)) (ho : FitO s [(44,g,⟨180,1,R.map eU,0⟩),(57,gq,⟨180,1,Qr.map eU,0⟩)])
  (hK : ∀ (s1 : St) (R' : List UInt16),Digd R V j (n + 2) R' → K (({ reg := s.reg,own := (s1.over [] [(44,g,⟨180,1,R'.map eU,0⟩),(57,gq,⟨180,1,Qr.map eU,0⟩)]).own } : St).putR d (.int .u16 ((uw R j (n + 3) / nv V : Nat) : Int)))) :
  Sm Tryz.prog lay.get s ⟨some d,.call ⟨.value (.func 203),#[x,y],tys⟩,ty,pos,af,none⟩ K := by
 have hE := zi hR hV ht hlt
 have hVml : (V.map eU).length = n + 2 := by rw [List.length_map,hV]
 have r0 := iC (R := R) (i := j + n) (by omega)
 have r1 := iC (R := R) (i := j + (n + 1)) (by omega)
 have r2 := iC (R := R) (i := j + (n + 2)) (by omega)
 have v0 := kD (R := V) (i := n) (by omega)
 have v1 := kD (R := V) (i := n + 1) (by omega)
 have w2 := gm R (j + (n + 2))
 have w1 := gm R (j + (n + 1))
 have w0 := gm R (j + n)
 have y1 := gm V (n + 1)
 have y0 := gm V n
 have hfin : ∀ (s1 : St) (R' : List UInt16) (q : Nat),q = uw R j (n + 3) / nv V → Digd R V j (n + 2) R' → ∀ (e : Exit) (st : St),(e = .ret ∨ e = .normal) → st.reg 4 = .int .u16 (q : Int) → FitO st [(44,g,⟨180,1,R'.map eU,0⟩),(57,gq,⟨180,1,Qr.map eU,0⟩)] →
   ai lay.get Tryz.f203 (fun s' r => K (({ reg := s.reg,own := s'.own } : St).put (some d) r)) e st := by
  intro _ R' q hq hd e st he h1 h3
  subst hq
  exact zl (K := fun o r => K (({ reg := s.reg,own := o } : St).put (some d) r)) _ he rfl h1 h3 fun s2 => hK s2 R' hd
 clear hK
 refine bX layOk rfl rfl Tryz.func203 rfl (by decide) rfl rfl ?_
 show PWP _ _ _ _ (bF s (([x,y] : List Operand).map s.ev ++ []))
 rw [show (([x,y] : List Operand).map s.ev ++ ([] : List PV)) = [.als 44 g j (n + 3),.fsl (V.map eU)] by simp [hx,hy]]
 rw [show bF s [.als 44 g j (n + 3),.fsl (V.map eU)] = bF (s.over [] [(44,g,⟨180,1,R.map eU,0⟩),(57,gq,⟨180,1,Qr.map eU,0⟩)]) [.als 44 g j (n + 3),.fsl (V.map eU)] by rw [Fit.over (l := []) ho]]
 generalize hfinK : ai lay.get Tryz.f203 (fun s' r => K (({ reg := s.reg,own := s'.own } : St).put (some d) r)) = FIN at *
 have c1 : IntKind.i64.wrap (((n + 2 : Nat) : Int) - 1) = ((n + 1 : Nat) : Int) := by rw [wrap_i64 (by omega) (by omega)];omega
 have c2 : IntKind.i64.wrap (((n + 2 : Nat) : Int) - 2) = ((n : Nat) : Int) := by rw [wrap_i64 (by omega) (by omega)];omega
 have a1 := cm R (j + (n + 1))
 have a2 := cm R (j + (n + 2))
 have hor1 := zt (x := ul R (j + (n + 2))) (y := ul R (j + (n + 1))) (by omega) a1
 have hst := hE.start
 have hv1l := hE.v1l
 have hv1h := hE.hv
 have hv2l := hE.v2l
 have hu2l := hE.u2l
 have htop := hE.top
 generalize hTop : ul R (j + (n + 2)) * 65536 + ul R (j + (n + 1)) = top at *
 generalize hV1 : ul V (n + 1) = vt at *
 repeat refine ac rfl ?_
 rw [hVml]
 refine am 14 [18,19,20,21,22,23,24,25,26,27,28,29,30,6] (by decide +kernel) ?_
 repeat refine ac rfl ?_
 refine wR rfl rfl rfl rfl rfl rfl rfl rfl rfl ?_
 rw [Int.toNat_natCast]
 refine bx rfl rfl (di rfl rfl rfl r2 rfl) ?_
 repeat refine ac rfl ?_
 rw [w2]
 repeat refine ac rfl ?_
 rw [wc (by omega)]
 repeat refine ac rfl ?_
 rw [c1]
 refine wR rfl rfl rfl rfl rfl rfl rfl rfl rfl ?_
 rw [Int.toNat_natCast]
 refine bx rfl rfl (di rfl rfl rfl r1 rfl) ?_
 repeat refine ac rfl ?_
 rw [w1]
 repeat refine ac rfl ?_
 rw [hor1]
 repeat refine ac rfl ?_
 refine am 18 [31,32,33,34,35,36,37,38,39,40,41,42,43,44,45,46,7,8] (by decide +kernel) ?_
 repeat refine ac rfl ?_
 rw [c1]
 refine bx rfl rfl (ie rfl rfl rfl rfl rfl (by omega) v1 rfl) ?_
 repeat refine ac rfl ?_
 rw [y1]
 refine bx rfl rfl (QOp.v rfl (show ¬ ((vt : Nat) : Int) = 0 by omega)) ?_
 rw [pr]
 have hdq := Nat.div_le_self top vt
 rw [jx (Nat.lt_of_le_of_lt hdq (by omega))]
 repeat refine ac rfl ?_
 rw [c1]
 refine bx rfl rfl (ie rfl rfl rfl rfl rfl (by omega) v1 rfl) ?_
 repeat refine ac rfl ?_
 rw [y1]
 refine bx rfl rfl (QOp.v rfl (show ¬ ((vt : Nat) : Int) = 0 by omega)) ?_
 rw [iY]
 repeat refine ac rfl ?_
 have e84 : IntKind.i64.wrap (((n + 2 : Nat) : Int) + 1) = ((n + 3 : Nat) : Int) := by rw [wrap_i64 (by omega) (by omega)];omega
 refine kZ (fun q : Nat => q ≤ 65535 ∧ uw R j (n + 3) / nv V ≤ q ∧ q * nv V < uw R j (n + 3) + nv V) (fun q => [(0,.als 44 g j (n + 3)),(1,.fsl (V.map eU)),(5,I ((n + 2 : Nat) : Int)),(7,.int .u64 (q : Nat))]) (fun _ => yB g gq R Qr) ?_ ?_
 ·refine ax (Gs (uw R j (n + 3)) (nv V) top vt) (fun q => [(0,.als 44 g j (n + 3)),(1,.fsl (V.map eU)),(5,I ((n + 2 : Nat) : Int)),(7,.int .u64 (q.1 : Nat)),(8,.int .u64 (q.2 : Nat))])
   (fun _ => yB g gq R Qr) (fun q => q.1) _ hst ⟨rfl,rfl,rfl,rfl,rfl,rfl,rfl,trivial⟩ ?_
  rintro ⟨q,rest⟩ s1 hG
  have hrb := hG.r
  have hqt := hG.l
  simp only at hrb hqt
  dsimp only
  have hqb : q ≤ 4294967295 := by omega
  repeat refine ac rfl ?_
  refine am 26 [47,48,49,50,51,52,53,54,55,56,57,58,59,60,61,62,63,64,65,66,67,68,69,70,71,72] (by decide +kernel) ?_
  iterate 2 refine ac rfl ?_
  generalize hB : decide ((rest : Int) < 65536) = B
  repeat refine ac rfl ?_
  refine cb rfl rfl rfl ?_ ?_<;>intro h
  ·rw [h] at hB
   have hr1 : rest < 65536 := by have := of_decide_eq_true hB;omega
   clear h hB
   have hsh := wc (x := rest) (by omega)
   have hor2 := zt (x := rest) (y := ul R (j + n)) (by omega) hu2l
   iterate 2 refine ac rfl ?_
   generalize hB : decide ((65535 : Int) < (q : Int)) = B2
   repeat refine ac rfl ?_
   refine cb rfl rfl rfl ?_ ?_<;>intro h
   ·rw [h] at hB
    have hq1 : 65535 < q := by have := of_decide_eq_true hB;omega
    clear h hB
    obtain ⟨hq0,hst2⟩ := hG.less hE hr1 (.inl hq1)
    repeat refine ac rfl ?_
    rw [c1]
    refine bx rfl rfl (ie rfl rfl rfl rfl rfl (by omega) v1 rfl) ?_
    repeat refine ac rfl ?_
    rw [y1]
    repeat refine ac rfl ?_
    refine ⟨(q - 1,rest + vt),hst2,by simp only;omega,rfl,rfl,rfl,?_,?_,rfl,rfl,trivial⟩
    ·show PV.int .u64 (IntKind.u64.wrap ((q : Int) - 1)) = PV.int .u64 ((q - 1 : Nat) : Int)
     rw [wrap_u64 (by omega) (by omega)];congr 1;omega
    ·show PV.int .u64 (IntKind.u64.wrap ((rest : Int) + (vt : Int))) = PV.int .u64 ((rest + vt : Nat) : Int)
     rw [wrap_u64 (by omega) (by omega)];congr 1
   ·rw [h] at hB
    have hq1 : q ≤ 65535 := by have := of_decide_eq_false hB;omega
    clear h hB
    have hmb := Nat.mul_le_mul hq1 (show ul V n ≤ 65535 by omega)
    have hmi : (q : Int) * ((ul V n : Nat) : Int) = ((q * ul V n : Nat) : Int) := by rw [Int.natCast_mul]
    have hmw : IntKind.u64.wrap ((q * ul V n : Nat) : Int) = ((q * ul V n : Nat) : Int) := jx (by omega)
    repeat refine ac rfl ?_
    rw [c2]
    refine bx rfl rfl (ie rfl rfl rfl rfl rfl (by omega) v0 rfl) ?_
    repeat refine ac rfl ?_
    rw [y0,hmi,hmw]
    repeat refine ac rfl ?_
    rw [hsh]
    repeat refine ac rfl ?_
    rw [c2]
    refine wR rfl rfl rfl rfl rfl rfl rfl rfl rfl ?_
    rw [Int.toNat_natCast]
    refine bx rfl rfl (di rfl rfl rfl r0 rfl) ?_
    repeat refine ac rfl ?_
    rw [w0]
    repeat refine ac rfl ?_
    rw [hor2]
    generalize hB : decide (((rest * 65536 + ul R (j + n) : Nat) : Int) < ((q * ul V n : Nat) : Int)) = B3
    repeat refine ac rfl ?_
    refine ae rfl ?_ ?_<;>intro h
    ·rw [h] at hB
     have hc : rest * 65536 + ul R (j + n) < q * ul V n := by have := of_decide_eq_true hB;omega
     clear h hB
     obtain ⟨hq0,hst2⟩ := hG.less hE hr1 (.inr hc)
     repeat refine ac rfl ?_
     rw [c1]
     refine bx rfl rfl (ie rfl rfl rfl rfl rfl (by omega) v1 rfl) ?_
     repeat refine ac rfl ?_
     rw [y1]
     repeat refine ac rfl ?_
     refine ⟨(q - 1,rest + vt),hst2,by simp only;omega,rfl,rfl,rfl,?_,?_,rfl,rfl,trivial⟩
     ·show PV.int .u64 (IntKind.u64.wrap ((q : Int) - 1)) = PV.int .u64 ((q - 1 : Nat) : Int)
      rw [wrap_u64 (by omega) (by omega)];congr 1;omega
     ·show PV.int .u64 (IntKind.u64.wrap ((rest : Int) + (vt : Int))) = PV.int .u64 ((rest + vt : Nat) : Int)
      rw [wrap_u64 (by omega) (by omega)];congr 1
    ·rw [h] at hB
     have hc : q * ul V n ≤ rest * 65536 + ul R (j + n) := by have := of_decide_eq_false hB;omega
     clear h hB
     repeat refine ac rfl ?_
     exact ⟨q,hG.near hE (.inr ⟨hq1,hc⟩),rfl,rfl,rfl,rfl,rfl,rfl,trivial⟩
  ·rw [h] at hB
   have hr1 : 65536 ≤ rest := by have := of_decide_eq_false hB;omega
   clear h hB
   repeat refine ac rfl ?_
   exact ⟨q,hG.near hE (.inl hr1),rfl,rfl,rfl,rfl,rfl,rfl,trivial⟩
 rintro q ⟨hq1,hq2,hq3⟩ s2
 clear hst r0 r1 r2 w0 w1 w2 hor1
 repeat refine ac rfl ?_
 rw [e84]
 repeat refine ac rfl ?_
 refine kZ (fun k : List UInt16 × Nat × Int => Sub R V j (n + 2) q (n + 3,k)) (fun k => [(0,.als 44 g j (n + 3)),(1,.fsl (V.map eU)),(5,I ((n + 2 : Nat) : Int)),(7,.int .u64 (q : Nat)),(10,.int .i64 k.2.2)]) (fun k => yB g gq k.1 Qr) ?_ ?_
 ·refine ax (Sub R V j (n + 2) q) (fun k => [(0,.als 44 g j (n + 3)),(1,.fsl (V.map eU)),(5,I ((n + 2 : Nat) : Int)),(7,.int .u64 (q : Nat)),(9,.int .u64 (k.2.2.1 : Nat)),(10,.int .i64 k.2.2.2),(84,I ((n + 3 : Nat) : Int)),(85,I k.1)])
   (fun k => yB g gq k.2.1 Qr) (fun k => n + 3 - k.1) (0,R,0,0) tw ⟨rfl,rfl,rfl,rfl,rfl,rfl,rfl,rfl,rfl,rfl,trivial⟩ ?_
  rintro ⟨i,Q,c,bo⟩ s3 hS
  have hil := hS.i
  have hQl := hS.l
  have hcb := hS.c
  have hbo := hS.b
  have ho2 := hS.o
  simp only at hil hQl hcb hbo ho2
  dsimp only
  repeat refine ac rfl ?_
  refine ae rfl ?_ ?_<;>intro h
  ·have hi : i < n + 3 := by have := of_decide_eq_true h;omega
   clear h
   obtain ⟨x,hx⟩ : ∃ x,x = c + (if i < n + 2 then q * ul V i else 0) := ⟨_,rfl⟩
   obtain ⟨d',hd⟩ : ∃ d' : Int,d' = (ul R (j + i) : Int) - (x - x / 65536 * 65536 : Nat) + bo := ⟨_,rfl⟩
   have hxm : x % 65536 = x - x / 65536 * 65536 := by omega
   obtain ⟨hst,hxb,hd1,hd2⟩ := wy hS (by omega) hq1 (by omega) (by omega) hx (d := d') (by rw [hd,hxm])
   have hrow := iC (R := Q) (i := j + i) (by omega)
   rw [ho2 (j + i) (.inr (Nat.le_refl _))] at hrow
   repeat refine ac rfl ?_
   refine nC [(0,.als 44 g j (n + 3)),(1,.fsl (V.map eU)),(5,I ((n + 2 : Nat) : Int)),(7,.int .u64 (q : Nat)),(9,.int .u64 (c : Nat)),(10,.int .i64 bo),(11,I i),(12,.int .u64 (x : Nat)),(84,I ((n + 3 : Nat) : Int)),(85,I i)] (yB g gq Q Qr) ?_ (fun s4 => ?_)
   ·refine ae rfl ?_ ?_<;>intro h
    ·have hi2 : i < n + 2 := by have := of_decide_eq_true h;omega
     clear h
     rw [if_pos hi2] at hx
     have hvi := kD (R := V) (i := i) (by omega)
     have hmb := Nat.mul_le_mul hq1 (show ul V i ≤ 65535 by have := cm V i;omega)
     have hmi : (q : Int) * ((ul V i : Nat) : Int) = ((q * ul V i : Nat) : Int) := by rw [Int.natCast_mul]
     have hmw : IntKind.u64.wrap ((q * ul V i : Nat) : Int) = ((q * ul V i : Nat) : Int) := jx (by omega)
     have hxw : IntKind.u64.wrap ((c : Int) + ((q * ul V i : Nat) : Int)) = (x : Int) := by rw [wrap_u64 (by omega) (by omega)];omega
     repeat refine ac rfl ?_
     refine bx rfl rfl (ie rfl rfl rfl rfl rfl (by omega) hvi rfl) ?_
     repeat refine ac rfl ?_
     rw [gm V i,hmi,hmw]
     repeat refine ac rfl ?_
     rw [hxw]
     exact ⟨rfl,rfl,rfl,rfl,rfl,rfl,rfl,rfl,rfl,rfl,rfl,rfl,trivial⟩
    ·have hi2 : ¬ i < n + 2 := by have := of_decide_eq_false h;omega
     clear h
     rw [if_neg hi2,Nat.add_zero] at hx
     repeat refine ac rfl ?_
     rw [show ((c : Nat) : Int) = (x : Int) by omega]
     exact ⟨rfl,rfl,rfl,rfl,rfl,rfl,rfl,rfl,rfl,rfl,rfl,rfl,trivial⟩
   have e16 : (x : Int) / 2 ^ (16 : Int).toNat = ((x / 65536 : Nat) : Int) := by
    rw [show ((2 : Int) ^ (16 : Int).toNat) = 65536 by decide];omega
   have hand := yw x (by omega)
   have hmw : IntKind.i64.wrap ((x - x / 65536 * 65536 : Nat) : Int) = ((x - x / 65536 * 65536 : Nat) : Int) := wrap_i64 (by omega) (by omega)
   have hrl := cm R (j + i)
   have hdw : IntKind.i64.wrap (IntKind.i64.wrap (((ul R (j + i) : Nat) : Int) - ((x - x / 65536 * 65536 : Nat) : Int)) + bo) = d' := by
    rw [wrap_i64 (n := ((ul R (j + i) : Nat) : Int) - ((x - x / 65536 * 65536 : Nat) : Int)) (by omega) (by omega),wrap_i64 (by omega) (by omega),hd]
   have hd16 : IntKind.u16.wrap d' = ((At d').toNat : Int) := by rw [rb,IntKind.wrap_u16]
   repeat refine ac rfl ?_
   rw [e16]
   repeat refine ac rfl ?_
   refine wR rfl rfl rfl rfl rfl rfl rfl rfl rfl ?_
   rw [Int.toNat_natCast]
   refine bx rfl rfl (di rfl rfl rfl hrow rfl) ?_
   repeat refine ac rfl ?_
   rw [yh R (j + i)]
   repeat refine ac rfl ?_
   rw [hand]
   repeat refine ac rfl ?_
   rw [hmw,hdw,hd16]
   refine wR rfl rfl rfl rfl rfl rfl rfl rfl rfl ?_
   rw [Int.toNat_natCast]
   refine bJ (bI (kd' := 0) rfl rfl rfl hrow rfl rfl (by repeat' constructor) rfl rfl rfl rfl ?_)
   repeat refine ac rfl ?_
   refine ⟨(i + 1,_,_,_),hst,by simp only;omega,rfl,rfl,rfl,rfl,rfl,?_,rfl,bG (by omega) (by omega),?_,rfl,trivial⟩
   ·show PV.int .i64 (d' / 2 ^ (16 : Int).toNat) = PV.int .i64 (d' / 65536)
    rw [show ((2 : Int) ^ (16 : Int).toNat) = 65536 by decide]
   ·exact cz g 180 1 0 (j + i) Q (At d')
  ·have hi : i = n + 3 := by have := of_decide_eq_false h;omega
   subst hi
   clear h
   repeat refine ac rfl ?_
   exact ⟨(Q,c,bo),hS,rfl,rfl,rfl,rfl,rfl,rfl,rfl,trivial⟩
 rintro ⟨Q,c,bo⟩ hS s3
 have hQl := hS.l
 have hbo := hS.b
 simp only at hQl hbo
 dsimp only
 rcases hbo with rfl | rfl
 ·obtain ⟨hqe,hdg⟩ := xi hV (by have := hE.V0;exact this) hS hq2
  repeat refine ac rfl ?_
  rw [show IntKind.u16.wrap ((q : Nat) : Int) = ((q : Nat) : Int) by rw [IntKind.wrap_u16];omega]
  repeat refine ac rfl ?_
  exact hfin s3 Q q hqe hdg .ret _ (.inl rfl) rfl ⟨rfl,rfl,trivial⟩
 ·have hqw : IntKind.u64.wrap ((q : Int) - 1) = IntKind.u64.wrap ((q : Int) - 1) := rfl
  generalize hqv : IntKind.u64.wrap ((q : Int) - 1) = qv at hqw
  repeat refine ac rfl ?_
  rw [hqv]
  refine kZ (fun k : List UInt16 × Nat => Adb Q V j (n + 2) (n + 2,k)) (fun k => [(0,.als 44 g j (n + 3)),(5,I ((n + 2 : Nat) : Int)),(7,.int .u64 qv),(14,.int .u32 (k.2 : Nat))]) (fun k => yB g gq k.1 Qr) ?_ ?_
  ·refine ax (Adb Q V j (n + 2)) (fun k => [(0,.als 44 g j (n + 3)),(1,.fsl (V.map eU)),(5,I ((n + 2 : Nat) : Int)),(7,.int .u64 qv),(14,.int .u32 (k.2.2 : Nat)),(126,I ((n + 2 : Nat) : Int)),(127,I k.1)])
    (fun k => yB g gq k.2.1 Qr) (fun k => n + 2 - k.1) (0,Q,0) rX ⟨rfl,rfl,rfl,rfl,rfl,rfl,rfl,rfl,rfl,trivial⟩ ?_
   rintro ⟨i,Q2,c2⟩ s4 hA
   have hil := hA.i
   have hQ2l := hA.l
   have hcb := hA.c
   have ho2 := hA.o
   simp only at hil hQ2l hcb ho2
   dsimp only
   repeat refine ac rfl ?_
   refine ae rfl ?_ ?_<;>intro h
   ·have hi : i < n + 2 := by have := of_decide_eq_true h;omega
    clear h
    have hrow := iC (R := Q2) (i := j + i) (by omega)
    rw [ho2 (j + i) (.inr (Nat.le_refl _))] at hrow
    have hvi := kD (R := V) (i := i) (by omega)
    have hst := tS hA hi (by omega) (by omega) rfl
    have b1 := cm Q (j + i)
    have b2 := cm V i
    have ew : IntKind.u32.wrap ((c2 : Int) + IntKind.u32.wrap (((ul Q (j + i) : Nat) : Int) + ((ul V i : Nat) : Int))) = ((c2 + (ul Q (j + i) + ul V i) : Nat) : Int) := by
     rw [wrap_u32 (n := ((ul Q (j + i) : Nat) : Int) + ((ul V i : Nat) : Int)) (by omega) (by omega),wrap_u32 (by omega) (by omega)];omega
    repeat refine ac rfl ?_
    refine am 13 [130,131,132,133,134,135,136,137,138,139,140,141,142] (by decide +kernel) ?_
    repeat refine ac rfl ?_
    refine wR rfl rfl rfl rfl rfl rfl rfl rfl rfl ?_
    rw [Int.toNat_natCast]
    refine bx rfl rfl (di rfl rfl rfl hrow rfl) ?_
    repeat refine ac rfl ?_
    rw [j_ Q (j + i)]
    repeat refine ac rfl ?_
    refine bx rfl rfl (ie rfl rfl rfl rfl rfl (by omega) hvi rfl) ?_
    repeat refine ac rfl ?_
    rw [j_ V i,ew]
    generalize c2 + (ul Q (j + i) + ul V i) = sm at *
    repeat refine ac rfl ?_
    rw [wrap_u16]
    refine wR rfl rfl rfl rfl rfl rfl rfl rfl rfl ?_
    rw [Int.toNat_natCast]
    refine bJ (bI (kd' := 0) rfl rfl rfl hrow rfl rfl (by repeat' constructor) rfl rfl rfl rfl ?_)
    repeat refine ac rfl ?_
    refine ⟨(i + 1,_,_),hst,by simp only;omega,rfl,rfl,rfl,rfl,?_,rfl,bG (by omega) (by omega),?_,rfl,trivial⟩
    ·show PV.int .u32 ((sm : Int) / 2 ^ (16 : Int).toNat) = PV.int .u32 ((sm / 65536 : Nat) : Int)
     rw [show ((2 : Int) ^ (16 : Int).toNat) = 65536 by decide];congr 1
    ·exact cz g 180 1 0 (j + i) Q2 (UInt16.ofNat sm)
   ·have hi : i = n + 2 := by have := of_decide_eq_false h;omega
    subst hi
    clear h
    repeat refine ac rfl ?_
    exact ⟨(Q2,c2),hA,rfl,rfl,rfl,rfl,rfl,rfl,trivial⟩
  rintro ⟨Q2,c2⟩ hA s4
  have hQ2l := hA.l
  have hcb := hA.c
  simp only at hQ2l hcb
  dsimp only
  obtain ⟨hq0,hqe,hdg⟩ := uq hV (by have := hE.V0;exact this) (by omega) hS hq2 hq3 hA
  have hrow := iC (R := Q2) (i := j + (n + 2)) (by omega)
  have b1 := cm Q2 (j + (n + 2))
  have hc16 : IntKind.u16.wrap ((c2 : Nat) : Int) = ((c2 : Nat) : Int) := by rw [IntKind.wrap_u16];omega
  have hs16 : IntKind.u16.wrap (((ul Q2 (j + (n + 2)) : Nat) : Int) + ((c2 : Nat) : Int)) = ((UInt16.ofNat (ul Q2 (j + (n + 2)) + c2)).toNat : Int) := by
   rw [show (((ul Q2 (j + (n + 2)) : Nat) : Int) + ((c2 : Nat) : Int)) = ((ul Q2 (j + (n + 2)) + c2 : Nat) : Int) by omega,wrap_u16]
  have hqf : IntKind.u16.wrap qv = ((q - 1 : Nat) : Int) := by
   rw [← hqv,wrap_u64 (by omega) (by omega),IntKind.wrap_u16];omega
  repeat refine ac rfl ?_
  refine wR rfl rfl rfl rfl rfl rfl rfl rfl rfl ?_
  rw [Int.toNat_natCast]
  refine bx rfl rfl (di rfl rfl rfl hrow rfl) ?_
  repeat refine ac rfl ?_
  rw [hc16]
  repeat refine ac rfl ?_
  rw [hs16]
  refine wR rfl rfl rfl rfl rfl rfl rfl rfl rfl ?_
  rw [Int.toNat_natCast]
  refine bJ (bI (kd' := 0) rfl rfl rfl hrow rfl rfl (by repeat' constructor) rfl rfl rfl rfl ?_)
  repeat refine ac rfl ?_
  rw [hqf]
  repeat refine ac rfl ?_
  exact hfin s4 _ (q - 1) hqe hdg .ret _ (.inl rfl) rfl ⟨cz g 180 1 0 (j + (n + 2)) Q2 (UInt16.ofNat (ul Q2 (j + (n + 2)) + c2)),rfl,trivial⟩
class HQ (q : Rat) (n : outParam Nat) : Prop where
 ok : hq q n
class Vq (x : RR) (p : outParam Rat) (n : outParam Nat) : Prop where
 val : x.val = p
 sz : x.n.l.length ≤ n ∧ x.d.l.length ≤ n
class Zb (z : Int) : Prop where
 ok : z.natAbs < 65536 ^ 4
theorem HQ.pos {q : Rat} {n : Nat} (h : HQ q n) : 1 ≤ n := uL h.ok
theorem HQ.mono {q : Rat} {n m : Nat} (h : HQ q n) (hm : n ≤ m) : HQ q m := ⟨iG h.ok hm⟩
instance HQ.add {p q : Rat} {n m : Nat} [h1 : HQ p n] [h2 : HQ q m] : HQ (p + q) (n + m + 1) := ⟨np h1.ok h2.ok⟩
instance HQ.sub {p q : Rat} {n m : Nat} [h1 : HQ p n] [h2 : HQ q m] : HQ (p - q) (n + m + 1) := ⟨by rw [Rat.sub_eq_add_neg];exact np h1.ok (kK h2.ok)⟩
instance HQ.mul {p q : Rat} {n m : Nat} [h1 : HQ p n] [h2 : HQ q m] : HQ (p * q) (n + m) := ⟨uK h1.ok h2.ok⟩
instance HQ.div {p q : Rat} {n m : Nat} [h1 : HQ p n] [h2 : HQ q m] : HQ (p / q) (n + m) := ⟨uI h1.ok h2.ok⟩
instance HQ.neg {q : Rat} {n : Nat} [h : HQ q n] : HQ (-q) n := ⟨kK h.ok⟩
instance HQ.int {z : Int} [h : Zb z] : HQ (z : Rat) 4 := ⟨gV h.ok (by decide)⟩
instance HQ.zero : HQ (0 : Rat) 4 := ⟨gV (z := 0) (by decide) (by decide)⟩
instance HQ.one : HQ (1 : Rat) 4 := ⟨gV (z := 1) (by decide) (by decide)⟩
instance HQ.two : HQ (2 : Rat) 4 := ⟨gV (z := 2) (by decide) (by decide)⟩
instance Vq.ofQ {q : Rat} {n : Nat} [h : HQ q n] : Vq (ofQ q) q n := ⟨Go.Pv.ofQ_val q,(gE h.ok).ok⟩
instance Vq.zero : Vq RR.zero 0 0 := ⟨RR.zero_val,Nat.le_refl _,Nat.le_refl _⟩
theorem Vq.hq {x : RR} {p : Rat} {n : Nat} (h : Vq x p n) : HQ p (n + 1) := ⟨by rw [← h.val];exact SZ.hq ⟨h.sz⟩⟩
theorem Vq.raw {x : RR} {n : Nat} (h1 : x.n.l.length ≤ n) (h2 : x.d.l.length ≤ n) : Vq x x.val n := ⟨rfl,h1,h2⟩
theorem aN {z : Int} (h0 : -9223372036854775808 ≤ z) (h1 : z ≤ 9223372036854775807) : Zb z := ⟨by
 have : (65536 : Nat) ^ 4 = 18446744073709551616 := by decide
 omega⟩
def ak (f : Nat → Rat) : Nat → Rat
 |0 => 0
 |n + 1 => ak f n + f n
theorem ee {f g : Nat → Rat} : ∀ {n : Nat},(∀ k,k < n → f k = g k) → ak f n = ak g n
 |0,_ => rfl
 |n + 1,h => by rw [ak,ak,ee fun k hk => h k (by omega),h n (by omega)]
theorem be {f : Nat → Rat} {m : Nat} : ∀ (n : Nat),(∀ k,k < n → HQ (f k) m) → HQ (ak f n) (n * (m + 1) + 4)
 |0,_ => by rw [Nat.zero_mul,Nat.zero_add];exact HQ.zero
 |n + 1,h => by
  have h1 := be n fun k hk => h k (by omega)
  have h2 := h n (by omega)
  exact (HQ.add (h1 := h1) (h2 := h2)).mono (by rw [Nat.add_mul];omega)
theorem fX {f : Nat → Rat} : ∀ {n : Nat},(∀ k,k < n → 0 ≤ f k) → 0 ≤ ak f n
 |0,_ => by rw [ak];exact Rat.le_refl
 |n + 1,h => by
  have h1 := fX (f := f) (n := n) fun k hk => h k (by omega)
  have h2 := h n (by omega)
  rw [ak];grind
theorem pQ {L : Lay} {s : St} {fn : Func} {r d : PV} {l : List PV} {A Cd : Prop} {fl : Fl} (h : vV L s fn.results.toList = some (l,A)) (ha : A) (hres : dy s 5 (fx l) = some (d,Cd,fl)) (hc : Cd) (hd : d = r) : aj L fn .shared r .ret s := by
 unfold aj
 exact ⟨l,A,d,Cd,fl,h,ha,hres,hc,trivial,hd⟩
theorem aF {L : Lay} {s : St} {fn : Func} {r d : PV} {l : List PV} {A Cd : Prop} {fl : Fl} (h : vV L s fn.results.toList = some (l,A)) (hres : dy s 5 (fx l) = some (d,Cd,fl)) (hd : d = r) (ha : A := by repeat' constructor) (hc : Cd := by repeat' constructor) : aj L fn .shared r .ret s := pQ h ha hres hc hd
def eI (a : RI) : List PV := [.bool a.neg,.sl (a.l.map eU)]
def eR (x : RR) : List PV := [.bool x.n.neg,.sl (x.n.l.map eU),.bool x.d.neg,.sl (x.d.l.map eU)]
theorem u9 : bz 0 = ⟨false,[]⟩ := by rw [bz];simp [a_]
def cT (neg : Bool) (n : Nat) : Int := if neg then -(n : Int) else n
theorem j3 (neg : Bool) (n : Nat) : bz (cT neg n) = if n = 0 then ⟨false,[]⟩ else ⟨neg,ao n⟩ := by
 split
 ·rename_i h;subst h;cases neg <;> exact u9
 ·rename_i h
  cases neg
  ·rw [bz,cT]
   simp only [Bool.false_eq_true,if_false,Int.natAbs_natCast]
   rw [decide_eq_false (by omega)]
  ·rw [bz,cT]
   simp only [if_true,Int.natAbs_neg,Int.natAbs_natCast]
   rw [decide_eq_true (by omega)]
theorem RI.val_sgz (a : RI) : a.val = cT a.neg (nv a.l) := rfl
set_option maxRecDepth 20000 in
theorem ky (l : List UInt16) (hl : l.length ≤ 300000000) : Ret Tryz.prog .fresh 198 [.sl (l.map eU)] (.sl (l.map eU)) := by
 refine Ret.of_pwp layOk mixed Go.Proofs.Tryz.func198 rfl (by decide) rfl rfl ?_
 ((repeat ((fail_if_success (with_reducible refine aP 1 ?_));refine cF rfl ?_));refine aE 1 ?_)
 refine ac rfl ?_
 refine aR ?_
 refine aV rfl (mK layOk rfl rfl rfl (fun h0 => ?_) ?_)
 ·rw [h0]
  refine aJ ?_
  (repeat ((fail_if_success (with_reducible refine ic ?_));refine cF rfl ?_))
  refine aB (Ghost.nilfs (t := 2) rfl) ?_
  repeat refine ac rfl ?_
  exact ox rfl rfl rfl trivial rfl
 ·refine aJ ?_
  repeat refine ac rfl ?_
  refine ay (bb 0 rfl rfl rfl rfl rfl rfl rfl rfl rfl rfl rfl (by repeat' constructor) rfl ?_)
  repeat refine ac rfl ?_
  refine ay (bC 1 rfl rfl rfl rfl rfl rfl rfl rfl rfl rfl rfl (by repeat' constructor) (by intro row hr;obtain ⟨p,_,rfl⟩ := List.mem_map.1 hr;rfl) rfl rfl (by simp;omega) (by simp;omega) ?_)
  (repeat ((fail_if_success (with_reducible refine ic ?_));refine cF rfl ?_))
  refine aB (Ghost.takeF (k := 5) (t := 2) l rfl rfl rfl rfl (fun _ => rfl)) ?_
  repeat refine ac rfl ?_
  exact ox rfl rfl rfl (by repeat' constructor) rfl
set_option maxRecDepth 20000 in
theorem cK (neg : Bool) (l : List UInt16) (hl : l.length ≤ 300000000) : Ret Tryz.prog .shared 181 [.bool neg,.sl (l.map eU)] (.agg (eI (bz (cT neg (nv l))))) := by
 have ht := bN l (by omega)
 have hml : ((aG l).map eU).length = (aG l).length := by simp
 have htl := bq l
 rw [j3]
 by_cases h0 : nv l = 0
 ·rw [if_pos h0]
  have hz : aG l = [] := by rw [aG,h0,a_]
  rw [hz] at ht
  refine Ret.of_pwp layOk mixed Go.Proofs.Tryz.func181 rfl (by decide) rfl rfl ?_
  repeat refine ac rfl ?_
  refine aq rfl rfl rfl ht rfl rfl ?_
  (repeat ((fail_if_success (with_reducible refine ic ?_));refine cF rfl ?_))
  refine aB (Ghost.nilcell (k := 1000) (k0 := 4) (i := 0) (j := 1) 180 1 0 rfl rfl rfl rfl (row := [.bool false,.nil]) rfl rfl rfl) ?_
  repeat refine ac rfl ?_
  exact aF rfl rfl rfl
 ·rw [if_neg h0]
  have hz : (aG l).length ≠ 0 := by
   intro h
   have h1 := bY l
   rw [List.length_eq_zero_iff.1 h] at h1
   exact h0 h1.symm
  have hc := ky (aG l) (by omega)
  rw [aG] at *
  generalize ao (nv l) = t at *
  refine Ret.of_pwp layOk mixed Go.Proofs.Tryz.func181 rfl (by decide) rfl rfl ?_
  repeat refine ac rfl ?_
  refine aq rfl rfl rfl ht rfl rfl ?_
  repeat refine ac rfl ?_
  refine ae rfl ?_ ?_<;>intro h
  ·have := of_decide_eq_true h;omega
  ·clear h
   repeat refine ac rfl ?_
   refine AM rfl rfl rfl hc rfl rfl ?_
   repeat refine ac rfl ?_
   exact aF rfl rfl rfl
set_option maxRecDepth 20000 in
theorem pC (l : List UInt16) (hl : l.length ≤ 300000000) : Ret Tryz.prog .shared 199 [.sl (l.map eU)] (if l.length ≤ 4 then .tup [.int .u64 (nv l : Nat),.bool true] else .tup [.int .u64 0,.bool false]) := by
 have hml : (l.map eU).length = l.length := by simp
 by_cases h4 : l.length ≤ 4
 ·rw [if_pos h4]
  have hw0 : IntKind.i64.wrap (((((l.map eU).length : Nat) : Int)) - 1) = (l.length : Int) - 1 := by rw [hml,wrap_i64 (by omega) (by omega)]
  refine Ret.of_pwp layOk mixed Go.Proofs.Tryz.func199 rfl (by decide) rfl rfl ?_
  repeat refine ac rfl ?_
  refine ae rfl ?_ ?_<;>intro h
  ·have := of_decide_eq_true h;omega
  clear h
  repeat refine ac rfl ?_
  rw [hw0]
  refine ax (fun k : Nat => k ≤ l.length) (fun k => [(0,.sl (l.map eU)),(4,.int .u64 (nv (l.drop k) : Nat)),(5,I ((k : Int) - 1))]) (fun _ => []) (fun k => k) l.length (Nat.le_refl _) ⟨rfl,?_,rfl,trivial⟩ ?_
  ·rw [List.drop_length];rfl
  intro k s hk
  repeat refine ac rfl ?_
  refine ae rfl ?_ ?_<;>intro h
  ·have hk0 : 0 < k := by have := of_decide_eq_true h;omega
   clear h
   obtain ⟨j,rfl⟩ : ∃ j,k = j + 1 := ⟨k - 1,by omega⟩
   have e1 : (((j + 1 : Nat) : Int) - 1) = (j : Nat) := by omega
   rw [e1]
   obtain ⟨x,hx⟩ := aM (show j < l.length by omega)
   have hxl := aQ x
   have hd := c9 hx
   have hlt := bB (l.drop (j + 1))
   have hp : 65536 ^ (l.drop (j + 1)).length ≤ 65536 ^ 3 := Nat.pow_le_pow_right (by decide) (by rw [List.length_drop];omega)
   have hp3 : 65536 ^ 3 = 281474976710656 := by decide
   generalize nv (l.drop (j + 1)) = a at *
   have hor := zt (x := a) (y := x.toNat) (by omega) hxl
   have ex : IntKind.u64.wrap (x.toNat : Int) = (x.toNat : Int) := wrap_u64 (by omega) (by omega)
   repeat refine ac rfl ?_
   rw [wc (by omega)]
   refine bm rfl rfl rfl rfl rfl rfl rfl hx rfl ?_
   repeat refine ac rfl ?_
   rw [ex,hor]
   repeat refine ac rfl ?_
   refine ⟨j,by omega,by omega,rfl,?_,?_,trivial⟩
   ·show PV.int .u64 ((a * 65536 + x.toNat : Nat) : Int) = _
    rw [hd,show x.toNat + 65536 * a = a * 65536 + x.toNat by omega]
   ·exact congrArg I (wrap_i64 (by omega) (by omega))
  ·have hk0 : k = 0 := by have := of_decide_eq_false h;omega
   subst hk0
   clear h
   rw [List.drop_zero]
   generalize nv l = v
   repeat refine ac rfl ?_
   exact pP rfl rfl rfl rfl rfl trivial trivial rfl
 ·rw [if_neg h4]
  refine Ret.of_pwp layOk mixed Go.Proofs.Tryz.func199 rfl (by decide) rfl rfl ?_
  repeat refine ac rfl ?_
  refine ae rfl ?_ ?_<;>intro h
  ·repeat refine ac rfl ?_
   exact pP rfl rfl rfl rfl rfl trivial trivial rfl
  ·have := of_decide_eq_false h;omega
set_option maxRecDepth 20000 in
theorem jI (n : Nat) (hn : n < 18446744073709551616) : Ret Tryz.prog .shared 182 [.int .u64 (n : Nat)] (.sl ((ao n).map eU)) := by
 refine Ret.of_pwp layOk mixed Go.Proofs.Tryz.func182 rfl (by decide) rfl rfl ?_
 ((repeat (first | refine aR ?_ | refine bV ?_ | refine bR ?_ | refine bQ ?_));refine aY ?_)
 refine gy rfl trivial ?_
 ((repeat (first | refine aR ?_ | refine bV ?_ | refine bR ?_ | refine bQ ?_));refine aY ?_)
 (first | refine ay (eE 180 1 0 rfl rfl ?_) | refine ay (ez 180 1 0 rfl rfl ?_))
 repeat refine ac rfl ?_
 refine ax (fun q : Nat × List UInt16 => ao n = q.2 ++ ao q.1 ∧ q.1 * 65536 ^ q.2.length ≤ n) (fun q => [(0,.int .u64 (q.1 : Nat)),(3,.als 3 (1 + q.2.length) 0 (q.2.map eU).length)]) (fun q => [(3,1 + q.2.length,⟨180,1,q.2.map eU,0⟩)]) (fun q => q.1) (n,[]) ⟨rfl,by simp⟩ ⟨rfl,rfl,rfl,trivial⟩ ?_
 rintro ⟨m,L⟩ s ⟨hL,hb⟩
 simp only at hL hb
 dsimp only
 repeat refine ac rfl ?_
 refine ae rfl ?_ ?_<;>intro h
 ·have hm : 0 < m := by have := of_decide_eq_true h;omega
  clear h
  have hLl : L.length < 4 := by
   rcases Nat.lt_or_ge L.length 4 with h | h
   ·exact h
   ·exfalso
    have h1 : 65536 ^ 4 ≤ 65536 ^ L.length := Nat.pow_le_pow_right (by decide) h
    have h2 := Nat.mul_le_mul (show 1 ≤ m by omega) h1
    have : 1 * 65536 ^ 4 = 18446744073709551616 := by decide
    omega
  have hL2 : ao n = (L ++ [UInt16.ofNat m]) ++ ao (m / 65536) := by rw [hL,cp (by omega)];simp
  have hb2 : m / 65536 * 65536 ^ (L ++ [UInt16.ofNat m]).length ≤ n := by
   rw [List.length_append,List.length_singleton,Nat.pow_succ,Nat.mul_comm (65536 ^ _),← Nat.mul_assoc]
   exact Nat.le_trans (Nat.mul_le_mul_right _ (Nat.div_mul_le_self _ _)) hb
  repeat refine ac rfl ?_
  rw [wrap_u16]
  refine bx rfl rfl (da rfl rfl rfl rfl rfl rfl rfl rfl rfl rfl (by repeat' constructor) rfl) ?_
  refine ay (bC 0 rfl rfl rfl rfl rfl rfl rfl rfl rfl rfl rfl (by repeat' constructor) (by intro row hr;first | (simp at hr;subst hr;rfl) | simp at hr) rfl rfl (by simp;omega) (by simp;omega) ?_)
  repeat refine ac rfl ?_
  refine ⟨(m / 65536,L ++ [UInt16.ofNat m]),⟨hL2,hb2⟩,by simp only;omega,?_,?_,?_,trivial⟩
  ·show PV.int .u64 ((m : Int) / 2 ^ (16 : Int).toNat) = PV.int .u64 ((m / 65536 : Nat) : Int)
   rw [show ((2 : Int) ^ (16 : Int).toNat) = 65536 by decide];congr 1
  ·exact jU eU 3 1 L (UInt16.ofNat m)
  ·exact iy eU 1 180 1 0 L (UInt16.ofNat m)
 ·have hm : m = 0 := by have := of_decide_eq_false h;omega
  subst hm
  clear h
  rw [a_,List.append_nil] at hL
  rw [hL]
  repeat refine ac rfl ?_
  exact eM rfl rfl rfl ⟨rfl,rfl,rfl⟩ rfl
theorem rO {R : List UInt16} {j m : Nat} (h : nv ((R.drop j).drop m) = 0) : uw R j m = nv (R.drop j) := by
 rcases Nat.le_total m (R.drop j).length with hm | hm
 ·rw [uw,bU (R.drop j) m hm,h];omega
 ·rw [uw,List.take_of_length_le hm]
theorem ny {l : List UInt16} {m : Nat} (h : nv l < 65536 ^ m) : nv (l.drop m) = 0 := by
 rcases Nat.le_total m l.length with hm | hm
 ·rw [bU l m hm] at h
  rcases Nat.eq_zero_or_pos (nv (l.drop m)) with h0 | h0
  ·exact h0
  ·have := Nat.mul_le_mul_left (65536 ^ m) h0
   omega
 ·rw [List.drop_of_length_le hm];rfl
theorem wz {R R' : List UInt16} {j : Nat} (hl : R'.length = R.length) (h : ∀ t,t < j → ul R' t = ul R t) : R'.take j = R.take j := by
 apply List.ext_getElem?;intro k
 rw [List.getElem?_take,List.getElem?_take]
 split
 ·rcases Nat.lt_or_ge k R.length with hk | hk
  ·rw [i2 (by omega),i2 hk]
   congr 1
   exact lF (h k ‹_›)
  ·rw [List.getElem?_eq_none hk,List.getElem?_eq_none (by omega)]
 ·rfl
theorem uA {R R' : List UInt16} {j : Nat} (hl : R'.length = R.length) (h : ∀ t,j ≤ t → ul R' t = ul R t) : R'.drop j = R.drop j := by
 apply List.ext_getElem?;intro k
 rw [List.getElem?_drop,List.getElem?_drop]
 rcases Nat.lt_or_ge (j + k) R.length with hk | hk
 ·rw [i2 (by omega),i2 hk]
  congr 1
  exact lF (h (j + k) (by omega))
 ·rw [List.getElem?_eq_none hk,List.getElem?_eq_none (by omega)]
structure DivI (V : List UInt16) (N n A0 : Nat) (z : Nat × List UInt16 × List UInt16) : Prop where
 k : z.1 ≤ N - n
 r : z.2.1.length = N
 q : z.2.2.length = N - n
 v : nv z.2.1 + nv V * (65536 ^ z.1 * nv (z.2.2.drop z.1)) = A0
 lt : nv (z.2.1.drop z.1) < nv V
theorem qU {V : List UInt16} {N n A0 j : Nat} {R Q : List UInt16} (hV : V.length = n) (hn : n < N) (h : DivI V N n A0 (j + 1,R,Q)) : uw R j (n + 1) = nv (R.drop j) ∧ uw R j (n + 1) < 65536 * nv V ∧ j + (n + 1) ≤ R.length := by
 have h1 := h.k
 have h2 := h.r
 have h5 := h.lt
 simp only at h1 h2 h5
 have hlt : nv (R.drop (j + 1)) < 65536 ^ n := Nat.lt_trans h5 (by rw [← hV];exact bB V)
 have hz := ny hlt
 have e1 : uw R j (n + 1) = nv (R.drop j) := rO (by rw [List.drop_drop,show j + (n + 1) = (j + 1) + n by omega,← List.drop_drop];exact hz)
 have e2 := c9 (i2 (R := R) (i := j) (by omega))
 have := aQ (R.getD j 0)
 exact ⟨e1,by rw [e1,e2];omega,by omega⟩
theorem ut {V : List UInt16} {N n A0 j : Nat} {R Q R' : List UInt16} (hV : V.length = n) (hn : n < N) (hV0 : 0 < nv V) (h : DivI V N n A0 (j + 1,R,Q)) (hd : Digd R V j n R') :
  uw R j (n + 1) / nv V < 65536 ∧ DivI V N n A0 (j,R',Q.set j (UInt16.ofNat (uw R j (n + 1) / nv V))) := by
 obtain ⟨w1,w2,w3⟩ := qU hV hn h
 have h1 := h.k
 have h2 := h.r
 have h3 := h.q
 have h4 := h.v
 have h5 := h.lt
 simp only at h1 h2 h3 h4 h5
 have hql : uw R j (n + 1) / nv V < 65536 := Nat.div_lt_of_lt_mul (by rw [Nat.mul_comm];exact w2)
 have hRl := hd.l
 have htk : R'.take j = R.take j := wz hRl fun t ht => hd.o t (.inl ht)
 have hlt : nv (R.drop (j + 1)) < 65536 ^ n := Nat.lt_trans h5 (by rw [← hV];exact bB V)
 have hz := ny hlt
 have hdr : R'.drop (j + (n + 1)) = R.drop (j + (n + 1)) := uA hRl fun t ht => hd.o t (.inr ht)
 have e1 : uw R' j (n + 1) = nv (R'.drop j) := rO (by rw [List.drop_drop,hdr,show j + (n + 1) = (j + 1) + n by omega,← List.drop_drop];exact hz)
 have e2 : nv (R'.drop j) = nv (R.drop j) % nv V := by rw [← e1,hd.v,w1]
 refine ⟨hql,by simp only;omega,by simp only;omega,by simp [h3],?_,?_⟩
 ·simp only
  have s1 := bU R' j (by omega)
  have s2 := bU R j (by omega)
  rw [htk,e2] at s1
  rw [w1] at hql ⊢
  rw [drop_set_self' (by omega),nv,aL,Nat.mod_eq_of_lt hql,s1,← h4,s2]
  have e3 := Nat.div_add_mod (nv (R.drop j)) (nv V)
  have e4 : nv V * (65536 ^ j * (nv (R.drop j) / nv V + 65536 * nv (Q.drop (j + 1)))) = 65536 ^ j * (nv V * (nv (R.drop j) / nv V)) + nv V * (65536 ^ (j + 1) * nv (Q.drop (j + 1))) := by
   rw [Nat.mul_add,Nat.mul_add,Nat.pow_succ]
   congr 1
   ·simp only [Nat.mul_left_comm]
   ·simp only [Nat.mul_assoc]
  rw [e4]
  have e5 : 65536 ^ j * (nv (R.drop j) % nv V) + 65536 ^ j * (nv V * (nv (R.drop j) / nv V)) = 65536 ^ j * nv (R.drop j) := by rw [← Nat.mul_add];congr 1;omega
  omega
 ·simp only
  rw [e2];exact Nat.mod_lt _ hV0
where
 drop_set_self' {l : List UInt16} {i : Nat} {y : UInt16} (h : i < l.length) : (l.set i y).drop i = y :: l.drop (i + 1) := by
  have h1 : (l.set i y)[i]? = some y := List.getElem?_set_self h
  have h2 := List.drop_eq_getElem?_toList_append (l := l.set i y) (i := i)
  rw [h1] at h2
  rw [h2]
  show y :: (l.set i y).drop (i + 1) = _
  congr 1
  apply List.ext_getElem?;intro j
  rw [List.getElem?_drop,List.getElem?_drop,List.getElem?_set_ne (by omega)]
theorem xo {V : List UInt16} {N n a b s : Nat} {R Q : List UInt16} (hV : nv V = b * 2 ^ s) (hb : 0 < b) (h : DivI V N n (a * 2 ^ s) (0,R,Q)) : nv Q = a / b ∧ nv R = a % b * 2 ^ s := by
 have h4 := h.v
 have h5 := h.lt
 simp only [List.drop_zero,Nat.pow_zero,Nat.one_mul] at h4 h5
 have hp : 0 < 2 ^ s := Nat.pow_pos (by decide)
 rw [hV] at h4 h5
 have e1 : nv Q = a * 2 ^ s / (b * 2 ^ s) := by
  rw [← h4,Nat.add_mul_div_left _ _ (Nat.mul_pos hb hp),Nat.div_eq_of_lt h5];omega
 have e2 : nv R = a * 2 ^ s % (b * 2 ^ s) := by
  rw [← h4,Nat.add_mul_mod_self_left,Nat.mod_eq_of_lt h5]
 rw [Nat.mul_div_mul_right _ _ hp] at e1
 rw [Nat.mul_mod_mul_right] at e2
 exact ⟨e1,e2⟩
theorem sk {V a b R Q : List UInt16} {s : Nat} (hVl : V.length = b.length) (hV : nv V = nv b * 2 ^ s) (hbl : b.length ≤ a.length) (hs : s ≤ 15) (htop : 32768 * 65536 ^ (b.length - 1) ≤ nv V) (hb : 1 ≤ b.length) (hRl : R.length = a.length + 1) (hR : nv R = nv a * 2 ^ s) (hQl : Q.length = a.length + 1 - b.length) (hQ : nv Q = 0 ∨ True) :
  DivI V (a.length + 1) b.length (nv a * 2 ^ s) (a.length + 1 - b.length,R,Q) := by
 refine ⟨Nat.le_refl _,hRl,hQl,?_,?_⟩
 ·simp only
  rw [List.drop_of_length_le (by omega),nv,Nat.mul_zero,Nat.mul_zero,hR];omega
 ·simp only
  refine Nat.lt_of_lt_of_le ?_ htop
  have h1 := bU R (a.length + 1 - b.length) (by omega)
  have h2 := bB a
  have hp : 0 < 65536 ^ (a.length + 1 - b.length) := ib _
  have hs2 : 2 ^ s ≤ 32768 := Nat.pow_le_pow_right (n := 2) (by decide) hs
  have h3 : nv a * 2 ^ s < 65536 ^ a.length * 32768 := by
   have := Nat.mul_le_mul_left (nv a) hs2
   have := (Nat.mul_lt_mul_right (show 0 < 32768 by decide)).2 h2
   omega
  have h4 : 65536 ^ a.length = 65536 ^ (a.length + 1 - b.length) * 65536 ^ (b.length - 1) := by rw [← Nat.pow_add];congr 1;omega
  rw [h4,Nat.mul_assoc] at h3
  rw [hR] at h1
  rw [h1] at h3
  have h5 : 65536 ^ (a.length + 1 - b.length) * nv (R.drop (a.length + 1 - b.length)) < 65536 ^ (a.length + 1 - b.length) * (65536 ^ (b.length - 1) * 32768) := by omega
  have := Nat.lt_of_mul_lt_mul_left h5
  rw [Nat.mul_comm];exact this
theorem wd {R : List UInt16} {i s : Nat} (hs : s ≤ 15) (hi : i + 1 < R.length) : (ul R i + 65536 * ul R (i + 1)) / 2 ^ s % 65536 = nv R / 2 ^ s / 65536 ^ i % 65536 := by
 have e1 : nv R / 65536 ^ i = nv (R.drop i) := by
  rw [bU R i (by omega),Nat.add_mul_div_left _ _ (ib _),Nat.div_eq_of_lt (dp R i)];omega
 rw [Nat.div_div_eq_div_mul (nv R),Nat.mul_comm (2 ^ s),← Nat.div_div_eq_div_mul,e1,c9 (i2 (by omega)),c9 (i2 (i := i + 1) (by omega))]
 show (ul R i + 65536 * ul R (i + 1)) / 2 ^ s % 65536 = (ul R i + 65536 * (ul R (i + 1) + 65536 * nv (R.drop (i + 1 + 1)))) / 2 ^ s % 65536
 generalize nv (R.drop (i + 1 + 1)) = H
 have hd : 2 ^ s * 2 ^ (16 - s) = 65536 := by rw [← Nat.pow_add,show s + (16 - s) = 16 by omega]
 have e2 : ul R i + 65536 * (ul R (i + 1) + 65536 * H) = (ul R i + 65536 * ul R (i + 1)) + 2 ^ s * (65536 * (2 ^ (16 - s) * H)) := by
  have : 2 ^ s * (65536 * (2 ^ (16 - s) * H)) = 65536 * (65536 * H) := by
   rw [Nat.mul_left_comm,← Nat.mul_assoc (2 ^ s),hd]
  rw [this];omega
 rw [e2,Nat.add_mul_div_left _ _ (Nat.pow_pos (by decide)),Nat.add_mul_mod_self_left]
structure RemI (R : List UInt16) (n s : Nat) (k : Nat × List UInt16) : Prop where
 i : k.1 ≤ n
 l : k.2.length = n
 v : nv (k.2.take k.1) = nv R / 2 ^ s % 65536 ^ k.1
theorem vM {R Q : List UInt16} {n s i : Nat} (h : RemI R n s (i,Q)) (hs : s ≤ 15) (hR : n + 1 ≤ R.length) (hi : i < n) : RemI R n s (i + 1,Q.set i (UInt16.ofNat ((ul R i + 65536 * ul R (i + 1)) / 2 ^ s))) := by
 obtain ⟨h1,h2,h3⟩ := h
 simp only at h1 h2 h3
 refine ⟨hi,by simp [h2],?_⟩
 simp only
 rw [cf (i := i) (List.getElem?_set_self (by omega)),take_set',h3,aL,wd hs (by omega),Nat.mod_pow_succ]
where
 take_set' {l : List UInt16} {i : Nat} {y : UInt16} : nv ((l.set i y).take i) = nv (l.take i) := by
  congr 1
  apply List.ext_getElem?;intro j
  rw [List.getElem?_take,List.getElem?_take]
  split
  ·rw [List.getElem?_set_ne (by omega)]
  ·rfl
theorem zK {x y : Nat} (hx : x < 65536) (hy : y < 65536) : bits .or .u32 (x : Int) ((y * 65536 : Nat) : Int) = ((x + 65536 * y : Nat) : Int) := by
 rw [bits_join_low .u32 32 (by decide) wraps_u32 16 _ _ (by omega) (by omega) (by omega) (by omega) (by omega) (by omega)];omega
def xp (a b : List UInt16) : PV := .tup [.sl ((ao (nv a / nv b)).map eU),.sl ((ao (nv a % nv b)).map eU)]
set_option maxRecDepth 20000 in
theorem sn (a b : List UInt16) (ha : a.length ≤ 100000000) (hb : b.length ≤ 100000000) (hta : Trm a) (htb : Trm b) (hlt : nv a < nv b) : Ret Tryz.prog .shared 186 [.sl (a.map eU),.sl (b.map eU)] (xp a b) := by
 have hc := eg a b (by omega) (by omega)
 have hneg := (dM hta htb).1.2 hlt
 rw [xp,Nat.div_eq_of_lt hlt,Nat.mod_eq_of_lt hlt,a_,dR hta]
 generalize gv a b = c at *
 refine Ret.of_pwp layOk mixed Go.Proofs.Tryz.func186 rfl (by decide) rfl rfl ?_
 repeat refine ac rfl ?_
 refine aT rfl rfl rfl hc rfl rfl rfl ?_
 repeat refine ac rfl ?_
 refine ae rfl ?_ ?_<;>intro h
 ·clear h
  repeat refine ac rfl ?_
  refine AM rfl rfl rfl (ky a (by omega)) rfl rfl ?_
  (repeat ((fail_if_success (with_reducible refine ic ?_));refine cF rfl ?_))
  refine aB (Ghost.nilsl (t := 4) rfl) ?_
  repeat refine ac rfl ?_
  exact pP rfl rfl rfl rfl rfl trivial trivial rfl
 ·have := of_decide_eq_false h;omega
set_option maxRecDepth 20000 in
theorem pN (a : List UInt16) (b : UInt16) (ha : a.length ≤ 100000000) (hta : Trm a) (htb : Trm [b]) (hge : nv [b] ≤ nv a) : Ret Tryz.prog .shared 186 [.sl (a.map eU),.sl [eU b]] (xp a [b]) := by
 have hc := eg a [b] (by omega) (by simp)
 have hneg : ¬ gv a [b] < 0 := fun h => by have := (dM hta htb).1.1 h;omega
 have hb0 : 0 < b.toNat := by have := htb b rfl;omega
 have hs := tk a b ha hb0
 have hnb : nv [b] = b.toNat := by simp [nv]
 rw [xp,hnb]
 have hml := Nat.mod_lt (nv a) hb0
 have hbl := aQ b
 have hx := bN [UInt16.ofNat (nv a % b.toNat)] (by simp)
 have hxv : aG [UInt16.ofNat (nv a % b.toNat)] = ao (nv a % b.toNat) := by
  rw [aG];congr 1;simp [nv];omega
 rw [hxv] at hx
 have hxe : ([UInt16.ofNat (nv a % b.toNat)].map eU) = [[PV.int .u16 ((nv a % b.toNat : Nat) : Int)]] := by
  show [[PV.int .u16 _]] = _
  rw [aL,Nat.mod_eq_of_lt (by omega)]
 rw [hxe] at hx
 generalize gv a [b] = c at *
 generalize nv a % b.toNat = m at *
 refine Ret.of_pwp layOk mixed Go.Proofs.Tryz.func186 rfl (by decide) rfl rfl ?_
 repeat refine ac rfl ?_
 refine aT rfl rfl rfl hc rfl rfl rfl ?_
 repeat refine ac rfl ?_
 refine ae rfl ?_ ?_<;>intro h
 ·have := of_decide_eq_true h;omega
 clear h
 repeat refine ac rfl ?_
 refine bx rfl rfl (vC rfl rfl rfl rfl rfl (by decide) rfl rfl) ?_
 repeat refine ac rfl ?_
 refine aq rfl rfl rfl hs rfl rfl ?_
 repeat refine ac rfl ?_
 refine bx rfl rfl (da rfl rfl rfl rfl rfl rfl rfl rfl rfl rfl (by repeat' constructor) rfl) ?_
 repeat refine ac rfl ?_
 refine aq rfl rfl rfl hx rfl rfl ?_
 repeat refine ac rfl ?_
 exact pP rfl rfl rfl rfl rfl trivial trivial rfl
set_option maxRecDepth 40000 in
set_option maxHeartbeats 4000000 in
theorem om (a b : List UInt16) {n : Nat} (ha : a.length ≤ 100000000) (hb : b.length = n + 2) (hta : Trm a) (htb : Trm b) (hge : nv b ≤ nv a) : Ret Tryz.prog .shared 186 [.sl (a.map eU),.sl (b.map eU)] (xp a b) := by
 have hba : b.length ≤ a.length := by
  rcases Nat.lt_or_ge a.length b.length with h | h
  ·exfalso
   have h1 := qD htb (k := n + 1) hb
   have h2 := bB a
   have h3 : 65536 ^ a.length ≤ 65536 ^ (n + 1) := b7 (by omega)
   omega
  ·exact h
 have hc := eg a b (by omega) (by omega)
 have hneg : ¬ gv a b < 0 := fun h => by have := (dM hta htb).1.1 h;omega
 have hbml : (b.map eU).length = n + 2 := by rw [List.length_map,hb]
 have hbt := i2 (R := b) (i := n + 1) (by omega)
 have ht0 : ul b (n + 1) ≠ 0 := htb _ (by rw [List.getLast?_eq_getElem?,hb,show n + 2 - 1 = n + 1 by omega];exact hbt)
 have hlead := uS (b.getD (n + 1) 0) ht0
 have hl16 := oO ht0 (aQ _)
 rw [show (b.getD (n + 1) 0).toNat = ul b (n + 1) from rfl] at hlead
 have hb0 : 0 < nv b := by
  have h1 := qD htb (k := n + 1) hb
  have := ib (n + 1)
  omega
 have hbtl := cm b (n + 1)
 have hbtop : nv b = uw b 0 (n + 1) + 65536 ^ (n + 1) * ul b (n + 1) := by
  have h1 := ct (R := b) (j := 0) (m := n + 1) (by omega)
  rw [lI hb (Nat.le_refl _),Nat.zero_add] at h1
  exact h1
 generalize hlt : gF (ul b (n + 1)) = t at *
 obtain ⟨s,hs⟩ : ∃ s,s = 16 - t := ⟨_,rfl⟩
 rw [← hs] at hlead
 have hs15 : s ≤ 15 := by omega
 have hgs : 32768 ≤ ul b (n + 1) * 2 ^ s ∧ ul b (n + 1) * 2 ^ s < 65536 := by
  have e1 : 2 ^ t * 2 ^ s = 65536 := by rw [← Nat.pow_add,show t + s = 16 by omega]
  have h1 := Nat.mul_le_mul_right (2 ^ s) hl16.2.2.1
  have h2 := (Nat.mul_lt_mul_right (Nat.pow_pos (show 0 < 2 by decide) : 0 < 2 ^ s)).2 hl16.2.2.2
  rw [e1] at h1 h2
  rw [Nat.mul_assoc] at h1
  omega
 have hsO := nS a s ha (by omega)
 have hsF := pg b s (by omega) (by omega)
 obtain ⟨V,hVd⟩ : ∃ V,V = (fL (b.length + 1) (nv b * 2 ^ s)).take (n + 2) := ⟨_,rfl⟩
 have hp : 0 < 2 ^ s := Nat.pow_pos (by decide)
 have hblt : nv b * 2 ^ s < 65536 ^ (n + 2) := by
  have h1 := mQ b 0 (n + 1)
  have h2 : nv b < 65536 ^ (n + 1) * (ul b (n + 1) + 1) := by rw [hbtop,Nat.mul_add];omega
  have h3 := (Nat.mul_lt_mul_right hp).2 h2
  have h4 : (ul b (n + 1) + 1) * 2 ^ s ≤ 65536 := by
   have e1 : 2 ^ t * 2 ^ s = 65536 := by rw [← Nat.pow_add,show t + s = 16 by omega]
   rw [← e1]
   exact Nat.mul_le_mul_right _ hl16.2.2.2
  have h5 := Nat.mul_le_mul_left (65536 ^ (n + 1)) h4
  rw [← Nat.mul_assoc] at h5
  rw [Nat.pow_succ];omega
 have hVl : V.length = n + 2 := by rw [hVd,List.length_take,fM,hb];omega
 have hVv : nv V = nv b * 2 ^ s := by
  have h1 := bU (fL (b.length + 1) (nv b * 2 ^ s)) (n + 2) (by rw [fM];omega)
  have h2 : nv (fL (b.length + 1) (nv b * 2 ^ s)) = nv b * 2 ^ s := nh _ _ (Nat.lt_of_lt_of_le hblt (b7 (by omega)))
  have h3 : nv ((fL (b.length + 1) (nv b * 2 ^ s)).drop (n + 2)) = 0 := ny (by rw [h2];exact hblt)
  rw [h2,h3,← hVd] at h1
  omega
 have hVtop : 32768 ≤ ul V (n + 1) := by
  have h1 := ct (R := V) (j := 0) (m := n + 1) (by omega)
  rw [lI hVl (Nat.le_refl _),Nat.zero_add] at h1
  have h2 := mQ V 0 (n + 1)
  have h3 : 65536 ^ (n + 1) * 32768 ≤ nv V := by
   rw [hVv,hbtop,Nat.add_mul,Nat.mul_assoc]
   have := Nat.mul_le_mul_left (65536 ^ (n + 1)) hgs.1
   omega
  rcases Nat.lt_or_ge (ul V (n + 1)) 32768 with h | h
  ·exfalso
   have := Nat.mul_le_mul_left (65536 ^ (n + 1)) (show ul V (n + 1) + 1 ≤ 32768 by omega)
   rw [Nat.mul_add] at this
   omega
  ·exact h
 have hV32 : 32768 * 65536 ^ (b.length - 1) ≤ nv V := by
  rw [hVv,hbtop,hb,show n + 2 - 1 = n + 1 by omega,Nat.add_mul,Nat.mul_assoc]
  have := Nat.mul_le_mul_left (65536 ^ (n + 1)) hgs.1
  rw [Nat.mul_comm (65536 ^ (n + 1)) 32768] at this
  omega
 have hV0 : 0 < nv V := by rw [hVv];exact Nat.mul_pos hb0 hp
 have hRl := fM (a.length + 1) (nv a * 2 ^ s)
 have hRv : nv (fL (a.length + 1) (nv a * 2 ^ s)) = nv a * 2 ^ s := nh _ _ (by
  have h1 := (Nat.mul_lt_mul_right hp).2 (bB a)
  have h2 : 2 ^ s ≤ 2 ^ 16 := Nat.pow_le_pow_right (n := 2) (by decide) (show s ≤ 16 by omega)
  rw [show 2 ^ 16 = 65536 by decide] at h2
  have := Nat.mul_le_mul_left (65536 ^ a.length) h2
  rw [Nat.pow_succ];omega)
 have hstart := fun Q hQ => sk (V := V) (a := a) (b := b) (Q := Q) (hVl.trans hb.symm) hVv hba hs15 hV32 (by omega) hRl hRv hQ (.inr trivial)
 generalize fL (a.length + 1) (nv a * 2 ^ s) = R0 at *
 rw [xp]
 generalize gv a b = c at *
 have c1 : IntKind.i64.wrap (((n + 2 : Nat) : Int) - 1) = ((n + 1 : Nat) : Int) := by rw [wrap_i64 (by omega) (by omega)];omega
 have c2 : IntKind.i64.wrap (((R0.map eU).length : Nat) - ((n + 2 : Nat) : Int)) = ((a.length + 1 - (n + 2) : Nat) : Int) := by rw [List.length_map,hRl,wrap_i64 (by omega) (by omega)];omega
 have c3 : IntKind.i64.wrap (((a.length + 1 - (n + 2) : Nat) : Int) - 1) = ((a.length + 1 - (n + 2) : Nat) : Int) - 1 := by rw [wrap_i64 (by omega) (by omega)]
 have hbi : (b.map eU)[((n + 1 : Nat) : Int).toNat]? = some [PV.int .u16 ((ul b (n + 1) : Nat) : Int)] := kD (by omega)
 refine Ret.of_pwp layOk mixed Go.Proofs.Tryz.func186 rfl (by decide) rfl rfl ?_
 repeat refine ac rfl ?_
 refine aT rfl rfl rfl hc rfl rfl rfl ?_
 repeat refine ac rfl ?_
 refine ae rfl ?_ ?_<;>intro h
 ·have := of_decide_eq_true h;omega
 clear h
 repeat refine ac rfl ?_
 rw [hbml]
 repeat refine ac rfl ?_
 rw [hbml,c1]
 refine bx rfl rfl (vC rfl rfl rfl rfl rfl (by omega) hbi rfl) ?_
 repeat refine ac rfl ?_
 refine aT rfl rfl rfl hlead rfl rfl rfl ?_
 repeat refine ac rfl ?_
 refine bM [44] [2] (by decide +kernel) ?_
 repeat refine ac rfl ?_
 refine qH rfl rfl rfl (xD rfl hsO rfl (by repeat' constructor) rfl ⟨iL rfl,?_⟩)
 repeat refine ac rfl ?_
 refine AM rfl rfl rfl hsF rfl rfl ?_
 repeat refine ac rfl ?_
 rw [hbml]
 refine bx rfl rfl (Ax 0 (n + 2) rfl rfl rfl rfl (.inl ⟨rfl,rfl⟩) (.inr ⟨_,_,rfl,rfl⟩) (by omega) (by rw [fM];omega) (fun _ => rfl)) ?_
 rw [List.drop_zero,← hVd]
 have hVml : (V.map eU).length = n + 2 := by rw [List.length_map,hVl]
 repeat refine ac rfl ?_
 rw [hVml]
 repeat refine ac rfl ?_
 rw [c2]
 refine ay (fi rfl rfl rfl rfl rfl rfl rfl rfl (by omega) (by show (2 : Int) * _ ≤ _;omega) (by omega) ?_)
 rw [Int.toNat_natCast,ij]
 repeat refine ac rfl ?_
 rw [c2]
 repeat refine ac rfl ?_
 rw [c3]
 rw [hb] at hstart hba
 have hst0 := hstart (List.replicate (a.length + 1 - (n + 2)) 0) (by simp)
 clear hstart
 refine ax (DivI V (a.length + 1) (n + 2) (nv a * 2 ^ s)) (fun z => [(4,.als 57 1 0 (z.2.2.map eU).length),(8,I s),(9,.als 44 1 0 (z.2.1.map eU).length),(10,.fsl (V.map eU)),(11,I ((n + 2 : Nat) : Int)),(12,I ((z.1 : Int) - 1))])
  (fun z => yB 1 1 z.2.1 z.2.2) (fun z => z.1) (a.length + 1 - (n + 2),R0,List.replicate (a.length + 1 - (n + 2)) 0) hst0 ⟨rfl,rfl,rfl,rfl,rfl,rfl,rfl,rfl,trivial⟩ ?_
 rintro ⟨k,R,Q⟩ s1 hI
 have hk := hI.k
 have hRl2 := hI.r
 have hQl := hI.q
 simp only at hk hRl2 hQl
 dsimp only
 repeat refine ac rfl ?_
 refine ae rfl ?_ ?_<;>intro h
 ·have hk0 : 0 < k := by have := of_decide_eq_true h;omega
  clear h
  obtain ⟨j,rfl⟩ : ∃ j,k = j + 1 := ⟨k - 1,by omega⟩
  have e1 : (((j + 1 : Nat) : Int) - 1) = (j : Nat) := by omega
  rw [e1]
  obtain ⟨w1,w2,w3⟩ := qU hVl (by omega) hI
  have hRml : (R.map eU).length = a.length + 1 := by rw [List.length_map,hRl2]
  have e2 : IntKind.i64.wrap (IntKind.i64.wrap ((j : Int) + ((n + 2 : Nat) : Int)) + 1) = ((j + (n + 3) : Nat) : Int) := by
   rw [wrap_i64 (n := (j : Int) + ((n + 2 : Nat) : Int)) (by omega) (by omega),wrap_i64 (by omega) (by omega)];omega
  obtain ⟨r,hr⟩ := jb (R := Q) (i := j) (by omega)
  ((repeat ((fail_if_success (with_reducible refine aP 13 ?_));refine cF rfl ?_));refine aE 10 ?_)
  repeat refine ac rfl ?_
  rw [e2]
  refine bx rfl rfl (Aw j (j + (n + 3)) rfl rfl rfl rfl rfl rfl (.inr ⟨_,_,rfl,rfl⟩) (.inr ⟨_,_,rfl,rfl⟩) (by omega) (by rw [hRml];omega)) ?_
  rw [Nat.zero_add j,show j + (n + 3) - j = n + 3 by omega]
  repeat refine ac rfl ?_
  refine aV rfl (ur (n := n) (j := j) (R := R) (V := V) (Qr := Q) hVl (by omega) (by omega) hVtop w2 rfl rfl ⟨rfl,rfl,trivial⟩ fun s3 R' hd => ?_)
  obtain ⟨hq16,hnx⟩ := ut hVl (by omega) hV0 hI hd
  refine aJ ?_
  repeat refine ac rfl ?_
  refine bx rfl rfl (bc rfl rfl rfl rfl rfl rfl rfl (by omega) (by rw [List.length_map];omega)) ?_
  rw [Int.toNat_natCast,Nat.zero_add j]
  rw [show PV.int .u16 ((uw R j (n + 3) / nv V : Nat) : Int) = PV.int .u16 ((UInt16.ofNat (uw R j (n + 3) / nv V)).toNat : Int) by rw [aL,Nat.mod_eq_of_lt hq16]]
  refine bJ (bI (kd' := 0) rfl rfl rfl hr rfl rfl (by repeat' constructor) rfl rfl rfl rfl ?_)
  repeat refine ac rfl ?_
  refine ⟨(j,R',Q.set j (UInt16.ofNat (uw R j (n + 3) / nv V))),hnx,by simp only;omega,?_,rfl,?_,rfl,rfl,?_,rfl,?_,trivial⟩
  ·show PV.als 57 1 0 (Q.map eU).length = _
   simp
  ·show PV.als 44 1 0 (R.map eU).length = _
   rw [List.length_map,List.length_map,hd.l]
  ·exact congrArg I (wrap_i64 (by omega) (by omega))
  ·exact cz 1 180 1 0 j Q (UInt16.ofNat (uw R j (n + 3) / nv V))
 ·have hk0 : k = 0 := by have := of_decide_eq_false h;omega
  subst hk0
  clear h
  obtain ⟨hQv,hRv2⟩ := xo hVv hb0 hI
  repeat refine ac rfl ?_
  refine ay (fi rfl rfl rfl rfl rfl rfl rfl rfl (by omega) (by show (2 : Int) * _ ≤ _;omega) (by omega) ?_)
  generalize (s1.own 80).1 = g8
  rw [Int.toNat_natCast,ij]
  repeat refine ac rfl ?_
  refine ax (RemI R (n + 2) s) (fun q => [(4,.als 57 1 0 (Q.map eU).length),(5,.als 80 (g8 + 1) 0 (q.2.map eU).length),(8,I s),(9,.als 44 1 0 (R.map eU).length),(81,I ((n + 2 : Nat) : Int)),(82,I q.1)])
   (fun q => [(44,1,⟨180,1,R.map eU,0⟩),(57,1,⟨180,1,Q.map eU,0⟩),(80,g8 + 1,⟨180,1,q.2.map eU,0⟩)]) (fun q => n + 2 - q.1) (0,List.replicate (n + 2) 0) ⟨Nat.zero_le _,by simp,by simp [nv];omega⟩ ⟨rfl,rfl,rfl,rfl,rfl,rfl,rfl,rfl,rfl,trivial⟩ ?_
  rintro ⟨i,P⟩ s3 hJ
  have hi := hJ.i
  have hPl := hJ.l
  simp only at hi hPl
  dsimp only
  repeat refine ac rfl ?_
  refine ae rfl ?_ ?_<;>intro h
  ·have hi2 : i < n + 2 := by have := of_decide_eq_true h;omega
   clear h
   have hst := vM hJ hs15 (by omega) hi2
   have h1 := iC (R := R) (i := i) (by omega)
   have h2 := iC (R := R) (i := i + 1) (by omega)
   have b1 := cm R i
   have b2 := cm R (i + 1)
   have hsh := yL (x := ul R (i + 1)) b2
   have hor := zK b1 b2
   obtain ⟨r,hr⟩ := jb (R := P) (i := i) (by omega)
   have ei : IntKind.i64.wrap ((i : Int) + 1) = ((i + 1 : Nat) : Int) := by rw [wrap_i64 (by omega) (by omega)];omega
   repeat refine ac rfl ?_
   refine am 19 [85,86,87,88,89,90,91,92,93,94,95,96,97,98,99,100,101,102,103] (by decide +kernel) ?_
   repeat refine ac rfl ?_
   refine bx rfl rfl (bc rfl rfl rfl rfl rfl rfl rfl (by omega) (by rw [List.length_map];omega)) ?_
   rw [Int.toNat_natCast,Nat.zero_add i]
   refine bx rfl rfl (di rfl rfl rfl h1 rfl) ?_
   repeat refine ac rfl ?_
   rw [j_ R i]
   repeat refine ac rfl ?_
   rw [ei]
   refine bx rfl rfl (bc rfl rfl rfl rfl rfl rfl rfl (by omega) (by rw [List.length_map];omega)) ?_
   rw [Int.toNat_natCast,Nat.zero_add (i + 1)]
   refine bx rfl rfl (di rfl rfl rfl h2 rfl) ?_
   repeat refine ac rfl ?_
   rw [j_ R (i + 1)]
   repeat refine ac rfl ?_
   rw [hsh]
   repeat refine ac rfl ?_
   rw [hor]
   repeat refine ac rfl ?_
   refine bx rfl rfl (QOp.v rfl (show (0 : Int) ≤ (s : Int) ∧ (s : Int) ≤ (IntKind.u32.bits : Nat) by constructor;omega;show (s : Int) ≤ 32;omega)) ?_
   rw [show ((ul R i + 65536 * ul R (i + 1) : Nat) : Int) / 2 ^ ((s : Nat) : Int).toNat = (((ul R i + 65536 * ul R (i + 1)) / 2 ^ s : Nat) : Int) by rw [Int.toNat_natCast,Int.natCast_ediv,Int.natCast_pow];rfl]
   repeat refine ac rfl ?_
   rw [wrap_u16]
   refine bx rfl rfl (bc rfl rfl rfl rfl rfl rfl rfl (by omega) (by rw [List.length_map];omega)) ?_
   rw [Int.toNat_natCast,Nat.zero_add i]
   repeat refine ac rfl ?_
   refine bJ (bI (kd' := 0) rfl rfl rfl hr rfl rfl (by repeat' constructor) rfl rfl rfl rfl ?_)
   repeat refine ac rfl ?_
   refine ⟨(i + 1,_),hst,by simp only;omega,rfl,?_,rfl,rfl,rfl,bG (by omega) (by omega),rfl,rfl,?_,trivial⟩
   ·show PV.als 80 (g8 + 1) 0 (P.map eU).length = _
    simp
   ·exact cz (g8 + 1) 180 1 0 i P (UInt16.ofNat ((ul R i + 65536 * ul R (i + 1)) / 2 ^ s))
  ·have hi2 : i = n + 2 := by have := of_decide_eq_false h;omega
   subst hi2
   clear h
   have hPv : nv P = nv a % nv b := by
    have h1 := hJ.v
    simp only at h1
    rw [List.take_of_length_le (by omega),hRv2,Nat.mul_div_cancel _ hp] at h1
    rw [h1]
    refine Nat.mod_eq_of_lt (Nat.lt_trans (Nat.mod_lt _ hb0) ?_)
    rw [← hb];exact bB b
   have ht1 := bN Q (by omega)
   rw [aG,hQv] at ht1
   have ht2 := bN P (by omega)
   rw [aG,hPv] at ht2
   ((repeat ((fail_if_success (with_reducible refine aP 20 ?_));refine cF rfl ?_));refine aE 1 ?_)
   repeat refine ac rfl ?_
   refine aV rfl (cy (Ghost.takeF (enc := eU) (t := 105) (Q) rfl rfl (rfl) rfl (fun _ => rfl)) ?_)
   (refine iM (c_ rfl (ht1) rfl ?_ rfl) ?_;·repeat' constructor)
   refine aV rfl (cy (Ghost.refl _) (xJ rfl trivial ?_))
   refine aV rfl (cy (Ghost.takeF (enc := eU) (t := 107) (P) rfl rfl (rfl) rfl (fun _ => rfl)) ?_)
   (refine iM (c_ rfl (ht2) rfl ?_ rfl) ?_;·repeat' constructor)
   refine aJ ?_
   repeat refine ac rfl ?_
   exact pP rfl rfl rfl rfl rfl trivial trivial rfl
theorem gR (a b : List UInt16) (ha : a.length ≤ 100000000) (hb : b.length ≤ 100000000) (hta : Trm a) (htb : Trm b) (hb0 : nv b ≠ 0) : Ret Tryz.prog .shared 186 [.sl (a.map eU),.sl (b.map eU)] (xp a b) := by
 rcases Nat.lt_or_ge (nv a) (nv b) with h | h
 ·exact sn a b ha hb hta htb h
 ·match b,hb,htb,hb0,h with
  |[],_,_,hb0,_ => exact absurd rfl hb0
  |[x],_,htb,_,h => exact pN a x ha hta htb h
  |x :: y :: l,hb,htb,_,h => exact om a (x :: y :: l) (n := l.length) ha rfl hta htb h
theorem sO : ao 1 = [1] := by rw [cp (by decide),show 1 / 65536 = 0 by decide,a_];rfl
theorem cB {n m : Nat} (h : n ≤ m) : (ao n).length ≤ (ao m).length := by
 refine bE ?_
 have := bB (ao m)
 rw [aD] at this
 omega
theorem b5 (l : List UInt16) : (ao (nv l)).length ≤ l.length := bE (bB l)
set_option maxRecDepth 20000 in
theorem pJ (a b : List UInt16) (ha : a.length ≤ 100000000) (hb : b.length ≤ 100000000) (hta : Trm a) (htb : Trm b) : Ret Tryz.prog .shared 185 [.sl (a.map eU),.sl (b.map eU)] (.sl ((ao (Nat.gcd (nv a) (nv b))).map eU)) := by
 generalize hg : Nat.gcd (nv a) (nv b) = g
 refine Ret.of_pwp layOk mixed Go.Proofs.Tryz.func185 rfl (by decide) rfl rfl ?_
 repeat refine ac rfl ?_
 refine ax (fun q : List UInt16 × List UInt16 => q.1.length ≤ 100000000 ∧ q.2.length ≤ 100000000 ∧ Trm q.1 ∧ Trm q.2 ∧ Nat.gcd (nv q.1) (nv q.2) = g) (fun q => [(0,.sl (q.1.map eU)),(1,.sl (q.2.map eU))]) (fun _ => []) (fun q => nv q.2) (a,b) ⟨ha,hb,hta,htb,hg⟩ ⟨rfl,rfl,trivial⟩ ?_
 rintro ⟨A,B⟩ s ⟨hA,hB,htA,htB,hG⟩
 simp only at hA hB htA htB hG
 dsimp only
 have hBm : (B.map eU).length = B.length := by simp
 repeat refine ac rfl ?_
 refine ae rfl ?_ ?_<;>intro h
 ·have hB0 : 0 < B.length := by have := of_decide_eq_true h;omega
  clear h
  have hB0v : nv B ≠ 0 := by
   match B,hB0,htB with
   |x :: l,_,h => exact j8 h
  have hw1 := pC A (by omega)
  have hw2 := pC B (by omega)
  have main : (A.length ≤ 4 ∧ B.length ≤ 4) ∨ ¬ (A.length ≤ 4 ∧ B.length ≤ 4) := Classical.em _
  have hd := gR A B hA hB htA htB hB0v
  rw [xp] at hd
  have hml := Nat.mod_lt (nv A) (Nat.pos_of_ne_zero hB0v)
  have hnext : (ao (nv A % nv B)).length ≤ 100000000 := by
   have h1 := cB (Nat.le_of_lt hml)
   have h2 := b5 B
   omega
  have hG2 : Nat.gcd (nv B) (nv (ao (nv A % nv B))) = g := by rw [aD,Nat.gcd_comm,← Nat.gcd_rec,Nat.gcd_comm];exact hG
  by_cases h1 : A.length ≤ 4
  ·rw [if_pos h1] at hw1
   have hAl : nv A < 18446744073709551616 := by
    have := bB A
    have h3 : 65536 ^ A.length ≤ 65536 ^ 4 := b7 h1
    have : (65536 : Nat) ^ 4 = 18446744073709551616 := by decide
    omega
   by_cases h2 : B.length ≤ 4
   ·rw [if_pos h2] at hw2
    have hBl : nv B < 18446744073709551616 := by
     have := bB B
     have h3 : 65536 ^ B.length ≤ 65536 ^ 4 := b7 h2
     have : (65536 : Nat) ^ 4 = 18446744073709551616 := by decide
     omega
    clear main hd
    generalize nv A = av at *
    generalize nv B = bv at *
    repeat refine ac rfl ?_
    refine aT rfl rfl rfl hw1 rfl rfl rfl ?_
    repeat refine ac rfl ?_
    refine aT rfl rfl rfl hw2 rfl rfl rfl ?_
    repeat refine ac rfl ?_
    refine ax (fun q : Nat × Nat => q.1 < 18446744073709551616 ∧ q.2 < 18446744073709551616 ∧ Nat.gcd q.1 q.2 = g) (fun q => [(5,.int .u64 (q.1 : Nat)),(7,.int .u64 (q.2 : Nat))]) (fun _ => []) (fun q => q.2) (av,bv) ⟨hAl,hBl,hG⟩ ⟨rfl,rfl,trivial⟩ ?_
    rintro ⟨x,y⟩ s2 ⟨hx,hy,hg2⟩
    simp only at hx hy hg2
    dsimp only
    repeat refine ac rfl ?_
    refine ae rfl ?_ ?_<;>intro h
    ·have hy0 : 0 < y := by have := of_decide_eq_true h;omega
     clear h
     have hm := Nat.mod_lt x hy0
     repeat refine ac rfl ?_
     refine bM [] [] (by decide +kernel) ?_
     repeat refine ac rfl ?_
     refine bx rfl rfl (QOp.v rfl (show ¬ ((y : Nat) : Int) = 0 by omega)) ?_
     rw [iY]
     repeat refine ac rfl ?_
     exact ⟨(y,x % y),⟨hy,by simp only;omega,by simp only;rw [Nat.gcd_comm,← Nat.gcd_rec,Nat.gcd_comm];exact hg2⟩,hm,rfl,rfl,trivial⟩
    ·have hy0 : y = 0 := by have := of_decide_eq_false h;omega
     subst hy0
     clear h
     rw [Nat.gcd_zero_right] at hg2
     subst hg2
     repeat refine ac rfl ?_
     refine aq rfl rfl rfl (jI x hx) rfl rfl ?_
     repeat refine ac rfl ?_
     exact eM rfl rfl rfl trivial rfl
   ·rw [if_neg h2] at hw2
    repeat refine ac rfl ?_
    refine aT rfl rfl rfl hw1 rfl rfl rfl ?_
    repeat refine ac rfl ?_
    refine aT rfl rfl rfl hw2 rfl rfl rfl ?_
    repeat refine ac rfl ?_
    refine aq rfl rfl rfl hd rfl rfl ?_
    repeat refine ac rfl ?_
    exact ⟨(B,ao (nv A % nv B)),⟨hB,hnext,htB,a8 _,hG2⟩,by simp only;rw [aD];exact hml,rfl,rfl,trivial⟩
  ·rw [if_neg h1] at hw1
   by_cases h2 : B.length ≤ 4
   ·rw [if_pos h2] at hw2
    repeat refine ac rfl ?_
    refine aT rfl rfl rfl hw1 rfl rfl rfl ?_
    repeat refine ac rfl ?_
    refine aT rfl rfl rfl hw2 rfl rfl rfl ?_
    repeat refine ac rfl ?_
    refine aq rfl rfl rfl hd rfl rfl ?_
    repeat refine ac rfl ?_
    exact ⟨(B,ao (nv A % nv B)),⟨hB,hnext,htB,a8 _,hG2⟩,by simp only;rw [aD];exact hml,rfl,rfl,trivial⟩
   ·rw [if_neg h2] at hw2
    repeat refine ac rfl ?_
    refine aT rfl rfl rfl hw1 rfl rfl rfl ?_
    repeat refine ac rfl ?_
    refine aT rfl rfl rfl hw2 rfl rfl rfl ?_
    repeat refine ac rfl ?_
    refine aq rfl rfl rfl hd rfl rfl ?_
    repeat refine ac rfl ?_
    exact ⟨(B,ao (nv A % nv B)),⟨hB,hnext,htB,a8 _,hG2⟩,by simp only;rw [aD];exact hml,rfl,rfl,trivial⟩
 ·have hB0 : B.length = 0 := by have := of_decide_eq_false h;omega
  clear h
  have hB0v := List.length_eq_zero_iff.1 hB0
  subst hB0v
  rw [nv,Nat.gcd_zero_right] at hG
  rw [← hG,dR htA]
  repeat refine ac rfl ?_
  exact eM rfl rfl rfl trivial rfl
theorem oW (a b : RI) (hb : nv b.l ≠ 0) : ofQ ((a.val : Rat) / (b.val : Rat)) = ⟨bz (cT (a.neg != b.neg) (nv a.l / Nat.gcd (nv a.l) (nv b.l))),bz (cT false (nv b.l / Nat.gcd (nv a.l) (nv b.l)))⟩ := by
 have hbv : b.val ≠ 0 := by intro h;have := b.val_abs;rw [h] at this;exact hb this.symm
 rw [xG _ _ hbv,a.val_abs,b.val_abs,j3,j3]
 have hg : 0 < Nat.gcd (nv a.l) (nv b.l) := Nat.gcd_pos_of_pos_right _ (Nat.pos_of_ne_zero hb)
 have hbg : nv b.l / Nat.gcd (nv a.l) (nv b.l) ≠ 0 := by
  have := Nat.div_pos (Nat.le_of_dvd (Nat.pos_of_ne_zero hb) (Nat.gcd_dvd_right (nv a.l) (nv b.l))) hg
  omega
 rw [if_neg hbg]
 congr 1
 by_cases ha : nv a.l = 0
 ·rw [ha,Nat.zero_div,if_pos rfl,a_]
  congr 1
  have hav : a.val = 0 := by rw [RI.val,ha];simp
  rw [hav]
  simp
 ·have hag : nv a.l / Nat.gcd (nv a.l) (nv b.l) ≠ 0 := by
   have := Nat.div_pos (Nat.le_of_dvd (Nat.pos_of_ne_zero ha) (Nat.gcd_dvd_left (nv a.l) (nv b.l))) hg
   omega
  rw [if_neg hag]
  congr 1
  have e1 : a.val < 0 ↔ a.neg = true := by rw [RI.val];split <;> simp_all <;> omega
  have e2 : 0 < a.val ↔ a.neg = false := by rw [RI.val];split <;> simp_all <;> omega
  have e3 : b.val < 0 ↔ b.neg = true := by rw [RI.val];split <;> simp_all <;> omega
  have e4 : 0 < b.val ↔ b.neg = false := by rw [RI.val];split <;> simp_all <;> omega
  simp only [e1,e2,e3,e4]
  cases a.neg <;> cases b.neg <;> rfl
set_option maxRecDepth 20000 in
theorem co (a b : RI) (ha : a.l.length ≤ 90000000) (hb : b.l.length ≤ 90000000) (hb0 : nv b.l ≠ 0) : Ret Tryz.prog .shared 155 [.agg (eI a),.agg (eI b)] (.agg (eR (ofQ ((a.val : Rat) / (b.val : Rat))))) := by
 rw [oW a b hb0]
 obtain ⟨an,al⟩ := a
 obtain ⟨bn,bl⟩ := b
 simp only at ha hb hb0
 dsimp only
 have hta := bN al (by omega)
 have htb := bN bl (by omega)
 have hla := b5 al
 have hlb := b5 bl
 have hc := pJ (ao (nv al)) (ao (nv bl)) (by omega) (by omega) (a8 _) (a8 _)
 rw [aD,aD] at hc
 have hg0 : 0 < Nat.gcd (nv al) (nv bl) := Nat.gcd_pos_of_pos_right _ (Nat.pos_of_ne_zero hb0)
 have hgl : Nat.gcd (nv al) (nv bl) ≤ nv bl := Nat.gcd_le_right _ (Nat.pos_of_ne_zero hb0)
 generalize Nat.gcd (nv al) (nv bl) = g at *
 rw [aG] at hta htb
 have hgs : (ao g).length ≤ 90000000 := by have := cB hgl;omega
 have hda := gR (ao (nv al)) (ao g) (by omega) (by omega) (a8 _) (a8 _) (by rw [aD];omega)
 have hdb := gR (ao (nv bl)) (ao g) (by omega) (by omega) (a8 _) (a8 _) (by rw [aD];omega)
 rw [xp,aD,aD] at hda hdb
 have hsa := cK (an != bn) (ao (nv al / g)) (by have := cB (Nat.div_le_self (nv al) g);omega)
 have hsb := cK false (ao (nv bl / g)) (by have := cB (Nat.div_le_self (nv bl) g);omega)
 rw [aD] at hsa hsb
 have hm : ((ao g).map eU).length = (ao g).length := by simp
 by_cases hg1 : g = 1
 ·subst hg1
  rw [Nat.div_one] at hsa hsb
  rw [Nat.div_one,Nat.div_one]
  rw [sO] at hc
  generalize ao (nv al) = A at *
  generalize ao (nv bl) = B at *
  generalize bz (cT (an != bn) (nv al)) = X at *
  generalize bz (cT false (nv bl)) = Y at *
  refine Ret.of_pwp layOk mixed Go.Proofs.Tryz.func155 rfl (by decide) rfl rfl ?_
  repeat refine ac rfl ?_
  refine am 8 [8,9,10,11,12,13,5,6] (by decide +kernel) ?_
  repeat refine ac rfl ?_
  refine aq rfl rfl rfl hta rfl rfl ?_
  repeat refine ac rfl ?_
  refine aq rfl rfl rfl htb rfl rfl ?_
  repeat refine ac rfl ?_
  refine aq rfl rfl rfl hc rfl rfl ?_
  repeat refine ac rfl ?_
  refine bx rfl rfl (nD rfl rfl rfl rfl rfl (by omega) (show ([1] : List UInt16)[0]? = some 1 from rfl) rfl) ?_
  repeat refine ac rfl ?_
  refine aq rfl rfl rfl hsa rfl rfl ?_
  repeat refine ac rfl ?_
  refine aq rfl rfl rfl hsb rfl rfl ?_
  repeat refine ac rfl ?_
  exact aF rfl rfl rfl
 ·have hne : ao g ≠ [1] := by
   intro h
   have := aD g
   rw [h] at this
   exact hg1 (by rw [← this];rfl)
  generalize ao (nv al) = A at *
  generalize ao (nv bl) = B at *
  generalize bz (cT (an != bn) (nv al / g)) = X at *
  generalize bz (cT false (nv bl / g)) = Y at *
  generalize ao g = G at *
  generalize ao (nv al / g) = A2 at *
  generalize ao (nv bl / g) = B2 at *
  refine Ret.of_pwp layOk mixed Go.Proofs.Tryz.func155 rfl (by decide) rfl rfl ?_
  repeat refine ac rfl ?_
  refine am 8 [8,9,10,11,12,13,5,6] (by decide +kernel) ?_
  repeat refine ac rfl ?_
  refine aq rfl rfl rfl hta rfl rfl ?_
  repeat refine ac rfl ?_
  refine aq rfl rfl rfl htb rfl rfl ?_
  repeat refine ac rfl ?_
  refine aq rfl rfl rfl hc rfl rfl ?_
  repeat refine ac rfl ?_
  by_cases hl : G.length = 1
  ·obtain ⟨x,rfl⟩ := List.length_eq_one_iff.1 hl
   have hx : x.toNat ≠ 1 := fun h => hne (by have h2 : x = 1 := lF h;rw [h2])
   repeat refine ac rfl ?_
   refine bx rfl rfl (nD rfl rfl rfl rfl rfl (by omega) (show [x][0]? = some x from rfl) rfl) ?_
   repeat refine ac rfl ?_
   refine ae rfl ?_ ?_<;>intro h
   ·clear h
    repeat refine ac rfl ?_
    refine aq rfl rfl rfl hda rfl rfl ?_
    repeat refine ac rfl ?_
    refine aq rfl rfl rfl hdb rfl rfl ?_
    repeat refine ac rfl ?_
    refine aq rfl rfl rfl hsa rfl rfl ?_
    repeat refine ac rfl ?_
    refine aq rfl rfl rfl hsb rfl rfl ?_
    repeat refine ac rfl ?_
    exact aF rfl rfl rfl
   ·exfalso
    simp at h
    omega
  ·refine cb rfl rfl rfl ?_ ?_<;>intro h
   ·repeat refine ac rfl ?_
    refine aq rfl rfl rfl hda rfl rfl ?_
    repeat refine ac rfl ?_
    refine aq rfl rfl rfl hdb rfl rfl ?_
    repeat refine ac rfl ?_
    refine aq rfl rfl rfl hsa rfl rfl ?_
    repeat refine ac rfl ?_
    refine aq rfl rfl rfl hsb rfl rfl ?_
    repeat refine ac rfl ?_
    exact aF rfl rfl rfl
   ·exfalso
    simp at h
    omega
def i6 (z : Int) : Int := if z = 0 then 0 else if z < 0 then -1 else 1
theorem RI.val_zero (a : RI) : a.val = 0 ↔ nv a.l = 0 := by rw [RI.val];split <;> omega
theorem jt {l : List UInt16} : (aG l).length = 0 ↔ nv l = 0 := by
 constructor
 ·intro h
  have h1 := bY l
  rw [List.length_eq_zero_iff.1 h] at h1
  exact h1.symm
 ·intro h
  rw [aG,h,a_]
  rfl
set_option maxRecDepth 20000 in
theorem iV (a : RI) (ha : a.l.length ≤ 300000000) : Ret Tryz.prog .shared 176 [.agg (eI a)] (I (i6 a.val)) := by
 have ht := bN a.l (by omega)
 have hm : ((aG a.l).map eU).length = (aG a.l).length := by simp
 have h0 := jt (l := a.l)
 have hz := a.val_zero
 have hv : a.val = if a.neg then -(nv a.l : Int) else (nv a.l : Int) := rfl
 generalize aG a.l = T at *
 obtain ⟨an,al⟩ := a
 simp only at *
 refine Ret.of_pwp layOk mixed Go.Proofs.Tryz.func176 rfl (by decide) rfl rfl ?_
 repeat refine ac rfl ?_
 refine aq rfl rfl rfl ht rfl rfl ?_
 repeat refine ac rfl ?_
 refine ae rfl ?_ ?_<;>intro h
 ·have h1 : nv al = 0 := h0.1 (by have := of_decide_eq_true h;omega)
  rw [i6,if_pos (hz.2 h1)]
  repeat refine ac rfl ?_
  exact aO rfl rfl rfl
 ·have h1 : nv al ≠ 0 := by
   intro h1
   have h2 := of_decide_eq_false h
   have := h0.2 h1
   omega
  rw [i6,if_neg (fun h => h1 (hz.1 h))]
  clear h
  cases an
  ·rw [if_neg (by rw [hv];simp only [Bool.false_eq_true,if_false];omega)]
   repeat refine ac rfl ?_
   exact aO rfl rfl rfl
  ·rw [if_pos (by rw [hv];simp only [if_true];omega)]
   repeat refine ac rfl ?_
   exact aO rfl rfl rfl
def dn (x : RR) : RI := if nv x.d.l = 0 then ⟨false,[1]⟩ else x.d
theorem zf (x : RR) : (dn x).val = x.d.den := by
 rw [dn,RI.den]
 split
 ·rfl
 ·rfl
theorem qV (x : RR) : nv (dn x).l ≠ 0 := by
 rw [dn]
 split
 ·decide
 ·assumption
theorem ze {x : RR} {n : Nat} (h : x.d.l.length ≤ n) (hn : 1 ≤ n) : (dn x).l.length ≤ n := by
 rw [dn]
 split
 ·exact hn
 ·exact h
theorem RR.val_dn (x : RR) : x.val = (x.n.val : Rat) / ((dn x).val : Rat) := by rw [zf];rfl
set_option maxRecDepth 20000 in
theorem cn (x : RR) (hx : x.d.l.length ≤ 300000000) : Ret Tryz.prog .shared 157 [.agg (eR x)] (.agg (eI (dn x))) := by
 have hs := iV x.d hx
 rw [dn]
 by_cases h0 : nv x.d.l = 0
 ·rw [if_pos h0]
  rw [i6,if_pos (x.d.val_zero.2 h0)] at hs
  refine Ret.of_pwp layOk mixed Go.Proofs.Tryz.func157 rfl (by decide) rfl rfl ?_
  repeat refine ac rfl ?_
  refine aT rfl rfl rfl hs rfl rfl rfl ?_
  repeat refine ac rfl ?_
  refine ay (bb 0 rfl rfl rfl rfl rfl rfl rfl rfl rfl rfl rfl (by repeat' constructor) rfl ?_)
  repeat refine ac rfl ?_
  exact aF rfl rfl rfl
 ·rw [if_neg h0]
  have h1 : i6 x.d.val ≠ 0 := by rw [i6,if_neg (fun h => h0 (x.d.val_zero.1 h))];split <;> decide
  generalize i6 x.d.val = v at *
  refine Ret.of_pwp layOk mixed Go.Proofs.Tryz.func157 rfl (by decide) rfl rfl ?_
  repeat refine ac rfl ?_
  refine aT rfl rfl rfl hs rfl rfl rfl ?_
  repeat refine ac rfl ?_
  refine ae rfl ?_ ?_<;>intro h
  ·exact absurd (of_decide_eq_true h) h1
  ·repeat refine ac rfl ?_
   exact aF rfl rfl rfl
theorem gW (x : RR) (hx : x.n.l.length ≤ 300000000) : Ret Tryz.prog .shared 158 [.agg (eR x)] (.bool (decide (x.val = 0))) := by
 have hs := iV x.n hx
 have e : decide (x.val = 0) = decide (i6 x.n.val = 0) := by
  have h1 := x.n.val_zero
  by_cases h : nv x.n.l = 0
  ·rw [decide_eq_true (x.zero_iff.2 h),i6,if_pos (h1.2 h)];rfl
  ·rw [decide_eq_false (fun h2 => h (x.zero_iff.1 h2)),i6,if_neg (fun h2 => h (h1.1 h2))]
   split <;> rfl
 rw [e]
 refine Ret.of_pwp layOk mixed Go.Proofs.Tryz.func158 rfl (by decide) rfl rfl ?_
 repeat refine ac rfl ?_
 refine aT rfl rfl rfl hs rfl rfl rfl ?_
 repeat refine ac rfl ?_
 exact bj rfl rfl rfl
theorem x8 (a b : Int) (hb : b ≠ 0) : i6 a * i6 b = if a = 0 then 0 else if (a < 0 ∧ 0 < b) ∨ (0 < a ∧ b < 0) then -1 else 1 := by
 unfold i6
 rw [if_neg hb]
 by_cases h0 : a = 0
 ·rw [if_pos h0,if_pos h0];omega
 ·rw [if_neg h0,if_neg h0]
  split <;> split <;> split <;> omega
theorem rE (x : RR) : sgn x.val = i6 x.n.val * i6 (dn x).val := by
 have hd : (dn x).val ≠ 0 := by rw [Ne,RI.val_zero];exact qV x
 rw [x8 _ _ hd,RR.val_dn]
 generalize x.n.val = a
 generalize (dn x).val = b at *
 have h := (nI a b hd).2.2
 rw [sgn]
 have hq : (a : Rat) / (b : Rat) = 0 ↔ a = 0 := by
  have hb : (b : Rat) ≠ 0 := by exact_mod_cast hd
  constructor
  ·intro h
   have : (a : Rat) = 0 := by grind
   exact_mod_cast this
  ·intro h;subst h;grind
 have hlt : (a : Rat) / (b : Rat) < 0 ↔ (a < 0 ∧ 0 < b) ∨ (0 < a ∧ b < 0) := by
  rw [← h]
  have h1 := Rat.num_nonneg (q := (a : Rat) / (b : Rat))
  grind
 by_cases h0 : a = 0
 ·rw [if_pos h0,if_neg (by rw [hlt];omega),if_pos (hq.2 h0)]
 ·rw [if_neg h0]
  by_cases h1 : (a < 0 ∧ 0 < b) ∨ (0 < a ∧ b < 0)
  ·rw [if_pos h1,if_pos (hlt.2 h1)]
  ·rw [if_neg h1,if_neg (fun h => h1 (hlt.1 h)),if_neg (fun h => h0 (hq.1 h))]
theorem jJ (z : Int) : (bz z).l = ao z.natAbs := rfl
theorem RI.lt (a : RI) : a.val.natAbs < 65536 ^ a.l.length := by rw [RI.val_abs];exact bB _
theorem bL (a b : RI) : (bz (a.val * b.val)).l.length ≤ a.l.length + b.l.length := by
 rw [jJ,Int.natAbs_mul]
 exact bE (dE a.lt b.lt)
theorem oY (a b : RI) {n : Nat} (ha : a.l.length ≤ n) (hb : b.l.length ≤ n) : (bz (a.val + b.val)).l.length ≤ n + 1 := by
 rw [jJ]
 refine bE ?_
 have h1 := a.lt
 have h2 := b.lt
 have h3 := b7 ha
 have h4 := b7 hb
 rw [Nat.pow_succ]
 omega
theorem n7 {A B : List UInt16} {n : Nat} (hA : A.length ≤ n) (hB : B.length ≤ n) : (ao (nv A + nv B)).length ≤ n + 1 := by
 refine bE ?_
 have h1 := bB A
 have h2 := bB B
 have h3 := b7 hA
 have h4 := b7 hB
 rw [Nat.pow_succ]
 omega
set_option maxRecDepth 20000 in
theorem dU (a b : RI) (ha : a.l.length ≤ 90000000) (hb : b.l.length ≤ 90000000) : Ret Tryz.prog .shared 156 [.agg (eI a),.agg (eI b)] (.agg (eI (bz (a.val * b.val)))) := by
 have e : a.val * b.val = cT (a.neg != b.neg) (nv a.l * nv b.l) := by
  rw [a.val_sgz,b.val_sgz]
  cases a.neg <;> cases b.neg <;> simp [cT,Int.neg_mul,Int.mul_neg]
 have hl := bL a b
 rw [e] at hl ⊢
 have hta := bN a.l (by omega)
 have htb := bN b.l (by omega)
 have hla := bq a.l
 have hlb := bq b.l
 have ht := tA (aG a.l) (aG b.l) (by omega) (by omega)
 rw [bY,bY] at ht
 have hs := cK (a.neg != b.neg) (ao (nv a.l * nv b.l)) (by
  have := bE (dE (bB a.l) (bB b.l));omega)
 rw [aD] at hs
 obtain ⟨an,al⟩ := a
 obtain ⟨bn,bl⟩ := b
 simp only at *
 generalize aG al = A at *
 generalize aG bl = B at *
 generalize ao (nv al * nv bl) = C at *
 generalize bz (cT (an != bn) (nv al * nv bl)) = X at *
 refine Ret.of_pwp layOk mixed Go.Proofs.Tryz.func156 rfl (by decide) rfl rfl ?_
 repeat refine ac rfl ?_
 refine am 13 [5,6,7,8,9,10,11,12,13,14,15,16,17] (by decide +kernel) ?_
 repeat refine ac rfl ?_
 refine aq rfl rfl rfl hta rfl rfl ?_
 repeat refine ac rfl ?_
 refine aq rfl rfl rfl htb rfl rfl ?_
 repeat refine ac rfl ?_
 refine aq rfl rfl rfl ht rfl rfl ?_
 repeat refine ac rfl ?_
 refine aq rfl rfl rfl hs rfl rfl ?_
 repeat refine ac rfl ?_
 exact aF rfl rfl rfl
set_option maxRecDepth 20000 in
theorem tT (a b : RI) (ha : a.l.length ≤ 90000000) (hb : b.l.length ≤ 90000000) : Ret Tryz.prog .shared 160 [.agg (eI a),.agg (eI b)] (.agg (eI (bz (a.val + b.val)))) := by
 have hta := bN a.l (by omega)
 have htb := bN b.l (by omega)
 have hla := bq a.l
 have hlb := bq b.l
 have hA := dq a.l
 have hB := dq b.l
 have hnA := bY a.l
 have hnB := bY b.l
 rw [a.val_sgz,b.val_sgz]
 obtain ⟨an,al⟩ := a
 obtain ⟨bn,bl⟩ := b
 simp only at *
 rw [← hnA,← hnB]
 generalize aG al = A at *
 generalize aG bl = B at *
 have hp := vo A B (by omega) (by omega)
 have hcm := eg A B (by omega) (by omega)
 have hcs := (dM hA hB).1
 have hlA := b5 A
 have hlB := b5 B
 have hlp : (ao (nv A + nv B)).length ≤ 300000000 := by
  have := n7 (n := 100000000) (A := A) (B := B) (by omega) (by omega)
  omega
 by_cases hs : an = bn
 ·subst hs
  have hd := cK an (ao (nv A + nv B)) hlp
  rw [aD] at hd
  have e : cT an (nv A) + cT an (nv B) = cT an (nv A + nv B) := by cases an <;> simp only [cT,Bool.false_eq_true,if_false,if_true] <;> omega
  rw [e]
  generalize ao (nv A + nv B) = C at *
  generalize bz (cT an (nv A + nv B)) = X at *
  refine Ret.of_pwp layOk mixed Go.Proofs.Tryz.func160 rfl (by decide) rfl rfl ?_
  repeat refine ac rfl ?_
  refine am 8 [7,8,9,10,11,12,5,6] (by decide +kernel) ?_
  repeat refine ac rfl ?_
  refine aq rfl rfl rfl hta rfl rfl ?_
  repeat refine ac rfl ?_
  refine aq rfl rfl rfl htb rfl rfl ?_
  repeat refine ac rfl ?_
  refine ae rfl ?_ ?_<;>intro h
  ·clear h
   repeat refine ac rfl ?_
   refine am 6 [18,19,20,21,22,23] (by decide +kernel) ?_
   repeat refine ac rfl ?_
   refine aq rfl rfl rfl hp rfl rfl ?_
   repeat refine ac rfl ?_
   refine aq rfl rfl rfl hd rfl rfl ?_
   repeat refine ac rfl ?_
   exact aF rfl rfl rfl
  ·exfalso
   simp at h
 ·have hmA : nv B ≤ nv A → Ret Tryz.prog .shared 190 [.sl (A.map eU),.sl (B.map eU)] (.sl ((ao (nv A - nv B)).map eU)) := mj A B (by omega) (by omega)
  have hmB : nv A ≤ nv B → Ret Tryz.prog .shared 190 [.sl (B.map eU),.sl (A.map eU)] (.sl ((ao (nv B - nv A)).map eU)) := mj B A (by omega) (by omega)
  have hlm : (ao (nv A - nv B)).length ≤ 300000000 := by have := cB (Nat.sub_le (nv A) (nv B));omega
  have hlm2 : (ao (nv B - nv A)).length ≤ 300000000 := by have := cB (Nat.sub_le (nv B) (nv A));omega
  have hdA := cK an (ao (nv A - nv B)) hlm
  have hdB := cK bn (ao (nv B - nv A)) hlm2
  rw [aD] at hdA hdB
  have eA : nv B ≤ nv A → cT an (nv A) + cT bn (nv B) = cT an (nv A - nv B) := by intro h;cases an <;> cases bn <;> simp_all only [cT,Bool.false_eq_true,if_false,if_true,not_true_eq_false,reduceCtorEq,not_false_eq_true] <;> omega
  have eB : nv A ≤ nv B → cT an (nv A) + cT bn (nv B) = cT bn (nv B - nv A) := by intro h;cases an <;> cases bn <;> simp_all only [cT,Bool.false_eq_true,if_false,if_true,not_true_eq_false,reduceCtorEq,not_false_eq_true] <;> omega
  generalize cT an (nv A) + cT bn (nv B) = Z at *
  generalize ao (nv A - nv B) = C at *
  generalize ao (nv B - nv A) = D at *
  generalize hX : bz (cT an (nv A - nv B)) = X at *
  generalize hY : bz (cT bn (nv B - nv A)) = Y at *
  refine Ret.of_pwp layOk mixed Go.Proofs.Tryz.func160 rfl (by decide) rfl rfl ?_
  repeat refine ac rfl ?_
  refine am 8 [7,8,9,10,11,12,5,6] (by decide +kernel) ?_
  repeat refine ac rfl ?_
  refine aq rfl rfl rfl hta rfl rfl ?_
  repeat refine ac rfl ?_
  refine aq rfl rfl rfl htb rfl rfl ?_
  repeat refine ac rfl ?_
  refine ae rfl ?_ ?_<;>intro h
  ·exfalso
   simp at h
   exact hs h
  ·clear h
   repeat refine ac rfl ?_
   refine aT rfl rfl rfl hcm rfl rfl rfl ?_
   repeat refine ac rfl ?_
   refine ae rfl ?_ ?_<;>intro h
   ·have hge : nv B ≤ nv A := by
     have h1 := of_decide_eq_true h
     omega
    clear h
    repeat refine ac rfl ?_
    refine am 6 [28,29,30,31,32,33] (by decide +kernel) ?_
    repeat refine ac rfl ?_
    refine aq rfl rfl rfl (hmA hge) rfl rfl ?_
    repeat refine ac rfl ?_
    refine aq rfl rfl rfl hdA rfl rfl ?_
    repeat refine ac rfl ?_
    exact pQ rfl (by repeat' constructor) rfl (by repeat' constructor) (by rw [eA hge,hX];rfl)
   ·have hge : nv A ≤ nv B := by
     have h1 := of_decide_eq_false h
     omega
    clear h
    repeat refine ac rfl ?_
    refine am 6 [34,35,36,37,38,39] (by decide +kernel) ?_
    repeat refine ac rfl ?_
    refine aq rfl rfl rfl (hmB hge) rfl rfl ?_
    repeat refine ac rfl ?_
    refine aq rfl rfl rfl hdB rfl rfl ?_
    repeat refine ac rfl ?_
    exact pQ rfl (by repeat' constructor) rfl (by repeat' constructor) (by rw [eB hge,hY];rfl)
end Go.Pv
