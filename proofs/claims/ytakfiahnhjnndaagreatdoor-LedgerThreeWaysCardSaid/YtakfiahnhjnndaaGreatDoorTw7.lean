/- Texts of one hand, gathered: LeJ, LeK, LeL, LeM, LeN, LeO, LeP, LbD, LbE, LbF, LbG, LbH, LeQ, LeR, LcE, LeS. -/
import Derived.Test.YtakfiahnhjnndaaGreatDoorTw6
import Derived.Test.YtakfiahnhjnndaaGreatDoorRows
import Derived.WalkKit
import Derived.ProofKit
import Derived.Handy
import Derived.Lay
import Derived.OpenShut
import Derived.Stop.Joined
import Derived.MakeChecks
import Derived.Stop.LaidErr
import Derived.Lib.LaidTab
set_option linter.unusedSectionVars false
set_option linter.unusedSimpArgs false
set_option linter.unusedVariables false
set_option linter.unnecessarySimpa false
/- What the program's Merge does. -/
set_option maxHeartbeats 2000000
namespace Go.Pv
attribute [local irreducible] PWP POps PQuiet PSem XThen XBlock RetPost InlPost
open Go.Proofs

theorem tvT : eqT Tryz.prog 156 [.str, .bool] = true := by kernel_rfl
theorem tvZ : zagg Tryz.prog 156 [.str [], .bool false] = true := by kernel_rfl
theorem leq_tv (x y : TV) : leqs [.str, .bool] [.str x.1, .bool x.2] [.str y.1, .bool y.2] = some (decide (x = y)) := by
  have : decide (x = y) = (decide (x.1 = y.1) && (decide (x.2 = y.2) && true)) := by
    rw [Bool.and_true, ← Bool.decide_and, decide_eq_decide]
    constructor
    · rintro rfl; exact ⟨rfl, rfl⟩
    · rintro ⟨h1, h2⟩; exact Prod.ext h1 h2
  rw [this]; rfl
/-- What a key comes to, and whether there is a conflict. -/
def mrgV (v x y : TV) : TV := if x = y ∨ y = v then x else if x = v then y else v
def mrgC (v x y : TV) : Bool := !(decide (x = y ∨ y = v)) && !decide (x = v)
def mrgT (b l r : Tb) (ks : List Str) : Tb := ks.foldl (fun t k => tset k (mrgV (tget b k) (tget l k) (tget r k)) t) []
def mrgL (b l r : Tb) (ks : List Str) : List Str := ks.filter fun k => mrgC (tget b k) (tget l k) (tget r k)
theorem mrgT_snoc (b l r : Tb) (ks : List Str) (k : Str) : mrgT b l r (ks ++ [k]) = tset k (mrgV (tget b k) (tget l k) (tget r k)) (mrgT b l r ks) := by rw [mrgT, List.foldl_append]; rfl
theorem mrgT_nodup (b l r : Tb) (ks : List Str) : (tkeys (mrgT b l r ks)).Nodup := by
  have : ∀ (ks : List Str) (t : Tb), (tkeys t).Nodup → (tkeys (ks.foldl (fun t k => tset k (mrgV (tget b k) (tget l k) (tget r k)) t) t)).Nodup := by
    intro ks
    induction ks with
    | nil => exact fun t h => h
    | cons k ks ih => exact fun t h => ih _ (tset_nodup h)
  exact this ks [] .nil
theorem tset_len (k : Str) (v : TV) : ∀ t : Tb, (tset k v t).length ≤ t.length + 1
  | [] => by simp [tset]
  | (e, c) :: t => by
    have := tset_len k v t
    rw [tset]; split <;> simp <;> omega
theorem mrgT_len (b l r : Tb) (ks : List Str) : (mrgT b l r ks).length ≤ ks.length := by
  have : ∀ (ks : List Str) (t : Tb), (ks.foldl (fun t k => tset k (mrgV (tget b k) (tget l k) (tget r k)) t) t).length ≤ t.length + ks.length := by
    intro ks
    induction ks with
    | nil => exact fun t => by simp
    | cons k ks ih =>
      intro t
      have h1 := ih (tset k (mrgV (tget b k) (tget l k) (tget r k)) t)
      have h2 := tset_len k (mrgV (tget b k) (tget l k) (tget r k)) t
      simp only [List.foldl_cons, List.length_cons]; omega
  have := this ks []
  rw [List.length_nil, Nat.zero_add] at this
  exact this
def ksP (b l r : List SSet) : List Str := keysP [tabOf b, tabOf l, tabOf r]
def outP (b l r : List SSet) : List SSet := listP (mrgT (tabOf b) (tabOf l) (tabOf r) (ksP b l r))
def conP (b l r : List SSet) : List Str := mrgL (tabOf b) (tabOf l) (tabOf r) (ksP b l r)
def mrgR (l : List SSet) (c : List Str) (e : Int) : PV := .tup [.sl (l.map eSet), .sl (c.map eS), I e]
def mergeP (b l r : List SSet) : PV := if allE [b, l, r] ≠ 0 then mrgR [] [] (allE [b, l, r]) else if 60 < (outP b l r).length then mrgR [] [] 8 else mrgR (outP b l r) (conP b l r) 0
theorem tabOf_len (l : List SSet) : (tabOf l).length ≤ l.length := by
  have : ∀ (l : List SSet) (t : Tb), (l.foldl (fun t x => tset x.key (x.value, true) t) t).length ≤ t.length + l.length := by
    intro l
    induction l with
    | nil => exact fun t => by simp
    | cons x l ih =>
      intro t
      have h1 := ih (tset x.key (x.value, true) t)
      have h2 := tset_len x.key (x.value, true) t
      simp only [List.foldl_cons, List.length_cons]; omega
  have := this l []
  rw [List.length_nil, Nat.zero_add] at this
  exact this
theorem keysP_len (ts : List Tb) : (keysP ts).length ≤ (allK ts).length := by
  have := compact_len (sortS (allK ts))
  rw [sortS, List.length_mergeSort] at this
  exact this
theorem q_look3 {s : St} {T' : TypeId} {d : Nat} {x y : Operand} {ty : TypeId} {pos : String} {af : Array Edge} {g : Option (Nat × Bool)} {t : Tb} {k : Str} {T : TypeId} {r re : LRow} {E : TypeId} (hT : T' = 156) (hr : lay.get T = some r) (hs : r.sh = .map E T') (hre : lay.get E = some re) (hsh : re.sh = .str) (hx : s.ev x = .mapd (t.map eTb)) (hy : s.ev y = .str k) :
    QOp Tryz.prog lay.get s ⟨some d, .lookup T x y false, ty, pos, af, g⟩ (.agg [.str (tget t k).1, .bool (tget t k).2]) := by
  subst hT
  have := q_lookS (P := Tryz.prog) (L := lay.get) (s := s) (d := d) (x := x) (y := y) (ty := ty) (pos := pos) (af := af) (g := g) (key := .str k) none tvZ hr hs hre rfl hx (by rw [hy]; rfl) (by rw [kkey, hsh]; rfl) (by rw [hsh]; exact keyedG_tb t)
  rwa [mval_tb] at this
theorem eTV_eq (v : TV) : eTV v = .agg [.str v.1, .bool v.2] := rfl
set_option maxRecDepth 20000 in
theorem merge_ret (b l r : List SSet) (hb : SaneS b) (hl : SaneS l) (hr : SaneS r) (hb2 : b.length ≤ 1000) (hl2 : l.length ≤ 1000) (hr2 : r.length ≤ 1000) : Ret Tryz.prog .shared 29 [.sl (b.map eSet), .sl (l.map eSet), .sl (r.map eSet)] (mergeP b l r) := by
  have hall := checkAll_ret [b, l, r] (by simp) (fun x hx => by simp at hx; rcases hx with rfl | rfl | rfl <;> assumption)
  have htb := tableOf_ret b hb.1
  have htl := tableOf_ret l hl.1
  have htr := tableOf_ret r hr.1
  have n1 := tabOf_len b
  have n2 := tabOf_len l
  have n3 := tabOf_len r
  have hal : (allK [tabOf b, tabOf l, tabOf r]).length ≤ 3000 := by simp [allK, tkeys]; omega
  have hkl := keysP_len [tabOf b, tabOf l, tabOf r]
  have hks := keys_ret [tabOf b, tabOf l, tabOf r] (by simp) (by omega)
  have hli := list_ret (mrgT (tabOf b) (tabOf l) (tabOf r) (ksP b l r)) (mrgT_nodup ..) (by have := mrgT_len (tabOf b) (tabOf l) (tabOf r) (ksP b l r); rw [ksP] at *; omega)
  rw [mergeP]
  generalize he : allE [b, l, r] = e at hall ⊢
  refine Ret.of_pwp layOk mixed Go.Proofs.Tryz.func29 rfl (by decide) rfl rfl ?_
  repeat (refine stp rfl ?_ ?_;·repeat' constructor)
  refine ps_run (o_slit 1 rfl rfl rfl rfl rfl rfl rfl rfl rfl rfl rfl (by repeat' constructor) rfl ?_)
  repeat (refine stp rfl ?_ ?_;·repeat' constructor)
  apply qst;exact rfl;exact rfl;exact q_callP rfl (hall) rfl (by repeat' constructor) rfl rfl
  repeat (refine stp rfl ?_ ?_;·repeat' constructor)
  refine pw_cond rfl (fun h => ?_) (fun h => ?_)
  · have hne : e ≠ 0 := by simpa using h
    ((repeat (first | refine ps_nil ?_ | refine pq_nil ?_ | refine x_norm ?_ | refine pw_seq ?_)); refine pw_region ?_)
    refine ps_v rfl trivial ?_
    refine ps_v rfl trivial ?_
    refine ps_v rfl trivial ?_
    refine ps_v rfl trivial ?_
    refine ps_nil ?_
    refine x_norm ?_
    refine pw_ghost (Ghost.nilsl (t := 6) rfl) ?_
    refine pw_ghost (Ghost.nilsl (t := 7) rfl) ?_
    repeat (refine stp rfl ?_ ?_;·repeat' constructor)
    exact end3 rfl rfl rfl rfl rfl rfl rfl trivial trivial trivial (by rw [if_pos hne]; rfl)
  · have h0 : e = 0 := by simpa using h
    subst h0
    clear h
    rw [if_neg (by simp)]
    repeat (refine stp rfl ?_ ?_;·repeat' constructor)
    apply qst;exact rfl;exact rfl;exact q_callF rfl (htb) rfl (by repeat' constructor) rfl
    repeat (refine stp rfl ?_ ?_;·repeat' constructor)
    apply qst;exact rfl;exact rfl;exact q_callF rfl (htl) rfl (by repeat' constructor) rfl
    repeat (refine stp rfl ?_ ?_;·repeat' constructor)
    apply qst;exact rfl;exact rfl;exact q_callF rfl (htr) rfl (by repeat' constructor) rfl
    repeat (refine stp rfl ?_ ?_;·repeat' constructor)
    refine ps_run (o_mkmap rfl ?_)
    refine ps_v rfl trivial ?_
    ((repeat (first | refine ps_nil ?_ | refine pq_nil ?_ | refine x_norm ?_ | refine pw_seq ?_)); refine pw_region ?_)
    (first | refine ps_run (o_nilm 9 1 0 rfl rfl ?_) | refine ps_run (o_nila 9 1 0 rfl rfl ?_))
    repeat (refine stp rfl ?_ ?_;·repeat' constructor)
    refine ps_run (o_slit 1 rfl rfl rfl rfl rfl rfl rfl rfl rfl rfl rfl (by repeat' constructor) rfl ?_)
    repeat (refine stp rfl ?_ ?_;·repeat' constructor)
    apply qst;exact rfl;exact rfl;exact q_callF rfl (hks) rfl (by repeat' constructor) rfl
    repeat (refine stp rfl ?_ ?_;·repeat' constructor)
    have hksl : (((keysP [tabOf b, tabOf l, tabOf r]).map eS).length : Int) = (keysP [tabOf b, tabOf l, tabOf r]).length := by simp
    rw [hksl]
    have hkl3 : (keysP [tabOf b, tabOf l, tabOf r]).length ≤ 3000 := Nat.le_trans hkl hal
    rw [conP, outP, ksP]
    rw [ksP] at hli
    clear hks hkl hal htb htl htr n1 n2 n3 hall
    generalize keysP [tabOf b, tabOf l, tabOf r] = ks at *
    generalize tabOf b = B at *
    generalize tabOf l = X at *
    generalize tabOf r = Y at *
    refine pw_loop (fun k => k ≤ ks.length) (fun k => [(10, .mapd (B.map eTb)), (11, .mapd (X.map eTb)), (12, .mapd (Y.map eTb)), (13, .mp 32 1), (14, .als 14 (1 + (mrgL B X Y (ks.take k)).length) 0 ((mrgL B X Y (ks.take k)).map eS).length), (37, .fsl (ks.map eS)), (38, I ks.length), (39, I k)])
      (fun k => [(14, 1 + (mrgL B X Y (ks.take k)).length, ⟨9, 1, (mrgL B X Y (ks.take k)).map eS, 0⟩), (32, 1, ⟨152, 0, (mrgT B X Y (ks.take k)).map eTb, 0⟩)]) (fun k => ks.length - k) 0 (Nat.zero_le _) ⟨rfl, rfl, rfl, rfl, rfl, rfl, rfl, rfl, rfl, rfl, trivial⟩ ?_
    intro k s hk
    have hML : (mrgL B X Y (ks.take k)).length ≤ 3000 := by rw [mrgL]; exact Nat.le_trans (List.length_filter_le _ _) (by simp; omega)
    repeat (refine stp rfl ?_ ?_;·repeat' constructor)
    refine pw_cond rfl (fun h => ?_) (fun h => ?_)
    · have hlt : k < ks.length := by have := of_decide_eq_true h; omega
      clear h
      obtain ⟨key, hx⟩ := get_lt hlt
      have hT : mrgT B X Y (ks.take (k + 1)) = tset key (mrgV (tget B key) (tget X key) (tget Y key)) (mrgT B X Y (ks.take k)) := by rw [take_snoc hx, mrgT_snoc]
      have hC : mrgL B X Y (ks.take (k + 1)) = mrgL B X Y (ks.take k) ++ (if mrgC (tget B key) (tget X key) (tget Y key) then [key] else []) := by
        rw [take_snoc hx, mrgL, List.filter_append, mrgL]
        congr 1
        cases hc : mrgC (tget B key) (tget X key) (tget Y key) <;> simp [hc]
      repeat (refine stp rfl ?_ ?_;·repeat' constructor)
      apply qst;exact rfl;exact rfl;exact q_idxmF rfl rfl rfl rfl rfl (by omega) hx rfl
      repeat (refine stp rfl ?_ ?_;·repeat' constructor)
      apply qst;exact rfl;exact rfl;exact q_look3 rfl rfl rfl rfl rfl rfl rfl
      repeat (refine stp rfl ?_ ?_;·repeat' constructor)
      apply qst;exact rfl;exact rfl;exact q_look3 rfl rfl rfl rfl rfl rfl rfl
      repeat (refine stp rfl ?_ ?_;·repeat' constructor)
      apply qst;exact rfl;exact rfl;exact q_seqE tvT rfl rfl (leq_tv (tget X key) (tget Y key))
      repeat (refine stp rfl ?_ ?_;·repeat' constructor)
      (first | refine ps_split rfl rfl (fun h => ?_) (fun h => ?_) | refine pq_split rfl rfl (fun h => ?_) (fun h => ?_) | refine p3_split rfl rfl (fun h => ?_) (fun h => ?_))
      · have e1 : tget X key = tget Y key := of_decide_eq_true h
        clear h
        repeat (refine stp rfl ?_ ?_;·repeat' constructor)
        apply qst;exact rfl;exact rfl;exact q_look3 rfl rfl rfl rfl rfl rfl rfl
        repeat (refine stp rfl ?_ ?_;·repeat' constructor)
        refine ps_run0 (o_mset 0 rfl rfl rfl rfl rfl rfl rfl rfl rfl (keyed_tb _) rfl rfl ?_)
        repeat (refine stp rfl ?_ ?_;·repeat' constructor)
        have hV : mrgV (tget B key) (tget X key) (tget Y key) = tget X key := by rw [mrgV, if_pos (.inl e1)]
        have hc : mrgC (tget B key) (tget X key) (tget Y key) = false := by rw [mrgC, decide_eq_true (p := _ ∨ _) (.inl e1)]; rfl
        rw [hV] at hT
        refine ⟨k + 1, hlt, by omega, rfl, rfl, rfl, rfl, ?_, rfl, rfl, i64_next (by omega) (by omega), ?_, ?_, trivial⟩
        · rw [hC, hc, if_neg (by simp), List.append_nil]; rfl
        · rw [hC, hc, if_neg (by simp), List.append_nil]; rfl
        · rw [hT, ← mput_tb]; rfl
      · have e1 : ¬ tget X key = tget Y key := of_decide_eq_false h
        clear h
        repeat (refine stp rfl ?_ ?_;·repeat' constructor)
        apply qst;exact rfl;exact rfl;exact q_look3 rfl rfl rfl rfl rfl rfl rfl
        repeat (refine stp rfl ?_ ?_;·repeat' constructor)
        apply qst;exact rfl;exact rfl;exact q_look3 rfl rfl rfl rfl rfl rfl rfl
        repeat (refine stp rfl ?_ ?_;·repeat' constructor)
        apply qst;exact rfl;exact rfl;exact q_seqE tvT rfl rfl (leq_tv (tget Y key) (tget B key))
        repeat (refine stp rfl ?_ ?_;·repeat' constructor)
        refine pw_cond rfl (fun h => ?_) (fun h => ?_)
        · have e2 : tget Y key = tget B key := of_decide_eq_true h
          clear h
          repeat (refine stp rfl ?_ ?_;·repeat' constructor)
          apply qst;exact rfl;exact rfl;exact q_look3 rfl rfl rfl rfl rfl rfl rfl
          repeat (refine stp rfl ?_ ?_;·repeat' constructor)
          refine ps_run0 (o_mset 0 rfl rfl rfl rfl rfl rfl rfl rfl rfl (keyed_tb _) rfl rfl ?_)
          repeat (refine stp rfl ?_ ?_;·repeat' constructor)
          have hV : mrgV (tget B key) (tget X key) (tget Y key) = tget X key := by rw [mrgV, if_pos (.inr e2)]
          have hc : mrgC (tget B key) (tget X key) (tget Y key) = false := by rw [mrgC, decide_eq_true (p := _ ∨ _) (.inr e2)]; rfl
          rw [hV] at hT
          refine ⟨k + 1, hlt, by omega, rfl, rfl, rfl, rfl, ?_, rfl, rfl, i64_next (by omega) (by omega), ?_, ?_, trivial⟩
          · rw [hC, hc, if_neg (by simp), List.append_nil]; rfl
          · rw [hC, hc, if_neg (by simp), List.append_nil]; rfl
          · rw [hT, ← mput_tb]; rfl
        · have e2 : ¬ tget Y key = tget B key := of_decide_eq_false h
          clear h
          have e12 : ¬ (tget X key = tget Y key ∨ tget Y key = tget B key) := fun e => e.elim e1 e2
          repeat (refine stp rfl ?_ ?_;·repeat' constructor)
          apply qst;exact rfl;exact rfl;exact q_look3 rfl rfl rfl rfl rfl rfl rfl
          repeat (refine stp rfl ?_ ?_;·repeat' constructor)
          apply qst;exact rfl;exact rfl;exact q_look3 rfl rfl rfl rfl rfl rfl rfl
          repeat (refine stp rfl ?_ ?_;·repeat' constructor)
          apply qst;exact rfl;exact rfl;exact q_seqE tvT rfl rfl (leq_tv (tget X key) (tget B key))
          repeat (refine stp rfl ?_ ?_;·repeat' constructor)
          refine pw_cond rfl (fun h => ?_) (fun h => ?_)
          · have e3 : tget X key = tget B key := of_decide_eq_true h
            clear h
            repeat (refine stp rfl ?_ ?_;·repeat' constructor)
            apply qst;exact rfl;exact rfl;exact q_look3 rfl rfl rfl rfl rfl rfl rfl
            repeat (refine stp rfl ?_ ?_;·repeat' constructor)
            refine ps_run0 (o_mset 0 rfl rfl rfl rfl rfl rfl rfl rfl rfl (keyed_tb _) rfl rfl ?_)
            repeat (refine stp rfl ?_ ?_;·repeat' constructor)
            have hV : mrgV (tget B key) (tget X key) (tget Y key) = tget Y key := by rw [mrgV, if_neg e12, if_pos e3]
            have hc : mrgC (tget B key) (tget X key) (tget Y key) = false := by rw [mrgC, decide_eq_false e12, decide_eq_true e3]; rfl
            rw [hV] at hT
            refine ⟨k + 1, hlt, by omega, rfl, rfl, rfl, rfl, ?_, rfl, rfl, i64_next (by omega) (by omega), ?_, ?_, trivial⟩
            · rw [hC, hc, if_neg (by simp), List.append_nil]; rfl
            · rw [hC, hc, if_neg (by simp), List.append_nil]; rfl
            · rw [hT, ← mput_tb]; rfl
          · have e3 : ¬ tget X key = tget B key := of_decide_eq_false h
            clear h
            repeat (refine stp rfl ?_ ?_;·repeat' constructor)
            apply qst;exact rfl;exact rfl;exact q_look3 rfl rfl rfl rfl rfl rfl rfl
            repeat (refine stp rfl ?_ ?_;·repeat' constructor)
            refine ps_run0 (o_mset 0 rfl rfl rfl rfl rfl rfl rfl rfl rfl (keyed_tb _) rfl rfl ?_)
            repeat (refine stp rfl ?_ ?_;·repeat' constructor)
            apply qst;exact rfl;exact rfl;exact q_slit rfl rfl rfl rfl rfl rfl rfl rfl rfl rfl (by repeat' constructor) rfl
            repeat (refine stp rfl ?_ ?_;·repeat' constructor)
            refine ps_run (o_app 0 rfl rfl rfl rfl rfl rfl rfl rfl rfl rfl rfl (by repeat' constructor) (by intro row hr; first | (simp at hr; subst hr; rfl) | simp at hr) rfl rfl (by simp; omega) (by simp; omega) ?_)
            repeat (refine stp rfl ?_ ?_;·repeat' constructor)
            have hV : mrgV (tget B key) (tget X key) (tget Y key) = tget B key := by rw [mrgV, if_neg e12, if_neg e3]
            have hc : mrgC (tget B key) (tget X key) (tget Y key) = true := by rw [mrgC, decide_eq_false e12, decide_eq_false e3]; rfl
            rw [hV] at hT
            refine ⟨k + 1, hlt, by omega, rfl, rfl, rfl, rfl, ?_, rfl, rfl, i64_next (by omega) (by omega), ?_, ?_, trivial⟩
            · rw [hC, hc, if_pos rfl]; exact als_snoc eS 14 1 (mrgL B X Y (ks.take k)) key
            · rw [hC, hc, if_pos rfl]; exact cont_snoc eS 1 9 1 0 (mrgL B X Y (ks.take k)) key
            · rw [hT, ← mput_tb]; rfl
    · have hge : k = ks.length := by have := of_decide_eq_false h; omega
      subst hge
      clear h
      rw [List.take_length]
      repeat (refine stp rfl ?_ ?_;·repeat' constructor)
      apply qst;exact rfl;exact rfl;exact q_callF rfl (hli) rfl (by repeat' constructor) rfl
      repeat (refine stp rfl ?_ ?_;·repeat' constructor)
      have hol : (((listP (mrgT B X Y ks)).map eSet).length : Int) = (listP (mrgT B X Y ks)).length := by simp
      rw [hol]
      refine pw_cond rfl (fun h => ?_) (fun h => ?_)
      · have h60 : 60 < (listP (mrgT B X Y ks)).length := by have := of_decide_eq_true h; omega
        ((repeat (first | refine ps_nil ?_ | refine pq_nil ?_ | refine x_norm ?_ | refine pw_seq ?_)); refine pw_region ?_)
        refine ps_v rfl trivial ?_
        refine ps_v rfl trivial ?_
        refine ps_v rfl trivial ?_
        refine ps_nil ?_
        refine x_norm ?_
        refine pw_ghost (Ghost.nilsl (t := 6) rfl) ?_
        refine pw_ghost (Ghost.nilsl (t := 7) rfl) ?_
        repeat (refine stp rfl ?_ ?_;·repeat' constructor)
        exact end3 rfl rfl rfl rfl rfl rfl rfl trivial trivial trivial (by rw [if_pos h60]; rfl)
      · have h60 : ¬ 60 < (listP (mrgT B X Y ks)).length := by have := of_decide_eq_false h; omega
        repeat (refine stp rfl ?_ ?_;·repeat' constructor)
        rw [if_neg h60]
        exact end3 rfl rfl rfl rfl rfl rfl rfl trivial ⟨rfl, rfl, rfl⟩ trivial rfl
end Go.Pv

/- All keys, as the reference finds them. -/
set_option maxHeartbeats 2000000
namespace Go.Pv
attribute [local irreducible] PWP POps PQuiet PSem XThen XBlock RetPost InlPost
open Go.Proofs

theorem q_slh2 {P : Program} {L : Lay} {s : St} {d : Nat} {ty : TypeId} {pos : String} {af : Array Edge} {g : Option (Nat × Bool)} {T E : TypeId} {x hi : Operand} {r re : LRow} {α : Type} {enc : α → List PV} {l : List α} {k : IntKind} {n : Int} (hr : L T = some r) (hs : r.sh = .sl E) (hre : L E = some re)
    (hx : s.ev x = .sl (l.map enc)) (hix : s.ev hi = .int k n) (h0 : 0 ≤ n) (hle : n ≤ l.length) (hlen : ∀ a, (enc a).length = re.size) : QOp P L s ⟨some d, .slice T x none (some hi) none, ty, pos, af, g⟩ (.sl ((l.take n.toNat).map enc)) := by
  have := QOp.slh (P := P) (L := L) (s := s) (o := ⟨some d, .slice T x none (some hi) none, ty, pos, af, g⟩) rfl hr hs hre hx hix h0 (by simpa using hle) (by intro row h; obtain ⟨a, _, rfl⟩ := List.mem_map.1 h; exact hlen a)
  rwa [← List.map_take] at this
theorem q_slc2 {P : Program} {L : Lay} {s : St} {d : Nat} {ty : TypeId} {pos : String} {af : Array Edge} {g : Option (Nat × Bool)} {T E : TypeId} {x lo : Operand} {r re : LRow} {α : Type} {enc : α → List PV} {l : List α} {k : IntKind} {n : Int} (hr : L T = some r) (hs : r.sh = .sl E) (hre : L E = some re)
    (hx : s.ev x = .sl (l.map enc)) (hix : s.ev lo = .int k n) (h0 : 0 ≤ n) (hle : n ≤ l.length) (hlen : ∀ a, (enc a).length = re.size) : QOp P L s ⟨some d, .slice T x (some lo) none none, ty, pos, af, g⟩ (.sl ((l.drop n.toNat).map enc)) := by
  have := QOp.slc (P := P) (L := L) (s := s) (o := ⟨some d, .slice T x (some lo) none none, ty, pos, af, g⟩) rfl hr hs hre hx hix h0 (by simpa using hle) (by intro row h; obtain ⟨a, _, rfl⟩ := List.mem_map.1 h; exact hlen a)
  rwa [← List.map_drop] at this
/-- A fresh list, read as data. -/
theorem Ghost.toSl {s : St} {t : Nat} {rows : List (List PV)} (hr : s.reg t = .fsl rows) : Ghost s (s.putR t (.sl rows)) := by
  intro C a w hX ⟨γ, h⟩
  refine ⟨γ, h.defers, h.size, fun r => ?_, h.sites, h.inj, h.base, h.below, h.top, h.kept⟩
  show Rep _ (bif Nat.beq r t then _ else s.reg r) _
  by_cases hrt : r = t
  · subst hrt
    have hp := h.regs r
    rw [hr] at hp
    simp only [Nat.beq_refl, cond_true]
    cases hp with
    | d hd => cases hd
    | fsl hd => exact .d (hd.weaken envOf_okfok)
  · rw [nbeq_ne hrt]; exact h.regs r
/-- A list of plain values, given up: data from now on. -/
theorem Ghost.takeL {s : St} {k g t n kd sz : Nat} {T : TypeId} {rows : List (List PV)} {α : Type} {enc : α → List PV} (l : List α) (ho : s.own k = (g, some ⟨T, sz, rows, kd⟩)) (hr : s.reg t = .als k g 0 n) (he : rows = l.map enc) (hn : n = rows.length) (hpl : ∀ x, (enc x).all plain1 = true) :
    Ghost s ((s.setOwn k (g + 1) none).putR t (.sl (l.map enc))) := by
  intro C a w hX ⟨γ, h⟩
  subst hn
  subst he
  obtain ⟨h1, hle, _⟩ := h.drop hX ho
  refine ⟨γ, h1.defers, h1.size, fun r => ?_, h1.sites, h1.inj, h1.base, h1.below, h1.top, h1.kept⟩
  show Rep _ (bif Nat.beq r t then _ else (s.setOwn k (g + 1) none).reg r) _
  by_cases hrt : r = t
  · subst hrt
    have hp := h.regs r
    rw [hr] at hp
    simp only [Nat.beq_refl, cond_true]
    refine .d ?_
    rcases h.als_at hp ho with ⟨q1, _, q3, q4⟩ | ⟨b, cap, cur, q1, q2, q3, q4, q5, q6, q7⟩
    · have : l.map enc = [] := (h.sites k _ (by rw [ho])).emp q1
      rw [this, q4]
      exact .sl0 _ _
    · obtain ⟨cur', g1, g2, g3, g4, g5⟩ := h.site_at ho q1 (h.cells_sz ho q1 q3)
      have hb : (envOf C γ (s.setOwn k (g + 1) none) w).ok b := by
        have hbase := h.base k _ b (by rw [ho]) q1
        refine ⟨hbase.2, fun hx => ?_, fun k' c' hc' hb' => ?_⟩
        · have := hX b hx; omega
        · by_cases hk' : k' = k
          · subst hk'; rw [setOwn_same] at hc'; cases hc'
          · rw [setOwn_ne hk'] at hc'
            exact hk' (h.inj k' k c' _ b hc' (by rw [ho]) hb' q1)
      rw [q2]
      simp only [Nat.zero_mul]
      refine .sl (l.map enc) b 0 cap sz (fun i j => cur'.getD (i * sz + j) undef) hb g2 q4 g4 (fun i j row pv e1 e2 => ?_) (fun i j row pv e1 e2 => ?_)
      · obtain ⟨u, f1, f2, _⟩ := g5 i j row pv e1 e2
        have g1 : w.heap[b]? = some (.cells cur' T (0, 0)) := g1
        show w.cell? _ = _ ∧ _
        rw [cell_of_cells g1, Nat.zero_add, f1]
        simp [f1, f2]
      · obtain ⟨u, f1, _, f3⟩ := g5 i j row pv e1 e2
        have hu : cur'.getD (i * sz + j) undef = u := by simp [f1]
        simp only [hu]
        rw [List.getElem?_map, Option.map_eq_some_iff] at e1
        obtain ⟨y, _, rfl⟩ := e1
        have hpv := List.all_eq_true.1 (hpl y) _ (List.mem_of_getElem? e2)
        rw [plain_val hpv (f3.rep envOf_okfok)]
        exact (plain_drep hpv _ _).1
  · rw [nbeq_ne hrt]; exact h1.regs r
/-- A nil slice, as an empty fresh list. -/
theorem Ghost.nilfs {s : St} {t : Nat} (hr : s.reg t = .nil) : Ghost s (s.putR t (.fsl [])) := by
  intro C a w hX ⟨γ, h⟩
  refine ⟨γ, h.defers, h.size, fun r => ?_, h.sites, h.inj, h.base, h.below, h.top, h.kept⟩
  show Rep _ (bif Nat.beq r t then _ else s.reg r) _
  by_cases hrt : r = t
  · subst hrt
    have hp := h.regs r
    rw [hr] at hp
    simp only [Nat.beq_refl, cond_true]
    rw [hp.nil_inv]
    exact .fsl (.sl0 _ _)
  · rw [nbeq_ne hrt]; exact h.regs r
/-- A list of plain values, given up: fresh data from now on. -/
theorem Ghost.takeF {s : St} {k g t n kd sz : Nat} {T : TypeId} {rows : List (List PV)} {α : Type} {enc : α → List PV} (l : List α) (ho : s.own k = (g, some ⟨T, sz, rows, kd⟩)) (hr : s.reg t = .als k g 0 n) (he : rows = l.map enc) (hn : n = rows.length) (hpl : ∀ x, (enc x).all plain1 = true) :
    Ghost s ((s.setOwn k (g + 1) none).putR t (.fsl (l.map enc))) := by
  intro C a w hX ⟨γ, h⟩
  subst hn
  subst he
  obtain ⟨h1, hle, _⟩ := h.drop hX ho
  refine ⟨γ, h1.defers, h1.size, fun r => ?_, h1.sites, h1.inj, h1.base, h1.below, h1.top, h1.kept⟩
  show Rep _ (bif Nat.beq r t then _ else (s.setOwn k (g + 1) none).reg r) _
  by_cases hrt : r = t
  · subst hrt
    have hp := h.regs r
    rw [hr] at hp
    simp only [Nat.beq_refl, cond_true]
    refine .fsl ?_
    rcases h.als_at hp ho with ⟨q1, _, q3, q4⟩ | ⟨b, cap, cur, q1, q2, q3, q4, q5, q6, q7⟩
    · have : l.map enc = [] := (h.sites k _ (by rw [ho])).emp q1
      rw [this, q4]
      exact .sl0 _ _
    · obtain ⟨cur', g1, g2, g3, g4, g5⟩ := h.site_at ho q1 (h.cells_sz ho q1 q3)
      have hb : (envOf C γ (s.setOwn k (g + 1) none) w).okf b := by
        have hbase := h.base k _ b (by rw [ho]) q1
        refine ⟨hbase.1, hbase.2, fun hx => ?_, fun k' c' hc' hb' => ?_⟩
        · have := hX b hx; omega
        · by_cases hk' : k' = k
          · subst hk'; rw [setOwn_same] at hc'; cases hc'
          · rw [setOwn_ne hk'] at hc'
            exact hk' (h.inj k' k c' _ b hc' (by rw [ho]) hb' q1)
      rw [q2]
      simp only [Nat.zero_mul]
      refine .sl (l.map enc) b 0 cap sz (fun i j => cur'.getD (i * sz + j) undef) hb g2 q4 g4 (fun i j row pv e1 e2 => ?_) (fun i j row pv e1 e2 => ?_)
      · obtain ⟨u, f1, f2, _⟩ := g5 i j row pv e1 e2
        have g1 : w.heap[b]? = some (.cells cur' T (0, 0)) := g1
        show w.cell? _ = _ ∧ _
        rw [cell_of_cells g1, Nat.zero_add, f1]
        simp [f1, f2]
      · obtain ⟨u, f1, _, f3⟩ := g5 i j row pv e1 e2
        have hu : cur'.getD (i * sz + j) undef = u := by simp [f1]
        simp only [hu]
        rw [List.getElem?_map, Option.map_eq_some_iff] at e1
        obtain ⟨y, _, rfl⟩ := e1
        have hpv := List.all_eq_true.1 (hpl y) _ (List.mem_of_getElem? e2)
        rw [plain_val hpv (f3.rep envOf_okfok)]
        exact (plain_drep hpv _ _).1
  · rw [nbeq_ne hrt]; exact h1.regs r
theorem Ret.shared_of_fresh [Globs] {P : Program} {f : FuncId} {pargs : List PV} {r : PV} (h : Ret P .fresh f pargs r) : Ret P .shared f pargs r :=
  ⟨h.1, fun w X args h0 h1 h2 h3 => (h.2 w X args h0 h1 h2 h3).mono fun _ _ ⟨v, e1, e2, e3⟩ => ⟨v, e1, e2, e3.weaken fun b hb => ⟨hb.2, fun hx => by have := h1 b hx; have := hb.1; omega⟩⟩⟩
/-- Behind how many texts a text belongs. -/
def atK (out : List Str) (key : Str) : Nat := (out.takeWhile fun s => Op.bytesLess s key).length
def insK (out : List Str) (key : Str) : List Str := if out[atK out key]? = some key then out else out.take (atK out key) ++ [key] ++ out.drop (atK out key)
def insL (out : List Str) (l : List SSet) : List Str := l.foldl (fun o x => insK o x.key) out
def keysR (ls : List (List SSet)) : List Str := ls.foldl insL []
theorem insL_snoc (out : List Str) (l : List SSet) (x : SSet) : insL out (l ++ [x]) = insK (insL out l) x.key := by rw [insL, List.foldl_append]; rfl
theorem keysR_snoc (ls : List (List SSet)) (l : List SSet) : keysR (ls ++ [l]) = insL (keysR ls) l := by rw [keysR, List.foldl_append]; rfl
theorem insK_len (out : List Str) (key : Str) : (insK out key).length ≤ out.length + 1 := by
  rw [insK]
  split
  · omega
  · simp; omega
theorem insL_len (l : List SSet) : ∀ out : List Str, (insL out l).length ≤ out.length + l.length := by
  induction l with
  | nil => intro out; simp [insL]
  | cons x l ih =>
    intro out
    have h1 := ih (insK out x.key)
    have h2 := insK_len out x.key
    rw [insL] at h1 ⊢
    rw [List.foldl_cons, List.length_cons]; omega
theorem keysR_len {ls : List (List SSet)} (h : ∀ l ∈ ls, l.length ≤ 1000) (k : Nat) : (keysR (ls.take k)).length ≤ 1000 * k := by
  induction k with
  | zero => simp [keysR]
  | succ k ih =>
    rcases Nat.lt_or_ge k ls.length with hk | hk
    · have hx : ls[k]? = some ls[k] := List.getElem?_eq_getElem hk
      rw [take_snoc hx, keysR_snoc]
      have h1 := insL_len ls[k] (keysR (ls.take k))
      have h2 := h ls[k] (List.getElem_mem hk)
      omega
    · rw [List.take_of_length_le (by omega)] at ih ⊢; omega
theorem atK_at {key : Str} : ∀ {out : List Str} {n : Nat}, n ≤ out.length → (∀ i x, i < n → out[i]? = some x → Op.bytesLess x key = true) → (∀ x, out[n]? = some x → Op.bytesLess x key = false) → atK out key = n
  | [], n, h, _, _ => by simp at h; subst h; rfl
  | x :: out, 0, _, _, h2 => by
    have := h2 x rfl
    simp [atK, this]
  | x :: out, n + 1, h, h1, h2 => by
    have hx := h1 0 x (by omega) rfl
    have ih := atK_at (out := out) (n := n) (by simpa using h) (fun i y hi hy => h1 (i + 1) y (by omega) (by simpa using hy)) (fun y hy => h2 y (by simpa using hy))
    simp only [atK] at ih ⊢
    rw [List.takeWhile_cons, if_pos hx, List.length_cons, ih]
set_option maxRecDepth 20000 in
theorem keys_refF (ls : List (List SSet)) (hn : ls.length ≤ 100) (hb : ∀ l ∈ ls, l.length ≤ 1000) : Ret Tryz.prog .fresh 34 [.sl (ls.map eSets)] (.sl ((keysR ls).map eS)) := by
  have hll : ((ls.map eSets).length : Int) = ls.length := by simp
  refine Ret.of_pwp layOk mixed Go.Proofs.Tryz.func34 rfl (by decide) rfl rfl ?_
  ((repeat (first | refine ps_nil ?_ | refine pq_nil ?_ | refine x_norm ?_ | refine pw_seq ?_)); refine pw_region ?_)
  refine ps_v rfl trivial ?_
  ((repeat (first | refine ps_nil ?_ | refine pq_nil ?_ | refine x_norm ?_ | refine pw_seq ?_)); refine pw_region ?_)
  refine ps_v rfl trivial ?_
  refine ps_nil ?_
  refine x_norm ?_
  refine pw_ghost (Ghost.nilfs (t := 3) rfl) ?_
  repeat (refine stp rfl ?_ ?_;·repeat' constructor)
  refine pw_loop (fun i => i ≤ ls.length) (fun i => [(0, .sl (ls.map eSets)), (3, .fsl ((keysR (ls.take i)).map eS)), (4, I i)]) (fun _ => []) (fun i => ls.length - i) 0 (Nat.zero_le _) ⟨rfl, rfl, rfl, trivial⟩ ?_
  intro i s hi
  repeat (refine stp rfl ?_ ?_;·repeat' constructor)
  rw [hll]
  refine pw_cond rfl (fun h => ?_) (fun h => ?_)
  · have hlt : i < ls.length := by have := of_decide_eq_true h; omega
    clear h
    obtain ⟨l, hl⟩ := get_lt hlt
    have hl1 := hb l (List.mem_of_getElem? hl)
    have ho1 := keysR_len hb i
    have hks : keysR (ls.take (i + 1)) = insL (keysR (ls.take i)) l := by rw [take_snoc hl, keysR_snoc]
    have hml : ((l.map eSet).length : Int) = l.length := by simp
    generalize keysR (ls.take i) = O at *
    repeat (refine stp rfl ?_ ?_;·repeat' constructor)
    refine pw_loop (fun j => j ≤ l.length) (fun j => [(0, .sl (ls.map eSets)), (3, .fsl ((insL O (l.take j)).map eS)), (4, I i), (5, I j)]) (fun _ => []) (fun j => l.length - j) 0 (Nat.zero_le _) ⟨rfl, rfl, rfl, rfl, trivial⟩ ?_
    intro j s2 hj
    have ho2 := insL_len (l.take j) O
    rw [List.length_take] at ho2
    repeat (refine stp rfl ?_ ?_;·repeat' constructor)
    apply qst;exact rfl;exact rfl;exact q_idxm rfl rfl rfl rfl rfl (by omega) hl rfl
    repeat (refine stp rfl ?_ ?_;·repeat' constructor)
    rw [hml]
    refine pw_cond rfl (fun h => ?_) (fun h => ?_)
    · have hjlt : j < l.length := by have := of_decide_eq_true h; omega
      clear h
      obtain ⟨x, hx⟩ := get_lt hjlt
      have hks2 : insL O (l.take (j + 1)) = insK (insL O (l.take j)) x.key := by rw [take_snoc hx, insL_snoc]
      generalize insL O (l.take j) = U at *
      have hul : ((U.map eS).length : Int) = U.length := by simp
      repeat (refine stp rfl ?_ ?_;·repeat' constructor)
      refine pw_loop (fun n => n ≤ U.length ∧ ∀ i y, i < n → U[i]? = some y → Op.bytesLess y x.key = true) (fun n => [(0, .sl (ls.map eSets)), (3, .fsl (U.map eS)), (4, I i), (5, I j), (6, I n)]) (fun _ => []) (fun n => U.length - n) 0 ⟨Nat.zero_le _, fun i y h => by omega⟩ ⟨rfl, rfl, rfl, rfl, rfl, trivial⟩ ?_
      rintro n s3 ⟨hnl, hpre⟩
      have fin : (∀ y, U[n]? = some y → Op.bytesLess y x.key = false) → atK U x.key = n := atK_at hnl hpre
      repeat (refine stp rfl ?_ ?_;·repeat' constructor)
      refine pw_draw 19 [22, 23, 24, 25, 26, 27, 28, 29, 30, 31, 32, 33, 34, 35, 36, 37, 38, 39, 40] (by decide +kernel) ?_
      repeat (refine stp rfl ?_ ?_;·repeat' constructor)
      rw [hul]
      (first | refine ps_split rfl rfl (fun h => ?_) (fun h => ?_) | refine pq_split rfl rfl (fun h => ?_) (fun h => ?_) | refine p3_split rfl rfl (fun h => ?_) (fun h => ?_))
      · have hnlt : n < U.length := by have := of_decide_eq_true h; omega
        clear h
        obtain ⟨y, hy⟩ := get_lt hnlt
        repeat (refine stp rfl ?_ ?_;·repeat' constructor)
        apply qst;exact rfl;exact rfl;exact q_idxmF rfl rfl rfl rfl rfl (by omega) hy rfl
        repeat (refine stp rfl ?_ ?_;·repeat' constructor)
        apply qst;exact rfl;exact rfl;exact q_idxm rfl rfl rfl rfl rfl (by omega) hl rfl
        repeat (refine stp rfl ?_ ?_;·repeat' constructor)
        apply qst;exact rfl;exact rfl;exact q_idxm rfl rfl rfl rfl rfl (by omega) hx rfl
        repeat (refine stp rfl ?_ ?_;·repeat' constructor)
        refine pw_cond rfl (fun h => ?_) (fun h => ?_)
        · repeat (refine stp rfl ?_ ?_;·repeat' constructor)
          refine ⟨n + 1, ⟨hnlt, fun i z hi hz => ?_⟩, by omega, rfl, rfl, rfl, rfl, i64_next (by omega) (by omega), trivial⟩
          by_cases hin : i = n
          · subst hin; rw [hy] at hz; cases hz; exact h
          · exact hpre i z (by omega) hz
        · have hat := fin (fun z hz => by rw [hy] at hz; cases hz; exact h)
          repeat (refine stp rfl ?_ ?_;·repeat' constructor)
          refine pw_draw 19 [43, 44, 45, 46, 47, 48, 49, 50, 51, 52, 53, 54, 55, 56, 57, 58, 59, 60, 61] (by decide +kernel) ?_
          repeat (refine stp rfl ?_ ?_;·repeat' constructor)
          rw [hul]
          (first | refine ps_split rfl rfl (fun h => ?_) (fun h => ?_) | refine pq_split rfl rfl (fun h => ?_) (fun h => ?_) | refine p3_split rfl rfl (fun h => ?_) (fun h => ?_))
          · clear h
            repeat (refine stp rfl ?_ ?_;·repeat' constructor)
            apply qst;exact rfl;exact rfl;exact q_idxmF rfl rfl rfl rfl rfl (by omega) hy rfl
            repeat (refine stp rfl ?_ ?_;·repeat' constructor)
            apply qst;exact rfl;exact rfl;exact q_idxm rfl rfl rfl rfl rfl (by omega) hl rfl
            repeat (refine stp rfl ?_ ?_;·repeat' constructor)
            apply qst;exact rfl;exact rfl;exact q_idxm rfl rfl rfl rfl rfl (by omega) hx rfl
            repeat (refine stp rfl ?_ ?_;·repeat' constructor)
            refine pw_cond rfl (fun h => ?_) (fun h => ?_)
            · have hyx : y = x.key := by simpa using h
              clear h
              have hi0 : insK U x.key = U := by rw [insK, hat, hy, hyx, if_pos rfl]
              repeat (refine stp rfl ?_ ?_;·repeat' constructor)
              exact ⟨j + 1, hjlt, by omega, rfl, by rw [hks2, hi0]; rfl, rfl, i64_next (by omega) (by omega), trivial⟩
            · have hyx : ¬ y = x.key := by simpa using h
              clear h
              have hi0 : insK U x.key = U.take n ++ [x.key] ++ U.drop n := by rw [insK, hat, hy, if_neg (by simpa using hyx)]
              repeat (refine stp rfl ?_ ?_;·repeat' constructor)
              refine pw_ghost (Ghost.toSl (t := 3) rfl) ?_
              refine pw_draw3 [62] [0, 4, 14, 18] (by decide +kernel) ?_
              repeat (refine stp rfl ?_ ?_;·repeat' constructor)
              refine z3e rfl rfl rfl (o_slit 0 rfl rfl rfl rfl rfl rfl rfl rfl rfl rfl rfl (by repeat' constructor) rfl ⟨offz rfl, ?_⟩)
              repeat (refine stp rfl ?_ ?_;·repeat' constructor)
              apply qst;exact rfl;exact rfl;exact q_slh2 (n := (n : Int)) rfl rfl rfl rfl rfl (by omega) (by omega) (fun _ => rfl)
              repeat (refine stp rfl ?_ ?_;·repeat' constructor)
              refine z3e rfl rfl rfl (o_app 2 rfl rfl rfl rfl rfl rfl rfl rfl rfl rfl rfl (by repeat' constructor) (by intro row hr; obtain ⟨_, _, rfl⟩ := List.mem_map.1 hr; rfl) rfl rfl (by simp; omega) (by simp; omega) ⟨offz rfl, ?_⟩)
              repeat (refine stp rfl ?_ ?_;·repeat' constructor)
              apply qst;exact rfl;exact rfl;exact q_idxm rfl rfl rfl rfl rfl (by omega) hl rfl
              repeat (refine stp rfl ?_ ?_;·repeat' constructor)
              apply qst;exact rfl;exact rfl;exact q_idxm rfl rfl rfl rfl rfl (by omega) hx rfl
              repeat (refine stp rfl ?_ ?_;·repeat' constructor)
              apply qst;exact rfl;exact rfl;exact q_slit rfl rfl rfl rfl rfl rfl rfl rfl rfl rfl (by repeat' constructor) rfl
              repeat (refine stp rfl ?_ ?_;·repeat' constructor)
              refine z3e rfl rfl rfl (o_app 2 rfl rfl rfl rfl rfl rfl rfl rfl rfl rfl rfl (by repeat' constructor) (by intro row hr; first | (simp at hr; subst hr; rfl) | (simp at hr; obtain ⟨_, _, rfl⟩ := hr; rfl) | simp at hr) rfl rfl (by simp; omega) (by simp; omega) ⟨offz rfl, ?_⟩)
              repeat (refine stp rfl ?_ ?_;·repeat' constructor)
              apply qst;exact rfl;exact rfl;exact q_slc2 (n := (n : Int)) rfl rfl rfl rfl rfl (by omega) (by omega) (fun _ => rfl)
              repeat (refine stp rfl ?_ ?_;·repeat' constructor)
              refine z3e rfl rfl rfl (o_app 2 rfl rfl rfl rfl rfl rfl rfl rfl rfl rfl rfl (by repeat' constructor) (by intro row hr; obtain ⟨_, _, rfl⟩ := List.mem_map.1 hr; rfl) rfl rfl (by simp; omega) (by simp; omega) ⟨offz rfl, ?_⟩)
              iterate 2 (refine stp rfl ?_ ?_;·repeat' constructor)
              repeat (first | refine pw_exit ?_ | refine pw_skip ?_ | refine x_norm ?_ | refine x_exit ?_ | refine xb_norm ?_ | refine xb_here ?_ | refine xb_away rfl ?_)
              refine pw_ghost (Ghost.takeF (k := 62) (t := 3) (insK U x.key) rfl rfl (by rw [hi0, List.map_append, List.map_append]; rfl) rfl eS_plain) ?_
              repeat (refine stp rfl ?_ ?_;·repeat' constructor)
              exact ⟨j + 1, hjlt, by omega, rfl, by rw [hks2]; rfl, rfl, i64_next (by omega) (by omega), trivial⟩
          · exact absurd h (by simp; omega)
      · have hge : n = U.length := by have := of_decide_eq_false h; omega
        clear h
        have hat : atK U x.key = n := fin (fun z hz => by have := (List.getElem?_eq_some_iff.1 hz).1; omega)
        have hi0 : insK U x.key = U.take n ++ [x.key] ++ U.drop n := by rw [insK, hat, List.getElem?_eq_none (by omega), if_neg (by simp)]
        repeat (refine stp rfl ?_ ?_;·repeat' constructor)
        refine pw_draw 19 [43, 44, 45, 46, 47, 48, 49, 50, 51, 52, 53, 54, 55, 56, 57, 58, 59, 60, 61] (by decide +kernel) ?_
        repeat (refine stp rfl ?_ ?_;·repeat' constructor)
        rw [hul]
        (first | refine ps_split rfl rfl (fun h => ?_) (fun h => ?_) | refine pq_split rfl rfl (fun h => ?_) (fun h => ?_) | refine p3_split rfl rfl (fun h => ?_) (fun h => ?_))
        · exact absurd h (by simp; omega)
        · clear h
          repeat (refine stp rfl ?_ ?_;·repeat' constructor)
          refine pw_ghost (Ghost.toSl (t := 3) rfl) ?_
          refine pw_draw3 [62] [0, 4, 14, 18] (by decide +kernel) ?_
          repeat (refine stp rfl ?_ ?_;·repeat' constructor)
          refine z3e rfl rfl rfl (o_slit 0 rfl rfl rfl rfl rfl rfl rfl rfl rfl rfl rfl (by repeat' constructor) rfl ⟨offz rfl, ?_⟩)
          repeat (refine stp rfl ?_ ?_;·repeat' constructor)
          apply qst;exact rfl;exact rfl;exact q_slh2 (n := (n : Int)) rfl rfl rfl rfl rfl (by omega) (by omega) (fun _ => rfl)
          repeat (refine stp rfl ?_ ?_;·repeat' constructor)
          refine z3e rfl rfl rfl (o_app 2 rfl rfl rfl rfl rfl rfl rfl rfl rfl rfl rfl (by repeat' constructor) (by intro row hr; obtain ⟨_, _, rfl⟩ := List.mem_map.1 hr; rfl) rfl rfl (by simp; omega) (by simp; omega) ⟨offz rfl, ?_⟩)
          repeat (refine stp rfl ?_ ?_;·repeat' constructor)
          apply qst;exact rfl;exact rfl;exact q_idxm rfl rfl rfl rfl rfl (by omega) hl rfl
          repeat (refine stp rfl ?_ ?_;·repeat' constructor)
          apply qst;exact rfl;exact rfl;exact q_idxm rfl rfl rfl rfl rfl (by omega) hx rfl
          repeat (refine stp rfl ?_ ?_;·repeat' constructor)
          apply qst;exact rfl;exact rfl;exact q_slit rfl rfl rfl rfl rfl rfl rfl rfl rfl rfl (by repeat' constructor) rfl
          repeat (refine stp rfl ?_ ?_;·repeat' constructor)
          refine z3e rfl rfl rfl (o_app 2 rfl rfl rfl rfl rfl rfl rfl rfl rfl rfl rfl (by repeat' constructor) (by intro row hr; first | (simp at hr; subst hr; rfl) | (simp at hr; obtain ⟨_, _, rfl⟩ := hr; rfl) | simp at hr) rfl rfl (by simp; omega) (by simp; omega) ⟨offz rfl, ?_⟩)
          repeat (refine stp rfl ?_ ?_;·repeat' constructor)
          apply qst;exact rfl;exact rfl;exact q_slc2 (n := (n : Int)) rfl rfl rfl rfl rfl (by omega) (by omega) (fun _ => rfl)
          repeat (refine stp rfl ?_ ?_;·repeat' constructor)
          refine z3e rfl rfl rfl (o_app 2 rfl rfl rfl rfl rfl rfl rfl rfl rfl rfl rfl (by repeat' constructor) (by intro row hr; obtain ⟨_, _, rfl⟩ := List.mem_map.1 hr; rfl) rfl rfl (by simp; omega) (by simp; omega) ⟨offz rfl, ?_⟩)
          iterate 2 (refine stp rfl ?_ ?_;·repeat' constructor)
          repeat (first | refine pw_exit ?_ | refine pw_skip ?_ | refine x_norm ?_ | refine x_exit ?_ | refine xb_norm ?_ | refine xb_here ?_ | refine xb_away rfl ?_)
          refine pw_ghost (Ghost.takeF (k := 62) (t := 3) (insK U x.key) rfl rfl (by rw [hi0, List.map_append, List.map_append]; rfl) rfl eS_plain) ?_
          repeat (refine stp rfl ?_ ?_;·repeat' constructor)
          exact ⟨j + 1, hjlt, by omega, rfl, by rw [hks2]; rfl, rfl, i64_next (by omega) (by omega), trivial⟩
    · have hge : j = l.length := by have := of_decide_eq_false h; omega
      subst hge
      repeat (refine stp rfl ?_ ?_;·repeat' constructor)
      exact ⟨i + 1, hlt, by omega, rfl, by rw [hks, List.take_length]; rfl, i64_next (by omega) (by omega), trivial⟩
  · have hge : i = ls.length := by have := of_decide_eq_false h; omega
    subst hge
    rw [List.take_length]
    repeat (refine stp rfl ?_ ?_;·repeat' constructor)
    exact end1f rfl rfl rfl trivial rfl
theorem keys_ref (ls : List (List SSet)) (hn : ls.length ≤ 100) (hb : ∀ l ∈ ls, l.length ≤ 1000) : Ret Tryz.prog .shared 34 [.sl (ls.map eSets)] (.sl ((keysR ls).map eS)) := .shared_of_fresh (keys_refF ls hn hb)
end Go.Pv

/- What the reference's Find and Merge do. -/
set_option maxHeartbeats 2000000
namespace Go.Pv
attribute [local irreducible] PWP POps PQuiet PSem XThen XBlock RetPost InlPost
open Go.Proofs

/-- A list of data, given up: data from now on. -/
theorem Ghost.giveD {s : St} {k g t n sz : Nat} {T : TypeId} {rows : List (List PV)} (ho : s.own k = (g, some ⟨T, sz, rows, 1⟩)) (hr : s.reg t = .als k g 0 n) (hn : n = rows.length) :
    Ghost s ((s.setOwn k (g + 1) none).putR t (.sl rows)) := by
  intro C a w hX ⟨γ, h⟩
  subst hn
  obtain ⟨h1, hle, _⟩ := h.drop hX ho
  refine ⟨γ, h1.defers, h1.size, fun r => ?_, h1.sites, h1.inj, h1.base, h1.below, h1.top, h1.kept⟩
  show Rep _ (bif Nat.beq r t then _ else (s.setOwn k (g + 1) none).reg r) _
  by_cases hrt : r = t
  · subst hrt
    have hp := h.regs r
    rw [hr] at hp
    simp only [Nat.beq_refl, cond_true]
    refine .d ?_
    rcases h.als_at hp ho with ⟨q1, _, q3, q4⟩ | ⟨b, cap, cur, q1, q2, q3, q4, q5, q6, q7⟩
    · have : rows = [] := (h.sites k _ (by rw [ho])).emp q1
      rw [this, q4]
      exact .sl0 _ _
    · obtain ⟨cur', g1, g2, g3, g4, g5⟩ := h.site_at ho q1 (h.cells_sz ho q1 q3)
      have hb : (envOf C γ (s.setOwn k (g + 1) none) w).ok b := by
        have hbase := h.base k _ b (by rw [ho]) q1
        refine ⟨hbase.2, fun hx => ?_, fun k' c' hc' hb' => ?_⟩
        · have := hX b hx; omega
        · by_cases hk' : k' = k
          · subst hk'; rw [setOwn_same] at hc'; cases hc'
          · rw [setOwn_ne hk'] at hc'
            exact hk' (h.inj k' k c' _ b hc' (by rw [ho]) hb' q1)
      rw [q2]
      simp only [Nat.zero_mul]
      refine .sl rows b 0 cap sz (fun i j => cur'.getD (i * sz + j) undef) hb g2 q4 g4 (fun i j row pv e1 e2 => ?_) (fun i j row pv e1 e2 => ?_)
      · obtain ⟨u, f1, f2, _⟩ := g5 i j row pv e1 e2
        have g1 : w.heap[b]? = some (.cells cur' T (0, 0)) := g1
        show w.cell? _ = _ ∧ _
        rw [cell_of_cells g1, Nat.zero_add, f1]
        simp [f1, f2]
      · obtain ⟨u, f1, _, f3⟩ := g5 i j row pv e1 e2
        have hu : cur'.getD (i * sz + j) undef = u := by simp [f1]
        simp only [hu]
        exact hle.drep f3
  · rw [nbeq_ne hrt]; exact h1.regs r
theorem findS_at {key : Str} : ∀ {l : List SSet} {k : Nat} {x : SSet}, (∀ i y, i < k → l[i]? = some y → ¬ y.key = key) → l[k]? = some x → x.key = key → findS l key = (x.value, true)
  | [], _, _, _, h, _ => by simp at h
  | y :: l, 0, x, _, h, hk => by simp at h; subst h; rw [findS, if_pos hk]
  | y :: l, k + 1, x, h, hx, hk => by
    rw [findS, if_neg (h 0 y (Nat.succ_pos k) rfl)]
    exact findS_at (fun i z hi hz => h (i + 1) z (Nat.succ_lt_succ hi) (by simpa using hz)) (by simpa using hx) hk
theorem findS_none {key : Str} : ∀ {l : List SSet}, (∀ y ∈ l, ¬ y.key = key) → findS l key = tz
  | [], _ => rfl
  | y :: l, h => by rw [findS, if_neg (h y (.head _)), findS_none fun z hz => h z (.tail _ hz)]
def tvR (v : TV) : PV := .tup [.str v.1, .bool v.2]
theorem find_ref (l : List SSet) (key : Str) (hl : l.length ≤ 1000000) : Ret Tryz.prog .shared 35 [.sl (l.map eSet), .str key] (tvR (findS l key)) := by
  have hll : ((l.map eSet).length : Int) = l.length := by simp
  refine Ret.of_pwp layOk mixed Go.Proofs.Tryz.func35 rfl (by decide) rfl rfl ?_
  repeat (refine stp rfl ?_ ?_;·repeat' constructor)
  refine pw_loop (fun k => k ≤ l.length ∧ ∀ i y, i < k → l[i]? = some y → ¬ y.key = key) (fun k => [(0, .sl (l.map eSet)), (1, .str key), (6, I k)]) (fun _ => []) (fun k => l.length - k) 0 ⟨Nat.zero_le _, fun i y h => by omega⟩ ⟨rfl, rfl, rfl, trivial⟩ ?_
  rintro k s ⟨hk, hpre⟩
  repeat (refine stp rfl ?_ ?_;·repeat' constructor)
  rw [hll]
  refine pw_cond rfl (fun h => ?_) (fun h => ?_)
  · have hlt : k < l.length := by have := of_decide_eq_true h; omega
    clear h
    obtain ⟨x, hx⟩ := get_lt hlt
    repeat (refine stp rfl ?_ ?_;·repeat' constructor)
    apply qst;exact rfl;exact rfl;exact q_idxm rfl rfl rfl rfl rfl (by omega) hx rfl
    repeat (refine stp rfl ?_ ?_;·repeat' constructor)
    refine pw_cond rfl (fun h => ?_) (fun h => ?_)
    · have hxk : x.key = key := by simpa using h
      clear h
      repeat (refine stp rfl ?_ ?_;·repeat' constructor)
      apply qst;exact rfl;exact rfl;exact q_idxm rfl rfl rfl rfl rfl (by omega) hx rfl
      repeat (refine stp rfl ?_ ?_;·repeat' constructor)
      exact end2 rfl rfl rfl rfl rfl trivial trivial (by rw [findS_at hpre hx hxk]; rfl)
    · have hxk : ¬ x.key = key := by simpa using h
      clear h
      repeat (refine stp rfl ?_ ?_;·repeat' constructor)
      refine ⟨k + 1, ⟨hlt, fun i z hi hz => ?_⟩, by omega, rfl, rfl, i64_next (by omega) (by omega), trivial⟩
      by_cases hin : i = k
      · subst hin; rw [hx] at hz; cases hz; exact hxk
      · exact hpre i z (by omega) hz
  · have hge : k = l.length := by have := of_decide_eq_false h; omega
    subst hge
    repeat (refine stp rfl ?_ ?_;·repeat' constructor)
    refine end2 rfl rfl rfl rfl rfl trivial trivial ?_
    rw [findS_none fun y hy => by obtain ⟨i, hi, rfl⟩ := List.getElem_of_mem hy; exact hpre i _ hi (List.getElem?_eq_getElem hi)]
    rfl
/-- What the reference's Merge makes of a key. -/
def refV (b l r : List SSet) (k : Str) : TV := mrgV (findS b k) (findS l k) (findS r k)
def refO (b l r : List SSet) (ks : List Str) : List SSet := (ks.filter fun k => (refV b l r k).2).map fun k => ⟨k, (refV b l r k).1⟩
def refCo (b l r : List SSet) (ks : List Str) : List Str := ks.filter fun k => mrgC (findS b k) (findS l k) (findS r k)
def mergeR (b l r : List SSet) : PV := if allE [b, l, r] ≠ 0 then mrgR [] [] (allE [b, l, r]) else if 60 < (refO b l r (keysR [b, l, r])).length then mrgR [] [] 8 else mrgR (refO b l r (keysR [b, l, r])) (refCo b l r (keysR [b, l, r])) 0
theorem refO_snoc (b l r : List SSet) (ks : List Str) (k : Str) : refO b l r (ks ++ [k]) = refO b l r ks ++ (if (refV b l r k).2 then [⟨k, (refV b l r k).1⟩] else []) := by
  rw [refO, List.filter_append, List.map_append, refO]
  congr 1
  cases h : (refV b l r k).2 <;> simp [h]
theorem refCo_snoc (b l r : List SSet) (ks : List Str) (k : Str) : refCo b l r (ks ++ [k]) = refCo b l r ks ++ (if mrgC (findS b k) (findS l k) (findS r k) then [k] else []) := by
  rw [refCo, List.filter_append, refCo]
  congr 1
  cases h : mrgC (findS b k) (findS l k) (findS r k) <;> simp [h]
set_option maxRecDepth 20000 in
theorem merge_ref (b l r : List SSet) (hb : SaneS b) (hl : SaneS l) (hr : SaneS r) (hb2 : b.length ≤ 1000) (hl2 : l.length ≤ 1000) (hr2 : r.length ≤ 1000) : Ret Tryz.prog .shared 30 [.sl (b.map eSet), .sl (l.map eSet), .sl (r.map eSet)] (mergeR b l r) := by
  have hks := keys_ref [b, l, r] (by simp) (fun x hx => by simp at hx; rcases hx with rfl | rfl | rfl <;> assumption)
  have hkl : (keysR [b, l, r]).length ≤ 3000 := keysR_len (ls := [b, l, r]) (fun x hx => by simp at hx; rcases hx with rfl | rfl | rfl <;> assumption) 3
  have hsane : ∀ x ∈ [b, l, r], SaneS x := fun x hx => by simp at hx; rcases hx with rfl | rfl | rfl <;> assumption
  rw [mergeR]
  refine Ret.of_pwp layOk mixed Go.Proofs.Tryz.func30 rfl (by decide) rfl rfl ?_
  repeat (refine stp rfl ?_ ?_;·repeat' constructor)
  refine ps_run (o_slit 1 rfl rfl rfl rfl rfl rfl rfl rfl rfl rfl rfl (by repeat' constructor) rfl ?_)
  refine ps_v rfl trivial ?_
  refine ps_nil ?_
  refine x_norm ?_
  refine pw_ghost (Ghost.giveD (k := 25) (t := 9) rfl rfl rfl) ?_
  repeat (refine stp rfl ?_ ?_;·repeat' constructor)
  refine pw_loop (ClearE [b, l, r] (fun _ l => setsE l)) (fun k => [(0, .sl (b.map eSet)), (1, .sl (l.map eSet)), (2, .sl (r.map eSet)), (9, .sl ([b, l, r].map eSets)), (10, I k)]) (fun _ => []) (fun k => 3 - k) 0 .zero' ⟨rfl, rfl, rfl, rfl, rfl, trivial⟩ ?_
  intro k s hk
  have hk3 : k ≤ 3 := hk.1
  repeat (refine stp rfl ?_ ?_;·repeat' constructor)
  refine pw_cond rfl (fun h => ?_) (fun h => ?_)
  · have hlt : k < 3 := by have := of_decide_eq_true h; omega
    clear h
    obtain ⟨x, hx⟩ := get_lt (show k < [b, l, r].length from hlt)
    have hs := hsane x (List.mem_of_getElem? hx)
    have hc := checkSets_ref x hs.1 hs.2
    repeat (refine stp rfl ?_ ?_;·repeat' constructor)
    apply qst;exact rfl;exact rfl;exact q_idxm rfl rfl rfl rfl rfl (by omega) hx rfl
    repeat (refine stp rfl ?_ ?_;·repeat' constructor)
    apply qst;exact rfl;exact rfl;exact q_callP rfl (hc) rfl (by repeat' constructor) rfl rfl
    generalize he : setsE x = e
    repeat (refine stp rfl ?_ ?_;·repeat' constructor)
    refine pw_cond rfl (fun h => ?_) (fun h => ?_)
    · have hne : e ≠ 0 := by simpa using h
      have hall : allE [b, l, r] = e := hk.found hx he hne
      ((repeat (first | refine ps_nil ?_ | refine pq_nil ?_ | refine x_norm ?_ | refine pw_seq ?_)); refine pw_region ?_)
      refine ps_v rfl trivial ?_
      refine ps_v rfl trivial ?_
      refine ps_v rfl trivial ?_
      refine ps_v rfl trivial ?_
      refine ps_nil ?_
      refine x_norm ?_
      refine pw_ghost (Ghost.nilsl (t := 6) rfl) ?_
      refine pw_ghost (Ghost.nilsl (t := 7) rfl) ?_
      repeat (refine stp rfl ?_ ?_;·repeat' constructor)
      exact end3 rfl rfl rfl rfl rfl rfl rfl trivial trivial trivial (by rw [if_pos (by rw [hall]; exact hne), hall]; rfl)
    · have h0 : e = 0 := by simpa using h
      clear h
      repeat (refine stp rfl ?_ ?_;·repeat' constructor)
      exact ⟨k + 1, hk.succ hx (by rw [he]; exact h0), by omega, rfl, rfl, rfl, rfl, i64_next (by omega) (by omega), trivial⟩
  have hall : allE [b, l, r] = 0 := hk.none (by have := of_decide_eq_false h; simp; omega)
  rw [if_neg (by rw [hall]; simp)]
  clear h
  repeat (first | refine pw_exit ?_ | refine pw_skip ?_ | refine x_norm ?_ | refine x_exit ?_ | refine xb_norm ?_ | refine xb_here ?_ | refine xb_away rfl ?_)
  ((repeat (first | refine ps_nil ?_ | refine pq_nil ?_ | refine x_norm ?_ | refine pw_seq ?_)); refine pw_region ?_)
  (first | refine ps_run (o_nilm 149 2 0 rfl rfl ?_) | refine ps_run (o_nila 149 2 0 rfl rfl ?_))
  ((repeat (first | refine ps_nil ?_ | refine pq_nil ?_ | refine x_norm ?_ | refine pw_seq ?_)); refine pw_region ?_)
  (first | refine ps_run (o_nilm 9 1 0 rfl rfl ?_) | refine ps_run (o_nila 9 1 0 rfl rfl ?_))
  repeat (refine stp rfl ?_ ?_;·repeat' constructor)
  apply qst;exact rfl;exact rfl;exact q_call rfl (hks) rfl (by repeat' constructor) rfl
  repeat (refine stp rfl ?_ ?_;·repeat' constructor)
  have hksl : (((keysR [b, l, r]).map eS).length : Int) = (keysR [b, l, r]).length := by simp
  generalize keysR [b, l, r] = ks at *
  refine pw_loop (fun k => k ≤ ks.length) (fun k => [(0, .sl (b.map eSet)), (1, .sl (l.map eSet)), (2, .sl (r.map eSet)), (12, .als 12 ((s.own 12).1 + 1 + (refO b l r (ks.take k)).length) 0 ((refO b l r (ks.take k)).map eSet).length), (13, .als 13 ((s.own 13).1 + 1 + (refCo b l r (ks.take k)).length) 0 ((refCo b l r (ks.take k)).map eS).length), (14, .sl (ks.map eS)), (15, I k)])
    (fun k => [(12, (s.own 12).1 + 1 + (refO b l r (ks.take k)).length, ⟨149, 2, (refO b l r (ks.take k)).map eSet, 0⟩), (13, (s.own 13).1 + 1 + (refCo b l r (ks.take k)).length, ⟨9, 1, (refCo b l r (ks.take k)).map eS, 0⟩)]) (fun k => ks.length - k) 0 (Nat.zero_le _) ⟨rfl, rfl, rfl, rfl, rfl, rfl, rfl, rfl, rfl, trivial⟩ ?_
  generalize (s.own 12).1 + 1 = g12
  generalize (s.own 13).1 + 1 = g13
  clear s hk hk3
  intro k s hk
  have hk : k ≤ ks.length := hk
  repeat (refine stp rfl ?_ ?_;·repeat' constructor)
  rw [hksl]
  refine pw_cond rfl (fun h => ?_) (fun h => ?_)
  · have hlt : k < ks.length := by have := of_decide_eq_true h; omega
    clear h
    obtain ⟨key, hx⟩ := get_lt hlt
    have hO : refO b l r (ks.take (k + 1)) = refO b l r (ks.take k) ++ (if (refV b l r key).2 then [⟨key, (refV b l r key).1⟩] else []) := by rw [take_snoc hx, refO_snoc]
    have hC : refCo b l r (ks.take (k + 1)) = refCo b l r (ks.take k) ++ (if mrgC (findS b key) (findS l key) (findS r key) then [key] else []) := by rw [take_snoc hx, refCo_snoc]
    have f1 := find_ref b key hb.1
    have f2 := find_ref l key hl.1
    have f3 := find_ref r key hr.1
    have hol : (refO b l r (ks.take k)).length ≤ 3000 := by rw [refO, List.length_map]; exact Nat.le_trans (List.length_filter_le _ _) (by simp; omega)
    have hcl : (refCo b l r (ks.take k)).length ≤ 3000 := by rw [refCo]; exact Nat.le_trans (List.length_filter_le _ _) (by simp; omega)
    rw [refV] at hO
    generalize findS b key = V at *
    generalize findS l key = X at *
    generalize findS r key = Y at *
    generalize refO b l r (ks.take k) = O at *
    generalize refCo b l r (ks.take k) = Cc at *
    repeat (refine stp rfl ?_ ?_;·repeat' constructor)
    apply qst;exact rfl;exact rfl;exact q_idxm rfl rfl rfl rfl rfl (by omega) hx rfl
    repeat (refine stp rfl ?_ ?_;·repeat' constructor)
    apply qst;exact rfl;exact rfl;exact q_call rfl (f1) rfl (by repeat' constructor) rfl
    repeat (refine stp rfl ?_ ?_;·repeat' constructor)
    apply qst;exact rfl;exact rfl;exact q_idxm rfl rfl rfl rfl rfl (by omega) hx rfl
    repeat (refine stp rfl ?_ ?_;·repeat' constructor)
    apply qst;exact rfl;exact rfl;exact q_call rfl (f2) rfl (by repeat' constructor) rfl
    repeat (refine stp rfl ?_ ?_;·repeat' constructor)
    apply qst;exact rfl;exact rfl;exact q_idxm rfl rfl rfl rfl rfl (by omega) hx rfl
    repeat (refine stp rfl ?_ ?_;·repeat' constructor)
    apply qst;exact rfl;exact rfl;exact q_call rfl (f3) rfl (by repeat' constructor) rfl
    iterate 7 (refine stp rfl ?_ ?_;·repeat' constructor)
    have dxy : decide (X = Y) = (decide (X.2 = Y.2) && decide (X.1 = Y.1)) := by
      rw [← Bool.decide_and, decide_eq_decide]
      exact ⟨fun h => by subst h; exact ⟨rfl, rfl⟩, fun h => Prod.ext h.2 h.1⟩
    have dyv : decide (Y = V) = (decide (Y.2 = V.2) && decide (Y.1 = V.1)) := by
      rw [← Bool.decide_and, decide_eq_decide]
      exact ⟨fun h => by subst h; exact ⟨rfl, rfl⟩, fun h => Prod.ext h.2 h.1⟩
    have dxv : decide (X = V) = (decide (X.2 = V.2) && decide (X.1 = V.1)) := by
      rw [← Bool.decide_and, decide_eq_decide]
      exact ⟨fun h => by subst h; exact ⟨rfl, rfl⟩, fun h => Prod.ext h.2 h.1⟩
    refine pw_cut [(0, .sl (b.map eSet)), (1, .sl (l.map eSet)), (2, .sl (r.map eSet)), (12, .als 12 (g12 + O.length) 0 (O.map eSet).length), (13, .als 13 (g13 + (Cc ++ if mrgC V X Y = true then [key] else []).length) 0 ((Cc ++ if mrgC V X Y = true then [key] else []).map eS).length), (14, .sl (ks.map eS)), (15, I k), (16, .str (mrgV V X Y).1), (17, .bool (mrgV V X Y).2)]
      [(12, g12 + O.length, ⟨149, 2, O.map eSet, 0⟩), (13, g13 + (Cc ++ if mrgC V X Y = true then [key] else []).length, ⟨9, 1, (Cc ++ if mrgC V X Y = true then [key] else []).map eS, 0⟩)] ?_ (fun s1 => ?_)
    · refine pw_block ?_
      refine pw_cut [(0, .sl (b.map eSet)), (1, .sl (l.map eSet)), (2, .sl (r.map eSet)), (12, .als 12 (g12 + O.length) 0 (O.map eSet).length), (13, .als 13 (g13 + Cc.length) 0 (Cc.map eS).length), (14, .sl (ks.map eS)), (15, I k), (16, .str V.1), (17, .bool V.2), (18, .str X.1), (19, .bool X.2), (20, .str Y.1), (21, .bool Y.2), (80, .bool (decide (X = Y) || decide (Y = V)))]
        [(12, g12 + O.length, ⟨149, 2, O.map eSet, 0⟩), (13, g13 + Cc.length, ⟨9, 1, Cc.map eS, 0⟩)] ?_ (fun s1 => ?_)
      · repeat (refine stp rfl ?_ ?_;·repeat' constructor)
        (first | refine ps_split rfl rfl (fun h => ?_) (fun h => ?_) | refine pq_split rfl rfl (fun h => ?_) (fun h => ?_) | refine p3_split rfl rfl (fun h => ?_) (fun h => ?_))
        · have h1 : X.2 = Y.2 := by simpa using h
          clear h
          repeat (refine stp rfl ?_ ?_;·repeat' constructor)
          refine pw_cond rfl (fun h => ?_) (fun h => ?_)
          · have h2 : X.1 = Y.1 := by simpa using h
            clear h
            have he : X = Y := Prod.ext h2 h1
            repeat (refine stp rfl ?_ ?_;·repeat' constructor)
            exact ⟨rfl, rfl, rfl, rfl, rfl, rfl, rfl, rfl, rfl, rfl, rfl, rfl, rfl, congrArg PV.bool (by rw [decide_eq_true he]; simp [h2]), rfl, rfl, trivial⟩
          · have hn : ¬ X = Y := fun e => by simp [e] at h
            clear h
            repeat (refine stp rfl ?_ ?_;·repeat' constructor)
            (first | refine ps_split rfl rfl (fun h => ?_) (fun h => ?_) | refine pq_split rfl rfl (fun h => ?_) (fun h => ?_) | refine p3_split rfl rfl (fun h => ?_) (fun h => ?_))
            · have h2 : Y.2 = V.2 := by simpa using h
              clear h
              repeat (refine stp rfl ?_ ?_;·repeat' constructor)
              exact ⟨rfl, rfl, rfl, rfl, rfl, rfl, rfl, rfl, rfl, rfl, rfl, rfl, rfl, congrArg PV.bool (by rw [decide_eq_false hn, dyv, decide_eq_true h2]; simp), rfl, rfl, trivial⟩
            · have h2 : ¬ Y.2 = V.2 := by simpa using h
              clear h
              repeat (refine stp rfl ?_ ?_;·repeat' constructor)
              exact ⟨rfl, rfl, rfl, rfl, rfl, rfl, rfl, rfl, rfl, rfl, rfl, rfl, rfl, congrArg PV.bool (by rw [decide_eq_false hn, dyv, decide_eq_false h2]; simp), rfl, rfl, trivial⟩
        · have hn : ¬ X = Y := fun e => by simp [e] at h
          clear h
          repeat (refine stp rfl ?_ ?_;·repeat' constructor)
          (first | refine ps_split rfl rfl (fun h => ?_) (fun h => ?_) | refine pq_split rfl rfl (fun h => ?_) (fun h => ?_) | refine p3_split rfl rfl (fun h => ?_) (fun h => ?_))
          · have h2 : Y.2 = V.2 := by simpa using h
            clear h
            repeat (refine stp rfl ?_ ?_;·repeat' constructor)
            exact ⟨rfl, rfl, rfl, rfl, rfl, rfl, rfl, rfl, rfl, rfl, rfl, rfl, rfl, congrArg PV.bool (by rw [decide_eq_false hn, dyv, decide_eq_true h2]; simp), rfl, rfl, trivial⟩
          · have h2 : ¬ Y.2 = V.2 := by simpa using h
            clear h
            repeat (refine stp rfl ?_ ?_;·repeat' constructor)
            exact ⟨rfl, rfl, rfl, rfl, rfl, rfl, rfl, rfl, rfl, rfl, rfl, rfl, rfl, congrArg PV.bool (by rw [decide_eq_false hn, dyv, decide_eq_false h2]; simp), rfl, rfl, trivial⟩
      · repeat (refine stp rfl ?_ ?_;·repeat' constructor)
        refine pw_cond rfl (fun h => ?_) (fun h => ?_)
        · have hP : X = Y ∨ Y = V := by simpa using h
          clear h
          have hmv : mrgV V X Y = X := by rw [mrgV, if_pos hP]
          have hmc : mrgC V X Y = false := by rw [mrgC, decide_eq_true hP]; rfl
          rw [hmv, hmc, if_neg (by simp), List.append_nil]
          repeat (refine stp rfl ?_ ?_;·repeat' constructor)
          exact ⟨rfl, rfl, rfl, rfl, rfl, rfl, rfl, rfl, rfl, rfl, rfl, trivial⟩
        · have hP : ¬ (X = Y ∨ Y = V) := by simpa using h
          clear h
          repeat (refine stp rfl ?_ ?_;·repeat' constructor)
          (first | refine ps_split rfl rfl (fun h => ?_) (fun h => ?_) | refine pq_split rfl rfl (fun h => ?_) (fun h => ?_) | refine p3_split rfl rfl (fun h => ?_) (fun h => ?_))
          · have h1 : X.2 = V.2 := by simpa using h
            clear h
            repeat (refine stp rfl ?_ ?_;·repeat' constructor)
            refine pw_cond rfl (fun h => ?_) (fun h => ?_)
            · have h2 : X.1 = V.1 := by simpa using h
              clear h
              have he : X = V := Prod.ext h2 h1
              have hmv : mrgV V X Y = Y := by rw [mrgV, if_neg hP, if_pos he]
              have hmc : mrgC V X Y = false := by rw [mrgC, decide_eq_true he]; simp
              rw [hmv, hmc, if_neg (by simp), List.append_nil]
              repeat (refine stp rfl ?_ ?_;·repeat' constructor)
              exact ⟨rfl, rfl, rfl, rfl, rfl, rfl, rfl, rfl, rfl, rfl, rfl, trivial⟩
            · have hn : ¬ X = V := fun e => by simp [e] at h
              clear h
              have hmv : mrgV V X Y = V := by rw [mrgV, if_neg hP, if_neg hn]
              have hmc : mrgC V X Y = true := by rw [mrgC, decide_eq_false hP, decide_eq_false hn]; rfl
              rw [hmv, hmc]
              repeat (refine stp rfl ?_ ?_;·repeat' constructor)
              apply qst;exact rfl;exact rfl;exact q_idxm rfl rfl rfl rfl rfl (by omega) hx rfl
              repeat (refine stp rfl ?_ ?_;·repeat' constructor)
              apply qst;exact rfl;exact rfl;exact q_slit rfl rfl rfl rfl rfl rfl rfl rfl rfl rfl (by repeat' constructor) rfl
              repeat (refine stp rfl ?_ ?_;·repeat' constructor)
              refine ps_run (o_app 0 rfl rfl rfl rfl rfl rfl rfl rfl rfl rfl rfl (by repeat' constructor) (by intro row hr; first | (simp at hr; subst hr; rfl) | simp at hr) rfl rfl (by simp; omega) (by simp; omega) ?_)
              repeat (refine stp rfl ?_ ?_;·repeat' constructor)
              exact ⟨rfl, rfl, rfl, rfl, als_snoc eS 13 g13 Cc key, rfl, rfl, rfl, rfl, rfl, cont_snoc eS g13 9 1 0 Cc key, trivial⟩
          · have hn : ¬ X = V := fun e => by simp [e] at h
            clear h
            have hmv : mrgV V X Y = V := by rw [mrgV, if_neg hP, if_neg hn]
            have hmc : mrgC V X Y = true := by rw [mrgC, decide_eq_false hP, decide_eq_false hn]; rfl
            rw [hmv, hmc]
            repeat (refine stp rfl ?_ ?_;·repeat' constructor)
            apply qst;exact rfl;exact rfl;exact q_idxm rfl rfl rfl rfl rfl (by omega) hx rfl
            repeat (refine stp rfl ?_ ?_;·repeat' constructor)
            apply qst;exact rfl;exact rfl;exact q_slit rfl rfl rfl rfl rfl rfl rfl rfl rfl rfl (by repeat' constructor) rfl
            repeat (refine stp rfl ?_ ?_;·repeat' constructor)
            refine ps_run (o_app 0 rfl rfl rfl rfl rfl rfl rfl rfl rfl rfl rfl (by repeat' constructor) (by intro row hr; first | (simp at hr; subst hr; rfl) | simp at hr) rfl rfl (by simp; omega) (by simp; omega) ?_)
            repeat (refine stp rfl ?_ ?_;·repeat' constructor)
            exact ⟨rfl, rfl, rfl, rfl, als_snoc eS 13 g13 Cc key, rfl, rfl, rfl, rfl, rfl, cont_snoc eS g13 9 1 0 Cc key, trivial⟩
    · generalize mrgV V X Y = W at *
      rw [← hC]
      obtain ⟨C2, hC2⟩ : ∃ c, c = refCo b l r (ks.take (k + 1)) := ⟨_, rfl⟩
      rw [← hC2]
      repeat (refine stp rfl ?_ ?_;·repeat' constructor)
      refine pw_cond rfl (fun h => ?_) (fun h => ?_)
      · rw [if_pos h] at hO
        repeat (refine stp rfl ?_ ?_;·repeat' constructor)
        apply qst;exact rfl;exact rfl;exact q_idxm rfl rfl rfl rfl rfl (by omega) hx rfl
        repeat (refine stp rfl ?_ ?_;·repeat' constructor)
        apply qst;exact rfl;exact rfl;exact q_slit rfl rfl rfl rfl rfl rfl rfl rfl rfl rfl (by repeat' constructor) rfl
        repeat (refine stp rfl ?_ ?_;·repeat' constructor)
        refine ps_run (o_app 0 rfl rfl rfl rfl rfl rfl rfl rfl rfl rfl rfl (by repeat' constructor) (by intro row hr; first | (simp at hr; subst hr; rfl) | simp at hr) rfl rfl (by simp; omega) (by simp; omega) ?_)
        repeat (refine stp rfl ?_ ?_;·repeat' constructor)
        refine ⟨k + 1, hlt, by omega, rfl, rfl, rfl, ?_, by rw [← hC2]; rfl, rfl, i64_next (by omega) (by omega), ?_, by rw [← hC2]; rfl, trivial⟩
        · rw [hO]; exact als_snoc eSet 12 g12 O ⟨key, W.1⟩
        · rw [hO]; exact cont_snoc eSet g12 149 2 0 O ⟨key, W.1⟩
      · rw [if_neg (by simp [h]), List.append_nil] at hO
        repeat (refine stp rfl ?_ ?_;·repeat' constructor)
        refine ⟨k + 1, hlt, by omega, rfl, rfl, rfl, ?_, by rw [← hC2]; rfl, rfl, i64_next (by omega) (by omega), ?_, by rw [← hC2]; rfl, trivial⟩
        · rw [hO]; rfl
        · rw [hO]; rfl
  · have hge : k = ks.length := by have := of_decide_eq_false h; omega
    subst hge
    clear h
    rw [List.take_length]
    have hol : (((refO b l r ks).map eSet).length : Int) = (refO b l r ks).length := by simp
    repeat (refine stp rfl ?_ ?_;·repeat' constructor)
    rw [hol]
    refine pw_cond rfl (fun h => ?_) (fun h => ?_)
    · have h60 : 60 < (refO b l r ks).length := by have := of_decide_eq_true h; omega
      ((repeat (first | refine ps_nil ?_ | refine pq_nil ?_ | refine x_norm ?_ | refine pw_seq ?_)); refine pw_region ?_)
      refine ps_v rfl trivial ?_
      refine ps_v rfl trivial ?_
      refine ps_v rfl trivial ?_
      refine ps_nil ?_
      refine x_norm ?_
      refine pw_ghost (Ghost.nilsl (t := 6) rfl) ?_
      refine pw_ghost (Ghost.nilsl (t := 7) rfl) ?_
      repeat (refine stp rfl ?_ ?_;·repeat' constructor)
      exact end3 rfl rfl rfl rfl rfl rfl rfl trivial trivial trivial (by rw [if_pos h60]; rfl)
    · have h60 : ¬ 60 < (refO b l r ks).length := by have := of_decide_eq_false h; omega
      repeat (refine stp rfl ?_ ?_;·repeat' constructor)
      rw [if_neg h60]
      exact end3 rfl rfl rfl rfl rfl rfl rfl ⟨rfl, rfl, rfl⟩ ⟨rfl, rfl, rfl⟩ trivial rfl
end Go.Pv

/- The program's Merge and the reference's: one law. -/
set_option maxHeartbeats 2000000
namespace Go.Pv
attribute [local irreducible] PWP POps PQuiet PSem XThen XBlock RetPost InlPost
open Go.Proofs

def asc (l : List Str) : Prop := l.Pairwise (· < ·)
theorem asc_nodup {l : List Str} (h : asc l) : l.Nodup := h.imp fun {a b} hab e => by subst e; exact List.lt_irrefl _ hab
theorem asc_ext {a b : List Str} (ha : asc a) (hb : asc b) (h : ∀ x, x ∈ a ↔ x ∈ b) : a = b := by
  refine List.Perm.eq_of_pairwise (le := fun x y : Str => x < y) ?_ ha hb ((List.perm_ext_iff_of_nodup (asc_nodup ha) (asc_nodup hb)).2 h)
  intro x y _ _ h1 h2
  exact absurd h2 (List.lt_asymm h1)
theorem lt_of_le_ne {a b : Str} (h : a ≤ b) (hn : a ≠ b) : a < b := Decidable.byContradiction fun hc => hn (List.le_antisymm h (List.not_lt.1 hc))
theorem compUp {d : Array Str} (hs : ∀ i j, i ≤ j → j < d.size → d[i]! ≤ d[j]!) : ∀ m, m ≤ d.size → asc (Lib.compactUpTo d m) ∧ ∀ x, x ∈ Lib.compactUpTo d m ↔ ∃ i, i < m ∧ d[i]! = x
  | 0, _ => ⟨.nil, fun x => by simp [Lib.compactUpTo]⟩
  | m + 1, hm => by
    obtain ⟨h1, h2⟩ := compUp hs m (by omega)
    rw [Lib.compactUpTo_succ]
    cases hk : Lib.keeps d m with
    | true =>
      have hk' : m = 0 ∨ d[m]! ≠ d[m - 1]! := of_decide_eq_true hk
      simp only [if_true]
      refine ⟨List.pairwise_append.2 ⟨h1, List.pairwise_singleton .., fun x hx y hy => ?_⟩, fun x => ?_⟩
      · simp at hy; subst hy
        obtain ⟨i, hi, rfl⟩ := (h2 x).1 hx
        refine lt_of_le_ne (hs i m (by omega) (by omega)) fun he => ?_
        rcases hk' with rfl | hne
        · omega
        · have q1 := hs i (m - 1) (by omega) (by omega)
          have q2 := hs (m - 1) m (by omega) (by omega)
          rw [he] at q1
          exact hne (List.le_antisymm q1 q2)
      · rw [List.mem_append, h2]
        constructor
        · rintro (⟨i, hi, rfl⟩ | hx)
          · exact ⟨i, by omega, rfl⟩
          · simp at hx; exact ⟨m, by omega, hx.symm⟩
        · rintro ⟨i, hi, rfl⟩
          by_cases him : i = m
          · subst him; exact .inr (by simp)
          · exact .inl ⟨i, by omega, rfl⟩
    | false =>
      have hk' : ¬ (m = 0 ∨ d[m]! ≠ d[m - 1]!) := of_decide_eq_false hk
      simp only [Bool.false_eq_true, if_false, List.append_nil]
      refine ⟨h1, fun x => ?_⟩
      rw [h2]
      constructor
      · rintro ⟨i, hi, rfl⟩; exact ⟨i, by omega, rfl⟩
      · rintro ⟨i, hi, rfl⟩
        by_cases him : i = m
        · subst him
          have h0 : i ≠ 0 := fun e => hk' (.inl e)
          have he : d[i]! = d[i - 1]! := Decidable.byContradiction fun e => hk' (.inr e)
          exact ⟨i - 1, by omega, he.symm⟩
        · exact ⟨i, by omega, rfl⟩
theorem sortS_le (l : List Str) : (sortS l).Pairwise (· ≤ ·) := by
  have tr : ∀ a b c : Str, decide (a ≤ b) = true → decide (b ≤ c) = true → decide (a ≤ c) = true := fun a b c h1 h2 => by
    simp only [decide_eq_true_eq] at *; exact List.le_trans h1 h2
  have tot : ∀ a b : Str, (decide (a ≤ b) || decide (b ≤ a)) = true := fun a b => by
    simp only [Bool.or_eq_true, decide_eq_true_eq]; exact List.le_total a b
  exact (List.pairwise_mergeSort tr tot l).imp fun h => by simpa using h
theorem keysP_spec (ts : List Tb) : asc (keysP ts) ∧ ∀ x, x ∈ keysP ts ↔ x ∈ allK ts := by
  have hp := sortS_le (allK ts)
  have hs : ∀ i j, i ≤ j → j < (sortS (allK ts)).toArray.size → (sortS (allK ts)).toArray[i]! ≤ (sortS (allK ts)).toArray[j]! := fun i j hij hj => by
    have hj' : j < (sortS (allK ts)).length := by simpa using hj
    have hi' : i < (sortS (allK ts)).toArray.size := by omega
    rw [getElem!_pos (sortS (allK ts)).toArray i hi', getElem!_pos (sortS (allK ts)).toArray j hj]
    rcases Nat.lt_or_ge i j with h | h
    · simpa using List.pairwise_iff_getElem.1 hp i j (by omega) hj' h
    · have : i = j := by omega
      subst this; exact List.le_refl _
  obtain ⟨h1, h2⟩ := compUp hs (sortS (allK ts)).length (by simp)
  refine ⟨h1, fun x => (h2 x).trans ?_⟩
  have hm : x ∈ sortS (allK ts) ↔ x ∈ allK ts := List.mem_mergeSort
  rw [← hm]
  constructor
  · rintro ⟨i, hi, rfl⟩
    rw [getElem!_pos _ _ (by simpa using hi)]
    simp
  · intro hx
    obtain ⟨i, hi, rfl⟩ := List.getElem_of_mem hx
    exact ⟨i, hi, by rw [getElem!_pos _ _ (by simpa using hi)]; simp⟩
theorem insK_spec {o : List Str} (h : asc o) (k : Str) : asc (insK o k) ∧ ∀ x, x ∈ insK o k ↔ x ∈ o ∨ x = k := by
  have hlow : ∀ (o : List Str), ∀ x ∈ o.take (atK o k), x < k := by
    intro o
    induction o with
    | nil => intro x hx; simp at hx
    | cons y o ih =>
      intro x hx
      by_cases hy : Op.bytesLess y k = true
      · have : atK (y :: o) k = atK o k + 1 := by rw [atK, List.takeWhile_cons, if_pos hy]; rfl
        rw [this, List.take_succ_cons] at hx
        rcases List.mem_cons.1 hx with rfl | hx
        · rw [bytesLess_eq] at hy; exact of_decide_eq_true hy
        · exact ih x hx
      · have : atK (y :: o) k = 0 := by rw [atK, List.takeWhile_cons, if_neg hy]; rfl
        rw [this] at hx; simp at hx
  have hat : ∀ (o : List Str) x, o[atK o k]? = some x → k ≤ x := by
    intro o
    induction o with
    | nil => intro x hx; simp at hx
    | cons y o ih =>
      intro x hx
      by_cases hy : Op.bytesLess y k = true
      · have : atK (y :: o) k = atK o k + 1 := by rw [atK, List.takeWhile_cons, if_pos hy]; rfl
        rw [this] at hx
        exact ih x (by simpa using hx)
      · have : atK (y :: o) k = 0 := by rw [atK, List.takeWhile_cons, if_neg hy]; rfl
        rw [this] at hx
        simp at hx; subst hx
        rw [bytesLess_eq] at hy
        exact List.not_lt.1 fun e => hy (decide_eq_true e)
  have hlow := hlow o
  have hat := hat o
  rw [insK]
  generalize atK o k = n at *
  by_cases hk : o[n]? = some k
  · rw [if_pos hk]
    refine ⟨h, fun x => ⟨.inl, ?_⟩⟩
    rintro (hx | rfl)
    · exact hx
    · exact List.mem_of_getElem? hk
  · rw [if_neg hk]
    have hsp : o.take n ++ o.drop n = o := List.take_append_drop n o
    have hp := h
    rw [asc, ← hsp, List.pairwise_append] at hp
    obtain ⟨p1, p2, p3⟩ := hp
    have hhigh : ∀ y ∈ o.drop n, k < y := by
      intro y hy
      obtain ⟨j, hj, rfl⟩ := List.getElem_of_mem hy
      rw [List.length_drop] at hj
      have hn : n < o.length := by omega
      have hx : o[n]? = some o[n] := List.getElem?_eq_getElem hn
      have h1 := hat _ hx
      have h2 : k < o[n] := lt_of_le_ne h1 fun e => hk (by rw [hx, ← e])
      rw [List.getElem_drop]
      rcases Nat.eq_zero_or_pos j with rfl | hj0
      · exact h2
      · exact List.lt_trans h2 (List.pairwise_iff_getElem.1 h n (n + j) hn (by omega) (by omega))
    refine ⟨?_, fun x => ?_⟩
    · rw [asc, List.pairwise_append, List.pairwise_append]
      refine ⟨⟨p1, List.pairwise_singleton .., fun x hx y hy => by simp at hy; subst hy; exact hlow x hx⟩, p2, fun x hx y hy => ?_⟩
      rcases List.mem_append.1 hx with hx | hx
      · exact p3 x hx y hy
      · simp at hx; subst hx; exact hhigh y hy
    · rw [List.mem_append, List.mem_append, ← hsp, List.mem_append]
      simp only [List.mem_singleton, List.take_append_drop]
      constructor
      · rintro ((h | h) | h)
        · exact .inl (.inl h)
        · exact .inr h
        · exact .inl (.inr h)
      · rintro ((h | h) | h)
        · exact .inl (.inl h)
        · exact .inr h
        · exact .inl (.inr h)
theorem insL_spec (l : List SSet) : ∀ {o : List Str}, asc o → asc (insL o l) ∧ ∀ x, x ∈ insL o l ↔ x ∈ o ∨ x ∈ l.map (·.key) := by
  induction l with
  | nil => intro o h; exact ⟨h, fun x => by simp [insL]⟩
  | cons y l ih =>
    intro o h
    obtain ⟨h1, h2⟩ := insK_spec h y.key
    obtain ⟨h3, h4⟩ := ih h1
    refine ⟨h3, fun x => ?_⟩
    have := h4 x
    rw [insL] at this ⊢
    rw [List.foldl_cons, this, h2, List.map_cons, List.mem_cons]
    exact or_assoc
theorem keysR_spec (ls : List (List SSet)) : asc (keysR ls) ∧ ∀ x, x ∈ keysR ls ↔ ∃ l ∈ ls, x ∈ l.map (·.key) := by
  suffices ∀ (ls : List (List SSet)) (o : List Str), asc o → asc (ls.foldl insL o) ∧ ∀ x, x ∈ ls.foldl insL o ↔ x ∈ o ∨ ∃ l ∈ ls, x ∈ l.map (·.key) by
    obtain ⟨h1, h2⟩ := this ls [] .nil
    exact ⟨h1, fun x => (h2 x).trans (by simp)⟩
  intro ls
  induction ls with
  | nil => intro o h; exact ⟨h, fun x => by simp⟩
  | cons l ls ih =>
    intro o h
    obtain ⟨h1, h2⟩ := insL_spec l h
    obtain ⟨h3, h4⟩ := ih (insL o l) h1
    refine ⟨h3, fun x => ?_⟩
    rw [List.foldl_cons, h4, h2, or_assoc]
    simp
end Go.Pv

/- Merge: program and reference agree. -/
set_option maxHeartbeats 2000000
namespace Go.Pv
attribute [local irreducible] PWP POps PQuiet PSem XThen XBlock RetPost InlPost
open Go.Proofs

theorem leS_iff (a b : Str) : leS a b = true ↔ a ≤ b := by
  rw [leS, bytesLess_eq, Bool.or_eq_true, decide_eq_true_eq, beq_iff_eq]
  constructor
  · rintro (h | rfl)
    · exact List.le_of_lt h
    · exact List.le_refl _
  · intro h
    by_cases he : a = b
    · exact .inr he
    · exact .inl (lt_of_le_ne h he)
theorem setsE_zero {l : List SSet} (h : setsE l = 0) : l.length ≤ 60 ∧ ∀ j x, l[j]? = some x → setE l j x = 0 := by
  rw [setsE] at h
  split at h
  · cases h
  · exact ⟨by omega, fstE_zero h⟩
theorem setsE_asc {l : List SSet} (h : setsE l = 0) : asc (l.map (·.key)) := by
  obtain ⟨_, hz⟩ := setsE_zero h
  have hadj : ∀ j, (hj : j + 1 < l.length) → l[j].key < l[j + 1].key := fun j hj => by
    have h1 := hz (j + 1) l[j + 1] (List.getElem?_eq_getElem hj)
    rw [setE] at h1
    split at h1
    · cases h1
    · split at h1
      · cases h1
      · split at h1
        · cases h1
        · rename_i hc
          have hg : l.getD (j + 1 - 1) default = l[j] := by rw [Nat.add_sub_cancel, List.getD_eq_getElem?_getD, List.getElem?_eq_getElem (by omega)]; rfl
          rw [hg, leS_iff] at hc
          exact List.not_le.1 fun e => hc ⟨by omega, e⟩
  have hall : ∀ n j, (hj : j + n + 1 < l.length) → l[j].key < l[j + n + 1].key := by
    intro n
    induction n with
    | zero => intro j hj; exact hadj j hj
    | succ n ih => intro j hj; exact List.lt_trans (ih j (by omega)) (hadj (j + n + 1) hj)
  refine List.pairwise_iff_getElem.2 fun i j hi hj hij => ?_
  simp only [List.length_map] at hi hj
  have := hall (j - i - 1) i (by omega)
  simp only [List.getElem_map]
  have he : i + (j - i - 1) + 1 = j := by omega
  simp only [he] at this
  exact this
theorem allE_zero {ls : List (List SSet)} (h : allE ls = 0) : ∀ l ∈ ls, setsE l = 0 := fun l hl => by
  obtain ⟨i, hi, rfl⟩ := List.getElem_of_mem hl
  exact fstE_zero h i _ (List.getElem?_eq_getElem hi)
theorem tabOf_keys {l : List SSet} (h : asc (l.map (·.key))) : tkeys (tabOf l) = l.map (·.key) := by
  rw [tabOf_map (asc_nodup h), tkeys, List.map_map]; rfl
theorem keys_same {ls : List (List SSet)} (h : ∀ l ∈ ls, asc (l.map (·.key))) : keysP (ls.map tabOf) = keysR ls := by
  obtain ⟨p1, p2⟩ := keysP_spec (ls.map tabOf)
  obtain ⟨r1, r2⟩ := keysR_spec ls
  refine asc_ext p1 r1 fun x => ?_
  rw [p2, r2, allK, List.mem_flatMap]
  constructor
  · rintro ⟨t, ht, hx⟩
    obtain ⟨l, hl, rfl⟩ := List.mem_map.1 ht
    exact ⟨l, hl, by rw [tabOf_keys (h l hl)] at hx; exact hx⟩
  · rintro ⟨l, hl, hx⟩
    exact ⟨tabOf l, List.mem_map.2 ⟨l, hl, rfl⟩, by rw [tabOf_keys (h l hl)]; exact hx⟩
/-- A table that is filled key by key. -/
theorem fill_map (f : Str → TV) {ks : List Str} (h : ks.Nodup) : ks.foldl (fun t k => tset k (f k) t) [] = ks.map fun k => (k, f k) := by
  suffices ∀ (n : Nat), (ks.take n).foldl (fun t k => tset k (f k) t) [] = (ks.take n).map fun k => (k, f k) by have := this ks.length; simpa using this
  intro n
  induction n with
  | zero => rfl
  | succ n ih =>
    rcases Nat.lt_or_ge n ks.length with hn | hn
    · have hx : ks[n]? = some ks[n] := List.getElem?_eq_getElem hn
      rw [take_snoc hx, List.foldl_append, ih, List.map_append]
      show tset ks[n] (f ks[n]) _ = _
      rw [tset_new]
      · rfl
      · intro hm
        simp only [tkeys, List.map_map, List.mem_map] at hm
        obtain ⟨y, hy, he⟩ := hm
        obtain ⟨i, hi, rfl⟩ := List.getElem_of_mem hy
        have hi2 : i < n := by simp at hi; omega
        rw [List.getElem_take] at he
        have := (List.getElem_inj (h₀ := by omega) (h₁ := hn) h).1 (show ks[i] = ks[n] from he)
        omega
    · rw [List.take_of_length_le (by omega)] at ih ⊢; exact ih
/-- The settings of a table that is filled with ascending keys. -/
theorem list_fill (f : Str → TV) {ks : List Str} (h : asc ks) : listP (ks.map fun k => (k, f k)) = (ks.filter fun k => (f k).2).map fun k => ⟨k, (f k).1⟩ := by
  have hk : tkeys (ks.map fun k => (k, f k)) = ks := by rw [tkeys, List.map_map]; exact List.map_id _
  have hs : selT (ks.map fun k => (k, f k)) = (ks.filter fun k => (f k).2).map fun k => ⟨k, (f k).1⟩ := by
    rw [selT, List.filter_map, List.map_map]; rfl
  refine (listP_uniq (by rw [hk]; exact asc_nodup h) (by rw [hs]) ?_).symm
  rw [ordS, List.pairwise_map]
  exact (h.sublist List.filter_sublist).imp fun hab => List.le_of_lt hab
theorem merge_same (b l r : List SSet) : mergeP b l r = mergeR b l r := by
  rw [mergeP, mergeR]
  by_cases he : allE [b, l, r] = 0
  · have hz := allE_zero he
    have hb := setsE_asc (hz b (by simp))
    have hl := setsE_asc (hz l (by simp))
    have hr := setsE_asc (hz r (by simp))
    have hks : ksP b l r = keysR [b, l, r] := keys_same (ls := [b, l, r]) fun x hx => setsE_asc (hz x hx)
    have hk := (keysR_spec [b, l, r]).1
    have ho : outP b l r = refO b l r (keysR [b, l, r]) := by
      rw [outP, hks, mrgT]
      have h1 := fill_map (fun k => mrgV (tget (tabOf b) k) (tget (tabOf l) k) (tget (tabOf r) k)) (asc_nodup hk)
      rw [h1, list_fill _ hk, refO]
      simp only [tget_tabOf (asc_nodup hb), tget_tabOf (asc_nodup hl), tget_tabOf (asc_nodup hr), refV]
    have hc : conP b l r = refCo b l r (keysR [b, l, r]) := by
      rw [conP, hks, mrgL, refCo]
      simp only [tget_tabOf (asc_nodup hb), tget_tabOf (asc_nodup hl), tget_tabOf (asc_nodup hr)]
    have hn : ¬ allE [b, l, r] ≠ 0 := by rw [he]; simp
    rw [if_neg hn, if_neg hn, ho, hc]
  · rw [if_pos he, if_pos he]
end Go.Pv

/- Merges in plain words: which side is which does not matter; what a merge says of a key. -/
set_option maxHeartbeats 2000000
namespace Go.Pv
attribute [local irreducible] PWP POps PQuiet PSem XThen XBlock RetPost InlPost
open Go.Proofs

theorem keysR_same {a b : List (List SSet)} (h : ∀ x, (∃ l ∈ a, x ∈ l.map (·.key)) ↔ ∃ l ∈ b, x ∈ l.map (·.key)) : keysR a = keysR b := by
  obtain ⟨a1, a2⟩ := keysR_spec a
  obtain ⟨b1, b2⟩ := keysR_spec b
  exact asc_ext a1 b1 fun x => by rw [a2, b2, h]
theorem mrgV_comm (v x y : TV) : mrgV v x y = mrgV v y x := by
  rw [mrgV, mrgV]
  by_cases h1 : x = y
  · subst h1; rfl
  · by_cases h2 : y = v
    · subst h2
      rw [if_pos (.inr rfl), if_neg (fun e => e.elim (fun e => h1 e.symm) h1), if_pos rfl]
    · rw [if_neg (fun e => e.elim h1 h2)]
      by_cases h3 : x = v
      · rw [if_pos h3, if_pos (.inr h3)]
      · rw [if_neg h3, if_neg (fun e => e.elim (fun e => h1 e.symm) h3), if_neg h2]
theorem mrgC_comm (v x y : TV) : mrgC v x y = mrgC v y x := by
  rw [mrgC, mrgC, Bool.eq_iff_iff]
  simp only [Bool.and_eq_true, Bool.not_eq_true', decide_eq_false_iff_not, not_or]
  constructor
  · rintro ⟨⟨h1, h2⟩, h3⟩; exact ⟨⟨fun e => h1 e.symm, h3⟩, h2⟩
  · rintro ⟨⟨h1, h2⟩, h3⟩; exact ⟨⟨fun e => h1 e.symm, h3⟩, h2⟩
theorem findS_tz {l : List SSet} {k : Str} (h : (findS l k).2 = false) : findS l k = tz := by
  induction l with
  | nil => rfl
  | cons x l ih =>
    rw [findS] at h ⊢
    split
    · rename_i hk; rw [if_pos hk] at h; cases h
    · rename_i hk; rw [if_neg hk] at h; exact ih h
theorem findS_is {l : List SSet} {k : Str} : (findS l k).2 = true ↔ k ∈ l.map (·.key) := by
  induction l with
  | nil => simp [findS, tz]
  | cons x l ih =>
    rw [findS, List.map_cons, List.mem_cons]
    split
    · rename_i hk; simp [hk]
    · rename_i hk
      rw [ih]
      exact ⟨.inr, fun h => h.resolve_left fun e => hk e.symm⟩
theorem findS_mem {l : List SSet} (hn : (l.map (·.key)).Nodup) {x : SSet} (hx : x ∈ l) : findS l x.key = (x.value, true) := by
  induction l with
  | nil => cases hx
  | cons y l ih =>
    rw [List.map_cons, List.nodup_cons] at hn
    rw [findS]
    rcases List.mem_cons.1 hx with rfl | hx
    · rw [if_pos rfl]
    · rw [if_neg (fun e => hn.1 (by rw [e]; exact List.mem_map_of_mem hx)), ih hn.2 hx]
/-- Settings are what they say of each key. -/
theorem find_ext {l m : List SSet} (hl : asc (l.map (·.key))) (hm : asc (m.map (·.key))) (h : ∀ k, findS l k = findS m k) : l = m := by
  have hk : l.map (·.key) = m.map (·.key) := asc_ext hl hm fun x => by rw [← findS_is, ← findS_is, h]
  have hlen : l.length = m.length := by simpa using congrArg List.length hk
  refine List.ext_getElem hlen fun i h1 h2 => ?_
  have e1 := findS_mem (asc_nodup hl) (List.getElem_mem h1)
  have e2 := findS_mem (asc_nodup hm) (List.getElem_mem h2)
  have e3 : l[i].key = m[i].key := by
    have q1 : (l.map (·.key))[i]? = some l[i].key := by rw [List.getElem?_map, List.getElem?_eq_getElem h1]; rfl
    have q2 : (m.map (·.key))[i]? = some m[i].key := by rw [List.getElem?_map, List.getElem?_eq_getElem h2]; rfl
    rw [hk, q2] at q1; exact (Option.some.inj q1).symm
  rw [h, e3, e2] at e1
  have e4 := (Prod.mk.inj e1).1
  cases hx : l[i] with
  | mk k v => cases hy : m[i] with
    | mk k' v' => rw [hx, hy] at e3 e4; simp only at e3 e4; rw [e3, e4]
def fillS (f : Str → TV) (ks : List Str) : List SSet := (ks.filter fun k => (f k).2).map fun k => ⟨k, (f k).1⟩
theorem fillS_keys (f : Str → TV) (ks : List Str) : (fillS f ks).map (·.key) = ks.filter fun k => (f k).2 := by
  rw [fillS, List.map_map]; exact List.map_id _
theorem fillS_asc {f : Str → TV} {ks : List Str} (h : asc ks) : asc ((fillS f ks).map (·.key)) := by
  rw [fillS_keys]; exact List.Pairwise.sublist List.filter_sublist h
theorem findS_fill {f : Str → TV} (hf : ∀ k, (f k).2 = false → f k = tz) (k : Str) : ∀ {ks : List Str}, ks.Nodup → findS (fillS f ks) k = if k ∈ ks then f k else tz
  | [], _ => by simp [fillS, findS]
  | a :: ks, hn => by
    rw [List.nodup_cons] at hn
    have ih := findS_fill hf k hn.2
    rw [fillS] at ih ⊢
    rw [List.filter_cons]
    by_cases hk : k = a
    · subst hk
      rw [if_pos (List.mem_cons_self ..)]
      cases h : (f k).2 with
      | true =>
        rw [if_pos rfl, List.map_cons, findS, if_pos rfl]
        exact Prod.ext rfl h.symm
      | false =>
        rw [if_neg (by simp), ih, if_neg hn.1, hf k h]
    · have hm : (k ∈ a :: ks) ↔ k ∈ ks := by rw [List.mem_cons]; exact ⟨fun h => h.resolve_left hk, .inr⟩
      simp only [hm]
      cases h : (f a).2 with
      | true => rw [if_pos rfl, List.map_cons, findS, if_neg (fun e => hk e.symm), ih]
      | false => rw [if_neg (by simp), ih]
theorem refO_fill (b l r : List SSet) (ks : List Str) : refO b l r ks = fillS (refV b l r) ks := rfl
theorem mrgV_one (v x y : TV) : mrgV v x y = v ∨ mrgV v x y = x ∨ mrgV v x y = y := by
  rw [mrgV]; split
  · exact .inr (.inl rfl)
  · split
    · exact .inr (.inr rfl)
    · exact .inl rfl
theorem refV_tz (b l r : List SSet) (k : Str) (h : (refV b l r k).2 = false) : refV b l r k = tz := by
  rw [refV] at h ⊢
  rcases mrgV_one (findS b k) (findS l k) (findS r k) with e | e | e <;> rw [e] at h ⊢ <;> exact findS_tz h
theorem allE_of {ls : List (List SSet)} (h : ∀ l ∈ ls, setsE l = 0) : allE ls = 0 := fstE_none fun _ _ hb => h _ (List.mem_of_getElem? hb)
theorem mergeR_ok {b l r : List SSet} (hb : setsE b = 0) (hl : setsE l = 0) (hr : setsE r = 0) : mergeR b l r = if 60 < (refO b l r (keysR [b, l, r])).length then mrgR [] [] 8 else mrgR (refO b l r (keysR [b, l, r])) (refCo b l r (keysR [b, l, r])) 0 := by
  rw [mergeR, if_neg]
  rw [allE_of (fun x hx => by simp at hx; rcases hx with rfl | rfl | rfl <;> assumption)]
  simp
theorem keysR_swap (b l r : List SSet) : keysR [b, r, l] = keysR [b, l, r] := keysR_same fun x => by
  simp only [List.mem_cons, List.not_mem_nil, or_false, exists_eq_or_imp, exists_eq_left]
  constructor
  · rintro (h | h | h)
    · exact .inl h
    · exact .inr (.inr h)
    · exact .inr (.inl h)
  · rintro (h | h | h)
    · exact .inl h
    · exact .inr (.inr h)
    · exact .inr (.inl h)
theorem refO_swap (b l r : List SSet) (ks : List Str) : refO b r l ks = refO b l r ks := by
  have : refV b r l = refV b l r := funext fun k => by rw [refV, refV, mrgV_comm]
  rw [refO, refO, this]
theorem refCo_swap (b l r : List SSet) (ks : List Str) : refCo b r l ks = refCo b l r ks := by
  rw [refCo, refCo]
  refine List.filter_congr fun k _ => ?_
  rw [mrgC_comm]
theorem mergeR_swap {b l r : List SSet} (hb : setsE b = 0) (hl : setsE l = 0) (hr : setsE r = 0) : mergeR b r l = mergeR b l r := by
  rw [mergeR_ok hb hr hl, mergeR_ok hb hl hr, keysR_swap, refO_swap, refCo_swap]
theorem setsE_len {l : List SSet} (h : setsE l = 0) : l.length ≤ 60 := (setsE_zero h).1
theorem refV_one (b l : List SSet) (k : Str) : refV b l b k = findS l k := by rw [refV, mrgV, if_pos (.inr rfl)]
theorem mergeR_one {b l : List SSet} (hb : setsE b = 0) (hl : setsE l = 0) : mergeR b l b = mrgR l [] 0 := by
  have hk := keysR_spec [b, l, b]
  have ho : refO b l b (keysR [b, l, b]) = l := by
    rw [refO_fill]
    refine find_ext (fillS_asc hk.1) (setsE_asc hl) fun k => ?_
    rw [findS_fill (refV_tz b l b) k (asc_nodup hk.1), refV_one]
    split
    · rfl
    · rename_i hn
      refine (findS_tz ?_).symm
      cases h : (findS l k).2 with
      | false => rfl
      | true => exact absurd ((hk.2 k).2 ⟨l, by simp, findS_is.1 h⟩) hn
  have hc : refCo b l b (keysR [b, l, b]) = [] := by
    rw [refCo, List.filter_eq_nil_iff]
    intro k _
    rw [mrgC, decide_eq_true (p := _ ∨ _) (.inr rfl)]; simp
  rw [mergeR_ok hb hl hb, ho, hc, if_neg (by have := setsE_len hl; omega)]
/-- What a key of a merge says. -/
theorem merge_key {b l r : List SSet} {k : Str} (h : k ∈ keysR [b, l, r, refO b l r (keysR [b, l, r])]) : k ∈ keysR [b, l, r] ∧ findS (refO b l r (keysR [b, l, r])) k = refV b l r k := by
  have hk := keysR_spec [b, l, r]
  have hm : k ∈ keysR [b, l, r] := by
    obtain ⟨x, hx, hkx⟩ := ((keysR_spec _).2 k).1 h
    simp only [List.mem_cons, List.not_mem_nil, or_false] at hx
    rcases hx with rfl | rfl | rfl | rfl
    · exact (hk.2 k).2 ⟨x, by simp, hkx⟩
    · exact (hk.2 k).2 ⟨x, by simp, hkx⟩
    · exact (hk.2 k).2 ⟨x, by simp, hkx⟩
    · rw [refO_fill, fillS_keys] at hkx
      exact (List.mem_filter.1 hkx).1
  refine ⟨hm, ?_⟩
  rw [refO_fill, findS_fill (refV_tz b l r) k (asc_nodup hk.1), if_pos hm]
theorem merge_con {b l r : List SSet} {k : Str} {ks : List Str} (h : k ∈ refCo b l r ks) : refV b l r k = findS b k ∧ findS l k ≠ findS r k := by
  have hc := (List.mem_filter.1 h).2
  rw [mrgC] at hc
  simp only [Bool.and_eq_true, Bool.not_eq_true', decide_eq_false_iff_not, not_or] at hc
  refine ⟨?_, hc.1.1⟩
  rw [refV, mrgV, if_neg (fun e => e.elim hc.1.1 hc.1.2), if_neg hc.2]
theorem merge_non {b l r : List SSet} {k : Str} {ks : List Str} (hk : k ∈ ks) (h : ¬ k ∈ refCo b l r ks) : refV b l r k = findS l k ∨ refV b l r k = findS r k := by
  have hc : mrgC (findS b k) (findS l k) (findS r k) = false := by
    cases hc : mrgC (findS b k) (findS l k) (findS r k) with
    | false => rfl
    | true => exact absurd (List.mem_filter.2 ⟨hk, hc⟩) h
  rw [refV, mrgV]
  by_cases h1 : findS l k = findS r k ∨ findS r k = findS b k
  · rw [if_pos h1]; exact .inl rfl
  · rw [if_neg h1]
    by_cases h2 : findS l k = findS b k
    · rw [if_pos h2]; exact .inr rfl
    · rw [mrgC, decide_eq_false h1, decide_eq_false h2] at hc; cases hc
end Go.Pv

/- Edits in plain words: what Diff and Patch are to say; the edits between two lists lead from one to the other. -/
set_option maxHeartbeats 2000000
namespace Go.Pv
attribute [local irreducible] PWP POps PQuiet PSem XThen XBlock RetPost InlPost
open Go.Proofs

structure SEdit where
  key : Str
  old : Str
  new : Str
  had : Bool
  has : Bool
  deriving DecidableEq, Inhabited
def eEd (x : SEdit) : List PV := [.str x.key, .str x.old, .str x.new, .bool x.had, .bool x.has]
/-- The edits between two tables at some keys. -/
def diffK (f g : Str → TV) (ks : List Str) : List SEdit := (ks.filter fun k => decide (f k ≠ g k)).map fun k => ⟨k, (f k).1, (g k).1, (f k).2, (g k).2⟩
def diffR (a b : List SSet) : List SEdit := diffK (findS a) (findS b) (keysR [a, b])
def formE (x : SEdit) : Bool := !valB x.old || !valB x.new || (!x.had && decide (x.old ≠ [])) || (!x.has && decide (x.new ≠ [])) || (!x.had && !x.has)
/-- The error of an edit behind others. -/
def editE (a : List SSet) (l : List SEdit) (i : Nat) (x : SEdit) : Int :=
  if isName x.key = false then 4 else if formE x = true then 3 else if 0 < i ∧ leS x.key (l.getD (i - 1) default).key = true then 10 else if ¬ findS a x.key = (x.old, x.had) then 28 else 0
def editsE (a : List SSet) (l : List SEdit) : Int := fstE l (editE a l)
/-- What is said of a key behind some edits. -/
def overE (f : Str → TV) (l : List SEdit) : Str → TV := fun k => l.foldl (fun v x => if x.key = k then (x.new, x.has) else v) (f k)
def patO (a : List SSet) (l : List SEdit) : List SSet := fillS (overE (findS a) l) (keysR [a, l.map fun x => ⟨x.key, []⟩])
def patR (l : List SSet) (e : Int) : PV := .tup [.sl (l.map eSet), I e]
def edR (l : List SEdit) (e : Int) : PV := .tup [.sl (l.map eEd), I e]
def diffV (a b : List SSet) : PV := if setsE a ≠ 0 then edR [] (setsE a) else if setsE b ≠ 0 then edR [] (setsE b) else edR (diffR a b) 0
def patchV (a : List SSet) (l : List SEdit) : PV :=
  if setsE a ≠ 0 then patR [] (setsE a) else if 120 < l.length then patR [] 8 else if editsE a l ≠ 0 then patR [] (editsE a l) else if 60 < (patO a l).length then patR [] 8 else patR (patO a l) 0

theorem overE_snoc (f : Str → TV) (l : List SEdit) (x : SEdit) (k : Str) : overE f (l ++ [x]) k = if x.key = k then (x.new, x.has) else overE f l k := by rw [overE, List.foldl_append]; rfl
theorem overE_off {f : Str → TV} {l : List SEdit} {k : Str} (h : ∀ x ∈ l, ¬ x.key = k) : overE f l k = f k := by
  suffices ∀ (l : List SEdit) (v : TV), (∀ x ∈ l, ¬ x.key = k) → l.foldl (fun v x => if x.key = k then (x.new, x.has) else v) v = v from this l _ h
  intro l
  induction l with
  | nil => intro v _; rfl
  | cons x l ih =>
    intro v h
    rw [List.foldl_cons, if_neg (h x (.head _))]
    exact ih v fun y hy => h y (.tail _ hy)
theorem overE_on {f : Str → TV} {l : List SEdit} {k : Str} (hn : (l.map (·.key)).Nodup) {x : SEdit} (hx : x ∈ l) (hk : x.key = k) : overE f l k = (x.new, x.has) := by
  suffices ∀ (l : List SEdit) (v : TV), (l.map (·.key)).Nodup → x ∈ l → l.foldl (fun v x => if x.key = k then (x.new, x.has) else v) v = (x.new, x.has) from this l _ hn hx
  intro l
  induction l with
  | nil => intro v _ h; cases h
  | cons y l ih =>
    intro v hn h
    rw [List.map_cons, List.nodup_cons] at hn
    rw [List.foldl_cons]
    rcases List.mem_cons.1 h with rfl | h
    · rw [if_pos hk]
      have : ∀ z ∈ l, ¬ z.key = k := fun z hz e => hn.1 (by rw [hk, ← e]; exact List.mem_map_of_mem hz)
      exact overE_off (f := fun _ => (x.new, x.has)) this
    · exact ih _ hn.2 h
theorem leS_false {a b : Str} (h : leS a b = false) : b < a := by
  refine List.not_le.1 fun e => ?_
  rw [(leS_iff a b).2 e] at h; cases h
theorem adj_asc {α : Type} {key : α → Str} {l : List α} (h : ∀ j, (hj : j + 1 < l.length) → key l[j] < key l[j + 1]) : asc (l.map key) := by
  have hall : ∀ n j, (hj : j + n + 1 < l.length) → key l[j] < key l[j + n + 1] := by
    intro n
    induction n with
    | zero => intro j hj; exact h j hj
    | succ n ih => intro j hj; exact List.lt_trans (ih j (by omega)) (h (j + n + 1) hj)
  refine List.pairwise_iff_getElem.2 fun i j hi hj hij => ?_
  simp only [List.length_map] at hi hj
  have := hall (j - i - 1) i (by omega)
  simp only [List.getElem_map]
  have he : i + (j - i - 1) + 1 = j := by omega
  simp only [he] at this
  exact this
theorem editE_zero {a : List SSet} {l : List SEdit} {i : Nat} {x : SEdit} (h : editE a l i x = 0) : isName x.key = true ∧ formE x = false ∧ (0 < i → (l.getD (i - 1) default).key < x.key) ∧ findS a x.key = (x.old, x.had) := by
  rw [editE] at h
  split at h
  · cases h
  · rename_i h1
    split at h
    · cases h
    · rename_i h2
      split at h
      · cases h
      · rename_i h3
        split at h
        · cases h
        · rename_i h4
          refine ⟨by simpa using h1, by simpa using h2, fun hi => ?_, by simpa using h4⟩
          refine leS_false ?_
          cases hle : leS x.key (l.getD (i - 1) default).key with
          | false => rfl
          | true => exact absurd ⟨hi, hle⟩ h3
/-- The first edits ascend, as far as they have no error. -/
theorem clear_asc {a : List SSet} {l : List SEdit} {k : Nat} (h : ClearE l (editE a l) k) : asc ((l.take k).map (·.key)) := by
  refine adj_asc fun j hj => ?_
  simp only [List.length_take] at hj
  have hx : l[j + 1]? = some l[j + 1] := List.getElem?_eq_getElem (by omega)
  have hz := (editE_zero (h.2 (j + 1) l[j + 1] (by omega) hx)).2.2.1 (by omega)
  rw [Nat.add_sub_cancel, List.getD_eq_getElem?_getD, List.getElem?_eq_getElem (by omega)] at hz
  simpa using hz
theorem edits_asc {a : List SSet} {l : List SEdit} (h : editsE a l = 0) : asc (l.map (·.key)) := by
  have : ClearE l (editE a l) l.length := ⟨Nat.le_refl _, fun j b _ hb => fstE_zero h j b hb⟩
  have := clear_asc this
  rwa [List.take_length] at this
theorem valB_nil : valB [] = true := rfl
theorem setsE_good {l : List SSet} (h : setsE l = 0) : ∀ x ∈ l, isName x.key = true ∧ valB x.value = true := fun x hx => by
  obtain ⟨i, hi, rfl⟩ := List.getElem_of_mem hx
  have hz := (setsE_zero h).2 i _ (List.getElem?_eq_getElem hi)
  rw [setE] at hz
  split at hz
  · cases hz
  · rename_i h1
    split at hz
    · cases hz
    · rename_i h2
      exact ⟨by simpa using h1, by simpa using h2⟩
theorem findS_val {l : List SSet} (h : setsE l = 0) (k : Str) : valB (findS l k).1 = true := by
  cases hf : (findS l k).2 with
  | false => rw [findS_tz hf]; rfl
  | true =>
    obtain ⟨x, hx, rfl⟩ := List.mem_map.1 (findS_is.1 hf)
    rw [findS_mem (asc_nodup (setsE_asc h)) hx]
    exact (setsE_good h x hx).2
theorem insL_len2 (l : List SSet) (o : List Str) : (insL o l).length ≤ o.length + l.length := insL_len l o
theorem keysR_len2 (a b : List SSet) : (keysR [a, b]).length ≤ a.length + b.length := by
  have h1 := insL_len a []
  have h2 := insL_len b (insL [] a)
  rw [List.length_nil] at h1
  have : keysR [a, b] = insL (insL [] a) b := rfl
  rw [this]; omega
theorem diffK_keys (f g : Str → TV) (ks : List Str) : (diffK f g ks).map (·.key) = ks.filter fun k => decide (f k ≠ g k) := by
  rw [diffK, List.map_map]; exact List.map_id _
theorem diffR_ok {a b : List SSet} (ha : setsE a = 0) (hb : setsE b = 0) : (diffR a b).length ≤ 120 ∧ editsE a (diffR a b) = 0 := by
  have hk := keysR_spec [a, b]
  have h1 := setsE_len ha
  have h2 := setsE_len hb
  have hl := keysR_len2 a b
  have hasc : asc ((diffR a b).map (·.key)) := by rw [diffR, diffK_keys]; exact List.Pairwise.sublist List.filter_sublist hk.1
  refine ⟨?_, ?_⟩
  · rw [diffR, diffK, List.length_map]
    exact Nat.le_trans (List.length_filter_le _ _) (by omega)
  · refine fstE_none fun j x hx => ?_
    have hm : x ∈ diffR a b := List.mem_of_getElem? hx
    rw [diffR, diffK] at hm
    obtain ⟨k, hkm, rfl⟩ := List.mem_map.1 hm
    obtain ⟨hks, hne⟩ := List.mem_filter.1 hkm
    have hne : ¬ findS a k = findS b k := by simpa using hne
    have hname : isName k = true := by
      obtain ⟨l, hl, hkl⟩ := (hk.2 k).1 hks
      obtain ⟨y, hy, rfl⟩ := List.mem_map.1 hkl
      simp only [List.mem_cons, List.not_mem_nil, or_false] at hl
      rcases hl with rfl | rfl
      · exact (setsE_good ha y hy).1
      · exact (setsE_good hb y hy).1
    rw [editE]
    dsimp only
    rw [if_neg (by simp [hname])]
    have hform : formE ⟨k, (findS a k).1, (findS b k).1, (findS a k).2, (findS b k).2⟩ = false := by
      rw [formE]
      dsimp only
      rw [findS_val ha, findS_val hb]
      cases h3 : (findS a k).2 with
      | true =>
        cases h4 : (findS b k).2 with
        | true => rfl
        | false => rw [findS_tz h4]; rfl
      | false =>
        cases h4 : (findS b k).2 with
        | true => rw [findS_tz h3]; rfl
        | false => exact absurd ((findS_tz h3).trans (findS_tz h4).symm) hne
    rw [if_neg (by rw [hform]; simp), if_neg, if_neg (by simp)]
    rintro ⟨hj, hle⟩
    have hlt : j < (diffR a b).length := (List.getElem?_eq_some_iff.1 hx).1
    have hp := List.pairwise_iff_getElem.1 hasc (j - 1) j (by simp; omega) (by simp; omega) (by omega)
    simp only [List.getElem_map] at hp
    have hj2 : (diffR a b)[j] = ⟨k, (findS a k).1, (findS b k).1, (findS a k).2, (findS b k).2⟩ := by
      have := List.getElem?_eq_getElem hlt
      rw [hx] at this; exact (Option.some.inj this).symm
    have hg : (diffR a b).getD (j - 1) default = (diffR a b)[j - 1] := by rw [List.getD_eq_getElem?_getD, List.getElem?_eq_getElem (by omega)]; rfl
    rw [hj2] at hp
    rw [hg, leS_iff] at hle
    exact absurd hp (List.not_lt.2 hle)
theorem overE_tz {a : List SSet} {l : List SEdit} (h : ∀ x ∈ l, formE x = false) (k : Str) (hk : (overE (findS a) l k).2 = false) : overE (findS a) l k = tz := by
  suffices ∀ (l : List SEdit) (v : TV), (v.2 = false → v = tz) → (∀ x ∈ l, formE x = false) → (l.foldl (fun v x => if x.key = k then (x.new, x.has) else v) v).2 = false → l.foldl (fun v x => if x.key = k then (x.new, x.has) else v) v = tz from
    this l _ findS_tz h hk
  intro l
  induction l with
  | nil => intro v hv _ h; exact hv h
  | cons x l ih =>
    intro v hv h hk
    rw [List.foldl_cons] at hk ⊢
    refine ih _ ?_ (fun y hy => h y (.tail _ hy)) hk
    intro he
    split at he
    · rename_i hx
      rw [if_pos hx]
      have hf := h x (.head _)
      rw [formE] at hf
      have he : x.has = false := he
      simp only [he, Bool.not_false, Bool.true_and, Bool.or_eq_false_iff] at hf
      have : x.new = [] := by simpa using hf.1.2
      rw [this, he]; rfl
    · rename_i hx
      rw [if_neg hx]; exact hv he
theorem edits_form {a : List SSet} {l : List SEdit} (h : editsE a l = 0) : ∀ x ∈ l, formE x = false := fun x hx => by
  obtain ⟨i, hi, rfl⟩ := List.getElem_of_mem hx
  exact (editE_zero (fstE_zero h i _ (List.getElem?_eq_getElem hi))).2.1
theorem patO_find {a : List SSet} {l : List SEdit} (h : editsE a l = 0) (k : Str) : findS (patO a l) k = overE (findS a) l k := by
  have hk := keysR_spec [a, l.map fun x => ⟨x.key, []⟩]
  rw [patO, findS_fill (overE_tz (edits_form h)) k (asc_nodup hk.1)]
  split
  · rfl
  · rename_i hn
    rw [overE_off]
    · refine (findS_tz ?_).symm
      cases hf : (findS a k).2 with
      | false => rfl
      | true => exact absurd ((hk.2 k).2 ⟨a, by simp, findS_is.1 hf⟩) hn
    · intro x hx e
      refine hn ((hk.2 k).2 ⟨l.map fun x => ⟨x.key, []⟩, by simp, ?_⟩)
      rw [List.map_map]
      exact List.mem_map.2 ⟨x, hx, e⟩
theorem patO_asc (a : List SSet) (l : List SEdit) : asc ((patO a l).map (·.key)) := fillS_asc (keysR_spec _).1
/-- The edits between two lists lead from one to the other. -/
theorem patO_diff {a b : List SSet} (ha : setsE a = 0) (hb : setsE b = 0) : patO a (diffR a b) = b := by
  have hok := (diffR_ok ha hb).2
  have hk := keysR_spec [a, b]
  refine find_ext (patO_asc _ _) (setsE_asc hb) fun k => ?_
  rw [patO_find hok]
  by_cases hm : ∃ x ∈ diffR a b, x.key = k
  · obtain ⟨x, hx, hxk⟩ := hm
    rw [overE_on (asc_nodup (edits_asc hok)) hx hxk]
    rw [diffR, diffK] at hx
    obtain ⟨k', _, rfl⟩ := List.mem_map.1 hx
    simp only at hxk
    subst hxk; rfl
  · rw [overE_off (fun x hx e => hm ⟨x, hx, e⟩)]
    refine Decidable.byContradiction fun hne => hm ?_
    have hks : k ∈ keysR [a, b] := by
      cases h1 : (findS a k).2 with
      | true => exact (hk.2 k).2 ⟨a, by simp, findS_is.1 h1⟩
      | false =>
        cases h2 : (findS b k).2 with
        | true => exact (hk.2 k).2 ⟨b, by simp, findS_is.1 h2⟩
        | false => exact absurd ((findS_tz h1).trans (findS_tz h2).symm) hne
    exact ⟨_, List.mem_map.2 ⟨k, List.mem_filter.2 ⟨hks, by simpa using hne⟩, rfl⟩, rfl⟩
theorem patchV_diff {a b : List SSet} (ha : setsE a = 0) (hb : setsE b = 0) : patchV a (diffR a b) = patR b 0 := by
  obtain ⟨h1, h2⟩ := diffR_ok ha hb
  have h3 := setsE_len hb
  rw [patchV, if_neg (by simp [ha]), if_neg (by omega), if_neg (by simp [h2]), patO_diff ha hb, if_neg (by omega)]
/-- A table that is patched edit by edit. -/
def tdel (k : Str) : Tb → Tb
  | [] => []
  | (d, c) :: m => if d = k then m else (d, c) :: tdel k m
def patT (t : Tb) (l : List SEdit) : Tb := l.foldl (fun t x => if x.has then tset x.key (x.new, true) t else tdel x.key t) t
theorem patT_snoc (t : Tb) (l : List SEdit) (x : SEdit) : patT t (l ++ [x]) = if x.has then tset x.key (x.new, true) (patT t l) else tdel x.key (patT t l) := by rw [patT, List.foldl_append]; rfl
theorem tdel_keys {k : Str} : ∀ {t : Tb}, (tkeys t).Nodup → (tkeys (tdel k t)).Nodup ∧ ∀ x, x ∈ tkeys (tdel k t) ↔ x ∈ tkeys t ∧ x ≠ k
  | [], _ => ⟨.nil, fun x => by simp [tdel, tkeys]⟩
  | (d, c) :: m, hn => by
    have hn' : d ∉ tkeys m ∧ (tkeys m).Nodup := List.nodup_cons.1 hn
    obtain ⟨h1, h2⟩ := tdel_keys (k := k) hn'.2
    have hc : ∀ (a : Str) (b : TV) (m : Tb), tkeys ((a, b) :: m) = a :: tkeys m := fun _ _ _ => rfl
    rw [tdel]
    by_cases hd : d = k
    · subst hd
      rw [if_pos rfl]
      refine ⟨hn'.2, fun x => ?_⟩
      rw [hc, List.mem_cons]
      exact ⟨fun h => ⟨.inr h, fun e => by subst e; exact hn'.1 h⟩, fun h => h.1.resolve_left h.2⟩
    · rw [if_neg hd, hc, hc]
      refine ⟨List.nodup_cons.2 ⟨fun h => hn'.1 ((h2 d).1 h).1, h1⟩, fun x => ?_⟩
      rw [List.mem_cons, List.mem_cons, h2]
      constructor
      · rintro (rfl | h)
        · exact ⟨.inl rfl, hd⟩
        · exact ⟨.inr h.1, h.2⟩
      · rintro ⟨h | h, hne⟩
        · exact .inl h
        · exact .inr ⟨h, hne⟩
theorem tget_none {k : Str} : ∀ {t : Tb}, k ∉ tkeys t → tget t k = tz
  | [], _ => rfl
  | (d, c) :: m, h => by
    have h' : k ≠ d ∧ k ∉ tkeys m := by simpa [tkeys, not_or] using h
    rw [tget, if_neg (fun e => h'.1 e.symm), tget_none h'.2]
theorem tget_tdel {k x : Str} : ∀ {t : Tb}, (tkeys t).Nodup → tget (tdel k t) x = if k = x then tz else tget t x
  | [], _ => by simp [tdel, tget]
  | (d, c) :: m, hn => by
    have hn' : d ∉ tkeys m ∧ (tkeys m).Nodup := List.nodup_cons.1 hn
    rw [tdel]
    by_cases hd : d = k
    · subst hd
      rw [if_pos rfl]
      by_cases hx : d = x
      · subst hx; rw [if_pos rfl]; exact tget_none hn'.1
      · rw [if_neg hx, tget, if_neg hx]
    · rw [if_neg hd, tget, tget, tget_tdel hn'.2]
      by_cases hx : d = x
      · subst hx
        rw [if_pos rfl, if_neg (fun e => hd e.symm), if_pos rfl]
      · rw [if_neg hx, if_neg hx]
theorem tdel_len (k : Str) : ∀ t : Tb, (tdel k t).length ≤ t.length
  | [] => Nat.le_refl _
  | (d, c) :: m => by
    have := tdel_len k m
    rw [tdel]; split <;> simp <;> omega
theorem patT_len (t : Tb) (l : List SEdit) : (patT t l).length ≤ t.length + l.length := by
  suffices ∀ (l : List SEdit) (t : Tb), (l.foldl (fun t x => if x.has then tset x.key (x.new, true) t else tdel x.key t) t).length ≤ t.length + l.length from this l t
  intro l
  induction l with
  | nil => intro t; exact Nat.le_refl _
  | cons x l ih =>
    intro t
    rw [List.foldl_cons]
    refine Nat.le_trans (ih _) ?_
    rw [List.length_cons]
    split
    · have := tset_len x.key (x.new, true) t; omega
    · have := tdel_len x.key t; omega
/-- The table behind some edits. -/
theorem patT_spec {a : List SSet} {l : List SEdit} (ha : asc (a.map (·.key))) (hf : ∀ x ∈ l, formE x = false) : (tkeys (patT (tabOf a) l)).Nodup ∧ ∀ k, tget (patT (tabOf a) l) k = overE (findS a) l k := by
  suffices ∀ n, n ≤ l.length → (tkeys (patT (tabOf a) (l.take n))).Nodup ∧ ∀ k, tget (patT (tabOf a) (l.take n)) k = overE (findS a) (l.take n) k by
    have := this l.length (Nat.le_refl _); rwa [List.take_length] at this
  intro n
  induction n with
  | zero =>
    intro _
    refine ⟨?_, fun k => tget_tabOf (asc_nodup ha) k⟩
    rw [show patT (tabOf a) (l.take 0) = tabOf a from rfl, tabOf_keys ha]; exact asc_nodup ha
  | succ n ih =>
    intro hn
    obtain ⟨h1, h2⟩ := ih (by omega)
    have hx : l[n]? = some l[n] := List.getElem?_eq_getElem (by omega)
    rw [take_snoc hx, patT_snoc]
    cases hh : l[n].has with
    | true =>
      rw [if_pos rfl]
      refine ⟨tset_nodup h1, fun k => ?_⟩
      rw [overE_snoc, tget_tset, h2, hh]
    | false =>
      rw [if_neg (by simp)]
      refine ⟨(tdel_keys h1).1, fun k => ?_⟩
      have hfx := hf l[n] (List.getElem_mem _)
      rw [formE, hh] at hfx
      simp only [Bool.not_false, Bool.true_and, Bool.or_eq_false_iff] at hfx
      have hnew : l[n].new = [] := by simpa using hfx.1.2
      rw [overE_snoc, tget_tdel h1, h2, hh, hnew]; rfl
theorem findS_listP {t : Tb} (h : (tkeys t).Nodup) (k : Str) : findS (listP t) k = if (tget t k).2 = true then tget t k else tz := by
  have hn : ((listP t).map (·.key)).Nodup := ((listP_perm t).map _).nodup_iff.2 (selT_keys h)
  have hin : ∀ (t : Tb), (tkeys t).Nodup → ∀ e ∈ t, tget t e.1 = e.2 := by
    intro t
    induction t with
    | nil => intro _ e he; cases he
    | cons q t ih =>
      intro hn e he
      have hn' : q.1 ∉ tkeys t ∧ (tkeys t).Nodup := List.nodup_cons.1 hn
      obtain ⟨d, c⟩ := q
      rw [tget]
      rcases List.mem_cons.1 he with rfl | he
      · rw [if_pos rfl]
      · rw [if_neg (fun e' => hn'.1 (by show d ∈ tkeys t; rw [e']; exact List.mem_map_of_mem he)), ih hn'.2 e he]
  by_cases hk : k ∈ (listP t).map (·.key)
  · obtain ⟨x, hx, rfl⟩ := List.mem_map.1 hk
    rw [findS_mem hn hx]
    have hx2 := (listP_perm t).mem_iff.1 hx
    rw [selT] at hx2
    obtain ⟨e, he, rfl⟩ := List.mem_map.1 hx2
    obtain ⟨he1, he2⟩ := List.mem_filter.1 he
    have hg := hin t h e he1
    show (e.2.1, true) = if (tget t e.1).2 = true then tget t e.1 else tz
    rw [hg]
    have he2 : e.2.2 = true := he2
    rw [if_pos he2]
    exact Prod.ext rfl he2.symm
  · have h1 : findS (listP t) k = tz := findS_tz (by
      cases hf : (findS (listP t) k).2 with
      | false => rfl
      | true => exact absurd (findS_is.1 hf) hk)
    rw [h1]
    split
    · rename_i h2
      exfalso
      have hkt : k ∈ tkeys t := Decidable.byContradiction fun hc => by rw [tget_none hc] at h2; cases h2
      obtain ⟨e, he, rfl⟩ := List.mem_map.1 hkt
      rw [hin t h e he] at h2
      refine hk (List.mem_map.2 ⟨toS e, (listP_perm t).mem_iff.2 ?_, rfl⟩)
      rw [selT]
      exact List.mem_map.2 ⟨e, List.mem_filter.2 ⟨he, h2⟩, rfl⟩
    · rfl
theorem listP_asc {t : Tb} (h : (tkeys t).Nodup) : asc ((listP t).map (·.key)) := by
  have hn : ((listP t).map (·.key)).Nodup := ((listP_perm t).map _).nodup_iff.2 (selT_keys h)
  have ho : ((listP t).map (·.key)).Pairwise (· ≤ ·) := List.pairwise_map.2 (listP_ord t)
  exact (ho.and hn).imp fun {a b} hab => lt_of_le_ne hab.1 hab.2
/-- The program's table and the reference's list say the same. -/
theorem patT_list {a : List SSet} {l : List SEdit} (ha : setsE a = 0) (hl : editsE a l = 0) : listP (patT (tabOf a) l) = patO a l := by
  obtain ⟨h1, h2⟩ := patT_spec (setsE_asc ha) (edits_form hl)
  refine find_ext (listP_asc h1) (patO_asc _ _) fun k => ?_
  rw [findS_listP h1, patO_find hl, h2]
  split
  · rfl
  · rename_i h3
    exact (overE_tz (edits_form hl) k (by simpa using h3)).symm
/-- At an edit without an error ahead of it: what the table says is what the list says. -/
theorem patT_here {a : List SSet} {l : List SEdit} {k : Nat} {x : SEdit} (ha : setsE a = 0) (hc : ClearE l (editE a l) k) (hx : l[k]? = some x) (ho : 0 < k → (l.getD (k - 1) default).key < x.key) : tget (patT (tabOf a) (l.take k)) x.key = findS a x.key := by
  have hf : ∀ y ∈ l.take k, formE y = false := fun y hy => by
    obtain ⟨i, hi, rfl⟩ := List.getElem_of_mem hy
    rw [List.getElem_take]
    simp only [List.length_take] at hi
    exact (editE_zero (hc.2 i _ (by omega) (List.getElem?_eq_getElem (by omega)))).2.1
  rw [(patT_spec (setsE_asc ha) hf).2, overE_off]
  intro y hy e
  obtain ⟨i, hi, rfl⟩ := List.getElem_of_mem hy
  simp only [List.length_take] at hi
  have hk0 : 0 < k := by omega
  have h1 := ho hk0
  have hasc := clear_asc hc
  have hkl : k < l.length := (List.getElem?_eq_some_iff.1 hx).1
  have hg : l.getD (k - 1) default = l[k - 1] := by rw [List.getD_eq_getElem?_getD, List.getElem?_eq_getElem (by omega)]; rfl
  rw [hg] at h1
  rw [List.getElem_take] at e
  rcases Nat.lt_or_ge i (k - 1) with hlt | hge
  · have := List.pairwise_iff_getElem.1 hasc i (k - 1) (by simp; omega) (by simp; omega) hlt
    simp only [List.getElem_map, List.getElem_take] at this
    rw [e] at this
    exact List.lt_asymm this h1
  · have : i = k - 1 := by omega
    subst this
    rw [e] at h1
    exact List.lt_irrefl _ h1
end Go.Pv

/- Accounts: their bounds, and where an item stands. -/
set_option maxHeartbeats 2000000
namespace Go.Pv
attribute [local irreducible] PWP POps PQuiet PSem XThen XBlock RetPost InlPost
open Go.Proofs

def LimA (B : Int) (a : SAcct) : Prop := (-B ≤ a.est ∧ a.est ≤ B) ∧ (-B ≤ a.gro ∧ a.gro ≤ B) ∧ (-B ≤ a.chg ∧ a.chg ≤ B) ∧ (-B ≤ a.sig ∧ a.sig ≤ B) ∧ (-B ≤ a.bil ∧ a.bil ≤ B) ∧ a.ovr = 0
structure AccInv (l : List SPost) (o : Str) (k : Nat) (M : List SAcct × List (Str × Int)) : Prop where
  idx : ∀ j : Int, 1 ≤ j → j ≤ k → (entL l j).op = 1 → accI o l j = true → 0 ≤ sget M.2 (entL l j).item ∧ sget M.2 (entL l j).item < M.1.length
  lim : ∀ a, a ∈ M.1 → LimA (1000000000 * k) a
  len : M.1.length ≤ k
theorem LimA.mono {B B' : Int} {a : SAcct} (h : LimA B a) (hb : B ≤ B') : LimA B' a := by
  obtain ⟨h1, h2, h3, h4, h5, h6⟩ := h
  exact ⟨by omega, by omega, by omega, by omega, by omega, h6⟩
theorem mem_modify {α : Type} {l : List α} {i : Nat} {f : α → α} {x : α} (h : x ∈ l.modify i f) : x ∈ l ∨ ∃ y, y ∈ l ∧ x = f y := by
  obtain ⟨j, hj, rfl⟩ := List.getElem_of_mem h
  have hj' : j < l.length := by simpa using hj
  rw [List.getElem_modify]
  split
  · exact .inr ⟨l[j], by simp, rfl⟩
  · exact .inl (by simp)
theorem billF_lim {l : List SPost} (h : Acc l) {n : Int} (hn : 1 ≤ n) (hnl : n ≤ l.length) : Lim (billF l n) := by
  rw [billF]
  split
  · rename_i h0
    -- the invoice stands behind the charge
    have key : ∀ k : Nat, 0 < invF l n k → n < invF l n k ∧ invF l n k ≤ k := by
      intro k
      induction k with
      | zero => intro h; simp [invF] at h
      | succ k ih =>
        intro h
        rw [invF] at h ⊢
        split
        · rename_i hz
          rw [if_pos hz] at h
          split
          · rename_i hc
            simp only [Bool.and_eq_true, decide_eq_true_eq] at hc
            omega
          · rename_i hc
            rw [if_neg hc] at h; omega
        · rename_i hz
          rw [if_neg hz] at h
          have := ih h
          omega
    have := key _ h0
    exact valF_lim h n _ hn (by omega) (by omega)
  · exact ⟨by decide, by decide⟩
theorem accK_inv {l : List SPost} (h : Acc l) (o : Str) : ∀ k : Nat, k ≤ l.length → AccInv l o k (accK l o k)
  | 0, _ => ⟨fun j h1 h2 => by omega, fun a ha => by simp [accK] at ha, by simp [accK]⟩
  | k + 1, hk => by
    have ih := accK_inv h o k (by omega)
    have hv := valF_lim h ((k : Int) + 1) l.length (by omega) (by omega) (Nat.le_refl _)
    have hb := billF_lim h (n := (k : Int) + 1) (by omega) (by omega)
    rw [accK]
    generalize accK l o k = M at *
    obtain ⟨A, T⟩ := M
    have hsame : (entL l ((k : Int) + 1)).op ≠ 1 ∨ accI o l ((k : Int) + 1) = false → ∀ A' : List SAcct, A'.length = A.length → (∀ a, a ∈ A' → LimA (1000000000 * ((k + 1 : Nat) : Int)) a) → AccInv l o (k + 1) (A', T) := fun hc A' hl hlim => by
      refine ⟨fun j h1 h2 h3 h4 => ?_, hlim, by rw [hl]; have := ih.len; simp only at this ⊢; omega⟩
      have hj : j ≤ k := by
        rcases Int.lt_or_le k j with hlt | hge
        · have : j = k + 1 := by omega
          subst this
          rcases hc with hc | hc
          · exact absurd h3 hc
          · rw [hc] at h4; cases h4
        · exact hge
      have := ih.idx j h1 hj h3 h4
      simp only at this ⊢
      rw [hl]; exact this
    have hlim0 : ∀ a, a ∈ A → LimA (1000000000 * ((k + 1 : Nat) : Int)) a := fun a ha => (ih.lim a ha).mono (by omega)
    rw [accS]
    by_cases hi : accI o l ((k : Int) + 1) = false
    · rw [if_pos hi]; exact hsame (.inr hi) A rfl hlim0
    rw [if_neg hi]
    by_cases h1 : (entL l ((k : Int) + 1)).op = 1
    · rw [if_pos h1]
      refine ⟨fun j g1 g2 g3 g4 => ?_, fun a ha => ?_, by have := ih.len; simp at this ⊢; omega⟩
      · simp only [sget_sput, List.length_append, List.length_cons, List.length_nil]
        split
        · omega
        · rename_i hne
          have hj : j ≤ k := by
            rcases Int.lt_or_le k j with hlt | hge
            · have : j = k + 1 := by omega
              subst this
              exact absurd rfl hne
            · exact hge
          have := ih.idx j g1 hj g3 g4
          simp only at this
          omega
      · rcases List.mem_append.1 ha with ha | ha
        · exact hlim0 a ha
        · simp only [List.mem_cons, List.not_mem_nil, or_false] at ha
          subst ha
          have hk0 : 1000000000 * ((k + 1 : Nat) : Int) ≥ 1000000000 := by omega
          exact ⟨⟨by have := hv.1; simp only; omega, by have := hv.2; simp only; omega⟩, ⟨by simp only; omega, by simp only; omega⟩, ⟨by simp only; omega, by simp only; omega⟩, ⟨by simp only; omega, by simp only; omega⟩, ⟨by simp only; omega, by simp only; omega⟩, rfl⟩
    rw [if_neg h1]
    have hmod : ∀ (i : Nat) (f : SAcct → SAcct), (∀ a, LimA (1000000000 * (k : Int)) a → LimA (1000000000 * ((k + 1 : Nat) : Int)) (f a)) → AccInv l o (k + 1) (A.modify i f, T) := fun i f hf =>
      hsame (.inl h1) _ (by simp) fun a ha => by
        rcases mem_modify ha with ha | ⟨y, hy, rfl⟩
        · exact hlim0 a ha
        · exact hf y (ih.lim y hy)
    by_cases h2 : (entL l ((k : Int) + 1)).op = 2
    · rw [if_pos h2]
      split
      · refine hmod _ _ fun a ⟨e1, e2, e3, e4, e5, e6⟩ => ⟨by simp only; omega, ?_, by simp only; omega, by simp only; omega, by simp only; omega, e6⟩
        have := hv.1; have := hv.2; simp only; omega
      · exact hsame (.inl h1) A rfl hlim0
    rw [if_neg h2]
    by_cases h3 : (entL l ((k : Int) + 1)).op = 3
    · rw [if_pos h3]
      refine hmod _ _ fun a ⟨e1, e2, e3, e4, e5, e6⟩ => ⟨by simp only; omega, by simp only; omega, ?_, ?_, ?_, e6⟩
      · have := hv.1; have := hv.2; simp only; omega
      · have := hv.1; have := hv.2; simp only; split <;> omega
      · have := hb.1; have := hb.2; simp only; omega
    · rw [if_neg h3]; exact hsame (.inl h1) A rfl hlim0
/-- The account of the item that a live entry is of. -/
theorem acc_item {l : List SPost} (h : Acc l) {o : Str} {k : Nat} (hk : k < l.length) (hi : accI o l ((k : Int) + 1) = true) (ho : (entL l ((k : Int) + 1)).op = 2 ∨ (entL l ((k : Int) + 1)).op = 3) :
    0 ≤ sget (accK l o k).2 (entL l ((k : Int) + 1)).item ∧ sget (accK l o k).2 (entL l ((k : Int) + 1)).item < (accK l o k).1.length := by
  have hinv := accK_inv h o k (by omega)
  have hO := h.ok
  have he := entL_at (l := l) (n := (k : Int) + 1) (by omega) (by omega)
  rw [show ((k : Int) + 1 - 1).toNat = k by omega] at he
  simp only [accI, Bool.and_eq_true, decide_eq_true_eq] at hi
  have hpos := (hO.pos _ _ he).2.1 ho
  have hlt := hO.wf.sup _ _ he
  have hsu : supNo l (entL l ((k : Int) + 1)) = itmNo l (entL l ((k : Int) + 1)).order (entL l ((k : Int) + 1)).item := by rw [supNo, if_neg (by omega), if_pos ho]
  have hlv := liveB_pos hO.wf (n := (k : Int) + 1) (by omega)
  rw [hi.2, hsu] at hlv
  have hlv := (Bool.and_eq_true_iff.1 hlv.symm).2
  rw [hsu] at hlt
  generalize hj : itmNo l (entL l ((k : Int) + 1)).order (entL l ((k : Int) + 1)).item = j at *
  rw [itmNo] at hj
  obtain ⟨x, hx, hxp⟩ := idx_lt (l := l) (p := fun p => decide (p.op = 1) && decide (p.order = (entL l ((k : Int) + 1)).order) && decide (p.item = (entL l ((k : Int) + 1)).item)) (by omega)
  have hxe : entL l j = x := by
    have := entL_at (l := l) (n := j) (by omega) (by omega)
    rw [show (j - 1).toNat = (idx l fun p => decide (p.op = 1) && decide (p.order = (entL l ((k : Int) + 1)).order) && decide (p.item = (entL l ((k : Int) + 1)).item)).toNat by omega, hx] at this
    exact (Option.some.inj this).symm
  simp only [Bool.and_eq_true, decide_eq_true_eq] at hxp
  have := hinv.idx j (by omega) (by omega) (by rw [hxe]; exact hxp.1.1) (by rw [accI, hxe, hxp.1.2, hi.1, hlv]; simp)
  rw [hxe, hxp.2] at this
  exact this
end Go.Pv

/- Accounts: the program. -/
set_option maxHeartbeats 2000000
namespace Go.Pv
attribute [local irreducible] PWP POps PQuiet PSem XThen XBlock RetPost InlPost
open Go.Proofs

section
variable {P : Program} {L : Lay} {s : St} {T d : Nat} {r : LRow} {x y : Operand} {ty : TypeId} {pos : String} {af : Array Edge} {g : Option (Nat × Bool)} {K : St → Prop}
/-- A store into one row of a list's image. -/
theorem o_storeM {α : Type} {enc : α → List PV} {l : List α} {a : α} (a' : α) {v : PV} {k gn i jj kd kd' : Nat} {tc : TypeId} {sz : Nat} {Pr : Prop} (hr : L T = some r) (hx : s.ev x = .ptr k gn i jj) (hown : s.own k = (gn, some ⟨tc, sz, l.map enc, kd⟩)) (hget : l[i]? = some a) (hv : (s.ev y).fz = some v) (h1 : oneL s v.cells = some Pr) (h2 : Pr)
    (hsz : v.cells.length = r.size) (hle : Nat.ble (jj + r.size) (enc a).length = true) (hk : Nat.ble kd kd' = true) (hkd : v.cells.all (kOk kd') = true) (hnew : splc (enc a) jj (v.cells.map (nrm kd')) = enc a') (h : K (s.setOwn k gn (some ⟨tc, sz, (l.set i a').map enc, kd'⟩))) : POp P L s ⟨none, .store T x y, ty, pos, af, g⟩ K := by
  refine o_store hr hx hown (by rw [List.getElem?_map, hget]; rfl) hv h1 h2 hsz hle hk hkd ?_
  rw [hnew, ← List.map_set]
  exact h
end
theorem modify_set {α : Type} {l : List α} {i : Nat} {a : α} (h : l[i]? = some a) (f : α → α) : l.modify i f = l.set i (f a) := by
  have hi := (List.getElem?_eq_some_iff.1 h).1
  apply List.ext_getElem?
  intro j
  by_cases hj : i = j
  · subst hj
    rw [List.getElem?_modify, h, List.getElem?_set_self hi]; simp
  · rw [List.getElem?_modify, List.getElem?_set_ne hj]; simp [hj]
theorem set_at {α : Type} {l : List α} {i : Nat} {a : α} (h : l[i]? = some a) (b : α) : (l.set i b)[i]? = some b := List.getElem?_set_self (List.getElem?_eq_some_iff.1 h).1
def ovrK (A : List SAcct) (j : Nat) : List SAcct := (A.take j).map ovrA ++ A.drop j
theorem ovrK_at {A : List SAcct} {j : Nat} {a : SAcct} (h : A[j]? = some a) : (ovrK A j)[j]? = some a ∧ (ovrK A j).set j (ovrA a) = ovrK A (j + 1) := by
  obtain ⟨hj, he⟩ := List.getElem?_eq_some_iff.1 h
  have hl : ((A.take j).map ovrA).length = j := by simp; omega
  constructor
  · rw [ovrK, List.getElem?_append_right (by omega), hl, Nat.sub_self, List.getElem?_drop]; exact h
  · rw [ovrK, ovrK, take_snoc h, List.map_append, List.set_append_right _ _ (by omega), hl, Nat.sub_self, List.drop_eq_getElem_cons hj, he]
    simp
theorem ovrK_len (A : List SAcct) (j : Nat) : (ovrK A j).length = A.length := by simp [ovrK]; omega
theorem inv_bounds {l : List SPost} {n : Int} : ∀ {k : Nat}, 0 < invF l n k → n < invF l n k ∧ invF l n k ≤ k
  | 0, h => by simp [invF] at h
  | k + 1, h => by
    rw [invF] at h ⊢
    by_cases hz : invF l n k = 0
    · rw [if_pos hz] at h ⊢
      split
      · rename_i hc
        simp only [Bool.and_eq_true, decide_eq_true_eq] at hc
        omega
      · rename_i hc
        rw [if_neg hc] at h; omega
    · rw [if_neg hz] at h ⊢
      have := inv_bounds h
      omega
set_option maxRecDepth 20000 in
theorem accounts_ret (l : List SPost) (hA : Acc l) (o : Str) : Ret Tryz.prog .fresh 105 [.dref (eBook l) 0, .str o] (.sl ((accP l o).map eAcct)) := by
  have hO := hA.ok
  have hl := hO.wf.len
  have hll : ((l.map ePost).length : Int) = l.length := by simp
  have h30 := covered_ret l hO o
  have h29 := end_ret l hl
  refine Ret.of_pwp layOk mixed Go.Proofs.Tryz.func105 rfl (by decide) rfl rfl ?_
  ((repeat (first | refine ps_nil ?_ | refine pq_nil ?_ | refine x_norm ?_ | refine pw_seq ?_)); refine pw_region ?_)
  refine ps_v rfl trivial ?_
  ((repeat (first | refine ps_nil ?_ | refine pq_nil ?_ | refine x_norm ?_ | refine pw_seq ?_)); refine pw_region ?_)
  refine ps_v rfl trivial ?_
  refine ps_nil ?_
  refine x_norm ?_
  refine pw_ghost (Ghost.nilreg (k := 5) (t := 5) 185 7 0 rfl rfl) ?_
  repeat (refine stp rfl ?_ ?_;·repeat' constructor)
  refine ps_run (o_mkmap rfl ?_)
  repeat (refine stp rfl ?_ ?_;·repeat' constructor)
  apply qst;exact rfl;exact rfl;exact q_callF rfl (h30) rfl (by repeat' constructor) rfl
  repeat (refine stp rfl ?_ ?_;·repeat' constructor)
  apply qst;exact rfl;exact rfl;exact q_callP rfl (h29) rfl (by repeat' constructor) rfl rfl
  repeat (refine stp rfl ?_ ?_;·repeat' constructor)
  rw [hll]
  refine pw_loop (fun (k : Nat × Nat) => k.1 ≤ l.length) (fun k => [(0, .dref (eBook l) 0), (1, .str o), (5, .als 5 k.2 0 (((accK l o k.1).1.map eAcct).length)), (6, .mp 17 1), (7, .mapd ((covOut l o l.length).map eKV)), (8, I (l.length + 1)), (26, .sl (l.map ePost)), (27, I l.length), (28, I k.1)])
    (fun k => [(5, k.2, ⟨185, 7, (accK l o k.1).1.map eAcct, 0⟩), (17, 1, ⟨142, 0, (accK l o k.1).2.map eSV, 0⟩)]) (fun k => l.length - k.1) (0, 1) (Nat.zero_le _) ⟨rfl, rfl, rfl, rfl, rfl, rfl, rfl, rfl, rfl, rfl, rfl, trivial⟩ ?_
  rintro ⟨k, g⟩ s hk
  have hk : k ≤ l.length := hk
  clear h30 h29
  repeat (refine stp rfl ?_ ?_;·repeat' constructor)
  refine pw_cond rfl (fun h => ?_) (fun h => ?_)
  · have hlt : k < l.length := by have := of_decide_eq_true h; omega
    clear h
    have hx : l[k]? = some (entL l ((k : Int) + 1)) := by
      have := entL_at (l := l) (n := (k : Int) + 1) (by omega) (by omega)
      rwa [show ((k : Int) + 1 - 1).toNat = k by omega] at this
    have hv := live_ret l hO.wf ((k : Int) + 1) (by omega)
    have hval := value_ret l hO ((k : Int) + 1) l.length (by omega) (by omega) (Nat.le_refl _)
    have hvl := valF_lim hA ((k : Int) + 1) l.length (by omega) (by omega) (Nat.le_refl _)
    have hs1 := signed_ret l hO ((k : Int) + 1) l.length 1 (by omega) (by omega) (Nat.le_refl _)
    have hs0 := signed_ret l hO ((k : Int) + 1) l.length 0 (by omega) (by omega) (Nat.le_refl _)
    have hcov := fun h1 h2 h3 => covOut_at (l := l) (o := o) (n := (k : Int) + 1) h1 h2 h3 (by omega) l.length
    have hidx := acc_item hA (o := o) hlt
    have hinv := accK_inv hA o k hk
    have hst : accK l o (k + 1) = accS l o ((k : Int) + 1) (accK l o k) := rfl
    have hw : IntKind.wrap .i64 ((k : Int) + 1) = (k : Int) + 1 := wrap_i64 (by omega) (by omega)
    have hnx : ∀ s' : St, s'.reg 28 = I ((k : Int) + 1) → True := fun _ _ => trivial
    rw [accS, accI] at hst
    rw [accI] at hidx
    generalize accK l o k = M at *
    obtain ⟨A, T⟩ := M
    simp only at hidx hst
    have hAl : ((A.map eAcct).length : Int) = A.length := by simp
    have hAn : A.length ≤ 400 := by have := hinv.len; simp only at this; omega
    generalize entL l ((k : Int) + 1) = x at *
    repeat (refine stp rfl ?_ ?_;·repeat' constructor)
    apply qst;exact rfl;exact rfl;exact q_idxm rfl rfl rfl rfl rfl (by omega) hx rfl
    repeat (refine stp rfl ?_ ?_;·repeat' constructor)
    rw [hw]
    (first | refine ps_split rfl rfl (fun h => ?_) (fun h => ?_) | refine pq_split rfl rfl (fun h => ?_) (fun h => ?_) | refine p3_split rfl rfl (fun h => ?_) (fun h => ?_))
    · have g1 : ¬ x.order = o := by simpa using h
      rw [decide_eq_false g1, Bool.false_and, if_pos rfl] at hst
      repeat (refine stp rfl ?_ ?_;·repeat' constructor)
      exact ⟨(k + 1, g), hlt, by show l.length - (k + 1) < l.length - k; omega, rfl, rfl, by rw [hst]; rfl, rfl, rfl, rfl, rfl, rfl, i64_next (by omega) (by omega), by rw [hst]; rfl, by rw [hst]; rfl, trivial⟩
    have g1 : x.order = o := by simpa using h
    clear h
    rw [decide_eq_true g1, Bool.true_and] at hst hidx
    generalize hlv : liveB l ((k : Int) + 1) = lv at *
    repeat (refine stp rfl ?_ ?_;·repeat' constructor)
    apply qst;exact rfl;exact rfl;exact q_callP rfl (hv) rfl (by repeat' constructor) rfl rfl
    cases lv with
    | false =>
      rw [if_pos rfl] at hst
      repeat (refine stp rfl ?_ ?_;·repeat' constructor)
      exact ⟨(k + 1, g), hlt, by show l.length - (k + 1) < l.length - k; omega, rfl, rfl, by rw [hst]; rfl, rfl, rfl, rfl, rfl, rfl, i64_next (by omega) (by omega), by rw [hst]; rfl, by rw [hst]; rfl, trivial⟩
    | true =>
    rw [if_neg (by simp)] at hst
    replace hidx := hidx rfl
    generalize hvv : valF l ((k : Int) + 1) l.length = v at *
    repeat (refine stp rfl ?_ ?_;·repeat' constructor)
    apply qst;exact rfl;exact rfl;exact q_callP rfl (hval) rfl (by repeat' constructor) rfl rfl
    repeat (refine stp rfl ?_ ?_;·repeat' constructor)
    by_cases h1 : x.op = 1
    · rw [if_pos h1] at hst
      repeat (first|(refine stp rfl ?_ ?_;·repeat' constructor)|(refine pw_cond rfl (fun hA => absurd hA (by intro hA; simp only [decide_eq_true_eq, decide_eq_false_iff_not, Bool.not_eq_true', Bool.not_eq_false'] at hA; omega)) (fun _ => ?_))|(refine pw_cond rfl (fun _ => ?_) (fun hA => absurd hA (by intro hA; simp only [decide_eq_true_eq, decide_eq_false_iff_not, Bool.not_eq_true', Bool.not_eq_false'] at hA; omega))))
      refine ps_run0 (o_mset 0 rfl rfl rfl rfl rfl rfl rfl rfl rfl (keyed_sv T) rfl rfl ?_)
      rw [show nrm 0 (PV.int .i64 ((A.map eAcct).length : Int)) = I ((A.map eAcct).length : Int) from rfl, mput_sv, hAl]
      repeat (refine stp rfl ?_ ?_;·repeat' constructor)
      apply qst;exact rfl;exact rfl;exact q_slit rfl rfl rfl rfl rfl rfl rfl rfl rfl rfl (by repeat' constructor) rfl
      repeat (refine stp rfl ?_ ?_;·repeat' constructor)
      refine ps_run (o_app 0 rfl rfl rfl rfl rfl rfl rfl rfl rfl rfl rfl (by repeat' constructor) (by intro row hr; first | (simp at hr; subst hr; rfl) | simp at hr) rfl rfl (by simp; omega) (by simp; omega) ?_)
      repeat (refine stp rfl ?_ ?_;·repeat' constructor)
      refine ⟨(k + 1, g + 1), hlt, by show l.length - (k + 1) < l.length - k; omega, rfl, rfl, ?_, rfl, rfl, rfl, rfl, rfl, i64_next (by omega) (by omega), ?_, ?_, trivial⟩
      · rw [hst, List.map_append]; rfl
      · rw [hst, List.map_append]; rfl
      · rw [hst]; rfl
    rw [if_neg h1] at hst
    by_cases h2 : x.op = 2
    · rw [if_pos h2] at hst
      have hid := hidx (.inl h2)
      obtain ⟨a, ha⟩ := get_lt (show (sget T x.item).toNat < A.length by omega)
      have hla := hinv.lim a (List.mem_of_getElem? ha)
      obtain ⟨e1, e2, e3, e4, e5, e6⟩ := hla
      rw [modify_set ha, ← Nat.zero_add (sget T x.item).toNat] at hst
      have hg0 : A[0 + (sget T x.item).toNat]? = some a := by rw [Nat.zero_add]; exact ha
      have hrow : (A.map eAcct)[0 + (sget T x.item).toNat]? = some (eAcct a) := by rw [List.getElem?_map, hg0]; rfl
      have hwa : IntKind.wrap .i64 (a.gro + v) = a.gro + v := by have := hvl.1; have := hvl.2; exact wrap_i64 (by omega) (by omega)
      have hmb : sget T x.item < (A.map eAcct).length := by rw [List.length_map]; exact hid.2
      generalize sgdB l ((k : Int) + 1) l.length 1 = sg at *
      clear h1
      repeat (first|(refine stp rfl ?_ ?_;·repeat' constructor)|(refine pw_cond rfl (fun hA => absurd hA (by intro hA; simp only [decide_eq_true_eq, decide_eq_false_iff_not, Bool.not_eq_true', Bool.not_eq_false'] at hA; omega)) (fun _ => ?_))|(refine pw_cond rfl (fun _ => ?_) (fun hA => absurd hA (by intro hA; simp only [decide_eq_true_eq, decide_eq_false_iff_not, Bool.not_eq_true', Bool.not_eq_false'] at hA; omega))))
      apply qst;exact rfl;exact rfl;exact q_callP rfl (hs1) rfl (by repeat' constructor) rfl rfl
      cases sg with
      | false =>
        rw [if_neg (by simp)] at hst
        repeat (refine stp rfl ?_ ?_;·repeat' constructor)
        exact ⟨(k + 1, g), hlt, by show l.length - (k + 1) < l.length - k; omega, rfl, rfl, by rw [hst]; rfl, rfl, rfl, rfl, rfl, rfl, i64_next (by omega) (by omega), by rw [hst]; rfl, by rw [hst]; rfl, trivial⟩
      | true =>
        rw [if_pos rfl] at hst
        repeat (refine stp rfl ?_ ?_;·repeat' constructor)
        apply qst;exact rfl;exact rfl;exact q_lookG none rfl rfl rfl rfl rfl zone3 rfl rfl rfl rfl rfl rfl (keyedG_sv T)
        rw [mval_sv]
        apply qst;exact rfl;exact rfl;exact q_idxA rfl rfl rfl rfl rfl rfl rfl hid.1 hmb
        repeat (refine stp rfl ?_ ?_;·repeat' constructor)
        apply qst;exact rfl;exact rfl;exact q_ldp rfl rfl rfl hrow rfl
        repeat (refine stp rfl ?_ ?_;·repeat' constructor)
        rw [hwa]
        apply qst;exact rfl;exact rfl;exact q_idxA rfl rfl rfl rfl rfl rfl rfl hid.1 hmb
        repeat (refine stp rfl ?_ ?_;·repeat' constructor)
        refine ps_run0 (o_storeM (enc := eAcct) { a with gro := a.gro + v } (kd' := 0) rfl rfl rfl hg0 rfl rfl ⟨trivial, trivial⟩ rfl rfl rfl rfl rfl ?_)
        repeat (refine stp rfl ?_ ?_;·repeat' constructor)
        exact ⟨(k + 1, g), hlt, by show l.length - (k + 1) < l.length - k; omega, rfl, rfl, by rw [hst]; show PV.als 5 g 0 (A.map eAcct).length = PV.als 5 g 0 ((A.set _ _).map eAcct).length; rw [List.length_map, List.length_map, List.length_set], rfl, rfl, rfl, rfl, rfl, i64_next (by omega) (by omega), by rw [hst]; rfl, by rw [hst]; rfl, trivial⟩
    rw [if_neg h2] at hst
    by_cases h3 : x.op = 3
    · rw [if_pos h3] at hst
      have hid := hidx (.inr h3)
      obtain ⟨a, ha⟩ := get_lt (show (sget T x.item).toNat < A.length by omega)
      have hla := hinv.lim a (List.mem_of_getElem? ha)
      obtain ⟨e1, e2, e3, e4, e5, e6⟩ := hla
      rw [modify_set ha, ← Nat.zero_add (sget T x.item).toNat] at hst
      have hg0 : A[0 + (sget T x.item).toNat]? = some a := by rw [Nat.zero_add]; exact ha
      have hrow : (A.map eAcct)[0 + (sget T x.item).toNat]? = some (eAcct a) := by rw [List.getElem?_map, hg0]; rfl
      have hwc : IntKind.wrap .i64 (a.chg + v) = a.chg + v := by have := hvl.1; have := hvl.2; exact wrap_i64 (by omega) (by omega)
      have hws : IntKind.wrap .i64 (a.sig + v) = a.sig + v := by have := hvl.1; have := hvl.2; exact wrap_i64 (by omega) (by omega)
      have hmb : sget T x.item < (A.map eAcct).length := by rw [List.length_map]; exact hid.2
      have hcv := hcov h3 g1 rfl
      generalize sgdB l ((k : Int) + 1) l.length 0 = sg at *
      clear h1 h2
      repeat (first|(refine stp rfl ?_ ?_;·repeat' constructor)|(refine pw_cond rfl (fun hA => absurd hA (by intro hA; simp only [decide_eq_true_eq, decide_eq_false_iff_not, Bool.not_eq_true', Bool.not_eq_false'] at hA; omega)) (fun _ => ?_))|(refine pw_cond rfl (fun _ => ?_) (fun hA => absurd hA (by intro hA; simp only [decide_eq_true_eq, decide_eq_false_iff_not, Bool.not_eq_true', Bool.not_eq_false'] at hA; omega))))
      apply qst;exact rfl;exact rfl;exact q_lookG none rfl rfl rfl rfl rfl zone3 rfl rfl rfl rfl rfl rfl (keyedG_sv T)
      rw [mval_sv]
      apply qst;exact rfl;exact rfl;exact q_idxA rfl rfl rfl rfl rfl rfl rfl hid.1 hmb
      repeat (refine stp rfl ?_ ?_;·repeat' constructor)
      apply qst;exact rfl;exact rfl;exact q_ldp rfl rfl rfl hrow rfl
      repeat (refine stp rfl ?_ ?_;·repeat' constructor)
      rw [hwc]
      repeat (refine stp rfl ?_ ?_;·repeat' constructor)
      refine ps_run0 (o_storeM (enc := eAcct) { a with chg := a.chg + v } (kd' := 0) rfl rfl rfl hg0 rfl rfl ⟨trivial, trivial⟩ rfl rfl rfl rfl rfl ?_)
      have hrow1 : ∀ b : SAcct, ((A.set (0 + (sget T x.item).toNat) b).map eAcct)[0 + (sget T x.item).toNat]? = some (eAcct b) := fun b => by rw [List.getElem?_map, set_at hg0 b]; rfl
      have hbb := billF_lim hA (n := (k : Int) + 1) (by omega) (by omega)
      have hbl : billF l ((k : Int) + 1) = if 0 < invF l ((k : Int) + 1) l.length then valF l ((k : Int) + 1) (invF l ((k : Int) + 1) l.length - 1).toNat else 0 := rfl
      have hval2 : 0 < invF l ((k : Int) + 1) l.length → Ret Tryz.prog .shared 145 [.dref (eBook l) 0, I ((k : Int) + 1), I (invF l ((k : Int) + 1) l.length)] (I (valF l ((k : Int) + 1) (invF l ((k : Int) + 1) l.length - 1).toNat)) := fun hp => by
        have hb := inv_bounds hp
        have := value_ret l hO ((k : Int) + 1) (invF l ((k : Int) + 1) l.length - 1).toNat (by omega) (by omega) (by omega)
        rwa [show (((invF l ((k : Int) + 1) l.length - 1).toNat : Nat) : Int) + 1 = invF l ((k : Int) + 1) l.length by omega] at this
      generalize valF l ((k : Int) + 1) (invF l ((k : Int) + 1) l.length - 1).toNat = vb at *
      generalize invF l ((k : Int) + 1) l.length = iv at *
      have hwb : iv > 0 → IntKind.wrap .i64 (a.bil + vb) = a.bil + vb := fun hp => by rw [hbl, if_pos hp] at hbb; have := hbb.1; have := hbb.2; exact wrap_i64 (by omega) (by omega)
      repeat (refine stp rfl ?_ ?_;·repeat' constructor)
      apply qst;exact rfl;exact rfl;exact q_callP rfl (hs0) rfl (by repeat' constructor) rfl rfl
      cases sg with
      | false =>
        rw [show a.sig + (if false = true then v else 0) = a.sig from Int.add_zero _] at hst
        repeat (refine stp rfl ?_ ?_;·repeat' constructor)
        apply qst;exact rfl;exact rfl;exact q_lookV none (mval_kv ((k : Int) + 1) (covOut l o l.length)) (keyedG_kv _) zone3 rfl rfl rfl rfl rfl rfl rfl rfl rfl
        rw [hcv]
        repeat (refine stp rfl ?_ ?_;·repeat' constructor)
        refine pw_cond rfl (fun h => ?_) (fun h => ?_)
        · have hp := of_decide_eq_true h
          clear h
          have hval2 := hval2 hp
          rw [if_pos hp] at hbl
          rw [hbl] at hst
          repeat (refine stp rfl ?_ ?_;·repeat' constructor)
          refine pw_draw 11 [116, 117, 118, 119, 120, 121, 122, 123, 124, 125, 126] (by decide +kernel) ?_
          repeat (refine stp rfl ?_ ?_;·repeat' constructor)
          apply qst;exact rfl;exact rfl;exact q_ldp rfl rfl rfl (hrow1 { a with chg := a.chg + v }) rfl
          repeat (refine stp rfl ?_ ?_;·repeat' constructor)
          apply qst;exact rfl;exact rfl;exact q_callP rfl (hval2) rfl (by repeat' constructor) rfl rfl
          repeat (refine stp rfl ?_ ?_;·repeat' constructor)
          rw [hwb hp]
          repeat (refine stp rfl ?_ ?_;·repeat' constructor)
          refine ps_run0 (o_storeM (enc := eAcct) { { a with chg := a.chg + v } with bil := a.bil + vb } (kd' := 0) rfl rfl rfl (set_at hg0 { a with chg := a.chg + v }) rfl rfl ⟨trivial, trivial⟩ rfl rfl rfl rfl rfl ?_)
          rw [List.set_set]
          repeat (refine stp rfl ?_ ?_;·repeat' constructor)
          exact ⟨(k + 1, g), hlt, by show l.length - (k + 1) < l.length - k; omega, rfl, rfl, by rw [hst]; show PV.als 5 g 0 (A.map eAcct).length = PV.als 5 g 0 ((A.set _ _).map eAcct).length; rw [List.length_map, List.length_map, List.length_set], rfl, rfl, rfl, rfl, rfl, i64_next (by omega) (by omega), by rw [hst]; rfl, by rw [hst]; rfl, trivial⟩
        · have hp := of_decide_eq_false h
          clear h
          rw [if_neg hp] at hbl
          rw [hbl, Int.add_zero] at hst
          repeat (refine stp rfl ?_ ?_;·repeat' constructor)
          exact ⟨(k + 1, g), hlt, by show l.length - (k + 1) < l.length - k; omega, rfl, rfl, by rw [hst]; show PV.als 5 g 0 (A.map eAcct).length = PV.als 5 g 0 ((A.set _ _).map eAcct).length; rw [List.length_map, List.length_map, List.length_set], rfl, rfl, rfl, rfl, rfl, i64_next (by omega) (by omega), by rw [hst]; rfl, by rw [hst]; rfl, trivial⟩
      | true =>
        rw [show a.sig + (if true = true then v else 0) = a.sig + v from rfl] at hst
        repeat (refine stp rfl ?_ ?_;·repeat' constructor)
        apply qst;exact rfl;exact rfl;exact q_ldp rfl rfl rfl (hrow1 { a with chg := a.chg + v }) rfl
        repeat (refine stp rfl ?_ ?_;·repeat' constructor)
        rw [hws]
        repeat (refine stp rfl ?_ ?_;·repeat' constructor)
        refine ps_run0 (o_storeM (enc := eAcct) { a with chg := a.chg + v, sig := a.sig + v } (kd' := 0) rfl rfl rfl (set_at hg0 { a with chg := a.chg + v }) rfl rfl ⟨trivial, trivial⟩ rfl rfl rfl rfl rfl ?_)
        rw [List.set_set]
        repeat (refine stp rfl ?_ ?_;·repeat' constructor)
        apply qst;exact rfl;exact rfl;exact q_lookV none (mval_kv ((k : Int) + 1) (covOut l o l.length)) (keyedG_kv _) zone3 rfl rfl rfl rfl rfl rfl rfl rfl rfl
        rw [hcv]
        repeat (refine stp rfl ?_ ?_;·repeat' constructor)
        refine pw_cond rfl (fun h => ?_) (fun h => ?_)
        · have hp := of_decide_eq_true h
          clear h
          have hval2 := hval2 hp
          rw [if_pos hp] at hbl
          rw [hbl] at hst
          repeat (refine stp rfl ?_ ?_;·repeat' constructor)
          refine pw_draw 11 [116, 117, 118, 119, 120, 121, 122, 123, 124, 125, 126] (by decide +kernel) ?_
          repeat (refine stp rfl ?_ ?_;·repeat' constructor)
          apply qst;exact rfl;exact rfl;exact q_ldp rfl rfl rfl (hrow1 { a with chg := a.chg + v, sig := a.sig + v }) rfl
          repeat (refine stp rfl ?_ ?_;·repeat' constructor)
          apply qst;exact rfl;exact rfl;exact q_callP rfl (hval2) rfl (by repeat' constructor) rfl rfl
          repeat (refine stp rfl ?_ ?_;·repeat' constructor)
          rw [hwb hp]
          repeat (refine stp rfl ?_ ?_;·repeat' constructor)
          refine ps_run0 (o_storeM (enc := eAcct) { { a with chg := a.chg + v, sig := a.sig + v } with bil := a.bil + vb } (kd' := 0) rfl rfl rfl (set_at hg0 { a with chg := a.chg + v, sig := a.sig + v }) rfl rfl ⟨trivial, trivial⟩ rfl rfl rfl rfl rfl ?_)
          rw [List.set_set]
          repeat (refine stp rfl ?_ ?_;·repeat' constructor)
          exact ⟨(k + 1, g), hlt, by show l.length - (k + 1) < l.length - k; omega, rfl, rfl, by rw [hst]; show PV.als 5 g 0 (A.map eAcct).length = PV.als 5 g 0 ((A.set _ _).map eAcct).length; rw [List.length_map, List.length_map, List.length_set], rfl, rfl, rfl, rfl, rfl, i64_next (by omega) (by omega), by rw [hst]; rfl, by rw [hst]; rfl, trivial⟩
        · have hp := of_decide_eq_false h
          clear h
          rw [if_neg hp] at hbl
          rw [hbl, Int.add_zero] at hst
          repeat (refine stp rfl ?_ ?_;·repeat' constructor)
          exact ⟨(k + 1, g), hlt, by show l.length - (k + 1) < l.length - k; omega, rfl, rfl, by rw [hst]; show PV.als 5 g 0 (A.map eAcct).length = PV.als 5 g 0 ((A.set _ _).map eAcct).length; rw [List.length_map, List.length_map, List.length_set], rfl, rfl, rfl, rfl, rfl, i64_next (by omega) (by omega), by rw [hst]; rfl, by rw [hst]; rfl, trivial⟩
    rw [if_neg h3] at hst
    repeat (first|(refine stp rfl ?_ ?_;·repeat' constructor)|(refine pw_cond rfl (fun hA => absurd hA (by intro hA; simp only [decide_eq_true_eq, decide_eq_false_iff_not, Bool.not_eq_true', Bool.not_eq_false'] at hA; omega)) (fun _ => ?_))|(refine pw_cond rfl (fun _ => ?_) (fun hA => absurd hA (by intro hA; simp only [decide_eq_true_eq, decide_eq_false_iff_not, Bool.not_eq_true', Bool.not_eq_false'] at hA; omega))))
    exact ⟨(k + 1, g), hlt, by show l.length - (k + 1) < l.length - k; omega, rfl, rfl, by rw [hst]; rfl, rfl, rfl, rfl, rfl, rfl, i64_next (by omega) (by omega), by rw [hst]; rfl, by rw [hst]; rfl, trivial⟩
  · have hz : k = l.length := by have := of_decide_eq_false h; omega
    subst hz
    clear h
    have hinv := accK_inv hA o l.length (Nat.le_refl _)
    have hlim : ∀ a, a ∈ (accK l o l.length).1 → LimA 400000000000 a := fun a ha => (hinv.lim a ha).mono (by omega)
    have hAn : (accK l o l.length).1.length ≤ 400 := Nat.le_trans hinv.len hl
    clear hinv
    rw [accP]
    generalize (accK l o l.length).1 = A at *
    have hAl : ((A.map eAcct).length : Int) = A.length := by simp
    have hA0 : ovrK A 0 = A := by simp [ovrK]
    repeat (refine stp rfl ?_ ?_;·repeat' constructor)
    rw [hAl]
    refine pw_loop (fun j => j ≤ A.length) (fun j => [(5, .als 5 g 0 (A.map eAcct).length), (128, .als 5 g 0 (A.map eAcct).length), (129, I A.length), (130, I j)]) (fun j => [(5, g, ⟨185, 7, (ovrK A j).map eAcct, 0⟩)]) (fun j => A.length - j) 0 (Nat.zero_le _) ⟨rfl, rfl, rfl, rfl, by rw [hA0]; rfl, trivial⟩ ?_
    intro j s2 hj
    have hj : j ≤ A.length := hj
    repeat (refine stp rfl ?_ ?_;·repeat' constructor)
    refine pw_cond rfl (fun h => ?_) (fun h => ?_)
    · have hlt : j < A.length := by have := of_decide_eq_true h; omega
      clear h
      obtain ⟨a, ha⟩ := get_lt hlt
      obtain ⟨hk1, hk2⟩ := ovrK_at ha
      obtain ⟨e1, e2, e3, e4, e5, e6⟩ := hlim a (List.mem_of_getElem? ha)
      have hrow : ((ovrK A j).map eAcct)[0 + (j : Int).toNat]? = some (eAcct a) := by rw [List.getElem?_map, Int.toNat_natCast, Nat.zero_add, hk1]; rfl
      have hw1 : IntKind.wrap .i64 (a.chg - a.est) = a.chg - a.est := wrap_i64 (by omega) (by omega)
      have hw2 : IntKind.wrap .i64 (a.chg - a.est - a.gro) = a.chg - a.est - a.gro := wrap_i64 (by omega) (by omega)
      have hAj : j < (A.map eAcct).length := by simpa using hlt
      repeat (refine stp rfl ?_ ?_;·repeat' constructor)
      apply qst;exact rfl;exact rfl;exact q_idxA rfl rfl rfl rfl rfl rfl rfl (by omega) (by omega)
      apply qst;exact rfl;exact rfl;exact q_ldp rfl rfl rfl hrow rfl
      repeat (refine stp rfl ?_ ?_;·repeat' constructor)
      rw [hw1, hw2]
      have hm : (if 0 < a.chg - a.est - a.gro then a.chg - a.est - a.gro else 0) = max 0 (a.chg - a.est - a.gro) := by split <;> omega
      have hg1 : (ovrK A j)[0 + (j : Int).toNat]? = some a := by rw [Int.toNat_natCast, Nat.zero_add]; exact hk1
      have hset : (ovrK A j).set (0 + (j : Int).toNat) (ovrA a) = ovrK A (j + 1) := by rw [Int.toNat_natCast, Nat.zero_add]; exact hk2
      repeat (refine stp rfl ?_ ?_;·repeat' constructor)
      rw [hm]
      apply qst;exact rfl;exact rfl;exact q_idxA rfl rfl rfl rfl rfl rfl rfl (by omega) (by omega)
      repeat (refine stp rfl ?_ ?_;·repeat' constructor)
      refine ps_run0 (o_storeM (enc := eAcct) (ovrA a) (kd' := 0) rfl rfl rfl hg1 rfl rfl ⟨trivial, trivial⟩ rfl rfl rfl rfl rfl ?_)
      rw [hset]
      repeat (refine stp rfl ?_ ?_;·repeat' constructor)
      exact ⟨j + 1, hlt, by omega, rfl, rfl, rfl, i64_next (by omega) (by omega), rfl, trivial⟩
    · have hz : j = A.length := by have := of_decide_eq_false h; omega
      subst hz
      have hfull : ovrK A A.length = A.map ovrA := by simp [ovrK]
      rw [hfull]
      repeat (refine stp rfl ?_ ?_;·repeat' constructor)
      exact end1f rfl rfl rfl ⟨rfl, rfl, by simp⟩ rfl
end Go.Pv

/- Accounts and balances: the program. -/
set_option maxHeartbeats 2000000
namespace Go.Pv
attribute [local irreducible] PWP POps PQuiet PSem XThen XBlock RetPost InlPost
open Go.Proofs

theorem ordered_ret (l : List SPost) (hO : Ok l) (o : Str) : Ret Tryz.prog .shared 104 [.dref (eBook l) 0, .str o] (I (standE l (ordNo l o))) := by
  have ho := (ordR_at l o).1
  have hs := standing_ret l hO.wf (ordNo l o) (ordNo_le l o).2
  refine Ret.of_pwp layOk mixed Go.Proofs.Tryz.func104 rfl (by decide) rfl rfl ?_
  repeat (refine stp rfl ?_ ?_;·repeat' constructor)
  apply qst;exact rfl;exact rfl;exact q_lookV none ho (ordR_keyed l) zone3 rfl rfl rfl rfl rfl rfl rfl rfl rfl
  repeat (refine stp rfl ?_ ?_;·repeat' constructor)
  apply qst;exact rfl;exact rfl;exact q_callP rfl (hs) rfl (by repeat' constructor) rfl rfl
  repeat (refine stp rfl ?_ ?_;·repeat' constructor)
  exact end1i rfl rfl rfl
def sumI (A : List SAcct) (f : SAcct → Int) (j : Nat) : Int := ((A.take j).map f).sum
theorem sumI_succ {A : List SAcct} {f : SAcct → Int} {j : Nat} {a : SAcct} (h : A[j]? = some a) : sumI A f (j + 1) = sumI A f j + f a := by
  rw [sumI, take_snoc h, List.map_append, List.sum_append]; simp [sumI]
theorem sumI_lim {A : List SAcct} {f : SAcct → Int} {B : Int} (hB : ∀ a, a ∈ A → -B ≤ f a ∧ f a ≤ B) : ∀ j : Nat, j ≤ A.length → -(B * j) ≤ sumI A f j ∧ sumI A f j ≤ B * j
  | 0, _ => by simp [sumI]
  | j + 1, h => by
    obtain ⟨a, ha⟩ := get_lt (show j < A.length by omega)
    have ih := sumI_lim hB j (by omega)
    have hb := hB a (List.mem_of_getElem? ha)
    have hm : B * ((j + 1 : Nat) : Int) = B * j + B := by rw [Int.natCast_add, Int.mul_add]; simp
    rw [sumI_succ ha, hm]
    omega
def payB (l : List SPost) (o : Str) (k : Nat) : Bool := decide ((entL l ((k : Int) + 1)).op = 7) && decide ((entL l ((k : Int) + 1)).order = o) && liveB l ((k : Int) + 1)
def payK (l : List SPost) (o : Str) : Nat → Int
  | 0 => 0
  | k + 1 => if payB l o k = true then payK l o k + (entL l ((k : Int) + 1)).amount else payK l o k
theorem payK_lim {l : List SPost} (h : Acc l) (o : Str) : ∀ k : Nat, k ≤ l.length → -(1000000000 * (k : Int)) ≤ payK l o k ∧ payK l o k ≤ 1000000000 * (k : Int)
  | 0, _ => by simp [payK]
  | k + 1, hk => by
    have ih := payK_lim h o k (by omega)
    have := h.amt _ _ (entL_at (l := l) (n := (k : Int) + 1) (by omega) (by omega))
    have h1 := this.1
    have h2 := this.2
    rw [payK]
    split <;> omega
def balV (l : List SPost) (o : Str) : List PV :=
  let A := accP l o
  let n := A.length
  [I (sumI A (·.est) n), I (sumI A (·.gro) n), I (sumI A (·.chg) n), I (sumI A (·.bil) n), I (payK l o l.length), I (sumI A (·.bil) n - payK l o l.length)]
end Go.Pv

/- The balance: the program. -/
set_option maxHeartbeats 2000000
namespace Go.Pv
attribute [local irreducible] PWP POps PQuiet PSem XThen XBlock RetPost InlPost
open Go.Proofs

theorem accP_lim {l : List SPost} (h : Acc l) (o : Str) : (accP l o).length ≤ 400 ∧ ∀ a, a ∈ accP l o → (-400000000000 ≤ a.est ∧ a.est ≤ 400000000000) ∧ (-400000000000 ≤ a.gro ∧ a.gro ≤ 400000000000) ∧ (-400000000000 ≤ a.chg ∧ a.chg ≤ 400000000000) ∧ (-400000000000 ≤ a.bil ∧ a.bil ≤ 400000000000) := by
  have hinv := accK_inv h o l.length (Nat.le_refl _)
  have hl := h.ok.wf.len
  refine ⟨by rw [accP, List.length_map]; exact Nat.le_trans hinv.len hl, fun a ha => ?_⟩
  rw [accP, List.mem_map] at ha
  obtain ⟨b, hb, rfl⟩ := ha
  obtain ⟨e1, e2, e3, e4, e5, e6⟩ := hinv.lim b hb
  simp only [ovrA]
  omega
set_option maxRecDepth 20000 in
theorem balance_ret (l : List SPost) (hA : Acc l) (o : Str) : Ret Tryz.prog .fresh 55 [.dref (eBook l) 0, .str o] (if standE l (ordNo l o) = 0 then .tup [.agg (balV l o), I 0] else .tup [.agg [I 0, I 0, I 0, I 0, I 0, I 0], I (standE l (ordNo l o))]) := by
  have hO := hA.ok
  have hl := hO.wf.len
  have hll : ((l.map ePost).length : Int) = l.length := by simp
  have h44 := ordered_ret l hO o
  have h45 := accounts_ret l hA o
  obtain ⟨hAn, hlim⟩ := accP_lim hA o
  by_cases hz : standE l (ordNo l o) = 0
  case neg =>
    rw [if_neg hz]
    refine Ret.of_pwp layOk mixed Go.Proofs.Tryz.func55 rfl (by decide) rfl rfl ?_
    repeat (refine stp rfl ?_ ?_;·repeat' constructor)
    apply qst;exact rfl;exact rfl;exact q_callP rfl (h44) rfl (by repeat' constructor) rfl rfl
    repeat (refine stp rfl ?_ ?_;·repeat' constructor)
    refine pw_cond rfl (fun h => ?_) (fun h => ?_)
    · repeat (refine stp rfl ?_ ?_;·repeat' constructor)
      exact endc2f rfl rfl rfl rfl rfl (by repeat' constructor) rfl
    · exact absurd (of_decide_eq_true (by simpa only [Bool.not_eq_false'] using h)) hz
  rw [if_pos hz, balV]
  rw [hz] at h44
  generalize accP l o = A at *
  have hAl : ((A.map eAcct).length : Int) = A.length := by simp
  have b1 := fun j hj => sumI_lim (A := A) (f := (·.est)) (B := 400000000000) (fun a ha => (hlim a ha).1) j hj
  have b2 := fun j hj => sumI_lim (A := A) (f := (·.gro)) (B := 400000000000) (fun a ha => (hlim a ha).2.1) j hj
  have b3 := fun j hj => sumI_lim (A := A) (f := (·.chg)) (B := 400000000000) (fun a ha => (hlim a ha).2.2.1) j hj
  have b4 := fun j hj => sumI_lim (A := A) (f := (·.bil)) (B := 400000000000) (fun a ha => (hlim a ha).2.2.2) j hj
  refine Ret.of_pwp layOk mixed Go.Proofs.Tryz.func55 rfl (by decide) rfl rfl ?_
  repeat (refine stp rfl ?_ ?_;·repeat' constructor)
  apply qst;exact rfl;exact rfl;exact q_callP rfl (h44) rfl (by repeat' constructor) rfl rfl
  repeat (refine stp rfl ?_ ?_;·repeat' constructor)
  apply qst;exact rfl;exact rfl;exact q_callF rfl (h45) rfl (by repeat' constructor) rfl
  repeat (refine stp rfl ?_ ?_;·repeat' constructor)
  rw [hAl]
  refine pw_loop (fun j => j ≤ A.length) (fun j => [(0, .dref (eBook l) 0), (1, .str o), (4, .ptr 4 1 0 0), (7, .ptr 7 1 0 0), (21, .fsl (A.map eAcct)), (22, I A.length), (23, I j)])
    (fun j => [(4, 1, ⟨106, 6, [[I 0, I 0, I 0, I 0, I 0, I 0]], 2⟩), (7, 1, ⟨106, 6, [[I (sumI A (·.est) j), I (sumI A (·.gro) j), I (sumI A (·.chg) j), I (sumI A (·.bil) j), I 0, I 0]], 2⟩)]) (fun j => A.length - j) 0 (Nat.zero_le _) ⟨rfl, rfl, rfl, rfl, rfl, rfl, rfl, rfl, rfl, trivial⟩ ?_
  intro j s hj
  have hj : j ≤ A.length := hj
  repeat (refine stp rfl ?_ ?_;·repeat' constructor)
  refine pw_cond rfl (fun h => ?_) (fun h => ?_)
  · have hlt : j < A.length := by have := of_decide_eq_true h; omega
    clear h
    obtain ⟨a, ha⟩ := get_lt hlt
    have w : ∀ (f : SAcct → Int), (∀ j, j ≤ A.length → -(400000000000 * (j : Int)) ≤ sumI A f j ∧ sumI A f j ≤ 400000000000 * (j : Int)) → IntKind.wrap .i64 (sumI A f j + f a) = sumI A f (j + 1) := fun f hb => by
      have := hb (j + 1) hlt
      rw [← sumI_succ ha, wrap_i64 (by omega) (by omega)]
    have w1 := w _ b1
    have w2 := w _ b2
    have w3 := w _ b3
    have w4 := w _ b4
    repeat (refine stp rfl ?_ ?_;·repeat' constructor)
    apply qst;exact rfl;exact rfl;exact q_idxmF rfl rfl rfl rfl rfl (by omega) ha rfl
    repeat (refine stp rfl ?_ ?_;·repeat' constructor)
    exact ⟨j + 1, hlt, by omega, rfl, rfl, rfl, rfl, rfl, rfl, i64_next (by omega) (by omega), rfl, by rw [← w1, ← w2, ← w3, ← w4]; rfl, trivial⟩
  · have hz : j = A.length := by have := of_decide_eq_false h; omega
    subst hz
    clear h
    have b4 := b4 A.length (Nat.le_refl _)
    generalize sumI A (·.est) A.length = s1 at *
    generalize sumI A (·.gro) A.length = s2 at *
    generalize sumI A (·.chg) A.length = s3 at *
    generalize sumI A (·.bil) A.length = s4 at *
    repeat (refine stp rfl ?_ ?_;·repeat' constructor)
    rw [hll]
    refine pw_loop (fun k => k ≤ l.length) (fun k => [(0, .dref (eBook l) 0), (1, .str o), (4, .ptr 4 1 0 0), (7, .ptr 7 1 0 0), (55, .sl (l.map ePost)), (56, I l.length), (57, I k)])
      (fun k => [(4, 1, ⟨106, 6, [[I 0, I 0, I 0, I 0, I 0, I 0]], 2⟩), (7, 1, ⟨106, 6, [[I s1, I s2, I s3, I s4, I (payK l o k), I 0]], 2⟩)]) (fun k => l.length - k) 0 (Nat.zero_le _) ⟨rfl, rfl, rfl, rfl, rfl, rfl, rfl, rfl, rfl, trivial⟩ ?_
    intro k s5 hk
    have hk : k ≤ l.length := hk
    have hpl := payK_lim hA o k hk
    repeat (refine stp rfl ?_ ?_;·repeat' constructor)
    refine pw_cond rfl (fun h => ?_) (fun h => ?_)
    · have hlt : k < l.length := by have := of_decide_eq_true h; omega
      clear h
      have hx : l[k]? = some (entL l ((k : Int) + 1)) := by
        have := entL_at (l := l) (n := (k : Int) + 1) (by omega) (by omega)
        rwa [show ((k : Int) + 1 - 1).toNat = k by omega] at this
      have hv := live_ret l hO.wf ((k : Int) + 1) (by omega)
      have hst : payK l o (k + 1) = if payB l o k = true then payK l o k + (entL l ((k : Int) + 1)).amount else payK l o k := rfl
      have hw : IntKind.wrap .i64 ((k : Int) + 1) = (k : Int) + 1 := wrap_i64 (by omega) (by omega)
      have hpl2 := payK_lim hA o (k + 1) hlt
      rw [payB] at hst
      generalize entL l ((k : Int) + 1) = x at *
      repeat (refine stp rfl ?_ ?_;·repeat' constructor)
      apply qst;exact rfl;exact rfl;exact q_idxm rfl rfl rfl rfl rfl (by omega) hx rfl
      repeat (refine stp rfl ?_ ?_;·repeat' constructor)
      (first | refine ps_split rfl rfl (fun h => ?_) (fun h => ?_) | refine pq_split rfl rfl (fun h => ?_) (fun h => ?_) | refine p3_split rfl rfl (fun h => ?_) (fun h => ?_))
      rotate_left
      · have g1 := of_decide_eq_false h
        rw [decide_eq_false g1, Bool.false_and, Bool.false_and, if_neg (by simp)] at hst
        repeat (refine stp rfl ?_ ?_;·repeat' constructor)
        exact ⟨k + 1, hlt, by omega, rfl, rfl, rfl, rfl, rfl, rfl, i64_next (by omega) (by omega), rfl, by rw [hst]; rfl, trivial⟩
      have g1 := of_decide_eq_true h
      clear h
      rw [decide_eq_true g1, Bool.true_and] at hst
      repeat (refine stp rfl ?_ ?_;·repeat' constructor)
      (first | refine ps_split rfl rfl (fun h => ?_) (fun h => ?_) | refine pq_split rfl rfl (fun h => ?_) (fun h => ?_) | refine p3_split rfl rfl (fun h => ?_) (fun h => ?_))
      rotate_left
      · have g2 := of_decide_eq_false h
        rw [decide_eq_false g2, Bool.false_and, if_neg (by simp)] at hst
        repeat (refine stp rfl ?_ ?_;·repeat' constructor)
        exact ⟨k + 1, hlt, by omega, rfl, rfl, rfl, rfl, rfl, rfl, i64_next (by omega) (by omega), rfl, by rw [hst]; rfl, trivial⟩
      have g2 := of_decide_eq_true h
      clear h
      rw [decide_eq_true g2, Bool.true_and] at hst
      generalize liveB l ((k : Int) + 1) = lv at *
      repeat (refine stp rfl ?_ ?_;·repeat' constructor)
      rw [hw]
      apply qst;exact rfl;exact rfl;exact q_callP rfl (hv) rfl (by repeat' constructor) rfl rfl
      cases lv with
      | false =>
        rw [if_neg (by simp)] at hst
        repeat (refine stp rfl ?_ ?_;·repeat' constructor)
        exact ⟨k + 1, hlt, by omega, rfl, rfl, rfl, rfl, rfl, rfl, i64_next (by omega) (by omega), rfl, by rw [hst]; rfl, trivial⟩
      | true =>
        rw [if_pos rfl] at hst
        have hwp : IntKind.wrap .i64 (payK l o k + x.amount) = payK l o (k + 1) := by rw [← hst, wrap_i64 (by omega) (by omega)]
        repeat (refine stp rfl ?_ ?_;·repeat' constructor)
        exact ⟨k + 1, hlt, by omega, rfl, rfl, rfl, rfl, rfl, rfl, i64_next (by omega) (by omega), rfl, by rw [← hwp]; rfl, trivial⟩
    · have hz : k = l.length := by have := of_decide_eq_false h; omega
      subst hz
      have hwd : IntKind.wrap .i64 (s4 - payK l o l.length) = s4 - payK l o l.length := wrap_i64 (by omega) (by omega)
      repeat (refine stp rfl ?_ ?_;·repeat' constructor)
      rw [hwd]
      repeat (refine stp rfl ?_ ?_;·repeat' constructor)
      exact endc2f rfl rfl rfl rfl rfl (by repeat' constructor) rfl
end Go.Pv

/- The chapter's example holds. -/
set_option maxHeartbeats 2000000
namespace Go.Pv
attribute [local irreducible] PWP POps PQuiet PSem XThen XBlock RetPost InlPost
open Go.Proofs

theorem ex_bal : balV exL exO = [I 5000, I 0, I 3000, I 3000, I 0, I 3000] := by
  have h1 : sumI (accP exL exO) (·.est) (accP exL exO).length = 5000 := by decide +kernel
  have h2 : sumI (accP exL exO) (·.gro) (accP exL exO).length = 0 := by decide +kernel
  have h3 : sumI (accP exL exO) (·.chg) (accP exL exO).length = 3000 := by decide +kernel
  have h4 : sumI (accP exL exO) (·.bil) (accP exL exO).length = 3000 := by decide +kernel
  have h5 : payK exL exO exL.length = 0 := by decide +kernel
  simp only [balV, h1, h2, h3, h4, h5]
  rfl
theorem balT : eqT Tryz.prog 106 [.int .i64, .int .i64, .int .i64, .int .i64, .int .i64, .int .i64] = true := by decide +kernel
set_option maxRecDepth 20000 in
theorem awake_ret : Ret Tryz.prog .shared 11 [] (.bool true) := by
  have hld := load_ret exL (by decide)
  obtain ⟨e1, e2, e3⟩ := exL_acc.lod
  rw [e1, e2, e3] at hld
  have hb := balance_ret exL exL_acc exO
  rw [if_pos (by decide), ex_bal] at hb
  have hf := format_ret ⟨3, 1, exO, exI, [], [97, 110, 110], 3000, 0, 0⟩ (by decide)
  rw [exText] at hf
  have hx : exL[2]? = some ⟨3, 1, exO, exI, [], [97, 110, 110], 3000, 0, 0⟩ := rfl
  refine Ret.of_pwp layOk mixed Go.Proofs.Tryz.func11 rfl (by decide) rfl rfl ?_
  repeat (refine stp rfl ?_ ?_;·repeat' constructor)
  apply qst;exact rfl;exact rfl;exact q_callF rfl (example_ret) rfl (by repeat' constructor) rfl
  repeat (refine stp rfl ?_ ?_;·repeat' constructor)
  apply qst;exact rfl;exact rfl;exact q_callF rfl (hld) rfl (by repeat' constructor) rfl
  repeat (refine stp rfl ?_ ?_;·repeat' constructor)
  apply qst;exact rfl;exact rfl;exact q_callF rfl (hb) rfl (by repeat' constructor) rfl
  repeat (refine stp rfl ?_ ?_;·repeat' constructor)
  apply qst;exact rfl;exact rfl;exact q_callF rfl (example_ret) rfl (by repeat' constructor) rfl
  repeat (refine stp rfl ?_ ?_;·repeat' constructor)
  apply qst;exact rfl;exact rfl;exact q_idxmF rfl rfl rfl rfl rfl (by omega) hx rfl
  repeat (refine stp rfl ?_ ?_;·repeat' constructor)
  apply qst;exact rfl;exact rfl;exact q_callP rfl (hf) rfl (by repeat' constructor) rfl rfl
  repeat (refine stp rfl ?_ ?_;·repeat' constructor)
  apply qst;exact rfl;exact rfl;exact q_seqE balT rfl rfl rfl
  repeat (refine stp rfl ?_ ?_;·repeat' constructor)
  exact end1b rfl rfl rfl
end Go.Pv

/- Equal lists; lists that are not too long; the law of merges. -/
set_option maxHeartbeats 2000000
namespace Go.Pv
attribute [local irreducible] PWP POps PQuiet PSem XThen XBlock RetPost InlPost
open Go.Proofs

theorem setT : eqT Tryz.prog 149 [.str, .str] = true := by kernel_rfl
theorem edT : eqT Tryz.prog 159 [.str, .str, .str, .bool, .bool] = true := by kernel_rfl
theorem leq_set (x : SSet) : leqs [.str, .str] (eSet x) (eSet x) = some true := by
  obtain ⟨a, b⟩ := x
  simp [leqs, eSet]
theorem leq_ed (x : SEdit) : leqs [.str, .str, .str, .bool, .bool] (eEd x) (eEd x) = some true := by
  obtain ⟨a, b, c, d, e⟩ := x
  simp [leqs, eEd]
theorem settings_same (l : List SSet) (hw : l.length ≤ 1000000) : Ret Tryz.prog .shared 31 [.sl (l.map eSet), .sl (l.map eSet)] (.bool true) := by
  have hll : ((l.map eSet).length : Int) = l.length := by simp
  refine Ret.of_pwp layOk mixed Go.Proofs.Tryz.func31 rfl (by decide) rfl rfl ?_
  repeat (refine stp rfl ?_ ?_;·repeat' constructor)
  refine pw_cond rfl (fun h => ?_) (fun h => ?_)
  · exact absurd h (by simp)
  clear h
  repeat (refine stp rfl ?_ ?_;·repeat' constructor)
  refine pw_loop (fun k => k ≤ l.length) (fun k => [(0, .sl (l.map eSet)), (1, .sl (l.map eSet)), (5, I k)]) (fun _ => []) (fun k => l.length - k) 0 (Nat.zero_le _) ⟨rfl, rfl, rfl, trivial⟩ ?_
  intro k s hk
  have hk : k ≤ l.length := hk
  repeat (refine stp rfl ?_ ?_;·repeat' constructor)
  rw [hll]
  refine pw_cond rfl (fun h => ?_) (fun h => ?_)
  · have hlt : k < l.length := by have := of_decide_eq_true h; omega
    obtain ⟨x, hx⟩ := get_lt hlt
    clear h
    repeat (refine stp rfl ?_ ?_;·repeat' constructor)
    refine pw_draw 9 [17, 18, 19, 20, 21, 22, 23, 24, 25] (by decide +kernel) ?_
    repeat (refine stp rfl ?_ ?_;·repeat' constructor)
    apply qst;exact rfl;exact rfl;exact q_idxm rfl rfl rfl rfl rfl (by omega) hx rfl
    repeat (refine stp rfl ?_ ?_;·repeat' constructor)
    apply qst;exact rfl;exact rfl;exact q_idxm rfl rfl rfl rfl rfl (by omega) hx rfl
    repeat (refine stp rfl ?_ ?_;·repeat' constructor)
    apply qst;exact rfl;exact rfl;exact q_seqN setT rfl rfl (leq_set x)
    repeat (refine stp rfl ?_ ?_;·repeat' constructor)
    exact ⟨k + 1, hlt, by omega, rfl, rfl, i64_next (by omega) (by omega), trivial⟩
  · repeat (refine stp rfl ?_ ?_;·repeat' constructor)
    exact end1b rfl rfl rfl
theorem edits_same (l : List SEdit) (hw : l.length ≤ 1000000) : Ret Tryz.prog .shared 41 [.sl (l.map eEd), .sl (l.map eEd)] (.bool true) := by
  have hll : ((l.map eEd).length : Int) = l.length := by simp
  refine Ret.of_pwp layOk mixed Go.Proofs.Tryz.func41 rfl (by decide) rfl rfl ?_
  repeat (refine stp rfl ?_ ?_;·repeat' constructor)
  refine pw_cond rfl (fun h => ?_) (fun h => ?_)
  · exact absurd h (by simp)
  clear h
  repeat (refine stp rfl ?_ ?_;·repeat' constructor)
  refine pw_loop (fun k => k ≤ l.length) (fun k => [(0, .sl (l.map eEd)), (1, .sl (l.map eEd)), (5, I k)]) (fun _ => []) (fun k => l.length - k) 0 (Nat.zero_le _) ⟨rfl, rfl, rfl, trivial⟩ ?_
  intro k s hk
  have hk : k ≤ l.length := hk
  repeat (refine stp rfl ?_ ?_;·repeat' constructor)
  rw [hll]
  refine pw_cond rfl (fun h => ?_) (fun h => ?_)
  · have hlt : k < l.length := by have := of_decide_eq_true h; omega
    obtain ⟨x, hx⟩ := get_lt hlt
    clear h
    repeat (refine stp rfl ?_ ?_;·repeat' constructor)
    refine pw_draw 9 [17, 18, 19, 20, 21, 22, 23, 24, 25] (by decide +kernel) ?_
    repeat (refine stp rfl ?_ ?_;·repeat' constructor)
    apply qst;exact rfl;exact rfl;exact q_idxm rfl rfl rfl rfl rfl (by omega) hx rfl
    repeat (refine stp rfl ?_ ?_;·repeat' constructor)
    apply qst;exact rfl;exact rfl;exact q_idxm rfl rfl rfl rfl rfl (by omega) hx rfl
    repeat (refine stp rfl ?_ ?_;·repeat' constructor)
    apply qst;exact rfl;exact rfl;exact q_seqN edT rfl rfl (leq_ed x)
    repeat (refine stp rfl ?_ ?_;·repeat' constructor)
    exact ⟨k + 1, hlt, by omega, rfl, rfl, i64_next (by omega) (by omega), trivial⟩
  · repeat (refine stp rfl ?_ ?_;·repeat' constructor)
    exact end1b rfl rfl rfl
theorem texts_same (l : List Str) (hw : l.length ≤ 1000000) : Ret Tryz.prog .shared 32 [.sl (l.map eS), .sl (l.map eS)] (.bool true) := by
  have hll : ((l.map eS).length : Int) = l.length := by simp
  refine Ret.of_pwp layOk mixed Go.Proofs.Tryz.func32 rfl (by decide) rfl rfl ?_
  repeat (refine stp rfl ?_ ?_;·repeat' constructor)
  refine pw_cond rfl (fun h => ?_) (fun h => ?_)
  · exact absurd h (by simp)
  clear h
  repeat (refine stp rfl ?_ ?_;·repeat' constructor)
  refine pw_loop (fun k => k ≤ l.length) (fun k => [(0, .sl (l.map eS)), (1, .sl (l.map eS)), (5, I k)]) (fun _ => []) (fun k => l.length - k) 0 (Nat.zero_le _) ⟨rfl, rfl, rfl, trivial⟩ ?_
  intro k s hk
  have hk : k ≤ l.length := hk
  repeat (refine stp rfl ?_ ?_;·repeat' constructor)
  rw [hll]
  refine pw_cond rfl (fun h => ?_) (fun h => ?_)
  · have hlt : k < l.length := by have := of_decide_eq_true h; omega
    obtain ⟨x, hx⟩ := get_lt hlt
    clear h
    repeat (refine stp rfl ?_ ?_;·repeat' constructor)
    refine pw_draw 9 [17, 18, 19, 20, 21, 22, 23, 24, 25] (by decide +kernel) ?_
    repeat (refine stp rfl ?_ ?_;·repeat' constructor)
    apply qst;exact rfl;exact rfl;exact q_idxm rfl rfl rfl rfl rfl (by omega) hx rfl
    repeat (refine stp rfl ?_ ?_;·repeat' constructor)
    apply qst;exact rfl;exact rfl;exact q_idxm rfl rfl rfl rfl rfl (by omega) hx rfl
    repeat (refine stp rfl ?_ ?_;·repeat' constructor)
    
    refine pw_cond rfl (fun h => ?_) (fun h => ?_)
    · exact absurd h (by simp)
    · repeat (refine stp rfl ?_ ?_;·repeat' constructor)
      exact ⟨k + 1, hlt, by omega, rfl, rfl, i64_next (by omega) (by omega), trivial⟩
  · repeat (refine stp rfl ?_ ?_;·repeat' constructor)
    exact end1b rfl rfl rfl

def bigS (x : SSet) : Bool := decide (40 < (x.key.length : Int)) || decide (100 < (x.value.length : Int))
def wideB (l : List SSet) : Bool := decide (70 < l.length) || l.any bigS
theorem wide_ret (l : List SSet) : Ret Tryz.prog .shared 28 [.sl (l.map eSet)] (.bool (wideB l)) := by
  have hll : ((l.map eSet).length : Int) = l.length := by simp
  rw [wideB]
  refine Ret.of_pwp layOk mixed Go.Proofs.Tryz.func28 rfl (by decide) rfl rfl ?_
  repeat (refine stp rfl ?_ ?_;·repeat' constructor)
  rw [hll]
  refine pw_cond rfl (fun h => ?_) (fun h => ?_)
  · have := of_decide_eq_true h
    repeat (refine stp rfl ?_ ?_;·repeat' constructor)
    exact end1b rfl rfl (by rw [decide_eq_true (by omega)]; rfl)
  have h40 := of_decide_eq_false h
  clear h
  rw [decide_eq_false (show ¬ 70 < l.length by omega), Bool.false_or]
  repeat (refine stp rfl ?_ ?_;·repeat' constructor)
  refine pw_loop (Clear l bigS) (fun k => [(0, .sl (l.map eSet)), (3, I k)]) (fun _ => []) (fun k => l.length - k) 0 .zero ⟨rfl, rfl, trivial⟩ ?_
  intro k s hk
  repeat (refine stp rfl ?_ ?_;·repeat' constructor)
  rw [hll]
  refine pw_cond rfl (fun h => ?_) (fun h => ?_)
  · have hlt : k < l.length := by have := of_decide_eq_true h; omega
    clear h
    obtain ⟨x, hx⟩ := get_lt hlt
    repeat (refine stp rfl ?_ ?_;·repeat' constructor)
    apply qst;exact rfl;exact rfl;exact q_idxm rfl rfl rfl rfl rfl (by omega) hx rfl
    repeat (refine stp rfl ?_ ?_;·repeat' constructor)
    (first | refine ps_split rfl rfl (fun h => ?_) (fun h => ?_) | refine pq_split rfl rfl (fun h => ?_) (fun h => ?_) | refine p3_split rfl rfl (fun h => ?_) (fun h => ?_))
    · have hb : bigS x = true := by rw [bigS, h]; rfl
      clear h
      repeat (refine stp rfl ?_ ?_;·repeat' constructor)
      exact end1b rfl rfl (by rw [any_of hx hb])
    · have h1 := h
      clear h
      repeat (refine stp rfl ?_ ?_;·repeat' constructor)
      apply qst;exact rfl;exact rfl;exact q_idxm rfl rfl rfl rfl rfl (by omega) hx rfl
      repeat (refine stp rfl ?_ ?_;·repeat' constructor)
      refine pw_cond rfl (fun h => ?_) (fun h => ?_)
      · have hb : bigS x = true := by rw [bigS, h]; simp
        clear h
        repeat (refine stp rfl ?_ ?_;·repeat' constructor)
        exact end1b rfl rfl (by rw [any_of hx hb])
      · have hb : bigS x = false := by rw [bigS, h1, h]; rfl
        clear h
        repeat (refine stp rfl ?_ ?_;·repeat' constructor)
        exact ⟨k + 1, hk.succ hx hb, by omega, rfl, i64_next (by omega) (by omega), trivial⟩
  · have hf : ¬ k < l.length := by have := of_decide_eq_false h; omega
    repeat (refine stp rfl ?_ ?_;·repeat' constructor)
    exact end1b rfl rfl (by rw [hk.any hf])
theorem wideB_sane {l : List SSet} (h : wideB l = false) : SaneS l ∧ l.length ≤ 70 := by
  rw [wideB, Bool.or_eq_false_iff, decide_eq_false_iff_not, List.any_eq_false] at h
  refine ⟨⟨by omega, fun x hx => ?_⟩, by omega⟩
  have := h.2 x hx
  rw [bigS] at this
  simp only [Bool.or_eq_true, decide_eq_true_eq, not_or] at this
  omega
theorem mergeR_eq (b l r : List SSet) (hb : b.length ≤ 1000) (hl : l.length ≤ 1000) (hr : r.length ≤ 1000) : ∃ m c e, mergeR b l r = mrgR m c e ∧ m.length ≤ 60 ∧ c.length ≤ 3000 := by
  have hk : (keysR [b, l, r]).length ≤ 3000 := keysR_len (ls := [b, l, r]) (fun x hx => by simp at hx; rcases hx with rfl | rfl | rfl <;> assumption) 3
  have hc : (refCo b l r (keysR [b, l, r])).length ≤ 3000 := Nat.le_trans (List.length_filter_le _ _) hk
  rw [mergeR]
  split
  · exact ⟨[], [], _, rfl, by simp, by simp⟩
  · split
    · exact ⟨[], [], _, rfl, by simp, by simp⟩
    · exact ⟨_, _, _, rfl, by omega, hc⟩
theorem merges_law (hawake : Ret Tryz.prog .shared 11 [] (.bool true)) (b l r : List SSet) : Ret Tryz.prog .shared 6 [.sl (b.map eSet), .sl (l.map eSet), .sl (r.map eSet)] (.bool true) := by
  have w1 := wide_ret b
  have w2 := wide_ret l
  have w3 := wide_ret r
  cases hb : wideB b with
  | true =>
    rw [hb] at w1
    refine Ret.of_pwp layOk mixed Go.Proofs.Tryz.func6 rfl (by decide) rfl rfl ?_
    repeat (refine stp rfl ?_ ?_;·repeat' constructor)
    apply qst;exact rfl;exact rfl;exact q_callP rfl (w1) rfl (by repeat' constructor) rfl rfl
    repeat (refine stp rfl ?_ ?_;·repeat' constructor)
    apply qst;exact rfl;exact rfl;exact q_callP rfl (hawake) rfl (by repeat' constructor) rfl rfl
    repeat (refine stp rfl ?_ ?_;·repeat' constructor)
    exact end1b rfl rfl rfl
  | false =>
  rw [hb] at w1
  cases hl : wideB l with
  | true =>
    rw [hl] at w2
    refine Ret.of_pwp layOk mixed Go.Proofs.Tryz.func6 rfl (by decide) rfl rfl ?_
    repeat (refine stp rfl ?_ ?_;·repeat' constructor)
    apply qst;exact rfl;exact rfl;exact q_callP rfl (w1) rfl (by repeat' constructor) rfl rfl
    repeat (refine stp rfl ?_ ?_;·repeat' constructor)
    apply qst;exact rfl;exact rfl;exact q_callP rfl (w2) rfl (by repeat' constructor) rfl rfl
    repeat (refine stp rfl ?_ ?_;·repeat' constructor)
    apply qst;exact rfl;exact rfl;exact q_callP rfl (hawake) rfl (by repeat' constructor) rfl rfl
    repeat (refine stp rfl ?_ ?_;·repeat' constructor)
    exact end1b rfl rfl rfl
  | false =>
  rw [hl] at w2
  cases hr : wideB r with
  | true =>
    rw [hr] at w3
    refine Ret.of_pwp layOk mixed Go.Proofs.Tryz.func6 rfl (by decide) rfl rfl ?_
    repeat (refine stp rfl ?_ ?_;·repeat' constructor)
    apply qst;exact rfl;exact rfl;exact q_callP rfl (w1) rfl (by repeat' constructor) rfl rfl
    repeat (refine stp rfl ?_ ?_;·repeat' constructor)
    apply qst;exact rfl;exact rfl;exact q_callP rfl (w2) rfl (by repeat' constructor) rfl rfl
    repeat (refine stp rfl ?_ ?_;·repeat' constructor)
    apply qst;exact rfl;exact rfl;exact q_callP rfl (w3) rfl (by repeat' constructor) rfl rfl
    repeat (refine stp rfl ?_ ?_;·repeat' constructor)
    apply qst;exact rfl;exact rfl;exact q_callP rfl (hawake) rfl (by repeat' constructor) rfl rfl
    repeat (refine stp rfl ?_ ?_;·repeat' constructor)
    exact end1b rfl rfl rfl
  | false =>
  rw [hr] at w3
  obtain ⟨b1, b2⟩ := wideB_sane hb
  obtain ⟨l1, l2⟩ := wideB_sane hl
  obtain ⟨r1, r2⟩ := wideB_sane hr
  have h29 := merge_ret b l r b1 l1 r1 (by omega) (by omega) (by omega)
  have h30 := merge_ref b l r b1 l1 r1 (by omega) (by omega) (by omega)
  rw [merge_same] at h29
  obtain ⟨m, c, e, he, hm, hc⟩ := mergeR_eq b l r (by omega) (by omega) (by omega)
  rw [he, mrgR] at h29 h30
  have h31 := settings_same m (by omega)
  have h32 := texts_same c (by omega)
  clear hb hl hr b1 b2 l1 l2 r1 r2 he
  refine Ret.of_pwp layOk mixed Go.Proofs.Tryz.func6 rfl (by decide) rfl rfl ?_
  repeat (refine stp rfl ?_ ?_;·repeat' constructor)
  apply qst;exact rfl;exact rfl;exact q_callP rfl (w1) rfl (by repeat' constructor) rfl rfl
  repeat (refine stp rfl ?_ ?_;·repeat' constructor)
  apply qst;exact rfl;exact rfl;exact q_callP rfl (w2) rfl (by repeat' constructor) rfl rfl
  repeat (refine stp rfl ?_ ?_;·repeat' constructor)
  apply qst;exact rfl;exact rfl;exact q_callP rfl (w3) rfl (by repeat' constructor) rfl rfl
  repeat (refine stp rfl ?_ ?_;·repeat' constructor)
  apply qst;exact rfl;exact rfl;exact q_call rfl (h29) rfl (by repeat' constructor) rfl
  repeat (refine stp rfl ?_ ?_;·repeat' constructor)
  apply qst;exact rfl;exact rfl;exact q_call rfl (h30) rfl (by repeat' constructor) rfl
  repeat (refine stp rfl ?_ ?_;·repeat' constructor)
  apply qst;exact rfl;exact rfl;exact q_callP rfl (h31) rfl (by repeat' constructor) rfl rfl
  repeat (refine stp rfl ?_ ?_;·repeat' constructor)
  apply qst;exact rfl;exact rfl;exact q_callP rfl (h32) rfl (by repeat' constructor) rfl rfl
  repeat (refine stp rfl ?_ ?_;·repeat' constructor)
  (first | refine ps_split rfl rfl (fun h => ?_) (fun h => ?_) | refine pq_split rfl rfl (fun h => ?_) (fun h => ?_) | refine p3_split rfl rfl (fun h => ?_) (fun h => ?_))
  · clear h
    repeat (refine stp rfl ?_ ?_;·repeat' constructor)
    apply qst;exact rfl;exact rfl;exact q_callP rfl (hawake) rfl (by repeat' constructor) rfl rfl
    repeat (refine stp rfl ?_ ?_;·repeat' constructor)
    exact end1b rfl rfl rfl
  · exact absurd h (by simp)
end Go.Pv

/- The law of three ways. -/
set_option maxHeartbeats 2000000
namespace Go.Pv
attribute [local irreducible] PWP POps PQuiet PSem XThen XBlock RetPost InlPost
open Go.Proofs

/-- What the loop of the law asks of a key. -/
def keyOk (v z x y : TV) (con : Bool) : Bool := if con then decide (v = z) && !decide (x = y) else decide (v = x) || decide (v = y)
theorem keyOk_ref {b l r : List SSet} {k : Str} (h : k ∈ keysR [b, l, r, refO b l r (keysR [b, l, r])]) :
    keyOk (findS (refO b l r (keysR [b, l, r])) k) (findS b k) (findS l k) (findS r k) (decide (k ∈ refCo b l r (keysR [b, l, r]))) = true := by
  obtain ⟨hm, hf⟩ := merge_key h
  rw [hf, keyOk]
  by_cases hc : k ∈ refCo b l r (keysR [b, l, r])
  · obtain ⟨h1, h2⟩ := merge_con hc
    rw [decide_eq_true hc, if_pos rfl, decide_eq_true h1, decide_eq_false h2]; rfl
  · rw [decide_eq_false hc, if_neg (by simp)]
    rcases merge_non hm hc with h1 | h1
    · rw [decide_eq_true h1]; rfl
    · rw [decide_eq_true h1, Bool.or_true]
theorem dec_tv (x y : TV) : decide (x = y) = (decide (x.1 = y.1) && decide (x.2 = y.2)) := by
  rw [← Bool.decide_and, decide_eq_decide]
  exact ⟨fun h => by subst h; exact ⟨rfl, rfl⟩, fun h => Prod.ext h.1 h.2⟩
set_option maxRecDepth 20000 in
theorem ways_law (hawake : Ret Tryz.prog .shared 11 [] (.bool true)) (b l r : List SSet) : Ret Tryz.prog .shared 7 [.sl (b.map eSet), .sl (l.map eSet), .sl (r.map eSet)] (.bool true) := by
  have w1 := wide_ret b
  have w2 := wide_ret l
  have w3 := wide_ret r
  cases hb : wideB b with
  | true =>
    rw [hb] at w1
    refine Ret.of_pwp layOk mixed Go.Proofs.Tryz.func7 rfl (by decide) rfl rfl ?_
    repeat (refine stp rfl ?_ ?_;·repeat' constructor)
    apply qst;exact rfl;exact rfl;exact q_callP rfl (w1) rfl (by repeat' constructor) rfl rfl
    repeat (refine stp rfl ?_ ?_;·repeat' constructor)
    apply qst;exact rfl;exact rfl;exact q_callP rfl (hawake) rfl (by repeat' constructor) rfl rfl
    repeat (refine stp rfl ?_ ?_;·repeat' constructor)
    exact end1b rfl rfl rfl
  | false =>
  rw [hb] at w1
  cases hl : wideB l with
  | true =>
    rw [hl] at w2
    refine Ret.of_pwp layOk mixed Go.Proofs.Tryz.func7 rfl (by decide) rfl rfl ?_
    repeat (refine stp rfl ?_ ?_;·repeat' constructor)
    apply qst;exact rfl;exact rfl;exact q_callP rfl (w1) rfl (by repeat' constructor) rfl rfl
    repeat (refine stp rfl ?_ ?_;·repeat' constructor)
    apply qst;exact rfl;exact rfl;exact q_callP rfl (w2) rfl (by repeat' constructor) rfl rfl
    repeat (refine stp rfl ?_ ?_;·repeat' constructor)
    apply qst;exact rfl;exact rfl;exact q_callP rfl (hawake) rfl (by repeat' constructor) rfl rfl
    repeat (refine stp rfl ?_ ?_;·repeat' constructor)
    exact end1b rfl rfl rfl
  | false =>
  rw [hl] at w2
  cases hr : wideB r with
  | true =>
    rw [hr] at w3
    refine Ret.of_pwp layOk mixed Go.Proofs.Tryz.func7 rfl (by decide) rfl rfl ?_
    repeat (refine stp rfl ?_ ?_;·repeat' constructor)
    apply qst;exact rfl;exact rfl;exact q_callP rfl (w1) rfl (by repeat' constructor) rfl rfl
    repeat (refine stp rfl ?_ ?_;·repeat' constructor)
    apply qst;exact rfl;exact rfl;exact q_callP rfl (w2) rfl (by repeat' constructor) rfl rfl
    repeat (refine stp rfl ?_ ?_;·repeat' constructor)
    apply qst;exact rfl;exact rfl;exact q_callP rfl (w3) rfl (by repeat' constructor) rfl rfl
    repeat (refine stp rfl ?_ ?_;·repeat' constructor)
    apply qst;exact rfl;exact rfl;exact q_callP rfl (hawake) rfl (by repeat' constructor) rfl rfl
    repeat (refine stp rfl ?_ ?_;·repeat' constructor)
    exact end1b rfl rfl rfl
  | false =>
  rw [hr] at w3
  obtain ⟨b1, b2⟩ := wideB_sane hb
  obtain ⟨l1, l2⟩ := wideB_sane hl
  obtain ⟨r1, r2⟩ := wideB_sane hr
  have c1 := checkSets_ref b b1.1 b1.2
  have c2 := checkSets_ref l l1.1 l1.2
  have c3 := checkSets_ref r r1.1 r1.2
  have done : ∀ e1 e2 e3 : Int, setsE b = e1 → setsE l = e2 → setsE r = e3 → (e1 ≠ 0 ∨ e2 ≠ 0 ∨ e3 ≠ 0) → Ret Tryz.prog .shared 7 [.sl (b.map eSet), .sl (l.map eSet), .sl (r.map eSet)] (.bool true) := by
    intro e1 e2 e3 h1 h2 h3 hne
    rw [h1] at c1
    rw [h2] at c2
    rw [h3] at c3
    refine Ret.of_pwp layOk mixed Go.Proofs.Tryz.func7 rfl (by decide) rfl rfl ?_
    repeat (refine stp rfl ?_ ?_;·repeat' constructor)
    apply qst;exact rfl;exact rfl;exact q_callP rfl (w1) rfl (by repeat' constructor) rfl rfl
    repeat (refine stp rfl ?_ ?_;·repeat' constructor)
    apply qst;exact rfl;exact rfl;exact q_callP rfl (w2) rfl (by repeat' constructor) rfl rfl
    repeat (refine stp rfl ?_ ?_;·repeat' constructor)
    apply qst;exact rfl;exact rfl;exact q_callP rfl (w3) rfl (by repeat' constructor) rfl rfl
    repeat (refine stp rfl ?_ ?_;·repeat' constructor)
    apply qst;exact rfl;exact rfl;exact q_callP rfl (c1) rfl (by repeat' constructor) rfl rfl
    repeat (refine stp rfl ?_ ?_;·repeat' constructor)
    (first | refine ps_split rfl rfl (fun h => ?_) (fun h => ?_) | refine pq_split rfl rfl (fun h => ?_) (fun h => ?_) | refine p3_split rfl rfl (fun h => ?_) (fun h => ?_))
    · clear h
      repeat (refine stp rfl ?_ ?_;·repeat' constructor)
      apply qst;exact rfl;exact rfl;exact q_callP rfl (hawake) rfl (by repeat' constructor) rfl rfl
      repeat (refine stp rfl ?_ ?_;·repeat' constructor)
      exact end1b rfl rfl rfl
    · have q1 : e1 = 0 := by simpa using h
      clear h
      repeat (refine stp rfl ?_ ?_;·repeat' constructor)
      apply qst;exact rfl;exact rfl;exact q_callP rfl (c2) rfl (by repeat' constructor) rfl rfl
      repeat (refine stp rfl ?_ ?_;·repeat' constructor)
      (first | refine ps_split rfl rfl (fun h => ?_) (fun h => ?_) | refine pq_split rfl rfl (fun h => ?_) (fun h => ?_) | refine p3_split rfl rfl (fun h => ?_) (fun h => ?_))
      · clear h
        repeat (refine stp rfl ?_ ?_;·repeat' constructor)
        apply qst;exact rfl;exact rfl;exact q_callP rfl (hawake) rfl (by repeat' constructor) rfl rfl
        repeat (refine stp rfl ?_ ?_;·repeat' constructor)
        exact end1b rfl rfl rfl
      · have q2 : e2 = 0 := by simpa using h
        clear h
        repeat (refine stp rfl ?_ ?_;·repeat' constructor)
        apply qst;exact rfl;exact rfl;exact q_callP rfl (c3) rfl (by repeat' constructor) rfl rfl
        repeat (refine stp rfl ?_ ?_;·repeat' constructor)
        refine pw_cond rfl (fun h => ?_) (fun h => ?_)
        · clear h
          repeat (refine stp rfl ?_ ?_;·repeat' constructor)
          apply qst;exact rfl;exact rfl;exact q_callP rfl (hawake) rfl (by repeat' constructor) rfl rfl
          repeat (refine stp rfl ?_ ?_;·repeat' constructor)
          exact end1b rfl rfl rfl
        · have q3 : e3 = 0 := by simpa using h
          exact absurd hne (by simp [q1, q2, q3])
  by_cases hz : setsE b ≠ 0 ∨ setsE l ≠ 0 ∨ setsE r ≠ 0
  · exact done _ _ _ rfl rfl rfl hz
  clear done
  have z1 : setsE b = 0 := Decidable.byContradiction fun h => hz (.inl h)
  have z2 : setsE l = 0 := Decidable.byContradiction fun h => hz (.inr (.inl h))
  have z3 : setsE r = 0 := Decidable.byContradiction fun h => hz (.inr (.inr h))
  rw [z1] at c1
  rw [z2] at c2
  rw [z3] at c3
  have hm1 := merge_ret b l r b1 l1 r1 (by omega) (by omega) (by omega)
  have hm2 := merge_ret b r l b1 r1 l1 (by omega) (by omega) (by omega)
  have hm3 := merge_ret b l b b1 l1 b1 (by omega) (by omega) (by omega)
  rw [merge_same] at hm1 hm2 hm3
  rw [mergeR_swap z1 z2 z3] at hm2
  rw [mergeR_one z1 z2] at hm3
  rw [mergeR_ok z1 z2 z3] at hm1 hm2
  have hk3 : (keysR [b, l, r]).length ≤ 3000 := keysR_len (ls := [b, l, r]) (fun x hx => by simp at hx; rcases hx with rfl | rfl | rfl <;> omega) 3
  have hcl : (refCo b l r (keysR [b, l, r])).length ≤ 3000 := Nat.le_trans (List.length_filter_le _ _) hk3
  have hsl := settings_same l (by omega)
  have hko := fun k h => keyOk_ref (b := b) (l := l) (r := r) (k := k) h
  by_cases h60 : 60 < (refO b l r (keysR [b, l, r])).length
  · rw [if_pos h60] at hm1 hm2
    have hss := settings_same [] (by simp)
    have hts := texts_same [] (by simp)
    have hks := keys_refF [b, l, r, []] (by simp) (fun x hx => by simp at hx; rcases hx with rfl | rfl | rfl | rfl <;> first | omega | simp)
    rw [mrgR] at hm1 hm2 hm3
    refine Ret.of_pwp layOk mixed Go.Proofs.Tryz.func7 rfl (by decide) rfl rfl ?_
    repeat (refine stp rfl ?_ ?_;·repeat' constructor)
    apply qst;exact rfl;exact rfl;exact q_callP rfl (w1) rfl (by repeat' constructor) rfl rfl
    repeat (refine stp rfl ?_ ?_;·repeat' constructor)
    apply qst;exact rfl;exact rfl;exact q_callP rfl (w2) rfl (by repeat' constructor) rfl rfl
    repeat (refine stp rfl ?_ ?_;·repeat' constructor)
    apply qst;exact rfl;exact rfl;exact q_callP rfl (w3) rfl (by repeat' constructor) rfl rfl
    repeat (refine stp rfl ?_ ?_;·repeat' constructor)
    apply qst;exact rfl;exact rfl;exact q_callP rfl (c1) rfl (by repeat' constructor) rfl rfl
    repeat (refine stp rfl ?_ ?_;·repeat' constructor)
    apply qst;exact rfl;exact rfl;exact q_callP rfl (c2) rfl (by repeat' constructor) rfl rfl
    repeat (refine stp rfl ?_ ?_;·repeat' constructor)
    apply qst;exact rfl;exact rfl;exact q_callP rfl (c3) rfl (by repeat' constructor) rfl rfl
    repeat (refine stp rfl ?_ ?_;·repeat' constructor)
    apply qst;exact rfl;exact rfl;exact q_call rfl (hm1) rfl (by repeat' constructor) rfl
    repeat (refine stp rfl ?_ ?_;·repeat' constructor)
    apply qst;exact rfl;exact rfl;exact q_call rfl (hm2) rfl (by repeat' constructor) rfl
    repeat (refine stp rfl ?_ ?_;·repeat' constructor)
    apply qst;exact rfl;exact rfl;exact q_callP rfl (hss) rfl (by repeat' constructor) rfl rfl
    repeat (refine stp rfl ?_ ?_;·repeat' constructor)
    apply qst;exact rfl;exact rfl;exact q_callP rfl (hts) rfl (by repeat' constructor) rfl rfl
    repeat (refine stp rfl ?_ ?_;·repeat' constructor)
    apply qst;exact rfl;exact rfl;exact q_call rfl (hm3) rfl (by repeat' constructor) rfl
    repeat (refine stp rfl ?_ ?_;·repeat' constructor)
    apply qst;exact rfl;exact rfl;exact q_callP rfl (hsl) rfl (by repeat' constructor) rfl rfl
    repeat (refine stp rfl ?_ ?_;·repeat' constructor)
    refine ps_run (o_slit 1 rfl rfl rfl rfl rfl rfl rfl rfl rfl rfl rfl (by repeat' constructor) rfl ?_)
    repeat (refine stp rfl ?_ ?_;·repeat' constructor)
    apply qst;exact rfl;exact rfl;exact q_callF rfl (hks) rfl (by repeat' constructor) rfl
    repeat (refine stp rfl ?_ ?_;·repeat' constructor)
    refine pw_loop (fun _ : Unit => True) (fun _ => [(0, .sl (b.map eSet)), (1, .sl (l.map eSet)), (2, .sl (r.map eSet)), (9, I 8), (16, .fsl ((keysR [b, l, r, []]).map eS)), (17, I 0)]) (fun _ => []) (fun _ => 0) () trivial ⟨rfl, rfl, rfl, rfl, rfl, rfl, trivial⟩ ?_
    intro _ s _
    repeat (refine stp rfl ?_ ?_;·repeat' constructor)
    (first | refine ps_split rfl rfl (fun h => ?_) (fun h => ?_) | refine pq_split rfl rfl (fun h => ?_) (fun h => ?_) | refine p3_split rfl rfl (fun h => ?_) (fun h => ?_))
    · clear h
      repeat (refine stp rfl ?_ ?_;·repeat' constructor)
      apply qst;exact rfl;exact rfl;exact q_callP rfl (hawake) rfl (by repeat' constructor) rfl rfl
      repeat (refine stp rfl ?_ ?_;·repeat' constructor)
      exact end1b rfl rfl rfl
    · clear h
      repeat (refine stp rfl ?_ ?_;·repeat' constructor)
      apply qst;exact rfl;exact rfl;exact q_callP rfl (hawake) rfl (by repeat' constructor) rfl rfl
      repeat (refine stp rfl ?_ ?_;·repeat' constructor)
      exact end1b rfl rfl rfl
  rw [if_neg h60] at hm1 hm2
  have hol : (refO b l r (keysR [b, l, r])).length ≤ 60 := by omega
  have hss := settings_same (refO b l r (keysR [b, l, r])) (by omega)
  have hts := texts_same (refCo b l r (keysR [b, l, r])) (by omega)
  have hks := keys_refF [b, l, r, refO b l r (keysR [b, l, r])] (by simp) (fun x hx => by simp at hx; rcases hx with rfl | rfl | rfl | rfl <;> omega)
  have hk4 : (keysR [b, l, r, refO b l r (keysR [b, l, r])]).length ≤ 4000 := keysR_len (ls := [b, l, r, refO b l r (keysR [b, l, r])]) (fun x hx => by simp at hx; rcases hx with rfl | rfl | rfl | rfl <;> omega) 4
  rw [mrgR] at hm1 hm2 hm3
  clear hz z1 z2 z3 hk3 h60
  generalize refO b l r (keysR [b, l, r]) = O at *
  generalize refCo b l r (keysR [b, l, r]) = Cc at *
  generalize keysR [b, l, r, O] = ks at *
  have hksl : ((ks.map eS).length : Int) = ks.length := by simp
  have hccl : ((Cc.map eS).length : Int) = Cc.length := by simp
  refine Ret.of_pwp layOk mixed Go.Proofs.Tryz.func7 rfl (by decide) rfl rfl ?_
  repeat (refine stp rfl ?_ ?_;·repeat' constructor)
  apply qst;exact rfl;exact rfl;exact q_callP rfl (w1) rfl (by repeat' constructor) rfl rfl
  repeat (refine stp rfl ?_ ?_;·repeat' constructor)
  apply qst;exact rfl;exact rfl;exact q_callP rfl (w2) rfl (by repeat' constructor) rfl rfl
  repeat (refine stp rfl ?_ ?_;·repeat' constructor)
  apply qst;exact rfl;exact rfl;exact q_callP rfl (w3) rfl (by repeat' constructor) rfl rfl
  repeat (refine stp rfl ?_ ?_;·repeat' constructor)
  apply qst;exact rfl;exact rfl;exact q_callP rfl (c1) rfl (by repeat' constructor) rfl rfl
  repeat (refine stp rfl ?_ ?_;·repeat' constructor)
  apply qst;exact rfl;exact rfl;exact q_callP rfl (c2) rfl (by repeat' constructor) rfl rfl
  repeat (refine stp rfl ?_ ?_;·repeat' constructor)
  apply qst;exact rfl;exact rfl;exact q_callP rfl (c3) rfl (by repeat' constructor) rfl rfl
  repeat (refine stp rfl ?_ ?_;·repeat' constructor)
  apply qst;exact rfl;exact rfl;exact q_call rfl (hm1) rfl (by repeat' constructor) rfl
  repeat (refine stp rfl ?_ ?_;·repeat' constructor)
  apply qst;exact rfl;exact rfl;exact q_call rfl (hm2) rfl (by repeat' constructor) rfl
  repeat (refine stp rfl ?_ ?_;·repeat' constructor)
  apply qst;exact rfl;exact rfl;exact q_callP rfl (hss) rfl (by repeat' constructor) rfl rfl
  repeat (refine stp rfl ?_ ?_;·repeat' constructor)
  apply qst;exact rfl;exact rfl;exact q_callP rfl (hts) rfl (by repeat' constructor) rfl rfl
  repeat (refine stp rfl ?_ ?_;·repeat' constructor)
  apply qst;exact rfl;exact rfl;exact q_call rfl (hm3) rfl (by repeat' constructor) rfl
  repeat (refine stp rfl ?_ ?_;·repeat' constructor)
  apply qst;exact rfl;exact rfl;exact q_callP rfl (hsl) rfl (by repeat' constructor) rfl rfl
  repeat (refine stp rfl ?_ ?_;·repeat' constructor)
  refine ps_run (o_slit 1 rfl rfl rfl rfl rfl rfl rfl rfl rfl rfl rfl (by repeat' constructor) rfl ?_)
  repeat (refine stp rfl ?_ ?_;·repeat' constructor)
  apply qst;exact rfl;exact rfl;exact q_callF rfl (hks) rfl (by repeat' constructor) rfl
  repeat (refine stp rfl ?_ ?_;·repeat' constructor)
  refine pw_loop (fun k => k ≤ ks.length) (fun k => [(0, .sl (b.map eSet)), (1, .sl (l.map eSet)), (2, .sl (r.map eSet)), (7, .sl (O.map eSet)), (8, .sl (Cc.map eS)), (9, I 0), (16, .fsl (ks.map eS)), (17, I k)]) (fun _ => []) (fun k => ks.length - k) 0 (Nat.zero_le _) ⟨rfl, rfl, rfl, rfl, rfl, rfl, rfl, rfl, trivial⟩ ?_
  intro k s hk
  have hk : k ≤ ks.length := hk
  repeat (refine stp rfl ?_ ?_;·repeat' constructor)
  rw [hksl]
  (first | refine ps_split rfl rfl (fun h => ?_) (fun h => ?_) | refine pq_split rfl rfl (fun h => ?_) (fun h => ?_) | refine p3_split rfl rfl (fun h => ?_) (fun h => ?_))
  · have hlt : k < ks.length := by have := of_decide_eq_true h; omega
    clear h
    obtain ⟨key, hx⟩ := get_lt hlt
    have hok := hko key (List.mem_of_getElem? hx)
    have f1 := find_ref O key (by omega)
    have f2 := find_ref l key l1.1
    have f3 := find_ref r key r1.1
    have f4 := find_ref b key b1.1
    generalize findS O key = V at *
    generalize findS b key = Z at *
    generalize findS l key = X at *
    generalize findS r key = Y at *
    repeat (refine stp rfl ?_ ?_;·repeat' constructor)
    refine pw_loop (fun j => j ≤ Cc.length) (fun j => [(0, .sl (b.map eSet)), (1, .sl (l.map eSet)), (2, .sl (r.map eSet)), (7, .sl (O.map eSet)), (8, .sl (Cc.map eS)), (9, I 0), (16, .fsl (ks.map eS)), (17, I k), (18, .bool (decide (key ∈ Cc.take j))), (19, I j)]) (fun _ => []) (fun j => Cc.length - j) 0 (Nat.zero_le _) ⟨rfl, rfl, rfl, rfl, rfl, rfl, rfl, rfl, by simp; rfl, rfl, trivial⟩ ?_
    intro j s2 hj
    have hj : j ≤ Cc.length := hj
    repeat (refine stp rfl ?_ ?_;·repeat' constructor)
    rw [hccl]
    refine pw_cond rfl (fun h => ?_) (fun h => ?_)
    · have hjlt : j < Cc.length := by have := of_decide_eq_true h; omega
      clear h
      obtain ⟨cj, hcx⟩ := get_lt hjlt
      have hmem : decide (key ∈ Cc.take (j + 1)) = (decide (key ∈ Cc.take j) || decide (cj = key)) := by
        rw [take_snoc hcx, ← Bool.decide_or, decide_eq_decide, List.mem_append, List.mem_singleton]
        exact ⟨fun h => h.imp id Eq.symm, fun h => h.imp id Eq.symm⟩
      generalize decide (key ∈ Cc.take j) = bo at *
      repeat (refine stp rfl ?_ ?_;·repeat' constructor)
      refine pw_draw 12 [136, 137, 138, 139, 140, 141, 142, 143, 144, 145, 146, 147] (by decide +kernel) ?_
      repeat (refine stp rfl ?_ ?_;·repeat' constructor)
      cases bo with
      | true =>
        repeat (refine stp rfl ?_ ?_;·repeat' constructor)
        exact ⟨j + 1, hjlt, by omega, rfl, rfl, rfl, rfl, rfl, rfl, rfl, rfl, congrArg PV.bool (by rw [hmem]; rfl), i64_next (by omega) (by omega), trivial⟩
      | false =>
        repeat (refine stp rfl ?_ ?_;·repeat' constructor)
        apply qst;exact rfl;exact rfl;exact q_idxm rfl rfl rfl rfl rfl (by omega) hcx rfl
        repeat (refine stp rfl ?_ ?_;·repeat' constructor)
        apply qst;exact rfl;exact rfl;exact q_idxmF rfl rfl rfl rfl rfl (by omega) hx rfl
        repeat (refine stp rfl ?_ ?_;·repeat' constructor)
        exact ⟨j + 1, hjlt, by omega, rfl, rfl, rfl, rfl, rfl, rfl, rfl, rfl, congrArg PV.bool (by rw [hmem]; rfl), i64_next (by omega) (by omega), trivial⟩
    · have hge : j = Cc.length := by have := of_decide_eq_false h; omega
      subst hge
      clear h
      rw [List.take_length]
      generalize decide (key ∈ Cc) = con at *
      repeat (refine stp rfl ?_ ?_;·repeat' constructor)
      apply qst;exact rfl;exact rfl;exact q_idxmF rfl rfl rfl rfl rfl (by omega) hx rfl
      repeat (refine stp rfl ?_ ?_;·repeat' constructor)
      apply qst;exact rfl;exact rfl;exact q_call rfl (f1) rfl (by repeat' constructor) rfl
      repeat (refine stp rfl ?_ ?_;·repeat' constructor)
      apply qst;exact rfl;exact rfl;exact q_idxmF rfl rfl rfl rfl rfl (by omega) hx rfl
      repeat (refine stp rfl ?_ ?_;·repeat' constructor)
      apply qst;exact rfl;exact rfl;exact q_call rfl (f2) rfl (by repeat' constructor) rfl
      repeat (refine stp rfl ?_ ?_;·repeat' constructor)
      apply qst;exact rfl;exact rfl;exact q_idxmF rfl rfl rfl rfl rfl (by omega) hx rfl
      repeat (refine stp rfl ?_ ?_;·repeat' constructor)
      apply qst;exact rfl;exact rfl;exact q_call rfl (f3) rfl (by repeat' constructor) rfl
      repeat (refine stp rfl ?_ ?_;·repeat' constructor)
      apply qst;exact rfl;exact rfl;exact q_idxmF rfl rfl rfl rfl rfl (by omega) hx rfl
      repeat (refine stp rfl ?_ ?_;·repeat' constructor)
      apply qst;exact rfl;exact rfl;exact q_call rfl (f4) rfl (by repeat' constructor) rfl
      repeat (refine stp rfl ?_ ?_;·repeat' constructor)
      obtain ⟨v1, v2⟩ := V
      obtain ⟨z1, z2⟩ := Z
      obtain ⟨x1, x2⟩ := X
      obtain ⟨y1, y2⟩ := Y
      rw [keyOk] at hok
      cases con with
      | true =>
        rw [if_pos rfl, dec_tv, dec_tv] at hok
        simp only [Bool.and_eq_true, decide_eq_true_eq, Bool.not_eq_true', Bool.and_eq_false_iff, decide_eq_false_iff_not] at hok
        obtain ⟨⟨rfl, rfl⟩, hxy⟩ := hok
        repeat (refine stp rfl ?_ ?_;·repeat' constructor)
        (first | refine ps_split rfl rfl (fun h => ?_) (fun h => ?_) | refine pq_split rfl rfl (fun h => ?_) (fun h => ?_) | refine p3_split rfl rfl (fun h => ?_) (fun h => ?_))
        · exact absurd h (by simp)
        clear h
        repeat (refine stp rfl ?_ ?_;·repeat' constructor)
        (first | refine ps_split rfl rfl (fun h => ?_) (fun h => ?_) | refine pq_split rfl rfl (fun h => ?_) (fun h => ?_) | refine p3_split rfl rfl (fun h => ?_) (fun h => ?_))
        · exact absurd h (by simp)
        clear h
        repeat (refine stp rfl ?_ ?_;·repeat' constructor)
        (first | refine ps_split rfl rfl (fun h => ?_) (fun h => ?_) | refine pq_split rfl rfl (fun h => ?_) (fun h => ?_) | refine p3_split rfl rfl (fun h => ?_) (fun h => ?_))
        · have q1 : x2 = y2 := by simpa using h
          clear h
          repeat (refine stp rfl ?_ ?_;·repeat' constructor)
          refine pw_cond rfl (fun h => ?_) (fun h => ?_)
          · have q2 : x1 = y1 := by simpa using h
            exact absurd hxy (by simp [q1, q2])
          · clear h
            repeat (refine stp rfl ?_ ?_;·repeat' constructor)
            exact ⟨k + 1, hlt, by omega, rfl, rfl, rfl, rfl, rfl, rfl, rfl, i64_next (by omega) (by omega), trivial⟩
        · clear h
          repeat (refine stp rfl ?_ ?_;·repeat' constructor)
          exact ⟨k + 1, hlt, by omega, rfl, rfl, rfl, rfl, rfl, rfl, rfl, i64_next (by omega) (by omega), trivial⟩
      | false =>
        rw [if_neg (by simp), dec_tv, dec_tv] at hok
        simp only [Bool.or_eq_true, Bool.and_eq_true, decide_eq_true_eq] at hok
        have isY : (¬ v1 = x1 ∨ ¬ v2 = x2) → v1 = y1 ∧ v2 = y2 := fun hn => hok.resolve_left fun e => hn.elim (fun q => q e.1) (fun q => q e.2)
        repeat (refine stp rfl ?_ ?_;·repeat' constructor)
        (first | refine ps_split rfl rfl (fun h => ?_) (fun h => ?_) | refine pq_split rfl rfl (fun h => ?_) (fun h => ?_) | refine p3_split rfl rfl (fun h => ?_) (fun h => ?_))
        · have q1 : ¬ v1 = x1 := by simpa using h
          clear h
          obtain ⟨rfl, rfl⟩ := isY (.inl q1)
          repeat (refine stp rfl ?_ ?_;·repeat' constructor)
          (first | refine ps_split rfl rfl (fun h => ?_) (fun h => ?_) | refine pq_split rfl rfl (fun h => ?_) (fun h => ?_) | refine p3_split rfl rfl (fun h => ?_) (fun h => ?_))
          · exact absurd h (by simp)
          clear h
          repeat (refine stp rfl ?_ ?_;·repeat' constructor)
          refine pw_cond rfl (fun h => ?_) (fun h => ?_)
          · exact absurd h (by simp)
          clear h
          repeat (refine stp rfl ?_ ?_;·repeat' constructor)
          exact ⟨k + 1, hlt, by omega, rfl, rfl, rfl, rfl, rfl, rfl, rfl, i64_next (by omega) (by omega), trivial⟩
        · have q1 : v1 = x1 := by simpa using h
          clear h
          repeat (refine stp rfl ?_ ?_;·repeat' constructor)
          (first | refine ps_split rfl rfl (fun h => ?_) (fun h => ?_) | refine pq_split rfl rfl (fun h => ?_) (fun h => ?_) | refine p3_split rfl rfl (fun h => ?_) (fun h => ?_))
          · have q2 : ¬ v2 = x2 := by simpa using h
            clear h
            obtain ⟨rfl, rfl⟩ := isY (.inr q2)
            repeat (refine stp rfl ?_ ?_;·repeat' constructor)
            (first | refine ps_split rfl rfl (fun h => ?_) (fun h => ?_) | refine pq_split rfl rfl (fun h => ?_) (fun h => ?_) | refine p3_split rfl rfl (fun h => ?_) (fun h => ?_))
            · exact absurd h (by simp)
            clear h
            repeat (refine stp rfl ?_ ?_;·repeat' constructor)
            refine pw_cond rfl (fun h => ?_) (fun h => ?_)
            · exact absurd h (by simp)
            clear h
            repeat (refine stp rfl ?_ ?_;·repeat' constructor)
            exact ⟨k + 1, hlt, by omega, rfl, rfl, rfl, rfl, rfl, rfl, rfl, i64_next (by omega) (by omega), trivial⟩
          · clear h
            repeat (refine stp rfl ?_ ?_;·repeat' constructor)
            exact ⟨k + 1, hlt, by omega, rfl, rfl, rfl, rfl, rfl, rfl, rfl, i64_next (by omega) (by omega), trivial⟩
  · have hge : k = ks.length := by have := of_decide_eq_false h; omega
    clear h
    repeat (refine stp rfl ?_ ?_;·repeat' constructor)
    apply qst;exact rfl;exact rfl;exact q_callP rfl (hawake) rfl (by repeat' constructor) rfl rfl
    repeat (refine stp rfl ?_ ?_;·repeat' constructor)
    exact end1b rfl rfl rfl
end Go.Pv

/- What the laws' arguments are. -/
set_option maxHeartbeats 2000000
namespace Go.Pv
attribute [local irreducible] PWP POps PQuiet PSem XThen XBlock RetPost InlPost
open Go.Proofs

section
variable {L : Lay} {n : Nat} {T : TypeId} {cs : List PV}
theorem tyP_sh {r : LRow} {sh : Sh} (hr : L T = some r) (hs : (L T).map (·.sh) = some sh) : r.sh = sh := by rw [hr] at hs; exact Option.some.inj hs
theorem tyP_int {k : IntKind} (h : tyP L (n + 1) T cs) (hs : (L T).map (·.sh) = some (.int k)) : ∃ m, cs = [.int k m] := by
  obtain ⟨r, hr, h⟩ := h
  rw [tyP_sh hr hs] at h; exact h
theorem tyP_str (h : tyP L (n + 1) T cs) (hs : (L T).map (·.sh) = some .str) : ∃ s, cs = [.str s] := by
  obtain ⟨r, hr, h⟩ := h
  rw [tyP_sh hr hs] at h; exact h
theorem tyP_sl {e : TypeId} (h : tyP L (n + 1) T cs) (hs : (L T).map (·.sh) = some (.sl e)) : ∃ rows, cs = [.sl rows] ∧ ∀ row ∈ rows, tyP L n e row := by
  obtain ⟨r, hr, h⟩ := h
  rw [tyP_sh hr hs] at h; exact h
theorem tyP_st {fs : List (Nat × TypeId)} (h : tyP L (n + 1) T cs) (hs : (L T).map (·.sh) = some (.st fs)) : ∃ parts : List (List PV), cs = parts.flatten ∧ parts.length = fs.length ∧ ∀ (i : Nat) f p, fs[i]? = some f → parts[i]? = some p → tyP L n f.2 p := by
  obtain ⟨r, hr, h⟩ := h
  rw [tyP_sh hr hs] at h; exact h
end
theorem rows_map {α : Type} {f : α → List PV} : ∀ {rows : List (List PV)}, (∀ row ∈ rows, ∃ x, row = f x) → ∃ l : List α, rows = l.map f
  | [], _ => ⟨[], rfl⟩
  | row :: rows, h => by
    obtain ⟨x, rfl⟩ := h row (by simp)
    obtain ⟨l, rfl⟩ := rows_map (rows := rows) fun r hr => h r (by simp [hr])
    exact ⟨x :: l, rfl⟩
theorem dec_post {n : Nat} {cs : List PV} (h : tyP lay.get (n + 2) 23 cs) : ∃ x, cs = ePost x := by
  obtain ⟨parts, rfl, hl, hp⟩ := tyP_st h rfl
  match parts, hl, hp with
  | [p0, p1, p2, p3, p4, p5, p6, p7, p8], _, hp =>
    obtain ⟨a0, rfl⟩ := tyP_int (hp 0 _ p0 rfl rfl) rfl
    obtain ⟨a1, rfl⟩ := tyP_int (hp 1 _ p1 rfl rfl) rfl
    obtain ⟨a2, rfl⟩ := tyP_str (hp 2 _ p2 rfl rfl) rfl
    obtain ⟨a3, rfl⟩ := tyP_str (hp 3 _ p3 rfl rfl) rfl
    obtain ⟨a4, rfl⟩ := tyP_str (hp 4 _ p4 rfl rfl) rfl
    obtain ⟨a5, rfl⟩ := tyP_str (hp 5 _ p5 rfl rfl) rfl
    obtain ⟨a6, rfl⟩ := tyP_int (hp 6 _ p6 rfl rfl) rfl
    obtain ⟨a7, rfl⟩ := tyP_int (hp 7 _ p7 rfl rfl) rfl
    obtain ⟨a8, rfl⟩ := tyP_int (hp 8 _ p8 rfl rfl) rfl
    exact ⟨⟨a0, a1, a2, a3, a4, a5, a6, a7, a8⟩, rfl⟩
theorem dec_posts {c : PV} (h : argP lay.get 39 c) : ∃ s : List SPost, c = .sl (s.map ePost) := by
  obtain ⟨rows, hr, h2⟩ := tyP_sl (show tyP lay.get 6 39 [c] from h) rfl
  cases hr
  obtain ⟨l, rfl⟩ := rows_map (f := ePost) fun row hrow => dec_post (h2 row hrow)
  exact ⟨l, rfl⟩
end Go.Pv

/- What the rows of this seat list that need no errors: three tables; a witness; what they give; settings and edits as arguments. -/
namespace Go.Proofs.YtakfiahnhjnndaaGreatDoor
open Go Go.ChangeShapes Go.WideShapes Go.ChangeAt Go.RowKit Go.Pv

theorem ownL : ownKnob Tryz.prog.godebug = none := by kernel_rfl
theorem laidB : laidOutB Tryz.prog = true := by kernel_rfl
def laidL : List (String × DataW Unit) := [("math/bits.deBruijn32tab", Rows.laid_math_bits_deBruijn32tab), ("math/bits.deBruijn64tab", Rows.laid_math_bits_deBruijn64tab), ("internal/strconv.uint64pow10", Rows.laid_internal_strconv_uint64pow10)]
theorem laidL_plain (w : World) : laidMetH Tryz.prog laidL w = laidMet Tryz.prog laidL w := MakeChecks.laidMetH_plain _ _ _ (by kernel_rfl)
theorem laidL_met (os : Os) (args : Array Value) : laidMetH Tryz.prog laidL ((World.laidAll Tryz.prog os laidL).forCall (fun _ _ => 0) ⟨#[], args, []⟩).memory := by
  rw [laidL_plain]
  exact laidMet_laidAll _ (by kernel_rfl) (by kernel_rfl)
theorem pow_g : ∃ g t e, Tryz.prog.globalNamed "internal/strconv.uint64pow10" = some g ∧ (Tryz.prog.globals[g]?).map (·.type) = some t ∧ Tryz.prog.underlying t = some (.array 20 e) ∧ Tryz.prog.underlying e = some (.int .u64) ∧ Tryz.prog.cellsOf e = 1 ∧ Tryz.prog.cellsOf t = 20 := by
  refine ⟨(Tryz.prog.globalNamed "internal/strconv.uint64pow10").getD 0, ((Tryz.prog.globals[(Tryz.prog.globalNamed "internal/strconv.uint64pow10").getD 0]?).map (·.type)).getD 0, 237, ?_, ?_, ?_, ?_, ?_, ?_⟩ <;> kernel_rfl
theorem laidL_glob {w : World} (h : laidMetH Tryz.prog laidL w) : Globs.glob w := by
  rw [laidL_plain] at h
  unfold laidL at h
  have h3 := laidMet.tail (laidMet.tail h)
  obtain ⟨g, t, e, h1, h2, h4, h5, h6, h7⟩ := pow_g
  exact Lib.tabIs_of_head (k := .u64) (zs := Lib.pow10Tab) h1 h2 h4 h5 h6 h7 h3
end Go.Proofs.YtakfiahnhjnndaaGreatDoor
set_option maxHeartbeats 2000000
namespace Go.Pv
attribute [local irreducible] PWP POps PQuiet PSem XThen XBlock RetPost InlPost
open Go.Proofs
theorem tyP_bool {L : Lay} {n : Nat} {T : TypeId} {cs : List PV} (h : tyP L (n + 1) T cs) (hs : (L T).map (·.sh) = some .bool) : ∃ b, cs = [.bool b] := by
  obtain ⟨r, hr, h⟩ := h
  rw [tyP_sh hr hs] at h; exact h
theorem dec_set {n : Nat} {cs : List PV} (h : tyP lay.get (n + 2) 149 cs) : ∃ x, cs = eSet x := by
  obtain ⟨parts, rfl, hl, hp⟩ := tyP_st h rfl
  match parts, hl, hp with
  | [p0, p1], _, hp =>
    obtain ⟨a0, rfl⟩ := tyP_str (hp 0 _ p0 rfl rfl) rfl
    obtain ⟨a1, rfl⟩ := tyP_str (hp 1 _ p1 rfl rfl) rfl
    exact ⟨⟨a0, a1⟩, rfl⟩
theorem dec_sets {c : PV} (h : argP lay.get 56 c) : ∃ s : List SSet, c = .sl (s.map eSet) := by
  obtain ⟨rows, hr, h2⟩ := tyP_sl (show tyP lay.get 6 56 [c] from h) rfl
  cases hr
  obtain ⟨l, rfl⟩ := rows_map (f := eSet) fun row hrow => dec_set (h2 row hrow)
  exact ⟨l, rfl⟩
theorem dec_ed {n : Nat} {cs : List PV} (h : tyP lay.get (n + 2) 159 cs) : ∃ x, cs = eEd x := by
  obtain ⟨parts, rfl, hl, hp⟩ := tyP_st h rfl
  match parts, hl, hp with
  | [p0, p1, p2, p3, p4], _, hp =>
    obtain ⟨a0, rfl⟩ := tyP_str (hp 0 _ p0 rfl rfl) rfl
    obtain ⟨a1, rfl⟩ := tyP_str (hp 1 _ p1 rfl rfl) rfl
    obtain ⟨a2, rfl⟩ := tyP_str (hp 2 _ p2 rfl rfl) rfl
    obtain ⟨a3, rfl⟩ := tyP_bool (hp 3 _ p3 rfl rfl) rfl
    obtain ⟨a4, rfl⟩ := tyP_bool (hp 4 _ p4 rfl rfl) rfl
    exact ⟨⟨a0, a1, a2, a3, a4⟩, rfl⟩
theorem dec_eds {c : PV} (h : argP lay.get 71 c) : ∃ s : List SEdit, c = .sl (s.map eEd) := by
  obtain ⟨rows, hr, h2⟩ := tyP_sl (show tyP lay.get 6 71 [c] from h) rfl
  cases hr
  obtain ⟨l, rfl⟩ := rows_map (f := eEd) fun row hrow => dec_ed (h2 row hrow)
  exact ⟨l, rfl⟩
end Go.Pv
