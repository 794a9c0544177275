/-
  The grants' functions in plain Lean: the order of processes, what is put, what is got.
-/
import Derived.Test.YtdflfohpemfeiaaGreatDoorFn
import Derived.Test.YtdflfohpemfeiaaGreatDoorWalk
namespace Go.Proofs.YtdflfohpemfeiaaGreatDoor
namespace Ab
set_option linter.unusedVariables false
set_option linter.unusedSimpArgs false
abbrev cmpP (p q : Proc) : Int := f_ref02_CompareProc p q
def ltP (p q : Proc) : Prop := p.site < q.site ∨ p.site = q.site ∧ (p.inc < q.inc ∨ p.inc = q.inc ∧ p.num < q.num)
instance (p q : Proc) : Decidable (ltP p q) := by unfold ltP; infer_instance
theorem order_cases (a b : Int) : f_ref02_Order a b = if a < b then -1 else if b < a then 1 else 0 := by
 unfold f_ref02_Order; simp only [decide_eq_true_eq]
theorem cmpP_eq (p q : Proc) : cmpP p q = if ltP p q then -1 else if ltP q p then 1 else 0 := by
 obtain ⟨a, b, c⟩ := p
 obtain ⟨d, e, f⟩ := q
 unfold cmpP f_ref02_CompareProc ltP
 simp only [order_cases, Bool.not_eq_true', decide_eq_false_iff_not]
 grind
theorem ltP_irrefl (p : Proc) : ¬ ltP p p := by unfold ltP; omega
theorem ltP_trans {p q r : Proc} (h : ltP p q) (k : ltP q r) : ltP p r := by unfold ltP at *; omega
theorem ltP_asymm {p q : Proc} (h : ltP p q) : ¬ ltP q p := by unfold ltP at *; omega
theorem ltP_total {p q : Proc} (h : p ≠ q) : ltP p q ∨ ltP q p := by
 obtain ⟨a, b, c⟩ := p
 obtain ⟨d, e, f⟩ := q
 simp only [ne_eq, Proc.mk.injEq] at h
 unfold ltP
 simp only
 omega
theorem cmpP_pos (p q : Proc) : 0 < cmpP p q ↔ ltP q p := by
 rw [cmpP_eq]
 by_cases h : ltP p q
 ·simp [h, ltP_asymm h]
 ·by_cases h2 : ltP q p <;> simp [h, h2]
theorem cmpP_nonneg (p q : Proc) : 0 ≤ cmpP p q ↔ ¬ ltP p q := by
 rw [cmpP_eq]
 by_cases h : ltP p q
 ·simp [h]
 ·by_cases h2 : ltP q p <;> simp [h, h2]
theorem ident_Compare_eq (p q : Proc) : f_ident_CompareProc p q = some (cmpP p q) := by
 unfold f_ident_CompareProc f_ident_compare
 have e : ∀ (x y z : Int) (i : Nat) (h : [x, y, z].length = 3), Arr.get (⟨[x, y, z], h⟩ : Arr Int 3) i 0 = match i with | 0 => x | 1 => y | _ => z := by
  intro x y z i h
  match i with
  | 0 => rfl
  | 1 => rfl
  | 2 => rfl
  | n + 3 =>
   have : ¬ (n + 3 < 3) := by omega
   simp [Arr.get, clampN, this]
 have w1 : IntKind.i64.wrap (0 + 1) = 1 := by decide
 have w2 : IntKind.i64.wrap (1 + 1) = 2 := by decide
 have w3 : IntKind.i64.wrap (2 + 1) = 3 := by decide
 have s3 : f_ident_compare_l1 ⟨[p.site, p.inc, p.num], rfl⟩ ⟨[q.site, q.inc, q.num], rfl⟩ 3 = some (.inr (.inl ())) := by unfold f_ident_compare_l1; simp
 have s2 : f_ident_compare_l1 ⟨[p.site, p.inc, p.num], rfl⟩ ⟨[q.site, q.inc, q.num], rfl⟩ 2 = some (if p.num < q.num then .inr (.inr (-1)) else if q.num < p.num then .inr (.inr 1) else .inl 3) := by
  unfold f_ident_compare_l1
  rw [if_pos (by decide), gdp (by decide), gdp (by decide), gdp (by decide)]
  simp only [e, show (2 : Int).toNat = 2 from rfl, decide_eq_true_eq, w3]
  by_cases h : p.num < q.num
  ·simp [h]
  ·by_cases h2 : q.num < p.num <;> simp [h, h2]
 have s1 : f_ident_compare_l1 ⟨[p.site, p.inc, p.num], rfl⟩ ⟨[q.site, q.inc, q.num], rfl⟩ 1 = some (if p.inc < q.inc then .inr (.inr (-1)) else if q.inc < p.inc then .inr (.inr 1) else .inl 2) := by
  unfold f_ident_compare_l1
  rw [if_pos (by decide), gdp (by decide), gdp (by decide), gdp (by decide)]
  simp only [e, Int.toNat_one, decide_eq_true_eq, w2]
  by_cases h : p.inc < q.inc
  ·simp [h]
  ·by_cases h2 : q.inc < p.inc <;> simp [h, h2]
 have s0 : f_ident_compare_l1 ⟨[p.site, p.inc, p.num], rfl⟩ ⟨[q.site, q.inc, q.num], rfl⟩ 0 = some (if p.site < q.site then .inr (.inr (-1)) else if q.site < p.site then .inr (.inr 1) else .inl 1) := by
  unfold f_ident_compare_l1
  rw [if_pos (by decide), gdp (by decide), gdp (by decide), gdp (by decide)]
  simp only [e, Int.toNat_zero, decide_eq_true_eq, w1]
  by_cases h : p.site < q.site
  ·simp [h]
  ·by_cases h2 : q.site < p.site <;> simp [h, h2]
 rw [cmpP_eq]
 unfold ltP
 by_cases a1 : p.site < q.site
 ·rw [loopO_eq, s0]; simp [a1]
 ·by_cases a2 : q.site < p.site
  ·rw [loopO_eq, s0]
   have : ¬ p.site = q.site := by omega
   simp [a1, a2, this]
  ·have h1 : p.site = q.site := by omega
   by_cases b1 : p.inc < q.inc
   ·rw [loopO_eq, s0]; simp only [a1, a2, if_false]; rw [loopO_eq, s1]; simp [b1, h1]
   ·by_cases b2 : q.inc < p.inc
    ·have : ¬ p.inc = q.inc := by omega
     rw [loopO_eq, s0]; simp only [a1, a2, if_false]; rw [loopO_eq, s1]; simp [b1, b2, h1, this]
    ·have h2 : p.inc = q.inc := by omega
     rw [loopO_eq, s0]; simp only [a1, a2, if_false]; rw [loopO_eq, s1]; simp only [b1, b2, if_false]; rw [loopO_eq, s2]
     by_cases c1 : p.num < q.num
     ·simp [c1, h1, h2]
     ·by_cases c2 : q.num < p.num
      ·simp [c1, c2, h1, h2]
      ·simp only [c1, c2, if_false]; rw [loopO_eq, s3]; simp [h1, h2, f_ident_compare_k1]
def insP (p : Proc) (a : Amount) : List Hold → List Hold
 | [] => [⟨p, a⟩]
 | h :: t => if ltP p h.proc then ⟨p, a⟩ :: h :: t else h :: insP p a t
def others (p : Proc) (l : List Hold) : List Hold := l.filter fun h => !decide (h.proc = p)
def setL (l : List Hold) (p : Proc) (a : Amount) : List Hold := if a = Amount.zero then others p l else insP p a (others p l)
theorem others_nil (p : Proc) : others p [] = [] := rfl
theorem others_cons (p : Proc) (h : Hold) (t : List Hold) : others p (h :: t) = if h.proc = p then others p t else h :: others p t := by
 unfold others; rw [List.filter_cons]; by_cases e : h.proc = p <;> simp [e]
theorem others_len (p : Proc) (l : List Hold) : (others p l).length ≤ l.length := List.length_filter_le _ _
theorem ref10_Set_eq (l : List Hold) (p : Proc) (a : Amount) (hl : l.length ≤ 1000000) : f_ref10_Set l p a = some (setL l p a) := by
 unfold f_ref10_Set
 have key := loop_list (body := f_ref10_Set_l1 l p a) l Hold.zero (fun i (s : Bool × List Hold) => (s.1, (i : Int), s.2))
  (fun i h s => some (.inl (if h.proc = p then s else if s.1 = false ∧ ltP p h.proc then (true, s.2 ++ [⟨p, a⟩] ++ [h]) else (s.1, s.2 ++ [h])))) (fun s => s) (fun i s => s.2.length ≤ 2 * i)
  (fun i s hi hs => by
   refine ⟨?_, fun s' h => ?_⟩
   ·unfold f_ref10_Set_l1
    have h1 : s.2.length + 1 ≤ 4294967296 := by omega
    have h2 : s.2.length + 1 + 1 ≤ 4294967296 := by omega
    have h3 : 0 ≤ (i : Int) ∧ (i : Int) < (l.length : Int) := by omega
    simp only [h1, h2, h3.1, h3.2, and_self, implies_true, gd_true, decide_true, if_true, Int.toNat_natCast, decide_eq_true_eq, Bool.and_eq_true, Bool.not_eq_true', cmpP_pos, wrap_succ i (by omega), Option.map_some, wmap]
    by_cases e : (l.getD i Hold.zero).proc = p
    ·simp only [e, if_true]
    ·simp only [e, if_false]
     split <;> rfl
   ·simp only [Option.some.injEq, Sum.inl.injEq] at h
    subst h
    split
    ·omega
    ·split <;> simp <;> omega)
  (fun s hs => by unfold f_ref10_Set_l1; simp) (f_ref04_Zero a, []) (by simp)
 have hz : f_ref04_Zero a = decide (a = Amount.zero) := rfl
 have fold : ∀ (l : List Hold) (i : Nat) (d : Bool) (o : List Hold), walk (fun i h (s : Bool × List Hold) => some (.inl (if h.proc = p then s else if s.1 = false ∧ ltP p h.proc then (true, s.2 ++ [⟨p, a⟩] ++ [h]) else (s.1, s.2 ++ [h])))) (fun s => s) l i (d, o) =
   some (if d = true then (true, o ++ others p l) else if (others p l).any (fun h => decide (ltP p h.proc)) = true then (true, o ++ insP p a (others p l)) else (false, o ++ others p l)) := by
  intro l
  induction l with
  | nil => intro i d o; cases d <;> simp [walk, others]
  | cons h t ih =>
   intro i d o
   simp only [walk, others_cons]
   by_cases e : h.proc = p
   ·simp only [e, if_true]; exact ih (i + 1) d o
   ·simp only [e, if_false]
    by_cases e2 : d = false ∧ ltP p h.proc
    ·obtain ⟨rfl, e3⟩ := e2
     simp only [e3, and_self, if_true]
     rw [ih]
     simp [insP, e3]
    ·rw [if_neg e2, ih]
     cases d with
     | true => simp
     | false =>
      have e3 : ¬ ltP p h.proc := fun hh => e2 ⟨rfl, hh⟩
      simp only [Bool.false_eq_true, if_false, insP, e3, List.any_cons, decide_false, Bool.false_or]
      split <;> simp
 have noins : ∀ l : List Hold, l.any (fun h => decide (ltP p h.proc)) = false → insP p a l = l ++ [⟨p, a⟩] := by
  intro l
  induction l with
  | nil => intro _; rfl
  | cons h t ih =>
   intro hh
   simp only [List.any_cons, Bool.or_eq_false_iff, decide_eq_false_iff_not] at hh
   simp only [insP, hh.1, if_false, ih hh.2, List.cons_append]
 rw [show ((f_ref04_Zero a, (0 : Int), ([] : List Hold)) : Bool × Int × List Hold) = (fun (i : Nat) (s : Bool × List Hold) => (s.1, (i : Int), s.2)) 0 (f_ref04_Zero a, []) from rfl, key, fold, hz]
 unfold setL f_ref10_Set_k1
 have ho := others_len p l
 by_cases ha : a = Amount.zero
 ·simp [ha]
 ·simp only [ha, decide_false, Bool.false_eq_true, if_false, List.nil_append]
  by_cases hx : (others p l).any (fun h => decide (ltP p h.proc)) = true
  ·simp [hx]
  ·have hx : (others p l).any (fun h => decide (ltP p h.proc)) = false := by simpa using hx
   rw [if_neg (by rw [hx]; decide), Option.bind_some, noins _ hx]
   show gd ((others p l).length + 1 ≤ 4294967296) _ = _
   rw [gdp (by omega)]
theorem put_at {α : Type} (l : List α) (k : Nat) (z x : α) (hk : k ≤ l.length) :
  (((l ++ [z]).take (k + 1) ++ (((l ++ [z]).drop k).take (l.length + 1 - k)).take (l.length + 1 - (k + 1)) ++ (l ++ [z]).drop (k + 1 + min (((l ++ [z]).drop k).take (l.length + 1 - k)).length (l.length + 1 - (k + 1)))).set k x) = l.take k ++ x :: l.drop k := by
 have e1 : ((l ++ [z]).drop k).take (l.length + 1 - k) = l.drop k ++ [z] := by
  rw [List.drop_append_of_le_length hk, List.take_of_length_le (by simp; omega)]
 have e2 : (l.drop k ++ [z]).take (l.length + 1 - (k + 1)) = l.drop k := by
  rw [List.take_append_of_le_length (by simp), List.take_of_length_le (by simp)]
 have e3 : (l ++ [z]).drop (k + 1 + min (l.drop k ++ [z]).length (l.length + 1 - (k + 1))) = [] := by
  rw [List.drop_eq_nil_of_le]; simp; omega
 rw [e1, e2, e3, List.append_nil]
 by_cases hkl : k = l.length
 ·subst hkl
  rw [List.take_of_length_le (by simp), List.drop_length, List.append_nil, List.set_append_right _ _ (Nat.le_refl _)]
  simp
 ·have : (l ++ [z]).take (k + 1) = l.take k ++ [l[k]'(by omega)] := by
   rw [List.take_append_of_le_length (by omega), List.take_succ_eq_append_getElem (by omega)]
  rw [this, List.append_assoc, List.set_append_right _ _ (by simp; omega)]
  simp [show min k l.length = k by omega]
theorem holders_Set_eq (l : List Hold) (p : Proc) (a : Amount) (hl : l.length ≤ 1000000) : f_holders_Set l p a = some (setL l p a) := by
 unfold f_holders_Set
 have hw : IntKind.i64.wrap ((l.length : Int) + 1) = (l.length : Int) + 1 := wrap_id (by omega) (by omega)
 rw [hw, gdp (by omega)]
 have key := loop_list (body := f_holders_Set_l1 l p) l Hold.zero (fun i (s : Int × List Hold) => (s.1, (i : Int), s.2))
  (fun i h s => some (.inl (if h.proc = p then s else (if s.1 < 0 ∧ ltP p h.proc then (s.2.length : Int) else s.1, s.2 ++ [h])))) (fun s => s) (fun i s => s.2.length ≤ i)
  (fun i s hi hs => by
   refine ⟨?_, fun s' h => ?_⟩
   ·unfold f_holders_Set_l1
    have h1 : s.2.length + 1 ≤ 4294967296 := by omega
    have h3 : 0 ≤ (i : Int) ∧ (i : Int) < (l.length : Int) := by omega
    simp only [h1, h3.1, h3.2, and_self, implies_true, gd_true, decide_true, if_true, Int.toNat_natCast, decide_eq_true_eq, Bool.and_eq_true, ident_Compare_eq, wrap_succ i (by omega), Option.map_some, wmap]
    by_cases e : (l.getD i Hold.zero).proc = p
    ·simp only [e, if_true]
    ·simp only [e, if_false]
     by_cases e2 : s.1 < 0
     ·simp only [e2, if_true, Option.bind_some, true_and, cmpP_pos]
      split <;> rfl
     ·simp only [e2, if_false, Option.bind_some, false_and]
   ·simp only [Option.some.injEq, Sum.inl.injEq] at h
    subst h
    split
    ·omega
    ·simp; omega)
  (fun s hs => by unfold f_holders_Set_l1; simp) (-1, []) (by simp)
 have fold : ∀ (l : List Hold) (i : Nat) (d : Int) (o : List Hold), walk (fun i h (s : Int × List Hold) => some (.inl (if h.proc = p then s else (if s.1 < 0 ∧ ltP p h.proc then (s.2.length : Int) else s.1, s.2 ++ [h])))) (fun s => s) l i (d, o) =
   some (if d < 0 ∧ (others p l).any (fun h => decide (ltP p h.proc)) = true then (((o.length + (others p l).findIdx (fun h => decide (ltP p h.proc)) : Nat) : Int), o ++ others p l) else (d, o ++ others p l)) := by
  intro l
  induction l with
  | nil => intro i d o; simp [walk, others]
  | cons h t ih =>
   intro i d o
   simp only [walk, others_cons]
   by_cases e : h.proc = p
   ·simp only [e, if_true]; exact ih (i + 1) d o
   ·simp only [e, if_false]
    by_cases e2 : d < 0 ∧ ltP p h.proc
    ·simp only [e2, and_self, if_true]
     rw [ih, if_neg (by omega)]
     simp [e2.2, List.findIdx_cons]
    ·rw [if_neg e2, ih]
     by_cases e3 : d < 0
     ·have e4 : ¬ ltP p h.proc := fun hh => e2 ⟨e3, hh⟩
      simp only [e3, true_and, List.any_cons, e4, decide_false, Bool.false_or, List.findIdx_cons, cond_false, List.length_append, List.length_cons, List.length_nil, List.append_assoc, List.cons_append, List.nil_append]
      split
      ·congr 3; omega
      ·rfl
     ·simp [e3]
 have ins : ∀ l : List Hold, insP p a l = l.take (l.findIdx (fun h => decide (ltP p h.proc))) ++ ⟨p, a⟩ :: l.drop (l.findIdx (fun h => decide (ltP p h.proc))) := by
  intro l
  induction l with
  | nil => rfl
  | cons h t ih =>
   simp only [insP, List.findIdx_cons]
   by_cases e : ltP p h.proc
   ·simp [e]
   ·simp [e, ih]
 have key2 : loopO (f_holders_Set_l1 l p) (-1, 0, List.replicate 0 Hold.zero) = some (if (others p l).any (fun h => decide (ltP p h.proc)) = true then (((others p l).findIdx (fun h => decide (ltP p h.proc)) : Nat) : Int) else -1, others p l) := by
  rw [show ((-1, 0, List.replicate 0 Hold.zero) : Int × Int × List Hold) = (fun (i : Nat) (s : Int × List Hold) => (s.1, (i : Int), s.2)) 0 (-1, []) from rfl, key, fold]
  have : ((-1 : Int) < 0) := by decide
  simp only [this, true_and, List.nil_append, List.length_nil, Nat.zero_add]
  split <;> rfl
 rw [key2, Option.bind_some]
 unfold f_holders_Set_k1 setL
 have hz : f_amount_Zero a = decide (a = Amount.zero) := rfl
 rw [hz]
 by_cases ha : a = Amount.zero
 ·simp [ha]
 ·simp only [ha, decide_false, Bool.false_eq_true, if_false, decide_eq_true_eq]
  have ho := others_len p l
  generalize others p l = o at ho
  have fi : o.findIdx (fun h => decide (ltP p h.proc)) ≤ o.length := List.findIdx_le_length
  have hz2 : ({ Hold.zero with } : Hold) = Hold.zero := rfl
  by_cases hx : o.any (fun h => decide (ltP p h.proc)) = true
  ·simp only [hx, if_true]
   generalize hk : o.findIdx (fun h => decide (ltP p h.proc)) = k at fi
   have hkl : k < o.length := by rw [← hk]; exact List.findIdx_lt_length_of_exists (by simpa using hx)
   rw [if_neg (by omega)]
   simp only [wrap_succ k (by omega), Int.toNat_natCast]
   rw [gdp (by omega), gdp (by omega), gdp (by omega), gdp (by omega), put_at o k _ _ (by omega), ins o, hk]
  ·have hx' : o.any (fun h => decide (ltP p h.proc)) = false := by simpa using hx
   simp only [hx', Bool.false_eq_true, if_false]
   rw [if_pos (by decide)]
   have hk : o.findIdx (fun h => decide (ltP p h.proc)) = o.length := by
    rw [List.findIdx_eq_length]; simpa using hx'
   simp only [wrap_succ o.length (by omega), Int.toNat_natCast]
   rw [gdp (by omega), gdp (by omega), gdp (by omega), gdp (by omega), put_at o o.length _ _ (by omega), ins o, hk]
end Ab
end Go.Proofs.YtdflfohpemfeiaaGreatDoor
