/-
  The grants' functions in plain Lean: the order of processes, what is put, what is got.
-/
import Derived.Test.YtfjeceicgfdmjaaGreatDoorFn
import Derived.Test.YtfjeceicgfdmjaaGreatDoorWalk
import Derived.Test.YtfjeceicgfdmjaaGreatDoorPure
namespace Go.Proofs.YtfjeceicgfdmjaaGreatDoor
namespace Ab
set_option linter.unusedVariables false
set_option linter.unusedSimpArgs false
abbrev cmpP (p q : Proc) : Int := zi5 p q
def ltP (p q : Proc) : Prop := p.site < q.site ∨ p.site = q.site ∧ (p.inc < q.inc ∨ p.inc = q.inc ∧ p.num < q.num)
instance (p q : Proc) : Decidable (ltP p q) := by unfold ltP; infer_instance
theorem zbt7 (a b : Int) : zs0 a b = if a < b then -1 else if b < a then 1 else 0 := by
 unfold zs0; simp only [decide_eq_true_eq]
theorem zbn4 (p q : Proc) : cmpP p q = if ltP p q then -1 else if ltP q p then 1 else 0 := by
 obtain ⟨a, b, c⟩ := p
 obtain ⟨d, e, f⟩ := q
 unfold cmpP zi5 ltP
 simp only [zbt7, Bool.not_eq_true', decide_eq_false_iff_not]
 grind
theorem zae7 (p : Proc) : ¬ ltP p p := by unfold ltP; omega
theorem zX0 {p q r : Proc} (h : ltP p q) (k : ltP q r) : ltP p r := by unfold ltP at *; omega
theorem zaL1 {p q : Proc} (h : ltP p q) : ¬ ltP q p := by unfold ltP at *; omega
theorem zX1 {p q : Proc} (h : p ≠ q) : ltP p q ∨ ltP q p := by
 obtain ⟨a, b, c⟩ := p
 obtain ⟨d, e, f⟩ := q
 simp only [ne_eq, Proc.mk.injEq] at h
 unfold ltP
 simp only
 omega
theorem zaZ3 (p q : Proc) : 0 < cmpP p q ↔ ltP q p := by
 rw [zbn4]
 by_cases h : ltP p q
 ·simp [h, zaL1 h]
 ·by_cases h2 : ltP q p <;> simp [h, h2]
theorem zaO9 (p q : Proc) : 0 ≤ cmpP p q ↔ ¬ ltP p q := by
 rw [zbn4]
 by_cases h : ltP p q
 ·simp [h]
 ·by_cases h2 : ltP q p <;> simp [h, h2]
theorem zal7 (p q : Proc) : ze0 p q = some (cmpP p q) := by
 unfold ze0 zj9
 have e : ∀ (x y z : Int) (i : Nat) (h : [x, y, z].length = 3), Arr.get (⟨[x, y, z], h⟩ : Arr Int 3) i 0 = match i with | 0 => x | 1 => y | _ => z := by
  intro x y z i h
  match i with
  | 0 => rfl
  | 1 => rfl
  | 2 => rfl
  | n + 3 =>
   have : ¬ (n + 3 < 3) := by omega
   simp [Arr.get, zr2, this]
 have w1 : IntKind.i64.wrap (0 + 1) = 1 := by decide
 have w2 : IntKind.i64.wrap (1 + 1) = 2 := by decide
 have w3 : IntKind.i64.wrap (2 + 1) = 3 := by decide
 have s3 : zd2 ⟨[p.site, p.inc, p.num], rfl⟩ ⟨[q.site, q.inc, q.num], rfl⟩ 3 = some (.inr (.inl ())) := by unfold zd2; simp
 have s2 : zd2 ⟨[p.site, p.inc, p.num], rfl⟩ ⟨[q.site, q.inc, q.num], rfl⟩ 2 = some (if p.num < q.num then .inr (.inr (-1)) else if q.num < p.num then .inr (.inr 1) else .inl 3) := by
  unfold zd2
  rw [if_pos (by decide), gdp (by decide), gdp (by decide), gdp (by decide)]
  simp only [e, show (2 : Int).toNat = 2 from rfl, decide_eq_true_eq, w3]
  by_cases h : p.num < q.num
  ·simp [h]
  ·by_cases h2 : q.num < p.num <;> simp [h, h2]
 have s1 : zd2 ⟨[p.site, p.inc, p.num], rfl⟩ ⟨[q.site, q.inc, q.num], rfl⟩ 1 = some (if p.inc < q.inc then .inr (.inr (-1)) else if q.inc < p.inc then .inr (.inr 1) else .inl 2) := by
  unfold zd2
  rw [if_pos (by decide), gdp (by decide), gdp (by decide), gdp (by decide)]
  simp only [e, Int.toNat_one, decide_eq_true_eq, w2]
  by_cases h : p.inc < q.inc
  ·simp [h]
  ·by_cases h2 : q.inc < p.inc <;> simp [h, h2]
 have s0 : zd2 ⟨[p.site, p.inc, p.num], rfl⟩ ⟨[q.site, q.inc, q.num], rfl⟩ 0 = some (if p.site < q.site then .inr (.inr (-1)) else if q.site < p.site then .inr (.inr 1) else .inl 1) := by
  unfold zd2
  rw [if_pos (by decide), gdp (by decide), gdp (by decide), gdp (by decide)]
  simp only [e, Int.toNat_zero, decide_eq_true_eq, w1]
  by_cases h : p.site < q.site
  ·simp [h]
  ·by_cases h2 : q.site < p.site <;> simp [h, h2]
 rw [zbn4]
 unfold ltP
 by_cases a1 : p.site < q.site
 ·rw [zd6, s0]; simp [a1]
 ·by_cases a2 : q.site < p.site
  ·rw [zd6, s0]
   have : ¬ p.site = q.site := by omega
   simp [a1, a2, this]
  ·have h1 : p.site = q.site := by omega
   by_cases b1 : p.inc < q.inc
   ·rw [zd6, s0]; simp only [a1, a2, if_false]; rw [zd6, s1]; simp [b1, h1]
   ·by_cases b2 : q.inc < p.inc
    ·have : ¬ p.inc = q.inc := by omega
     rw [zd6, s0]; simp only [a1, a2, if_false]; rw [zd6, s1]; simp [b1, b2, h1, this]
    ·have h2 : p.inc = q.inc := by omega
     rw [zd6, s0]; simp only [a1, a2, if_false]; rw [zd6, s1]; simp only [b1, b2, if_false]; rw [zd6, s2]
     by_cases c1 : p.num < q.num
     ·simp [c1, h1, h2]
     ·by_cases c2 : q.num < p.num
      ·simp [c1, c2, h1, h2]
      ·simp only [c1, c2, if_false]; rw [zd6, s3]; simp [h1, h2, zB4]
def insP (p : Proc) (a : Amount) : List Hold → List Hold
 | [] => [⟨p, a⟩]
 | h :: t => if ltP p h.proc then ⟨p, a⟩ :: h :: t else h :: insP p a t
def others (p : Proc) (l : List Hold) : List Hold := l.filter fun h => !decide (h.proc = p)
def setL (l : List Hold) (p : Proc) (a : Amount) : List Hold := if a = Amount.zero then others p l else insP p a (others p l)
theorem zbA5 (p : Proc) : others p [] = [] := rfl
theorem zx4 (p : Proc) (h : Hold) (t : List Hold) : others p (h :: t) = if h.proc = p then others p t else h :: others p t := by
 unfold others; rw [List.filter_cons]; by_cases e : h.proc = p <;> simp [e]
theorem zae8 (p : Proc) (l : List Hold) : (others p l).length ≤ l.length := List.length_filter_le _ _
theorem zU7 (l : List Hold) (p : Proc) (a : Amount) (hl : l.length ≤ 1000000) : zq8 l p a = some (setL l p a) := by
 unfold zq8
 have key := zr0 (body := zM0 l p a) l Hold.zero (fun i (s : Bool × List Hold) => (s.1, (i : Int), s.2))
  (fun i h s => some (.inl (if h.proc = p then s else if s.1 = false ∧ ltP p h.proc then (true, s.2 ++ [⟨p, a⟩] ++ [h]) else (s.1, s.2 ++ [h])))) (fun s => s) (fun i s => s.2.length ≤ 2 * i)
  (fun i s hi hs => by
   refine ⟨?_, fun s' h => ?_⟩
   ·unfold zM0
    have h1 : s.2.length + 1 ≤ 4294967296 := by omega
    have h2 : s.2.length + 1 + 1 ≤ 4294967296 := by omega
    have h3 : 0 ≤ (i : Int) ∧ (i : Int) < (l.length : Int) := by omega
    simp only [h1, h2, h3.1, h3.2, and_self, implies_true, zj7, decide_true, if_true, Int.toNat_natCast, decide_eq_true_eq, Bool.and_eq_true, Bool.not_eq_true', zaZ3, zd5 i (by omega), Option.map_some, wmap]
    by_cases e : (l.getD i Hold.zero).proc = p
    ·simp only [e, if_true]
    ·simp only [e, if_false]
     split <;> rfl
   ·simp only [Option.some.injEq, Sum.inl.injEq] at h
    subst h
    split
    ·omega
    ·split <;> simp <;> omega)
  (fun s hs => by unfold zM0; simp) (zc6 a, []) (by simp)
 have hz : zc6 a = decide (a = Amount.zero) := rfl
 have fold : ∀ (l : List Hold) (i : Nat) (d : Bool) (o : List Hold), walk (fun i h (s : Bool × List Hold) => some (.inl (if h.proc = p then s else if s.1 = false ∧ ltP p h.proc then (true, s.2 ++ [⟨p, a⟩] ++ [h]) else (s.1, s.2 ++ [h])))) (fun s => s) l i (d, o) =
   some (if d = true then (true, o ++ others p l) else if (others p l).any (fun h => decide (ltP p h.proc)) = true then (true, o ++ insP p a (others p l)) else (false, o ++ others p l)) := by
  intro l
  induction l with
  | nil => intro i d o; cases d <;> simp [walk, others]
  | cons h t ih =>
   intro i d o
   simp only [walk, zx4]
   by_cases e : h.proc = p
   ·simp only [e, if_true]; exact ih (i + 1) d o
   ·simp only [e, if_false]
    by_cases e2 : d = false ∧ ltP p h.proc
    ·obtain ⟨rfl, e3⟩ := e2
     simp only [e3, and_self, if_true]
     rw [ih]
     simp [insP, e3]
    ·rw [if_neg e2, ih]
     cases d with
     | true => simp
     | false =>
      have e3 : ¬ ltP p h.proc := fun hh => e2 ⟨rfl, hh⟩
      simp only [Bool.false_eq_true, if_false, insP, e3, List.any_cons, decide_false, Bool.false_or]
      split <;> simp
 have noins : ∀ l : List Hold, l.any (fun h => decide (ltP p h.proc)) = false → insP p a l = l ++ [⟨p, a⟩] := by
  intro l
  induction l with
  | nil => intro _; rfl
  | cons h t ih =>
   intro hh
   simp only [List.any_cons, Bool.or_eq_false_iff, decide_eq_false_iff_not] at hh
   simp only [insP, hh.1, if_false, ih hh.2, List.cons_append]
 rw [show ((zc6 a, (0 : Int), ([] : List Hold)) : Bool × Int × List Hold) = (fun (i : Nat) (s : Bool × List Hold) => (s.1, (i : Int), s.2)) 0 (zc6 a, []) from rfl, key, fold, hz]
 unfold setL zT6
 have ho := zae8 p l
 by_cases ha : a = Amount.zero
 ·simp [ha]
 ·simp only [ha, decide_false, Bool.false_eq_true, if_false, List.nil_append]
  by_cases hx : (others p l).any (fun h => decide (ltP p h.proc)) = true
  ·simp [hx]
  ·have hx : (others p l).any (fun h => decide (ltP p h.proc)) = false := by simpa using hx
   rw [if_neg (by rw [hx]; decide), Option.bind_some, noins _ hx]
   show gd ((others p l).length + 1 ≤ 4294967296) _ = _
   rw [gdp (by omega)]
theorem zcc8 {α : Type} (l : List α) (k : Nat) (z x : α) (hk : k ≤ l.length) :
  (((l ++ [z]).take (k + 1) ++ (((l ++ [z]).drop k).take (l.length + 1 - k)).take (l.length + 1 - (k + 1)) ++ (l ++ [z]).drop (k + 1 + min (((l ++ [z]).drop k).take (l.length + 1 - k)).length (l.length + 1 - (k + 1)))).set k x) = l.take k ++ x :: l.drop k := by
 have e1 : ((l ++ [z]).drop k).take (l.length + 1 - k) = l.drop k ++ [z] := by
  rw [List.drop_append_of_le_length hk, List.take_of_length_le (by simp; omega)]
 have e2 : (l.drop k ++ [z]).take (l.length + 1 - (k + 1)) = l.drop k := by
  rw [List.take_append_of_le_length (by simp), List.take_of_length_le (by simp)]
 have e3 : (l ++ [z]).drop (k + 1 + min (l.drop k ++ [z]).length (l.length + 1 - (k + 1))) = [] := by
  rw [List.drop_eq_nil_of_le]; simp; omega
 rw [e1, e2, e3, List.append_nil]
 by_cases hkl : k = l.length
 ·subst hkl
  rw [List.take_of_length_le (by simp), List.drop_length, List.append_nil, List.set_append_right _ _ (Nat.le_refl _)]
  simp
 ·have : (l ++ [z]).take (k + 1) = l.take k ++ [l[k]'(by omega)] := by
   rw [List.take_append_of_le_length (by omega), List.take_succ_eq_append_getElem (by omega)]
  rw [this, List.append_assoc, List.set_append_right _ _ (by simp; omega)]
  simp [show min k l.length = k by omega]
theorem zU8 (l : List Hold) (p : Proc) (a : Amount) (hl : l.length ≤ 1000000) : zj0 l p a = some (setL l p a) := by
 unfold zj0
 have hw : IntKind.i64.wrap ((l.length : Int) + 1) = (l.length : Int) + 1 := ze1 (by omega) (by omega)
 rw [hw, gdp (by omega)]
 have key := zr0 (body := zA9 l p) l Hold.zero (fun i (s : Int × List Hold) => (s.1, (i : Int), s.2))
  (fun i h s => some (.inl (if h.proc = p then s else (if s.1 < 0 ∧ ltP p h.proc then (s.2.length : Int) else s.1, s.2 ++ [h])))) (fun s => s) (fun i s => s.2.length ≤ i)
  (fun i s hi hs => by
   refine ⟨?_, fun s' h => ?_⟩
   ·unfold zA9
    have h1 : s.2.length + 1 ≤ 4294967296 := by omega
    have h3 : 0 ≤ (i : Int) ∧ (i : Int) < (l.length : Int) := by omega
    simp only [h1, h3.1, h3.2, and_self, implies_true, zj7, decide_true, if_true, Int.toNat_natCast, decide_eq_true_eq, Bool.and_eq_true, zal7, zd5 i (by omega), Option.map_some, wmap]
    by_cases e : (l.getD i Hold.zero).proc = p
    ·simp only [e, if_true]
    ·simp only [e, if_false]
     by_cases e2 : s.1 < 0
     ·simp only [e2, if_true, Option.bind_some, true_and, zaZ3]
      split <;> rfl
     ·simp only [e2, if_false, Option.bind_some, false_and]
   ·simp only [Option.some.injEq, Sum.inl.injEq] at h
    subst h
    split
    ·omega
    ·simp; omega)
  (fun s hs => by unfold zA9; simp) (-1, []) (by simp)
 have fold : ∀ (l : List Hold) (i : Nat) (d : Int) (o : List Hold), walk (fun i h (s : Int × List Hold) => some (.inl (if h.proc = p then s else (if s.1 < 0 ∧ ltP p h.proc then (s.2.length : Int) else s.1, s.2 ++ [h])))) (fun s => s) l i (d, o) =
   some (if d < 0 ∧ (others p l).any (fun h => decide (ltP p h.proc)) = true then (((o.length + (others p l).findIdx (fun h => decide (ltP p h.proc)) : Nat) : Int), o ++ others p l) else (d, o ++ others p l)) := by
  intro l
  induction l with
  | nil => intro i d o; simp [walk, others]
  | cons h t ih =>
   intro i d o
   simp only [walk, zx4]
   by_cases e : h.proc = p
   ·simp only [e, if_true]; exact ih (i + 1) d o
   ·simp only [e, if_false]
    by_cases e2 : d < 0 ∧ ltP p h.proc
    ·simp only [e2, and_self, if_true]
     rw [ih, if_neg (by omega)]
     simp [e2.2, List.findIdx_cons]
    ·rw [if_neg e2, ih]
     by_cases e3 : d < 0
     ·have e4 : ¬ ltP p h.proc := fun hh => e2 ⟨e3, hh⟩
      simp only [e3, true_and, List.any_cons, e4, decide_false, Bool.false_or, List.findIdx_cons, cond_false, List.length_append, List.length_cons, List.length_nil, List.append_assoc, List.cons_append, List.nil_append]
      split
      ·congr 3; omega
      ·rfl
     ·simp [e3]
 have ins : ∀ l : List Hold, insP p a l = l.take (l.findIdx (fun h => decide (ltP p h.proc))) ++ ⟨p, a⟩ :: l.drop (l.findIdx (fun h => decide (ltP p h.proc))) := by
  intro l
  induction l with
  | nil => rfl
  | cons h t ih =>
   simp only [insP, List.findIdx_cons]
   by_cases e : ltP p h.proc
   ·simp [e]
   ·simp [e, ih]
 have key2 : zb8 (zA9 l p) (-1, 0, List.replicate 0 Hold.zero) = some (if (others p l).any (fun h => decide (ltP p h.proc)) = true then (((others p l).findIdx (fun h => decide (ltP p h.proc)) : Nat) : Int) else -1, others p l) := by
  rw [show ((-1, 0, List.replicate 0 Hold.zero) : Int × Int × List Hold) = (fun (i : Nat) (s : Int × List Hold) => (s.1, (i : Int), s.2)) 0 (-1, []) from rfl, key, fold]
  have : ((-1 : Int) < 0) := by decide
  simp only [this, true_and, List.nil_append, List.length_nil, Nat.zero_add]
  split <;> rfl
 rw [key2, Option.bind_some]
 unfold zN0 setL
 have hz : zb7 a = decide (a = Amount.zero) := rfl
 rw [hz]
 by_cases ha : a = Amount.zero
 ·simp [ha]
 ·simp only [ha, decide_false, Bool.false_eq_true, if_false, decide_eq_true_eq]
  have ho := zae8 p l
  generalize others p l = o at ho
  have fi : o.findIdx (fun h => decide (ltP p h.proc)) ≤ o.length := List.findIdx_le_length
  have hz2 : ({ Hold.zero with } : Hold) = Hold.zero := rfl
  by_cases hx : o.any (fun h => decide (ltP p h.proc)) = true
  ·simp only [hx, if_true]
   generalize hk : o.findIdx (fun h => decide (ltP p h.proc)) = k at fi
   have hkl : k < o.length := by rw [← hk]; exact List.findIdx_lt_length_of_exists (by simpa using hx)
   rw [if_neg (by omega)]
   simp only [zd5 k (by omega), Int.toNat_natCast]
   rw [gdp (by omega), gdp (by omega), gdp (by omega), gdp (by omega), zcc8 o k _ _ (by omega), ins o, hk]
  ·have hx' : o.any (fun h => decide (ltP p h.proc)) = false := by simpa using hx
   simp only [hx', Bool.false_eq_true, if_false]
   rw [if_pos (by decide)]
   have hk : o.findIdx (fun h => decide (ltP p h.proc)) = o.length := by
    rw [List.findIdx_eq_length]; simpa using hx'
   simp only [zd5 o.length (by omega), Int.toNat_natCast]
   rw [gdp (by omega), gdp (by omega), gdp (by omega), gdp (by omega), zcc8 o o.length _ _ (by omega), ins o, hk]
end Ab
end Go.Proofs.YtfjeceicgfdmjaaGreatDoor
namespace Go.Proofs.YtfjeceicgfdmjaaGreatDoor
namespace Ab
set_option linter.unusedVariables false
set_option linter.unusedSimpArgs false
theorem zal8 (r : Resource) : zo3 r = zb4 r := by
 unfold zo3 zb4
 rw [Bool.eq_iff_iff]
 by_cases h1 : r.kind = 1
 ·simp [h1]
 ·by_cases h2 : r.kind = 2 <;> simp [h1, h2]
theorem zax4 (r : Resource) (a : Amount) : zg7 r a = za9 r a := by
 unfold zg7 za9 zj2 zf9
 rw [zal8]
theorem zax5 (r : Resource) (a : Amount) : zf1 r a = zb0 r a := by
 unfold zf1 zb0 zc6 zb7
 rw [zal8, zax4]
theorem zau8 (p : Proc) : ze5 p = zb3 p := by
 unfold ze5 zb3 zp4
 rw [Bool.eq_iff_iff]; simp; omega
theorem zt4 (r : Resource) : zb4 r = true ↔ (r.kind = 1 ∧ r.units = 1) ∨ (r.kind = 2 ∧ 1 ≤ r.units ∧ r.units ≤ 8) := by
 unfold zb4
 by_cases h1 : r.kind = 1
 ·simp [h1]
 ·by_cases h2 : r.kind = 2 <;> simp [h1, h2]
theorem zD9 (r : Resource) (a : Amount) : za9 r a = true ↔ (r.kind = 1 ∧ r.units = 1 ∧ 1 ≤ a.mode ∧ a.mode ≤ 5 ∧ a.units = 0) ∨ (r.kind = 2 ∧ 1 ≤ r.units ∧ r.units ≤ 8 ∧ a.mode = 0 ∧ 1 ≤ a.units ∧ a.units ≤ r.units) := by
 unfold za9 zf9
 have := zt4 r
 cases h : zb4 r with
 | false =>
  rw [h] at this
  simp only [Bool.false_eq_true, false_iff] at this
  simp only [Bool.not_false, if_true, Bool.false_eq_true, false_iff]
  omega
 | true =>
  rw [h] at this
  simp only [true_iff] at this
  by_cases h1 : r.kind = 1
  ·simp [h1]; omega
  ·simp [h1]; omega
theorem perm_iff (r : Resource) (a : Amount) : zb0 r a = true ↔ (zb4 r = true ∧ a = Amount.zero) ∨ za9 r a = true := by
 unfold zb0 zb7
 have e : (decide (a = { Amount.zero with }) : Bool) = decide (a = Amount.zero) := rfl
 rw [e]
 have hs : za9 r a = true → zb4 r = true := by
  rw [zD9, zt4]; omega
 cases h1 : zb4 r <;> cases h2 : za9 r a <;> simp_all
theorem zF9 {r : Resource} {a : Amount} (h : zb0 r a = true) (hk : r.kind = 1) : a.units = 0 ∧ 0 ≤ a.mode ∧ a.mode ≤ 5 ∧ r.units = 1 := by
 rw [perm_iff, zD9, zt4] at h
 rcases h with ⟨h1, rfl⟩ | h1
 ·simp [Amount.zero]; omega
 ·omega
theorem zax6 {r : Resource} {a : Amount} (h : zb0 r a = true) (hk : r.kind = 2) : a.mode = 0 ∧ 0 ≤ a.units ∧ a.units ≤ r.units ∧ r.units ≤ 8 := by
 rw [perm_iff, zD9, zt4] at h
 rcases h with ⟨h1, rfl⟩ | h1
 ·simp [Amount.zero]; omega
 ·omega
theorem zE0 {r : Resource} {a : Amount} (h : zb0 r a = true) : 0 ≤ a.units ∧ a.units ≤ 8 ∧ 0 ≤ a.mode ∧ a.mode ≤ 5 ∧ 1 ≤ r.units ∧ r.units ≤ 8 := by
 rw [perm_iff, zD9, zt4] at h
 rcases h with ⟨h1, rfl⟩ | h1
 ·simp [Amount.zero]; omega
 ·omega
abbrev mC (a b : Int) : Bool := zp8 a b
theorem zbn5 (a b : Int) : mC a b = true ↔ (1 ≤ a ∧ a ≤ 4 ∧ 1 ≤ b ∧ b ≤ 4) ∧ (a = 1 ∨ b = 1 ∨ a = b ∧ a ≠ 4) := by
 unfold mC zp8 zj2
 split
 ·rename_i h; simp at h; simp; omega
 ·rename_i h; simp at h; simp; omega
theorem zaS9 (a b : Int) : mC a b = mC b a := by rw [Bool.eq_iff_iff, zbn5, zbn5]; omega
theorem zaD0 (a b : Int) : zh5 a b = some (mC a b) := by
 unfold zh5 zf9
 by_cases h : (1 ≤ a ∧ a ≤ 5) ∧ (1 ≤ b ∧ b ≤ 5)
 ·obtain ⟨⟨a1, a2⟩, b1, b2⟩ := h
  have wa : IntKind.i64.wrap (a - 1) = a - 1 := ze1 (by omega) (by omega)
  have wb : IntKind.i64.wrap (b - 1) = b - 1 := ze1 (by omega) (by omega)
  simp only [wa, wb]
  rw [gdp (fun _ => by omega), gdp (fun _ => by omega)]
  congr 1
  have ha : a = 1 ∨ a = 2 ∨ a = 3 ∨ a = 4 ∨ a = 5 := by omega
  have hb : b = 1 ∨ b = 2 ∨ b = 3 ∨ b = 4 ∨ b = 5 := by omega
  rcases ha with rfl | rfl | rfl | rfl | rfl <;> rcases hb with rfl | rfl | rfl | rfl | rfl <;> decide
 ·have hv : (((decide (1 ≤ a)) && (decide (a ≤ 5))) && ((decide (1 ≤ b)) && (decide (b ≤ 5)))) = false := by
   rw [Bool.eq_false_iff]; intro hh; simp at hh; omega
  rw [hv]
  rw [gdp (fun h => by cases h), gdp (fun h => by cases h)]
  have : mC a b = false := by rw [Bool.eq_false_iff]; intro hh; rw [zbn5] at hh; omega
  rw [this]; rfl
def zM4 (b a : Amount) : Prop := b.mode ≠ 0 ∧ a.mode ≠ 0 ∧ mC b.mode a.mode = false
instance (b a : Amount) : Decidable (zM4 b a) := by unfold zM4; infer_instance
def sumU : List Amount → Int
 | [] => 0
 | a :: l => a.units + sumU l
structure CompP (r : Resource) (l : List Amount) : Prop where
 perm : ∀ a ∈ l, zb0 r a = true
 sum : sumU l ≤ r.units
 pair : l.Pairwise fun b a => ¬ zM4 b a
instance (r : Resource) (l : List Amount) : Decidable (CompP r l) :=
 decidable_of_iff ((∀ a ∈ l, zb0 r a = true) ∧ sumU l ≤ r.units ∧ l.Pairwise fun b a => ¬ zM4 b a) ⟨fun ⟨a, b, c⟩ => ⟨a, b, c⟩, fun ⟨a, b, c⟩ => ⟨a, b, c⟩⟩
def zaA8 (r : Resource) (l : List Amount) : Bool := zb4 r && decide (CompP r l)
theorem zbt8 {l : List Amount} (h : ∀ a ∈ l, 0 ≤ a.units) : 0 ≤ sumU l := by
 induction l with
 | nil => simp [sumU]
 | cons a l ih =>
  have := ih fun b hb => h b (.tail _ hb)
  have := h a (.head _)
  simp only [sumU]; omega
def zaA9 (r : Resource) : List Amount → List Amount → Int → Bool
 | [], _, _ => true
 | a :: t, prev, s => zb0 r a && (decide (s + a.units ≤ r.units) && (decide (∀ b ∈ prev, ¬ zM4 b a) && zaA9 r t (prev ++ [a]) (s + a.units)))
theorem zaL2 (r : Resource) (hr : 0 ≤ r.units) : ∀ (l prev : List Amount) (s : Int), s ≤ r.units → (zaA9 r l prev s = true ↔ (∀ a ∈ l, zb0 r a = true) ∧ s + sumU l ≤ r.units ∧ (∀ b ∈ prev, ∀ a ∈ l, ¬ zM4 b a) ∧ l.Pairwise fun b a => ¬ zM4 b a)
 | [], prev, s, hs => by simp [zaA9, sumU]; exact hs
 | a :: t, prev, s, hs => by
  simp only [zaA9, Bool.and_eq_true, decide_eq_true_eq, List.forall_mem_cons, List.pairwise_cons, sumU]
  constructor
  ·rintro ⟨h1, h2, h3, h4⟩
   rw [zaL2 r hr t (prev ++ [a]) (s + a.units) h2] at h4
   obtain ⟨k1, k2, k3, k4⟩ := h4
   refine ⟨⟨h1, k1⟩, by omega, fun b hb => ⟨h3 b hb, fun c hc => k3 b (by simp [hb]) c hc⟩, fun c hc => k3 a (by simp) c hc, k4⟩
  ·rintro ⟨⟨h1, k1⟩, h2, h3, h4, h5⟩
   have hn : 0 ≤ sumU t := zbt8 fun b hb => (zE0 (k1 b hb)).1
   have h6 : s + a.units ≤ r.units := by omega
   refine ⟨h1, h6, fun b hb => (h3 b hb).1, ?_⟩
   rw [zaL2 r hr t (prev ++ [a]) (s + a.units) h6]
   refine ⟨k1, by omega, fun b hb c hc => ?_, h5⟩
   rcases List.mem_append.1 hb with hb | hb
   ·exact (h3 b hb).2 c hc
   ·simp at hb; subst hb; exact h4 c hc
theorem zbt9 (r : Resource) (l : List Amount) (hs : zb4 r = true) : zaA8 r l = zaA9 r l [] 0 := by
 have hr : 1 ≤ r.units := by rw [zt4] at hs; omega
 unfold zaA8
 rw [hs, Bool.true_and, Bool.eq_iff_iff, zaL2 r (by omega) l [] 0 (by omega), decide_eq_true_eq]
 exact ⟨fun ⟨a, b, c⟩ => ⟨a, by omega, by simp, c⟩, fun ⟨a, b, _, c⟩ => ⟨a, by omega, c⟩⟩
def zaD1 (seen : Arr Bool 6) (m : Int) : Bool := (List.range' 0 6).all fun k => !(seen.get k false) || mC k m
theorem zbn6 (l : List Amount) (g : Int × Int × Arr Bool 6) : zb8 (zn2 l g) 0 = some (if zaD1 g.2.2 (l.getD g.2.1.toNat Amount.zero).mode = true then .inl () else .inr false) := by
 have key := zv2 (body := zn2 l g) 6 (fun i => if (!(g.2.2.get i false) || mC i (l.getD g.2.1.toNat Amount.zero).mode) = true then none else some (.inr false)) (.inl ()) (fun i hi => by
  unfold zn2
  have h3 : 0 ≤ (i : Int) ∧ (i : Int) < 6 := by omega
  have h4 : IntKind.i64.wrap ((i : Int) + 1) = (i : Int) + 1 := ze1 (by omega) (by omega)
  simp only [h3.1, h3.2, and_self, zj7, decide_true, if_true, Int.toNat_natCast, zaD0, h4]
  cases Arr.get g.2.2 i false <;> cases mC i (l.getD g.2.1.toNat Amount.zero).mode <;> rfl) (by unfold zn2; simp)
 rw [key, zE6]
 unfold zaD1
 split <;> simp_all
theorem zcj6 (s : Arr Bool 6) (i k : Nat) (hi : i < 6) (hk : k < 6) : (s.put i true).get k false = if k = i then true else s.get k false := by
 obtain ⟨l, hl⟩ := s
 simp only [Arr.put, Arr.get, zz4 hi, zz4 hk, List.getD_eq_getElem?_getD, List.getElem?_set]
 by_cases h : k = i
 ·subst h; simp [hl, hk]
 ·rw [if_neg (fun e => h e.symm), if_neg h]
theorem zau9 (r : Resource) (l : List Amount) (hl : l.length ≤ 1000000) : zf6 r l = some (zaA8 r l) := by
 unfold zf6
 cases hs : zb4 r with
 | false => simp [zaA8, hs]
 | true =>
  have hru : 1 ≤ r.units ∧ r.units ≤ 8 := by rw [zt4] at hs; omega
  rw [zbt9 r l hs]
  simp only [Bool.not_true, Bool.false_eq_true, if_false]
  have key := zr0 (body := zs9 r l) l Amount.zero (fun i (s : Int × Arr Bool 6) => (s.1, (i : Int), s.2))
   (fun i a s => some (if zb0 r a = false ∨ r.units < s.1 + a.units then .inr false else if a.mode = 0 then .inl (s.1 + a.units, s.2) else if zaD1 s.2 a.mode = true then .inl (s.1 + a.units, s.2.put a.mode.toNat true) else .inr false)) (fun _ => true) (fun i s => 0 ≤ s.1 ∧ s.1 ≤ 8)
   (fun i s hi hi2 => by
    refine ⟨?_, fun s' h => ?_⟩
    ·unfold zs9
     have h3 : 0 ≤ (i : Int) ∧ (i : Int) < (l.length : Int) := by omega
     simp only [h3.1, h3.2, and_self, zj7, decide_true, if_true, Int.toNat_natCast, zd5 i (by omega), Option.map_some, zbn6]
     cases hp : zb0 r (l.getD i Amount.zero) with
     | false => simp [wmap]
     | true =>
      have hb := zE0 hp
      have hw : IntKind.i64.wrap (s.1 + (l.getD i Amount.zero).units) = s.1 + (l.getD i Amount.zero).units := ze1 (by omega) (by omega)
      simp only [hw, Bool.not_true, Bool.false_or, decide_eq_true_eq, Bool.true_eq_false, false_or]
      by_cases h4 : r.units < s.1 + (l.getD i Amount.zero).units
      ·simp only [h4, if_true, wmap]
      ·by_cases h5 : (l.getD i Amount.zero).mode = 0
       ·simp only [h4, if_false, h5, if_true, wmap]
       ·simp only [h4, h5, if_false]
        by_cases h6 : zaD1 s.2 (l.getD i Amount.zero).mode = true
        ·simp only [h6, if_true, Option.bind_some, wmap]
         unfold zz6
         simp only [Int.toNat_natCast, hw, zd5 i (by omega)]
         rw [gdp (by omega)]
        ·simp only [h6, Bool.false_eq_true, if_false, wmap, Option.bind_some]
    ·simp only [Option.some.injEq] at h
     split at h
     ·cases h
     ·rename_i hn
      simp only [not_or, Bool.not_eq_false] at hn
      have hb := zE0 hn.1
      split at h
      ·cases h; simp only; omega
      ·split at h
       ·cases h; simp only; omega
       ·cases h)
   (fun s hs => by unfold zs9; simp) (0, Arr.rep 6 false) (by simp)
  have fold : ∀ (l prev : List Amount) (i : Nat) (s : Int) (seen : Arr Bool 6), (∀ b ∈ prev, 0 ≤ b.mode ∧ b.mode ≤ 5) → (∀ k, k < 6 → seen.get k false = decide (∃ b ∈ prev, b.mode ≠ 0 ∧ b.mode = (k : Int))) →
    walk (fun i a (s : Int × Arr Bool 6) => some (if zb0 r a = false ∨ r.units < s.1 + a.units then .inr false else if a.mode = 0 then .inl (s.1 + a.units, s.2) else if zaD1 s.2 a.mode = true then .inl (s.1 + a.units, s.2.put a.mode.toNat true) else .inr false)) (fun _ => true) l i (s, seen) = some (zaA9 r l prev s) := by
   intro l
   induction l with
   | nil => intro prev i s seen _ _; rfl
   | cons a t ih =>
    intro prev i s seen hpv hsn
    simp only [walk, zaA9]
    cases hp : zb0 r a with
    | false => simp
    | true =>
     have hb := zE0 hp
     by_cases h4 : r.units < s + a.units
     ·simp [h4]; intro h; omega
     ·have h4' : s + a.units ≤ r.units := by omega
      simp only [Bool.true_eq_false, false_or, h4, if_false, h4', decide_true, Bool.true_and]
      by_cases h5 : a.mode = 0
      ·simp only [h5, if_true]
       rw [ih (prev ++ [a]) (i + 1) (s + a.units) seen (by
        intro b hb'; rcases List.mem_append.1 hb' with h | h
        ·exact hpv b h
        ·simp at h; subst h; omega) (by
        intro k hk
        rw [hsn k hk, decide_eq_decide]
        constructor
        ·rintro ⟨b, h1, h2⟩; exact ⟨b, by simp [h1], h2⟩
        ·rintro ⟨b, h1, h2, h3⟩
         rcases List.mem_append.1 h1 with h | h
         ·exact ⟨b, h, h2, h3⟩
         ·simp at h; subst h; exact absurd h5 h2)]
       have : ∀ b ∈ prev, ¬ zM4 b a := fun b _ hc => hc.2.1 h5
       rw [decide_eq_true this, Bool.true_and]
      ·simp only [h5, if_false]
       have hse : zaD1 seen a.mode = decide (∀ b ∈ prev, ¬ zM4 b a) := by
        rw [Bool.eq_iff_iff, decide_eq_true_eq]
        unfold zaD1
        simp only [List.all_eq_true, List.mem_range'_1, Bool.or_eq_true, Bool.not_eq_true']
        constructor
        ·intro hh b hb' ⟨c1, c2, c3⟩
         have hbb := hpv b hb'
         rcases hh b.mode.toNat (by omega) with h | h
         ·rw [hsn _ (by omega)] at h
          simp only [decide_eq_false_iff_not, not_exists, not_and] at h
          exact h b hb' c1 (by omega)
         ·rw [show ((b.mode.toNat : Nat) : Int) = b.mode by omega, c3] at h; cases h
        ·intro hh k hk
         rw [hsn k (by omega)]
         by_cases he : ∃ b ∈ prev, b.mode ≠ 0 ∧ b.mode = (k : Int)
         ·obtain ⟨b, h1, h2, h3⟩ := he
          right
          rw [← h3]
          have := hh b h1
          unfold zM4 at this
          simp only [not_and, Bool.not_eq_false] at this
          exact this h2 h5
         ·left; simpa using he
       rw [hse]
       by_cases h7 : ∀ b ∈ prev, ¬ zM4 b a
       ·rw [decide_eq_true h7]
        simp only [if_true, Bool.true_and]
        rw [ih (prev ++ [a]) (i + 1) (s + a.units) (seen.put a.mode.toNat true) (by
         intro b hb'; rcases List.mem_append.1 hb' with h | h
         ·exact hpv b h
         ·simp at h; subst h; omega) (by
         intro k hk
         rw [zcj6 seen a.mode.toNat k (by omega) hk, hsn k hk]
         by_cases hka : k = a.mode.toNat
         ·rw [if_pos hka]
          exact (decide_eq_true ⟨a, by simp, h5, by omega⟩).symm
         ·rw [if_neg hka, decide_eq_decide]
          constructor
          ·rintro ⟨b, h1, h2⟩; exact ⟨b, by simp [h1], h2⟩
          ·rintro ⟨b, h1, h2, h3⟩
           rcases List.mem_append.1 h1 with h | h
           ·exact ⟨b, h, h2, h3⟩
           ·simp at h; subst h; omega)]
       ·rw [decide_eq_false h7]; rfl
  have k2 := fold l [] 0 0 (Arr.rep 6 false) (by simp) (by
   intro k hk
   have : k = 0 ∨ k = 1 ∨ k = 2 ∨ k = 3 ∨ k = 4 ∨ k = 5 := by omega
   rcases this with rfl | rfl | rfl | rfl | rfl | rfl <;> rfl)
  rw [show ((0, 0, Arr.rep 6 false) : Int × Int × Arr Bool 6) = (fun (i : Nat) (s : Int × Arr Bool 6) => (s.1, (i : Int), s.2)) 0 (0, Arr.rep 6 false) from rfl, key, k2]
  rfl
theorem zaL3 (l : List Amount) (g : Int × Int) (h0 : 0 ≤ g.2) (hl : g.2 < (l.length : Int)) (hll : l.length ≤ 1000000) : zb8 (zo2 l g) 0 =
  some (if (List.range' 0 g.2.toNat).all (fun k => decide (l.getD g.2.toNat Amount.zero = Amount.zero) || (decide (l.getD k Amount.zero = Amount.zero) || mC (l.getD g.2.toNat Amount.zero).mode (l.getD k Amount.zero).mode)) = true then .inl () else .inr false) := by
 have hz : ∀ a : Amount, zc6 a = decide (a = Amount.zero) := fun _ => rfl
 have key := zv2 (body := zo2 l g) g.2.toNat (fun i => if (decide (l.getD g.2.toNat Amount.zero = Amount.zero) || (decide (l.getD i Amount.zero = Amount.zero) || mC (l.getD g.2.toNat Amount.zero).mode (l.getD i Amount.zero).mode)) = true then none else some (.inr false)) (.inl ()) (fun i hi => by
  unfold zo2
  have h3 : (i : Int) < g.2 := by omega
  have h4 : IntKind.i64.wrap ((i : Int) + 1) = (i : Int) + 1 := ze1 (by omega) (by omega)
  have h5 : 0 ≤ (i : Int) ∧ (i : Int) < (l.length : Int) := by omega
  simp only [h3, decide_true, if_true, Int.toNat_natCast, h4, h5.1, h5.2, h0, hl, and_self, implies_true, zj7, hz]
  cases decide (l.getD g.2.toNat Amount.zero = Amount.zero) <;> cases decide (l.getD i Amount.zero = Amount.zero) <;> cases hm : zp8 (l.getD g.2.toNat Amount.zero).mode (l.getD i Amount.zero).mode <;> simp only [mC, hm] <;> rfl) (by unfold zo2; rw [if_neg]; simp; omega)
 rw [key, zE6]
 split <;> simp_all
theorem zaz4 (r : Resource) (l : List Amount) (hl : l.length ≤ 1000000) : zj6 r l = some (zaA8 r l) := by
 unfold zj6
 rw [zal8]
 cases hs : zb4 r with
 | false => simp [zaA8, hs]
 | true =>
  have hru : 1 ≤ r.units ∧ r.units ≤ 8 ∧ (r.kind = 1 ∨ r.kind = 2) := by rw [zt4] at hs; omega
  rw [zbt9 r l hs]
  simp only [Bool.not_true, Bool.false_eq_true, if_false]
  have key := zr0 (body := zu3 r l) l Amount.zero (fun i (s : Int) => (s, (i : Int)))
   (fun i a s => some (if zb0 r a = false then .inr (.inr false) else if r.kind = 2 then (if r.units < s + a.units then .inr (.inr false) else .inl (s + a.units)) else
    if (List.range' 0 i).all (fun k => decide (a = Amount.zero) || (decide (l.getD k Amount.zero = Amount.zero) || mC a.mode (l.getD k Amount.zero).mode)) = true then .inl s else .inr (.inr false))) (fun _ => Sum.inl (β := Bool) ()) (fun i s => 0 ≤ s ∧ s ≤ 8)
   (fun i s hi hi2 => by
    refine ⟨?_, fun s' h => ?_⟩
    ·unfold zu3
     have h3 : 0 ≤ (i : Int) ∧ (i : Int) < (l.length : Int) := by omega
     simp only [h3.1, h3.2, and_self, zj7, decide_true, if_true, Int.toNat_natCast, zd5 i (by omega), Option.map_some, zax5, zaL3 l (s, (i : Int)) h3.1 h3.2 hl]
     cases hp : zb0 r (l.getD i Amount.zero) with
     | false => simp [wmap]
     | true =>
      have hb := zE0 hp
      have hw : IntKind.i64.wrap (s + (l.getD i Amount.zero).units) = s + (l.getD i Amount.zero).units := ze1 (by omega) (by omega)
      simp only [hw, Bool.not_true, Bool.false_eq_true, if_false, Bool.true_eq_false, decide_eq_true_eq]
      by_cases h4 : r.kind = 2
      ·by_cases h5 : r.units < s + (l.getD i Amount.zero).units
       ·simp only [h4, h5, if_true, wmap]
       ·simp only [h4, h5, if_true, if_false, wmap]
      ·simp only [h4, if_false]
       split
       ·simp only [zC6, wmap, zd5 i (by omega : i < 4611686018427387904), Option.bind_some]
       ·simp only [wmap, Option.bind_some]
    ·simp only [Option.some.injEq] at h
     split at h
     ·cases h
     ·rename_i hn
      simp only [Bool.not_eq_false] at hn
      have hb := zE0 hn
      split at h
      ·split at h
       ·cases h
       ·cases h; omega
      ·split at h
       ·cases h; exact hi2
       ·cases h)
   (fun s hs => by unfold zu3; simp) 0 (by simp)
  have fold : ∀ (t prev : List Amount) (s : Int), l = prev ++ t → (∀ b ∈ prev, zb0 r b = true) → (r.kind = 1 → s = 0) → s ≤ r.units →
    walk (fun i a (s : Int) => some (if zb0 r a = false then .inr (.inr false) else if r.kind = 2 then (if r.units < s + a.units then .inr (.inr false) else .inl (s + a.units)) else
     if (List.range' 0 i).all (fun k => decide (a = Amount.zero) || (decide (l.getD k Amount.zero = Amount.zero) || mC a.mode (l.getD k Amount.zero).mode)) = true then .inl s else .inr (.inr false))) (fun _ => Sum.inl (β := Bool) ()) t prev.length s = some (if zaA9 r t prev s = true then .inl () else .inr false) := by
   intro t
   induction t with
   | nil => intro prev s _ _ _ _; rfl
   | cons a t ih =>
    intro prev s hlt hpp hs0 hsu
    simp only [walk, zaA9]
    by_cases hp : zb0 r a = true
    ·have hpp' : ∀ b ∈ prev ++ [a], zb0 r b = true := fun b hb => by
      rcases List.mem_append.1 hb with h | h
      ·exact hpp b h
      ·simp at h; subst h; exact hp
     have hlt' : l = (prev ++ [a]) ++ t := by rw [hlt]; simp
     have hlen : (prev ++ [a]).length = prev.length + 1 := by simp
     rcases hru.2.2 with hk | hk
     ·
      have ha := zF9 hp hk
      have hs := hs0 hk
      subst hs
      have hk2 : ¬ r.kind = 2 := by omega
      have hsum : (0 : Int) + a.units ≤ r.units := by omega
      simp only [hp, Bool.true_eq_false, if_false, hk2, hsum, decide_true, Bool.true_and]
      have hall : (List.range' 0 prev.length).all (fun k => decide (a = Amount.zero) || (decide (l.getD k Amount.zero = Amount.zero) || mC a.mode (l.getD k Amount.zero).mode)) = decide (∀ b ∈ prev, ¬ zM4 b a) := by
       rw [Bool.eq_iff_iff, decide_eq_true_eq]
       simp only [List.all_eq_true, List.mem_range'_1, Bool.or_eq_true, decide_eq_true_eq]
       have hget : ∀ k, k < prev.length → l.getD k Amount.zero = prev.getD k Amount.zero := fun k hk => by rw [hlt, zbI9 _ _ _ _ hk]
       have hmem : ∀ k, k < prev.length → prev.getD k Amount.zero ∈ prev := fun k hk => by
        rw [List.getD_eq_getElem?_getD, List.getElem?_eq_getElem hk]; exact List.getElem_mem hk
       have zI9 : ∀ b, zb0 r b = true → (b = Amount.zero ↔ b.mode = 0) := fun b hb => by
        have := zF9 hb hk
        rw [Amount.ext_iff]; simp [Amount.zero]; omega
       constructor
       ·intro hh b hb ⟨c1, c2, c3⟩
        obtain ⟨k, hk1, hk2⟩ := List.mem_iff_getElem.1 hb
        have e : prev.getD k Amount.zero = b := by rw [List.getD_eq_getElem?_getD, List.getElem?_eq_getElem hk1, Option.getD_some, hk2]
        rcases hh k (by omega) with h | h | h
        ·exact c2 ((zI9 a hp).1 h)
        ·rw [hget k hk1, e] at h; exact c1 ((zI9 b (hpp b hb)).1 h)
        ·rw [hget k hk1, e, zaS9, c3] at h; cases h
       ·intro hh k hk1
        have hk2 : k < prev.length := by omega
        rw [hget k hk2]
        have h1 := hh _ (hmem k hk2)
        have h2 := hpp _ (hmem k hk2)
        unfold zM4 at h1
        rw [zI9 a hp, zI9 _ h2]
        by_cases e1 : a.mode = 0
        ·exact .inl e1
        ·by_cases e2 : (prev.getD k Amount.zero).mode = 0
         ·exact .inr (.inl e2)
         ·refine .inr (.inr ?_)
          rw [zaS9]
          simp only [not_and, Bool.not_eq_false] at h1
          exact h1 e2 e1
      rw [hall]
      by_cases h7 : ∀ b ∈ prev, ¬ zM4 b a
      ·rw [decide_eq_true h7]
       simp only [if_true, Bool.true_and]
       have := ih (prev ++ [a]) 0 hlt' hpp' (fun _ => rfl) (by omega)
       rw [hlen] at this
       simp only [hk2, if_false] at this
       rw [this, ha.1]; rfl
      ·rw [decide_eq_false h7]; rfl
     ·
      have ha := zax6 hp hk
      simp only [hp, Bool.true_eq_false, if_false, hk, if_true, Bool.true_and]
      have h7 : ∀ b ∈ prev, ¬ zM4 b a := fun b _ hc => hc.2.1 ha.1
      by_cases h5 : r.units < s + a.units
      ·have : ¬ s + a.units ≤ r.units := by omega
       simp [h5, this]
      ·have : s + a.units ≤ r.units := by omega
       rw [decide_eq_true h7]
       simp only [h5, if_false, this, decide_true, Bool.true_and]
       have h8 := ih (prev ++ [a]) (s + a.units) hlt' hpp' (fun h => by omega) this
       rw [hlen] at h8
       simp only [hk, if_true] at h8
       exact h8
    ·simp [hp]
  rw [show ((0, 0) : Int × Int) = (fun (i : Nat) (s : Int) => (s, (i : Int))) 0 0 from rfl, key]
  have k2 := fold l [] 0 rfl (by simp) (fun _ => rfl) (by omega)
  rw [List.length_nil] at k2
  rw [k2]
  cases zaA9 r l [] 0 <;> rfl
end Ab
end Go.Proofs.YtfjeceicgfdmjaaGreatDoor
namespace Go.Proofs.YtfjeceicgfdmjaaGreatDoor
namespace Ab
set_option linter.unusedVariables false
set_option linter.unusedSimpArgs false
structure GoodP (r : Resource) (l : List Hold) : Prop where
 each : ∀ h ∈ l, zb3 h.proc = true ∧ za9 r h.amount = true
 asc : l.Pairwise fun a b => ltP a.proc b.proc
instance (r : Resource) (l : List Hold) : Decidable (GoodP r l) :=
 decidable_of_iff ((∀ h ∈ l, zb3 h.proc = true ∧ za9 r h.amount = true) ∧ l.Pairwise fun a b => ltP a.proc b.proc) ⟨fun ⟨a, b⟩ => ⟨a, b⟩, fun ⟨a, b⟩ => ⟨a, b⟩⟩
def zq3 (r : Resource) (l : List Hold) : Bool := zb4 r && (decide (l.length ≤ 8) && (decide (GoodP r l) && decide (CompP r (l.map (·.amount)))))
theorem zbu0 {r : Resource} {a : Amount} (h : za9 r a = true) : zb4 r = true := by rw [zD9] at h; rw [zt4]; omega
theorem zj5 {r : Resource} {a : Amount} (h : za9 r a = true) : zb0 r a = true := (perm_iff r a).2 (.inr h)
theorem zE9 {r : Resource} {a : Amount} (h : za9 r a = true) : a ≠ Amount.zero := by
 rw [zD9] at h; intro e; subst e; simp [Amount.zero] at h
def zS1 (r : Resource) : List Hold → Option Proc → Bool
 | [], _ => true
 | h :: t, pv => zb3 h.proc && (za9 r h.amount && ((match pv with | none => true | some q => decide (ltP q h.proc)) && zS1 r t (some h.proc)))
theorem zaL4 (r : Resource) : ∀ (l : List Hold) (pv : Option Proc), zS1 r l pv = true ↔ GoodP r l ∧ ∀ q, pv = some q → ∀ h ∈ l, ltP q h.proc
 | [], pv => by
  simp only [zS1, List.not_mem_nil, false_implies, implies_true, and_true, true_iff]
  exact ⟨by simp, .nil⟩
 | h :: t, pv => by
  simp only [zS1, Bool.and_eq_true]
  rw [zaL4 r t (some h.proc)]
  constructor
  ·rintro ⟨h1, h2, h3, ⟨h4, h5⟩, h6⟩
   refine ⟨⟨fun x hx => ?_, List.pairwise_cons.2 ⟨fun x hx => h6 _ rfl x hx, h5⟩⟩, fun q hq x hx => ?_⟩
   ·rcases List.mem_cons.1 hx with rfl | hx
    ·exact ⟨h1, h2⟩
    ·exact h4 x hx
   ·subst hq
    simp only [decide_eq_true_eq] at h3
    rcases List.mem_cons.1 hx with rfl | hx
    ·exact h3
    ·exact zX0 h3 (h6 _ rfl x hx)
  ·rintro ⟨⟨h1, h2⟩, h3⟩
   rw [List.pairwise_cons] at h2
   refine ⟨(h1 h (.head _)).1, (h1 h (.head _)).2, ?_, ⟨fun x hx => h1 x (.tail _ hx), h2.2⟩, fun q hq x hx => by cases hq; exact h2.1 x hx⟩
   cases pv with
   | none => rfl
   | some q => exact decide_eq_true (h3 q rfl h (.head _))
theorem zX2 (r : Resource) (l : List Hold) : zh2 r l = some (zq3 r l) := by
 unfold zh2 zq3
 cases hs : zb4 r with
 | false => simp
 | true =>
  by_cases h8 : 8 < (l.length : Int)
  ·have : ¬ l.length ≤ 8 := by omega
   simp [h8, this]
  ·have hl8 : l.length ≤ 8 := by omega
   simp only [Bool.not_true, Bool.false_or, h8, decide_false, Bool.false_eq_true, if_false, hl8, decide_true, Bool.true_and]
   have key := zr0 (body := zB5 r l) l Hold.zero (fun i (s : List Amount) => ((i : Int), s))
    (fun i h s => some (if zb3 h.proc = true ∧ za9 r h.amount = true ∧ (i = 0 ∨ ltP (l.getD (i - 1) Hold.zero).proc h.proc) then .inl (s ++ [h.amount]) else .inr (.inr false))) (fun s => Sum.inl (β := Bool) s) (fun i s => s.length ≤ i)
    (fun i s hi hs => by
     refine ⟨?_, fun s' h => ?_⟩
     ·unfold zB5
      have h1 : s.length + 1 ≤ 4294967296 := by omega
      have h3 : 0 ≤ (i : Int) ∧ (i : Int) < (l.length : Int) := by omega
      simp only [h1, h3.1, h3.2, and_self, zj7, decide_true, if_true, Int.toNat_natCast, zal7, zd5 i (by omega), Option.map_some, decide_eq_true_eq, Bool.and_eq_true, Bool.or_eq_true, Bool.not_eq_true']
      by_cases e1 : zb3 (l.getD i Hold.zero).proc = false ∨ za9 r (l.getD i Hold.zero).amount = false
      ·rw [if_pos e1, if_neg (by rintro ⟨k1, k2, _⟩; rcases e1 with e | e <;> simp_all)]; rfl
      ·rw [if_neg e1]
       simp only [not_or, Bool.not_eq_false] at e1
       by_cases e2 : i = 0
       ·subst e2
        rw [gdp (by omega)]
        simp only [Int.natCast_zero, Int.lt_irrefl, if_false, Option.bind_some, false_and, e1, and_self, true_or, if_true, wmap]
       ·have w : IntKind.i64.wrap ((i : Int) - 1) = ((i - 1 : Nat) : Int) := zac0 i (by omega) (by omega)
        rw [gdp (by rw [w]; omega)]
        simp only [w, Int.toNat_natCast, show (0 : Int) < (i : Int) by omega, if_true, Option.bind_some, true_and, zaO9, e1, e2, false_or]
        by_cases e3 : ltP (l.getD (i - 1) Hold.zero).proc (l.getD i Hold.zero).proc
        ·simp only [e3, not_true, if_false, if_true, wmap]
        ·simp only [e3, not_false_eq_true, if_true, if_false, wmap]
     ·simp only [Option.some.injEq] at h
      split at h
      ·cases h; simp; omega
      ·cases h)
    (fun s hs => by unfold zB5; simp) [] (by simp)
   have fold : ∀ (t prev : List Hold) (s : List Amount), l = prev ++ t →
     walk (fun i h (s : List Amount) => some (if zb3 h.proc = true ∧ za9 r h.amount = true ∧ (i = 0 ∨ ltP (l.getD (i - 1) Hold.zero).proc h.proc) then .inl (s ++ [h.amount]) else .inr (.inr false))) (fun s => Sum.inl (β := Bool) s) t prev.length s =
      some (if zS1 r t (prev.getLast?.map (·.proc)) = true then .inl (s ++ t.map (·.amount)) else .inr false) := by
    intro t
    induction t with
    | nil => intro prev s _; simp [walk, zS1]
    | cons h t ih =>
     intro prev s hlt
     simp only [walk]
     have hq : (prev.length = 0 ∨ ltP (l.getD (prev.length - 1) Hold.zero).proc h.proc) ↔ (match prev.getLast?.map (·.proc) with | none => true | some q => decide (ltP q h.proc)) = true := by
      rcases List.eq_nil_or_concat prev with rfl | ⟨pp, x, rfl⟩
      ·simp
      ·have : (l.getD ((pp.concat x).length - 1) Hold.zero) = x := by
        rw [hlt]; simp [List.getD_eq_getElem?_getD]
       rw [this]; simp
     by_cases e : zb3 h.proc = true ∧ za9 r h.amount = true ∧ (prev.length = 0 ∨ ltP (l.getD (prev.length - 1) Hold.zero).proc h.proc)
     ·rw [if_pos e]
      have := ih (prev ++ [h]) (s ++ [h.amount]) (by rw [hlt]; simp)
      rw [show (prev ++ [h]).length = prev.length + 1 by simp] at this
      simp only
      have ht : zS1 r (h :: t) (prev.getLast?.map (·.proc)) = zS1 r t (some h.proc) := by simp only [zS1, e.1, e.2.1, hq.1 e.2.2, Bool.true_and]
      rw [this, ht]
      simp
     ·rw [if_neg e]
      rw [hq] at e
      have hf : zS1 r (h :: t) (prev.getLast?.map (·.proc)) = false := by
       rw [Bool.eq_false_iff]
       intro hh
       simp only [zS1, Bool.and_eq_true] at hh
       exact e ⟨hh.1, hh.2.1, hh.2.2.1⟩
      rw [hf]; rfl
   have k2 := fold l [] [] rfl
   rw [List.length_nil] at k2
   rw [show ((0, []) : Int × List Amount) = (fun (i : Nat) (s : List Amount) => ((i : Int), s)) 0 [] from rfl, key, k2]
   have hg := zaL4 r l none
   by_cases e : zS1 r l none = true
   ·have hgp : GoodP r l := (hg.1 e).1
    rw [if_pos (by simpa using e)]
    simp only [Option.bind_some, zH1, List.nil_append]
    rw [zau9 r _ (by simp; omega)]
    simp [zaA8, hs, hgp]
   ·have hgp : ¬ GoodP r l := fun h => e (hg.2 ⟨h, by simp⟩)
    rw [if_neg (by simpa using e)]
    simp [hgp]
theorem zaL5 (l : List Hold) (hl : l.length ≤ 1000000) : zp6 l = some (l.map (·.amount)) := by
 unfold zp6
 have key := zr0 (body := zB7 l) l Hold.zero (fun i (s : List Amount) => ((i : Int), s)) (fun i h s => some (.inl (zal5 s (some h.amount)))) (fun s => s) (fun i s => s.length ≤ i)
  (fun i s hi hs => by
   refine ⟨?_, fun s' h => ?_⟩
   ·unfold zB7
    have h1 : s.length + 1 ≤ 4294967296 := by omega
    have h3 : 0 ≤ (i : Int) ∧ (i : Int) < (l.length : Int) := by omega
    simp only [h1, h3.1, h3.2, and_self, zj7, decide_true, if_true, Int.toNat_natCast, zd5 i (by omega), Option.map_some, wmap, zal5]
   ·simp only [Option.some.injEq, Sum.inl.injEq] at h; subst h; simp [zal5]; omega)
  (fun s hs => by unfold zB7; simp) [] (by simp)
 rw [show ((0, []) : Int × List Amount) = (fun (i : Nat) (s : List Amount) => ((i : Int), s)) 0 [] from rfl, key, zal6 (fun h : Hold => some h.amount)]
 simp [zH5]
theorem zae9 (r : Resource) (l : List Hold) : zp1 r l = some (zq3 r l) := by
 unfold zp1 zq3
 rw [zal8]
 cases hs : zb4 r with
 | false => simp
 | true =>
  by_cases h8 : 8 < (l.length : Int)
  ·have : ¬ l.length ≤ 8 := by omega
   simp [h8, this]
  ·have hl8 : l.length ≤ 8 := by omega
   simp only [Bool.not_true, Bool.false_or, h8, decide_false, Bool.false_eq_true, if_false, hl8, decide_true, Bool.true_and]
   have key := zr0 (body := zF6 r l) l Hold.zero (fun i (_ : Unit) => (i : Int))
    (fun i h _ => some (if zb3 h.proc = true ∧ za9 r h.amount = true ∧ (i = 0 ∨ ltP (l.getD (i - 1) Hold.zero).proc h.proc) then .inl () else .inr (.inr false))) (fun _ => Sum.inl (β := Bool) ()) (fun i s => True)
    (fun i s hi _ => by
     refine ⟨?_, fun _ _ => trivial⟩
     unfold zF6
     have h3 : 0 ≤ (i : Int) ∧ (i : Int) < (l.length : Int) := by omega
     simp only [h3.1, h3.2, and_self, implies_true, zj7, decide_true, if_true, Int.toNat_natCast, zd5 i (by omega), Option.map_some, zau8, zax4]
     by_cases e2 : i = 0
     ·subst e2
      rw [gdp (by simp)]
      by_cases e1 : zb3 (l.getD 0 Hold.zero).proc = true
      ·by_cases e3 : za9 r (l.getD 0 Hold.zero).amount = true
       ·simp only [e1, e3]; simp [wmap]
       ·simp only [e1, e3]; simp [wmap]
      ·simp only [e1]; simp [wmap]
     ·have w : IntKind.i64.wrap ((i : Int) - 1) = ((i - 1 : Nat) : Int) := zac0 i (by omega) (by omega)
      rw [gdp (fun _ => by rw [w]; omega)]
      simp only [w, Int.toNat_natCast, show (0 : Int) < (i : Int) by omega, decide_true, Bool.true_and, zaO9, e2, false_or]
      by_cases e1 : zb3 (l.getD i Hold.zero).proc = true
      ·by_cases e3 : za9 r (l.getD i Hold.zero).amount = true
       ·by_cases e4 : ltP (l.getD (i - 1) Hold.zero).proc (l.getD i Hold.zero).proc
        ·simp only [e1, e3, e4]; simp [wmap]
        ·simp only [e1, e3, e4]; simp [wmap]
       ·simp only [e1, e3]; simp [wmap]
      ·simp only [e1]; simp [wmap])
    (fun s hs => by unfold zF6; simp) () trivial
   have fold : ∀ (t prev : List Hold), l = prev ++ t →
     walk (fun i h (_ : Unit) => some (if zb3 h.proc = true ∧ za9 r h.amount = true ∧ (i = 0 ∨ ltP (l.getD (i - 1) Hold.zero).proc h.proc) then .inl () else .inr (.inr false))) (fun _ => Sum.inl (β := Bool) ()) t prev.length () =
      some (if zS1 r t (prev.getLast?.map (·.proc)) = true then .inl () else .inr false) := by
    intro t
    induction t with
    | nil => intro prev _; simp [walk, zS1]
    | cons h t ih =>
     intro prev hlt
     simp only [walk]
     have hq : (prev.length = 0 ∨ ltP (l.getD (prev.length - 1) Hold.zero).proc h.proc) ↔ (match prev.getLast?.map (·.proc) with | none => true | some q => decide (ltP q h.proc)) = true := by
      rcases List.eq_nil_or_concat prev with rfl | ⟨pp, x, rfl⟩
      ·simp
      ·have : (l.getD ((pp.concat x).length - 1) Hold.zero) = x := by
        rw [hlt]; simp [List.getD_eq_getElem?_getD]
       rw [this]; simp
     by_cases e : zb3 h.proc = true ∧ za9 r h.amount = true ∧ (prev.length = 0 ∨ ltP (l.getD (prev.length - 1) Hold.zero).proc h.proc)
     ·rw [if_pos e]
      have := ih (prev ++ [h]) (by rw [hlt]; simp)
      rw [show (prev ++ [h]).length = prev.length + 1 by simp] at this
      simp only
      have ht : zS1 r (h :: t) (prev.getLast?.map (·.proc)) = zS1 r t (some h.proc) := by simp only [zS1, e.1, e.2.1, hq.1 e.2.2, Bool.true_and]
      rw [this, ht]
      simp
     ·rw [if_neg e]
      rw [hq] at e
      have hf : zS1 r (h :: t) (prev.getLast?.map (·.proc)) = false := by
       rw [Bool.eq_false_iff]
       intro hh
       simp only [zS1, Bool.and_eq_true] at hh
       exact e ⟨hh.1, hh.2.1, hh.2.2.1⟩
      rw [hf]; rfl
   have k2 := fold l [] rfl
   rw [List.length_nil] at k2
   rw [show (0 : Int) = (fun (i : Nat) (_ : Unit) => (i : Int)) 0 () from rfl, key, k2]
   have hg := zaL4 r l none
   by_cases e : zS1 r l none = true
   ·have hgp : GoodP r l := (hg.1 e).1
    rw [if_pos (by simpa using e)]
    simp only [Option.bind_some, zN7]
    rw [zaL5 l (by omega), Option.bind_some, zaz4 r _ (by simp; omega)]
    simp [zaA8, hs, hgp]
   ·have hgp : ¬ GoodP r l := fun h => e (hg.2 ⟨h, by simp⟩)
    rw [if_neg (by simpa using e)]
    simp [hgp]
theorem zaG1 (p : Proc) (a : Amount) (l : List Hold) : (insP p a l).length = l.length + 1 := by
 induction l with
 | nil => rfl
 | cons h t ih => simp only [insP]; split <;> simp [ih]
theorem zbu1 (l : List Hold) (p : Proc) (a : Amount) : (setL l p a).length ≤ l.length + 1 := by
 have := zae8 p l
 unfold setL
 split
 ·omega
 ·rw [zaG1]; omega
theorem zM5 {r : Resource} {l : List Hold} (h : zq3 r l = true) : l.length ≤ 8 := by
 unfold zq3 at h; simp at h; exact h.2.1
def zE1 (r : Resource) (l : List Hold) (p : Proc) (a : Amount) : Bool := zq3 r l && (zb3 p && za9 r a)
def zG0 (r : Resource) (l : List Hold) (p : Proc) (a : Amount) : Bool := zE1 r l p a && zq3 r (setL l p a)
theorem zbJ0 (r : Resource) (l : List Hold) (p : Proc) (a : Amount) : zi8 r l p a = some (zE1 r l p a) := by
 unfold zi8 zE1
 rw [zX2, Option.bind_some, Bool.and_assoc]
theorem zbF0 (r : Resource) (l : List Hold) (p : Proc) (a : Amount) : zk0 r l p a = some (zG0 r l p a) := by
 unfold zk0 zG0
 rw [zbJ0, Option.bind_some]
 cases h : zE1 r l p a with
 | false => simp
 | true =>
  have hv : zq3 r l = true := by unfold zE1 at h; simp at h; exact h.1
  simp only [if_true]
  rw [zU8 l p a (by have := zM5 hv; omega), Option.bind_some, zX2]
  simp
theorem zbu2 (r : Resource) (l : List Hold) (p : Proc) (a : Amount) : zz8 r l p a = some (zG0 r l p a) := by
 unfold zz8 zG0
 rw [zae9, Option.bind_some, zau8, zax4, Bool.and_assoc]
 change ((if zE1 r l p a = true then _ else _) : Option (List Hold)).bind _ = _
 cases h : zE1 r l p a with
 | false => unfold zE1 at h; simp [h]
 | true =>
  have hv : zq3 r l = true := by unfold zE1 at h; simp at h; exact h.1
  unfold zE1 at h
  simp only [h, if_true]
  rw [zU7 l p a (by have := zM5 hv; omega), Option.bind_some, zae9]
  simp
end Ab
end Go.Proofs.YtfjeceicgfdmjaaGreatDoor
namespace Go.Proofs.YtfjeceicgfdmjaaGreatDoor
namespace Ab
set_option linter.unusedVariables false
set_option linter.unusedSimpArgs false
def zM6 (p : Proc) : List Wait → Nat → Option Nat
 | [], _ => none
 | w :: l, i => if w.proc = p then some i else zM6 p l (i + 1)
def zy9 (l : List Wait) (p : Proc) : Int := match zM6 p l 0 with
 | some i => i
 | none => -1
theorem zaP0 (l : List Wait) (p : Proc) : ∀ k i, i + k = l.length → zr3 (fun i => if (l.getD i Wait.zero).proc = p then some (i : Int) else none) k i = (zM6 p (l.drop i) i).map fun n : Nat => (n : Int)
 | 0, i, h => by rw [List.drop_eq_nil_of_le (by omega)]; rfl
 | k + 1, i, h => by
  rw [zW9 l i Wait.zero (by omega)]
  simp only [zr3, zM6]
  by_cases hp : (l.getD i Wait.zero).proc = p
  ·simp only [hp, if_true, Option.map_some]
  ·simp only [hp, if_false]
   exact zaP0 l p k (i + 1) (by omega)
theorem zU9 (l : List Wait) (p : Proc) (hl : l.length < 4611686018427387904) : zl6 l p = some (zy9 l p) := by
 unfold zl6
 have key : zb8 (zL3 l p) 0 = some ((zr3 (fun i => if (l.getD i Wait.zero).proc = p then some (Sum.inr (i : Int)) else none) l.length 0).getD (Sum.inl ())) := by
  refine zv2 l.length _ (Sum.inl ()) (fun i hi => ?_) ?_
  ·unfold zL3
   rw [if_pos (by simpa using hi), zb2 (by omega)]
   simp only [Int.toNat_natCast, decide_eq_true_eq]
   split
   ·rfl
   ·rw [ze1 (by omega) (by omega)]
  ·unfold zL3
   rw [if_neg (by simp)]
 rw [key]
 have h2 := zaP0 l p l.length 0 (by omega)
 have h3 : ∀ k i, zr3 (fun i => if (l.getD i Wait.zero).proc = p then some (Sum.inr (α := Unit) (i : Int)) else none) k i = (zr3 (fun i => if (l.getD i Wait.zero).proc = p then some (i : Int) else none) k i).map Sum.inr := by
  intro k
  induction k with
  | zero => intro i; rfl
  | succ k ih =>
   intro i
   simp only [zr3]
   by_cases hp : (l.getD i Wait.zero).proc = p
   ·simp only [hp, if_true, Option.map_some]
   ·simp only [hp, if_false, ih]
 rw [h3, h2, List.drop_zero]
 unfold zy9
 cases zM6 p l 0 <;> rfl
theorem zQ2 (l : List Wait) (p : Proc) (hl : l.length < 4611686018427387904) : zn6 l p = some (zy9 l p) := by
 have e : zn6 l p = zl6 l p := rfl
 rw [e]; exact zU9 l p hl
theorem zab6 (w : Wait) : zh9 w = zc1 w := by
 unfold zh9 zc1 ze5 zb3 zp4 zF7 za9 zb4 zj2 zf9
 rw [Bool.eq_iff_iff]
 simp
 omega
def zC8 (l : List Wait) : Bool := decide (l.length ≤ 8) && (List.range l.length).all fun i => zc1 (l.getD i Wait.zero) && decide (zy9 l (l.getD i Wait.zero).proc = i)
theorem zaj4 (l : List Wait) : zn3 l = some (zC8 l) := by
 unfold zn3 zC8
 by_cases h8 : 8 < (l.length : Int)
 ·rw [if_pos (by simpa using h8)]
  have : ¬ l.length ≤ 8 := by omega
  simp [this]
 ·rw [if_neg (by simpa using h8)]
  have hl : l.length < 4611686018427387904 := by omega
  have key : zb8 (zy2 l) 0 = some ((zr3 (fun i => if (zc1 (l.getD i Wait.zero) && decide (zy9 l (l.getD i Wait.zero).proc = i)) = true then none else some (Sum.inr false)) l.length 0).getD (Sum.inl ())) := by
   refine zv2 l.length _ (Sum.inl ()) (fun i hi => ?_) ?_
   ·unfold zy2
    rw [if_pos (by simpa using hi), zb2 (by omega)]
    simp only [Int.toNat_natCast]
    by_cases hv : zc1 (l.getD i Wait.zero) = true
    ·simp only [hv, if_true, zU9 l _ hl, Option.bind_some, Bool.not_true, Bool.false_or, Bool.true_and]
     by_cases hf : zy9 l (l.getD i Wait.zero).proc = (i : Int)
     ·simp only [hf, decide_true, Bool.not_true, Bool.false_eq_true, if_false, if_true]
      rw [ze1 (by omega) (by omega)]
     ·simp only [hf, decide_false, Bool.not_false, if_true, Bool.false_eq_true, if_false]
    ·have hv : zc1 (l.getD i Wait.zero) = false := by simpa using hv
     simp only [hv, Bool.false_eq_true, if_false, Option.bind_some, Bool.not_false, Bool.true_or, if_true, Bool.false_and]
   ·unfold zy2
    rw [if_neg (by simp)]
  rw [key, zE6, ← List.range_eq_range']
  have : l.length ≤ 8 := by omega
  simp only [this, decide_true, Bool.true_and]
  cases (List.range l.length).all fun i => zc1 (l.getD i Wait.zero) && decide (zy9 l (l.getD i Wait.zero).proc = i) <;> rfl
theorem zav0 (l : List Wait) : zs1 l = some (zC8 l) := by
 rw [← zaj4 l]
 unfold zs1 zn3
 by_cases h8 : 8 < (l.length : Int)
 ·rw [if_pos (decide_eq_true h8), if_pos (decide_eq_true h8)]
 ·rw [if_neg (by simpa using h8), if_neg (by simpa using h8)]
  have hl : l.length < 4611686018427387904 := by omega
  have e : zN8 l = zy2 l := funext fun i => by
   unfold zN8 zy2
   by_cases hi : i < (l.length : Int)
   ·rw [if_pos (decide_eq_true hi), if_pos (decide_eq_true hi)]
    by_cases h0 : 0 ≤ i ∧ i < (l.length : Int)
    ·rw [zb2 h0, zb2 h0, zb2 (fun _ => h0)]
     simp only [zab6, zQ2 l _ hl, zU9 l _ hl]
    ·unfold gd; rw [if_neg h0, if_neg h0]
   ·rw [if_neg (by simpa using hi)]; rw [if_neg (by simpa using hi)]
  rw [e]
  rfl
theorem zbu3 {p : Proc} : ∀ {l : List Wait} {i j : Nat}, zM6 p l i = some j → i ≤ j ∧ j < i + l.length
 | w :: l, i, j, h => by
  simp only [zM6] at h
  split at h
  ·cases h; simp
  ·have := zbu3 h; simp only [List.length_cons]; omega
theorem zbu4 (l : List Wait) (p : Proc) : zy9 l p = -1 ∨ 0 ≤ zy9 l p ∧ zy9 l p < l.length := by
 unfold zy9
 cases h : zM6 p l 0 with
 | none => exact .inl rfl
 | some j => right; have := zbu3 h; simp only; omega
def over (w e : Wait) : Bool := decide (e.priority < w.priority) && decide (e.passed < 3)
theorem zcj7 (w e : Wait) : decide (zS0 w e = 1) = over w e := by
 unfold zS0 over
 cases (decide (e.priority < w.priority) && decide (e.passed < 3)) <;> rfl
def zq4 (l : List Wait) (w : Wait) : Nat → Nat
 | 0 => 0
 | k + 1 => if over w (l.getD k Wait.zero) = true then zq4 l w k else k + 1
theorem zal9 (l : List Wait) (w : Wait) : ∀ k, zq4 l w k ≤ k
 | 0 => Nat.le_refl _
 | k + 1 => by unfold zq4; split <;> have := zal9 l w k <;> omega
def bump (e : Wait) : Wait := { e with passed := IntKind.i64.wrap (e.passed + 1) }
def zaq8 (l : List Wait) (w : Wait) (n : Nat) : List Wait := l.take n ++ w :: (l.drop n).map bump
def insS (l : List Wait) (w : Wait) : List Wait × Int × Int :=
 if zC8 l = false then ([], 0, 2)
 else if zc1 w = false ∨ w.passed ≠ 0 then ([], 0, 1)
 else if 0 ≤ zy9 l w.proc then ([], 0, 11)
 else if l.length = 8 then ([], 0, 4)
 else (zaq8 l w (zq4 l w l.length), (zq4 l w l.length : Int), 0)
theorem zao5 {l : List Wait} (h : zC8 l = true) : l.length ≤ 8 := by
 simp only [zC8, Bool.and_eq_true, decide_eq_true_eq] at h; exact h.1
theorem zaZ4 (l : List Wait) (w : Wait) : zr7 l w = some (insS l w) := by
 unfold zr7 insS
 rw [zaj4, Option.bind_some]
 cases hv : zC8 l with
 | false => rfl
 | true =>
  have h8 := zao5 hv
  simp only [Bool.not_true, Bool.false_eq_true, Bool.true_eq_false, if_false]
  by_cases hw : zc1 w = false ∨ w.passed ≠ 0
  ·rw [if_pos hw, if_pos (by rcases hw with h | h <;> simp [h])]
  ·have hw1 : zc1 w = true := by simpa using fun h => hw (.inl h)
   have hw2 : w.passed = 0 := by simpa using fun h => hw (.inr h)
   rw [if_neg hw, if_neg (by simp [hw1, hw2]), zU9 _ _ (by omega), Option.bind_some]
   by_cases hf : 0 ≤ zy9 l w.proc
   ·rw [if_pos hf, if_pos (decide_eq_true hf)]
   ·rw [if_neg hf, if_neg (by simpa using hf)]
    by_cases h9 : l.length = 8
    ·rw [if_pos h9, if_pos (decide_eq_true (by omega))]
    ·rw [if_neg h9, if_neg (by simp; omega), ze1 (by omega) (by omega), zb2 (by omega)]
     have e1 : ((l.length : Int) + 1).toNat = l.length + 1 := by omega
     rw [e1, List.take_zero, List.nil_append, List.take_of_length_le (show l.length ≤ l.length + 1 by omega), Nat.zero_add, Nat.min_eq_left (show l.length ≤ l.length + 1 by omega)]
     obtain ⟨x, hx, h1, h2, h3, h4⟩ := zQ1 (body := zN6 w) (fun g => ∃ i : Nat, g.1 = i ∧ i ≤ l.length ∧ g.2.length = l.length + 1 ∧ g.2.take i = l.take i ∧ g.2.drop (i + 1) = (l.drop i).map bump ∧ zq4 l w l.length = zq4 l w i) (fun g => g.1.toNat)
      (fun x => x.1 = (zq4 l w l.length : Nat) ∧ x.2.length = l.length + 1 ∧ x.2.take (zq4 l w l.length) = l.take (zq4 l w l.length) ∧ x.2.drop (zq4 l w l.length + 1) = (l.drop (zq4 l w l.length)).map bump) (fun g ⟨i, g1, g2, g3, g4, g5, g6⟩ => by
       obtain ⟨gi, r⟩ := g
       simp only at g1 g3 g4 g5
       subst g1
       unfold zN6
       simp only [zcj7]
       cases i with
       | zero =>
        refine .inr ⟨(0, r), ?_, by simp [g6, zq4], g3, by simp [g6, zq4], by simpa [g6, zq4] using g5⟩
        rw [zb2 (by simp)]
        rfl
       | succ i =>
        have hgd : r.getD i Wait.zero = l.getD i Wait.zero := by
         rw [← zbi7 r i (i + 1) _ (by omega), g4, zbi7 _ _ _ _ (by omega)]
        have e2 : IntKind.i64.wrap (((i + 1 : Nat) : Int) - 1) = (i : Int) := by rw [ze1 (by omega) (by omega)]; omega
        simp only [e2, Int.toNat_natCast, hgd]
        rw [zb2 (by omega)]
        by_cases ho : over w (l.getD i Wait.zero) = true
        ·left
         rw [if_pos (by simp only [ho, Bool.and_true, decide_eq_true_eq]; omega), zb2 (by omega), zb2 (by omega), zb2 (by omega), zb2 (by omega), zaj3 _ _ _ _ (by omega), List.set_set]
         refine ⟨_, rfl, ⟨i, rfl, by omega, by simpa using g3, ?_, ?_, by rw [g6, zq4, if_pos ho]⟩, by simp only [Int.toNat_natCast]; omega⟩
         ·rw [List.take_set_of_le (by omega)]
          have := congrArg (List.take i) g4
          rwa [List.take_take, List.take_take, Nat.min_eq_left (by omega)] at this
         ·rw [zW9 l i Wait.zero (by omega), List.map_cons, ← g5, List.drop_eq_getElem_cons (by rw [List.length_set]; omega), List.getElem_set_self, List.drop_set_of_lt (by omega)]
          rfl
        ·right
         refine ⟨((i + 1 : Nat), r), ?_, by rw [g6, zq4, if_neg ho], g3, ?_, ?_⟩
         ·rw [if_neg (by rw [Bool.and_eq_true]; exact fun h => ho h.2)]
         ·rw [g6, zq4, if_neg ho]; exact g4
         ·rw [g6, zq4, if_neg ho]; exact g5) ((l.length : Int), l ++ List.drop l.length (List.replicate (l.length + 1) Wait.zero)) ⟨l.length, rfl, Nat.le_refl _, by simp, by simp, by simp, rfl⟩
     rw [hx, Option.bind_some]
     have hp := zal9 l w l.length
     obtain ⟨xi, r⟩ := x
     simp only at h1 h2 h3 h4
     subst h1
     unfold zN5
     rw [zb2 (by simp only; omega)]
     simp only [Int.toNat_natCast, zaq8]
     rw [List.set_eq_take_append_cons_drop, if_pos (by omega), h3, h4]
theorem zaR0 (l : List Wait) (w : Wait) : zx0 l w = some (insS l w) := by
 unfold zx0 insS
 rw [zav0, Option.bind_some]
 cases hv : zC8 l with
 | false => rfl
 | true =>
  have h8 := zao5 hv
  simp only [Bool.not_true, Bool.false_eq_true, Bool.true_eq_false, if_false, zab6]
  by_cases hw : zc1 w = false ∨ w.passed ≠ 0
  ·rw [if_pos hw, if_pos (by rcases hw with h | h <;> simp [h])]
  ·have hw1 : zc1 w = true := by simpa using fun h => hw (.inl h)
   have hw2 : w.passed = 0 := by simpa using fun h => hw (.inr h)
   rw [if_neg hw, if_neg (by simp [hw1, hw2]), zQ2 _ _ (by omega), Option.bind_some]
   by_cases hf : 0 ≤ zy9 l w.proc
   ·rw [if_pos hf, if_pos (decide_eq_true hf)]
   ·rw [if_neg hf, if_neg (by simpa using hf)]
    by_cases h9 : l.length = 8
    ·rw [if_pos h9, if_pos (decide_eq_true (by omega))]
    ·rw [if_neg h9, if_neg (by simp; omega)]
     have h2 := zaY9 (body := zK1 l w) (fun g => ∃ i : Nat, g = i ∧ i ≤ l.length) (fun g => g.toNat) (fun g => ((zq4 l w g.toNat : Nat) : Int)) (fun g ⟨i, g1, g2⟩ => by
      subst g1
      unfold zK1
      cases i with
      | zero => right; rw [zb2 (by simp), zb2 (by simp)]; rfl
      | succ i =>
       have e2 : IntKind.i64.wrap (((i + 1 : Nat) : Int) - 1) = (i : Int) := by rw [ze1 (by omega) (by omega)]; omega
       simp only [e2, Int.toNat_natCast]
       rw [zb2 (by omega), zb2 (by omega), Bool.and_assoc]
       by_cases ho : over w (l.getD i Wait.zero) = true
       ·left
        rw [if_pos (by unfold over at ho; simp only [ho, Bool.and_true, decide_eq_true_eq]; omega)]
        exact ⟨_, rfl, ⟨i, rfl, by omega⟩, by simp only [Int.toNat_natCast]; omega, by simp only [Int.toNat_natCast, zq4, ho, if_true]⟩
       ·right
        rw [if_neg (by rw [Bool.and_eq_true]; exact fun h => ho h.2)]
        simp only [zq4, if_neg ho]) (l.length : Int) ⟨l.length, rfl, Nat.le_refl _⟩
     rw [h2, Option.bind_some]
     simp only [Int.toNat_natCast]
     have hp := zal9 l w l.length
     generalize zq4 l w l.length = n at hp
     unfold zK0
     simp only [Int.toNat_natCast]
     rw [zb2 (by omega), zb2 (by simp; omega), zb2 (by simp; omega)]
     have key := zbt6 (body := zD6 l) l.length (fun i s => .inl (s ++ [bump (l.getD i Wait.zero)])) (fun s => s) (fun i s => s.length ≤ i + 1) (fun i s hi hs => by
      refine ⟨?_, fun s' h => by cases h; simp; omega⟩
      unfold zD6
      rw [if_pos (decide_eq_true (by simp only; omega)), zb2 (by simp only; omega), zb2 (by simp only; omega), ze1 (by simp only; omega) (by simp only; omega)]
      rfl) (fun s hs => by
      unfold zD6
      rw [if_neg (by simp)]) (l.length - n) n (l.take n ++ [w]) (by omega) (by simp only [List.length_append, List.length_take, List.length_cons, List.length_nil]; omega)
     have e3 : (l.drop n).take (l.length - n) = l.drop n := List.take_of_length_le (by simp)
     rw [key, zaZ0, zaZ2 l Wait.zero bump _ n (by omega), e3, Option.bind_some]
     simp [zJ9, zaq8]
def notP (p : Proc) (w : Wait) : Bool := !decide (w.proc = p)
def rmL (l : List Wait) (p : Proc) : List Wait := l.filter (notP p)
theorem zcj8 (l : List Wait) (p : Proc) : (rmL l p).length ≤ l.length := List.length_filter_le _ _
theorem zaf0 (l : List Wait) (p : Proc) (hl : l.length < 4294967296) : zm7 l p = some (rmL l p, decide ((rmL l p).length < l.length)) := by
 unfold zm7
 have key := zbI7 (body := zv1 l p) l.length (fun i s => .inl (if notP p (l.getD i Wait.zero) = true then s ++ [l.getD i Wait.zero] else s)) (fun s => s) (fun i s => s.length ≤ i) (fun i s hi hs => by
  refine ⟨?_, fun s' h => by simp only [Sum.inl.injEq] at h; subst h; split <;> first | omega | (simp only [List.length_append, List.length_cons, List.length_nil]; omega)⟩
  unfold zv1
  rw [if_pos (decide_eq_true (by simp only; omega)), zb2 (by simp only; omega), ze1 (by simp only; omega) (by simp only; omega)]
  simp only [Int.toNat_natCast]
  by_cases hp : (!decide ((l.getD i Wait.zero).proc = p)) = true
  ·rw [if_pos hp, if_pos (show notP p _ = true from hp), zb2 (by omega)]
  ·rw [if_neg hp, if_neg (show ¬ notP p _ = true from hp)]) (fun s hs => by
  unfold zv1
  rw [if_neg (by simp)]) [] (Nat.zero_le _)
 rw [key, zaZ1 l Wait.zero (notP p) l.length 0 [] (by omega), List.nil_append, List.drop_zero, Option.bind_some]
 unfold zO8 rmL
 simp
theorem zaq9 (l : List Wait) (p : Proc) (hl : l.length < 4294967296) : zl9 l p = some (rmL l p, decide ((rmL l p).length < l.length)) := by
 rw [← zaf0 l p hl]
 unfold zl9 zm7
 have e : zK3 l p = zv1 l p := funext fun g => by
  unfold zK3 zv1
  by_cases hi : g.1 < (l.length : Int)
  ·rw [if_pos (decide_eq_true hi), if_pos (decide_eq_true hi)]
   by_cases h0 : 0 ≤ g.1 ∧ g.1 < (l.length : Int)
   ·rw [zb2 h0, zb2 h0, zb2 h0]
   ·unfold gd; rw [if_neg h0, if_neg h0]
  ·rw [if_neg (by simpa using hi)]; rw [if_neg (by simpa using hi)]
 rw [e]; rfl
def cl (i : Nat) (pr : Int) : Wait := ⟨⟨(i % 8 % 4 : Nat), 1, (1 + i % 8 / 4 : Nat)⟩, ⟨5, 0⟩, pr, 0⟩
theorem zaZ5 {p : Proc} : ∀ {l : List Wait} {i : Nat}, zM6 p l i = none ↔ ∀ w ∈ l, w.proc ≠ p
 | [], i => by simp [zM6]
 | w :: l, i => by
  simp only [zM6]
  by_cases h : w.proc = p
  ·simp [h]
  ·simp only [h, if_false, zaZ5 (l := l), List.mem_cons, forall_eq_or_imp, ne_eq, not_false_eq_true, true_and]
theorem zbJ1 {l : List Wait} {p : Proc} : ¬ 0 ≤ zy9 l p ↔ ∀ w ∈ l, w.proc ≠ p := by
 rw [← zaZ5 (i := 0)]
 unfold zy9
 cases zM6 p l 0 <;> simp
theorem zaL6 {w : Wait} (h : zc1 w = true) : 0 ≤ w.passed ∧ w.passed ≤ 3 := by
 unfold zc1 at h
 simp only [Bool.and_eq_true, decide_eq_true_eq] at h
 exact ⟨h.1.2, h.2⟩
end Ab
end Go.Proofs.YtfjeceicgfdmjaaGreatDoor
