/-
  Names, resources, what is held, what covers: both sides say the same.
-/
import Derived.Test.YtfjeceicgfdmjaaGreatDoorLinA
namespace Go.Proofs.YtfjeceicgfdmjaaGreatDoor
namespace Ab
set_option linter.unusedVariables false
set_option linter.unusedSimpArgs false
theorem zbw8 (s : ByteArray) : zw9 s = zp2 s := by
 unfold zw9 zp2 zj2
 generalize (s.toList == _) = a
 generalize (s.toList == _) = b
 generalize (s.toList == _) = c
 generalize (s.toList == _) = d
 generalize (s.toList == _) = e
 cases a <;> cases b <;> cases c <;> cases d <;> cases e <;> rfl
def chI (s : ByteArray) (i : Nat) : Int := ((s.toList.getD i 0).toNat : Int)
def okC (s : ByteArray) (i : Nat) : Bool := zt9 (chI s i) || (!decide (i = 0) && zn0 (chI s i))
theorem zaH7 (s : ByteArray) (hl : s.size ≤ 12) : zb9 (zp1 s) 0 = some (if (List.range s.size).all (okC s) = true then .inl () else .inr false) := by
 have key : zb9 (zp1 s) 0 = some ((zs1 (fun i => if okC s i = true then none else some (Sum.inr false)) s.size 0).getD (Sum.inl ())) := by
  refine zv1 s.size _ (Sum.inl ()) (fun i hi => ?_) ?_
  ·unfold zp1
   rw [if_pos (by simpa using hi), zb2 (by omega), ze2 (by omega) (by omega)]
   simp only [Int.toNat_natCast]
   have e : ((!((decide (97 ≤ ((s.toList.getD i 0).toNat : Int))) && (decide (((s.toList.getD i 0).toNat : Int) ≤ 122)))) && ((decide ((i : Int) = 0)) || (!((((decide (48 ≤ ((s.toList.getD i 0).toNat : Int))) && (decide (((s.toList.getD i 0).toNat : Int) ≤ 57))) || (decide (((s.toList.getD i 0).toNat : Int) = 95))) || (decide (((s.toList.getD i 0).toNat : Int) = 45)))))) = !okC s i := by
    unfold okC zn0 zt9 chI
    generalize ((s.toList.getD i 0).toNat : Int) = c
    rw [Bool.eq_iff_iff]
    simp
    omega
   cases hk : okC s i
   ·rw [hk] at e; exact if_pos e
   ·rw [hk] at e; exact if_neg (by rw [show _ = false from e]; decide)
  ·unfold zp1
   rw [if_neg (by simp)]
 rw [key, zD4, ← List.range_eq_range']
 cases (List.range s.size).all (okC s) <;> rfl
theorem zaT5 (s : ByteArray) (hl : s.size ≤ 12) : zb9 (zs4 s) 0 = some (if (List.range s.size).all (fun i => zn0 (chI s i)) = true then .inl () else .inr false) := by
 have key : zb9 (zs4 s) 0 = some ((zs1 (fun i => if zn0 (chI s i) = true then none else some (Sum.inr false)) s.size 0).getD (Sum.inl ())) := by
  refine zv1 s.size _ (Sum.inl ()) (fun i hi => ?_) ?_
  ·unfold zs4
   rw [if_pos (by simpa using hi), zb2 (by omega), ze2 (by omega) (by omega)]
   simp only [Int.toNat_natCast]
   show (if (!zn0 (chI s i)) = true then _ else _) = _
   cases zn0 (chI s i) <;> rfl
  ·unfold zs4
   rw [if_neg (by simp)]
 rw [key, zD4, ← List.range_eq_range']
 cases (List.range s.size).all (fun i => zn0 (chI s i)) <;> rfl
def zah0 (s : ByteArray) : Bool := decide (1 ≤ s.size) && (decide (s.size ≤ 12) && (!zp2 s && (List.range s.size).all (okC s)))
theorem zaT6 (s : ByteArray) : zf3 s = some (zah0 s) := by
 unfold zf3 zah0
 rw [zbw8]
 by_cases h1 : s.size < 1
 ·have : ¬ 1 ≤ s.size := by omega
  rw [if_pos (by simp; omega)]
  simp [this]
 by_cases h2 : 12 < s.size
 ·have : ¬ s.size ≤ 12 := by omega
  rw [if_pos (by simp; omega)]
  simp [this]
 cases hr : zp2 s
 ·rw [if_neg (by simp; omega), zaH7 s (by omega)]
  have a1 : 1 ≤ s.size := by omega
  have a2 : s.size ≤ 12 := by omega
  simp only [a1, a2, decide_true, Bool.true_and, Bool.not_false]
  cases (List.range s.size).all (okC s) <;> rfl
 ·rw [if_pos (by simp)]
  simp
theorem zbi0 (s : ByteArray) : zg6 s = some (zah0 s) := by
 unfold zg6 zah0
 by_cases h1 : s.size < 1
 ·have : ¬ 1 ≤ s.size := by omega
  rw [zb2 (by simp; omega), if_pos (by simp; omega)]
  simp [this]
 by_cases h2 : 12 < s.size
 ·have : ¬ s.size ≤ 12 := by omega
  rw [zb2 (by simp; omega), if_pos (by simp; omega)]
  simp [this]
 have a1 : 1 ≤ s.size := by omega
 have a2 : s.size ≤ 12 := by omega
 rw [zb2 (by intro _; omega)]
 have c0 : ((s.toList.getD 0 0).toNat : Int) = chI s 0 := rfl
 have d1 : decide ((s.size : Int) < 1) = false := by simp; omega
 have d2 : decide (12 < (s.size : Int)) = false := by simp; omega
 simp only [a1, a2, decide_true, Bool.true_and, c0, d1, d2, Bool.false_or]
 have hall : (List.range s.size).all (okC s) = (zt9 (chI s 0) && (List.range s.size).all fun i => zn0 (chI s i)) := by
  rw [Bool.eq_iff_iff]
  simp only [List.all_eq_true, List.mem_range, Bool.and_eq_true, okC, Bool.or_eq_true, Bool.not_eq_true', decide_eq_false_iff_not]
  constructor
  ·intro h
   refine ⟨?_, fun i hi => ?_⟩
   ·rcases h 0 (by omega) with h | h
    ·exact h
    ·exact absurd rfl h.1
   ·rcases h i hi with h | h
    ·unfold zn0; simp [h]
    ·exact h.2
  ·rintro ⟨h0, h⟩ i hi
   by_cases hz : i = 0
   ·subst hz; exact .inl h0
   ·exact .inr ⟨hz, h i hi⟩
 rw [hall]
 cases hr : zp2 s
 ·cases hL : zt9 (chI s 0)
  ·rfl
  ·simp only [Bool.not_true, Bool.or_self, Bool.false_eq_true, if_false, zaT5 s a2, Bool.not_false, Bool.true_and]
   cases (List.range s.size).all (fun i => zn0 (chI s i)) <;> rfl
 ·simp
def resV (r : Resource) : Bool := zah0 r.name && (zb5 r && (decide (0 ≤ r.home) && decide (r.home < 4)))
theorem zah1 (r : Resource) : zd3 r = some (resV r) := by
 unfold zd3 resV
 rw [zaT6]
 simp only [Option.bind_some, Bool.and_assoc]
theorem zaH8 (r : Resource) : ze1 r = some (resV r) := by
 unfold ze1 resV
 rw [zbi0, zan3]
 simp only [Option.bind_some, Bool.and_assoc]
def getH (l : List Hold) (p : Proc) : Amount := match l.find? fun h => decide (h.proc = p) with
 | some h => h.amount
 | none => Amount.zero
theorem zbc6 (l : List Hold) (p : Proc) : ∀ k i, i + k = l.length → ((zs1 (fun i => if (l.getD i Hold.zero).proc = p then some (Sum.inr (α := Unit) (l.getD i Hold.zero).amount) else none) k i).getD (Sum.inl ())) = match (l.drop i).find? fun h => decide (h.proc = p) with
  | some h => Sum.inr h.amount
  | none => Sum.inl ()
 | 0, i, h => by rw [List.drop_eq_nil_of_le (by omega)]; rfl
 | k + 1, i, h => by
  rw [zY3 l i Hold.zero (by omega)]
  simp only [zs1, List.find?_cons]
  by_cases hp : (l.getD i Hold.zero).proc = p
  ·simp only [hp, if_true, decide_true, Option.getD_some]
  ·simp only [hp, if_false, decide_false]
   exact zbc6 l p k (i + 1) (by omega)
theorem zaw2 (l : List Hold) (p : Proc) (hl : l.length < 4611686018427387904) : zm1 l p = some (getH l p) := by
 unfold zm1
 have key : zb9 (zx0 l p) 0 = some ((zs1 (fun i => if (l.getD i Hold.zero).proc = p then some (Sum.inr (α := Unit) (l.getD i Hold.zero).amount) else none) l.length 0).getD (Sum.inl ())) := by
  refine zv1 l.length _ (Sum.inl ()) (fun i hi => ?_) ?_
  ·unfold zx0
   rw [if_pos (by simpa using hi), zb2 (by omega), ze2 (by omega) (by omega)]
   simp only [Int.toNat_natCast, decide_eq_true_eq]
   split <;> rfl
  ·unfold zx0
   rw [if_neg (by simp)]
 rw [key, zbc6 l p l.length 0 (by omega), List.drop_zero]
 unfold getH
 cases l.find? fun h => decide (h.proc = p) <;> rfl
theorem zaq1 (l : List Hold) (p : Proc) (hl : l.length < 4611686018427387904) : zv7 l p = some (getH l p) := by
 rw [← zaw2 l p hl]
 unfold zv7 zm1
 have e : zU6 l p = zx0 l p := funext fun i => by
  unfold zU6 zx0
  by_cases h : 0 ≤ i ∧ i < (l.length : Int)
  ·simp only [zb2 h]
  ·by_cases hi : i < (l.length : Int)
   ·rw [if_pos (decide_eq_true hi), if_pos (decide_eq_true hi), gdn h, gdn h]
   ·rw [if_neg (by simpa using hi), if_neg (by simpa using hi)]
 rw [e]
 rfl
theorem zaj4 (a : Amount) : zd0 a = zb8 a := rfl
abbrev covM (a b : Int) : Bool := zy4 a b
theorem zbc7 (a b : Int) : covM a b = true ↔ (1 ≤ a ∧ a ≤ 5 ∧ 1 ≤ b ∧ b ≤ 5) ∧ (a = b ∨ a = 5 ∨ b = 1 ∨ a = 4 ∧ b ≠ 5) := by
 unfold covM zy4 zl0
 by_cases h : 1 ≤ a ∧ a ≤ 5 ∧ 1 ≤ b ∧ b ≤ 5
 ·rw [if_neg (by simp; omega)]
  simp
  omega
 ·rw [if_pos (by simp; omega)]
  simp
  omega
theorem zah2 (a b : Int) : zk3 a b = some (covM a b) := by
 unfold zk3 zg1
 rw [zb2 (by simp; omega)]
 congr 1
 rw [Bool.eq_iff_iff, zbc7]
 by_cases h : 1 ≤ a ∧ a ≤ 5 ∧ 1 ≤ b ∧ b ≤ 5
 ·obtain ⟨h1, h2, h3, h4⟩ := h
  have ha : a = 1 ∨ a = 2 ∨ a = 3 ∨ a = 4 ∨ a = 5 := by omega
  have hb : b = 1 ∨ b = 2 ∨ b = 3 ∨ b = 4 ∨ b = 5 := by omega
  rcases ha with rfl | rfl | rfl | rfl | rfl <;> rcases hb with rfl | rfl | rfl | rfl | rfl <;> decide
 ·constructor
  ·intro hh
   simp only [Bool.and_eq_true, decide_eq_true_eq] at hh
   omega
  ·rintro ⟨hh, _⟩; exact absurd hh h
def covA (r : Resource) (a b : Amount) : Bool := zg0 r a b
theorem zY7 (r : Resource) (a b : Amount) : zg9 r a b = some (covA r a b) := by
 unfold zg9 covA zg0
 simp only [zay7, zaj4, zah2, Option.bind_some]
 cases zb1 r a <;> cases zb1 r b <;> simp
 cases ha : zb8 a <;> cases hb : zb8 b <;> simp
 split <;> rfl
end Ab
end Go.Proofs.YtfjeceicgfdmjaaGreatDoor
namespace Go.Proofs.YtfjeceicgfdmjaaGreatDoor
namespace Ab
set_option linter.unusedVariables false
set_option linter.unusedSimpArgs false
theorem zG3 (q : Queue) (p : Proc) (hl : q.holds.length < 4611686018427387904) : zh2 q p = some (getH q.holds p) := by
 unfold zh2
 rw [zaw2 _ _ hl]; rfl
theorem zal1 (q : Queue) (p : Proc) (hl : q.holds.length < 4611686018427387904) : zp6 q p = some (getH q.holds p) := by
 unfold zp6
 rw [zaq1 _ _ hl]; rfl
theorem hb (b : Bool) : b = true ∨ b = false := by cases b <;> simp
def cvI (q : Queue) (i : Nat) : Bool :=
 let w := q.converts.getD i Wait.zero
 let h := getH q.holds w.proc
 decide (zz7 q.converts w.proc = (i : Int)) && (!zb8 h && (za9 q.resource w.amount && (covA q.resource w.amount h && (!decide (w.amount = h) && (decide (w.priority = 0) && decide (w.passed = 0))))))
def cvOk (q : Queue) : Bool := decide (q.converts.length ≤ 8) && (List.range q.converts.length).all (cvI q)
def wtI (q : Queue) (i : Nat) : Bool :=
 let w := q.waits.getD i Wait.zero
 za9 q.resource w.amount && zb8 (getH q.holds w.proc)
def wtOk (q : Queue) : Bool := zE1 q.waits && (decide (q.holds.length + q.waits.length ≤ 8) && (List.range q.waits.length).all (wtI q))
theorem zbi1 (q : Queue) (hl : q.holds.length < 4611686018427387904) (hc : q.converts.length ≤ 8) : zb9 (zm2 q) 0 = some (if (List.range q.converts.length).all (cvI q) = true then .inl () else .inr false) := by
 have key : zb9 (zm2 q) 0 = some ((zs1 (fun i => if cvI q i = true then none else some (Sum.inr false)) q.converts.length 0).getD (Sum.inl ())) := by
  refine zv1 q.converts.length _ (Sum.inl ()) (fun i hi => ?_) ?_
  ·unfold zm2
   rw [if_pos (by simpa using hi), zb2 (by omega), ze2 (by omega) (by omega), Int.toNat_natCast]
   unfold cvI
   generalize q.converts.getD i Wait.zero = w
   rw [zG3 q _ hl, Option.bind_some, zQ1 _ _ (show q.converts.length < 4611686018427387904 by omega), Option.bind_some]
   simp only [zY7]
   rcases hb (decide (zz7 q.converts w.proc = (i : Int))) with c1 | c1 <;> rcases hb (zb8 (getH q.holds w.proc)) with c2 | c2 <;> rcases hb (za9 q.resource w.amount) with c3 | c3 <;> rcases hb (covA q.resource w.amount (getH q.holds w.proc)) with c4 | c4 <;>
    rcases hb (decide (w.amount = getH q.holds w.proc)) with c5 | c5 <;> rcases hb (decide (w.priority = 0)) with c6 | c6 <;> rcases hb (decide (w.passed = 0)) with c7 | c7 <;>
    simp only [c1, c2, c3, c4, c5, c6, c7, Bool.not_true, Bool.not_false, Bool.or_true, Bool.true_or, Bool.or_false, Bool.false_or, Bool.and_true, Bool.true_and, Bool.and_false, Bool.false_and, if_true, if_false, Bool.false_eq_true, Option.bind_some, Bool.or_self, Bool.and_self]
  ·unfold zm2
   rw [if_neg (by simp)]
 rw [key, zD4, ← List.range_eq_range']
 cases (List.range q.converts.length).all (cvI q) <;> rfl
theorem zaq2 (q : Queue) (hl : q.holds.length < 4611686018427387904) : ze6 q = some (cvOk q) := by
 unfold ze6 cvOk
 by_cases h : 8 < q.converts.length
 ·have : ¬ q.converts.length ≤ 8 := by omega
  rw [if_pos (by simp; omega)]
  simp [this]
 ·have h8 : q.converts.length ≤ 8 := by omega
  rw [if_neg (by simp; omega), zbi1 q hl h8]
  simp only [h8, decide_true, Bool.true_and]
  cases (List.range q.converts.length).all (cvI q) <;> rfl
theorem zbc8 (q : Queue) (hl : q.holds.length < 4611686018427387904) (hc : q.waits.length ≤ 8) : zb9 (zm9 q) 0 = some (if (List.range q.waits.length).all (wtI q) = true then .inl () else .inr false) := by
 have key : zb9 (zm9 q) 0 = some ((zs1 (fun i => if wtI q i = true then none else some (Sum.inr false)) q.waits.length 0).getD (Sum.inl ())) := by
  refine zv1 q.waits.length _ (Sum.inl ()) (fun i hi => ?_) ?_
  ·unfold zm9
   rw [if_pos (by simpa using hi), zb2 (by omega), ze2 (by omega) (by omega), Int.toNat_natCast]
   unfold wtI
   generalize q.waits.getD i Wait.zero = w
   rw [zG3 q _ hl]
   rcases hb (zb8 (getH q.holds w.proc)) with c2 | c2 <;> rcases hb (za9 q.resource w.amount) with c3 | c3 <;> simp only [c2, c3, Bool.not_true, Bool.not_false, Bool.or_true, Bool.true_or, Bool.or_false, Bool.false_or, Bool.and_true, Bool.true_and, Bool.and_false, Bool.false_and, if_true, if_false, Bool.false_eq_true, Option.bind_some, Bool.or_self, Bool.and_self]
  ·unfold zm9
   rw [if_neg (by simp)]
 rw [key, zD4, ← List.range_eq_range']
 cases (List.range q.waits.length).all (wtI q) <;> rfl
theorem zaA6 (q : Queue) (hl : q.holds.length ≤ 1000000) : zf8 q = some (wtOk q) := by
 unfold zf8 wtOk
 rw [zal0, Option.bind_some]
 cases hv : zE1 q.waits
 ·simp
 ·have h8 := zaq0 hv
  rw [ze2 (by omega) (by omega)]
  by_cases h : 8 < q.holds.length + q.waits.length
  ·have : ¬ q.holds.length + q.waits.length ≤ 8 := by omega
   rw [if_pos (by simp; omega)]
   simp [this]
  ·have h9 : q.holds.length + q.waits.length ≤ 8 := by omega
   rw [if_neg (by simp; omega), zbc8 q (by omega) h8]
   simp only [h9, decide_true, Bool.true_and]
   cases (List.range q.waits.length).all (wtI q) <;> rfl
def zal2 (q : Queue) : Bool := resV q.resource && (zs9 q.resource q.holds && (cvOk q && (wtOk q && (decide (0 ≤ q.gen) && decide (q.gen ≤ 1073741824)))))
theorem zbc9 (q : Queue) : zo2 q = some (zal2 q) := by
 unfold zo2 zal2
 rw [zah1, Option.bind_some]
 cases resV q.resource
 ·simp
 ·simp only [if_true, zY6, Option.bind_some, Bool.true_and]
  cases hv : zs9 q.resource q.holds
  ·simp
  ·have hl := zN4 hv
   simp only [if_true, zaq2 q (by omega), Option.bind_some, Bool.true_and]
   cases cvOk q
   ·simp
   ·simp only [if_true, zaA6 q (by omega), Option.bind_some, Bool.true_and, Bool.and_assoc]
theorem zbd0 (q : Queue) (hl : q.holds.length ≤ 1000000) (hc : q.waits.length ≤ 8) : zb9 (zP0 q) 0 = some (if (List.range q.waits.length).all (wtI q) = true then .inl () else .inr false) := by
 rw [← zbc8 q (by omega) hc]
 congr 1
 funext i
 unfold zP0 zm9
 by_cases h : 0 ≤ i ∧ i < (q.waits.length : Int)
 ·rw [if_pos (decide_eq_true h.2), if_pos (decide_eq_true h.2), zb2 h, zb2 h, zb2 (fun _ => h)]
  simp only [zay6, zaj4, zaq1 _ _ (show q.holds.length < 4611686018427387904 by omega), zG3 q _ (show q.holds.length < 4611686018427387904 by omega)]
 ·by_cases hi : i < (q.waits.length : Int)
  ·rw [if_pos (decide_eq_true hi), if_pos (decide_eq_true hi), gdn h, gdn h]
  ·rw [if_neg (by simpa using hi), if_neg (by simpa using hi)]
theorem zaH9 (q : Queue) (hl : q.holds.length ≤ 1000000) (hc : q.converts.length ≤ 8) : zb9 (zB8 q) 0 = some (if (List.range q.converts.length).all (cvI q) = true then .inl () else .inr false) := by
 have key : zb9 (zB8 q) 0 = some ((zs1 (fun i => if cvI q i = true then none else some (Sum.inr false)) q.converts.length 0).getD (Sum.inl ())) := by
  refine zv1 q.converts.length _ (Sum.inl ()) (fun i hi => ?_) ?_
  ·unfold zB8
   rw [if_pos (by simpa using hi), zb2 (by omega), ze2 (by omega) (by omega), Int.toNat_natCast]
   unfold cvI covA
   generalize q.converts.getD i Wait.zero = w
   rw [zaq1 _ _ (show q.holds.length < 4611686018427387904 by omega), Option.bind_some, zR3 _ _ (show q.converts.length < 4611686018427387904 by omega)]
   simp only [zaj4, zay6]
   rcases hb (decide (zz7 q.converts w.proc = (i : Int))) with c1 | c1 <;> rcases hb (zb8 (getH q.holds w.proc)) with c2 | c2 <;> rcases hb (za9 q.resource w.amount) with c3 | c3 <;> rcases hb (zg0 q.resource w.amount (getH q.holds w.proc)) with c4 | c4 <;>
    rcases hb (decide (w.amount = getH q.holds w.proc)) with c5 | c5 <;> rcases hb (decide (w.priority = 0)) with c6 | c6 <;> rcases hb (decide (w.passed = 0)) with c7 | c7 <;>
    simp only [c1, c2, c3, c4, c5, c6, c7, Bool.not_true, Bool.not_false, Bool.or_true, Bool.true_or, Bool.or_false, Bool.false_or, Bool.and_true, Bool.true_and, Bool.and_false, Bool.false_and, if_true, if_false, Bool.false_eq_true, Option.bind_some, Bool.or_self, Bool.and_self]
  ·unfold zB8
   rw [if_neg (by simp)]
 rw [key, zD4, ← List.range_eq_range']
 cases (List.range q.converts.length).all (cvI q) <;> rfl
theorem zah3 (q : Queue) : zo8 q = some (zal2 q) := by
 unfold zo8 zal2 cvOk wtOk
 rw [zaH8, Option.bind_some]
 cases resV q.resource
 ·simp
 ·simp only [if_true, zag8, Option.bind_some, Bool.true_and]
  cases hv : zs9 q.resource q.holds
  ·simp
  ·have hl := zN4 hv
   by_cases hc : 8 < q.converts.length
   ·have h1 : ¬ q.converts.length ≤ 8 := by omega
    have h2 : decide (8 < (q.converts.length : Int)) = true := by simp; omega
    simp [h1, h2]
   ·have h1 : q.converts.length ≤ 8 := by omega
    have h2 : decide (8 < (q.converts.length : Int)) = false := by simp; omega
    simp only [h1, h2, Bool.not_true, Bool.or_self, Bool.not_false, if_true, zaw1, Option.bind_some, Bool.false_or, decide_true, Bool.true_and]
    cases hw : zE1 q.waits
    ·simp
    ·have h8 := zaq0 hw
     simp only [Bool.not_true, Bool.false_or, Bool.true_and]
     rw [ze2 (by omega) (by omega)]
     by_cases h : q.holds.length + q.waits.length ≤ 8
     ·by_cases g1 : 0 ≤ q.gen
      ·by_cases g2 : q.gen ≤ 1073741824
       ·rw [if_neg (by simp; omega), zaH9 q (by omega) h1]
        simp only [h, g1, g2, decide_true, Bool.true_and, Bool.and_true]
        cases (List.range q.converts.length).all (cvI q)
        ·rfl
        ·simp only [if_true, Option.bind_some, Bool.true_and]
         unfold zP1
         rw [zbd0 q (by omega) h8]
         cases (List.range q.waits.length).all (wtI q) <;> rfl
       ·rw [if_pos (by simp; omega)]; simp [g2]
      ·rw [if_pos (by simp; omega)]; simp [g1]
     ·rw [if_pos (by simp; omega)]; simp [h]
def zl4 (q : Queue) : Wait × Bool := match q.converts ++ q.waits with
 | w :: _ => (w, true)
 | [] => (Wait.zero, false)
theorem zal3 (q : Queue) : zp4 q = some (zl4 q) := by
 unfold zp4 zl4
 cases q.converts with
 | cons a l => rw [if_pos (by simp), zb2 (by simp)]; rfl
 | nil =>
  rw [if_neg (by simp)]
  cases q.waits with
  | cons a l => rw [if_pos (by simp), zb2 (by simp)]; rfl
  | nil => rw [if_neg (by simp)]; rfl
theorem zaC3 (q : Queue) : zx6 q = some (zl4 q) := by
 rw [← zal3]; rfl
def zc3 (q : Queue) : Bool := zal2 q && !((zl4 q).2 && zH7 q.resource q.holds (zl4 q).1.proc (zl4 q).1.amount)
theorem zaN9 (q : Queue) : zj7 q = some (zc3 q) := by
 unfold zj7 zc3
 rw [zbc9, Option.bind_some]
 cases zal2 q
 ·simp
 ·rw [if_neg (by simp), zal3, Option.bind_some]
  cases (zl4 q).2 <;> simp [zbF9]
theorem zan5 (q : Queue) : zl7 q = some (zc3 q) := by
 unfold zl7 zc3
 rw [zah3, Option.bind_some]
 cases zal2 q
 ·simp
 ·rw [if_neg (by simp), zaC3, Option.bind_some]
  cases (zl4 q).2 <;> simp [zbw5]
theorem zW0 (q : Queue) : zh5 q = some (zc3 q) := by
 unfold zh5
 rw [zaN9]; rfl
theorem zW1 (q : Queue) : zl1 q = some (zc3 q) := by
 unfold zl1
 rw [zah3, Option.bind_some]
 cases h : zal2 q
 ·simp [zc3, h]
 ·simp [zan5]
end Ab
end Go.Proofs.YtfjeceicgfdmjaaGreatDoor
namespace Go.Proofs.YtfjeceicgfdmjaaGreatDoor
namespace Ab
set_option linter.unusedVariables false
set_option linter.unusedSimpArgs false
theorem zbi2 (a b : List Hold) (hl : a.length < 4611686018427387904) : zk9 a b = some (decide (a = b)) := by
 unfold zk9
 by_cases h : a.length = b.length
 ·rw [if_neg (by simp [h])]
  exact zbl8 a b Hold.zero hl h (fun i => rfl)
 ·rw [if_pos (by simp; omega)]
  have : a ≠ b := fun e => h (by rw [e])
  simp [this]
instance : DecidableEq Queue := fun a b => decidable_of_iff (a.resource = b.resource ∧ a.holds = b.holds ∧ a.converts = b.converts ∧ a.waits = b.waits ∧ a.gen = b.gen) (by rw [Queue.ext_iff])
theorem zaC4 (a b : Queue) (h1 : a.holds.length < 4611686018427387904) (h2 : a.converts.length < 4611686018427387904) (h3 : a.waits.length < 4611686018427387904) : zp5 a b = some (decide (a = b)) := by
 unfold zp5
 simp only [zbi2 _ _ h1, zaH6 _ _ h2, zaH6 _ _ h3]
 have e : decide (a = b) = (decide (a.resource = b.resource) && (decide (a.gen = b.gen) && (decide (a.holds = b.holds) && (decide (a.converts = b.converts) && decide (a.waits = b.waits))))) := by
  rw [Bool.eq_iff_iff]
  simp only [decide_eq_true_eq, Bool.and_eq_true, Queue.ext_iff]
  constructor
  ·rintro ⟨a1, a2, a3, a4, a5⟩; exact ⟨a1, a5, a2, a3, a4⟩
  ·rintro ⟨a1, a5, a2, a3, a4⟩; exact ⟨a1, a2, a3, a4, a5⟩
 rw [e]
 cases decide (a.resource = b.resource) <;> cases decide (a.gen = b.gen) <;> cases decide (a.holds = b.holds) <;> cases decide (a.converts = b.converts) <;> cases decide (a.waits = b.waits) <;> rfl
def newQ (r : Resource) : Queue × Int := if resV r = true then ({ Queue.zero with resource := r }, 0) else (Queue.zero, 1)
theorem zbq9 (r : Resource) : zv5 r = some (newQ r) := by
 unfold zv5 newQ
 rw [zah1, Option.bind_some]
 cases resV r <;> rfl
theorem zbB7 (a b : List Wait) (ha : a.length ≤ 1000000) (hb : b.length ≤ 1000000) : zc6 [a, b] = some (a ++ b) := by
 unfold zc6
 have s0 : zd5 [a, b] (0, 0) = some (.inl ((a.length : Int), 1)) := by
  unfold zd5
  rw [if_pos (by simp), zb2 (by simp)]
  show (if decide (IntKind.i64.wrap (0 + (a.length : Int)) < 0) = true then none else some (Sum.inl (IntKind.i64.wrap (0 + (a.length : Int)), _))) = _
  rw [ze2 (by omega) (by omega), if_neg (by simp), Int.zero_add]
  rfl
 have s1 : zd5 [a, b] ((a.length : Int), 1) = some (.inl ((a.length : Int) + (b.length : Int), 2)) := by
  unfold zd5
  rw [if_pos (by simp), zb2 (by simp)]
  show (if decide (IntKind.i64.wrap ((a.length : Int) + (b.length : Int)) < 0) = true then none else some (Sum.inl (IntKind.i64.wrap ((a.length : Int) + (b.length : Int)), _))) = _
  rw [ze2 (by omega) (by omega), if_neg (by simp; omega)]
  rfl
 have s2 : zd5 [a, b] ((a.length : Int) + (b.length : Int), 2) = some (.inr ((a.length : Int) + (b.length : Int))) := by
  unfold zd5
  rw [if_neg (by simp)]
 rw [zd7, s0]
 simp only
 rw [zd7, s1]
 simp only
 rw [zd7, s2]
 simp only [Option.bind_some]
 unfold zj3 zc8
 rw [zb2 (by omega), Option.bind_some]
 have t0 : zd4 [a, b] (0, []) = some (.inl (1, a)) := by
  unfold zd4
  rw [if_pos (by simp), zb2 (by simp), zb2 (by simp; omega)]
  rfl
 have t1 : zd4 [a, b] (1, a) = some (.inl (2, a ++ b)) := by
  unfold zd4
  rw [if_pos (by simp), zb2 (by simp), zb2 (by simp; omega)]
  rfl
 have t2 : zd4 [a, b] (2, a ++ b) = some (.inr (a ++ b)) := by
  unfold zd4
  rw [if_neg (by simp)]
 rw [zd7, t0]
 simp only
 rw [zd7, t1]
 simp only
 rw [zd7, t2]
 rfl
theorem zaw3 (q : Queue) (h1 : q.converts.length ≤ 1000000) (h2 : q.waits.length ≤ 1000000) : zo3 q = some (q.converts ++ q.waits) := by
 unfold zo3
 rw [zbB7 _ _ h1 h2]; rfl
def zaC5 (l : List Wait) (p : Proc) : Amount × Bool := match l.find? fun w => decide (w.proc = p) with
 | some w => (w.amount, true)
 | none => (Amount.zero, false)
def zz0 (q : Queue) (p : Proc) : Amount × Bool := zaC5 (q.converts ++ q.waits) p
theorem zaR7 (l : List Wait) (p : Proc) : ∀ k i, i + k = l.length → ((zs1 (fun i => if (l.getD i Wait.zero).proc = p then some (Sum.inr (α := Unit) ((l.getD i Wait.zero).amount, true)) else none) k i).getD (Sum.inl ())) = match (l.drop i).find? fun w => decide (w.proc = p) with
  | some w => Sum.inr (w.amount, true)
  | none => Sum.inl ()
 | 0, i, h => by rw [List.drop_eq_nil_of_le (by omega)]; rfl
 | k + 1, i, h => by
  rw [zY3 l i Wait.zero (by omega)]
  simp only [zs1, List.find?_cons]
  by_cases hp : (l.getD i Wait.zero).proc = p
  ·simp only [hp, if_true, decide_true, Option.getD_some]
  ·simp only [hp, if_false, decide_false]
   exact zaR7 l p k (i + 1) (by omega)
theorem zas3 (q : Queue) (p : Proc) (h1 : q.converts.length ≤ 1000000) (h2 : q.waits.length ≤ 1000000) : zk0 q p = some (zz0 q p) := by
 unfold zk0 zz0
 rw [zaw3 q h1 h2, Option.bind_some]
 have hl : (q.converts ++ q.waits).length ≤ 2000000 := by rw [List.length_append]; omega
 generalize q.converts ++ q.waits = l at *
 have key : zb9 (zE6 p l) 0 = some ((zs1 (fun i => if (l.getD i Wait.zero).proc = p then some (Sum.inr (α := Unit) ((l.getD i Wait.zero).amount, true)) else none) l.length 0).getD (Sum.inl ())) := by
  refine zv1 l.length _ (Sum.inl ()) (fun i hi => ?_) ?_
  ·unfold zE6
   rw [if_pos (by simpa using hi), zb2 (by omega), ze2 (by omega) (by omega)]
   simp only [Int.toNat_natCast, decide_eq_true_eq]
   split <;> rfl
  ·unfold zE6
   rw [if_neg (by simp)]
 rw [key, zaR7 l p l.length 0 (by omega), List.drop_zero]
 unfold zaC5
 cases l.find? fun w => decide (w.proc = p) <;> rfl
end Ab
end Go.Proofs.YtfjeceicgfdmjaaGreatDoor
namespace Go.Proofs.YtfjeceicgfdmjaaGreatDoor
namespace Ab
set_option linter.unusedVariables false
set_option linter.unusedSimpArgs false
def upM (a b g : Int) : Bool := covM g a && covM g b
def supM (a b : Int) : Int := if upM a b 1 = true then 1 else if upM a b 2 = true then 2 else if upM a b 3 = true then 3 else if upM a b 4 = true then 4 else if upM a b 5 = true then 5 else 0
theorem zbi3 (a b g : Int) (h1 : 1 ≤ g) (h2 : g ≤ 5) : zK3 a b g = some (if upM a b g = true then .inr (.inr g) else .inl (g + 1)) := by
 unfold zK3 upM
 rw [if_pos (by simpa using h2), zah2, Option.bind_some, ze2 (by omega) (by omega), zah2]
 cases covM g a <;> cases covM g b <;> rfl
theorem zbr0 (a b : Int) : zK3 a b 6 = some (.inr (.inl ())) := by
 unfold zK3
 rw [if_neg (by decide)]
theorem zbw9 {body : Int → Option (Int ⊕ (Unit ⊕ Int))} (a b : Int) (hs : ∀ g, 1 ≤ g → g ≤ 5 → body g = some (if upM a b g = true then .inr (.inr g) else .inl (g + 1))) (he : body 6 = some (.inr (.inl ()))) :
  (zb9 body 1).bind (fun | .inl _ => some 0 | .inr z => some z) = some (supM a b) := by
 unfold supM
 rw [zd7, hs 1 (by decide) (by decide)]
 by_cases c1 : upM a b 1 = true
 ·simp [c1]
 simp only [c1, Bool.false_eq_true, if_false]
 rw [show (1 : Int) + 1 = 2 from rfl, zd7, hs 2 (by decide) (by decide)]
 by_cases c2 : upM a b 2 = true
 ·simp [c2]
 simp only [c2, Bool.false_eq_true, if_false]
 rw [show (2 : Int) + 1 = 3 from rfl, zd7, hs 3 (by decide) (by decide)]
 by_cases c3 : upM a b 3 = true
 ·simp [c3]
 simp only [c3, Bool.false_eq_true, if_false]
 rw [show (3 : Int) + 1 = 4 from rfl, zd7, hs 4 (by decide) (by decide)]
 by_cases c4 : upM a b 4 = true
 ·simp [c4]
 simp only [c4, Bool.false_eq_true, if_false]
 rw [show (4 : Int) + 1 = 5 from rfl, zd7, hs 5 (by decide) (by decide)]
 by_cases c5 : upM a b 5 = true
 ·simp [c5]
 simp only [c5, Bool.false_eq_true, if_false]
 rw [show (5 : Int) + 1 = 6 from rfl, zd7, he]
 rfl
theorem zbx0 (a b : Int) : zG2 a b = some (supM a b) := zbw9 a b (zbi3 a b) (zbr0 a b)
theorem zbr1 (a b : Int) : zI1 a b = some (supM a b) := by
 refine zbw9 a b (fun g h1 h2 => ?_) ?_
 ·unfold zV0
  rw [if_pos (by simpa using h2), ze2 (by omega) (by omega)]
  rcases hb (covM g a) with c | c <;> rcases hb (covM g b) with d | d <;> simp [upM, c, d]
 ·unfold zV0
  rw [if_neg (by decide)]
def zQ5 (r : Resource) (a b : Amount) : Amount :=
 if (!zb1 r a || !zb1 r b) = true then Amount.zero else
 if zb8 a = true then b else if zb8 b = true then a else
 if r.kind = 1 then { Amount.zero with mode := supM a.mode b.mode } else { Amount.zero with units := if a.units < b.units then b.units else a.units }
theorem zbd1 (r : Resource) (a b : Amount) : zq4 r a b = some (zQ5 r a b) := by
 unfold zq4 zQ5
 simp only [zbx0, Option.bind_some]
 split
 ·rfl
 split
 ·rfl
 split
 ·rfl
 by_cases h : r.kind = 1
 ·simp [h]
 ·simp [h]
theorem zcb9 : ∀ a ∈ [(1 : Int), 2, 3, 4, 5], ∀ b ∈ [(1 : Int), 2, 3, 4, 5], covM a b = true → supM a b = a := by decide
theorem zbJ3 : ∀ a ∈ [(1 : Int), 2, 3, 4, 5], ∀ b ∈ [(1 : Int), 2, 3, 4, 5], covM b a = true → supM a b = b := by decide
theorem zbi4 (r : Resource) (a b : Amount) : zB4 r a b = some (zQ5 r a b) := by
 unfold zB4 zQ5
 simp only [zay7, zbr1, Option.bind_some]
 cases ha : zb1 r a
 ·simp
 cases hpb : zb1 r b
 ·simp
 simp only [Bool.not_true, Bool.or_self, Bool.false_eq_true, if_false]
 unfold zg0
 simp only [zay7, zaj4, ha, hpb, Bool.not_true, Bool.or_self, Bool.false_eq_true, if_false]
 rcases hb (zb8 a) with hza | hza <;> rcases hb (zb8 b) with hzb | hzb
 rotate_left 3
 ·simp only [hza, hzb, Bool.false_eq_true, if_false]
  by_cases hk : r.kind = 1
  ·have pa := zK5 ha hk
   have pb := zK5 hpb hk
   have na : a.mode ≠ 0 := fun h => by
    have : a = Amount.zero := by cases a; simp only at *; simp [Amount.zero]; omega
    rw [this] at hza; exact absurd hza (by decide)
   have nb : b.mode ≠ 0 := fun h => by
    have : b = Amount.zero := by cases b; simp only at *; simp [Amount.zero]; omega
    rw [this] at hzb; exact absurd hzb (by decide)
   have ma : a.mode ∈ [(1 : Int), 2, 3, 4, 5] := by simp; omega
   have mb : b.mode ∈ [(1 : Int), 2, 3, 4, 5] := by simp; omega
   have ea : a = { Amount.zero with mode := a.mode } := by cases a; simp only at *; simp [Amount.zero]; omega
   have eb : b = { Amount.zero with mode := b.mode } := by cases b; simp only at *; simp [Amount.zero]; omega
   simp only [hk, decide_true, if_true]
   by_cases c1 : covM a.mode b.mode = true
   ·rw [if_pos c1, zcb9 _ ma _ mb c1]; exact congrArg some ea
   ·rw [if_neg c1]
    by_cases c2 : covM b.mode a.mode = true
    ·rw [if_pos c2, zbJ3 _ ma _ mb c2]; exact congrArg some eb
    ·rw [if_neg c2]
  ·have hk2 : r.kind = 2 := by
    have := ha
    rw [perm_iff, zx4, zH6] at this
    omega
   have pa := zay8 ha hk2
   have pb := zay8 hpb hk2
   have ea : a = { Amount.zero with units := a.units } := by cases a; simp only at *; simp [Amount.zero]; omega
   have eb : b = { Amount.zero with units := b.units } := by cases b; simp only at *; simp [Amount.zero]; omega
   have d : decide (r.kind = 1) = false := by simpa using hk
   simp only [d, hk, Bool.false_eq_true, if_false, decide_eq_true_eq]
   by_cases c1 : b.units ≤ a.units
   ·have : ¬ a.units < b.units := by omega
    rw [if_pos c1, if_neg this]; exact congrArg some ea
   ·have : a.units < b.units := by omega
    have c2 : a.units ≤ b.units := by omega
    rw [if_neg c1, if_pos c2, if_pos this]; exact congrArg some eb
 ·have e0 : a = Amount.zero := by unfold zb8 at hza; simpa using hza
  have e1 : b = Amount.zero := by unfold zb8 at hzb; simpa using hzb
  simp only [hza, hzb, if_true]
  rw [e0, e1]
 ·simp only [hza, hzb, if_true, Bool.false_eq_true, if_false]
 ·simp only [hza, hzb, if_true, Bool.false_eq_true, if_false]
theorem zcj7 (g : Int) : zV1 g = zg2 g := rfl
theorem zaw4 (q : Queue) (h1 : q.holds.length ≤ 1000000) (h2 : q.converts.length ≤ 1000000) (h3 : q.waits.length ≤ 1000000) : zr1 q = some q := by
 unfold zr1
 rw [zb2 (by omega), zb2 (by omega), zb2 (by omega)]
theorem zaO0 (q : Queue) (h1 : q.holds.length ≤ 1000000) (h2 : q.converts.length ≤ 1000000) (h3 : q.waits.length ≤ 1000000) : zl5 q = some q := by
 unfold zl5
 rw [zb2 (by omega), zb2 (by omega), zb2 (by omega)]
theorem zal4 (q : Queue) (h1 : q.holds.length ≤ 1000000) (h2 : q.converts.length ≤ 1000000) (h3 : q.waits.length ≤ 1000000) : zr6 q = some q := by
 unfold zr6
 rw [zb2 (by omega), zb2 (by omega), zb2 (by omega)]
theorem zaT7 (q : Queue) (h1 : q.holds.length ≤ 1000000) (h2 : q.converts.length ≤ 1000000) (h3 : q.waits.length ≤ 1000000) : zu3 q = some q := by
 unfold zu3
 rw [zb2 (by omega), zb2 (by omega), zb2 (by omega)]
end Ab
end Go.Proofs.YtfjeceicgfdmjaaGreatDoor
namespace Go.Proofs.YtfjeceicgfdmjaaGreatDoor
namespace Ab
set_option linter.unusedVariables false
set_option linter.unusedSimpArgs false
def popQ (q : Queue) : Queue :=
 if 0 < q.converts.length then { q with holds := setL q.holds (zl4 q).1.proc (zl4 q).1.amount, converts := q.converts.drop 1 }
 else { q with holds := setL q.holds (zl4 q).1.proc (zl4 q).1.amount, waits := q.waits.drop 1 }
def canQ (q : Queue) : Bool := (zl4 q).2 && zH7 q.resource q.holds (zl4 q).1.proc (zl4 q).1.amount
def zan6 (s : Queue × List Hold) : Queue × List Hold := (popQ s.1, s.2 ++ [⟨(zl4 s.1).1.proc, (zl4 s.1).1.amount⟩])
def advN : Nat → Queue × List Hold → Queue × List Hold
 | 0, s => s
 | n + 1, s => if canQ s.1 = true then advN n (zan6 s) else s
def zz1 (q : Queue) : Nat := q.converts.length + q.waits.length
def advQ (q : Queue) : Queue × List Hold := advN (zz1 q) (q, [])
theorem zQ2 {q : Queue} (h : canQ q = true) : 0 < zz1 q ∧ zz1 (popQ q) + 1 = zz1 q ∧ q.holds.length ≤ 8 := by
 unfold canQ at h
 simp only [Bool.and_eq_true] at h
 obtain ⟨h1, h2⟩ := h
 have hv : zs9 q.resource q.holds = true := by
  unfold zH7 zF7 at h2
  simp only [Bool.and_eq_true] at h2
  exact h2.1.1
 refine ⟨?_, ?_, zN4 hv⟩
 ·unfold zl4 at h1
  unfold zz1
  cases hc : q.converts with
  | cons a l => simp; omega
  | nil =>
   cases hw : q.waits with
   | cons a l => simp
   | nil => simp [hc, hw] at h1
 ·unfold zl4 at h1
  unfold zz1 popQ
  cases hc : q.converts with
  | cons a l => simp; omega
  | nil =>
   cases hw : q.waits with
   | cons a l => simp
   | nil => simp [hc, hw] at h1
theorem zan7 (s : Queue × List Hold) : advN (zz1 s.1) s = if canQ s.1 = true then advN (zz1 (zan6 s).1) (zan6 s) else s := by
 cases hc : canQ s.1 with
 | false =>
  cases hn : zz1 s.1 with
  | zero => rfl
  | succ n => simp [advN, hc]
 | true =>
  obtain ⟨h1, h2, _⟩ := zQ2 hc
  have : zz1 s.1 = zz1 (popQ s.1) + 1 := h2.symm
  rw [this]
  simp [advN, hc, zan6]
theorem zbr2 (g : Queue × List Hold) (hg : g.2.length ≤ 1000000) : zy3 g = some (if canQ g.1 = true then .inl (zan6 g) else .inr g) := by
 unfold zy3
 rw [zal3, Option.bind_some]
 rcases hb (zl4 g.1).2 with h2 | h2
 ·rw [if_pos h2, zbF9, Option.bind_some]
  rcases hb (zH7 g.1.resource g.1.holds (zl4 g.1).1.proc (zl4 g.1).1.amount) with hr | hr
  ·have hc : canQ g.1 = true := by unfold canQ; rw [h2, hr]; rfl
   obtain ⟨_, _, hl⟩ := zQ2 hc
   rw [if_neg (by rw [h2, hr]; decide), if_pos hc]
   unfold zan6 popQ
   by_cases h0 : 0 < g.1.converts.length
   ·rw [if_pos (by simpa using h0), zb2 (by omega), if_pos h0]
    unfold zs5
    rw [zV9 _ _ _ (by simp only; omega), Option.bind_some, zb2 (by omega)]
   ·rw [if_neg (by simpa using h0), if_neg h0]
    have hw : 0 < g.1.waits.length := by
     have := (zQ2 hc).1
     unfold zz1 at this
     omega
    rw [zb2 (by omega)]
    unfold zs5
    rw [zV9 _ _ _ (by simp only; omega), Option.bind_some, zb2 (by omega)]
  ·have hc : canQ g.1 = false := by unfold canQ; rw [h2, hr]; rfl
   rw [if_pos (by rw [h2, hr]; decide), if_neg (by rw [hc]; decide)]
 ·have hc : canQ g.1 = false := by unfold canQ; rw [h2]; rfl
  rw [if_neg (by rw [h2]; decide), Option.bind_some, if_pos (by rw [h2]; decide), if_neg (by rw [hc]; decide)]
theorem zaO1 (q : Queue) (h : zz1 q ≤ 1000) : ze4 q = some ((advQ q).2, (advQ q).1) := by
 unfold ze4
 have key := zbb9 (body := zy3) (fun g => zz1 g.1 + g.2.length ≤ 1000) (fun g => zz1 g.1) (fun g => advN (zz1 g.1) g) (fun g hg => by
  rw [zbr2 g (by omega)]
  cases hc : canQ g.1 with
  | false => right; rw [if_neg (by decide), zan7, if_neg (by rw [hc]; decide)]
  | true =>
   left
   obtain ⟨h1, h2, _⟩ := zQ2 hc
   refine ⟨zan6 g, by rw [if_pos rfl], ?_, ?_, ?_⟩
   ·unfold zan6; simp only [List.length_append, List.length_cons, List.length_nil]; omega
   ·show zz1 (popQ g.1) < zz1 g.1; omega
   ·rw [zan7 g, if_pos hc]) (q, []) (by simpa using h)
 rw [key]
 rfl
end Ab
end Go.Proofs.YtfjeceicgfdmjaaGreatDoor
namespace Go.Proofs.YtfjeceicgfdmjaaGreatDoor
namespace Ab
set_option linter.unusedVariables false
set_option linter.unusedSimpArgs false
theorem zaE3 (p : Proc) : ∀ (l : List Wait) (i : Nat), match zN5 p l i with
  | some j => i ≤ j ∧ (l.find? fun w => decide (w.proc = p)) = some (l.getD (j - i) Wait.zero)
  | none => (l.find? fun w => decide (w.proc = p)) = none
 | [], i => rfl
 | w :: l, i => by
  simp only [zN5, List.find?_cons]
  by_cases hp : w.proc = p
  ·simp [hp]
  ·have ih := zaE3 p l (i + 1)
   simp only [hp, if_false, decide_false]
   cases hf : zN5 p l (i + 1) with
   | none => rw [hf] at ih; exact ih
   | some j =>
    rw [hf] at ih
    obtain ⟨h1, h2⟩ := ih
    refine ⟨by omega, ?_⟩
    rw [h2, show j - i = (j - (i + 1)) + 1 by omega, List.getD_cons_succ]
theorem zbd2 (l : List Wait) (p : Proc) : zaC5 l p = if 0 ≤ zz7 l p then ((l.getD (zz7 l p).toNat Wait.zero).amount, true) else (Amount.zero, false) := by
 have h := zaE3 p l 0
 unfold zaC5 zz7
 cases hf : zN5 p l 0 with
 | none => rw [hf] at h; simp only at h; rw [h]; rfl
 | some j =>
  rw [hf] at h
  obtain ⟨_, h2⟩ := h
  rw [h2, if_pos (by simp only; omega)]
  simp
theorem zbr3 (l m : List Wait) (p : Proc) : zaC5 (l ++ m) p = if 0 ≤ zz7 l p then zaC5 l p else zaC5 m p := by
 have h := zaE3 p l 0
 unfold zaC5 zz7
 rw [List.find?_append]
 cases hf : zN5 p l 0 with
 | none => rw [hf] at h; simp only at h; rw [h, if_neg (by decide)]; rfl
 | some j =>
  rw [hf] at h
  obtain ⟨_, h2⟩ := h
  rw [h2, if_pos (by simp only; omega)]
  rfl
theorem zac3 (q : Queue) (p : Proc) (h1 : q.converts.length ≤ 1000000) (h2 : q.waits.length ≤ 1000000) : zl9 q p = some (zz0 q p) := by
 unfold zl9 zz0
 rw [zR3 _ _ (by omega), Option.bind_some, zbr3, zbd2 q.converts, zbd2 q.waits]
 have b1 := zbw7 q.converts p
 have b2 := zbw7 q.waits p
 by_cases c1 : 0 ≤ zz7 q.converts p
 ·rw [if_pos (decide_eq_true c1), zb2 (by omega), if_pos c1, if_pos c1]
 ·rw [if_neg (by simpa using c1), if_neg c1, zR3 _ _ (by omega), Option.bind_some]
  by_cases c2 : 0 ≤ zz7 q.waits p
  ·rw [if_pos (decide_eq_true c2), zb2 (by omega), if_pos c2]
  ·rw [if_neg (by simpa using c2), if_neg c2]
end Ab
end Go.Proofs.YtfjeceicgfdmjaaGreatDoor
