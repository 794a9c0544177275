/-
  Names, resources, what is held, what covers: both sides say the same.
-/
import Derived.Test.YtfjeceicgfdmjaaGreatDoorLinA
namespace Go.Proofs.YtfjeceicgfdmjaaGreatDoor
namespace Ab
set_option linter.unusedVariables false
set_option linter.unusedSimpArgs false
theorem zbq0 (s : ByteArray) : zw0 s = zp4 s := by
 unfold zw0 zp4 zk0
 generalize (s.toList == _) = a
 generalize (s.toList == _) = b
 generalize (s.toList == _) = c
 generalize (s.toList == _) = d
 generalize (s.toList == _) = e
 cases a <;> cases b <;> cases c <;> cases d <;> cases e <;> rfl
def chI (s : ByteArray) (i : Nat) : Int := ((s.toList.getD i 0).toNat : Int)
def okC (s : ByteArray) (i : Nat) : Bool := zu0 (chI s i) || (!decide (i = 0) && zn3 (chI s i))
theorem zaD3 (s : ByteArray) (hl : s.size ≤ 12) : zc1 (zp3 s) 0 = some (if (List.range s.size).all (okC s) = true then .inl () else .inr false) := by
 have key : zc1 (zp3 s) 0 = some ((zs7 (fun i => if okC s i = true then none else some (Sum.inr false)) s.size 0).getD (Sum.inl ())) := by
  refine zu8 s.size _ (Sum.inl ()) (fun i hi => ?_) ?_
  ·unfold zp3
   rw [if_pos (by simpa using hi), zb2 (by omega), zf1 (by omega) (by omega)]
   simp only [Int.toNat_natCast]
   have e : ((!((decide (97 ≤ ((s.toList.getD i 0).toNat : Int))) && (decide (((s.toList.getD i 0).toNat : Int) ≤ 122)))) && ((decide ((i : Int) = 0)) || (!((((decide (48 ≤ ((s.toList.getD i 0).toNat : Int))) && (decide (((s.toList.getD i 0).toNat : Int) ≤ 57))) || (decide (((s.toList.getD i 0).toNat : Int) = 95))) || (decide (((s.toList.getD i 0).toNat : Int) = 45)))))) = !okC s i := by
    unfold okC zn3 zu0 chI
    generalize ((s.toList.getD i 0).toNat : Int) = c
    rw [Bool.eq_iff_iff]
    simp
    omega
   cases hk : okC s i
   ·rw [hk] at e; exact if_pos e
   ·rw [hk] at e; exact if_neg (by rw [show _ = false from e]; decide)
  ·unfold zp3
   rw [if_neg (by simp)]
 rw [key, zB4, ← List.range_eq_range']
 cases (List.range s.size).all (okC s) <;> rfl
theorem zaO2 (s : ByteArray) (hl : s.size ≤ 12) : zc1 (zt1 s) 0 = some (if (List.range s.size).all (fun i => zn3 (chI s i)) = true then .inl () else .inr false) := by
 have key : zc1 (zt1 s) 0 = some ((zs7 (fun i => if zn3 (chI s i) = true then none else some (Sum.inr false)) s.size 0).getD (Sum.inl ())) := by
  refine zu8 s.size _ (Sum.inl ()) (fun i hi => ?_) ?_
  ·unfold zt1
   rw [if_pos (by simpa using hi), zb2 (by omega), zf1 (by omega) (by omega)]
   simp only [Int.toNat_natCast]
   show (if (!zn3 (chI s i)) = true then _ else _) = _
   cases zn3 (chI s i) <;> rfl
  ·unfold zt1
   rw [if_neg (by simp)]
 rw [key, zB4, ← List.range_eq_range']
 cases (List.range s.size).all (fun i => zn3 (chI s i)) <;> rfl
def zaX1 (s : ByteArray) : Bool := decide (1 ≤ s.size) && (decide (s.size ≤ 12) && (!zp4 s && (List.range s.size).all (okC s)))
theorem zaO3 (s : ByteArray) : ze6 s = some (zaX1 s) := by
 unfold ze6 zaX1
 rw [zbq0]
 by_cases h1 : s.size < 1
 ·have : ¬ 1 ≤ s.size := by omega
  rw [if_pos (by simp; omega)]
  simp [this]
 by_cases h2 : 12 < s.size
 ·have : ¬ s.size ≤ 12 := by omega
  rw [if_pos (by simp; omega)]
  simp [this]
 cases hr : zp4 s
 ·rw [if_neg (by simp; omega), zaD3 s (by omega)]
  have a1 : 1 ≤ s.size := by omega
  have a2 : s.size ≤ 12 := by omega
  simp only [a1, a2, decide_true, Bool.true_and, Bool.not_false]
  cases (List.range s.size).all (okC s) <;> rfl
 ·rw [if_pos (by simp)]
  simp
theorem zbc0 (s : ByteArray) : zf7 s = some (zaX1 s) := by
 unfold zf7 zaX1
 by_cases h1 : s.size < 1
 ·have : ¬ 1 ≤ s.size := by omega
  rw [zb2 (by simp; omega), if_pos (by simp; omega)]
  simp [this]
 by_cases h2 : 12 < s.size
 ·have : ¬ s.size ≤ 12 := by omega
  rw [zb2 (by simp; omega), if_pos (by simp; omega)]
  simp [this]
 have a1 : 1 ≤ s.size := by omega
 have a2 : s.size ≤ 12 := by omega
 rw [zb2 (by intro _; omega)]
 have c0 : ((s.toList.getD 0 0).toNat : Int) = chI s 0 := rfl
 have d1 : decide ((s.size : Int) < 1) = false := by simp; omega
 have d2 : decide (12 < (s.size : Int)) = false := by simp; omega
 simp only [a1, a2, decide_true, Bool.true_and, c0, d1, d2, Bool.false_or]
 have hall : (List.range s.size).all (okC s) = (zu0 (chI s 0) && (List.range s.size).all fun i => zn3 (chI s i)) := by
  rw [Bool.eq_iff_iff]
  simp only [List.all_eq_true, List.mem_range, Bool.and_eq_true, okC, Bool.or_eq_true, Bool.not_eq_true', decide_eq_false_iff_not]
  constructor
  ·intro h
   refine ⟨?_, fun i hi => ?_⟩
   ·rcases h 0 (by omega) with h | h
    ·exact h
    ·exact absurd rfl h.1
   ·rcases h i hi with h | h
    ·unfold zn3; simp [h]
    ·exact h.2
  ·rintro ⟨h0, h⟩ i hi
   by_cases hz : i = 0
   ·subst hz; exact .inl h0
   ·exact .inr ⟨hz, h i hi⟩
 rw [hall]
 cases hr : zp4 s
 ·cases hL : zu0 (chI s 0)
  ·rfl
  ·simp only [Bool.not_true, Bool.or_self, Bool.false_eq_true, if_false, zaO2 s a2, Bool.not_false, Bool.true_and]
   cases (List.range s.size).all (fun i => zn3 (chI s i)) <;> rfl
 ·simp
def resV (r : Resource) : Bool := zaX1 r.name && (zc6 r && (decide (0 ≤ r.home) && decide (r.home < 4)))
theorem zad6 (r : Resource) : zc7 r = some (resV r) := by
 unfold zc7 resV
 rw [zaO3]
 simp only [Option.bind_some, Bool.and_assoc]
theorem zaD4 (r : Resource) : zd5 r = some (resV r) := by
 unfold zd5 resV
 rw [zbc0, zaj7]
 simp only [Option.bind_some, Bool.and_assoc]
def getH (l : List Hold) (p : Proc) : Amount := match l.find? fun h => decide (h.proc = p) with
 | some h => h.amount
 | none => Amount.zero
theorem zaX2 (l : List Hold) (p : Proc) : ∀ k i, i + k = l.length → ((zs7 (fun i => if (l.getD i Hold.zero).proc = p then some (Sum.inr (α := Unit) (l.getD i Hold.zero).amount) else none) k i).getD (Sum.inl ())) = match (l.drop i).find? fun h => decide (h.proc = p) with
  | some h => Sum.inr h.amount
  | none => Sum.inl ()
 | 0, i, h => by rw [List.drop_eq_nil_of_le (by omega)]; rfl
 | k + 1, i, h => by
  rw [zV7 l i Hold.zero (by omega)]
  simp only [zs7, List.find?_cons]
  by_cases hp : (l.getD i Hold.zero).proc = p
  ·simp only [hp, if_true, decide_true, Option.getD_some]
  ·simp only [hp, if_false, decide_false]
   exact zaX2 l p k (i + 1) (by omega)
theorem zar9 (l : List Hold) (p : Proc) (hl : l.length < 4611686018427387904) : zl1 l p = some (getH l p) := by
 unfold zl1
 have key : zc1 (zw1 l p) 0 = some ((zs7 (fun i => if (l.getD i Hold.zero).proc = p then some (Sum.inr (α := Unit) (l.getD i Hold.zero).amount) else none) l.length 0).getD (Sum.inl ())) := by
  refine zu8 l.length _ (Sum.inl ()) (fun i hi => ?_) ?_
  ·unfold zw1
   rw [if_pos (by simpa using hi), zb2 (by omega), zf1 (by omega) (by omega)]
   simp only [Int.toNat_natCast, decide_eq_true_eq]
   split <;> rfl
  ·unfold zw1
   rw [if_neg (by simp)]
 rw [key, zaX2 l p l.length 0 (by omega), List.drop_zero]
 unfold getH
 cases l.find? fun h => decide (h.proc = p) <;> rfl
theorem zal8 (l : List Hold) (p : Proc) (hl : l.length < 4611686018427387904) : zt3 l p = some (getH l p) := by
 rw [← zar9 l p hl]
 unfold zt3 zl1
 have e : zS6 l p = zw1 l p := funext fun i => by
  unfold zS6 zw1
  by_cases h : 0 ≤ i ∧ i < (l.length : Int)
  ·simp only [zb2 h]
  ·by_cases hi : i < (l.length : Int)
   ·rw [if_pos (decide_eq_true hi), if_pos (decide_eq_true hi), gdn h, gdn h]
   ·rw [if_neg (by simpa using hi), if_neg (by simpa using hi)]
 rw [e]
 rfl
theorem zaf9 (a : Amount) : zc9 a = zb8 a := rfl
abbrev covM (a b : Int) : Bool := zx6 a b
theorem zaX3 (a b : Int) : covM a b = true ↔ (1 ≤ a ∧ a ≤ 5 ∧ 1 ≤ b ∧ b ≤ 5) ∧ (a = b ∨ a = 5 ∨ b = 1 ∨ a = 4 ∧ b ≠ 5) := by
 unfold covM zx6 zl3
 by_cases h : 1 ≤ a ∧ a ≤ 5 ∧ 1 ≤ b ∧ b ≤ 5
 ·rw [if_neg (by simp; omega)]
  simp
  omega
 ·rw [if_pos (by simp; omega)]
  simp
  omega
theorem zad7 (a b : Int) : zj4 a b = some (covM a b) := by
 unfold zj4 zg4
 rw [zb2 (by simp; omega)]
 congr 1
 rw [Bool.eq_iff_iff, zaX3]
 by_cases h : 1 ≤ a ∧ a ≤ 5 ∧ 1 ≤ b ∧ b ≤ 5
 ·obtain ⟨h1, h2, h3, h4⟩ := h
  have ha : a = 1 ∨ a = 2 ∨ a = 3 ∨ a = 4 ∨ a = 5 := by omega
  have hb : b = 1 ∨ b = 2 ∨ b = 3 ∨ b = 4 ∨ b = 5 := by omega
  rcases ha with rfl | rfl | rfl | rfl | rfl <;> rcases hb with rfl | rfl | rfl | rfl | rfl <;> decide
 ·constructor
  ·intro hh
   simp only [Bool.and_eq_true, decide_eq_true_eq] at hh
   omega
  ·rintro ⟨hh, _⟩; exact absurd hh h
def covA (r : Resource) (a b : Amount) : Bool := zg3 r a b
theorem zW0 (r : Resource) (a b : Amount) : zg2 r a b = some (covA r a b) := by
 unfold zg2 covA zg3
 simp only [zau5, zaf9, zad7, Option.bind_some]
 cases zb1 r a <;> cases zb1 r b <;> simp
 cases ha : zb8 a <;> cases hb : zb8 b <;> simp
 split <;> rfl
end Ab
end Go.Proofs.YtfjeceicgfdmjaaGreatDoor
namespace Go.Proofs.YtfjeceicgfdmjaaGreatDoor
namespace Ab
set_option linter.unusedVariables false
set_option linter.unusedSimpArgs false
theorem zD2 (q : Queue) (p : Proc) (hl : q.holds.length < 4611686018427387904) : zg5 q p = some (getH q.holds p) := by
 unfold zg5
 rw [zar9 _ _ hl]; rfl
theorem zah3 (q : Queue) (p : Proc) (hl : q.holds.length < 4611686018427387904) : zn5 q p = some (getH q.holds p) := by
 unfold zn5
 rw [zal8 _ _ hl]; rfl
theorem hb (b : Bool) : b = true ∨ b = false := by cases b <;> simp
def cvI (q : Queue) (i : Nat) : Bool :=
 let w := q.converts.getD i Wait.zero
 let h := getH q.holds w.proc
 decide (zy6 q.converts w.proc = (i : Int)) && (!zb8 h && (za9 q.resource w.amount && (covA q.resource w.amount h && (!decide (w.amount = h) && (decide (w.priority = 0) && decide (w.passed = 0))))))
def cvOk (q : Queue) : Bool := decide (q.converts.length ≤ 8) && (List.range q.converts.length).all (cvI q)
def wtI (q : Queue) (i : Nat) : Bool :=
 let w := q.waits.getD i Wait.zero
 za9 q.resource w.amount && zb8 (getH q.holds w.proc)
def wtOk (q : Queue) : Bool := zD1 q.waits && (decide (q.holds.length + q.waits.length ≤ 8) && (List.range q.waits.length).all (wtI q))
theorem zbc1 (q : Queue) (hl : q.holds.length < 4611686018427387904) (hc : q.converts.length ≤ 8) : zc1 (zm6 q) 0 = some (if (List.range q.converts.length).all (cvI q) = true then .inl () else .inr false) := by
 have key : zc1 (zm6 q) 0 = some ((zs7 (fun i => if cvI q i = true then none else some (Sum.inr false)) q.converts.length 0).getD (Sum.inl ())) := by
  refine zu8 q.converts.length _ (Sum.inl ()) (fun i hi => ?_) ?_
  ·unfold zm6
   rw [if_pos (by simpa using hi), zb2 (by omega), zf1 (by omega) (by omega), Int.toNat_natCast]
   unfold cvI
   generalize q.converts.getD i Wait.zero = w
   rw [zD2 q _ hl, Option.bind_some, zN8 _ _ (show q.converts.length < 4611686018427387904 by omega), Option.bind_some]
   simp only [zW0]
   rcases hb (decide (zy6 q.converts w.proc = (i : Int))) with c1 | c1 <;> rcases hb (zb8 (getH q.holds w.proc)) with c2 | c2 <;> rcases hb (za9 q.resource w.amount) with c3 | c3 <;> rcases hb (covA q.resource w.amount (getH q.holds w.proc)) with c4 | c4 <;>
    rcases hb (decide (w.amount = getH q.holds w.proc)) with c5 | c5 <;> rcases hb (decide (w.priority = 0)) with c6 | c6 <;> rcases hb (decide (w.passed = 0)) with c7 | c7 <;>
    simp only [c1, c2, c3, c4, c5, c6, c7, Bool.not_true, Bool.not_false, Bool.or_true, Bool.true_or, Bool.or_false, Bool.false_or, Bool.and_true, Bool.true_and, Bool.and_false, Bool.false_and, if_true, if_false, Bool.false_eq_true, Option.bind_some, Bool.or_self, Bool.and_self]
  ·unfold zm6
   rw [if_neg (by simp)]
 rw [key, zB4, ← List.range_eq_range']
 cases (List.range q.converts.length).all (cvI q) <;> rfl
theorem zal9 (q : Queue) (hl : q.holds.length < 4611686018427387904) : zd9 q = some (cvOk q) := by
 unfold zd9 cvOk
 by_cases h : 8 < q.converts.length
 ·have : ¬ q.converts.length ≤ 8 := by omega
  rw [if_pos (by simp; omega)]
  simp [this]
 ·have h8 : q.converts.length ≤ 8 := by omega
  rw [if_neg (by simp; omega), zbc1 q hl h8]
  simp only [h8, decide_true, Bool.true_and]
  cases (List.range q.converts.length).all (cvI q) <;> rfl
theorem zaX4 (q : Queue) (hl : q.holds.length < 4611686018427387904) (hc : q.waits.length ≤ 8) : zc1 (zn2 q) 0 = some (if (List.range q.waits.length).all (wtI q) = true then .inl () else .inr false) := by
 have key : zc1 (zn2 q) 0 = some ((zs7 (fun i => if wtI q i = true then none else some (Sum.inr false)) q.waits.length 0).getD (Sum.inl ())) := by
  refine zu8 q.waits.length _ (Sum.inl ()) (fun i hi => ?_) ?_
  ·unfold zn2
   rw [if_pos (by simpa using hi), zb2 (by omega), zf1 (by omega) (by omega), Int.toNat_natCast]
   unfold wtI
   generalize q.waits.getD i Wait.zero = w
   rw [zD2 q _ hl]
   rcases hb (zb8 (getH q.holds w.proc)) with c2 | c2 <;> rcases hb (za9 q.resource w.amount) with c3 | c3 <;> simp only [c2, c3, Bool.not_true, Bool.not_false, Bool.or_true, Bool.true_or, Bool.or_false, Bool.false_or, Bool.and_true, Bool.true_and, Bool.and_false, Bool.false_and, if_true, if_false, Bool.false_eq_true, Option.bind_some, Bool.or_self, Bool.and_self]
  ·unfold zn2
   rw [if_neg (by simp)]
 rw [key, zB4, ← List.range_eq_range']
 cases (List.range q.waits.length).all (wtI q) <;> rfl
theorem zaw5 (q : Queue) (hl : q.holds.length ≤ 1000000) : zf4 q = some (wtOk q) := by
 unfold zf4 wtOk
 rw [zah2, Option.bind_some]
 cases hv : zD1 q.waits
 ·simp
 ·have h8 := zal7 hv
  rw [zf1 (by omega) (by omega)]
  by_cases h : 8 < q.holds.length + q.waits.length
  ·have : ¬ q.holds.length + q.waits.length ≤ 8 := by omega
   rw [if_pos (by simp; omega)]
   simp [this]
  ·have h9 : q.holds.length + q.waits.length ≤ 8 := by omega
   rw [if_neg (by simp; omega), zaX4 q (by omega) h8]
   simp only [h9, decide_true, Bool.true_and]
   cases (List.range q.waits.length).all (wtI q) <;> rfl
def zah4 (q : Queue) : Bool := resV q.resource && (zv3 q.resource q.holds && (cvOk q && (wtOk q && (decide (0 ≤ q.gen) && decide (q.gen ≤ 1073741824)))))
theorem zaX5 (q : Queue) : zm7 q = some (zah4 q) := by
 unfold zm7 zah4
 rw [zad6, Option.bind_some]
 cases resV q.resource
 ·simp
 ·simp only [if_true, zV9, Option.bind_some, Bool.true_and]
  cases hv : zv3 q.resource q.holds
  ·simp
  ·have hl := zK9 hv
   simp only [if_true, zal9 q (by omega), Option.bind_some, Bool.true_and]
   cases cvOk q
   ·simp
   ·simp only [if_true, zaw5 q (by omega), Option.bind_some, Bool.true_and, Bool.and_assoc]
theorem zaX6 (q : Queue) (hl : q.holds.length ≤ 1000000) (hc : q.waits.length ≤ 8) : zc1 (zM7 q) 0 = some (if (List.range q.waits.length).all (wtI q) = true then .inl () else .inr false) := by
 rw [← zaX4 q (by omega) hc]
 congr 1
 funext i
 unfold zM7 zn2
 by_cases h : 0 ≤ i ∧ i < (q.waits.length : Int)
 ·rw [if_pos (decide_eq_true h.2), if_pos (decide_eq_true h.2), zb2 h, zb2 h, zb2 (fun _ => h)]
  simp only [zau4, zaf9, zal8 _ _ (show q.holds.length < 4611686018427387904 by omega), zD2 q _ (show q.holds.length < 4611686018427387904 by omega)]
 ·by_cases hi : i < (q.waits.length : Int)
  ·rw [if_pos (decide_eq_true hi), if_pos (decide_eq_true hi), gdn h, gdn h]
  ·rw [if_neg (by simpa using hi), if_neg (by simpa using hi)]
theorem zaD5 (q : Queue) (hl : q.holds.length ≤ 1000000) (hc : q.converts.length ≤ 8) : zc1 (zA0 q) 0 = some (if (List.range q.converts.length).all (cvI q) = true then .inl () else .inr false) := by
 have key : zc1 (zA0 q) 0 = some ((zs7 (fun i => if cvI q i = true then none else some (Sum.inr false)) q.converts.length 0).getD (Sum.inl ())) := by
  refine zu8 q.converts.length _ (Sum.inl ()) (fun i hi => ?_) ?_
  ·unfold zA0
   rw [if_pos (by simpa using hi), zb2 (by omega), zf1 (by omega) (by omega), Int.toNat_natCast]
   unfold cvI covA
   generalize q.converts.getD i Wait.zero = w
   rw [zal8 _ _ (show q.holds.length < 4611686018427387904 by omega), Option.bind_some, zP0 _ _ (show q.converts.length < 4611686018427387904 by omega)]
   simp only [zaf9, zau4]
   rcases hb (decide (zy6 q.converts w.proc = (i : Int))) with c1 | c1 <;> rcases hb (zb8 (getH q.holds w.proc)) with c2 | c2 <;> rcases hb (za9 q.resource w.amount) with c3 | c3 <;> rcases hb (zg3 q.resource w.amount (getH q.holds w.proc)) with c4 | c4 <;>
    rcases hb (decide (w.amount = getH q.holds w.proc)) with c5 | c5 <;> rcases hb (decide (w.priority = 0)) with c6 | c6 <;> rcases hb (decide (w.passed = 0)) with c7 | c7 <;>
    simp only [c1, c2, c3, c4, c5, c6, c7, Bool.not_true, Bool.not_false, Bool.or_true, Bool.true_or, Bool.or_false, Bool.false_or, Bool.and_true, Bool.true_and, Bool.and_false, Bool.false_and, if_true, if_false, Bool.false_eq_true, Option.bind_some, Bool.or_self, Bool.and_self]
  ·unfold zA0
   rw [if_neg (by simp)]
 rw [key, zB4, ← List.range_eq_range']
 cases (List.range q.converts.length).all (cvI q) <;> rfl
theorem zad8 (q : Queue) : zn1 q = some (zah4 q) := by
 unfold zn1 zah4 cvOk wtOk
 rw [zaD4, Option.bind_some]
 cases resV q.resource
 ·simp
 ·simp only [if_true, zad4, Option.bind_some, Bool.true_and]
  cases hv : zv3 q.resource q.holds
  ·simp
  ·have hl := zK9 hv
   by_cases hc : 8 < q.converts.length
   ·have h1 : ¬ q.converts.length ≤ 8 := by omega
    have h2 : decide (8 < (q.converts.length : Int)) = true := by simp; omega
    simp [h1, h2]
   ·have h1 : q.converts.length ≤ 8 := by omega
    have h2 : decide (8 < (q.converts.length : Int)) = false := by simp; omega
    simp only [h1, h2, Bool.not_true, Bool.or_self, Bool.not_false, if_true, zar7, Option.bind_some, Bool.false_or, decide_true, Bool.true_and]
    cases hw : zD1 q.waits
    ·simp
    ·have h8 := zal7 hw
     simp only [Bool.not_true, Bool.false_or, Bool.true_and]
     rw [zf1 (by omega) (by omega)]
     by_cases h : q.holds.length + q.waits.length ≤ 8
     ·by_cases g1 : 0 ≤ q.gen
      ·by_cases g2 : q.gen ≤ 1073741824
       ·rw [if_neg (by simp; omega), zaD5 q (by omega) h1]
        simp only [h, g1, g2, decide_true, Bool.true_and, Bool.and_true]
        cases (List.range q.converts.length).all (cvI q)
        ·rfl
        ·simp only [if_true, Option.bind_some, Bool.true_and]
         unfold zM8
         rw [zaX6 q (by omega) h8]
         cases (List.range q.waits.length).all (wtI q) <;> rfl
       ·rw [if_pos (by simp; omega)]; simp [g2]
      ·rw [if_pos (by simp; omega)]; simp [g1]
     ·rw [if_pos (by simp; omega)]; simp [h]
def zz1 (q : Queue) : Wait × Bool := match q.converts ++ q.waits with
 | w :: _ => (w, true)
 | [] => (Wait.zero, false)
theorem zah5 (q : Queue) : zn4 q = some (zz1 q) := by
 unfold zn4 zz1
 cases q.converts with
 | cons a l => rw [if_pos (by simp), zb2 (by simp)]; rfl
 | nil =>
  rw [if_neg (by simp)]
  cases q.waits with
  | cons a l => rw [if_pos (by simp), zb2 (by simp)]; rfl
  | nil => rw [if_neg (by simp)]; rfl
theorem zax6 (q : Queue) : zu4 q = some (zz1 q) := by
 rw [← zah5]; rfl
def zd8 (q : Queue) : Bool := zah4 q && !((zz1 q).2 && zZ6 q.resource q.holds (zz1 q).1.proc (zz1 q).1.amount)
theorem zaI5 (q : Queue) : zi5 q = some (zd8 q) := by
 unfold zi5 zd8
 rw [zaX5, Option.bind_some]
 cases zah4 q
 ·simp
 ·rw [if_neg (by simp), zah5, Option.bind_some]
  cases (zz1 q).2 <;> simp [zbx6]
theorem zaj9 (q : Queue) : zk4 q = some (zd8 q) := by
 unfold zk4 zd8
 rw [zad8, Option.bind_some]
 cases zah4 q
 ·simp
 ·rw [if_neg (by simp), zax6, Option.bind_some]
  cases (zz1 q).2 <;> simp [zbp7]
theorem zT6 (q : Queue) : zg6 q = some (zd8 q) := by
 unfold zg6
 rw [zaI5]; rfl
theorem zT7 (q : Queue) : zj7 q = some (zd8 q) := by
 unfold zj7
 rw [zad8, Option.bind_some]
 cases h : zah4 q
 ·simp [zd8, h]
 ·simp [zaj9]
end Ab
end Go.Proofs.YtfjeceicgfdmjaaGreatDoor
namespace Go.Proofs.YtfjeceicgfdmjaaGreatDoor
namespace Ab
set_option linter.unusedVariables false
set_option linter.unusedSimpArgs false
theorem zbc2 (a b : List Hold) (hl : a.length < 4611686018427387904) : zj3 a b = some (decide (a = b)) := by
 unfold zj3
 by_cases h : a.length = b.length
 ·rw [if_neg (by simp [h])]
  exact zaH7 a b Hold.zero hl h (fun i => rfl)
 ·rw [if_pos (by simp; omega)]
  have : a ≠ b := fun e => h (by rw [e])
  simp [this]
instance : DecidableEq Queue := fun a b => decidable_of_iff (a.resource = b.resource ∧ a.holds = b.holds ∧ a.converts = b.converts ∧ a.waits = b.waits ∧ a.gen = b.gen) (by rw [Queue.ext_iff])
theorem zbc3 (a b : Queue) (h1 : a.holds.length < 4611686018427387904) (h2 : a.converts.length < 4611686018427387904) (h3 : a.waits.length < 4611686018427387904) : zu3 a b = some (decide (a = b)) := by
 unfold zu3
 simp only [zbc2 _ _ h1, zaD2 _ _ h2, zaD2 _ _ h3]
 have e : decide (a = b) = (decide (a.resource = b.resource) && (decide (a.gen = b.gen) && (decide (a.holds = b.holds) && (decide (a.converts = b.converts) && decide (a.waits = b.waits))))) := by
  rw [Bool.eq_iff_iff]
  simp only [decide_eq_true_eq, Bool.and_eq_true, Queue.ext_iff]
  constructor
  ·rintro ⟨a1, a2, a3, a4, a5⟩; exact ⟨a1, a5, a2, a3, a4⟩
  ·rintro ⟨a1, a5, a2, a3, a4⟩; exact ⟨a1, a2, a3, a4, a5⟩
 rw [e]
 cases decide (a.resource = b.resource) <;> cases decide (a.gen = b.gen) <;> cases decide (a.holds = b.holds) <;> cases decide (a.converts = b.converts) <;> cases decide (a.waits = b.waits) <;> rfl
def newQ (r : Resource) : Queue × Int := if resV r = true then ({ Queue.zero with resource := r }, 0) else (Queue.zero, 1)
theorem zbk1 (r : Resource) : zt0 r = some (newQ r) := by
 unfold zt0 newQ
 rw [zad6, Option.bind_some]
 cases resV r <;> rfl
theorem zbu2 (a b : List Wait) (ha : a.length ≤ 1000000) (hb : b.length ≤ 1000000) : zc0 [a, b] = some (a ++ b) := by
 unfold zc0
 have s0 : zd2 [a, b] (0, 0) = some (.inl ((a.length : Int), 1)) := by
  unfold zd2
  rw [if_pos (by simp), zb2 (by simp)]
  show (if decide (IntKind.i64.wrap (0 + (a.length : Int)) < 0) = true then none else some (Sum.inl (IntKind.i64.wrap (0 + (a.length : Int)), _))) = _
  rw [zf1 (by omega) (by omega), if_neg (by simp), Int.zero_add]
  rfl
 have s1 : zd2 [a, b] ((a.length : Int), 1) = some (.inl ((a.length : Int) + (b.length : Int), 2)) := by
  unfold zd2
  rw [if_pos (by simp), zb2 (by simp)]
  show (if decide (IntKind.i64.wrap ((a.length : Int) + (b.length : Int)) < 0) = true then none else some (Sum.inl (IntKind.i64.wrap ((a.length : Int) + (b.length : Int)), _))) = _
  rw [zf1 (by omega) (by omega), if_neg (by simp; omega)]
  rfl
 have s2 : zd2 [a, b] ((a.length : Int) + (b.length : Int), 2) = some (.inr ((a.length : Int) + (b.length : Int))) := by
  unfold zd2
  rw [if_neg (by simp)]
 rw [ze1, s0]
 simp only
 rw [ze1, s1]
 simp only
 rw [ze1, s2]
 simp only [Option.bind_some]
 unfold zk1 zc3
 rw [zb2 (by omega), Option.bind_some]
 have t0 : zd1 [a, b] (0, []) = some (.inl (1, a)) := by
  unfold zd1
  rw [if_pos (by simp), zb2 (by simp), zb2 (by simp; omega)]
  rfl
 have t1 : zd1 [a, b] (1, a) = some (.inl (2, a ++ b)) := by
  unfold zd1
  rw [if_pos (by simp), zb2 (by simp), zb2 (by simp; omega)]
  rfl
 have t2 : zd1 [a, b] (2, a ++ b) = some (.inr (a ++ b)) := by
  unfold zd1
  rw [if_neg (by simp)]
 rw [ze1, t0]
 simp only
 rw [ze1, t1]
 simp only
 rw [ze1, t2]
 rfl
theorem zas0 (q : Queue) (h1 : q.converts.length ≤ 1000000) (h2 : q.waits.length ≤ 1000000) : zm8 q = some (q.converts ++ q.waits) := by
 unfold zm8
 rw [zbu2 _ _ h1 h2]; rfl
def zaD6 (l : List Wait) (p : Proc) : Amount × Bool := match l.find? fun w => decide (w.proc = p) with
 | some w => (w.amount, true)
 | none => (Amount.zero, false)
def zD3 (q : Queue) (p : Proc) : Amount × Bool := zaD6 (q.converts ++ q.waits) p
theorem zaM9 (l : List Wait) (p : Proc) : ∀ k i, i + k = l.length → ((zs7 (fun i => if (l.getD i Wait.zero).proc = p then some (Sum.inr (α := Unit) ((l.getD i Wait.zero).amount, true)) else none) k i).getD (Sum.inl ())) = match (l.drop i).find? fun w => decide (w.proc = p) with
  | some w => Sum.inr (w.amount, true)
  | none => Sum.inl ()
 | 0, i, h => by rw [List.drop_eq_nil_of_le (by omega)]; rfl
 | k + 1, i, h => by
  rw [zV7 l i Wait.zero (by omega)]
  simp only [zs7, List.find?_cons]
  by_cases hp : (l.getD i Wait.zero).proc = p
  ·simp only [hp, if_true, decide_true, Option.getD_some]
  ·simp only [hp, if_false, decide_false]
   exact zaM9 l p k (i + 1) (by omega)
theorem zao1 (q : Queue) (p : Proc) (h1 : q.converts.length ≤ 1000000) (h2 : q.waits.length ≤ 1000000) : zi9 q p = some (zD3 q p) := by
 unfold zi9 zD3
 rw [zas0 q h1 h2, Option.bind_some]
 have hl : (q.converts ++ q.waits).length ≤ 2000000 := by rw [List.length_append]; omega
 generalize q.converts ++ q.waits = l at *
 have key : zc1 (zB9 p l) 0 = some ((zs7 (fun i => if (l.getD i Wait.zero).proc = p then some (Sum.inr (α := Unit) ((l.getD i Wait.zero).amount, true)) else none) l.length 0).getD (Sum.inl ())) := by
  refine zu8 l.length _ (Sum.inl ()) (fun i hi => ?_) ?_
  ·unfold zB9
   rw [if_pos (by simpa using hi), zb2 (by omega), zf1 (by omega) (by omega)]
   simp only [Int.toNat_natCast, decide_eq_true_eq]
   split <;> rfl
  ·unfold zB9
   rw [if_neg (by simp)]
 rw [key, zaM9 l p l.length 0 (by omega), List.drop_zero]
 unfold zaD6
 cases l.find? fun w => decide (w.proc = p) <;> rfl
end Ab
end Go.Proofs.YtfjeceicgfdmjaaGreatDoor
namespace Go.Proofs.YtfjeceicgfdmjaaGreatDoor
namespace Ab
set_option linter.unusedVariables false
set_option linter.unusedSimpArgs false
def upM (a b g : Int) : Bool := covM g a && covM g b
def supM (a b : Int) : Int := if upM a b 1 = true then 1 else if upM a b 2 = true then 2 else if upM a b 3 = true then 3 else if upM a b 4 = true then 4 else if upM a b 5 = true then 5 else 0
theorem zbc4 (a b g : Int) (h1 : 1 ≤ g) (h2 : g ≤ 5) : zH3 a b g = some (if upM a b g = true then .inr (.inr g) else .inl (g + 1)) := by
 unfold zH3 upM
 rw [if_pos (by simpa using h2), zad7, Option.bind_some, zf1 (by omega) (by omega), zad7]
 cases covM g a <;> cases covM g b <;> rfl
theorem zbk2 (a b : Int) : zH3 a b 6 = some (.inr (.inl ())) := by
 unfold zH3
 rw [if_neg (by decide)]
theorem zbq1 {body : Int → Option (Int ⊕ (Unit ⊕ Int))} (a b : Int) (hs : ∀ g, 1 ≤ g → g ≤ 5 → body g = some (if upM a b g = true then .inr (.inr g) else .inl (g + 1))) (he : body 6 = some (.inr (.inl ()))) :
  (zc1 body 1).bind (fun | .inl _ => some 0 | .inr z => some z) = some (supM a b) := by
 unfold supM
 rw [ze1, hs 1 (by decide) (by decide)]
 by_cases c1 : upM a b 1 = true
 ·simp [c1]
 simp only [c1, Bool.false_eq_true, if_false]
 rw [show (1 : Int) + 1 = 2 from rfl, ze1, hs 2 (by decide) (by decide)]
 by_cases c2 : upM a b 2 = true
 ·simp [c2]
 simp only [c2, Bool.false_eq_true, if_false]
 rw [show (2 : Int) + 1 = 3 from rfl, ze1, hs 3 (by decide) (by decide)]
 by_cases c3 : upM a b 3 = true
 ·simp [c3]
 simp only [c3, Bool.false_eq_true, if_false]
 rw [show (3 : Int) + 1 = 4 from rfl, ze1, hs 4 (by decide) (by decide)]
 by_cases c4 : upM a b 4 = true
 ·simp [c4]
 simp only [c4, Bool.false_eq_true, if_false]
 rw [show (4 : Int) + 1 = 5 from rfl, ze1, hs 5 (by decide) (by decide)]
 by_cases c5 : upM a b 5 = true
 ·simp [c5]
 simp only [c5, Bool.false_eq_true, if_false]
 rw [show (5 : Int) + 1 = 6 from rfl, ze1, he]
 rfl
theorem zbq2 (a b : Int) : zA8 a b = some (supM a b) := zbq1 a b (zbc4 a b) (zbk2 a b)
theorem zbk3 (a b : Int) : zC2 a b = some (supM a b) := by
 refine zbq1 a b (fun g h1 h2 => ?_) ?_
 ·unfold zS9
  rw [if_pos (by simpa using h2), zf1 (by omega) (by omega)]
  rcases hb (covM g a) with c | c <;> rcases hb (covM g b) with d | d <;> simp [upM, c, d]
 ·unfold zS9
  rw [if_neg (by decide)]
def zO3 (r : Resource) (a b : Amount) : Amount :=
 if (!zb1 r a || !zb1 r b) = true then Amount.zero else
 if zb8 a = true then b else if zb8 b = true then a else
 if r.kind = 1 then { Amount.zero with mode := supM a.mode b.mode } else { Amount.zero with units := if a.units < b.units then b.units else a.units }
theorem zaX7 (r : Resource) (a b : Amount) : zo2 r a b = some (zO3 r a b) := by
 unfold zo2 zO3
 simp only [zbq2, Option.bind_some]
 split
 ·rfl
 split
 ·rfl
 split
 ·rfl
 by_cases h : r.kind = 1
 ·simp [h]
 ·simp [h]
theorem zbR9 : ∀ a ∈ [(1 : Int), 2, 3, 4, 5], ∀ b ∈ [(1 : Int), 2, 3, 4, 5], covM a b = true → supM a b = a := by decide
theorem zbA8 : ∀ a ∈ [(1 : Int), 2, 3, 4, 5], ∀ b ∈ [(1 : Int), 2, 3, 4, 5], covM b a = true → supM a b = b := by decide
theorem zbc5 (r : Resource) (a b : Amount) : zx0 r a b = some (zO3 r a b) := by
 unfold zx0 zO3
 simp only [zau5, zbk3, Option.bind_some]
 cases ha : zb1 r a
 ·simp
 cases hpb : zb1 r b
 ·simp
 simp only [Bool.not_true, Bool.or_self, Bool.false_eq_true, if_false]
 unfold zg3
 simp only [zau5, zaf9, ha, hpb, Bool.not_true, Bool.or_self, Bool.false_eq_true, if_false]
 rcases hb (zb8 a) with hza | hza <;> rcases hb (zb8 b) with hzb | hzb
 rotate_left 3
 ·simp only [hza, hzb, Bool.false_eq_true, if_false]
  by_cases hk : r.kind = 1
  ·have pa := zaa9 ha hk
   have pb := zaa9 hpb hk
   have na : a.mode ≠ 0 := fun h => by
    have : a = Amount.zero := by cases a; simp only at *; simp [Amount.zero]; omega
    rw [this] at hza; exact absurd hza (by decide)
   have nb : b.mode ≠ 0 := fun h => by
    have : b = Amount.zero := by cases b; simp only at *; simp [Amount.zero]; omega
    rw [this] at hzb; exact absurd hzb (by decide)
   have ma : a.mode ∈ [(1 : Int), 2, 3, 4, 5] := by simp; omega
   have mb : b.mode ∈ [(1 : Int), 2, 3, 4, 5] := by simp; omega
   have ea : a = { Amount.zero with mode := a.mode } := by cases a; simp only at *; simp [Amount.zero]; omega
   have eb : b = { Amount.zero with mode := b.mode } := by cases b; simp only at *; simp [Amount.zero]; omega
   simp only [hk, decide_true, if_true]
   by_cases c1 : covM a.mode b.mode = true
   ·rw [if_pos c1, zbR9 _ ma _ mb c1]; exact congrArg some ea
   ·rw [if_neg c1]
    by_cases c2 : covM b.mode a.mode = true
    ·rw [if_pos c2, zbA8 _ ma _ mb c2]; exact congrArg some eb
    ·rw [if_neg c2]
  ·have hk2 : r.kind = 2 := by
    have := ha
    rw [perm_iff, zD0, zH1] at this
    omega
   have pa := zau6 ha hk2
   have pb := zau6 hpb hk2
   have ea : a = { Amount.zero with units := a.units } := by cases a; simp only at *; simp [Amount.zero]; omega
   have eb : b = { Amount.zero with units := b.units } := by cases b; simp only at *; simp [Amount.zero]; omega
   have d : decide (r.kind = 1) = false := by simpa using hk
   simp only [d, hk, Bool.false_eq_true, if_false, decide_eq_true_eq]
   by_cases c1 : b.units ≤ a.units
   ·have : ¬ a.units < b.units := by omega
    rw [if_pos c1, if_neg this]; exact congrArg some ea
   ·have : a.units < b.units := by omega
    have c2 : a.units ≤ b.units := by omega
    rw [if_neg c1, if_pos c2, if_pos this]; exact congrArg some eb
 ·have e0 : a = Amount.zero := by unfold zb8 at hza; simpa using hza
  have e1 : b = Amount.zero := by unfold zb8 at hzb; simpa using hzb
  simp only [hza, hzb, if_true]
  rw [e0, e1]
 ·simp only [hza, hzb, if_true, Bool.false_eq_true, if_false]
 ·simp only [hza, hzb, if_true, Bool.false_eq_true, if_false]
theorem zbW8 (g : Int) : zT0 g = zm0 g := rfl
theorem zas1 (q : Queue) (h1 : q.holds.length ≤ 1000000) (h2 : q.converts.length ≤ 1000000) (h3 : q.waits.length ≤ 1000000) : zp1 q = some q := by
 unfold zp1
 rw [zb2 (by omega), zb2 (by omega), zb2 (by omega)]
theorem zaI6 (q : Queue) (h1 : q.holds.length ≤ 1000000) (h2 : q.converts.length ≤ 1000000) (h3 : q.waits.length ≤ 1000000) : zk3 q = some q := by
 unfold zk3
 rw [zb2 (by omega), zb2 (by omega), zb2 (by omega)]
theorem zah6 (q : Queue) (h1 : q.holds.length ≤ 1000000) (h2 : q.converts.length ≤ 1000000) (h3 : q.waits.length ≤ 1000000) : zp7 q = some q := by
 unfold zp7
 rw [zb2 (by omega), zb2 (by omega), zb2 (by omega)]
theorem zaO4 (q : Queue) (h1 : q.holds.length ≤ 1000000) (h2 : q.converts.length ≤ 1000000) (h3 : q.waits.length ≤ 1000000) : zr5 q = some q := by
 unfold zr5
 rw [zb2 (by omega), zb2 (by omega), zb2 (by omega)]
end Ab
end Go.Proofs.YtfjeceicgfdmjaaGreatDoor
namespace Go.Proofs.YtfjeceicgfdmjaaGreatDoor
namespace Ab
set_option linter.unusedVariables false
set_option linter.unusedSimpArgs false
def popQ (q : Queue) : Queue :=
 if 0 < q.converts.length then { q with holds := setL q.holds (zz1 q).1.proc (zz1 q).1.amount, converts := q.converts.drop 1 }
 else { q with holds := setL q.holds (zz1 q).1.proc (zz1 q).1.amount, waits := q.waits.drop 1 }
def canQ (q : Queue) : Bool := (zz1 q).2 && zZ6 q.resource q.holds (zz1 q).1.proc (zz1 q).1.amount
def zak0 (s : Queue × List Hold) : Queue × List Hold := (popQ s.1, s.2 ++ [⟨(zz1 s.1).1.proc, (zz1 s.1).1.amount⟩])
def advN : Nat → Queue × List Hold → Queue × List Hold
 | 0, s => s
 | n + 1, s => if canQ s.1 = true then advN n (zak0 s) else s
def zx9 (q : Queue) : Nat := q.converts.length + q.waits.length
def advQ (q : Queue) : Queue × List Hold := advN (zx9 q) (q, [])
theorem zN9 {q : Queue} (h : canQ q = true) : 0 < zx9 q ∧ zx9 (popQ q) + 1 = zx9 q ∧ q.holds.length ≤ 8 := by
 unfold canQ at h
 simp only [Bool.and_eq_true] at h
 obtain ⟨h1, h2⟩ := h
 have hv : zv3 q.resource q.holds = true := by
  unfold zZ6 zI7 at h2
  simp only [Bool.and_eq_true] at h2
  exact h2.1.1
 refine ⟨?_, ?_, zK9 hv⟩
 ·unfold zz1 at h1
  unfold zx9
  cases hc : q.converts with
  | cons a l => simp; omega
  | nil =>
   cases hw : q.waits with
   | cons a l => simp
   | nil => simp [hc, hw] at h1
 ·unfold zz1 at h1
  unfold zx9 popQ
  cases hc : q.converts with
  | cons a l => simp; omega
  | nil =>
   cases hw : q.waits with
   | cons a l => simp
   | nil => simp [hc, hw] at h1
theorem zak1 (s : Queue × List Hold) : advN (zx9 s.1) s = if canQ s.1 = true then advN (zx9 (zak0 s).1) (zak0 s) else s := by
 cases hc : canQ s.1 with
 | false =>
  cases hn : zx9 s.1 with
  | zero => rfl
  | succ n => simp [advN, hc]
 | true =>
  obtain ⟨h1, h2, _⟩ := zN9 hc
  have : zx9 s.1 = zx9 (popQ s.1) + 1 := h2.symm
  rw [this]
  simp [advN, hc, zak0]
theorem zbk4 (g : Queue × List Hold) (hg : g.2.length ≤ 1000000) : zx5 g = some (if canQ g.1 = true then .inl (zak0 g) else .inr g) := by
 unfold zx5
 rw [zah5, Option.bind_some]
 rcases hb (zz1 g.1).2 with h2 | h2
 ·rw [if_pos h2, zbx6, Option.bind_some]
  rcases hb (zZ6 g.1.resource g.1.holds (zz1 g.1).1.proc (zz1 g.1).1.amount) with hr | hr
  ·have hc : canQ g.1 = true := by unfold canQ; rw [h2, hr]; rfl
   obtain ⟨_, _, hl⟩ := zN9 hc
   rw [if_neg (by rw [h2, hr]; decide), if_pos hc]
   unfold zak0 popQ
   by_cases h0 : 0 < g.1.converts.length
   ·rw [if_pos (by simpa using h0), zb2 (by omega), if_pos h0]
    unfold zt2
    rw [zT5 _ _ _ (by simp only; omega), Option.bind_some, zb2 (by omega)]
   ·rw [if_neg (by simpa using h0), if_neg h0]
    have hw : 0 < g.1.waits.length := by
     have := (zN9 hc).1
     unfold zx9 at this
     omega
    rw [zb2 (by omega)]
    unfold zt2
    rw [zT5 _ _ _ (by simp only; omega), Option.bind_some, zb2 (by omega)]
  ·have hc : canQ g.1 = false := by unfold canQ; rw [h2, hr]; rfl
   rw [if_pos (by rw [h2, hr]; decide), if_neg (by rw [hc]; decide)]
 ·have hc : canQ g.1 = false := by unfold canQ; rw [h2]; rfl
  rw [if_neg (by rw [h2]; decide), Option.bind_some, if_pos (by rw [h2]; decide), if_neg (by rw [hc]; decide)]
theorem zaI7 (q : Queue) (h : zx9 q ≤ 1000) : zd7 q = some ((advQ q).2, (advQ q).1) := by
 unfold zd7
 have key := zaW4 (body := zx5) (fun g => zx9 g.1 + g.2.length ≤ 1000) (fun g => zx9 g.1) (fun g => advN (zx9 g.1) g) (fun g hg => by
  rw [zbk4 g (by omega)]
  cases hc : canQ g.1 with
  | false => right; rw [if_neg (by decide), zak1, if_neg (by rw [hc]; decide)]
  | true =>
   left
   obtain ⟨h1, h2, _⟩ := zN9 hc
   refine ⟨zak0 g, by rw [if_pos rfl], ?_, ?_, ?_⟩
   ·unfold zak0; simp only [List.length_append, List.length_cons, List.length_nil]; omega
   ·show zx9 (popQ g.1) < zx9 g.1; omega
   ·rw [zak1 g, if_pos hc]) (q, []) (by simpa using h)
 rw [key]
 rfl
end Ab
end Go.Proofs.YtfjeceicgfdmjaaGreatDoor
namespace Go.Proofs.YtfjeceicgfdmjaaGreatDoor
namespace Ab
set_option linter.unusedVariables false
set_option linter.unusedSimpArgs false
theorem zaz5 (p : Proc) : ∀ (l : List Wait) (i : Nat), match zL0 p l i with
  | some j => i ≤ j ∧ (l.find? fun w => decide (w.proc = p)) = some (l.getD (j - i) Wait.zero)
  | none => (l.find? fun w => decide (w.proc = p)) = none
 | [], i => rfl
 | w :: l, i => by
  simp only [zL0, List.find?_cons]
  by_cases hp : w.proc = p
  ·simp [hp]
  ·have ih := zaz5 p l (i + 1)
   simp only [hp, if_false, decide_false]
   cases hf : zL0 p l (i + 1) with
   | none => rw [hf] at ih; exact ih
   | some j =>
    rw [hf] at ih
    obtain ⟨h1, h2⟩ := ih
    refine ⟨by omega, ?_⟩
    rw [h2, show j - i = (j - (i + 1)) + 1 by omega, List.getD_cons_succ]
theorem zaX8 (l : List Wait) (p : Proc) : zaD6 l p = if 0 ≤ zy6 l p then ((l.getD (zy6 l p).toNat Wait.zero).amount, true) else (Amount.zero, false) := by
 have h := zaz5 p l 0
 unfold zaD6 zy6
 cases hf : zL0 p l 0 with
 | none => rw [hf] at h; simp only at h; rw [h]; rfl
 | some j =>
  rw [hf] at h
  obtain ⟨_, h2⟩ := h
  rw [h2, if_pos (by simp only; omega)]
  simp
theorem zbk5 (l m : List Wait) (p : Proc) : zaD6 (l ++ m) p = if 0 ≤ zy6 l p then zaD6 l p else zaD6 m p := by
 have h := zaz5 p l 0
 unfold zaD6 zy6
 rw [List.find?_append]
 cases hf : zL0 p l 0 with
 | none => rw [hf] at h; simp only at h; rw [h, if_neg (by decide)]; rfl
 | some j =>
  rw [hf] at h
  obtain ⟨_, h2⟩ := h
  rw [h2, if_pos (by simp only; omega)]
  rfl
theorem zZ4 (q : Queue) (p : Proc) (h1 : q.converts.length ≤ 1000000) (h2 : q.waits.length ≤ 1000000) : zk9 q p = some (zD3 q p) := by
 unfold zk9 zD3
 rw [zP0 _ _ (by omega), Option.bind_some, zbk5, zaX8 q.converts, zaX8 q.waits]
 have b1 := zbp9 q.converts p
 have b2 := zbp9 q.waits p
 by_cases c1 : 0 ≤ zy6 q.converts p
 ·rw [if_pos (decide_eq_true c1), zb2 (by omega), if_pos c1, if_pos c1]
 ·rw [if_neg (by simpa using c1), if_neg c1, zP0 _ _ (by omega), Option.bind_some]
  by_cases c2 : 0 ≤ zy6 q.waits p
  ·rw [if_pos (decide_eq_true c2), zb2 (by omega), if_pos c2]
  ·rw [if_neg (by simpa using c2), if_neg c2]
end Ab
end Go.Proofs.YtfjeceicgfdmjaaGreatDoor
