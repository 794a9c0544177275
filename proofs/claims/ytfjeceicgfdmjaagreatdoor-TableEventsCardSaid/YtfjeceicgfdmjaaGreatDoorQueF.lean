/-
  Names, resources, what is held, what covers: both sides say the same.
-/
import Derived.Test.YtfjeceicgfdmjaaGreatDoorLinA
namespace Go.Proofs.YtfjeceicgfdmjaaGreatDoor
namespace Ab
set_option linter.unusedVariables false
set_option linter.unusedSimpArgs false
theorem zbu5 (s : ByteArray) : zu8 s = zn1 s := by
 unfold zu8 zn1 zi2
 generalize (s.toList == _) = a
 generalize (s.toList == _) = b
 generalize (s.toList == _) = c
 generalize (s.toList == _) = d
 generalize (s.toList == _) = e
 cases a <;> cases b <;> cases c <;> cases d <;> cases e <;> rfl
def chI (s : ByteArray) (i : Nat) : Int := ((s.toList.getD i 0).toNat : Int)
def okC (s : ByteArray) (i : Nat) : Bool := zs7 (chI s i) || (!decide (i = 0) && zk9 (chI s i))
theorem zaG2 (s : ByteArray) (hl : s.size ≤ 12) : zb8 (zn0 s) 0 = some (if (List.range s.size).all (okC s) = true then .inl () else .inr false) := by
 have key : zb8 (zn0 s) 0 = some ((zr3 (fun i => if okC s i = true then none else some (Sum.inr false)) s.size 0).getD (Sum.inl ())) := by
  refine zv2 s.size _ (Sum.inl ()) (fun i hi => ?_) ?_
  ·unfold zn0
   rw [if_pos (by simpa using hi), zb2 (by omega), ze1 (by omega) (by omega)]
   simp only [Int.toNat_natCast]
   have e : ((!((decide (97 ≤ ((s.toList.getD i 0).toNat : Int))) && (decide (((s.toList.getD i 0).toNat : Int) ≤ 122)))) && ((decide ((i : Int) = 0)) || (!((((decide (48 ≤ ((s.toList.getD i 0).toNat : Int))) && (decide (((s.toList.getD i 0).toNat : Int) ≤ 57))) || (decide (((s.toList.getD i 0).toNat : Int) = 95))) || (decide (((s.toList.getD i 0).toNat : Int) = 45)))))) = !okC s i := by
    unfold okC zk9 zs7 chI
    generalize ((s.toList.getD i 0).toNat : Int) = c
    rw [Bool.eq_iff_iff]
    simp
    omega
   cases hk : okC s i
   ·rw [hk] at e; exact if_pos e
   ·rw [hk] at e; exact if_neg (by rw [show _ = false from e]; decide)
  ·unfold zn0
   rw [if_neg (by simp)]
 rw [key, zE6, ← List.range_eq_range']
 cases (List.range s.size).all (okC s) <;> rfl
theorem zaR1 (s : ByteArray) (hl : s.size ≤ 12) : zb8 (zq5 s) 0 = some (if (List.range s.size).all (fun i => zk9 (chI s i)) = true then .inl () else .inr false) := by
 have key : zb8 (zq5 s) 0 = some ((zr3 (fun i => if zk9 (chI s i) = true then none else some (Sum.inr false)) s.size 0).getD (Sum.inl ())) := by
  refine zv2 s.size _ (Sum.inl ()) (fun i hi => ?_) ?_
  ·unfold zq5
   rw [if_pos (by simpa using hi), zb2 (by omega), ze1 (by omega) (by omega)]
   simp only [Int.toNat_natCast]
   show (if (!zk9 (chI s i)) = true then _ else _) = _
   cases zk9 (chI s i) <;> rfl
  ·unfold zq5
   rw [if_neg (by simp)]
 rw [key, zE6, ← List.range_eq_range']
 cases (List.range s.size).all (fun i => zk9 (chI s i)) <;> rfl
def zaf1 (s : ByteArray) : Bool := decide (1 ≤ s.size) && (decide (s.size ≤ 12) && (!zn1 s && (List.range s.size).all (okC s)))
theorem zaR2 (s : ByteArray) : zf5 s = some (zaf1 s) := by
 unfold zf5 zaf1
 rw [zbu5]
 by_cases h1 : s.size < 1
 ·have : ¬ 1 ≤ s.size := by omega
  rw [if_pos (by simp; omega)]
  simp [this]
 by_cases h2 : 12 < s.size
 ·have : ¬ s.size ≤ 12 := by omega
  rw [if_pos (by simp; omega)]
  simp [this]
 cases hr : zn1 s
 ·rw [if_neg (by simp; omega), zaG2 s (by omega)]
  have a1 : 1 ≤ s.size := by omega
  have a2 : s.size ≤ 12 := by omega
  simp only [a1, a2, decide_true, Bool.true_and, Bool.not_false]
  cases (List.range s.size).all (okC s) <;> rfl
 ·rw [if_pos (by simp)]
  simp
theorem zbf0 (s : ByteArray) : zh4 s = some (zaf1 s) := by
 unfold zh4 zaf1
 by_cases h1 : s.size < 1
 ·have : ¬ 1 ≤ s.size := by omega
  rw [zb2 (by simp; omega), if_pos (by simp; omega)]
  simp [this]
 by_cases h2 : 12 < s.size
 ·have : ¬ s.size ≤ 12 := by omega
  rw [zb2 (by simp; omega), if_pos (by simp; omega)]
  simp [this]
 have a1 : 1 ≤ s.size := by omega
 have a2 : s.size ≤ 12 := by omega
 rw [zb2 (by intro _; omega)]
 have c0 : ((s.toList.getD 0 0).toNat : Int) = chI s 0 := rfl
 have d1 : decide ((s.size : Int) < 1) = false := by simp; omega
 have d2 : decide (12 < (s.size : Int)) = false := by simp; omega
 simp only [a1, a2, decide_true, Bool.true_and, c0, d1, d2, Bool.false_or]
 have hall : (List.range s.size).all (okC s) = (zs7 (chI s 0) && (List.range s.size).all fun i => zk9 (chI s i)) := by
  rw [Bool.eq_iff_iff]
  simp only [List.all_eq_true, List.mem_range, Bool.and_eq_true, okC, Bool.or_eq_true, Bool.not_eq_true', decide_eq_false_iff_not]
  constructor
  ·intro h
   refine ⟨?_, fun i hi => ?_⟩
   ·rcases h 0 (by omega) with h | h
    ·exact h
    ·exact absurd rfl h.1
   ·rcases h i hi with h | h
    ·unfold zk9; simp [h]
    ·exact h.2
  ·rintro ⟨h0, h⟩ i hi
   by_cases hz : i = 0
   ·subst hz; exact .inl h0
   ·exact .inr ⟨hz, h i hi⟩
 rw [hall]
 cases hr : zn1 s
 ·cases hL : zs7 (chI s 0)
  ·rfl
  ·simp only [Bool.not_true, Bool.or_self, Bool.false_eq_true, if_false, zaR1 s a2, Bool.not_false, Bool.true_and]
   cases (List.range s.size).all (fun i => zk9 (chI s i)) <;> rfl
 ·simp
def resV (r : Resource) : Bool := zaf1 r.name && (zb4 r && (decide (0 ≤ r.home) && decide (r.home < 4)))
theorem zaf2 (r : Resource) : zd4 r = some (resV r) := by
 unfold zd4 resV
 rw [zaR2]
 simp only [Option.bind_some, Bool.and_assoc]
theorem zaG3 (r : Resource) : ze3 r = some (resV r) := by
 unfold ze3 resV
 rw [zbf0, zal8]
 simp only [Option.bind_some, Bool.and_assoc]
def getH (l : List Hold) (p : Proc) : Amount := match l.find? fun h => decide (h.proc = p) with
 | some h => h.amount
 | none => Amount.zero
theorem zaZ6 (l : List Hold) (p : Proc) : ∀ k i, i + k = l.length → ((zr3 (fun i => if (l.getD i Hold.zero).proc = p then some (Sum.inr (α := Unit) (l.getD i Hold.zero).amount) else none) k i).getD (Sum.inl ())) = match (l.drop i).find? fun h => decide (h.proc = p) with
  | some h => Sum.inr h.amount
  | none => Sum.inl ()
 | 0, i, h => by rw [List.drop_eq_nil_of_le (by omega)]; rfl
 | k + 1, i, h => by
  rw [zW9 l i Hold.zero (by omega)]
  simp only [zr3, List.find?_cons]
  by_cases hp : (l.getD i Hold.zero).proc = p
  ·simp only [hp, if_true, decide_true, Option.getD_some]
  ·simp only [hp, if_false, decide_false]
   exact zaZ6 l p k (i + 1) (by omega)
theorem zav1 (l : List Hold) (p : Proc) (hl : l.length < 4611686018427387904) : zm1 l p = some (getH l p) := by
 unfold zm1
 have key : zb8 (zu9 l p) 0 = some ((zr3 (fun i => if (l.getD i Hold.zero).proc = p then some (Sum.inr (α := Unit) (l.getD i Hold.zero).amount) else none) l.length 0).getD (Sum.inl ())) := by
  refine zv2 l.length _ (Sum.inl ()) (fun i hi => ?_) ?_
  ·unfold zu9
   rw [if_pos (by simpa using hi), zb2 (by omega), ze1 (by omega) (by omega)]
   simp only [Int.toNat_natCast, decide_eq_true_eq]
   split <;> rfl
  ·unfold zu9
   rw [if_neg (by simp)]
 rw [key, zaZ6 l p l.length 0 (by omega), List.drop_zero]
 unfold getH
 cases l.find? fun h => decide (h.proc = p) <;> rfl
theorem zao6 (l : List Hold) (p : Proc) (hl : l.length < 4611686018427387904) : zw5 l p = some (getH l p) := by
 rw [← zav1 l p hl]
 unfold zw5 zm1
 have e : zT5 l p = zu9 l p := funext fun i => by
  unfold zT5 zu9
  by_cases h : 0 ≤ i ∧ i < (l.length : Int)
  ·simp only [zb2 h]
  ·by_cases hi : i < (l.length : Int)
   ·rw [if_pos (decide_eq_true hi), if_pos (decide_eq_true hi), gdn h, gdn h]
   ·rw [if_neg (by simpa using hi), if_neg (by simpa using hi)]
 rw [e]
 rfl
theorem zai0 (a : Amount) : zc6 a = zb7 a := rfl
abbrev covM (a b : Int) : Bool := zw6 a b
theorem zav2 (a b : Int) : covM a b = true ↔ (1 ≤ a ∧ a ≤ 5 ∧ 1 ≤ b ∧ b ≤ 5) ∧ (a = b ∨ a = 5 ∨ b = 1 ∨ a = 4 ∧ b ≠ 5) := by
 unfold covM zw6 zj2
 by_cases h : 1 ≤ a ∧ a ≤ 5 ∧ 1 ≤ b ∧ b ≤ 5
 ·rw [if_neg (by simp; omega)]
  simp
  omega
 ·rw [if_pos (by simp; omega)]
  simp
  omega
theorem zaf3 (a b : Int) : zk4 a b = some (covM a b) := by
 unfold zk4 zf9
 rw [zb2 (by simp; omega)]
 congr 1
 rw [Bool.eq_iff_iff, zav2]
 by_cases h : 1 ≤ a ∧ a ≤ 5 ∧ 1 ≤ b ∧ b ≤ 5
 ·obtain ⟨h1, h2, h3, h4⟩ := h
  have ha : a = 1 ∨ a = 2 ∨ a = 3 ∨ a = 4 ∨ a = 5 := by omega
  have hb : b = 1 ∨ b = 2 ∨ b = 3 ∨ b = 4 ∨ b = 5 := by omega
  rcases ha with rfl | rfl | rfl | rfl | rfl <;> rcases hb with rfl | rfl | rfl | rfl | rfl <;> decide
 ·constructor
  ·intro hh
   simp only [Bool.and_eq_true, decide_eq_true_eq] at hh
   omega
  ·rintro ⟨hh, _⟩; exact absurd hh h
def covA (r : Resource) (a b : Amount) : Bool := zf7 r a b
theorem zam0 (r : Resource) (a b : Amount) : zh3 r a b = some (covA r a b) := by
 unfold zh3 covA zf7
 simp only [zax5, zai0, zaf3, Option.bind_some]
 cases zb0 r a <;> cases zb0 r b <;> simp
 cases ha : zb7 a <;> cases hb : zb7 b <;> simp
 split <;> rfl
end Ab
end Go.Proofs.YtfjeceicgfdmjaaGreatDoor
namespace Go.Proofs.YtfjeceicgfdmjaaGreatDoor
namespace Ab
set_option linter.unusedVariables false
set_option linter.unusedSimpArgs false
theorem zJ2 (q : Queue) (p : Proc) (hl : q.holds.length < 4611686018427387904) : zh6 q p = some (getH q.holds p) := by
 unfold zh6
 rw [zav1 _ _ hl]; rfl
theorem zY5 (q : Queue) (p : Proc) (hl : q.holds.length < 4611686018427387904) : zn7 q p = some (getH q.holds p) := by
 unfold zn7
 rw [zao6 _ _ hl]; rfl
theorem hb (b : Bool) : b = true ∨ b = false := by cases b <;> simp
def cvI (q : Queue) (i : Nat) : Bool :=
 let w := q.converts.getD i Wait.zero
 let h := getH q.holds w.proc
 decide (zy9 q.converts w.proc = (i : Int)) && (!zb7 h && (za9 q.resource w.amount && (covA q.resource w.amount h && (!decide (w.amount = h) && (decide (w.priority = 0) && decide (w.passed = 0))))))
def cvOk (q : Queue) : Bool := decide (q.converts.length ≤ 8) && (List.range q.converts.length).all (cvI q)
def wtI (q : Queue) (i : Nat) : Bool :=
 let w := q.waits.getD i Wait.zero
 za9 q.resource w.amount && zb7 (getH q.holds w.proc)
def wtOk (q : Queue) : Bool := zC8 q.waits && (decide (q.holds.length + q.waits.length ≤ 8) && (List.range q.waits.length).all (wtI q))
theorem zbf1 (q : Queue) (hl : q.holds.length < 4611686018427387904) (hc : q.converts.length ≤ 8) : zb8 (zk5 q) 0 = some (if (List.range q.converts.length).all (cvI q) = true then .inl () else .inr false) := by
 have key : zb8 (zk5 q) 0 = some ((zr3 (fun i => if cvI q i = true then none else some (Sum.inr false)) q.converts.length 0).getD (Sum.inl ())) := by
  refine zv2 q.converts.length _ (Sum.inl ()) (fun i hi => ?_) ?_
  ·unfold zk5
   rw [if_pos (by simpa using hi), zb2 (by omega), ze1 (by omega) (by omega), Int.toNat_natCast]
   unfold cvI
   generalize q.converts.getD i Wait.zero = w
   rw [zJ2 q _ hl, Option.bind_some, zU9 _ _ (show q.converts.length < 4611686018427387904 by omega), Option.bind_some]
   simp only [zam0]
   rcases hb (decide (zy9 q.converts w.proc = (i : Int))) with c1 | c1 <;> rcases hb (zb7 (getH q.holds w.proc)) with c2 | c2 <;> rcases hb (za9 q.resource w.amount) with c3 | c3 <;> rcases hb (covA q.resource w.amount (getH q.holds w.proc)) with c4 | c4 <;>
    rcases hb (decide (w.amount = getH q.holds w.proc)) with c5 | c5 <;> rcases hb (decide (w.priority = 0)) with c6 | c6 <;> rcases hb (decide (w.passed = 0)) with c7 | c7 <;>
    simp only [c1, c2, c3, c4, c5, c6, c7, Bool.not_true, Bool.not_false, Bool.or_true, Bool.true_or, Bool.or_false, Bool.false_or, Bool.and_true, Bool.true_and, Bool.and_false, Bool.false_and, if_true, if_false, Bool.false_eq_true, Option.bind_some, Bool.or_self, Bool.and_self]
  ·unfold zk5
   rw [if_neg (by simp)]
 rw [key, zE6, ← List.range_eq_range']
 cases (List.range q.converts.length).all (cvI q) <;> rfl
theorem zao7 (q : Queue) (hl : q.holds.length < 4611686018427387904) : zf0 q = some (cvOk q) := by
 unfold zf0 cvOk
 by_cases h : 8 < q.converts.length
 ·have : ¬ q.converts.length ≤ 8 := by omega
  rw [if_pos (by simp; omega)]
  simp [this]
 ·have h8 : q.converts.length ≤ 8 := by omega
  rw [if_neg (by simp; omega), zbf1 q hl h8]
  simp only [h8, decide_true, Bool.true_and]
  cases (List.range q.converts.length).all (cvI q) <;> rfl
theorem zaZ7 (q : Queue) (hl : q.holds.length < 4611686018427387904) (hc : q.waits.length ≤ 8) : zb8 (zk8 q) 0 = some (if (List.range q.waits.length).all (wtI q) = true then .inl () else .inr false) := by
 have key : zb8 (zk8 q) 0 = some ((zr3 (fun i => if wtI q i = true then none else some (Sum.inr false)) q.waits.length 0).getD (Sum.inl ())) := by
  refine zv2 q.waits.length _ (Sum.inl ()) (fun i hi => ?_) ?_
  ·unfold zk8
   rw [if_pos (by simpa using hi), zb2 (by omega), ze1 (by omega) (by omega), Int.toNat_natCast]
   unfold wtI
   generalize q.waits.getD i Wait.zero = w
   rw [zJ2 q _ hl]
   rcases hb (zb7 (getH q.holds w.proc)) with c2 | c2 <;> rcases hb (za9 q.resource w.amount) with c3 | c3 <;> simp only [c2, c3, Bool.not_true, Bool.not_false, Bool.or_true, Bool.true_or, Bool.or_false, Bool.false_or, Bool.and_true, Bool.true_and, Bool.and_false, Bool.false_and, if_true, if_false, Bool.false_eq_true, Option.bind_some, Bool.or_self, Bool.and_self]
  ·unfold zk8
   rw [if_neg (by simp)]
 rw [key, zE6, ← List.range_eq_range']
 cases (List.range q.waits.length).all (wtI q) <;> rfl
theorem zaz5 (q : Queue) (hl : q.holds.length ≤ 1000000) : zg6 q = some (wtOk q) := by
 unfold zg6 wtOk
 rw [zaj4, Option.bind_some]
 cases hv : zC8 q.waits
 ·simp
 ·have h8 := zao5 hv
  rw [ze1 (by omega) (by omega)]
  by_cases h : 8 < q.holds.length + q.waits.length
  ·have : ¬ q.holds.length + q.waits.length ≤ 8 := by omega
   rw [if_pos (by simp; omega)]
   simp [this]
  ·have h9 : q.holds.length + q.waits.length ≤ 8 := by omega
   rw [if_neg (by simp; omega), zaZ7 q (by omega) h8]
   simp only [h9, decide_true, Bool.true_and]
   cases (List.range q.waits.length).all (wtI q) <;> rfl
def zaj5 (q : Queue) : Bool := resV q.resource && (zq3 q.resource q.holds && (cvOk q && (wtOk q && (decide (0 ≤ q.gen) && decide (q.gen ≤ 1073741824)))))
theorem zaZ8 (q : Queue) : zo6 q = some (zaj5 q) := by
 unfold zo6 zaj5
 rw [zaf2, Option.bind_some]
 cases resV q.resource
 ·simp
 ·simp only [if_true, zX2, Option.bind_some, Bool.true_and]
  cases hv : zq3 q.resource q.holds
  ·simp
  ·have hl := zM5 hv
   simp only [if_true, zao7 q (by omega), Option.bind_some, Bool.true_and]
   cases cvOk q
   ·simp
   ·simp only [if_true, zaz5 q (by omega), Option.bind_some, Bool.true_and, Bool.and_assoc]
theorem zaZ9 (q : Queue) (hl : q.holds.length ≤ 1000000) (hc : q.waits.length ≤ 8) : zb8 (zN9 q) 0 = some (if (List.range q.waits.length).all (wtI q) = true then .inl () else .inr false) := by
 rw [← zaZ7 q (by omega) hc]
 congr 1
 funext i
 unfold zN9 zk8
 by_cases h : 0 ≤ i ∧ i < (q.waits.length : Int)
 ·rw [if_pos (decide_eq_true h.2), if_pos (decide_eq_true h.2), zb2 h, zb2 h, zb2 (fun _ => h)]
  simp only [zax4, zai0, zao6 _ _ (show q.holds.length < 4611686018427387904 by omega), zJ2 q _ (show q.holds.length < 4611686018427387904 by omega)]
 ·by_cases hi : i < (q.waits.length : Int)
  ·rw [if_pos (decide_eq_true hi), if_pos (decide_eq_true hi), gdn h, gdn h]
  ·rw [if_neg (by simpa using hi), if_neg (by simpa using hi)]
theorem zaG4 (q : Queue) (hl : q.holds.length ≤ 1000000) (hc : q.converts.length ≤ 8) : zb8 (zB0 q) 0 = some (if (List.range q.converts.length).all (cvI q) = true then .inl () else .inr false) := by
 have key : zb8 (zB0 q) 0 = some ((zr3 (fun i => if cvI q i = true then none else some (Sum.inr false)) q.converts.length 0).getD (Sum.inl ())) := by
  refine zv2 q.converts.length _ (Sum.inl ()) (fun i hi => ?_) ?_
  ·unfold zB0
   rw [if_pos (by simpa using hi), zb2 (by omega), ze1 (by omega) (by omega), Int.toNat_natCast]
   unfold cvI covA
   generalize q.converts.getD i Wait.zero = w
   rw [zao6 _ _ (show q.holds.length < 4611686018427387904 by omega), Option.bind_some, zQ2 _ _ (show q.converts.length < 4611686018427387904 by omega)]
   simp only [zai0, zax4]
   rcases hb (decide (zy9 q.converts w.proc = (i : Int))) with c1 | c1 <;> rcases hb (zb7 (getH q.holds w.proc)) with c2 | c2 <;> rcases hb (za9 q.resource w.amount) with c3 | c3 <;> rcases hb (zf7 q.resource w.amount (getH q.holds w.proc)) with c4 | c4 <;>
    rcases hb (decide (w.amount = getH q.holds w.proc)) with c5 | c5 <;> rcases hb (decide (w.priority = 0)) with c6 | c6 <;> rcases hb (decide (w.passed = 0)) with c7 | c7 <;>
    simp only [c1, c2, c3, c4, c5, c6, c7, Bool.not_true, Bool.not_false, Bool.or_true, Bool.true_or, Bool.or_false, Bool.false_or, Bool.and_true, Bool.true_and, Bool.and_false, Bool.false_and, if_true, if_false, Bool.false_eq_true, Option.bind_some, Bool.or_self, Bool.and_self]
  ·unfold zB0
   rw [if_neg (by simp)]
 rw [key, zE6, ← List.range_eq_range']
 cases (List.range q.converts.length).all (cvI q) <;> rfl
theorem zaf4 (q : Queue) : zp2 q = some (zaj5 q) := by
 unfold zp2 zaj5 cvOk wtOk
 rw [zaG3, Option.bind_some]
 cases resV q.resource
 ·simp
 ·simp only [if_true, zae9, Option.bind_some, Bool.true_and]
  cases hv : zq3 q.resource q.holds
  ·simp
  ·have hl := zM5 hv
   by_cases hc : 8 < q.converts.length
   ·have h1 : ¬ q.converts.length ≤ 8 := by omega
    have h2 : decide (8 < (q.converts.length : Int)) = true := by simp; omega
    simp [h1, h2]
   ·have h1 : q.converts.length ≤ 8 := by omega
    have h2 : decide (8 < (q.converts.length : Int)) = false := by simp; omega
    simp only [h1, h2, Bool.not_true, Bool.or_self, Bool.not_false, if_true, zav0, Option.bind_some, Bool.false_or, decide_true, Bool.true_and]
    cases hw : zC8 q.waits
    ·simp
    ·have h8 := zao5 hw
     simp only [Bool.not_true, Bool.false_or, Bool.true_and]
     rw [ze1 (by omega) (by omega)]
     by_cases h : q.holds.length + q.waits.length ≤ 8
     ·by_cases g1 : 0 ≤ q.gen
      ·by_cases g2 : q.gen ≤ 1073741824
       ·rw [if_neg (by simp; omega), zaG4 q (by omega) h1]
        simp only [h, g1, g2, decide_true, Bool.true_and, Bool.and_true]
        cases (List.range q.converts.length).all (cvI q)
        ·rfl
        ·simp only [if_true, Option.bind_some, Bool.true_and]
         unfold zO0
         rw [zaZ9 q (by omega) h8]
         cases (List.range q.waits.length).all (wtI q) <;> rfl
       ·rw [if_pos (by simp; omega)]; simp [g2]
      ·rw [if_pos (by simp; omega)]; simp [g1]
     ·rw [if_pos (by simp; omega)]; simp [h]
def zj4 (q : Queue) : Wait × Bool := match q.converts ++ q.waits with
 | w :: _ => (w, true)
 | [] => (Wait.zero, false)
theorem zaj6 (q : Queue) : zp5 q = some (zj4 q) := by
 unfold zp5 zj4
 cases q.converts with
 | cons a l => rw [if_pos (by simp), zb2 (by simp)]; rfl
 | nil =>
  rw [if_neg (by simp)]
  cases q.waits with
  | cons a l => rw [if_pos (by simp), zb2 (by simp)]; rfl
  | nil => rw [if_neg (by simp)]; rfl
theorem zaB0 (q : Queue) : zz7 q = some (zj4 q) := by
 rw [← zaj6]; rfl
def zb9 (q : Queue) : Bool := zaj5 q && !((zj4 q).2 && zG0 q.resource q.holds (zj4 q).1.proc (zj4 q).1.amount)
theorem zaL7 (q : Queue) : zk1 q = some (zb9 q) := by
 unfold zk1 zb9
 rw [zaZ8, Option.bind_some]
 cases zaj5 q
 ·simp
 ·rw [if_neg (by simp), zaj6, Option.bind_some]
  cases (zj4 q).2 <;> simp [zbF0]
theorem zam1 (q : Queue) : zm4 q = some (zb9 q) := by
 unfold zm4 zb9
 rw [zaf4, Option.bind_some]
 cases zaj5 q
 ·simp
 ·rw [if_neg (by simp), zaB0, Option.bind_some]
  cases (zj4 q).2 <;> simp [zbu2]
theorem zaf5 (q : Queue) : zi0 q = some (zb9 q) := by
 unfold zi0
 rw [zaL7]; rfl
theorem zV0 (q : Queue) : zk7 q = some (zb9 q) := by
 unfold zk7
 rw [zaf4, Option.bind_some]
 cases h : zaj5 q
 ·simp [zb9, h]
 ·simp [zam1]
end Ab
end Go.Proofs.YtfjeceicgfdmjaaGreatDoor
namespace Go.Proofs.YtfjeceicgfdmjaaGreatDoor
namespace Ab
set_option linter.unusedVariables false
set_option linter.unusedSimpArgs false
theorem zbf2 (a b : List Hold) (hl : a.length < 4611686018427387904) : zj1 a b = some (decide (a = b)) := by
 unfold zj1
 by_cases h : a.length = b.length
 ·rw [if_neg (by simp [h])]
  exact zbI8 a b Hold.zero hl h (fun i => rfl)
 ·rw [if_pos (by simp; omega)]
  have : a ≠ b := fun e => h (by rw [e])
  simp [this]
instance : DecidableEq Queue := fun a b => decidable_of_iff (a.resource = b.resource ∧ a.holds = b.holds ∧ a.converts = b.converts ∧ a.waits = b.waits ∧ a.gen = b.gen) (by rw [Queue.ext_iff])
def newQ (r : Resource) : Queue × Int := if resV r = true then ({ Queue.zero with resource := r }, 0) else (Queue.zero, 1)
theorem zbn7 (r : Resource) : zw0 r = some (newQ r) := by
 unfold zw0 newQ
 rw [zaf2, Option.bind_some]
 cases resV r <;> rfl
theorem zbA6 (a b : List Wait) (ha : a.length ≤ 1000000) (hb : b.length ≤ 1000000) : zc7 [a, b] = some (a ++ b) := by
 unfold zc7
 have s0 : zd1 [a, b] (0, 0) = some (.inl ((a.length : Int), 1)) := by
  unfold zd1
  rw [if_pos (by simp), zb2 (by simp)]
  show (if decide (IntKind.i64.wrap (0 + (a.length : Int)) < 0) = true then none else some (Sum.inl (IntKind.i64.wrap (0 + (a.length : Int)), _))) = _
  rw [ze1 (by omega) (by omega), if_neg (by simp), Int.zero_add]
  rfl
 have s1 : zd1 [a, b] ((a.length : Int), 1) = some (.inl ((a.length : Int) + (b.length : Int), 2)) := by
  unfold zd1
  rw [if_pos (by simp), zb2 (by simp)]
  show (if decide (IntKind.i64.wrap ((a.length : Int) + (b.length : Int)) < 0) = true then none else some (Sum.inl (IntKind.i64.wrap ((a.length : Int) + (b.length : Int)), _))) = _
  rw [ze1 (by omega) (by omega), if_neg (by simp; omega)]
  rfl
 have s2 : zd1 [a, b] ((a.length : Int) + (b.length : Int), 2) = some (.inr ((a.length : Int) + (b.length : Int))) := by
  unfold zd1
  rw [if_neg (by simp)]
 rw [zd6, s0]
 simp only
 rw [zd6, s1]
 simp only
 rw [zd6, s2]
 simp only [Option.bind_some]
 unfold zi4 zc9
 rw [zb2 (by omega), Option.bind_some]
 have t0 : zd0 [a, b] (0, []) = some (.inl (1, a)) := by
  unfold zd0
  rw [if_pos (by simp), zb2 (by simp), zb2 (by simp; omega)]
  rfl
 have t1 : zd0 [a, b] (1, a) = some (.inl (2, a ++ b)) := by
  unfold zd0
  rw [if_pos (by simp), zb2 (by simp), zb2 (by simp; omega)]
  rfl
 have t2 : zd0 [a, b] (2, a ++ b) = some (.inr (a ++ b)) := by
  unfold zd0
  rw [if_neg (by simp)]
 rw [zd6, t0]
 simp only
 rw [zd6, t1]
 simp only
 rw [zd6, t2]
 rfl
theorem zav3 (q : Queue) (h1 : q.converts.length ≤ 1000000) (h2 : q.waits.length ≤ 1000000) : zo7 q = some (q.converts ++ q.waits) := by
 unfold zo7
 rw [zbA6 _ _ h1 h2]; rfl
def zaB1 (l : List Wait) (p : Proc) : Amount × Bool := match l.find? fun w => decide (w.proc = p) with
 | some w => (w.amount, true)
 | none => (Amount.zero, false)
def zz0 (q : Queue) (p : Proc) : Amount × Bool := zaB1 (q.converts ++ q.waits) p
theorem zaP1 (l : List Wait) (p : Proc) : ∀ k i, i + k = l.length → ((zr3 (fun i => if (l.getD i Wait.zero).proc = p then some (Sum.inr (α := Unit) ((l.getD i Wait.zero).amount, true)) else none) k i).getD (Sum.inl ())) = match (l.drop i).find? fun w => decide (w.proc = p) with
  | some w => Sum.inr (w.amount, true)
  | none => Sum.inl ()
 | 0, i, h => by rw [List.drop_eq_nil_of_le (by omega)]; rfl
 | k + 1, i, h => by
  rw [zW9 l i Wait.zero (by omega)]
  simp only [zr3, List.find?_cons]
  by_cases hp : (l.getD i Wait.zero).proc = p
  ·simp only [hp, if_true, decide_true, Option.getD_some]
  ·simp only [hp, if_false, decide_false]
   exact zaP1 l p k (i + 1) (by omega)
theorem zar0 (q : Queue) (p : Proc) (h1 : q.converts.length ≤ 1000000) (h2 : q.waits.length ≤ 1000000) : zk3 q p = some (zz0 q p) := by
 unfold zk3 zz0
 rw [zav3 q h1 h2, Option.bind_some]
 have hl : (q.converts ++ q.waits).length ≤ 2000000 := by rw [List.length_append]; omega
 generalize q.converts ++ q.waits = l at *
 have key : zb8 (zD2 p l) 0 = some ((zr3 (fun i => if (l.getD i Wait.zero).proc = p then some (Sum.inr (α := Unit) ((l.getD i Wait.zero).amount, true)) else none) l.length 0).getD (Sum.inl ())) := by
  refine zv2 l.length _ (Sum.inl ()) (fun i hi => ?_) ?_
  ·unfold zD2
   rw [if_pos (by simpa using hi), zb2 (by omega), ze1 (by omega) (by omega)]
   simp only [Int.toNat_natCast, decide_eq_true_eq]
   split <;> rfl
  ·unfold zD2
   rw [if_neg (by simp)]
 rw [key, zaP1 l p l.length 0 (by omega), List.drop_zero]
 unfold zaB1
 cases l.find? fun w => decide (w.proc = p) <;> rfl
end Ab
end Go.Proofs.YtfjeceicgfdmjaaGreatDoor
namespace Go.Proofs.YtfjeceicgfdmjaaGreatDoor
namespace Ab
set_option linter.unusedVariables false
set_option linter.unusedSimpArgs false
def upM (a b g : Int) : Bool := covM g a && covM g b
def supM (a b : Int) : Int := if upM a b 1 = true then 1 else if upM a b 2 = true then 2 else if upM a b 3 = true then 3 else if upM a b 4 = true then 4 else if upM a b 5 = true then 5 else 0
theorem zbf3 (a b g : Int) (h1 : 1 ≤ g) (h2 : g ≤ 5) : zJ0 a b g = some (if upM a b g = true then .inr (.inr g) else .inl (g + 1)) := by
 unfold zJ0 upM
 rw [if_pos (by simpa using h2), zaf3, Option.bind_some, ze1 (by omega) (by omega), zaf3]
 cases covM g a <;> cases covM g b <;> rfl
theorem zbn8 (a b : Int) : zJ0 a b 6 = some (.inr (.inl ())) := by
 unfold zJ0
 rw [if_neg (by decide)]
theorem zbu6 {body : Int → Option (Int ⊕ (Unit ⊕ Int))} (a b : Int) (hs : ∀ g, 1 ≤ g → g ≤ 5 → body g = some (if upM a b g = true then .inr (.inr g) else .inl (g + 1))) (he : body 6 = some (.inr (.inl ()))) :
  (zb8 body 1).bind (fun | .inl _ => some 0 | .inr z => some z) = some (supM a b) := by
 unfold supM
 rw [zd6, hs 1 (by decide) (by decide)]
 by_cases c1 : upM a b 1 = true
 ·simp [c1]
 simp only [c1, Bool.false_eq_true, if_false]
 rw [show (1 : Int) + 1 = 2 from rfl, zd6, hs 2 (by decide) (by decide)]
 by_cases c2 : upM a b 2 = true
 ·simp [c2]
 simp only [c2, Bool.false_eq_true, if_false]
 rw [show (2 : Int) + 1 = 3 from rfl, zd6, hs 3 (by decide) (by decide)]
 by_cases c3 : upM a b 3 = true
 ·simp [c3]
 simp only [c3, Bool.false_eq_true, if_false]
 rw [show (3 : Int) + 1 = 4 from rfl, zd6, hs 4 (by decide) (by decide)]
 by_cases c4 : upM a b 4 = true
 ·simp [c4]
 simp only [c4, Bool.false_eq_true, if_false]
 rw [show (4 : Int) + 1 = 5 from rfl, zd6, hs 5 (by decide) (by decide)]
 by_cases c5 : upM a b 5 = true
 ·simp [c5]
 simp only [c5, Bool.false_eq_true, if_false]
 rw [show (5 : Int) + 1 = 6 from rfl, zd6, he]
 rfl
theorem zbu7 (a b : Int) : zH2 a b = some (supM a b) := zbu6 a b (zbf3 a b) (zbn8 a b)
theorem zbn9 (a b : Int) : zM2 a b = some (supM a b) := by
 refine zbu6 a b (fun g h1 h2 => ?_) ?_
 ·unfold zT8
  rw [if_pos (by simpa using h2), ze1 (by omega) (by omega)]
  rcases hb (covM g a) with c | c <;> rcases hb (covM g b) with d | d <;> simp [upM, c, d]
 ·unfold zT8
  rw [if_neg (by decide)]
def zP2 (r : Resource) (a b : Amount) : Amount :=
 if (!zb0 r a || !zb0 r b) = true then Amount.zero else
 if zb7 a = true then b else if zb7 b = true then a else
 if r.kind = 1 then { Amount.zero with mode := supM a.mode b.mode } else { Amount.zero with units := if a.units < b.units then b.units else a.units }
theorem zba0 (r : Resource) (a b : Amount) : zr6 r a b = some (zP2 r a b) := by
 unfold zr6 zP2
 simp only [zbu7, Option.bind_some]
 split
 ·rfl
 split
 ·rfl
 split
 ·rfl
 by_cases h : r.kind = 1
 ·simp [h]
 ·simp [h]
theorem zcc9 : ∀ a ∈ [(1 : Int), 2, 3, 4, 5], ∀ b ∈ [(1 : Int), 2, 3, 4, 5], covM a b = true → supM a b = a := by decide
theorem zbJ2 : ∀ a ∈ [(1 : Int), 2, 3, 4, 5], ∀ b ∈ [(1 : Int), 2, 3, 4, 5], covM b a = true → supM a b = b := by decide
theorem zbf4 (r : Resource) (a b : Amount) : zD5 r a b = some (zP2 r a b) := by
 unfold zD5 zP2
 simp only [zax5, zbn9, Option.bind_some]
 cases ha : zb0 r a
 ·simp
 cases hpb : zb0 r b
 ·simp
 simp only [Bool.not_true, Bool.or_self, Bool.false_eq_true, if_false]
 unfold zf7
 simp only [zax5, zai0, ha, hpb, Bool.not_true, Bool.or_self, Bool.false_eq_true, if_false]
 rcases hb (zb7 a) with hza | hza <;> rcases hb (zb7 b) with hzb | hzb
 rotate_left 3
 ·simp only [hza, hzb, Bool.false_eq_true, if_false]
  by_cases hk : r.kind = 1
  ·have pa := zF9 ha hk
   have pb := zF9 hpb hk
   have na : a.mode ≠ 0 := fun h => by
    have : a = Amount.zero := by cases a; simp only at *; simp [Amount.zero]; omega
    rw [this] at hza; exact absurd hza (by decide)
   have nb : b.mode ≠ 0 := fun h => by
    have : b = Amount.zero := by cases b; simp only at *; simp [Amount.zero]; omega
    rw [this] at hzb; exact absurd hzb (by decide)
   have ma : a.mode ∈ [(1 : Int), 2, 3, 4, 5] := by simp; omega
   have mb : b.mode ∈ [(1 : Int), 2, 3, 4, 5] := by simp; omega
   have ea : a = { Amount.zero with mode := a.mode } := by cases a; simp only at *; simp [Amount.zero]; omega
   have eb : b = { Amount.zero with mode := b.mode } := by cases b; simp only at *; simp [Amount.zero]; omega
   simp only [hk, decide_true, if_true]
   by_cases c1 : covM a.mode b.mode = true
   ·rw [if_pos c1, zcc9 _ ma _ mb c1]; exact congrArg some ea
   ·rw [if_neg c1]
    by_cases c2 : covM b.mode a.mode = true
    ·rw [if_pos c2, zbJ2 _ ma _ mb c2]; exact congrArg some eb
    ·rw [if_neg c2]
  ·have hk2 : r.kind = 2 := by
    have := ha
    rw [perm_iff, zt4, zD9] at this
    omega
   have pa := zax6 ha hk2
   have pb := zax6 hpb hk2
   have ea : a = { Amount.zero with units := a.units } := by cases a; simp only at *; simp [Amount.zero]; omega
   have eb : b = { Amount.zero with units := b.units } := by cases b; simp only at *; simp [Amount.zero]; omega
   have d : decide (r.kind = 1) = false := by simpa using hk
   simp only [d, hk, Bool.false_eq_true, if_false, decide_eq_true_eq]
   by_cases c1 : b.units ≤ a.units
   ·have : ¬ a.units < b.units := by omega
    rw [if_pos c1, if_neg this]; exact congrArg some ea
   ·have : a.units < b.units := by omega
    have c2 : a.units ≤ b.units := by omega
    rw [if_neg c1, if_pos c2, if_pos this]; exact congrArg some eb
 ·have e0 : a = Amount.zero := by unfold zb7 at hza; simpa using hza
  have e1 : b = Amount.zero := by unfold zb7 at hzb; simpa using hzb
  simp only [hza, hzb, if_true]
  rw [e0, e1]
 ·simp only [hza, hzb, if_true, Bool.false_eq_true, if_false]
 ·simp only [hza, hzb, if_true, Bool.false_eq_true, if_false]
theorem zcj9 (g : Int) : zT9 g = zg0 g := rfl
theorem zba1 (q : Queue) (h1 : q.holds.length ≤ 1000000) (h2 : q.converts.length ≤ 1000000) (h3 : q.waits.length ≤ 1000000) : zs4 q = some q := by
 unfold zs4
 rw [zb2 (by omega), zb2 (by omega), zb2 (by omega)]
theorem zaL8 (q : Queue) (h1 : q.holds.length ≤ 1000000) (h2 : q.converts.length ≤ 1000000) (h3 : q.waits.length ≤ 1000000) : zm3 q = some q := by
 unfold zm3
 rw [zb2 (by omega), zb2 (by omega), zb2 (by omega)]
theorem zaj7 (q : Queue) (h1 : q.holds.length ≤ 1000000) (h2 : q.converts.length ≤ 1000000) (h3 : q.waits.length ≤ 1000000) : zt2 q = some q := by
 unfold zt2
 rw [zb2 (by omega), zb2 (by omega), zb2 (by omega)]
theorem zaR3 (q : Queue) (h1 : q.holds.length ≤ 1000000) (h2 : q.converts.length ≤ 1000000) (h3 : q.waits.length ≤ 1000000) : zw9 q = some q := by
 unfold zw9
 rw [zb2 (by omega), zb2 (by omega), zb2 (by omega)]
end Ab
end Go.Proofs.YtfjeceicgfdmjaaGreatDoor
namespace Go.Proofs.YtfjeceicgfdmjaaGreatDoor
namespace Ab
set_option linter.unusedVariables false
set_option linter.unusedSimpArgs false
def popQ (q : Queue) : Queue :=
 if 0 < q.converts.length then { q with holds := setL q.holds (zj4 q).1.proc (zj4 q).1.amount, converts := q.converts.drop 1 }
 else { q with holds := setL q.holds (zj4 q).1.proc (zj4 q).1.amount, waits := q.waits.drop 1 }
def canQ (q : Queue) : Bool := (zj4 q).2 && zG0 q.resource q.holds (zj4 q).1.proc (zj4 q).1.amount
def zam2 (s : Queue × List Hold) : Queue × List Hold := (popQ s.1, s.2 ++ [⟨(zj4 s.1).1.proc, (zj4 s.1).1.amount⟩])
def advN : Nat → Queue × List Hold → Queue × List Hold
 | 0, s => s
 | n + 1, s => if canQ s.1 = true then advN n (zam2 s) else s
def zx5 (q : Queue) : Nat := q.converts.length + q.waits.length
def advQ (q : Queue) : Queue × List Hold := advN (zx5 q) (q, [])
theorem zP0 {q : Queue} (h : canQ q = true) : 0 < zx5 q ∧ zx5 (popQ q) + 1 = zx5 q ∧ q.holds.length ≤ 8 := by
 unfold canQ at h
 simp only [Bool.and_eq_true] at h
 obtain ⟨h1, h2⟩ := h
 have hv : zq3 q.resource q.holds = true := by
  unfold zG0 zE1 at h2
  simp only [Bool.and_eq_true] at h2
  exact h2.1.1
 refine ⟨?_, ?_, zM5 hv⟩
 ·unfold zj4 at h1
  unfold zx5
  cases hc : q.converts with
  | cons a l => simp; omega
  | nil =>
   cases hw : q.waits with
   | cons a l => simp
   | nil => simp [hc, hw] at h1
 ·unfold zj4 at h1
  unfold zx5 popQ
  cases hc : q.converts with
  | cons a l => simp; omega
  | nil =>
   cases hw : q.waits with
   | cons a l => simp
   | nil => simp [hc, hw] at h1
theorem zam3 (s : Queue × List Hold) : advN (zx5 s.1) s = if canQ s.1 = true then advN (zx5 (zam2 s).1) (zam2 s) else s := by
 cases hc : canQ s.1 with
 | false =>
  cases hn : zx5 s.1 with
  | zero => rfl
  | succ n => simp [advN, hc]
 | true =>
  obtain ⟨h1, h2, _⟩ := zP0 hc
  have : zx5 s.1 = zx5 (popQ s.1) + 1 := h2.symm
  rw [this]
  simp [advN, hc, zam2]
theorem zbo0 (g : Queue × List Hold) (hg : g.2.length ≤ 1000000) : zw4 g = some (if canQ g.1 = true then .inl (zam2 g) else .inr g) := by
 unfold zw4
 rw [zaj6, Option.bind_some]
 rcases hb (zj4 g.1).2 with h2 | h2
 ·rw [if_pos h2, zbF0, Option.bind_some]
  rcases hb (zG0 g.1.resource g.1.holds (zj4 g.1).1.proc (zj4 g.1).1.amount) with hr | hr
  ·have hc : canQ g.1 = true := by unfold canQ; rw [h2, hr]; rfl
   obtain ⟨_, _, hl⟩ := zP0 hc
   rw [if_neg (by rw [h2, hr]; decide), if_pos hc]
   unfold zam2 popQ
   by_cases h0 : 0 < g.1.converts.length
   ·rw [if_pos (by simpa using h0), zb2 (by omega), if_pos h0]
    unfold zq7
    rw [zU8 _ _ _ (by simp only; omega), Option.bind_some, zb2 (by omega)]
   ·rw [if_neg (by simpa using h0), if_neg h0]
    have hw : 0 < g.1.waits.length := by
     have := (zP0 hc).1
     unfold zx5 at this
     omega
    rw [zb2 (by omega)]
    unfold zq7
    rw [zU8 _ _ _ (by simp only; omega), Option.bind_some, zb2 (by omega)]
  ·have hc : canQ g.1 = false := by unfold canQ; rw [h2, hr]; rfl
   rw [if_pos (by rw [h2, hr]; decide), if_neg (by rw [hc]; decide)]
 ·have hc : canQ g.1 = false := by unfold canQ; rw [h2]; rfl
  rw [if_neg (by rw [h2]; decide), Option.bind_some, if_pos (by rw [h2]; decide), if_neg (by rw [hc]; decide)]
theorem zaL9 (q : Queue) (h : zx5 q ≤ 1000) : ze4 q = some ((advQ q).2, (advQ q).1) := by
 unfold ze4
 have key := zaY9 (body := zw4) (fun g => zx5 g.1 + g.2.length ≤ 1000) (fun g => zx5 g.1) (fun g => advN (zx5 g.1) g) (fun g hg => by
  rw [zbo0 g (by omega)]
  cases hc : canQ g.1 with
  | false => right; rw [if_neg (by decide), zam3, if_neg (by rw [hc]; decide)]
  | true =>
   left
   obtain ⟨h1, h2, _⟩ := zP0 hc
   refine ⟨zam2 g, by rw [if_pos rfl], ?_, ?_, ?_⟩
   ·unfold zam2; simp only [List.length_append, List.length_cons, List.length_nil]; omega
   ·show zx5 (popQ g.1) < zx5 g.1; omega
   ·rw [zam3 g, if_pos hc]) (q, []) (by simpa using h)
 rw [key]
 rfl
end Ab
end Go.Proofs.YtfjeceicgfdmjaaGreatDoor
namespace Go.Proofs.YtfjeceicgfdmjaaGreatDoor
namespace Ab
set_option linter.unusedVariables false
set_option linter.unusedSimpArgs false
theorem zaD2 (p : Proc) : ∀ (l : List Wait) (i : Nat), match zM6 p l i with
  | some j => i ≤ j ∧ (l.find? fun w => decide (w.proc = p)) = some (l.getD (j - i) Wait.zero)
  | none => (l.find? fun w => decide (w.proc = p)) = none
 | [], i => rfl
 | w :: l, i => by
  simp only [zM6, List.find?_cons]
  by_cases hp : w.proc = p
  ·simp [hp]
  ·have ih := zaD2 p l (i + 1)
   simp only [hp, if_false, decide_false]
   cases hf : zM6 p l (i + 1) with
   | none => rw [hf] at ih; exact ih
   | some j =>
    rw [hf] at ih
    obtain ⟨h1, h2⟩ := ih
    refine ⟨by omega, ?_⟩
    rw [h2, show j - i = (j - (i + 1)) + 1 by omega, List.getD_cons_succ]
theorem zba2 (l : List Wait) (p : Proc) : zaB1 l p = if 0 ≤ zy9 l p then ((l.getD (zy9 l p).toNat Wait.zero).amount, true) else (Amount.zero, false) := by
 have h := zaD2 p l 0
 unfold zaB1 zy9
 cases hf : zM6 p l 0 with
 | none => rw [hf] at h; simp only at h; rw [h]; rfl
 | some j =>
  rw [hf] at h
  obtain ⟨_, h2⟩ := h
  rw [h2, if_pos (by simp only; omega)]
  simp
theorem zbo1 (l m : List Wait) (p : Proc) : zaB1 (l ++ m) p = if 0 ≤ zy9 l p then zaB1 l p else zaB1 m p := by
 have h := zaD2 p l 0
 unfold zaB1 zy9
 rw [List.find?_append]
 cases hf : zM6 p l 0 with
 | none => rw [hf] at h; simp only at h; rw [h, if_neg (by decide)]; rfl
 | some j =>
  rw [hf] at h
  obtain ⟨_, h2⟩ := h
  rw [h2, if_pos (by simp only; omega)]
  rfl
theorem zab0 (q : Queue) (p : Proc) (h1 : q.converts.length ≤ 1000000) (h2 : q.waits.length ≤ 1000000) : zl8 q p = some (zz0 q p) := by
 unfold zl8 zz0
 rw [zQ2 _ _ (by omega), Option.bind_some, zbo1, zba2 q.converts, zba2 q.waits]
 have b1 := zbu4 q.converts p
 have b2 := zbu4 q.waits p
 by_cases c1 : 0 ≤ zy9 q.converts p
 ·rw [if_pos (decide_eq_true c1), zb2 (by omega), if_pos c1, if_pos c1]
 ·rw [if_neg (by simpa using c1), if_neg c1, zQ2 _ _ (by omega), Option.bind_some]
  by_cases c2 : 0 ≤ zy9 q.waits p
  ·rw [if_pos (decide_eq_true c2), zb2 (by omega), if_pos c2]
  ·rw [if_neg (by simpa using c2), if_neg c2]
end Ab
end Go.Proofs.YtfjeceicgfdmjaaGreatDoor
