/-
  Names, resources, what is held, what covers: both sides say the same.
-/
import Derived.Test.YtfjeceicgfdmjaaGreatDoorLinA
namespace Go.Proofs.YtfjeceicgfdmjaaGreatDoor
namespace Ab
set_option linter.unusedVariables false
set_option linter.unusedSimpArgs false
theorem zbl9 (s : ByteArray) : zt0 s = zm2 s := by
 unfold zt0 zm2 zh8
 generalize (s.toList == _) = a
 generalize (s.toList == _) = b
 generalize (s.toList == _) = c
 generalize (s.toList == _) = d
 generalize (s.toList == _) = e
 cases a <;> cases b <;> cases c <;> cases d <;> cases e <;> rfl
def chI (s : ByteArray) (i : Nat) : Int := ((s.toList.getD i 0).toNat : Int)
def okC (s : ByteArray) (i : Nat) : Bool := zr1 (chI s i) || (!decide (i = 0) && zk1 (chI s i))
theorem zaz3 (s : ByteArray) (hl : s.size ≤ 12) : zb6 (zm1 s) 0 = some (if (List.range s.size).all (okC s) = true then .inl () else .inr false) := by
 have key : zb6 (zm1 s) 0 = some ((zp3 (fun i => if okC s i = true then none else some (Sum.inr false)) s.size 0).getD (Sum.inl ())) := by
  refine zr8 s.size _ (Sum.inl ()) (fun i hi => ?_) ?_
  ·unfold zm1
   rw [if_pos (by simpa using hi), zb2 (by omega), zf2 (by omega) (by omega)]
   simp only [Int.toNat_natCast]
   have e : ((!((decide (97 ≤ ((s.toList.getD i 0).toNat : Int))) && (decide (((s.toList.getD i 0).toNat : Int) ≤ 122)))) && ((decide ((i : Int) = 0)) || (!((((decide (48 ≤ ((s.toList.getD i 0).toNat : Int))) && (decide (((s.toList.getD i 0).toNat : Int) ≤ 57))) || (decide (((s.toList.getD i 0).toNat : Int) = 95))) || (decide (((s.toList.getD i 0).toNat : Int) = 45)))))) = !okC s i := by
    unfold okC zk1 zr1 chI
    generalize ((s.toList.getD i 0).toNat : Int) = c
    rw [Bool.eq_iff_iff]
    simp
    omega
   cases hk : okC s i
   ·rw [hk] at e; exact if_pos e
   ·rw [hk] at e; exact if_neg (by rw [show _ = false from e]; decide)
  ·unfold zm1
   rw [if_neg (by simp)]
 rw [key, zz0, ← List.range_eq_range']
 cases (List.range s.size).all (okC s) <;> rfl
theorem zaJ1 (s : ByteArray) (hl : s.size ≤ 12) : zb6 (zp4 s) 0 = some (if (List.range s.size).all (fun i => zk1 (chI s i)) = true then .inl () else .inr false) := by
 have key : zb6 (zp4 s) 0 = some ((zp3 (fun i => if zk1 (chI s i) = true then none else some (Sum.inr false)) s.size 0).getD (Sum.inl ())) := by
  refine zr8 s.size _ (Sum.inl ()) (fun i hi => ?_) ?_
  ·unfold zp4
   rw [if_pos (by simpa using hi), zb2 (by omega), zf2 (by omega) (by omega)]
   simp only [Int.toNat_natCast]
   show (if (!zk1 (chI s i)) = true then _ else _) = _
   cases zk1 (chI s i) <;> rfl
  ·unfold zp4
   rw [if_neg (by simp)]
 rw [key, zz0, ← List.range_eq_range']
 cases (List.range s.size).all (fun i => zk1 (chI s i)) <;> rfl
def zaR9 (s : ByteArray) : Bool := decide (1 ≤ s.size) && (decide (s.size ≤ 12) && (!zm2 s && (List.range s.size).all (okC s)))
theorem zaJ2 (s : ByteArray) : zf4 s = some (zaR9 s) := by
 unfold zf4 zaR9
 rw [zbl9]
 by_cases h1 : s.size < 1
 ·have : ¬ 1 ≤ s.size := by omega
  rw [if_pos (by simp; omega)]
  simp [this]
 by_cases h2 : 12 < s.size
 ·have : ¬ s.size ≤ 12 := by omega
  rw [if_pos (by simp; omega)]
  simp [this]
 cases hr : zm2 s
 ·rw [if_neg (by simp; omega), zaz3 s (by omega)]
  have a1 : 1 ≤ s.size := by omega
  have a2 : s.size ≤ 12 := by omega
  simp only [a1, a2, decide_true, Bool.true_and, Bool.not_false]
  cases (List.range s.size).all (okC s) <;> rfl
 ·rw [if_pos (by simp)]
  simp
theorem zaW6 (s : ByteArray) : zh0 s = some (zaR9 s) := by
 unfold zh0 zaR9
 by_cases h1 : s.size < 1
 ·have : ¬ 1 ≤ s.size := by omega
  rw [zb2 (by simp; omega), if_pos (by simp; omega)]
  simp [this]
 by_cases h2 : 12 < s.size
 ·have : ¬ s.size ≤ 12 := by omega
  rw [zb2 (by simp; omega), if_pos (by simp; omega)]
  simp [this]
 have a1 : 1 ≤ s.size := by omega
 have a2 : s.size ≤ 12 := by omega
 rw [zb2 (by intro _; omega)]
 have c0 : ((s.toList.getD 0 0).toNat : Int) = chI s 0 := rfl
 have d1 : decide ((s.size : Int) < 1) = false := by simp; omega
 have d2 : decide (12 < (s.size : Int)) = false := by simp; omega
 simp only [a1, a2, decide_true, Bool.true_and, c0, d1, d2, Bool.false_or]
 have hall : (List.range s.size).all (okC s) = (zr1 (chI s 0) && (List.range s.size).all fun i => zk1 (chI s i)) := by
  rw [Bool.eq_iff_iff]
  simp only [List.all_eq_true, List.mem_range, Bool.and_eq_true, okC, Bool.or_eq_true, Bool.not_eq_true', decide_eq_false_iff_not]
  constructor
  ·intro h
   refine ⟨?_, fun i hi => ?_⟩
   ·rcases h 0 (by omega) with h | h
    ·exact h
    ·exact absurd rfl h.1
   ·rcases h i hi with h | h
    ·unfold zk1; simp [h]
    ·exact h.2
  ·rintro ⟨h0, h⟩ i hi
   by_cases hz : i = 0
   ·subst hz; exact .inl h0
   ·exact .inr ⟨hz, h i hi⟩
 rw [hall]
 cases hr : zm2 s
 ·cases hL : zr1 (chI s 0)
  ·rfl
  ·simp only [Bool.not_true, Bool.or_self, Bool.false_eq_true, if_false, zaJ1 s a2, Bool.not_false, Bool.true_and]
   cases (List.range s.size).all (fun i => zk1 (chI s i)) <;> rfl
 ·simp
def resV (r : Resource) : Bool := zaR9 r.name && (zb8 r && (decide (0 ≤ r.home) && decide (r.home < 4)))
theorem zZ3 (r : Resource) : zd3 r = some (resV r) := by
 unfold zd3 resV
 rw [zaJ2]
 simp only [Option.bind_some, Bool.and_assoc]
theorem zbe7 (r : Resource) : zd8 r = some (resV r) := by
 unfold zd8 resV
 rw [zaW6, zaf5]
 simp only [Option.bind_some, Bool.and_assoc]
def getH (l : List Hold) (p : Proc) : Amount := match l.find? fun h => decide (h.proc = p) with
 | some h => h.amount
 | none => Amount.zero
theorem zaS0 (l : List Hold) (p : Proc) : ∀ k i, i + k = l.length → ((zp3 (fun i => if (l.getD i Hold.zero).proc = p then some (Sum.inr (α := Unit) (l.getD i Hold.zero).amount) else none) k i).getD (Sum.inl ())) = match (l.drop i).find? fun h => decide (h.proc = p) with
  | some h => Sum.inr h.amount
  | none => Sum.inl ()
 | 0, i, h => by rw [List.drop_eq_nil_of_le (by omega)]; rfl
 | k + 1, i, h => by
  rw [zW6 l i Hold.zero (by omega)]
  simp only [zp3, List.find?_cons]
  by_cases hp : (l.getD i Hold.zero).proc = p
  ·simp only [hp, if_true, decide_true, Option.getD_some]
  ·simp only [hp, if_false, decide_false]
   exact zaS0 l p k (i + 1) (by omega)
theorem zan3 (l : List Hold) (p : Proc) (hl : l.length < 4611686018427387904) : zl3 l p = some (getH l p) := by
 unfold zl3
 have key : zb6 (zt1 l p) 0 = some ((zp3 (fun i => if (l.getD i Hold.zero).proc = p then some (Sum.inr (α := Unit) (l.getD i Hold.zero).amount) else none) l.length 0).getD (Sum.inl ())) := by
  refine zr8 l.length _ (Sum.inl ()) (fun i hi => ?_) ?_
  ·unfold zt1
   rw [if_pos (by simpa using hi), zb2 (by omega), zf2 (by omega) (by omega)]
   simp only [Int.toNat_natCast, decide_eq_true_eq]
   split <;> rfl
  ·unfold zt1
   rw [if_neg (by simp)]
 rw [key, zaS0 l p l.length 0 (by omega), List.drop_zero]
 unfold getH
 cases l.find? fun h => decide (h.proc = p) <;> rfl
theorem zai1 (l : List Hold) (p : Proc) (hl : l.length < 4611686018427387904) : zu6 l p = some (getH l p) := by
 rw [← zan3 l p hl]
 unfold zu6 zl3
 have e : zO4 l p = zt1 l p := funext fun i => by
  unfold zO4 zt1
  by_cases h : 0 ≤ i ∧ i < (l.length : Int)
  ·simp only [zb2 h]
  ·by_cases hi : i < (l.length : Int)
   ·rw [if_pos (decide_eq_true hi), if_pos (decide_eq_true hi), gdn h, gdn h]
   ·rw [if_neg (by simpa using hi), if_neg (by simpa using hi)]
 rw [e]
 rfl
theorem zap4 (a : Amount) : zc5 a = zb9 a := rfl
abbrev covM (a b : Int) : Bool := zu7 a b
theorem zaS1 (a b : Int) : covM a b = true ↔ (1 ≤ a ∧ a ≤ 5 ∧ 1 ≤ b ∧ b ≤ 5) ∧ (a = b ∨ a = 5 ∨ b = 1 ∨ a = 4 ∧ b ≠ 5) := by
 unfold covM zu7 zi6
 by_cases h : 1 ≤ a ∧ a ≤ 5 ∧ 1 ≤ b ∧ b ≤ 5
 ·rw [if_neg (by simp; omega)]
  simp
  omega
 ·rw [if_pos (by simp; omega)]
  simp
  omega
theorem zZ4 (a b : Int) : zj6 a b = some (covM a b) := by
 unfold zj6 zf6
 rw [zb2 (by simp; omega)]
 congr 1
 rw [Bool.eq_iff_iff, zaS1]
 by_cases h : 1 ≤ a ∧ a ≤ 5 ∧ 1 ≤ b ∧ b ≤ 5
 ·obtain ⟨h1, h2, h3, h4⟩ := h
  have ha : a = 1 ∨ a = 2 ∨ a = 3 ∨ a = 4 ∨ a = 5 := by omega
  have hb : b = 1 ∨ b = 2 ∨ b = 3 ∨ b = 4 ∨ b = 5 := by omega
  rcases ha with rfl | rfl | rfl | rfl | rfl <;> rcases hb with rfl | rfl | rfl | rfl | rfl <;> decide
 ·constructor
  ·intro hh
   simp only [Bool.and_eq_true, decide_eq_true_eq] at hh
   omega
  ·rintro ⟨hh, _⟩; exact absurd hh h
def covA (r : Resource) (a b : Amount) : Bool := zi3 r a b
theorem zaf7 (r : Resource) (a b : Amount) : zg9 r a b = some (covA r a b) := by
 unfold zg9 covA zi3
 simp only [zaK8, zap4, zZ4, Option.bind_some]
 cases zb0 r a <;> cases zb0 r b <;> simp
 cases ha : zb9 a <;> cases hb : zb9 b <;> simp
 split <;> rfl
end Ab
end Go.Proofs.YtfjeceicgfdmjaaGreatDoor
namespace Go.Proofs.YtfjeceicgfdmjaaGreatDoor
namespace Ab
set_option linter.unusedVariables false
set_option linter.unusedSimpArgs false
theorem zE3 (q : Queue) (p : Proc) (hl : q.holds.length < 4611686018427387904) : zh2 q p = some (getH q.holds p) := by
 unfold zh2
 rw [zan3 _ _ hl]; rfl
theorem zas8 (q : Queue) (p : Proc) (hl : q.holds.length < 4611686018427387904) : zo7 q p = some (getH q.holds p) := by
 unfold zo7
 rw [zai1 _ _ hl]; rfl
theorem hb (b : Bool) : b = true ∨ b = false := by cases b <;> simp
def cvI (q : Queue) (i : Nat) : Bool :=
 let w := q.converts.getD i Wait.zero
 let h := getH q.holds w.proc
 decide (zx6 q.converts w.proc = (i : Int)) && (!zb9 h && (za9 q.resource w.amount && (covA q.resource w.amount h && (!decide (w.amount = h) && (decide (w.priority = 0) && decide (w.passed = 0))))))
def cvOk (q : Queue) : Bool := decide (q.converts.length ≤ 8) && (List.range q.converts.length).all (cvI q)
def wtI (q : Queue) (i : Nat) : Bool :=
 let w := q.waits.getD i Wait.zero
 za9 q.resource w.amount && zb9 (getH q.holds w.proc)
def wtOk (q : Queue) : Bool := zB6 q.waits && (decide (q.holds.length + q.waits.length ≤ 8) && (List.range q.waits.length).all (wtI q))
theorem zaW7 (q : Queue) (hl : q.holds.length < 4611686018427387904) (hc : q.converts.length ≤ 8) : zb6 (zj7 q) 0 = some (if (List.range q.converts.length).all (cvI q) = true then .inl () else .inr false) := by
 have key : zb6 (zj7 q) 0 = some ((zp3 (fun i => if cvI q i = true then none else some (Sum.inr false)) q.converts.length 0).getD (Sum.inl ())) := by
  refine zr8 q.converts.length _ (Sum.inl ()) (fun i hi => ?_) ?_
  ·unfold zj7
   rw [if_pos (by simpa using hi), zb2 (by omega), zf2 (by omega) (by omega), Int.toNat_natCast]
   unfold cvI
   generalize q.converts.getD i Wait.zero = w
   rw [zE3 q _ hl, Option.bind_some, zP9 _ _ (show q.converts.length < 4611686018427387904 by omega), Option.bind_some]
   simp only [zaf7]
   rcases hb (decide (zx6 q.converts w.proc = (i : Int))) with c1 | c1 <;> rcases hb (zb9 (getH q.holds w.proc)) with c2 | c2 <;> rcases hb (za9 q.resource w.amount) with c3 | c3 <;> rcases hb (covA q.resource w.amount (getH q.holds w.proc)) with c4 | c4 <;>
    rcases hb (decide (w.amount = getH q.holds w.proc)) with c5 | c5 <;> rcases hb (decide (w.priority = 0)) with c6 | c6 <;> rcases hb (decide (w.passed = 0)) with c7 | c7 <;>
    simp only [c1, c2, c3, c4, c5, c6, c7, Bool.not_true, Bool.not_false, Bool.or_true, Bool.true_or, Bool.or_false, Bool.false_or, Bool.and_true, Bool.true_and, Bool.and_false, Bool.false_and, if_true, if_false, Bool.false_eq_true, Option.bind_some, Bool.or_self, Bool.and_self]
  ·unfold zj7
   rw [if_neg (by simp)]
 rw [key, zz0, ← List.range_eq_range']
 cases (List.range q.converts.length).all (cvI q) <;> rfl
theorem zai2 (q : Queue) (hl : q.holds.length < 4611686018427387904) : ze5 q = some (cvOk q) := by
 unfold ze5 cvOk
 by_cases h : 8 < q.converts.length
 ·have : ¬ q.converts.length ≤ 8 := by omega
  rw [if_pos (by simp; omega)]
  simp [this]
 ·have h8 : q.converts.length ≤ 8 := by omega
  rw [if_neg (by simp; omega), zaW7 q hl h8]
  simp only [h8, decide_true, Bool.true_and]
  cases (List.range q.converts.length).all (cvI q) <;> rfl
theorem zaS2 (q : Queue) (hl : q.holds.length < 4611686018427387904) (hc : q.waits.length ≤ 8) : zb6 (zk0 q) 0 = some (if (List.range q.waits.length).all (wtI q) = true then .inl () else .inr false) := by
 have key : zb6 (zk0 q) 0 = some ((zp3 (fun i => if wtI q i = true then none else some (Sum.inr false)) q.waits.length 0).getD (Sum.inl ())) := by
  refine zr8 q.waits.length _ (Sum.inl ()) (fun i hi => ?_) ?_
  ·unfold zk0
   rw [if_pos (by simpa using hi), zb2 (by omega), zf2 (by omega) (by omega), Int.toNat_natCast]
   unfold wtI
   generalize q.waits.getD i Wait.zero = w
   rw [zE3 q _ hl]
   rcases hb (zb9 (getH q.holds w.proc)) with c2 | c2 <;> rcases hb (za9 q.resource w.amount) with c3 | c3 <;> simp only [c2, c3, Bool.not_true, Bool.not_false, Bool.or_true, Bool.true_or, Bool.or_false, Bool.false_or, Bool.and_true, Bool.true_and, Bool.and_false, Bool.false_and, if_true, if_false, Bool.false_eq_true, Option.bind_some, Bool.or_self, Bool.and_self]
  ·unfold zk0
   rw [if_neg (by simp)]
 rw [key, zz0, ← List.range_eq_range']
 cases (List.range q.waits.length).all (wtI q) <;> rfl
theorem zar1 (q : Queue) (hl : q.holds.length ≤ 1000000) : zg1 q = some (wtOk q) := by
 unfold zg1 wtOk
 rw [zac7, Option.bind_some]
 cases hv : zB6 q.waits
 ·simp
 ·have h8 := zav2 hv
  rw [zf2 (by omega) (by omega)]
  by_cases h : 8 < q.holds.length + q.waits.length
  ·have : ¬ q.holds.length + q.waits.length ≤ 8 := by omega
   rw [if_pos (by simp; omega)]
   simp [this]
  ·have h9 : q.holds.length + q.waits.length ≤ 8 := by omega
   rw [if_neg (by simp; omega), zaS2 q (by omega) h8]
   simp only [h9, decide_true, Bool.true_and]
   cases (List.range q.waits.length).all (wtI q) <;> rfl
def zac8 (q : Queue) : Bool := resV q.resource && (zw5 q.resource q.holds && (cvOk q && (wtOk q && (decide (0 ≤ q.gen) && decide (q.gen ≤ 1073741824)))))
theorem zaS3 (q : Queue) : zn6 q = some (zac8 q) := by
 unfold zn6 zac8
 rw [zZ3, Option.bind_some]
 cases resV q.resource
 ·simp
 ·simp only [if_true, zS1, Option.bind_some, Bool.true_and]
  cases hv : zw5 q.resource q.holds
  ·simp
  ·have hl := zM7 hv
   simp only [if_true, zai2 q (by omega), Option.bind_some, Bool.true_and]
   cases cvOk q
   ·simp
   ·simp only [if_true, zar1 q (by omega), Option.bind_some, Bool.true_and, Bool.and_assoc]
theorem zaS4 (q : Queue) (hl : q.holds.length ≤ 1000000) (hc : q.waits.length ≤ 8) : zb6 (zI7 q) 0 = some (if (List.range q.waits.length).all (wtI q) = true then .inl () else .inr false) := by
 rw [← zaS2 q (by omega) hc]
 congr 1
 funext i
 unfold zI7 zk0
 by_cases h : 0 ≤ i ∧ i < (q.waits.length : Int)
 ·rw [if_pos (decide_eq_true h.2), if_pos (decide_eq_true h.2), zb2 h, zb2 h, zb2 (fun _ => h)]
  simp only [zaz0, zap4, zai1 _ _ (show q.holds.length < 4611686018427387904 by omega), zE3 q _ (show q.holds.length < 4611686018427387904 by omega)]
 ·by_cases hi : i < (q.waits.length : Int)
  ·rw [if_pos (decide_eq_true hi), if_pos (decide_eq_true hi), gdn h, gdn h]
  ·rw [if_neg (by simpa using hi), if_neg (by simpa using hi)]
theorem zaz4 (q : Queue) (hl : q.holds.length ≤ 1000000) (hc : q.converts.length ≤ 8) : zb6 (zx9 q) 0 = some (if (List.range q.converts.length).all (cvI q) = true then .inl () else .inr false) := by
 have key : zb6 (zx9 q) 0 = some ((zp3 (fun i => if cvI q i = true then none else some (Sum.inr false)) q.converts.length 0).getD (Sum.inl ())) := by
  refine zr8 q.converts.length _ (Sum.inl ()) (fun i hi => ?_) ?_
  ·unfold zx9
   rw [if_pos (by simpa using hi), zb2 (by omega), zf2 (by omega) (by omega), Int.toNat_natCast]
   unfold cvI covA
   generalize q.converts.getD i Wait.zero = w
   rw [zai1 _ _ (show q.holds.length < 4611686018427387904 by omega), Option.bind_some, zT2 _ _ (show q.converts.length < 4611686018427387904 by omega)]
   simp only [zap4, zaz0]
   rcases hb (decide (zx6 q.converts w.proc = (i : Int))) with c1 | c1 <;> rcases hb (zb9 (getH q.holds w.proc)) with c2 | c2 <;> rcases hb (za9 q.resource w.amount) with c3 | c3 <;> rcases hb (zi3 q.resource w.amount (getH q.holds w.proc)) with c4 | c4 <;>
    rcases hb (decide (w.amount = getH q.holds w.proc)) with c5 | c5 <;> rcases hb (decide (w.priority = 0)) with c6 | c6 <;> rcases hb (decide (w.passed = 0)) with c7 | c7 <;>
    simp only [c1, c2, c3, c4, c5, c6, c7, Bool.not_true, Bool.not_false, Bool.or_true, Bool.true_or, Bool.or_false, Bool.false_or, Bool.and_true, Bool.true_and, Bool.and_false, Bool.false_and, if_true, if_false, Bool.false_eq_true, Option.bind_some, Bool.or_self, Bool.and_self]
  ·unfold zx9
   rw [if_neg (by simp)]
 rw [key, zz0, ← List.range_eq_range']
 cases (List.range q.converts.length).all (cvI q) <;> rfl
theorem zZ5 (q : Queue) : zo1 q = some (zac8 q) := by
 unfold zo1 zac8 cvOk wtOk
 rw [zbe7, Option.bind_some]
 cases resV q.resource
 ·simp
 ·simp only [if_true, zZ1, Option.bind_some, Bool.true_and]
  cases hv : zw5 q.resource q.holds
  ·simp
  ·have hl := zM7 hv
   by_cases hc : 8 < q.converts.length
   ·have h1 : ¬ q.converts.length ≤ 8 := by omega
    have h2 : decide (8 < (q.converts.length : Int)) = true := by simp; omega
    simp [h1, h2]
   ·have h1 : q.converts.length ≤ 8 := by omega
    have h2 : decide (8 < (q.converts.length : Int)) = false := by simp; omega
    simp only [h1, h2, Bool.not_true, Bool.or_self, Bool.not_false, if_true, zaR6, Option.bind_some, Bool.false_or, decide_true, Bool.true_and]
    cases hw : zB6 q.waits
    ·simp
    ·have h8 := zav2 hw
     simp only [Bool.not_true, Bool.false_or, Bool.true_and]
     rw [zf2 (by omega) (by omega)]
     by_cases h : q.holds.length + q.waits.length ≤ 8
     ·by_cases g1 : 0 ≤ q.gen
      ·by_cases g2 : q.gen ≤ 1073741824
       ·rw [if_neg (by simp; omega), zaz4 q (by omega) h1]
        simp only [h, g1, g2, decide_true, Bool.true_and, Bool.and_true]
        cases (List.range q.converts.length).all (cvI q)
        ·rfl
        ·simp only [if_true, Option.bind_some, Bool.true_and]
         unfold zI8
         rw [zaS4 q (by omega) h8]
         cases (List.range q.waits.length).all (wtI q) <;> rfl
       ·rw [if_pos (by simp; omega)]; simp [g2]
      ·rw [if_pos (by simp; omega)]; simp [g1]
     ·rw [if_pos (by simp; omega)]; simp [h]
def zp8 (q : Queue) : Wait × Bool := match q.converts ++ q.waits with
 | w :: _ => (w, true)
 | [] => (Wait.zero, false)
theorem zac9 (q : Queue) : zo4 q = some (zp8 q) := by
 unfold zo4 zp8
 cases q.converts with
 | cons a l => rw [if_pos (by simp), zb2 (by simp)]; rfl
 | nil =>
  rw [if_neg (by simp)]
  cases q.waits with
  | cons a l => rw [if_pos (by simp), zb2 (by simp)]; rfl
  | nil => rw [if_neg (by simp)]; rfl
theorem zas9 (q : Queue) : zx4 q = some (zp8 q) := by
 rw [← zac9]; rfl
def zd5 (q : Queue) : Bool := zac8 q && !((zp8 q).2 && zaf6 q.resource q.holds (zp8 q).1.proc (zp8 q).1.amount)
theorem zaD8 (q : Queue) : zj3 q = some (zd5 q) := by
 unfold zj3 zd5
 rw [zaS3, Option.bind_some]
 cases zac8 q
 ·simp
 ·rw [if_neg (by simp), zac9, Option.bind_some]
  cases (zp8 q).2 <;> simp [zbt7]
theorem zaf8 (q : Queue) : zl6 q = some (zd5 q) := by
 unfold zl6 zd5
 rw [zZ5, Option.bind_some]
 cases zac8 q
 ·simp
 ·rw [if_neg (by simp), zas9, Option.bind_some]
  cases (zp8 q).2 <;> simp [zbl6]
theorem zZ6 (q : Queue) : zh5 q = some (zd5 q) := by
 unfold zh5
 rw [zaD8]; rfl
theorem zan4 (q : Queue) : zj9 q = some (zd5 q) := by
 unfold zj9
 rw [zZ5, Option.bind_some]
 cases h : zac8 q
 ·simp [zd5, h]
 ·simp [zaf8]
end Ab
end Go.Proofs.YtfjeceicgfdmjaaGreatDoor
namespace Go.Proofs.YtfjeceicgfdmjaaGreatDoor
namespace Ab
set_option linter.unusedVariables false
set_option linter.unusedSimpArgs false
theorem zaW8 (a b : List Hold) (hl : a.length < 4611686018427387904) : zk5 a b = some (decide (a = b)) := by
 unfold zk5
 by_cases h : a.length = b.length
 ·rw [if_neg (by simp [h])]
  exact zaD0 a b Hold.zero hl h (fun i => rfl)
 ·rw [if_pos (by simp; omega)]
  have : a ≠ b := fun e => h (by rw [e])
  simp [this]
instance : DecidableEq Queue := fun a b => decidable_of_iff (a.resource = b.resource ∧ a.holds = b.holds ∧ a.converts = b.converts ∧ a.waits = b.waits ∧ a.gen = b.gen) (by rw [Queue.ext_iff])
theorem zaW9 (a b : Queue) (h1 : a.holds.length < 4611686018427387904) (h2 : a.converts.length < 4611686018427387904) (h3 : a.waits.length < 4611686018427387904) : zx3 a b = some (decide (a = b)) := by
 unfold zx3
 simp only [zaW8 _ _ h1, zaz2 _ _ h2, zaz2 _ _ h3]
 have e : decide (a = b) = (decide (a.resource = b.resource) && (decide (a.gen = b.gen) && (decide (a.holds = b.holds) && (decide (a.converts = b.converts) && decide (a.waits = b.waits))))) := by
  rw [Bool.eq_iff_iff]
  simp only [decide_eq_true_eq, Bool.and_eq_true, Queue.ext_iff]
  constructor
  ·rintro ⟨a1, a2, a3, a4, a5⟩; exact ⟨a1, a5, a2, a3, a4⟩
  ·rintro ⟨a1, a5, a2, a3, a4⟩; exact ⟨a1, a2, a3, a4, a5⟩
 rw [e]
 cases decide (a.resource = b.resource) <;> cases decide (a.gen = b.gen) <;> cases decide (a.holds = b.holds) <;> cases decide (a.converts = b.converts) <;> cases decide (a.waits = b.waits) <;> rfl
def newQ (r : Resource) : Queue × Int := if resV r = true then ({ Queue.zero with resource := r }, 0) else (Queue.zero, 1)
theorem zbe8 (r : Resource) : zu2 r = some (newQ r) := by
 unfold zu2 newQ
 rw [zZ3, Option.bind_some]
 cases resV r <;> rfl
theorem zbq0 (a b : List Wait) (ha : a.length ≤ 1000000) (hb : b.length ≤ 1000000) : zc4 [a, b] = some (a ++ b) := by
 unfold zc4
 have s0 : zd0 [a, b] (0, 0) = some (.inl ((a.length : Int), 1)) := by
  unfold zd0
  rw [if_pos (by simp), zb2 (by simp)]
  show (if decide (IntKind.i64.wrap (0 + (a.length : Int)) < 0) = true then none else some (Sum.inl (IntKind.i64.wrap (0 + (a.length : Int)), _))) = _
  rw [zf2 (by omega) (by omega), if_neg (by simp), Int.zero_add]
  rfl
 have s1 : zd0 [a, b] ((a.length : Int), 1) = some (.inl ((a.length : Int) + (b.length : Int), 2)) := by
  unfold zd0
  rw [if_pos (by simp), zb2 (by simp)]
  show (if decide (IntKind.i64.wrap ((a.length : Int) + (b.length : Int)) < 0) = true then none else some (Sum.inl (IntKind.i64.wrap ((a.length : Int) + (b.length : Int)), _))) = _
  rw [zf2 (by omega) (by omega), if_neg (by simp; omega)]
  rfl
 have s2 : zd0 [a, b] ((a.length : Int) + (b.length : Int), 2) = some (.inr ((a.length : Int) + (b.length : Int))) := by
  unfold zd0
  rw [if_neg (by simp)]
 rw [zd9, s0]
 simp only
 rw [zd9, s1]
 simp only
 rw [zd9, s2]
 simp only [Option.bind_some]
 unfold zh9 zc8
 rw [zb2 (by omega), Option.bind_some]
 have t0 : zc9 [a, b] (0, []) = some (.inl (1, a)) := by
  unfold zc9
  rw [if_pos (by simp), zb2 (by simp), zb2 (by simp; omega)]
  rfl
 have t1 : zc9 [a, b] (1, a) = some (.inl (2, a ++ b)) := by
  unfold zc9
  rw [if_pos (by simp), zb2 (by simp), zb2 (by simp; omega)]
  rfl
 have t2 : zc9 [a, b] (2, a ++ b) = some (.inr (a ++ b)) := by
  unfold zc9
  rw [if_neg (by simp)]
 rw [zd9, t0]
 simp only
 rw [zd9, t1]
 simp only
 rw [zd9, t2]
 rfl
theorem zan5 (q : Queue) (h1 : q.converts.length ≤ 1000000) (h2 : q.waits.length ≤ 1000000) : zn7 q = some (q.converts ++ q.waits) := by
 unfold zn7
 rw [zbq0 _ _ h1 h2]; rfl
def zaz5 (l : List Wait) (p : Proc) : Amount × Bool := match l.find? fun w => decide (w.proc = p) with
 | some w => (w.amount, true)
 | none => (Amount.zero, false)
def zV7 (q : Queue) (p : Proc) : Amount × Bool := zaz5 (q.converts ++ q.waits) p
theorem zaH3 (l : List Wait) (p : Proc) : ∀ k i, i + k = l.length → ((zp3 (fun i => if (l.getD i Wait.zero).proc = p then some (Sum.inr (α := Unit) ((l.getD i Wait.zero).amount, true)) else none) k i).getD (Sum.inl ())) = match (l.drop i).find? fun w => decide (w.proc = p) with
  | some w => Sum.inr (w.amount, true)
  | none => Sum.inl ()
 | 0, i, h => by rw [List.drop_eq_nil_of_le (by omega)]; rfl
 | k + 1, i, h => by
  rw [zW6 l i Wait.zero (by omega)]
  simp only [zp3, List.find?_cons]
  by_cases hp : (l.getD i Wait.zero).proc = p
  ·simp only [hp, if_true, decide_true, Option.getD_some]
  ·simp only [hp, if_false, decide_false]
   exact zaH3 l p k (i + 1) (by omega)
theorem zaJ3 (q : Queue) (p : Proc) (h1 : q.converts.length ≤ 1000000) (h2 : q.waits.length ≤ 1000000) : zj5 q p = some (zV7 q p) := by
 unfold zj5 zV7
 rw [zan5 q h1 h2, Option.bind_some]
 have hl : (q.converts ++ q.waits).length ≤ 2000000 := by rw [List.length_append]; omega
 generalize q.converts ++ q.waits = l at *
 have key : zb6 (zz5 p l) 0 = some ((zp3 (fun i => if (l.getD i Wait.zero).proc = p then some (Sum.inr (α := Unit) ((l.getD i Wait.zero).amount, true)) else none) l.length 0).getD (Sum.inl ())) := by
  refine zr8 l.length _ (Sum.inl ()) (fun i hi => ?_) ?_
  ·unfold zz5
   rw [if_pos (by simpa using hi), zb2 (by omega), zf2 (by omega) (by omega)]
   simp only [Int.toNat_natCast, decide_eq_true_eq]
   split <;> rfl
  ·unfold zz5
   rw [if_neg (by simp)]
 rw [key, zaH3 l p l.length 0 (by omega), List.drop_zero]
 unfold zaz5
 cases l.find? fun w => decide (w.proc = p) <;> rfl
end Ab
end Go.Proofs.YtfjeceicgfdmjaaGreatDoor
namespace Go.Proofs.YtfjeceicgfdmjaaGreatDoor
namespace Ab
set_option linter.unusedVariables false
set_option linter.unusedSimpArgs false
def upM (a b g : Int) : Bool := covM g a && covM g b
def supM (a b : Int) : Int := if upM a b 1 = true then 1 else if upM a b 2 = true then 2 else if upM a b 3 = true then 3 else if upM a b 4 = true then 4 else if upM a b 5 = true then 5 else 0
theorem zaX0 (a b g : Int) (h1 : 1 ≤ g) (h2 : g ≤ 5) : zE2 a b g = some (if upM a b g = true then .inr (.inr g) else .inl (g + 1)) := by
 unfold zE2 upM
 rw [if_pos (by simpa using h2), zZ4, Option.bind_some, zf2 (by omega) (by omega), zZ4]
 cases covM g a <;> cases covM g b <;> rfl
theorem zbe9 (a b : Int) : zE2 a b 6 = some (.inr (.inl ())) := by
 unfold zE2
 rw [if_neg (by decide)]
theorem zbN0 {body : Int → Option (Int ⊕ (Unit ⊕ Int))} (a b : Int) (hs : ∀ g, 1 ≤ g → g ≤ 5 → body g = some (if upM a b g = true then .inr (.inr g) else .inl (g + 1))) (he : body 6 = some (.inr (.inl ()))) :
  (zb6 body 1).bind (fun | .inl _ => some 0 | .inr z => some z) = some (supM a b) := by
 unfold supM
 rw [zd9, hs 1 (by decide) (by decide)]
 by_cases c1 : upM a b 1 = true
 ·simp [c1]
 simp only [c1, Bool.false_eq_true, if_false]
 rw [show (1 : Int) + 1 = 2 from rfl, zd9, hs 2 (by decide) (by decide)]
 by_cases c2 : upM a b 2 = true
 ·simp [c2]
 simp only [c2, Bool.false_eq_true, if_false]
 rw [show (2 : Int) + 1 = 3 from rfl, zd9, hs 3 (by decide) (by decide)]
 by_cases c3 : upM a b 3 = true
 ·simp [c3]
 simp only [c3, Bool.false_eq_true, if_false]
 rw [show (3 : Int) + 1 = 4 from rfl, zd9, hs 4 (by decide) (by decide)]
 by_cases c4 : upM a b 4 = true
 ·simp [c4]
 simp only [c4, Bool.false_eq_true, if_false]
 rw [show (4 : Int) + 1 = 5 from rfl, zd9, hs 5 (by decide) (by decide)]
 by_cases c5 : upM a b 5 = true
 ·simp [c5]
 simp only [c5, Bool.false_eq_true, if_false]
 rw [show (5 : Int) + 1 = 6 from rfl, zd9, he]
 rfl
theorem zbm0 (a b : Int) : zC8 a b = some (supM a b) := zbN0 a b (zaX0 a b) (zbe9 a b)
def zQ0 (r : Resource) (a b : Amount) : Amount :=
 if (!zb0 r a || !zb0 r b) = true then Amount.zero else
 if zb9 a = true then b else if zb9 b = true then a else
 if r.kind = 1 then { Amount.zero with mode := supM a.mode b.mode } else { Amount.zero with units := if a.units < b.units then b.units else a.units }
theorem zaS5 (r : Resource) (a b : Amount) : zq0 r a b = some (zQ0 r a b) := by
 unfold zq0 zQ0
 simp only [zbm0, Option.bind_some]
 split
 ·rfl
 split
 ·rfl
 split
 ·rfl
 by_cases h : r.kind = 1
 ·simp [h]
 ·simp [h]
theorem zbS8 (g : Int) : zO7 g = zf7 g := rfl
theorem zaS6 (q : Queue) (h1 : q.holds.length ≤ 1000000) (h2 : q.converts.length ≤ 1000000) (h3 : q.waits.length ≤ 1000000) : zq8 q = some q := by
 unfold zq8
 rw [zb2 (by omega), zb2 (by omega), zb2 (by omega)]
theorem zaD9 (q : Queue) (h1 : q.holds.length ≤ 1000000) (h2 : q.converts.length ≤ 1000000) (h3 : q.waits.length ≤ 1000000) : zl5 q = some q := by
 unfold zl5
 rw [zb2 (by omega), zb2 (by omega), zb2 (by omega)]
theorem zat0 (q : Queue) (h1 : q.holds.length ≤ 1000000) (h2 : q.converts.length ≤ 1000000) (h3 : q.waits.length ≤ 1000000) : zr6 q = some q := by
 unfold zr6
 rw [zb2 (by omega), zb2 (by omega), zb2 (by omega)]
end Ab
end Go.Proofs.YtfjeceicgfdmjaaGreatDoor
namespace Go.Proofs.YtfjeceicgfdmjaaGreatDoor
namespace Ab
set_option linter.unusedVariables false
set_option linter.unusedSimpArgs false
def popQ (q : Queue) : Queue :=
 if 0 < q.converts.length then { q with holds := setL q.holds (zp8 q).1.proc (zp8 q).1.amount, converts := q.converts.drop 1 }
 else { q with holds := setL q.holds (zp8 q).1.proc (zp8 q).1.amount, waits := q.waits.drop 1 }
def canQ (q : Queue) : Bool := (zp8 q).2 && zaf6 q.resource q.holds (zp8 q).1.proc (zp8 q).1.amount
def zaf9 (s : Queue × List Hold) : Queue × List Hold := (popQ s.1, s.2 ++ [⟨(zp8 s.1).1.proc, (zp8 s.1).1.amount⟩])
def advN : Nat → Queue × List Hold → Queue × List Hold
 | 0, s => s
 | n + 1, s => if canQ s.1 = true then advN n (zaf9 s) else s
def zv2 (q : Queue) : Nat := q.converts.length + q.waits.length
def advQ (q : Queue) : Queue × List Hold := advN (zv2 q) (q, [])
theorem zK1 {q : Queue} (h : canQ q = true) : 0 < zv2 q ∧ zv2 (popQ q) + 1 = zv2 q ∧ q.holds.length ≤ 8 := by
 unfold canQ at h
 simp only [Bool.and_eq_true] at h
 obtain ⟨h1, h2⟩ := h
 have hv : zw5 q.resource q.holds = true := by
  unfold zaf6 zL5 at h2
  simp only [Bool.and_eq_true] at h2
  exact h2.1.1
 refine ⟨?_, ?_, zM7 hv⟩
 ·unfold zp8 at h1
  unfold zv2
  cases hc : q.converts with
  | cons a l => simp; omega
  | nil =>
   cases hw : q.waits with
   | cons a l => simp
   | nil => simp [hc, hw] at h1
 ·unfold zp8 at h1
  unfold zv2 popQ
  cases hc : q.converts with
  | cons a l => simp; omega
  | nil =>
   cases hw : q.waits with
   | cons a l => simp
   | nil => simp [hc, hw] at h1
theorem zag0 (s : Queue × List Hold) : advN (zv2 s.1) s = if canQ s.1 = true then advN (zv2 (zaf9 s).1) (zaf9 s) else s := by
 cases hc : canQ s.1 with
 | false =>
  cases hn : zv2 s.1 with
  | zero => rfl
  | succ n => simp [advN, hc]
 | true =>
  obtain ⟨h1, h2, _⟩ := zK1 hc
  have : zv2 s.1 = zv2 (popQ s.1) + 1 := h2.symm
  rw [this]
  simp [advN, hc, zaf9]
theorem zbf0 (g : Queue × List Hold) (hg : g.2.length ≤ 1000000) : zu5 g = some (if canQ g.1 = true then .inl (zaf9 g) else .inr g) := by
 unfold zu5
 rw [zac9, Option.bind_some]
 rcases hb (zp8 g.1).2 with h2 | h2
 ·rw [if_pos h2, zbt7, Option.bind_some]
  rcases hb (zaf6 g.1.resource g.1.holds (zp8 g.1).1.proc (zp8 g.1).1.amount) with hr | hr
  ·have hc : canQ g.1 = true := by unfold canQ; rw [h2, hr]; rfl
   obtain ⟨_, _, hl⟩ := zK1 hc
   rw [if_neg (by rw [h2, hr]; decide), if_pos hc]
   unfold zaf9 popQ
   by_cases h0 : 0 < g.1.converts.length
   ·rw [if_pos (by simpa using h0), zb2 (by omega), if_pos h0]
    unfold zp5
    rw [zP8 _ _ _ (by simp only; omega), Option.bind_some, zb2 (by omega)]
   ·rw [if_neg (by simpa using h0), if_neg h0]
    have hw : 0 < g.1.waits.length := by
     have := (zK1 hc).1
     unfold zv2 at this
     omega
    rw [zb2 (by omega)]
    unfold zp5
    rw [zP8 _ _ _ (by simp only; omega), Option.bind_some, zb2 (by omega)]
  ·have hc : canQ g.1 = false := by unfold canQ; rw [h2, hr]; rfl
   rw [if_pos (by rw [h2, hr]; decide), if_neg (by rw [hc]; decide)]
 ·have hc : canQ g.1 = false := by unfold canQ; rw [h2]; rfl
  rw [if_neg (by rw [h2]; decide), Option.bind_some, if_pos (by rw [h2]; decide), if_neg (by rw [hc]; decide)]
theorem zaE0 (q : Queue) (h : zv2 q ≤ 1000) : ze0 q = some ((advQ q).2, (advQ q).1) := by
 unfold ze0
 have key := zbl0 (body := zu5) (fun g => zv2 g.1 + g.2.length ≤ 1000) (fun g => zv2 g.1) (fun g => advN (zv2 g.1) g) (fun g hg => by
  rw [zbf0 g (by omega)]
  cases hc : canQ g.1 with
  | false => right; rw [if_neg (by decide), zag0, if_neg (by rw [hc]; decide)]
  | true =>
   left
   obtain ⟨h1, h2, _⟩ := zK1 hc
   refine ⟨zaf9 g, by rw [if_pos rfl], ?_, ?_, ?_⟩
   ·unfold zaf9; simp only [List.length_append, List.length_cons, List.length_nil]; omega
   ·show zv2 (popQ g.1) < zv2 g.1; omega
   ·rw [zag0 g, if_pos hc]) (q, []) (by simpa using h)
 rw [key]
 rfl
end Ab
end Go.Proofs.YtfjeceicgfdmjaaGreatDoor
namespace Go.Proofs.YtfjeceicgfdmjaaGreatDoor
namespace Ab
set_option linter.unusedVariables false
set_option linter.unusedSimpArgs false
theorem zav3 (p : Proc) : ∀ (l : List Wait) (i : Nat), match zH6 p l i with
  | some j => i ≤ j ∧ (l.find? fun w => decide (w.proc = p)) = some (l.getD (j - i) Wait.zero)
  | none => (l.find? fun w => decide (w.proc = p)) = none
 | [], i => rfl
 | w :: l, i => by
  simp only [zH6, List.find?_cons]
  by_cases hp : w.proc = p
  ·simp [hp]
  ·have ih := zav3 p l (i + 1)
   simp only [hp, if_false, decide_false]
   cases hf : zH6 p l (i + 1) with
   | none => rw [hf] at ih; exact ih
   | some j =>
    rw [hf] at ih
    obtain ⟨h1, h2⟩ := ih
    refine ⟨by omega, ?_⟩
    rw [h2, show j - i = (j - (i + 1)) + 1 by omega, List.getD_cons_succ]
theorem zaS7 (l : List Wait) (p : Proc) : zaz5 l p = if 0 ≤ zx6 l p then ((l.getD (zx6 l p).toNat Wait.zero).amount, true) else (Amount.zero, false) := by
 have h := zav3 p l 0
 unfold zaz5 zx6
 cases hf : zH6 p l 0 with
 | none => rw [hf] at h; simp only at h; rw [h]; rfl
 | some j =>
  rw [hf] at h
  obtain ⟨_, h2⟩ := h
  rw [h2, if_pos (by simp only; omega)]
  simp
theorem zbf1 (l m : List Wait) (p : Proc) : zaz5 (l ++ m) p = if 0 ≤ zx6 l p then zaz5 l p else zaz5 m p := by
 have h := zav3 p l 0
 unfold zaz5 zx6
 rw [List.find?_append]
 cases hf : zH6 p l 0 with
 | none => rw [hf] at h; simp only at h; rw [h, if_neg (by decide)]; rfl
 | some j =>
  rw [hf] at h
  obtain ⟨_, h2⟩ := h
  rw [h2, if_pos (by simp only; omega)]
  rfl
theorem zaJ4 (q : Queue) (p : Proc) (h1 : q.converts.length ≤ 1000000) (h2 : q.waits.length ≤ 1000000) : zl0 q p = some (zV7 q p) := by
 unfold zl0 zV7
 rw [zT2 _ _ (by omega), Option.bind_some, zbf1, zaS7 q.converts, zaS7 q.waits]
 have b1 := zbl8 q.converts p
 have b2 := zbl8 q.waits p
 by_cases c1 : 0 ≤ zx6 q.converts p
 ·rw [if_pos (decide_eq_true c1), zb2 (by omega), if_pos c1, if_pos c1]
 ·rw [if_neg (by simpa using c1), if_neg c1, zT2 _ _ (by omega), Option.bind_some]
  by_cases c2 : 0 ≤ zx6 q.waits p
  ·rw [if_pos (decide_eq_true c2), zb2 (by omega), if_pos c2]
  ·rw [if_neg (by simpa using c2), if_neg c2]
end Ab
end Go.Proofs.YtfjeceicgfdmjaaGreatDoor
