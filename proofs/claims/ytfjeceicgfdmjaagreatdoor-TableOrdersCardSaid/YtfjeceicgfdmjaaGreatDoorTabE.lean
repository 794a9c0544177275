/-
  Tables: which are valid, who is in them, what is found.
-/
import Derived.Test.YtfjeceicgfdmjaaGreatDoorQueT
namespace Go.Proofs.YtfjeceicgfdmjaaGreatDoor
namespace Ab
set_option linter.unusedVariables false
set_option linter.unusedSimpArgs false
theorem zbz9 : ∀ {x y z : List UInt8}, Op.bytesLess x y = true → Op.bytesLess y z = true → Op.bytesLess x z = true
 | x, [], z, h1, _ => by cases x <;> simp [Op.bytesLess] at h1
 | x, b :: y, [], _, h2 => by simp [Op.bytesLess] at h2
 | [], b :: y, c :: z, _, _ => by simp [Op.bytesLess]
 | a :: x, b :: y, c :: z, h1, h2 => by
  simp only [Op.bytesLess, Bool.or_eq_true, Bool.and_eq_true, decide_eq_true_eq, beq_iff_eq] at h1 h2 ⊢
  rcases h1 with h1 | ⟨rfl, h1⟩
  ·rcases h2 with h2 | ⟨rfl, h2⟩
   ·exact .inl (UInt8.lt_trans h1 h2)
   ·exact .inl h1
  ·rcases h2 with h2 | ⟨rfl, h2⟩
   ·exact .inl h2
   ·exact .inr ⟨rfl, zbz9 h1 h2⟩
def ltN (a b : ByteArray) : Prop := Op.bytesLess a.toList b.toList = true
instance (a b : ByteArray) : Decidable (ltN a b) := by unfold ltN; infer_instance
theorem zbn0 {a b c : ByteArray} (h : ltN a b) (k : ltN b c) : ltN a c := zbz9 h k
def AscN (t : List Queue) : Prop := t.Pairwise fun a b => ltN a.resource.name b.resource.name
def ascW : List Queue → Option ByteArray → Bool
 | [], _ => true
 | q :: t, pv => zb9 q && ((match pv with | none => true | some n => decide (ltN n q.resource.name)) && ascW t (some q.resource.name))
theorem zbf6 : ∀ (t : List Queue) (pv : Option ByteArray), ascW t pv = true ↔ (∀ q ∈ t, zb9 q = true) ∧ AscN t ∧ ∀ n, pv = some n → ∀ q ∈ t, ltN n q.resource.name
 | [], pv => by
  simp only [ascW, List.not_mem_nil, false_implies, implies_true, and_true, true_and, true_iff]
  exact .nil
 | q :: t, pv => by
  simp only [ascW, Bool.and_eq_true]
  rw [zbf6 t (some q.resource.name)]
  constructor
  ·rintro ⟨h1, h2, h3, h4, h5⟩
   refine ⟨fun x hx => ?_, List.pairwise_cons.2 ⟨fun x hx => h5 _ rfl x hx, h4⟩, fun n hn x hx => ?_⟩
   ·rcases List.mem_cons.1 hx with rfl | hx
    ·exact h1
    ·exact h3 x hx
   ·subst hn
    simp only [decide_eq_true_eq] at h2
    rcases List.mem_cons.1 hx with rfl | hx
    ·exact h2
    ·exact zbn0 h2 (h5 _ rfl x hx)
  ·rintro ⟨h1, h2, h3⟩
   have h2' := List.pairwise_cons.1 h2
   refine ⟨h1 q (.head _), ?_, fun x hx => h1 x (.tail _ hx), h2'.2, fun n hn x hx => by cases hn; exact h2'.1 x hx⟩
   cases pv with
   | none => rfl
   | some n => exact decide_eq_true (h3 n rfl q (.head _))
def zaF6 (t : List Queue) : Bool := decide (t.length ≤ 8) && ascW t none
def ze7 (t : List Queue) : List Proc := zaD0 (t.flatMap zK5)
def zK7 (t : List Queue) : Bool := zaF6 t && decide ((ze7 t).length ≤ 8)
structure ValidT (t : List Queue) : Prop where
 len : t.length ≤ 8
 each : ∀ q ∈ t, zb9 q = true
 asc : AscN t
 procs : (ze7 t).length ≤ 8
theorem zbf7 (t : List Queue) : zaF6 t = true ↔ t.length ≤ 8 ∧ (∀ q ∈ t, zb9 q = true) ∧ AscN t := by
 unfold zaF6
 rw [Bool.and_eq_true, decide_eq_true_eq, zbf6]
 simp
theorem zD1 (t : List Queue) : zK7 t = true ↔ ValidT t := by
 unfold zK7
 rw [Bool.and_eq_true, decide_eq_true_eq, zbf7]
 exact ⟨fun ⟨⟨h1, h2, h3⟩, h4⟩ => ⟨h1, h2, h3, h4⟩, fun ⟨h1, h2, h3, h4⟩ => ⟨⟨h1, h2, h3⟩, h4⟩⟩
theorem zbn1 {α : Type} (prev t : List α) (z : α) (h : prev ≠ []) : (prev ++ t).getD (prev.length - 1) z = prev.getLast h := by
 have hp : 0 < prev.length := List.length_pos_iff.2 h
 rw [List.getD_eq_getElem?_getD, List.getElem?_append_left (by omega), List.getElem?_eq_getElem (by omega), List.getLast_eq_getElem]; rfl
theorem zbF1 (t0 : List Queue) : ∀ (t prev : List Queue), t0 = prev ++ t →
  walk (fun i q (_ : Unit) => some (if zb9 q = true ∧ (i = 0 ∨ ltN (t0.getD (i - 1) Queue.zero).resource.name q.resource.name) then Sum.inl () else Sum.inr (Sum.inr (α := Unit) false))) (fun _ => Sum.inl (β := Bool) ()) t prev.length () =
   some (if ascW t (prev.getLast?.map (·.resource.name)) = true then .inl () else .inr false) := by
 intro t
 induction t with
 | nil => intro prev _; simp [walk, ascW]
 | cons q t ih =>
  intro prev ht
  simp only [walk]
  have hq : (prev.length = 0 ∨ ltN (t0.getD (prev.length - 1) Queue.zero).resource.name q.resource.name) ↔ (match prev.getLast?.map (·.resource.name) with | none => true | some n => decide (ltN n q.resource.name)) = true := by
   by_cases hp : prev = []
   ·subst hp; simp
   ·have h1 := zbn1 prev (q :: t) Queue.zero hp
    rw [ht, h1, List.getLast?_eq_some_getLast hp]
    have : prev.length ≠ 0 := fun e => hp (List.eq_nil_of_length_eq_zero e)
    simp [this]
  by_cases e : zb9 q = true ∧ (prev.length = 0 ∨ ltN (t0.getD (prev.length - 1) Queue.zero).resource.name q.resource.name)
  ·rw [if_pos e]
   have := ih (prev ++ [q]) (by rw [ht]; simp)
   rw [show (prev ++ [q]).length = prev.length + 1 by simp] at this
   simp only
   have h2 : ascW (q :: t) (prev.getLast?.map (·.resource.name)) = ascW t (some q.resource.name) := by simp only [ascW, e.1, hq.1 e.2, Bool.true_and]
   rw [this, h2]
   simp
  ·rw [if_neg e]
   rw [hq] at e
   have hf : ascW (q :: t) (prev.getLast?.map (·.resource.name)) = false := by
    rw [Bool.eq_false_iff]
    intro hh
    simp only [ascW, Bool.and_eq_true] at hh
    exact e ⟨hh.1, hh.2.1⟩
   rw [hf]; rfl
theorem zbf8 {body : Int → Option (Int ⊕ (Unit ⊕ Bool))} (t : List Queue) (hl : t.length ≤ 8)
  (hb : ∀ i : Nat, i < t.length → body (i : Int) = some (if zb9 (t.getD i Queue.zero) = true ∧ (i = 0 ∨ ltN (t.getD (i - 1) Queue.zero).resource.name (t.getD i Queue.zero).resource.name) then .inl ((i + 1 : Nat) : Int) else .inr (.inr false)))
  (he : body (t.length : Int) = some (.inr (.inl ()))) : zc1 body 0 = some (if ascW t none = true then .inl () else .inr false) := by
 have key := zar1 (body := body) t Queue.zero (fun i (_ : Unit) => (i : Int)) (fun i q _ => some (if zb9 q = true ∧ (i = 0 ∨ ltN (t.getD (i - 1) Queue.zero).resource.name q.resource.name) then Sum.inl () else Sum.inr (Sum.inr (α := Unit) false))) (fun _ => Sum.inl (β := Bool) ())
  (fun i s hi => by
   rw [hb i hi, Option.map_some]
   split <;> rfl) (fun s => he) ()
 have := zbF1 t t [] rfl
 rw [show (0 : Int) = (fun (i : Nat) (_ : Unit) => (i : Int)) 0 () from rfl, key]
 exact this
theorem zbs5 (t : List Queue) (h : ∀ q ∈ t, zb9 q = true) : (t.flatMap zK5).length ≤ 24 * t.length := by
 induction t with
 | nil => simp
 | cons q t ih =>
  have h1 := zJ3 (h q (.head _))
  have h2 := zbm8 (q.holds.map (·.proc) ++ (ordQ q).map (·.proc))
  have h3 := ih fun x hx => h x (.tail _ hx)
  have h4 : (zK5 q).length ≤ 24 := by
   unfold zK5
   unfold ordQ at *
   simp only [List.length_append, List.length_map] at h2
   omega
  rw [List.flatMap_cons, List.length_append, List.length_cons]; omega
theorem zaJ8 {α β X : Type} (f : α → List β) (fin : List β → X) : ∀ (l : List α) (i : Nat) (s : List β), walk (fun _ a s => some (.inl (s ++ f a))) fin l i s = some (fin (s ++ l.flatMap f))
 | [], i, s => by simp [walk]
 | a :: l, i, s => by
  simp only [walk, List.flatMap_cons]
  rw [zaJ8 f fin l (i + 1), List.append_assoc]
theorem zF2 {α : Type} {l : List α} {i : Nat} {z : α} (h : i < l.length) : l.getD i z ∈ l := by
 rw [List.getD_eq_getElem?_getD, List.getElem?_eq_getElem h]; exact List.getElem_mem h
theorem zbn2 {q : Queue} (h : zb9 q = true) : (zK5 q).length ≤ 24 := by
 have := zbs5 [q] fun x hx => by rw [List.mem_singleton] at hx; rw [hx]; exact h
 simpa using this
theorem zW7 {t : List Queue} (hl : t.length ≤ 8) (h : ∀ q ∈ t, zb9 q = true) : zk1 t = some (ze7 t) := by
 unfold zk1
 have key := zq4 (body := zG4 t) t Queue.zero (fun i (s : List Proc) => ((i : Int), s)) (fun _ q s => some (.inl (s ++ zK5 q))) (fun s => s) (fun i s => s.length ≤ 24 * i)
  (fun i s hi hs => by
   have hq := h _ (zF2 (z := Queue.zero) hi)
   have hql := zJ3 hq
   have hpl := zbn2 hq
   refine ⟨?_, fun s' h => ?_⟩
   ·unfold zG4
    have h3 : 0 ≤ (i : Int) ∧ (i : Int) < (t.length : Int) := by omega
    simp only [h3.1, h3.2, and_self, zl2, decide_true, if_true, Int.toNat_natCast]
    rw [zay0 _ (by omega) (by omega) (by omega), Option.bind_some, zb2 (by omega), zd2 i (by omega)]
    rfl
   ·simp only [Option.some.injEq, Sum.inl.injEq] at h; subst h; rw [List.length_append]; omega)
  (fun s hs => by unfold zG4; simp) [] (by simp)
 rw [show ((0, []) : Int × List Proc) = (fun (i : Nat) (s : List Proc) => ((i : Int), s)) 0 [] from rfl, key, zaJ8 zK5, List.nil_append, Option.bind_some]
 unfold zO5
 have := zbs5 t h
 rw [zai2 _ (by omega)]; rfl
theorem zW8 (t : List Queue) : zk2 t = some (zK7 t) := by
 unfold zk2 zK7 zaF6
 by_cases h8 : 8 < t.length
 ·have : ¬ t.length ≤ 8 := by omega
  rw [if_pos (by simp; omega)]
  simp [this]
 ·have hl : t.length ≤ 8 := by omega
  rw [if_neg (by simp; omega), zbf8 t hl (fun i hi => by
   unfold zO7
   have h3 : 0 ≤ (i : Int) ∧ (i : Int) < (t.length : Int) := by omega
   simp only [h3.1, h3.2, and_self, zl2, decide_true, if_true, Int.toNat_natCast, zah8, Option.bind_some, zd2 i (by omega)]
   by_cases e0 : i = 0
   ·subst e0
    rw [zb2 (by simp)]
    cases zb9 (t.getD 0 Queue.zero) <;> simp
   ·rw [zae3 i (by omega) (by omega), zb2 (by intro _; omega)]
    simp only [Int.toNat_natCast, show (0 : Int) < (i : Int) by omega, decide_true, Bool.true_and, e0, false_or]
    unfold ltN
    rcases hb (zb9 (t.getD i Queue.zero)) with b1 | b1 <;> rcases hb (Op.bytesLess (t.getD (i - 1) Queue.zero).resource.name.toList (t.getD i Queue.zero).resource.name.toList) with b2 | b2 <;> simp [b1, b2, -List.getD_eq_getElem?_getD]) (by unfold zO7; simp)]
  simp only [hl, decide_true, Bool.true_and]
  cases hw : ascW t none with
  | false => rfl
  | true =>
   simp only [if_true, Option.bind_some, Bool.true_and]
   unfold zO6
   rw [zW7 hl ((zbf6 t none).1 hw).1, Option.bind_some]
   congr 1
   rw [Bool.eq_iff_iff]; simp; omega
theorem zbn3 {α : Type} (l : List α) (z : α) (p : α → Bool) {body : Int → Option (Int ⊕ (Unit ⊕ Int))} (hb : ∀ i : Nat, i < l.length → body (i : Int) = some (if p (l.getD i z) = true then .inr (.inr (i : Int)) else .inl ((i + 1 : Nat) : Int)))
  (he : body (l.length : Int) = some (.inr (.inl ()))) : zc1 body 0 = some (match l.findIdx? p with | some i => .inr (i : Int) | none => .inl ()) := by
 have key := zar1 (body := body) l z (fun i (_ : Unit) => (i : Int)) (fun i a _ => some (if p a = true then .inr (Sum.inr (α := Unit) (i : Int)) else .inl ())) (fun _ => Sum.inl (β := Int) ())
  (fun i s hi => by rw [hb i hi, Option.map_some]; split <;> rfl) (fun s => he) ()
 have fold : ∀ (l : List α) (i : Nat), walk (fun i a (_ : Unit) => some (if p a = true then .inr (Sum.inr (α := Unit) (i : Int)) else .inl ())) (fun _ => Sum.inl (β := Int) ()) l i () = some (match l.findIdx? p with | some j => .inr ((i + j : Nat) : Int) | none => .inl ()) := by
  intro l
  induction l with
  | nil => intro i; rfl
  | cons a l ih =>
   intro i
   simp only [walk, List.findIdx?_cons]
   by_cases hp : p a = true
   ·simp [hp]
   ·simp only [hp, Bool.false_eq_true, if_false]
    rw [ih (i + 1)]
    cases l.findIdx? p with
    | none => rfl
    | some j => simp only [Option.map_some]; rw [show i + 1 + j = i + (j + 1) by omega]
 have := fold l 0
 simp only [Nat.zero_add] at this
 rw [show (0 : Int) = (fun (i : Nat) (_ : Unit) => (i : Int)) 0 () from rfl, key]
 exact this
def isN (nm : ByteArray) (q : Queue) : Bool := q.resource.name.toList == nm.toList
theorem zcn1 {nm : ByteArray} {q : Queue} : isN nm q = true ↔ q.resource.name = nm := by
 unfold isN; rw [beq_iff_eq]; exact zT1
def zm6 (t : List Queue) (nm : ByteArray) : Int := match t.findIdx? (isN nm) with
 | some i => i
 | none => -1
theorem zaD2 (t : List Queue) (nm : ByteArray) (hl : t.length ≤ 1000000) : zr8 t nm = some (zm6 t nm) := by
 unfold zr8
 rw [zbn3 t Queue.zero (isN nm) (fun i hi => by
  unfold zR9 isN
  have h3 : 0 ≤ (i : Int) ∧ (i : Int) < (t.length : Int) := by omega
  simp only [h3.1, h3.2, and_self, zl2, decide_true, if_true, Int.toNat_natCast, zd2 i (by omega)]
  split <;> rfl) (by unfold zR9; simp)]
 unfold zm6
 cases t.findIdx? (isN nm) <;> rfl
theorem zbA0 {t : List Queue} {nm : ByteArray} : zm6 t nm = -1 ∨ ∃ i : Nat, zm6 t nm = i ∧ i < t.length ∧ (t.getD i Queue.zero).resource.name = nm := by
 unfold zm6
 cases h : t.findIdx? (isN nm) with
 | none => exact .inl rfl
 | some i =>
  right
  obtain ⟨h1, h2, _⟩ := List.findIdx?_eq_some_iff_getElem.1 h
  refine ⟨i, rfl, h1, ?_⟩
  rw [List.getD_eq_getElem?_getD, List.getElem?_eq_getElem h1]
  exact zcn1.1 h2
end Ab
end Go.Proofs.YtfjeceicgfdmjaaGreatDoor
namespace Go.Proofs.YtfjeceicgfdmjaaGreatDoor
namespace Ab
set_option linter.unusedVariables false
set_option linter.unusedSimpArgs false
theorem zaP1 (x : Proc) (s : List Proc) (hs : s.Pairwise ltP) (hx : x ∉ s) (hl : s.length ≤ 1000000) : zc1 (zy3) ((s.length : Int), s ++ [x]) = some (zab6 x s) := by
 obtain ⟨r, h1, h2⟩ := zW0 (body := zy3) (fun g => ∃ pre post : List Proc, g = ((pre.length : Int), pre ++ x :: post) ∧ pre ++ post = s ∧ ∀ y ∈ post, ltP x y) (fun g => g.1.toNat) (fun r => r = zab6 x s) (by
  rintro g ⟨pre, post, rfl, hp, hpost⟩
  have hpl : pre.length + post.length = s.length := by rw [← hp, List.length_append]
  unfold zy3
  simp only [List.length_append, List.length_cons]
  by_cases h0 : pre = []
  ·right
   subst h0
   refine ⟨_, by rw [zb2 (by simp), zb2 (by simp), if_neg (by simp)], ?_⟩
   simp only [List.nil_append] at hp ⊢
   subst hp
   refine zZ5 (List.pairwise_cons.2 ⟨hpost, hs⟩) (zZ7 hs) fun y => ?_
   rw [zZ6, List.mem_cons]
  ·obtain ⟨pre', y, rfl⟩ : ∃ p' y, pre = p' ++ [y] := ⟨pre.dropLast, pre.getLast h0, (List.dropLast_concat_getLast h0).symm⟩
   have hk : (pre' ++ [y]).length = pre'.length + 1 := by simp
   rw [hk] at hpl ⊢
   have w : IntKind.i64.wrap (((pre'.length + 1 : Nat) : Int) - 1) = (pre'.length : Int) := by rw [ze2 (by omega) (by omega)]; omega
   have e1 : (pre' ++ [y] ++ x :: post).getD pre'.length Proc.zero = y := by simp [List.getD_eq_getElem?_getD]
   have e2 : (pre' ++ [y] ++ x :: post).getD (pre'.length + 1) Proc.zero = x := by simp [List.getD_eq_getElem?_getD]
   have g1 : 0 ≤ (pre'.length : Int) ∧ (pre'.length : Int) < ((pre'.length + 1 + (post.length + 1) : Nat) : Int) := by omega
   have g2 : 0 ≤ ((pre'.length + 1 : Nat) : Int) ∧ ((pre'.length + 1 : Nat) : Int) < ((pre'.length + 1 + (post.length + 1) : Nat) : Int) := by omega
   have hpos : decide (0 < ((pre'.length + 1 : Nat) : Int)) = true := decide_eq_true (by omega)
   simp only [w, Int.toNat_natCast, e1, e2, hpos, Bool.true_and]
   rw [zb2 (fun _ => g1), zb2 (fun _ => g2)]
   have hlt : decide (0 < zj3 y x) = decide (ltP x y) := by rw [decide_eq_decide]; exact zbc8 y x
   rw [hlt]
   by_cases hxy : ltP x y
   ·left
    rw [if_pos (decide_eq_true hxy), zb2 g1, zb2 g2, zb2 g1, zb2 g2]
    refine ⟨((pre'.length : Int), pre' ++ x :: (y :: post)), ?_, ⟨pre', y :: post, rfl, by rw [← hp]; simp, fun z hz => ?_⟩, by simp only [Int.toNat_natCast]; omega⟩
    ·congr 3
     rw [List.append_assoc, List.set_append_right _ _ (Nat.le_refl _), Nat.sub_self, List.set_append_right _ _ (by omega), show pre'.length + 1 - pre'.length = 1 by omega]
     rfl
    ·rcases List.mem_cons.1 hz with rfl | hz
     ·exact hxy
     ·exact hpost z hz
   ·right
    refine ⟨_, by rw [if_neg (by simpa using hxy)], ?_⟩
    have hyx : ltP y x := by
     rcases zZ0 (p := x) (q := y) (fun e => hx (by rw [← hp, e]; simp)) with h | h
     ·exact absurd h hxy
     ·exact h
    rw [← hp] at hs
    obtain ⟨a1, a2, a3⟩ := List.pairwise_append.1 hs
    obtain ⟨b1, b2, b3⟩ := List.pairwise_append.1 a1
    have hpre : ∀ z ∈ pre' ++ [y], ltP z x := fun z hz => by
     rcases List.mem_append.1 hz with hz | hz
     ·exact zY9 (b3 z hz y (by simp)) hyx
     ·rw [List.mem_singleton] at hz; rw [hz]; exact hyx
    rw [← hp]
    refine zZ5 (List.pairwise_append.2 ⟨a1, List.pairwise_cons.2 ⟨hpost, a2⟩, fun z hz u hu => ?_⟩) (zZ7 hs) fun z => ?_
    ·rcases List.mem_cons.1 hu with rfl | hu
     ·exact hpre z hz
     ·exact a3 z hz u hu
    ·rw [zZ6]
     simp only [List.mem_append, List.mem_cons, List.mem_singleton]
     constructor
     ·rintro ((h | h) | h | h)
      ·exact .inr (.inl (.inl h))
      ·exact .inr (.inl (.inr h))
      ·exact .inl h
      ·exact .inr (.inr h)
     ·rintro (h | (h | h) | h)
      ·exact .inr (.inl h)
      ·exact .inl (.inl h)
      ·exact .inl (.inr h)
      ·exact .inr (.inr h)) ((s.length : Int), s ++ [x]) ⟨s, [], by simp, by simp, by simp⟩
 rw [h1, h2]
theorem zai3 (l : List Proc) (hl : l.length ≤ 1000000) : zi6 l = some (zaD0 l) := by
 unfold zi6
 have key := zq4 (body := zy4 l) l Proc.zero (fun i (s : List Proc) => ((i : Int), s)) (fun _ p s => some (.inl (zab6 p s))) (fun s => s) (fun i s => s.Pairwise ltP ∧ s.length ≤ i)
  (fun i s hi hs => by
   have hlen : ∀ p, (zab6 p s).length ≤ s.length + 1 := fun p => by
    have := List.Nodup.length_le_of_subset (zaO8 (zZ7 (p := p) hs.1)) (l₂ := p :: s) fun z hz => by
     rcases zZ6.1 hz with rfl | h
     ·exact .head _
     ·exact .tail _ h
    simpa using this
   refine ⟨?_, fun s' h => ?_⟩
   ·unfold zy4
    have h3 : 0 ≤ (i : Int) ∧ (i : Int) < (l.length : Int) := by omega
    simp only [h3.1, h3.2, and_self, zl2, decide_true, if_true, Int.toNat_natCast]
    rw [zap6 _ _ (by omega), Option.bind_some, zd2 i (by omega)]
    by_cases hm : l.getD i Proc.zero ∈ s
    ·rw [if_pos (decide_eq_true hm), Option.map_some, zbE4 hs.1 hm]; rfl
    ·rw [if_neg (by rw [decide_eq_true_eq]; exact hm), zb2 (by omega), zaP1 _ _ hs.1 hm (by omega), Option.bind_some]
     unfold zE2
     simp only [zd2 i (show i < 4611686018427387904 by omega), Option.map_some, wmap]
   ·simp only [Option.some.injEq, Sum.inl.injEq] at h; subst h
    exact ⟨zZ7 hs.1, by have := hlen (l.getD i Proc.zero); omega⟩)
  (fun s hs => by unfold zy4; simp) [] ⟨.nil, by simp⟩
 rw [show ((0, []) : Int × List Proc) = (fun (i : Nat) (s : List Proc) => ((i : Int), s)) 0 [] from rfl, key, zar6 (fun s p => zab6 p s)]
 rfl
theorem zai4 {α β : Type} (l : List α) (z : α) (f : α → β) (s0 : List β) {body : Int × List β → Option ((Int × List β) ⊕ List β)} (hl : l.length ≤ 1000000) (h0 : s0.length ≤ 1000000)
  (hb : ∀ (i : Nat) (s : List β), i < l.length → s.length ≤ 3000000 → body ((i : Int), s) = some (.inl (((i + 1 : Nat) : Int), s ++ [f (l.getD i z)]))) (he : ∀ s, body ((l.length : Int), s) = some (.inr s)) : zc1 body (0, s0) = some (s0 ++ l.map f) := by
 have key := zq4 (body := body) l z (fun i (s : List β) => ((i : Int), s)) (fun i a s => some (.inl (zao2 s (some (f a))))) (fun s => s) (fun i s => s.length ≤ 1000000 + i)
  (fun i s hi hs => ⟨by rw [hb i s hi (by omega)]; rfl, fun s' h => by simp only [Option.some.injEq, Sum.inl.injEq] at h; subst h; simp [zao2]; omega⟩) (fun s hs => he s) s0 (by omega)
 rw [show ((0, s0) : Int × List β) = (fun (i : Nat) (s : List β) => ((i : Int), s)) 0 s0 from rfl, key, zao3 (fun a => some (f a))]
 simp
theorem zaP2 (l : List Hold) (hl : l.length ≤ 1000000) : zo8 l = some (l.map (·.proc)) := by
 unfold zo8
 rw [zai4 l Hold.zero (·.proc) [] hl (by simp) (fun i s hi hs => by
  unfold zI6
  have h3 : 0 ≤ (i : Int) ∧ (i : Int) < (l.length : Int) := by omega
  have h1 : s.length + 1 ≤ 4294967296 := by omega
  simp only [h1, h3.1, h3.2, and_self, zl2, decide_true, if_true, Int.toNat_natCast, zd2 i (show i < 4611686018427387904 by omega)]) (fun s => by unfold zI6; simp)]
 rfl
theorem zbf9 (q : Queue) (h1 : q.converts.length ≤ 1000) (h2 : q.waits.length ≤ 1000) : zt4 q = some ((ordQ q).map (·.proc)) := by
 unfold zt4
 rw [zai4 q.converts Wait.zero (·.proc) [] (by omega) (by simp) (fun i s hi hs => by
  unfold zP9
  have h3 : 0 ≤ (i : Int) ∧ (i : Int) < (q.converts.length : Int) := by omega
  have h1 : s.length + 1 ≤ 4294967296 := by omega
  simp only [h1, h3.1, h3.2, and_self, zl2, decide_true, if_true, Int.toNat_natCast, zd2 i (show i < 4611686018427387904 by omega)]) (fun s => by unfold zP9; simp), Option.bind_some]
 unfold zP8
 rw [zai4 q.waits Wait.zero (·.proc) _ (by omega) (by simp; omega) (fun i s hi hs => by
  unfold zP7
  have h3 : 0 ≤ (i : Int) ∧ (i : Int) < (q.waits.length : Int) := by omega
  have h1 : s.length + 1 ≤ 4294967296 := by omega
  simp only [h1, h3.1, h3.2, and_self, zl2, decide_true, if_true, Int.toNat_natCast, zd2 i (show i < 4611686018427387904 by omega)]) (fun s => by unfold zP7; simp), Option.bind_some]
 unfold zP6 ordQ
 rw [List.map_append, List.nil_append]
theorem zbg0 (q : Queue) (h0 : q.holds.length ≤ 1000) (h1 : q.converts.length ≤ 1000) (h2 : q.waits.length ≤ 1000) : zt5 q = some (zK5 q) := by
 unfold zt5 zK5
 have hl : (ordQ q).length ≤ 2000 := by unfold ordQ; rw [List.length_append]; omega
 rw [zaP2 _ (by omega), Option.bind_some, zbf9 q h1 h2, Option.bind_some, zb2 (by simp; omega), zai3 _ (by simp; omega)]
 rfl
theorem zai5 {t : List Queue} (hl : t.length ≤ 8) (h : ∀ q ∈ t, zb9 q = true) : zo9 t = some (ze7 t) := by
 unfold zo9
 have key := zq4 (body := zG8 t) t Queue.zero (fun i (s : List Proc) => ((i : Int), s)) (fun _ q s => some (.inl (s ++ zK5 q))) (fun s => s) (fun i s => s.length ≤ 24 * i)
  (fun i s hi hs => by
   have hq := h _ (zF2 (z := Queue.zero) hi)
   have hql := zJ3 hq
   have hpl := zbn2 hq
   refine ⟨?_, fun s' h => ?_⟩
   ·unfold zG8
    have h3 : 0 ≤ (i : Int) ∧ (i : Int) < (t.length : Int) := by omega
    simp only [h3.1, h3.2, and_self, zl2, decide_true, if_true, Int.toNat_natCast]
    rw [zbg0 _ (by omega) (by omega) (by omega), Option.bind_some, zb2 (by omega), zd2 i (by omega)]
    rfl
   ·simp only [Option.some.injEq, Sum.inl.injEq] at h; subst h; rw [List.length_append]; omega)
  (fun s hs => by unfold zG8; simp) [] (by simp)
 rw [show ((0, []) : Int × List Proc) = (fun (i : Nat) (s : List Proc) => ((i : Int), s)) 0 [] from rfl, key, zaJ8 zK5, List.nil_append, Option.bind_some]
 unfold zQ0
 have := zbs5 t h
 rw [zai3 _ (by omega)]; rfl
theorem zbg1 (t : List Queue) : zt3 t = some (zaF6 t) := by
 unfold zt3 zaF6
 by_cases h8 : 8 < t.length
 ·have : ¬ t.length ≤ 8 := by omega
  rw [if_pos (by simp; omega)]
  simp [this]
 ·have hl : t.length ≤ 8 := by omega
  rw [if_neg (by simp; omega), zbf8 t hl (fun i hi => by
   unfold zP5
   have h3 : 0 ≤ (i : Int) ∧ (i : Int) < (t.length : Int) := by omega
   simp only [h3.1, h3.2, and_self, implies_true, zl2, decide_true, if_true, Int.toNat_natCast, zW3, Option.bind_some, zd2 i (by omega)]
   by_cases e0 : i = 0
   ·subst e0
    rw [zb2 (by simp)]
    cases zb9 (t.getD 0 Queue.zero) <;> simp
   ·rw [zae3 i (by omega) (by omega), zb2 (by intro _; omega)]
    simp only [Int.toNat_natCast, show (0 : Int) < (i : Int) by omega, decide_true, Bool.true_and, e0, false_or]
    unfold ltN
    rcases hb (zb9 (t.getD i Queue.zero)) with b1 | b1 <;> rcases hb (Op.bytesLess (t.getD (i - 1) Queue.zero).resource.name.toList (t.getD i Queue.zero).resource.name.toList) with b2 | b2 <;> simp [b1, b2, -List.getD_eq_getElem?_getD]) (by unfold zP5; simp)]
  simp only [hl, decide_true, Bool.true_and]
  cases hw : ascW t none <;> rfl
theorem zW9 (t : List Queue) : zk9 t = some (zK7 t) := by
 unfold zk9 zK7
 rw [zbg1, Option.bind_some]
 cases hp : zaF6 t with
 | false => rfl
 | true =>
  obtain ⟨h1, h2, _⟩ := (zbf7 t).1 hp
  rw [if_pos rfl, zai5 h1 h2, Option.bind_some, Bool.true_and]
  congr 1
  rw [Bool.eq_iff_iff]; simp; omega
theorem zam4 (t : List Queue) (nm : ByteArray) (hl : t.length ≤ 1000000) : zu1 t nm = some (zm6 t nm) := by
 unfold zu1
 rw [zbn3 t Queue.zero (isN nm) (fun i hi => by
  unfold zS0 isN
  have h3 : 0 ≤ (i : Int) ∧ (i : Int) < (t.length : Int) := by omega
  simp only [h3.1, h3.2, and_self, zl2, decide_true, if_true, Int.toNat_natCast, zd2 i (by omega)]
  split <;> rfl) (by unfold zS0; simp)]
 unfold zm6
 cases t.findIdx? (isN nm) <;> rfl
end Ab
end Go.Proofs.YtfjeceicgfdmjaaGreatDoor
namespace Go.Proofs.YtfjeceicgfdmjaaGreatDoor
namespace Ab
set_option linter.unusedVariables false
set_option linter.unusedSimpArgs false
def zbs6 (nm : ByteArray) (h : Hold) : Event := ⟨1, h.proc, nm, h.amount⟩
def zX0 (nm : ByteArray) (l : List Hold) : List Event := l.map (zbs6 nm)
def zdY8 (p : Proc) (nm : ByteArray) (a : Amount) : Event := ⟨3, p, nm, a⟩
theorem zcn2 (nm : ByteArray) (l : List Hold) (hl : l.length ≤ 1000000) : zl4 nm l = some (zX0 nm l) := by
 unfold zl4
 rw [zai4 l Hold.zero (zbs6 nm) [] hl (by simp) (fun i s hi hs => by
  unfold zK9
  have h3 : 0 ≤ (i : Int) ∧ (i : Int) < (l.length : Int) := by omega
  have h1 : s.length + 1 ≤ 4294967296 := by omega
  simp only [h1, h3.1, h3.2, and_self, zl2, decide_true, if_true, Int.toNat_natCast, zd2 i (show i < 4611686018427387904 by omega)]
  rfl) (fun s => by unfold zK9; simp)]
 rfl
theorem zbA1 (nm : ByteArray) (l : List Hold) (ev : List Event) (hl : l.length ≤ 1000000) (he : ev.length ≤ 1000000) : zv5 nm l ev = some (ev ++ zX0 nm l) := by
 unfold zv5
 rw [zai4 l Hold.zero (zbs6 nm) ev hl he (fun i s hi hs => by
  unfold zI8
  have h3 : 0 ≤ (i : Int) ∧ (i : Int) < (l.length : Int) := by omega
  have h1 : s.length + 1 ≤ 4294967296 := by omega
  simp only [h1, h3.1, h3.2, and_self, zl2, decide_true, if_true, Int.toNat_natCast, zd2 i (show i < 4611686018427387904 by omega)]
  rfl) (fun s => by unfold zI8; simp)]
 rfl
theorem zam5 (nm : ByteArray) (l : List Hold) (hl : l.length ≤ 1000000) : zi7 nm l = some (zX0 nm l) := by
 unfold zi7
 rw [zai4 l Hold.zero (zbs6 nm) [] hl (by simp) (fun i s hi hs => by
  unfold zL3
  have h3 : 0 ≤ (i : Int) ∧ (i : Int) < (l.length : Int) := by omega
  have h1 : s.length + 1 ≤ 4294967296 := by omega
  simp only [h1, h3.1, h3.2, and_self, implies_true, zl2, decide_true, if_true, Int.toNat_natCast, zd2 i (show i < 4611686018427387904 by omega)]
  rfl) (fun s => by unfold zL3; simp)]
 rfl
def zat7 (t : List Queue) (i : Int) (q : Queue) : List Queue := if 0 ≤ i then t.set i.toNat q else t
def Lens (t : List Queue) : Prop := ∀ q ∈ t, q.holds.length ≤ 1000 ∧ q.converts.length ≤ 1000 ∧ q.waits.length ≤ 1000
theorem zbs7 (t : List Queue) (hl : t.length ≤ 1000) (hs : Lens t) : zc1 (zC3 t) (0, List.replicate t.length Queue.zero) = some t := by
 obtain ⟨x, hx, hp⟩ := zW0 (body := zC3 t) (fun g => ∃ i : Nat, i ≤ t.length ∧ g.1 = (i : Int) ∧ g.2.length = t.length ∧ g.2.take i = t.take i) (fun g => t.length - g.1.toNat) (fun x => x = t) (by
  rintro ⟨gi, s⟩ ⟨i, hi, h1, h2, h3⟩
  simp only at h1 h2 h3
  subst h1
  unfold zC3
  by_cases hlt : i < t.length
  ·left
   have hq := hs _ (zF2 (z := Queue.zero) hlt)
   have g3 : 0 ≤ (i : Int) ∧ (i : Int) < (t.length : Int) := by omega
   have g4 : 0 ≤ (i : Int) ∧ (i : Int) < ((s.length : Nat) : Int) := by omega
   refine ⟨(((i + 1 : Nat) : Int), s.set i (t.getD i Queue.zero)), ?_, ⟨i + 1, by omega, rfl, by simp [h2], ?_⟩, by simp only [Int.toNat_natCast]; omega⟩
   ·simp only [Int.toNat_natCast, zd2 i (show i < 4611686018427387904 by omega)]
    rw [if_pos (decide_eq_true g3.2), zb2 g3, zb2 (by omega), zb2 (by omega), zb2 (by omega), zb2 g4]
   ·simp only
    rw [zae4 (z := Queue.zero) (show i < (s.set i (t.getD i Queue.zero)).length by rw [List.length_set]; omega), List.take_set_of_le (Nat.le_refl _), h3, zal6 _ _ _ _ (by omega), zae4 (z := Queue.zero) hlt]
  ·right
   have : i = t.length := by omega
   subst this
   refine ⟨s, by rw [if_neg (by simp)], ?_⟩
   rw [List.take_of_length_le (by omega), List.take_length] at h3
   exact h3) (0, List.replicate t.length Queue.zero) ⟨0, by omega, rfl, by simp, by simp⟩
 rw [hx, hp]
theorem zZ8 (t : List Queue) (i : Int) (q : Queue) (hl : t.length ≤ 1000) (hs : Lens t) (hi : i < t.length) : zf5 t i q = some (zat7 t i q) := by
 unfold zf5
 rw [zb2 (by omega), Int.toNat_natCast, zbs7 t hl hs, Option.bind_some]
 unfold zI3 zat7
 by_cases h0 : 0 ≤ i
 ·rw [if_pos (decide_eq_true h0), zb2 (by omega), if_pos h0]
 ·rw [if_neg (by simpa using h0), if_neg h0]
theorem zaF7 (t : List Queue) (i : Int) (q : Queue) (hl : t.length ≤ 1000) (hs : Lens t) (hi : i < t.length) : zn1 t i q = some (zat7 t i q) := by
 have e : zn1 t i q = zf5 t i q := rfl
 rw [e]; exact zZ8 t i q hl hs hi
theorem zZ9 (t : List Queue) (i : Int) (q : Queue) (hl : t.length ≤ 1000) (h0 : 0 ≤ i) (hi : i < t.length) : zi3 t i q = some (zat7 t i q) := by
 unfold zi3 zat7
 rw [zb2 (by omega), zb2 (by omega), if_pos h0]
theorem ValidT.lens {t : List Queue} (h : ValidT t) : Lens t := fun q hq => by
 have := zJ3 (h.each q hq)
 omega
abbrev ResT := List Queue × List Event × Int
def errT (e : Int) : ResT := ([], [], e)
def putT (t : List Queue) (nm : ByteArray) (x : Queue × List Hold × Int) (ev : List Event) : ResT := if x.2.2 = 0 then (zat7 t (zm6 t nm) x.1, ev ++ zX0 nm x.2.1, 0) else errT x.2.2
def atT (t : List Queue) (nm : ByteArray) (f : Queue → ResT) : ResT := if zK7 t = false then errT 2 else if zm6 t nm < 0 then errT 10 else f (t.getD (zm6 t nm).toNat Queue.zero)
def zat8 (t : List Queue) (p : Proc) : Bool := decide (8 ≤ (ze7 t).length) && !decide (p ∈ ze7 t)
def zam6 (t : List Queue) (p : Proc) (a : Atom) (pr : Int) : ResT := atT t a.name fun q => if zat8 t p = true then errT 4 else putT t a.name (zC9 q p a.amount pr) []
def zas0 (t : List Queue) (p : Proc) (nm : ByteArray) : ResT := atT t nm fun q => putT t nm (zF0 q p) []
def zaF8 (t : List Queue) (p : Proc) (a : Atom) : ResT := atT t a.name fun q => putT t a.name (zD0 q p a.amount) (if getH q.holds p = a.amount then [] else [zdY8 p a.name a.amount])
theorem nd0 {P : Prop} [Decidable P] (h : P) : ¬ ((!decide P) = true) := by simp [h]
theorem nd1 {P : Prop} [Decidable P] (h : ¬ P) : (!decide P) = true := by simp [h]
theorem zbA2 (t : List Queue) (nm : ByteArray) : zw5 t nm = some (if zK7 t = false then (0, 2) else if zm6 t nm < 0 then (0, 10) else (zm6 t nm, 0)) := by
 unfold zw5
 rw [zW8, Option.bind_some]
 cases hv : zK7 t with
 | false => rfl
 | true =>
  have hl := ((zD1 t).1 hv).len
  rw [ifNT, ifTF, zaD2 _ _ (by omega), Option.bind_some]
  by_cases hf : zm6 t nm < 0
  ·rw [if_pos (decide_eq_true hf), if_pos hf]
  ·rw [if_neg (by simpa using hf), if_neg hf]
theorem zai6 {t : List Queue} {nm : ByteArray} (h : ¬ zm6 t nm < 0) : 0 ≤ zm6 t nm ∧ zm6 t nm < t.length := by
 rcases zbA0 (t := t) (nm := nm) with h1 | ⟨i, h1, h2, _⟩
 ·omega
 ·omega
theorem zaJ9 {t : List Queue} (h : ValidT t) {nm : ByteArray} (hf : ¬ zm6 t nm < 0) : zb9 (t.getD (zm6 t nm).toNat Queue.zero) = true := by
 have := zai6 hf
 exact h.each _ (zF2 (by omega))
theorem zcn3 {t : List Queue} (h : ValidT t) (p : Proc) : ((!decide (p ∈ ze7 t)) && (decide (8 ≤ ((ze7 t).length : Int)))) = zat8 t p := by
 unfold zat8
 rw [Bool.and_comm]
 congr 1
 rw [decide_eq_decide]; omega
theorem zbg2 (t : List Queue) (p : Proc) (a : Atom) (pr : Int) : zt0 t p a pr = some (zam6 t p a pr) := by
 unfold zt0 zam6 atT
 rw [zbA2, Option.bind_some]
 cases hv : zK7 t with
 | false => rfl
 | true =>
  have h := (zD1 t).1 hv
  have hl := h.len
  have hpl := h.procs
  simp only [Bool.true_eq_false, if_false]
  by_cases hf : zm6 t a.name < 0
  ·rw [if_pos hf, if_pos hf]; rfl
  ·have hr := zai6 hf
   have hs := zaJ9 h hf
   have hsh := zaJ7 (t.getD (zm6 t a.name).toNat Queue.zero) p a.amount pr
   simp only [if_neg hf, decide_true, Bool.not_true, Bool.false_eq_true, if_false, zW7 hl h.each, Option.bind_some, zap5 (ze7 t) p (by omega), zcn3 h p]
   cases hfu : zat8 t p with
   | true => rfl
   | false =>
    simp only [Bool.false_eq_true, if_false]
    rw [zb2 (by omega), zbe8, Option.bind_some]
    unfold putT
    by_cases e : (zC9 (t.getD (zm6 t a.name).toNat Queue.zero) p a.amount pr).2.2 = 0
    ·rw [if_neg (nd0 e), if_pos e, zZ8 _ _ _ (by omega) h.lens (by omega), Option.bind_some, zcn2 _ _ (by have := hsh.2.2.2; omega)]; rfl
    ·rw [if_pos (nd1 e), if_neg e]; rfl
theorem zbg3 (t : List Queue) (p : Proc) (a : Atom) (pr : Int) : zx3 t p a pr = some (zam6 t p a pr) := by
 unfold zx3 zam6 atT
 rw [zW9, Option.bind_some]
 cases hv : zK7 t with
 | false => rfl
 | true =>
  have h := (zD1 t).1 hv
  have hl := h.len
  have hpl := h.procs
  rw [ifNT, ifTF, zam4 _ _ (by omega), Option.bind_some]
  by_cases hf : zm6 t a.name < 0
  ·rw [if_pos (decide_eq_true hf), if_pos hf]; rfl
  ·have hr := zai6 hf
   have hsh := zaJ7 (t.getD (zm6 t a.name).toNat Queue.zero) p a.amount pr
   rw [if_neg (by rw [decide_eq_true_eq]; exact hf), if_neg hf, zai5 hl h.each, Option.bind_some, zap6 _ _ (by omega)]
   have e8 : decide (((ze7 t).length : Int) = 8) = decide (8 ≤ (ze7 t).length) := by rw [decide_eq_decide]; omega
   rw [e8]
   have hfu : zat8 t p = (decide (8 ≤ (ze7 t).length) && !decide (p ∈ ze7 t)) := rfl
   have hb2 : ((if decide (8 ≤ (ze7 t).length) = true then some (decide (p ∈ ze7 t)) else some false) : Option Bool).bind (fun v4 => if (decide (8 ≤ (ze7 t).length) && !v4) = true then some (([], [], 4) : ResT) else gd (0 ≤ zm6 t a.name ∧ zm6 t a.name < (t.length : Int)) <| (zr3 (t.getD (zm6 t a.name).toNat Queue.zero) p a.amount pr).bind fun v5 => if (!decide (v5.2.2 = 0)) = true then some (([], [], v5.2.2) : ResT) else (zi3 t (zm6 t a.name) v5.1).bind fun v6 => (zi7 a.name v5.2.1).bind fun v7 => some ((v6, v7, 0) : ResT)) =
     if zat8 t p = true then some (errT 4) else gd (0 ≤ zm6 t a.name ∧ zm6 t a.name < (t.length : Int)) <| (zr3 (t.getD (zm6 t a.name).toNat Queue.zero) p a.amount pr).bind fun v5 => if (!decide (v5.2.2 = 0)) = true then some (([], [], v5.2.2) : ResT) else (zi3 t (zm6 t a.name) v5.1).bind fun v6 => (zi7 a.name v5.2.1).bind fun v7 => some ((v6, v7, 0) : ResT) := by
    rw [hfu]
    by_cases h8 : 8 ≤ (ze7 t).length
    ·simp only [h8, decide_true, if_true, Option.bind_some, Bool.true_and]; rfl
    ·simp only [h8, decide_false, Bool.false_eq_true, if_false, Option.bind_some, Bool.false_and]
   refine Eq.trans hb2 ?_
   cases hfu2 : zat8 t p with
   | true => rfl
   | false =>
    rw [ifFT, zb2 (by omega), zbe9, Option.bind_some]
    unfold putT
    simp only [Bool.false_eq_true, if_false]
    by_cases e : (zC9 (t.getD (zm6 t a.name).toNat Queue.zero) p a.amount pr).2.2 = 0
    ·rw [if_neg (nd0 e), if_pos e, zZ9 _ _ _ (by omega) (by omega) (by omega), Option.bind_some, zam5 _ _ (by have := hsh.2.2.2; omega)]; rfl
    ·rw [if_pos (nd1 e), if_neg e]; rfl
theorem zaU5 (t : List Queue) (p : Proc) (nm : ByteArray) : zu5 t p nm = some (zas0 t p nm) := by
 unfold zu5 zas0 atT
 rw [zW9, Option.bind_some]
 cases hv : zK7 t with
 | false => rfl
 | true =>
  have h := (zD1 t).1 hv
  have hl := h.len
  rw [ifNT, ifTF, zam4 _ _ (by omega), Option.bind_some]
  by_cases hf : zm6 t nm < 0
  ·rw [if_pos (decide_eq_true hf), if_pos hf]; rfl
  ·have hr := zai6 hf
   have hsh := zbj0 (t.getD (zm6 t nm).toNat Queue.zero) p
   rw [if_neg (by rw [decide_eq_true_eq]; exact hf), if_neg hf, zb2 (by omega), zaU3, Option.bind_some]
   unfold putT
   dsimp only
   by_cases e : (zF0 (t.getD (zm6 t nm).toNat Queue.zero) p).2.2 = 0
   ·rw [if_neg (nd0 e), if_pos e, zZ9 _ _ _ (by omega) (by omega) (by omega), Option.bind_some, zam5 _ _ (by have := hsh.2.2.2; omega)]; rfl
   ·rw [if_pos (nd1 e), if_neg e]; rfl
theorem zbg4 (t : List Queue) (p : Proc) (a : Atom) : zx6 t p a = some (zaF8 t p a) := by
 unfold zx6 zaF8 atT
 rw [zW9, Option.bind_some]
 cases hv : zK7 t with
 | false => rfl
 | true =>
  have h := (zD1 t).1 hv
  have hl := h.len
  rw [ifNT, ifTF, zam4 _ _ (by omega), Option.bind_some]
  by_cases hf : zm6 t a.name < 0
  ·rw [if_pos (decide_eq_true hf), if_pos hf]; rfl
  ·have hr := zai6 hf
   have hs := zaJ9 h hf
   have hql := zJ3 hs
   have hsh := zbs2 (t.getD (zm6 t a.name).toNat Queue.zero) p a.amount
   rw [if_neg (by rw [decide_eq_true_eq]; exact hf), if_neg hf, zb2 (by omega), zal8 _ _ (by omega), Option.bind_some, zb2 (by omega), zbf0, Option.bind_some]
   unfold putT
   have k1 : ∀ ev : List Event, ev.length ≤ 1 → (zD0 (t.getD (zm6 t a.name).toNat Queue.zero) p a.amount).2.2 = 0 → zB8 t a (zm6 t a.name) (zD0 (t.getD (zm6 t a.name).toNat Queue.zero) p a.amount) ev = some (zat7 t (zm6 t a.name) (zD0 (t.getD (zm6 t a.name).toNat Queue.zero) p a.amount).1, ev ++ zX0 a.name (zD0 (t.getD (zm6 t a.name).toNat Queue.zero) p a.amount).2.1, 0) := fun ev hev e => by
    unfold zB8
    have hg : (zX0 a.name (zD0 (t.getD (zm6 t a.name).toNat Queue.zero) p a.amount).2.1).length ≤ 16 := by unfold zX0; rw [List.length_map]; exact hsh.2.2.2
    rw [zZ9 _ _ _ (by omega) (by omega) (by omega), Option.bind_some, zam5 _ _ (by have := hsh.2.2.2; omega), Option.bind_some, zb2 (by omega)]
   dsimp only
   by_cases e : (zD0 (t.getD (zm6 t a.name).toNat Queue.zero) p a.amount).2.2 = 0
   ·rw [if_neg (nd0 e), if_pos e]
    by_cases e2 : getH (t.getD (zm6 t a.name).toNat Queue.zero).holds p = a.amount
    ·rw [if_neg (nd0 e2), if_pos e2, k1 [] (by simp) e]
    ·rw [if_pos (nd1 e2), if_neg e2, zb2 (by decide), k1 _ (by simp) e]; rfl
   ·rw [if_pos (nd1 e), if_neg e]; rfl
end Ab
end Go.Proofs.YtfjeceicgfdmjaaGreatDoor
namespace Go.Proofs.YtfjeceicgfdmjaaGreatDoor
namespace Ab
set_option linter.unusedVariables false
set_option linter.unusedSimpArgs false
def ascR : List Resource → Option ByteArray → Bool
 | [], _ => true
 | r :: l, pv => resV r && ((match pv with | none => true | some n => decide (ltN n r.name)) && ascR l (some r.name))
theorem zbA3 : ∀ (l : List Resource) (pv : Option ByteArray), ascR l pv = true ↔ (∀ r ∈ l, resV r = true) ∧ l.Pairwise (fun a b => ltN a.name b.name) ∧ ∀ n, pv = some n → ∀ r ∈ l, ltN n r.name
 | [], pv => by
  simp only [ascR, List.not_mem_nil, false_implies, implies_true, and_true, true_and, true_iff]
  exact .nil
 | q :: t, pv => by
  simp only [ascR, Bool.and_eq_true]
  rw [zbA3 t (some q.name)]
  constructor
  ·rintro ⟨h1, h2, h3, h4, h5⟩
   refine ⟨fun x hx => ?_, List.pairwise_cons.2 ⟨fun x hx => h5 _ rfl x hx, h4⟩, fun n hn x hx => ?_⟩
   ·rcases List.mem_cons.1 hx with rfl | hx
    ·exact h1
    ·exact h3 x hx
   ·subst hn
    simp only [decide_eq_true_eq] at h2
    rcases List.mem_cons.1 hx with rfl | hx
    ·exact h2
    ·exact zbn0 h2 (h5 _ rfl x hx)
  ·rintro ⟨h1, h2, h3⟩
   have h2' := List.pairwise_cons.1 h2
   refine ⟨h1 q (.head _), ?_, fun x hx => h1 x (.tail _ hx), h2'.2, fun n hn x hx => by cases hn; exact h2'.1 x hx⟩
   cases pv with
   | none => rfl
   | some n => exact decide_eq_true (h3 n rfl q (.head _))
def catV (l : List Resource) : Bool := decide (l.length ≤ 8) && ascR l none
theorem zaK0 (l : List Resource) : catV l = true ↔ l.length ≤ 8 ∧ (∀ r ∈ l, resV r = true) ∧ l.Pairwise (fun a b => ltN a.name b.name) := by
 unfold catV
 rw [Bool.and_eq_true, decide_eq_true_eq, zbA3]
 simp
theorem zbN1 (t0 : List Resource) : ∀ (t prev : List Resource), t0 = prev ++ t →
  walk (fun i q (_ : Unit) => some (if resV q = true ∧ (i = 0 ∨ ltN (t0.getD (i - 1) Resource.zero).name q.name) then Sum.inl () else Sum.inr (Sum.inr (α := Unit) false))) (fun _ => Sum.inl (β := Bool) ()) t prev.length () =
   some (if ascR t (prev.getLast?.map (·.name)) = true then .inl () else .inr false) := by
 intro t
 induction t with
 | nil => intro prev _; simp [walk, ascR]
 | cons q t ih =>
  intro prev ht
  simp only [walk]
  have hq : (prev.length = 0 ∨ ltN (t0.getD (prev.length - 1) Resource.zero).name q.name) ↔ (match prev.getLast?.map (·.name) with | none => true | some n => decide (ltN n q.name)) = true := by
   by_cases hp : prev = []
   ·subst hp; simp
   ·have h1 := zbn1 prev (q :: t) Resource.zero hp
    rw [ht, h1, List.getLast?_eq_some_getLast hp]
    have : prev.length ≠ 0 := fun e => hp (List.eq_nil_of_length_eq_zero e)
    simp [this]
  by_cases e : resV q = true ∧ (prev.length = 0 ∨ ltN (t0.getD (prev.length - 1) Resource.zero).name q.name)
  ·rw [if_pos e]
   have := ih (prev ++ [q]) (by rw [ht]; simp)
   rw [show (prev ++ [q]).length = prev.length + 1 by simp] at this
   simp only
   have h2 : ascR (q :: t) (prev.getLast?.map (·.name)) = ascR t (some q.name) := by simp only [ascR, e.1, hq.1 e.2, Bool.true_and]
   rw [this, h2]
   simp
  ·rw [if_neg e]
   rw [hq] at e
   have hf : ascR (q :: t) (prev.getLast?.map (·.name)) = false := by
    rw [Bool.eq_false_iff]
    intro hh
    simp only [ascR, Bool.and_eq_true] at hh
    exact e ⟨hh.1, hh.2.1⟩
   rw [hf]; rfl
theorem zbA4 {body : Int → Option (Int ⊕ (Unit ⊕ Bool))} (t : List Resource) (hl : t.length ≤ 8)
  (hb : ∀ i : Nat, i < t.length → body (i : Int) = some (if resV (t.getD i Resource.zero) = true ∧ (i = 0 ∨ ltN (t.getD (i - 1) Resource.zero).name (t.getD i Resource.zero).name) then .inl ((i + 1 : Nat) : Int) else .inr (.inr false)))
  (he : body (t.length : Int) = some (.inr (.inl ()))) : zc1 body 0 = some (if ascR t none = true then .inl () else .inr false) := by
 have key := zar1 (body := body) t Resource.zero (fun i (_ : Unit) => (i : Int)) (fun i q _ => some (if resV q = true ∧ (i = 0 ∨ ltN (t.getD (i - 1) Resource.zero).name q.name) then Sum.inl () else Sum.inr (Sum.inr (α := Unit) false))) (fun _ => Sum.inl (β := Bool) ())
  (fun i s hi => by
   rw [hb i hi, Option.map_some]
   split <;> rfl) (fun s => he) ()
 have := zbN1 t t [] rfl
 rw [show (0 : Int) = (fun (i : Nat) (_ : Unit) => (i : Int)) 0 () from rfl, key]
 exact this
theorem zaP3 (t : List Resource) : zj4 t = some (catV t) := by
 unfold zj4 catV
 by_cases h8 : 8 < t.length
 ·have : ¬ t.length ≤ 8 := by omega
  rw [if_pos (by simp; omega)]
  simp [this]
 ·have hl : t.length ≤ 8 := by omega
  rw [if_neg (by simp; omega), zbA4 t hl (fun i hi => by
   unfold zH9
   have h3 : 0 ≤ (i : Int) ∧ (i : Int) < (t.length : Int) := by omega
   simp only [h3.1, h3.2, and_self, implies_true, zl2, decide_true, if_true, Int.toNat_natCast, zah5, Option.bind_some, zd2 i (by omega)]
   by_cases e0 : i = 0
   ·subst e0
    rw [zb2 (by simp)]
    cases resV (t.getD 0 Resource.zero) <;> simp
   ·rw [zae3 i (by omega) (by omega), zb2 (by intro _; omega)]
    simp only [Int.toNat_natCast, show (0 : Int) < (i : Int) by omega, decide_true, Bool.true_and, e0, false_or]
    unfold ltN
    rcases hb (resV (t.getD i Resource.zero)) with b1 | b1 <;> rcases hb (Op.bytesLess (t.getD (i - 1) Resource.zero).name.toList (t.getD i Resource.zero).name.toList) with b2 | b2 <;> simp [b1, b2, -List.getD_eq_getElem?_getD]) (by unfold zH9; simp)]
  simp only [hl, decide_true, Bool.true_and]
  cases hw : ascR t none <;> rfl
theorem zbg5 (t : List Resource) : zo1 t = some (catV t) := by
 unfold zo1 catV
 by_cases h8 : 8 < t.length
 ·have : ¬ t.length ≤ 8 := by omega
  rw [if_pos (by simp; omega)]
  simp [this]
 ·have hl : t.length ≤ 8 := by omega
  rw [if_neg (by simp; omega), zbA4 t hl (fun i hi => by
   unfold zO2
   have h3 : 0 ≤ (i : Int) ∧ (i : Int) < (t.length : Int) := by omega
   simp only [h3.1, h3.2, and_self, implies_true, zl2, decide_true, if_true, Int.toNat_natCast, zaI7, Option.bind_some, zd2 i (by omega)]
   by_cases e0 : i = 0
   ·subst e0
    rw [zb2 (by simp)]
    cases resV (t.getD 0 Resource.zero) <;> simp
   ·rw [zae3 i (by omega) (by omega), zb2 (by intro _; omega)]
    simp only [Int.toNat_natCast, show (0 : Int) < (i : Int) by omega, decide_true, Bool.true_and, e0, false_or]
    unfold ltN
    rcases hb (resV (t.getD i Resource.zero)) with b1 | b1 <;> rcases hb (Op.bytesLess (t.getD (i - 1) Resource.zero).name.toList (t.getD i Resource.zero).name.toList) with b2 | b2 <;> simp [b1, b2, -List.getD_eq_getElem?_getD]) (by unfold zO2; simp)]
  simp only [hl, decide_true, Bool.true_and]
  cases hw : ascR t none <;> rfl
def newT (l : List Resource) : List Queue × Int := if catV l = true then (l.map zK6, 0) else ([], 1)
theorem zbs8 (l : List Resource) : zv3 l = some (newT l) := by
 unfold zv3 newT
 rw [zbg5, Option.bind_some]
 cases h : catV l with
 | false => rfl
 | true =>
  have hl := ((zaK0 l).1 h).1
  rw [ifNT, zai4 l Resource.zero zK6 [] (by omega) (by simp) (fun i s hi hs => by
   unfold zU1
   have h3 : 0 ≤ (i : Int) ∧ (i : Int) < (l.length : Int) := by omega
   have h1 : s.length + 1 ≤ 4294967296 := by omega
   simp only [h1, h3.1, h3.2, and_self, zl2, decide_true, if_true, Int.toNat_natCast, zd2 i (show i < 4611686018427387904 by omega)]
   rfl) (fun s => by unfold zU1; simp)]
  rfl
theorem zbs9 (l : List Resource) : zv2 l = some (newT l) := by
 unfold zv2 newT
 rw [zaP3, Option.bind_some]
 cases h : catV l with
 | false => rfl
 | true =>
  obtain ⟨hl, hv, _⟩ := (zaK0 l).1 h
  have key := zq4 (body := zM2 l) l Resource.zero (fun i (s : List Queue) => ((i : Int), s)) (fun _ r s => some (.inl (s ++ [zK6 r]))) (fun s => .inl s) (fun i s => s.length = i)
   (fun i s hi hs => by
    refine ⟨?_, fun s' h => by simp only [Option.some.injEq, Sum.inl.injEq] at h; subst h; simp [hs]⟩
    unfold zM2
    have h3 : 0 ≤ (i : Int) ∧ (i : Int) < (l.length : Int) := by omega
    have h1 : s.length + 1 ≤ 4294967296 := by omega
    have hr : newQ (l.getD i Resource.zero) = (zK6 (l.getD i Resource.zero), 0) := by unfold newQ; rw [if_pos (hv _ (zF2 hi))]; rfl
    simp only [h1, h3.1, h3.2, and_self, zl2, decide_true, if_true, Int.toNat_natCast, zd2 i (show i < 4611686018427387904 by omega), zbr1, hr, Option.bind_some, Bool.not_true, Bool.false_eq_true, if_false]
    rfl)
   (fun s hs => by unfold zM2; simp) [] rfl
  have fold : ∀ (l : List Resource) (i : Nat) (s : List Queue), walk (fun (_ : Nat) r (s : List Queue) => some (Sum.inl (β := List Queue ⊕ List Queue × Int) (s ++ [zK6 r]))) (fun s => Sum.inl s) l i s = some (.inl (s ++ l.map zK6)) := by
   intro l
   induction l with
   | nil => intro i s; simp [walk]
   | cons r l ih => intro i s; simp only [walk, List.map_cons]; rw [ih (i + 1), List.append_assoc]; rfl
  rw [ifNT, show ((0, []) : Int × List Queue) = (fun (i : Nat) (s : List Queue) => ((i : Int), s)) 0 [] from rfl, key, fold]
  rfl
def zbA5 (p : Proc) (q : Queue) : List Atom := if getH q.holds p = Amount.zero then [] else [⟨q.resource.name, getH q.holds p⟩]
theorem zbA6 (t : List Queue) (p : Proc) (hl : t.length ≤ 1000) (hs : Lens t) : zm2 t p = some (t.flatMap (zbA5 p)) := by
 unfold zm2
 have key := zq4 (body := zz8 t p) t Queue.zero (fun i (s : List Atom) => ((i : Int), s)) (fun _ q s => some (.inl (s ++ zbA5 p q))) (fun s => s) (fun i s => s.length ≤ i)
  (fun i s hi hs' => by
   have hq := hs _ (zF2 (z := Queue.zero) hi)
   have h3 : 0 ≤ (i : Int) ∧ (i : Int) < (t.length : Int) := by omega
   have h1 : s.length + 1 ≤ 4294967296 := by omega
   refine ⟨?_, fun s' h => ?_⟩
   ·unfold zz8 zbA5
    simp only [h1, h3.1, h3.2, and_self, zl2, decide_true, if_true, Int.toNat_natCast, zd2 i (show i < 4611686018427387904 by omega)]
    rw [zK2 _ _ (by omega), Option.bind_some]
    by_cases e : getH (t.getD i Queue.zero).holds p = Amount.zero
    ·rw [if_neg (nd0 e), if_pos e, List.append_nil]; rfl
    ·rw [if_pos (nd1 e), if_neg e]; rfl
   ·simp only [Option.some.injEq, Sum.inl.injEq] at h; subst h
    unfold zbA5
    split
    ·simp; omega
    ·simp; omega)
  (fun s hs => by unfold zz8; simp) [] (by simp)
 rw [show ((0, []) : Int × List Atom) = (fun (i : Nat) (s : List Atom) => ((i : Int), s)) 0 [] from rfl, key, zaJ8 (zbA5 p)]
 rfl
def tR : Resource := ⟨⟨#[97]⟩, 1, 1, 0⟩
def tP0 : Proc := ⟨0, 1, 1⟩
def aT0 : List Queue := [⟨tR, [], [], [], 0⟩]
def aT1 : List Queue := [⟨tR, [⟨tP0, ⟨5, 0⟩⟩], [], [], 1⟩]
theorem zaW4 : zm3 = some true := by
 unfold zm3
 have p0 : zv6 0 = tP0 := by decide
 have e1 : newT [{ Resource.zero with name := (⟨#[97]⟩ : ByteArray), kind := 1, units := 1 }] = (aT0, 0) := by decide +kernel
 have e2 : zam6 aT0 tP0 (⟨(⟨#[97]⟩ : ByteArray), { Amount.zero with mode := 5 }⟩ : Atom) 0 = (aT1, [⟨1, tP0, ⟨#[97]⟩, ⟨5, 0⟩⟩], 0) := by decide +kernel
 simp only [zae0, Option.bind_some, p0, zbs9, e1, zbg2, e2]
 rw [zbA6 aT1 _ (by decide) (by intro q hq; rw [List.mem_singleton.1 hq]; exact ⟨by decide, by decide, by decide⟩), Option.bind_some, zaD2 aT1 _ (by decide), zW8]
 decide +kernel
structure Small (t : List Queue) : Prop where
 len : t.length ≤ 20
 lens : Lens t
end Ab
end Go.Proofs.YtfjeceicgfdmjaaGreatDoor
namespace Go.Proofs.YtfjeceicgfdmjaaGreatDoor
namespace Ab
set_option linter.unusedVariables false
set_option linter.unusedSimpArgs false
theorem zbj2 {α : Type} (l : List α) (i : Nat) (z : α) (h : i < l.length) : l.set i (l.getD i z) = l := by
 rw [List.getD_eq_getElem?_getD, List.getElem?_eq_getElem h, Option.getD_some, List.set_getElem_self]
theorem zch4 {body : Int × List Queue × List Event → Option ((Int × List Queue × List Event) ⊕ (List Queue × List Event))} (t : List Queue) (f : Queue → Queue) (e : Queue → List Event) (hl : t.length ≤ 1000) (he : ∀ q ∈ t, (e q).length ≤ 100)
  (hb : ∀ (i : Nat) (s : List Queue) (ev : List Event), i < t.length → s.length = t.length → s.getD i Queue.zero = t.getD i Queue.zero → ev.length ≤ 100000 → body ((i : Int), s, ev) = some (.inl (((i + 1 : Nat) : Int), s.set i (f (t.getD i Queue.zero)), ev ++ e (t.getD i Queue.zero))))
  (hend : ∀ (s : List Queue) (ev : List Event), s.length = t.length → body ((t.length : Int), s, ev) = some (.inr (s, ev))) : zc1 body (0, t, []) = some (t.map f, t.flatMap e) := by
 have hev : ∀ i, i ≤ t.length → ((t.take i).flatMap e).length ≤ 100 * i := by
  intro i
  induction i with
  | zero => intro _; simp
  | succ i ih =>
   intro hi
   rw [zae4 (z := Queue.zero) (by omega), List.flatMap_append, List.length_append]
   have := ih (by omega)
   have h2 := he _ (zF2 (z := Queue.zero) (show i < t.length by omega))
   simp only [List.flatMap_cons, List.flatMap_nil, List.append_nil]
   omega
 obtain ⟨x, hx, hp⟩ := zW0 (body := body) (fun g => ∃ i : Nat, i ≤ t.length ∧ g = ((i : Int), (t.take i).map f ++ t.drop i, (t.take i).flatMap e)) (fun g => t.length - g.1.toNat) (fun x => x = (t.map f, t.flatMap e)) (by
  rintro g ⟨i, hi, rfl⟩
  have hsl : ((t.take i).map f ++ t.drop i).length = t.length := by rw [List.length_append, List.length_map, List.length_take, List.length_drop]; omega
  by_cases hlt : i < t.length
  ·left
   have hml : ((t.take i).map f).length = i := by rw [List.length_map, List.length_take]; omega
   have hd : t.drop i = t.getD i Queue.zero :: t.drop (i + 1) := by rw [List.drop_eq_getElem_cons hlt, List.getD_eq_getElem?_getD, List.getElem?_eq_getElem hlt]; rfl
   have hg : ((t.take i).map f ++ t.drop i).getD i Queue.zero = t.getD i Queue.zero := by
    rw [List.getD_eq_getElem?_getD, List.getElem?_append_right (by omega), hml, Nat.sub_self, hd]; rfl
   refine ⟨_, hb i _ _ hlt hsl hg (by have := hev i hi; omega), ⟨i + 1, by omega, ?_⟩, by simp only [Int.toNat_natCast]; omega⟩
   rw [zae4 (z := Queue.zero) hlt, List.map_append, List.flatMap_append]
   congr 2
   ·rw [List.set_append_right _ _ (by omega), hml, Nat.sub_self, hd]
    simp
   ·simp
  ·right
   have : i = t.length := by omega
   subst this
   refine ⟨_, hend _ _ hsl, ?_⟩
   simp) (0, t, []) ⟨0, by omega, by simp⟩
 rw [hx, hp]
def remE (p : Proc) (q : Queue) : List Event := if (zx8 q p).2.2 = 0 then (if getH q.holds p = Amount.zero then [] else [zdY8 p q.resource.name Amount.zero]) ++ zX0 q.resource.name (zx8 q p).2.1 else []
def remT (t : List Queue) (p : Proc) : List Queue × List Event := if zK7 t = true then (t.map (remN · p), t.flatMap (remE p)) else ([], [])
theorem zbA7 (nm : ByteArray) (l : List Hold) : (zX0 nm l).length = l.length := by unfold zX0; rw [List.length_map]
theorem zbA8 (p : Proc) (q : Queue) : (remE p q).length ≤ 17 := by
 unfold remE
 have := (zaD1 q p).2.2.2
 split
 ·rw [List.length_append, zbA7]
  split <;> simp <;> omega
 ·simp
theorem zbA9 {q : Queue} (h : zb9 q = true) (p : Proc) : (remN q p).resource = q.resource :=
 (zby9 h (p := p) (x := { p with num := p.num + 1 }) fun e => by
  have h1 : p.num + 1 = p.num := congrArg Proc.num e
  omega).2
theorem zad0 (t : List Queue) (p : Proc) : zr5 t p = some (remT t p) := by
 unfold zr5 remT
 rw [zW8, Option.bind_some]
 cases hv : zK7 t with
 | false => rfl
 | true =>
  have h := (zD1 t).1 hv
  have hl := h.len
  rw [ifNT, if_pos rfl, zaF7 _ _ _ (by omega) h.lens (by omega), Option.bind_some]
  unfold zat7
  rw [if_neg (by decide), zch4 t (remN · p) (remE p) (by omega) (fun q _ => by have := zbA8 p q; omega) (fun i s ev hi hs hg hev => by
   have hq := h.each _ (zF2 (z := Queue.zero) hi)
   have hql := zJ3 hq
   have hsh := (zaD1 (t.getD i Queue.zero) p).2.2.2
   have h3 : 0 ≤ (i : Int) ∧ (i : Int) < (t.length : Int) := by omega
   have h4 : 0 ≤ (i : Int) ∧ (i : Int) < ((s.length : Nat) : Int) := by omega
   unfold zL5
   simp only [Int.toNat_natCast]
   rw [if_pos (decide_eq_true h3.2), zb2 h3, zaU4, Option.bind_some]
   unfold remE remN
   by_cases e : (zx8 (t.getD i Queue.zero) p).2.2 = 0
   ·rw [if_neg (nd0 e), if_pos e, if_pos e, zK2 _ _ (by omega), Option.bind_some]
    by_cases e2 : getH (t.getD i Queue.zero).holds p = Amount.zero
    ·rw [if_neg (nd0 e2), if_pos e2]
     unfold zz1
     simp only [Int.toNat_natCast]
     rw [zbA1 _ _ _ (by omega) (by omega), Option.bind_some, zb2 h4, zd2 i (by omega), List.nil_append]
    ·rw [if_pos (nd1 e2), if_neg e2, zb2 (by omega)]
     unfold zz1
     simp only [Int.toNat_natCast]
     rw [zbA1 _ _ _ (by omega) (by simp; omega), Option.bind_some, zb2 h4, zd2 i (by omega), List.append_assoc]
     rfl
   ·rw [if_pos (nd1 e), if_neg e, if_neg e, zd2 i (by omega), List.append_nil, ← hg, zbj2 _ _ _ (by omega)]) (fun s ev hs => by
   unfold zL5
   rw [if_neg (by simp)])]
  rfl
theorem zO0 {t : List Queue} (h : ∀ q ∈ t, zb9 q = true) {p : Proc} : p ∈ ze7 t ↔ ∃ q ∈ t, hasQ q p = true := by
 unfold ze7
 rw [zaA1, List.mem_flatMap]
 constructor
 ·rintro ⟨q, hq, hp⟩; exact ⟨q, hq, (zaF5 ((zh4 q).1 (h q hq)).1).1 hp⟩
 ·rintro ⟨q, hq, hp⟩; exact ⟨q, hq, (zaF5 ((zh4 q).1 (h q hq)).1).2 hp⟩
theorem zas1 (t : List Queue) : (ze7 t).Nodup := zaO8 (zap4 _)
theorem ValidT.map {t : List Queue} (h : ValidT t) (f : Queue → Queue) (h1 : ∀ q ∈ t, zb9 (f q) = true) (h2 : ∀ q ∈ t, (f q).resource = q.resource) (h3 : ∀ q ∈ t, ∀ p, hasQ (f q) p = true → hasQ q p = true) : ValidT (t.map f) := by
 have he : ∀ q ∈ t.map f, zb9 q = true := fun q hq => by
  obtain ⟨x, hx, rfl⟩ := List.mem_map.1 hq
  exact h1 x hx
 refine ⟨by rw [List.length_map]; exact h.len, he, ?_, ?_⟩
 ·have := h.asc
  unfold AscN at *
  rw [List.pairwise_map]
  exact this.imp_of_mem fun {a b} ha hb hab => by rw [h2 a ha, h2 b hb]; exact hab
 ·refine Nat.le_trans (List.Nodup.length_le_of_subset (zas1 _) fun x hx => ?_) h.procs
  obtain ⟨q, hq, hp⟩ := (zO0 he).1 hx
  obtain ⟨y, hy, rfl⟩ := List.mem_map.1 hq
  exact (zO0 h.each).2 ⟨y, hy, h3 y hy x hp⟩
theorem zbt0 {t : List Queue} (h : ValidT t) (p : Proc) : remT t p = (t.map (remN · p), t.flatMap (remE p)) := by
 unfold remT; rw [if_pos ((zD1 t).2 h)]
theorem zbF2 {t : List Queue} (h : ValidT t) (p : Proc) : ValidT (remT t p).1 := by
 rw [zbt0 h]
 exact h.map _ (fun q hq => zW6 (h.each q hq) p) (fun q hq => zbA9 (h.each q hq) p) fun q hq x hx => ((zbz0 (h.each q hq) p x).1 hx).1
theorem zbI4 {t : List Queue} (h : ValidT t) (p : Proc) : (remT t p).2.length ≤ 136 := by
 rw [zbt0 h]
 have : ∀ l : List Queue, (l.flatMap (remE p)).length ≤ 17 * l.length := by
  intro l
  induction l with
  | nil => simp
  | cons q l ih => rw [List.flatMap_cons, List.length_append, List.length_cons]; have := zbA8 p q; omega
 have h1 := this t
 have h2 := h.len
 show (t.flatMap (remE p)).length ≤ 136
 omega
def oldP (a b : Int) (p : Proc) : Bool := decide (p.site = a) && decide (p.inc < b)
def zD8 (a b : Int) (s : List Queue × List Event) (p : Proc) : List Queue × List Event := if oldP a b p = true then ((remT s.1 p).1, s.2 ++ (remT s.1 p).2) else s
def zaF9 (t : List Queue) (a b : Int) : List Queue × List Event := if zK7 t = true then (ze7 t).foldl (zD8 a b) (t, []) else ([], [])
theorem zbF3 {body : List Queue × Int × List Event → Option ((List Queue × Int × List Event) ⊕ (List Queue × List Event))} {t : List Queue} (h : ValidT t) (a b : Int)
  (hb : ∀ (i : Nat) (s : List Queue) (ev : List Event), i < (ze7 t).length → ValidT s → ev.length ≤ 136 * i → body (s, (i : Int), ev) = some (.inl ((zD8 a b (s, ev) ((ze7 t).getD i Proc.zero)).1, ((i + 1 : Nat) : Int), (zD8 a b (s, ev) ((ze7 t).getD i Proc.zero)).2)))
  (hend : ∀ (s : List Queue) (ev : List Event), body (s, ((ze7 t).length : Int), ev) = some (.inr (s, ev))) : zc1 body (t, 0, []) = some ((ze7 t).foldl (zD8 a b) (t, [])) := by
 have key := zq4 (body := body) (ze7 t) Proc.zero (fun i (s : List Queue × List Event) => (s.1, (i : Int), s.2)) (fun _ p s => some (.inl (zD8 a b s p))) (fun s => s) (fun i s => ValidT s.1 ∧ s.2.length ≤ 136 * i)
  (fun i s hi hs => ⟨by rw [hb i s.1 s.2 hi hs.1 hs.2]; rfl, fun s' h => by
   simp only [Option.some.injEq, Sum.inl.injEq] at h; subst h
   unfold zD8
   split
   ·have := zbI4 hs.1 ((ze7 t).getD i Proc.zero)
    exact ⟨zbF2 hs.1 _, by rw [List.length_append]; omega⟩
   ·exact ⟨hs.1, by have := hs.2; omega⟩⟩)
  (fun s hs => hend s.1 s.2) (t, []) ⟨h, by simp⟩
 rw [show ((t, 0, []) : List Queue × Int × List Event) = (fun (i : Nat) (s : List Queue × List Event) => (s.1, (i : Int), s.2)) 0 (t, []) from rfl, key, zar6 (zD8 a b)]
theorem zbg6 (t : List Queue) (a b : Int) : zB3 t a b = some (zaF9 t a b) := by
 unfold zB3 zaF9
 rw [zW8, Option.bind_some]
 cases hv : zK7 t with
 | false => rfl
 | true =>
  have h := (zD1 t).1 hv
  have hl := h.len
  have hpl := h.procs
  rw [ifNT, if_pos rfl, zZ8 _ _ _ (by omega) h.lens (by omega), Option.bind_some, zW7 hl h.each, Option.bind_some]
  unfold zat7
  rw [if_neg (by decide), zbF3 h a b (fun i s ev hi hs hev => by
   have h3 : 0 ≤ (i : Int) ∧ (i : Int) < ((ze7 t).length : Int) := by omega
   have hre := zbI4 hs ((ze7 t).getD i Proc.zero)
   unfold zQ4 zD8 oldP
   simp only [Int.toNat_natCast]
   rw [if_pos (decide_eq_true h3.2), zb2 h3]
   have eb : (!decide (((ze7 t).getD i Proc.zero).site = a) || decide (b ≤ ((ze7 t).getD i Proc.zero).inc)) = !(decide (((ze7 t).getD i Proc.zero).site = a) && decide (((ze7 t).getD i Proc.zero).inc < b)) := by
    rw [Bool.not_and]
    congr 1
    rw [← decide_not, decide_eq_decide]; omega
   rw [eb]
   cases hc : (decide (((ze7 t).getD i Proc.zero).site = a) && decide (((ze7 t).getD i Proc.zero).inc < b)) with
   | false => rw [if_pos (show (!false) = true from rfl)]; simp only [Bool.false_eq_true, if_false, zd2 i (show i < 4611686018427387904 by omega)]
   | true => rw [ifNT, zad0, Option.bind_some, zb2 (by omega), zd2 i (by omega)]; simp only [if_true]) (fun s ev => by
   unfold zQ4
   rw [if_neg (by simp)])]
  rfl
end Ab
end Go.Proofs.YtfjeceicgfdmjaaGreatDoor
