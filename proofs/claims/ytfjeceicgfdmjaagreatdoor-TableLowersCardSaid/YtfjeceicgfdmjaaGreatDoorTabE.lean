/-
  Tables: which are valid, who is in them, what is found.
-/
import Derived.Test.YtfjeceicgfdmjaaGreatDoorQueT
namespace Go.Proofs.YtfjeceicgfdmjaaGreatDoor
namespace Ab
set_option linter.unusedVariables false
set_option linter.unusedSimpArgs false
theorem zbr7 : ∀ {x y z : List UInt8}, Op.bytesLess x y = true → Op.bytesLess y z = true → Op.bytesLess x z = true
 | x, [], z, h1, _ => by cases x <;> simp [Op.bytesLess] at h1
 | x, b :: y, [], _, h2 => by simp [Op.bytesLess] at h2
 | [], b :: y, c :: z, _, _ => by simp [Op.bytesLess]
 | a :: x, b :: y, c :: z, h1, h2 => by
  simp only [Op.bytesLess, Bool.or_eq_true, Bool.and_eq_true, decide_eq_true_eq, beq_iff_eq] at h1 h2 ⊢
  rcases h1 with h1 | ⟨rfl, h1⟩
  ·rcases h2 with h2 | ⟨rfl, h2⟩
   ·exact .inl (UInt8.lt_trans h1 h2)
   ·exact .inl h1
  ·rcases h2 with h2 | ⟨rfl, h2⟩
   ·exact .inl h2
   ·exact .inr ⟨rfl, zbr7 h1 h2⟩
def ltN (a b : ByteArray) : Prop := Op.bytesLess a.toList b.toList = true
instance (a b : ByteArray) : Decidable (ltN a b) := by unfold ltN; infer_instance
theorem zbg6 {a b c : ByteArray} (h : ltN a b) (k : ltN b c) : ltN a c := zbr7 h k
def AscN (t : List Queue) : Prop := t.Pairwise fun a b => ltN a.resource.name b.resource.name
def ascW : List Queue → Option ByteArray → Bool
 | [], _ => true
 | q :: t, pv => zd8 q && ((match pv with | none => true | some n => decide (ltN n q.resource.name)) && ascW t (some q.resource.name))
theorem zaZ3 : ∀ (t : List Queue) (pv : Option ByteArray), ascW t pv = true ↔ (∀ q ∈ t, zd8 q = true) ∧ AscN t ∧ ∀ n, pv = some n → ∀ q ∈ t, ltN n q.resource.name
 | [], pv => by
  simp only [ascW, List.not_mem_nil, false_implies, implies_true, and_true, true_and, true_iff]
  exact .nil
 | q :: t, pv => by
  simp only [ascW, Bool.and_eq_true]
  rw [zaZ3 t (some q.resource.name)]
  constructor
  ·rintro ⟨h1, h2, h3, h4, h5⟩
   refine ⟨fun x hx => ?_, List.pairwise_cons.2 ⟨fun x hx => h5 _ rfl x hx, h4⟩, fun n hn x hx => ?_⟩
   ·rcases List.mem_cons.1 hx with rfl | hx
    ·exact h1
    ·exact h3 x hx
   ·subst hn
    simp only [decide_eq_true_eq] at h2
    rcases List.mem_cons.1 hx with rfl | hx
    ·exact h2
    ·exact zbg6 h2 (h5 _ rfl x hx)
  ·rintro ⟨h1, h2, h3⟩
   have h2' := List.pairwise_cons.1 h2
   refine ⟨h1 q (.head _), ?_, fun x hx => h1 x (.tail _ hx), h2'.2, fun n hn x hx => by cases hn; exact h2'.1 x hx⟩
   cases pv with
   | none => rfl
   | some n => exact decide_eq_true (h3 n rfl q (.head _))
def zaA1 (t : List Queue) : Bool := decide (t.length ≤ 8) && ascW t none
def zE6 (t : List Queue) : List Proc := zax7 (t.flatMap zQ2)
def zQ3 (t : List Queue) : Bool := zaA1 t && decide ((zE6 t).length ≤ 8)
structure ValidT (t : List Queue) : Prop where
 len : t.length ≤ 8
 each : ∀ q ∈ t, zd8 q = true
 asc : AscN t
 procs : (zE6 t).length ≤ 8
theorem zaZ4 (t : List Queue) : zaA1 t = true ↔ t.length ≤ 8 ∧ (∀ q ∈ t, zd8 q = true) ∧ AscN t := by
 unfold zaA1
 rw [Bool.and_eq_true, decide_eq_true_eq, zaZ3]
 simp
theorem zQ4 (t : List Queue) : zQ3 t = true ↔ ValidT t := by
 unfold zQ3
 rw [Bool.and_eq_true, decide_eq_true_eq, zaZ4]
 exact ⟨fun ⟨⟨h1, h2, h3⟩, h4⟩ => ⟨h1, h2, h3, h4⟩, fun ⟨h1, h2, h3, h4⟩ => ⟨⟨h1, h2, h3⟩, h4⟩⟩
theorem zbg7 {α : Type} (prev t : List α) (z : α) (h : prev ≠ []) : (prev ++ t).getD (prev.length - 1) z = prev.getLast h := by
 have hp : 0 < prev.length := List.length_pos_iff.2 h
 rw [List.getD_eq_getElem?_getD, List.getElem?_append_left (by omega), List.getElem?_eq_getElem (by omega), List.getLast_eq_getElem]; rfl
theorem zbv1 (t0 : List Queue) : ∀ (t prev : List Queue), t0 = prev ++ t →
  walk (fun i q (_ : Unit) => some (if zd8 q = true ∧ (i = 0 ∨ ltN (t0.getD (i - 1) Queue.zero).resource.name q.resource.name) then Sum.inl () else Sum.inr (Sum.inr (α := Unit) false))) (fun _ => Sum.inl (β := Bool) ()) t prev.length () =
   some (if ascW t (prev.getLast?.map (·.resource.name)) = true then .inl () else .inr false) := by
 intro t
 induction t with
 | nil => intro prev _; simp [walk, ascW]
 | cons q t ih =>
  intro prev ht
  simp only [walk]
  have hq : (prev.length = 0 ∨ ltN (t0.getD (prev.length - 1) Queue.zero).resource.name q.resource.name) ↔ (match prev.getLast?.map (·.resource.name) with | none => true | some n => decide (ltN n q.resource.name)) = true := by
   by_cases hp : prev = []
   ·subst hp; simp
   ·have h1 := zbg7 prev (q :: t) Queue.zero hp
    rw [ht, h1, List.getLast?_eq_some_getLast hp]
    have : prev.length ≠ 0 := fun e => hp (List.eq_nil_of_length_eq_zero e)
    simp [this]
  by_cases e : zd8 q = true ∧ (prev.length = 0 ∨ ltN (t0.getD (prev.length - 1) Queue.zero).resource.name q.resource.name)
  ·rw [if_pos e]
   have := ih (prev ++ [q]) (by rw [ht]; simp)
   rw [show (prev ++ [q]).length = prev.length + 1 by simp] at this
   simp only
   have h2 : ascW (q :: t) (prev.getLast?.map (·.resource.name)) = ascW t (some q.resource.name) := by simp only [ascW, e.1, hq.1 e.2, Bool.true_and]
   rw [this, h2]
   simp
  ·rw [if_neg e]
   rw [hq] at e
   have hf : ascW (q :: t) (prev.getLast?.map (·.resource.name)) = false := by
    rw [Bool.eq_false_iff]
    intro hh
    simp only [ascW, Bool.and_eq_true] at hh
    exact e ⟨hh.1, hh.2.1⟩
   rw [hf]; rfl
theorem zaZ5 {body : Int → Option (Int ⊕ (Unit ⊕ Bool))} (t : List Queue) (hl : t.length ≤ 8)
  (hb : ∀ i : Nat, i < t.length → body (i : Int) = some (if zd8 (t.getD i Queue.zero) = true ∧ (i = 0 ∨ ltN (t.getD (i - 1) Queue.zero).resource.name (t.getD i Queue.zero).resource.name) then .inl ((i + 1 : Nat) : Int) else .inr (.inr false)))
  (he : body (t.length : Int) = some (.inr (.inl ()))) : zc1 body 0 = some (if ascW t none = true then .inl () else .inr false) := by
 have key := zad2 (body := body) t Queue.zero (fun i (_ : Unit) => (i : Int)) (fun i q _ => some (if zd8 q = true ∧ (i = 0 ∨ ltN (t.getD (i - 1) Queue.zero).resource.name q.resource.name) then Sum.inl () else Sum.inr (Sum.inr (α := Unit) false))) (fun _ => Sum.inl (β := Bool) ())
  (fun i s hi => by
   rw [hb i hi, Option.map_some]
   split <;> rfl) (fun s => he) ()
 have := zbv1 t t [] rfl
 rw [show (0 : Int) = (fun (i : Nat) (_ : Unit) => (i : Int)) 0 () from rfl, key]
 exact this
theorem zbl2 (t : List Queue) (h : ∀ q ∈ t, zd8 q = true) : (t.flatMap zQ2).length ≤ 24 * t.length := by
 induction t with
 | nil => simp
 | cons q t ih =>
  have h1 := zO1 (h q (.head _))
  have h2 := zbB7 (q.holds.map (·.proc) ++ (ordQ q).map (·.proc))
  have h3 := ih fun x hx => h x (.tail _ hx)
  have h4 : (zQ2 q).length ≤ 24 := by
   unfold zQ2
   unfold ordQ at *
   simp only [List.length_append, List.length_map] at h2
   omega
  rw [List.flatMap_cons, List.length_append, List.length_cons]; omega
theorem zaE0 {α β X : Type} (f : α → List β) (fin : List β → X) : ∀ (l : List α) (i : Nat) (s : List β), walk (fun _ a s => some (.inl (s ++ f a))) fin l i s = some (fin (s ++ l.flatMap f))
 | [], i, s => by simp [walk]
 | a :: l, i, s => by
  simp only [walk, List.flatMap_cons]
  rw [zaE0 f fin l (i + 1), List.append_assoc]
theorem zae1 {α : Type} {l : List α} {i : Nat} {z : α} (h : i < l.length) : l.getD i z ∈ l := by
 rw [List.getD_eq_getElem?_getD, List.getElem?_eq_getElem h]; exact List.getElem_mem h
theorem zbg8 {q : Queue} (h : zd8 q = true) : (zQ2 q).length ≤ 24 := by
 have := zbl2 [q] fun x hx => by rw [List.mem_singleton] at hx; rw [hx]; exact h
 simpa using this
theorem zas8 {t : List Queue} (hl : t.length ≤ 8) (h : ∀ q ∈ t, zd8 q = true) : zl2 t = some (zE6 t) := by
 unfold zl2
 have key := zv0 (body := zD9 t) t Queue.zero (fun i (s : List Proc) => ((i : Int), s)) (fun _ q s => some (.inl (s ++ zQ2 q))) (fun s => s) (fun i s => s.length ≤ 24 * i)
  (fun i s hi hs => by
   have hq := h _ (zae1 (z := Queue.zero) hi)
   have hql := zO1 hq
   have hpl := zbg8 hq
   refine ⟨?_, fun s' h => ?_⟩
   ·unfold zD9
    have h3 : 0 ≤ (i : Int) ∧ (i : Int) < (t.length : Int) := by omega
    simp only [h3.1, h3.2, and_self, zm2, decide_true, if_true, Int.toNat_natCast]
    rw [zaY6 _ (by omega) (by omega) (by omega), Option.bind_some, zb2 (by omega), ze3 i (by omega)]
    rfl
   ·simp only [Option.some.injEq, Sum.inl.injEq] at h; subst h; rw [List.length_append]; omega)
  (fun s hs => by unfold zD9; simp) [] (by simp)
 rw [show ((0, []) : Int × List Proc) = (fun (i : Nat) (s : List Proc) => ((i : Int), s)) 0 [] from rfl, key, zaE0 zQ2, List.nil_append, Option.bind_some]
 unfold zL9
 have := zbl2 t h
 rw [zae0 _ (by omega)]; rfl
theorem zas9 (t : List Queue) : zj5 t = some (zQ3 t) := by
 unfold zj5 zQ3 zaA1
 by_cases h8 : 8 < t.length
 ·have : ¬ t.length ≤ 8 := by omega
  rw [if_pos (by simp; omega)]
  simp [this]
 ·have hl : t.length ≤ 8 := by omega
  rw [if_neg (by simp; omega), zaZ5 t hl (fun i hi => by
   unfold zM1
   have h3 : 0 ≤ (i : Int) ∧ (i : Int) < (t.length : Int) := by omega
   simp only [h3.1, h3.2, and_self, zm2, decide_true, if_true, Int.toNat_natCast, zT6, Option.bind_some, ze3 i (by omega)]
   by_cases e0 : i = 0
   ·subst e0
    rw [zb2 (by simp)]
    cases zd8 (t.getD 0 Queue.zero) <;> simp
   ·rw [zaa7 i (by omega) (by omega), zb2 (by intro _; omega)]
    simp only [Int.toNat_natCast, show (0 : Int) < (i : Int) by omega, decide_true, Bool.true_and, e0, false_or]
    unfold ltN
    rcases hb (zd8 (t.getD i Queue.zero)) with b1 | b1 <;> rcases hb (Op.bytesLess (t.getD (i - 1) Queue.zero).resource.name.toList (t.getD i Queue.zero).resource.name.toList) with b2 | b2 <;> simp [b1, b2, -List.getD_eq_getElem?_getD]) (by unfold zM1; simp)]
  simp only [hl, decide_true, Bool.true_and]
  cases hw : ascW t none with
  | false => rfl
  | true =>
   simp only [if_true, Option.bind_some, Bool.true_and]
   unfold zM0
   rw [zas8 hl ((zaZ3 t none).1 hw).1, Option.bind_some]
   congr 1
   rw [Bool.eq_iff_iff]; simp; omega
theorem zbg9 {α : Type} (l : List α) (z : α) (p : α → Bool) {body : Int → Option (Int ⊕ (Unit ⊕ Int))} (hb : ∀ i : Nat, i < l.length → body (i : Int) = some (if p (l.getD i z) = true then .inr (.inr (i : Int)) else .inl ((i + 1 : Nat) : Int)))
  (he : body (l.length : Int) = some (.inr (.inl ()))) : zc1 body 0 = some (match l.findIdx? p with | some i => .inr (i : Int) | none => .inl ()) := by
 have key := zad2 (body := body) l z (fun i (_ : Unit) => (i : Int)) (fun i a _ => some (if p a = true then .inr (Sum.inr (α := Unit) (i : Int)) else .inl ())) (fun _ => Sum.inl (β := Int) ())
  (fun i s hi => by rw [hb i hi, Option.map_some]; split <;> rfl) (fun s => he) ()
 have fold : ∀ (l : List α) (i : Nat), walk (fun i a (_ : Unit) => some (if p a = true then .inr (Sum.inr (α := Unit) (i : Int)) else .inl ())) (fun _ => Sum.inl (β := Int) ()) l i () = some (match l.findIdx? p with | some j => .inr ((i + j : Nat) : Int) | none => .inl ()) := by
  intro l
  induction l with
  | nil => intro i; rfl
  | cons a l ih =>
   intro i
   simp only [walk, List.findIdx?_cons]
   by_cases hp : p a = true
   ·simp [hp]
   ·simp only [hp, Bool.false_eq_true, if_false]
    rw [ih (i + 1)]
    cases l.findIdx? p with
    | none => rfl
    | some j => simp only [Option.map_some]; rw [show i + 1 + j = i + (j + 1) by omega]
 have := fold l 0
 simp only [Nat.zero_add] at this
 rw [show (0 : Int) = (fun (i : Nat) (_ : Unit) => (i : Int)) 0 () from rfl, key]
 exact this
def isN (nm : ByteArray) (q : Queue) : Bool := q.resource.name.toList == nm.toList
theorem zbX2 {nm : ByteArray} {q : Queue} : isN nm q = true ↔ q.resource.name = nm := by
 unfold isN; rw [beq_iff_eq]; exact zQ9
def zl8 (t : List Queue) (nm : ByteArray) : Int := match t.findIdx? (isN nm) with
 | some i => i
 | none => -1
theorem zax8 (t : List Queue) (nm : ByteArray) (hl : t.length ≤ 1000000) : zp6 t nm = some (zl8 t nm) := by
 unfold zp6
 rw [zbg9 t Queue.zero (isN nm) (fun i hi => by
  unfold zP1 isN
  have h3 : 0 ≤ (i : Int) ∧ (i : Int) < (t.length : Int) := by omega
  simp only [h3.1, h3.2, and_self, zm2, decide_true, if_true, Int.toNat_natCast, ze3 i (by omega)]
  split <;> rfl) (by unfold zP1; simp)]
 unfold zl8
 cases t.findIdx? (isN nm) <;> rfl
theorem zbT2 {t : List Queue} {nm : ByteArray} : zl8 t nm = -1 ∨ ∃ i : Nat, zl8 t nm = i ∧ i < t.length ∧ (t.getD i Queue.zero).resource.name = nm := by
 unfold zl8
 cases h : t.findIdx? (isN nm) with
 | none => exact .inl rfl
 | some i =>
  right
  obtain ⟨h1, h2, _⟩ := List.findIdx?_eq_some_iff_getElem.1 h
  refine ⟨i, rfl, h1, ?_⟩
  rw [List.getD_eq_getElem?_getD, List.getElem?_eq_getElem h1]
  exact zbX2.1 h2
end Ab
end Go.Proofs.YtfjeceicgfdmjaaGreatDoor
namespace Go.Proofs.YtfjeceicgfdmjaaGreatDoor
namespace Ab
set_option linter.unusedVariables false
set_option linter.unusedSimpArgs false
theorem zaJ6 (x : Proc) (s : List Proc) (hs : s.Pairwise ltP) (hx : x ∉ s) (hl : s.length ≤ 1000000) : zc1 (zx7) ((s.length : Int), s ++ [x]) = some (zY2 x s) := by
 obtain ⟨r, h1, h2⟩ := zar5 (body := zx7) (fun g => ∃ pre post : List Proc, g = ((pre.length : Int), pre ++ x :: post) ∧ pre ++ post = s ∧ ∀ y ∈ post, ltP x y) (fun g => g.1.toNat) (fun r => r = zY2 x s) (by
  rintro g ⟨pre, post, rfl, hp, hpost⟩
  have hpl : pre.length + post.length = s.length := by rw [← hp, List.length_append]
  unfold zx7
  simp only [List.length_append, List.length_cons]
  by_cases h0 : pre = []
  ·right
   subst h0
   refine ⟨_, by rw [zb2 (by simp), zb2 (by simp), if_neg (by simp)], ?_⟩
   simp only [List.nil_append] at hp ⊢
   subst hp
   refine zad9 (List.pairwise_cons.2 ⟨hpost, hs⟩) (zW2 hs) fun y => ?_
   rw [zW1, List.mem_cons]
  ·obtain ⟨pre', y, rfl⟩ : ∃ p' y, pre = p' ++ [y] := ⟨pre.dropLast, pre.getLast h0, (List.dropLast_concat_getLast h0).symm⟩
   have hk : (pre' ++ [y]).length = pre'.length + 1 := by simp
   rw [hk] at hpl ⊢
   have w : IntKind.i64.wrap (((pre'.length + 1 : Nat) : Int) - 1) = (pre'.length : Int) := by rw [zf1 (by omega) (by omega)]; omega
   have e1 : (pre' ++ [y] ++ x :: post).getD pre'.length Proc.zero = y := by simp [List.getD_eq_getElem?_getD]
   have e2 : (pre' ++ [y] ++ x :: post).getD (pre'.length + 1) Proc.zero = x := by simp [List.getD_eq_getElem?_getD]
   have g1 : 0 ≤ (pre'.length : Int) ∧ (pre'.length : Int) < ((pre'.length + 1 + (post.length + 1) : Nat) : Int) := by omega
   have g2 : 0 ≤ ((pre'.length + 1 : Nat) : Int) ∧ ((pre'.length + 1 : Nat) : Int) < ((pre'.length + 1 + (post.length + 1) : Nat) : Int) := by omega
   have hpos : decide (0 < ((pre'.length + 1 : Nat) : Int)) = true := decide_eq_true (by omega)
   simp only [w, Int.toNat_natCast, e1, e2, hpos, Bool.true_and]
   rw [zb2 (fun _ => g1), zb2 (fun _ => g2)]
   have hlt : decide (0 < zk2 y x) = decide (ltP x y) := by rw [decide_eq_decide]; exact zaW8 y x
   rw [hlt]
   by_cases hxy : ltP x y
   ·left
    rw [if_pos (decide_eq_true hxy), zb2 g1, zb2 g2, zb2 g1, zb2 g2]
    refine ⟨((pre'.length : Int), pre' ++ x :: (y :: post)), ?_, ⟨pre', y :: post, rfl, by rw [← hp]; simp, fun z hz => ?_⟩, by simp only [Int.toNat_natCast]; omega⟩
    ·congr 3
     rw [List.append_assoc, List.set_append_right _ _ (Nat.le_refl _), Nat.sub_self, List.set_append_right _ _ (by omega), show pre'.length + 1 - pre'.length = 1 by omega]
     rfl
    ·rcases List.mem_cons.1 hz with rfl | hz
     ·exact hxy
     ·exact hpost z hz
   ·right
    refine ⟨_, by rw [if_neg (by simpa using hxy)], ?_⟩
    have hyx : ltP y x := by
     rcases zV8 (p := x) (q := y) (fun e => hx (by rw [← hp, e]; simp)) with h | h
     ·exact absurd h hxy
     ·exact h
    rw [← hp] at hs
    obtain ⟨a1, a2, a3⟩ := List.pairwise_append.1 hs
    obtain ⟨b1, b2, b3⟩ := List.pairwise_append.1 a1
    have hpre : ∀ z ∈ pre' ++ [y], ltP z x := fun z hz => by
     rcases List.mem_append.1 hz with hz | hz
     ·exact zaa8 (b3 z hz y (by simp)) hyx
     ·rw [List.mem_singleton] at hz; rw [hz]; exact hyx
    rw [← hp]
    refine zad9 (List.pairwise_append.2 ⟨a1, List.pairwise_cons.2 ⟨hpost, a2⟩, fun z hz u hu => ?_⟩) (zW2 hs) fun z => ?_
    ·rcases List.mem_cons.1 hu with rfl | hu
     ·exact hpre z hz
     ·exact a3 z hz u hu
    ·rw [zW1]
     simp only [List.mem_append, List.mem_cons, List.mem_singleton]
     constructor
     ·rintro ((h | h) | h | h)
      ·exact .inr (.inl (.inl h))
      ·exact .inr (.inl (.inr h))
      ·exact .inl h
      ·exact .inr (.inr h)
     ·rintro (h | (h | h) | h)
      ·exact .inr (.inl h)
      ·exact .inl (.inl h)
      ·exact .inl (.inr h)
      ·exact .inr (.inr h)) ((s.length : Int), s ++ [x]) ⟨s, [], by simp, by simp, by simp⟩
 rw [h1, h2]
theorem zae2 (l : List Proc) (hl : l.length ≤ 1000000) : zh2 l = some (zax7 l) := by
 unfold zh2
 have key := zv0 (body := zx8 l) l Proc.zero (fun i (s : List Proc) => ((i : Int), s)) (fun _ p s => some (.inl (zY2 p s))) (fun s => s) (fun i s => s.Pairwise ltP ∧ s.length ≤ i)
  (fun i s hi hs => by
   have hlen : ∀ p, (zY2 p s).length ≤ s.length + 1 := fun p => by
    have := List.Nodup.length_le_of_subset (zaJ1 (zW2 (p := p) hs.1)) (l₂ := p :: s) fun z hz => by
     rcases zW1.1 hz with rfl | h
     ·exact .head _
     ·exact .tail _ h
    simpa using this
   refine ⟨?_, fun s' h => ?_⟩
   ·unfold zx8
    have h3 : 0 ≤ (i : Int) ∧ (i : Int) < (l.length : Int) := by omega
    simp only [h3.1, h3.2, and_self, zm2, decide_true, if_true, Int.toNat_natCast]
    rw [zak3 _ _ (by omega), Option.bind_some, ze3 i (by omega)]
    by_cases hm : l.getD i Proc.zero ∈ s
    ·rw [if_pos (decide_eq_true hm), Option.map_some, zbu6 hs.1 hm]; rfl
    ·rw [if_neg (by rw [decide_eq_true_eq]; exact hm), zb2 (by omega), zaJ6 _ _ hs.1 hm (by omega), Option.bind_some]
     unfold zC1
     simp only [ze3 i (show i < 4611686018427387904 by omega), Option.map_some, wmap]
   ·simp only [Option.some.injEq, Sum.inl.injEq] at h; subst h
    exact ⟨zW2 hs.1, by have := hlen (l.getD i Proc.zero); omega⟩)
  (fun s hs => by unfold zx8; simp) [] ⟨.nil, by simp⟩
 rw [show ((0, []) : Int × List Proc) = (fun (i : Nat) (s : List Proc) => ((i : Int), s)) 0 [] from rfl, key, zaY1 (fun s p => zY2 p s)]
 rfl
theorem zae3 {α β : Type} (l : List α) (z : α) (f : α → β) (s0 : List β) {body : Int × List β → Option ((Int × List β) ⊕ List β)} (hl : l.length ≤ 1000000) (h0 : s0.length ≤ 1000000)
  (hb : ∀ (i : Nat) (s : List β), i < l.length → s.length ≤ 3000000 → body ((i : Int), s) = some (.inl (((i + 1 : Nat) : Int), s ++ [f (l.getD i z)]))) (he : ∀ s, body ((l.length : Int), s) = some (.inr s)) : zc1 body (0, s0) = some (s0 ++ l.map f) := by
 have key := zv0 (body := body) l z (fun i (s : List β) => ((i : Int), s)) (fun i a s => some (.inl (zaj4 s (some (f a))))) (fun s => s) (fun i s => s.length ≤ 1000000 + i)
  (fun i s hi hs => ⟨by rw [hb i s hi (by omega)]; rfl, fun s' h => by simp only [Option.some.injEq, Sum.inl.injEq] at h; subst h; simp [zaj4]; omega⟩) (fun s hs => he s) s0 (by omega)
 rw [show ((0, s0) : Int × List β) = (fun (i : Nat) (s : List β) => ((i : Int), s)) 0 s0 from rfl, key, zaj5 (fun a => some (f a))]
 simp
theorem zaJ7 (l : List Hold) (hl : l.length ≤ 1000000) : zm4 l = some (l.map (·.proc)) := by
 unfold zm4
 rw [zae3 l Hold.zero (·.proc) [] hl (by simp) (fun i s hi hs => by
  unfold zG2
  have h3 : 0 ≤ (i : Int) ∧ (i : Int) < (l.length : Int) := by omega
  have h1 : s.length + 1 ≤ 4294967296 := by omega
  simp only [h1, h3.1, h3.2, and_self, zm2, decide_true, if_true, Int.toNat_natCast, ze3 i (show i < 4611686018427387904 by omega)]) (fun s => by unfold zG2; simp)]
 rfl
theorem zaZ6 (q : Queue) (h1 : q.converts.length ≤ 1000) (h2 : q.waits.length ≤ 1000) : zr3 q = some ((ordQ q).map (·.proc)) := by
 unfold zr3
 rw [zae3 q.converts Wait.zero (·.proc) [] (by omega) (by simp) (fun i s hi hs => by
  unfold zN3
  have h3 : 0 ≤ (i : Int) ∧ (i : Int) < (q.converts.length : Int) := by omega
  have h1 : s.length + 1 ≤ 4294967296 := by omega
  simp only [h1, h3.1, h3.2, and_self, zm2, decide_true, if_true, Int.toNat_natCast, ze3 i (show i < 4611686018427387904 by omega)]) (fun s => by unfold zN3; simp), Option.bind_some]
 unfold zN2
 rw [zae3 q.waits Wait.zero (·.proc) _ (by omega) (by simp; omega) (fun i s hi hs => by
  unfold zN1
  have h3 : 0 ≤ (i : Int) ∧ (i : Int) < (q.waits.length : Int) := by omega
  have h1 : s.length + 1 ≤ 4294967296 := by omega
  simp only [h1, h3.1, h3.2, and_self, zm2, decide_true, if_true, Int.toNat_natCast, ze3 i (show i < 4611686018427387904 by omega)]) (fun s => by unfold zN1; simp), Option.bind_some]
 unfold zN0 ordQ
 rw [List.map_append, List.nil_append]
theorem zaZ7 (q : Queue) (h0 : q.holds.length ≤ 1000) (h1 : q.converts.length ≤ 1000) (h2 : q.waits.length ≤ 1000) : zr4 q = some (zQ2 q) := by
 unfold zr4 zQ2
 have hl : (ordQ q).length ≤ 2000 := by unfold ordQ; rw [List.length_append]; omega
 rw [zaJ7 _ (by omega), Option.bind_some, zaZ6 q h1 h2, Option.bind_some, zb2 (by simp; omega), zae2 _ (by simp; omega)]
 rfl
theorem zat0 {t : List Queue} (hl : t.length ≤ 8) (h : ∀ q ∈ t, zd8 q = true) : zo8 t = some (zE6 t) := by
 unfold zo8
 have key := zv0 (body := zE4 t) t Queue.zero (fun i (s : List Proc) => ((i : Int), s)) (fun _ q s => some (.inl (s ++ zQ2 q))) (fun s => s) (fun i s => s.length ≤ 24 * i)
  (fun i s hi hs => by
   have hq := h _ (zae1 (z := Queue.zero) hi)
   have hql := zO1 hq
   have hpl := zbg8 hq
   refine ⟨?_, fun s' h => ?_⟩
   ·unfold zE4
    have h3 : 0 ≤ (i : Int) ∧ (i : Int) < (t.length : Int) := by omega
    simp only [h3.1, h3.2, and_self, zm2, decide_true, if_true, Int.toNat_natCast]
    rw [zaZ7 _ (by omega) (by omega) (by omega), Option.bind_some, zb2 (by omega), ze3 i (by omega)]
    rfl
   ·simp only [Option.some.injEq, Sum.inl.injEq] at h; subst h; rw [List.length_append]; omega)
  (fun s hs => by unfold zE4; simp) [] (by simp)
 rw [show ((0, []) : Int × List Proc) = (fun (i : Nat) (s : List Proc) => ((i : Int), s)) 0 [] from rfl, key, zaE0 zQ2, List.nil_append, Option.bind_some]
 unfold zN4
 have := zbl2 t h
 rw [zae2 _ (by omega)]; rfl
theorem zaZ8 (t : List Queue) : zr2 t = some (zaA1 t) := by
 unfold zr2 zaA1
 by_cases h8 : 8 < t.length
 ·have : ¬ t.length ≤ 8 := by omega
  rw [if_pos (by simp; omega)]
  simp [this]
 ·have hl : t.length ≤ 8 := by omega
  rw [if_neg (by simp; omega), zaZ5 t hl (fun i hi => by
   unfold zM9
   have h3 : 0 ≤ (i : Int) ∧ (i : Int) < (t.length : Int) := by omega
   simp only [h3.1, h3.2, and_self, implies_true, zm2, decide_true, if_true, Int.toNat_natCast, zT7, Option.bind_some, ze3 i (by omega)]
   by_cases e0 : i = 0
   ·subst e0
    rw [zb2 (by simp)]
    cases zd8 (t.getD 0 Queue.zero) <;> simp
   ·rw [zaa7 i (by omega) (by omega), zb2 (by intro _; omega)]
    simp only [Int.toNat_natCast, show (0 : Int) < (i : Int) by omega, decide_true, Bool.true_and, e0, false_or]
    unfold ltN
    rcases hb (zd8 (t.getD i Queue.zero)) with b1 | b1 <;> rcases hb (Op.bytesLess (t.getD (i - 1) Queue.zero).resource.name.toList (t.getD i Queue.zero).resource.name.toList) with b2 | b2 <;> simp [b1, b2, -List.getD_eq_getElem?_getD]) (by unfold zM9; simp)]
  simp only [hl, decide_true, Bool.true_and]
  cases hw : ascW t none <;> rfl
theorem zae4 (t : List Queue) : zl5 t = some (zQ3 t) := by
 unfold zl5 zQ3
 rw [zaZ8, Option.bind_some]
 cases hp : zaA1 t with
 | false => rfl
 | true =>
  obtain ⟨h1, h2, _⟩ := (zaZ4 t).1 hp
  rw [if_pos rfl, zat0 h1 h2, Option.bind_some, Bool.true_and]
  congr 1
  rw [Bool.eq_iff_iff]; simp; omega
theorem zah9 (t : List Queue) (nm : ByteArray) (hl : t.length ≤ 1000000) : zs3 t nm = some (zl8 t nm) := by
 unfold zs3
 rw [zbg9 t Queue.zero (isN nm) (fun i hi => by
  unfold zP3 isN
  have h3 : 0 ≤ (i : Int) ∧ (i : Int) < (t.length : Int) := by omega
  simp only [h3.1, h3.2, and_self, zm2, decide_true, if_true, Int.toNat_natCast, ze3 i (by omega)]
  split <;> rfl) (by unfold zP3; simp)]
 unfold zl8
 cases t.findIdx? (isN nm) <;> rfl
theorem zbv2 (a b : List Queue) (h : a.length = b.length) (hl : a.length ≤ 1000000) (hs : ∀ q ∈ a, q.holds.length ≤ 1000 ∧ q.converts.length ≤ 1000 ∧ q.waits.length ≤ 1000) :
  zc1 (zB8 a b) 0 = some (if a = b then .inl () else .inr false) := by
 have key : zc1 (zB8 a b) 0 = some ((zs7 (fun i => if decide (a.getD i Queue.zero = b.getD i Queue.zero) = true then none else some (Sum.inr false)) a.length 0).getD (Sum.inl ())) := by
  refine zu8 a.length _ (Sum.inl ()) (fun i hi => ?_) ?_
  ·have hq := hs _ (zae1 (z := Queue.zero) hi)
   unfold zB8
   rw [if_pos (by simpa using hi), zb2 (by omega), zb2 (by omega), zf1 (by omega) (by omega)]
   simp only [Int.toNat_natCast]
   rw [zbc3 _ _ (by omega) (by omega) (by omega), Option.bind_some]
   by_cases hx : a.getD i Queue.zero = b.getD i Queue.zero
   ·simp only [hx, decide_true, Bool.not_true, Bool.false_eq_true, if_false, if_true]
   ·simp only [hx, decide_false, Bool.not_false, if_true, Bool.false_eq_true, if_false]
  ·unfold zB8
   rw [if_neg (by simp)]
 rw [key, zB4, ← List.range_eq_range', zbR6 a b Queue.zero h]
 by_cases e : a = b <;> simp [e]
theorem zax9 (a b : List Queue) (hl : a.length ≤ 1000000) (hs : ∀ q ∈ a, q.holds.length ≤ 1000 ∧ q.converts.length ≤ 1000 ∧ q.waits.length ≤ 1000) : zs2 a b = some (decide (a = b)) := by
 unfold zs2
 by_cases h : a.length = b.length
 ·rw [if_neg (by simp [h]), zbv2 a b h hl hs]
  by_cases e : a = b <;> simp [e, zP2]
 ·have : ¬ a = b := fun e => h (by rw [e])
  rw [if_pos (by simp; omega), decide_eq_false this]
theorem zbc8 (a b : List Event) (ha : a.length ≤ 1000000) : zj8 a b = some (decide (a = b)) := by
 unfold zj8
 by_cases h : a.length = b.length
 ·rw [if_neg (by simp [h])]
  exact zaH7 a b Event.zero (by omega) h (fun i => rfl)
 ·have : ¬ a = b := fun e => h (by rw [e])
  rw [if_pos (by simp; omega), decide_eq_false this]
end Ab
end Go.Proofs.YtfjeceicgfdmjaaGreatDoor
namespace Go.Proofs.YtfjeceicgfdmjaaGreatDoor
namespace Ab
set_option linter.unusedVariables false
set_option linter.unusedSimpArgs false
def zbl3 (nm : ByteArray) (h : Hold) : Event := ⟨1, h.proc, nm, h.amount⟩
def zaa4 (nm : ByteArray) (l : List Hold) : List Event := l.map (zbl3 nm)
def zeG5 (p : Proc) (nm : ByteArray) (a : Amount) : Event := ⟨3, p, nm, a⟩
theorem zby2 (nm : ByteArray) (l : List Hold) (hl : l.length ≤ 1000000) : zk7 nm l = some (zaa4 nm l) := by
 unfold zk7
 rw [zae3 l Hold.zero (zbl3 nm) [] hl (by simp) (fun i s hi hs => by
  unfold zI0
  have h3 : 0 ≤ (i : Int) ∧ (i : Int) < (l.length : Int) := by omega
  have h1 : s.length + 1 ≤ 4294967296 := by omega
  simp only [h1, h3.1, h3.2, and_self, zm2, decide_true, if_true, Int.toNat_natCast, ze3 i (show i < 4611686018427387904 by omega)]
  rfl) (fun s => by unfold zI0; simp)]
 rfl
theorem zbT3 (nm : ByteArray) (l : List Hold) (ev : List Event) (hl : l.length ≤ 1000000) (he : ev.length ≤ 1000000) : zv1 nm l ev = some (ev ++ zaa4 nm l) := by
 unfold zv1
 rw [zae3 l Hold.zero (zbl3 nm) ev hl he (fun i s hi hs => by
  unfold zQ0
  have h3 : 0 ≤ (i : Int) ∧ (i : Int) < (l.length : Int) := by omega
  have h1 : s.length + 1 ≤ 4294967296 := by omega
  simp only [h1, h3.1, h3.2, and_self, zm2, decide_true, if_true, Int.toNat_natCast, ze3 i (show i < 4611686018427387904 by omega)]
  rfl) (fun s => by unfold zQ0; simp)]
 rfl
theorem zbT4 (nm : ByteArray) (l : List Hold) (ev : List Event) (hl : l.length ≤ 1000000) (he : ev.length ≤ 1000000) : zs5 nm l ev = some (ev ++ zaa4 nm l) := by
 have e : zs5 nm l ev = zv1 nm l ev := rfl
 rw [e]; exact zbT3 nm l ev hl he
theorem zai0 (nm : ByteArray) (l : List Hold) (hl : l.length ≤ 1000000) : zh6 nm l = some (zaa4 nm l) := by
 unfold zh6
 rw [zae3 l Hold.zero (zbl3 nm) [] hl (by simp) (fun i s hi hs => by
  unfold zI4
  have h3 : 0 ≤ (i : Int) ∧ (i : Int) < (l.length : Int) := by omega
  have h1 : s.length + 1 ≤ 4294967296 := by omega
  simp only [h1, h3.1, h3.2, and_self, implies_true, zm2, decide_true, if_true, Int.toNat_natCast, ze3 i (show i < 4611686018427387904 by omega)]
  rfl) (fun s => by unfold zI4; simp)]
 rfl
def zay0 (t : List Queue) (i : Int) (q : Queue) : List Queue := if 0 ≤ i then t.set i.toNat q else t
def Lens (t : List Queue) : Prop := ∀ q ∈ t, q.holds.length ≤ 1000 ∧ q.converts.length ≤ 1000 ∧ q.waits.length ≤ 1000
theorem zbl4 (t : List Queue) (hl : t.length ≤ 1000) (hs : Lens t) : zc1 (zA9 t) (0, List.replicate t.length Queue.zero) = some t := by
 obtain ⟨x, hx, hp⟩ := zar5 (body := zA9 t) (fun g => ∃ i : Nat, i ≤ t.length ∧ g.1 = (i : Int) ∧ g.2.length = t.length ∧ g.2.take i = t.take i) (fun g => t.length - g.1.toNat) (fun x => x = t) (by
  rintro ⟨gi, s⟩ ⟨i, hi, h1, h2, h3⟩
  simp only at h1 h2 h3
  subst h1
  unfold zA9
  by_cases hlt : i < t.length
  ·left
   have hq := hs _ (zae1 (z := Queue.zero) hlt)
   have g3 : 0 ≤ (i : Int) ∧ (i : Int) < (t.length : Int) := by omega
   have g4 : 0 ≤ (i : Int) ∧ (i : Int) < ((s.length : Nat) : Int) := by omega
   refine ⟨(((i + 1 : Nat) : Int), s.set i (t.getD i Queue.zero)), ?_, ⟨i + 1, by omega, rfl, by simp [h2], ?_⟩, by simp only [Int.toNat_natCast]; omega⟩
   ·simp only [Int.toNat_natCast, ze3 i (show i < 4611686018427387904 by omega)]
    rw [if_pos (decide_eq_true g3.2), zb2 g3, zb2 (by omega), zb2 (by omega), zb2 (by omega), zb2 g4]
   ·simp only
    rw [zbg5 (z := Queue.zero) (show i < (s.set i (t.getD i Queue.zero)).length by rw [List.length_set]; omega), List.take_set_of_le (Nat.le_refl _), h3, zah1 _ _ _ _ (by omega), zbg5 (z := Queue.zero) hlt]
  ·right
   have : i = t.length := by omega
   subst this
   refine ⟨s, by rw [if_neg (by simp)], ?_⟩
   rw [List.take_of_length_le (by omega), List.take_length] at h3
   exact h3) (0, List.replicate t.length Queue.zero) ⟨0, by omega, rfl, by simp, by simp⟩
 rw [hx, hp]
theorem zO2 (t : List Queue) (i : Int) (q : Queue) (hl : t.length ≤ 1000) (hs : Lens t) (hi : i < t.length) : zf5 t i q = some (zay0 t i q) := by
 unfold zf5
 rw [zb2 (by omega), Int.toNat_natCast, zbl4 t hl hs, Option.bind_some]
 unfold zF9 zay0
 by_cases h0 : 0 ≤ i
 ·rw [if_pos (decide_eq_true h0), zb2 (by omega), if_pos h0]
 ·rw [if_neg (by simpa using h0), if_neg h0]
theorem zW3 (t : List Queue) (i : Int) (q : Queue) (hl : t.length ≤ 1000) (h0 : 0 ≤ i) (hi : i < t.length) : zh4 t i q = some (zay0 t i q) := by
 unfold zh4 zay0
 rw [zb2 (by omega), zb2 (by omega), if_pos h0]
theorem ValidT.lens {t : List Queue} (h : ValidT t) : Lens t := fun q hq => by
 have := zO1 (h.each q hq)
 omega
abbrev ResT := List Queue × List Event × Int
def errT (e : Int) : ResT := ([], [], e)
def putT (t : List Queue) (nm : ByteArray) (x : Queue × List Hold × Int) (ev : List Event) : ResT := if x.2.2 = 0 then (zay0 t (zl8 t nm) x.1, ev ++ zaa4 nm x.2.1, 0) else errT x.2.2
def atT (t : List Queue) (nm : ByteArray) (f : Queue → ResT) : ResT := if zQ3 t = false then errT 2 else if zl8 t nm < 0 then errT 10 else f (t.getD (zl8 t nm).toNat Queue.zero)
def zaZ9 (t : List Queue) (p : Proc) : Bool := decide (8 ≤ (zE6 t).length) && !decide (p ∈ zE6 t)
def zaJ8 (t : List Queue) (p : Proc) (a : Atom) (pr : Int) : ResT := atT t a.name fun q => if zaZ9 t p = true then errT 4 else putT t a.name (zL3 q p a.amount pr) []
def zaE1 (t : List Queue) (p : Proc) (nm : ByteArray) : ResT := atT t nm fun q => putT t nm (zG6 q p) []
def zba0 (t : List Queue) (p : Proc) (a : Atom) : ResT := atT t a.name fun q => putT t a.name (zB5 q p a.amount) (if getH q.holds p = a.amount then [] else [zeG5 p a.name a.amount])
theorem nd0 {P : Prop} [Decidable P] (h : P) : ¬ ((!decide P) = true) := by simp [h]
theorem nd1 {P : Prop} [Decidable P] (h : ¬ P) : (!decide P) = true := by simp [h]
theorem zat1 (t : List Queue) (nm : ByteArray) : zu2 t nm = some (if zQ3 t = false then (0, 2) else if zl8 t nm < 0 then (0, 10) else (zl8 t nm, 0)) := by
 unfold zu2
 rw [zas9, Option.bind_some]
 cases hv : zQ3 t with
 | false => rfl
 | true =>
  have hl := ((zQ4 t).1 hv).len
  rw [ifNT, ifTF, zax8 _ _ (by omega), Option.bind_some]
  by_cases hf : zl8 t nm < 0
  ·rw [if_pos (decide_eq_true hf), if_pos hf]
  ·rw [if_neg (by simpa using hf), if_neg hf]
theorem zQ5 {t : List Queue} {nm : ByteArray} (h : ¬ zl8 t nm < 0) : 0 ≤ zl8 t nm ∧ zl8 t nm < t.length := by
 rcases zbT2 (t := t) (nm := nm) with h1 | ⟨i, h1, h2, _⟩
 ·omega
 ·omega
theorem zam6 {t : List Queue} (h : ValidT t) {nm : ByteArray} (hf : ¬ zl8 t nm < 0) : zd8 (t.getD (zl8 t nm).toNat Queue.zero) = true := by
 have := zQ5 hf
 exact h.each _ (zae1 (by omega))
theorem zbX3 {t : List Queue} (h : ValidT t) (p : Proc) : ((!decide (p ∈ zE6 t)) && (decide (8 ≤ ((zE6 t).length : Int)))) = zaZ9 t p := by
 unfold zaZ9
 rw [Bool.and_comm]
 congr 1
 rw [decide_eq_decide]; omega
theorem zat2 (t : List Queue) (p : Proc) (a : Atom) (pr : Int) : zo5 t p a pr = some (zaJ8 t p a pr) := by
 unfold zo5 zaJ8 atT
 rw [zat1, Option.bind_some]
 cases hv : zQ3 t with
 | false => rfl
 | true =>
  have h := (zQ4 t).1 hv
  have hl := h.len
  have hpl := h.procs
  simp only [Bool.true_eq_false, if_false]
  by_cases hf : zl8 t a.name < 0
  ·rw [if_pos hf, if_pos hf]; rfl
  ·have hr := zQ5 hf
   have hs := zam6 h hf
   have hsh := zam3 (t.getD (zl8 t a.name).toNat Queue.zero) p a.amount pr
   simp only [if_neg hf, decide_true, Bool.not_true, Bool.false_eq_true, if_false, zas8 hl h.each, Option.bind_some, zaJ2 (zE6 t) p (by omega), zbX3 h p]
   cases hfu : zaZ9 t p with
   | true => rfl
   | false =>
    simp only [Bool.false_eq_true, if_false]
    rw [zb2 (by omega), zaY8, Option.bind_some]
    unfold putT
    by_cases e : (zL3 (t.getD (zl8 t a.name).toNat Queue.zero) p a.amount pr).2.2 = 0
    ·rw [if_neg (nd0 e), if_pos e, zO2 _ _ _ (by omega) h.lens (by omega), Option.bind_some, zby2 _ _ (by have := hsh.2.2.2; omega)]; rfl
    ·rw [if_pos (nd1 e), if_neg e]; rfl
theorem zaO7 (t : List Queue) (p : Proc) (nm : ByteArray) : zu7 t p nm = some (zaE1 t p nm) := by
 unfold zu7 zaE1 atT
 rw [zat1, Option.bind_some]
 cases hv : zQ3 t with
 | false => rfl
 | true =>
  have h := (zQ4 t).1 hv
  have hl := h.len
  simp only [Bool.true_eq_false, if_false]
  by_cases hf : zl8 t nm < 0
  ·rw [if_pos hf, if_pos hf]; rfl
  ·have hr := zQ5 hf
   have hsh := zah8 (t.getD (zl8 t nm).toNat Queue.zero) p
   simp only [if_neg hf, decide_true, Bool.not_true, Bool.false_eq_true, if_false]
   rw [zb2 (by omega), zaO5, Option.bind_some]
   unfold putT
   by_cases e : (zG6 (t.getD (zl8 t nm).toNat Queue.zero) p).2.2 = 0
   ·rw [if_neg (nd0 e), if_pos e, zO2 _ _ _ (by omega) h.lens (by omega), Option.bind_some, zby2 _ _ (by have := hsh.2.2.2; omega)]; rfl
   ·rw [if_pos (nd1 e), if_neg e]; rfl
theorem zbv3 {q : Queue} {p : Proc} {a : Amount} (h : (zB5 q p a).2.2 = 0) (e : getH q.holds p = a) : (zB5 q p a).2.1 = [] := by
 obtain ⟨_, _, _, _, _, hh⟩ := zbg3 h
 rcases hh with ⟨_, e2⟩ | ⟨hne, _, _⟩
 ·rw [e2]
 ·exact absurd e hne
theorem zba1 (t : List Queue) (p : Proc) (a : Atom) : zx2 t p a = some (zba0 t p a) := by
 unfold zx2 zba0 atT
 rw [zat1, Option.bind_some]
 cases hv : zQ3 t with
 | false => rfl
 | true =>
  have h := (zQ4 t).1 hv
  have hl := h.len
  simp only [Bool.true_eq_false, if_false]
  by_cases hf : zl8 t a.name < 0
  ·rw [if_pos hf, if_pos hf]; rfl
  ·have hr := zQ5 hf
   have hs := zam6 h hf
   have hql := zO1 hs
   have hsh := zam4 (t.getD (zl8 t a.name).toNat Queue.zero) p a.amount
   simp only [if_neg hf, decide_true, Bool.not_true, Bool.false_eq_true, if_false]
   rw [zb2 (by omega), zaZ0, Option.bind_some]
   unfold putT
   by_cases e : (zB5 (t.getD (zl8 t a.name).toNat Queue.zero) p a.amount).2.2 = 0
   ·rw [if_neg (nd0 e), if_pos e, zb2 (by omega), zD2 _ _ (by omega), Option.bind_some]
    by_cases e2 : getH (t.getD (zl8 t a.name).toNat Queue.zero).holds p = a.amount
    ·rw [if_pos (decide_eq_true e2.symm), if_pos e2, zO2 _ _ _ (by omega) h.lens (by omega), Option.bind_some, zbv3 e e2]; rfl
    ·rw [if_neg (by rw [decide_eq_true_eq]; exact fun h => e2 h.symm), if_neg e2, zO2 _ _ _ (by omega) h.lens (by omega), Option.bind_some, zbT4 _ _ _ (by have := hsh.2.2.2; omega) (by simp)]; rfl
   ·rw [if_pos (nd1 e), if_neg e]; rfl
theorem zba2 (t : List Queue) (p : Proc) (a : Atom) (pr : Int) : zr7 t p a pr = some (zaJ8 t p a pr) := by
 unfold zr7 zaJ8 atT
 rw [zae4, Option.bind_some]
 cases hv : zQ3 t with
 | false => rfl
 | true =>
  have h := (zQ4 t).1 hv
  have hl := h.len
  have hpl := h.procs
  rw [ifNT, ifTF, zah9 _ _ (by omega), Option.bind_some]
  by_cases hf : zl8 t a.name < 0
  ·rw [if_pos (decide_eq_true hf), if_pos hf]; rfl
  ·have hr := zQ5 hf
   have hsh := zam3 (t.getD (zl8 t a.name).toNat Queue.zero) p a.amount pr
   rw [if_neg (by rw [decide_eq_true_eq]; exact hf), if_neg hf, zat0 hl h.each, Option.bind_some, zak3 _ _ (by omega)]
   have e8 : decide (((zE6 t).length : Int) = 8) = decide (8 ≤ (zE6 t).length) := by rw [decide_eq_decide]; omega
   rw [e8]
   have hfu : zaZ9 t p = (decide (8 ≤ (zE6 t).length) && !decide (p ∈ zE6 t)) := rfl
   have hb2 : ((if decide (8 ≤ (zE6 t).length) = true then some (decide (p ∈ zE6 t)) else some false) : Option Bool).bind (fun v4 => if (decide (8 ≤ (zE6 t).length) && !v4) = true then some (([], [], 4) : ResT) else gd (0 ≤ zl8 t a.name ∧ zl8 t a.name < (t.length : Int)) <| (zp0 (t.getD (zl8 t a.name).toNat Queue.zero) p a.amount pr).bind fun v5 => if (!decide (v5.2.2 = 0)) = true then some (([], [], v5.2.2) : ResT) else (zh4 t (zl8 t a.name) v5.1).bind fun v6 => (zh6 a.name v5.2.1).bind fun v7 => some ((v6, v7, 0) : ResT)) =
     if zaZ9 t p = true then some (errT 4) else gd (0 ≤ zl8 t a.name ∧ zl8 t a.name < (t.length : Int)) <| (zp0 (t.getD (zl8 t a.name).toNat Queue.zero) p a.amount pr).bind fun v5 => if (!decide (v5.2.2 = 0)) = true then some (([], [], v5.2.2) : ResT) else (zh4 t (zl8 t a.name) v5.1).bind fun v6 => (zh6 a.name v5.2.1).bind fun v7 => some ((v6, v7, 0) : ResT) := by
    rw [hfu]
    by_cases h8 : 8 ≤ (zE6 t).length
    ·simp only [h8, decide_true, if_true, Option.bind_some, Bool.true_and]; rfl
    ·simp only [h8, decide_false, Bool.false_eq_true, if_false, Option.bind_some, Bool.false_and]
   refine Eq.trans hb2 ?_
   cases hfu2 : zaZ9 t p with
   | true => rfl
   | false =>
    rw [ifFT, zb2 (by omega), zaY9, Option.bind_some]
    unfold putT
    simp only [Bool.false_eq_true, if_false]
    by_cases e : (zL3 (t.getD (zl8 t a.name).toNat Queue.zero) p a.amount pr).2.2 = 0
    ·rw [if_neg (nd0 e), if_pos e, zW3 _ _ _ (by omega) (by omega) (by omega), Option.bind_some, zai0 _ _ (by have := hsh.2.2.2; omega)]; rfl
    ·rw [if_pos (nd1 e), if_neg e]; rfl
theorem zaO8 (t : List Queue) (p : Proc) (nm : ByteArray) : zn8 t p nm = some (zaE1 t p nm) := by
 unfold zn8 zaE1 atT
 rw [zae4, Option.bind_some]
 cases hv : zQ3 t with
 | false => rfl
 | true =>
  have h := (zQ4 t).1 hv
  have hl := h.len
  rw [ifNT, ifTF, zah9 _ _ (by omega), Option.bind_some]
  by_cases hf : zl8 t nm < 0
  ·rw [if_pos (decide_eq_true hf), if_pos hf]; rfl
  ·have hr := zQ5 hf
   have hsh := zah8 (t.getD (zl8 t nm).toNat Queue.zero) p
   rw [if_neg (by rw [decide_eq_true_eq]; exact hf), if_neg hf, zb2 (by omega), zaO6, Option.bind_some]
   unfold putT
   dsimp only
   by_cases e : (zG6 (t.getD (zl8 t nm).toNat Queue.zero) p).2.2 = 0
   ·rw [if_neg (nd0 e), if_pos e, zW3 _ _ _ (by omega) (by omega) (by omega), Option.bind_some, zai0 _ _ (by have := hsh.2.2.2; omega)]; rfl
   ·rw [if_pos (nd1 e), if_neg e]; rfl
theorem zba3 (t : List Queue) (p : Proc) (a : Atom) : zr9 t p a = some (zba0 t p a) := by
 unfold zr9 zba0 atT
 rw [zae4, Option.bind_some]
 cases hv : zQ3 t with
 | false => rfl
 | true =>
  have h := (zQ4 t).1 hv
  have hl := h.len
  rw [ifNT, ifTF, zah9 _ _ (by omega), Option.bind_some]
  by_cases hf : zl8 t a.name < 0
  ·rw [if_pos (decide_eq_true hf), if_pos hf]; rfl
  ·have hr := zQ5 hf
   have hs := zam6 h hf
   have hql := zO1 hs
   have hsh := zam4 (t.getD (zl8 t a.name).toNat Queue.zero) p a.amount
   rw [if_neg (by rw [decide_eq_true_eq]; exact hf), if_neg hf, zb2 (by omega), zah3 _ _ (by omega), Option.bind_some, zb2 (by omega), zaZ1, Option.bind_some]
   unfold putT
   have k1 : ∀ ev : List Event, ev.length ≤ 1 → (zB5 (t.getD (zl8 t a.name).toNat Queue.zero) p a.amount).2.2 = 0 → zA2 t a (zl8 t a.name) (zB5 (t.getD (zl8 t a.name).toNat Queue.zero) p a.amount) ev = some (zay0 t (zl8 t a.name) (zB5 (t.getD (zl8 t a.name).toNat Queue.zero) p a.amount).1, ev ++ zaa4 a.name (zB5 (t.getD (zl8 t a.name).toNat Queue.zero) p a.amount).2.1, 0) := fun ev hev e => by
    unfold zA2
    have hg : (zaa4 a.name (zB5 (t.getD (zl8 t a.name).toNat Queue.zero) p a.amount).2.1).length ≤ 16 := by unfold zaa4; rw [List.length_map]; exact hsh.2.2.2
    rw [zW3 _ _ _ (by omega) (by omega) (by omega), Option.bind_some, zai0 _ _ (by have := hsh.2.2.2; omega), Option.bind_some, zb2 (by omega)]
   dsimp only
   by_cases e : (zB5 (t.getD (zl8 t a.name).toNat Queue.zero) p a.amount).2.2 = 0
   ·rw [if_neg (nd0 e), if_pos e]
    by_cases e2 : getH (t.getD (zl8 t a.name).toNat Queue.zero).holds p = a.amount
    ·rw [if_neg (nd0 e2), if_pos e2, k1 [] (by simp) e]
    ·rw [if_pos (nd1 e2), if_neg e2, zb2 (by decide), k1 _ (by simp) e]; rfl
   ·rw [if_pos (nd1 e), if_neg e]; rfl
end Ab
end Go.Proofs.YtfjeceicgfdmjaaGreatDoor
namespace Go.Proofs.YtfjeceicgfdmjaaGreatDoor
namespace Ab
set_option linter.unusedVariables false
set_option linter.unusedSimpArgs false
def ascR : List Resource → Option ByteArray → Bool
 | [], _ => true
 | r :: l, pv => resV r && ((match pv with | none => true | some n => decide (ltN n r.name)) && ascR l (some r.name))
theorem zbr8 : ∀ (l : List Resource) (pv : Option ByteArray), ascR l pv = true ↔ (∀ r ∈ l, resV r = true) ∧ l.Pairwise (fun a b => ltN a.name b.name) ∧ ∀ n, pv = some n → ∀ r ∈ l, ltN n r.name
 | [], pv => by
  simp only [ascR, List.not_mem_nil, false_implies, implies_true, and_true, true_and, true_iff]
  exact .nil
 | q :: t, pv => by
  simp only [ascR, Bool.and_eq_true]
  rw [zbr8 t (some q.name)]
  constructor
  ·rintro ⟨h1, h2, h3, h4, h5⟩
   refine ⟨fun x hx => ?_, List.pairwise_cons.2 ⟨fun x hx => h5 _ rfl x hx, h4⟩, fun n hn x hx => ?_⟩
   ·rcases List.mem_cons.1 hx with rfl | hx
    ·exact h1
    ·exact h3 x hx
   ·subst hn
    simp only [decide_eq_true_eq] at h2
    rcases List.mem_cons.1 hx with rfl | hx
    ·exact h2
    ·exact zbg6 h2 (h5 _ rfl x hx)
  ·rintro ⟨h1, h2, h3⟩
   have h2' := List.pairwise_cons.1 h2
   refine ⟨h1 q (.head _), ?_, fun x hx => h1 x (.tail _ hx), h2'.2, fun n hn x hx => by cases hn; exact h2'.1 x hx⟩
   cases pv with
   | none => rfl
   | some n => exact decide_eq_true (h3 n rfl q (.head _))
def catV (l : List Resource) : Bool := decide (l.length ≤ 8) && ascR l none
theorem zba4 (l : List Resource) : catV l = true ↔ l.length ≤ 8 ∧ (∀ r ∈ l, resV r = true) ∧ l.Pairwise (fun a b => ltN a.name b.name) := by
 unfold catV
 rw [Bool.and_eq_true, decide_eq_true_eq, zbr8]
 simp
theorem zbC0 (t0 : List Resource) : ∀ (t prev : List Resource), t0 = prev ++ t →
  walk (fun i q (_ : Unit) => some (if resV q = true ∧ (i = 0 ∨ ltN (t0.getD (i - 1) Resource.zero).name q.name) then Sum.inl () else Sum.inr (Sum.inr (α := Unit) false))) (fun _ => Sum.inl (β := Bool) ()) t prev.length () =
   some (if ascR t (prev.getLast?.map (·.name)) = true then .inl () else .inr false) := by
 intro t
 induction t with
 | nil => intro prev _; simp [walk, ascR]
 | cons q t ih =>
  intro prev ht
  simp only [walk]
  have hq : (prev.length = 0 ∨ ltN (t0.getD (prev.length - 1) Resource.zero).name q.name) ↔ (match prev.getLast?.map (·.name) with | none => true | some n => decide (ltN n q.name)) = true := by
   by_cases hp : prev = []
   ·subst hp; simp
   ·have h1 := zbg7 prev (q :: t) Resource.zero hp
    rw [ht, h1, List.getLast?_eq_some_getLast hp]
    have : prev.length ≠ 0 := fun e => hp (List.eq_nil_of_length_eq_zero e)
    simp [this]
  by_cases e : resV q = true ∧ (prev.length = 0 ∨ ltN (t0.getD (prev.length - 1) Resource.zero).name q.name)
  ·rw [if_pos e]
   have := ih (prev ++ [q]) (by rw [ht]; simp)
   rw [show (prev ++ [q]).length = prev.length + 1 by simp] at this
   simp only
   have h2 : ascR (q :: t) (prev.getLast?.map (·.name)) = ascR t (some q.name) := by simp only [ascR, e.1, hq.1 e.2, Bool.true_and]
   rw [this, h2]
   simp
  ·rw [if_neg e]
   rw [hq] at e
   have hf : ascR (q :: t) (prev.getLast?.map (·.name)) = false := by
    rw [Bool.eq_false_iff]
    intro hh
    simp only [ascR, Bool.and_eq_true] at hh
    exact e ⟨hh.1, hh.2.1⟩
   rw [hf]; rfl
theorem zbr9 {body : Int → Option (Int ⊕ (Unit ⊕ Bool))} (t : List Resource) (hl : t.length ≤ 8)
  (hb : ∀ i : Nat, i < t.length → body (i : Int) = some (if resV (t.getD i Resource.zero) = true ∧ (i = 0 ∨ ltN (t.getD (i - 1) Resource.zero).name (t.getD i Resource.zero).name) then .inl ((i + 1 : Nat) : Int) else .inr (.inr false)))
  (he : body (t.length : Int) = some (.inr (.inl ()))) : zc1 body 0 = some (if ascR t none = true then .inl () else .inr false) := by
 have key := zad2 (body := body) t Resource.zero (fun i (_ : Unit) => (i : Int)) (fun i q _ => some (if resV q = true ∧ (i = 0 ∨ ltN (t.getD (i - 1) Resource.zero).name q.name) then Sum.inl () else Sum.inr (Sum.inr (α := Unit) false))) (fun _ => Sum.inl (β := Bool) ())
  (fun i s hi => by
   rw [hb i hi, Option.map_some]
   split <;> rfl) (fun s => he) ()
 have := zbC0 t t [] rfl
 rw [show (0 : Int) = (fun (i : Nat) (_ : Unit) => (i : Int)) 0 () from rfl, key]
 exact this
theorem zaJ9 (t : List Resource) : zi3 t = some (catV t) := by
 unfold zi3 catV
 by_cases h8 : 8 < t.length
 ·have : ¬ t.length ≤ 8 := by omega
  rw [if_pos (by simp; omega)]
  simp [this]
 ·have hl : t.length ≤ 8 := by omega
  rw [if_neg (by simp; omega), zbr9 t hl (fun i hi => by
   unfold zF5
   have h3 : 0 ≤ (i : Int) ∧ (i : Int) < (t.length : Int) := by omega
   simp only [h3.1, h3.2, and_self, implies_true, zm2, decide_true, if_true, Int.toNat_natCast, zad6, Option.bind_some, ze3 i (by omega)]
   by_cases e0 : i = 0
   ·subst e0
    rw [zb2 (by simp)]
    cases resV (t.getD 0 Resource.zero) <;> simp
   ·rw [zaa7 i (by omega) (by omega), zb2 (by intro _; omega)]
    simp only [Int.toNat_natCast, show (0 : Int) < (i : Int) by omega, decide_true, Bool.true_and, e0, false_or]
    unfold ltN
    rcases hb (resV (t.getD i Resource.zero)) with b1 | b1 <;> rcases hb (Op.bytesLess (t.getD (i - 1) Resource.zero).name.toList (t.getD i Resource.zero).name.toList) with b2 | b2 <;> simp [b1, b2, -List.getD_eq_getElem?_getD]) (by unfold zF5; simp)]
  simp only [hl, decide_true, Bool.true_and]
  cases hw : ascR t none <;> rfl
theorem zba5 (t : List Resource) : zm5 t = some (catV t) := by
 unfold zm5 catV
 by_cases h8 : 8 < t.length
 ·have : ¬ t.length ≤ 8 := by omega
  rw [if_pos (by simp; omega)]
  simp [this]
 ·have hl : t.length ≤ 8 := by omega
  rw [if_neg (by simp; omega), zbr9 t hl (fun i hi => by
   unfold zL6
   have h3 : 0 ≤ (i : Int) ∧ (i : Int) < (t.length : Int) := by omega
   simp only [h3.1, h3.2, and_self, implies_true, zm2, decide_true, if_true, Int.toNat_natCast, zaD4, Option.bind_some, ze3 i (by omega)]
   by_cases e0 : i = 0
   ·subst e0
    rw [zb2 (by simp)]
    cases resV (t.getD 0 Resource.zero) <;> simp
   ·rw [zaa7 i (by omega) (by omega), zb2 (by intro _; omega)]
    simp only [Int.toNat_natCast, show (0 : Int) < (i : Int) by omega, decide_true, Bool.true_and, e0, false_or]
    unfold ltN
    rcases hb (resV (t.getD i Resource.zero)) with b1 | b1 <;> rcases hb (Op.bytesLess (t.getD (i - 1) Resource.zero).name.toList (t.getD i Resource.zero).name.toList) with b2 | b2 <;> simp [b1, b2, -List.getD_eq_getElem?_getD]) (by unfold zL6; simp)]
  simp only [hl, decide_true, Bool.true_and]
  cases hw : ascR t none <;> rfl
def newT (l : List Resource) : List Queue × Int := if catV l = true then (l.map zam5, 0) else ([], 1)
theorem zbl5 (l : List Resource) : zq2 l = some (newT l) := by
 unfold zq2 newT
 rw [zba5, Option.bind_some]
 cases h : catV l with
 | false => rfl
 | true =>
  have hl := ((zba4 l).1 h).1
  rw [ifNT, zae3 l Resource.zero zam5 [] (by omega) (by simp) (fun i s hi hs => by
   unfold zS1
   have h3 : 0 ≤ (i : Int) ∧ (i : Int) < (l.length : Int) := by omega
   have h1 : s.length + 1 ≤ 4294967296 := by omega
   simp only [h1, h3.1, h3.2, and_self, zm2, decide_true, if_true, Int.toNat_natCast, ze3 i (show i < 4611686018427387904 by omega)]
   rfl) (fun s => by unfold zS1; simp)]
  rfl
theorem zaE2 (l : List Resource) : zq1 l = some (newT l) := by
 unfold zq1 newT
 rw [zaJ9, Option.bind_some]
 cases h : catV l with
 | false => rfl
 | true =>
  obtain ⟨hl, hv, _⟩ := (zba4 l).1 h
  have key := zv0 (body := zJ1 l) l Resource.zero (fun i (s : List Queue) => ((i : Int), s)) (fun _ r s => some (.inl (s ++ [zam5 r]))) (fun s => .inl s) (fun i s => s.length = i)
   (fun i s hi hs => by
    refine ⟨?_, fun s' h => by simp only [Option.some.injEq, Sum.inl.injEq] at h; subst h; simp [hs]⟩
    unfold zJ1
    have h3 : 0 ≤ (i : Int) ∧ (i : Int) < (l.length : Int) := by omega
    have h1 : s.length + 1 ≤ 4294967296 := by omega
    have hr : newQ (l.getD i Resource.zero) = (zam5 (l.getD i Resource.zero), 0) := by unfold newQ; rw [if_pos (hv _ (zae1 hi))]; rfl
    simp only [h1, h3.1, h3.2, and_self, zm2, decide_true, if_true, Int.toNat_natCast, ze3 i (show i < 4611686018427387904 by omega), zbk1, hr, Option.bind_some, Bool.not_true, Bool.false_eq_true, if_false]
    rfl)
   (fun s hs => by unfold zJ1; simp) [] rfl
  have fold : ∀ (l : List Resource) (i : Nat) (s : List Queue), walk (fun (_ : Nat) r (s : List Queue) => some (Sum.inl (β := List Queue ⊕ List Queue × Int) (s ++ [zam5 r]))) (fun s => Sum.inl s) l i s = some (.inl (s ++ l.map zam5)) := by
   intro l
   induction l with
   | nil => intro i s; simp [walk]
   | cons r l ih => intro i s; simp only [walk, List.map_cons]; rw [ih (i + 1), List.append_assoc]; rfl
  rw [ifNT, show ((0, []) : Int × List Queue) = (fun (i : Nat) (s : List Queue) => ((i : Int), s)) 0 [] from rfl, key, fold]
  rfl
theorem zbT5 (l : List Resource) : Lens (newT l).1 := fun q hq => by
 unfold newT at hq
 split at hq
 ·obtain ⟨r, _, rfl⟩ := List.mem_map.1 hq
  exact ⟨by simp [zam5, Queue.zero], by simp [zam5, Queue.zero], by simp [zam5, Queue.zero]⟩
 ·cases hq
theorem zbX4 (l : List Resource) : (newT l).1.length ≤ 8 := by
 unfold newT
 split
 ·next h => rw [List.length_map]; exact ((zba4 l).1 h).1
 ·simp
def zbs0 (p : Proc) (q : Queue) : List Atom := if getH q.holds p = Amount.zero then [] else [⟨q.resource.name, getH q.holds p⟩]
theorem zbs1 (t : List Queue) (p : Proc) (hl : t.length ≤ 1000) (hs : Lens t) : zk8 t p = some (t.flatMap (zbs0 p)) := by
 unfold zk8
 have key := zv0 (body := zz0 t p) t Queue.zero (fun i (s : List Atom) => ((i : Int), s)) (fun _ q s => some (.inl (s ++ zbs0 p q))) (fun s => s) (fun i s => s.length ≤ i)
  (fun i s hi hs' => by
   have hq := hs _ (zae1 (z := Queue.zero) hi)
   have h3 : 0 ≤ (i : Int) ∧ (i : Int) < (t.length : Int) := by omega
   have h1 : s.length + 1 ≤ 4294967296 := by omega
   refine ⟨?_, fun s' h => ?_⟩
   ·unfold zz0 zbs0
    simp only [h1, h3.1, h3.2, and_self, zm2, decide_true, if_true, Int.toNat_natCast, ze3 i (show i < 4611686018427387904 by omega)]
    rw [zD2 _ _ (by omega), Option.bind_some]
    by_cases e : getH (t.getD i Queue.zero).holds p = Amount.zero
    ·rw [if_neg (nd0 e), if_pos e, List.append_nil]; rfl
    ·rw [if_pos (nd1 e), if_neg e]; rfl
   ·simp only [Option.some.injEq, Sum.inl.injEq] at h; subst h
    unfold zbs0
    split
    ·simp; omega
    ·simp; omega)
  (fun s hs => by unfold zz0; simp) [] (by simp)
 rw [show ((0, []) : Int × List Atom) = (fun (i : Nat) (s : List Atom) => ((i : Int), s)) 0 [] from rfl, key, zaE0 (zbs0 p)]
 rfl
def tR : Resource := ⟨⟨#[97]⟩, 1, 1, 0⟩
def tP0 : Proc := ⟨0, 1, 1⟩
def aT0 : List Queue := [⟨tR, [], [], [], 0⟩]
def aT1 : List Queue := [⟨tR, [⟨tP0, ⟨5, 0⟩⟩], [], [], 1⟩]
theorem zaE3 : zj6 = some true := by
 unfold zj6
 have p0 : zbT1 0 = tP0 := by decide
 have e1 : newT [{ Resource.zero with name := (⟨#[97]⟩ : ByteArray), kind := 1, units := 1 }] = (aT0, 0) := by decide +kernel
 have e2 : zaJ8 aT0 tP0 (⟨(⟨#[97]⟩ : ByteArray), { Amount.zero with mode := 5 }⟩ : Atom) 0 = (aT1, [⟨1, tP0, ⟨#[97]⟩, ⟨5, 0⟩⟩], 0) := by decide +kernel
 simp only [zbl1, Option.bind_some, p0, zaE2, e1, zat2, e2]
 rw [zbs1 aT1 _ (by decide) (by intro q hq; rw [List.mem_singleton.1 hq]; exact ⟨by decide, by decide, by decide⟩), Option.bind_some, zax8 aT1 _ (by decide), zas9]
 decide +kernel
theorem zbs2 (t : List Queue) : zo6 t = some (decide (t.length ≤ 20) && t.all fun q => decide (q.holds.length ≤ 20 ∧ q.converts.length ≤ 20 ∧ q.waits.length ≤ 20)) := by
 unfold zo6
 by_cases h : 20 < t.length
 ·have : ¬ t.length ≤ 20 := by omega
  rw [if_pos (by simp; omega)]
  simp [this]
 ·have hl : t.length ≤ 20 := by omega
  rw [if_neg (by simp; omega)]
  have key := zad2 (body := zE0 t) t Queue.zero (fun i (_ : Unit) => (i : Int)) (fun _ q _ => some (if q.holds.length ≤ 20 ∧ q.converts.length ≤ 20 ∧ q.waits.length ≤ 20 then Sum.inl () else Sum.inr (Sum.inr (α := Unit) false))) (fun _ => Sum.inl (β := Bool) ())
   (fun i s hi => by
    unfold zE0
    have h3 : 0 ≤ (i : Int) ∧ (i : Int) < (t.length : Int) := by omega
    simp only [h3.1, h3.2, and_self, implies_true, zm2, decide_true, if_true, Int.toNat_natCast, ze3 i (show i < 4611686018427387904 by omega), Option.map_some]
    by_cases e : (t.getD i Queue.zero).holds.length ≤ 20 ∧ (t.getD i Queue.zero).converts.length ≤ 20 ∧ (t.getD i Queue.zero).waits.length ≤ 20
    ·have g : ((decide (20 < ((t.getD i Queue.zero).holds.length : Int)) || decide (20 < ((t.getD i Queue.zero).converts.length : Int))) || decide (20 < ((t.getD i Queue.zero).waits.length : Int))) = false := by
      simp only [Bool.or_eq_false_iff, decide_eq_false_iff_not]; omega
     rw [g, if_neg (by simp), if_pos e]; rfl
    ·have g : ((decide (20 < ((t.getD i Queue.zero).holds.length : Int)) || decide (20 < ((t.getD i Queue.zero).converts.length : Int))) || decide (20 < ((t.getD i Queue.zero).waits.length : Int))) = true := by
      simp only [Bool.or_eq_true, decide_eq_true_eq]; omega
     rw [g, if_pos rfl, if_neg e]; rfl) (fun s => by unfold zE0; simp) ()
  have fold : ∀ (l : List Queue) (i : Nat), walk (fun (_ : Nat) (q : Queue) (_ : Unit) => some (if q.holds.length ≤ 20 ∧ q.converts.length ≤ 20 ∧ q.waits.length ≤ 20 then Sum.inl () else Sum.inr (Sum.inr (α := Unit) false))) (fun _ => Sum.inl (β := Bool) ()) l i () = some (if (l.all fun q => decide (q.holds.length ≤ 20 ∧ q.converts.length ≤ 20 ∧ q.waits.length ≤ 20)) = true then .inl () else .inr false) := by
   intro l
   induction l with
   | nil => intro i; rfl
   | cons q l ih =>
    intro i
    simp only [walk, List.all_cons]
    by_cases e : q.holds.length ≤ 20 ∧ q.converts.length ≤ 20 ∧ q.waits.length ≤ 20
    ·have hd := decide_eq_true e
     rw [if_pos e]; simp only; rw [ih (i + 1)]
     simp only [hd, Bool.true_and]
    ·have hd := decide_eq_false e
     rw [if_neg e]
     simp only [hd, Bool.false_and, Bool.false_eq_true, if_false]
  rw [show (0 : Int) = (fun (i : Nat) (_ : Unit) => (i : Int)) 0 () from rfl, key, fold, Option.bind_some]
  simp only [hl, decide_true, Bool.true_and]
  rcases hb (t.all fun q => decide (q.holds.length ≤ 20 ∧ q.converts.length ≤ 20 ∧ q.waits.length ≤ 20)) with b | b <;> simp only [b] <;> rfl
structure Small (t : List Queue) : Prop where
 len : t.length ≤ 20
 lens : Lens t
theorem zbs3 {t : List Queue} (h : (decide (t.length ≤ 20) && t.all fun q => decide (q.holds.length ≤ 20 ∧ q.converts.length ≤ 20 ∧ q.waits.length ≤ 20)) = true) : Small t := by
 rw [Bool.and_eq_true, decide_eq_true_eq, List.all_eq_true] at h
 refine ⟨h.1, fun q hq => ?_⟩
 have := of_decide_eq_true (h.2 q hq)
 omega
theorem zaK0 (a : List Queue) (ev : List Event) (c : Int) (hl : a.length ≤ 1000000) (hs : Lens a) (he : ev.length ≤ 1000000) : zs4 a ev c a ev c = some true := by
 unfold zs4
 simp only [zax9 a a hl hs, zbc8 ev ev he, decide_true, if_true, Option.bind_some, Bool.and_self]
def zaA2 (x : ResT) : Prop := x.1.length ≤ 1000000 ∧ Lens x.1 ∧ x.2.1.length ≤ 1000000
theorem zam7 (e : Int) : zaA2 (errT e) := ⟨by simp [errT], fun q hq => (nomatch hq), by simp [errT]⟩
theorem zbT6 (t : List Queue) (i : Int) (q : Queue) : (zay0 t i q).length = t.length := by unfold zay0; split <;> simp
theorem zbC1 {t : List Queue} (h : Lens t) (i : Int) {q : Queue} (hq : q.holds.length ≤ 1000 ∧ q.converts.length ≤ 1000 ∧ q.waits.length ≤ 1000) : Lens (zay0 t i q) := fun x hx => by
 unfold zay0 at hx
 split at hx
 ·rcases List.mem_or_eq_of_mem_set hx with hx | rfl
  ·exact h x hx
  ·exact hq
 ·exact h x hx
theorem zaA3 {t : List Queue} (h : Small t) (nm : ByteArray) (x : Queue × List Hold × Int) (ev : List Event) (hx : zas7 x) (hev : ev.length ≤ 1) : zaA2 (putT t nm x ev) := by
 obtain ⟨h1, h2, h3, h4⟩ := hx
 have hl := h.len
 unfold putT
 split
 ·refine ⟨by rw [zbT6]; omega, zbC1 h.lens _ ⟨by omega, by omega, by omega⟩, ?_⟩
  unfold zaa4
  rw [List.length_append, List.length_map]; omega
 ·exact zam7 _
theorem zaK1 {t : List Queue} (nm : ByteArray) {f : Queue → ResT} (h : ∀ q, zaA2 (f q)) : zaA2 (atT t nm f) := by
 unfold atT
 split
 ·exact zam7 _
 ·split
  ·exact zam7 _
  ·exact h _
theorem zbv4 {t : List Queue} (h : Small t) (p : Proc) (a : Atom) (pr : Int) : zaA2 (zaJ8 t p a pr) := zaK1 _ fun q => by
 split
 ·exact zam7 _
 ·exact zaA3 h _ _ _ (zam3 _ _ _ _) (by simp)
theorem zbs4 {t : List Queue} (h : Small t) (p : Proc) (nm : ByteArray) : zaA2 (zaE1 t p nm) := zaK1 _ fun q => zaA3 h _ _ _ (zah8 _ _) (by simp)
theorem zbv5 {t : List Queue} (h : Small t) (p : Proc) (a : Atom) : zaA2 (zba0 t p a) := zaK1 _ fun q => zaA3 h _ _ _ (zam4 _ _ _) (by split <;> simp)
end Ab
end Go.Proofs.YtfjeceicgfdmjaaGreatDoor
namespace Go.Proofs.YtfjeceicgfdmjaaGreatDoor
namespace Ab
set_option linter.unusedVariables false
set_option linter.unusedSimpArgs false
theorem zba6 {t : List Queue} (h : ∀ q ∈ t, zd8 q = true) {p : Proc} : p ∈ zE6 t ↔ ∃ q ∈ t, hasQ q p = true := by
 unfold zE6
 rw [zau9, List.mem_flatMap]
 constructor
 ·rintro ⟨q, hq, hp⟩; exact ⟨q, hq, (zaY7 ((zv2 q).1 (h q hq)).1).1 hp⟩
 ·rintro ⟨q, hq, hp⟩; exact ⟨q, hq, (zaY7 ((zv2 q).1 (h q hq)).1).2 hp⟩
theorem zbl6 (t : List Queue) : (zE6 t).Nodup := zaJ1 (zaJ0 _)
theorem ValidT.map {t : List Queue} (h : ValidT t) (f : Queue → Queue) (h1 : ∀ q ∈ t, zd8 (f q) = true) (h2 : ∀ q ∈ t, (f q).resource = q.resource) (h3 : ∀ q ∈ t, ∀ p, hasQ (f q) p = true → hasQ q p = true) : ValidT (t.map f) := by
 have he : ∀ q ∈ t.map f, zd8 q = true := fun q hq => by
  obtain ⟨x, hx, rfl⟩ := List.mem_map.1 hq
  exact h1 x hx
 refine ⟨by rw [List.length_map]; exact h.len, he, ?_, ?_⟩
 ·have := h.asc
  unfold AscN at *
  rw [List.pairwise_map]
  exact this.imp_of_mem fun {a b} ha hb hab => by rw [h2 a ha, h2 b hb]; exact hab
 ·refine Nat.le_trans (List.Nodup.length_le_of_subset (zbl6 _) fun x hx => ?_) h.procs
  obtain ⟨q, hq, hp⟩ := (zba6 he).1 hx
  obtain ⟨y, hy, rfl⟩ := List.mem_map.1 hq
  exact (zba6 h.each).2 ⟨y, hy, h3 y hy x hp⟩
end Ab
end Go.Proofs.YtfjeceicgfdmjaaGreatDoor
