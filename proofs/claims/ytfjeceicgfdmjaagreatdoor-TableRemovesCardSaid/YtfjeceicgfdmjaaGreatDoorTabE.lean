/-
  Tables: which are valid, who is in them, what is found.
-/
import Derived.Test.YtfjeceicgfdmjaaGreatDoorQueT
namespace Go.Proofs.YtfjeceicgfdmjaaGreatDoor
namespace Ab
set_option linter.unusedVariables false
set_option linter.unusedSimpArgs false
theorem zbn1 : ∀ {x y z : List UInt8}, Op.bytesLess x y = true → Op.bytesLess y z = true → Op.bytesLess x z = true
 | x, [], z, h1, _ => by cases x <;> simp [Op.bytesLess] at h1
 | x, b :: y, [], _, h2 => by simp [Op.bytesLess] at h2
 | [], b :: y, c :: z, _, _ => by simp [Op.bytesLess]
 | a :: x, b :: y, c :: z, h1, h2 => by
  simp only [Op.bytesLess, Bool.or_eq_true, Bool.and_eq_true, decide_eq_true_eq, beq_iff_eq] at h1 h2 ⊢
  rcases h1 with h1 | ⟨rfl, h1⟩
  ·rcases h2 with h2 | ⟨rfl, h2⟩
   ·exact .inl (UInt8.lt_trans h1 h2)
   ·exact .inl h1
  ·rcases h2 with h2 | ⟨rfl, h2⟩
   ·exact .inl h2
   ·exact .inr ⟨rfl, zbn1 h1 h2⟩
def ltN (a b : ByteArray) : Prop := Op.bytesLess a.toList b.toList = true
instance (a b : ByteArray) : Decidable (ltN a b) := by unfold ltN; infer_instance
theorem zbb1 {a b c : ByteArray} (h : ltN a b) (k : ltN b c) : ltN a c := zbn1 h k
def AscN (t : List Queue) : Prop := t.Pairwise fun a b => ltN a.resource.name b.resource.name
def ascW : List Queue → Option ByteArray → Bool
 | [], _ => true
 | q :: t, pv => zd5 q && ((match pv with | none => true | some n => decide (ltN n q.resource.name)) && ascW t (some q.resource.name))
theorem zaU1 : ∀ (t : List Queue) (pv : Option ByteArray), ascW t pv = true ↔ (∀ q ∈ t, zd5 q = true) ∧ AscN t ∧ ∀ n, pv = some n → ∀ q ∈ t, ltN n q.resource.name
 | [], pv => by
  simp only [ascW, List.not_mem_nil, false_implies, implies_true, and_true, true_and, true_iff]
  exact .nil
 | q :: t, pv => by
  simp only [ascW, Bool.and_eq_true]
  rw [zaU1 t (some q.resource.name)]
  constructor
  ·rintro ⟨h1, h2, h3, h4, h5⟩
   refine ⟨fun x hx => ?_, List.pairwise_cons.2 ⟨fun x hx => h5 _ rfl x hx, h4⟩, fun n hn x hx => ?_⟩
   ·rcases List.mem_cons.1 hx with rfl | hx
    ·exact h1
    ·exact h3 x hx
   ·subst hn
    simp only [decide_eq_true_eq] at h2
    rcases List.mem_cons.1 hx with rfl | hx
    ·exact h2
    ·exact zbb1 h2 (h5 _ rfl x hx)
  ·rintro ⟨h1, h2, h3⟩
   have h2' := List.pairwise_cons.1 h2
   refine ⟨h1 q (.head _), ?_, fun x hx => h1 x (.tail _ hx), h2'.2, fun n hn x hx => by cases hn; exact h2'.1 x hx⟩
   cases pv with
   | none => rfl
   | some n => exact decide_eq_true (h3 n rfl q (.head _))
def zaw1 (t : List Queue) : Bool := decide (t.length ≤ 8) && ascW t none
def zn0 (t : List Queue) : List Proc := zat2 (t.flatMap zE7)
def zE8 (t : List Queue) : Bool := zaw1 t && decide ((zn0 t).length ≤ 8)
structure ValidT (t : List Queue) : Prop where
 len : t.length ≤ 8
 each : ∀ q ∈ t, zd5 q = true
 asc : AscN t
 procs : (zn0 t).length ≤ 8
theorem zaU2 (t : List Queue) : zaw1 t = true ↔ t.length ≤ 8 ∧ (∀ q ∈ t, zd5 q = true) ∧ AscN t := by
 unfold zaw1
 rw [Bool.and_eq_true, decide_eq_true_eq, zaU1]
 simp
theorem zD7 (t : List Queue) : zE8 t = true ↔ ValidT t := by
 unfold zE8
 rw [Bool.and_eq_true, decide_eq_true_eq, zaU2]
 exact ⟨fun ⟨⟨h1, h2, h3⟩, h4⟩ => ⟨h1, h2, h3, h4⟩, fun ⟨h1, h2, h3, h4⟩ => ⟨⟨h1, h2, h3⟩, h4⟩⟩
theorem zbb2 {α : Type} (prev t : List α) (z : α) (h : prev ≠ []) : (prev ++ t).getD (prev.length - 1) z = prev.getLast h := by
 have hp : 0 < prev.length := List.length_pos_iff.2 h
 rw [List.getD_eq_getElem?_getD, List.getElem?_append_left (by omega), List.getElem?_eq_getElem (by omega), List.getLast_eq_getElem]; rfl
theorem zbr2 (t0 : List Queue) : ∀ (t prev : List Queue), t0 = prev ++ t →
  walk (fun i q (_ : Unit) => some (if zd5 q = true ∧ (i = 0 ∨ ltN (t0.getD (i - 1) Queue.zero).resource.name q.resource.name) then Sum.inl () else Sum.inr (Sum.inr (α := Unit) false))) (fun _ => Sum.inl (β := Bool) ()) t prev.length () =
   some (if ascW t (prev.getLast?.map (·.resource.name)) = true then .inl () else .inr false) := by
 intro t
 induction t with
 | nil => intro prev _; simp [walk, ascW]
 | cons q t ih =>
  intro prev ht
  simp only [walk]
  have hq : (prev.length = 0 ∨ ltN (t0.getD (prev.length - 1) Queue.zero).resource.name q.resource.name) ↔ (match prev.getLast?.map (·.resource.name) with | none => true | some n => decide (ltN n q.resource.name)) = true := by
   by_cases hp : prev = []
   ·subst hp; simp
   ·have h1 := zbb2 prev (q :: t) Queue.zero hp
    rw [ht, h1, List.getLast?_eq_some_getLast hp]
    have : prev.length ≠ 0 := fun e => hp (List.eq_nil_of_length_eq_zero e)
    simp [this]
  by_cases e : zd5 q = true ∧ (prev.length = 0 ∨ ltN (t0.getD (prev.length - 1) Queue.zero).resource.name q.resource.name)
  ·rw [if_pos e]
   have := ih (prev ++ [q]) (by rw [ht]; simp)
   rw [show (prev ++ [q]).length = prev.length + 1 by simp] at this
   simp only
   have h2 : ascW (q :: t) (prev.getLast?.map (·.resource.name)) = ascW t (some q.resource.name) := by simp only [ascW, e.1, hq.1 e.2, Bool.true_and]
   rw [this, h2]
   simp
  ·rw [if_neg e]
   rw [hq] at e
   have hf : ascW (q :: t) (prev.getLast?.map (·.resource.name)) = false := by
    rw [Bool.eq_false_iff]
    intro hh
    simp only [ascW, Bool.and_eq_true] at hh
    exact e ⟨hh.1, hh.2.1⟩
   rw [hf]; rfl
theorem zaU3 {body : Int → Option (Int ⊕ (Unit ⊕ Bool))} (t : List Queue) (hl : t.length ≤ 8)
  (hb : ∀ i : Nat, i < t.length → body (i : Int) = some (if zd5 (t.getD i Queue.zero) = true ∧ (i = 0 ∨ ltN (t.getD (i - 1) Queue.zero).resource.name (t.getD i Queue.zero).resource.name) then .inl ((i + 1 : Nat) : Int) else .inr (.inr false)))
  (he : body (t.length : Int) = some (.inr (.inl ()))) : zb6 body 0 = some (if ascW t none = true then .inl () else .inr false) := by
 have key := zY9 (body := body) t Queue.zero (fun i (_ : Unit) => (i : Int)) (fun i q _ => some (if zd5 q = true ∧ (i = 0 ∨ ltN (t.getD (i - 1) Queue.zero).resource.name q.resource.name) then Sum.inl () else Sum.inr (Sum.inr (α := Unit) false))) (fun _ => Sum.inl (β := Bool) ())
  (fun i s hi => by
   rw [hb i hi, Option.map_some]
   split <;> rfl) (fun s => he) ()
 have := zbr2 t t [] rfl
 rw [show (0 : Int) = (fun (i : Nat) (_ : Unit) => (i : Int)) 0 () from rfl, key]
 exact this
theorem zbg2 (t : List Queue) (h : ∀ q ∈ t, zd5 q = true) : (t.flatMap zE7).length ≤ 24 * t.length := by
 induction t with
 | nil => simp
 | cons q t ih =>
  have h1 := zK2 (h q (.head _))
  have h2 := zba8 (q.holds.map (·.proc) ++ (ordQ q).map (·.proc))
  have h3 := ih fun x hx => h x (.tail _ hx)
  have h4 : (zE7 q).length ≤ 24 := by
   unfold zE7
   unfold ordQ at *
   simp only [List.length_append, List.length_map] at h2
   omega
  rw [List.flatMap_cons, List.length_append, List.length_cons]; omega
theorem zaA0 {α β X : Type} (f : α → List β) (fin : List β → X) : ∀ (l : List α) (i : Nat) (s : List β), walk (fun _ a s => some (.inl (s ++ f a))) fin l i s = some (fin (s ++ l.flatMap f))
 | [], i, s => by simp [walk]
 | a :: l, i, s => by
  simp only [walk, List.flatMap_cons]
  rw [zaA0 f fin l (i + 1), List.append_assoc]
theorem zL2 {α : Type} {l : List α} {i : Nat} {z : α} (h : i < l.length) : l.getD i z ∈ l := by
 rw [List.getD_eq_getElem?_getD, List.getElem?_eq_getElem h]; exact List.getElem_mem h
theorem zbb3 {q : Queue} (h : zd5 q = true) : (zE7 q).length ≤ 24 := by
 have := zbg2 [q] fun x hx => by rw [List.mem_singleton] at hx; rw [hx]; exact h
 simpa using this
theorem zaa1 {t : List Queue} (hl : t.length ≤ 8) (h : ∀ q ∈ t, zd5 q = true) : zl4 t = some (zn0 t) := by
 unfold zl4
 have key := zp6 (body := zB0 t) t Queue.zero (fun i (s : List Proc) => ((i : Int), s)) (fun _ q s => some (.inl (s ++ zE7 q))) (fun s => s) (fun i s => s.length ≤ 24 * i)
  (fun i s hi hs => by
   have hq := h _ (zL2 (z := Queue.zero) hi)
   have hql := zK2 hq
   have hpl := zbb3 hq
   refine ⟨?_, fun s' h => ?_⟩
   ·unfold zB0
    have h3 : 0 ≤ (i : Int) ∧ (i : Int) < (t.length : Int) := by omega
    simp only [h3.1, h3.2, and_self, zk7, decide_true, if_true, Int.toNat_natCast]
    rw [zao3 _ (by omega) (by omega) (by omega), Option.bind_some, zb2 (by omega), zd4 i (by omega)]
    rfl
   ·simp only [Option.some.injEq, Sum.inl.injEq] at h; subst h; rw [List.length_append]; omega)
  (fun s hs => by unfold zB0; simp) [] (by simp)
 rw [show ((0, []) : Int × List Proc) = (fun (i : Nat) (s : List Proc) => ((i : Int), s)) 0 [] from rfl, key, zaA0 zE7, List.nil_append, Option.bind_some]
 unfold zI0
 have := zbg2 t h
 rw [zaa0 _ (by omega)]; rfl
theorem zQ3 (t : List Queue) : zj8 t = some (zE8 t) := by
 unfold zj8 zE8 zaw1
 by_cases h8 : 8 < t.length
 ·have : ¬ t.length ≤ 8 := by omega
  rw [if_pos (by simp; omega)]
  simp [this]
 ·have hl : t.length ≤ 8 := by omega
  rw [if_neg (by simp; omega), zaU3 t hl (fun i hi => by
   unfold zI2
   have h3 : 0 ≤ (i : Int) ∧ (i : Int) < (t.length : Int) := by omega
   simp only [h3.1, h3.2, and_self, zk7, decide_true, if_true, Int.toNat_natCast, zZ6, Option.bind_some, zd4 i (by omega)]
   by_cases e0 : i = 0
   ·subst e0
    rw [zb2 (by simp)]
    cases zd5 (t.getD 0 Queue.zero) <;> simp
   ·rw [zaf0 i (by omega) (by omega), zb2 (by intro _; omega)]
    simp only [Int.toNat_natCast, show (0 : Int) < (i : Int) by omega, decide_true, Bool.true_and, e0, false_or]
    unfold ltN
    rcases hb (zd5 (t.getD i Queue.zero)) with b1 | b1 <;> rcases hb (Op.bytesLess (t.getD (i - 1) Queue.zero).resource.name.toList (t.getD i Queue.zero).resource.name.toList) with b2 | b2 <;> simp [b1, b2, -List.getD_eq_getElem?_getD]) (by unfold zI2; simp)]
  simp only [hl, decide_true, Bool.true_and]
  cases hw : ascW t none with
  | false => rfl
  | true =>
   simp only [if_true, Option.bind_some, Bool.true_and]
   unfold zI1
   rw [zaa1 hl ((zaU1 t none).1 hw).1, Option.bind_some]
   congr 1
   rw [Bool.eq_iff_iff]; simp; omega
theorem zby4 {α : Type} (l : List α) (z : α) (p : α → Bool) {body : Int → Option (Int ⊕ (Unit ⊕ Int))} (hb : ∀ i : Nat, i < l.length → body (i : Int) = some (if p (l.getD i z) = true then .inr (.inr (i : Int)) else .inl ((i + 1 : Nat) : Int)))
  (he : body (l.length : Int) = some (.inr (.inl ()))) : zb6 body 0 = some (match l.findIdx? p with | some i => .inr (i : Int) | none => .inl ()) := by
 have key := zY9 (body := body) l z (fun i (_ : Unit) => (i : Int)) (fun i a _ => some (if p a = true then .inr (Sum.inr (α := Unit) (i : Int)) else .inl ())) (fun _ => Sum.inl (β := Int) ())
  (fun i s hi => by rw [hb i hi, Option.map_some]; split <;> rfl) (fun s => he) ()
 have fold : ∀ (l : List α) (i : Nat), walk (fun i a (_ : Unit) => some (if p a = true then .inr (Sum.inr (α := Unit) (i : Int)) else .inl ())) (fun _ => Sum.inl (β := Int) ()) l i () = some (match l.findIdx? p with | some j => .inr ((i + j : Nat) : Int) | none => .inl ()) := by
  intro l
  induction l with
  | nil => intro i; rfl
  | cons a l ih =>
   intro i
   simp only [walk, List.findIdx?_cons]
   by_cases hp : p a = true
   ·simp [hp]
   ·simp only [hp, Bool.false_eq_true, if_false]
    rw [ih (i + 1)]
    cases l.findIdx? p with
    | none => rfl
    | some j => simp only [Option.map_some]; rw [show i + 1 + j = i + (j + 1) by omega]
 have := fold l 0
 simp only [Nat.zero_add] at this
 rw [show (0 : Int) = (fun (i : Nat) (_ : Unit) => (i : Int)) 0 () from rfl, key]
 exact this
def isN (nm : ByteArray) (q : Queue) : Bool := q.resource.name.toList == nm.toList
theorem zbT6 {nm : ByteArray} {q : Queue} : isN nm q = true ↔ q.resource.name = nm := by
 unfold isN; rw [beq_iff_eq]; exact zN2
def zQ4 (t : List Queue) (nm : ByteArray) : Int := match t.findIdx? (isN nm) with
 | some i => i
 | none => -1
theorem zat3 (t : List Queue) (nm : ByteArray) (hl : t.length ≤ 1000000) : zr4 t nm = some (zQ4 t nm) := by
 unfold zr4
 rw [zby4 t Queue.zero (isN nm) (fun i hi => by
  unfold zL3 isN
  have h3 : 0 ≤ (i : Int) ∧ (i : Int) < (t.length : Int) := by omega
  simp only [h3.1, h3.2, and_self, zk7, decide_true, if_true, Int.toNat_natCast, zd4 i (by omega)]
  split <;> rfl) (by unfold zL3; simp)]
 unfold zQ4
 cases t.findIdx? (isN nm) <;> rfl
theorem zbO7 {t : List Queue} {nm : ByteArray} : zQ4 t nm = -1 ∨ ∃ i : Nat, zQ4 t nm = i ∧ i < t.length ∧ (t.getD i Queue.zero).resource.name = nm := by
 unfold zQ4
 cases h : t.findIdx? (isN nm) with
 | none => exact .inl rfl
 | some i =>
  right
  obtain ⟨h1, h2, _⟩ := List.findIdx?_eq_some_iff_getElem.1 h
  refine ⟨i, rfl, h1, ?_⟩
  rw [List.getD_eq_getElem?_getD, List.getElem?_eq_getElem h1]
  exact zbT6.1 h2
end Ab
end Go.Proofs.YtfjeceicgfdmjaaGreatDoor
namespace Go.Proofs.YtfjeceicgfdmjaaGreatDoor
namespace Ab
set_option linter.unusedVariables false
set_option linter.unusedSimpArgs false
theorem zaE8 (x : Proc) (s : List Proc) (hs : s.Pairwise ltP) (hx : x ∉ s) (hl : s.length ≤ 1000000) : zb6 (zu8) ((s.length : Int), s ++ [x]) = some (zU6 x s) := by
 obtain ⟨r, h1, h2⟩ := zae9 (body := zu8) (fun g => ∃ pre post : List Proc, g = ((pre.length : Int), pre ++ x :: post) ∧ pre ++ post = s ∧ ∀ y ∈ post, ltP x y) (fun g => g.1.toNat) (fun r => r = zU6 x s) (by
  rintro g ⟨pre, post, rfl, hp, hpost⟩
  have hpl : pre.length + post.length = s.length := by rw [← hp, List.length_append]
  unfold zu8
  simp only [List.length_append, List.length_cons]
  by_cases h0 : pre = []
  ·right
   subst h0
   refine ⟨_, by rw [zb2 (by simp), zb2 (by simp), if_neg (by simp)], ?_⟩
   simp only [List.nil_append] at hp ⊢
   subst hp
   refine zZ9 (List.pairwise_cons.2 ⟨hpost, hs⟩) (zS3 hs) fun y => ?_
   rw [zS2, List.mem_cons]
  ·obtain ⟨pre', y, rfl⟩ : ∃ p' y, pre = p' ++ [y] := ⟨pre.dropLast, pre.getLast h0, (List.dropLast_concat_getLast h0).symm⟩
   have hk : (pre' ++ [y]).length = pre'.length + 1 := by simp
   rw [hk] at hpl ⊢
   have w : IntKind.i64.wrap (((pre'.length + 1 : Nat) : Int) - 1) = (pre'.length : Int) := by rw [zf2 (by omega) (by omega)]; omega
   have e1 : (pre' ++ [y] ++ x :: post).getD pre'.length Proc.zero = y := by simp [List.getD_eq_getElem?_getD]
   have e2 : (pre' ++ [y] ++ x :: post).getD (pre'.length + 1) Proc.zero = x := by simp [List.getD_eq_getElem?_getD]
   have g1 : 0 ≤ (pre'.length : Int) ∧ (pre'.length : Int) < ((pre'.length + 1 + (post.length + 1) : Nat) : Int) := by omega
   have g2 : 0 ≤ ((pre'.length + 1 : Nat) : Int) ∧ ((pre'.length + 1 : Nat) : Int) < ((pre'.length + 1 + (post.length + 1) : Nat) : Int) := by omega
   have hpos : decide (0 < ((pre'.length + 1 : Nat) : Int)) = true := decide_eq_true (by omega)
   simp only [w, Int.toNat_natCast, e1, e2, hpos, Bool.true_and]
   rw [zb2 (fun _ => g1), zb2 (fun _ => g2)]
   have hlt : decide (0 < zi0 y x) = decide (ltP x y) := by rw [decide_eq_decide]; exact zaR4 y x
   rw [hlt]
   by_cases hxy : ltP x y
   ·left
    rw [if_pos (decide_eq_true hxy), zb2 g1, zb2 g2, zb2 g1, zb2 g2]
    refine ⟨((pre'.length : Int), pre' ++ x :: (y :: post)), ?_, ⟨pre', y :: post, rfl, by rw [← hp]; simp, fun z hz => ?_⟩, by simp only [Int.toNat_natCast]; omega⟩
    ·congr 3
     rw [List.append_assoc, List.set_append_right _ _ (Nat.le_refl _), Nat.sub_self, List.set_append_right _ _ (by omega), show pre'.length + 1 - pre'.length = 1 by omega]
     rfl
    ·rcases List.mem_cons.1 hz with rfl | hz
     ·exact hxy
     ·exact hpost z hz
   ·right
    refine ⟨_, by rw [if_neg (by simpa using hxy)], ?_⟩
    have hyx : ltP y x := by
     rcases zW7 (p := x) (q := y) (fun e => hx (by rw [← hp, e]; simp)) with h | h
     ·exact absurd h hxy
     ·exact h
    rw [← hp] at hs
    obtain ⟨a1, a2, a3⟩ := List.pairwise_append.1 hs
    obtain ⟨b1, b2, b3⟩ := List.pairwise_append.1 a1
    have hpre : ∀ z ∈ pre' ++ [y], ltP z x := fun z hz => by
     rcases List.mem_append.1 hz with hz | hz
     ·exact zaf3 (b3 z hz y (by simp)) hyx
     ·rw [List.mem_singleton] at hz; rw [hz]; exact hyx
    rw [← hp]
    refine zZ9 (List.pairwise_append.2 ⟨a1, List.pairwise_cons.2 ⟨hpost, a2⟩, fun z hz u hu => ?_⟩) (zS3 hs) fun z => ?_
    ·rcases List.mem_cons.1 hu with rfl | hu
     ·exact hpre z hz
     ·exact a3 z hz u hu
    ·rw [zS2]
     simp only [List.mem_append, List.mem_cons, List.mem_singleton]
     constructor
     ·rintro ((h | h) | h | h)
      ·exact .inr (.inl (.inl h))
      ·exact .inr (.inl (.inr h))
      ·exact .inl h
      ·exact .inr (.inr h)
     ·rintro (h | (h | h) | h)
      ·exact .inr (.inl h)
      ·exact .inl (.inl h)
      ·exact .inl (.inr h)
      ·exact .inr (.inr h)) ((s.length : Int), s ++ [x]) ⟨s, [], by simp, by simp, by simp⟩
 rw [h1, h2]
theorem zaa2 (l : List Proc) (hl : l.length ≤ 1000000) : zi8 l = some (zat2 l) := by
 unfold zi8
 have key := zp6 (body := zu9 l) l Proc.zero (fun i (s : List Proc) => ((i : Int), s)) (fun _ p s => some (.inl (zU6 p s))) (fun s => s) (fun i s => s.Pairwise ltP ∧ s.length ≤ i)
  (fun i s hi hs => by
   have hlen : ∀ p, (zU6 p s).length ≤ s.length + 1 := fun p => by
    have := List.Nodup.length_le_of_subset (zaE2 (zS3 (p := p) hs.1)) (l₂ := p :: s) fun z hz => by
     rcases zS2.1 hz with rfl | h
     ·exact .head _
     ·exact .tail _ h
    simpa using this
   refine ⟨?_, fun s' h => ?_⟩
   ·unfold zu9
    have h3 : 0 ≤ (i : Int) ∧ (i : Int) < (l.length : Int) := by omega
    simp only [h3.1, h3.2, and_self, zk7, decide_true, if_true, Int.toNat_natCast]
    rw [zaE3 _ _ (by omega), Option.bind_some, zd4 i (by omega)]
    by_cases hm : l.getD i Proc.zero ∈ s
    ·rw [if_pos (decide_eq_true hm), Option.map_some, zbq7 hs.1 hm]; rfl
    ·rw [if_neg (by rw [decide_eq_true_eq]; exact hm), zb2 (by omega), zaE8 _ _ hs.1 hm (by omega), Option.bind_some]
     unfold zz7
     simp only [zd4 i (show i < 4611686018427387904 by omega), Option.map_some, wmap]
   ·simp only [Option.some.injEq, Sum.inl.injEq] at h; subst h
    exact ⟨zS3 hs.1, by have := hlen (l.getD i Proc.zero); omega⟩)
  (fun s hs => by unfold zu9; simp) [] ⟨.nil, by simp⟩
 rw [show ((0, []) : Int × List Proc) = (fun (i : Nat) (s : List Proc) => ((i : Int), s)) 0 [] from rfl, key, zav6 (fun s p => zU6 p s)]
 rfl
theorem zag3 {α β : Type} (l : List α) (z : α) (f : α → β) (s0 : List β) {body : Int × List β → Option ((Int × List β) ⊕ List β)} (hl : l.length ≤ 1000000) (h0 : s0.length ≤ 1000000)
  (hb : ∀ (i : Nat) (s : List β), i < l.length → s.length ≤ 3000000 → body ((i : Int), s) = some (.inl (((i + 1 : Nat) : Int), s ++ [f (l.getD i z)]))) (he : ∀ s, body ((l.length : Int), s) = some (.inr s)) : zb6 body (0, s0) = some (s0 ++ l.map f) := by
 have key := zp6 (body := body) l z (fun i (s : List β) => ((i : Int), s)) (fun i a s => some (.inl (zaf1 s (some (f a))))) (fun s => s) (fun i s => s.length ≤ 1000000 + i)
  (fun i s hi hs => ⟨by rw [hb i s hi (by omega)]; rfl, fun s' h => by simp only [Option.some.injEq, Sum.inl.injEq] at h; subst h; simp [zaf1]; omega⟩) (fun s hs => he s) s0 (by omega)
 rw [show ((0, s0) : Int × List β) = (fun (i : Nat) (s : List β) => ((i : Int), s)) 0 s0 from rfl, key, zaf2 (fun a => some (f a))]
 simp
theorem zaE9 (l : List Hold) (hl : l.length ≤ 1000000) : zo6 l = some (l.map (·.proc)) := by
 unfold zo6
 rw [zag3 l Hold.zero (·.proc) [] hl (by simp) (fun i s hi hs => by
  unfold zD1
  have h3 : 0 ≤ (i : Int) ∧ (i : Int) < (l.length : Int) := by omega
  have h1 : s.length + 1 ≤ 4294967296 := by omega
  simp only [h1, h3.1, h3.2, and_self, zk7, decide_true, if_true, Int.toNat_natCast, zd4 i (show i < 4611686018427387904 by omega)]) (fun s => by unfold zD1; simp)]
 rfl
theorem zaU4 (q : Queue) (h1 : q.converts.length ≤ 1000) (h2 : q.waits.length ≤ 1000) : zt9 q = some ((ordQ q).map (·.proc)) := by
 unfold zt9
 rw [zag3 q.converts Wait.zero (·.proc) [] (by omega) (by simp) (fun i s hi hs => by
  unfold zJ3
  have h3 : 0 ≤ (i : Int) ∧ (i : Int) < (q.converts.length : Int) := by omega
  have h1 : s.length + 1 ≤ 4294967296 := by omega
  simp only [h1, h3.1, h3.2, and_self, zk7, decide_true, if_true, Int.toNat_natCast, zd4 i (show i < 4611686018427387904 by omega)]) (fun s => by unfold zJ3; simp), Option.bind_some]
 unfold zJ2
 rw [zag3 q.waits Wait.zero (·.proc) _ (by omega) (by simp; omega) (fun i s hi hs => by
  unfold zJ1
  have h3 : 0 ≤ (i : Int) ∧ (i : Int) < (q.waits.length : Int) := by omega
  have h1 : s.length + 1 ≤ 4294967296 := by omega
  simp only [h1, h3.1, h3.2, and_self, zk7, decide_true, if_true, Int.toNat_natCast, zd4 i (show i < 4611686018427387904 by omega)]) (fun s => by unfold zJ1; simp), Option.bind_some]
 unfold zJ0 ordQ
 rw [List.map_append, List.nil_append]
theorem zaU5 (q : Queue) (h0 : q.holds.length ≤ 1000) (h1 : q.converts.length ≤ 1000) (h2 : q.waits.length ≤ 1000) : zu0 q = some (zE7 q) := by
 unfold zu0 zE7
 have hl : (ordQ q).length ≤ 2000 := by unfold ordQ; rw [List.length_append]; omega
 rw [zaE9 _ (by omega), Option.bind_some, zaU4 q h1 h2, Option.bind_some, zb2 (by simp; omega), zaa2 _ (by simp; omega)]
 rfl
theorem zao4 {t : List Queue} (hl : t.length ≤ 8) (h : ∀ q ∈ t, zd5 q = true) : zq7 t = some (zn0 t) := by
 unfold zq7
 have key := zp6 (body := zB5 t) t Queue.zero (fun i (s : List Proc) => ((i : Int), s)) (fun _ q s => some (.inl (s ++ zE7 q))) (fun s => s) (fun i s => s.length ≤ 24 * i)
  (fun i s hi hs => by
   have hq := h _ (zL2 (z := Queue.zero) hi)
   have hql := zK2 hq
   have hpl := zbb3 hq
   refine ⟨?_, fun s' h => ?_⟩
   ·unfold zB5
    have h3 : 0 ≤ (i : Int) ∧ (i : Int) < (t.length : Int) := by omega
    simp only [h3.1, h3.2, and_self, zk7, decide_true, if_true, Int.toNat_natCast]
    rw [zaU5 _ (by omega) (by omega) (by omega), Option.bind_some, zb2 (by omega), zd4 i (by omega)]
    rfl
   ·simp only [Option.some.injEq, Sum.inl.injEq] at h; subst h; rw [List.length_append]; omega)
  (fun s hs => by unfold zB5; simp) [] (by simp)
 rw [show ((0, []) : Int × List Proc) = (fun (i : Nat) (s : List Proc) => ((i : Int), s)) 0 [] from rfl, key, zaA0 zE7, List.nil_append, Option.bind_some]
 unfold zJ4
 have := zbg2 t h
 rw [zaa2 _ (by omega)]; rfl
theorem zaU6 (t : List Queue) : zt8 t = some (zaw1 t) := by
 unfold zt8 zaw1
 by_cases h8 : 8 < t.length
 ·have : ¬ t.length ≤ 8 := by omega
  rw [if_pos (by simp; omega)]
  simp [this]
 ·have hl : t.length ≤ 8 := by omega
  rw [if_neg (by simp; omega), zaU3 t hl (fun i hi => by
   unfold zI9
   have h3 : 0 ≤ (i : Int) ∧ (i : Int) < (t.length : Int) := by omega
   simp only [h3.1, h3.2, and_self, implies_true, zk7, decide_true, if_true, Int.toNat_natCast, zan4, Option.bind_some, zd4 i (by omega)]
   by_cases e0 : i = 0
   ·subst e0
    rw [zb2 (by simp)]
    cases zd5 (t.getD 0 Queue.zero) <;> simp
   ·rw [zaf0 i (by omega) (by omega), zb2 (by intro _; omega)]
    simp only [Int.toNat_natCast, show (0 : Int) < (i : Int) by omega, decide_true, Bool.true_and, e0, false_or]
    unfold ltN
    rcases hb (zd5 (t.getD i Queue.zero)) with b1 | b1 <;> rcases hb (Op.bytesLess (t.getD (i - 1) Queue.zero).resource.name.toList (t.getD i Queue.zero).resource.name.toList) with b2 | b2 <;> simp [b1, b2, -List.getD_eq_getElem?_getD]) (by unfold zI9; simp)]
  simp only [hl, decide_true, Bool.true_and]
  cases hw : ascW t none <;> rfl
theorem zao5 (t : List Queue) : zl8 t = some (zE8 t) := by
 unfold zl8 zE8
 rw [zaU6, Option.bind_some]
 cases hp : zaw1 t with
 | false => rfl
 | true =>
  obtain ⟨h1, h2, _⟩ := (zaU2 t).1 hp
  rw [if_pos rfl, zao4 h1 h2, Option.bind_some, Bool.true_and]
  congr 1
  rw [Bool.eq_iff_iff]; simp; omega
theorem zbr3 (a b : List Queue) (h : a.length = b.length) (hl : a.length ≤ 1000000) (hs : ∀ q ∈ a, q.holds.length ≤ 1000 ∧ q.converts.length ≤ 1000 ∧ q.waits.length ≤ 1000) :
  zb6 (zz2 a b) 0 = some (if a = b then .inl () else .inr false) := by
 have key : zb6 (zz2 a b) 0 = some ((zp3 (fun i => if decide (a.getD i Queue.zero = b.getD i Queue.zero) = true then none else some (Sum.inr false)) a.length 0).getD (Sum.inl ())) := by
  refine zr8 a.length _ (Sum.inl ()) (fun i hi => ?_) ?_
  ·have hq := hs _ (zL2 (z := Queue.zero) hi)
   unfold zz2
   rw [if_pos (by simpa using hi), zb2 (by omega), zb2 (by omega), zf2 (by omega) (by omega)]
   simp only [Int.toNat_natCast]
   rw [zaW9 _ _ (by omega) (by omega) (by omega), Option.bind_some]
   by_cases hx : a.getD i Queue.zero = b.getD i Queue.zero
   ·simp only [hx, decide_true, Bool.not_true, Bool.false_eq_true, if_false, if_true]
   ·simp only [hx, decide_false, Bool.not_false, if_true, Bool.false_eq_true, if_false]
  ·unfold zz2
   rw [if_neg (by simp)]
 rw [key, zz0, ← List.range_eq_range', zbM7 a b Queue.zero h]
 by_cases e : a = b <;> simp [e]
theorem zat4 (a b : List Queue) (hl : a.length ≤ 1000000) (hs : ∀ q ∈ a, q.holds.length ≤ 1000 ∧ q.converts.length ≤ 1000 ∧ q.waits.length ≤ 1000) : zr5 a b = some (decide (a = b)) := by
 unfold zr5
 by_cases h : a.length = b.length
 ·rw [if_neg (by simp [h]), zbr3 a b h hl hs]
  by_cases e : a = b <;> simp [e, zL4]
 ·have : ¬ a = b := fun e => h (by rw [e])
  rw [if_pos (by simp; omega), decide_eq_false this]
theorem zat5 (a b : List Event) (ha : a.length ≤ 1000000) : zh6 a b = some (decide (a = b)) := by
 unfold zh6
 by_cases h : a.length = b.length
 ·rw [if_neg (by simp [h])]
  exact zaD0 a b Event.zero (by omega) h (fun i => rfl)
 ·have : ¬ a = b := fun e => h (by rw [e])
  rw [if_pos (by simp; omega), decide_eq_false this]
end Ab
end Go.Proofs.YtfjeceicgfdmjaaGreatDoor
namespace Go.Proofs.YtfjeceicgfdmjaaGreatDoor
namespace Ab
set_option linter.unusedVariables false
set_option linter.unusedSimpArgs false
def zbg3 (nm : ByteArray) (h : Hold) : Event := ⟨1, h.proc, nm, h.amount⟩
def zab6 (nm : ByteArray) (l : List Hold) : List Event := l.map (zbg3 nm)
def zeB5 (p : Proc) (nm : ByteArray) (a : Amount) : Event := ⟨3, p, nm, a⟩
theorem zbT7 (nm : ByteArray) (l : List Hold) (hl : l.length ≤ 1000000) : zk9 nm l = some (zab6 nm l) := by
 unfold zk9
 rw [zag3 l Hold.zero (zbg3 nm) [] hl (by simp) (fun i s hi hs => by
  unfold zF0
  have h3 : 0 ≤ (i : Int) ∧ (i : Int) < (l.length : Int) := by omega
  have h1 : s.length + 1 ≤ 4294967296 := by omega
  simp only [h1, h3.1, h3.2, and_self, zk7, decide_true, if_true, Int.toNat_natCast, zd4 i (show i < 4611686018427387904 by omega)]
  rfl) (fun s => by unfold zF0; simp)]
 rfl
theorem zbn2 (nm : ByteArray) (l : List Hold) (ev : List Event) (hl : l.length ≤ 1000000) (he : ev.length ≤ 1000000) : zw4 nm l ev = some (ev ++ zab6 nm l) := by
 unfold zw4
 rw [zag3 l Hold.zero (zbg3 nm) ev hl he (fun i s hi hs => by
  unfold zD4
  have h3 : 0 ≤ (i : Int) ∧ (i : Int) < (l.length : Int) := by omega
  have h1 : s.length + 1 ≤ 4294967296 := by omega
  simp only [h1, h3.1, h3.2, and_self, zk7, decide_true, if_true, Int.toNat_natCast, zd4 i (show i < 4611686018427387904 by omega)]
  rfl) (fun s => by unfold zD4; simp)]
 rfl
theorem zaX3 (nm : ByteArray) (l : List Hold) (hl : l.length ≤ 1000000) : zl1 nm l = some (zab6 nm l) := by
 unfold zl1
 rw [zag3 l Hold.zero (zbg3 nm) [] hl (by simp) (fun i s hi hs => by
  unfold zF1
  have h3 : 0 ≤ (i : Int) ∧ (i : Int) < (l.length : Int) := by omega
  have h1 : s.length + 1 ≤ 4294967296 := by omega
  simp only [h1, h3.1, h3.2, and_self, implies_true, zk7, decide_true, if_true, Int.toNat_natCast, zd4 i (show i < 4611686018427387904 by omega)]
  rfl) (fun s => by unfold zF1; simp)]
 rfl
def zbb4 (t : List Queue) (i : Int) (q : Queue) : List Queue := if 0 ≤ i then t.set i.toNat q else t
def Lens (t : List Queue) : Prop := ∀ q ∈ t, q.holds.length ≤ 1000 ∧ q.converts.length ≤ 1000 ∧ q.waits.length ≤ 1000
theorem zbg4 (t : List Queue) (hl : t.length ≤ 1000) (hs : Lens t) : zb6 (zy4 t) (0, List.replicate t.length Queue.zero) = some t := by
 obtain ⟨x, hx, hp⟩ := zae9 (body := zy4 t) (fun g => ∃ i : Nat, i ≤ t.length ∧ g.1 = (i : Int) ∧ g.2.length = t.length ∧ g.2.take i = t.take i) (fun g => t.length - g.1.toNat) (fun x => x = t) (by
  rintro ⟨gi, s⟩ ⟨i, hi, h1, h2, h3⟩
  simp only at h1 h2 h3
  subst h1
  unfold zy4
  by_cases hlt : i < t.length
  ·left
   have hq := hs _ (zL2 (z := Queue.zero) hlt)
   have g3 : 0 ≤ (i : Int) ∧ (i : Int) < (t.length : Int) := by omega
   have g4 : 0 ≤ (i : Int) ∧ (i : Int) < ((s.length : Nat) : Int) := by omega
   refine ⟨(((i + 1 : Nat) : Int), s.set i (t.getD i Queue.zero)), ?_, ⟨i + 1, by omega, rfl, by simp [h2], ?_⟩, by simp only [Int.toNat_natCast]; omega⟩
   ·simp only [Int.toNat_natCast, zd4 i (show i < 4611686018427387904 by omega)]
    rw [if_pos (decide_eq_true g3.2), zb2 g3, zb2 (by omega), zb2 (by omega), zb2 (by omega), zb2 g4]
   ·simp only
    rw [zap7 (z := Queue.zero) (show i < (s.set i (t.getD i Queue.zero)).length by rw [List.length_set]; omega), List.take_set_of_le (Nat.le_refl _), h3, zac6 _ _ _ _ (by omega), zap7 (z := Queue.zero) hlt]
  ·right
   have : i = t.length := by omega
   subst this
   refine ⟨s, by rw [if_neg (by simp)], ?_⟩
   rw [List.take_of_length_le (by omega), List.take_length] at h3
   exact h3) (0, List.replicate t.length Queue.zero) ⟨0, by omega, rfl, by simp, by simp⟩
 rw [hx, hp]
theorem zS4 (t : List Queue) (i : Int) (q : Queue) (hl : t.length ≤ 1000) (hs : Lens t) (hi : i < t.length) : zf3 t i q = some (zbb4 t i q) := by
 unfold zf3
 rw [zb2 (by omega), Int.toNat_natCast, zbg4 t hl hs, Option.bind_some]
 unfold zC9 zbb4
 by_cases h0 : 0 ≤ i
 ·rw [if_pos (decide_eq_true h0), zb2 (by omega), if_pos h0]
 ·rw [if_neg (by simpa using h0), if_neg h0]
theorem zaw2 (t : List Queue) (i : Int) (q : Queue) (hl : t.length ≤ 1000) (hs : Lens t) (hi : i < t.length) : zn1 t i q = some (zbb4 t i q) := by
 have e : zn1 t i q = zf3 t i q := rfl
 rw [e]; exact zS4 t i q hl hs hi
theorem ValidT.lens {t : List Queue} (h : ValidT t) : Lens t := fun q hq => by
 have := zK2 (h.each q hq)
 omega
abbrev ResT := List Queue × List Event × Int
def errT (e : Int) : ResT := ([], [], e)
def putT (t : List Queue) (nm : ByteArray) (x : Queue × List Hold × Int) (ev : List Event) : ResT := if x.2.2 = 0 then (zbb4 t (zQ4 t nm) x.1, ev ++ zab6 nm x.2.1, 0) else errT x.2.2
def atT (t : List Queue) (nm : ByteArray) (f : Queue → ResT) : ResT := if zE8 t = false then errT 2 else if zQ4 t nm < 0 then errT 10 else f (t.getD (zQ4 t nm).toNat Queue.zero)
def zbu1 (t : List Queue) (p : Proc) : Bool := decide (8 ≤ (zn0 t).length) && !decide (p ∈ zn0 t)
def zbr4 (t : List Queue) (p : Proc) (a : Atom) (pr : Int) : ResT := atT t a.name fun q => if zbu1 t p = true then errT 4 else putT t a.name (zQ2 q p a.amount pr) []
theorem nd0 {P : Prop} [Decidable P] (h : P) : ¬ ((!decide P) = true) := by simp [h]
theorem nd1 {P : Prop} [Decidable P] (h : ¬ P) : (!decide P) = true := by simp [h]
theorem zbn3 (t : List Queue) (nm : ByteArray) : zw3 t nm = some (if zE8 t = false then (0, 2) else if zQ4 t nm < 0 then (0, 10) else (zQ4 t nm, 0)) := by
 unfold zw3
 rw [zQ3, Option.bind_some]
 cases hv : zE8 t with
 | false => rfl
 | true =>
  have hl := ((zD7 t).1 hv).len
  rw [ifNT, ifTF, zat3 _ _ (by omega), Option.bind_some]
  by_cases hf : zQ4 t nm < 0
  ·rw [if_pos (decide_eq_true hf), if_pos hf]
  ·rw [if_neg (by simpa using hf), if_neg hf]
theorem zaU7 {t : List Queue} {nm : ByteArray} (h : ¬ zQ4 t nm < 0) : 0 ≤ zQ4 t nm ∧ zQ4 t nm < t.length := by
 rcases zbO7 (t := t) (nm := nm) with h1 | ⟨i, h1, h2, _⟩
 ·omega
 ·omega
theorem zbg5 {t : List Queue} (h : ValidT t) {nm : ByteArray} (hf : ¬ zQ4 t nm < 0) : zd5 (t.getD (zQ4 t nm).toNat Queue.zero) = true := by
 have := zaU7 hf
 exact h.each _ (zL2 (by omega))
theorem zbT8 {t : List Queue} (h : ValidT t) (p : Proc) : ((!decide (p ∈ zn0 t)) && (decide (8 ≤ ((zn0 t).length : Int)))) = zbu1 t p := by
 unfold zbu1
 rw [Bool.and_comm]
 congr 1
 rw [decide_eq_decide]; omega
theorem zaU8 (t : List Queue) (p : Proc) (a : Atom) (pr : Int) : zt6 t p a pr = some (zbr4 t p a pr) := by
 unfold zt6 zbr4 atT
 rw [zbn3, Option.bind_some]
 cases hv : zE8 t with
 | false => rfl
 | true =>
  have h := (zD7 t).1 hv
  have hl := h.len
  have hpl := h.procs
  simp only [Bool.true_eq_false, if_false]
  by_cases hf : zQ4 t a.name < 0
  ·rw [if_pos hf, if_pos hf]; rfl
  ·have hr := zaU7 hf
   have hs := zbg5 h hf
   have hsh := zbg0 (t.getD (zQ4 t a.name).toNat Queue.zero) p a.amount pr
   simp only [if_neg hf, decide_true, Bool.not_true, Bool.false_eq_true, if_false, zaa1 hl h.each, Option.bind_some, zag2 (zn0 t) p (by omega), zbT8 h p]
   cases hfu : zbu1 t p with
   | true => rfl
   | false =>
    simp only [Bool.false_eq_true, if_false]
    rw [zb2 (by omega), zaT9, Option.bind_some]
    unfold putT
    by_cases e : (zQ2 (t.getD (zQ4 t a.name).toNat Queue.zero) p a.amount pr).2.2 = 0
    ·rw [if_neg (nd0 e), if_pos e, zS4 _ _ _ (by omega) h.lens (by omega), Option.bind_some, zbT7 _ _ (by have := hsh.2.2.2; omega)]; rfl
    ·rw [if_pos (nd1 e), if_neg e]; rfl
end Ab
end Go.Proofs.YtfjeceicgfdmjaaGreatDoor
namespace Go.Proofs.YtfjeceicgfdmjaaGreatDoor
namespace Ab
set_option linter.unusedVariables false
set_option linter.unusedSimpArgs false
def ascR : List Resource → Option ByteArray → Bool
 | [], _ => true
 | r :: l, pv => resV r && ((match pv with | none => true | some n => decide (ltN n r.name)) && ascR l (some r.name))
theorem zbn4 : ∀ (l : List Resource) (pv : Option ByteArray), ascR l pv = true ↔ (∀ r ∈ l, resV r = true) ∧ l.Pairwise (fun a b => ltN a.name b.name) ∧ ∀ n, pv = some n → ∀ r ∈ l, ltN n r.name
 | [], pv => by
  simp only [ascR, List.not_mem_nil, false_implies, implies_true, and_true, true_and, true_iff]
  exact .nil
 | q :: t, pv => by
  simp only [ascR, Bool.and_eq_true]
  rw [zbn4 t (some q.name)]
  constructor
  ·rintro ⟨h1, h2, h3, h4, h5⟩
   refine ⟨fun x hx => ?_, List.pairwise_cons.2 ⟨fun x hx => h5 _ rfl x hx, h4⟩, fun n hn x hx => ?_⟩
   ·rcases List.mem_cons.1 hx with rfl | hx
    ·exact h1
    ·exact h3 x hx
   ·subst hn
    simp only [decide_eq_true_eq] at h2
    rcases List.mem_cons.1 hx with rfl | hx
    ·exact h2
    ·exact zbb1 h2 (h5 _ rfl x hx)
  ·rintro ⟨h1, h2, h3⟩
   have h2' := List.pairwise_cons.1 h2
   refine ⟨h1 q (.head _), ?_, fun x hx => h1 x (.tail _ hx), h2'.2, fun n hn x hx => by cases hn; exact h2'.1 x hx⟩
   cases pv with
   | none => rfl
   | some n => exact decide_eq_true (h3 n rfl q (.head _))
def catV (l : List Resource) : Bool := decide (l.length ≤ 8) && ascR l none
theorem zbO8 (l : List Resource) : catV l = true ↔ l.length ≤ 8 ∧ (∀ r ∈ l, resV r = true) ∧ l.Pairwise (fun a b => ltN a.name b.name) := by
 unfold catV
 rw [Bool.and_eq_true, decide_eq_true_eq, zbn4]
 simp
theorem zby5 (t0 : List Resource) : ∀ (t prev : List Resource), t0 = prev ++ t →
  walk (fun i q (_ : Unit) => some (if resV q = true ∧ (i = 0 ∨ ltN (t0.getD (i - 1) Resource.zero).name q.name) then Sum.inl () else Sum.inr (Sum.inr (α := Unit) false))) (fun _ => Sum.inl (β := Bool) ()) t prev.length () =
   some (if ascR t (prev.getLast?.map (·.name)) = true then .inl () else .inr false) := by
 intro t
 induction t with
 | nil => intro prev _; simp [walk, ascR]
 | cons q t ih =>
  intro prev ht
  simp only [walk]
  have hq : (prev.length = 0 ∨ ltN (t0.getD (prev.length - 1) Resource.zero).name q.name) ↔ (match prev.getLast?.map (·.name) with | none => true | some n => decide (ltN n q.name)) = true := by
   by_cases hp : prev = []
   ·subst hp; simp
   ·have h1 := zbb2 prev (q :: t) Resource.zero hp
    rw [ht, h1, List.getLast?_eq_some_getLast hp]
    have : prev.length ≠ 0 := fun e => hp (List.eq_nil_of_length_eq_zero e)
    simp [this]
  by_cases e : resV q = true ∧ (prev.length = 0 ∨ ltN (t0.getD (prev.length - 1) Resource.zero).name q.name)
  ·rw [if_pos e]
   have := ih (prev ++ [q]) (by rw [ht]; simp)
   rw [show (prev ++ [q]).length = prev.length + 1 by simp] at this
   simp only
   have h2 : ascR (q :: t) (prev.getLast?.map (·.name)) = ascR t (some q.name) := by simp only [ascR, e.1, hq.1 e.2, Bool.true_and]
   rw [this, h2]
   simp
  ·rw [if_neg e]
   rw [hq] at e
   have hf : ascR (q :: t) (prev.getLast?.map (·.name)) = false := by
    rw [Bool.eq_false_iff]
    intro hh
    simp only [ascR, Bool.and_eq_true] at hh
    exact e ⟨hh.1, hh.2.1⟩
   rw [hf]; rfl
theorem zbO9 {body : Int → Option (Int ⊕ (Unit ⊕ Bool))} (t : List Resource) (hl : t.length ≤ 8)
  (hb : ∀ i : Nat, i < t.length → body (i : Int) = some (if resV (t.getD i Resource.zero) = true ∧ (i = 0 ∨ ltN (t.getD (i - 1) Resource.zero).name (t.getD i Resource.zero).name) then .inl ((i + 1 : Nat) : Int) else .inr (.inr false)))
  (he : body (t.length : Int) = some (.inr (.inl ()))) : zb6 body 0 = some (if ascR t none = true then .inl () else .inr false) := by
 have key := zY9 (body := body) t Resource.zero (fun i (_ : Unit) => (i : Int)) (fun i q _ => some (if resV q = true ∧ (i = 0 ∨ ltN (t.getD (i - 1) Resource.zero).name q.name) then Sum.inl () else Sum.inr (Sum.inr (α := Unit) false))) (fun _ => Sum.inl (β := Bool) ())
  (fun i s hi => by
   rw [hb i hi, Option.map_some]
   split <;> rfl) (fun s => he) ()
 have := zby5 t t [] rfl
 rw [show (0 : Int) = (fun (i : Nat) (_ : Unit) => (i : Int)) 0 () from rfl, key]
 exact this
theorem zaF0 (t : List Resource) : zj0 t = some (catV t) := by
 unfold zj0 catV
 by_cases h8 : 8 < t.length
 ·have : ¬ t.length ≤ 8 := by omega
  rw [if_pos (by simp; omega)]
  simp [this]
 ·have hl : t.length ≤ 8 := by omega
  rw [if_neg (by simp; omega), zbO9 t hl (fun i hi => by
   unfold zC4
   have h3 : 0 ≤ (i : Int) ∧ (i : Int) < (t.length : Int) := by omega
   simp only [h3.1, h3.2, and_self, implies_true, zk7, decide_true, if_true, Int.toNat_natCast, zZ3, Option.bind_some, zd4 i (by omega)]
   by_cases e0 : i = 0
   ·subst e0
    rw [zb2 (by simp)]
    cases resV (t.getD 0 Resource.zero) <;> simp
   ·rw [zaf0 i (by omega) (by omega), zb2 (by intro _; omega)]
    simp only [Int.toNat_natCast, show (0 : Int) < (i : Int) by omega, decide_true, Bool.true_and, e0, false_or]
    unfold ltN
    rcases hb (resV (t.getD i Resource.zero)) with b1 | b1 <;> rcases hb (Op.bytesLess (t.getD (i - 1) Resource.zero).name.toList (t.getD i Resource.zero).name.toList) with b2 | b2 <;> simp [b1, b2, -List.getD_eq_getElem?_getD]) (by unfold zC4; simp)]
  simp only [hl, decide_true, Bool.true_and]
  cases hw : ascR t none <;> rfl
def newT (l : List Resource) : List Queue × Int := if catV l = true then (l.map zaU0, 0) else ([], 1)
theorem zbg6 (l : List Resource) : zu3 l = some (newT l) := by
 unfold zu3 newT
 rw [zaF0, Option.bind_some]
 cases h : catV l with
 | false => rfl
 | true =>
  obtain ⟨hl, hv, _⟩ := (zbO8 l).1 h
  have key := zp6 (body := zF9 l) l Resource.zero (fun i (s : List Queue) => ((i : Int), s)) (fun _ r s => some (.inl (s ++ [zaU0 r]))) (fun s => .inl s) (fun i s => s.length = i)
   (fun i s hi hs => by
    refine ⟨?_, fun s' h => by simp only [Option.some.injEq, Sum.inl.injEq] at h; subst h; simp [hs]⟩
    unfold zF9
    have h3 : 0 ≤ (i : Int) ∧ (i : Int) < (l.length : Int) := by omega
    have h1 : s.length + 1 ≤ 4294967296 := by omega
    have hr : newQ (l.getD i Resource.zero) = (zaU0 (l.getD i Resource.zero), 0) := by unfold newQ; rw [if_pos (hv _ (zL2 hi))]; rfl
    simp only [h1, h3.1, h3.2, and_self, zk7, decide_true, if_true, Int.toNat_natCast, zd4 i (show i < 4611686018427387904 by omega), zbe8, hr, Option.bind_some, Bool.not_true, Bool.false_eq_true, if_false]
    rfl)
   (fun s hs => by unfold zF9; simp) [] rfl
  have fold : ∀ (l : List Resource) (i : Nat) (s : List Queue), walk (fun (_ : Nat) r (s : List Queue) => some (Sum.inl (β := List Queue ⊕ List Queue × Int) (s ++ [zaU0 r]))) (fun s => Sum.inl s) l i s = some (.inl (s ++ l.map zaU0)) := by
   intro l
   induction l with
   | nil => intro i s; simp [walk]
   | cons r l ih => intro i s; simp only [walk, List.map_cons]; rw [ih (i + 1), List.append_assoc]; rfl
  rw [ifNT, show ((0, []) : Int × List Queue) = (fun (i : Nat) (s : List Queue) => ((i : Int), s)) 0 [] from rfl, key, fold]
  rfl
def zbn5 (p : Proc) (q : Queue) : List Atom := if getH q.holds p = Amount.zero then [] else [⟨q.resource.name, getH q.holds p⟩]
theorem zbn6 (t : List Queue) (p : Proc) (hl : t.length ≤ 1000) (hs : Lens t) : zm6 t p = some (t.flatMap (zbn5 p)) := by
 unfold zm6
 have key := zp6 (body := zw7 t p) t Queue.zero (fun i (s : List Atom) => ((i : Int), s)) (fun _ q s => some (.inl (s ++ zbn5 p q))) (fun s => s) (fun i s => s.length ≤ i)
  (fun i s hi hs' => by
   have hq := hs _ (zL2 (z := Queue.zero) hi)
   have h3 : 0 ≤ (i : Int) ∧ (i : Int) < (t.length : Int) := by omega
   have h1 : s.length + 1 ≤ 4294967296 := by omega
   refine ⟨?_, fun s' h => ?_⟩
   ·unfold zw7 zbn5
    simp only [h1, h3.1, h3.2, and_self, zk7, decide_true, if_true, Int.toNat_natCast, zd4 i (show i < 4611686018427387904 by omega)]
    rw [zE3 _ _ (by omega), Option.bind_some]
    by_cases e : getH (t.getD i Queue.zero).holds p = Amount.zero
    ·rw [if_neg (nd0 e), if_pos e, List.append_nil]; rfl
    ·rw [if_pos (nd1 e), if_neg e]; rfl
   ·simp only [Option.some.injEq, Sum.inl.injEq] at h; subst h
    unfold zbn5
    split
    ·simp; omega
    ·simp; omega)
  (fun s hs => by unfold zw7; simp) [] (by simp)
 rw [show ((0, []) : Int × List Atom) = (fun (i : Nat) (s : List Atom) => ((i : Int), s)) 0 [] from rfl, key, zaA0 (zbn5 p)]
 rfl
def tR : Resource := ⟨⟨#[97]⟩, 1, 1, 0⟩
def tP0 : Proc := ⟨0, 1, 1⟩
def aT0 : List Queue := [⟨tR, [], [], [], 0⟩]
def aT1 : List Queue := [⟨tR, [⟨tP0, ⟨5, 0⟩⟩], [], [], 1⟩]
theorem zbu2 : zq3 = some true := by
 unfold zq3
 have p0 : zbO6 0 = tP0 := by decide
 have e1 : newT [{ Resource.zero with name := (⟨#[97]⟩ : ByteArray), kind := 1, units := 1 }] = (aT0, 0) := by decide +kernel
 have e2 : zbr4 aT0 tP0 (⟨(⟨#[97]⟩ : ByteArray), { Amount.zero with mode := 5 }⟩ : Atom) 0 = (aT1, [⟨1, tP0, ⟨#[97]⟩, ⟨5, 0⟩⟩], 0) := by decide +kernel
 simp only [zbg1, Option.bind_some, p0, zbg6, e1, zaU8, e2]
 rw [zbn6 aT1 _ (by decide) (by intro q hq; rw [List.mem_singleton.1 hq]; exact ⟨by decide, by decide, by decide⟩), Option.bind_some, zat3 aT1 _ (by decide), zQ3]
 decide +kernel
theorem zbP0 (t : List Queue) : zt7 t = some (decide (t.length ≤ 20) && t.all fun q => decide (q.holds.length ≤ 20 ∧ q.converts.length ≤ 20 ∧ q.waits.length ≤ 20)) := by
 unfold zt7
 by_cases h : 20 < t.length
 ·have : ¬ t.length ≤ 20 := by omega
  rw [if_pos (by simp; omega)]
  simp [this]
 ·have hl : t.length ≤ 20 := by omega
  rw [if_neg (by simp; omega)]
  have key := zY9 (body := zB1 t) t Queue.zero (fun i (_ : Unit) => (i : Int)) (fun _ q _ => some (if q.holds.length ≤ 20 ∧ q.converts.length ≤ 20 ∧ q.waits.length ≤ 20 then Sum.inl () else Sum.inr (Sum.inr (α := Unit) false))) (fun _ => Sum.inl (β := Bool) ())
   (fun i s hi => by
    unfold zB1
    have h3 : 0 ≤ (i : Int) ∧ (i : Int) < (t.length : Int) := by omega
    simp only [h3.1, h3.2, and_self, implies_true, zk7, decide_true, if_true, Int.toNat_natCast, zd4 i (show i < 4611686018427387904 by omega), Option.map_some]
    by_cases e : (t.getD i Queue.zero).holds.length ≤ 20 ∧ (t.getD i Queue.zero).converts.length ≤ 20 ∧ (t.getD i Queue.zero).waits.length ≤ 20
    ·have g : ((decide (20 < ((t.getD i Queue.zero).holds.length : Int)) || decide (20 < ((t.getD i Queue.zero).converts.length : Int))) || decide (20 < ((t.getD i Queue.zero).waits.length : Int))) = false := by
      simp only [Bool.or_eq_false_iff, decide_eq_false_iff_not]; omega
     rw [g, if_neg (by simp), if_pos e]; rfl
    ·have g : ((decide (20 < ((t.getD i Queue.zero).holds.length : Int)) || decide (20 < ((t.getD i Queue.zero).converts.length : Int))) || decide (20 < ((t.getD i Queue.zero).waits.length : Int))) = true := by
      simp only [Bool.or_eq_true, decide_eq_true_eq]; omega
     rw [g, if_pos rfl, if_neg e]; rfl) (fun s => by unfold zB1; simp) ()
  have fold : ∀ (l : List Queue) (i : Nat), walk (fun (_ : Nat) (q : Queue) (_ : Unit) => some (if q.holds.length ≤ 20 ∧ q.converts.length ≤ 20 ∧ q.waits.length ≤ 20 then Sum.inl () else Sum.inr (Sum.inr (α := Unit) false))) (fun _ => Sum.inl (β := Bool) ()) l i () = some (if (l.all fun q => decide (q.holds.length ≤ 20 ∧ q.converts.length ≤ 20 ∧ q.waits.length ≤ 20)) = true then .inl () else .inr false) := by
   intro l
   induction l with
   | nil => intro i; rfl
   | cons q l ih =>
    intro i
    simp only [walk, List.all_cons]
    by_cases e : q.holds.length ≤ 20 ∧ q.converts.length ≤ 20 ∧ q.waits.length ≤ 20
    ·have hd := decide_eq_true e
     rw [if_pos e]; simp only; rw [ih (i + 1)]
     simp only [hd, Bool.true_and]
    ·have hd := decide_eq_false e
     rw [if_neg e]
     simp only [hd, Bool.false_and, Bool.false_eq_true, if_false]
  rw [show (0 : Int) = (fun (i : Nat) (_ : Unit) => (i : Int)) 0 () from rfl, key, fold, Option.bind_some]
  simp only [hl, decide_true, Bool.true_and]
  rcases hb (t.all fun q => decide (q.holds.length ≤ 20 ∧ q.converts.length ≤ 20 ∧ q.waits.length ≤ 20)) with b | b <;> simp only [b] <;> rfl
structure Small (t : List Queue) : Prop where
 len : t.length ≤ 20
 lens : Lens t
end Ab
end Go.Proofs.YtfjeceicgfdmjaaGreatDoor
namespace Go.Proofs.YtfjeceicgfdmjaaGreatDoor
namespace Ab
set_option linter.unusedVariables false
set_option linter.unusedSimpArgs false
theorem zat6 {α : Type} (l : List α) (i : Nat) (z : α) (h : i < l.length) : l.set i (l.getD i z) = l := by
 rw [List.getD_eq_getElem?_getD, List.getElem?_eq_getElem h, Option.getD_some, List.set_getElem_self]
theorem zbn7 {body : Int × List Queue × List Event → Option ((Int × List Queue × List Event) ⊕ (List Queue × List Event))} (t : List Queue) (f : Queue → Queue) (e : Queue → List Event) (hl : t.length ≤ 1000) (he : ∀ q ∈ t, (e q).length ≤ 100)
  (hb : ∀ (i : Nat) (s : List Queue) (ev : List Event), i < t.length → s.length = t.length → s.getD i Queue.zero = t.getD i Queue.zero → ev.length ≤ 100000 → body ((i : Int), s, ev) = some (.inl (((i + 1 : Nat) : Int), s.set i (f (t.getD i Queue.zero)), ev ++ e (t.getD i Queue.zero))))
  (hend : ∀ (s : List Queue) (ev : List Event), s.length = t.length → body ((t.length : Int), s, ev) = some (.inr (s, ev))) : zb6 body (0, t, []) = some (t.map f, t.flatMap e) := by
 have hev : ∀ i, i ≤ t.length → ((t.take i).flatMap e).length ≤ 100 * i := by
  intro i
  induction i with
  | zero => intro _; simp
  | succ i ih =>
   intro hi
   rw [zap7 (z := Queue.zero) (by omega), List.flatMap_append, List.length_append]
   have := ih (by omega)
   have h2 := he _ (zL2 (z := Queue.zero) (show i < t.length by omega))
   simp only [List.flatMap_cons, List.flatMap_nil, List.append_nil]
   omega
 obtain ⟨x, hx, hp⟩ := zae9 (body := body) (fun g => ∃ i : Nat, i ≤ t.length ∧ g = ((i : Int), (t.take i).map f ++ t.drop i, (t.take i).flatMap e)) (fun g => t.length - g.1.toNat) (fun x => x = (t.map f, t.flatMap e)) (by
  rintro g ⟨i, hi, rfl⟩
  have hsl : ((t.take i).map f ++ t.drop i).length = t.length := by rw [List.length_append, List.length_map, List.length_take, List.length_drop]; omega
  by_cases hlt : i < t.length
  ·left
   have hml : ((t.take i).map f).length = i := by rw [List.length_map, List.length_take]; omega
   have hd : t.drop i = t.getD i Queue.zero :: t.drop (i + 1) := by rw [List.drop_eq_getElem_cons hlt, List.getD_eq_getElem?_getD, List.getElem?_eq_getElem hlt]; rfl
   have hg : ((t.take i).map f ++ t.drop i).getD i Queue.zero = t.getD i Queue.zero := by
    rw [List.getD_eq_getElem?_getD, List.getElem?_append_right (by omega), hml, Nat.sub_self, hd]; rfl
   refine ⟨_, hb i _ _ hlt hsl hg (by have := hev i hi; omega), ⟨i + 1, by omega, ?_⟩, by simp only [Int.toNat_natCast]; omega⟩
   rw [zap7 (z := Queue.zero) hlt, List.map_append, List.flatMap_append]
   congr 2
   ·rw [List.set_append_right _ _ (by omega), hml, Nat.sub_self, hd]
    simp
   ·simp
  ·right
   have : i = t.length := by omega
   subst this
   refine ⟨_, hend _ _ hsl, ?_⟩
   simp) (0, t, []) ⟨0, by omega, by simp⟩
 rw [hx, hp]
def remE (p : Proc) (q : Queue) : List Event := if (zn2 q p).2.2 = 0 then (if getH q.holds p = Amount.zero then [] else [zeB5 p q.resource.name Amount.zero]) ++ zab6 q.resource.name (zn2 q p).2.1 else []
def remT (t : List Queue) (p : Proc) : List Queue × List Event := if zE8 t = true then (t.map (remN · p), t.flatMap (remE p)) else ([], [])
theorem zaH5 (nm : ByteArray) (l : List Hold) : (zab6 nm l).length = l.length := by unfold zab6; rw [List.length_map]
theorem zaU9 (p : Proc) (q : Queue) : (remE p q).length ≤ 17 := by
 unfold remE
 have := (zad3 q p).2.2.2
 split
 ·rw [List.length_append, zaH5]
  split <;> simp <;> omega
 ·simp
theorem zbn8 {q : Queue} (h : zd5 q = true) (p : Proc) : (remN q p).resource = q.resource :=
 (zbm5 h (p := p) (x := { p with num := p.num + 1 }) fun e => by
  have h1 : p.num + 1 = p.num := congrArg Proc.num e
  omega).2
theorem zaj7 (t : List Queue) (p : Proc) : zv0 t p = some (remT t p) := by
 unfold zv0 remT
 rw [zQ3, Option.bind_some]
 cases hv : zE8 t with
 | false => rfl
 | true =>
  have h := (zD7 t).1 hv
  have hl := h.len
  rw [ifNT, if_pos rfl, zaw2 _ _ _ (by omega) h.lens (by omega), Option.bind_some]
  unfold zbb4
  rw [if_neg (by decide), zbn7 t (remN · p) (remE p) (by omega) (fun q _ => by have := zaU9 p q; omega) (fun i s ev hi hs hg hev => by
   have hq := h.each _ (zL2 (z := Queue.zero) hi)
   have hql := zK2 hq
   have hsh := (zad3 (t.getD i Queue.zero) p).2.2.2
   have h3 : 0 ≤ (i : Int) ∧ (i : Int) < (t.length : Int) := by omega
   have h4 : 0 ≤ (i : Int) ∧ (i : Int) < ((s.length : Nat) : Int) := by omega
   unfold zF3
   simp only [Int.toNat_natCast]
   rw [if_pos (decide_eq_true h3.2), zb2 h3, zaJ6, Option.bind_some]
   unfold remE remN
   by_cases e : (zn2 (t.getD i Queue.zero) p).2.2 = 0
   ·rw [if_neg (nd0 e), if_pos e, if_pos e, zE3 _ _ (by omega), Option.bind_some]
    by_cases e2 : getH (t.getD i Queue.zero).holds p = Amount.zero
    ·rw [if_neg (nd0 e2), if_pos e2]
     unfold zv8
     simp only [Int.toNat_natCast]
     rw [zbn2 _ _ _ (by omega) (by omega), Option.bind_some, zb2 h4, zd4 i (by omega), List.nil_append]
    ·rw [if_pos (nd1 e2), if_neg e2, zb2 (by omega)]
     unfold zv8
     simp only [Int.toNat_natCast]
     rw [zbn2 _ _ _ (by omega) (by simp; omega), Option.bind_some, zb2 h4, zd4 i (by omega), List.append_assoc]
     rfl
   ·rw [if_pos (nd1 e), if_neg e, if_neg e, zd4 i (by omega), List.append_nil, ← hg, zat6 _ _ _ (by omega)]) (fun s ev hs => by
   unfold zF3
   rw [if_neg (by simp)])]
  rfl
theorem zaj8 (t : List Queue) (p : Proc) : zv1 t p = some (remT t p) := by
 unfold zv1 remT
 rw [zao5, Option.bind_some]
 cases hv : zE8 t with
 | false => rfl
 | true =>
  have h := (zD7 t).1 hv
  have hl := h.len
  rw [ifNT, if_pos rfl, zb2 (by omega), zbn7 t (remN · p) (remE p) (by omega) (fun q _ => by have := zaU9 p q; omega) (fun i s ev hi hs hg hev => by
   have hq := h.each _ (zL2 (z := Queue.zero) hi)
   have hql := zK2 hq
   have hsh := (zad3 (t.getD i Queue.zero) p).2.2.2
   have h4 : 0 ≤ (i : Int) ∧ (i : Int) < ((s.length : Nat) : Int) := by omega
   have hn := zbn8 hq p
   unfold zF4
   simp only [Int.toNat_natCast, hg]
   rw [if_pos (decide_eq_true h4.2), zb2 h4, zaz9 _ _ (by omega) (by omega) (by omega), Option.bind_some]
   cases hp : hasQ (t.getD i Queue.zero) p with
   | false =>
    have e := zad0 hq hp
    have e1 : (zn2 (t.getD i Queue.zero) p).2.2 ≠ 0 := by rw [e]; decide
    unfold remE remN
    rw [if_neg e1, if_neg e1, if_pos (show (!false) = true from rfl), zd4 i (by omega), List.append_nil, ← hg, zat6 _ _ _ (by omega)]
   | true =>
    have e := zbn0 hq hp
    rw [ifNT, zb2 h4, zas8 _ _ (by omega), Option.bind_some]
    have hz : zc5 (getH (t.getD i Queue.zero).holds p) = decide (getH (t.getD i Queue.zero).holds p = Amount.zero) := rfl
    rw [hz]
    unfold remE
    rw [if_pos e.1]
    have k2 : ∀ ev' : List Event, ev'.length ≤ 1000000 → zv9 p ((i : Int), s, ev) ev' = some (.inl (((i + 1 : Nat) : Int), s.set i (remN (t.getD i Queue.zero) p), ev' ++ zab6 (t.getD i Queue.zero).resource.name (zn2 (t.getD i Queue.zero) p).2.1)) := fun ev' hev' => by
     unfold zv9
     simp only [Int.toNat_natCast, hg]
     rw [zb2 h4, zaJ7, Option.bind_some, zb2 h4, e.2, hn, zaX3 _ _ (by omega), Option.bind_some, zb2 (by rw [zaH5]; omega), zd4 i (by omega)]
    by_cases e2 : getH (t.getD i Queue.zero).holds p = Amount.zero
    ·rw [if_neg (nd0 e2), if_pos e2, k2 _ (by omega), List.nil_append]
    ·rw [if_pos (nd1 e2), if_neg e2, zb2 h4, zb2 (by omega), k2 _ (by simp; omega), List.append_assoc]
     rfl) (fun s ev hs => by
   unfold zF4
   simp only
   rw [if_neg (by rw [decide_eq_true_eq, hs]; omega)])]
  rfl
theorem zaV0 {t : List Queue} (h : ∀ q ∈ t, zd5 q = true) {p : Proc} : p ∈ zn0 t ↔ ∃ q ∈ t, hasQ q p = true := by
 unfold zn0
 rw [zap6, List.mem_flatMap]
 constructor
 ·rintro ⟨q, hq, hp⟩; exact ⟨q, hq, (zaw0 ((zx7 q).1 (h q hq)).1).1 hp⟩
 ·rintro ⟨q, hq, hp⟩; exact ⟨q, hq, (zaw0 ((zx7 q).1 (h q hq)).1).2 hp⟩
theorem zbg7 (t : List Queue) : (zn0 t).Nodup := zaE2 (zaE1 _)
theorem ValidT.map {t : List Queue} (h : ValidT t) (f : Queue → Queue) (h1 : ∀ q ∈ t, zd5 (f q) = true) (h2 : ∀ q ∈ t, (f q).resource = q.resource) (h3 : ∀ q ∈ t, ∀ p, hasQ (f q) p = true → hasQ q p = true) : ValidT (t.map f) := by
 have he : ∀ q ∈ t.map f, zd5 q = true := fun q hq => by
  obtain ⟨x, hx, rfl⟩ := List.mem_map.1 hq
  exact h1 x hx
 refine ⟨by rw [List.length_map]; exact h.len, he, ?_, ?_⟩
 ·have := h.asc
  unfold AscN at *
  rw [List.pairwise_map]
  exact this.imp_of_mem fun {a b} ha hb hab => by rw [h2 a ha, h2 b hb]; exact hab
 ·refine Nat.le_trans (List.Nodup.length_le_of_subset (zbg7 _) fun x hx => ?_) h.procs
  obtain ⟨q, hq, hp⟩ := (zaV0 he).1 hx
  obtain ⟨y, hy, rfl⟩ := List.mem_map.1 hq
  exact (zaV0 h.each).2 ⟨y, hy, h3 y hy x hp⟩
theorem zbu3 {t : List Queue} (h : ValidT t) (p : Proc) : remT t p = (t.map (remN · p), t.flatMap (remE p)) := by
 unfold remT; rw [if_pos ((zD7 t).2 h)]
theorem zaw3 {t : List Queue} (h : ValidT t) (p : Proc) : ValidT (remT t p).1 := by
 rw [zbu3 h]
 exact h.map _ (fun q hq => zbf6 (h.each q hq) p) (fun q hq => zbn8 (h.each q hq) p) fun q hq x hx => ((zbO2 (h.each q hq) p x).1 hx).1
theorem zaA1 {t : List Queue} (h : ValidT t) (p : Proc) : (remT t p).2.length ≤ 136 := by
 rw [zbu3 h]
 have : ∀ l : List Queue, (l.flatMap (remE p)).length ≤ 17 * l.length := by
  intro l
  induction l with
  | nil => simp
  | cons q l ih => rw [List.flatMap_cons, List.length_append, List.length_cons]; have := zaU9 p q; omega
 have h1 := this t
 have h2 := h.len
 show (t.flatMap (remE p)).length ≤ 136
 omega
def oldP (a b : Int) (p : Proc) : Bool := decide (p.site = a) && decide (p.inc < b)
def zw1 (a b : Int) (s : List Queue × List Event) (p : Proc) : List Queue × List Event := if oldP a b p = true then ((remT s.1 p).1, s.2 ++ (remT s.1 p).2) else s
def zai5 (t : List Queue) (a b : Int) : List Queue × List Event := if zE8 t = true then (zn0 t).foldl (zw1 a b) (t, []) else ([], [])
theorem zaV1 {body : List Queue × Int × List Event → Option ((List Queue × Int × List Event) ⊕ (List Queue × List Event))} {t : List Queue} (h : ValidT t) (a b : Int)
  (hb : ∀ (i : Nat) (s : List Queue) (ev : List Event), i < (zn0 t).length → ValidT s → ev.length ≤ 136 * i → body (s, (i : Int), ev) = some (.inl ((zw1 a b (s, ev) ((zn0 t).getD i Proc.zero)).1, ((i + 1 : Nat) : Int), (zw1 a b (s, ev) ((zn0 t).getD i Proc.zero)).2)))
  (hend : ∀ (s : List Queue) (ev : List Event), body (s, ((zn0 t).length : Int), ev) = some (.inr (s, ev))) : zb6 body (t, 0, []) = some ((zn0 t).foldl (zw1 a b) (t, [])) := by
 have key := zp6 (body := body) (zn0 t) Proc.zero (fun i (s : List Queue × List Event) => (s.1, (i : Int), s.2)) (fun _ p s => some (.inl (zw1 a b s p))) (fun s => s) (fun i s => ValidT s.1 ∧ s.2.length ≤ 136 * i)
  (fun i s hi hs => ⟨by rw [hb i s.1 s.2 hi hs.1 hs.2]; rfl, fun s' h => by
   simp only [Option.some.injEq, Sum.inl.injEq] at h; subst h
   unfold zw1
   split
   ·have := zaA1 hs.1 ((zn0 t).getD i Proc.zero)
    exact ⟨zaw3 hs.1 _, by rw [List.length_append]; omega⟩
   ·exact ⟨hs.1, by have := hs.2; omega⟩⟩)
  (fun s hs => hend s.1 s.2) (t, []) ⟨h, by simp⟩
 rw [show ((t, 0, []) : List Queue × Int × List Event) = (fun (i : Nat) (s : List Queue × List Event) => (s.1, (i : Int), s.2)) 0 (t, []) from rfl, key, zav6 (zw1 a b)]
theorem zaV2 (t : List Queue) (a b : Int) : zA3 t a b = some (zai5 t a b) := by
 unfold zA3 zai5
 rw [zQ3, Option.bind_some]
 cases hv : zE8 t with
 | false => rfl
 | true =>
  have h := (zD7 t).1 hv
  have hl := h.len
  have hpl := h.procs
  rw [ifNT, if_pos rfl, zS4 _ _ _ (by omega) h.lens (by omega), Option.bind_some, zaa1 hl h.each, Option.bind_some]
  unfold zbb4
  rw [if_neg (by decide), zaV1 h a b (fun i s ev hi hs hev => by
   have h3 : 0 ≤ (i : Int) ∧ (i : Int) < ((zn0 t).length : Int) := by omega
   have hre := zaA1 hs ((zn0 t).getD i Proc.zero)
   unfold zJ9 zw1 oldP
   simp only [Int.toNat_natCast]
   rw [if_pos (decide_eq_true h3.2), zb2 h3]
   have eb : (!decide (((zn0 t).getD i Proc.zero).site = a) || decide (b ≤ ((zn0 t).getD i Proc.zero).inc)) = !(decide (((zn0 t).getD i Proc.zero).site = a) && decide (((zn0 t).getD i Proc.zero).inc < b)) := by
    rw [Bool.not_and]
    congr 1
    rw [← decide_not, decide_eq_decide]; omega
   rw [eb]
   cases hc : (decide (((zn0 t).getD i Proc.zero).site = a) && decide (((zn0 t).getD i Proc.zero).inc < b)) with
   | false => rw [if_pos (show (!false) = true from rfl)]; simp only [Bool.false_eq_true, if_false, zd4 i (show i < 4611686018427387904 by omega)]
   | true => rw [ifNT, zaj7, Option.bind_some, zb2 (by omega), zd4 i (by omega)]; simp only [if_true]) (fun s ev => by
   unfold zJ9
   rw [if_neg (by simp)])]
  rfl
theorem zaV3 (t : List Queue) (a b : Int) : zA4 t a b = some (zai5 t a b) := by
 unfold zA4 zai5
 rw [zao5, Option.bind_some]
 cases hv : zE8 t with
 | false => rfl
 | true =>
  have h := (zD7 t).1 hv
  have hl := h.len
  have hpl := h.procs
  rw [ifNT, if_pos rfl, zao4 hl h.each, Option.bind_some, zaV1 h a b (fun i s ev hi hs hev => by
   have h3 : 0 ≤ (i : Int) ∧ (i : Int) < ((zn0 t).length : Int) := by omega
   have hre := zaA1 hs ((zn0 t).getD i Proc.zero)
   unfold zK0 zw1 oldP
   simp only [Int.toNat_natCast]
   rw [if_pos (decide_eq_true h3.2), zb2 h3, zb2 (fun _ => h3)]
   cases hc : (decide (((zn0 t).getD i Proc.zero).site = a) && decide (((zn0 t).getD i Proc.zero).inc < b)) with
   | false => rw [if_neg (by decide), if_neg (by decide), zd4 i (by omega)]
   | true => rw [if_pos rfl, if_pos rfl, zb2 h3, zaj8, Option.bind_some, zb2 (by omega), zd4 i (by omega)]) (fun s ev => by
   unfold zK0
   rw [if_neg (by simp)])]
  rfl
theorem zbb5 (a b : Int) : ∀ (ps : List Proc) {s : List Queue × List Event}, ValidT s.1 → ValidT (ps.foldl (zw1 a b) s).1 ∧ (ps.foldl (zw1 a b) s).2.length ≤ s.2.length + 136 * ps.length
 | [], s, h => ⟨h, by simp⟩
 | p :: ps, s, h => by
  have h1 : ValidT (zw1 a b s p).1 ∧ (zw1 a b s p).2.length ≤ s.2.length + 136 := by
   unfold zw1
   split
   ·have := zaA1 h p
    exact ⟨zaw3 h p, by rw [List.length_append]; omega⟩
   ·exact ⟨h, by omega⟩
  have h2 := zbb5 a b ps h1.1
  rw [List.foldl_cons, List.length_cons]
  exact ⟨h2.1, by omega⟩
theorem zbr5 (t : List Queue) (p : Proc) : (remT t p).1.length ≤ 1000000 ∧ Lens (remT t p).1 ∧ (remT t p).2.length ≤ 1000000 := by
 cases hv : zE8 t with
 | false => unfold remT; rw [hv]; exact ⟨by simp, fun q hq => (nomatch hq), by simp⟩
 | true =>
  have h := (zD7 t).1 hv
  have h1 := zaw3 h p
  have h2 := zaA1 h p
  have h3 := h1.len
  exact ⟨by omega, h1.lens, by omega⟩
theorem zbg8 (t : List Queue) (a b : Int) : (zai5 t a b).1.length ≤ 1000000 ∧ Lens (zai5 t a b).1 ∧ (zai5 t a b).2.length ≤ 1000000 := by
 cases hv : zE8 t with
 | false => unfold zai5; rw [hv]; exact ⟨by simp, fun q hq => (nomatch hq), by simp⟩
 | true =>
  have h := (zD7 t).1 hv
  have h1 := zbb5 a b (zn0 t) (s := (t, [])) h
  have h2 := h.procs
  have h3 := h1.1.len
  have h4 := h1.2
  simp only [List.length_nil] at h4
  unfold zai5
  rw [if_pos hv]
  exact ⟨by omega, h1.1.lens, by omega⟩
end Ab
end Go.Proofs.YtfjeceicgfdmjaaGreatDoor
