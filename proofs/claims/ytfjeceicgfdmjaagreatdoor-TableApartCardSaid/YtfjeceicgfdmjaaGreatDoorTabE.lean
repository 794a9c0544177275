/-
  Tables: which are valid, who is in them, what is found.
-/
import Derived.Test.YtfjeceicgfdmjaaGreatDoorQueT
namespace Go.Proofs.YtfjeceicgfdmjaaGreatDoor
namespace Ab
set_option linter.unusedVariables false
set_option linter.unusedSimpArgs false
theorem zbm6 : ∀ x : List UInt8, Op.bytesLess x x = false
 | [] => rfl
 | a :: x => by simp [Op.bytesLess, zbm6 x]
theorem zby9 : ∀ {x y z : List UInt8}, Op.bytesLess x y = true → Op.bytesLess y z = true → Op.bytesLess x z = true
 | x, [], z, h1, _ => by cases x <;> simp [Op.bytesLess] at h1
 | x, b :: y, [], _, h2 => by simp [Op.bytesLess] at h2
 | [], b :: y, c :: z, _, _ => by simp [Op.bytesLess]
 | a :: x, b :: y, c :: z, h1, h2 => by
  simp only [Op.bytesLess, Bool.or_eq_true, Bool.and_eq_true, decide_eq_true_eq, beq_iff_eq] at h1 h2 ⊢
  rcases h1 with h1 | ⟨rfl, h1⟩
  ·rcases h2 with h2 | ⟨rfl, h2⟩
   ·exact .inl (UInt8.lt_trans h1 h2)
   ·exact .inl h1
  ·rcases h2 with h2 | ⟨rfl, h2⟩
   ·exact .inl h2
   ·exact .inr ⟨rfl, zby9 h1 h2⟩
def ltN (a b : ByteArray) : Prop := Op.bytesLess a.toList b.toList = true
instance (a b : ByteArray) : Decidable (ltN a b) := by unfold ltN; infer_instance
theorem zcd7 {a b : ByteArray} (h : ltN a b) : a ≠ b := fun e => by
 unfold ltN at h; rw [e, zbm6] at h; cases h
theorem zbm7 {a b c : ByteArray} (h : ltN a b) (k : ltN b c) : ltN a c := zby9 h k
def AscN (t : List Queue) : Prop := t.Pairwise fun a b => ltN a.resource.name b.resource.name
def ascW : List Queue → Option ByteArray → Bool
 | [], _ => true
 | q :: t, pv => zc3 q && ((match pv with | none => true | some n => decide (ltN n q.resource.name)) && ascW t (some q.resource.name))
theorem zbf2 : ∀ (t : List Queue) (pv : Option ByteArray), ascW t pv = true ↔ (∀ q ∈ t, zc3 q = true) ∧ AscN t ∧ ∀ n, pv = some n → ∀ q ∈ t, ltN n q.resource.name
 | [], pv => by
  simp only [ascW, List.not_mem_nil, false_implies, implies_true, and_true, true_and, true_iff]
  exact .nil
 | q :: t, pv => by
  simp only [ascW, Bool.and_eq_true]
  rw [zbf2 t (some q.resource.name)]
  constructor
  ·rintro ⟨h1, h2, h3, h4, h5⟩
   refine ⟨fun x hx => ?_, List.pairwise_cons.2 ⟨fun x hx => h5 _ rfl x hx, h4⟩, fun n hn x hx => ?_⟩
   ·rcases List.mem_cons.1 hx with rfl | hx
    ·exact h1
    ·exact h3 x hx
   ·subst hn
    simp only [decide_eq_true_eq] at h2
    rcases List.mem_cons.1 hx with rfl | hx
    ·exact h2
    ·exact zbm7 h2 (h5 _ rfl x hx)
  ·rintro ⟨h1, h2, h3⟩
   have h2' := List.pairwise_cons.1 h2
   refine ⟨h1 q (.head _), ?_, fun x hx => h1 x (.tail _ hx), h2'.2, fun n hn x hx => by cases hn; exact h2'.1 x hx⟩
   cases pv with
   | none => rfl
   | some n => exact decide_eq_true (h3 n rfl q (.head _))
def zaE9 (t : List Queue) : Bool := decide (t.length ≤ 8) && ascW t none
def zt0 (t : List Queue) : List Proc := zaC7 (t.flatMap zS5)
def zN7 (t : List Queue) : Bool := zaE9 t && decide ((zt0 t).length ≤ 8)
structure ValidT (t : List Queue) : Prop where
 len : t.length ≤ 8
 each : ∀ q ∈ t, zc3 q = true
 asc : AscN t
 procs : (zt0 t).length ≤ 8
theorem zbf3 (t : List Queue) : zaE9 t = true ↔ t.length ≤ 8 ∧ (∀ q ∈ t, zc3 q = true) ∧ AscN t := by
 unfold zaE9
 rw [Bool.and_eq_true, decide_eq_true_eq, zbf2]
 simp
theorem zJ7 (t : List Queue) : zN7 t = true ↔ ValidT t := by
 unfold zN7
 rw [Bool.and_eq_true, decide_eq_true_eq, zbf3]
 exact ⟨fun ⟨⟨h1, h2, h3⟩, h4⟩ => ⟨h1, h2, h3, h4⟩, fun ⟨h1, h2, h3, h4⟩ => ⟨⟨h1, h2, h3⟩, h4⟩⟩
theorem zbm8 {α : Type} (prev t : List α) (z : α) (h : prev ≠ []) : (prev ++ t).getD (prev.length - 1) z = prev.getLast h := by
 have hp : 0 < prev.length := List.length_pos_iff.2 h
 rw [List.getD_eq_getElem?_getD, List.getElem?_append_left (by omega), List.getElem?_eq_getElem (by omega), List.getLast_eq_getElem]; rfl
theorem zbD1 (t0 : List Queue) : ∀ (t prev : List Queue), t0 = prev ++ t →
  walk (fun i q (_ : Unit) => some (if zc3 q = true ∧ (i = 0 ∨ ltN (t0.getD (i - 1) Queue.zero).resource.name q.resource.name) then Sum.inl () else Sum.inr (Sum.inr (α := Unit) false))) (fun _ => Sum.inl (β := Bool) ()) t prev.length () =
   some (if ascW t (prev.getLast?.map (·.resource.name)) = true then .inl () else .inr false) := by
 intro t
 induction t with
 | nil => intro prev _; simp [walk, ascW]
 | cons q t ih =>
  intro prev ht
  simp only [walk]
  have hq : (prev.length = 0 ∨ ltN (t0.getD (prev.length - 1) Queue.zero).resource.name q.resource.name) ↔ (match prev.getLast?.map (·.resource.name) with | none => true | some n => decide (ltN n q.resource.name)) = true := by
   by_cases hp : prev = []
   ·subst hp; simp
   ·have h1 := zbm8 prev (q :: t) Queue.zero hp
    rw [ht, h1, List.getLast?_eq_some_getLast hp]
    have : prev.length ≠ 0 := fun e => hp (List.eq_nil_of_length_eq_zero e)
    simp [this]
  by_cases e : zc3 q = true ∧ (prev.length = 0 ∨ ltN (t0.getD (prev.length - 1) Queue.zero).resource.name q.resource.name)
  ·rw [if_pos e]
   have := ih (prev ++ [q]) (by rw [ht]; simp)
   rw [show (prev ++ [q]).length = prev.length + 1 by simp] at this
   simp only
   have h2 : ascW (q :: t) (prev.getLast?.map (·.resource.name)) = ascW t (some q.resource.name) := by simp only [ascW, e.1, hq.1 e.2, Bool.true_and]
   rw [this, h2]
   simp
  ·rw [if_neg e]
   rw [hq] at e
   have hf : ascW (q :: t) (prev.getLast?.map (·.resource.name)) = false := by
    rw [Bool.eq_false_iff]
    intro hh
    simp only [ascW, Bool.and_eq_true] at hh
    exact e ⟨hh.1, hh.2.1⟩
   rw [hf]; rfl
theorem zbf4 {body : Int → Option (Int ⊕ (Unit ⊕ Bool))} (t : List Queue) (hl : t.length ≤ 8)
  (hb : ∀ i : Nat, i < t.length → body (i : Int) = some (if zc3 (t.getD i Queue.zero) = true ∧ (i = 0 ∨ ltN (t.getD (i - 1) Queue.zero).resource.name (t.getD i Queue.zero).resource.name) then .inl ((i + 1 : Nat) : Int) else .inr (.inr false)))
  (he : body (t.length : Int) = some (.inr (.inl ()))) : zb9 body 0 = some (if ascW t none = true then .inl () else .inr false) := by
 have key := zap9 (body := body) t Queue.zero (fun i (_ : Unit) => (i : Int)) (fun i q _ => some (if zc3 q = true ∧ (i = 0 ∨ ltN (t.getD (i - 1) Queue.zero).resource.name q.resource.name) then Sum.inl () else Sum.inr (Sum.inr (α := Unit) false))) (fun _ => Sum.inl (β := Bool) ())
  (fun i s hi => by
   rw [hb i hi, Option.map_some]
   split <;> rfl) (fun s => he) ()
 have := zbD1 t t [] rfl
 rw [show (0 : Int) = (fun (i : Nat) (_ : Unit) => (i : Int)) 0 () from rfl, key]
 exact this
theorem zbs4 (t : List Queue) (h : ∀ q ∈ t, zc3 q = true) : (t.flatMap zS5).length ≤ 24 * t.length := by
 induction t with
 | nil => simp
 | cons q t ih =>
  have h1 := zJ6 (h q (.head _))
  have h2 := zbK2 (q.holds.map (·.proc) ++ (ordQ q).map (·.proc))
  have h3 := ih fun x hx => h x (.tail _ hx)
  have h4 : (zS5 q).length ≤ 24 := by
   unfold zS5
   unfold ordQ at *
   simp only [List.length_append, List.length_map] at h2
   omega
  rw [List.flatMap_cons, List.length_append, List.length_cons]; omega
theorem zaJ1 {α β X : Type} (f : α → List β) (fin : List β → X) : ∀ (l : List α) (i : Nat) (s : List β), walk (fun _ a s => some (.inl (s ++ f a))) fin l i s = some (fin (s ++ l.flatMap f))
 | [], i, s => by simp [walk]
 | a :: l, i, s => by
  simp only [walk, List.flatMap_cons]
  rw [zaJ1 f fin l (i + 1), List.append_assoc]
theorem zD7 {α : Type} {l : List α} {i : Nat} {z : α} (h : i < l.length) : l.getD i z ∈ l := by
 rw [List.getD_eq_getElem?_getD, List.getElem?_eq_getElem h]; exact List.getElem_mem h
theorem zbm9 {q : Queue} (h : zc3 q = true) : (zS5 q).length ≤ 24 := by
 have := zbs4 [q] fun x hx => by rw [List.mem_singleton] at hx; rw [hx]; exact h
 simpa using this
theorem zax2 {t : List Queue} (hl : t.length ≤ 8) (h : ∀ q ∈ t, zc3 q = true) : zm3 t = some (zt0 t) := by
 unfold zm3
 have key := zv4 (body := zH1 t) t Queue.zero (fun i (s : List Proc) => ((i : Int), s)) (fun _ q s => some (.inl (s ++ zS5 q))) (fun s => s) (fun i s => s.length ≤ 24 * i)
  (fun i s hi hs => by
   have hq := h _ (zD7 (z := Queue.zero) hi)
   have hql := zJ6 hq
   have hpl := zbm9 hq
   refine ⟨?_, fun s' h => ?_⟩
   ·unfold zH1
    have h3 : 0 ≤ (i : Int) ∧ (i : Int) < (t.length : Int) := by omega
    simp only [h3.1, h3.2, and_self, zl3, decide_true, if_true, Int.toNat_natCast]
    rw [zbe3 _ (by omega) (by omega) (by omega), Option.bind_some, zb2 (by omega), ze3 i (by omega)]
    rfl
   ·simp only [Option.some.injEq, Sum.inl.injEq] at h; subst h; rw [List.length_append]; omega)
  (fun s hs => by unfold zH1; simp) [] (by simp)
 rw [show ((0, []) : Int × List Proc) = (fun (i : Nat) (s : List Proc) => ((i : Int), s)) 0 [] from rfl, key, zaJ1 zS5, List.nil_append, Option.bind_some]
 unfold zO2
 have := zbs4 t h
 rw [zah8 _ (by omega)]; rfl
theorem zax3 (t : List Queue) : zk4 t = some (zN7 t) := by
 unfold zk4 zN7 zaE9
 by_cases h8 : 8 < t.length
 ·have : ¬ t.length ≤ 8 := by omega
  rw [if_pos (by simp; omega)]
  simp [this]
 ·have hl : t.length ≤ 8 := by omega
  rw [if_neg (by simp; omega), zbf4 t hl (fun i hi => by
   unfold zO4
   have h3 : 0 ≤ (i : Int) ∧ (i : Int) < (t.length : Int) := by omega
   simp only [h3.1, h3.2, and_self, zl3, decide_true, if_true, Int.toNat_natCast, zW0, Option.bind_some, ze3 i (by omega)]
   by_cases e0 : i = 0
   ·subst e0
    rw [zb2 (by simp)]
    cases zc3 (t.getD 0 Queue.zero) <;> simp
   ·rw [zad9 i (by omega) (by omega), zb2 (by intro _; omega)]
    simp only [Int.toNat_natCast, show (0 : Int) < (i : Int) by omega, decide_true, Bool.true_and, e0, false_or]
    unfold ltN
    rcases hb (zc3 (t.getD i Queue.zero)) with b1 | b1 <;> rcases hb (Op.bytesLess (t.getD (i - 1) Queue.zero).resource.name.toList (t.getD i Queue.zero).resource.name.toList) with b2 | b2 <;> simp [b1, b2, -List.getD_eq_getElem?_getD]) (by unfold zO4; simp)]
  simp only [hl, decide_true, Bool.true_and]
  cases hw : ascW t none with
  | false => rfl
  | true =>
   simp only [if_true, Option.bind_some, Bool.true_and]
   unfold zO3
   rw [zax2 hl ((zbf2 t none).1 hw).1, Option.bind_some]
   congr 1
   rw [Bool.eq_iff_iff]; simp; omega
theorem zbn0 {α : Type} (l : List α) (z : α) (p : α → Bool) {body : Int → Option (Int ⊕ (Unit ⊕ Int))} (hb : ∀ i : Nat, i < l.length → body (i : Int) = some (if p (l.getD i z) = true then .inr (.inr (i : Int)) else .inl ((i + 1 : Nat) : Int)))
  (he : body (l.length : Int) = some (.inr (.inl ()))) : zb9 body 0 = some (match l.findIdx? p with | some i => .inr (i : Int) | none => .inl ()) := by
 have key := zap9 (body := body) l z (fun i (_ : Unit) => (i : Int)) (fun i a _ => some (if p a = true then .inr (Sum.inr (α := Unit) (i : Int)) else .inl ())) (fun _ => Sum.inl (β := Int) ())
  (fun i s hi => by rw [hb i hi, Option.map_some]; split <;> rfl) (fun s => he) ()
 have fold : ∀ (l : List α) (i : Nat), walk (fun i a (_ : Unit) => some (if p a = true then .inr (Sum.inr (α := Unit) (i : Int)) else .inl ())) (fun _ => Sum.inl (β := Int) ()) l i () = some (match l.findIdx? p with | some j => .inr ((i + j : Nat) : Int) | none => .inl ()) := by
  intro l
  induction l with
  | nil => intro i; rfl
  | cons a l ih =>
   intro i
   simp only [walk, List.findIdx?_cons]
   by_cases hp : p a = true
   ·simp [hp]
   ·simp only [hp, Bool.false_eq_true, if_false]
    rw [ih (i + 1)]
    cases l.findIdx? p with
    | none => rfl
    | some j => simp only [Option.map_some]; rw [show i + 1 + j = i + (j + 1) by omega]
 have := fold l 0
 simp only [Nat.zero_add] at this
 rw [show (0 : Int) = (fun (i : Nat) (_ : Unit) => (i : Int)) 0 () from rfl, key]
 exact this
def isN (nm : ByteArray) (q : Queue) : Bool := q.resource.name.toList == nm.toList
theorem zbG4 {nm : ByteArray} {q : Queue} : isN nm q = true ↔ q.resource.name = nm := by
 unfold isN; rw [beq_iff_eq]; exact zT0
def zi0 (t : List Queue) (nm : ByteArray) : Int := match t.findIdx? (isN nm) with
 | some i => i
 | none => -1
theorem zaC9 (t : List Queue) (nm : ByteArray) (hl : t.length ≤ 1000000) : zr5 t nm = some (zi0 t nm) := by
 unfold zr5
 rw [zbn0 t Queue.zero (isN nm) (fun i hi => by
  unfold zR4 isN
  have h3 : 0 ≤ (i : Int) ∧ (i : Int) < (t.length : Int) := by omega
  simp only [h3.1, h3.2, and_self, zl3, decide_true, if_true, Int.toNat_natCast, ze3 i (by omega)]
  split <;> rfl) (by unfold zR4; simp)]
 unfold zi0
 cases t.findIdx? (isN nm) <;> rfl
theorem zbf5 {t : List Queue} {nm : ByteArray} : zi0 t nm = -1 ∨ ∃ i : Nat, zi0 t nm = i ∧ i < t.length ∧ (t.getD i Queue.zero).resource.name = nm := by
 unfold zi0
 cases h : t.findIdx? (isN nm) with
 | none => exact .inl rfl
 | some i =>
  right
  obtain ⟨h1, h2, _⟩ := List.findIdx?_eq_some_iff_getElem.1 h
  refine ⟨i, rfl, h1, ?_⟩
  rw [List.getD_eq_getElem?_getD, List.getElem?_eq_getElem h1]
  exact zbG4.1 h2
theorem zck7 {t : List Queue} (h : AscN t) {i j : Nat} (hi : i < t.length) (hj : j < t.length) (e : (t.getD i Queue.zero).resource.name = (t.getD j Queue.zero).resource.name) : i = j := by
 have hp := List.pairwise_iff_getElem.1 h
 have g : ∀ k, (hk : k < t.length) → t.getD k Queue.zero = t[k] := fun k hk => by rw [List.getD_eq_getElem?_getD, List.getElem?_eq_getElem hk]; rfl
 rw [g i hi, g j hj] at e
 rcases Nat.lt_trichotomy i j with h1 | h1 | h1
 ·exact absurd e (zcd7 (hp i j hi hj h1))
 ·exact h1
 ·exact absurd e.symm (zcd7 (hp j i hj hi h1))
theorem zcd8 {t : List Queue} (h : AscN t) {i : Nat} (hi : i < t.length) : zi0 t (t.getD i Queue.zero).resource.name = i := by
 rcases zbf5 (t := t) (nm := (t.getD i Queue.zero).resource.name) with h1 | ⟨j, h1, h2, h3⟩
 ·unfold zi0 at h1
  cases hf : t.findIdx? (isN (t.getD i Queue.zero).resource.name) with
  | some k => rw [hf] at h1; simp only at h1; omega
  | none =>
   have := List.findIdx?_eq_none_iff.1 hf (t.getD i Queue.zero) (zD7 hi)
   rw [Bool.eq_false_iff] at this
   exact absurd (zbG4.2 rfl) this
 ·rw [h1, zck7 h h2 hi h3]
end Ab
end Go.Proofs.YtfjeceicgfdmjaaGreatDoor
namespace Go.Proofs.YtfjeceicgfdmjaaGreatDoor
namespace Ab
set_option linter.unusedVariables false
set_option linter.unusedSimpArgs false
theorem zaP3 (x : Proc) (s : List Proc) (hs : s.Pairwise ltP) (hx : x ∉ s) (hl : s.length ≤ 1000000) : zb9 (zy5) ((s.length : Int), s ++ [x]) = some (zab2 x s) := by
 obtain ⟨r, h1, h2⟩ := zag5 (body := zy5) (fun g => ∃ pre post : List Proc, g = ((pre.length : Int), pre ++ x :: post) ∧ pre ++ post = s ∧ ∀ y ∈ post, ltP x y) (fun g => g.1.toNat) (fun r => r = zab2 x s) (by
  rintro g ⟨pre, post, rfl, hp, hpost⟩
  have hpl : pre.length + post.length = s.length := by rw [← hp, List.length_append]
  unfold zy5
  simp only [List.length_append, List.length_cons]
  by_cases h0 : pre = []
  ·right
   subst h0
   refine ⟨_, by rw [zb2 (by simp), zb2 (by simp), if_neg (by simp)], ?_⟩
   simp only [List.nil_append] at hp ⊢
   subst hp
   refine zah7 (List.pairwise_cons.2 ⟨hpost, hs⟩) (zZ1 hs) fun y => ?_
   rw [zZ0, List.mem_cons]
  ·obtain ⟨pre', y, rfl⟩ : ∃ p' y, pre = p' ++ [y] := ⟨pre.dropLast, pre.getLast h0, (List.dropLast_concat_getLast h0).symm⟩
   have hk : (pre' ++ [y]).length = pre'.length + 1 := by simp
   rw [hk] at hpl ⊢
   have w : IntKind.i64.wrap (((pre'.length + 1 : Nat) : Int) - 1) = (pre'.length : Int) := by rw [ze2 (by omega) (by omega)]; omega
   have e1 : (pre' ++ [y] ++ x :: post).getD pre'.length Proc.zero = y := by simp [List.getD_eq_getElem?_getD]
   have e2 : (pre' ++ [y] ++ x :: post).getD (pre'.length + 1) Proc.zero = x := by simp [List.getD_eq_getElem?_getD]
   have g1 : 0 ≤ (pre'.length : Int) ∧ (pre'.length : Int) < ((pre'.length + 1 + (post.length + 1) : Nat) : Int) := by omega
   have g2 : 0 ≤ ((pre'.length + 1 : Nat) : Int) ∧ ((pre'.length + 1 : Nat) : Int) < ((pre'.length + 1 + (post.length + 1) : Nat) : Int) := by omega
   have hpos : decide (0 < ((pre'.length + 1 : Nat) : Int)) = true := decide_eq_true (by omega)
   simp only [w, Int.toNat_natCast, e1, e2, hpos, Bool.true_and]
   rw [zb2 (fun _ => g1), zb2 (fun _ => g2)]
   have hlt : decide (0 < zj4 y x) = decide (ltP x y) := by rw [decide_eq_decide]; exact zbc3 y x
   rw [hlt]
   by_cases hxy : ltP x y
   ·left
    rw [if_pos (decide_eq_true hxy), zb2 g1, zb2 g2, zb2 g1, zb2 g2]
    refine ⟨((pre'.length : Int), pre' ++ x :: (y :: post)), ?_, ⟨pre', y :: post, rfl, by rw [← hp]; simp, fun z hz => ?_⟩, by simp only [Int.toNat_natCast]; omega⟩
    ·congr 3
     rw [List.append_assoc, List.set_append_right _ _ (Nat.le_refl _), Nat.sub_self, List.set_append_right _ _ (by omega), show pre'.length + 1 - pre'.length = 1 by omega]
     rfl
    ·rcases List.mem_cons.1 hz with rfl | hz
     ·exact hxy
     ·exact hpost z hz
   ·right
    refine ⟨_, by rw [if_neg (by simpa using hxy)], ?_⟩
    have hyx : ltP y x := by
     rcases zY5 (p := x) (q := y) (fun e => hx (by rw [← hp, e]; simp)) with h | h
     ·exact absurd h hxy
     ·exact h
    rw [← hp] at hs
    obtain ⟨a1, a2, a3⟩ := List.pairwise_append.1 hs
    obtain ⟨b1, b2, b3⟩ := List.pairwise_append.1 a1
    have hpre : ∀ z ∈ pre' ++ [y], ltP z x := fun z hz => by
     rcases List.mem_append.1 hz with hz | hz
     ·exact zY4 (b3 z hz y (by simp)) hyx
     ·rw [List.mem_singleton] at hz; rw [hz]; exact hyx
    rw [← hp]
    refine zah7 (List.pairwise_append.2 ⟨a1, List.pairwise_cons.2 ⟨hpost, a2⟩, fun z hz u hu => ?_⟩) (zZ1 hs) fun z => ?_
    ·rcases List.mem_cons.1 hu with rfl | hu
     ·exact hpre z hz
     ·exact a3 z hz u hu
    ·rw [zZ0]
     simp only [List.mem_append, List.mem_cons, List.mem_singleton]
     constructor
     ·rintro ((h | h) | h | h)
      ·exact .inr (.inl (.inl h))
      ·exact .inr (.inl (.inr h))
      ·exact .inl h
      ·exact .inr (.inr h)
     ·rintro (h | (h | h) | h)
      ·exact .inr (.inl h)
      ·exact .inl (.inl h)
      ·exact .inl (.inr h)
      ·exact .inr (.inr h)) ((s.length : Int), s ++ [x]) ⟨s, [], by simp, by simp, by simp⟩
 rw [h1, h2]
theorem zai0 (l : List Proc) (hl : l.length ≤ 1000000) : zi6 l = some (zaC7 l) := by
 unfold zi6
 have key := zv4 (body := zy6 l) l Proc.zero (fun i (s : List Proc) => ((i : Int), s)) (fun _ p s => some (.inl (zab2 p s))) (fun s => s) (fun i s => s.Pairwise ltP ∧ s.length ≤ i)
  (fun i s hi hs => by
   have hlen : ∀ p, (zab2 p s).length ≤ s.length + 1 := fun p => by
    have := List.Nodup.length_le_of_subset (zaO7 (zZ1 (p := p) hs.1)) (l₂ := p :: s) fun z hz => by
     rcases zZ0.1 hz with rfl | h
     ·exact .head _
     ·exact .tail _ h
    simpa using this
   refine ⟨?_, fun s' h => ?_⟩
   ·unfold zy6
    have h3 : 0 ≤ (i : Int) ∧ (i : Int) < (l.length : Int) := by omega
    simp only [h3.1, h3.2, and_self, zl3, decide_true, if_true, Int.toNat_natCast]
    rw [zao3 _ _ (by omega), Option.bind_some, ze3 i (by omega)]
    by_cases hm : l.getD i Proc.zero ∈ s
    ·rw [if_pos (decide_eq_true hm), Option.map_some, zbC5 hs.1 hm]; rfl
    ·rw [if_neg (by rw [decide_eq_true_eq]; exact hm), zb2 (by omega), zaP3 _ _ hs.1 hm (by omega), Option.bind_some]
     unfold zE8
     simp only [ze3 i (show i < 4611686018427387904 by omega), Option.map_some, wmap]
   ·simp only [Option.some.injEq, Sum.inl.injEq] at h; subst h
    exact ⟨zZ1 hs.1, by have := hlen (l.getD i Proc.zero); omega⟩)
  (fun s hs => by unfold zy6; simp) [] ⟨.nil, by simp⟩
 rw [show ((0, []) : Int × List Proc) = (fun (i : Nat) (s : List Proc) => ((i : Int), s)) 0 [] from rfl, key, zbd5 (fun s p => zab2 p s)]
 rfl
theorem zai1 {α β : Type} (l : List α) (z : α) (f : α → β) (s0 : List β) {body : Int × List β → Option ((Int × List β) ⊕ List β)} (hl : l.length ≤ 1000000) (h0 : s0.length ≤ 1000000)
  (hb : ∀ (i : Nat) (s : List β), i < l.length → s.length ≤ 3000000 → body ((i : Int), s) = some (.inl (((i + 1 : Nat) : Int), s ++ [f (l.getD i z)]))) (he : ∀ s, body ((l.length : Int), s) = some (.inr s)) : zb9 body (0, s0) = some (s0 ++ l.map f) := by
 have key := zv4 (body := body) l z (fun i (s : List β) => ((i : Int), s)) (fun i a s => some (.inl (zan0 s (some (f a))))) (fun s => s) (fun i s => s.length ≤ 1000000 + i)
  (fun i s hi hs => ⟨by rw [hb i s hi (by omega)]; rfl, fun s' h => by simp only [Option.some.injEq, Sum.inl.injEq] at h; subst h; simp [zan0]; omega⟩) (fun s hs => he s) s0 (by omega)
 rw [show ((0, s0) : Int × List β) = (fun (i : Nat) (s : List β) => ((i : Int), s)) 0 s0 from rfl, key, zan1 (fun a => some (f a))]
 simp
theorem zaP4 (l : List Hold) (hl : l.length ≤ 1000000) : zo9 l = some (l.map (·.proc)) := by
 unfold zo9
 rw [zai1 l Hold.zero (·.proc) [] hl (by simp) (fun i s hi hs => by
  unfold zJ1
  have h3 : 0 ≤ (i : Int) ∧ (i : Int) < (l.length : Int) := by omega
  have h1 : s.length + 1 ≤ 4294967296 := by omega
  simp only [h1, h3.1, h3.2, and_self, zl3, decide_true, if_true, Int.toNat_natCast, ze3 i (show i < 4611686018427387904 by omega)]) (fun s => by unfold zJ1; simp)]
 rfl
theorem zbf6 (q : Queue) (h1 : q.converts.length ≤ 1000) (h2 : q.waits.length ≤ 1000) : zt4 q = some ((ordQ q).map (·.proc)) := by
 unfold zt4
 rw [zai1 q.converts Wait.zero (·.proc) [] (by omega) (by simp) (fun i s hi hs => by
  unfold zP6
  have h3 : 0 ≤ (i : Int) ∧ (i : Int) < (q.converts.length : Int) := by omega
  have h1 : s.length + 1 ≤ 4294967296 := by omega
  simp only [h1, h3.1, h3.2, and_self, zl3, decide_true, if_true, Int.toNat_natCast, ze3 i (show i < 4611686018427387904 by omega)]) (fun s => by unfold zP6; simp), Option.bind_some]
 unfold zP5
 rw [zai1 q.waits Wait.zero (·.proc) _ (by omega) (by simp; omega) (fun i s hi hs => by
  unfold zP4
  have h3 : 0 ≤ (i : Int) ∧ (i : Int) < (q.waits.length : Int) := by omega
  have h1 : s.length + 1 ≤ 4294967296 := by omega
  simp only [h1, h3.1, h3.2, and_self, zl3, decide_true, if_true, Int.toNat_natCast, ze3 i (show i < 4611686018427387904 by omega)]) (fun s => by unfold zP4; simp), Option.bind_some]
 unfold zP3 ordQ
 rw [List.map_append, List.nil_append]
theorem zbf7 (q : Queue) (h0 : q.holds.length ≤ 1000) (h1 : q.converts.length ≤ 1000) (h2 : q.waits.length ≤ 1000) : zt5 q = some (zS5 q) := by
 unfold zt5 zS5
 have hl : (ordQ q).length ≤ 2000 := by unfold ordQ; rw [List.length_append]; omega
 rw [zaP4 _ (by omega), Option.bind_some, zbf6 q h1 h2, Option.bind_some, zb2 (by simp; omega), zai0 _ (by simp; omega)]
 rfl
theorem zax4 {t : List Queue} (hl : t.length ≤ 8) (h : ∀ q ∈ t, zc3 q = true) : zq8 t = some (zt0 t) := by
 unfold zq8
 have key := zv4 (body := zH5 t) t Queue.zero (fun i (s : List Proc) => ((i : Int), s)) (fun _ q s => some (.inl (s ++ zS5 q))) (fun s => s) (fun i s => s.length ≤ 24 * i)
  (fun i s hi hs => by
   have hq := h _ (zD7 (z := Queue.zero) hi)
   have hql := zJ6 hq
   have hpl := zbm9 hq
   refine ⟨?_, fun s' h => ?_⟩
   ·unfold zH5
    have h3 : 0 ≤ (i : Int) ∧ (i : Int) < (t.length : Int) := by omega
    simp only [h3.1, h3.2, and_self, zl3, decide_true, if_true, Int.toNat_natCast]
    rw [zbf7 _ (by omega) (by omega) (by omega), Option.bind_some, zb2 (by omega), ze3 i (by omega)]
    rfl
   ·simp only [Option.some.injEq, Sum.inl.injEq] at h; subst h; rw [List.length_append]; omega)
  (fun s hs => by unfold zH5; simp) [] (by simp)
 rw [show ((0, []) : Int × List Proc) = (fun (i : Nat) (s : List Proc) => ((i : Int), s)) 0 [] from rfl, key, zaJ1 zS5, List.nil_append, Option.bind_some]
 unfold zP7
 have := zbs4 t h
 rw [zai0 _ (by omega)]; rfl
theorem zbf8 (t : List Queue) : zt3 t = some (zaE9 t) := by
 unfold zt3 zaE9
 by_cases h8 : 8 < t.length
 ·have : ¬ t.length ≤ 8 := by omega
  rw [if_pos (by simp; omega)]
  simp [this]
 ·have hl : t.length ≤ 8 := by omega
  rw [if_neg (by simp; omega), zbf4 t hl (fun i hi => by
   unfold zP2
   have h3 : 0 ≤ (i : Int) ∧ (i : Int) < (t.length : Int) := by omega
   simp only [h3.1, h3.2, and_self, implies_true, zl3, decide_true, if_true, Int.toNat_natCast, zW1, Option.bind_some, ze3 i (by omega)]
   by_cases e0 : i = 0
   ·subst e0
    rw [zb2 (by simp)]
    cases zc3 (t.getD 0 Queue.zero) <;> simp
   ·rw [zad9 i (by omega) (by omega), zb2 (by intro _; omega)]
    simp only [Int.toNat_natCast, show (0 : Int) < (i : Int) by omega, decide_true, Bool.true_and, e0, false_or]
    unfold ltN
    rcases hb (zc3 (t.getD i Queue.zero)) with b1 | b1 <;> rcases hb (Op.bytesLess (t.getD (i - 1) Queue.zero).resource.name.toList (t.getD i Queue.zero).resource.name.toList) with b2 | b2 <;> simp [b1, b2, -List.getD_eq_getElem?_getD]) (by unfold zP2; simp)]
  simp only [hl, decide_true, Bool.true_and]
  cases hw : ascW t none <;> rfl
theorem zW5 (t : List Queue) : zl2 t = some (zN7 t) := by
 unfold zl2 zN7
 rw [zbf8, Option.bind_some]
 cases hp : zaE9 t with
 | false => rfl
 | true =>
  obtain ⟨h1, h2, _⟩ := (zbf3 t).1 hp
  rw [if_pos rfl, zax4 h1 h2, Option.bind_some, Bool.true_and]
  congr 1
  rw [Bool.eq_iff_iff]; simp; omega
theorem zal5 (t : List Queue) (nm : ByteArray) (hl : t.length ≤ 1000000) : zu2 t nm = some (zi0 t nm) := by
 unfold zu2
 rw [zbn0 t Queue.zero (isN nm) (fun i hi => by
  unfold zR6 isN
  have h3 : 0 ≤ (i : Int) ∧ (i : Int) < (t.length : Int) := by omega
  simp only [h3.1, h3.2, and_self, zl3, decide_true, if_true, Int.toNat_natCast, ze3 i (by omega)]
  split <;> rfl) (by unfold zR6; simp)]
 unfold zi0
 cases t.findIdx? (isN nm) <;> rfl
theorem zbD2 (a b : List Queue) (h : a.length = b.length) (hl : a.length ≤ 1000000) (hs : ∀ q ∈ a, q.holds.length ≤ 1000 ∧ q.converts.length ≤ 1000 ∧ q.waits.length ≤ 1000) :
  zb9 (zE2 a b) 0 = some (if a = b then .inl () else .inr false) := by
 have key : zb9 (zE2 a b) 0 = some ((zs1 (fun i => if decide (a.getD i Queue.zero = b.getD i Queue.zero) = true then none else some (Sum.inr false)) a.length 0).getD (Sum.inl ())) := by
  refine zv1 a.length _ (Sum.inl ()) (fun i hi => ?_) ?_
  ·have hq := hs _ (zD7 (z := Queue.zero) hi)
   unfold zE2
   rw [if_pos (by simpa using hi), zb2 (by omega), zb2 (by omega), ze2 (by omega) (by omega)]
   simp only [Int.toNat_natCast]
   rw [zaC4 _ _ (by omega) (by omega) (by omega), Option.bind_some]
   by_cases hx : a.getD i Queue.zero = b.getD i Queue.zero
   ·simp only [hx, decide_true, Bool.not_true, Bool.false_eq_true, if_false, if_true]
   ·simp only [hx, decide_false, Bool.not_false, if_true, Bool.false_eq_true, if_false]
  ·unfold zE2
   rw [if_neg (by simp)]
 rw [key, zD4, ← List.range_eq_range', zcb6 a b Queue.zero h]
 by_cases e : a = b <;> simp [e]
theorem zbi9 (a b : List Queue) (hl : a.length ≤ 1000000) (hs : ∀ q ∈ a, q.holds.length ≤ 1000 ∧ q.converts.length ≤ 1000 ∧ q.waits.length ≤ 1000) : zu1 a b = some (decide (a = b)) := by
 unfold zu1
 by_cases h : a.length = b.length
 ·rw [if_neg (by simp [h]), zbD2 a b h hl hs]
  by_cases e : a = b <;> simp [e, zR5]
 ·have : ¬ a = b := fun e => h (by rw [e])
  rw [if_pos (by simp; omega), decide_eq_false this]
end Ab
end Go.Proofs.YtfjeceicgfdmjaaGreatDoor
namespace Go.Proofs.YtfjeceicgfdmjaaGreatDoor
namespace Ab
set_option linter.unusedVariables false
set_option linter.unusedSimpArgs false
def zbs5 (nm : ByteArray) (h : Hold) : Event := ⟨1, h.proc, nm, h.amount⟩
def zad5 (nm : ByteArray) (l : List Hold) : List Event := l.map (zbs5 nm)
def zeU5 (p : Proc) (nm : ByteArray) (a : Amount) : Event := ⟨3, p, nm, a⟩
theorem zbG5 (nm : ByteArray) (l : List Hold) (hl : l.length ≤ 1000000) : zl6 nm l = some (zad5 nm l) := by
 unfold zl6
 rw [zai1 l Hold.zero (zbs5 nm) [] hl (by simp) (fun i s hi hs => by
  unfold zL0
  have h3 : 0 ≤ (i : Int) ∧ (i : Int) < (l.length : Int) := by omega
  have h1 : s.length + 1 ≤ 4294967296 := by omega
  simp only [h1, h3.1, h3.2, and_self, zl3, decide_true, if_true, Int.toNat_natCast, ze3 i (show i < 4611686018427387904 by omega)]
  rfl) (fun s => by unfold zL0; simp)]
 rfl
theorem zcd9 (nm : ByteArray) (l : List Hold) (ev : List Event) (hl : l.length ≤ 1000000) (he : ev.length ≤ 1000000) : zA4 nm l ev = some (ev ++ zad5 nm l) := by
 unfold zA4
 rw [zai1 l Hold.zero (zbs5 nm) ev hl he (fun i s hi hs => by
  unfold zS3
  have h3 : 0 ≤ (i : Int) ∧ (i : Int) < (l.length : Int) := by omega
  have h1 : s.length + 1 ≤ 4294967296 := by omega
  simp only [h1, h3.1, h3.2, and_self, zl3, decide_true, if_true, Int.toNat_natCast, ze3 i (show i < 4611686018427387904 by omega)]
  rfl) (fun s => by unfold zS3; simp)]
 rfl
theorem zce0 (nm : ByteArray) (l : List Hold) (ev : List Event) (hl : l.length ≤ 1000000) (he : ev.length ≤ 1000000) : zv9 nm l ev = some (ev ++ zad5 nm l) := by
 have e : zv9 nm l ev = zA4 nm l ev := rfl
 rw [e]; exact zcd9 nm l ev hl he
theorem zal6 (nm : ByteArray) (l : List Hold) (hl : l.length ≤ 1000000) : zi7 nm l = some (zad5 nm l) := by
 unfold zi7
 rw [zai1 l Hold.zero (zbs5 nm) [] hl (by simp) (fun i s hi hs => by
  unfold zL4
  have h3 : 0 ≤ (i : Int) ∧ (i : Int) < (l.length : Int) := by omega
  have h1 : s.length + 1 ≤ 4294967296 := by omega
  simp only [h1, h3.1, h3.2, and_self, implies_true, zl3, decide_true, if_true, Int.toNat_natCast, ze3 i (show i < 4611686018427387904 by omega)]
  rfl) (fun s => by unfold zL4; simp)]
 rfl
def zaJ2 (t : List Queue) (i : Int) (q : Queue) : List Queue := if 0 ≤ i then t.set i.toNat q else t
def Lens (t : List Queue) : Prop := ∀ q ∈ t, q.holds.length ≤ 1000 ∧ q.converts.length ≤ 1000 ∧ q.waits.length ≤ 1000
theorem zbs6 (t : List Queue) (hl : t.length ≤ 1000) (hs : Lens t) : zb9 (zC5 t) (0, List.replicate t.length Queue.zero) = some t := by
 obtain ⟨x, hx, hp⟩ := zag5 (body := zC5 t) (fun g => ∃ i : Nat, i ≤ t.length ∧ g.1 = (i : Int) ∧ g.2.length = t.length ∧ g.2.take i = t.take i) (fun g => t.length - g.1.toNat) (fun x => x = t) (by
  rintro ⟨gi, s⟩ ⟨i, hi, h1, h2, h3⟩
  simp only at h1 h2 h3
  subst h1
  unfold zC5
  by_cases hlt : i < t.length
  ·left
   have hq := hs _ (zD7 (z := Queue.zero) hlt)
   have g3 : 0 ≤ (i : Int) ∧ (i : Int) < (t.length : Int) := by omega
   have g4 : 0 ≤ (i : Int) ∧ (i : Int) < ((s.length : Nat) : Int) := by omega
   refine ⟨(((i + 1 : Nat) : Int), s.set i (t.getD i Queue.zero)), ?_, ⟨i + 1, by omega, rfl, by simp [h2], ?_⟩, by simp only [Int.toNat_natCast]; omega⟩
   ·simp only [Int.toNat_natCast, ze3 i (show i < 4611686018427387904 by omega)]
    rw [if_pos (decide_eq_true g3.2), zb2 g3, zb2 (by omega), zb2 (by omega), zb2 (by omega), zb2 g4]
   ·simp only
    rw [zbm5 (z := Queue.zero) (show i < (s.set i (t.getD i Queue.zero)).length by rw [List.length_set]; omega), List.take_set_of_le (Nat.le_refl _), h3, zak9 _ _ _ _ (by omega), zbm5 (z := Queue.zero) hlt]
  ·right
   have : i = t.length := by omega
   subst this
   refine ⟨s, by rw [if_neg (by simp)], ?_⟩
   rw [List.take_of_length_le (by omega), List.take_length] at h3
   exact h3) (0, List.replicate t.length Queue.zero) ⟨0, by omega, rfl, by simp, by simp⟩
 rw [hx, hp]
theorem zQ4 (t : List Queue) (i : Int) (q : Queue) (hl : t.length ≤ 1000) (hs : Lens t) (hi : i < t.length) : zf9 t i q = some (zaJ2 t i q) := by
 unfold zf9
 rw [zb2 (by omega), Int.toNat_natCast, zbs6 t hl hs, Option.bind_some]
 unfold zI8 zaJ2
 by_cases h0 : 0 ≤ i
 ·rw [if_pos (decide_eq_true h0), zb2 (by omega), if_pos h0]
 ·rw [if_neg (by simpa using h0), if_neg h0]
theorem zZ2 (t : List Queue) (i : Int) (q : Queue) (hl : t.length ≤ 1000) (h0 : 0 ≤ i) (hi : i < t.length) : zi3 t i q = some (zaJ2 t i q) := by
 unfold zi3 zaJ2
 rw [zb2 (by omega), zb2 (by omega), if_pos h0]
theorem ValidT.lens {t : List Queue} (h : ValidT t) : Lens t := fun q hq => by
 have := zJ6 (h.each q hq)
 omega
abbrev ResT := List Queue × List Event × Int
def errT (e : Int) : ResT := ([], [], e)
def putT (t : List Queue) (nm : ByteArray) (x : Queue × List Hold × Int) (ev : List Event) : ResT := if x.2.2 = 0 then (zaJ2 t (zi0 t nm) x.1, ev ++ zad5 nm x.2.1, 0) else errT x.2.2
def atT (t : List Queue) (nm : ByteArray) (f : Queue → ResT) : ResT := if zN7 t = false then errT 2 else if zi0 t nm < 0 then errT 10 else f (t.getD (zi0 t nm).toNat Queue.zero)
def zao4 (t : List Queue) (p : Proc) : Bool := decide (8 ≤ (zt0 t).length) && !decide (p ∈ zt0 t)
def zW6 (t : List Queue) (p : Proc) (a : Atom) (pr : Int) : ResT := atT t a.name fun q => if zao4 t p = true then errT 4 else putT t a.name (zD5 q p a.amount pr) []
def zad6 (t : List Queue) (p : Proc) (nm : ByteArray) : ResT := atT t nm fun q => putT t nm (zz8 q p) []
def zaq5 (t : List Queue) (p : Proc) (a : Atom) : ResT := atT t a.name fun q => putT t a.name (zw0 q p a.amount) (if getH q.holds p = a.amount then [] else [zeU5 p a.name a.amount])
theorem nd0 {P : Prop} [Decidable P] (h : P) : ¬ ((!decide P) = true) := by simp [h]
theorem nd1 {P : Prop} [Decidable P] (h : ¬ P) : (!decide P) = true := by simp [h]
theorem zax5 (t : List Queue) (nm : ByteArray) : zx1 t nm = some (if zN7 t = false then (0, 2) else if zi0 t nm < 0 then (0, 10) else (zi0 t nm, 0)) := by
 unfold zx1
 rw [zax3, Option.bind_some]
 cases hv : zN7 t with
 | false => rfl
 | true =>
  have hl := ((zJ7 t).1 hv).len
  rw [ifNT, ifTF, zaC9 _ _ (by omega), Option.bind_some]
  by_cases hf : zi0 t nm < 0
  ·rw [if_pos (decide_eq_true hf), if_pos hf]
  ·rw [if_neg (by simpa using hf), if_neg hf]
theorem zS6 {t : List Queue} {nm : ByteArray} (h : ¬ zi0 t nm < 0) : 0 ≤ zi0 t nm ∧ zi0 t nm < t.length := by
 rcases zbf5 (t := t) (nm := nm) with h1 | ⟨i, h1, h2, _⟩
 ·omega
 ·omega
theorem zaq6 {t : List Queue} (h : ValidT t) {nm : ByteArray} (hf : ¬ zi0 t nm < 0) : zc3 (t.getD (zi0 t nm).toNat Queue.zero) = true := by
 have := zS6 hf
 exact h.each _ (zD7 (by omega))
theorem zck8 {t : List Queue} (h : ValidT t) (p : Proc) : ((!decide (p ∈ zt0 t)) && (decide (8 ≤ ((zt0 t).length : Int)))) = zao4 t p := by
 unfold zao4
 rw [Bool.and_comm]
 congr 1
 rw [decide_eq_decide]; omega
theorem zai2 (t : List Queue) (p : Proc) (a : Atom) (pr : Int) : zo5 t p a pr = some (zW6 t p a pr) := by
 unfold zo5 zW6 atT
 rw [zax5, Option.bind_some]
 cases hv : zN7 t with
 | false => rfl
 | true =>
  have h := (zJ7 t).1 hv
  have hl := h.len
  have hpl := h.procs
  simp only [Bool.true_eq_false, if_false]
  by_cases hf : zi0 t a.name < 0
  ·rw [if_pos hf, if_pos hf]; rfl
  ·have hr := zS6 hf
   have hs := zaq6 h hf
   have hsh := zaI9 (t.getD (zi0 t a.name).toNat Queue.zero) p a.amount pr
   simp only [if_neg hf, decide_true, Bool.not_true, Bool.false_eq_true, if_false, zax2 hl h.each, Option.bind_some, zaO8 (zt0 t) p (by omega), zck8 h p]
   cases hfu : zao4 t p with
   | true => rfl
   | false =>
    simp only [Bool.false_eq_true, if_false]
    rw [zb2 (by omega), zbe5, Option.bind_some]
    unfold putT
    by_cases e : (zD5 (t.getD (zi0 t a.name).toNat Queue.zero) p a.amount pr).2.2 = 0
    ·rw [if_neg (nd0 e), if_pos e, zQ4 _ _ _ (by omega) h.lens (by omega), Option.bind_some, zbG5 _ _ (by have := hsh.2.2.2; omega)]; rfl
    ·rw [if_pos (nd1 e), if_neg e]; rfl
theorem zaU0 (t : List Queue) (p : Proc) (nm : ByteArray) : zy8 t p nm = some (zad6 t p nm) := by
 unfold zy8 zad6 atT
 rw [zax5, Option.bind_some]
 cases hv : zN7 t with
 | false => rfl
 | true =>
  have h := (zJ7 t).1 hv
  have hl := h.len
  simp only [Bool.true_eq_false, if_false]
  by_cases hf : zi0 t nm < 0
  ·rw [if_pos hf, if_pos hf]; rfl
  ·have hr := zS6 hf
   have hsh := zaC8 (t.getD (zi0 t nm).toNat Queue.zero) p
   simp only [if_neg hf, decide_true, Bool.not_true, Bool.false_eq_true, if_false]
   rw [zb2 (by omega), zaT8, Option.bind_some]
   unfold putT
   by_cases e : (zz8 (t.getD (zi0 t nm).toNat Queue.zero) p).2.2 = 0
   ·rw [if_neg (nd0 e), if_pos e, zQ4 _ _ _ (by omega) h.lens (by omega), Option.bind_some, zbG5 _ _ (by have := hsh.2.2.2; omega)]; rfl
   ·rw [if_pos (nd1 e), if_neg e]; rfl
theorem zbD3 {q : Queue} {p : Proc} {a : Amount} (h : (zw0 q p a).2.2 = 0) (e : getH q.holds p = a) : (zw0 q p a).2.1 = [] := by
 obtain ⟨_, _, _, _, _, hh⟩ := zao2 h
 rcases hh with ⟨_, e2⟩ | ⟨hne, _, _⟩
 ·rw [e2]
 ·exact absurd e hne
theorem zbf9 (t : List Queue) (p : Proc) (a : Atom) : zB6 t p a = some (zaq5 t p a) := by
 unfold zB6 zaq5 atT
 rw [zax5, Option.bind_some]
 cases hv : zN7 t with
 | false => rfl
 | true =>
  have h := (zJ7 t).1 hv
  have hl := h.len
  simp only [Bool.true_eq_false, if_false]
  by_cases hf : zi0 t a.name < 0
  ·rw [if_pos hf, if_pos hf]; rfl
  ·have hr := zS6 hf
   have hs := zaq6 h hf
   have hql := zJ6 hs
   have hsh := zaJ0 (t.getD (zi0 t a.name).toNat Queue.zero) p a.amount
   simp only [if_neg hf, decide_true, Bool.not_true, Bool.false_eq_true, if_false]
   rw [zb2 (by omega), zbe7, Option.bind_some]
   unfold putT
   by_cases e : (zw0 (t.getD (zi0 t a.name).toNat Queue.zero) p a.amount).2.2 = 0
   ·rw [if_neg (nd0 e), if_pos e, zb2 (by omega), zG3 _ _ (by omega), Option.bind_some]
    by_cases e2 : getH (t.getD (zi0 t a.name).toNat Queue.zero).holds p = a.amount
    ·rw [if_pos (decide_eq_true e2.symm), if_pos e2, zQ4 _ _ _ (by omega) h.lens (by omega), Option.bind_some, zbD3 e e2]; rfl
    ·rw [if_neg (by rw [decide_eq_true_eq]; exact fun h => e2 h.symm), if_neg e2, zQ4 _ _ _ (by omega) h.lens (by omega), Option.bind_some, zce0 _ _ _ (by have := hsh.2.2.2; omega) (by simp)]; rfl
   ·rw [if_pos (nd1 e), if_neg e]; rfl
theorem zbg0 (t : List Queue) (p : Proc) (a : Atom) (pr : Int) : zx8 t p a pr = some (zW6 t p a pr) := by
 unfold zx8 zW6 atT
 rw [zW5, Option.bind_some]
 cases hv : zN7 t with
 | false => rfl
 | true =>
  have h := (zJ7 t).1 hv
  have hl := h.len
  have hpl := h.procs
  rw [ifNT, ifTF, zal5 _ _ (by omega), Option.bind_some]
  by_cases hf : zi0 t a.name < 0
  ·rw [if_pos (decide_eq_true hf), if_pos hf]; rfl
  ·have hr := zS6 hf
   have hsh := zaI9 (t.getD (zi0 t a.name).toNat Queue.zero) p a.amount pr
   rw [if_neg (by rw [decide_eq_true_eq]; exact hf), if_neg hf, zax4 hl h.each, Option.bind_some, zao3 _ _ (by omega)]
   have e8 : decide (((zt0 t).length : Int) = 8) = decide (8 ≤ (zt0 t).length) := by rw [decide_eq_decide]; omega
   rw [e8]
   have hfu : zao4 t p = (decide (8 ≤ (zt0 t).length) && !decide (p ∈ zt0 t)) := rfl
   have hb2 : ((if decide (8 ≤ (zt0 t).length) = true then some (decide (p ∈ zt0 t)) else some false) : Option Bool).bind (fun v4 => if (decide (8 ≤ (zt0 t).length) && !v4) = true then some (([], [], 4) : ResT) else gd (0 ≤ zi0 t a.name ∧ zi0 t a.name < (t.length : Int)) <| (zq9 (t.getD (zi0 t a.name).toNat Queue.zero) p a.amount pr).bind fun v5 => if (!decide (v5.2.2 = 0)) = true then some (([], [], v5.2.2) : ResT) else (zi3 t (zi0 t a.name) v5.1).bind fun v6 => (zi7 a.name v5.2.1).bind fun v7 => some ((v6, v7, 0) : ResT)) =
     if zao4 t p = true then some (errT 4) else gd (0 ≤ zi0 t a.name ∧ zi0 t a.name < (t.length : Int)) <| (zq9 (t.getD (zi0 t a.name).toNat Queue.zero) p a.amount pr).bind fun v5 => if (!decide (v5.2.2 = 0)) = true then some (([], [], v5.2.2) : ResT) else (zi3 t (zi0 t a.name) v5.1).bind fun v6 => (zi7 a.name v5.2.1).bind fun v7 => some ((v6, v7, 0) : ResT) := by
    rw [hfu]
    by_cases h8 : 8 ≤ (zt0 t).length
    ·simp only [h8, decide_true, if_true, Option.bind_some, Bool.true_and]; rfl
    ·simp only [h8, decide_false, Bool.false_eq_true, if_false, Option.bind_some, Bool.false_and]
   refine Eq.trans hb2 ?_
   cases hfu2 : zao4 t p with
   | true => rfl
   | false =>
    rw [ifFT, zb2 (by omega), zbe6, Option.bind_some]
    unfold putT
    simp only [Bool.false_eq_true, if_false]
    by_cases e : (zD5 (t.getD (zi0 t a.name).toNat Queue.zero) p a.amount pr).2.2 = 0
    ·rw [if_neg (nd0 e), if_pos e, zZ2 _ _ _ (by omega) (by omega) (by omega), Option.bind_some, zal6 _ _ (by have := hsh.2.2.2; omega)]; rfl
    ·rw [if_pos (nd1 e), if_neg e]; rfl
theorem zaU1 (t : List Queue) (p : Proc) (nm : ByteArray) : zu6 t p nm = some (zad6 t p nm) := by
 unfold zu6 zad6 atT
 rw [zW5, Option.bind_some]
 cases hv : zN7 t with
 | false => rfl
 | true =>
  have h := (zJ7 t).1 hv
  have hl := h.len
  rw [ifNT, ifTF, zal5 _ _ (by omega), Option.bind_some]
  by_cases hf : zi0 t nm < 0
  ·rw [if_pos (decide_eq_true hf), if_pos hf]; rfl
  ·have hr := zS6 hf
   have hsh := zaC8 (t.getD (zi0 t nm).toNat Queue.zero) p
   rw [if_neg (by rw [decide_eq_true_eq]; exact hf), if_neg hf, zb2 (by omega), zaT9, Option.bind_some]
   unfold putT
   dsimp only
   by_cases e : (zz8 (t.getD (zi0 t nm).toNat Queue.zero) p).2.2 = 0
   ·rw [if_neg (nd0 e), if_pos e, zZ2 _ _ _ (by omega) (by omega) (by omega), Option.bind_some, zal6 _ _ (by have := hsh.2.2.2; omega)]; rfl
   ·rw [if_pos (nd1 e), if_neg e]; rfl
theorem zbg1 (t : List Queue) (p : Proc) (a : Atom) : zy0 t p a = some (zaq5 t p a) := by
 unfold zy0 zaq5 atT
 rw [zW5, Option.bind_some]
 cases hv : zN7 t with
 | false => rfl
 | true =>
  have h := (zJ7 t).1 hv
  have hl := h.len
  rw [ifNT, ifTF, zal5 _ _ (by omega), Option.bind_some]
  by_cases hf : zi0 t a.name < 0
  ·rw [if_pos (decide_eq_true hf), if_pos hf]; rfl
  ·have hr := zS6 hf
   have hs := zaq6 h hf
   have hql := zJ6 hs
   have hsh := zaJ0 (t.getD (zi0 t a.name).toNat Queue.zero) p a.amount
   rw [if_neg (by rw [decide_eq_true_eq]; exact hf), if_neg hf, zb2 (by omega), zal1 _ _ (by omega), Option.bind_some, zb2 (by omega), zbe8, Option.bind_some]
   unfold putT
   have k1 : ∀ ev : List Event, ev.length ≤ 1 → (zw0 (t.getD (zi0 t a.name).toNat Queue.zero) p a.amount).2.2 = 0 → zB9 t a (zi0 t a.name) (zw0 (t.getD (zi0 t a.name).toNat Queue.zero) p a.amount) ev = some (zaJ2 t (zi0 t a.name) (zw0 (t.getD (zi0 t a.name).toNat Queue.zero) p a.amount).1, ev ++ zad5 a.name (zw0 (t.getD (zi0 t a.name).toNat Queue.zero) p a.amount).2.1, 0) := fun ev hev e => by
    unfold zB9
    have hg : (zad5 a.name (zw0 (t.getD (zi0 t a.name).toNat Queue.zero) p a.amount).2.1).length ≤ 16 := by unfold zad5; rw [List.length_map]; exact hsh.2.2.2
    rw [zZ2 _ _ _ (by omega) (by omega) (by omega), Option.bind_some, zal6 _ _ (by have := hsh.2.2.2; omega), Option.bind_some, zb2 (by omega)]
   dsimp only
   by_cases e : (zw0 (t.getD (zi0 t a.name).toNat Queue.zero) p a.amount).2.2 = 0
   ·rw [if_neg (nd0 e), if_pos e]
    by_cases e2 : getH (t.getD (zi0 t a.name).toNat Queue.zero).holds p = a.amount
    ·rw [if_neg (nd0 e2), if_pos e2, k1 [] (by simp) e]
    ·rw [if_pos (nd1 e2), if_neg e2, zb2 (by decide), k1 _ (by simp) e]; rfl
   ·rw [if_pos (nd1 e), if_neg e]; rfl
end Ab
end Go.Proofs.YtfjeceicgfdmjaaGreatDoor
namespace Go.Proofs.YtfjeceicgfdmjaaGreatDoor
namespace Ab
set_option linter.unusedVariables false
set_option linter.unusedSimpArgs false
def ascR : List Resource → Option ByteArray → Bool
 | [], _ => true
 | r :: l, pv => resV r && ((match pv with | none => true | some n => decide (ltN n r.name)) && ascR l (some r.name))
theorem zbz0 : ∀ (l : List Resource) (pv : Option ByteArray), ascR l pv = true ↔ (∀ r ∈ l, resV r = true) ∧ l.Pairwise (fun a b => ltN a.name b.name) ∧ ∀ n, pv = some n → ∀ r ∈ l, ltN n r.name
 | [], pv => by
  simp only [ascR, List.not_mem_nil, false_implies, implies_true, and_true, true_and, true_iff]
  exact .nil
 | q :: t, pv => by
  simp only [ascR, Bool.and_eq_true]
  rw [zbz0 t (some q.name)]
  constructor
  ·rintro ⟨h1, h2, h3, h4, h5⟩
   refine ⟨fun x hx => ?_, List.pairwise_cons.2 ⟨fun x hx => h5 _ rfl x hx, h4⟩, fun n hn x hx => ?_⟩
   ·rcases List.mem_cons.1 hx with rfl | hx
    ·exact h1
    ·exact h3 x hx
   ·subst hn
    simp only [decide_eq_true_eq] at h2
    rcases List.mem_cons.1 hx with rfl | hx
    ·exact h2
    ·exact zbm7 h2 (h5 _ rfl x hx)
  ·rintro ⟨h1, h2, h3⟩
   have h2' := List.pairwise_cons.1 h2
   refine ⟨h1 q (.head _), ?_, fun x hx => h1 x (.tail _ hx), h2'.2, fun n hn x hx => by cases hn; exact h2'.1 x hx⟩
   cases pv with
   | none => rfl
   | some n => exact decide_eq_true (h3 n rfl q (.head _))
def catV (l : List Resource) : Bool := decide (l.length ≤ 8) && ascR l none
theorem zaJ3 (l : List Resource) : catV l = true ↔ l.length ≤ 8 ∧ (∀ r ∈ l, resV r = true) ∧ l.Pairwise (fun a b => ltN a.name b.name) := by
 unfold catV
 rw [Bool.and_eq_true, decide_eq_true_eq, zbz0]
 simp
theorem zbK6 (t0 : List Resource) : ∀ (t prev : List Resource), t0 = prev ++ t →
  walk (fun i q (_ : Unit) => some (if resV q = true ∧ (i = 0 ∨ ltN (t0.getD (i - 1) Resource.zero).name q.name) then Sum.inl () else Sum.inr (Sum.inr (α := Unit) false))) (fun _ => Sum.inl (β := Bool) ()) t prev.length () =
   some (if ascR t (prev.getLast?.map (·.name)) = true then .inl () else .inr false) := by
 intro t
 induction t with
 | nil => intro prev _; simp [walk, ascR]
 | cons q t ih =>
  intro prev ht
  simp only [walk]
  have hq : (prev.length = 0 ∨ ltN (t0.getD (prev.length - 1) Resource.zero).name q.name) ↔ (match prev.getLast?.map (·.name) with | none => true | some n => decide (ltN n q.name)) = true := by
   by_cases hp : prev = []
   ·subst hp; simp
   ·have h1 := zbm8 prev (q :: t) Resource.zero hp
    rw [ht, h1, List.getLast?_eq_some_getLast hp]
    have : prev.length ≠ 0 := fun e => hp (List.eq_nil_of_length_eq_zero e)
    simp [this]
  by_cases e : resV q = true ∧ (prev.length = 0 ∨ ltN (t0.getD (prev.length - 1) Resource.zero).name q.name)
  ·rw [if_pos e]
   have := ih (prev ++ [q]) (by rw [ht]; simp)
   rw [show (prev ++ [q]).length = prev.length + 1 by simp] at this
   simp only
   have h2 : ascR (q :: t) (prev.getLast?.map (·.name)) = ascR t (some q.name) := by simp only [ascR, e.1, hq.1 e.2, Bool.true_and]
   rw [this, h2]
   simp
  ·rw [if_neg e]
   rw [hq] at e
   have hf : ascR (q :: t) (prev.getLast?.map (·.name)) = false := by
    rw [Bool.eq_false_iff]
    intro hh
    simp only [ascR, Bool.and_eq_true] at hh
    exact e ⟨hh.1, hh.2.1⟩
   rw [hf]; rfl
theorem zbz1 {body : Int → Option (Int ⊕ (Unit ⊕ Bool))} (t : List Resource) (hl : t.length ≤ 8)
  (hb : ∀ i : Nat, i < t.length → body (i : Int) = some (if resV (t.getD i Resource.zero) = true ∧ (i = 0 ∨ ltN (t.getD (i - 1) Resource.zero).name (t.getD i Resource.zero).name) then .inl ((i + 1 : Nat) : Int) else .inr (.inr false)))
  (he : body (t.length : Int) = some (.inr (.inl ()))) : zb9 body 0 = some (if ascR t none = true then .inl () else .inr false) := by
 have key := zap9 (body := body) t Resource.zero (fun i (_ : Unit) => (i : Int)) (fun i q _ => some (if resV q = true ∧ (i = 0 ∨ ltN (t.getD (i - 1) Resource.zero).name q.name) then Sum.inl () else Sum.inr (Sum.inr (α := Unit) false))) (fun _ => Sum.inl (β := Bool) ())
  (fun i s hi => by
   rw [hb i hi, Option.map_some]
   split <;> rfl) (fun s => he) ()
 have := zbK6 t t [] rfl
 rw [show (0 : Int) = (fun (i : Nat) (_ : Unit) => (i : Int)) 0 () from rfl, key]
 exact this
theorem zaP5 (t : List Resource) : zj5 t = some (catV t) := by
 unfold zj5 catV
 by_cases h8 : 8 < t.length
 ·have : ¬ t.length ≤ 8 := by omega
  rw [if_pos (by simp; omega)]
  simp [this]
 ·have hl : t.length ≤ 8 := by omega
  rw [if_neg (by simp; omega), zbz1 t hl (fun i hi => by
   unfold zI4
   have h3 : 0 ≤ (i : Int) ∧ (i : Int) < (t.length : Int) := by omega
   simp only [h3.1, h3.2, and_self, implies_true, zl3, decide_true, if_true, Int.toNat_natCast, zah1, Option.bind_some, ze3 i (by omega)]
   by_cases e0 : i = 0
   ·subst e0
    rw [zb2 (by simp)]
    cases resV (t.getD 0 Resource.zero) <;> simp
   ·rw [zad9 i (by omega) (by omega), zb2 (by intro _; omega)]
    simp only [Int.toNat_natCast, show (0 : Int) < (i : Int) by omega, decide_true, Bool.true_and, e0, false_or]
    unfold ltN
    rcases hb (resV (t.getD i Resource.zero)) with b1 | b1 <;> rcases hb (Op.bytesLess (t.getD (i - 1) Resource.zero).name.toList (t.getD i Resource.zero).name.toList) with b2 | b2 <;> simp [b1, b2, -List.getD_eq_getElem?_getD]) (by unfold zI4; simp)]
  simp only [hl, decide_true, Bool.true_and]
  cases hw : ascR t none <;> rfl
theorem zbg2 (t : List Resource) : zo1 t = some (catV t) := by
 unfold zo1 catV
 by_cases h8 : 8 < t.length
 ·have : ¬ t.length ≤ 8 := by omega
  rw [if_pos (by simp; omega)]
  simp [this]
 ·have hl : t.length ≤ 8 := by omega
  rw [if_neg (by simp; omega), zbz1 t hl (fun i hi => by
   unfold zN9
   have h3 : 0 ≤ (i : Int) ∧ (i : Int) < (t.length : Int) := by omega
   simp only [h3.1, h3.2, and_self, implies_true, zl3, decide_true, if_true, Int.toNat_natCast, zaH8, Option.bind_some, ze3 i (by omega)]
   by_cases e0 : i = 0
   ·subst e0
    rw [zb2 (by simp)]
    cases resV (t.getD 0 Resource.zero) <;> simp
   ·rw [zad9 i (by omega) (by omega), zb2 (by intro _; omega)]
    simp only [Int.toNat_natCast, show (0 : Int) < (i : Int) by omega, decide_true, Bool.true_and, e0, false_or]
    unfold ltN
    rcases hb (resV (t.getD i Resource.zero)) with b1 | b1 <;> rcases hb (Op.bytesLess (t.getD (i - 1) Resource.zero).name.toList (t.getD i Resource.zero).name.toList) with b2 | b2 <;> simp [b1, b2, -List.getD_eq_getElem?_getD]) (by unfold zN9; simp)]
  simp only [hl, decide_true, Bool.true_and]
  cases hw : ascR t none <;> rfl
def newT (l : List Resource) : List Queue × Int := if catV l = true then (l.map zK8, 0) else ([], 1)
theorem zaJ4 (l : List Resource) : zv6 l = some (newT l) := by
 unfold zv6 newT
 rw [zbg2, Option.bind_some]
 cases h : catV l with
 | false => rfl
 | true =>
  have hl := ((zaJ3 l).1 h).1
  rw [ifNT, zai1 l Resource.zero zK8 [] (by omega) (by simp) (fun i s hi hs => by
   unfold zU1
   have h3 : 0 ≤ (i : Int) ∧ (i : Int) < (l.length : Int) := by omega
   have h1 : s.length + 1 ≤ 4294967296 := by omega
   simp only [h1, h3.1, h3.2, and_self, zl3, decide_true, if_true, Int.toNat_natCast, ze3 i (show i < 4611686018427387904 by omega)]
   rfl) (fun s => by unfold zU1; simp)]
  rfl
theorem zaJ5 (l : List Resource) : zs3 l = some (newT l) := by
 unfold zs3 newT
 rw [zaP5, Option.bind_some]
 cases h : catV l with
 | false => rfl
 | true =>
  obtain ⟨hl, hv, _⟩ := (zaJ3 l).1 h
  have key := zv4 (body := zL9 l) l Resource.zero (fun i (s : List Queue) => ((i : Int), s)) (fun _ r s => some (.inl (s ++ [zK8 r]))) (fun s => .inl s) (fun i s => s.length = i)
   (fun i s hi hs => by
    refine ⟨?_, fun s' h => by simp only [Option.some.injEq, Sum.inl.injEq] at h; subst h; simp [hs]⟩
    unfold zL9
    have h3 : 0 ≤ (i : Int) ∧ (i : Int) < (l.length : Int) := by omega
    have h1 : s.length + 1 ≤ 4294967296 := by omega
    have hr : newQ (l.getD i Resource.zero) = (zK8 (l.getD i Resource.zero), 0) := by unfold newQ; rw [if_pos (hv _ (zD7 hi))]; rfl
    simp only [h1, h3.1, h3.2, and_self, zl3, decide_true, if_true, Int.toNat_natCast, ze3 i (show i < 4611686018427387904 by omega), zbq9, hr, Option.bind_some, Bool.not_true, Bool.false_eq_true, if_false]
    rfl)
   (fun s hs => by unfold zL9; simp) [] rfl
  have fold : ∀ (l : List Resource) (i : Nat) (s : List Queue), walk (fun (_ : Nat) r (s : List Queue) => some (Sum.inl (β := List Queue ⊕ List Queue × Int) (s ++ [zK8 r]))) (fun s => Sum.inl s) l i s = some (.inl (s ++ l.map zK8)) := by
   intro l
   induction l with
   | nil => intro i s; simp [walk]
   | cons r l ih => intro i s; simp only [walk, List.map_cons]; rw [ih (i + 1), List.append_assoc]; rfl
  rw [ifNT, show ((0, []) : Int × List Queue) = (fun (i : Nat) (s : List Queue) => ((i : Int), s)) 0 [] from rfl, key, fold]
  rfl
def zbz2 (p : Proc) (q : Queue) : List Atom := if getH q.holds p = Amount.zero then [] else [⟨q.resource.name, getH q.holds p⟩]
theorem zbz3 (t : List Queue) (p : Proc) (hl : t.length ≤ 1000) (hs : Lens t) : zm5 t p = some (t.flatMap (zbz2 p)) := by
 unfold zm5
 have key := zv4 (body := zA8 t p) t Queue.zero (fun i (s : List Atom) => ((i : Int), s)) (fun _ q s => some (.inl (s ++ zbz2 p q))) (fun s => s) (fun i s => s.length ≤ i)
  (fun i s hi hs' => by
   have hq := hs _ (zD7 (z := Queue.zero) hi)
   have h3 : 0 ≤ (i : Int) ∧ (i : Int) < (t.length : Int) := by omega
   have h1 : s.length + 1 ≤ 4294967296 := by omega
   refine ⟨?_, fun s' h => ?_⟩
   ·unfold zA8 zbz2
    simp only [h1, h3.1, h3.2, and_self, zl3, decide_true, if_true, Int.toNat_natCast, ze3 i (show i < 4611686018427387904 by omega)]
    rw [zG3 _ _ (by omega), Option.bind_some]
    by_cases e : getH (t.getD i Queue.zero).holds p = Amount.zero
    ·rw [if_neg (nd0 e), if_pos e, List.append_nil]; rfl
    ·rw [if_pos (nd1 e), if_neg e]; rfl
   ·simp only [Option.some.injEq, Sum.inl.injEq] at h; subst h
    unfold zbz2
    split
    ·simp; omega
    ·simp; omega)
  (fun s hs => by unfold zA8; simp) [] (by simp)
 rw [show ((0, []) : Int × List Atom) = (fun (i : Nat) (s : List Atom) => ((i : Int), s)) 0 [] from rfl, key, zaJ1 (zbz2 p)]
 rfl
def tR : Resource := ⟨⟨#[97]⟩, 1, 1, 0⟩
def tP0 : Proc := ⟨0, 1, 1⟩
def aT0 : List Queue := [⟨tR, [], [], [], 0⟩]
def aT1 : List Queue := [⟨tR, [⟨tP0, ⟨5, 0⟩⟩], [], [], 1⟩]
theorem zaJ6 : zk8 = some true := by
 unfold zk8
 have p0 : zby5 0 = tP0 := by decide
 have e1 : newT [{ Resource.zero with name := (⟨#[97]⟩ : ByteArray), kind := 1, units := 1 }] = (aT0, 0) := by decide +kernel
 have e2 : zW6 aT0 tP0 (⟨(⟨#[97]⟩ : ByteArray), { Amount.zero with mode := 5 }⟩ : Atom) 0 = (aT1, [⟨1, tP0, ⟨#[97]⟩, ⟨5, 0⟩⟩], 0) := by decide +kernel
 simp only [zad4, Option.bind_some, p0, zaJ5, e1, zai2, e2]
 rw [zbz3 aT1 _ (by decide) (by intro q hq; rw [List.mem_singleton.1 hq]; exact ⟨by decide, by decide, by decide⟩), Option.bind_some, zaC9 aT1 _ (by decide), zax3]
 decide +kernel
structure Small (t : List Queue) : Prop where
 len : t.length ≤ 20
 lens : Lens t
end Ab
end Go.Proofs.YtfjeceicgfdmjaaGreatDoor
namespace Go.Proofs.YtfjeceicgfdmjaaGreatDoor
namespace Ab
set_option linter.unusedVariables false
set_option linter.unusedSimpArgs false
theorem zZ3 {t : List Queue} (h : ∀ q ∈ t, zc3 q = true) {p : Proc} : p ∈ zt0 t ↔ ∃ q ∈ t, hasQ q p = true := by
 unfold zt0
 rw [zaz2, List.mem_flatMap]
 constructor
 ·rintro ⟨q, hq, hp⟩; exact ⟨q, hq, (zbe4 ((zh4 q).1 (h q hq)).1).1 hp⟩
 ·rintro ⟨q, hq, hp⟩; exact ⟨q, hq, (zbe4 ((zh4 q).1 (h q hq)).1).2 hp⟩
theorem zaq7 (t : List Queue) : (zt0 t).Nodup := zaO7 (zaO6 _)
theorem ValidT.map {t : List Queue} (h : ValidT t) (f : Queue → Queue) (h1 : ∀ q ∈ t, zc3 (f q) = true) (h2 : ∀ q ∈ t, (f q).resource = q.resource) (h3 : ∀ q ∈ t, ∀ p, hasQ (f q) p = true → hasQ q p = true) : ValidT (t.map f) := by
 have he : ∀ q ∈ t.map f, zc3 q = true := fun q hq => by
  obtain ⟨x, hx, rfl⟩ := List.mem_map.1 hq
  exact h1 x hx
 refine ⟨by rw [List.length_map]; exact h.len, he, ?_, ?_⟩
 ·have := h.asc
  unfold AscN at *
  rw [List.pairwise_map]
  exact this.imp_of_mem fun {a b} ha hb hab => by rw [h2 a ha, h2 b hb]; exact hab
 ·refine Nat.le_trans (List.Nodup.length_le_of_subset (zaq7 _) fun x hx => ?_) h.procs
  obtain ⟨q, hq, hp⟩ := (zZ3 he).1 hx
  obtain ⟨y, hy, rfl⟩ := List.mem_map.1 hq
  exact (zZ3 h.each).2 ⟨y, hy, h3 y hy x hp⟩
end Ab
end Go.Proofs.YtfjeceicgfdmjaaGreatDoor
