/-
  Loops of the printed functions, in plain Lean.
-/
import Derived.Test.YtfjeceicgfdmjaaGreatDoorDec
namespace Go.Proofs.YtfjeceicgfdmjaaGreatDoor
namespace Ab
set_option linter.unusedSimpArgs false
set_option linter.unusedVariables false
theorem ze1 {x : Int} (h1 : -9223372036854775808 ≤ x) (h2 : x < 9223372036854775808) : IntKind.i64.wrap x = x := by
 rw [IntKind.wrap_i64]; omega
theorem zaY9 {G X : Type} {body : G → Option (G ⊕ X)} (I : G → Prop) (μ : G → Nat) (spec : G → X)
  (h : ∀ g, I g → (∃ g', body g = some (.inl g') ∧ I g' ∧ μ g' < μ g ∧ spec g' = spec g) ∨ body g = some (.inr (spec g))) : ∀ g, I g → zb8 body g = some (spec g) := by
 have key : ∀ n g, μ g = n → I g → zb8 body g = some (spec g) := by
  intro n
  induction n using Nat.strongRecOn with
  | _ n ih =>
   intro g hn hg
   rw [zd6]
   rcases h g hg with ⟨g', h1, h2, h3, h4⟩ | h1
   ·rw [h1]; simp only; rw [ih (μ g') (hn ▸ h3) g' rfl h2, h4]
   ·rw [h1]
 exact fun g hg => key _ g rfl hg
def zr3 {X : Type} (out : Nat → Option X) : Nat → Nat → Option X
 | 0, _ => none
 | n + 1, i => match out i with
  | some x => some x
  | none => zr3 out n (i + 1)
theorem zv2 {X : Type} {body : Int → Option (Int ⊕ X)} (n : Nat) (out : Nat → Option X) (fin : X)
  (h : ∀ i : Nat, i < n → body i = some (match out i with | some x => .inr x | none => .inl ((i : Int) + 1))) (hend : body n = some (.inr fin)) : zb8 body 0 = some ((zr3 out n 0).getD fin) := by
 have key : ∀ k i, i + k = n → zb8 body (i : Int) = some ((zr3 out k i).getD fin) := by
  intro k
  induction k with
  | zero =>
   intro i hi
   rw [zd6, show i = n by omega, hend]
   rfl
  | succ k ih =>
   intro i hi
   rw [zd6, h i (by omega)]
   simp only [zr3]
   cases ho : out i with
   | some x => rfl
   | none =>
    simp only
    have := ih (i + 1) (by omega)
    rw [show ((i + 1 : Nat) : Int) = (i : Int) + 1 by omega] at this
    exact this
 exact key n 0 (by omega)
def zaq7 {S X : Type} (step : Nat → S → S ⊕ X) (fin : S → X) : Nat → Nat → S → X
 | 0, _, s => fin s
 | n + 1, i, s => match step i s with
  | .inl s' => zaq7 step fin n (i + 1) s'
  | .inr x => x
theorem zbI7 {S X : Type} {body : Int × S → Option ((Int × S) ⊕ X)} (n : Nat) (step : Nat → S → S ⊕ X) (fin : S → X) (inv : Nat → S → Prop)
  (h : ∀ i s, i < n → inv i s → body ((i : Int), s) = some (match step i s with | .inl s' => .inl ((i : Int) + 1, s') | .inr x => .inr x) ∧ ∀ s', step i s = .inl s' → inv (i + 1) s')
  (hend : ∀ s, inv n s → body ((n : Int), s) = some (.inr (fin s))) (s0 : S) (h0 : inv 0 s0) : zb8 body (0, s0) = some (zaq7 step fin n 0 s0) := by
 have key : ∀ k i s, i + k = n → inv i s → zb8 body ((i : Int), s) = some (zaq7 step fin k i s) := by
  intro k
  induction k with
  | zero =>
   intro i s hi hs
   rw [zd6, show i = n by omega, hend s (by rw [← show i = n by omega]; exact hs)]
   rfl
  | succ k ih =>
   intro i s hi hs
   obtain ⟨h1, h2⟩ := h i s (by omega) hs
   rw [zd6, h1]
   simp only [zaq7]
   cases ho : step i s with
   | inr x => rfl
   | inl s' =>
    simp only
    have := ih (i + 1) s' (by omega) (h2 s' ho)
    rw [show ((i + 1 : Nat) : Int) = (i : Int) + 1 by omega] at this
    exact this
 exact key n 0 s0 (by omega) h0
theorem zQ1 {G X : Type} {body : G → Option (G ⊕ X)} (I : G → Prop) (μ : G → Nat) (Post : X → Prop)
  (h : ∀ g, I g → (∃ g', body g = some (.inl g') ∧ I g' ∧ μ g' < μ g) ∨ ∃ x, body g = some (.inr x) ∧ Post x) : ∀ g, I g → ∃ x, zb8 body g = some x ∧ Post x := by
 have key : ∀ n g, μ g = n → I g → ∃ x, zb8 body g = some x ∧ Post x := by
  intro n
  induction n using Nat.strongRecOn with
  | _ n ih =>
   intro g hn hg
   rw [zd6]
   rcases h g hg with ⟨g', h1, h2, h3⟩ | ⟨x, h1, h2⟩
   ·rw [h1]; exact ih (μ g') (hn ▸ h3) g' rfl h2
   ·rw [h1]; exact ⟨x, rfl, h2⟩
 exact fun g hg => key _ g rfl hg
theorem zbt6 {S X : Type} {body : Int × S → Option ((Int × S) ⊕ X)} (n : Nat) (step : Nat → S → S ⊕ X) (fin : S → X) (inv : Nat → S → Prop)
  (h : ∀ i s, i < n → inv i s → body ((i : Int), s) = some (match step i s with | .inl s' => .inl ((i : Int) + 1, s') | .inr x => .inr x) ∧ ∀ s', step i s = .inl s' → inv (i + 1) s')
  (hend : ∀ s, inv n s → body ((n : Int), s) = some (.inr (fin s))) : ∀ k i s, i + k = n → inv i s → zb8 body ((i : Int), s) = some (zaq7 step fin k i s) := by
 intro k
 induction k with
 | zero =>
  intro i s hi hs
  rw [zd6, show i = n by omega, hend s (by rw [← show i = n by omega]; exact hs)]
  rfl
 | succ k ih =>
  intro i s hi hs
  obtain ⟨h1, h2⟩ := h i s (by omega) hs
  rw [zd6, h1]
  simp only [zaq7]
  cases ho : step i s with
  | inr x => rfl
  | inl s' =>
   simp only
   have := ih (i + 1) s' (by omega) (h2 s' ho)
   rw [show ((i + 1 : Nat) : Int) = (i : Int) + 1 by omega] at this
   exact this
theorem zE6 (p : Nat → Bool) {U : Type} : ∀ k i, zr3 (fun i => if p i = true then none else some (Sum.inr (α := U) false)) k i = if (List.range' i k).all p = true then none else some (.inr false)
 | 0, i => rfl
 | k + 1, i => by
  simp only [zr3, List.range'_succ, List.all_cons]
  cases hp : p i with
  | true =>
   simp only [if_true, Bool.true_and]
   exact zE6 p k (i + 1)
  | false => simp
theorem zek2 {α : Type} [DecidableEq α] (a b : List α) (z : α) (h : a.length = b.length) : ((List.range a.length).all fun i => decide (a.getD i z = b.getD i z)) = decide (a = b) := by
 rw [Bool.eq_iff_iff]
 simp only [List.all_eq_true, List.mem_range, decide_eq_true_eq]
 constructor
 ·intro hh
  refine List.ext_getElem h fun i h1 h2 => ?_
  have := hh i h1
  rwa [List.getD_eq_getElem?_getD, List.getD_eq_getElem?_getD, List.getElem?_eq_getElem h1, List.getElem?_eq_getElem h2] at this
 ·rintro rfl i _; rfl
theorem zbI8 {α : Type} [DecidableEq α] (a b : List α) (z : α) {body : Int → Option (Int ⊕ (Unit ⊕ Bool))} (hl : a.length < 4611686018427387904) (h : a.length = b.length)
  (hb : ∀ i : Int, body i = if (decide (i < (a.length : Int))) = true then gd (0 ≤ i ∧ i < (a.length : Int)) <| gd (0 ≤ i ∧ i < (b.length : Int)) <|
   (if (!decide (a.getD i.toNat z = b.getD i.toNat z)) = true then some (.inr (.inr false)) else some (.inl (IntKind.i64.wrap (i + 1)))) else some (.inr (.inl ()))) :
  (zb8 body 0).bind (fun | .inl _ => some true | .inr z => some z) = some (decide (a = b)) := by
 have key : zb8 body 0 = some ((zr3 (fun i => if decide (a.getD i z = b.getD i z) = true then none else some (Sum.inr false)) a.length 0).getD (Sum.inl ())) := by
  refine zv2 a.length _ (Sum.inl ()) (fun i hi => ?_) ?_
  ·rw [hb, if_pos (decide_eq_true (by omega)), zb2 (by omega), zb2 (by omega)]
   simp only [Int.toNat_natCast]
   by_cases hx : a.getD i z = b.getD i z
   ·simp only [hx, decide_true, Bool.not_true, Bool.false_eq_true, if_false, if_true]
    rw [ze1 (by omega) (by omega)]
   ·simp only [hx, decide_false, Bool.not_false, if_true, Bool.false_eq_true, if_false]
  ·rw [hb, if_neg (by simp)]
 rw [key, zE6, ← List.range_eq_range', zek2 a b z h]
 cases decide (a = b) <;> rfl
theorem zaZ0 {α : Type} (f : Nat → α) : ∀ n i (s : List α), zaq7 (X := List α) (fun i s => .inl (s ++ [f i])) (fun s => s) n i s = s ++ (List.range' i n).map f
 | 0, i, s => by simp [zaq7]
 | n + 1, i, s => by simp [zaq7, zaZ0 f n (i + 1), List.range'_succ]
theorem zaZ1 {α : Type} (l : List α) (z : α) (p : α → Bool) : ∀ n i (s : List α), i + n = l.length → zaq7 (X := List α) (fun i s => .inl (if p (l.getD i z) = true then s ++ [l.getD i z] else s)) (fun s => s) n i s = s ++ (l.drop i).filter p
 | 0, i, s, h => by simp [zaq7, List.drop_eq_nil_of_le (show l.length ≤ i by omega)]
 | n + 1, i, s, h => by
  have hd : l.drop i = l.getD i z :: l.drop (i + 1) := by
   rw [List.drop_eq_getElem_cons (show i < l.length by omega), List.getD_eq_getElem?_getD, List.getElem?_eq_getElem (show i < l.length by omega)]; rfl
  rw [hd]
  simp only [zaq7, zaZ1 l z p n (i + 1) _ (by omega), List.filter_cons]
  split <;> simp
theorem zW9 {α : Type} (l : List α) (i : Nat) (z : α) (h : i < l.length) : l.drop i = l.getD i z :: l.drop (i + 1) := by
 rw [List.drop_eq_getElem_cons h, List.getD_eq_getElem?_getD, List.getElem?_eq_getElem h]; rfl
theorem zaZ2 {α β : Type} (l : List α) (z : α) (f : α → β) : ∀ n i, i + n ≤ l.length → (List.range' i n).map (fun i => f (l.getD i z)) = ((l.drop i).take n).map f
 | 0, i, h => by simp
 | n + 1, i, h => by
  rw [zW9 l i z (by omega), List.take_succ_cons, List.range'_succ, List.map_cons, List.map_cons, zaZ2 l z f n (i + 1) (by omega)]
theorem zbi7 {α : Type} (l : List α) (i n : Nat) (z : α) (h : i < n) : (l.take n).getD i z = l.getD i z := by
 rw [List.getD_eq_getElem?_getD, List.getD_eq_getElem?_getD, List.getElem?_take, if_pos h]
theorem zaj3 {α : Type} (l : List α) (i : Nat) (x z : α) (h : i < l.length) : (l.set i x).getD i z = x := by
 rw [List.getD_eq_getElem?_getD, List.getElem?_set_self h]; rfl
theorem zbI9 {α : Type} (l m : List α) (i : Nat) (z : α) (h : i < l.length) : (l ++ m).getD i z = l.getD i z := by
 rw [List.getD_eq_getElem?_getD, List.getD_eq_getElem?_getD, List.getElem?_append_left h]
end Ab
end Go.Proofs.YtfjeceicgfdmjaaGreatDoor
