/-
  Loops of the printed functions, in plain Lean.
-/
import Derived.Test.YtgiipcdnbnahiaaDec
namespace Go.Proofs.Ytgiipcdnbnahiaa
namespace Ab
set_option linter.unusedVariables false

theorem wrap_id {x : Int} (h1 : -9223372036854775808 ≤ x) (h2 : x < 9223372036854775808) : IntKind.i64.wrap x = x := by
  rw [IntKind.wrap_i64]; omega

theorem loop_ind {G X : Type} {body : G → Option (G ⊕ X)} (I : G → Prop) (μ : G → Nat) (spec : G → X)
    (h : ∀ g, I g → (∃ g', body g = some (.inl g') ∧ I g' ∧ μ g' < μ g ∧ spec g' = spec g) ∨ body g = some (.inr (spec g))) : ∀ g, I g → loopO body g = some (spec g) := by
  have key : ∀ n g, μ g = n → I g → loopO body g = some (spec g) := by
    intro n
    induction n using Nat.strongRecOn with
    | _ n ih =>
      intro g hn hg
      rw [loopO_eq]
      rcases h g hg with ⟨g', h1, h2, h3, h4⟩ | h1
      · rw [h1]; simp only; rw [ih (μ g') (hn ▸ h3) g' rfl h2, h4]
      · rw [h1]
  exact fun g hg => key _ g rfl hg

theorem loop_of_iter {G X : Type} {body : G → Option (G ⊕ X)} {g : G} {x : X} (n : Nat) (h : iter body n g = some x) : loopO body g = some x := loopO_iff.2 ⟨n, h⟩

/-- What a search over indices finds. -/
def firstR {X : Type} (out : Nat → Option X) : Nat → Nat → Option X
  | 0, _ => none
  | n + 1, i => match out i with
    | some x => some x
    | none => firstR out n (i + 1)

/-- A loop that counts and looks for the first index at which something comes out. -/
theorem loop_range {X : Type} {body : Int → Option (Int ⊕ X)} (n : Nat) (out : Nat → Option X) (fin : X)
    (h : ∀ i : Nat, i < n → body i = some (match out i with | some x => .inr x | none => .inl ((i : Int) + 1))) (hend : body n = some (.inr fin)) : loopO body 0 = some ((firstR out n 0).getD fin) := by
  have key : ∀ k i, i + k = n → loopO body (i : Int) = some ((firstR out k i).getD fin) := by
    intro k
    induction k with
    | zero =>
      intro i hi
      rw [loopO_eq, show i = n by omega, hend]
      rfl
    | succ k ih =>
      intro i hi
      rw [loopO_eq, h i (by omega)]
      simp only [firstR]
      cases ho : out i with
      | some x => rfl
      | none =>
        simp only
        have := ih (i + 1) (by omega)
        rw [show ((i + 1 : Nat) : Int) = (i : Int) + 1 by omega] at this
        exact this
  exact key n 0 (by omega)

/-- A count with something carried along. -/
def foldR {S X : Type} (step : Nat → S → S ⊕ X) (fin : S → X) : Nat → Nat → S → X
  | 0, _, s => fin s
  | n + 1, i, s => match step i s with
    | .inl s' => foldR step fin n (i + 1) s'
    | .inr x => x
theorem loop_fold {S X : Type} {body : Int × S → Option ((Int × S) ⊕ X)} (n : Nat) (step : Nat → S → S ⊕ X) (fin : S → X) (inv : Nat → S → Prop)
    (h : ∀ i s, i < n → inv i s → body ((i : Int), s) = some (match step i s with | .inl s' => .inl ((i : Int) + 1, s') | .inr x => .inr x) ∧ ∀ s', step i s = .inl s' → inv (i + 1) s')
    (hend : ∀ s, inv n s → body ((n : Int), s) = some (.inr (fin s))) (s0 : S) (h0 : inv 0 s0) : loopO body (0, s0) = some (foldR step fin n 0 s0) := by
  have key : ∀ k i s, i + k = n → inv i s → loopO body ((i : Int), s) = some (foldR step fin k i s) := by
    intro k
    induction k with
    | zero =>
      intro i s hi hs
      rw [loopO_eq, show i = n by omega, hend s (by rw [← show i = n by omega]; exact hs)]
      rfl
    | succ k ih =>
      intro i s hi hs
      obtain ⟨h1, h2⟩ := h i s (by omega) hs
      rw [loopO_eq, h1]
      simp only [foldR]
      cases ho : step i s with
      | inr x => rfl
      | inl s' =>
        simp only
        have := ih (i + 1) s' (by omega) (h2 s' ho)
        rw [show ((i + 1 : Nat) : Int) = (i : Int) + 1 by omega] at this
        exact this
  exact key n 0 s0 (by omega) h0

theorem getD_drop {α : Type} (l : List α) (i : Nat) (z : α) (h : i < l.length) : l.drop i = l.getD i z :: l.drop (i + 1) := by
  rw [List.drop_eq_getElem_cons h, List.getD_eq_getElem?_getD, List.getElem?_eq_getElem h]; rfl
end Ab
end Go.Proofs.Ytgiipcdnbnahiaa
