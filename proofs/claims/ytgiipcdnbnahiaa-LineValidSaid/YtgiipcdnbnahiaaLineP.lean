/-
  The line's functions in plain Lean.
-/
import Derived.Test.YtgiipcdnbnahiaaFn
import Derived.Test.YtgiipcdnbnahiaaPure
namespace Go.Proofs.Ytgiipcdnbnahiaa
namespace Ab
set_option linter.unusedVariables false
set_option linter.unusedSimpArgs false

/-- The first place of a process in a line, from a count on. -/
def findI (p : Proc) : List Wait → Nat → Option Nat
  | [], _ => none
  | w :: l, i => if w.proc = p then some i else findI p l (i + 1)
def find1 (l : List Wait) (p : Proc) : Int := match findI p l 0 with
  | some i => i
  | none => -1

theorem firstR_find (l : List Wait) (p : Proc) : ∀ k i, i + k = l.length → firstR (fun i => if (l.getD i Wait.zero).proc = p then some (i : Int) else none) k i = (findI p (l.drop i) i).map fun n : Nat => (n : Int)
  | 0, i, h => by rw [List.drop_eq_nil_of_le (by omega)]; rfl
  | k + 1, i, h => by
    rw [getD_drop l i Wait.zero (by omega)]
    simp only [firstR, findI]
    by_cases hp : (l.getD i Wait.zero).proc = p
    · simp only [hp, if_true, Option.map_some]
    · simp only [hp, if_false]
      exact firstR_find l p k (i + 1) (by omega)

theorem line_Find_eq (l : List Wait) (p : Proc) (hl : l.length < 4611686018427387904) : f_line_Find l p = some (find1 l p) := by
  unfold f_line_Find
  have key : loopO (f_line_Find_l1 l p) 0 = some ((firstR (fun i => if (l.getD i Wait.zero).proc = p then some (Sum.inr (i : Int)) else none) l.length 0).getD (Sum.inl ())) := by
    refine loop_range l.length _ (Sum.inl ()) (fun i hi => ?_) ?_
    · unfold f_line_Find_l1
      rw [if_pos (by simpa using hi), gd_pos (by omega)]
      simp only [Int.toNat_natCast, decide_eq_true_eq]
      split
      · rfl
      · rw [wrap_id (by omega) (by omega)]
    · unfold f_line_Find_l1
      rw [if_neg (by simp)]
  rw [key]
  have h2 := firstR_find l p l.length 0 (by omega)
  have h3 : ∀ k i, firstR (fun i => if (l.getD i Wait.zero).proc = p then some (Sum.inr (α := Unit) (i : Int)) else none) k i = (firstR (fun i => if (l.getD i Wait.zero).proc = p then some (i : Int) else none) k i).map Sum.inr := by
    intro k
    induction k with
    | zero => intro i; rfl
    | succ k ih =>
      intro i
      simp only [firstR]
      by_cases hp : (l.getD i Wait.zero).proc = p
      · simp only [hp, if_true, Option.map_some]
      · simp only [hp, if_false, ih]
  rw [h3, h2, List.drop_zero]
  unfold find1
  cases findI p l 0 <;> rfl

theorem ref11_Find_eq (l : List Wait) (p : Proc) (hl : l.length < 4611686018427387904) : f_ref11_Find l p = some (find1 l p) := by
  have e : f_ref11_Find l p = f_line_Find l p := rfl
  rw [e]; exact line_Find_eq l p hl

theorem validWait_eq (w : Wait) : f_ref11_ValidWait w = f_line_ValidWait w := by
  unfold f_ref11_ValidWait f_line_ValidWait f_ref02_ValidProc f_ident_ValidProc f_ident_between f_ref07_Usable f_amount_Fits f_amount_Shaped f_ref03_Valid f_mode_Valid
  rw [Bool.eq_iff_iff]
  simp
  omega

/-- Is a line valid? -/
def validL (l : List Wait) : Bool := decide (l.length ≤ 8) && (List.range l.length).all fun i => f_line_ValidWait (l.getD i Wait.zero) && decide (find1 l (l.getD i Wait.zero).proc = i)

theorem firstR_all (p : Nat → Bool) : ∀ k i, firstR (fun i => if p i = true then none else some (Sum.inr (α := Unit) false)) k i = if (List.range' i k).all p = true then none else some (.inr false)
  | 0, i => rfl
  | k + 1, i => by
    simp only [firstR, List.range'_succ, List.all_cons]
    cases hp : p i with
    | true =>
      simp only [if_true, Bool.true_and]
      exact firstR_all p k (i + 1)
    | false => simp

theorem line_Valid_eq (l : List Wait) (hl : l.length < 4611686018427387904) : f_line_Valid l = some (validL l) := by
  unfold f_line_Valid validL
  by_cases h8 : 8 < (l.length : Int)
  · rw [if_pos (by simpa using h8)]
    have : ¬ l.length ≤ 8 := by omega
    simp [this]
  · rw [if_neg (by simpa using h8)]
    have key : loopO (f_line_Valid_l1 l) 0 = some ((firstR (fun i => if (f_line_ValidWait (l.getD i Wait.zero) && decide (find1 l (l.getD i Wait.zero).proc = i)) = true then none else some (Sum.inr false)) l.length 0).getD (Sum.inl ())) := by
      refine loop_range l.length _ (Sum.inl ()) (fun i hi => ?_) ?_
      · unfold f_line_Valid_l1
        rw [if_pos (by simpa using hi), gd_pos (by omega)]
        simp only [Int.toNat_natCast]
        by_cases hv : f_line_ValidWait (l.getD i Wait.zero) = true
        · simp only [hv, if_true, line_Find_eq l _ hl, Option.bind_some, Bool.not_true, Bool.false_or, Bool.true_and]
          by_cases hf : find1 l (l.getD i Wait.zero).proc = (i : Int)
          · simp only [hf, decide_true, Bool.not_true, Bool.false_eq_true, if_false, if_true]
            rw [wrap_id (by omega) (by omega)]
          · simp only [hf, decide_false, Bool.not_false, if_true, Bool.false_eq_true, if_false]
        · have hv : f_line_ValidWait (l.getD i Wait.zero) = false := by simpa using hv
          simp only [hv, Bool.false_eq_true, if_false, Option.bind_some, Bool.not_false, Bool.true_or, if_true, Bool.false_and]
      · unfold f_line_Valid_l1
        rw [if_neg (by simp)]
    rw [key, firstR_all, ← List.range_eq_range']
    have : l.length ≤ 8 := by omega
    simp only [this, decide_true, Bool.true_and]
    cases (List.range l.length).all fun i => f_line_ValidWait (l.getD i Wait.zero) && decide (find1 l (l.getD i Wait.zero).proc = i) <;> rfl

theorem ref11_Valid_eq (l : List Wait) (hl : l.length < 4611686018427387904) : f_ref11_Valid l = some (validL l) := by
  rw [← line_Valid_eq l hl]
  unfold f_ref11_Valid f_line_Valid
  have e : f_ref11_Valid_l1 l = f_line_Valid_l1 l := funext fun i => by
    unfold f_ref11_Valid_l1 f_line_Valid_l1
    by_cases hi : i < (l.length : Int)
    · rw [if_pos (decide_eq_true hi), if_pos (decide_eq_true hi)]
      by_cases h0 : 0 ≤ i ∧ i < (l.length : Int)
      · rw [gd_pos h0, gd_pos h0, gd_pos (fun _ => h0)]
        simp only [validWait_eq, ref11_Find_eq l _ hl, line_Find_eq l _ hl]
      · unfold gd; rw [if_neg h0, if_neg h0]
    · rw [if_neg (by simpa using hi)]; rw [if_neg (by simpa using hi)]
  rw [e]
  rfl

theorem mill_Proc_0 : f_mill_Proc 0 = some ⟨0, 1, 1⟩ := by rfl
theorem mill_Proc_1 : f_mill_Proc 1 = some ⟨1, 1, 1⟩ := by rfl
theorem mill_Proc_2 : f_mill_Proc 2 = some ⟨2, 1, 1⟩ := by rfl
theorem mill_Proc_3 : f_mill_Proc 3 = some ⟨3, 1, 1⟩ := by rfl
def wt (s p q : Int) : Wait := ⟨⟨s, 1, 1⟩, ⟨5, 0⟩, p, q⟩
theorem awake_insert : f_line_Insert [wt 0 2 0, wt 1 0 0, wt 2 0 0] (wt 3 1 0) = some ([wt 0 2 0, wt 3 1 0, wt 1 0 1, wt 2 0 1], 1, 0) := by
  unfold f_line_Insert
  rw [line_Valid_eq _ (by decide), show validL [wt 0 2 0, wt 1 0 0, wt 2 0 0] = true by decide, Option.bind_some]
  rw [if_neg (by decide), if_neg (by decide), line_Find_eq _ _ (by decide), show find1 [wt 0 2 0, wt 1 0 0, wt 2 0 0] (wt 3 1 0).proc = -1 by decide, Option.bind_some]
  rw [if_neg (by decide), if_neg (by decide), gd_pos (by decide), loop_of_iter (x := (1, [wt 0 2 0, wt 1 0 0, wt 1 0 1, wt 2 0 1])) 5 (by rfl), Option.bind_some]
  rfl
theorem findI_lt {p : Proc} : ∀ {l : List Wait} {i j : Nat}, findI p l i = some j → i ≤ j ∧ j < i + l.length
  | w :: l, i, j, h => by
    simp only [findI] at h
    split at h
    · cases h; simp
    · have := findI_lt h; simp only [List.length_cons]; omega
theorem find1_lt (l : List Wait) (p : Proc) : find1 l p = -1 ∨ 0 ≤ find1 l p ∧ find1 l p < l.length := by
  unfold find1
  cases h : findI p l 0 with
  | none => exact .inl rfl
  | some j => right; have := findI_lt h; simp only; omega

theorem foldR_snoc {α : Type} (f : Nat → α) : ∀ n i (s : List α), foldR (X := List α) (fun i s => .inl (s ++ [f i])) (fun s => s) n i s = s ++ (List.range' i n).map f
  | 0, i, s => by simp [foldR]
  | n + 1, i, s => by simp [foldR, foldR_snoc f n (i + 1), List.range'_succ]
theorem range_getD {α β : Type} (l : List α) (z : α) (f : α → β) : ∀ n i, i + n ≤ l.length → (List.range' i n).map (fun i => f (l.getD i z)) = ((l.drop i).take n).map f
  | 0, i, h => by simp
  | n + 1, i, h => by
    rw [getD_drop l i z (by omega), List.take_succ_cons, List.range'_succ, List.map_cons, List.map_cons, range_getD l z f n (i + 1) (by omega)]

theorem line_Ahead_eq (l : List Wait) (p : Proc) (hl : l.length < 4294967296) : f_line_Ahead l p = some ((l.take (find1 l p).toNat).map (·.proc)) := by
  unfold f_line_Ahead
  rw [line_Find_eq l p (by omega), Option.bind_some]
  have hb := find1_lt l p
  generalize find1 l p = v at hb
  have key := loop_fold (body := f_line_Ahead_l1 l v) v.toNat (fun i s => .inl (s ++ [(l.getD i Wait.zero).proc])) (fun s => s) (fun i s => s.length = i) (fun i s hi hs => by
    refine ⟨?_, fun s' h => by cases h; simp [hs]⟩
    unfold f_line_Ahead_l1
    rw [if_pos (decide_eq_true (by simp only; omega)), gd_pos (by simp only; omega), gd_pos (by simp only; omega), wrap_id (by simp only; omega) (by simp only; omega)]
    rfl) (fun s hs => by
    unfold f_line_Ahead_l1
    rw [if_neg (by simp only [decide_eq_true_eq]; omega)]) [] rfl
  rw [key, foldR_snoc, List.nil_append, range_getD l Wait.zero (·.proc) _ 0 (by omega), List.drop_zero]
  rfl
theorem awake_eq : f_law11_awake = some true := by
  unfold f_law11_awake f_law11_claim
  simp only [mill_Proc_0, mill_Proc_1, mill_Proc_2, mill_Proc_3, Option.bind_some]
  have e : f_line_Insert [{ Wait.zero with proc := ⟨0, 1, 1⟩, amount := { Amount.zero with mode := 5 }, priority := 2 }, { Wait.zero with proc := ⟨1, 1, 1⟩, amount := { Amount.zero with mode := 5 }, priority := 0 }, { Wait.zero with proc := ⟨2, 1, 1⟩, amount := { Amount.zero with mode := 5 }, priority := 0 }] { Wait.zero with proc := ⟨3, 1, 1⟩, amount := { Amount.zero with mode := 5 }, priority := 1 } = some ([wt 0 2 0, wt 3 1 0, wt 1 0 1, wt 2 0 1], 1, 0) := awake_insert
  rw [e]
  simp only [Option.bind_some]
  rw [gd_pos (by decide), gd_pos (by decide), gd_pos (by decide), if_pos (by decide), Option.bind_some, if_pos (by decide), line_Find_eq _ _ (by decide), Option.bind_some, if_pos (by decide), Option.bind_some, if_pos (by decide), line_Ahead_eq _ _ (by decide), Option.bind_some]
  decide
theorem LineValid_true (l : List Wait) (w : Wait) : f_law11_LineValid l w = some true := by
  unfold f_law11_LineValid
  rw [awake_eq]
  simp only [Option.bind_some]
  by_cases h : 100 < (l.length : Int)
  · rw [if_pos (decide_eq_true h)]
  · rw [if_neg (by simpa using h)]
    have hl : l.length < 4611686018427387904 := by omega
    simp only [validWait_eq, decide_true, Bool.and_self, if_true, line_Valid_eq l hl, ref11_Valid_eq l hl, Option.bind_some]
end Ab
end Go.Proofs.Ytgiipcdnbnahiaa
