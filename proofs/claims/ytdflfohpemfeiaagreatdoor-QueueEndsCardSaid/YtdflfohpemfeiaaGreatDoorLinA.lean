/-
  Lines in plain Lean (what is said of them whatever the law).
-/
import Derived.Test.YtdflfohpemfeiaaGreatDoorFn
import Derived.Test.YtdflfohpemfeiaaGreatDoorPure
namespace Go.Proofs.YtdflfohpemfeiaaGreatDoor
namespace Ab
set_option linter.unusedVariables false
set_option linter.unusedSimpArgs false
def findI (p : Proc) : List Wait → Nat → Option Nat
 | [], _ => none
 | w :: l, i => if w.proc = p then some i else findI p l (i + 1)
def find1 (l : List Wait) (p : Proc) : Int := match findI p l 0 with
 | some i => i
 | none => -1
theorem firstR_find (l : List Wait) (p : Proc) : ∀ k i, i + k = l.length → firstR (fun i => if (l.getD i Wait.zero).proc = p then some (i : Int) else none) k i = (findI p (l.drop i) i).map fun n : Nat => (n : Int)
 | 0, i, h => by rw [List.drop_eq_nil_of_le (by omega)]; rfl
 | k + 1, i, h => by
  rw [getD_drop l i Wait.zero (by omega)]
  simp only [firstR, findI]
  by_cases hp : (l.getD i Wait.zero).proc = p
  ·simp only [hp, if_true, Option.map_some]
  ·simp only [hp, if_false]
   exact firstR_find l p k (i + 1) (by omega)
theorem line_Find_eq (l : List Wait) (p : Proc) (hl : l.length < 4611686018427387904) : f_line_Find l p = some (find1 l p) := by
 unfold f_line_Find
 have key : loopO (f_line_Find_l1 l p) 0 = some ((firstR (fun i => if (l.getD i Wait.zero).proc = p then some (Sum.inr (i : Int)) else none) l.length 0).getD (Sum.inl ())) := by
  refine loop_range l.length _ (Sum.inl ()) (fun i hi => ?_) ?_
  ·unfold f_line_Find_l1
   rw [if_pos (by simpa using hi), gd_pos (by omega)]
   simp only [Int.toNat_natCast, decide_eq_true_eq]
   split
   ·rfl
   ·rw [wrap_id (by omega) (by omega)]
  ·unfold f_line_Find_l1
   rw [if_neg (by simp)]
 rw [key]
 have h2 := firstR_find l p l.length 0 (by omega)
 have h3 : ∀ k i, firstR (fun i => if (l.getD i Wait.zero).proc = p then some (Sum.inr (α := Unit) (i : Int)) else none) k i = (firstR (fun i => if (l.getD i Wait.zero).proc = p then some (i : Int) else none) k i).map Sum.inr := by
  intro k
  induction k with
  | zero => intro i; rfl
  | succ k ih =>
   intro i
   simp only [firstR]
   by_cases hp : (l.getD i Wait.zero).proc = p
   ·simp only [hp, if_true, Option.map_some]
   ·simp only [hp, if_false, ih]
 rw [h3, h2, List.drop_zero]
 unfold find1
 cases findI p l 0 <;> rfl
theorem ref11_Find_eq (l : List Wait) (p : Proc) (hl : l.length < 4611686018427387904) : f_ref11_Find l p = some (find1 l p) := by
 have e : f_ref11_Find l p = f_line_Find l p := rfl
 rw [e]; exact line_Find_eq l p hl
theorem validWait_eq (w : Wait) : f_ref11_ValidWait w = f_line_ValidWait w := by
 unfold f_ref11_ValidWait f_line_ValidWait f_ref02_ValidProc f_ident_ValidProc f_ident_between f_ref07_Usable f_amount_Fits f_amount_Shaped f_ref03_Valid f_mode_Valid
 rw [Bool.eq_iff_iff]
 simp
 omega
def validL (l : List Wait) : Bool := decide (l.length ≤ 8) && (List.range l.length).all fun i => f_line_ValidWait (l.getD i Wait.zero) && decide (find1 l (l.getD i Wait.zero).proc = i)
theorem line_Valid_eq (l : List Wait) : f_line_Valid l = some (validL l) := by
 unfold f_line_Valid validL
 by_cases h8 : 8 < (l.length : Int)
 ·rw [if_pos (by simpa using h8)]
  have : ¬ l.length ≤ 8 := by omega
  simp [this]
 ·rw [if_neg (by simpa using h8)]
  have hl : l.length < 4611686018427387904 := by omega
  have key : loopO (f_line_Valid_l1 l) 0 = some ((firstR (fun i => if (f_line_ValidWait (l.getD i Wait.zero) && decide (find1 l (l.getD i Wait.zero).proc = i)) = true then none else some (Sum.inr false)) l.length 0).getD (Sum.inl ())) := by
   refine loop_range l.length _ (Sum.inl ()) (fun i hi => ?_) ?_
   ·unfold f_line_Valid_l1
    rw [if_pos (by simpa using hi), gd_pos (by omega)]
    simp only [Int.toNat_natCast]
    by_cases hv : f_line_ValidWait (l.getD i Wait.zero) = true
    ·simp only [hv, if_true, line_Find_eq l _ hl, Option.bind_some, Bool.not_true, Bool.false_or, Bool.true_and]
     by_cases hf : find1 l (l.getD i Wait.zero).proc = (i : Int)
     ·simp only [hf, decide_true, Bool.not_true, Bool.false_eq_true, if_false, if_true]
      rw [wrap_id (by omega) (by omega)]
     ·simp only [hf, decide_false, Bool.not_false, if_true, Bool.false_eq_true, if_false]
    ·have hv : f_line_ValidWait (l.getD i Wait.zero) = false := by simpa using hv
     simp only [hv, Bool.false_eq_true, if_false, Option.bind_some, Bool.not_false, Bool.true_or, if_true, Bool.false_and]
   ·unfold f_line_Valid_l1
    rw [if_neg (by simp)]
  rw [key, firstR_all, ← List.range_eq_range']
  have : l.length ≤ 8 := by omega
  simp only [this, decide_true, Bool.true_and]
  cases (List.range l.length).all fun i => f_line_ValidWait (l.getD i Wait.zero) && decide (find1 l (l.getD i Wait.zero).proc = i) <;> rfl
theorem ref11_Valid_eq (l : List Wait) : f_ref11_Valid l = some (validL l) := by
 rw [← line_Valid_eq l]
 unfold f_ref11_Valid f_line_Valid
 by_cases h8 : 8 < (l.length : Int)
 ·rw [if_pos (decide_eq_true h8), if_pos (decide_eq_true h8)]
 ·rw [if_neg (by simpa using h8), if_neg (by simpa using h8)]
  have hl : l.length < 4611686018427387904 := by omega
  have e : f_ref11_Valid_l1 l = f_line_Valid_l1 l := funext fun i => by
   unfold f_ref11_Valid_l1 f_line_Valid_l1
   by_cases hi : i < (l.length : Int)
   ·rw [if_pos (decide_eq_true hi), if_pos (decide_eq_true hi)]
    by_cases h0 : 0 ≤ i ∧ i < (l.length : Int)
    ·rw [gd_pos h0, gd_pos h0, gd_pos (fun _ => h0)]
     simp only [validWait_eq, ref11_Find_eq l _ hl, line_Find_eq l _ hl]
    ·unfold gd; rw [if_neg h0, if_neg h0]
   ·rw [if_neg (by simpa using hi)]; rw [if_neg (by simpa using hi)]
  rw [e]
  rfl
theorem findI_lt {p : Proc} : ∀ {l : List Wait} {i j : Nat}, findI p l i = some j → i ≤ j ∧ j < i + l.length
 | w :: l, i, j, h => by
  simp only [findI] at h
  split at h
  ·cases h; simp
  ·have := findI_lt h; simp only [List.length_cons]; omega
theorem find1_lt (l : List Wait) (p : Proc) : find1 l p = -1 ∨ 0 ≤ find1 l p ∧ find1 l p < l.length := by
 unfold find1
 cases h : findI p l 0 with
 | none => exact .inl rfl
 | some j => right; have := findI_lt h; simp only; omega
def over (w e : Wait) : Bool := decide (e.priority < w.priority) && decide (e.passed < 3)
theorem meet_eq (w e : Wait) : decide (f_line_meet w e = 1) = over w e := by
 unfold f_line_meet over
 cases (decide (e.priority < w.priority) && decide (e.passed < 3)) <;> rfl
def placeI (l : List Wait) (w : Wait) : Nat → Nat
 | 0 => 0
 | k + 1 => if over w (l.getD k Wait.zero) = true then placeI l w k else k + 1
theorem placeI_le (l : List Wait) (w : Wait) : ∀ k, placeI l w k ≤ k
 | 0 => Nat.le_refl _
 | k + 1 => by unfold placeI; split <;> have := placeI_le l w k <;> omega
def bump (e : Wait) : Wait := { e with passed := IntKind.i64.wrap (e.passed + 1) }
def insAt (l : List Wait) (w : Wait) (n : Nat) : List Wait := l.take n ++ w :: (l.drop n).map bump
def insS (l : List Wait) (w : Wait) : List Wait × Int × Int :=
 if validL l = false then ([], 0, 2)
 else if f_line_ValidWait w = false ∨ w.passed ≠ 0 then ([], 0, 1)
 else if 0 ≤ find1 l w.proc then ([], 0, 11)
 else if l.length = 8 then ([], 0, 4)
 else (insAt l w (placeI l w l.length), (placeI l w l.length : Int), 0)
theorem validL_len {l : List Wait} (h : validL l = true) : l.length ≤ 8 := by
 simp only [validL, Bool.and_eq_true, decide_eq_true_eq] at h; exact h.1
theorem line_Insert_eq (l : List Wait) (w : Wait) : f_line_Insert l w = some (insS l w) := by
 unfold f_line_Insert insS
 rw [line_Valid_eq, Option.bind_some]
 cases hv : validL l with
 | false => rfl
 | true =>
  have h8 := validL_len hv
  simp only [Bool.not_true, Bool.false_eq_true, Bool.true_eq_false, if_false]
  by_cases hw : f_line_ValidWait w = false ∨ w.passed ≠ 0
  ·rw [if_pos hw, if_pos (by rcases hw with h | h <;> simp [h])]
  ·have hw1 : f_line_ValidWait w = true := by simpa using fun h => hw (.inl h)
   have hw2 : w.passed = 0 := by simpa using fun h => hw (.inr h)
   rw [if_neg hw, if_neg (by simp [hw1, hw2]), line_Find_eq _ _ (by omega), Option.bind_some]
   by_cases hf : 0 ≤ find1 l w.proc
   ·rw [if_pos hf, if_pos (decide_eq_true hf)]
   ·rw [if_neg hf, if_neg (by simpa using hf)]
    by_cases h9 : l.length = 8
    ·rw [if_pos h9, if_pos (decide_eq_true (by omega))]
    ·rw [if_neg h9, if_neg (by simp; omega), wrap_id (by omega) (by omega), gd_pos (by omega)]
     have e1 : ((l.length : Int) + 1).toNat = l.length + 1 := by omega
     rw [e1, List.take_zero, List.nil_append, List.take_of_length_le (show l.length ≤ l.length + 1 by omega), Nat.zero_add, Nat.min_eq_left (show l.length ≤ l.length + 1 by omega)]
     obtain ⟨x, hx, h1, h2, h3, h4⟩ := loop_rel (body := f_line_Insert_l1 w) (fun g => ∃ i : Nat, g.1 = i ∧ i ≤ l.length ∧ g.2.length = l.length + 1 ∧ g.2.take i = l.take i ∧ g.2.drop (i + 1) = (l.drop i).map bump ∧ placeI l w l.length = placeI l w i) (fun g => g.1.toNat)
      (fun x => x.1 = (placeI l w l.length : Nat) ∧ x.2.length = l.length + 1 ∧ x.2.take (placeI l w l.length) = l.take (placeI l w l.length) ∧ x.2.drop (placeI l w l.length + 1) = (l.drop (placeI l w l.length)).map bump) (fun g ⟨i, g1, g2, g3, g4, g5, g6⟩ => by
       obtain ⟨gi, r⟩ := g
       simp only at g1 g3 g4 g5
       subst g1
       unfold f_line_Insert_l1
       simp only [meet_eq]
       cases i with
       | zero =>
        refine .inr ⟨(0, r), ?_, by simp [g6, placeI], g3, by simp [g6, placeI], by simpa [g6, placeI] using g5⟩
        rw [gd_pos (by simp)]
        rfl
       | succ i =>
        have hgd : r.getD i Wait.zero = l.getD i Wait.zero := by
         rw [← getD_take r i (i + 1) _ (by omega), g4, getD_take _ _ _ _ (by omega)]
        have e2 : IntKind.i64.wrap (((i + 1 : Nat) : Int) - 1) = (i : Int) := by rw [wrap_id (by omega) (by omega)]; omega
        simp only [e2, Int.toNat_natCast, hgd]
        rw [gd_pos (by omega)]
        by_cases ho : over w (l.getD i Wait.zero) = true
        ·left
         rw [if_pos (by simp only [ho, Bool.and_true, decide_eq_true_eq]; omega), gd_pos (by omega), gd_pos (by omega), gd_pos (by omega), gd_pos (by omega), getD_set_self _ _ _ _ (by omega), List.set_set]
         refine ⟨_, rfl, ⟨i, rfl, by omega, by simpa using g3, ?_, ?_, by rw [g6, placeI, if_pos ho]⟩, by simp only [Int.toNat_natCast]; omega⟩
         ·rw [List.take_set_of_le (by omega)]
          have := congrArg (List.take i) g4
          rwa [List.take_take, List.take_take, Nat.min_eq_left (by omega)] at this
         ·rw [getD_drop l i Wait.zero (by omega), List.map_cons, ← g5, List.drop_eq_getElem_cons (by rw [List.length_set]; omega), List.getElem_set_self, List.drop_set_of_lt (by omega)]
          rfl
        ·right
         refine ⟨((i + 1 : Nat), r), ?_, by rw [g6, placeI, if_neg ho], g3, ?_, ?_⟩
         ·rw [if_neg (by rw [Bool.and_eq_true]; exact fun h => ho h.2)]
         ·rw [g6, placeI, if_neg ho]; exact g4
         ·rw [g6, placeI, if_neg ho]; exact g5) ((l.length : Int), l ++ List.drop l.length (List.replicate (l.length + 1) Wait.zero)) ⟨l.length, rfl, Nat.le_refl _, by simp, by simp, by simp, rfl⟩
     rw [hx, Option.bind_some]
     have hp := placeI_le l w l.length
     obtain ⟨xi, r⟩ := x
     simp only at h1 h2 h3 h4
     subst h1
     unfold f_line_Insert_k1
     rw [gd_pos (by simp only; omega)]
     simp only [Int.toNat_natCast, insAt]
     rw [List.set_eq_take_append_cons_drop, if_pos (by omega), h3, h4]
theorem ref11_Insert_eq (l : List Wait) (w : Wait) : f_ref11_Insert l w = some (insS l w) := by
 unfold f_ref11_Insert insS
 rw [ref11_Valid_eq, Option.bind_some]
 cases hv : validL l with
 | false => rfl
 | true =>
  have h8 := validL_len hv
  simp only [Bool.not_true, Bool.false_eq_true, Bool.true_eq_false, if_false, validWait_eq]
  by_cases hw : f_line_ValidWait w = false ∨ w.passed ≠ 0
  ·rw [if_pos hw, if_pos (by rcases hw with h | h <;> simp [h])]
  ·have hw1 : f_line_ValidWait w = true := by simpa using fun h => hw (.inl h)
   have hw2 : w.passed = 0 := by simpa using fun h => hw (.inr h)
   rw [if_neg hw, if_neg (by simp [hw1, hw2]), ref11_Find_eq _ _ (by omega), Option.bind_some]
   by_cases hf : 0 ≤ find1 l w.proc
   ·rw [if_pos hf, if_pos (decide_eq_true hf)]
   ·rw [if_neg hf, if_neg (by simpa using hf)]
    by_cases h9 : l.length = 8
    ·rw [if_pos h9, if_pos (decide_eq_true (by omega))]
    ·rw [if_neg h9, if_neg (by simp; omega)]
     have h2 := loop_ind (body := f_ref11_Insert_l2 l w) (fun g => ∃ i : Nat, g = i ∧ i ≤ l.length) (fun g => g.toNat) (fun g => ((placeI l w g.toNat : Nat) : Int)) (fun g ⟨i, g1, g2⟩ => by
      subst g1
      unfold f_ref11_Insert_l2
      cases i with
      | zero => right; rw [gd_pos (by simp), gd_pos (by simp)]; rfl
      | succ i =>
       have e2 : IntKind.i64.wrap (((i + 1 : Nat) : Int) - 1) = (i : Int) := by rw [wrap_id (by omega) (by omega)]; omega
       simp only [e2, Int.toNat_natCast]
       rw [gd_pos (by omega), gd_pos (by omega), Bool.and_assoc]
       by_cases ho : over w (l.getD i Wait.zero) = true
       ·left
        rw [if_pos (by unfold over at ho; simp only [ho, Bool.and_true, decide_eq_true_eq]; omega)]
        exact ⟨_, rfl, ⟨i, rfl, by omega⟩, by simp only [Int.toNat_natCast]; omega, by simp only [Int.toNat_natCast, placeI, ho, if_true]⟩
       ·right
        rw [if_neg (by rw [Bool.and_eq_true]; exact fun h => ho h.2)]
        simp only [placeI, if_neg ho]) (l.length : Int) ⟨l.length, rfl, Nat.le_refl _⟩
     rw [h2, Option.bind_some]
     simp only [Int.toNat_natCast]
     have hp := placeI_le l w l.length
     generalize placeI l w l.length = n at hp
     unfold f_ref11_Insert_k1
     simp only [Int.toNat_natCast]
     rw [gd_pos (by omega), gd_pos (by simp; omega), gd_pos (by simp; omega)]
     have key := loop_foldAt (body := f_ref11_Insert_l1 l) l.length (fun i s => .inl (s ++ [bump (l.getD i Wait.zero)])) (fun s => s) (fun i s => s.length ≤ i + 1) (fun i s hi hs => by
      refine ⟨?_, fun s' h => by cases h; simp; omega⟩
      unfold f_ref11_Insert_l1
      rw [if_pos (decide_eq_true (by simp only; omega)), gd_pos (by simp only; omega), gd_pos (by simp only; omega), wrap_id (by simp only; omega) (by simp only; omega)]
      rfl) (fun s hs => by
      unfold f_ref11_Insert_l1
      rw [if_neg (by simp)]) (l.length - n) n (l.take n ++ [w]) (by omega) (by simp only [List.length_append, List.length_take, List.length_cons, List.length_nil]; omega)
     have e3 : (l.drop n).take (l.length - n) = l.drop n := List.take_of_length_le (by simp)
     rw [key, foldR_snoc, range_getD l Wait.zero bump _ n (by omega), e3, Option.bind_some]
     simp [f_ref11_Insert_k2, insAt]
theorem sameWaits_eq (a b : List Wait) (hl : a.length < 4611686018427387904) : f_ref11_SameWaits a b = some (decide (a = b)) := by
 unfold f_ref11_SameWaits
 by_cases h : a.length = b.length
 ·rw [if_neg (by simp [h])]
  exact same_loop a b Wait.zero hl h fun i => rfl
 ·rw [if_pos (by simp; omega)]
  have : a ≠ b := fun e => h (by rw [e])
  simp [this]
theorem sameProcs_eq (a b : List Proc) (hl : a.length < 4611686018427387904) : f_ref02_SameProcs a b = some (decide (a = b)) := by
 unfold f_ref02_SameProcs
 by_cases h : a.length = b.length
 ·rw [if_neg (by simp [h])]
  exact same_loop a b Proc.zero hl h fun i => rfl
 ·rw [if_pos (by simp; omega)]
  have : a ≠ b := fun e => h (by rw [e])
  simp [this]
theorem insS_len (l : List Wait) (w : Wait) : (insS l w).1.length ≤ l.length + 1 := by
 unfold insS
 split
 ·simp
 ·split
  ·simp
  ·split
   ·simp
   ·split
    ·simp
    ·have := placeI_le l w l.length
     simp [insAt]; omega
def notP (p : Proc) (w : Wait) : Bool := !decide (w.proc = p)
def rmL (l : List Wait) (p : Proc) : List Wait := l.filter (notP p)
theorem rmL_len (l : List Wait) (p : Proc) : (rmL l p).length ≤ l.length := List.length_filter_le _ _
theorem line_Remove_eq (l : List Wait) (p : Proc) (hl : l.length < 4294967296) : f_line_Remove l p = some (rmL l p, decide ((rmL l p).length < l.length)) := by
 unfold f_line_Remove
 have key := loop_fold (body := f_line_Remove_l1 l p) l.length (fun i s => .inl (if notP p (l.getD i Wait.zero) = true then s ++ [l.getD i Wait.zero] else s)) (fun s => s) (fun i s => s.length ≤ i) (fun i s hi hs => by
  refine ⟨?_, fun s' h => by simp only [Sum.inl.injEq] at h; subst h; split <;> first | omega | (simp only [List.length_append, List.length_cons, List.length_nil]; omega)⟩
  unfold f_line_Remove_l1
  rw [if_pos (decide_eq_true (by simp only; omega)), gd_pos (by simp only; omega), wrap_id (by simp only; omega) (by simp only; omega)]
  simp only [Int.toNat_natCast]
  by_cases hp : (!decide ((l.getD i Wait.zero).proc = p)) = true
  ·rw [if_pos hp, if_pos (show notP p _ = true from hp), gd_pos (by omega)]
  ·rw [if_neg hp, if_neg (show ¬ notP p _ = true from hp)]) (fun s hs => by
  unfold f_line_Remove_l1
  rw [if_neg (by simp)]) [] (Nat.zero_le _)
 rw [key, foldR_keep l Wait.zero (notP p) l.length 0 [] (by omega), List.nil_append, List.drop_zero, Option.bind_some]
 unfold f_line_Remove_k1 rmL
 simp
theorem ref11_Remove_eq (l : List Wait) (p : Proc) (hl : l.length < 4294967296) : f_ref11_Remove l p = some (rmL l p, decide ((rmL l p).length < l.length)) := by
 rw [← line_Remove_eq l p hl]
 unfold f_ref11_Remove f_line_Remove
 have e : f_ref11_Remove_l1 l p = f_line_Remove_l1 l p := funext fun g => by
  unfold f_ref11_Remove_l1 f_line_Remove_l1
  by_cases hi : g.1 < (l.length : Int)
  ·rw [if_pos (decide_eq_true hi), if_pos (decide_eq_true hi)]
   by_cases h0 : 0 ≤ g.1 ∧ g.1 < (l.length : Int)
   ·rw [gd_pos h0, gd_pos h0, gd_pos h0]
   ·unfold gd; rw [if_neg h0, if_neg h0]
  ·rw [if_neg (by simpa using hi)]; rw [if_neg (by simpa using hi)]
 rw [e]; rfl
def cl (i : Nat) (pr : Int) : Wait := ⟨⟨(i % 8 % 4 : Nat), 1, (1 + i % 8 / 4 : Nat)⟩, ⟨5, 0⟩, pr, 0⟩
def clL (k : Nat) (pr : Int) : List Wait := (List.range k).map fun i => cl i pr
theorem insS_cl : ∀ pr : Fin 8, ∀ k : Fin 8, insS (clL k.val pr.val) (cl k.val pr.val) = (clL (k.val + 1) pr.val, (k.val : Int), 0) := by decide +kernel
theorem insS_cl8 : ∀ pr : Fin 8, (insS (clL 8 pr.val) (cl 8 pr.val)).2.2 ≠ 0 := by decide +kernel
theorem findI_none {p : Proc} : ∀ {l : List Wait} {i : Nat}, findI p l i = none ↔ ∀ w ∈ l, w.proc ≠ p
 | [], i => by simp [findI]
 | w :: l, i => by
  simp only [findI]
  by_cases h : w.proc = p
  ·simp [h]
  ·simp only [h, if_false, findI_none (l := l), List.mem_cons, forall_eq_or_imp, ne_eq, not_false_eq_true, true_and]
theorem find1_neg {l : List Wait} {p : Proc} : ¬ 0 ≤ find1 l p ↔ ∀ w ∈ l, w.proc ≠ p := by
 rw [← findI_none (i := 0)]
 unfold find1
 cases findI p l 0 <;> simp
theorem findI_append {p : Proc} : ∀ {l m : List Wait} {i : Nat}, (∀ w ∈ l, w.proc ≠ p) → findI p (l ++ m) i = findI p m (i + l.length)
 | [], m, i, _ => rfl
 | w :: l, m, i, h => by
  simp only [List.cons_append, findI, if_neg (h w (.head _)), List.length_cons]
  rw [findI_append fun x hx => h x (.tail _ hx)]
  congr 1; omega
theorem validL_at {l : List Wait} (h : validL l = true) {i : Nat} (hi : i < l.length) : f_line_ValidWait (l.getD i Wait.zero) = true := by
 simp only [validL, Bool.and_eq_true, List.all_eq_true, List.mem_range] at h
 exact (h.2 i hi).1
theorem validWait_passed {w : Wait} (h : f_line_ValidWait w = true) : 0 ≤ w.passed ∧ w.passed ≤ 3 := by
 unfold f_line_ValidWait at h
 simp only [Bool.and_eq_true, decide_eq_true_eq] at h
 exact ⟨h.1.2, h.2⟩
theorem insS_cases (l : List Wait) (w : Wait) : ((insS l w).2.2 ≠ 0 ∧ (insS l w).1 = [] ∧ (insS l w).2.1 = 0) ∨
  (validL l = true ∧ f_line_ValidWait w = true ∧ w.passed = 0 ∧ (∀ e ∈ l, e.proc ≠ w.proc) ∧ l.length < 8 ∧ insS l w = (insAt l w (placeI l w l.length), (placeI l w l.length : Int), 0)) := by
 unfold insS
 by_cases h1 : validL l = false
 ·rw [if_pos h1]; left; decide
 ·have h1' : validL l = true := by simpa using h1
  rw [if_neg h1]
  by_cases h2 : f_line_ValidWait w = false ∨ w.passed ≠ 0
  ·rw [if_pos h2]; left; decide
  ·rw [if_neg h2]
   by_cases h3 : 0 ≤ find1 l w.proc
   ·rw [if_pos h3]; left; decide
   ·rw [if_neg h3]
    by_cases h4 : l.length = 8
    ·rw [if_pos h4]; left; decide
    ·rw [if_neg h4]; right
     have := validL_len h1'
     exact ⟨h1', by simpa using fun h => h2 (.inl h), by simpa using fun h => h2 (.inr h), find1_neg.1 h3, by omega, rfl⟩
theorem bump_proc (e : Wait) : (bump e).proc = e.proc := rfl
theorem rm_insAt {l : List Wait} {w : Wait} (h : ∀ e ∈ l, e.proc ≠ w.proc) (n : Nat) : rmL (insAt l w n) w.proc = l.take n ++ (l.drop n).map bump := by
 unfold rmL insAt
 rw [List.filter_append, List.filter_cons_of_neg (by simp [notP])]
 congr 1
 ·rw [List.filter_eq_self]
  intro e he
  have := h e (List.mem_of_mem_take he)
  simpa [notP] using this
 ·rw [List.filter_eq_self]
  intro e he
  obtain ⟨x, hx, rfl⟩ := List.mem_map.1 he
  have := h x (List.mem_of_mem_drop hx)
  unfold notP
  rw [bump_proc, decide_eq_false this]
  rfl
theorem find_insAt {l : List Wait} {w : Wait} (h : ∀ e ∈ l, e.proc ≠ w.proc) {n : Nat} (hn : n ≤ l.length) : find1 (insAt l w n) w.proc = n := by
 unfold find1 insAt
 rw [findI_append fun e he => h e (List.mem_of_mem_take he)]
 simp [findI, hn]
end Ab
end Go.Proofs.YtdflfohpemfeiaaGreatDoor
