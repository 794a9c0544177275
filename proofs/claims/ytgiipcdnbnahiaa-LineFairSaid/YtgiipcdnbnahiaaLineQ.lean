/-
  The line's laws in plain Lean: what is found, removed, kept; equal priorities.
-/
import Derived.Test.YtgiipcdnbnahiaaLineP
namespace Go.Proofs.Ytgiipcdnbnahiaa
namespace Ab
set_option linter.unusedVariables false
set_option linter.unusedSimpArgs false

def notP (p : Proc) (w : Wait) : Bool := !decide (w.proc = p)
def rmL (l : List Wait) (p : Proc) : List Wait := l.filter (notP p)
theorem rmL_len (l : List Wait) (p : Proc) : (rmL l p).length ≤ l.length := List.length_filter_le _ _

theorem line_Remove_eq (l : List Wait) (p : Proc) (hl : l.length < 4294967296) : f_line_Remove l p = some (rmL l p, decide ((rmL l p).length < l.length)) := by
  unfold f_line_Remove
  have key := loop_fold (body := f_line_Remove_l1 l p) l.length (fun i s => .inl (if notP p (l.getD i Wait.zero) = true then s ++ [l.getD i Wait.zero] else s)) (fun s => s) (fun i s => s.length ≤ i) (fun i s hi hs => by
    refine ⟨?_, fun s' h => by simp only [Sum.inl.injEq] at h; subst h; split <;> first | omega | (simp only [List.length_append, List.length_cons, List.length_nil]; omega)⟩
    unfold f_line_Remove_l1
    rw [if_pos (decide_eq_true (by simp only; omega)), gd_pos (by simp only; omega), wrap_id (by simp only; omega) (by simp only; omega)]
    simp only [Int.toNat_natCast]
    by_cases hp : (!decide ((l.getD i Wait.zero).proc = p)) = true
    · rw [if_pos hp, if_pos (show notP p _ = true from hp), gd_pos (by omega)]
    · rw [if_neg hp, if_neg (show ¬ notP p _ = true from hp)]) (fun s hs => by
    unfold f_line_Remove_l1
    rw [if_neg (by simp)]) [] (Nat.zero_le _)
  rw [key, foldR_keep l Wait.zero (notP p) l.length 0 [] (by omega), List.nil_append, List.drop_zero, Option.bind_some]
  unfold f_line_Remove_k1 rmL
  simp

theorem ref11_Remove_eq (l : List Wait) (p : Proc) (hl : l.length < 4294967296) : f_ref11_Remove l p = some (rmL l p, decide ((rmL l p).length < l.length)) := by
  rw [← line_Remove_eq l p hl]
  unfold f_ref11_Remove f_line_Remove
  have e : f_ref11_Remove_l1 l p = f_line_Remove_l1 l p := funext fun g => by
    unfold f_ref11_Remove_l1 f_line_Remove_l1
    by_cases hi : g.1 < (l.length : Int)
    · rw [if_pos (decide_eq_true hi), if_pos (decide_eq_true hi)]
      by_cases h0 : 0 ≤ g.1 ∧ g.1 < (l.length : Int)
      · rw [gd_pos h0, gd_pos h0, gd_pos h0]
      · unfold gd; rw [if_neg h0, if_neg h0]
    · rw [if_neg (by simpa using hi)]; rw [if_neg (by simpa using hi)]
  rw [e]; rfl

theorem ref11_Ahead_eq (l : List Wait) (p : Proc) (hl : l.length < 4294967296) : f_ref11_Ahead l p = some ((l.take (find1 l p).toNat).map (·.proc)) := by
  rw [← line_Ahead_eq l p hl]
  unfold f_ref11_Ahead f_line_Ahead
  rw [ref11_Find_eq l p (by omega), line_Find_eq l p (by omega)]
  rfl

theorem LineLooks_true (l : List Wait) (p : Proc) : f_law11_LineLooks l p = some true := by
  unfold f_law11_LineLooks
  rw [awake_eq]
  by_cases h : 100 < (l.length : Int)
  · rw [if_pos (decide_eq_true h)]; rfl
  · rw [if_neg (by simpa using h)]
    have hr := rmL_len l p
    simp only [line_Remove_eq l p (by omega), ref11_Remove_eq l p (by omega), line_Find_eq l p (by omega), ref11_Find_eq l p (by omega), line_Ahead_eq l p (by omega), ref11_Ahead_eq l p (by omega), Option.bind_some, decide_true, Bool.and_self, if_true,
      sameProcs_eq _ _ (show ((l.take (find1 l p).toNat).map (·.proc)).length < 4611686018427387904 by simp; omega), sameWaits_eq _ _ (show (rmL l p).length < 4611686018427387904 by omega)]

/-! ### Equal priorities -/

def cl (i : Nat) (pr : Int) : Wait := ⟨⟨(i % 8 % 4 : Nat), 1, (1 + i % 8 / 4 : Nat)⟩, ⟨5, 0⟩, pr, 0⟩
def clL (k : Nat) (pr : Int) : List Wait := (List.range k).map fun i => cl i pr
theorem claim_cl : ∀ k : Fin 9, ∀ pr : Fin 8, f_law11_claim ((k.val : Nat) : Int) ((pr.val : Nat) : Int) = some (cl k.val pr.val) := by
  intro k pr
  have : ∀ k : Fin 9, f_mill_Proc ((k.val : Nat) : Int) = some (cl k.val 0).proc := by decide
  unfold f_law11_claim
  rw [this k]
  rfl
theorem insS_cl : ∀ pr : Fin 8, ∀ k : Fin 8, insS (clL k.val pr.val) (cl k.val pr.val) = (clL (k.val + 1) pr.val, (k.val : Int), 0) := by decide +kernel
theorem insS_cl8 : ∀ pr : Fin 8, (insS (clL 8 pr.val) (cl 8 pr.val)).2.2 ≠ 0 := by decide +kernel

theorem LineEqual_true (n pr : Int) : f_law11_LineEqual n pr = some true := by
  unfold f_law11_LineEqual
  rw [awake_eq]
  by_cases h : n < 0 ∨ 8 < n ∨ pr < 0 ∨ 7 < pr
  · rw [if_pos (by rcases h with h | h | h | h <;> simp [h])]; rfl
  · have h1 : 0 ≤ n ∧ n ≤ 8 ∧ 0 ≤ pr ∧ pr ≤ 7 := by omega
    rw [if_neg (by simp; omega)]
    obtain ⟨q, rfl⟩ : ∃ q : Fin 8, pr = ((q.val : Nat) : Int) := ⟨⟨pr.toNat, by omega⟩, by simp; omega⟩
    obtain ⟨m, rfl⟩ : ∃ m : Nat, n = (m : Int) := ⟨n.toNat, by omega⟩
    have key := loop_ind (body := f_law11_LineEqual_l1 (m : Int) ((q.val : Nat) : Int)) (fun g => ∃ k : Nat, k ≤ m ∧ g = (clL k q.val, (k : Int))) (fun g => m - g.2.toNat) (fun _ => .inl (clL m q.val)) (fun g ⟨k, hk, hg⟩ => by
      subst hg
      unfold f_law11_LineEqual_l1
      by_cases hkm : k < m
      · left
        have e1 := claim_cl ⟨k, by omega⟩ q
        have e2 := insS_cl q ⟨k, by omega⟩
        simp only at e1 e2
        rw [if_pos (decide_eq_true (by simp only; omega))]
        simp only [e1, Option.bind_some, line_Insert_eq, e2]
        rw [if_neg (by simp), wrap_id (by omega) (by omega)]
        exact ⟨_, rfl, ⟨k + 1, by omega, by simp⟩, by simp only; omega, by first | rfl | trivial⟩
      · right
        rw [if_neg (by simp; omega), show k = m by omega]) ([], 0) ⟨0, Nat.zero_le _, rfl⟩
    rw [key, Option.bind_some]
    unfold f_law11_LineEqual_k1
    have e1 := claim_cl ⟨m, by omega⟩ q
    simp only at e1
    simp only [e1, Option.bind_some, line_Insert_eq, awake_eq]
    have hlen : (clL m q.val).length = m := by simp [clL]
    by_cases hm : m < 8
    · have e2 := insS_cl q ⟨m, hm⟩
      simp only at e2
      rw [e2]
      simp [hlen]; omega
    · have hm8 : m = 8 := by omega
      subst hm8
      have e2 := insS_cl8 q
      simp [hlen, e2]

/-! ### What an insertion keeps -/

theorem findI_none {p : Proc} : ∀ {l : List Wait} {i : Nat}, findI p l i = none ↔ ∀ w ∈ l, w.proc ≠ p
  | [], i => by simp [findI]
  | w :: l, i => by
    simp only [findI]
    by_cases h : w.proc = p
    · simp [h]
    · simp only [h, if_false, findI_none (l := l), List.mem_cons, forall_eq_or_imp, ne_eq, not_false_eq_true, true_and]
theorem find1_neg {l : List Wait} {p : Proc} : ¬ 0 ≤ find1 l p ↔ ∀ w ∈ l, w.proc ≠ p := by
  rw [← findI_none (i := 0)]
  unfold find1
  cases findI p l 0 <;> simp
theorem findI_append {p : Proc} : ∀ {l m : List Wait} {i : Nat}, (∀ w ∈ l, w.proc ≠ p) → findI p (l ++ m) i = findI p m (i + l.length)
  | [], m, i, _ => rfl
  | w :: l, m, i, h => by
    simp only [List.cons_append, findI, if_neg (h w (.head _)), List.length_cons]
    rw [findI_append fun x hx => h x (.tail _ hx)]
    congr 1; omega

theorem validL_at {l : List Wait} (h : validL l = true) {i : Nat} (hi : i < l.length) : f_line_ValidWait (l.getD i Wait.zero) = true := by
  simp only [validL, Bool.and_eq_true, List.all_eq_true, List.mem_range] at h
  exact (h.2 i hi).1
theorem validWait_passed {w : Wait} (h : f_line_ValidWait w = true) : 0 ≤ w.passed ∧ w.passed ≤ 3 := by
  unfold f_line_ValidWait at h
  simp only [Bool.and_eq_true, decide_eq_true_eq] at h
  exact ⟨h.1.2, h.2⟩

theorem insS_cases (l : List Wait) (w : Wait) : ((insS l w).2.2 ≠ 0 ∧ (insS l w).1 = [] ∧ (insS l w).2.1 = 0) ∨
    (validL l = true ∧ f_line_ValidWait w = true ∧ w.passed = 0 ∧ (∀ e ∈ l, e.proc ≠ w.proc) ∧ l.length < 8 ∧ insS l w = (insAt l w (placeI l w l.length), (placeI l w l.length : Int), 0)) := by
  unfold insS
  by_cases h1 : validL l = false
  · rw [if_pos h1]; left; decide
  · have h1' : validL l = true := by simpa using h1
    rw [if_neg h1]
    by_cases h2 : f_line_ValidWait w = false ∨ w.passed ≠ 0
    · rw [if_pos h2]; left; decide
    · rw [if_neg h2]
      by_cases h3 : 0 ≤ find1 l w.proc
      · rw [if_pos h3]; left; decide
      · rw [if_neg h3]
        by_cases h4 : l.length = 8
        · rw [if_pos h4]; left; decide
        · rw [if_neg h4]; right
          have := validL_len h1'
          exact ⟨h1', by simpa using fun h => h2 (.inl h), by simpa using fun h => h2 (.inr h), find1_neg.1 h3, by omega, rfl⟩

theorem bump_proc (e : Wait) : (bump e).proc = e.proc := rfl
theorem rm_insAt {l : List Wait} {w : Wait} (h : ∀ e ∈ l, e.proc ≠ w.proc) (n : Nat) : rmL (insAt l w n) w.proc = l.take n ++ (l.drop n).map bump := by
  unfold rmL insAt
  rw [List.filter_append, List.filter_cons_of_neg (by simp [notP])]
  congr 1
  · rw [List.filter_eq_self]
    intro e he
    have := h e (List.mem_of_mem_take he)
    simpa [notP] using this
  · rw [List.filter_eq_self]
    intro e he
    obtain ⟨x, hx, rfl⟩ := List.mem_map.1 he
    have := h x (List.mem_of_mem_drop hx)
    unfold notP
    rw [bump_proc, decide_eq_false this]
    rfl
theorem find_insAt {l : List Wait} {w : Wait} (h : ∀ e ∈ l, e.proc ≠ w.proc) {n : Nat} (hn : n ≤ l.length) : find1 (insAt l w n) w.proc = n := by
  unfold find1 insAt
  rw [findI_append fun e he => h e (List.mem_of_mem_take he)]
  simp [findI, hn]

theorem LineKeeps_true (l : List Wait) (w : Wait) : f_law11_LineKeeps l w = some true := by
  unfold f_law11_LineKeeps
  rw [line_Insert_eq, Option.bind_some, awake_eq]
  rcases insS_cases l w with ⟨h1, h2, h3⟩ | ⟨hv, hw, hp, hne, hlen, he⟩
  · rw [if_pos (by simpa using h1), h2, h3]; rfl
  · rw [he]
    have hn := placeI_le l w l.length
    generalize placeI l w l.length = n at hn
    have hil : (insAt l w n).length = l.length + 1 := by simp [insAt]; omega
    have hyl : (l.take n ++ (l.drop n).map bump).length = l.length := by simp; omega
    rw [if_neg (by simp)]
    simp only [line_Remove_eq _ _ (show (insAt l w n).length < 4294967296 by omega), rm_insAt hne, Option.bind_some, hyl, hil, line_Find_eq _ _ (show (insAt l w n).length < 4611686018427387904 by omega), find_insAt hne hn]
    rw [if_pos (by simp), Option.bind_some, if_neg (by simp)]
    have key : loopO (f_law11_LineKeeps_l1 l (insAt l w n, (n : Int), 0) (l.take n ++ (l.drop n).map bump, decide (l.length < l.length + 1))) 0 = some (.inl ()) := by
      refine loop_range (X := Unit ⊕ Bool) l.length (fun _ => none) (.inl ()) (fun i hi => ?_) ?_ |>.trans ?_
      · unfold f_law11_LineKeeps_l1
        have hpas := validWait_passed (validL_at hv hi)
        rw [if_pos (decide_eq_true (by omega))]
        simp only [Int.toNat_natCast, hyl]
        have hii : 0 ≤ (i : Int) ∧ (i : Int) < (l.length : Int) := by omega
        rw [gd_pos hii, gd_pos hii, gd_pos hii, gd_pos (fun _ => hii), gd_pos (fun _ => hii), gd_pos (fun _ => hii), gd_pos (fun _ => hii), gd_pos (fun _ => hii), gd_pos (fun _ => hii), wrap_id (x := (i : Int) + 1) (by omega) (by omega)]
        by_cases hin : i < n
        · have e : (l.take n ++ (l.drop n).map bump).getD i Wait.zero = l.getD i Wait.zero := by
            rw [getD_left _ _ _ _ (by simp; omega)]
            exact getD_take _ _ _ _ hin
          simp only [e]
          have hni : ¬ (n : Int) ≤ (i : Int) := by omega
          simp [hni]
        · have e : (l.take n ++ (l.drop n).map bump).getD i Wait.zero = bump (l.getD i Wait.zero) := by
            rw [getD_right _ _ _ _ (by simp; omega), List.length_take, Nat.min_eq_left hn]
            rw [List.getD_eq_getElem?_getD, List.getD_eq_getElem?_getD, List.getElem?_map, List.getElem?_drop, show n + (i - n) = i by omega, List.getElem?_eq_getElem hi]
            rfl
          simp only [e]
          generalize l.getD i Wait.zero = e at hpas
          have hb : (bump e).passed = e.passed + 1 := by unfold bump; simp only; rw [wrap_id (by omega) (by omega)]
          have hb2 : ({ bump e with passed := e.passed } : Wait) = e := rfl
          have hni : (n : Int) ≤ (i : Int) := by omega
          have h5 : IntKind.i64.wrap (e.passed + 1) = e.passed + 1 := wrap_id (by omega) (by omega)
          have h6 : e.passed < e.passed + 1 := by omega
          simp [hb, hb2, hni, h5, h6]
      · unfold f_law11_LineKeeps_l1
        rw [if_neg (by simp)]
      · have : ∀ k i, firstR (fun _ : Nat => (none : Option (Unit ⊕ Bool))) k i = none := by
          intro k; induction k with
          | zero => intro i; rfl
          | succ k ih => intro i; simp only [firstR, ih]
        rw [this]; rfl
    rw [key]
    rfl
end Ab
end Go.Proofs.Ytgiipcdnbnahiaa
