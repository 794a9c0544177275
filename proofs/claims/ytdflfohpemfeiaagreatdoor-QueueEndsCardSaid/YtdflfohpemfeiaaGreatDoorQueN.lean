/-
  A step of a script, and what a script makes.
-/
import Derived.Test.YtdflfohpemfeiaaGreatDoorQueM
import Derived.Test.YtdflfohpemfeiaaGreatDoorQueT
import Derived.Test.YtdflfohpemfeiaaGreatDoorQueO
namespace Go.Proofs.YtdflfohpemfeiaaGreatDoor
namespace Ab
set_option linter.unusedVariables false
set_option linter.unusedSimpArgs false
def resM (n : Int) : Resource := (catL ⟨[n, n.fdiv (2 ^ 2), n.fdiv (2 ^ 4), n.fdiv (2 ^ 6), n.fdiv (2 ^ 8), n.fdiv (2 ^ 10), n.fdiv (2 ^ 12), n.fdiv (2 ^ 14)], 0⟩).getD (n % 6).toNat Resource.zero
theorem mill_Resource_eq (n : Int) : f_mill_Resource n = some (resM n) := by
 unfold f_mill_Resource
 rw [catalog_eq _ ⟨by simp, by simp⟩, Option.bind_some]
 have hl : ∀ t, ((catL t).length : Int) = 6 := fun _ => rfl
 simp only [hl]
 rw [mod_eq n 6 (by decide) (by decide), Option.bind_some, gdp ⟨Int.emod_nonneg _ (by decide), Int.emod_lt_of_pos _ (by decide)⟩]
 rfl
theorem resM_shaped (n : Int) : f_amount_Shaped (resM n) = true := by
 unfold resM
 generalize (⟨[n, n.fdiv (2 ^ 2), n.fdiv (2 ^ 4), n.fdiv (2 ^ 6), n.fdiv (2 ^ 8), n.fdiv (2 ^ 10), n.fdiv (2 ^ 12), n.fdiv (2 ^ 14)], 0⟩ : Tape) = t
 refine catL_shaped t _ ?_
 have h1 : 0 ≤ n % 6 := Int.emod_nonneg _ (by decide)
 have h2 : n % 6 < 6 := Int.emod_lt_of_pos _ (by decide)
 rw [getD_of_lt _ _ _ (show (n % 6).toNat < 6 by omega)]
 exact List.getElem_mem _
theorem resM_valid (n : Int) : resV (resM n) = true := by
 unfold resM
 generalize (⟨[n, n.fdiv (2 ^ 2), n.fdiv (2 ^ 4), n.fdiv (2 ^ 6), n.fdiv (2 ^ 8), n.fdiv (2 ^ 10), n.fdiv (2 ^ 12), n.fdiv (2 ^ 14)], 0⟩ : Tape) = t
 refine catL_valid t _ ?_
 have h1 : 0 ≤ n % 6 := Int.emod_nonneg _ (by decide)
 have h2 : n % 6 < 6 := Int.emod_lt_of_pos _ (by decide)
 rw [getD_of_lt _ _ _ (show (n % 6).toNat < 6 by omega)]
 exact List.getElem_mem _
def stepR (q : Queue) (n : Int) : Queue × List Hold × Int :=
 if n % 8 = 0 then cancelS q (procM (n.fdiv (2 ^ 3)))
 else if n % 8 = 1 then lowerS q (procM (n.fdiv (2 ^ 3))) (amtM q.resource (n.fdiv (2 ^ 6)))
 else if n % 8 = 2 then removeS q (procM (n.fdiv (2 ^ 3)))
 else claimS q (procM (n.fdiv (2 ^ 3))) (amtM q.resource (n.fdiv (2 ^ 6))) (n.fdiv (2 ^ 9) % 8)
def stepN (q : Queue) (n : Int) : Queue := if (stepR q n).2.2 = 0 then (stepR q n).1 else q
def stepG (q : Queue) (n : Int) : List Hold := if (stepR q n).2.2 = 0 then (stepR q n).2.1 else []
theorem stepN_step (q : Queue) (n : Int) : StepQ q (stepN q n) := by
 unfold stepN
 split
 ·rename_i h
  unfold stepR at h ⊢
  split
  ·rename_i h1; rw [if_pos h1] at h; exact .cancel _ h
  rename_i h1; rw [if_neg h1] at h
  split
  ·rename_i h2; rw [if_pos h2] at h; exact .lower _ _ h
  rename_i h2; rw [if_neg h2] at h
  split
  ·rename_i h3; rw [if_pos h3] at h; exact .remove _ h
  ·rename_i h3; rw [if_neg h3] at h; exact .claim _ _ _ h
 ·exact .same
theorem stepR_short (q : Queue) (n : Int) : ShortR (stepR q n) := by
 unfold stepR
 split
 ·exact cancelS_short _ _
 split
 ·exact lowerS_short _ _ _
 split
 ·exact removeS_short _ _
 ·exact claimS_short _ _ _ _
theorem stepN_settled {q : Queue} (h : settledQ q = true) (n : Int) : settledQ (stepN q n) = true ∧ (stepN q n).resource = q.resource := step_settled h (stepN_step q n)
theorem step_k1 (q : Queue) (x : Queue × List Hold × Int) (h : ShortR x) : f_law12_step_k1 q (x.2.1, x.2.1, x.2.2, x.2.2, x.1, x.1) = some (if x.2.2 = 0 then (x.1, x.2.1, true) else (q, [], true)) := by
 unfold f_law12_step_k1
 simp only [same_self x h, Option.bind_some]
 by_cases e : x.2.2 = 0
 ·simp [e]
 ·simp [e]
theorem law12_step_eq (q : Queue) (n : Int) (hr : f_amount_Shaped q.resource = true) : f_law12_step q n = some (stepN q n, stepG q n, true) := by
 have hx := step_k1 q _ (stepR_short q n)
 have e : (if (stepR q n).2.2 = 0 then ((stepR q n).1, (stepR q n).2.1, true) else (q, [], true)) = (stepN q n, stepG q n, true) := by
  unfold stepN stepG; split <;> rfl
 rw [e] at hx
 rw [← hx]
 unfold f_law12_step stepR
 simp only [mill_Proc_eq, mill_Amount_eq _ _ hr, mod_eq _ 8 (by decide) (by decide), Option.bind_some, queue_Cancel_eq, ref12_Cancel_eq, queue_Lower_eq, ref12_Lower_eq, queue_Remove_eq, ref12_Remove_eq, queue_Claim_eq, ref12_Claim_eq, decide_eq_true_eq]
 by_cases h0 : n % 8 = 0
 ·simp only [h0, if_true]
 by_cases h1 : n % 8 = 1
 ·simp only [h1, if_true, show ¬ ((1 : Int) = 0) by decide, if_false]
 by_cases h2 : n % 8 = 2
 ·simp only [h2, if_true, show ¬ ((2 : Int) = 0) by decide, show ¬ ((2 : Int) = 1) by decide, if_false]
 ·simp only [h0, h1, h2, if_false]
def madeQ (n : Int) (l : List Int) : Queue := l.foldl stepN (emptyQ (resM n))
theorem foldl_settled : ∀ (l : List Int) {q : Queue}, settledQ q = true → settledQ (l.foldl stepN q) = true ∧ (l.foldl stepN q).resource = q.resource
 | [], _, h => ⟨h, rfl⟩
 | k :: l, q, h => by
  obtain ⟨h1, h2⟩ := stepN_settled h k
  obtain ⟨h3, h4⟩ := foldl_settled l h1
  exact ⟨h3, h4.trans h2⟩
theorem made_settled (n : Int) (l : List Int) : settledQ (madeQ n l) = true := (foldl_settled l (empty_settled (resM_valid n))).1
theorem made_res (n : Int) (l : List Int) : (madeQ n l).resource = resM n := (foldl_settled l (empty_settled (resM_valid n))).2
theorem made_body (l : List Int) (q : Queue) (i : Nat) (hi : i < l.length) (hl : l.length ≤ 1000000) (h : settledQ q = true) : f_law12_made_l1 l ((i : Int), q) = some (.inl (((i + 1 : Nat) : Int), stepN q (l.getD i 0))) := by
 unfold f_law12_made_l1
 have hr := settled_shaped h
 rw [if_pos (by simpa using hi), gd_pos (by simp only; omega)]
 simp only [Int.toNat_natCast]
 generalize l.getD i 0 = n
 have k2 : ∀ x : Queue × List Hold × Int, f_law12_made_k2 ((i : Int), q) (x.2.2, x.1) = some (.inl (((i + 1 : Nat) : Int), if x.2.2 = 0 then x.1 else q)) := fun x => by
  unfold f_law12_made_k2
  simp only [wrap_succ i (by omega), decide_eq_true_eq]
  by_cases e : x.2.2 = 0 <;> simp [e]
 simp only [mill_Proc_eq, mill_Amount_eq _ _ hr, mod_eq _ 8 (by decide) (by decide), Option.bind_some, ref12_Cancel_eq, ref12_Lower_eq, ref12_Remove_eq, ref12_Claim_eq, decide_eq_true_eq, k2]
 unfold stepN stepR
 by_cases h0 : n % 8 = 0
 ·simp only [h0, if_true]
 by_cases h1 : n % 8 = 1
 ·simp only [h1, if_true, show ¬ ((1 : Int) = 0) by decide, if_false]
 by_cases h2 : n % 8 = 2
 ·simp only [h2, if_true, show ¬ ((2 : Int) = 0) by decide, show ¬ ((2 : Int) = 1) by decide, if_false]
 ·simp only [h0, h1, h2, if_false]
theorem law12_made_eq (n : Int) (l : List Int) (hl : l.length ≤ 1000000) : f_law12_made n l = some (madeQ n l) := by
 unfold f_law12_made
 rw [mill_Resource_eq, Option.bind_some]
 have key := loop_list (body := f_law12_made_l1 l) l 0 (fun i (s : Queue) => ((i : Int), s)) (fun _ k s => some (.inl (stepN s k))) (fun s => s) (fun _ s => settledQ s = true)
  (fun i s hi hs => ⟨by rw [made_body l s i hi hl hs]; rfl, fun s' h => by simp only [Option.some.injEq, Sum.inl.injEq] at h; subst h; exact (stepN_settled hs _).1⟩)
  (fun s hs => by unfold f_law12_made_l1; simp) (emptyQ (resM n)) (empty_settled (resM_valid n))
 have e : ((0, { Queue.zero with resource := resM n }) : Int × Queue) = (fun (i : Nat) (s : Queue) => ((i : Int), s)) 0 (emptyQ (resM n)) := rfl
 rw [e, key, walk_foldl stepN]
 rfl
theorem newQ_mill (n : Int) : newQ (resM n) = (emptyQ (resM n), 0) := by unfold newQ; rw [if_pos (resM_valid n)]; rfl
theorem stepG_len (q : Queue) (n : Int) : (stepG q n).length ≤ 16 := by
 unfold stepG; split
 ·exact (stepR_short q n).2.2.2
 ·simp
end Ab
end Go.Proofs.YtdflfohpemfeiaaGreatDoor
