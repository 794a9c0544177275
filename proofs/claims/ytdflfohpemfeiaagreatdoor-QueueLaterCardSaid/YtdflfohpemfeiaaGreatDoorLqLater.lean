/-
  The law QueueLater in plain Lean: a later claim lets nobody else in earlier.
-/
import Derived.Test.YtdflfohpemfeiaaGreatDoorQueN
import Derived.Test.YtdflfohpemfeiaaGreatDoorFlaw12QueueLater
namespace Go.Proofs.YtdflfohpemfeiaaGreatDoor
namespace Ab
set_option linter.unusedVariables false
set_option linter.unusedSimpArgs false
theorem claim_made {q : Queue} (h : settledQ q = true) {p : Proc} {a : Amount} {pr : Int} (hok : okArg p pr = true) (hf : f_amount_Fits q.resource a = true) (he : (claimS q p a pr).2.2 ≠ 0) : ((wantQ q p).2 = true ∧ claimS q p a pr = errQ 14) ∨ claimS q p a pr = errQ 4 := by
 unfold claimS at he ⊢
 rw [if_neg (by rw [h]; decide), if_neg (by rw [hok]; decide), if_neg (by rw [hf]; decide)] at he ⊢
 split
 ·rename_i h4; exact .inl ⟨h4, rfl⟩
 rename_i h4; rw [if_neg h4] at he
 split
 ·rename_i h5; rw [if_pos h5] at he; exact absurd rfl he
 rename_i h5; rw [if_neg h5] at he
 split
 ·rename_i h6; rw [if_pos h6] at he; exact absurd rfl he
 rename_i h6; rw [if_neg h6] at he
 split
 ·exact .inr rfl
 ·rename_i h7; rw [if_neg h7] at he; exact absurd rfl he
theorem later_procs (q x : Queue) (p : Proc) (g : List Hold) (e : Int) (hq : q.holds.length ≤ 8) (hx : x.holds.length ≤ 8) (h : ∀ o, o ≠ p → getH x.holds o = getH q.holds o) : loopO (f_law12_QueueLater_l2 q p (x, g, e)) 0 = some (.inl ()) := by
 have key : loopO (f_law12_QueueLater_l2 q p (x, g, e)) 0 = some ((firstR (fun _ => none) 8 0).getD (Sum.inl ())) := by
  refine loop_range 8 _ (Sum.inl ()) (fun i hi => ?_) ?_
  ·unfold f_law12_QueueLater_l2
   rw [if_pos (by simp; omega), mill_Proc_eq, Option.bind_some, queue_Held_eq x _ (by omega), queue_Held_eq q _ (by omega), wrap_id (by omega) (by omega)]
   by_cases e : procM i = p
   ·simp [e]
   ·simp [e, h _ e]
  ·unfold f_law12_QueueLater_l2; rw [if_neg (by decide)]
 rw [key]; rfl
theorem later_rest (p : Proc) (l : List Proc) (hl : l.length ≤ 1000000) : loopO (f_law12_QueueLater_l1 p l) (0, []) = some (l.filter fun o => !decide (o = p)) := by
 have key := loop_list (body := f_law12_QueueLater_l1 p l) l Proc.zero (fun i (s : List Proc) => ((i : Int), s)) (fun i o s => some (.inl (snocO s (if o = p then none else some o)))) (fun s => s) (fun i s => s.length ≤ i)
  (fun i s hi hs => by
   refine ⟨?_, fun s' h => ?_⟩
   ·unfold f_law12_QueueLater_l1
    have h1 : s.length + 1 ≤ 4294967296 := by omega
    have h3 : 0 ≤ (i : Int) ∧ (i : Int) < (l.length : Int) := by omega
    simp only [h1, h3.1, h3.2, and_self, gd_true, decide_true, if_true, Int.toNat_natCast, wrap_succ i (by omega), Option.map_some, wmap]
    by_cases e : l.getD i Proc.zero = p
    ·simp only [e, decide_true, Bool.not_true, Bool.false_eq_true, if_false, if_true, snocO]
    ·simp only [e, decide_false, Bool.not_false, if_true, if_false, snocO]
   ·simp only [Option.some.injEq, Sum.inl.injEq] at h; subst h
    have := snocO_len s (if l.getD i Proc.zero = p then none else some (l.getD i Proc.zero)); omega)
  (fun s hs => by unfold f_law12_QueueLater_l1; simp) [] (by simp)
 rw [show ((0, []) : Int × List Proc) = (fun (i : Nat) (s : List Proc) => ((i : Int), s)) 0 [] from rfl, key, walk_snoc (fun o : Proc => if o = p then none else some o), List.nil_append]
 congr 1
 induction l with
 | nil => rfl
 | cons x t ih =>
  simp only [List.filterMap_cons, List.filter_cons]
  have ht : t.length ≤ 1000000 := by simp at hl; omega
  by_cases e : x = p
  ·simp only [e, if_true, decide_true, Bool.not_true, Bool.false_eq_true, if_false]
   clear key ih
   induction t with
   | nil => rfl
   | cons y t ih2 =>
    simp only [List.filterMap_cons, List.filter_cons]
    have hl2 : (x :: t).length ≤ 1000000 := by simp at hl ⊢; omega
    have ht2 : t.length ≤ 1000000 := by simp at ht; omega
    by_cases e2 : y = p
    ·simp only [e2, if_true, decide_true, Bool.not_true, Bool.false_eq_true, if_false]; exact ih2 hl2 ht2
    ·simp only [e2, if_false, decide_false, Bool.not_false, if_true, ih2 hl2 ht2]
  ·simp only [e, if_false, decide_false, Bool.not_false, if_true]
   clear key ih
   congr 1
   induction t with
   | nil => rfl
   | cons y t ih2 =>
    simp only [List.filterMap_cons, List.filter_cons]
    have hl2 : (x :: t).length ≤ 1000000 := by simp at hl ⊢; omega
    have ht2 : t.length ≤ 1000000 := by simp at ht; omega
    by_cases e2 : y = p
    ·simp only [e2, if_true, decide_true, Bool.not_true, Bool.false_eq_true, if_false]; exact ih2 hl2 ht2
    ·simp only [e2, if_false, decide_false, Bool.not_false, if_true, ih2 hl2 ht2]
theorem QueueLater_true (n : Int) (l : List Int) (who what prio : Int) : f_law12_QueueLater n l who what prio = some true := by
 unfold f_law12_QueueLater
 rw [awake12]
 cases hL : f_mill_Light l with
 | false => rfl
 | true =>
  have hl := lightT hL
  have hq := made_settled n l
  have hlen := settled_lens hq
  rw [ifNT, law12_made_eq n l hl, Option.bind_some, mill_Proc_eq, Option.bind_some, mill_Amount_eq _ _ (settled_shaped hq), Option.bind_some, mod_eq prio 8 (by decide) (by decide), Option.bind_some, queue_Claim_eq, Option.bind_some, ref12_Wanted_eq _ _ (by omega) (by omega)]
  have hok : okArg (procM who) (prio % 8) = true := by
   have h1 : 0 ≤ prio % 8 := Int.emod_nonneg _ (by decide)
   have h2 : prio % 8 < 8 := Int.emod_lt_of_pos _ (by decide)
   unfold okArg; rw [(procM_mill who).valid]; simp; omega
  have hf := amtM_fits (madeQ n l).resource what (settled_shaped hq)
  generalize madeQ n l = q at hq hlen hf
  generalize amtM q.resource what = a at hf
  generalize procM who = p at hok
  generalize prio % 8 = pr at hok
  by_cases h0 : (claimS q p a pr).2.2 = 0
  ·have hlt := later_claim h0
   have hsx := claimS_short q p a pr
   have hsz : settledQ (claimS q p a pr).1 = true := (step_settled hq (.claim p a pr h0)).1
   have hlx := settled_lens hsz
   rw [if_neg (by simp [h0])]
   have e1 := later_procs q (claimS q p a pr).1 p (claimS q p a pr).2.1 (claimS q p a pr).2.2 (by omega) (by omega) hlt.hold
   rw [e1]
   simp only [Option.bind_some]
   unfold f_law12_QueueLater_k1
   have hol : ((ordQ (claimS q p a pr).1).map (·.proc)).length ≤ 1000000 := by unfold ordQ; simp; omega
   rw [queue_Order_eq _ (by omega) (by omega), Option.bind_some, later_rest p _ hol, Option.bind_some, hlt.ord]
   unfold f_law12_QueueLater_k2
   have hol2 : ((ordQ q).map (·.proc)).length < 4611686018427387904 := by unfold ordQ; simp; omega
   have hgl := hlt.len
   have hg : decide (((claimS q p a pr).2.1.length : Int) ≤ 1) = true := by simp; omega
   rw [awake12]
   simp only [Option.bind_some, hg, Bool.and_self, if_true, queue_Order_eq q (by omega) (by omega), sameProcs_eq _ _ hol2, decide_true]
  ·rw [if_pos (by simp [h0])]
   rcases claim_made hq hok hf h0 with ⟨hw, e⟩ | e
   ·rw [e]; simp [errQ, hw]
   ·rw [e]; cases hw : (wantQ q p).2 <;> simp [errQ, hw]
end Ab
end Go.Proofs.YtdflfohpemfeiaaGreatDoor
