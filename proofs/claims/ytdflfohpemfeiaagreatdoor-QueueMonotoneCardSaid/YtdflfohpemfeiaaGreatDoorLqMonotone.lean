/-
  The law QueueMonotone in plain Lean: more removals never take a grant away.
-/
import Derived.Test.YtdflfohpemfeiaaGreatDoorQueN
import Derived.Test.YtdflfohpemfeiaaGreatDoorFlaw12QueueMonotone
namespace Go.Proofs.YtdflfohpemfeiaaGreatDoor
namespace Ab
set_option linter.unusedVariables false
set_option linter.unusedSimpArgs false
theorem rem_loop {body : Int × Queue → Option ((Int × Queue) ⊕ Queue)} (drop : List Int) (q : Queue) (hl : drop.length ≤ 1000000)
  (hb : ∀ (i : Nat) (s : Queue), i < drop.length → body ((i : Int), s) = some (.inl (((i + 1 : Nat) : Int), remN s (procM (drop.getD i 0))))) (he : ∀ s, body ((drop.length : Int), s) = some (.inr s)) : loopO body (0, q) = some (remS q (drop.map procM)) := by
 have key := loop_list' (body := body) drop 0 (fun i (s : Queue) => ((i : Int), s)) (fun _ k s => some (.inl (remN s (procM k)))) (fun s => s) (fun i s hi => by rw [hb i s hi]; rfl) he q
 rw [show ((0, q) : Int × Queue) = (fun (i : Nat) (s : Queue) => ((i : Int), s)) 0 q from rfl, key, walk_foldl (fun s k => remN s (procM k))]
 unfold remS
 rw [List.foldl_map]
theorem QueueMonotone_true (n : Int) (l drop more : List Int) : f_law12_QueueMonotone n l drop more = some true := by
 unfold f_law12_QueueMonotone
 rw [awake12]
 by_cases hL : (((!(f_mill_Light l)) || (decide (8 < (drop.length : Int)))) || (decide (8 < (more.length : Int)))) = true
 ·rw [if_pos hL]; rfl
 ·rw [if_neg hL]
  simp only [Bool.not_eq_true, Bool.or_eq_false_iff, Bool.not_eq_false', decide_eq_false_iff_not] at hL
  have hl := lightT hL.1.1
  have hq := made_settled n l
  rw [law12_made_eq n l hl, Option.bind_some]
  generalize madeQ n l = q at hq
  rw [rem_loop drop q (by omega) (fun i s hi => by
   unfold f_law12_QueueMonotone_l3
   have h3 : 0 ≤ (i : Int) ∧ (i : Int) < (drop.length : Int) := by omega
   simp only [h3.1, h3.2, and_self, gd_true, decide_true, if_true, Int.toNat_natCast, mill_Proc_eq, Option.bind_some, queue_Remove_eq, wrap_succ i (by omega), ← remN_body]
   split <;> rfl) (fun s => by unfold f_law12_QueueMonotone_l3; simp), Option.bind_some]
  have ha := remS_settled (drop.map procM) hq
  generalize remS q (drop.map procM) = a at ha
  unfold f_law12_QueueMonotone_k1
  have key := loop_list (body := f_law12_QueueMonotone_l2 more) more 0 (fun i (s : List Proc × Queue) => ((i : Int), s)) (fun _ k s => some (.inl (s.1 ++ [procM k], remN s.2 (procM k)))) (fun s => s) (fun i s => s.1.length = i)
   (fun i s hi hs => ⟨by
    unfold f_law12_QueueMonotone_l2
    have h3 : 0 ≤ (i : Int) ∧ (i : Int) < (more.length : Int) := by omega
    have h1 : s.1.length + 1 ≤ 4294967296 := by omega
    simp only [h1, h3.1, h3.2, and_self, gd_true, decide_true, if_true, Int.toNat_natCast, mill_Proc_eq, Option.bind_some, queue_Remove_eq, wrap_succ i (by omega), ← remN_body, Option.map_some, wmap]
    split <;> rfl, fun s' h => by simp only [Option.some.injEq, Sum.inl.injEq] at h; subst h; simp [hs]⟩)
   (fun s hs => by unfold f_law12_QueueMonotone_l2; simp) ([], a) rfl
  have fold : ∀ (m : List Int) (o : List Proc) (x : Queue), m.foldl (fun (s : List Proc × Queue) k => (s.1 ++ [procM k], remN s.2 (procM k))) (o, x) = (o ++ m.map procM, remS x (m.map procM)) := by
   intro m
   induction m with
   | nil => intro o x; simp [remS]
   | cons k m ih => intro o x; rw [List.foldl_cons, ih]; simp [remS]
  rw [show ((0, [], a) : Int × List Proc × Queue) = (fun (i : Nat) (s : List Proc × Queue) => ((i : Int), s)) 0 ([], a) from rfl, key, walk_foldl (fun (s : List Proc × Queue) k => (s.1 ++ [procM k], remN s.2 (procM k))), fold, List.nil_append, Option.bind_some]
  unfold f_law12_QueueMonotone_k2
  have hb := remS_settled (more.map procM) ha
  have hla := settled_lens ha
  have hlb := settled_lens hb
  have k3 : loopO (f_law12_QueueMonotone_l1 a (more.map procM, remS a (more.map procM))) 0 = some ((firstR (fun _ => none) 8 0).getD (Sum.inl ())) := by
   refine loop_range 8 _ (Sum.inl ()) (fun i hi => ?_) ?_
   ·unfold f_law12_QueueMonotone_l1
    rw [if_pos (by simp; omega), mill_Proc_eq, Option.bind_some, ref02_HasProc_eq _ _ (by simp; omega), Option.bind_some, queue_Held_eq _ _ (by simp only; omega), queue_Held_eq _ _ (by omega), wrap_id (by omega) (by omega)]
    by_cases e : procM i ∈ more.map procM
    ·simp only [e, decide_true, Bool.not_true, Bool.false_eq_true, if_false, Option.bind_some, Bool.false_and]
    ·have hc := (remS_covers (more.map procM) ha e).1
     have hcv : f_ref04_Covers a.resource (getH (remS a (more.map procM)).holds (procM i)) (getH a.holds (procM i)) = true := hc
     simp only [e, decide_false, Bool.not_false, if_true, Option.bind_some, hcv, Bool.not_true, Bool.and_false, Bool.false_eq_true, if_false]
   ·unfold f_law12_QueueMonotone_l1; rw [if_neg (by decide)]
  rw [k3]
  have : (firstR (X := Unit ⊕ Bool) (fun _ => none) 8 0).getD (Sum.inl ()) = .inl () := rfl
  rw [this]
  simp only [Option.bind_some]
  unfold f_law12_QueueMonotone_k3
  rw [awake12]; rfl
end Ab
end Go.Proofs.YtdflfohpemfeiaaGreatDoor
