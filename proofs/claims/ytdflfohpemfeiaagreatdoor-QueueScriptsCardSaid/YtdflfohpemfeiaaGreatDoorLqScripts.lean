/-
  The law QueueScripts in plain Lean: what a queue does in whatever script.
-/
import Derived.Test.YtdflfohpemfeiaaGreatDoorQueN
import Derived.Test.YtdflfohpemfeiaaGreatDoorFlaw12QueueScripts
namespace Go.Proofs.YtdflfohpemfeiaaGreatDoor
namespace Ab
set_option linter.unusedVariables false
set_option linter.unusedSimpArgs false
theorem QueueScripts_true (n : Int) (l : List Int) : f_law12_QueueScripts n l = some true := by
 unfold f_law12_QueueScripts
 rw [awake12]
 cases hL : f_mill_Light l with
 | false => rfl
 | true =>
  have hl := lightT hL
  rw [ifNT, mill_Resource_eq, Option.bind_some, queue_New_eq, newQ_mill, Option.bind_some]
  have key := loop_list (body := f_law12_QueueScripts_l1 l) l 0 (fun i (s : Queue) => ((i : Int), s)) (fun _ k s => some (.inl (stepN s k))) (fun s => Sum.inl (β := Bool) s) (fun _ s => settledQ s = true)
   (fun i s hi hs => ⟨by
    unfold f_law12_QueueScripts_l1
    have h3 : 0 ≤ (i : Int) ∧ (i : Int) < (l.length : Int) := by omega
    simp only [h3.1, h3.2, and_self, gd_true, decide_true, if_true, Int.toNat_natCast, law12_step_eq s _ (settled_shaped hs), Option.bind_some, Bool.not_true, Bool.false_eq_true, if_false, wrap_succ i (by omega), Option.map_some, wmap], fun s' h => by simp only [Option.some.injEq, Sum.inl.injEq] at h; subst h; exact (stepN_settled hs _).1⟩)
   (fun s hs => by unfold f_law12_QueueScripts_l1; simp) (emptyQ (resM n)) (empty_settled (resM_valid n))
  have e : ((0, emptyQ (resM n)) : Int × Queue) = (fun (i : Nat) (s : Queue) => ((i : Int), s)) 0 (emptyQ (resM n)) := rfl
  simp only [decide_true, Bool.not_true, Bool.false_eq_true, if_false]
  rw [e, key, walk_foldl stepN]
  simp only [Option.bind_some]
  show f_law12_QueueScripts_k1 n l (madeQ n l) = some true
  unfold f_law12_QueueScripts_k1
  simp only [awake12, Option.bind_some, if_true, law12_made_eq n l hl, same_settled (made_settled n l), Bool.and_self]
end Ab
end Go.Proofs.YtdflfohpemfeiaaGreatDoor
