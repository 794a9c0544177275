/-
  The law QueueAdvances in plain Lean: what Advance grants.
-/
import Derived.Test.YtdflfohpemfeiaaGreatDoorQueM
import Derived.Test.YtdflfohpemfeiaaGreatDoorFlaw12QueueAdvances
namespace Go.Proofs.YtdflfohpemfeiaaGreatDoor
namespace Ab
set_option linter.unusedVariables false
set_option linter.unusedSimpArgs false
theorem queue_Advance_eq {q : Queue} (h : SoundP q) : f_queue_Advance q = some (advS q, advG q) := by
 unfold f_queue_Advance
 have hl := h.lens
 rw [queue_Sound_eq, Option.bind_some, (soundQ_iff q).2 h, if_neg (by decide), queue_clone_eq q (by omega) (by omega) (by omega), Option.bind_some, queue_advance_eq q (by omega), Option.bind_some]; rfl
theorem queue_Advance_not {q : Queue} (h : soundQ q = false) : f_queue_Advance q = some (Queue.zero, []) := by
 unfold f_queue_Advance; rw [queue_Sound_eq, Option.bind_some, h]; rfl
theorem zero_unsound : soundQ Queue.zero = false := by decide +kernel
theorem QueueAdvances_true (q : Queue) : f_law12_QueueAdvances q = some true := by
 unfold f_law12_QueueAdvances
 rw [awake12]
 cases h : soundQ q with
 | true =>
  have hs := (soundQ_iff q).1 h
  have hc := (short_changed hs)
  have e1 : f_ref12_Same (advS q) (advS q) = some true := by
   obtain ⟨h1, h2, h3, _⟩ := hc
   rw [ref12_Same_eq _ _ (by show (changedQ q).1.holds.length < _; omega) (by show (changedQ q).1.converts.length < _; omega) (by show (changedQ q).1.waits.length < _; omega)]; simp
  have e2 : f_ref10_SameHolds (advG q) (advG q) = some true := by
   rw [sameHolds_eq' _ _ (by have := hc.2.2.2; show (changedQ q).2.1.length < _; omega)]; simp
  simp only [queue_Advance_eq hs, ref12_Advance_eq hs, Option.bind_some, e1, e2, if_true, Bool.and_self, queue_Valid_eq, ref12_Sound_eq, hs.settled, h, decide_true, ite_self]
 | false =>
  have e1 : f_ref12_Same Queue.zero Queue.zero = some true := by rw [ref12_Same_eq _ _ (by decide) (by decide) (by decide)]; simp
  have e2 : f_ref10_SameHolds [] [] = some true := by rw [sameHolds_eq' _ _ (by decide)]; simp
  have e3 : settledQ Queue.zero = false := by unfold settledQ; rw [zero_unsound]; rfl
  simp only [queue_Advance_not h, ref12_Advance_not h, Option.bind_some, e1, e2, if_true, Bool.and_self, queue_Valid_eq, ref12_Sound_eq, e3, h, decide_true, ite_self]
end Ab
end Go.Proofs.YtdflfohpemfeiaaGreatDoor
