/-
  The law QueueValid in plain Lean: which queues are sound, settled and valid, and what New returns.
-/
import Derived.Test.YtdflfohpemfeiaaGreatDoorQueM
import Derived.Test.YtdflfohpemfeiaaGreatDoorFlaw12QueueValid
namespace Go.Proofs.YtdflfohpemfeiaaGreatDoor
namespace Ab
set_option linter.unusedVariables false
set_option linter.unusedSimpArgs false
theorem ref12_New_eq (r : Resource) : f_ref12_New r = some (newQ r) := by
 unfold f_ref12_New newQ
 rw [ref05_Res_eq, Option.bind_some]
 cases resV r <;> rfl
theorem newQ_short (r : Resource) : (newQ r).1.holds.length < 9 ∧ (newQ r).1.converts.length < 9 ∧ (newQ r).1.waits.length < 9 := by
 unfold newQ; split <;> simp [Queue.zero]
theorem QueueValid_true (q : Queue) : f_law12_QueueValid q = some true := by
 unfold f_law12_QueueValid
 rw [awake12]
 obtain ⟨h1, h2, h3⟩ := newQ_short q.resource
 have hs : f_ref12_Same (newQ q.resource).1 (newQ q.resource).1 = some true := by rw [ref12_Same_eq _ _ (by omega) (by omega) (by omega)]; simp
 simp only [queue_New_eq, ref12_New_eq, Option.bind_some, queue_Sound_eq, ref12_Sound_eq, queue_Settled_eq, ref12_Settled_eq, queue_Valid_eq, ref12_Valid_eq, hs, if_true, decide_true, Bool.and_self, ite_self]
end Ab
end Go.Proofs.YtdflfohpemfeiaaGreatDoor
