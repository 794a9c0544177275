/-
  The law QueueCancels in plain Lean: what Cancel and Remove do to an arbitrary queue.
-/
import Derived.Test.YtdflfohpemfeiaaGreatDoorQueM
import Derived.Test.YtdflfohpemfeiaaGreatDoorFlaw12QueueCancels
namespace Go.Proofs.YtdflfohpemfeiaaGreatDoor
namespace Ab
set_option linter.unusedVariables false
set_option linter.unusedSimpArgs false
theorem QueueCancels_true (q : Queue) (p : Proc) : f_law12_QueueCancels q p = some true := by
 unfold f_law12_QueueCancels
 rw [awake12]
 have hs := same_self _ (cancelS_short q p)
 have hr := same_self _ (removeS_short q p)
 simp only [queue_Cancel_eq, ref12_Cancel_eq, queue_Remove_eq, ref12_Remove_eq, Option.bind_some, hs, hr, if_true, Bool.and_self, ite_self]
end Ab
end Go.Proofs.YtdflfohpemfeiaaGreatDoor
