/-
  The law QueueLowers in plain Lean: what Lower does to an arbitrary queue.
-/
import Derived.Test.YtdflfohpemfeiaaGreatDoorQueM
import Derived.Test.YtdflfohpemfeiaaGreatDoorFlaw12QueueLowers
namespace Go.Proofs.YtdflfohpemfeiaaGreatDoor
namespace Ab
set_option linter.unusedVariables false
set_option linter.unusedSimpArgs false
theorem QueueLowers_true (q : Queue) (p : Proc) (a : Amount) : f_law12_QueueLowers q p a = some true := by
 unfold f_law12_QueueLowers
 rw [awake12]
 have hs := same_self _ (lowerS_short q p a)
 simp only [queue_Lower_eq, ref12_Lower_eq, Option.bind_some, hs, if_true, Bool.and_self, ite_self]
end Ab
end Go.Proofs.YtdflfohpemfeiaaGreatDoor
