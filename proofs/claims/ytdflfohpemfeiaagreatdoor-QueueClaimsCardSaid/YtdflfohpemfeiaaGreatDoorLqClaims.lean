/-
  The law QueueClaims in plain Lean: what a claim does to an arbitrary queue.
-/
import Derived.Test.YtdflfohpemfeiaaGreatDoorQueM
import Derived.Test.YtdflfohpemfeiaaGreatDoorFlaw12QueueClaims
namespace Go.Proofs.YtdflfohpemfeiaaGreatDoor
namespace Ab
set_option linter.unusedVariables false
set_option linter.unusedSimpArgs false
theorem QueueClaims_true (q : Queue) (p : Proc) (a : Amount) (pr : Int) : f_law12_QueueClaims q p a pr = some true := by
 unfold f_law12_QueueClaims
 rw [awake12]
 have hs := same_self _ (claimS_short q p a pr)
 simp only [queue_Claim_eq, ref12_Claim_eq, Option.bind_some, hs, if_true, Bool.and_self, ite_self]
end Ab
end Go.Proofs.YtdflfohpemfeiaaGreatDoor
