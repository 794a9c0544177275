/-
  The law TableNew in plain Lean: what New returns.
-/
import Derived.Test.YtfjeceicgfdmjaaGreatDoorTabE
import Derived.Test.YtfjeceicgfdmjaaGreatDoorFlaw13TableNew
namespace Go.Proofs.YtfjeceicgfdmjaaGreatDoor
namespace Ab
set_option linter.unusedVariables false
set_option linter.unusedSimpArgs false
theorem zbc9 (l : List Resource) : zE7 l = some true := by
 unfold zE7
 have h1 := zbX4 l
 simp only [zaE2, zbl5, zaE3, Option.bind_some, decide_true, Bool.and_self, if_true, zax9 _ _ (show (newT l).1.length ≤ 1000000 by omega) (zbT5 l)]
end Ab
end Go.Proofs.YtfjeceicgfdmjaaGreatDoor
