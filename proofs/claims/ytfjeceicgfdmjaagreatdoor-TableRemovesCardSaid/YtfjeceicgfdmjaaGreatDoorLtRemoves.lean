/-
  The law TableRemoves in plain Lean: what a removal and a purge do to an arbitrary table.
-/
import Derived.Test.YtfjeceicgfdmjaaGreatDoorTabE
import Derived.Test.YtfjeceicgfdmjaaGreatDoorFlaw13TableRemoves
namespace Go.Proofs.YtfjeceicgfdmjaaGreatDoor
namespace Ab
set_option linter.unusedVariables false
set_option linter.unusedSimpArgs false
theorem zaA2 (t : List Queue) (p : Proc) (a b : Int) : zv3 t p a b = some true := by
 unfold zv3
 rw [zbP0, Option.bind_some]
 split
 ·rw [zbu2]; rfl
 ·have r := zbr5 t p
  have r2 := zbg8 t a b
  simp only [zbu2, zaj7, zaj8, zaV2, zaV3, Option.bind_some, if_true, zat4 _ _ r.1 r.2.1, zat5 _ _ r.2.2, zat4 _ _ r2.1 r2.2.1, zat5 _ _ r2.2.2, decide_true, Bool.and_self]
end Ab
end Go.Proofs.YtfjeceicgfdmjaaGreatDoor
