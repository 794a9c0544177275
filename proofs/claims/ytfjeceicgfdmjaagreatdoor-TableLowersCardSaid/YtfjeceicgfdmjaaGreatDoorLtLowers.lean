/-
  The law TableLowers in plain Lean: what a withdrawal and a lowering do to an arbitrary table.
-/
import Derived.Test.YtfjeceicgfdmjaaGreatDoorTabE
import Derived.Test.YtfjeceicgfdmjaaGreatDoorFlaw13TableLowers
namespace Go.Proofs.YtfjeceicgfdmjaaGreatDoor
namespace Ab
set_option linter.unusedVariables false
set_option linter.unusedSimpArgs false
theorem zaK8 (t : List Queue) (p : Proc) (a : Atom) : zz3 t p a = some true := by
 unfold zz3
 rw [zbs2, Option.bind_some]
 split
 ·rw [zaE3]; rfl
 ·next h =>
  have hs : Small t := zbs3 (by simpa using h)
  have r := zbs4 hs p a.name
  have r2 := zbv5 hs p a
  simp only [zaE3, zaO7, zaO8, zba1, zba3, Option.bind_some, if_true, zaK0 _ _ _ r.1 r.2.1 r.2.2, zaK0 _ _ _ r2.1 r2.2.1 r2.2.2, Bool.and_self]
end Ab
end Go.Proofs.YtfjeceicgfdmjaaGreatDoor
