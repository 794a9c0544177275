/-
  The law TableClaims in plain Lean: what a claim does to an arbitrary table.
-/
import Derived.Test.YtfjeceicgfdmjaaGreatDoorTabE
import Derived.Test.YtfjeceicgfdmjaaGreatDoorFlaw13TableClaims
namespace Go.Proofs.YtfjeceicgfdmjaaGreatDoor
namespace Ab
set_option linter.unusedVariables false
set_option linter.unusedSimpArgs false
theorem zaK6 (t : List Queue) (p : Proc) (a : Atom) (pr : Int) : zz2 t p a pr = some true := by
 unfold zz2
 rw [zbs2, Option.bind_some]
 split
 ·rw [zaE3]; rfl
 ·next h =>
  have hs : Small t := zbs3 (by simpa using h)
  have r := zbv4 hs p a pr
  simp only [zaE3, zat2, zba2, Option.bind_some, if_true, zaK0 _ _ _ r.1 r.2.1 r.2.2, Bool.and_self]
end Ab
end Go.Proofs.YtfjeceicgfdmjaaGreatDoor
