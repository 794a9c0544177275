/-
  NARROWER THAN 'FOR EVERY INPUT', by the rows' own cells (each row's printed sentence says how): HoldersSets: laid · HoldersRoom: laid · HoldersAgainst: laid · HoldersYield: laid · HoldersShrinks: laid · HoldersGrow: laid · HoldersGets: laid · HoldersValid: laid.
  DERIVED. THE GIVEN ROWS OF THIS SEAT. 8 by the template 'for every input the law returns true; each argument reads behind the call as it read before'; 0 by the template 'total and deterministic' (their statements: YtmegjomldcfoaaaDoorTotals.lean).
  GIVEN WITH THE SEED: the statements are not yours to turn. If you find one false, say at which input.
  Laid BY PROGRAM, IN A SANDBOX (cutbox-rows.mjs): the forced cells as the released guide's own fill.sh prints them over the translation 93f6eaebe961f83c… (all of the seat's roots in one cut). By AI agents, Wed Nov 11 2026. No macro, syntax, notation, axiom, sorry.
-/
import Derived.Test.YtmegjomldcfoaaaDoorChecked
import GoSem.Claim
import GoSem.ClaimJoined
import GoSem.ClaimMapViews
import Derived.JoinedTies
import Derived.KernelRfl
namespace Go.Proofs.YtmegjomldcfoaaaDoor
/- THE CELL 'sum', in the pinned program and in every row, IS THE sha256 OF THE DUMP (.gsa) THAT YtmegjomldcfoaaaDoorProg.lean LOADS. Nothing in Lean hashes anything: it is a label: what it is worth is what the hold of that sum in a sandbox is worth. -/
noncomputable def Tryd.pinned : Pinned := { name := "ytmegjomldcfoaaadoor", sum := "93f6eaebe961f83c0ccd97a0d8d0cf9620f570db9906ab7693f3c35a325ad217", checked := Tryd.checked }
namespace Rows
def none {H : Type} : Left H := { results := [], args := [] }

/- WHAT THE LISTED PACKAGE-LEVEL VARIABLES READ AS WHEN THE CALL BEGINS. Each datum BY PROGRAM (the guide's laid-datum.mjs) off the statement by which the dump's own 'gosem.cut.vars' lays the variable. In a bare row this is a premise. The card (YtmegjomldcfoaaaDoorCards.lean) ties it to the program's text. -/
def laid_clusterlocks_mode_together {H : Type} : DataW H := .agg [.agg [.lit (.bool true), .lit (.bool true), .lit (.bool true), .lit (.bool true), .lit (.bool false)], .agg [.lit (.bool true), .lit (.bool true), .lit (.bool false), .lit (.bool false), .lit (.bool false)], .agg [.lit (.bool true), .lit (.bool false), .lit (.bool true), .lit (.bool false), .lit (.bool false)], .agg [.lit (.bool true), .lit (.bool false), .lit (.bool false), .lit (.bool false), .lit (.bool false)], .agg [.lit (.bool false), .lit (.bool false), .lit (.bool false), .lit (.bool false), .lit (.bool false)]]

/-- 'clusterlockslaw10.HoldersSets': WHATEVER THE INPUT: true; the input reads as it did. -/
def holdersSetsSpec : ChangeSpec := { name := "holdersSets", fn := fun _ => fun
  | [d1, d2, d3] => { results := [.lit (.bool true)], args := [d1, d2, d3] }
  | _ => none }
def holdersSetsRow : OpenClaim := { program := "ytmegjomldcfoaaadoor", sum := "93f6eaebe961f83c0ccd97a0d8d0cf9620f570db9906ab7693f3c35a325ad217", func := "clusterlocks/clusterlockslaw10.HoldersSets", spec := "holdersSets", named := ["clusterlocks/mode.together"], apart := false, laid := [("clusterlocks/mode.together", laid_clusterlocks_mode_together)] }
def HoldersSetsSaid : Prop := holdersSetsRow.holds Tryd.pinned (OpenSpec.ofChange holdersSetsSpec)

/-- ITS FALSE NEIGHBOUR: 'it returns false'. Refute it at one input. -/
def holdersSetsWrong : ChangeSpec := { name := "holdersSets", fn := fun _ => fun
  | [d1, d2, d3] => { results := [.lit (.bool false)], args := [d1, d2, d3] }
  | _ => none }
def HoldersSetsWrongFalsely : Prop := holdersSetsRow.holds Tryd.pinned (OpenSpec.ofChange holdersSetsWrong)

/-- 'clusterlockslaw10.HoldersRoom': WHATEVER THE INPUT: true; the input reads as it did. -/
def holdersRoomSpec : ChangeSpec := { name := "holdersRoom", fn := fun _ => fun
  | [d1, d2, d3, d4] => { results := [.lit (.bool true)], args := [d1, d2, d3, d4] }
  | _ => none }
def holdersRoomRow : OpenClaim := { program := "ytmegjomldcfoaaadoor", sum := "93f6eaebe961f83c0ccd97a0d8d0cf9620f570db9906ab7693f3c35a325ad217", func := "clusterlocks/clusterlockslaw10.HoldersRoom", spec := "holdersRoom", named := ["clusterlocks/mode.together"], apart := false, laid := [("clusterlocks/mode.together", laid_clusterlocks_mode_together)] }
def HoldersRoomSaid : Prop := holdersRoomRow.holds Tryd.pinned (OpenSpec.ofChange holdersRoomSpec)

/-- ITS FALSE NEIGHBOUR: 'it returns false'. Refute it at one input. -/
def holdersRoomWrong : ChangeSpec := { name := "holdersRoom", fn := fun _ => fun
  | [d1, d2, d3, d4] => { results := [.lit (.bool false)], args := [d1, d2, d3, d4] }
  | _ => none }
def HoldersRoomWrongFalsely : Prop := holdersRoomRow.holds Tryd.pinned (OpenSpec.ofChange holdersRoomWrong)

/-- 'clusterlockslaw10.HoldersAgainst': WHATEVER THE INPUT: true; the input reads as it did. -/
def holdersAgainstSpec : ChangeSpec := { name := "holdersAgainst", fn := fun _ => fun
  | [d1, d2, d3, d4] => { results := [.lit (.bool true)], args := [d1, d2, d3, d4] }
  | _ => none }
def holdersAgainstRow : OpenClaim := { program := "ytmegjomldcfoaaadoor", sum := "93f6eaebe961f83c0ccd97a0d8d0cf9620f570db9906ab7693f3c35a325ad217", func := "clusterlocks/clusterlockslaw10.HoldersAgainst", spec := "holdersAgainst", named := ["clusterlocks/mode.together"], apart := false, laid := [("clusterlocks/mode.together", laid_clusterlocks_mode_together)] }
def HoldersAgainstSaid : Prop := holdersAgainstRow.holds Tryd.pinned (OpenSpec.ofChange holdersAgainstSpec)

/-- ITS FALSE NEIGHBOUR: 'it returns false'. Refute it at one input. -/
def holdersAgainstWrong : ChangeSpec := { name := "holdersAgainst", fn := fun _ => fun
  | [d1, d2, d3, d4] => { results := [.lit (.bool false)], args := [d1, d2, d3, d4] }
  | _ => none }
def HoldersAgainstWrongFalsely : Prop := holdersAgainstRow.holds Tryd.pinned (OpenSpec.ofChange holdersAgainstWrong)

/-- 'clusterlockslaw10.HoldersYield': WHATEVER THE INPUT: true; the input reads as it did. -/
def holdersYieldSpec : ChangeSpec := { name := "holdersYield", fn := fun _ => fun
  | [d1, d2, d3, d4] => { results := [.lit (.bool true)], args := [d1, d2, d3, d4] }
  | _ => none }
def holdersYieldRow : OpenClaim := { program := "ytmegjomldcfoaaadoor", sum := "93f6eaebe961f83c0ccd97a0d8d0cf9620f570db9906ab7693f3c35a325ad217", func := "clusterlocks/clusterlockslaw10.HoldersYield", spec := "holdersYield", named := ["clusterlocks/mode.together"], apart := false, laid := [("clusterlocks/mode.together", laid_clusterlocks_mode_together)] }
def HoldersYieldSaid : Prop := holdersYieldRow.holds Tryd.pinned (OpenSpec.ofChange holdersYieldSpec)

/-- ITS FALSE NEIGHBOUR: 'it returns false'. Refute it at one input. -/
def holdersYieldWrong : ChangeSpec := { name := "holdersYield", fn := fun _ => fun
  | [d1, d2, d3, d4] => { results := [.lit (.bool false)], args := [d1, d2, d3, d4] }
  | _ => none }
def HoldersYieldWrongFalsely : Prop := holdersYieldRow.holds Tryd.pinned (OpenSpec.ofChange holdersYieldWrong)

/-- 'clusterlockslaw10.HoldersShrinks': WHATEVER THE INPUT: true; the input reads as it did. -/
def holdersShrinksSpec : ChangeSpec := { name := "holdersShrinks", fn := fun _ => fun
  | [d1, d2, d3, d4, d5] => { results := [.lit (.bool true)], args := [d1, d2, d3, d4, d5] }
  | _ => none }
def holdersShrinksRow : OpenClaim := { program := "ytmegjomldcfoaaadoor", sum := "93f6eaebe961f83c0ccd97a0d8d0cf9620f570db9906ab7693f3c35a325ad217", func := "clusterlocks/clusterlockslaw10.HoldersShrinks", spec := "holdersShrinks", named := ["clusterlocks/mode.together"], apart := false, laid := [("clusterlocks/mode.together", laid_clusterlocks_mode_together)] }
def HoldersShrinksSaid : Prop := holdersShrinksRow.holds Tryd.pinned (OpenSpec.ofChange holdersShrinksSpec)

/-- ITS FALSE NEIGHBOUR: 'it returns false'. Refute it at one input. -/
def holdersShrinksWrong : ChangeSpec := { name := "holdersShrinks", fn := fun _ => fun
  | [d1, d2, d3, d4, d5] => { results := [.lit (.bool false)], args := [d1, d2, d3, d4, d5] }
  | _ => none }
def HoldersShrinksWrongFalsely : Prop := holdersShrinksRow.holds Tryd.pinned (OpenSpec.ofChange holdersShrinksWrong)

/-- 'clusterlockslaw10.HoldersGrow': WHATEVER THE INPUT: true; the input reads as it did. -/
def holdersGrowSpec : ChangeSpec := { name := "holdersGrow", fn := fun _ => fun
  | [d1, d2] => { results := [.lit (.bool true)], args := [d1, d2] }
  | _ => none }
def holdersGrowRow : OpenClaim := { program := "ytmegjomldcfoaaadoor", sum := "93f6eaebe961f83c0ccd97a0d8d0cf9620f570db9906ab7693f3c35a325ad217", func := "clusterlocks/clusterlockslaw10.HoldersGrow", spec := "holdersGrow", named := ["clusterlocks/mode.together"], apart := false, laid := [("clusterlocks/mode.together", laid_clusterlocks_mode_together)] }
def HoldersGrowSaid : Prop := holdersGrowRow.holds Tryd.pinned (OpenSpec.ofChange holdersGrowSpec)

/-- ITS FALSE NEIGHBOUR: 'it returns false'. Refute it at one input. -/
def holdersGrowWrong : ChangeSpec := { name := "holdersGrow", fn := fun _ => fun
  | [d1, d2] => { results := [.lit (.bool false)], args := [d1, d2] }
  | _ => none }
def HoldersGrowWrongFalsely : Prop := holdersGrowRow.holds Tryd.pinned (OpenSpec.ofChange holdersGrowWrong)

/-- 'clusterlockslaw10.HoldersGets': WHATEVER THE INPUT: true; the input reads as it did. -/
def holdersGetsSpec : ChangeSpec := { name := "holdersGets", fn := fun _ => fun
  | [d1, d2, d3, d4, d5] => { results := [.lit (.bool true)], args := [d1, d2, d3, d4, d5] }
  | _ => none }
def holdersGetsRow : OpenClaim := { program := "ytmegjomldcfoaaadoor", sum := "93f6eaebe961f83c0ccd97a0d8d0cf9620f570db9906ab7693f3c35a325ad217", func := "clusterlocks/clusterlockslaw10.HoldersGets", spec := "holdersGets", named := ["clusterlocks/mode.together"], apart := false, laid := [("clusterlocks/mode.together", laid_clusterlocks_mode_together)] }
def HoldersGetsSaid : Prop := holdersGetsRow.holds Tryd.pinned (OpenSpec.ofChange holdersGetsSpec)

/-- ITS FALSE NEIGHBOUR: 'it returns false'. Refute it at one input. -/
def holdersGetsWrong : ChangeSpec := { name := "holdersGets", fn := fun _ => fun
  | [d1, d2, d3, d4, d5] => { results := [.lit (.bool false)], args := [d1, d2, d3, d4, d5] }
  | _ => none }
def HoldersGetsWrongFalsely : Prop := holdersGetsRow.holds Tryd.pinned (OpenSpec.ofChange holdersGetsWrong)

/-- 'clusterlockslaw10.HoldersValid': WHATEVER THE INPUT: true; the input reads as it did. -/
def holdersValidSpec : ChangeSpec := { name := "holdersValid", fn := fun _ => fun
  | [d1, d2, d3] => { results := [.lit (.bool true)], args := [d1, d2, d3] }
  | _ => none }
def holdersValidRow : OpenClaim := { program := "ytmegjomldcfoaaadoor", sum := "93f6eaebe961f83c0ccd97a0d8d0cf9620f570db9906ab7693f3c35a325ad217", func := "clusterlocks/clusterlockslaw10.HoldersValid", spec := "holdersValid", named := ["clusterlocks/mode.together"], apart := false, laid := [("clusterlocks/mode.together", laid_clusterlocks_mode_together)] }
def HoldersValidSaid : Prop := holdersValidRow.holds Tryd.pinned (OpenSpec.ofChange holdersValidSpec)

/-- ITS FALSE NEIGHBOUR: 'it returns false'. Refute it at one input. -/
def holdersValidWrong : ChangeSpec := { name := "holdersValid", fn := fun _ => fun
  | [d1, d2, d3] => { results := [.lit (.bool false)], args := [d1, d2, d3] }
  | _ => none }
def HoldersValidWrongFalsely : Prop := holdersValidRow.holds Tryd.pinned (OpenSpec.ofChange holdersValidWrong)

/- THE SECOND FORM. 'bulk': how many values and letters a reading holds, each counted each time it is reached (what is shared counts as often as it is met; a slice's spare places count too). A statement '..UptoSaid' is the law's where the arguments, and the package variables that the reading takes, are together of bulk at most 1048576: NARROWER than '..Said'. Prove '..Said' where nothing that the law and all that it calls make is longer than what came in: it says more and counts as full. Else prove '..UptoSaid'. A law counts once. -/
mutual
def uptoBulk {H : Type} : DataW H → Nat
  | .lit (.string bytes) => bytes.length + 1
  | .lit _ => 1
  | .nil => 1
  | .ptr d => uptoBulk d + 1
  | .slice elems spare => uptoBulkAll elems + uptoBulkAll spare + 1
  | .agg parts => uptoBulkAll parts + 1
  | .iface _ d => uptoBulk d + 1
  | .map entries => uptoBulkEntries entries + 1
  | .held _ => 1
def uptoBulkAll {H : Type} : List (DataW H) → Nat
  | [] => 0
  | d :: r => uptoBulk d + uptoBulkAll r
def uptoBulkEntries {H : Type} : List (Lit × DataW H) → Nat
  | [] => 0
  | x :: r => uptoBulkEntry x + uptoBulkEntries r
def uptoBulkEntry {H : Type} : Lit × DataW H → Nat
  | (.string bytes, d) => bytes.length + uptoBulk d + 1
  | (_, d) => uptoBulk d + 1
 end
def uptoSmall : (H : Type) → List (DataW H) → Bool := fun _ ds => decide (uptoBulkAll ds ≤ 1048576)
def OpenSpec.upto (s : _root_.Go.ChangeSpec) : _root_.Go.OpenSpec := { _root_.Go.OpenSpec.ofChange s with cond := some uptoSmall }

/-- 'clusterlockslaw10.HoldersSets', WHERE WHAT IT READS IS OF BULK AT MOST 1048576: true; the input reads as it did. -/
def holdersSetsUptoRow : OpenClaim := { program := "ytmegjomldcfoaaadoor", sum := "93f6eaebe961f83c0ccd97a0d8d0cf9620f570db9906ab7693f3c35a325ad217", func := "clusterlocks/clusterlockslaw10.HoldersSets", spec := "holdersSets", named := ["clusterlocks/mode.together"], apart := false, laid := [("clusterlocks/mode.together", laid_clusterlocks_mode_together)], narrowed := true }
def HoldersSetsUptoSaid : Prop := holdersSetsUptoRow.holds Tryd.pinned (OpenSpec.upto holdersSetsSpec)

/-- 'clusterlockslaw10.HoldersRoom', WHERE WHAT IT READS IS OF BULK AT MOST 1048576: true; the input reads as it did. -/
def holdersRoomUptoRow : OpenClaim := { program := "ytmegjomldcfoaaadoor", sum := "93f6eaebe961f83c0ccd97a0d8d0cf9620f570db9906ab7693f3c35a325ad217", func := "clusterlocks/clusterlockslaw10.HoldersRoom", spec := "holdersRoom", named := ["clusterlocks/mode.together"], apart := false, laid := [("clusterlocks/mode.together", laid_clusterlocks_mode_together)], narrowed := true }
def HoldersRoomUptoSaid : Prop := holdersRoomUptoRow.holds Tryd.pinned (OpenSpec.upto holdersRoomSpec)

/-- 'clusterlockslaw10.HoldersAgainst', WHERE WHAT IT READS IS OF BULK AT MOST 1048576: true; the input reads as it did. -/
def holdersAgainstUptoRow : OpenClaim := { program := "ytmegjomldcfoaaadoor", sum := "93f6eaebe961f83c0ccd97a0d8d0cf9620f570db9906ab7693f3c35a325ad217", func := "clusterlocks/clusterlockslaw10.HoldersAgainst", spec := "holdersAgainst", named := ["clusterlocks/mode.together"], apart := false, laid := [("clusterlocks/mode.together", laid_clusterlocks_mode_together)], narrowed := true }
def HoldersAgainstUptoSaid : Prop := holdersAgainstUptoRow.holds Tryd.pinned (OpenSpec.upto holdersAgainstSpec)

/-- 'clusterlockslaw10.HoldersYield', WHERE WHAT IT READS IS OF BULK AT MOST 1048576: true; the input reads as it did. -/
def holdersYieldUptoRow : OpenClaim := { program := "ytmegjomldcfoaaadoor", sum := "93f6eaebe961f83c0ccd97a0d8d0cf9620f570db9906ab7693f3c35a325ad217", func := "clusterlocks/clusterlockslaw10.HoldersYield", spec := "holdersYield", named := ["clusterlocks/mode.together"], apart := false, laid := [("clusterlocks/mode.together", laid_clusterlocks_mode_together)], narrowed := true }
def HoldersYieldUptoSaid : Prop := holdersYieldUptoRow.holds Tryd.pinned (OpenSpec.upto holdersYieldSpec)

/-- 'clusterlockslaw10.HoldersShrinks', WHERE WHAT IT READS IS OF BULK AT MOST 1048576: true; the input reads as it did. -/
def holdersShrinksUptoRow : OpenClaim := { program := "ytmegjomldcfoaaadoor", sum := "93f6eaebe961f83c0ccd97a0d8d0cf9620f570db9906ab7693f3c35a325ad217", func := "clusterlocks/clusterlockslaw10.HoldersShrinks", spec := "holdersShrinks", named := ["clusterlocks/mode.together"], apart := false, laid := [("clusterlocks/mode.together", laid_clusterlocks_mode_together)], narrowed := true }
def HoldersShrinksUptoSaid : Prop := holdersShrinksUptoRow.holds Tryd.pinned (OpenSpec.upto holdersShrinksSpec)

/-- 'clusterlockslaw10.HoldersGrow', WHERE WHAT IT READS IS OF BULK AT MOST 1048576: true; the input reads as it did. -/
def holdersGrowUptoRow : OpenClaim := { program := "ytmegjomldcfoaaadoor", sum := "93f6eaebe961f83c0ccd97a0d8d0cf9620f570db9906ab7693f3c35a325ad217", func := "clusterlocks/clusterlockslaw10.HoldersGrow", spec := "holdersGrow", named := ["clusterlocks/mode.together"], apart := false, laid := [("clusterlocks/mode.together", laid_clusterlocks_mode_together)], narrowed := true }
def HoldersGrowUptoSaid : Prop := holdersGrowUptoRow.holds Tryd.pinned (OpenSpec.upto holdersGrowSpec)

/-- 'clusterlockslaw10.HoldersGets', WHERE WHAT IT READS IS OF BULK AT MOST 1048576: true; the input reads as it did. -/
def holdersGetsUptoRow : OpenClaim := { program := "ytmegjomldcfoaaadoor", sum := "93f6eaebe961f83c0ccd97a0d8d0cf9620f570db9906ab7693f3c35a325ad217", func := "clusterlocks/clusterlockslaw10.HoldersGets", spec := "holdersGets", named := ["clusterlocks/mode.together"], apart := false, laid := [("clusterlocks/mode.together", laid_clusterlocks_mode_together)], narrowed := true }
def HoldersGetsUptoSaid : Prop := holdersGetsUptoRow.holds Tryd.pinned (OpenSpec.upto holdersGetsSpec)

/-- 'clusterlockslaw10.HoldersValid', WHERE WHAT IT READS IS OF BULK AT MOST 1048576: true; the input reads as it did. -/
def holdersValidUptoRow : OpenClaim := { program := "ytmegjomldcfoaaadoor", sum := "93f6eaebe961f83c0ccd97a0d8d0cf9620f570db9906ab7693f3c35a325ad217", func := "clusterlocks/clusterlockslaw10.HoldersValid", spec := "holdersValid", named := ["clusterlocks/mode.together"], apart := false, laid := [("clusterlocks/mode.together", laid_clusterlocks_mode_together)], narrowed := true }
def HoldersValidUptoSaid : Prop := holdersValidUptoRow.holds Tryd.pinned (OpenSpec.upto holdersValidSpec)

end Rows
end Go.Proofs.YtmegjomldcfoaaaDoor
