/-
  NARROWER THAN 'FOR EVERY INPUT', by the rows' own cells (each row's printed sentence says how): WaitstateOf: loops, laid · WaitstateCentral: laid.
  DERIVED. THE GIVEN ROWS OF THIS SEAT. 2 by the template 'for every input the law returns true; each argument reads behind the call as it read before'; 0 by the template 'total and deterministic' (their statements: YtenebhlnfjcffaaGreatDoorTotals.lean).
  GIVEN WITH THE SEED: the statements are not yours to turn. If you find one false, say at which input.
  Laid BY PROGRAM, IN A SANDBOX (cutbox-rows.mjs): the forced cells as the released guide's own fill.sh prints them over the translation 2bd356db15b93bc5… (all of the seat's roots in one cut). By AI agents, Wed Nov 11 2026. No macro, syntax, notation, axiom, sorry.
-/
import Derived.Test.YtenebhlnfjcffaaGreatDoorChecked
import GoSem.Claim
import GoSem.ClaimJoined
import GoSem.ClaimMapViews
import Derived.JoinedTies
import Derived.KernelRfl
namespace Go.Proofs.YtenebhlnfjcffaaGreatDoor
/- THE CELL 'sum', in the pinned program and in every row, IS THE sha256 OF THE DUMP (.gsa) THAT YtenebhlnfjcffaaGreatDoorProg.lean LOADS. Nothing in Lean hashes anything: it is a label: what it is worth is what the hold of that sum in a sandbox is worth. -/
noncomputable def Tryz.pinned : Pinned := { name := "ytenebhlnfjcffaagreatdoor", sum := "2bd356db15b93bc5659137b8926cde2484f0ef04592aa60848d477b6cf40a97f", checked := Tryz.checked }
namespace Rows
def none {H : Type} : Left H := { results := [], args := [] }

/- WHAT THE LISTED PACKAGE-LEVEL VARIABLES READ AS WHEN THE CALL BEGINS. Each datum BY PROGRAM (the guide's laid-datum.mjs) off the statement by which the dump's own 'gosem.cut.vars' lays the variable. In a bare row this is a premise. The card (YtenebhlnfjcffaaGreatDoorCards.lean) ties it to the program's text. -/
def laid_clusterlocks_mode_together {H : Type} : DataW H := .agg [.agg [.lit (.bool true), .lit (.bool true), .lit (.bool true), .lit (.bool true), .lit (.bool false)], .agg [.lit (.bool true), .lit (.bool true), .lit (.bool false), .lit (.bool false), .lit (.bool false)], .agg [.lit (.bool true), .lit (.bool false), .lit (.bool true), .lit (.bool false), .lit (.bool false)], .agg [.lit (.bool true), .lit (.bool false), .lit (.bool false), .lit (.bool false), .lit (.bool false)], .agg [.lit (.bool false), .lit (.bool false), .lit (.bool false), .lit (.bool false), .lit (.bool false)]]

/-- 'clusterlockslaw16.WaitstateOf': WHATEVER THE INPUT: true; the input reads as it did. -/
def waitstateOfSpec : ChangeSpec := { name := "waitstateOf", fn := fun _ => fun
  | [d] => { results := [.lit (.bool true)], args := [d] }
  | _ => none }
def waitstateOfRow : OpenClaim := { program := "ytenebhlnfjcffaagreatdoor", sum := "2bd356db15b93bc5659137b8926cde2484f0ef04592aa60848d477b6cf40a97f", func := "clusterlocks/clusterlockslaw16.WaitstateOf", spec := "waitstateOf", inPlace := ["internal/bytealg.abigen_runtime_cmpstring"], unfollowed := true, recurses := true, named := ["clusterlocks/mode.together"], loops := true, apart := false, laid := [("clusterlocks/mode.together", laid_clusterlocks_mode_together)] }
def WaitstateOfSaid : Prop := waitstateOfRow.holds Tryz.pinned (OpenSpec.ofChange waitstateOfSpec)

/-- ITS FALSE NEIGHBOUR: 'it returns false'. Refute it at one input. -/
def waitstateOfWrong : ChangeSpec := { name := "waitstateOf", fn := fun _ => fun
  | [d] => { results := [.lit (.bool false)], args := [d] }
  | _ => none }
def WaitstateOfWrongFalsely : Prop := waitstateOfRow.holds Tryz.pinned (OpenSpec.ofChange waitstateOfWrong)

/-- 'clusterlockslaw16.WaitstateCentral': WHATEVER THE INPUT: true; the input reads as it did. -/
def waitstateCentralSpec : ChangeSpec := { name := "waitstateCentral", fn := fun _ => fun
  | [d] => { results := [.lit (.bool true)], args := [d] }
  | _ => none }
def waitstateCentralRow : OpenClaim := { program := "ytenebhlnfjcffaagreatdoor", sum := "2bd356db15b93bc5659137b8926cde2484f0ef04592aa60848d477b6cf40a97f", func := "clusterlocks/clusterlockslaw16.WaitstateCentral", spec := "waitstateCentral", inPlace := ["internal/bytealg.abigen_runtime_cmpstring"], unfollowed := true, recurses := true, named := ["clusterlocks/mode.together"], apart := false, laid := [("clusterlocks/mode.together", laid_clusterlocks_mode_together)] }
def WaitstateCentralSaid : Prop := waitstateCentralRow.holds Tryz.pinned (OpenSpec.ofChange waitstateCentralSpec)

/-- ITS FALSE NEIGHBOUR: 'it returns false'. Refute it at one input. -/
def waitstateCentralWrong : ChangeSpec := { name := "waitstateCentral", fn := fun _ => fun
  | [d] => { results := [.lit (.bool false)], args := [d] }
  | _ => none }
def WaitstateCentralWrongFalsely : Prop := waitstateCentralRow.holds Tryz.pinned (OpenSpec.ofChange waitstateCentralWrong)

/- THE SECOND FORM. 'bulk': how many values and letters a reading holds, each counted each time it is reached (what is shared counts as often as it is met; a slice's spare places count too). A statement '..UptoSaid' is the law's where the arguments, and the package variables that the reading takes, are together of bulk at most 1048576: NARROWER than '..Said'. Prove '..Said' where nothing that the law and all that it calls make is longer than what came in: it says more and counts as full. Else prove '..UptoSaid'. A law counts once. -/
mutual
def uptoBulk {H : Type} : DataW H → Nat
  | .lit (.string bytes) => bytes.length + 1
  | .lit _ => 1
  | .nil => 1
  | .ptr d => uptoBulk d + 1
  | .slice elems spare => uptoBulkAll elems + uptoBulkAll spare + 1
  | .agg parts => uptoBulkAll parts + 1
  | .iface _ d => uptoBulk d + 1
  | .map entries => uptoBulkEntries entries + 1
  | .held _ => 1
def uptoBulkAll {H : Type} : List (DataW H) → Nat
  | [] => 0
  | d :: r => uptoBulk d + uptoBulkAll r
def uptoBulkEntries {H : Type} : List (Lit × DataW H) → Nat
  | [] => 0
  | x :: r => uptoBulkEntry x + uptoBulkEntries r
def uptoBulkEntry {H : Type} : Lit × DataW H → Nat
  | (.string bytes, d) => bytes.length + uptoBulk d + 1
  | (_, d) => uptoBulk d + 1
 end
def uptoSmall : (H : Type) → List (DataW H) → Bool := fun _ ds => decide (uptoBulkAll ds ≤ 1048576)
def OpenSpec.upto (s : _root_.Go.ChangeSpec) : _root_.Go.OpenSpec := { _root_.Go.OpenSpec.ofChange s with cond := some uptoSmall }

/-- 'clusterlockslaw16.WaitstateOf', WHERE WHAT IT READS IS OF BULK AT MOST 1048576: true; the input reads as it did. -/
def waitstateOfUptoRow : OpenClaim := { program := "ytenebhlnfjcffaagreatdoor", sum := "2bd356db15b93bc5659137b8926cde2484f0ef04592aa60848d477b6cf40a97f", func := "clusterlocks/clusterlockslaw16.WaitstateOf", spec := "waitstateOf", inPlace := ["internal/bytealg.abigen_runtime_cmpstring"], unfollowed := true, recurses := true, named := ["clusterlocks/mode.together"], loops := true, apart := false, laid := [("clusterlocks/mode.together", laid_clusterlocks_mode_together)], narrowed := true }
def WaitstateOfUptoSaid : Prop := waitstateOfUptoRow.holds Tryz.pinned (OpenSpec.upto waitstateOfSpec)

/-- 'clusterlockslaw16.WaitstateCentral', WHERE WHAT IT READS IS OF BULK AT MOST 1048576: true; the input reads as it did. -/
def waitstateCentralUptoRow : OpenClaim := { program := "ytenebhlnfjcffaagreatdoor", sum := "2bd356db15b93bc5659137b8926cde2484f0ef04592aa60848d477b6cf40a97f", func := "clusterlocks/clusterlockslaw16.WaitstateCentral", spec := "waitstateCentral", inPlace := ["internal/bytealg.abigen_runtime_cmpstring"], unfollowed := true, recurses := true, named := ["clusterlocks/mode.together"], apart := false, laid := [("clusterlocks/mode.together", laid_clusterlocks_mode_together)], narrowed := true }
def WaitstateCentralUptoSaid : Prop := waitstateCentralUptoRow.holds Tryz.pinned (OpenSpec.upto waitstateCentralSpec)

end Rows
end Go.Proofs.YtenebhlnfjcffaaGreatDoor
