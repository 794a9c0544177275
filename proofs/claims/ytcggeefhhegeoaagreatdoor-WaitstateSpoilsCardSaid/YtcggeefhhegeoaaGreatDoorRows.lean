/-
  NARROWER THAN 'FOR EVERY INPUT', by the rows' own cells (each row's printed sentence says how): WaitstateScripts: laid · WaitstateSpoils: laid.
  DERIVED. THE GIVEN ROWS OF THIS SEAT. 2 by the template 'for every input the law returns true; each argument reads behind the call as it read before'; 0 by the template 'total and deterministic' (their statements: YtcggeefhhegeoaaGreatDoorTotals.lean).
  GIVEN WITH THE SEED: the statements are not yours to turn. If you find one false, say at which input.
  Laid BY PROGRAM, IN A SANDBOX (cutbox-rows.mjs): the forced cells as the released guide's own fill.sh prints them over the translation cf6db30a03d81512… (all of the seat's roots in one cut). By AI agents, Wed Nov 11 2026. No macro, syntax, notation, axiom, sorry.
-/
import Derived.Test.YtcggeefhhegeoaaGreatDoorChecked
import GoSem.Claim
import GoSem.ClaimJoined
import GoSem.ClaimMapViews
import Derived.JoinedTies
import Derived.KernelRfl
namespace Go.Proofs.YtcggeefhhegeoaaGreatDoor
/- THE CELL 'sum', in the pinned program and in every row, IS THE sha256 OF THE DUMP (.gsa) THAT YtcggeefhhegeoaaGreatDoorProg.lean LOADS. Nothing in Lean hashes anything: it is a label: what it is worth is what the hold of that sum in a sandbox is worth. -/
noncomputable def Tryz.pinned : Pinned := { name := "ytcggeefhhegeoaagreatdoor", sum := "cf6db30a03d81512a6172acdf9135094a705e1b5616bc6075781d82a3e8561ea", checked := Tryz.checked }
namespace Rows
def none {H : Type} : Left H := { results := [], args := [] }

/- WHAT THE LISTED PACKAGE-LEVEL VARIABLES READ AS WHEN THE CALL BEGINS. Each datum BY PROGRAM (the guide's laid-datum.mjs) off the statement by which the dump's own 'gosem.cut.vars' lays the variable. In a bare row this is a premise. The card (YtcggeefhhegeoaaGreatDoorCards.lean) ties it to the program's text. -/
def laid_clusterlocks_mode_together {H : Type} : DataW H := .agg [.agg [.lit (.bool true), .lit (.bool true), .lit (.bool true), .lit (.bool true), .lit (.bool false)], .agg [.lit (.bool true), .lit (.bool true), .lit (.bool false), .lit (.bool false), .lit (.bool false)], .agg [.lit (.bool true), .lit (.bool false), .lit (.bool true), .lit (.bool false), .lit (.bool false)], .agg [.lit (.bool true), .lit (.bool false), .lit (.bool false), .lit (.bool false), .lit (.bool false)], .agg [.lit (.bool false), .lit (.bool false), .lit (.bool false), .lit (.bool false), .lit (.bool false)]]

/-- 'clusterlockslaw16.WaitstateScripts': WHATEVER THE INPUT: true; the input reads as it did. -/
def waitstateScriptsSpec : ChangeSpec := { name := "waitstateScripts", fn := fun _ => fun
  | [d1, d2] => { results := [.lit (.bool true)], args := [d1, d2] }
  | _ => none }
def waitstateScriptsRow : OpenClaim := { program := "ytcggeefhhegeoaagreatdoor", sum := "cf6db30a03d81512a6172acdf9135094a705e1b5616bc6075781d82a3e8561ea", func := "clusterlocks/clusterlockslaw16.WaitstateScripts", spec := "waitstateScripts", unfollowed := true, recurses := true, named := ["clusterlocks/mode.together"], apart := false, laid := [("clusterlocks/mode.together", laid_clusterlocks_mode_together)] }
def WaitstateScriptsSaid : Prop := waitstateScriptsRow.holds Tryz.pinned (OpenSpec.ofChange waitstateScriptsSpec)

/-- ITS FALSE NEIGHBOUR: 'it returns false'. Refute it at one input. -/
def waitstateScriptsWrong : ChangeSpec := { name := "waitstateScripts", fn := fun _ => fun
  | [d1, d2] => { results := [.lit (.bool false)], args := [d1, d2] }
  | _ => none }
def WaitstateScriptsWrongFalsely : Prop := waitstateScriptsRow.holds Tryz.pinned (OpenSpec.ofChange waitstateScriptsWrong)

/-- 'clusterlockslaw16.WaitstateSpoils': WHATEVER THE INPUT: true; the input reads as it did. -/
def waitstateSpoilsSpec : ChangeSpec := { name := "waitstateSpoils", fn := fun _ => fun
  | [d1, d2, d3, d4, d5] => { results := [.lit (.bool true)], args := [d1, d2, d3, d4, d5] }
  | _ => none }
def waitstateSpoilsRow : OpenClaim := { program := "ytcggeefhhegeoaagreatdoor", sum := "cf6db30a03d81512a6172acdf9135094a705e1b5616bc6075781d82a3e8561ea", func := "clusterlocks/clusterlockslaw16.WaitstateSpoils", spec := "waitstateSpoils", unfollowed := true, recurses := true, named := ["clusterlocks/mode.together"], apart := false, laid := [("clusterlocks/mode.together", laid_clusterlocks_mode_together)] }
def WaitstateSpoilsSaid : Prop := waitstateSpoilsRow.holds Tryz.pinned (OpenSpec.ofChange waitstateSpoilsSpec)

/-- ITS FALSE NEIGHBOUR: 'it returns false'. Refute it at one input. -/
def waitstateSpoilsWrong : ChangeSpec := { name := "waitstateSpoils", fn := fun _ => fun
  | [d1, d2, d3, d4, d5] => { results := [.lit (.bool false)], args := [d1, d2, d3, d4, d5] }
  | _ => none }
def WaitstateSpoilsWrongFalsely : Prop := waitstateSpoilsRow.holds Tryz.pinned (OpenSpec.ofChange waitstateSpoilsWrong)

/- THE SECOND FORM. 'bulk': how many values and letters a reading holds, each counted each time it is reached (what is shared counts as often as it is met; a slice's spare places count too). A statement '..UptoSaid' is the law's where the arguments, and the package variables that the reading takes, are together of bulk at most 1048576: NARROWER than '..Said'. Prove '..Said' where nothing that the law and all that it calls make is longer than what came in: it says more and counts as full. Else prove '..UptoSaid'. A law counts once. -/
mutual
def uptoBulk {H : Type} : DataW H → Nat
  | .lit (.string bytes) => bytes.length + 1
  | .lit _ => 1
  | .nil => 1
  | .ptr d => uptoBulk d + 1
  | .slice elems spare => uptoBulkAll elems + uptoBulkAll spare + 1
  | .agg parts => uptoBulkAll parts + 1
  | .iface _ d => uptoBulk d + 1
  | .map entries => uptoBulkEntries entries + 1
  | .held _ => 1
def uptoBulkAll {H : Type} : List (DataW H) → Nat
  | [] => 0
  | d :: r => uptoBulk d + uptoBulkAll r
def uptoBulkEntries {H : Type} : List (Lit × DataW H) → Nat
  | [] => 0
  | x :: r => uptoBulkEntry x + uptoBulkEntries r
def uptoBulkEntry {H : Type} : Lit × DataW H → Nat
  | (.string bytes, d) => bytes.length + uptoBulk d + 1
  | (_, d) => uptoBulk d + 1
 end
def uptoSmall : (H : Type) → List (DataW H) → Bool := fun _ ds => decide (uptoBulkAll ds ≤ 1048576)
def OpenSpec.upto (s : _root_.Go.ChangeSpec) : _root_.Go.OpenSpec := { _root_.Go.OpenSpec.ofChange s with cond := some uptoSmall }

/-- 'clusterlockslaw16.WaitstateScripts', WHERE WHAT IT READS IS OF BULK AT MOST 1048576: true; the input reads as it did. -/
def waitstateScriptsUptoRow : OpenClaim := { program := "ytcggeefhhegeoaagreatdoor", sum := "cf6db30a03d81512a6172acdf9135094a705e1b5616bc6075781d82a3e8561ea", func := "clusterlocks/clusterlockslaw16.WaitstateScripts", spec := "waitstateScripts", unfollowed := true, recurses := true, named := ["clusterlocks/mode.together"], apart := false, laid := [("clusterlocks/mode.together", laid_clusterlocks_mode_together)], narrowed := true }
def WaitstateScriptsUptoSaid : Prop := waitstateScriptsUptoRow.holds Tryz.pinned (OpenSpec.upto waitstateScriptsSpec)

/-- 'clusterlockslaw16.WaitstateSpoils', WHERE WHAT IT READS IS OF BULK AT MOST 1048576: true; the input reads as it did. -/
def waitstateSpoilsUptoRow : OpenClaim := { program := "ytcggeefhhegeoaagreatdoor", sum := "cf6db30a03d81512a6172acdf9135094a705e1b5616bc6075781d82a3e8561ea", func := "clusterlocks/clusterlockslaw16.WaitstateSpoils", spec := "waitstateSpoils", unfollowed := true, recurses := true, named := ["clusterlocks/mode.together"], apart := false, laid := [("clusterlocks/mode.together", laid_clusterlocks_mode_together)], narrowed := true }
def WaitstateSpoilsUptoSaid : Prop := waitstateSpoilsUptoRow.holds Tryz.pinned (OpenSpec.upto waitstateSpoilsSpec)

end Rows
end Go.Proofs.YtcggeefhhegeoaaGreatDoor
