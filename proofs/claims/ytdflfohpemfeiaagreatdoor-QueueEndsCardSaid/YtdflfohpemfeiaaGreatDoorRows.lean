/-
  NARROWER THAN 'FOR EVERY INPUT', by the rows' own cells (each row's printed sentence says how): QueueValid: laid · QueueClaims: laid · QueueOrders: laid · QueueMonotone: laid · QueueLater: laid · QueueCovered: laid · QueueEnds: laid · QueueAdvances: laid · QueueCancels: laid · QueueLowers: laid · QueueScripts: laid · QueueSafe: laid · QueueBlocked: laid · QueueOvertakes: laid.
  DERIVED. THE GIVEN ROWS OF THIS SEAT. 14 by the template 'for every input the law returns true; each argument reads behind the call as it read before'; 0 by the template 'total and deterministic' (their statements: YtdflfohpemfeiaaGreatDoorTotals.lean).
  GIVEN WITH THE SEED: the statements are not yours to turn. If you find one false, say at which input.
  Laid BY PROGRAM, IN A SANDBOX (cutbox-rows.mjs): the forced cells as the released guide's own fill.sh prints them over the translation 24f74a7ec35e3a8a… (all of the seat's roots in one cut). By AI agents, Wed Nov 11 2026. No macro, syntax, notation, axiom, sorry.
-/
import Derived.Test.YtdflfohpemfeiaaGreatDoorChecked
import GoSem.Claim
import GoSem.ClaimJoined
import GoSem.ClaimMapViews
import Derived.JoinedTies
import Derived.KernelRfl
namespace Go.Proofs.YtdflfohpemfeiaaGreatDoor
/- THE CELL 'sum', in the pinned program and in every row, IS THE sha256 OF THE DUMP (.gsa) THAT YtdflfohpemfeiaaGreatDoorProg.lean LOADS. Nothing in Lean hashes anything: it is a label: what it is worth is what the hold of that sum in a sandbox is worth. -/
noncomputable def Tryz.pinned : Pinned := { name := "ytdflfohpemfeiaagreatdoor", sum := "24f74a7ec35e3a8a4fc95f982dc40719d44bf8a51f6c18b9d57a3e3cd69e523d", checked := Tryz.checked }
namespace Rows
def none {H : Type} : Left H := { results := [], args := [] }

/- WHAT THE LISTED PACKAGE-LEVEL VARIABLES READ AS WHEN THE CALL BEGINS. Each datum BY PROGRAM (the guide's laid-datum.mjs) off the statement by which the dump's own 'gosem.cut.vars' lays the variable. In a bare row this is a premise. The card (YtdflfohpemfeiaaGreatDoorCards.lean) ties it to the program's text. -/
def laid_clusterlocks_mode_together {H : Type} : DataW H := .agg [.agg [.lit (.bool true), .lit (.bool true), .lit (.bool true), .lit (.bool true), .lit (.bool false)], .agg [.lit (.bool true), .lit (.bool true), .lit (.bool false), .lit (.bool false), .lit (.bool false)], .agg [.lit (.bool true), .lit (.bool false), .lit (.bool true), .lit (.bool false), .lit (.bool false)], .agg [.lit (.bool true), .lit (.bool false), .lit (.bool false), .lit (.bool false), .lit (.bool false)], .agg [.lit (.bool false), .lit (.bool false), .lit (.bool false), .lit (.bool false), .lit (.bool false)]]

/-- 'clusterlockslaw12.QueueValid': WHATEVER THE INPUT: true; the input reads as it did. -/
def queueValidSpec : ChangeSpec := { name := "queueValid", fn := fun _ => fun
  | [d] => { results := [.lit (.bool true)], args := [d] }
  | _ => none }
def queueValidRow : OpenClaim := { program := "ytdflfohpemfeiaagreatdoor", sum := "24f74a7ec35e3a8a4fc95f982dc40719d44bf8a51f6c18b9d57a3e3cd69e523d", func := "clusterlocks/clusterlockslaw12.QueueValid", spec := "queueValid", unfollowed := true, recurses := true, named := ["clusterlocks/mode.together"], apart := false, laid := [("clusterlocks/mode.together", laid_clusterlocks_mode_together)] }
def QueueValidSaid : Prop := queueValidRow.holds Tryz.pinned (OpenSpec.ofChange queueValidSpec)

/-- ITS FALSE NEIGHBOUR: 'it returns false'. Refute it at one input. -/
def queueValidWrong : ChangeSpec := { name := "queueValid", fn := fun _ => fun
  | [d] => { results := [.lit (.bool false)], args := [d] }
  | _ => none }
def QueueValidWrongFalsely : Prop := queueValidRow.holds Tryz.pinned (OpenSpec.ofChange queueValidWrong)

/-- 'clusterlockslaw12.QueueClaims': WHATEVER THE INPUT: true; the input reads as it did. -/
def queueClaimsSpec : ChangeSpec := { name := "queueClaims", fn := fun _ => fun
  | [d1, d2, d3, d4] => { results := [.lit (.bool true)], args := [d1, d2, d3, d4] }
  | _ => none }
def queueClaimsRow : OpenClaim := { program := "ytdflfohpemfeiaagreatdoor", sum := "24f74a7ec35e3a8a4fc95f982dc40719d44bf8a51f6c18b9d57a3e3cd69e523d", func := "clusterlocks/clusterlockslaw12.QueueClaims", spec := "queueClaims", unfollowed := true, recurses := true, named := ["clusterlocks/mode.together"], apart := false, laid := [("clusterlocks/mode.together", laid_clusterlocks_mode_together)] }
def QueueClaimsSaid : Prop := queueClaimsRow.holds Tryz.pinned (OpenSpec.ofChange queueClaimsSpec)

/-- ITS FALSE NEIGHBOUR: 'it returns false'. Refute it at one input. -/
def queueClaimsWrong : ChangeSpec := { name := "queueClaims", fn := fun _ => fun
  | [d1, d2, d3, d4] => { results := [.lit (.bool false)], args := [d1, d2, d3, d4] }
  | _ => none }
def QueueClaimsWrongFalsely : Prop := queueClaimsRow.holds Tryz.pinned (OpenSpec.ofChange queueClaimsWrong)

/-- 'clusterlockslaw12.QueueOrders': WHATEVER THE INPUT: true; the input reads as it did. -/
def queueOrdersSpec : ChangeSpec := { name := "queueOrders", fn := fun _ => fun
  | [d1, d2, d3] => { results := [.lit (.bool true)], args := [d1, d2, d3] }
  | _ => none }
def queueOrdersRow : OpenClaim := { program := "ytdflfohpemfeiaagreatdoor", sum := "24f74a7ec35e3a8a4fc95f982dc40719d44bf8a51f6c18b9d57a3e3cd69e523d", func := "clusterlocks/clusterlockslaw12.QueueOrders", spec := "queueOrders", unfollowed := true, recurses := true, named := ["clusterlocks/mode.together"], apart := false, laid := [("clusterlocks/mode.together", laid_clusterlocks_mode_together)] }
def QueueOrdersSaid : Prop := queueOrdersRow.holds Tryz.pinned (OpenSpec.ofChange queueOrdersSpec)

/-- ITS FALSE NEIGHBOUR: 'it returns false'. Refute it at one input. -/
def queueOrdersWrong : ChangeSpec := { name := "queueOrders", fn := fun _ => fun
  | [d1, d2, d3] => { results := [.lit (.bool false)], args := [d1, d2, d3] }
  | _ => none }
def QueueOrdersWrongFalsely : Prop := queueOrdersRow.holds Tryz.pinned (OpenSpec.ofChange queueOrdersWrong)

/-- 'clusterlockslaw12.QueueMonotone': WHATEVER THE INPUT: true; the input reads as it did. -/
def queueMonotoneSpec : ChangeSpec := { name := "queueMonotone", fn := fun _ => fun
  | [d1, d2, d3, d4] => { results := [.lit (.bool true)], args := [d1, d2, d3, d4] }
  | _ => none }
def queueMonotoneRow : OpenClaim := { program := "ytdflfohpemfeiaagreatdoor", sum := "24f74a7ec35e3a8a4fc95f982dc40719d44bf8a51f6c18b9d57a3e3cd69e523d", func := "clusterlocks/clusterlockslaw12.QueueMonotone", spec := "queueMonotone", unfollowed := true, recurses := true, named := ["clusterlocks/mode.together"], apart := false, laid := [("clusterlocks/mode.together", laid_clusterlocks_mode_together)] }
def QueueMonotoneSaid : Prop := queueMonotoneRow.holds Tryz.pinned (OpenSpec.ofChange queueMonotoneSpec)

/-- ITS FALSE NEIGHBOUR: 'it returns false'. Refute it at one input. -/
def queueMonotoneWrong : ChangeSpec := { name := "queueMonotone", fn := fun _ => fun
  | [d1, d2, d3, d4] => { results := [.lit (.bool false)], args := [d1, d2, d3, d4] }
  | _ => none }
def QueueMonotoneWrongFalsely : Prop := queueMonotoneRow.holds Tryz.pinned (OpenSpec.ofChange queueMonotoneWrong)

/-- 'clusterlockslaw12.QueueLater': WHATEVER THE INPUT: true; the input reads as it did. -/
def queueLaterSpec : ChangeSpec := { name := "queueLater", fn := fun _ => fun
  | [d1, d2, d3, d4, d5] => { results := [.lit (.bool true)], args := [d1, d2, d3, d4, d5] }
  | _ => none }
def queueLaterRow : OpenClaim := { program := "ytdflfohpemfeiaagreatdoor", sum := "24f74a7ec35e3a8a4fc95f982dc40719d44bf8a51f6c18b9d57a3e3cd69e523d", func := "clusterlocks/clusterlockslaw12.QueueLater", spec := "queueLater", unfollowed := true, recurses := true, named := ["clusterlocks/mode.together"], apart := false, laid := [("clusterlocks/mode.together", laid_clusterlocks_mode_together)] }
def QueueLaterSaid : Prop := queueLaterRow.holds Tryz.pinned (OpenSpec.ofChange queueLaterSpec)

/-- ITS FALSE NEIGHBOUR: 'it returns false'. Refute it at one input. -/
def queueLaterWrong : ChangeSpec := { name := "queueLater", fn := fun _ => fun
  | [d1, d2, d3, d4, d5] => { results := [.lit (.bool false)], args := [d1, d2, d3, d4, d5] }
  | _ => none }
def QueueLaterWrongFalsely : Prop := queueLaterRow.holds Tryz.pinned (OpenSpec.ofChange queueLaterWrong)

/-- 'clusterlockslaw12.QueueCovered': WHATEVER THE INPUT: true; the input reads as it did. -/
def queueCoveredSpec : ChangeSpec := { name := "queueCovered", fn := fun _ => fun
  | [d1, d2, d3, d4] => { results := [.lit (.bool true)], args := [d1, d2, d3, d4] }
  | _ => none }
def queueCoveredRow : OpenClaim := { program := "ytdflfohpemfeiaagreatdoor", sum := "24f74a7ec35e3a8a4fc95f982dc40719d44bf8a51f6c18b9d57a3e3cd69e523d", func := "clusterlocks/clusterlockslaw12.QueueCovered", spec := "queueCovered", unfollowed := true, recurses := true, named := ["clusterlocks/mode.together"], apart := false, laid := [("clusterlocks/mode.together", laid_clusterlocks_mode_together)] }
def QueueCoveredSaid : Prop := queueCoveredRow.holds Tryz.pinned (OpenSpec.ofChange queueCoveredSpec)

/-- ITS FALSE NEIGHBOUR: 'it returns false'. Refute it at one input. -/
def queueCoveredWrong : ChangeSpec := { name := "queueCovered", fn := fun _ => fun
  | [d1, d2, d3, d4] => { results := [.lit (.bool false)], args := [d1, d2, d3, d4] }
  | _ => none }
def QueueCoveredWrongFalsely : Prop := queueCoveredRow.holds Tryz.pinned (OpenSpec.ofChange queueCoveredWrong)

/-- 'clusterlockslaw12.QueueEnds': WHATEVER THE INPUT: true; the input reads as it did. -/
def queueEndsSpec : ChangeSpec := { name := "queueEnds", fn := fun _ => fun
  | [d1, d2] => { results := [.lit (.bool true)], args := [d1, d2] }
  | _ => none }
def queueEndsRow : OpenClaim := { program := "ytdflfohpemfeiaagreatdoor", sum := "24f74a7ec35e3a8a4fc95f982dc40719d44bf8a51f6c18b9d57a3e3cd69e523d", func := "clusterlocks/clusterlockslaw12.QueueEnds", spec := "queueEnds", unfollowed := true, recurses := true, named := ["clusterlocks/mode.together"], apart := false, laid := [("clusterlocks/mode.together", laid_clusterlocks_mode_together)] }
def QueueEndsSaid : Prop := queueEndsRow.holds Tryz.pinned (OpenSpec.ofChange queueEndsSpec)

/-- ITS FALSE NEIGHBOUR: 'it returns false'. Refute it at one input. -/
def queueEndsWrong : ChangeSpec := { name := "queueEnds", fn := fun _ => fun
  | [d1, d2] => { results := [.lit (.bool false)], args := [d1, d2] }
  | _ => none }
def QueueEndsWrongFalsely : Prop := queueEndsRow.holds Tryz.pinned (OpenSpec.ofChange queueEndsWrong)

/-- 'clusterlockslaw12.QueueAdvances': WHATEVER THE INPUT: true; the input reads as it did. -/
def queueAdvancesSpec : ChangeSpec := { name := "queueAdvances", fn := fun _ => fun
  | [d] => { results := [.lit (.bool true)], args := [d] }
  | _ => none }
def queueAdvancesRow : OpenClaim := { program := "ytdflfohpemfeiaagreatdoor", sum := "24f74a7ec35e3a8a4fc95f982dc40719d44bf8a51f6c18b9d57a3e3cd69e523d", func := "clusterlocks/clusterlockslaw12.QueueAdvances", spec := "queueAdvances", unfollowed := true, recurses := true, named := ["clusterlocks/mode.together"], apart := false, laid := [("clusterlocks/mode.together", laid_clusterlocks_mode_together)] }
def QueueAdvancesSaid : Prop := queueAdvancesRow.holds Tryz.pinned (OpenSpec.ofChange queueAdvancesSpec)

/-- ITS FALSE NEIGHBOUR: 'it returns false'. Refute it at one input. -/
def queueAdvancesWrong : ChangeSpec := { name := "queueAdvances", fn := fun _ => fun
  | [d] => { results := [.lit (.bool false)], args := [d] }
  | _ => none }
def QueueAdvancesWrongFalsely : Prop := queueAdvancesRow.holds Tryz.pinned (OpenSpec.ofChange queueAdvancesWrong)

/-- 'clusterlockslaw12.QueueCancels': WHATEVER THE INPUT: true; the input reads as it did. -/
def queueCancelsSpec : ChangeSpec := { name := "queueCancels", fn := fun _ => fun
  | [d1, d2] => { results := [.lit (.bool true)], args := [d1, d2] }
  | _ => none }
def queueCancelsRow : OpenClaim := { program := "ytdflfohpemfeiaagreatdoor", sum := "24f74a7ec35e3a8a4fc95f982dc40719d44bf8a51f6c18b9d57a3e3cd69e523d", func := "clusterlocks/clusterlockslaw12.QueueCancels", spec := "queueCancels", unfollowed := true, recurses := true, named := ["clusterlocks/mode.together"], apart := false, laid := [("clusterlocks/mode.together", laid_clusterlocks_mode_together)] }
def QueueCancelsSaid : Prop := queueCancelsRow.holds Tryz.pinned (OpenSpec.ofChange queueCancelsSpec)

/-- ITS FALSE NEIGHBOUR: 'it returns false'. Refute it at one input. -/
def queueCancelsWrong : ChangeSpec := { name := "queueCancels", fn := fun _ => fun
  | [d1, d2] => { results := [.lit (.bool false)], args := [d1, d2] }
  | _ => none }
def QueueCancelsWrongFalsely : Prop := queueCancelsRow.holds Tryz.pinned (OpenSpec.ofChange queueCancelsWrong)

/-- 'clusterlockslaw12.QueueLowers': WHATEVER THE INPUT: true; the input reads as it did. -/
def queueLowersSpec : ChangeSpec := { name := "queueLowers", fn := fun _ => fun
  | [d1, d2, d3] => { results := [.lit (.bool true)], args := [d1, d2, d3] }
  | _ => none }
def queueLowersRow : OpenClaim := { program := "ytdflfohpemfeiaagreatdoor", sum := "24f74a7ec35e3a8a4fc95f982dc40719d44bf8a51f6c18b9d57a3e3cd69e523d", func := "clusterlocks/clusterlockslaw12.QueueLowers", spec := "queueLowers", unfollowed := true, recurses := true, named := ["clusterlocks/mode.together"], apart := false, laid := [("clusterlocks/mode.together", laid_clusterlocks_mode_together)] }
def QueueLowersSaid : Prop := queueLowersRow.holds Tryz.pinned (OpenSpec.ofChange queueLowersSpec)

/-- ITS FALSE NEIGHBOUR: 'it returns false'. Refute it at one input. -/
def queueLowersWrong : ChangeSpec := { name := "queueLowers", fn := fun _ => fun
  | [d1, d2, d3] => { results := [.lit (.bool false)], args := [d1, d2, d3] }
  | _ => none }
def QueueLowersWrongFalsely : Prop := queueLowersRow.holds Tryz.pinned (OpenSpec.ofChange queueLowersWrong)

/-- 'clusterlockslaw12.QueueScripts': WHATEVER THE INPUT: true; the input reads as it did. -/
def queueScriptsSpec : ChangeSpec := { name := "queueScripts", fn := fun _ => fun
  | [d1, d2] => { results := [.lit (.bool true)], args := [d1, d2] }
  | _ => none }
def queueScriptsRow : OpenClaim := { program := "ytdflfohpemfeiaagreatdoor", sum := "24f74a7ec35e3a8a4fc95f982dc40719d44bf8a51f6c18b9d57a3e3cd69e523d", func := "clusterlocks/clusterlockslaw12.QueueScripts", spec := "queueScripts", unfollowed := true, recurses := true, named := ["clusterlocks/mode.together"], apart := false, laid := [("clusterlocks/mode.together", laid_clusterlocks_mode_together)] }
def QueueScriptsSaid : Prop := queueScriptsRow.holds Tryz.pinned (OpenSpec.ofChange queueScriptsSpec)

/-- ITS FALSE NEIGHBOUR: 'it returns false'. Refute it at one input. -/
def queueScriptsWrong : ChangeSpec := { name := "queueScripts", fn := fun _ => fun
  | [d1, d2] => { results := [.lit (.bool false)], args := [d1, d2] }
  | _ => none }
def QueueScriptsWrongFalsely : Prop := queueScriptsRow.holds Tryz.pinned (OpenSpec.ofChange queueScriptsWrong)

/-- 'clusterlockslaw12.QueueSafe': WHATEVER THE INPUT: true; the input reads as it did. -/
def queueSafeSpec : ChangeSpec := { name := "queueSafe", fn := fun _ => fun
  | [d1, d2] => { results := [.lit (.bool true)], args := [d1, d2] }
  | _ => none }
def queueSafeRow : OpenClaim := { program := "ytdflfohpemfeiaagreatdoor", sum := "24f74a7ec35e3a8a4fc95f982dc40719d44bf8a51f6c18b9d57a3e3cd69e523d", func := "clusterlocks/clusterlockslaw12.QueueSafe", spec := "queueSafe", unfollowed := true, recurses := true, named := ["clusterlocks/mode.together"], apart := false, laid := [("clusterlocks/mode.together", laid_clusterlocks_mode_together)] }
def QueueSafeSaid : Prop := queueSafeRow.holds Tryz.pinned (OpenSpec.ofChange queueSafeSpec)

/-- ITS FALSE NEIGHBOUR: 'it returns false'. Refute it at one input. -/
def queueSafeWrong : ChangeSpec := { name := "queueSafe", fn := fun _ => fun
  | [d1, d2] => { results := [.lit (.bool false)], args := [d1, d2] }
  | _ => none }
def QueueSafeWrongFalsely : Prop := queueSafeRow.holds Tryz.pinned (OpenSpec.ofChange queueSafeWrong)

/-- 'clusterlockslaw12.QueueBlocked': WHATEVER THE INPUT: true; the input reads as it did. -/
def queueBlockedSpec : ChangeSpec := { name := "queueBlocked", fn := fun _ => fun
  | [d1, d2, d3] => { results := [.lit (.bool true)], args := [d1, d2, d3] }
  | _ => none }
def queueBlockedRow : OpenClaim := { program := "ytdflfohpemfeiaagreatdoor", sum := "24f74a7ec35e3a8a4fc95f982dc40719d44bf8a51f6c18b9d57a3e3cd69e523d", func := "clusterlocks/clusterlockslaw12.QueueBlocked", spec := "queueBlocked", unfollowed := true, recurses := true, named := ["clusterlocks/mode.together"], apart := false, laid := [("clusterlocks/mode.together", laid_clusterlocks_mode_together)] }
def QueueBlockedSaid : Prop := queueBlockedRow.holds Tryz.pinned (OpenSpec.ofChange queueBlockedSpec)

/-- ITS FALSE NEIGHBOUR: 'it returns false'. Refute it at one input. -/
def queueBlockedWrong : ChangeSpec := { name := "queueBlocked", fn := fun _ => fun
  | [d1, d2, d3] => { results := [.lit (.bool false)], args := [d1, d2, d3] }
  | _ => none }
def QueueBlockedWrongFalsely : Prop := queueBlockedRow.holds Tryz.pinned (OpenSpec.ofChange queueBlockedWrong)

/-- 'clusterlockslaw12.QueueOvertakes': WHATEVER THE INPUT: true; the input reads as it did. -/
def queueOvertakesSpec : ChangeSpec := { name := "queueOvertakes", fn := fun _ => fun
  | [d1, d2] => { results := [.lit (.bool true)], args := [d1, d2] }
  | _ => none }
def queueOvertakesRow : OpenClaim := { program := "ytdflfohpemfeiaagreatdoor", sum := "24f74a7ec35e3a8a4fc95f982dc40719d44bf8a51f6c18b9d57a3e3cd69e523d", func := "clusterlocks/clusterlockslaw12.QueueOvertakes", spec := "queueOvertakes", unfollowed := true, recurses := true, named := ["clusterlocks/mode.together"], apart := false, laid := [("clusterlocks/mode.together", laid_clusterlocks_mode_together)] }
def QueueOvertakesSaid : Prop := queueOvertakesRow.holds Tryz.pinned (OpenSpec.ofChange queueOvertakesSpec)

/-- ITS FALSE NEIGHBOUR: 'it returns false'. Refute it at one input. -/
def queueOvertakesWrong : ChangeSpec := { name := "queueOvertakes", fn := fun _ => fun
  | [d1, d2] => { results := [.lit (.bool false)], args := [d1, d2] }
  | _ => none }
def QueueOvertakesWrongFalsely : Prop := queueOvertakesRow.holds Tryz.pinned (OpenSpec.ofChange queueOvertakesWrong)

/- THE SECOND FORM. 'bulk': how many values and letters a reading holds, each counted each time it is reached (what is shared counts as often as it is met; a slice's spare places count too). A statement '..UptoSaid' is the law's where the arguments, and the package variables that the reading takes, are together of bulk at most 1048576: NARROWER than '..Said'. Prove '..Said' where nothing that the law and all that it calls make is longer than what came in: it says more and counts as full. Else prove '..UptoSaid'. A law counts once. -/
mutual
def uptoBulk {H : Type} : DataW H → Nat
  | .lit (.string bytes) => bytes.length + 1
  | .lit _ => 1
  | .nil => 1
  | .ptr d => uptoBulk d + 1
  | .slice elems spare => uptoBulkAll elems + uptoBulkAll spare + 1
  | .agg parts => uptoBulkAll parts + 1
  | .iface _ d => uptoBulk d + 1
  | .map entries => uptoBulkEntries entries + 1
  | .held _ => 1
def uptoBulkAll {H : Type} : List (DataW H) → Nat
  | [] => 0
  | d :: r => uptoBulk d + uptoBulkAll r
def uptoBulkEntries {H : Type} : List (Lit × DataW H) → Nat
  | [] => 0
  | x :: r => uptoBulkEntry x + uptoBulkEntries r
def uptoBulkEntry {H : Type} : Lit × DataW H → Nat
  | (.string bytes, d) => bytes.length + uptoBulk d + 1
  | (_, d) => uptoBulk d + 1
 end
def uptoSmall : (H : Type) → List (DataW H) → Bool := fun _ ds => decide (uptoBulkAll ds ≤ 1048576)
def OpenSpec.upto (s : _root_.Go.ChangeSpec) : _root_.Go.OpenSpec := { _root_.Go.OpenSpec.ofChange s with cond := some uptoSmall }

/-- 'clusterlockslaw12.QueueValid', WHERE WHAT IT READS IS OF BULK AT MOST 1048576: true; the input reads as it did. -/
def queueValidUptoRow : OpenClaim := { program := "ytdflfohpemfeiaagreatdoor", sum := "24f74a7ec35e3a8a4fc95f982dc40719d44bf8a51f6c18b9d57a3e3cd69e523d", func := "clusterlocks/clusterlockslaw12.QueueValid", spec := "queueValid", unfollowed := true, recurses := true, named := ["clusterlocks/mode.together"], apart := false, laid := [("clusterlocks/mode.together", laid_clusterlocks_mode_together)], narrowed := true }
def QueueValidUptoSaid : Prop := queueValidUptoRow.holds Tryz.pinned (OpenSpec.upto queueValidSpec)

/-- 'clusterlockslaw12.QueueClaims', WHERE WHAT IT READS IS OF BULK AT MOST 1048576: true; the input reads as it did. -/
def queueClaimsUptoRow : OpenClaim := { program := "ytdflfohpemfeiaagreatdoor", sum := "24f74a7ec35e3a8a4fc95f982dc40719d44bf8a51f6c18b9d57a3e3cd69e523d", func := "clusterlocks/clusterlockslaw12.QueueClaims", spec := "queueClaims", unfollowed := true, recurses := true, named := ["clusterlocks/mode.together"], apart := false, laid := [("clusterlocks/mode.together", laid_clusterlocks_mode_together)], narrowed := true }
def QueueClaimsUptoSaid : Prop := queueClaimsUptoRow.holds Tryz.pinned (OpenSpec.upto queueClaimsSpec)

/-- 'clusterlockslaw12.QueueOrders', WHERE WHAT IT READS IS OF BULK AT MOST 1048576: true; the input reads as it did. -/
def queueOrdersUptoRow : OpenClaim := { program := "ytdflfohpemfeiaagreatdoor", sum := "24f74a7ec35e3a8a4fc95f982dc40719d44bf8a51f6c18b9d57a3e3cd69e523d", func := "clusterlocks/clusterlockslaw12.QueueOrders", spec := "queueOrders", unfollowed := true, recurses := true, named := ["clusterlocks/mode.together"], apart := false, laid := [("clusterlocks/mode.together", laid_clusterlocks_mode_together)], narrowed := true }
def QueueOrdersUptoSaid : Prop := queueOrdersUptoRow.holds Tryz.pinned (OpenSpec.upto queueOrdersSpec)

/-- 'clusterlockslaw12.QueueMonotone', WHERE WHAT IT READS IS OF BULK AT MOST 1048576: true; the input reads as it did. -/
def queueMonotoneUptoRow : OpenClaim := { program := "ytdflfohpemfeiaagreatdoor", sum := "24f74a7ec35e3a8a4fc95f982dc40719d44bf8a51f6c18b9d57a3e3cd69e523d", func := "clusterlocks/clusterlockslaw12.QueueMonotone", spec := "queueMonotone", unfollowed := true, recurses := true, named := ["clusterlocks/mode.together"], apart := false, laid := [("clusterlocks/mode.together", laid_clusterlocks_mode_together)], narrowed := true }
def QueueMonotoneUptoSaid : Prop := queueMonotoneUptoRow.holds Tryz.pinned (OpenSpec.upto queueMonotoneSpec)

/-- 'clusterlockslaw12.QueueLater', WHERE WHAT IT READS IS OF BULK AT MOST 1048576: true; the input reads as it did. -/
def queueLaterUptoRow : OpenClaim := { program := "ytdflfohpemfeiaagreatdoor", sum := "24f74a7ec35e3a8a4fc95f982dc40719d44bf8a51f6c18b9d57a3e3cd69e523d", func := "clusterlocks/clusterlockslaw12.QueueLater", spec := "queueLater", unfollowed := true, recurses := true, named := ["clusterlocks/mode.together"], apart := false, laid := [("clusterlocks/mode.together", laid_clusterlocks_mode_together)], narrowed := true }
def QueueLaterUptoSaid : Prop := queueLaterUptoRow.holds Tryz.pinned (OpenSpec.upto queueLaterSpec)

/-- 'clusterlockslaw12.QueueCovered', WHERE WHAT IT READS IS OF BULK AT MOST 1048576: true; the input reads as it did. -/
def queueCoveredUptoRow : OpenClaim := { program := "ytdflfohpemfeiaagreatdoor", sum := "24f74a7ec35e3a8a4fc95f982dc40719d44bf8a51f6c18b9d57a3e3cd69e523d", func := "clusterlocks/clusterlockslaw12.QueueCovered", spec := "queueCovered", unfollowed := true, recurses := true, named := ["clusterlocks/mode.together"], apart := false, laid := [("clusterlocks/mode.together", laid_clusterlocks_mode_together)], narrowed := true }
def QueueCoveredUptoSaid : Prop := queueCoveredUptoRow.holds Tryz.pinned (OpenSpec.upto queueCoveredSpec)

/-- 'clusterlockslaw12.QueueEnds', WHERE WHAT IT READS IS OF BULK AT MOST 1048576: true; the input reads as it did. -/
def queueEndsUptoRow : OpenClaim := { program := "ytdflfohpemfeiaagreatdoor", sum := "24f74a7ec35e3a8a4fc95f982dc40719d44bf8a51f6c18b9d57a3e3cd69e523d", func := "clusterlocks/clusterlockslaw12.QueueEnds", spec := "queueEnds", unfollowed := true, recurses := true, named := ["clusterlocks/mode.together"], apart := false, laid := [("clusterlocks/mode.together", laid_clusterlocks_mode_together)], narrowed := true }
def QueueEndsUptoSaid : Prop := queueEndsUptoRow.holds Tryz.pinned (OpenSpec.upto queueEndsSpec)

/-- 'clusterlockslaw12.QueueAdvances', WHERE WHAT IT READS IS OF BULK AT MOST 1048576: true; the input reads as it did. -/
def queueAdvancesUptoRow : OpenClaim := { program := "ytdflfohpemfeiaagreatdoor", sum := "24f74a7ec35e3a8a4fc95f982dc40719d44bf8a51f6c18b9d57a3e3cd69e523d", func := "clusterlocks/clusterlockslaw12.QueueAdvances", spec := "queueAdvances", unfollowed := true, recurses := true, named := ["clusterlocks/mode.together"], apart := false, laid := [("clusterlocks/mode.together", laid_clusterlocks_mode_together)], narrowed := true }
def QueueAdvancesUptoSaid : Prop := queueAdvancesUptoRow.holds Tryz.pinned (OpenSpec.upto queueAdvancesSpec)

/-- 'clusterlockslaw12.QueueCancels', WHERE WHAT IT READS IS OF BULK AT MOST 1048576: true; the input reads as it did. -/
def queueCancelsUptoRow : OpenClaim := { program := "ytdflfohpemfeiaagreatdoor", sum := "24f74a7ec35e3a8a4fc95f982dc40719d44bf8a51f6c18b9d57a3e3cd69e523d", func := "clusterlocks/clusterlockslaw12.QueueCancels", spec := "queueCancels", unfollowed := true, recurses := true, named := ["clusterlocks/mode.together"], apart := false, laid := [("clusterlocks/mode.together", laid_clusterlocks_mode_together)], narrowed := true }
def QueueCancelsUptoSaid : Prop := queueCancelsUptoRow.holds Tryz.pinned (OpenSpec.upto queueCancelsSpec)

/-- 'clusterlockslaw12.QueueLowers', WHERE WHAT IT READS IS OF BULK AT MOST 1048576: true; the input reads as it did. -/
def queueLowersUptoRow : OpenClaim := { program := "ytdflfohpemfeiaagreatdoor", sum := "24f74a7ec35e3a8a4fc95f982dc40719d44bf8a51f6c18b9d57a3e3cd69e523d", func := "clusterlocks/clusterlockslaw12.QueueLowers", spec := "queueLowers", unfollowed := true, recurses := true, named := ["clusterlocks/mode.together"], apart := false, laid := [("clusterlocks/mode.together", laid_clusterlocks_mode_together)], narrowed := true }
def QueueLowersUptoSaid : Prop := queueLowersUptoRow.holds Tryz.pinned (OpenSpec.upto queueLowersSpec)

/-- 'clusterlockslaw12.QueueScripts', WHERE WHAT IT READS IS OF BULK AT MOST 1048576: true; the input reads as it did. -/
def queueScriptsUptoRow : OpenClaim := { program := "ytdflfohpemfeiaagreatdoor", sum := "24f74a7ec35e3a8a4fc95f982dc40719d44bf8a51f6c18b9d57a3e3cd69e523d", func := "clusterlocks/clusterlockslaw12.QueueScripts", spec := "queueScripts", unfollowed := true, recurses := true, named := ["clusterlocks/mode.together"], apart := false, laid := [("clusterlocks/mode.together", laid_clusterlocks_mode_together)], narrowed := true }
def QueueScriptsUptoSaid : Prop := queueScriptsUptoRow.holds Tryz.pinned (OpenSpec.upto queueScriptsSpec)

/-- 'clusterlockslaw12.QueueSafe', WHERE WHAT IT READS IS OF BULK AT MOST 1048576: true; the input reads as it did. -/
def queueSafeUptoRow : OpenClaim := { program := "ytdflfohpemfeiaagreatdoor", sum := "24f74a7ec35e3a8a4fc95f982dc40719d44bf8a51f6c18b9d57a3e3cd69e523d", func := "clusterlocks/clusterlockslaw12.QueueSafe", spec := "queueSafe", unfollowed := true, recurses := true, named := ["clusterlocks/mode.together"], apart := false, laid := [("clusterlocks/mode.together", laid_clusterlocks_mode_together)], narrowed := true }
def QueueSafeUptoSaid : Prop := queueSafeUptoRow.holds Tryz.pinned (OpenSpec.upto queueSafeSpec)

/-- 'clusterlockslaw12.QueueBlocked', WHERE WHAT IT READS IS OF BULK AT MOST 1048576: true; the input reads as it did. -/
def queueBlockedUptoRow : OpenClaim := { program := "ytdflfohpemfeiaagreatdoor", sum := "24f74a7ec35e3a8a4fc95f982dc40719d44bf8a51f6c18b9d57a3e3cd69e523d", func := "clusterlocks/clusterlockslaw12.QueueBlocked", spec := "queueBlocked", unfollowed := true, recurses := true, named := ["clusterlocks/mode.together"], apart := false, laid := [("clusterlocks/mode.together", laid_clusterlocks_mode_together)], narrowed := true }
def QueueBlockedUptoSaid : Prop := queueBlockedUptoRow.holds Tryz.pinned (OpenSpec.upto queueBlockedSpec)

/-- 'clusterlockslaw12.QueueOvertakes', WHERE WHAT IT READS IS OF BULK AT MOST 1048576: true; the input reads as it did. -/
def queueOvertakesUptoRow : OpenClaim := { program := "ytdflfohpemfeiaagreatdoor", sum := "24f74a7ec35e3a8a4fc95f982dc40719d44bf8a51f6c18b9d57a3e3cd69e523d", func := "clusterlocks/clusterlockslaw12.QueueOvertakes", spec := "queueOvertakes", unfollowed := true, recurses := true, named := ["clusterlocks/mode.together"], apart := false, laid := [("clusterlocks/mode.together", laid_clusterlocks_mode_together)], narrowed := true }
def QueueOvertakesUptoSaid : Prop := queueOvertakesUptoRow.holds Tryz.pinned (OpenSpec.upto queueOvertakesSpec)

end Rows
end Go.Proofs.YtdflfohpemfeiaaGreatDoor
