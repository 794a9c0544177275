/-
  NARROWER THAN 'FOR EVERY INPUT', by the rows' own cells (each row's printed sentence says how): MessageBack: laid · MessageChanged: laid · MessageKinds: laid.
  DERIVED. THE GIVEN ROWS OF THIS SEAT. 3 by the template 'for every input the law returns true; each argument reads behind the call as it read before'; 0 by the template 'total and deterministic' (their statements: YtfmnjkfhahfhgaaGreatDoorTotals.lean).
  GIVEN WITH THE SEED: the statements are not yours to turn. If you find one false, say at which input.
  Laid BY PROGRAM, IN A SANDBOX (cutbox-rows.mjs): the forced cells as the released guide's own fill.sh prints them over the translation 5ce4632f2d4fa994… (all of the seat's roots in one cut). By AI agents, Wed Nov 11 2026. No macro, syntax, notation, axiom, sorry.
-/
import Derived.Test.YtfmnjkfhahfhgaaGreatDoorChecked
import GoSem.Claim
import GoSem.ClaimJoined
import GoSem.ClaimMapViews
import Derived.JoinedTies
import Derived.KernelRfl
namespace Go.Proofs.YtfmnjkfhahfhgaaGreatDoor
/- THE CELL 'sum', in the pinned program and in every row, IS THE sha256 OF THE DUMP (.gsa) THAT YtfmnjkfhahfhgaaGreatDoorProg.lean LOADS. Nothing in Lean hashes anything: it is a label: what it is worth is what the hold of that sum in a sandbox is worth. -/
noncomputable def Tryz.pinned : Pinned := { name := "ytfmnjkfhahfhgaagreatdoor", sum := "5ce4632f2d4fa994bc9ff307382e5711ac75805cd86181d3c8677b688bdcd2f0", checked := Tryz.checked }
namespace Rows
def none {H : Type} : Left H := { results := [], args := [] }

/- WHAT THE LISTED PACKAGE-LEVEL VARIABLES READ AS WHEN THE CALL BEGINS. Each datum BY PROGRAM (the guide's laid-datum.mjs) off the statement by which the dump's own 'gosem.cut.vars' lays the variable. In a bare row this is a premise. The card (YtfmnjkfhahfhgaaGreatDoorCards.lean) ties it to the program's text. -/
def laid_clusterlocks_mode_together {H : Type} : DataW H := .agg [.agg [.lit (.bool true), .lit (.bool true), .lit (.bool true), .lit (.bool true), .lit (.bool false)], .agg [.lit (.bool true), .lit (.bool true), .lit (.bool false), .lit (.bool false), .lit (.bool false)], .agg [.lit (.bool true), .lit (.bool false), .lit (.bool true), .lit (.bool false), .lit (.bool false)], .agg [.lit (.bool true), .lit (.bool false), .lit (.bool false), .lit (.bool false), .lit (.bool false)], .agg [.lit (.bool false), .lit (.bool false), .lit (.bool false), .lit (.bool false), .lit (.bool false)]]
def laid_clusterlocks_message_fields {H : Type} : DataW H := .agg [.lit (.string []), .lit (.string [80, 71, 65, 89]), .lit (.string [80, 71, 97]), .lit (.string [80, 71, 97, 68]), .lit (.string [80, 71, 65]), .lit (.string [83, 73]), .lit (.string [82]), .lit (.string [82, 78, 79]), .lit (.string [82]), .lit (.string [82, 76]), .lit (.string [82, 69, 80, 71, 66]), .lit (.string [82, 80, 68]), .lit (.string [69, 83]), .lit (.string [69]), .lit (.string [69]), .lit (.string [69])]

/-- 'clusterlockslaw24.MessageBack': WHATEVER THE INPUT: true; the input reads as it did. -/
def messageBackSpec : ChangeSpec := { name := "messageBack", fn := fun _ => fun
  | [d1, d2, d3] => { results := [.lit (.bool true)], args := [d1, d2, d3] }
  | _ => none }
def messageBackRow : OpenClaim := { program := "ytfmnjkfhahfhgaagreatdoor", sum := "5ce4632f2d4fa994bc9ff307382e5711ac75805cd86181d3c8677b688bdcd2f0", func := "clusterlocks/clusterlockslaw24.MessageBack", spec := "messageBack", unfollowed := true, recurses := true, named := ["clusterlocks/message.fields", "clusterlocks/mode.together"], apart := false, laid := [("clusterlocks/mode.together", laid_clusterlocks_mode_together), ("clusterlocks/message.fields", laid_clusterlocks_message_fields)] }
def MessageBackSaid : Prop := messageBackRow.holds Tryz.pinned (OpenSpec.ofChange messageBackSpec)

/-- ITS FALSE NEIGHBOUR: 'it returns false'. Refute it at one input. -/
def messageBackWrong : ChangeSpec := { name := "messageBack", fn := fun _ => fun
  | [d1, d2, d3] => { results := [.lit (.bool false)], args := [d1, d2, d3] }
  | _ => none }
def MessageBackWrongFalsely : Prop := messageBackRow.holds Tryz.pinned (OpenSpec.ofChange messageBackWrong)

/-- 'clusterlockslaw24.MessageChanged': WHATEVER THE INPUT: true; the input reads as it did. -/
def messageChangedSpec : ChangeSpec := { name := "messageChanged", fn := fun _ => fun
  | [d1, d2, d3, d4] => { results := [.lit (.bool true)], args := [d1, d2, d3, d4] }
  | _ => none }
def messageChangedRow : OpenClaim := { program := "ytfmnjkfhahfhgaagreatdoor", sum := "5ce4632f2d4fa994bc9ff307382e5711ac75805cd86181d3c8677b688bdcd2f0", func := "clusterlocks/clusterlockslaw24.MessageChanged", spec := "messageChanged", unfollowed := true, recurses := true, named := ["clusterlocks/message.fields", "clusterlocks/mode.together"], apart := false, laid := [("clusterlocks/mode.together", laid_clusterlocks_mode_together), ("clusterlocks/message.fields", laid_clusterlocks_message_fields)] }
def MessageChangedSaid : Prop := messageChangedRow.holds Tryz.pinned (OpenSpec.ofChange messageChangedSpec)

/-- ITS FALSE NEIGHBOUR: 'it returns false'. Refute it at one input. -/
def messageChangedWrong : ChangeSpec := { name := "messageChanged", fn := fun _ => fun
  | [d1, d2, d3, d4] => { results := [.lit (.bool false)], args := [d1, d2, d3, d4] }
  | _ => none }
def MessageChangedWrongFalsely : Prop := messageChangedRow.holds Tryz.pinned (OpenSpec.ofChange messageChangedWrong)

/-- 'clusterlockslaw24.MessageKinds': WHATEVER THE INPUT: true; the input reads as it did. -/
def messageKindsSpec : ChangeSpec := { name := "messageKinds", fn := fun _ => fun
  | [d1, d2, d3] => { results := [.lit (.bool true)], args := [d1, d2, d3] }
  | _ => none }
def messageKindsRow : OpenClaim := { program := "ytfmnjkfhahfhgaagreatdoor", sum := "5ce4632f2d4fa994bc9ff307382e5711ac75805cd86181d3c8677b688bdcd2f0", func := "clusterlocks/clusterlockslaw24.MessageKinds", spec := "messageKinds", unfollowed := true, recurses := true, named := ["clusterlocks/message.fields", "clusterlocks/mode.together"], apart := false, laid := [("clusterlocks/mode.together", laid_clusterlocks_mode_together), ("clusterlocks/message.fields", laid_clusterlocks_message_fields)] }
def MessageKindsSaid : Prop := messageKindsRow.holds Tryz.pinned (OpenSpec.ofChange messageKindsSpec)

/-- ITS FALSE NEIGHBOUR: 'it returns false'. Refute it at one input. -/
def messageKindsWrong : ChangeSpec := { name := "messageKinds", fn := fun _ => fun
  | [d1, d2, d3] => { results := [.lit (.bool false)], args := [d1, d2, d3] }
  | _ => none }
def MessageKindsWrongFalsely : Prop := messageKindsRow.holds Tryz.pinned (OpenSpec.ofChange messageKindsWrong)

/- THE SECOND FORM. 'bulk': how many values and letters a reading holds, each counted each time it is reached (what is shared counts as often as it is met; a slice's spare places count too). A statement '..UptoSaid' is the law's where the arguments, and the package variables that the reading takes, are together of bulk at most 1048576: NARROWER than '..Said'. Prove '..Said' where nothing that the law and all that it calls make is longer than what came in: it says more and counts as full. Else prove '..UptoSaid'. A law counts once. -/
mutual
def uptoBulk {H : Type} : DataW H → Nat
  | .lit (.string bytes) => bytes.length + 1
  | .lit _ => 1
  | .nil => 1
  | .ptr d => uptoBulk d + 1
  | .slice elems spare => uptoBulkAll elems + uptoBulkAll spare + 1
  | .agg parts => uptoBulkAll parts + 1
  | .iface _ d => uptoBulk d + 1
  | .map entries => uptoBulkEntries entries + 1
  | .held _ => 1
def uptoBulkAll {H : Type} : List (DataW H) → Nat
  | [] => 0
  | d :: r => uptoBulk d + uptoBulkAll r
def uptoBulkEntries {H : Type} : List (Lit × DataW H) → Nat
  | [] => 0
  | x :: r => uptoBulkEntry x + uptoBulkEntries r
def uptoBulkEntry {H : Type} : Lit × DataW H → Nat
  | (.string bytes, d) => bytes.length + uptoBulk d + 1
  | (_, d) => uptoBulk d + 1
 end
def uptoSmall : (H : Type) → List (DataW H) → Bool := fun _ ds => decide (uptoBulkAll ds ≤ 1048576)
def OpenSpec.upto (s : _root_.Go.ChangeSpec) : _root_.Go.OpenSpec := { _root_.Go.OpenSpec.ofChange s with cond := some uptoSmall }

/-- 'clusterlockslaw24.MessageBack', WHERE WHAT IT READS IS OF BULK AT MOST 1048576: true; the input reads as it did. -/
def messageBackUptoRow : OpenClaim := { program := "ytfmnjkfhahfhgaagreatdoor", sum := "5ce4632f2d4fa994bc9ff307382e5711ac75805cd86181d3c8677b688bdcd2f0", func := "clusterlocks/clusterlockslaw24.MessageBack", spec := "messageBack", unfollowed := true, recurses := true, named := ["clusterlocks/message.fields", "clusterlocks/mode.together"], apart := false, laid := [("clusterlocks/mode.together", laid_clusterlocks_mode_together), ("clusterlocks/message.fields", laid_clusterlocks_message_fields)], narrowed := true }
def MessageBackUptoSaid : Prop := messageBackUptoRow.holds Tryz.pinned (OpenSpec.upto messageBackSpec)

/-- 'clusterlockslaw24.MessageChanged', WHERE WHAT IT READS IS OF BULK AT MOST 1048576: true; the input reads as it did. -/
def messageChangedUptoRow : OpenClaim := { program := "ytfmnjkfhahfhgaagreatdoor", sum := "5ce4632f2d4fa994bc9ff307382e5711ac75805cd86181d3c8677b688bdcd2f0", func := "clusterlocks/clusterlockslaw24.MessageChanged", spec := "messageChanged", unfollowed := true, recurses := true, named := ["clusterlocks/message.fields", "clusterlocks/mode.together"], apart := false, laid := [("clusterlocks/mode.together", laid_clusterlocks_mode_together), ("clusterlocks/message.fields", laid_clusterlocks_message_fields)], narrowed := true }
def MessageChangedUptoSaid : Prop := messageChangedUptoRow.holds Tryz.pinned (OpenSpec.upto messageChangedSpec)

/-- 'clusterlockslaw24.MessageKinds', WHERE WHAT IT READS IS OF BULK AT MOST 1048576: true; the input reads as it did. -/
def messageKindsUptoRow : OpenClaim := { program := "ytfmnjkfhahfhgaagreatdoor", sum := "5ce4632f2d4fa994bc9ff307382e5711ac75805cd86181d3c8677b688bdcd2f0", func := "clusterlocks/clusterlockslaw24.MessageKinds", spec := "messageKinds", unfollowed := true, recurses := true, named := ["clusterlocks/message.fields", "clusterlocks/mode.together"], apart := false, laid := [("clusterlocks/mode.together", laid_clusterlocks_mode_together), ("clusterlocks/message.fields", laid_clusterlocks_message_fields)], narrowed := true }
def MessageKindsUptoSaid : Prop := messageKindsUptoRow.holds Tryz.pinned (OpenSpec.upto messageKindsSpec)

end Rows
end Go.Proofs.YtfmnjkfhahfhgaaGreatDoor
