/-
  NARROWER THAN 'FOR EVERY INPUT', by the rows' own cells (each row's printed sentence says how): HomeNew: laid · HomeHears: loops, laid · HomeEvents: laid · HomeAnswers: laid · HomePurges: laid.
  DERIVED. THE GIVEN ROWS OF THIS SEAT. 5 by the template 'for every input the law returns true; each argument reads behind the call as it read before'; 0 by the template 'total and deterministic' (their statements: YtdlfhmkmnjbihaaGreatDoorTotals.lean).
  GIVEN WITH THE SEED: the statements are not yours to turn. If you find one false, say at which input.
  Laid BY PROGRAM, IN A SANDBOX (cutbox-rows.mjs): the forced cells as the released guide's own fill.sh prints them over the translation bec6578c8e5bd5a9… (all of the seat's roots in one cut). By AI agents, Wed Nov 11 2026. No macro, syntax, notation, axiom, sorry.
-/
import Derived.Test.YtdlfhmkmnjbihaaGreatDoorChecked
import GoSem.Claim
import GoSem.ClaimJoined
import GoSem.ClaimMapViews
import Derived.JoinedTies
import Derived.KernelRfl
namespace Go.Proofs.YtdlfhmkmnjbihaaGreatDoor
/- THE CELL 'sum', in the pinned program and in every row, IS THE sha256 OF THE DUMP (.gsa) THAT YtdlfhmkmnjbihaaGreatDoorProg.lean LOADS. Nothing in Lean hashes anything: it is a label: what it is worth is what the hold of that sum in a sandbox is worth. -/
noncomputable def Tryz.pinned : Pinned := { name := "ytdlfhmkmnjbihaagreatdoor", sum := "bec6578c8e5bd5a93095eefbdc6de07baad288107143cd1357e2fe04a0e57ef8", checked := Tryz.checked }
namespace Rows
def none {H : Type} : Left H := { results := [], args := [] }

/- WHAT THE LISTED PACKAGE-LEVEL VARIABLES READ AS WHEN THE CALL BEGINS. Each datum BY PROGRAM (the guide's laid-datum.mjs) off the statement by which the dump's own 'gosem.cut.vars' lays the variable. In a bare row this is a premise. The card (YtdlfhmkmnjbihaaGreatDoorCards.lean) ties it to the program's text. -/
def laid_clusterlocks_mode_together {H : Type} : DataW H := .agg [.agg [.lit (.bool true), .lit (.bool true), .lit (.bool true), .lit (.bool true), .lit (.bool false)], .agg [.lit (.bool true), .lit (.bool true), .lit (.bool false), .lit (.bool false), .lit (.bool false)], .agg [.lit (.bool true), .lit (.bool false), .lit (.bool true), .lit (.bool false), .lit (.bool false)], .agg [.lit (.bool true), .lit (.bool false), .lit (.bool false), .lit (.bool false), .lit (.bool false)], .agg [.lit (.bool false), .lit (.bool false), .lit (.bool false), .lit (.bool false), .lit (.bool false)]]
def laid_clusterlocks_message_fields {H : Type} : DataW H := .agg [.lit (.string []), .lit (.string [80, 71, 65, 89]), .lit (.string [80, 71, 97]), .lit (.string [80, 71, 97, 68]), .lit (.string [80, 71, 65]), .lit (.string [83, 73]), .lit (.string [82]), .lit (.string [82, 78, 79]), .lit (.string [82]), .lit (.string [82, 76]), .lit (.string [82, 69, 80, 71, 66]), .lit (.string [82, 80, 68]), .lit (.string [69, 83]), .lit (.string [69]), .lit (.string [69]), .lit (.string [69])]

/-- 'clusterlockslaw32.HomeNew': WHATEVER THE INPUT: true; the input reads as it did. -/
def homeNewSpec : ChangeSpec := { name := "homeNew", fn := fun _ => fun
  | [d1, d2, d3] => { results := [.lit (.bool true)], args := [d1, d2, d3] }
  | _ => none }
def homeNewRow : OpenClaim := { program := "ytdlfhmkmnjbihaagreatdoor", sum := "bec6578c8e5bd5a93095eefbdc6de07baad288107143cd1357e2fe04a0e57ef8", func := "clusterlocks/clusterlockslaw32.HomeNew", spec := "homeNew", unfollowed := true, recurses := true, named := ["clusterlocks/mode.together", "clusterlocks/message.fields"], plainKeys := false, apart := false, laid := [("clusterlocks/mode.together", laid_clusterlocks_mode_together), ("clusterlocks/message.fields", laid_clusterlocks_message_fields)] }
def HomeNewSaid : Prop := homeNewRow.holds Tryz.pinned (OpenSpec.ofChange homeNewSpec)

/-- ITS FALSE NEIGHBOUR: 'it returns false'. Refute it at one input. -/
def homeNewWrong : ChangeSpec := { name := "homeNew", fn := fun _ => fun
  | [d1, d2, d3] => { results := [.lit (.bool false)], args := [d1, d2, d3] }
  | _ => none }
def HomeNewWrongFalsely : Prop := homeNewRow.holds Tryz.pinned (OpenSpec.ofChange homeNewWrong)

/-- 'clusterlockslaw32.HomeHears': WHATEVER THE INPUT: true; the input reads as it did. -/
def homeHearsSpec : ChangeSpec := { name := "homeHears", fn := fun _ => fun
  | [d1, d2, d3] => { results := [.lit (.bool true)], args := [d1, d2, d3] }
  | _ => none }
def homeHearsRow : OpenClaim := { program := "ytdlfhmkmnjbihaagreatdoor", sum := "bec6578c8e5bd5a93095eefbdc6de07baad288107143cd1357e2fe04a0e57ef8", func := "clusterlocks/clusterlockslaw32.HomeHears", spec := "homeHears", unfollowed := true, recurses := true, named := ["clusterlocks/mode.together", "clusterlocks/message.fields"], loops := true, plainKeys := false, apart := false, laid := [("clusterlocks/mode.together", laid_clusterlocks_mode_together), ("clusterlocks/message.fields", laid_clusterlocks_message_fields)] }
def HomeHearsSaid : Prop := homeHearsRow.holds Tryz.pinned (OpenSpec.ofChange homeHearsSpec)

/-- ITS FALSE NEIGHBOUR: 'it returns false'. Refute it at one input. -/
def homeHearsWrong : ChangeSpec := { name := "homeHears", fn := fun _ => fun
  | [d1, d2, d3] => { results := [.lit (.bool false)], args := [d1, d2, d3] }
  | _ => none }
def HomeHearsWrongFalsely : Prop := homeHearsRow.holds Tryz.pinned (OpenSpec.ofChange homeHearsWrong)

/-- 'clusterlockslaw32.HomeEvents': WHATEVER THE INPUT: true; the input reads as it did. -/
def homeEventsSpec : ChangeSpec := { name := "homeEvents", fn := fun _ => fun
  | [d] => { results := [.lit (.bool true)], args := [d] }
  | _ => none }
def homeEventsRow : OpenClaim := { program := "ytdlfhmkmnjbihaagreatdoor", sum := "bec6578c8e5bd5a93095eefbdc6de07baad288107143cd1357e2fe04a0e57ef8", func := "clusterlocks/clusterlockslaw32.HomeEvents", spec := "homeEvents", unfollowed := true, recurses := true, named := ["clusterlocks/mode.together", "clusterlocks/message.fields"], plainKeys := false, apart := false, laid := [("clusterlocks/mode.together", laid_clusterlocks_mode_together), ("clusterlocks/message.fields", laid_clusterlocks_message_fields)] }
def HomeEventsSaid : Prop := homeEventsRow.holds Tryz.pinned (OpenSpec.ofChange homeEventsSpec)

/-- ITS FALSE NEIGHBOUR: 'it returns false'. Refute it at one input. -/
def homeEventsWrong : ChangeSpec := { name := "homeEvents", fn := fun _ => fun
  | [d] => { results := [.lit (.bool false)], args := [d] }
  | _ => none }
def HomeEventsWrongFalsely : Prop := homeEventsRow.holds Tryz.pinned (OpenSpec.ofChange homeEventsWrong)

/-- 'clusterlockslaw32.HomeAnswers': WHATEVER THE INPUT: true; the input reads as it did. -/
def homeAnswersSpec : ChangeSpec := { name := "homeAnswers", fn := fun _ => fun
  | [d] => { results := [.lit (.bool true)], args := [d] }
  | _ => none }
def homeAnswersRow : OpenClaim := { program := "ytdlfhmkmnjbihaagreatdoor", sum := "bec6578c8e5bd5a93095eefbdc6de07baad288107143cd1357e2fe04a0e57ef8", func := "clusterlocks/clusterlockslaw32.HomeAnswers", spec := "homeAnswers", unfollowed := true, recurses := true, named := ["clusterlocks/mode.together", "clusterlocks/message.fields"], plainKeys := false, apart := false, laid := [("clusterlocks/mode.together", laid_clusterlocks_mode_together), ("clusterlocks/message.fields", laid_clusterlocks_message_fields)] }
def HomeAnswersSaid : Prop := homeAnswersRow.holds Tryz.pinned (OpenSpec.ofChange homeAnswersSpec)

/-- ITS FALSE NEIGHBOUR: 'it returns false'. Refute it at one input. -/
def homeAnswersWrong : ChangeSpec := { name := "homeAnswers", fn := fun _ => fun
  | [d] => { results := [.lit (.bool false)], args := [d] }
  | _ => none }
def HomeAnswersWrongFalsely : Prop := homeAnswersRow.holds Tryz.pinned (OpenSpec.ofChange homeAnswersWrong)

/-- 'clusterlockslaw32.HomePurges': WHATEVER THE INPUT: true; the input reads as it did. -/
def homePurgesSpec : ChangeSpec := { name := "homePurges", fn := fun _ => fun
  | [d1, d2, d3] => { results := [.lit (.bool true)], args := [d1, d2, d3] }
  | _ => none }
def homePurgesRow : OpenClaim := { program := "ytdlfhmkmnjbihaagreatdoor", sum := "bec6578c8e5bd5a93095eefbdc6de07baad288107143cd1357e2fe04a0e57ef8", func := "clusterlocks/clusterlockslaw32.HomePurges", spec := "homePurges", unfollowed := true, recurses := true, named := ["clusterlocks/mode.together", "clusterlocks/message.fields"], plainKeys := false, apart := false, laid := [("clusterlocks/mode.together", laid_clusterlocks_mode_together), ("clusterlocks/message.fields", laid_clusterlocks_message_fields)] }
def HomePurgesSaid : Prop := homePurgesRow.holds Tryz.pinned (OpenSpec.ofChange homePurgesSpec)

/-- ITS FALSE NEIGHBOUR: 'it returns false'. Refute it at one input. -/
def homePurgesWrong : ChangeSpec := { name := "homePurges", fn := fun _ => fun
  | [d1, d2, d3] => { results := [.lit (.bool false)], args := [d1, d2, d3] }
  | _ => none }
def HomePurgesWrongFalsely : Prop := homePurgesRow.holds Tryz.pinned (OpenSpec.ofChange homePurgesWrong)

/- THE SECOND FORM. 'bulk': how many values and letters a reading holds, each counted each time it is reached (what is shared counts as often as it is met; a slice's spare places count too). A statement '..UptoSaid' is the law's where the arguments, and the package variables that the reading takes, are together of bulk at most 1048576: NARROWER than '..Said'. Prove '..Said' where nothing that the law and all that it calls make is longer than what came in: it says more and counts as full. Else prove '..UptoSaid'. A law counts once. -/
mutual
def uptoBulk {H : Type} : DataW H → Nat
  | .lit (.string bytes) => bytes.length + 1
  | .lit _ => 1
  | .nil => 1
  | .ptr d => uptoBulk d + 1
  | .slice elems spare => uptoBulkAll elems + uptoBulkAll spare + 1
  | .agg parts => uptoBulkAll parts + 1
  | .iface _ d => uptoBulk d + 1
  | .map entries => uptoBulkEntries entries + 1
  | .held _ => 1
def uptoBulkAll {H : Type} : List (DataW H) → Nat
  | [] => 0
  | d :: r => uptoBulk d + uptoBulkAll r
def uptoBulkEntries {H : Type} : List (Lit × DataW H) → Nat
  | [] => 0
  | x :: r => uptoBulkEntry x + uptoBulkEntries r
def uptoBulkEntry {H : Type} : Lit × DataW H → Nat
  | (.string bytes, d) => bytes.length + uptoBulk d + 1
  | (_, d) => uptoBulk d + 1
 end
def uptoSmall : (H : Type) → List (DataW H) → Bool := fun _ ds => decide (uptoBulkAll ds ≤ 1048576)
def OpenSpec.upto (s : _root_.Go.ChangeSpec) : _root_.Go.OpenSpec := { _root_.Go.OpenSpec.ofChange s with cond := some uptoSmall }

/-- 'clusterlockslaw32.HomeNew', WHERE WHAT IT READS IS OF BULK AT MOST 1048576: true; the input reads as it did. -/
def homeNewUptoRow : OpenClaim := { program := "ytdlfhmkmnjbihaagreatdoor", sum := "bec6578c8e5bd5a93095eefbdc6de07baad288107143cd1357e2fe04a0e57ef8", func := "clusterlocks/clusterlockslaw32.HomeNew", spec := "homeNew", unfollowed := true, recurses := true, named := ["clusterlocks/mode.together", "clusterlocks/message.fields"], plainKeys := false, apart := false, laid := [("clusterlocks/mode.together", laid_clusterlocks_mode_together), ("clusterlocks/message.fields", laid_clusterlocks_message_fields)], narrowed := true }
def HomeNewUptoSaid : Prop := homeNewUptoRow.holds Tryz.pinned (OpenSpec.upto homeNewSpec)

/-- 'clusterlockslaw32.HomeHears', WHERE WHAT IT READS IS OF BULK AT MOST 1048576: true; the input reads as it did. -/
def homeHearsUptoRow : OpenClaim := { program := "ytdlfhmkmnjbihaagreatdoor", sum := "bec6578c8e5bd5a93095eefbdc6de07baad288107143cd1357e2fe04a0e57ef8", func := "clusterlocks/clusterlockslaw32.HomeHears", spec := "homeHears", unfollowed := true, recurses := true, named := ["clusterlocks/mode.together", "clusterlocks/message.fields"], loops := true, plainKeys := false, apart := false, laid := [("clusterlocks/mode.together", laid_clusterlocks_mode_together), ("clusterlocks/message.fields", laid_clusterlocks_message_fields)], narrowed := true }
def HomeHearsUptoSaid : Prop := homeHearsUptoRow.holds Tryz.pinned (OpenSpec.upto homeHearsSpec)

/-- 'clusterlockslaw32.HomeEvents', WHERE WHAT IT READS IS OF BULK AT MOST 1048576: true; the input reads as it did. -/
def homeEventsUptoRow : OpenClaim := { program := "ytdlfhmkmnjbihaagreatdoor", sum := "bec6578c8e5bd5a93095eefbdc6de07baad288107143cd1357e2fe04a0e57ef8", func := "clusterlocks/clusterlockslaw32.HomeEvents", spec := "homeEvents", unfollowed := true, recurses := true, named := ["clusterlocks/mode.together", "clusterlocks/message.fields"], plainKeys := false, apart := false, laid := [("clusterlocks/mode.together", laid_clusterlocks_mode_together), ("clusterlocks/message.fields", laid_clusterlocks_message_fields)], narrowed := true }
def HomeEventsUptoSaid : Prop := homeEventsUptoRow.holds Tryz.pinned (OpenSpec.upto homeEventsSpec)

/-- 'clusterlockslaw32.HomeAnswers', WHERE WHAT IT READS IS OF BULK AT MOST 1048576: true; the input reads as it did. -/
def homeAnswersUptoRow : OpenClaim := { program := "ytdlfhmkmnjbihaagreatdoor", sum := "bec6578c8e5bd5a93095eefbdc6de07baad288107143cd1357e2fe04a0e57ef8", func := "clusterlocks/clusterlockslaw32.HomeAnswers", spec := "homeAnswers", unfollowed := true, recurses := true, named := ["clusterlocks/mode.together", "clusterlocks/message.fields"], plainKeys := false, apart := false, laid := [("clusterlocks/mode.together", laid_clusterlocks_mode_together), ("clusterlocks/message.fields", laid_clusterlocks_message_fields)], narrowed := true }
def HomeAnswersUptoSaid : Prop := homeAnswersUptoRow.holds Tryz.pinned (OpenSpec.upto homeAnswersSpec)

/-- 'clusterlockslaw32.HomePurges', WHERE WHAT IT READS IS OF BULK AT MOST 1048576: true; the input reads as it did. -/
def homePurgesUptoRow : OpenClaim := { program := "ytdlfhmkmnjbihaagreatdoor", sum := "bec6578c8e5bd5a93095eefbdc6de07baad288107143cd1357e2fe04a0e57ef8", func := "clusterlocks/clusterlockslaw32.HomePurges", spec := "homePurges", unfollowed := true, recurses := true, named := ["clusterlocks/mode.together", "clusterlocks/message.fields"], plainKeys := false, apart := false, laid := [("clusterlocks/mode.together", laid_clusterlocks_mode_together), ("clusterlocks/message.fields", laid_clusterlocks_message_fields)], narrowed := true }
def HomePurgesUptoSaid : Prop := homePurgesUptoRow.holds Tryz.pinned (OpenSpec.upto homePurgesSpec)

end Rows
end Go.Proofs.YtdlfhmkmnjbihaaGreatDoor
