/-
  NARROWER THAN 'FOR EVERY INPUT', by the rows' own cells (each row's printed sentence says how): TableNew: laid · TableClaims: laid · TableApart: laid · TableOrders: laid · TableEvents: laid · TableRemoves: laid · TablePurges: laid · TableLowers: laid · TableScripts: laid.
  DERIVED. THE GIVEN ROWS OF THIS SEAT. 9 by the template 'for every input the law returns true; each argument reads behind the call as it read before'; 0 by the template 'total and deterministic' (their statements: YtfjeceicgfdmjaaGreatDoorTotals.lean).
  GIVEN WITH THE SEED: the statements are not yours to turn. If you find one false, say at which input.
  Laid BY PROGRAM, IN A SANDBOX (cutbox-rows.mjs): the forced cells as the released guide's own fill.sh prints them over the translation 4df608e9fa0641fe… (all of the seat's roots in one cut). By AI agents, Wed Nov 11 2026. No macro, syntax, notation, axiom, sorry.
-/
import Derived.Test.YtfjeceicgfdmjaaGreatDoorChecked
import GoSem.Claim
import GoSem.ClaimJoined
import GoSem.ClaimMapViews
import Derived.JoinedTies
import Derived.KernelRfl
namespace Go.Proofs.YtfjeceicgfdmjaaGreatDoor
/- THE CELL 'sum', in the pinned program and in every row, IS THE sha256 OF THE DUMP (.gsa) THAT YtfjeceicgfdmjaaGreatDoorProg.lean LOADS. Nothing in Lean hashes anything: it is a label: what it is worth is what the hold of that sum in a sandbox is worth. -/
noncomputable def Tryz.pinned : Pinned := { name := "ytfjeceicgfdmjaagreatdoor", sum := "4df608e9fa0641fea2e286ae8c5a412b412f14e6b2b48f17b02d12ba9c9f7944", checked := Tryz.checked }
namespace Rows
def none {H : Type} : Left H := { results := [], args := [] }

/- WHAT THE LISTED PACKAGE-LEVEL VARIABLES READ AS WHEN THE CALL BEGINS. Each datum BY PROGRAM (the guide's laid-datum.mjs) off the statement by which the dump's own 'gosem.cut.vars' lays the variable. In a bare row this is a premise. The card (YtfjeceicgfdmjaaGreatDoorCards.lean) ties it to the program's text. -/
def laid_clusterlocks_mode_together {H : Type} : DataW H := .agg [.agg [.lit (.bool true), .lit (.bool true), .lit (.bool true), .lit (.bool true), .lit (.bool false)], .agg [.lit (.bool true), .lit (.bool true), .lit (.bool false), .lit (.bool false), .lit (.bool false)], .agg [.lit (.bool true), .lit (.bool false), .lit (.bool true), .lit (.bool false), .lit (.bool false)], .agg [.lit (.bool true), .lit (.bool false), .lit (.bool false), .lit (.bool false), .lit (.bool false)], .agg [.lit (.bool false), .lit (.bool false), .lit (.bool false), .lit (.bool false), .lit (.bool false)]]

/-- 'clusterlockslaw13.TableNew': WHATEVER THE INPUT: true; the input reads as it did. -/
def tableNewSpec : ChangeSpec := { name := "tableNew", fn := fun _ => fun
  | [d] => { results := [.lit (.bool true)], args := [d] }
  | _ => none }
def tableNewRow : OpenClaim := { program := "ytfjeceicgfdmjaagreatdoor", sum := "4df608e9fa0641fea2e286ae8c5a412b412f14e6b2b48f17b02d12ba9c9f7944", func := "clusterlocks/clusterlockslaw13.TableNew", spec := "tableNew", unfollowed := true, recurses := true, named := ["clusterlocks/mode.together"], apart := false, laid := [("clusterlocks/mode.together", laid_clusterlocks_mode_together)] }
def TableNewSaid : Prop := tableNewRow.holds Tryz.pinned (OpenSpec.ofChange tableNewSpec)

/-- ITS FALSE NEIGHBOUR: 'it returns false'. Refute it at one input. -/
def tableNewWrong : ChangeSpec := { name := "tableNew", fn := fun _ => fun
  | [d] => { results := [.lit (.bool false)], args := [d] }
  | _ => none }
def TableNewWrongFalsely : Prop := tableNewRow.holds Tryz.pinned (OpenSpec.ofChange tableNewWrong)

/-- 'clusterlockslaw13.TableClaims': WHATEVER THE INPUT: true; the input reads as it did. -/
def tableClaimsSpec : ChangeSpec := { name := "tableClaims", fn := fun _ => fun
  | [d1, d2, d3, d4] => { results := [.lit (.bool true)], args := [d1, d2, d3, d4] }
  | _ => none }
def tableClaimsRow : OpenClaim := { program := "ytfjeceicgfdmjaagreatdoor", sum := "4df608e9fa0641fea2e286ae8c5a412b412f14e6b2b48f17b02d12ba9c9f7944", func := "clusterlocks/clusterlockslaw13.TableClaims", spec := "tableClaims", unfollowed := true, recurses := true, named := ["clusterlocks/mode.together"], apart := false, laid := [("clusterlocks/mode.together", laid_clusterlocks_mode_together)] }
def TableClaimsSaid : Prop := tableClaimsRow.holds Tryz.pinned (OpenSpec.ofChange tableClaimsSpec)

/-- ITS FALSE NEIGHBOUR: 'it returns false'. Refute it at one input. -/
def tableClaimsWrong : ChangeSpec := { name := "tableClaims", fn := fun _ => fun
  | [d1, d2, d3, d4] => { results := [.lit (.bool false)], args := [d1, d2, d3, d4] }
  | _ => none }
def TableClaimsWrongFalsely : Prop := tableClaimsRow.holds Tryz.pinned (OpenSpec.ofChange tableClaimsWrong)

/-- 'clusterlockslaw13.TableApart': WHATEVER THE INPUT: true; the input reads as it did. -/
def tableApartSpec : ChangeSpec := { name := "tableApart", fn := fun _ => fun
  | [d1, d2, d3, d4, d5] => { results := [.lit (.bool true)], args := [d1, d2, d3, d4, d5] }
  | _ => none }
def tableApartRow : OpenClaim := { program := "ytfjeceicgfdmjaagreatdoor", sum := "4df608e9fa0641fea2e286ae8c5a412b412f14e6b2b48f17b02d12ba9c9f7944", func := "clusterlocks/clusterlockslaw13.TableApart", spec := "tableApart", unfollowed := true, recurses := true, named := ["clusterlocks/mode.together"], apart := false, laid := [("clusterlocks/mode.together", laid_clusterlocks_mode_together)] }
def TableApartSaid : Prop := tableApartRow.holds Tryz.pinned (OpenSpec.ofChange tableApartSpec)

/-- ITS FALSE NEIGHBOUR: 'it returns false'. Refute it at one input. -/
def tableApartWrong : ChangeSpec := { name := "tableApart", fn := fun _ => fun
  | [d1, d2, d3, d4, d5] => { results := [.lit (.bool false)], args := [d1, d2, d3, d4, d5] }
  | _ => none }
def TableApartWrongFalsely : Prop := tableApartRow.holds Tryz.pinned (OpenSpec.ofChange tableApartWrong)

/-- 'clusterlockslaw13.TableOrders': WHATEVER THE INPUT: true; the input reads as it did. -/
def tableOrdersSpec : ChangeSpec := { name := "tableOrders", fn := fun _ => fun
  | [d1, d2] => { results := [.lit (.bool true)], args := [d1, d2] }
  | _ => none }
def tableOrdersRow : OpenClaim := { program := "ytfjeceicgfdmjaagreatdoor", sum := "4df608e9fa0641fea2e286ae8c5a412b412f14e6b2b48f17b02d12ba9c9f7944", func := "clusterlocks/clusterlockslaw13.TableOrders", spec := "tableOrders", unfollowed := true, recurses := true, named := ["clusterlocks/mode.together"], apart := false, laid := [("clusterlocks/mode.together", laid_clusterlocks_mode_together)] }
def TableOrdersSaid : Prop := tableOrdersRow.holds Tryz.pinned (OpenSpec.ofChange tableOrdersSpec)

/-- ITS FALSE NEIGHBOUR: 'it returns false'. Refute it at one input. -/
def tableOrdersWrong : ChangeSpec := { name := "tableOrders", fn := fun _ => fun
  | [d1, d2] => { results := [.lit (.bool false)], args := [d1, d2] }
  | _ => none }
def TableOrdersWrongFalsely : Prop := tableOrdersRow.holds Tryz.pinned (OpenSpec.ofChange tableOrdersWrong)

/-- 'clusterlockslaw13.TableEvents': WHATEVER THE INPUT: true; the input reads as it did. -/
def tableEventsSpec : ChangeSpec := { name := "tableEvents", fn := fun _ => fun
  | [d1, d2] => { results := [.lit (.bool true)], args := [d1, d2] }
  | _ => none }
def tableEventsRow : OpenClaim := { program := "ytfjeceicgfdmjaagreatdoor", sum := "4df608e9fa0641fea2e286ae8c5a412b412f14e6b2b48f17b02d12ba9c9f7944", func := "clusterlocks/clusterlockslaw13.TableEvents", spec := "tableEvents", unfollowed := true, recurses := true, named := ["clusterlocks/mode.together"], apart := false, laid := [("clusterlocks/mode.together", laid_clusterlocks_mode_together)] }
def TableEventsSaid : Prop := tableEventsRow.holds Tryz.pinned (OpenSpec.ofChange tableEventsSpec)

/-- ITS FALSE NEIGHBOUR: 'it returns false'. Refute it at one input. -/
def tableEventsWrong : ChangeSpec := { name := "tableEvents", fn := fun _ => fun
  | [d1, d2] => { results := [.lit (.bool false)], args := [d1, d2] }
  | _ => none }
def TableEventsWrongFalsely : Prop := tableEventsRow.holds Tryz.pinned (OpenSpec.ofChange tableEventsWrong)

/-- 'clusterlockslaw13.TableRemoves': WHATEVER THE INPUT: true; the input reads as it did. -/
def tableRemovesSpec : ChangeSpec := { name := "tableRemoves", fn := fun _ => fun
  | [d1, d2, d3, d4] => { results := [.lit (.bool true)], args := [d1, d2, d3, d4] }
  | _ => none }
def tableRemovesRow : OpenClaim := { program := "ytfjeceicgfdmjaagreatdoor", sum := "4df608e9fa0641fea2e286ae8c5a412b412f14e6b2b48f17b02d12ba9c9f7944", func := "clusterlocks/clusterlockslaw13.TableRemoves", spec := "tableRemoves", unfollowed := true, recurses := true, named := ["clusterlocks/mode.together"], apart := false, laid := [("clusterlocks/mode.together", laid_clusterlocks_mode_together)] }
def TableRemovesSaid : Prop := tableRemovesRow.holds Tryz.pinned (OpenSpec.ofChange tableRemovesSpec)

/-- ITS FALSE NEIGHBOUR: 'it returns false'. Refute it at one input. -/
def tableRemovesWrong : ChangeSpec := { name := "tableRemoves", fn := fun _ => fun
  | [d1, d2, d3, d4] => { results := [.lit (.bool false)], args := [d1, d2, d3, d4] }
  | _ => none }
def TableRemovesWrongFalsely : Prop := tableRemovesRow.holds Tryz.pinned (OpenSpec.ofChange tableRemovesWrong)

/-- 'clusterlockslaw13.TablePurges': WHATEVER THE INPUT: true; the input reads as it did. -/
def tablePurgesSpec : ChangeSpec := { name := "tablePurges", fn := fun _ => fun
  | [d1, d2, d3] => { results := [.lit (.bool true)], args := [d1, d2, d3] }
  | _ => none }
def tablePurgesRow : OpenClaim := { program := "ytfjeceicgfdmjaagreatdoor", sum := "4df608e9fa0641fea2e286ae8c5a412b412f14e6b2b48f17b02d12ba9c9f7944", func := "clusterlocks/clusterlockslaw13.TablePurges", spec := "tablePurges", unfollowed := true, recurses := true, named := ["clusterlocks/mode.together"], apart := false, laid := [("clusterlocks/mode.together", laid_clusterlocks_mode_together)] }
def TablePurgesSaid : Prop := tablePurgesRow.holds Tryz.pinned (OpenSpec.ofChange tablePurgesSpec)

/-- ITS FALSE NEIGHBOUR: 'it returns false'. Refute it at one input. -/
def tablePurgesWrong : ChangeSpec := { name := "tablePurges", fn := fun _ => fun
  | [d1, d2, d3] => { results := [.lit (.bool false)], args := [d1, d2, d3] }
  | _ => none }
def TablePurgesWrongFalsely : Prop := tablePurgesRow.holds Tryz.pinned (OpenSpec.ofChange tablePurgesWrong)

/-- 'clusterlockslaw13.TableLowers': WHATEVER THE INPUT: true; the input reads as it did. -/
def tableLowersSpec : ChangeSpec := { name := "tableLowers", fn := fun _ => fun
  | [d1, d2, d3] => { results := [.lit (.bool true)], args := [d1, d2, d3] }
  | _ => none }
def tableLowersRow : OpenClaim := { program := "ytfjeceicgfdmjaagreatdoor", sum := "4df608e9fa0641fea2e286ae8c5a412b412f14e6b2b48f17b02d12ba9c9f7944", func := "clusterlocks/clusterlockslaw13.TableLowers", spec := "tableLowers", unfollowed := true, recurses := true, named := ["clusterlocks/mode.together"], apart := false, laid := [("clusterlocks/mode.together", laid_clusterlocks_mode_together)] }
def TableLowersSaid : Prop := tableLowersRow.holds Tryz.pinned (OpenSpec.ofChange tableLowersSpec)

/-- ITS FALSE NEIGHBOUR: 'it returns false'. Refute it at one input. -/
def tableLowersWrong : ChangeSpec := { name := "tableLowers", fn := fun _ => fun
  | [d1, d2, d3] => { results := [.lit (.bool false)], args := [d1, d2, d3] }
  | _ => none }
def TableLowersWrongFalsely : Prop := tableLowersRow.holds Tryz.pinned (OpenSpec.ofChange tableLowersWrong)

/-- 'clusterlockslaw13.TableScripts': WHATEVER THE INPUT: true; the input reads as it did. -/
def tableScriptsSpec : ChangeSpec := { name := "tableScripts", fn := fun _ => fun
  | [d] => { results := [.lit (.bool true)], args := [d] }
  | _ => none }
def tableScriptsRow : OpenClaim := { program := "ytfjeceicgfdmjaagreatdoor", sum := "4df608e9fa0641fea2e286ae8c5a412b412f14e6b2b48f17b02d12ba9c9f7944", func := "clusterlocks/clusterlockslaw13.TableScripts", spec := "tableScripts", unfollowed := true, recurses := true, named := ["clusterlocks/mode.together"], apart := false, laid := [("clusterlocks/mode.together", laid_clusterlocks_mode_together)] }
def TableScriptsSaid : Prop := tableScriptsRow.holds Tryz.pinned (OpenSpec.ofChange tableScriptsSpec)

/-- ITS FALSE NEIGHBOUR: 'it returns false'. Refute it at one input. -/
def tableScriptsWrong : ChangeSpec := { name := "tableScripts", fn := fun _ => fun
  | [d] => { results := [.lit (.bool false)], args := [d] }
  | _ => none }
def TableScriptsWrongFalsely : Prop := tableScriptsRow.holds Tryz.pinned (OpenSpec.ofChange tableScriptsWrong)

/- THE SECOND FORM. 'bulk': how many values and letters a reading holds, each counted each time it is reached (what is shared counts as often as it is met; a slice's spare places count too). A statement '..UptoSaid' is the law's where the arguments, and the package variables that the reading takes, are together of bulk at most 1048576: NARROWER than '..Said'. Prove '..Said' where nothing that the law and all that it calls make is longer than what came in: it says more and counts as full. Else prove '..UptoSaid'. A law counts once. -/
mutual
def uptoBulk {H : Type} : DataW H → Nat
  | .lit (.string bytes) => bytes.length + 1
  | .lit _ => 1
  | .nil => 1
  | .ptr d => uptoBulk d + 1
  | .slice elems spare => uptoBulkAll elems + uptoBulkAll spare + 1
  | .agg parts => uptoBulkAll parts + 1
  | .iface _ d => uptoBulk d + 1
  | .map entries => uptoBulkEntries entries + 1
  | .held _ => 1
def uptoBulkAll {H : Type} : List (DataW H) → Nat
  | [] => 0
  | d :: r => uptoBulk d + uptoBulkAll r
def uptoBulkEntries {H : Type} : List (Lit × DataW H) → Nat
  | [] => 0
  | x :: r => uptoBulkEntry x + uptoBulkEntries r
def uptoBulkEntry {H : Type} : Lit × DataW H → Nat
  | (.string bytes, d) => bytes.length + uptoBulk d + 1
  | (_, d) => uptoBulk d + 1
 end
def uptoSmall : (H : Type) → List (DataW H) → Bool := fun _ ds => decide (uptoBulkAll ds ≤ 1048576)
def OpenSpec.upto (s : _root_.Go.ChangeSpec) : _root_.Go.OpenSpec := { _root_.Go.OpenSpec.ofChange s with cond := some uptoSmall }

/-- 'clusterlockslaw13.TableNew', WHERE WHAT IT READS IS OF BULK AT MOST 1048576: true; the input reads as it did. -/
def tableNewUptoRow : OpenClaim := { program := "ytfjeceicgfdmjaagreatdoor", sum := "4df608e9fa0641fea2e286ae8c5a412b412f14e6b2b48f17b02d12ba9c9f7944", func := "clusterlocks/clusterlockslaw13.TableNew", spec := "tableNew", unfollowed := true, recurses := true, named := ["clusterlocks/mode.together"], apart := false, laid := [("clusterlocks/mode.together", laid_clusterlocks_mode_together)], narrowed := true }
def TableNewUptoSaid : Prop := tableNewUptoRow.holds Tryz.pinned (OpenSpec.upto tableNewSpec)

/-- 'clusterlockslaw13.TableClaims', WHERE WHAT IT READS IS OF BULK AT MOST 1048576: true; the input reads as it did. -/
def tableClaimsUptoRow : OpenClaim := { program := "ytfjeceicgfdmjaagreatdoor", sum := "4df608e9fa0641fea2e286ae8c5a412b412f14e6b2b48f17b02d12ba9c9f7944", func := "clusterlocks/clusterlockslaw13.TableClaims", spec := "tableClaims", unfollowed := true, recurses := true, named := ["clusterlocks/mode.together"], apart := false, laid := [("clusterlocks/mode.together", laid_clusterlocks_mode_together)], narrowed := true }
def TableClaimsUptoSaid : Prop := tableClaimsUptoRow.holds Tryz.pinned (OpenSpec.upto tableClaimsSpec)

/-- 'clusterlockslaw13.TableApart', WHERE WHAT IT READS IS OF BULK AT MOST 1048576: true; the input reads as it did. -/
def tableApartUptoRow : OpenClaim := { program := "ytfjeceicgfdmjaagreatdoor", sum := "4df608e9fa0641fea2e286ae8c5a412b412f14e6b2b48f17b02d12ba9c9f7944", func := "clusterlocks/clusterlockslaw13.TableApart", spec := "tableApart", unfollowed := true, recurses := true, named := ["clusterlocks/mode.together"], apart := false, laid := [("clusterlocks/mode.together", laid_clusterlocks_mode_together)], narrowed := true }
def TableApartUptoSaid : Prop := tableApartUptoRow.holds Tryz.pinned (OpenSpec.upto tableApartSpec)

/-- 'clusterlockslaw13.TableOrders', WHERE WHAT IT READS IS OF BULK AT MOST 1048576: true; the input reads as it did. -/
def tableOrdersUptoRow : OpenClaim := { program := "ytfjeceicgfdmjaagreatdoor", sum := "4df608e9fa0641fea2e286ae8c5a412b412f14e6b2b48f17b02d12ba9c9f7944", func := "clusterlocks/clusterlockslaw13.TableOrders", spec := "tableOrders", unfollowed := true, recurses := true, named := ["clusterlocks/mode.together"], apart := false, laid := [("clusterlocks/mode.together", laid_clusterlocks_mode_together)], narrowed := true }
def TableOrdersUptoSaid : Prop := tableOrdersUptoRow.holds Tryz.pinned (OpenSpec.upto tableOrdersSpec)

/-- 'clusterlockslaw13.TableEvents', WHERE WHAT IT READS IS OF BULK AT MOST 1048576: true; the input reads as it did. -/
def tableEventsUptoRow : OpenClaim := { program := "ytfjeceicgfdmjaagreatdoor", sum := "4df608e9fa0641fea2e286ae8c5a412b412f14e6b2b48f17b02d12ba9c9f7944", func := "clusterlocks/clusterlockslaw13.TableEvents", spec := "tableEvents", unfollowed := true, recurses := true, named := ["clusterlocks/mode.together"], apart := false, laid := [("clusterlocks/mode.together", laid_clusterlocks_mode_together)], narrowed := true }
def TableEventsUptoSaid : Prop := tableEventsUptoRow.holds Tryz.pinned (OpenSpec.upto tableEventsSpec)

/-- 'clusterlockslaw13.TableRemoves', WHERE WHAT IT READS IS OF BULK AT MOST 1048576: true; the input reads as it did. -/
def tableRemovesUptoRow : OpenClaim := { program := "ytfjeceicgfdmjaagreatdoor", sum := "4df608e9fa0641fea2e286ae8c5a412b412f14e6b2b48f17b02d12ba9c9f7944", func := "clusterlocks/clusterlockslaw13.TableRemoves", spec := "tableRemoves", unfollowed := true, recurses := true, named := ["clusterlocks/mode.together"], apart := false, laid := [("clusterlocks/mode.together", laid_clusterlocks_mode_together)], narrowed := true }
def TableRemovesUptoSaid : Prop := tableRemovesUptoRow.holds Tryz.pinned (OpenSpec.upto tableRemovesSpec)

/-- 'clusterlockslaw13.TablePurges', WHERE WHAT IT READS IS OF BULK AT MOST 1048576: true; the input reads as it did. -/
def tablePurgesUptoRow : OpenClaim := { program := "ytfjeceicgfdmjaagreatdoor", sum := "4df608e9fa0641fea2e286ae8c5a412b412f14e6b2b48f17b02d12ba9c9f7944", func := "clusterlocks/clusterlockslaw13.TablePurges", spec := "tablePurges", unfollowed := true, recurses := true, named := ["clusterlocks/mode.together"], apart := false, laid := [("clusterlocks/mode.together", laid_clusterlocks_mode_together)], narrowed := true }
def TablePurgesUptoSaid : Prop := tablePurgesUptoRow.holds Tryz.pinned (OpenSpec.upto tablePurgesSpec)

/-- 'clusterlockslaw13.TableLowers', WHERE WHAT IT READS IS OF BULK AT MOST 1048576: true; the input reads as it did. -/
def tableLowersUptoRow : OpenClaim := { program := "ytfjeceicgfdmjaagreatdoor", sum := "4df608e9fa0641fea2e286ae8c5a412b412f14e6b2b48f17b02d12ba9c9f7944", func := "clusterlocks/clusterlockslaw13.TableLowers", spec := "tableLowers", unfollowed := true, recurses := true, named := ["clusterlocks/mode.together"], apart := false, laid := [("clusterlocks/mode.together", laid_clusterlocks_mode_together)], narrowed := true }
def TableLowersUptoSaid : Prop := tableLowersUptoRow.holds Tryz.pinned (OpenSpec.upto tableLowersSpec)

/-- 'clusterlockslaw13.TableScripts', WHERE WHAT IT READS IS OF BULK AT MOST 1048576: true; the input reads as it did. -/
def tableScriptsUptoRow : OpenClaim := { program := "ytfjeceicgfdmjaagreatdoor", sum := "4df608e9fa0641fea2e286ae8c5a412b412f14e6b2b48f17b02d12ba9c9f7944", func := "clusterlocks/clusterlockslaw13.TableScripts", spec := "tableScripts", unfollowed := true, recurses := true, named := ["clusterlocks/mode.together"], apart := false, laid := [("clusterlocks/mode.together", laid_clusterlocks_mode_together)], narrowed := true }
def TableScriptsUptoSaid : Prop := tableScriptsUptoRow.holds Tryz.pinned (OpenSpec.upto tableScriptsSpec)

end Rows
end Go.Proofs.YtfjeceicgfdmjaaGreatDoor
