/-
  DERIVED. GIVEN WITH THE SEED: THE CARDS: each row of YtfjeceicgfdmjaaGreatDoorRows.lean that lists a variable, with what it lists TIED to the program's text (the seventh form; the later family's looks); each row that meets fmt, with fmt's text TOLD by the authors' own Lean function (tested against real Go, not proved from fmt's source: count such statements apart). THE CARD IS WHAT COUNTS. Prove the row's statement (the work); the ties are given (YtfjeceicgfdmjaaGreatDoorTie.lean); close each card by the builder's one call (the guide's Derived/Test/ToyasCard.lean, 'card_holds'). Laid BY PROGRAM, IN A SANDBOX (cutbox-door.mjs). By AI agents, Wed Nov 11 2026. No macro, syntax, notation, axiom, sorry.
-/
import Derived.Test.YtfjeceicgfdmjaaGreatDoorRows
import GoSem.ClaimSeven
namespace Go.Proofs.YtfjeceicgfdmjaaGreatDoor
namespace Rows

/-- THE TIED CARD OF 'clusterlockslaw13.TableNew'. -/
def tableNewCard : Claim7 := { stood := { row := tableNewRow, standIns := [], harness := (true, "27966af3faa0c553bda45868281612ee786b129848156ce03dae0658dda6a80b"), looks := false }, kinds := [], alts := [], laidByText := true, laidKinds := [.data], laidTests := true, laidLooks := .later }
def TableNewCardSaid : Prop := Claim7.holds Tryz.pinned (.plain (OpenSpec.ofChange tableNewSpec)) tableNewCard

/-- THE TIED CARD OF 'clusterlockslaw13.TableClaims'. -/
def tableClaimsCard : Claim7 := { stood := { row := tableClaimsRow, standIns := [], harness := (true, "27966af3faa0c553bda45868281612ee786b129848156ce03dae0658dda6a80b"), looks := false }, kinds := [], alts := [], laidByText := true, laidKinds := [.data], laidTests := true, laidLooks := .later }
def TableClaimsCardSaid : Prop := Claim7.holds Tryz.pinned (.plain (OpenSpec.ofChange tableClaimsSpec)) tableClaimsCard

/-- THE TIED CARD OF 'clusterlockslaw13.TableApart'. -/
def tableApartCard : Claim7 := { stood := { row := tableApartRow, standIns := [], harness := (true, "27966af3faa0c553bda45868281612ee786b129848156ce03dae0658dda6a80b"), looks := false }, kinds := [], alts := [], laidByText := true, laidKinds := [.data], laidTests := true, laidLooks := .later }
def TableApartCardSaid : Prop := Claim7.holds Tryz.pinned (.plain (OpenSpec.ofChange tableApartSpec)) tableApartCard

/-- THE TIED CARD OF 'clusterlockslaw13.TableOrders'. -/
def tableOrdersCard : Claim7 := { stood := { row := tableOrdersRow, standIns := [], harness := (true, "27966af3faa0c553bda45868281612ee786b129848156ce03dae0658dda6a80b"), looks := false }, kinds := [], alts := [], laidByText := true, laidKinds := [.data], laidTests := true, laidLooks := .later }
def TableOrdersCardSaid : Prop := Claim7.holds Tryz.pinned (.plain (OpenSpec.ofChange tableOrdersSpec)) tableOrdersCard

/-- THE TIED CARD OF 'clusterlockslaw13.TableEvents'. -/
def tableEventsCard : Claim7 := { stood := { row := tableEventsRow, standIns := [], harness := (true, "27966af3faa0c553bda45868281612ee786b129848156ce03dae0658dda6a80b"), looks := false }, kinds := [], alts := [], laidByText := true, laidKinds := [.data], laidTests := true, laidLooks := .later }
def TableEventsCardSaid : Prop := Claim7.holds Tryz.pinned (.plain (OpenSpec.ofChange tableEventsSpec)) tableEventsCard

/-- THE TIED CARD OF 'clusterlockslaw13.TableRemoves'. -/
def tableRemovesCard : Claim7 := { stood := { row := tableRemovesRow, standIns := [], harness := (true, "27966af3faa0c553bda45868281612ee786b129848156ce03dae0658dda6a80b"), looks := false }, kinds := [], alts := [], laidByText := true, laidKinds := [.data], laidTests := true, laidLooks := .later }
def TableRemovesCardSaid : Prop := Claim7.holds Tryz.pinned (.plain (OpenSpec.ofChange tableRemovesSpec)) tableRemovesCard

/-- THE TIED CARD OF 'clusterlockslaw13.TablePurges'. -/
def tablePurgesCard : Claim7 := { stood := { row := tablePurgesRow, standIns := [], harness := (true, "27966af3faa0c553bda45868281612ee786b129848156ce03dae0658dda6a80b"), looks := false }, kinds := [], alts := [], laidByText := true, laidKinds := [.data], laidTests := true, laidLooks := .later }
def TablePurgesCardSaid : Prop := Claim7.holds Tryz.pinned (.plain (OpenSpec.ofChange tablePurgesSpec)) tablePurgesCard

/-- THE TIED CARD OF 'clusterlockslaw13.TableLowers'. -/
def tableLowersCard : Claim7 := { stood := { row := tableLowersRow, standIns := [], harness := (true, "27966af3faa0c553bda45868281612ee786b129848156ce03dae0658dda6a80b"), looks := false }, kinds := [], alts := [], laidByText := true, laidKinds := [.data], laidTests := true, laidLooks := .later }
def TableLowersCardSaid : Prop := Claim7.holds Tryz.pinned (.plain (OpenSpec.ofChange tableLowersSpec)) tableLowersCard

/-- THE TIED CARD OF 'clusterlockslaw13.TableScripts'. -/
def tableScriptsCard : Claim7 := { stood := { row := tableScriptsRow, standIns := [], harness := (true, "27966af3faa0c553bda45868281612ee786b129848156ce03dae0658dda6a80b"), looks := false }, kinds := [], alts := [], laidByText := true, laidKinds := [.data], laidTests := true, laidLooks := .later }
def TableScriptsCardSaid : Prop := Claim7.holds Tryz.pinned (.plain (OpenSpec.ofChange tableScriptsSpec)) tableScriptsCard

/-- THE SECOND FORM's CARD OF 'clusterlockslaw13.TableNew'. -/
def tableNewUptoCard : Claim7 := { stood := { row := tableNewUptoRow, standIns := [], harness := (true, "27966af3faa0c553bda45868281612ee786b129848156ce03dae0658dda6a80b"), looks := false }, kinds := [], alts := [], laidByText := true, laidKinds := [.data], laidTests := true, laidLooks := .later }
def TableNewUptoCardSaid : Prop := Claim7.holds Tryz.pinned (.plain (OpenSpec.upto tableNewSpec)) tableNewUptoCard

/-- THE SECOND FORM's CARD OF 'clusterlockslaw13.TableClaims'. -/
def tableClaimsUptoCard : Claim7 := { stood := { row := tableClaimsUptoRow, standIns := [], harness := (true, "27966af3faa0c553bda45868281612ee786b129848156ce03dae0658dda6a80b"), looks := false }, kinds := [], alts := [], laidByText := true, laidKinds := [.data], laidTests := true, laidLooks := .later }
def TableClaimsUptoCardSaid : Prop := Claim7.holds Tryz.pinned (.plain (OpenSpec.upto tableClaimsSpec)) tableClaimsUptoCard

/-- THE SECOND FORM's CARD OF 'clusterlockslaw13.TableApart'. -/
def tableApartUptoCard : Claim7 := { stood := { row := tableApartUptoRow, standIns := [], harness := (true, "27966af3faa0c553bda45868281612ee786b129848156ce03dae0658dda6a80b"), looks := false }, kinds := [], alts := [], laidByText := true, laidKinds := [.data], laidTests := true, laidLooks := .later }
def TableApartUptoCardSaid : Prop := Claim7.holds Tryz.pinned (.plain (OpenSpec.upto tableApartSpec)) tableApartUptoCard

/-- THE SECOND FORM's CARD OF 'clusterlockslaw13.TableOrders'. -/
def tableOrdersUptoCard : Claim7 := { stood := { row := tableOrdersUptoRow, standIns := [], harness := (true, "27966af3faa0c553bda45868281612ee786b129848156ce03dae0658dda6a80b"), looks := false }, kinds := [], alts := [], laidByText := true, laidKinds := [.data], laidTests := true, laidLooks := .later }
def TableOrdersUptoCardSaid : Prop := Claim7.holds Tryz.pinned (.plain (OpenSpec.upto tableOrdersSpec)) tableOrdersUptoCard

/-- THE SECOND FORM's CARD OF 'clusterlockslaw13.TableEvents'. -/
def tableEventsUptoCard : Claim7 := { stood := { row := tableEventsUptoRow, standIns := [], harness := (true, "27966af3faa0c553bda45868281612ee786b129848156ce03dae0658dda6a80b"), looks := false }, kinds := [], alts := [], laidByText := true, laidKinds := [.data], laidTests := true, laidLooks := .later }
def TableEventsUptoCardSaid : Prop := Claim7.holds Tryz.pinned (.plain (OpenSpec.upto tableEventsSpec)) tableEventsUptoCard

/-- THE SECOND FORM's CARD OF 'clusterlockslaw13.TableRemoves'. -/
def tableRemovesUptoCard : Claim7 := { stood := { row := tableRemovesUptoRow, standIns := [], harness := (true, "27966af3faa0c553bda45868281612ee786b129848156ce03dae0658dda6a80b"), looks := false }, kinds := [], alts := [], laidByText := true, laidKinds := [.data], laidTests := true, laidLooks := .later }
def TableRemovesUptoCardSaid : Prop := Claim7.holds Tryz.pinned (.plain (OpenSpec.upto tableRemovesSpec)) tableRemovesUptoCard

/-- THE SECOND FORM's CARD OF 'clusterlockslaw13.TablePurges'. -/
def tablePurgesUptoCard : Claim7 := { stood := { row := tablePurgesUptoRow, standIns := [], harness := (true, "27966af3faa0c553bda45868281612ee786b129848156ce03dae0658dda6a80b"), looks := false }, kinds := [], alts := [], laidByText := true, laidKinds := [.data], laidTests := true, laidLooks := .later }
def TablePurgesUptoCardSaid : Prop := Claim7.holds Tryz.pinned (.plain (OpenSpec.upto tablePurgesSpec)) tablePurgesUptoCard

/-- THE SECOND FORM's CARD OF 'clusterlockslaw13.TableLowers'. -/
def tableLowersUptoCard : Claim7 := { stood := { row := tableLowersUptoRow, standIns := [], harness := (true, "27966af3faa0c553bda45868281612ee786b129848156ce03dae0658dda6a80b"), looks := false }, kinds := [], alts := [], laidByText := true, laidKinds := [.data], laidTests := true, laidLooks := .later }
def TableLowersUptoCardSaid : Prop := Claim7.holds Tryz.pinned (.plain (OpenSpec.upto tableLowersSpec)) tableLowersUptoCard

/-- THE SECOND FORM's CARD OF 'clusterlockslaw13.TableScripts'. -/
def tableScriptsUptoCard : Claim7 := { stood := { row := tableScriptsUptoRow, standIns := [], harness := (true, "27966af3faa0c553bda45868281612ee786b129848156ce03dae0658dda6a80b"), looks := false }, kinds := [], alts := [], laidByText := true, laidKinds := [.data], laidTests := true, laidLooks := .later }
def TableScriptsUptoCardSaid : Prop := Claim7.holds Tryz.pinned (.plain (OpenSpec.upto tableScriptsSpec)) tableScriptsUptoCard
end Rows
end Go.Proofs.YtfjeceicgfdmjaaGreatDoor
