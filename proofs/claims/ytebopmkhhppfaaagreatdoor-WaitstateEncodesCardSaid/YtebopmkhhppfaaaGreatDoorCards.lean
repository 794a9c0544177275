/-
  DERIVED. GIVEN WITH THE SEED: THE CARDS: each row of YtebopmkhhppfaaaGreatDoorRows.lean that lists a variable, with what it lists TIED to the program's text (the seventh form; the later family's looks); each row that meets fmt, with fmt's text TOLD by the authors' own Lean function (tested against real Go, not proved from fmt's source: count such statements apart). THE CARD IS WHAT COUNTS. Prove the row's statement (the work); the ties are given (YtebopmkhhppfaaaGreatDoorTie.lean); close each card by the builder's one call (the guide's Derived/Test/ToyasCard.lean, 'card_holds'). Laid BY PROGRAM, IN A SANDBOX (cutbox-door.mjs). By AI agents, Wed Nov 11 2026. No macro, syntax, notation, axiom, sorry.
-/
import Derived.Test.YtebopmkhhppfaaaGreatDoorRows
import GoSem.ClaimSeven
namespace Go.Proofs.YtebopmkhhppfaaaGreatDoor
namespace Rows

/-- THE TIED CARD OF 'clusterlockslaw16.WaitstateDecodes'. -/
def waitstateDecodesCard : Claim7 := { stood := { row := waitstateDecodesRow, standIns := [], harness := (true, "d811c451e076129abf8136297962d943bb180bd02950aa2bbca6ace54b4f5be5"), looks := false }, kinds := [], alts := [], laidByText := true, laidKinds := [.data], laidTests := true, laidLooks := .later }
def WaitstateDecodesCardSaid : Prop := Claim7.holds Tryz.pinned (.plain (OpenSpec.ofChange waitstateDecodesSpec)) waitstateDecodesCard

/-- THE TIED CARD OF 'clusterlockslaw16.WaitstateEncodes'. -/
def waitstateEncodesCard : Claim7 := { stood := { row := waitstateEncodesRow, standIns := [], harness := (true, "d811c451e076129abf8136297962d943bb180bd02950aa2bbca6ace54b4f5be5"), looks := false }, kinds := [], alts := [], laidByText := true, laidKinds := [.data], laidTests := true, laidLooks := .later }
def WaitstateEncodesCardSaid : Prop := Claim7.holds Tryz.pinned (.plain (OpenSpec.ofChange waitstateEncodesSpec)) waitstateEncodesCard

/-- THE SECOND FORM's CARD OF 'clusterlockslaw16.WaitstateDecodes'. -/
def waitstateDecodesUptoCard : Claim7 := { stood := { row := waitstateDecodesUptoRow, standIns := [], harness := (true, "d811c451e076129abf8136297962d943bb180bd02950aa2bbca6ace54b4f5be5"), looks := false }, kinds := [], alts := [], laidByText := true, laidKinds := [.data], laidTests := true, laidLooks := .later }
def WaitstateDecodesUptoCardSaid : Prop := Claim7.holds Tryz.pinned (.plain (OpenSpec.upto waitstateDecodesSpec)) waitstateDecodesUptoCard

/-- THE SECOND FORM's CARD OF 'clusterlockslaw16.WaitstateEncodes'. -/
def waitstateEncodesUptoCard : Claim7 := { stood := { row := waitstateEncodesUptoRow, standIns := [], harness := (true, "d811c451e076129abf8136297962d943bb180bd02950aa2bbca6ace54b4f5be5"), looks := false }, kinds := [], alts := [], laidByText := true, laidKinds := [.data], laidTests := true, laidLooks := .later }
def WaitstateEncodesUptoCardSaid : Prop := Claim7.holds Tryz.pinned (.plain (OpenSpec.upto waitstateEncodesSpec)) waitstateEncodesUptoCard
end Rows
end Go.Proofs.YtebopmkhhppfaaaGreatDoor
