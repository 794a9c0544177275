/-
  DERIVED. GIVEN WITH THE SEED: THE CARDS: each row of YtogpinppgncpmaaGreatDoorRows.lean that lists a variable, with what it lists TIED to the program's text (the seventh form; the later family's looks); each row that meets fmt, with fmt's text TOLD by the authors' own Lean function (tested against real Go, not proved from fmt's source: count such statements apart). THE CARD IS WHAT COUNTS. Prove the row's statement (the work); the ties are given (YtogpinppgncpmaaGreatDoorTie.lean); close each card by the builder's one call (the guide's Derived/Test/ToyasCard.lean, 'card_holds'). Laid BY PROGRAM, IN A SANDBOX (cutbox-door.mjs). By AI agents, Wed Nov 11 2026. No macro, syntax, notation, axiom, sorry.
-/
import Derived.Test.YtogpinppgncpmaaGreatDoorRows
import GoSem.ClaimSeven
namespace Go.Proofs.YtogpinppgncpmaaGreatDoor
namespace Rows

/-- THE TIED CARD OF 'clusterlockslaw16.WaitstateParts'. -/
def waitstatePartsCard : Claim7 := { stood := { row := waitstatePartsRow, standIns := [], harness := (true, "484781836ac6e2d22ae5bfb77a3aa2db9784b715b9b5ffd88a98ef3221602192"), looks := false }, kinds := [], alts := [], laidByText := true, laidKinds := [.data], laidTests := true, laidLooks := .later }
def WaitstatePartsCardSaid : Prop := Claim7.holds Tryz.pinned (.plain (OpenSpec.ofChange waitstatePartsSpec)) waitstatePartsCard

/-- THE SECOND FORM's CARD OF 'clusterlockslaw16.WaitstateParts'. -/
def waitstatePartsUptoCard : Claim7 := { stood := { row := waitstatePartsUptoRow, standIns := [], harness := (true, "484781836ac6e2d22ae5bfb77a3aa2db9784b715b9b5ffd88a98ef3221602192"), looks := false }, kinds := [], alts := [], laidByText := true, laidKinds := [.data], laidTests := true, laidLooks := .later }
def WaitstatePartsUptoCardSaid : Prop := Claim7.holds Tryz.pinned (.plain (OpenSpec.upto waitstatePartsSpec)) waitstatePartsUptoCard
end Rows
end Go.Proofs.YtogpinppgncpmaaGreatDoor
