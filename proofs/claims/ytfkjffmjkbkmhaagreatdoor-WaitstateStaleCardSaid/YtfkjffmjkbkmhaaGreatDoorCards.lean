/-
  DERIVED. GIVEN WITH THE SEED: THE CARDS: each row of YtfkjffmjkbkmhaaGreatDoorRows.lean that lists a variable, with what it lists TIED to the program's text (the seventh form; the later family's looks); each row that meets fmt, with fmt's text TOLD by the authors' own Lean function (tested against real Go, not proved from fmt's source: count such statements apart). THE CARD IS WHAT COUNTS. Prove the row's statement (the work); the ties are given (YtfkjffmjkbkmhaaGreatDoorTie.lean); close each card by the builder's one call (the guide's Derived/Test/ToyasCard.lean, 'card_holds'). Laid BY PROGRAM, IN A SANDBOX (cutbox-door.mjs). By AI agents, Wed Nov 11 2026. No macro, syntax, notation, axiom, sorry.
-/
import Derived.Test.YtfkjffmjkbkmhaaGreatDoorRows
import GoSem.ClaimSeven
namespace Go.Proofs.YtfkjffmjkbkmhaaGreatDoor
namespace Rows

/-- THE TIED CARD OF 'clusterlockslaw16.WaitstateStale'. -/
def waitstateStaleCard : Claim7 := { stood := { row := waitstateStaleRow, standIns := [], harness := (true, "dc4c61412a6991fb6d3e8107731c11d087dfcd43e4c5b460509f9ecf9346527d"), looks := false }, kinds := [], alts := [], laidByText := true, laidKinds := [.data], laidTests := true, laidLooks := .later }
def WaitstateStaleCardSaid : Prop := Claim7.holds Tryz.pinned (.plain (OpenSpec.ofChange waitstateStaleSpec)) waitstateStaleCard

/-- THE SECOND FORM's CARD OF 'clusterlockslaw16.WaitstateStale'. -/
def waitstateStaleUptoCard : Claim7 := { stood := { row := waitstateStaleUptoRow, standIns := [], harness := (true, "dc4c61412a6991fb6d3e8107731c11d087dfcd43e4c5b460509f9ecf9346527d"), looks := false }, kinds := [], alts := [], laidByText := true, laidKinds := [.data], laidTests := true, laidLooks := .later }
def WaitstateStaleUptoCardSaid : Prop := Claim7.holds Tryz.pinned (.plain (OpenSpec.upto waitstateStaleSpec)) waitstateStaleUptoCard
end Rows
end Go.Proofs.YtfkjffmjkbkmhaaGreatDoor
