/-
  DERIVED. GIVEN WITH THE SEED: THE CARDS: each row of YtenebhlnfjcffaaGreatDoorRows.lean that lists a variable, with what it lists TIED to the program's text (the seventh form; the later family's looks); each row that meets fmt, with fmt's text TOLD by the authors' own Lean function (tested against real Go, not proved from fmt's source: count such statements apart). THE CARD IS WHAT COUNTS. Prove the row's statement (the work); the ties are given (YtenebhlnfjcffaaGreatDoorTie.lean); close each card by the builder's one call (the guide's Derived/Test/ToyasCard.lean, 'card_holds'). Laid BY PROGRAM, IN A SANDBOX (cutbox-door.mjs). By AI agents, Wed Nov 11 2026. No macro, syntax, notation, axiom, sorry.
-/
import Derived.Test.YtenebhlnfjcffaaGreatDoorRows
import GoSem.ClaimSeven
namespace Go.Proofs.YtenebhlnfjcffaaGreatDoor
namespace Rows

/-- THE TIED CARD OF 'clusterlockslaw16.WaitstateOf'. -/
def waitstateOfCard : Claim7 := { stood := { row := waitstateOfRow, standIns := [], harness := (true, "c076c02d0163c30c34f6032ab1b38048d70eee7bad4b02f9f1b252463a3d8b6f"), looks := false }, kinds := [], alts := [], laidByText := true, laidKinds := [.data], laidTests := true, laidLooks := .later }
def WaitstateOfCardSaid : Prop := Claim7.holds Tryz.pinned (.plain (OpenSpec.ofChange waitstateOfSpec)) waitstateOfCard

/-- THE TIED CARD OF 'clusterlockslaw16.WaitstateCentral'. -/
def waitstateCentralCard : Claim7 := { stood := { row := waitstateCentralRow, standIns := [], harness := (true, "c076c02d0163c30c34f6032ab1b38048d70eee7bad4b02f9f1b252463a3d8b6f"), looks := false }, kinds := [], alts := [], laidByText := true, laidKinds := [.data], laidTests := true, laidLooks := .later }
def WaitstateCentralCardSaid : Prop := Claim7.holds Tryz.pinned (.plain (OpenSpec.ofChange waitstateCentralSpec)) waitstateCentralCard

/-- THE SECOND FORM's CARD OF 'clusterlockslaw16.WaitstateOf'. -/
def waitstateOfUptoCard : Claim7 := { stood := { row := waitstateOfUptoRow, standIns := [], harness := (true, "c076c02d0163c30c34f6032ab1b38048d70eee7bad4b02f9f1b252463a3d8b6f"), looks := false }, kinds := [], alts := [], laidByText := true, laidKinds := [.data], laidTests := true, laidLooks := .later }
def WaitstateOfUptoCardSaid : Prop := Claim7.holds Tryz.pinned (.plain (OpenSpec.upto waitstateOfSpec)) waitstateOfUptoCard

/-- THE SECOND FORM's CARD OF 'clusterlockslaw16.WaitstateCentral'. -/
def waitstateCentralUptoCard : Claim7 := { stood := { row := waitstateCentralUptoRow, standIns := [], harness := (true, "c076c02d0163c30c34f6032ab1b38048d70eee7bad4b02f9f1b252463a3d8b6f"), looks := false }, kinds := [], alts := [], laidByText := true, laidKinds := [.data], laidTests := true, laidLooks := .later }
def WaitstateCentralUptoCardSaid : Prop := Claim7.holds Tryz.pinned (.plain (OpenSpec.upto waitstateCentralSpec)) waitstateCentralUptoCard
end Rows
end Go.Proofs.YtenebhlnfjcffaaGreatDoor
