/-
  DERIVED. GIVEN WITH THE SEED: THE CARDS: each row of YtfmnjkfhahfhgaaGreatDoorRows.lean that lists a variable, with what it lists TIED to the program's text (the seventh form; the later family's looks); each row that meets fmt, with fmt's text TOLD by the authors' own Lean function (tested against real Go, not proved from fmt's source: count such statements apart). THE CARD IS WHAT COUNTS. Prove the row's statement (the work); the ties are given (YtfmnjkfhahfhgaaGreatDoorTie.lean); close each card by the builder's one call (the guide's Derived/Test/ToyasCard.lean, 'card_holds'). Laid BY PROGRAM, IN A SANDBOX (cutbox-door.mjs). By AI agents, Wed Nov 11 2026. No macro, syntax, notation, axiom, sorry.
-/
import Derived.Test.YtfmnjkfhahfhgaaGreatDoorRows
import GoSem.ClaimSeven
namespace Go.Proofs.YtfmnjkfhahfhgaaGreatDoor
namespace Rows

/-- THE TIED CARD OF 'clusterlockslaw24.MessageBack'. -/
def messageBackCard : Claim7 := { stood := { row := messageBackRow, standIns := [], harness := (true, "21d1fa9bca9659b5d8ffcd286c41deb5f7c5f58e40ad103fe2b83e1a51c0127e"), looks := false }, kinds := [], alts := [], laidByText := true, laidKinds := [.data, .data], laidTests := true, laidLooks := .later }
def MessageBackCardSaid : Prop := Claim7.holds Tryz.pinned (.plain (OpenSpec.ofChange messageBackSpec)) messageBackCard

/-- THE TIED CARD OF 'clusterlockslaw24.MessageChanged'. -/
def messageChangedCard : Claim7 := { stood := { row := messageChangedRow, standIns := [], harness := (true, "21d1fa9bca9659b5d8ffcd286c41deb5f7c5f58e40ad103fe2b83e1a51c0127e"), looks := false }, kinds := [], alts := [], laidByText := true, laidKinds := [.data, .data], laidTests := true, laidLooks := .later }
def MessageChangedCardSaid : Prop := Claim7.holds Tryz.pinned (.plain (OpenSpec.ofChange messageChangedSpec)) messageChangedCard

/-- THE TIED CARD OF 'clusterlockslaw24.MessageKinds'. -/
def messageKindsCard : Claim7 := { stood := { row := messageKindsRow, standIns := [], harness := (true, "21d1fa9bca9659b5d8ffcd286c41deb5f7c5f58e40ad103fe2b83e1a51c0127e"), looks := false }, kinds := [], alts := [], laidByText := true, laidKinds := [.data, .data], laidTests := true, laidLooks := .later }
def MessageKindsCardSaid : Prop := Claim7.holds Tryz.pinned (.plain (OpenSpec.ofChange messageKindsSpec)) messageKindsCard

/-- THE SECOND FORM's CARD OF 'clusterlockslaw24.MessageBack'. -/
def messageBackUptoCard : Claim7 := { stood := { row := messageBackUptoRow, standIns := [], harness := (true, "21d1fa9bca9659b5d8ffcd286c41deb5f7c5f58e40ad103fe2b83e1a51c0127e"), looks := false }, kinds := [], alts := [], laidByText := true, laidKinds := [.data, .data], laidTests := true, laidLooks := .later }
def MessageBackUptoCardSaid : Prop := Claim7.holds Tryz.pinned (.plain (OpenSpec.upto messageBackSpec)) messageBackUptoCard

/-- THE SECOND FORM's CARD OF 'clusterlockslaw24.MessageChanged'. -/
def messageChangedUptoCard : Claim7 := { stood := { row := messageChangedUptoRow, standIns := [], harness := (true, "21d1fa9bca9659b5d8ffcd286c41deb5f7c5f58e40ad103fe2b83e1a51c0127e"), looks := false }, kinds := [], alts := [], laidByText := true, laidKinds := [.data, .data], laidTests := true, laidLooks := .later }
def MessageChangedUptoCardSaid : Prop := Claim7.holds Tryz.pinned (.plain (OpenSpec.upto messageChangedSpec)) messageChangedUptoCard

/-- THE SECOND FORM's CARD OF 'clusterlockslaw24.MessageKinds'. -/
def messageKindsUptoCard : Claim7 := { stood := { row := messageKindsUptoRow, standIns := [], harness := (true, "21d1fa9bca9659b5d8ffcd286c41deb5f7c5f58e40ad103fe2b83e1a51c0127e"), looks := false }, kinds := [], alts := [], laidByText := true, laidKinds := [.data, .data], laidTests := true, laidLooks := .later }
def MessageKindsUptoCardSaid : Prop := Claim7.holds Tryz.pinned (.plain (OpenSpec.upto messageKindsSpec)) messageKindsUptoCard
end Rows
end Go.Proofs.YtfmnjkfhahfhgaaGreatDoor
