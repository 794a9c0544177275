/-
  DERIVED. GIVEN WITH THE SEED: THE CARDS: each row of YtamndckemppjdaaGreatDoorRows.lean that lists a variable, with what it lists TIED to the program's text (the seventh form; the later family's looks); each row that meets fmt, with fmt's text TOLD by the authors' own Lean function (tested against real Go, not proved from fmt's source: count such statements apart). THE CARD IS WHAT COUNTS. Prove the row's statement (the work); the ties are given (YtamndckemppjdaaGreatDoorTie.lean); close each card by the builder's one call (the guide's Derived/Test/ToyasCard.lean, 'card_holds'). Laid BY PROGRAM, IN A SANDBOX (cutbox-door.mjs). By AI agents, Wed Nov 11 2026. No macro, syntax, notation, axiom, sorry.
-/
import Derived.Test.YtamndckemppjdaaGreatDoorRows
import GoSem.ClaimSeven
namespace Go.Proofs.YtamndckemppjdaaGreatDoor
namespace Rows

/-- THE TIED CARD OF 'clusterlockstop.TopUpgrade'. -/
def topUpgradeCard : Claim7 := { stood := { row := topUpgradeRow, standIns := [], harness := (true, "c5be8c6ffc865e598774677f11b6e2f53921370d56274b398755c54b5a5c9336"), looks := true }, kinds := [], alts := [], laidByText := true, laidKinds := [.data, .data], laidTests := true, laidLooks := .later }
def TopUpgradeCardSaid : Prop := Claim7.holds Tryz.pinned (.plain (OpenSpec.ofChange topUpgradeSpec)) topUpgradeCard

/-- THE TIED CARD OF 'clusterlockstop.TopRing'. -/
def topRingCard : Claim7 := { stood := { row := topRingRow, standIns := [], harness := (true, "c5be8c6ffc865e598774677f11b6e2f53921370d56274b398755c54b5a5c9336"), looks := true }, kinds := [], alts := [], laidByText := true, laidKinds := [.data, .data], laidTests := true, laidLooks := .later }
def TopRingCardSaid : Prop := Claim7.holds Tryz.pinned (.plain (OpenSpec.ofChange topRingSpec)) topRingCard

/-- THE SECOND FORM's CARD OF 'clusterlockstop.TopUpgrade'. -/
def topUpgradeUptoCard : Claim7 := { stood := { row := topUpgradeUptoRow, standIns := [], harness := (true, "c5be8c6ffc865e598774677f11b6e2f53921370d56274b398755c54b5a5c9336"), looks := true }, kinds := [], alts := [], laidByText := true, laidKinds := [.data, .data], laidTests := true, laidLooks := .later }
def TopUpgradeUptoCardSaid : Prop := Claim7.holds Tryz.pinned (.plain (OpenSpec.upto topUpgradeSpec)) topUpgradeUptoCard

/-- THE SECOND FORM's CARD OF 'clusterlockstop.TopRing'. -/
def topRingUptoCard : Claim7 := { stood := { row := topRingUptoRow, standIns := [], harness := (true, "c5be8c6ffc865e598774677f11b6e2f53921370d56274b398755c54b5a5c9336"), looks := true }, kinds := [], alts := [], laidByText := true, laidKinds := [.data, .data], laidTests := true, laidLooks := .later }
def TopRingUptoCardSaid : Prop := Claim7.holds Tryz.pinned (.plain (OpenSpec.upto topRingSpec)) topRingUptoCard
end Rows
end Go.Proofs.YtamndckemppjdaaGreatDoor
