/-
  DERIVED. GIVEN WITH THE SEED: THE CARDS: each row of YtdflfohpemfeiaaGreatDoorRows.lean that lists a variable, with what it lists TIED to the program's text (the seventh form; the later family's looks); each row that meets fmt, with fmt's text TOLD by the authors' own Lean function (tested against real Go, not proved from fmt's source: count such statements apart). THE CARD IS WHAT COUNTS. Prove the row's statement (the work); the ties are given (YtdflfohpemfeiaaGreatDoorTie.lean); close each card by the builder's one call (the guide's Derived/Test/ToyasCard.lean, 'card_holds'). Laid BY PROGRAM, IN A SANDBOX (cutbox-door.mjs). By AI agents, Wed Nov 11 2026. No macro, syntax, notation, axiom, sorry.
-/
import Derived.Test.YtdflfohpemfeiaaGreatDoorRows
import GoSem.ClaimSeven
namespace Go.Proofs.YtdflfohpemfeiaaGreatDoor
namespace Rows

/-- THE TIED CARD OF 'clusterlockslaw12.QueueValid'. -/
def queueValidCard : Claim7 := { stood := { row := queueValidRow, standIns := [], harness := (true, "c4474c9a3edfebb990dcc0b2fb8dbf90cbb9bc5f5af50d81755b74f100b08966"), looks := false }, kinds := [], alts := [], laidByText := true, laidKinds := [.data], laidTests := true, laidLooks := .later }
def QueueValidCardSaid : Prop := Claim7.holds Tryz.pinned (.plain (OpenSpec.ofChange queueValidSpec)) queueValidCard

/-- THE TIED CARD OF 'clusterlockslaw12.QueueClaims'. -/
def queueClaimsCard : Claim7 := { stood := { row := queueClaimsRow, standIns := [], harness := (true, "c4474c9a3edfebb990dcc0b2fb8dbf90cbb9bc5f5af50d81755b74f100b08966"), looks := false }, kinds := [], alts := [], laidByText := true, laidKinds := [.data], laidTests := true, laidLooks := .later }
def QueueClaimsCardSaid : Prop := Claim7.holds Tryz.pinned (.plain (OpenSpec.ofChange queueClaimsSpec)) queueClaimsCard

/-- THE TIED CARD OF 'clusterlockslaw12.QueueOrders'. -/
def queueOrdersCard : Claim7 := { stood := { row := queueOrdersRow, standIns := [], harness := (true, "c4474c9a3edfebb990dcc0b2fb8dbf90cbb9bc5f5af50d81755b74f100b08966"), looks := false }, kinds := [], alts := [], laidByText := true, laidKinds := [.data], laidTests := true, laidLooks := .later }
def QueueOrdersCardSaid : Prop := Claim7.holds Tryz.pinned (.plain (OpenSpec.ofChange queueOrdersSpec)) queueOrdersCard

/-- THE TIED CARD OF 'clusterlockslaw12.QueueMonotone'. -/
def queueMonotoneCard : Claim7 := { stood := { row := queueMonotoneRow, standIns := [], harness := (true, "c4474c9a3edfebb990dcc0b2fb8dbf90cbb9bc5f5af50d81755b74f100b08966"), looks := false }, kinds := [], alts := [], laidByText := true, laidKinds := [.data], laidTests := true, laidLooks := .later }
def QueueMonotoneCardSaid : Prop := Claim7.holds Tryz.pinned (.plain (OpenSpec.ofChange queueMonotoneSpec)) queueMonotoneCard

/-- THE TIED CARD OF 'clusterlockslaw12.QueueLater'. -/
def queueLaterCard : Claim7 := { stood := { row := queueLaterRow, standIns := [], harness := (true, "c4474c9a3edfebb990dcc0b2fb8dbf90cbb9bc5f5af50d81755b74f100b08966"), looks := false }, kinds := [], alts := [], laidByText := true, laidKinds := [.data], laidTests := true, laidLooks := .later }
def QueueLaterCardSaid : Prop := Claim7.holds Tryz.pinned (.plain (OpenSpec.ofChange queueLaterSpec)) queueLaterCard

/-- THE TIED CARD OF 'clusterlockslaw12.QueueCovered'. -/
def queueCoveredCard : Claim7 := { stood := { row := queueCoveredRow, standIns := [], harness := (true, "c4474c9a3edfebb990dcc0b2fb8dbf90cbb9bc5f5af50d81755b74f100b08966"), looks := false }, kinds := [], alts := [], laidByText := true, laidKinds := [.data], laidTests := true, laidLooks := .later }
def QueueCoveredCardSaid : Prop := Claim7.holds Tryz.pinned (.plain (OpenSpec.ofChange queueCoveredSpec)) queueCoveredCard

/-- THE TIED CARD OF 'clusterlockslaw12.QueueEnds'. -/
def queueEndsCard : Claim7 := { stood := { row := queueEndsRow, standIns := [], harness := (true, "c4474c9a3edfebb990dcc0b2fb8dbf90cbb9bc5f5af50d81755b74f100b08966"), looks := false }, kinds := [], alts := [], laidByText := true, laidKinds := [.data], laidTests := true, laidLooks := .later }
def QueueEndsCardSaid : Prop := Claim7.holds Tryz.pinned (.plain (OpenSpec.ofChange queueEndsSpec)) queueEndsCard

/-- THE TIED CARD OF 'clusterlockslaw12.QueueAdvances'. -/
def queueAdvancesCard : Claim7 := { stood := { row := queueAdvancesRow, standIns := [], harness := (true, "c4474c9a3edfebb990dcc0b2fb8dbf90cbb9bc5f5af50d81755b74f100b08966"), looks := false }, kinds := [], alts := [], laidByText := true, laidKinds := [.data], laidTests := true, laidLooks := .later }
def QueueAdvancesCardSaid : Prop := Claim7.holds Tryz.pinned (.plain (OpenSpec.ofChange queueAdvancesSpec)) queueAdvancesCard

/-- THE TIED CARD OF 'clusterlockslaw12.QueueCancels'. -/
def queueCancelsCard : Claim7 := { stood := { row := queueCancelsRow, standIns := [], harness := (true, "c4474c9a3edfebb990dcc0b2fb8dbf90cbb9bc5f5af50d81755b74f100b08966"), looks := false }, kinds := [], alts := [], laidByText := true, laidKinds := [.data], laidTests := true, laidLooks := .later }
def QueueCancelsCardSaid : Prop := Claim7.holds Tryz.pinned (.plain (OpenSpec.ofChange queueCancelsSpec)) queueCancelsCard

/-- THE TIED CARD OF 'clusterlockslaw12.QueueLowers'. -/
def queueLowersCard : Claim7 := { stood := { row := queueLowersRow, standIns := [], harness := (true, "c4474c9a3edfebb990dcc0b2fb8dbf90cbb9bc5f5af50d81755b74f100b08966"), looks := false }, kinds := [], alts := [], laidByText := true, laidKinds := [.data], laidTests := true, laidLooks := .later }
def QueueLowersCardSaid : Prop := Claim7.holds Tryz.pinned (.plain (OpenSpec.ofChange queueLowersSpec)) queueLowersCard

/-- THE TIED CARD OF 'clusterlockslaw12.QueueScripts'. -/
def queueScriptsCard : Claim7 := { stood := { row := queueScriptsRow, standIns := [], harness := (true, "c4474c9a3edfebb990dcc0b2fb8dbf90cbb9bc5f5af50d81755b74f100b08966"), looks := false }, kinds := [], alts := [], laidByText := true, laidKinds := [.data], laidTests := true, laidLooks := .later }
def QueueScriptsCardSaid : Prop := Claim7.holds Tryz.pinned (.plain (OpenSpec.ofChange queueScriptsSpec)) queueScriptsCard

/-- THE TIED CARD OF 'clusterlockslaw12.QueueSafe'. -/
def queueSafeCard : Claim7 := { stood := { row := queueSafeRow, standIns := [], harness := (true, "c4474c9a3edfebb990dcc0b2fb8dbf90cbb9bc5f5af50d81755b74f100b08966"), looks := false }, kinds := [], alts := [], laidByText := true, laidKinds := [.data], laidTests := true, laidLooks := .later }
def QueueSafeCardSaid : Prop := Claim7.holds Tryz.pinned (.plain (OpenSpec.ofChange queueSafeSpec)) queueSafeCard

/-- THE TIED CARD OF 'clusterlockslaw12.QueueBlocked'. -/
def queueBlockedCard : Claim7 := { stood := { row := queueBlockedRow, standIns := [], harness := (true, "c4474c9a3edfebb990dcc0b2fb8dbf90cbb9bc5f5af50d81755b74f100b08966"), looks := false }, kinds := [], alts := [], laidByText := true, laidKinds := [.data], laidTests := true, laidLooks := .later }
def QueueBlockedCardSaid : Prop := Claim7.holds Tryz.pinned (.plain (OpenSpec.ofChange queueBlockedSpec)) queueBlockedCard

/-- THE TIED CARD OF 'clusterlockslaw12.QueueOvertakes'. -/
def queueOvertakesCard : Claim7 := { stood := { row := queueOvertakesRow, standIns := [], harness := (true, "c4474c9a3edfebb990dcc0b2fb8dbf90cbb9bc5f5af50d81755b74f100b08966"), looks := false }, kinds := [], alts := [], laidByText := true, laidKinds := [.data], laidTests := true, laidLooks := .later }
def QueueOvertakesCardSaid : Prop := Claim7.holds Tryz.pinned (.plain (OpenSpec.ofChange queueOvertakesSpec)) queueOvertakesCard

/-- THE SECOND FORM's CARD OF 'clusterlockslaw12.QueueValid'. -/
def queueValidUptoCard : Claim7 := { stood := { row := queueValidUptoRow, standIns := [], harness := (true, "c4474c9a3edfebb990dcc0b2fb8dbf90cbb9bc5f5af50d81755b74f100b08966"), looks := false }, kinds := [], alts := [], laidByText := true, laidKinds := [.data], laidTests := true, laidLooks := .later }
def QueueValidUptoCardSaid : Prop := Claim7.holds Tryz.pinned (.plain (OpenSpec.upto queueValidSpec)) queueValidUptoCard

/-- THE SECOND FORM's CARD OF 'clusterlockslaw12.QueueClaims'. -/
def queueClaimsUptoCard : Claim7 := { stood := { row := queueClaimsUptoRow, standIns := [], harness := (true, "c4474c9a3edfebb990dcc0b2fb8dbf90cbb9bc5f5af50d81755b74f100b08966"), looks := false }, kinds := [], alts := [], laidByText := true, laidKinds := [.data], laidTests := true, laidLooks := .later }
def QueueClaimsUptoCardSaid : Prop := Claim7.holds Tryz.pinned (.plain (OpenSpec.upto queueClaimsSpec)) queueClaimsUptoCard

/-- THE SECOND FORM's CARD OF 'clusterlockslaw12.QueueOrders'. -/
def queueOrdersUptoCard : Claim7 := { stood := { row := queueOrdersUptoRow, standIns := [], harness := (true, "c4474c9a3edfebb990dcc0b2fb8dbf90cbb9bc5f5af50d81755b74f100b08966"), looks := false }, kinds := [], alts := [], laidByText := true, laidKinds := [.data], laidTests := true, laidLooks := .later }
def QueueOrdersUptoCardSaid : Prop := Claim7.holds Tryz.pinned (.plain (OpenSpec.upto queueOrdersSpec)) queueOrdersUptoCard

/-- THE SECOND FORM's CARD OF 'clusterlockslaw12.QueueMonotone'. -/
def queueMonotoneUptoCard : Claim7 := { stood := { row := queueMonotoneUptoRow, standIns := [], harness := (true, "c4474c9a3edfebb990dcc0b2fb8dbf90cbb9bc5f5af50d81755b74f100b08966"), looks := false }, kinds := [], alts := [], laidByText := true, laidKinds := [.data], laidTests := true, laidLooks := .later }
def QueueMonotoneUptoCardSaid : Prop := Claim7.holds Tryz.pinned (.plain (OpenSpec.upto queueMonotoneSpec)) queueMonotoneUptoCard

/-- THE SECOND FORM's CARD OF 'clusterlockslaw12.QueueLater'. -/
def queueLaterUptoCard : Claim7 := { stood := { row := queueLaterUptoRow, standIns := [], harness := (true, "c4474c9a3edfebb990dcc0b2fb8dbf90cbb9bc5f5af50d81755b74f100b08966"), looks := false }, kinds := [], alts := [], laidByText := true, laidKinds := [.data], laidTests := true, laidLooks := .later }
def QueueLaterUptoCardSaid : Prop := Claim7.holds Tryz.pinned (.plain (OpenSpec.upto queueLaterSpec)) queueLaterUptoCard

/-- THE SECOND FORM's CARD OF 'clusterlockslaw12.QueueCovered'. -/
def queueCoveredUptoCard : Claim7 := { stood := { row := queueCoveredUptoRow, standIns := [], harness := (true, "c4474c9a3edfebb990dcc0b2fb8dbf90cbb9bc5f5af50d81755b74f100b08966"), looks := false }, kinds := [], alts := [], laidByText := true, laidKinds := [.data], laidTests := true, laidLooks := .later }
def QueueCoveredUptoCardSaid : Prop := Claim7.holds Tryz.pinned (.plain (OpenSpec.upto queueCoveredSpec)) queueCoveredUptoCard

/-- THE SECOND FORM's CARD OF 'clusterlockslaw12.QueueEnds'. -/
def queueEndsUptoCard : Claim7 := { stood := { row := queueEndsUptoRow, standIns := [], harness := (true, "c4474c9a3edfebb990dcc0b2fb8dbf90cbb9bc5f5af50d81755b74f100b08966"), looks := false }, kinds := [], alts := [], laidByText := true, laidKinds := [.data], laidTests := true, laidLooks := .later }
def QueueEndsUptoCardSaid : Prop := Claim7.holds Tryz.pinned (.plain (OpenSpec.upto queueEndsSpec)) queueEndsUptoCard

/-- THE SECOND FORM's CARD OF 'clusterlockslaw12.QueueAdvances'. -/
def queueAdvancesUptoCard : Claim7 := { stood := { row := queueAdvancesUptoRow, standIns := [], harness := (true, "c4474c9a3edfebb990dcc0b2fb8dbf90cbb9bc5f5af50d81755b74f100b08966"), looks := false }, kinds := [], alts := [], laidByText := true, laidKinds := [.data], laidTests := true, laidLooks := .later }
def QueueAdvancesUptoCardSaid : Prop := Claim7.holds Tryz.pinned (.plain (OpenSpec.upto queueAdvancesSpec)) queueAdvancesUptoCard

/-- THE SECOND FORM's CARD OF 'clusterlockslaw12.QueueCancels'. -/
def queueCancelsUptoCard : Claim7 := { stood := { row := queueCancelsUptoRow, standIns := [], harness := (true, "c4474c9a3edfebb990dcc0b2fb8dbf90cbb9bc5f5af50d81755b74f100b08966"), looks := false }, kinds := [], alts := [], laidByText := true, laidKinds := [.data], laidTests := true, laidLooks := .later }
def QueueCancelsUptoCardSaid : Prop := Claim7.holds Tryz.pinned (.plain (OpenSpec.upto queueCancelsSpec)) queueCancelsUptoCard

/-- THE SECOND FORM's CARD OF 'clusterlockslaw12.QueueLowers'. -/
def queueLowersUptoCard : Claim7 := { stood := { row := queueLowersUptoRow, standIns := [], harness := (true, "c4474c9a3edfebb990dcc0b2fb8dbf90cbb9bc5f5af50d81755b74f100b08966"), looks := false }, kinds := [], alts := [], laidByText := true, laidKinds := [.data], laidTests := true, laidLooks := .later }
def QueueLowersUptoCardSaid : Prop := Claim7.holds Tryz.pinned (.plain (OpenSpec.upto queueLowersSpec)) queueLowersUptoCard

/-- THE SECOND FORM's CARD OF 'clusterlockslaw12.QueueScripts'. -/
def queueScriptsUptoCard : Claim7 := { stood := { row := queueScriptsUptoRow, standIns := [], harness := (true, "c4474c9a3edfebb990dcc0b2fb8dbf90cbb9bc5f5af50d81755b74f100b08966"), looks := false }, kinds := [], alts := [], laidByText := true, laidKinds := [.data], laidTests := true, laidLooks := .later }
def QueueScriptsUptoCardSaid : Prop := Claim7.holds Tryz.pinned (.plain (OpenSpec.upto queueScriptsSpec)) queueScriptsUptoCard

/-- THE SECOND FORM's CARD OF 'clusterlockslaw12.QueueSafe'. -/
def queueSafeUptoCard : Claim7 := { stood := { row := queueSafeUptoRow, standIns := [], harness := (true, "c4474c9a3edfebb990dcc0b2fb8dbf90cbb9bc5f5af50d81755b74f100b08966"), looks := false }, kinds := [], alts := [], laidByText := true, laidKinds := [.data], laidTests := true, laidLooks := .later }
def QueueSafeUptoCardSaid : Prop := Claim7.holds Tryz.pinned (.plain (OpenSpec.upto queueSafeSpec)) queueSafeUptoCard

/-- THE SECOND FORM's CARD OF 'clusterlockslaw12.QueueBlocked'. -/
def queueBlockedUptoCard : Claim7 := { stood := { row := queueBlockedUptoRow, standIns := [], harness := (true, "c4474c9a3edfebb990dcc0b2fb8dbf90cbb9bc5f5af50d81755b74f100b08966"), looks := false }, kinds := [], alts := [], laidByText := true, laidKinds := [.data], laidTests := true, laidLooks := .later }
def QueueBlockedUptoCardSaid : Prop := Claim7.holds Tryz.pinned (.plain (OpenSpec.upto queueBlockedSpec)) queueBlockedUptoCard

/-- THE SECOND FORM's CARD OF 'clusterlockslaw12.QueueOvertakes'. -/
def queueOvertakesUptoCard : Claim7 := { stood := { row := queueOvertakesUptoRow, standIns := [], harness := (true, "c4474c9a3edfebb990dcc0b2fb8dbf90cbb9bc5f5af50d81755b74f100b08966"), looks := false }, kinds := [], alts := [], laidByText := true, laidKinds := [.data], laidTests := true, laidLooks := .later }
def QueueOvertakesUptoCardSaid : Prop := Claim7.holds Tryz.pinned (.plain (OpenSpec.upto queueOvertakesSpec)) queueOvertakesUptoCard
end Rows
end Go.Proofs.YtdflfohpemfeiaaGreatDoor
