/-
  DERIVED. GIVEN WITH THE SEED: THE CARDS: each row of YtcggeefhhegeoaaGreatDoorRows.lean that lists a variable, with what it lists TIED to the program's text (the seventh form; the later family's looks); each row that meets fmt, with fmt's text TOLD by the authors' own Lean function (tested against real Go, not proved from fmt's source: count such statements apart). THE CARD IS WHAT COUNTS. Prove the row's statement (the work); the ties are given (YtcggeefhhegeoaaGreatDoorTie.lean); close each card by the builder's one call (the guide's Derived/Test/ToyasCard.lean, 'card_holds'). Laid BY PROGRAM, IN A SANDBOX (cutbox-door.mjs). By AI agents, Wed Nov 11 2026. No macro, syntax, notation, axiom, sorry.
-/
import Derived.Test.YtcggeefhhegeoaaGreatDoorRows
import GoSem.ClaimSeven
namespace Go.Proofs.YtcggeefhhegeoaaGreatDoor
namespace Rows

/-- THE TIED CARD OF 'clusterlockslaw16.WaitstateScripts'. -/
def waitstateScriptsCard : Claim7 := { stood := { row := waitstateScriptsRow, standIns := [], harness := (true, "4b1d5c8759fcda8d078c9aeea9684de6eb3ef27abfea364890d748681ae9e3a8"), looks := false }, kinds := [], alts := [], laidByText := true, laidKinds := [.data], laidTests := true, laidLooks := .later }
def WaitstateScriptsCardSaid : Prop := Claim7.holds Tryz.pinned (.plain (OpenSpec.ofChange waitstateScriptsSpec)) waitstateScriptsCard

/-- THE TIED CARD OF 'clusterlockslaw16.WaitstateSpoils'. -/
def waitstateSpoilsCard : Claim7 := { stood := { row := waitstateSpoilsRow, standIns := [], harness := (true, "4b1d5c8759fcda8d078c9aeea9684de6eb3ef27abfea364890d748681ae9e3a8"), looks := false }, kinds := [], alts := [], laidByText := true, laidKinds := [.data], laidTests := true, laidLooks := .later }
def WaitstateSpoilsCardSaid : Prop := Claim7.holds Tryz.pinned (.plain (OpenSpec.ofChange waitstateSpoilsSpec)) waitstateSpoilsCard

/-- THE SECOND FORM's CARD OF 'clusterlockslaw16.WaitstateScripts'. -/
def waitstateScriptsUptoCard : Claim7 := { stood := { row := waitstateScriptsUptoRow, standIns := [], harness := (true, "4b1d5c8759fcda8d078c9aeea9684de6eb3ef27abfea364890d748681ae9e3a8"), looks := false }, kinds := [], alts := [], laidByText := true, laidKinds := [.data], laidTests := true, laidLooks := .later }
def WaitstateScriptsUptoCardSaid : Prop := Claim7.holds Tryz.pinned (.plain (OpenSpec.upto waitstateScriptsSpec)) waitstateScriptsUptoCard

/-- THE SECOND FORM's CARD OF 'clusterlockslaw16.WaitstateSpoils'. -/
def waitstateSpoilsUptoCard : Claim7 := { stood := { row := waitstateSpoilsUptoRow, standIns := [], harness := (true, "4b1d5c8759fcda8d078c9aeea9684de6eb3ef27abfea364890d748681ae9e3a8"), looks := false }, kinds := [], alts := [], laidByText := true, laidKinds := [.data], laidTests := true, laidLooks := .later }
def WaitstateSpoilsUptoCardSaid : Prop := Claim7.holds Tryz.pinned (.plain (OpenSpec.upto waitstateSpoilsSpec)) waitstateSpoilsUptoCard
end Rows
end Go.Proofs.YtcggeefhhegeoaaGreatDoor
