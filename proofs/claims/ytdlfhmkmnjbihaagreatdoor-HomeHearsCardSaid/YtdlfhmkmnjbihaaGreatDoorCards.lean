/-
  DERIVED. GIVEN WITH THE SEED: THE CARDS: each row of YtdlfhmkmnjbihaaGreatDoorRows.lean that lists a variable, with what it lists TIED to the program's text (the seventh form; the later family's looks); each row that meets fmt, with fmt's text TOLD by the authors' own Lean function (tested against real Go, not proved from fmt's source: count such statements apart). THE CARD IS WHAT COUNTS. Prove the row's statement (the work); the ties are given (YtdlfhmkmnjbihaaGreatDoorTie.lean); close each card by the builder's one call (the guide's Derived/Test/ToyasCard.lean, 'card_holds'). Laid BY PROGRAM, IN A SANDBOX (cutbox-door.mjs). By AI agents, Wed Nov 11 2026. No macro, syntax, notation, axiom, sorry.
-/
import Derived.Test.YtdlfhmkmnjbihaaGreatDoorRows
import GoSem.ClaimSeven
namespace Go.Proofs.YtdlfhmkmnjbihaaGreatDoor
namespace Rows

/-- THE TIED CARD OF 'clusterlockslaw32.HomeNew'. -/
def homeNewCard : Claim7 := { stood := { row := homeNewRow, standIns := [], harness := (true, "bff074dce2b9ffb25a4a7fa5210adbad0fe6e7e0c7c46bfe7c60f70c952d6490"), looks := false }, kinds := [], alts := [], laidByText := true, laidKinds := [.data, .data], laidTests := true, laidLooks := .later }
def HomeNewCardSaid : Prop := Claim7.holds Tryz.pinned (.plain (OpenSpec.ofChange homeNewSpec)) homeNewCard

/-- THE TIED CARD OF 'clusterlockslaw32.HomeHears'. -/
def homeHearsCard : Claim7 := { stood := { row := homeHearsRow, standIns := [], harness := (true, "bff074dce2b9ffb25a4a7fa5210adbad0fe6e7e0c7c46bfe7c60f70c952d6490"), looks := false }, kinds := [], alts := [], laidByText := true, laidKinds := [.data, .data], laidTests := true, laidLooks := .later }
def HomeHearsCardSaid : Prop := Claim7.holds Tryz.pinned (.plain (OpenSpec.ofChange homeHearsSpec)) homeHearsCard

/-- THE TIED CARD OF 'clusterlockslaw32.HomeEvents'. -/
def homeEventsCard : Claim7 := { stood := { row := homeEventsRow, standIns := [], harness := (true, "bff074dce2b9ffb25a4a7fa5210adbad0fe6e7e0c7c46bfe7c60f70c952d6490"), looks := false }, kinds := [], alts := [], laidByText := true, laidKinds := [.data, .data], laidTests := true, laidLooks := .later }
def HomeEventsCardSaid : Prop := Claim7.holds Tryz.pinned (.plain (OpenSpec.ofChange homeEventsSpec)) homeEventsCard

/-- THE TIED CARD OF 'clusterlockslaw32.HomeAnswers'. -/
def homeAnswersCard : Claim7 := { stood := { row := homeAnswersRow, standIns := [], harness := (true, "bff074dce2b9ffb25a4a7fa5210adbad0fe6e7e0c7c46bfe7c60f70c952d6490"), looks := false }, kinds := [], alts := [], laidByText := true, laidKinds := [.data, .data], laidTests := true, laidLooks := .later }
def HomeAnswersCardSaid : Prop := Claim7.holds Tryz.pinned (.plain (OpenSpec.ofChange homeAnswersSpec)) homeAnswersCard

/-- THE TIED CARD OF 'clusterlockslaw32.HomePurges'. -/
def homePurgesCard : Claim7 := { stood := { row := homePurgesRow, standIns := [], harness := (true, "bff074dce2b9ffb25a4a7fa5210adbad0fe6e7e0c7c46bfe7c60f70c952d6490"), looks := false }, kinds := [], alts := [], laidByText := true, laidKinds := [.data, .data], laidTests := true, laidLooks := .later }
def HomePurgesCardSaid : Prop := Claim7.holds Tryz.pinned (.plain (OpenSpec.ofChange homePurgesSpec)) homePurgesCard

/-- THE SECOND FORM's CARD OF 'clusterlockslaw32.HomeNew'. -/
def homeNewUptoCard : Claim7 := { stood := { row := homeNewUptoRow, standIns := [], harness := (true, "bff074dce2b9ffb25a4a7fa5210adbad0fe6e7e0c7c46bfe7c60f70c952d6490"), looks := false }, kinds := [], alts := [], laidByText := true, laidKinds := [.data, .data], laidTests := true, laidLooks := .later }
def HomeNewUptoCardSaid : Prop := Claim7.holds Tryz.pinned (.plain (OpenSpec.upto homeNewSpec)) homeNewUptoCard

/-- THE SECOND FORM's CARD OF 'clusterlockslaw32.HomeHears'. -/
def homeHearsUptoCard : Claim7 := { stood := { row := homeHearsUptoRow, standIns := [], harness := (true, "bff074dce2b9ffb25a4a7fa5210adbad0fe6e7e0c7c46bfe7c60f70c952d6490"), looks := false }, kinds := [], alts := [], laidByText := true, laidKinds := [.data, .data], laidTests := true, laidLooks := .later }
def HomeHearsUptoCardSaid : Prop := Claim7.holds Tryz.pinned (.plain (OpenSpec.upto homeHearsSpec)) homeHearsUptoCard

/-- THE SECOND FORM's CARD OF 'clusterlockslaw32.HomeEvents'. -/
def homeEventsUptoCard : Claim7 := { stood := { row := homeEventsUptoRow, standIns := [], harness := (true, "bff074dce2b9ffb25a4a7fa5210adbad0fe6e7e0c7c46bfe7c60f70c952d6490"), looks := false }, kinds := [], alts := [], laidByText := true, laidKinds := [.data, .data], laidTests := true, laidLooks := .later }
def HomeEventsUptoCardSaid : Prop := Claim7.holds Tryz.pinned (.plain (OpenSpec.upto homeEventsSpec)) homeEventsUptoCard

/-- THE SECOND FORM's CARD OF 'clusterlockslaw32.HomeAnswers'. -/
def homeAnswersUptoCard : Claim7 := { stood := { row := homeAnswersUptoRow, standIns := [], harness := (true, "bff074dce2b9ffb25a4a7fa5210adbad0fe6e7e0c7c46bfe7c60f70c952d6490"), looks := false }, kinds := [], alts := [], laidByText := true, laidKinds := [.data, .data], laidTests := true, laidLooks := .later }
def HomeAnswersUptoCardSaid : Prop := Claim7.holds Tryz.pinned (.plain (OpenSpec.upto homeAnswersSpec)) homeAnswersUptoCard

/-- THE SECOND FORM's CARD OF 'clusterlockslaw32.HomePurges'. -/
def homePurgesUptoCard : Claim7 := { stood := { row := homePurgesUptoRow, standIns := [], harness := (true, "bff074dce2b9ffb25a4a7fa5210adbad0fe6e7e0c7c46bfe7c60f70c952d6490"), looks := false }, kinds := [], alts := [], laidByText := true, laidKinds := [.data, .data], laidTests := true, laidLooks := .later }
def HomePurgesUptoCardSaid : Prop := Claim7.holds Tryz.pinned (.plain (OpenSpec.upto homePurgesSpec)) homePurgesUptoCard
end Rows
end Go.Proofs.YtdlfhmkmnjbihaaGreatDoor
