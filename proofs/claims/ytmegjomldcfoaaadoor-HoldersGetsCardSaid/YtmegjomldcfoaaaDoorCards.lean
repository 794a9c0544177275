/-
  DERIVED. GIVEN WITH THE SEED: THE CARDS: each row of YtmegjomldcfoaaaDoorRows.lean that lists a variable, with what it lists TIED to the program's text (the seventh form; the later family's looks); each row that meets fmt, with fmt's text TOLD by the authors' own Lean function (tested against real Go, not proved from fmt's source: count such statements apart). THE CARD IS WHAT COUNTS. Prove the row's statement (the work); the ties are given (YtmegjomldcfoaaaDoorTie.lean); close each card by the builder's one call (the guide's Derived/Test/ToyasCard.lean, 'card_holds'). Laid BY PROGRAM, IN A SANDBOX (cutbox-door.mjs). By AI agents, Wed Nov 11 2026. No macro, syntax, notation, axiom, sorry.
-/
import Derived.Test.YtmegjomldcfoaaaDoorRows
import GoSem.ClaimSeven
namespace Go.Proofs.YtmegjomldcfoaaaDoor
namespace Rows

/-- THE TIED CARD OF 'clusterlockslaw10.HoldersSets'. -/
def holdersSetsCard : Claim7 := { stood := { row := holdersSetsRow, standIns := [], harness := (true, "70fc80ff3f144a9d9a426d2bbf5ace4f6f31836a3aa28394e947ce72703b7b8a"), looks := false }, kinds := [], alts := [], laidByText := true, laidKinds := [.data], laidTests := true, laidLooks := .later }
def HoldersSetsCardSaid : Prop := Claim7.holds Tryd.pinned (.plain (OpenSpec.ofChange holdersSetsSpec)) holdersSetsCard

/-- THE TIED CARD OF 'clusterlockslaw10.HoldersRoom'. -/
def holdersRoomCard : Claim7 := { stood := { row := holdersRoomRow, standIns := [], harness := (true, "70fc80ff3f144a9d9a426d2bbf5ace4f6f31836a3aa28394e947ce72703b7b8a"), looks := false }, kinds := [], alts := [], laidByText := true, laidKinds := [.data], laidTests := true, laidLooks := .later }
def HoldersRoomCardSaid : Prop := Claim7.holds Tryd.pinned (.plain (OpenSpec.ofChange holdersRoomSpec)) holdersRoomCard

/-- THE TIED CARD OF 'clusterlockslaw10.HoldersAgainst'. -/
def holdersAgainstCard : Claim7 := { stood := { row := holdersAgainstRow, standIns := [], harness := (true, "70fc80ff3f144a9d9a426d2bbf5ace4f6f31836a3aa28394e947ce72703b7b8a"), looks := false }, kinds := [], alts := [], laidByText := true, laidKinds := [.data], laidTests := true, laidLooks := .later }
def HoldersAgainstCardSaid : Prop := Claim7.holds Tryd.pinned (.plain (OpenSpec.ofChange holdersAgainstSpec)) holdersAgainstCard

/-- THE TIED CARD OF 'clusterlockslaw10.HoldersYield'. -/
def holdersYieldCard : Claim7 := { stood := { row := holdersYieldRow, standIns := [], harness := (true, "70fc80ff3f144a9d9a426d2bbf5ace4f6f31836a3aa28394e947ce72703b7b8a"), looks := false }, kinds := [], alts := [], laidByText := true, laidKinds := [.data], laidTests := true, laidLooks := .later }
def HoldersYieldCardSaid : Prop := Claim7.holds Tryd.pinned (.plain (OpenSpec.ofChange holdersYieldSpec)) holdersYieldCard

/-- THE TIED CARD OF 'clusterlockslaw10.HoldersShrinks'. -/
def holdersShrinksCard : Claim7 := { stood := { row := holdersShrinksRow, standIns := [], harness := (true, "70fc80ff3f144a9d9a426d2bbf5ace4f6f31836a3aa28394e947ce72703b7b8a"), looks := false }, kinds := [], alts := [], laidByText := true, laidKinds := [.data], laidTests := true, laidLooks := .later }
def HoldersShrinksCardSaid : Prop := Claim7.holds Tryd.pinned (.plain (OpenSpec.ofChange holdersShrinksSpec)) holdersShrinksCard

/-- THE TIED CARD OF 'clusterlockslaw10.HoldersGrow'. -/
def holdersGrowCard : Claim7 := { stood := { row := holdersGrowRow, standIns := [], harness := (true, "70fc80ff3f144a9d9a426d2bbf5ace4f6f31836a3aa28394e947ce72703b7b8a"), looks := false }, kinds := [], alts := [], laidByText := true, laidKinds := [.data], laidTests := true, laidLooks := .later }
def HoldersGrowCardSaid : Prop := Claim7.holds Tryd.pinned (.plain (OpenSpec.ofChange holdersGrowSpec)) holdersGrowCard

/-- THE TIED CARD OF 'clusterlockslaw10.HoldersGets'. -/
def holdersGetsCard : Claim7 := { stood := { row := holdersGetsRow, standIns := [], harness := (true, "70fc80ff3f144a9d9a426d2bbf5ace4f6f31836a3aa28394e947ce72703b7b8a"), looks := false }, kinds := [], alts := [], laidByText := true, laidKinds := [.data], laidTests := true, laidLooks := .later }
def HoldersGetsCardSaid : Prop := Claim7.holds Tryd.pinned (.plain (OpenSpec.ofChange holdersGetsSpec)) holdersGetsCard

/-- THE TIED CARD OF 'clusterlockslaw10.HoldersValid'. -/
def holdersValidCard : Claim7 := { stood := { row := holdersValidRow, standIns := [], harness := (true, "70fc80ff3f144a9d9a426d2bbf5ace4f6f31836a3aa28394e947ce72703b7b8a"), looks := false }, kinds := [], alts := [], laidByText := true, laidKinds := [.data], laidTests := true, laidLooks := .later }
def HoldersValidCardSaid : Prop := Claim7.holds Tryd.pinned (.plain (OpenSpec.ofChange holdersValidSpec)) holdersValidCard

/-- THE SECOND FORM's CARD OF 'clusterlockslaw10.HoldersSets'. -/
def holdersSetsUptoCard : Claim7 := { stood := { row := holdersSetsUptoRow, standIns := [], harness := (true, "70fc80ff3f144a9d9a426d2bbf5ace4f6f31836a3aa28394e947ce72703b7b8a"), looks := false }, kinds := [], alts := [], laidByText := true, laidKinds := [.data], laidTests := true, laidLooks := .later }
def HoldersSetsUptoCardSaid : Prop := Claim7.holds Tryd.pinned (.plain (OpenSpec.upto holdersSetsSpec)) holdersSetsUptoCard

/-- THE SECOND FORM's CARD OF 'clusterlockslaw10.HoldersRoom'. -/
def holdersRoomUptoCard : Claim7 := { stood := { row := holdersRoomUptoRow, standIns := [], harness := (true, "70fc80ff3f144a9d9a426d2bbf5ace4f6f31836a3aa28394e947ce72703b7b8a"), looks := false }, kinds := [], alts := [], laidByText := true, laidKinds := [.data], laidTests := true, laidLooks := .later }
def HoldersRoomUptoCardSaid : Prop := Claim7.holds Tryd.pinned (.plain (OpenSpec.upto holdersRoomSpec)) holdersRoomUptoCard

/-- THE SECOND FORM's CARD OF 'clusterlockslaw10.HoldersAgainst'. -/
def holdersAgainstUptoCard : Claim7 := { stood := { row := holdersAgainstUptoRow, standIns := [], harness := (true, "70fc80ff3f144a9d9a426d2bbf5ace4f6f31836a3aa28394e947ce72703b7b8a"), looks := false }, kinds := [], alts := [], laidByText := true, laidKinds := [.data], laidTests := true, laidLooks := .later }
def HoldersAgainstUptoCardSaid : Prop := Claim7.holds Tryd.pinned (.plain (OpenSpec.upto holdersAgainstSpec)) holdersAgainstUptoCard

/-- THE SECOND FORM's CARD OF 'clusterlockslaw10.HoldersYield'. -/
def holdersYieldUptoCard : Claim7 := { stood := { row := holdersYieldUptoRow, standIns := [], harness := (true, "70fc80ff3f144a9d9a426d2bbf5ace4f6f31836a3aa28394e947ce72703b7b8a"), looks := false }, kinds := [], alts := [], laidByText := true, laidKinds := [.data], laidTests := true, laidLooks := .later }
def HoldersYieldUptoCardSaid : Prop := Claim7.holds Tryd.pinned (.plain (OpenSpec.upto holdersYieldSpec)) holdersYieldUptoCard

/-- THE SECOND FORM's CARD OF 'clusterlockslaw10.HoldersShrinks'. -/
def holdersShrinksUptoCard : Claim7 := { stood := { row := holdersShrinksUptoRow, standIns := [], harness := (true, "70fc80ff3f144a9d9a426d2bbf5ace4f6f31836a3aa28394e947ce72703b7b8a"), looks := false }, kinds := [], alts := [], laidByText := true, laidKinds := [.data], laidTests := true, laidLooks := .later }
def HoldersShrinksUptoCardSaid : Prop := Claim7.holds Tryd.pinned (.plain (OpenSpec.upto holdersShrinksSpec)) holdersShrinksUptoCard

/-- THE SECOND FORM's CARD OF 'clusterlockslaw10.HoldersGrow'. -/
def holdersGrowUptoCard : Claim7 := { stood := { row := holdersGrowUptoRow, standIns := [], harness := (true, "70fc80ff3f144a9d9a426d2bbf5ace4f6f31836a3aa28394e947ce72703b7b8a"), looks := false }, kinds := [], alts := [], laidByText := true, laidKinds := [.data], laidTests := true, laidLooks := .later }
def HoldersGrowUptoCardSaid : Prop := Claim7.holds Tryd.pinned (.plain (OpenSpec.upto holdersGrowSpec)) holdersGrowUptoCard

/-- THE SECOND FORM's CARD OF 'clusterlockslaw10.HoldersGets'. -/
def holdersGetsUptoCard : Claim7 := { stood := { row := holdersGetsUptoRow, standIns := [], harness := (true, "70fc80ff3f144a9d9a426d2bbf5ace4f6f31836a3aa28394e947ce72703b7b8a"), looks := false }, kinds := [], alts := [], laidByText := true, laidKinds := [.data], laidTests := true, laidLooks := .later }
def HoldersGetsUptoCardSaid : Prop := Claim7.holds Tryd.pinned (.plain (OpenSpec.upto holdersGetsSpec)) holdersGetsUptoCard

/-- THE SECOND FORM's CARD OF 'clusterlockslaw10.HoldersValid'. -/
def holdersValidUptoCard : Claim7 := { stood := { row := holdersValidUptoRow, standIns := [], harness := (true, "70fc80ff3f144a9d9a426d2bbf5ace4f6f31836a3aa28394e947ce72703b7b8a"), looks := false }, kinds := [], alts := [], laidByText := true, laidKinds := [.data], laidTests := true, laidLooks := .later }
def HoldersValidUptoCardSaid : Prop := Claim7.holds Tryd.pinned (.plain (OpenSpec.upto holdersValidSpec)) holdersValidUptoCard
end Rows
end Go.Proofs.YtmegjomldcfoaaaDoor
