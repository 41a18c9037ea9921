/-
  DERIVED. GIVEN WITH THE SEED: THE CARDS: each row of YtbfappllfpngdaaGreatDoorRows.lean that lists a variable, with what it lists TIED to the program's text (the seventh form; the later family's looks); each row that meets fmt, with fmt's text TOLD by the authors' own Lean function (tested against real Go, not proved from fmt's source: count such statements apart). THE CARD IS WHAT COUNTS. Prove the row's statement (the work); the ties are given (YtbfappllfpngdaaGreatDoorTie.lean); close each card by the builder's one call (the guide's Derived/Test/ToyasCard.lean, 'card_holds'). Laid BY PROGRAM, IN A SANDBOX (cutbox-door.mjs). By AI agents, Wed Nov 11 2026. No macro, syntax, notation, axiom, sorry.
-/
import Derived.Test.YtbfappllfpngdaaGreatDoorRows
import GoSem.ClaimSeven
namespace Go.Proofs.YtbfappllfpngdaaGreatDoor
namespace Rows

/-- THE TIED CARD OF 'codendlaw02.TaperWords'. -/
def taperWordsCard : Claim7 := { stood := { row := taperWordsRow, standIns := [], harness := (true, "88f30bb4a559f747272922c26906717374cefb8f53d5d8bf893a0e2041f8d511"), looks := false }, kinds := [], alts := [], laidByText := true, laidKinds := [.data, .data, .data, .data, .pinned], laidTests := true, laidLooks := .later }
def TaperWordsCardSaid : Prop := Claim7.holds Tryz.pinned (.plain (OpenSpec.ofChange taperWordsSpec)) taperWordsCard

/-- THE TIED CARD OF 'codendlaw02.TaperSpreads'. -/
def taperSpreadsCard : Claim7 := { stood := { row := taperSpreadsRow, standIns := [], harness := (true, "88f30bb4a559f747272922c26906717374cefb8f53d5d8bf893a0e2041f8d511"), looks := false }, kinds := [], alts := [], laidByText := true, laidKinds := [.data, .data, .data, .data, .pinned], laidTests := true, laidLooks := .later }
def TaperSpreadsCardSaid : Prop := Claim7.holds Tryz.pinned (.plain (OpenSpec.ofChange taperSpreadsSpec)) taperSpreadsCard

/-- THE TIED CARD OF 'codendlaw02.TaperShares'. -/
def taperSharesCard : Claim7 := { stood := { row := taperSharesRow, standIns := [], harness := (true, "88f30bb4a559f747272922c26906717374cefb8f53d5d8bf893a0e2041f8d511"), looks := false }, kinds := [], alts := [], laidByText := true, laidKinds := [.data, .data, .data, .data, .pinned], laidTests := true, laidLooks := .later }
def TaperSharesCardSaid : Prop := Claim7.holds Tryz.pinned (.plain (OpenSpec.ofChange taperSharesSpec)) taperSharesCard

/-- THE TIED CARD OF 'codendlaw02.TaperWalks'. -/
def taperWalksCard : Claim7 := { stood := { row := taperWalksRow, standIns := [], harness := (true, "88f30bb4a559f747272922c26906717374cefb8f53d5d8bf893a0e2041f8d511"), looks := false }, kinds := [], alts := [], laidByText := true, laidKinds := [.data, .data, .data, .data, .pinned], laidTests := true, laidLooks := .later }
def TaperWalksCardSaid : Prop := Claim7.holds Tryz.pinned (.plain (OpenSpec.ofChange taperWalksSpec)) taperWalksCard

/-- THE TIED CARD OF 'codendlaw02.TaperBack'. -/
def taperBackCard : Claim7 := { stood := { row := taperBackRow, standIns := [], harness := (true, "88f30bb4a559f747272922c26906717374cefb8f53d5d8bf893a0e2041f8d511"), looks := false }, kinds := [], alts := [], laidByText := true, laidKinds := [.data, .data, .data, .data, .pinned], laidTests := true, laidLooks := .later }
def TaperBackCardSaid : Prop := Claim7.holds Tryz.pinned (.plain (OpenSpec.ofChange taperBackSpec)) taperBackCard

/-- THE TIED CARD OF 'codendlaw02.TaperEven'. -/
def taperEvenCard : Claim7 := { stood := { row := taperEvenRow, standIns := [], harness := (true, "88f30bb4a559f747272922c26906717374cefb8f53d5d8bf893a0e2041f8d511"), looks := false }, kinds := [], alts := [], laidByText := true, laidKinds := [.data, .data, .data, .data, .pinned], laidTests := true, laidLooks := .later }
def TaperEvenCardSaid : Prop := Claim7.holds Tryz.pinned (.plain (OpenSpec.ofChange taperEvenSpec)) taperEvenCard

/-- THE TIED CARD OF 'codendlaw02.TaperReturns'. -/
def taperReturnsCard : Claim7 := { stood := { row := taperReturnsRow, standIns := [], harness := (true, "88f30bb4a559f747272922c26906717374cefb8f53d5d8bf893a0e2041f8d511"), looks := false }, kinds := [], alts := [], laidByText := true, laidKinds := [.data, .data, .data, .data, .pinned], laidTests := true, laidLooks := .later }
def TaperReturnsCardSaid : Prop := Claim7.holds Tryz.pinned (.plain (OpenSpec.ofChange taperReturnsSpec)) taperReturnsCard

/-- THE TIED CARD OF 'codendlaw02.TaperChanges'. -/
def taperChangesCard : Claim7 := { stood := { row := taperChangesRow, standIns := [], harness := (true, "88f30bb4a559f747272922c26906717374cefb8f53d5d8bf893a0e2041f8d511"), looks := false }, kinds := [], alts := [], laidByText := true, laidKinds := [.data, .data, .data, .data, .pinned], laidTests := true, laidLooks := .later }
def TaperChangesCardSaid : Prop := Claim7.holds Tryz.pinned (.plain (OpenSpec.ofChange taperChangesSpec)) taperChangesCard

/-- THE TIED CARD OF 'codendlaw02.TaperRoots'. -/
def taperRootsCard : Claim7 := { stood := { row := taperRootsRow, standIns := [], harness := (true, "88f30bb4a559f747272922c26906717374cefb8f53d5d8bf893a0e2041f8d511"), looks := false }, kinds := [], alts := [], laidByText := true, laidKinds := [.data, .data, .data, .data, .pinned], laidTests := true, laidLooks := .later }
def TaperRootsCardSaid : Prop := Claim7.holds Tryz.pinned (.plain (OpenSpec.ofChange taperRootsSpec)) taperRootsCard

/-- THE TIED CARD OF 'codendlaw02.TaperNearest'. -/
def taperNearestCard : Claim7 := { stood := { row := taperNearestRow, standIns := [], harness := (true, "88f30bb4a559f747272922c26906717374cefb8f53d5d8bf893a0e2041f8d511"), looks := false }, kinds := [], alts := [], laidByText := true, laidKinds := [.data, .data, .data, .data, .pinned], laidTests := true, laidLooks := .later }
def TaperNearestCardSaid : Prop := Claim7.holds Tryz.pinned (.plain (OpenSpec.ofChange taperNearestSpec)) taperNearestCard

/-- THE TIED CARD OF 'codendlaw02.TaperFarey'. -/
def taperFareyCard : Claim7 := { stood := { row := taperFareyRow, standIns := [], harness := (true, "88f30bb4a559f747272922c26906717374cefb8f53d5d8bf893a0e2041f8d511"), looks := false }, kinds := [], alts := [], laidByText := true, laidKinds := [.data, .data, .data, .data, .pinned], laidTests := true, laidLooks := .later }
def TaperFareyCardSaid : Prop := Claim7.holds Tryz.pinned (.plain (OpenSpec.ofChange taperFareySpec)) taperFareyCard

/-- THE TIED CARD OF 'codendlaw02.TaperRates'. -/
def taperRatesCard : Claim7 := { stood := { row := taperRatesRow, standIns := [], harness := (true, "88f30bb4a559f747272922c26906717374cefb8f53d5d8bf893a0e2041f8d511"), looks := false }, kinds := [], alts := [], laidByText := true, laidKinds := [.data, .data, .data, .data, .pinned], laidTests := true, laidLooks := .later }
def TaperRatesCardSaid : Prop := Claim7.holds Tryz.pinned (.plain (OpenSpec.ofChange taperRatesSpec)) taperRatesCard

/-- THE SECOND FORM's CARD OF 'codendlaw02.TaperWords'. -/
def taperWordsUptoCard : Claim7 := { stood := { row := taperWordsUptoRow, standIns := [], harness := (true, "88f30bb4a559f747272922c26906717374cefb8f53d5d8bf893a0e2041f8d511"), looks := false }, kinds := [], alts := [], laidByText := true, laidKinds := [.data, .data, .data, .data, .pinned], laidTests := true, laidLooks := .later }
def TaperWordsUptoCardSaid : Prop := Claim7.holds Tryz.pinned (.plain (OpenSpec.upto taperWordsSpec)) taperWordsUptoCard

/-- THE SECOND FORM's CARD OF 'codendlaw02.TaperSpreads'. -/
def taperSpreadsUptoCard : Claim7 := { stood := { row := taperSpreadsUptoRow, standIns := [], harness := (true, "88f30bb4a559f747272922c26906717374cefb8f53d5d8bf893a0e2041f8d511"), looks := false }, kinds := [], alts := [], laidByText := true, laidKinds := [.data, .data, .data, .data, .pinned], laidTests := true, laidLooks := .later }
def TaperSpreadsUptoCardSaid : Prop := Claim7.holds Tryz.pinned (.plain (OpenSpec.upto taperSpreadsSpec)) taperSpreadsUptoCard

/-- THE SECOND FORM's CARD OF 'codendlaw02.TaperShares'. -/
def taperSharesUptoCard : Claim7 := { stood := { row := taperSharesUptoRow, standIns := [], harness := (true, "88f30bb4a559f747272922c26906717374cefb8f53d5d8bf893a0e2041f8d511"), looks := false }, kinds := [], alts := [], laidByText := true, laidKinds := [.data, .data, .data, .data, .pinned], laidTests := true, laidLooks := .later }
def TaperSharesUptoCardSaid : Prop := Claim7.holds Tryz.pinned (.plain (OpenSpec.upto taperSharesSpec)) taperSharesUptoCard

/-- THE SECOND FORM's CARD OF 'codendlaw02.TaperWalks'. -/
def taperWalksUptoCard : Claim7 := { stood := { row := taperWalksUptoRow, standIns := [], harness := (true, "88f30bb4a559f747272922c26906717374cefb8f53d5d8bf893a0e2041f8d511"), looks := false }, kinds := [], alts := [], laidByText := true, laidKinds := [.data, .data, .data, .data, .pinned], laidTests := true, laidLooks := .later }
def TaperWalksUptoCardSaid : Prop := Claim7.holds Tryz.pinned (.plain (OpenSpec.upto taperWalksSpec)) taperWalksUptoCard

/-- THE SECOND FORM's CARD OF 'codendlaw02.TaperBack'. -/
def taperBackUptoCard : Claim7 := { stood := { row := taperBackUptoRow, standIns := [], harness := (true, "88f30bb4a559f747272922c26906717374cefb8f53d5d8bf893a0e2041f8d511"), looks := false }, kinds := [], alts := [], laidByText := true, laidKinds := [.data, .data, .data, .data, .pinned], laidTests := true, laidLooks := .later }
def TaperBackUptoCardSaid : Prop := Claim7.holds Tryz.pinned (.plain (OpenSpec.upto taperBackSpec)) taperBackUptoCard

/-- THE SECOND FORM's CARD OF 'codendlaw02.TaperEven'. -/
def taperEvenUptoCard : Claim7 := { stood := { row := taperEvenUptoRow, standIns := [], harness := (true, "88f30bb4a559f747272922c26906717374cefb8f53d5d8bf893a0e2041f8d511"), looks := false }, kinds := [], alts := [], laidByText := true, laidKinds := [.data, .data, .data, .data, .pinned], laidTests := true, laidLooks := .later }
def TaperEvenUptoCardSaid : Prop := Claim7.holds Tryz.pinned (.plain (OpenSpec.upto taperEvenSpec)) taperEvenUptoCard

/-- THE SECOND FORM's CARD OF 'codendlaw02.TaperReturns'. -/
def taperReturnsUptoCard : Claim7 := { stood := { row := taperReturnsUptoRow, standIns := [], harness := (true, "88f30bb4a559f747272922c26906717374cefb8f53d5d8bf893a0e2041f8d511"), looks := false }, kinds := [], alts := [], laidByText := true, laidKinds := [.data, .data, .data, .data, .pinned], laidTests := true, laidLooks := .later }
def TaperReturnsUptoCardSaid : Prop := Claim7.holds Tryz.pinned (.plain (OpenSpec.upto taperReturnsSpec)) taperReturnsUptoCard

/-- THE SECOND FORM's CARD OF 'codendlaw02.TaperChanges'. -/
def taperChangesUptoCard : Claim7 := { stood := { row := taperChangesUptoRow, standIns := [], harness := (true, "88f30bb4a559f747272922c26906717374cefb8f53d5d8bf893a0e2041f8d511"), looks := false }, kinds := [], alts := [], laidByText := true, laidKinds := [.data, .data, .data, .data, .pinned], laidTests := true, laidLooks := .later }
def TaperChangesUptoCardSaid : Prop := Claim7.holds Tryz.pinned (.plain (OpenSpec.upto taperChangesSpec)) taperChangesUptoCard

/-- THE SECOND FORM's CARD OF 'codendlaw02.TaperRoots'. -/
def taperRootsUptoCard : Claim7 := { stood := { row := taperRootsUptoRow, standIns := [], harness := (true, "88f30bb4a559f747272922c26906717374cefb8f53d5d8bf893a0e2041f8d511"), looks := false }, kinds := [], alts := [], laidByText := true, laidKinds := [.data, .data, .data, .data, .pinned], laidTests := true, laidLooks := .later }
def TaperRootsUptoCardSaid : Prop := Claim7.holds Tryz.pinned (.plain (OpenSpec.upto taperRootsSpec)) taperRootsUptoCard

/-- THE SECOND FORM's CARD OF 'codendlaw02.TaperNearest'. -/
def taperNearestUptoCard : Claim7 := { stood := { row := taperNearestUptoRow, standIns := [], harness := (true, "88f30bb4a559f747272922c26906717374cefb8f53d5d8bf893a0e2041f8d511"), looks := false }, kinds := [], alts := [], laidByText := true, laidKinds := [.data, .data, .data, .data, .pinned], laidTests := true, laidLooks := .later }
def TaperNearestUptoCardSaid : Prop := Claim7.holds Tryz.pinned (.plain (OpenSpec.upto taperNearestSpec)) taperNearestUptoCard

/-- THE SECOND FORM's CARD OF 'codendlaw02.TaperFarey'. -/
def taperFareyUptoCard : Claim7 := { stood := { row := taperFareyUptoRow, standIns := [], harness := (true, "88f30bb4a559f747272922c26906717374cefb8f53d5d8bf893a0e2041f8d511"), looks := false }, kinds := [], alts := [], laidByText := true, laidKinds := [.data, .data, .data, .data, .pinned], laidTests := true, laidLooks := .later }
def TaperFareyUptoCardSaid : Prop := Claim7.holds Tryz.pinned (.plain (OpenSpec.upto taperFareySpec)) taperFareyUptoCard

/-- THE SECOND FORM's CARD OF 'codendlaw02.TaperRates'. -/
def taperRatesUptoCard : Claim7 := { stood := { row := taperRatesUptoRow, standIns := [], harness := (true, "88f30bb4a559f747272922c26906717374cefb8f53d5d8bf893a0e2041f8d511"), looks := false }, kinds := [], alts := [], laidByText := true, laidKinds := [.data, .data, .data, .data, .pinned], laidTests := true, laidLooks := .later }
def TaperRatesUptoCardSaid : Prop := Claim7.holds Tryz.pinned (.plain (OpenSpec.upto taperRatesSpec)) taperRatesUptoCard
end Rows
end Go.Proofs.YtbfappllfpngdaaGreatDoor
