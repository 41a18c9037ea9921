/-
  DERIVED. GIVEN WITH THE SEED: THE CARDS: each row of YtpngggdfbbdfaaaDoorRows.lean that lists a variable, with what it lists TIED to the program's text (the seventh form; the later family's looks); each row that meets fmt, with fmt's text TOLD by the authors' own Lean function (tested against real Go, not proved from fmt's source: count such statements apart). THE CARD IS WHAT COUNTS. Prove the row's statement (the work); the ties are given (YtpngggdfbbdfaaaDoorTie.lean); close each card by the builder's one call (the guide's Derived/Test/ToyasCard.lean, 'card_holds'). Laid BY PROGRAM, IN A SANDBOX (cutbox-door.mjs). By AI agents, Wed Nov 11 2026. No macro, syntax, notation, axiom, sorry.
-/
import Derived.Test.YtpngggdfbbdfaaaDoorRows
import GoSem.ClaimSeven
namespace Go.Proofs.YtpngggdfbbdfaaaDoor
namespace Rows

/-- THE TIED CARD OF 'codendlaw06.HangChecks'. -/
def hangChecksCard : Claim7 := { stood := { row := hangChecksRow, standIns := [], harness := (true, "bb9c8a1f3b87a99a73053614bf73ec5a74d01f458fba8a9eee33de806b476934"), looks := false }, kinds := [], alts := [], laidByText := true, laidKinds := [.data], laidTests := true, laidLooks := .later }
def HangChecksCardSaid : Prop := Claim7.holds Tryd.pinned (.plain (OpenSpec.ofChange hangChecksSpec)) hangChecksCard

/-- THE TIED CARD OF 'codendlaw06.HangSizes'. -/
def hangSizesCard : Claim7 := { stood := { row := hangSizesRow, standIns := [], harness := (true, "bb9c8a1f3b87a99a73053614bf73ec5a74d01f458fba8a9eee33de806b476934"), looks := false }, kinds := [], alts := [], laidByText := true, laidKinds := [.data], laidTests := true, laidLooks := .later }
def HangSizesCardSaid : Prop := Claim7.holds Tryd.pinned (.plain (OpenSpec.ofChange hangSizesSpec)) hangSizesCard

/-- THE TIED CARD OF 'codendlaw06.HangRoots'. -/
def hangRootsCard : Claim7 := { stood := { row := hangRootsRow, standIns := [], harness := (true, "bb9c8a1f3b87a99a73053614bf73ec5a74d01f458fba8a9eee33de806b476934"), looks := false }, kinds := [], alts := [], laidByText := true, laidKinds := [.data], laidTests := true, laidLooks := .later }
def HangRootsCardSaid : Prop := Claim7.holds Tryd.pinned (.plain (OpenSpec.ofChange hangRootsSpec)) hangRootsCard

/-- THE TIED CARD OF 'codendlaw06.HangRopes'. -/
def hangRopesCard : Claim7 := { stood := { row := hangRopesRow, standIns := [], harness := (true, "bb9c8a1f3b87a99a73053614bf73ec5a74d01f458fba8a9eee33de806b476934"), looks := false }, kinds := [], alts := [], laidByText := true, laidKinds := [.data], laidTests := true, laidLooks := .later }
def HangRopesCardSaid : Prop := Claim7.holds Tryd.pinned (.plain (OpenSpec.ofChange hangRopesSpec)) hangRopesCard

/-- THE TIED CARD OF 'codendlaw06.HangTwines'. -/
def hangTwinesCard : Claim7 := { stood := { row := hangTwinesRow, standIns := [], harness := (true, "bb9c8a1f3b87a99a73053614bf73ec5a74d01f458fba8a9eee33de806b476934"), looks := false }, kinds := [], alts := [], laidByText := true, laidKinds := [.data], laidTests := true, laidLooks := .later }
def HangTwinesCardSaid : Prop := Claim7.holds Tryd.pinned (.plain (OpenSpec.ofChange hangTwinesSpec)) hangTwinesCard

/-- THE TIED CARD OF 'codendlaw06.HangWeights'. -/
def hangWeightsCard : Claim7 := { stood := { row := hangWeightsRow, standIns := [], harness := (true, "bb9c8a1f3b87a99a73053614bf73ec5a74d01f458fba8a9eee33de806b476934"), looks := false }, kinds := [], alts := [], laidByText := true, laidKinds := [.data], laidTests := true, laidLooks := .later }
def HangWeightsCardSaid : Prop := Claim7.holds Tryd.pinned (.plain (OpenSpec.ofChange hangWeightsSpec)) hangWeightsCard

/-- THE TIED CARD OF 'codendlaw06.HangBills'. -/
def hangBillsCard : Claim7 := { stood := { row := hangBillsRow, standIns := [], harness := (true, "bb9c8a1f3b87a99a73053614bf73ec5a74d01f458fba8a9eee33de806b476934"), looks := false }, kinds := [], alts := [], laidByText := true, laidKinds := [.data], laidTests := true, laidLooks := .later }
def HangBillsCardSaid : Prop := Claim7.holds Tryd.pinned (.plain (OpenSpec.ofChange hangBillsSpec)) hangBillsCard

/-- THE TIED CARD OF 'codendlaw06.HangFloors'. -/
def hangFloorsCard : Claim7 := { stood := { row := hangFloorsRow, standIns := [], harness := (true, "bb9c8a1f3b87a99a73053614bf73ec5a74d01f458fba8a9eee33de806b476934"), looks := false }, kinds := [], alts := [], laidByText := true, laidKinds := [.data], laidTests := true, laidLooks := .later }
def HangFloorsCardSaid : Prop := Claim7.holds Tryd.pinned (.plain (OpenSpec.ofChange hangFloorsSpec)) hangFloorsCard

/-- THE TIED CARD OF 'codendlaw06.HangJoins'. -/
def hangJoinsCard : Claim7 := { stood := { row := hangJoinsRow, standIns := [], harness := (true, "bb9c8a1f3b87a99a73053614bf73ec5a74d01f458fba8a9eee33de806b476934"), looks := false }, kinds := [], alts := [], laidByText := true, laidKinds := [.data], laidTests := true, laidLooks := .later }
def HangJoinsCardSaid : Prop := Claim7.holds Tryd.pinned (.plain (OpenSpec.ofChange hangJoinsSpec)) hangJoinsCard

/-- THE TIED CARD OF 'codendlaw06.HangSpreads'. -/
def hangSpreadsCard : Claim7 := { stood := { row := hangSpreadsRow, standIns := [], harness := (true, "bb9c8a1f3b87a99a73053614bf73ec5a74d01f458fba8a9eee33de806b476934"), looks := false }, kinds := [], alts := [], laidByText := true, laidKinds := [.data], laidTests := true, laidLooks := .later }
def HangSpreadsCardSaid : Prop := Claim7.holds Tryd.pinned (.plain (OpenSpec.ofChange hangSpreadsSpec)) hangSpreadsCard

/-- THE TIED CARD OF 'codendlaw06.HangSums'. -/
def hangSumsCard : Claim7 := { stood := { row := hangSumsRow, standIns := [], harness := (true, "bb9c8a1f3b87a99a73053614bf73ec5a74d01f458fba8a9eee33de806b476934"), looks := false }, kinds := [], alts := [], laidByText := true, laidKinds := [.data], laidTests := true, laidLooks := .later }
def HangSumsCardSaid : Prop := Claim7.holds Tryd.pinned (.plain (OpenSpec.ofChange hangSumsSpec)) hangSumsCard

/-- THE SECOND FORM's CARD OF 'codendlaw06.HangChecks'. -/
def hangChecksUptoCard : Claim7 := { stood := { row := hangChecksUptoRow, standIns := [], harness := (true, "bb9c8a1f3b87a99a73053614bf73ec5a74d01f458fba8a9eee33de806b476934"), looks := false }, kinds := [], alts := [], laidByText := true, laidKinds := [.data], laidTests := true, laidLooks := .later }
def HangChecksUptoCardSaid : Prop := Claim7.holds Tryd.pinned (.plain (OpenSpec.upto hangChecksSpec)) hangChecksUptoCard

/-- THE SECOND FORM's CARD OF 'codendlaw06.HangSizes'. -/
def hangSizesUptoCard : Claim7 := { stood := { row := hangSizesUptoRow, standIns := [], harness := (true, "bb9c8a1f3b87a99a73053614bf73ec5a74d01f458fba8a9eee33de806b476934"), looks := false }, kinds := [], alts := [], laidByText := true, laidKinds := [.data], laidTests := true, laidLooks := .later }
def HangSizesUptoCardSaid : Prop := Claim7.holds Tryd.pinned (.plain (OpenSpec.upto hangSizesSpec)) hangSizesUptoCard

/-- THE SECOND FORM's CARD OF 'codendlaw06.HangRoots'. -/
def hangRootsUptoCard : Claim7 := { stood := { row := hangRootsUptoRow, standIns := [], harness := (true, "bb9c8a1f3b87a99a73053614bf73ec5a74d01f458fba8a9eee33de806b476934"), looks := false }, kinds := [], alts := [], laidByText := true, laidKinds := [.data], laidTests := true, laidLooks := .later }
def HangRootsUptoCardSaid : Prop := Claim7.holds Tryd.pinned (.plain (OpenSpec.upto hangRootsSpec)) hangRootsUptoCard

/-- THE SECOND FORM's CARD OF 'codendlaw06.HangRopes'. -/
def hangRopesUptoCard : Claim7 := { stood := { row := hangRopesUptoRow, standIns := [], harness := (true, "bb9c8a1f3b87a99a73053614bf73ec5a74d01f458fba8a9eee33de806b476934"), looks := false }, kinds := [], alts := [], laidByText := true, laidKinds := [.data], laidTests := true, laidLooks := .later }
def HangRopesUptoCardSaid : Prop := Claim7.holds Tryd.pinned (.plain (OpenSpec.upto hangRopesSpec)) hangRopesUptoCard

/-- THE SECOND FORM's CARD OF 'codendlaw06.HangTwines'. -/
def hangTwinesUptoCard : Claim7 := { stood := { row := hangTwinesUptoRow, standIns := [], harness := (true, "bb9c8a1f3b87a99a73053614bf73ec5a74d01f458fba8a9eee33de806b476934"), looks := false }, kinds := [], alts := [], laidByText := true, laidKinds := [.data], laidTests := true, laidLooks := .later }
def HangTwinesUptoCardSaid : Prop := Claim7.holds Tryd.pinned (.plain (OpenSpec.upto hangTwinesSpec)) hangTwinesUptoCard

/-- THE SECOND FORM's CARD OF 'codendlaw06.HangWeights'. -/
def hangWeightsUptoCard : Claim7 := { stood := { row := hangWeightsUptoRow, standIns := [], harness := (true, "bb9c8a1f3b87a99a73053614bf73ec5a74d01f458fba8a9eee33de806b476934"), looks := false }, kinds := [], alts := [], laidByText := true, laidKinds := [.data], laidTests := true, laidLooks := .later }
def HangWeightsUptoCardSaid : Prop := Claim7.holds Tryd.pinned (.plain (OpenSpec.upto hangWeightsSpec)) hangWeightsUptoCard

/-- THE SECOND FORM's CARD OF 'codendlaw06.HangBills'. -/
def hangBillsUptoCard : Claim7 := { stood := { row := hangBillsUptoRow, standIns := [], harness := (true, "bb9c8a1f3b87a99a73053614bf73ec5a74d01f458fba8a9eee33de806b476934"), looks := false }, kinds := [], alts := [], laidByText := true, laidKinds := [.data], laidTests := true, laidLooks := .later }
def HangBillsUptoCardSaid : Prop := Claim7.holds Tryd.pinned (.plain (OpenSpec.upto hangBillsSpec)) hangBillsUptoCard

/-- THE SECOND FORM's CARD OF 'codendlaw06.HangFloors'. -/
def hangFloorsUptoCard : Claim7 := { stood := { row := hangFloorsUptoRow, standIns := [], harness := (true, "bb9c8a1f3b87a99a73053614bf73ec5a74d01f458fba8a9eee33de806b476934"), looks := false }, kinds := [], alts := [], laidByText := true, laidKinds := [.data], laidTests := true, laidLooks := .later }
def HangFloorsUptoCardSaid : Prop := Claim7.holds Tryd.pinned (.plain (OpenSpec.upto hangFloorsSpec)) hangFloorsUptoCard

/-- THE SECOND FORM's CARD OF 'codendlaw06.HangJoins'. -/
def hangJoinsUptoCard : Claim7 := { stood := { row := hangJoinsUptoRow, standIns := [], harness := (true, "bb9c8a1f3b87a99a73053614bf73ec5a74d01f458fba8a9eee33de806b476934"), looks := false }, kinds := [], alts := [], laidByText := true, laidKinds := [.data], laidTests := true, laidLooks := .later }
def HangJoinsUptoCardSaid : Prop := Claim7.holds Tryd.pinned (.plain (OpenSpec.upto hangJoinsSpec)) hangJoinsUptoCard

/-- THE SECOND FORM's CARD OF 'codendlaw06.HangSpreads'. -/
def hangSpreadsUptoCard : Claim7 := { stood := { row := hangSpreadsUptoRow, standIns := [], harness := (true, "bb9c8a1f3b87a99a73053614bf73ec5a74d01f458fba8a9eee33de806b476934"), looks := false }, kinds := [], alts := [], laidByText := true, laidKinds := [.data], laidTests := true, laidLooks := .later }
def HangSpreadsUptoCardSaid : Prop := Claim7.holds Tryd.pinned (.plain (OpenSpec.upto hangSpreadsSpec)) hangSpreadsUptoCard

/-- THE SECOND FORM's CARD OF 'codendlaw06.HangSums'. -/
def hangSumsUptoCard : Claim7 := { stood := { row := hangSumsUptoRow, standIns := [], harness := (true, "bb9c8a1f3b87a99a73053614bf73ec5a74d01f458fba8a9eee33de806b476934"), looks := false }, kinds := [], alts := [], laidByText := true, laidKinds := [.data], laidTests := true, laidLooks := .later }
def HangSumsUptoCardSaid : Prop := Claim7.holds Tryd.pinned (.plain (OpenSpec.upto hangSumsSpec)) hangSumsUptoCard
end Rows
end Go.Proofs.YtpngggdfbbdfaaaDoor
