/-
  DERIVED. GIVEN WITH THE SEED: THE CARDS: each row of YtfiopgedfcaodaaGreatDoorRows.lean that lists a variable, with what it lists TIED to the program's text (the seventh form; the later family's looks); each row that meets fmt, with fmt's text TOLD by the authors' own Lean function (tested against real Go, not proved from fmt's source: count such statements apart). THE CARD IS WHAT COUNTS. Prove the row's statement (the work); the ties are given (YtfiopgedfcaodaaGreatDoorTie.lean); close each card by the builder's one call (the guide's Derived/Test/ToyasCard.lean, 'card_holds'). Laid BY PROGRAM, IN A SANDBOX (cutbox-door.mjs). By AI agents, Wed Nov 11 2026. No macro, syntax, notation, axiom, sorry.
-/
import Derived.Test.YtfiopgedfcaodaaGreatDoorRows
import GoSem.ClaimSeven
namespace Go.Proofs.YtfiopgedfcaodaaGreatDoor
namespace Rows

/-- THE TIED CARD OF 'codendlaw04.SeamJoins'. -/
def seamJoinsCard : Claim7 := { stood := { row := seamJoinsRow, standIns := [], harness := (true, "22d1f53af195ce4a65371a8e296f4f56373d419fbce4718ff79501aa217ed00d"), looks := false }, kinds := [], alts := [], laidByText := true, laidKinds := [.data, .data, .data, .widerDeep], laidTests := true, laidLooks := .later }
def SeamJoinsCardSaid : Prop := Claim7.holds Tryz.pinned (.plain (OpenSpec.ofChange seamJoinsSpec)) seamJoinsCard

/-- THE TIED CARD OF 'codendlaw04.SeamTurns'. -/
def seamTurnsCard : Claim7 := { stood := { row := seamTurnsRow, standIns := [], harness := (true, "22d1f53af195ce4a65371a8e296f4f56373d419fbce4718ff79501aa217ed00d"), looks := false }, kinds := [], alts := [], laidByText := true, laidKinds := [.data, .data, .data, .widerDeep], laidTests := true, laidLooks := .later }
def SeamTurnsCardSaid : Prop := Claim7.holds Tryz.pinned (.plain (OpenSpec.ofChange seamTurnsSpec)) seamTurnsCard

/-- THE TIED CARD OF 'codendlaw04.SeamPieces'. -/
def seamPiecesCard : Claim7 := { stood := { row := seamPiecesRow, standIns := [], harness := (true, "22d1f53af195ce4a65371a8e296f4f56373d419fbce4718ff79501aa217ed00d"), looks := false }, kinds := [], alts := [], laidByText := true, laidKinds := [.data, .data, .data, .widerDeep], laidTests := true, laidLooks := .later }
def SeamPiecesCardSaid : Prop := Claim7.holds Tryz.pinned (.plain (OpenSpec.ofChange seamPiecesSpec)) seamPiecesCard

/-- THE TIED CARD OF 'codendlaw04.SeamSews'. -/
def seamSewsCard : Claim7 := { stood := { row := seamSewsRow, standIns := [], harness := (true, "22d1f53af195ce4a65371a8e296f4f56373d419fbce4718ff79501aa217ed00d"), looks := false }, kinds := [], alts := [], laidByText := true, laidKinds := [.data, .data, .data, .widerDeep], laidTests := true, laidLooks := .later }
def SeamSewsCardSaid : Prop := Claim7.holds Tryz.pinned (.plain (OpenSpec.ofChange seamSewsSpec)) seamSewsCard

/-- THE TIED CARD OF 'codendlaw04.SeamCounts'. -/
def seamCountsCard : Claim7 := { stood := { row := seamCountsRow, standIns := [], harness := (true, "22d1f53af195ce4a65371a8e296f4f56373d419fbce4718ff79501aa217ed00d"), looks := false }, kinds := [], alts := [], laidByText := true, laidKinds := [.data, .data, .data, .widerDeep], laidTests := true, laidLooks := .later }
def SeamCountsCardSaid : Prop := Claim7.holds Tryz.pinned (.plain (OpenSpec.ofChange seamCountsSpec)) seamCountsCard

/-- THE TIED CARD OF 'codendlaw04.SeamEvenly'. -/
def seamEvenlyCard : Claim7 := { stood := { row := seamEvenlyRow, standIns := [], harness := (true, "22d1f53af195ce4a65371a8e296f4f56373d419fbce4718ff79501aa217ed00d"), looks := false }, kinds := [], alts := [], laidByText := true, laidKinds := [.data, .data, .data, .widerDeep], laidTests := true, laidLooks := .later }
def SeamEvenlyCardSaid : Prop := Claim7.holds Tryz.pinned (.plain (OpenSpec.ofChange seamEvenlySpec)) seamEvenlyCard

/-- THE TIED CARD OF 'codendlaw04.SeamWhole'. -/
def seamWholeCard : Claim7 := { stood := { row := seamWholeRow, standIns := [], harness := (true, "22d1f53af195ce4a65371a8e296f4f56373d419fbce4718ff79501aa217ed00d"), looks := false }, kinds := [], alts := [], laidByText := true, laidKinds := [.data, .data, .data, .widerDeep], laidTests := true, laidLooks := .later }
def SeamWholeCardSaid : Prop := Claim7.holds Tryz.pinned (.plain (OpenSpec.ofChange seamWholeSpec)) seamWholeCard

/-- THE TIED CARD OF 'codendlaw04.SeamSteps'. -/
def seamStepsCard : Claim7 := { stood := { row := seamStepsRow, standIns := [], harness := (true, "22d1f53af195ce4a65371a8e296f4f56373d419fbce4718ff79501aa217ed00d"), looks := false }, kinds := [], alts := [], laidByText := true, laidKinds := [.data, .data, .data, .widerDeep], laidTests := true, laidLooks := .later }
def SeamStepsCardSaid : Prop := Claim7.holds Tryz.pinned (.plain (OpenSpec.ofChange seamStepsSpec)) seamStepsCard

/-- THE TIED CARD OF 'codendlaw04.SeamEdges'. -/
def seamEdgesCard : Claim7 := { stood := { row := seamEdgesRow, standIns := [], harness := (true, "22d1f53af195ce4a65371a8e296f4f56373d419fbce4718ff79501aa217ed00d"), looks := false }, kinds := [], alts := [], laidByText := true, laidKinds := [.data, .data, .data, .widerDeep], laidTests := true, laidLooks := .later }
def SeamEdgesCardSaid : Prop := Claim7.holds Tryz.pinned (.plain (OpenSpec.ofChange seamEdgesSpec)) seamEdgesCard

/-- THE TIED CARD OF 'codendlaw04.SeamRuns'. -/
def seamRunsCard : Claim7 := { stood := { row := seamRunsRow, standIns := [], harness := (true, "22d1f53af195ce4a65371a8e296f4f56373d419fbce4718ff79501aa217ed00d"), looks := false }, kinds := [], alts := [], laidByText := true, laidKinds := [.data, .data, .data, .widerDeep], laidTests := true, laidLooks := .later }
def SeamRunsCardSaid : Prop := Claim7.holds Tryz.pinned (.plain (OpenSpec.ofChange seamRunsSpec)) seamRunsCard

/-- THE TIED CARD OF 'codendlaw04.SeamSeams'. -/
def seamSeamsCard : Claim7 := { stood := { row := seamSeamsRow, standIns := [], harness := (true, "22d1f53af195ce4a65371a8e296f4f56373d419fbce4718ff79501aa217ed00d"), looks := false }, kinds := [], alts := [], laidByText := true, laidKinds := [.data, .data, .data, .widerDeep], laidTests := true, laidLooks := .later }
def SeamSeamsCardSaid : Prop := Claim7.holds Tryz.pinned (.plain (OpenSpec.ofChange seamSeamsSpec)) seamSeamsCard

/-- THE TIED CARD OF 'codendlaw04.SeamRates'. -/
def seamRatesCard : Claim7 := { stood := { row := seamRatesRow, standIns := [], harness := (true, "22d1f53af195ce4a65371a8e296f4f56373d419fbce4718ff79501aa217ed00d"), looks := false }, kinds := [], alts := [], laidByText := true, laidKinds := [.data, .data, .data, .data, .widerDeep, .pinned], laidTests := true, laidLooks := .later }
def SeamRatesCardSaid : Prop := Claim7.holds Tryz.pinned (.plain (OpenSpec.ofChange seamRatesSpec)) seamRatesCard

/-- THE TIED CARD OF 'codendlaw04.SeamRounds'. -/
def seamRoundsCard : Claim7 := { stood := { row := seamRoundsRow, standIns := [], harness := (true, "22d1f53af195ce4a65371a8e296f4f56373d419fbce4718ff79501aa217ed00d"), looks := false }, kinds := [], alts := [], laidByText := true, laidKinds := [.data, .data, .data, .data, .widerDeep, .pinned], laidTests := true, laidLooks := .later }
def SeamRoundsCardSaid : Prop := Claim7.holds Tryz.pinned (.plain (OpenSpec.ofChange seamRoundsSpec)) seamRoundsCard

/-- THE SECOND FORM's CARD OF 'codendlaw04.SeamJoins'. -/
def seamJoinsUptoCard : Claim7 := { stood := { row := seamJoinsUptoRow, standIns := [], harness := (true, "22d1f53af195ce4a65371a8e296f4f56373d419fbce4718ff79501aa217ed00d"), looks := false }, kinds := [], alts := [], laidByText := true, laidKinds := [.data, .data, .data, .widerDeep], laidTests := true, laidLooks := .later }
def SeamJoinsUptoCardSaid : Prop := Claim7.holds Tryz.pinned (.plain (OpenSpec.upto seamJoinsSpec)) seamJoinsUptoCard

/-- THE SECOND FORM's CARD OF 'codendlaw04.SeamTurns'. -/
def seamTurnsUptoCard : Claim7 := { stood := { row := seamTurnsUptoRow, standIns := [], harness := (true, "22d1f53af195ce4a65371a8e296f4f56373d419fbce4718ff79501aa217ed00d"), looks := false }, kinds := [], alts := [], laidByText := true, laidKinds := [.data, .data, .data, .widerDeep], laidTests := true, laidLooks := .later }
def SeamTurnsUptoCardSaid : Prop := Claim7.holds Tryz.pinned (.plain (OpenSpec.upto seamTurnsSpec)) seamTurnsUptoCard

/-- THE SECOND FORM's CARD OF 'codendlaw04.SeamPieces'. -/
def seamPiecesUptoCard : Claim7 := { stood := { row := seamPiecesUptoRow, standIns := [], harness := (true, "22d1f53af195ce4a65371a8e296f4f56373d419fbce4718ff79501aa217ed00d"), looks := false }, kinds := [], alts := [], laidByText := true, laidKinds := [.data, .data, .data, .widerDeep], laidTests := true, laidLooks := .later }
def SeamPiecesUptoCardSaid : Prop := Claim7.holds Tryz.pinned (.plain (OpenSpec.upto seamPiecesSpec)) seamPiecesUptoCard

/-- THE SECOND FORM's CARD OF 'codendlaw04.SeamSews'. -/
def seamSewsUptoCard : Claim7 := { stood := { row := seamSewsUptoRow, standIns := [], harness := (true, "22d1f53af195ce4a65371a8e296f4f56373d419fbce4718ff79501aa217ed00d"), looks := false }, kinds := [], alts := [], laidByText := true, laidKinds := [.data, .data, .data, .widerDeep], laidTests := true, laidLooks := .later }
def SeamSewsUptoCardSaid : Prop := Claim7.holds Tryz.pinned (.plain (OpenSpec.upto seamSewsSpec)) seamSewsUptoCard

/-- THE SECOND FORM's CARD OF 'codendlaw04.SeamCounts'. -/
def seamCountsUptoCard : Claim7 := { stood := { row := seamCountsUptoRow, standIns := [], harness := (true, "22d1f53af195ce4a65371a8e296f4f56373d419fbce4718ff79501aa217ed00d"), looks := false }, kinds := [], alts := [], laidByText := true, laidKinds := [.data, .data, .data, .widerDeep], laidTests := true, laidLooks := .later }
def SeamCountsUptoCardSaid : Prop := Claim7.holds Tryz.pinned (.plain (OpenSpec.upto seamCountsSpec)) seamCountsUptoCard

/-- THE SECOND FORM's CARD OF 'codendlaw04.SeamEvenly'. -/
def seamEvenlyUptoCard : Claim7 := { stood := { row := seamEvenlyUptoRow, standIns := [], harness := (true, "22d1f53af195ce4a65371a8e296f4f56373d419fbce4718ff79501aa217ed00d"), looks := false }, kinds := [], alts := [], laidByText := true, laidKinds := [.data, .data, .data, .widerDeep], laidTests := true, laidLooks := .later }
def SeamEvenlyUptoCardSaid : Prop := Claim7.holds Tryz.pinned (.plain (OpenSpec.upto seamEvenlySpec)) seamEvenlyUptoCard

/-- THE SECOND FORM's CARD OF 'codendlaw04.SeamWhole'. -/
def seamWholeUptoCard : Claim7 := { stood := { row := seamWholeUptoRow, standIns := [], harness := (true, "22d1f53af195ce4a65371a8e296f4f56373d419fbce4718ff79501aa217ed00d"), looks := false }, kinds := [], alts := [], laidByText := true, laidKinds := [.data, .data, .data, .widerDeep], laidTests := true, laidLooks := .later }
def SeamWholeUptoCardSaid : Prop := Claim7.holds Tryz.pinned (.plain (OpenSpec.upto seamWholeSpec)) seamWholeUptoCard

/-- THE SECOND FORM's CARD OF 'codendlaw04.SeamSteps'. -/
def seamStepsUptoCard : Claim7 := { stood := { row := seamStepsUptoRow, standIns := [], harness := (true, "22d1f53af195ce4a65371a8e296f4f56373d419fbce4718ff79501aa217ed00d"), looks := false }, kinds := [], alts := [], laidByText := true, laidKinds := [.data, .data, .data, .widerDeep], laidTests := true, laidLooks := .later }
def SeamStepsUptoCardSaid : Prop := Claim7.holds Tryz.pinned (.plain (OpenSpec.upto seamStepsSpec)) seamStepsUptoCard

/-- THE SECOND FORM's CARD OF 'codendlaw04.SeamEdges'. -/
def seamEdgesUptoCard : Claim7 := { stood := { row := seamEdgesUptoRow, standIns := [], harness := (true, "22d1f53af195ce4a65371a8e296f4f56373d419fbce4718ff79501aa217ed00d"), looks := false }, kinds := [], alts := [], laidByText := true, laidKinds := [.data, .data, .data, .widerDeep], laidTests := true, laidLooks := .later }
def SeamEdgesUptoCardSaid : Prop := Claim7.holds Tryz.pinned (.plain (OpenSpec.upto seamEdgesSpec)) seamEdgesUptoCard

/-- THE SECOND FORM's CARD OF 'codendlaw04.SeamRuns'. -/
def seamRunsUptoCard : Claim7 := { stood := { row := seamRunsUptoRow, standIns := [], harness := (true, "22d1f53af195ce4a65371a8e296f4f56373d419fbce4718ff79501aa217ed00d"), looks := false }, kinds := [], alts := [], laidByText := true, laidKinds := [.data, .data, .data, .widerDeep], laidTests := true, laidLooks := .later }
def SeamRunsUptoCardSaid : Prop := Claim7.holds Tryz.pinned (.plain (OpenSpec.upto seamRunsSpec)) seamRunsUptoCard

/-- THE SECOND FORM's CARD OF 'codendlaw04.SeamSeams'. -/
def seamSeamsUptoCard : Claim7 := { stood := { row := seamSeamsUptoRow, standIns := [], harness := (true, "22d1f53af195ce4a65371a8e296f4f56373d419fbce4718ff79501aa217ed00d"), looks := false }, kinds := [], alts := [], laidByText := true, laidKinds := [.data, .data, .data, .widerDeep], laidTests := true, laidLooks := .later }
def SeamSeamsUptoCardSaid : Prop := Claim7.holds Tryz.pinned (.plain (OpenSpec.upto seamSeamsSpec)) seamSeamsUptoCard

/-- THE SECOND FORM's CARD OF 'codendlaw04.SeamRates'. -/
def seamRatesUptoCard : Claim7 := { stood := { row := seamRatesUptoRow, standIns := [], harness := (true, "22d1f53af195ce4a65371a8e296f4f56373d419fbce4718ff79501aa217ed00d"), looks := false }, kinds := [], alts := [], laidByText := true, laidKinds := [.data, .data, .data, .data, .widerDeep, .pinned], laidTests := true, laidLooks := .later }
def SeamRatesUptoCardSaid : Prop := Claim7.holds Tryz.pinned (.plain (OpenSpec.upto seamRatesSpec)) seamRatesUptoCard

/-- THE SECOND FORM's CARD OF 'codendlaw04.SeamRounds'. -/
def seamRoundsUptoCard : Claim7 := { stood := { row := seamRoundsUptoRow, standIns := [], harness := (true, "22d1f53af195ce4a65371a8e296f4f56373d419fbce4718ff79501aa217ed00d"), looks := false }, kinds := [], alts := [], laidByText := true, laidKinds := [.data, .data, .data, .data, .widerDeep, .pinned], laidTests := true, laidLooks := .later }
def SeamRoundsUptoCardSaid : Prop := Claim7.holds Tryz.pinned (.plain (OpenSpec.upto seamRoundsSpec)) seamRoundsUptoCard
end Rows
end Go.Proofs.YtfiopgedfcaodaaGreatDoor
