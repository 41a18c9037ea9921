/-
  DERIVED. GIVEN WITH THE SEED: THE CARDS: each row of YtldcljfjjoidhaaGreatDoorRows.lean that lists a variable, with what it lists TIED to the program's text (the seventh form; the later family's looks); each row that meets fmt, with fmt's text TOLD by the authors' own Lean function (tested against real Go, not proved from fmt's source: count such statements apart). THE CARD IS WHAT COUNTS. Prove the row's statement (the work); the ties are given (YtldcljfjjoidhaaGreatDoorTie.lean); close each card by the builder's one call (the guide's Derived/Test/ToyasCard.lean, 'card_holds'). Laid BY PROGRAM, IN A SANDBOX (cutbox-door.mjs). By AI agents, Wed Nov 11 2026. No macro, syntax, notation, axiom, sorry.
-/
import Derived.Test.YtldcljfjjoidhaaGreatDoorRows
import GoSem.ClaimSeven
namespace Go.Proofs.YtldcljfjjoidhaaGreatDoor
namespace Rows

/-- THE TIED CARD OF 'codendlaw08.BraidRows'. -/
def braidRowsCard : Claim7 := { stood := { row := braidRowsRow, standIns := [], harness := (true, "deb4da5057572103377ec8de70cfe10286de4363f67991ff94e1c452aa320a7a"), looks := false }, kinds := [], alts := [], laidByText := true, laidKinds := [.data, .data, .data, .data, .pinned], laidTests := true, laidLooks := .later }
def BraidRowsCardSaid : Prop := Claim7.holds Tryz.pinned (.plain (OpenSpec.ofChange braidRowsSpec)) braidRowsCard

/-- THE TIED CARD OF 'codendlaw08.BraidTexts'. -/
def braidTextsCard : Claim7 := { stood := { row := braidTextsRow, standIns := [], harness := (true, "deb4da5057572103377ec8de70cfe10286de4363f67991ff94e1c452aa320a7a"), looks := false }, kinds := [], alts := [], laidByText := true, laidKinds := [.data, .data, .data, .data, .pinned], laidTests := true, laidLooks := .later }
def BraidTextsCardSaid : Prop := Claim7.holds Tryz.pinned (.plain (OpenSpec.ofChange braidTextsSpec)) braidTextsCard

/-- THE TIED CARD OF 'codendlaw08.BraidStrict'. -/
def braidStrictCard : Claim7 := { stood := { row := braidStrictRow, standIns := [], harness := (true, "deb4da5057572103377ec8de70cfe10286de4363f67991ff94e1c452aa320a7a"), looks := false }, kinds := [], alts := [], laidByText := true, laidKinds := [.data, .data, .data, .data, .pinned], laidTests := true, laidLooks := .later }
def BraidStrictCardSaid : Prop := Claim7.holds Tryz.pinned (.plain (OpenSpec.ofChange braidStrictSpec)) braidStrictCard

/-- THE TIED CARD OF 'codendlaw08.BraidPrograms'. -/
def braidProgramsCard : Claim7 := { stood := { row := braidProgramsRow, standIns := [], harness := (true, "deb4da5057572103377ec8de70cfe10286de4363f67991ff94e1c452aa320a7a"), looks := false }, kinds := [], alts := [], laidByText := true, laidKinds := [.data, .data, .data, .data, .pinned], laidTests := true, laidLooks := .later }
def BraidProgramsCardSaid : Prop := Claim7.holds Tryz.pinned (.plain (OpenSpec.ofChange braidProgramsSpec)) braidProgramsCard

/-- THE TIED CARD OF 'codendlaw08.BraidCourses'. -/
def braidCoursesCard : Claim7 := { stood := { row := braidCoursesRow, standIns := [], harness := (true, "deb4da5057572103377ec8de70cfe10286de4363f67991ff94e1c452aa320a7a"), looks := false }, kinds := [], alts := [], laidByText := true, laidKinds := [.data, .data, .data, .data, .pinned], laidTests := true, laidLooks := .later }
def BraidCoursesCardSaid : Prop := Claim7.holds Tryz.pinned (.plain (OpenSpec.ofChange braidCoursesSpec)) braidCoursesCard

/-- THE TIED CARD OF 'codendlaw08.BraidCompiles'. -/
def braidCompilesCard : Claim7 := { stood := { row := braidCompilesRow, standIns := [], harness := (true, "deb4da5057572103377ec8de70cfe10286de4363f67991ff94e1c452aa320a7a"), looks := false }, kinds := [], alts := [], laidByText := true, laidKinds := [.data, .data, .data, .data, .pinned], laidTests := true, laidLooks := .later }
def BraidCompilesCardSaid : Prop := Claim7.holds Tryz.pinned (.plain (OpenSpec.ofChange braidCompilesSpec)) braidCompilesCard

/-- THE TIED CARD OF 'codendlaw08.BraidMakes'. -/
def braidMakesCard : Claim7 := { stood := { row := braidMakesRow, standIns := [], harness := (true, "deb4da5057572103377ec8de70cfe10286de4363f67991ff94e1c452aa320a7a"), looks := false }, kinds := [], alts := [], laidByText := true, laidKinds := [.data, .data, .data, .data, .pinned], laidTests := true, laidLooks := .later }
def BraidMakesCardSaid : Prop := Claim7.holds Tryz.pinned (.plain (OpenSpec.ofChange braidMakesSpec)) braidMakesCard

/-- THE TIED CARD OF 'codendlaw08.BraidSteps'. -/
def braidStepsCard : Claim7 := { stood := { row := braidStepsRow, standIns := [], harness := (true, "deb4da5057572103377ec8de70cfe10286de4363f67991ff94e1c452aa320a7a"), looks := false }, kinds := [], alts := [], laidByText := true, laidKinds := [.data, .data, .data, .data, .pinned], laidTests := true, laidLooks := .later }
def BraidStepsCardSaid : Prop := Claim7.holds Tryz.pinned (.plain (OpenSpec.ofChange braidStepsSpec)) braidStepsCard

/-- THE TIED CARD OF 'codendlaw08.BraidChanges'. -/
def braidChangesCard : Claim7 := { stood := { row := braidChangesRow, standIns := [], harness := (true, "deb4da5057572103377ec8de70cfe10286de4363f67991ff94e1c452aa320a7a"), looks := false }, kinds := [], alts := [], laidByText := true, laidKinds := [.data, .data, .data, .data, .pinned], laidTests := true, laidLooks := .later }
def BraidChangesCardSaid : Prop := Claim7.holds Tryz.pinned (.plain (OpenSpec.ofChange braidChangesSpec)) braidChangesCard

/-- THE TIED CARD OF 'codendlaw08.BraidRounds'. -/
def braidRoundsCard : Claim7 := { stood := { row := braidRoundsRow, standIns := [], harness := (true, "deb4da5057572103377ec8de70cfe10286de4363f67991ff94e1c452aa320a7a"), looks := false }, kinds := [], alts := [], laidByText := true, laidKinds := [.data, .data, .data, .data, .pinned], laidTests := true, laidLooks := .later }
def BraidRoundsCardSaid : Prop := Claim7.holds Tryz.pinned (.plain (OpenSpec.ofChange braidRoundsSpec)) braidRoundsCard

/-- THE SECOND FORM's CARD OF 'codendlaw08.BraidRows'. -/
def braidRowsUptoCard : Claim7 := { stood := { row := braidRowsUptoRow, standIns := [], harness := (true, "deb4da5057572103377ec8de70cfe10286de4363f67991ff94e1c452aa320a7a"), looks := false }, kinds := [], alts := [], laidByText := true, laidKinds := [.data, .data, .data, .data, .pinned], laidTests := true, laidLooks := .later }
def BraidRowsUptoCardSaid : Prop := Claim7.holds Tryz.pinned (.plain (OpenSpec.upto braidRowsSpec)) braidRowsUptoCard

/-- THE SECOND FORM's CARD OF 'codendlaw08.BraidTexts'. -/
def braidTextsUptoCard : Claim7 := { stood := { row := braidTextsUptoRow, standIns := [], harness := (true, "deb4da5057572103377ec8de70cfe10286de4363f67991ff94e1c452aa320a7a"), looks := false }, kinds := [], alts := [], laidByText := true, laidKinds := [.data, .data, .data, .data, .pinned], laidTests := true, laidLooks := .later }
def BraidTextsUptoCardSaid : Prop := Claim7.holds Tryz.pinned (.plain (OpenSpec.upto braidTextsSpec)) braidTextsUptoCard

/-- THE SECOND FORM's CARD OF 'codendlaw08.BraidStrict'. -/
def braidStrictUptoCard : Claim7 := { stood := { row := braidStrictUptoRow, standIns := [], harness := (true, "deb4da5057572103377ec8de70cfe10286de4363f67991ff94e1c452aa320a7a"), looks := false }, kinds := [], alts := [], laidByText := true, laidKinds := [.data, .data, .data, .data, .pinned], laidTests := true, laidLooks := .later }
def BraidStrictUptoCardSaid : Prop := Claim7.holds Tryz.pinned (.plain (OpenSpec.upto braidStrictSpec)) braidStrictUptoCard

/-- THE SECOND FORM's CARD OF 'codendlaw08.BraidPrograms'. -/
def braidProgramsUptoCard : Claim7 := { stood := { row := braidProgramsUptoRow, standIns := [], harness := (true, "deb4da5057572103377ec8de70cfe10286de4363f67991ff94e1c452aa320a7a"), looks := false }, kinds := [], alts := [], laidByText := true, laidKinds := [.data, .data, .data, .data, .pinned], laidTests := true, laidLooks := .later }
def BraidProgramsUptoCardSaid : Prop := Claim7.holds Tryz.pinned (.plain (OpenSpec.upto braidProgramsSpec)) braidProgramsUptoCard

/-- THE SECOND FORM's CARD OF 'codendlaw08.BraidCourses'. -/
def braidCoursesUptoCard : Claim7 := { stood := { row := braidCoursesUptoRow, standIns := [], harness := (true, "deb4da5057572103377ec8de70cfe10286de4363f67991ff94e1c452aa320a7a"), looks := false }, kinds := [], alts := [], laidByText := true, laidKinds := [.data, .data, .data, .data, .pinned], laidTests := true, laidLooks := .later }
def BraidCoursesUptoCardSaid : Prop := Claim7.holds Tryz.pinned (.plain (OpenSpec.upto braidCoursesSpec)) braidCoursesUptoCard

/-- THE SECOND FORM's CARD OF 'codendlaw08.BraidCompiles'. -/
def braidCompilesUptoCard : Claim7 := { stood := { row := braidCompilesUptoRow, standIns := [], harness := (true, "deb4da5057572103377ec8de70cfe10286de4363f67991ff94e1c452aa320a7a"), looks := false }, kinds := [], alts := [], laidByText := true, laidKinds := [.data, .data, .data, .data, .pinned], laidTests := true, laidLooks := .later }
def BraidCompilesUptoCardSaid : Prop := Claim7.holds Tryz.pinned (.plain (OpenSpec.upto braidCompilesSpec)) braidCompilesUptoCard

/-- THE SECOND FORM's CARD OF 'codendlaw08.BraidMakes'. -/
def braidMakesUptoCard : Claim7 := { stood := { row := braidMakesUptoRow, standIns := [], harness := (true, "deb4da5057572103377ec8de70cfe10286de4363f67991ff94e1c452aa320a7a"), looks := false }, kinds := [], alts := [], laidByText := true, laidKinds := [.data, .data, .data, .data, .pinned], laidTests := true, laidLooks := .later }
def BraidMakesUptoCardSaid : Prop := Claim7.holds Tryz.pinned (.plain (OpenSpec.upto braidMakesSpec)) braidMakesUptoCard

/-- THE SECOND FORM's CARD OF 'codendlaw08.BraidSteps'. -/
def braidStepsUptoCard : Claim7 := { stood := { row := braidStepsUptoRow, standIns := [], harness := (true, "deb4da5057572103377ec8de70cfe10286de4363f67991ff94e1c452aa320a7a"), looks := false }, kinds := [], alts := [], laidByText := true, laidKinds := [.data, .data, .data, .data, .pinned], laidTests := true, laidLooks := .later }
def BraidStepsUptoCardSaid : Prop := Claim7.holds Tryz.pinned (.plain (OpenSpec.upto braidStepsSpec)) braidStepsUptoCard

/-- THE SECOND FORM's CARD OF 'codendlaw08.BraidChanges'. -/
def braidChangesUptoCard : Claim7 := { stood := { row := braidChangesUptoRow, standIns := [], harness := (true, "deb4da5057572103377ec8de70cfe10286de4363f67991ff94e1c452aa320a7a"), looks := false }, kinds := [], alts := [], laidByText := true, laidKinds := [.data, .data, .data, .data, .pinned], laidTests := true, laidLooks := .later }
def BraidChangesUptoCardSaid : Prop := Claim7.holds Tryz.pinned (.plain (OpenSpec.upto braidChangesSpec)) braidChangesUptoCard

/-- THE SECOND FORM's CARD OF 'codendlaw08.BraidRounds'. -/
def braidRoundsUptoCard : Claim7 := { stood := { row := braidRoundsUptoRow, standIns := [], harness := (true, "deb4da5057572103377ec8de70cfe10286de4363f67991ff94e1c452aa320a7a"), looks := false }, kinds := [], alts := [], laidByText := true, laidKinds := [.data, .data, .data, .data, .pinned], laidTests := true, laidLooks := .later }
def BraidRoundsUptoCardSaid : Prop := Claim7.holds Tryz.pinned (.plain (OpenSpec.upto braidRoundsSpec)) braidRoundsUptoCard
end Rows
end Go.Proofs.YtldcljfjjoidhaaGreatDoor
