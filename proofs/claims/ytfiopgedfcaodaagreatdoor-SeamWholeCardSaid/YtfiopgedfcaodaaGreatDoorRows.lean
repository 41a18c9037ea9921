/-
  NARROWER THAN 'FOR EVERY INPUT', by the rows' own cells (each row's printed sentence says how): SeamJoins: laid · SeamTurns: laid · SeamPieces: laid · SeamSews: laid · SeamCounts: laid · SeamEvenly: laid · SeamWhole: laid · SeamSteps: laid · SeamEdges: laid · SeamRuns: laid · SeamSeams: laid · SeamRates: laid · SeamRounds: laid.
  DERIVED. THE GIVEN ROWS OF THIS SEAT. 13 by the template 'for every input the law returns true; each argument reads behind the call as it read before'; 0 by the template 'total and deterministic' (their statements: YtfiopgedfcaodaaGreatDoorTotals.lean).
  GIVEN WITH THE SEED: the statements are not yours to turn. If you find one false, say at which input.
  Laid BY PROGRAM, IN A SANDBOX (cutbox-rows.mjs): the forced cells as the released guide's own fill.sh prints them over the translation 438fa487e526f509… (all of the seat's roots in one cut). By AI agents, Wed Nov 11 2026. No macro, syntax, notation, axiom, sorry.
-/
import Derived.Test.YtfiopgedfcaodaaGreatDoorChecked
import GoSem.PinnedTables
import GoSem.Claim
import GoSem.ClaimJoined
import GoSem.ClaimMapViews
import Derived.JoinedTies
import Derived.KernelRfl
namespace Go.Proofs.YtfiopgedfcaodaaGreatDoor
/- THE CELL 'sum', in the pinned program and in every row, IS THE sha256 OF THE DUMP (.gsa) THAT YtfiopgedfcaodaaGreatDoorProg.lean LOADS. Nothing in Lean hashes anything: it is a label: what it is worth is what the hold of that sum in a sandbox is worth. -/
noncomputable def Tryz.pinned : Pinned := { name := "ytfiopgedfcaodaagreatdoor", sum := "438fa487e526f509175fc83538ca74b25f7a9f545be9d413659da9b468735ddd", checked := Tryz.checked }
namespace Rows
def none {H : Type} : Left H := { results := [], args := [] }

/- WHAT THE LISTED PACKAGE-LEVEL VARIABLES READ AS WHEN THE CALL BEGINS. Each datum BY PROGRAM (the guide's laid-datum.mjs) off the statement by which the dump's own 'gosem.cut.vars' lays the variable. In a bare row this is a premise. The card (YtfiopgedfcaodaaGreatDoorCards.lean) ties it to the program's text. -/
def laid_math_bits_deBruijn32tab {H : Type} : DataW H := .agg [.lit (.int .u8 0), .lit (.int .u8 1), .lit (.int .u8 28), .lit (.int .u8 2), .lit (.int .u8 29), .lit (.int .u8 14), .lit (.int .u8 24), .lit (.int .u8 3), .lit (.int .u8 30), .lit (.int .u8 22), .lit (.int .u8 20), .lit (.int .u8 15), .lit (.int .u8 25), .lit (.int .u8 17), .lit (.int .u8 4), .lit (.int .u8 8), .lit (.int .u8 31), .lit (.int .u8 27), .lit (.int .u8 13), .lit (.int .u8 23), .lit (.int .u8 21), .lit (.int .u8 19), .lit (.int .u8 16), .lit (.int .u8 7), .lit (.int .u8 26), .lit (.int .u8 12), .lit (.int .u8 18), .lit (.int .u8 6), .lit (.int .u8 11), .lit (.int .u8 5), .lit (.int .u8 10), .lit (.int .u8 9)]
def laid_math_bits_deBruijn64tab {H : Type} : DataW H := .agg [.lit (.int .u8 0), .lit (.int .u8 1), .lit (.int .u8 56), .lit (.int .u8 2), .lit (.int .u8 57), .lit (.int .u8 49), .lit (.int .u8 28), .lit (.int .u8 3), .lit (.int .u8 61), .lit (.int .u8 58), .lit (.int .u8 42), .lit (.int .u8 50), .lit (.int .u8 38), .lit (.int .u8 29), .lit (.int .u8 17), .lit (.int .u8 4), .lit (.int .u8 62), .lit (.int .u8 47), .lit (.int .u8 59), .lit (.int .u8 36), .lit (.int .u8 45), .lit (.int .u8 43), .lit (.int .u8 51), .lit (.int .u8 22), .lit (.int .u8 53), .lit (.int .u8 39), .lit (.int .u8 33), .lit (.int .u8 30), .lit (.int .u8 24), .lit (.int .u8 18), .lit (.int .u8 12), .lit (.int .u8 5), .lit (.int .u8 63), .lit (.int .u8 55), .lit (.int .u8 48), .lit (.int .u8 27), .lit (.int .u8 60), .lit (.int .u8 41), .lit (.int .u8 37), .lit (.int .u8 16), .lit (.int .u8 46), .lit (.int .u8 35), .lit (.int .u8 44), .lit (.int .u8 21), .lit (.int .u8 52), .lit (.int .u8 32), .lit (.int .u8 23), .lit (.int .u8 11), .lit (.int .u8 54), .lit (.int .u8 26), .lit (.int .u8 40), .lit (.int .u8 15), .lit (.int .u8 34), .lit (.int .u8 20), .lit (.int .u8 31), .lit (.int .u8 10), .lit (.int .u8 25), .lit (.int .u8 14), .lit (.int .u8 19), .lit (.int .u8 9), .lit (.int .u8 13), .lit (.int .u8 8), .lit (.int .u8 7), .lit (.int .u8 6)]
def laid_internal_strconv_uint64pow10 {H : Type} : DataW H := .agg [.lit (.int .u64 1), .lit (.int .u64 10), .lit (.int .u64 100), .lit (.int .u64 1000), .lit (.int .u64 10000), .lit (.int .u64 100000), .lit (.int .u64 1000000), .lit (.int .u64 10000000), .lit (.int .u64 100000000), .lit (.int .u64 1000000000), .lit (.int .u64 10000000000), .lit (.int .u64 100000000000), .lit (.int .u64 1000000000000), .lit (.int .u64 10000000000000), .lit (.int .u64 100000000000000), .lit (.int .u64 1000000000000000), .lit (.int .u64 10000000000000000), .lit (.int .u64 100000000000000000), .lit (.int .u64 1000000000000000000), .lit (.int .u64 10000000000000000000)]
def laid_codend_seam_steps {H : Type} : DataW H := .agg [.agg [.lit (.int .i64 1), .lit (.int .i64 1)], .agg [.lit (.int .i64 1), .lit (.int .i64 (-1))], .agg [.lit (.int .i64 (-1)), .lit (.int .i64 1)], .agg [.lit (.int .i64 (-1)), .lit (.int .i64 (-1))], .agg [.lit (.int .i64 2), .lit (.int .i64 0)], .agg [.lit (.int .i64 (-2)), .lit (.int .i64 0)], .agg [.lit (.int .i64 0), .lit (.int .i64 2)], .agg [.lit (.int .i64 0), .lit (.int .i64 (-2))]]
def laid_unicode_utf8_acceptRanges {H : Type} : DataW H := .agg [.agg [.lit (.int .u8 128), .lit (.int .u8 191)], .agg [.lit (.int .u8 160), .lit (.int .u8 191)], .agg [.lit (.int .u8 128), .lit (.int .u8 159)], .agg [.lit (.int .u8 144), .lit (.int .u8 191)], .agg [.lit (.int .u8 128), .lit (.int .u8 143)], .agg [.lit (.int .u8 0), .lit (.int .u8 0)], .agg [.lit (.int .u8 0), .lit (.int .u8 0)], .agg [.lit (.int .u8 0), .lit (.int .u8 0)], .agg [.lit (.int .u8 0), .lit (.int .u8 0)], .agg [.lit (.int .u8 0), .lit (.int .u8 0)], .agg [.lit (.int .u8 0), .lit (.int .u8 0)], .agg [.lit (.int .u8 0), .lit (.int .u8 0)], .agg [.lit (.int .u8 0), .lit (.int .u8 0)], .agg [.lit (.int .u8 0), .lit (.int .u8 0)], .agg [.lit (.int .u8 0), .lit (.int .u8 0)], .agg [.lit (.int .u8 0), .lit (.int .u8 0)]]
/-- One of Go's own tables, pinned by name: the form's constant. -/
def laid_unicode_utf8_first : DataW Unit := Go.Pinned.utf8First

/-- 'codendlaw04.SeamJoins': WHATEVER THE INPUT: true; the input reads as it did. -/
def seamJoinsSpec : ChangeSpec := { name := "seamJoins", fn := fun _ => fun
  | [d1, d2, d3] => { results := [.lit (.bool true)], args := [d1, d2, d3] }
  | _ => none }
def seamJoinsRow : OpenClaim := { program := "ytfiopgedfcaodaagreatdoor", sum := "438fa487e526f509175fc83538ca74b25f7a9f545be9d413659da9b468735ddd", func := "codend/codendlaw04.SeamJoins", spec := "seamJoins", inPlace := ["internal/abi.NoEscape", "internal/bytealg.MakeNoZero"], unfollowed := true, recurses := true, named := ["internal/strconv.uint64pow10", "math/bits.deBruijn32tab", "math/bits.deBruijn64tab", "codend/seam.steps"], plainKeys := false, apart := false, laid := [("math/bits.deBruijn32tab", laid_math_bits_deBruijn32tab), ("math/bits.deBruijn64tab", laid_math_bits_deBruijn64tab), ("internal/strconv.uint64pow10", laid_internal_strconv_uint64pow10), ("codend/seam.steps", laid_codend_seam_steps)] }
def SeamJoinsSaid : Prop := seamJoinsRow.holds Tryz.pinned (OpenSpec.ofChange seamJoinsSpec)

/-- ITS FALSE NEIGHBOUR: 'it returns false'. Refute it at one input. -/
def seamJoinsWrong : ChangeSpec := { name := "seamJoins", fn := fun _ => fun
  | [d1, d2, d3] => { results := [.lit (.bool false)], args := [d1, d2, d3] }
  | _ => none }
def SeamJoinsWrongFalsely : Prop := seamJoinsRow.holds Tryz.pinned (OpenSpec.ofChange seamJoinsWrong)

/-- 'codendlaw04.SeamTurns': WHATEVER THE INPUT: true; the input reads as it did. -/
def seamTurnsSpec : ChangeSpec := { name := "seamTurns", fn := fun _ => fun
  | [d1, d2] => { results := [.lit (.bool true)], args := [d1, d2] }
  | _ => none }
def seamTurnsRow : OpenClaim := { program := "ytfiopgedfcaodaagreatdoor", sum := "438fa487e526f509175fc83538ca74b25f7a9f545be9d413659da9b468735ddd", func := "codend/codendlaw04.SeamTurns", spec := "seamTurns", inPlace := ["internal/abi.NoEscape", "internal/bytealg.MakeNoZero"], unfollowed := true, recurses := true, named := ["internal/strconv.uint64pow10", "math/bits.deBruijn32tab", "math/bits.deBruijn64tab", "codend/seam.steps"], plainKeys := false, apart := false, laid := [("math/bits.deBruijn32tab", laid_math_bits_deBruijn32tab), ("math/bits.deBruijn64tab", laid_math_bits_deBruijn64tab), ("internal/strconv.uint64pow10", laid_internal_strconv_uint64pow10), ("codend/seam.steps", laid_codend_seam_steps)] }
def SeamTurnsSaid : Prop := seamTurnsRow.holds Tryz.pinned (OpenSpec.ofChange seamTurnsSpec)

/-- ITS FALSE NEIGHBOUR: 'it returns false'. Refute it at one input. -/
def seamTurnsWrong : ChangeSpec := { name := "seamTurns", fn := fun _ => fun
  | [d1, d2] => { results := [.lit (.bool false)], args := [d1, d2] }
  | _ => none }
def SeamTurnsWrongFalsely : Prop := seamTurnsRow.holds Tryz.pinned (OpenSpec.ofChange seamTurnsWrong)

/-- 'codendlaw04.SeamPieces': WHATEVER THE INPUT: true; the input reads as it did. -/
def seamPiecesSpec : ChangeSpec := { name := "seamPieces", fn := fun _ => fun
  | [d1, d2, d3] => { results := [.lit (.bool true)], args := [d1, d2, d3] }
  | _ => none }
def seamPiecesRow : OpenClaim := { program := "ytfiopgedfcaodaagreatdoor", sum := "438fa487e526f509175fc83538ca74b25f7a9f545be9d413659da9b468735ddd", func := "codend/codendlaw04.SeamPieces", spec := "seamPieces", inPlace := ["internal/abi.NoEscape", "internal/bytealg.MakeNoZero"], unfollowed := true, recurses := true, named := ["internal/strconv.uint64pow10", "math/bits.deBruijn32tab", "math/bits.deBruijn64tab", "codend/seam.steps"], plainKeys := false, apart := false, laid := [("math/bits.deBruijn32tab", laid_math_bits_deBruijn32tab), ("math/bits.deBruijn64tab", laid_math_bits_deBruijn64tab), ("internal/strconv.uint64pow10", laid_internal_strconv_uint64pow10), ("codend/seam.steps", laid_codend_seam_steps)] }
def SeamPiecesSaid : Prop := seamPiecesRow.holds Tryz.pinned (OpenSpec.ofChange seamPiecesSpec)

/-- ITS FALSE NEIGHBOUR: 'it returns false'. Refute it at one input. -/
def seamPiecesWrong : ChangeSpec := { name := "seamPieces", fn := fun _ => fun
  | [d1, d2, d3] => { results := [.lit (.bool false)], args := [d1, d2, d3] }
  | _ => none }
def SeamPiecesWrongFalsely : Prop := seamPiecesRow.holds Tryz.pinned (OpenSpec.ofChange seamPiecesWrong)

/-- 'codendlaw04.SeamSews': WHATEVER THE INPUT: true; the input reads as it did. -/
def seamSewsSpec : ChangeSpec := { name := "seamSews", fn := fun _ => fun
  | [d1, d2] => { results := [.lit (.bool true)], args := [d1, d2] }
  | _ => none }
def seamSewsRow : OpenClaim := { program := "ytfiopgedfcaodaagreatdoor", sum := "438fa487e526f509175fc83538ca74b25f7a9f545be9d413659da9b468735ddd", func := "codend/codendlaw04.SeamSews", spec := "seamSews", inPlace := ["internal/abi.NoEscape", "internal/bytealg.MakeNoZero"], unfollowed := true, recurses := true, named := ["internal/strconv.uint64pow10", "math/bits.deBruijn32tab", "math/bits.deBruijn64tab", "codend/seam.steps"], plainKeys := false, apart := false, laid := [("math/bits.deBruijn32tab", laid_math_bits_deBruijn32tab), ("math/bits.deBruijn64tab", laid_math_bits_deBruijn64tab), ("internal/strconv.uint64pow10", laid_internal_strconv_uint64pow10), ("codend/seam.steps", laid_codend_seam_steps)] }
def SeamSewsSaid : Prop := seamSewsRow.holds Tryz.pinned (OpenSpec.ofChange seamSewsSpec)

/-- ITS FALSE NEIGHBOUR: 'it returns false'. Refute it at one input. -/
def seamSewsWrong : ChangeSpec := { name := "seamSews", fn := fun _ => fun
  | [d1, d2] => { results := [.lit (.bool false)], args := [d1, d2] }
  | _ => none }
def SeamSewsWrongFalsely : Prop := seamSewsRow.holds Tryz.pinned (OpenSpec.ofChange seamSewsWrong)

/-- 'codendlaw04.SeamCounts': WHATEVER THE INPUT: true; the input reads as it did. -/
def seamCountsSpec : ChangeSpec := { name := "seamCounts", fn := fun _ => fun
  | [d1, d2] => { results := [.lit (.bool true)], args := [d1, d2] }
  | _ => none }
def seamCountsRow : OpenClaim := { program := "ytfiopgedfcaodaagreatdoor", sum := "438fa487e526f509175fc83538ca74b25f7a9f545be9d413659da9b468735ddd", func := "codend/codendlaw04.SeamCounts", spec := "seamCounts", inPlace := ["internal/abi.NoEscape", "internal/bytealg.MakeNoZero"], unfollowed := true, recurses := true, named := ["internal/strconv.uint64pow10", "math/bits.deBruijn32tab", "math/bits.deBruijn64tab", "codend/seam.steps"], plainKeys := false, apart := false, laid := [("math/bits.deBruijn32tab", laid_math_bits_deBruijn32tab), ("math/bits.deBruijn64tab", laid_math_bits_deBruijn64tab), ("internal/strconv.uint64pow10", laid_internal_strconv_uint64pow10), ("codend/seam.steps", laid_codend_seam_steps)] }
def SeamCountsSaid : Prop := seamCountsRow.holds Tryz.pinned (OpenSpec.ofChange seamCountsSpec)

/-- ITS FALSE NEIGHBOUR: 'it returns false'. Refute it at one input. -/
def seamCountsWrong : ChangeSpec := { name := "seamCounts", fn := fun _ => fun
  | [d1, d2] => { results := [.lit (.bool false)], args := [d1, d2] }
  | _ => none }
def SeamCountsWrongFalsely : Prop := seamCountsRow.holds Tryz.pinned (OpenSpec.ofChange seamCountsWrong)

/-- 'codendlaw04.SeamEvenly': WHATEVER THE INPUT: true; the input reads as it did. -/
def seamEvenlySpec : ChangeSpec := { name := "seamEvenly", fn := fun _ => fun
  | [d1, d2, d3] => { results := [.lit (.bool true)], args := [d1, d2, d3] }
  | _ => none }
def seamEvenlyRow : OpenClaim := { program := "ytfiopgedfcaodaagreatdoor", sum := "438fa487e526f509175fc83538ca74b25f7a9f545be9d413659da9b468735ddd", func := "codend/codendlaw04.SeamEvenly", spec := "seamEvenly", inPlace := ["internal/abi.NoEscape", "internal/bytealg.MakeNoZero"], unfollowed := true, recurses := true, named := ["internal/strconv.uint64pow10", "math/bits.deBruijn32tab", "math/bits.deBruijn64tab", "codend/seam.steps"], plainKeys := false, apart := false, laid := [("math/bits.deBruijn32tab", laid_math_bits_deBruijn32tab), ("math/bits.deBruijn64tab", laid_math_bits_deBruijn64tab), ("internal/strconv.uint64pow10", laid_internal_strconv_uint64pow10), ("codend/seam.steps", laid_codend_seam_steps)] }
def SeamEvenlySaid : Prop := seamEvenlyRow.holds Tryz.pinned (OpenSpec.ofChange seamEvenlySpec)

/-- ITS FALSE NEIGHBOUR: 'it returns false'. Refute it at one input. -/
def seamEvenlyWrong : ChangeSpec := { name := "seamEvenly", fn := fun _ => fun
  | [d1, d2, d3] => { results := [.lit (.bool false)], args := [d1, d2, d3] }
  | _ => none }
def SeamEvenlyWrongFalsely : Prop := seamEvenlyRow.holds Tryz.pinned (OpenSpec.ofChange seamEvenlyWrong)

/-- 'codendlaw04.SeamWhole': WHATEVER THE INPUT: true; the input reads as it did. -/
def seamWholeSpec : ChangeSpec := { name := "seamWhole", fn := fun _ => fun
  | [d1, d2] => { results := [.lit (.bool true)], args := [d1, d2] }
  | _ => none }
def seamWholeRow : OpenClaim := { program := "ytfiopgedfcaodaagreatdoor", sum := "438fa487e526f509175fc83538ca74b25f7a9f545be9d413659da9b468735ddd", func := "codend/codendlaw04.SeamWhole", spec := "seamWhole", inPlace := ["internal/abi.NoEscape", "internal/bytealg.MakeNoZero"], unfollowed := true, recurses := true, named := ["internal/strconv.uint64pow10", "math/bits.deBruijn32tab", "math/bits.deBruijn64tab", "codend/seam.steps"], plainKeys := false, apart := false, laid := [("math/bits.deBruijn32tab", laid_math_bits_deBruijn32tab), ("math/bits.deBruijn64tab", laid_math_bits_deBruijn64tab), ("internal/strconv.uint64pow10", laid_internal_strconv_uint64pow10), ("codend/seam.steps", laid_codend_seam_steps)] }
def SeamWholeSaid : Prop := seamWholeRow.holds Tryz.pinned (OpenSpec.ofChange seamWholeSpec)

/-- ITS FALSE NEIGHBOUR: 'it returns false'. Refute it at one input. -/
def seamWholeWrong : ChangeSpec := { name := "seamWhole", fn := fun _ => fun
  | [d1, d2] => { results := [.lit (.bool false)], args := [d1, d2] }
  | _ => none }
def SeamWholeWrongFalsely : Prop := seamWholeRow.holds Tryz.pinned (OpenSpec.ofChange seamWholeWrong)

/-- 'codendlaw04.SeamSteps': WHATEVER THE INPUT: true; the input reads as it did. -/
def seamStepsSpec : ChangeSpec := { name := "seamSteps", fn := fun _ => fun
  | [d1, d2] => { results := [.lit (.bool true)], args := [d1, d2] }
  | _ => none }
def seamStepsRow : OpenClaim := { program := "ytfiopgedfcaodaagreatdoor", sum := "438fa487e526f509175fc83538ca74b25f7a9f545be9d413659da9b468735ddd", func := "codend/codendlaw04.SeamSteps", spec := "seamSteps", inPlace := ["internal/abi.NoEscape", "internal/bytealg.MakeNoZero"], unfollowed := true, recurses := true, named := ["internal/strconv.uint64pow10", "math/bits.deBruijn32tab", "math/bits.deBruijn64tab", "codend/seam.steps"], plainKeys := false, apart := false, laid := [("math/bits.deBruijn32tab", laid_math_bits_deBruijn32tab), ("math/bits.deBruijn64tab", laid_math_bits_deBruijn64tab), ("internal/strconv.uint64pow10", laid_internal_strconv_uint64pow10), ("codend/seam.steps", laid_codend_seam_steps)] }
def SeamStepsSaid : Prop := seamStepsRow.holds Tryz.pinned (OpenSpec.ofChange seamStepsSpec)

/-- ITS FALSE NEIGHBOUR: 'it returns false'. Refute it at one input. -/
def seamStepsWrong : ChangeSpec := { name := "seamSteps", fn := fun _ => fun
  | [d1, d2] => { results := [.lit (.bool false)], args := [d1, d2] }
  | _ => none }
def SeamStepsWrongFalsely : Prop := seamStepsRow.holds Tryz.pinned (OpenSpec.ofChange seamStepsWrong)

/-- 'codendlaw04.SeamEdges': WHATEVER THE INPUT: true; the input reads as it did. -/
def seamEdgesSpec : ChangeSpec := { name := "seamEdges", fn := fun _ => fun
  | [d1, d2, d3] => { results := [.lit (.bool true)], args := [d1, d2, d3] }
  | _ => none }
def seamEdgesRow : OpenClaim := { program := "ytfiopgedfcaodaagreatdoor", sum := "438fa487e526f509175fc83538ca74b25f7a9f545be9d413659da9b468735ddd", func := "codend/codendlaw04.SeamEdges", spec := "seamEdges", inPlace := ["internal/abi.NoEscape", "internal/bytealg.MakeNoZero"], unfollowed := true, recurses := true, named := ["internal/strconv.uint64pow10", "math/bits.deBruijn32tab", "math/bits.deBruijn64tab", "codend/seam.steps"], plainKeys := false, apart := false, laid := [("math/bits.deBruijn32tab", laid_math_bits_deBruijn32tab), ("math/bits.deBruijn64tab", laid_math_bits_deBruijn64tab), ("internal/strconv.uint64pow10", laid_internal_strconv_uint64pow10), ("codend/seam.steps", laid_codend_seam_steps)] }
def SeamEdgesSaid : Prop := seamEdgesRow.holds Tryz.pinned (OpenSpec.ofChange seamEdgesSpec)

/-- ITS FALSE NEIGHBOUR: 'it returns false'. Refute it at one input. -/
def seamEdgesWrong : ChangeSpec := { name := "seamEdges", fn := fun _ => fun
  | [d1, d2, d3] => { results := [.lit (.bool false)], args := [d1, d2, d3] }
  | _ => none }
def SeamEdgesWrongFalsely : Prop := seamEdgesRow.holds Tryz.pinned (OpenSpec.ofChange seamEdgesWrong)

/-- 'codendlaw04.SeamRuns': WHATEVER THE INPUT: true; the input reads as it did. -/
def seamRunsSpec : ChangeSpec := { name := "seamRuns", fn := fun _ => fun
  | [d1, d2] => { results := [.lit (.bool true)], args := [d1, d2] }
  | _ => none }
def seamRunsRow : OpenClaim := { program := "ytfiopgedfcaodaagreatdoor", sum := "438fa487e526f509175fc83538ca74b25f7a9f545be9d413659da9b468735ddd", func := "codend/codendlaw04.SeamRuns", spec := "seamRuns", inPlace := ["internal/abi.NoEscape", "internal/bytealg.MakeNoZero"], unfollowed := true, recurses := true, named := ["internal/strconv.uint64pow10", "math/bits.deBruijn32tab", "math/bits.deBruijn64tab", "codend/seam.steps"], plainKeys := false, apart := false, laid := [("math/bits.deBruijn32tab", laid_math_bits_deBruijn32tab), ("math/bits.deBruijn64tab", laid_math_bits_deBruijn64tab), ("internal/strconv.uint64pow10", laid_internal_strconv_uint64pow10), ("codend/seam.steps", laid_codend_seam_steps)] }
def SeamRunsSaid : Prop := seamRunsRow.holds Tryz.pinned (OpenSpec.ofChange seamRunsSpec)

/-- ITS FALSE NEIGHBOUR: 'it returns false'. Refute it at one input. -/
def seamRunsWrong : ChangeSpec := { name := "seamRuns", fn := fun _ => fun
  | [d1, d2] => { results := [.lit (.bool false)], args := [d1, d2] }
  | _ => none }
def SeamRunsWrongFalsely : Prop := seamRunsRow.holds Tryz.pinned (OpenSpec.ofChange seamRunsWrong)

/-- 'codendlaw04.SeamSeams': WHATEVER THE INPUT: true; the input reads as it did. -/
def seamSeamsSpec : ChangeSpec := { name := "seamSeams", fn := fun _ => fun
  | [d1, d2, d3] => { results := [.lit (.bool true)], args := [d1, d2, d3] }
  | _ => none }
def seamSeamsRow : OpenClaim := { program := "ytfiopgedfcaodaagreatdoor", sum := "438fa487e526f509175fc83538ca74b25f7a9f545be9d413659da9b468735ddd", func := "codend/codendlaw04.SeamSeams", spec := "seamSeams", inPlace := ["internal/abi.NoEscape", "internal/bytealg.MakeNoZero"], unfollowed := true, recurses := true, named := ["internal/strconv.uint64pow10", "math/bits.deBruijn32tab", "math/bits.deBruijn64tab", "codend/seam.steps"], plainKeys := false, apart := false, laid := [("math/bits.deBruijn32tab", laid_math_bits_deBruijn32tab), ("math/bits.deBruijn64tab", laid_math_bits_deBruijn64tab), ("internal/strconv.uint64pow10", laid_internal_strconv_uint64pow10), ("codend/seam.steps", laid_codend_seam_steps)] }
def SeamSeamsSaid : Prop := seamSeamsRow.holds Tryz.pinned (OpenSpec.ofChange seamSeamsSpec)

/-- ITS FALSE NEIGHBOUR: 'it returns false'. Refute it at one input. -/
def seamSeamsWrong : ChangeSpec := { name := "seamSeams", fn := fun _ => fun
  | [d1, d2, d3] => { results := [.lit (.bool false)], args := [d1, d2, d3] }
  | _ => none }
def SeamSeamsWrongFalsely : Prop := seamSeamsRow.holds Tryz.pinned (OpenSpec.ofChange seamSeamsWrong)

/-- 'codendlaw04.SeamRates': WHATEVER THE INPUT: true; the input reads as it did. -/
def seamRatesSpec : ChangeSpec := { name := "seamRates", fn := fun _ => fun
  | [d1, d2, d3] => { results := [.lit (.bool true)], args := [d1, d2, d3] }
  | _ => none }
def seamRatesRow : OpenClaim := { program := "ytfiopgedfcaodaagreatdoor", sum := "438fa487e526f509175fc83538ca74b25f7a9f545be9d413659da9b468735ddd", func := "codend/codendlaw04.SeamRates", spec := "seamRates", inPlace := ["internal/abi.NoEscape", "internal/bytealg.MakeNoZero", "internal/bytealg.CountString", "internal/bytealg.IndexByteString", "internal/bytealg.IndexString"], unfollowed := true, recurses := true, named := ["internal/strconv.uint64pow10", "math/bits.deBruijn32tab", "math/bits.deBruijn64tab", "codend/seam.steps", "unicode/utf8.first", "unicode/utf8.acceptRanges", "internal/bytealg.MaxLen"], plainKeys := false, apart := false, laid := [("math/bits.deBruijn32tab", laid_math_bits_deBruijn32tab), ("math/bits.deBruijn64tab", laid_math_bits_deBruijn64tab), ("internal/strconv.uint64pow10", laid_internal_strconv_uint64pow10), ("unicode/utf8.acceptRanges", laid_unicode_utf8_acceptRanges), ("codend/seam.steps", laid_codend_seam_steps), ("unicode/utf8.first", laid_unicode_utf8_first)] }
def SeamRatesSaid : Prop := seamRatesRow.holds Tryz.pinned (OpenSpec.ofChange seamRatesSpec)

/-- ITS FALSE NEIGHBOUR: 'it returns false'. Refute it at one input. -/
def seamRatesWrong : ChangeSpec := { name := "seamRates", fn := fun _ => fun
  | [d1, d2, d3] => { results := [.lit (.bool false)], args := [d1, d2, d3] }
  | _ => none }
def SeamRatesWrongFalsely : Prop := seamRatesRow.holds Tryz.pinned (OpenSpec.ofChange seamRatesWrong)

/-- 'codendlaw04.SeamRounds': WHATEVER THE INPUT: true; the input reads as it did. -/
def seamRoundsSpec : ChangeSpec := { name := "seamRounds", fn := fun _ => fun
  | [d] => { results := [.lit (.bool true)], args := [d] }
  | _ => none }
def seamRoundsRow : OpenClaim := { program := "ytfiopgedfcaodaagreatdoor", sum := "438fa487e526f509175fc83538ca74b25f7a9f545be9d413659da9b468735ddd", func := "codend/codendlaw04.SeamRounds", spec := "seamRounds", inPlace := ["internal/abi.NoEscape", "internal/bytealg.MakeNoZero", "internal/bytealg.CountString", "internal/bytealg.IndexByteString", "internal/bytealg.IndexString"], unfollowed := true, recurses := true, named := ["internal/strconv.uint64pow10", "math/bits.deBruijn32tab", "math/bits.deBruijn64tab", "codend/seam.steps", "unicode/utf8.first", "unicode/utf8.acceptRanges", "internal/bytealg.MaxLen"], plainKeys := false, apart := false, laid := [("math/bits.deBruijn32tab", laid_math_bits_deBruijn32tab), ("math/bits.deBruijn64tab", laid_math_bits_deBruijn64tab), ("internal/strconv.uint64pow10", laid_internal_strconv_uint64pow10), ("unicode/utf8.acceptRanges", laid_unicode_utf8_acceptRanges), ("codend/seam.steps", laid_codend_seam_steps), ("unicode/utf8.first", laid_unicode_utf8_first)] }
def SeamRoundsSaid : Prop := seamRoundsRow.holds Tryz.pinned (OpenSpec.ofChange seamRoundsSpec)

/-- ITS FALSE NEIGHBOUR: 'it returns false'. Refute it at one input. -/
def seamRoundsWrong : ChangeSpec := { name := "seamRounds", fn := fun _ => fun
  | [d] => { results := [.lit (.bool false)], args := [d] }
  | _ => none }
def SeamRoundsWrongFalsely : Prop := seamRoundsRow.holds Tryz.pinned (OpenSpec.ofChange seamRoundsWrong)

/- THE SECOND FORM. 'bulk': how many values and letters a reading holds, each counted each time it is reached (what is shared counts as often as it is met; a slice's spare places count too). A statement '..UptoSaid' is the law's where the arguments, and the package variables that the reading takes, are together of bulk at most 1048576: NARROWER than '..Said'. Prove '..Said' where nothing that the law and all that it calls make is longer than what came in: it says more and counts as full. Else prove '..UptoSaid'. A law counts once. -/
mutual
def uptoBulk {H : Type} : DataW H → Nat
  | .lit (.string bytes) => bytes.length + 1
  | .lit _ => 1
  | .nil => 1
  | .ptr d => uptoBulk d + 1
  | .slice elems spare => uptoBulkAll elems + uptoBulkAll spare + 1
  | .agg parts => uptoBulkAll parts + 1
  | .iface _ d => uptoBulk d + 1
  | .map entries => uptoBulkEntries entries + 1
  | .held _ => 1
def uptoBulkAll {H : Type} : List (DataW H) → Nat
  | [] => 0
  | d :: r => uptoBulk d + uptoBulkAll r
def uptoBulkEntries {H : Type} : List (Lit × DataW H) → Nat
  | [] => 0
  | x :: r => uptoBulkEntry x + uptoBulkEntries r
def uptoBulkEntry {H : Type} : Lit × DataW H → Nat
  | (.string bytes, d) => bytes.length + uptoBulk d + 1
  | (_, d) => uptoBulk d + 1
 end
def uptoSmall : (H : Type) → List (DataW H) → Bool := fun _ ds => decide (uptoBulkAll ds ≤ 1048576)
def OpenSpec.upto (s : _root_.Go.ChangeSpec) : _root_.Go.OpenSpec := { _root_.Go.OpenSpec.ofChange s with cond := some uptoSmall }

/-- 'codendlaw04.SeamJoins', WHERE WHAT IT READS IS OF BULK AT MOST 1048576: true; the input reads as it did. -/
def seamJoinsUptoRow : OpenClaim := { program := "ytfiopgedfcaodaagreatdoor", sum := "438fa487e526f509175fc83538ca74b25f7a9f545be9d413659da9b468735ddd", func := "codend/codendlaw04.SeamJoins", spec := "seamJoins", inPlace := ["internal/abi.NoEscape", "internal/bytealg.MakeNoZero"], unfollowed := true, recurses := true, named := ["internal/strconv.uint64pow10", "math/bits.deBruijn32tab", "math/bits.deBruijn64tab", "codend/seam.steps"], plainKeys := false, apart := false, laid := [("math/bits.deBruijn32tab", laid_math_bits_deBruijn32tab), ("math/bits.deBruijn64tab", laid_math_bits_deBruijn64tab), ("internal/strconv.uint64pow10", laid_internal_strconv_uint64pow10), ("codend/seam.steps", laid_codend_seam_steps)], narrowed := true }
def SeamJoinsUptoSaid : Prop := seamJoinsUptoRow.holds Tryz.pinned (OpenSpec.upto seamJoinsSpec)

/-- 'codendlaw04.SeamTurns', WHERE WHAT IT READS IS OF BULK AT MOST 1048576: true; the input reads as it did. -/
def seamTurnsUptoRow : OpenClaim := { program := "ytfiopgedfcaodaagreatdoor", sum := "438fa487e526f509175fc83538ca74b25f7a9f545be9d413659da9b468735ddd", func := "codend/codendlaw04.SeamTurns", spec := "seamTurns", inPlace := ["internal/abi.NoEscape", "internal/bytealg.MakeNoZero"], unfollowed := true, recurses := true, named := ["internal/strconv.uint64pow10", "math/bits.deBruijn32tab", "math/bits.deBruijn64tab", "codend/seam.steps"], plainKeys := false, apart := false, laid := [("math/bits.deBruijn32tab", laid_math_bits_deBruijn32tab), ("math/bits.deBruijn64tab", laid_math_bits_deBruijn64tab), ("internal/strconv.uint64pow10", laid_internal_strconv_uint64pow10), ("codend/seam.steps", laid_codend_seam_steps)], narrowed := true }
def SeamTurnsUptoSaid : Prop := seamTurnsUptoRow.holds Tryz.pinned (OpenSpec.upto seamTurnsSpec)

/-- 'codendlaw04.SeamPieces', WHERE WHAT IT READS IS OF BULK AT MOST 1048576: true; the input reads as it did. -/
def seamPiecesUptoRow : OpenClaim := { program := "ytfiopgedfcaodaagreatdoor", sum := "438fa487e526f509175fc83538ca74b25f7a9f545be9d413659da9b468735ddd", func := "codend/codendlaw04.SeamPieces", spec := "seamPieces", inPlace := ["internal/abi.NoEscape", "internal/bytealg.MakeNoZero"], unfollowed := true, recurses := true, named := ["internal/strconv.uint64pow10", "math/bits.deBruijn32tab", "math/bits.deBruijn64tab", "codend/seam.steps"], plainKeys := false, apart := false, laid := [("math/bits.deBruijn32tab", laid_math_bits_deBruijn32tab), ("math/bits.deBruijn64tab", laid_math_bits_deBruijn64tab), ("internal/strconv.uint64pow10", laid_internal_strconv_uint64pow10), ("codend/seam.steps", laid_codend_seam_steps)], narrowed := true }
def SeamPiecesUptoSaid : Prop := seamPiecesUptoRow.holds Tryz.pinned (OpenSpec.upto seamPiecesSpec)

/-- 'codendlaw04.SeamSews', WHERE WHAT IT READS IS OF BULK AT MOST 1048576: true; the input reads as it did. -/
def seamSewsUptoRow : OpenClaim := { program := "ytfiopgedfcaodaagreatdoor", sum := "438fa487e526f509175fc83538ca74b25f7a9f545be9d413659da9b468735ddd", func := "codend/codendlaw04.SeamSews", spec := "seamSews", inPlace := ["internal/abi.NoEscape", "internal/bytealg.MakeNoZero"], unfollowed := true, recurses := true, named := ["internal/strconv.uint64pow10", "math/bits.deBruijn32tab", "math/bits.deBruijn64tab", "codend/seam.steps"], plainKeys := false, apart := false, laid := [("math/bits.deBruijn32tab", laid_math_bits_deBruijn32tab), ("math/bits.deBruijn64tab", laid_math_bits_deBruijn64tab), ("internal/strconv.uint64pow10", laid_internal_strconv_uint64pow10), ("codend/seam.steps", laid_codend_seam_steps)], narrowed := true }
def SeamSewsUptoSaid : Prop := seamSewsUptoRow.holds Tryz.pinned (OpenSpec.upto seamSewsSpec)

/-- 'codendlaw04.SeamCounts', WHERE WHAT IT READS IS OF BULK AT MOST 1048576: true; the input reads as it did. -/
def seamCountsUptoRow : OpenClaim := { program := "ytfiopgedfcaodaagreatdoor", sum := "438fa487e526f509175fc83538ca74b25f7a9f545be9d413659da9b468735ddd", func := "codend/codendlaw04.SeamCounts", spec := "seamCounts", inPlace := ["internal/abi.NoEscape", "internal/bytealg.MakeNoZero"], unfollowed := true, recurses := true, named := ["internal/strconv.uint64pow10", "math/bits.deBruijn32tab", "math/bits.deBruijn64tab", "codend/seam.steps"], plainKeys := false, apart := false, laid := [("math/bits.deBruijn32tab", laid_math_bits_deBruijn32tab), ("math/bits.deBruijn64tab", laid_math_bits_deBruijn64tab), ("internal/strconv.uint64pow10", laid_internal_strconv_uint64pow10), ("codend/seam.steps", laid_codend_seam_steps)], narrowed := true }
def SeamCountsUptoSaid : Prop := seamCountsUptoRow.holds Tryz.pinned (OpenSpec.upto seamCountsSpec)

/-- 'codendlaw04.SeamEvenly', WHERE WHAT IT READS IS OF BULK AT MOST 1048576: true; the input reads as it did. -/
def seamEvenlyUptoRow : OpenClaim := { program := "ytfiopgedfcaodaagreatdoor", sum := "438fa487e526f509175fc83538ca74b25f7a9f545be9d413659da9b468735ddd", func := "codend/codendlaw04.SeamEvenly", spec := "seamEvenly", inPlace := ["internal/abi.NoEscape", "internal/bytealg.MakeNoZero"], unfollowed := true, recurses := true, named := ["internal/strconv.uint64pow10", "math/bits.deBruijn32tab", "math/bits.deBruijn64tab", "codend/seam.steps"], plainKeys := false, apart := false, laid := [("math/bits.deBruijn32tab", laid_math_bits_deBruijn32tab), ("math/bits.deBruijn64tab", laid_math_bits_deBruijn64tab), ("internal/strconv.uint64pow10", laid_internal_strconv_uint64pow10), ("codend/seam.steps", laid_codend_seam_steps)], narrowed := true }
def SeamEvenlyUptoSaid : Prop := seamEvenlyUptoRow.holds Tryz.pinned (OpenSpec.upto seamEvenlySpec)

/-- 'codendlaw04.SeamWhole', WHERE WHAT IT READS IS OF BULK AT MOST 1048576: true; the input reads as it did. -/
def seamWholeUptoRow : OpenClaim := { program := "ytfiopgedfcaodaagreatdoor", sum := "438fa487e526f509175fc83538ca74b25f7a9f545be9d413659da9b468735ddd", func := "codend/codendlaw04.SeamWhole", spec := "seamWhole", inPlace := ["internal/abi.NoEscape", "internal/bytealg.MakeNoZero"], unfollowed := true, recurses := true, named := ["internal/strconv.uint64pow10", "math/bits.deBruijn32tab", "math/bits.deBruijn64tab", "codend/seam.steps"], plainKeys := false, apart := false, laid := [("math/bits.deBruijn32tab", laid_math_bits_deBruijn32tab), ("math/bits.deBruijn64tab", laid_math_bits_deBruijn64tab), ("internal/strconv.uint64pow10", laid_internal_strconv_uint64pow10), ("codend/seam.steps", laid_codend_seam_steps)], narrowed := true }
def SeamWholeUptoSaid : Prop := seamWholeUptoRow.holds Tryz.pinned (OpenSpec.upto seamWholeSpec)

/-- 'codendlaw04.SeamSteps', WHERE WHAT IT READS IS OF BULK AT MOST 1048576: true; the input reads as it did. -/
def seamStepsUptoRow : OpenClaim := { program := "ytfiopgedfcaodaagreatdoor", sum := "438fa487e526f509175fc83538ca74b25f7a9f545be9d413659da9b468735ddd", func := "codend/codendlaw04.SeamSteps", spec := "seamSteps", inPlace := ["internal/abi.NoEscape", "internal/bytealg.MakeNoZero"], unfollowed := true, recurses := true, named := ["internal/strconv.uint64pow10", "math/bits.deBruijn32tab", "math/bits.deBruijn64tab", "codend/seam.steps"], plainKeys := false, apart := false, laid := [("math/bits.deBruijn32tab", laid_math_bits_deBruijn32tab), ("math/bits.deBruijn64tab", laid_math_bits_deBruijn64tab), ("internal/strconv.uint64pow10", laid_internal_strconv_uint64pow10), ("codend/seam.steps", laid_codend_seam_steps)], narrowed := true }
def SeamStepsUptoSaid : Prop := seamStepsUptoRow.holds Tryz.pinned (OpenSpec.upto seamStepsSpec)

/-- 'codendlaw04.SeamEdges', WHERE WHAT IT READS IS OF BULK AT MOST 1048576: true; the input reads as it did. -/
def seamEdgesUptoRow : OpenClaim := { program := "ytfiopgedfcaodaagreatdoor", sum := "438fa487e526f509175fc83538ca74b25f7a9f545be9d413659da9b468735ddd", func := "codend/codendlaw04.SeamEdges", spec := "seamEdges", inPlace := ["internal/abi.NoEscape", "internal/bytealg.MakeNoZero"], unfollowed := true, recurses := true, named := ["internal/strconv.uint64pow10", "math/bits.deBruijn32tab", "math/bits.deBruijn64tab", "codend/seam.steps"], plainKeys := false, apart := false, laid := [("math/bits.deBruijn32tab", laid_math_bits_deBruijn32tab), ("math/bits.deBruijn64tab", laid_math_bits_deBruijn64tab), ("internal/strconv.uint64pow10", laid_internal_strconv_uint64pow10), ("codend/seam.steps", laid_codend_seam_steps)], narrowed := true }
def SeamEdgesUptoSaid : Prop := seamEdgesUptoRow.holds Tryz.pinned (OpenSpec.upto seamEdgesSpec)

/-- 'codendlaw04.SeamRuns', WHERE WHAT IT READS IS OF BULK AT MOST 1048576: true; the input reads as it did. -/
def seamRunsUptoRow : OpenClaim := { program := "ytfiopgedfcaodaagreatdoor", sum := "438fa487e526f509175fc83538ca74b25f7a9f545be9d413659da9b468735ddd", func := "codend/codendlaw04.SeamRuns", spec := "seamRuns", inPlace := ["internal/abi.NoEscape", "internal/bytealg.MakeNoZero"], unfollowed := true, recurses := true, named := ["internal/strconv.uint64pow10", "math/bits.deBruijn32tab", "math/bits.deBruijn64tab", "codend/seam.steps"], plainKeys := false, apart := false, laid := [("math/bits.deBruijn32tab", laid_math_bits_deBruijn32tab), ("math/bits.deBruijn64tab", laid_math_bits_deBruijn64tab), ("internal/strconv.uint64pow10", laid_internal_strconv_uint64pow10), ("codend/seam.steps", laid_codend_seam_steps)], narrowed := true }
def SeamRunsUptoSaid : Prop := seamRunsUptoRow.holds Tryz.pinned (OpenSpec.upto seamRunsSpec)

/-- 'codendlaw04.SeamSeams', WHERE WHAT IT READS IS OF BULK AT MOST 1048576: true; the input reads as it did. -/
def seamSeamsUptoRow : OpenClaim := { program := "ytfiopgedfcaodaagreatdoor", sum := "438fa487e526f509175fc83538ca74b25f7a9f545be9d413659da9b468735ddd", func := "codend/codendlaw04.SeamSeams", spec := "seamSeams", inPlace := ["internal/abi.NoEscape", "internal/bytealg.MakeNoZero"], unfollowed := true, recurses := true, named := ["internal/strconv.uint64pow10", "math/bits.deBruijn32tab", "math/bits.deBruijn64tab", "codend/seam.steps"], plainKeys := false, apart := false, laid := [("math/bits.deBruijn32tab", laid_math_bits_deBruijn32tab), ("math/bits.deBruijn64tab", laid_math_bits_deBruijn64tab), ("internal/strconv.uint64pow10", laid_internal_strconv_uint64pow10), ("codend/seam.steps", laid_codend_seam_steps)], narrowed := true }
def SeamSeamsUptoSaid : Prop := seamSeamsUptoRow.holds Tryz.pinned (OpenSpec.upto seamSeamsSpec)

/-- 'codendlaw04.SeamRates', WHERE WHAT IT READS IS OF BULK AT MOST 1048576: true; the input reads as it did. -/
def seamRatesUptoRow : OpenClaim := { program := "ytfiopgedfcaodaagreatdoor", sum := "438fa487e526f509175fc83538ca74b25f7a9f545be9d413659da9b468735ddd", func := "codend/codendlaw04.SeamRates", spec := "seamRates", inPlace := ["internal/abi.NoEscape", "internal/bytealg.MakeNoZero", "internal/bytealg.CountString", "internal/bytealg.IndexByteString", "internal/bytealg.IndexString"], unfollowed := true, recurses := true, named := ["internal/strconv.uint64pow10", "math/bits.deBruijn32tab", "math/bits.deBruijn64tab", "codend/seam.steps", "unicode/utf8.first", "unicode/utf8.acceptRanges", "internal/bytealg.MaxLen"], plainKeys := false, apart := false, laid := [("math/bits.deBruijn32tab", laid_math_bits_deBruijn32tab), ("math/bits.deBruijn64tab", laid_math_bits_deBruijn64tab), ("internal/strconv.uint64pow10", laid_internal_strconv_uint64pow10), ("unicode/utf8.acceptRanges", laid_unicode_utf8_acceptRanges), ("codend/seam.steps", laid_codend_seam_steps), ("unicode/utf8.first", laid_unicode_utf8_first)], narrowed := true }
def SeamRatesUptoSaid : Prop := seamRatesUptoRow.holds Tryz.pinned (OpenSpec.upto seamRatesSpec)

/-- 'codendlaw04.SeamRounds', WHERE WHAT IT READS IS OF BULK AT MOST 1048576: true; the input reads as it did. -/
def seamRoundsUptoRow : OpenClaim := { program := "ytfiopgedfcaodaagreatdoor", sum := "438fa487e526f509175fc83538ca74b25f7a9f545be9d413659da9b468735ddd", func := "codend/codendlaw04.SeamRounds", spec := "seamRounds", inPlace := ["internal/abi.NoEscape", "internal/bytealg.MakeNoZero", "internal/bytealg.CountString", "internal/bytealg.IndexByteString", "internal/bytealg.IndexString"], unfollowed := true, recurses := true, named := ["internal/strconv.uint64pow10", "math/bits.deBruijn32tab", "math/bits.deBruijn64tab", "codend/seam.steps", "unicode/utf8.first", "unicode/utf8.acceptRanges", "internal/bytealg.MaxLen"], plainKeys := false, apart := false, laid := [("math/bits.deBruijn32tab", laid_math_bits_deBruijn32tab), ("math/bits.deBruijn64tab", laid_math_bits_deBruijn64tab), ("internal/strconv.uint64pow10", laid_internal_strconv_uint64pow10), ("unicode/utf8.acceptRanges", laid_unicode_utf8_acceptRanges), ("codend/seam.steps", laid_codend_seam_steps), ("unicode/utf8.first", laid_unicode_utf8_first)], narrowed := true }
def SeamRoundsUptoSaid : Prop := seamRoundsUptoRow.holds Tryz.pinned (OpenSpec.upto seamRoundsSpec)

end Rows
end Go.Proofs.YtfiopgedfcaodaaGreatDoor
