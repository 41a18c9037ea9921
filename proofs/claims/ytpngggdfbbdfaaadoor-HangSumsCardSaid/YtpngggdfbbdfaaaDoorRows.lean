/-
  NARROWER THAN 'FOR EVERY INPUT', by the rows' own cells (each row's printed sentence says how): HangChecks: laid · HangSizes: laid · HangRoots: laid · HangRopes: laid · HangTwines: laid · HangWeights: laid · HangBills: laid · HangFloors: laid · HangJoins: laid · HangSpreads: laid · HangSums: laid.
  DERIVED. THE GIVEN ROWS OF THIS SEAT. 11 by the template 'for every input the law returns true; each argument reads behind the call as it read before'; 0 by the template 'total and deterministic' (their statements: YtpngggdfbbdfaaaDoorTotals.lean).
  GIVEN WITH THE SEED: the statements are not yours to turn. If you find one false, say at which input.
  Laid BY PROGRAM, IN A SANDBOX (cutbox-rows.mjs): the forced cells as the released guide's own fill.sh prints them over the translation bf1ed4e18dfaff32… (all of the seat's roots in one cut). By AI agents, Wed Nov 11 2026. No macro, syntax, notation, axiom, sorry.
-/
import Derived.Test.YtpngggdfbbdfaaaDoorChecked
import GoSem.Claim
import GoSem.ClaimJoined
import GoSem.ClaimMapViews
import Derived.JoinedTies
import Derived.KernelRfl
namespace Go.Proofs.YtpngggdfbbdfaaaDoor
/- THE CELL 'sum', in the pinned program and in every row, IS THE sha256 OF THE DUMP (.gsa) THAT YtpngggdfbbdfaaaDoorProg.lean LOADS. Nothing in Lean hashes anything: it is a label: what it is worth is what the hold of that sum in a sandbox is worth. -/
noncomputable def Tryd.pinned : Pinned := { name := "ytpngggdfbbdfaaadoor", sum := "bf1ed4e18dfaff32eea1b52e788c21a79c6dfff0a8c4f22d01763bd51dbf380e", checked := Tryd.checked }
namespace Rows
def none {H : Type} : Left H := { results := [], args := [] }

/- WHAT THE LISTED PACKAGE-LEVEL VARIABLES READ AS WHEN THE CALL BEGINS. Each datum BY PROGRAM (the guide's laid-datum.mjs) off the statement by which the dump's own 'gosem.cut.vars' lays the variable. In a bare row this is a premise. The card (YtpngggdfbbdfaaaDoorCards.lean) ties it to the program's text. -/
def laid_codend_hang_tens {H : Type} : DataW H := .agg [.lit (.int .i64 1), .lit (.int .i64 10), .lit (.int .i64 100)]

/-- 'codendlaw06.HangChecks': WHATEVER THE INPUT: true; the input reads as it did. -/
def hangChecksSpec : ChangeSpec := { name := "hangChecks", fn := fun _ => fun
  | [d1, d2] => { results := [.lit (.bool true)], args := [d1, d2] }
  | _ => none }
def hangChecksRow : OpenClaim := { program := "ytpngggdfbbdfaaadoor", sum := "bf1ed4e18dfaff32eea1b52e788c21a79c6dfff0a8c4f22d01763bd51dbf380e", func := "codend/codendlaw06.HangChecks", spec := "hangChecks", unfollowed := true, recurses := true, named := ["codend/hang.tens"], apart := false, laid := [("codend/hang.tens", laid_codend_hang_tens)] }
def HangChecksSaid : Prop := hangChecksRow.holds Tryd.pinned (OpenSpec.ofChange hangChecksSpec)

/-- ITS FALSE NEIGHBOUR: 'it returns false'. Refute it at one input. -/
def hangChecksWrong : ChangeSpec := { name := "hangChecks", fn := fun _ => fun
  | [d1, d2] => { results := [.lit (.bool false)], args := [d1, d2] }
  | _ => none }
def HangChecksWrongFalsely : Prop := hangChecksRow.holds Tryd.pinned (OpenSpec.ofChange hangChecksWrong)

/-- 'codendlaw06.HangSizes': WHATEVER THE INPUT: true; the input reads as it did. -/
def hangSizesSpec : ChangeSpec := { name := "hangSizes", fn := fun _ => fun
  | [d] => { results := [.lit (.bool true)], args := [d] }
  | _ => none }
def hangSizesRow : OpenClaim := { program := "ytpngggdfbbdfaaadoor", sum := "bf1ed4e18dfaff32eea1b52e788c21a79c6dfff0a8c4f22d01763bd51dbf380e", func := "codend/codendlaw06.HangSizes", spec := "hangSizes", unfollowed := true, recurses := true, named := ["codend/hang.tens"], apart := false, laid := [("codend/hang.tens", laid_codend_hang_tens)] }
def HangSizesSaid : Prop := hangSizesRow.holds Tryd.pinned (OpenSpec.ofChange hangSizesSpec)

/-- ITS FALSE NEIGHBOUR: 'it returns false'. Refute it at one input. -/
def hangSizesWrong : ChangeSpec := { name := "hangSizes", fn := fun _ => fun
  | [d] => { results := [.lit (.bool false)], args := [d] }
  | _ => none }
def HangSizesWrongFalsely : Prop := hangSizesRow.holds Tryd.pinned (OpenSpec.ofChange hangSizesWrong)

/-- 'codendlaw06.HangRoots': WHATEVER THE INPUT: true; the input reads as it did. -/
def hangRootsSpec : ChangeSpec := { name := "hangRoots", fn := fun _ => fun
  | [d1, d2, d3] => { results := [.lit (.bool true)], args := [d1, d2, d3] }
  | _ => none }
def hangRootsRow : OpenClaim := { program := "ytpngggdfbbdfaaadoor", sum := "bf1ed4e18dfaff32eea1b52e788c21a79c6dfff0a8c4f22d01763bd51dbf380e", func := "codend/codendlaw06.HangRoots", spec := "hangRoots", unfollowed := true, recurses := true, named := ["codend/hang.tens"], apart := false, laid := [("codend/hang.tens", laid_codend_hang_tens)] }
def HangRootsSaid : Prop := hangRootsRow.holds Tryd.pinned (OpenSpec.ofChange hangRootsSpec)

/-- ITS FALSE NEIGHBOUR: 'it returns false'. Refute it at one input. -/
def hangRootsWrong : ChangeSpec := { name := "hangRoots", fn := fun _ => fun
  | [d1, d2, d3] => { results := [.lit (.bool false)], args := [d1, d2, d3] }
  | _ => none }
def HangRootsWrongFalsely : Prop := hangRootsRow.holds Tryd.pinned (OpenSpec.ofChange hangRootsWrong)

/-- 'codendlaw06.HangRopes': WHATEVER THE INPUT: true; the input reads as it did. -/
def hangRopesSpec : ChangeSpec := { name := "hangRopes", fn := fun _ => fun
  | [d1, d2, d3] => { results := [.lit (.bool true)], args := [d1, d2, d3] }
  | _ => none }
def hangRopesRow : OpenClaim := { program := "ytpngggdfbbdfaaadoor", sum := "bf1ed4e18dfaff32eea1b52e788c21a79c6dfff0a8c4f22d01763bd51dbf380e", func := "codend/codendlaw06.HangRopes", spec := "hangRopes", unfollowed := true, recurses := true, named := ["codend/hang.tens"], apart := false, laid := [("codend/hang.tens", laid_codend_hang_tens)] }
def HangRopesSaid : Prop := hangRopesRow.holds Tryd.pinned (OpenSpec.ofChange hangRopesSpec)

/-- ITS FALSE NEIGHBOUR: 'it returns false'. Refute it at one input. -/
def hangRopesWrong : ChangeSpec := { name := "hangRopes", fn := fun _ => fun
  | [d1, d2, d3] => { results := [.lit (.bool false)], args := [d1, d2, d3] }
  | _ => none }
def HangRopesWrongFalsely : Prop := hangRopesRow.holds Tryd.pinned (OpenSpec.ofChange hangRopesWrong)

/-- 'codendlaw06.HangTwines': WHATEVER THE INPUT: true; the input reads as it did. -/
def hangTwinesSpec : ChangeSpec := { name := "hangTwines", fn := fun _ => fun
  | [d1, d2] => { results := [.lit (.bool true)], args := [d1, d2] }
  | _ => none }
def hangTwinesRow : OpenClaim := { program := "ytpngggdfbbdfaaadoor", sum := "bf1ed4e18dfaff32eea1b52e788c21a79c6dfff0a8c4f22d01763bd51dbf380e", func := "codend/codendlaw06.HangTwines", spec := "hangTwines", unfollowed := true, recurses := true, named := ["codend/hang.tens"], apart := false, laid := [("codend/hang.tens", laid_codend_hang_tens)] }
def HangTwinesSaid : Prop := hangTwinesRow.holds Tryd.pinned (OpenSpec.ofChange hangTwinesSpec)

/-- ITS FALSE NEIGHBOUR: 'it returns false'. Refute it at one input. -/
def hangTwinesWrong : ChangeSpec := { name := "hangTwines", fn := fun _ => fun
  | [d1, d2] => { results := [.lit (.bool false)], args := [d1, d2] }
  | _ => none }
def HangTwinesWrongFalsely : Prop := hangTwinesRow.holds Tryd.pinned (OpenSpec.ofChange hangTwinesWrong)

/-- 'codendlaw06.HangWeights': WHATEVER THE INPUT: true; the input reads as it did. -/
def hangWeightsSpec : ChangeSpec := { name := "hangWeights", fn := fun _ => fun
  | [d1, d2, d3] => { results := [.lit (.bool true)], args := [d1, d2, d3] }
  | _ => none }
def hangWeightsRow : OpenClaim := { program := "ytpngggdfbbdfaaadoor", sum := "bf1ed4e18dfaff32eea1b52e788c21a79c6dfff0a8c4f22d01763bd51dbf380e", func := "codend/codendlaw06.HangWeights", spec := "hangWeights", unfollowed := true, recurses := true, named := ["codend/hang.tens"], apart := false, laid := [("codend/hang.tens", laid_codend_hang_tens)] }
def HangWeightsSaid : Prop := hangWeightsRow.holds Tryd.pinned (OpenSpec.ofChange hangWeightsSpec)

/-- ITS FALSE NEIGHBOUR: 'it returns false'. Refute it at one input. -/
def hangWeightsWrong : ChangeSpec := { name := "hangWeights", fn := fun _ => fun
  | [d1, d2, d3] => { results := [.lit (.bool false)], args := [d1, d2, d3] }
  | _ => none }
def HangWeightsWrongFalsely : Prop := hangWeightsRow.holds Tryd.pinned (OpenSpec.ofChange hangWeightsWrong)

/-- 'codendlaw06.HangBills': WHATEVER THE INPUT: true; the input reads as it did. -/
def hangBillsSpec : ChangeSpec := { name := "hangBills", fn := fun _ => fun
  | [d1, d2, d3] => { results := [.lit (.bool true)], args := [d1, d2, d3] }
  | _ => none }
def hangBillsRow : OpenClaim := { program := "ytpngggdfbbdfaaadoor", sum := "bf1ed4e18dfaff32eea1b52e788c21a79c6dfff0a8c4f22d01763bd51dbf380e", func := "codend/codendlaw06.HangBills", spec := "hangBills", unfollowed := true, recurses := true, named := ["codend/hang.tens"], apart := false, laid := [("codend/hang.tens", laid_codend_hang_tens)] }
def HangBillsSaid : Prop := hangBillsRow.holds Tryd.pinned (OpenSpec.ofChange hangBillsSpec)

/-- ITS FALSE NEIGHBOUR: 'it returns false'. Refute it at one input. -/
def hangBillsWrong : ChangeSpec := { name := "hangBills", fn := fun _ => fun
  | [d1, d2, d3] => { results := [.lit (.bool false)], args := [d1, d2, d3] }
  | _ => none }
def HangBillsWrongFalsely : Prop := hangBillsRow.holds Tryd.pinned (OpenSpec.ofChange hangBillsWrong)

/-- 'codendlaw06.HangFloors': WHATEVER THE INPUT: true; the input reads as it did. -/
def hangFloorsSpec : ChangeSpec := { name := "hangFloors", fn := fun _ => fun
  | [d1, d2] => { results := [.lit (.bool true)], args := [d1, d2] }
  | _ => none }
def hangFloorsRow : OpenClaim := { program := "ytpngggdfbbdfaaadoor", sum := "bf1ed4e18dfaff32eea1b52e788c21a79c6dfff0a8c4f22d01763bd51dbf380e", func := "codend/codendlaw06.HangFloors", spec := "hangFloors", unfollowed := true, recurses := true, named := ["codend/hang.tens"], apart := false, laid := [("codend/hang.tens", laid_codend_hang_tens)] }
def HangFloorsSaid : Prop := hangFloorsRow.holds Tryd.pinned (OpenSpec.ofChange hangFloorsSpec)

/-- ITS FALSE NEIGHBOUR: 'it returns false'. Refute it at one input. -/
def hangFloorsWrong : ChangeSpec := { name := "hangFloors", fn := fun _ => fun
  | [d1, d2] => { results := [.lit (.bool false)], args := [d1, d2] }
  | _ => none }
def HangFloorsWrongFalsely : Prop := hangFloorsRow.holds Tryd.pinned (OpenSpec.ofChange hangFloorsWrong)

/-- 'codendlaw06.HangJoins': WHATEVER THE INPUT: true; the input reads as it did. -/
def hangJoinsSpec : ChangeSpec := { name := "hangJoins", fn := fun _ => fun
  | [d1, d2, d3] => { results := [.lit (.bool true)], args := [d1, d2, d3] }
  | _ => none }
def hangJoinsRow : OpenClaim := { program := "ytpngggdfbbdfaaadoor", sum := "bf1ed4e18dfaff32eea1b52e788c21a79c6dfff0a8c4f22d01763bd51dbf380e", func := "codend/codendlaw06.HangJoins", spec := "hangJoins", unfollowed := true, recurses := true, named := ["codend/hang.tens"], apart := false, laid := [("codend/hang.tens", laid_codend_hang_tens)] }
def HangJoinsSaid : Prop := hangJoinsRow.holds Tryd.pinned (OpenSpec.ofChange hangJoinsSpec)

/-- ITS FALSE NEIGHBOUR: 'it returns false'. Refute it at one input. -/
def hangJoinsWrong : ChangeSpec := { name := "hangJoins", fn := fun _ => fun
  | [d1, d2, d3] => { results := [.lit (.bool false)], args := [d1, d2, d3] }
  | _ => none }
def HangJoinsWrongFalsely : Prop := hangJoinsRow.holds Tryd.pinned (OpenSpec.ofChange hangJoinsWrong)

/-- 'codendlaw06.HangSpreads': WHATEVER THE INPUT: true; the input reads as it did. -/
def hangSpreadsSpec : ChangeSpec := { name := "hangSpreads", fn := fun _ => fun
  | [d1, d2] => { results := [.lit (.bool true)], args := [d1, d2] }
  | _ => none }
def hangSpreadsRow : OpenClaim := { program := "ytpngggdfbbdfaaadoor", sum := "bf1ed4e18dfaff32eea1b52e788c21a79c6dfff0a8c4f22d01763bd51dbf380e", func := "codend/codendlaw06.HangSpreads", spec := "hangSpreads", unfollowed := true, recurses := true, named := ["codend/hang.tens"], apart := false, laid := [("codend/hang.tens", laid_codend_hang_tens)] }
def HangSpreadsSaid : Prop := hangSpreadsRow.holds Tryd.pinned (OpenSpec.ofChange hangSpreadsSpec)

/-- ITS FALSE NEIGHBOUR: 'it returns false'. Refute it at one input. -/
def hangSpreadsWrong : ChangeSpec := { name := "hangSpreads", fn := fun _ => fun
  | [d1, d2] => { results := [.lit (.bool false)], args := [d1, d2] }
  | _ => none }
def HangSpreadsWrongFalsely : Prop := hangSpreadsRow.holds Tryd.pinned (OpenSpec.ofChange hangSpreadsWrong)

/-- 'codendlaw06.HangSums': WHATEVER THE INPUT: true; the input reads as it did. -/
def hangSumsSpec : ChangeSpec := { name := "hangSums", fn := fun _ => fun
  | [d1, d2, d3] => { results := [.lit (.bool true)], args := [d1, d2, d3] }
  | _ => none }
def hangSumsRow : OpenClaim := { program := "ytpngggdfbbdfaaadoor", sum := "bf1ed4e18dfaff32eea1b52e788c21a79c6dfff0a8c4f22d01763bd51dbf380e", func := "codend/codendlaw06.HangSums", spec := "hangSums", unfollowed := true, recurses := true, named := ["codend/hang.tens"], apart := false, laid := [("codend/hang.tens", laid_codend_hang_tens)] }
def HangSumsSaid : Prop := hangSumsRow.holds Tryd.pinned (OpenSpec.ofChange hangSumsSpec)

/-- ITS FALSE NEIGHBOUR: 'it returns false'. Refute it at one input. -/
def hangSumsWrong : ChangeSpec := { name := "hangSums", fn := fun _ => fun
  | [d1, d2, d3] => { results := [.lit (.bool false)], args := [d1, d2, d3] }
  | _ => none }
def HangSumsWrongFalsely : Prop := hangSumsRow.holds Tryd.pinned (OpenSpec.ofChange hangSumsWrong)

/- THE SECOND FORM. 'bulk': how many values and letters a reading holds, each counted each time it is reached (what is shared counts as often as it is met; a slice's spare places count too). A statement '..UptoSaid' is the law's where the arguments, and the package variables that the reading takes, are together of bulk at most 1048576: NARROWER than '..Said'. Prove '..Said' where nothing that the law and all that it calls make is longer than what came in: it says more and counts as full. Else prove '..UptoSaid'. A law counts once. -/
mutual
def uptoBulk {H : Type} : DataW H → Nat
  | .lit (.string bytes) => bytes.length + 1
  | .lit _ => 1
  | .nil => 1
  | .ptr d => uptoBulk d + 1
  | .slice elems spare => uptoBulkAll elems + uptoBulkAll spare + 1
  | .agg parts => uptoBulkAll parts + 1
  | .iface _ d => uptoBulk d + 1
  | .map entries => uptoBulkEntries entries + 1
  | .held _ => 1
def uptoBulkAll {H : Type} : List (DataW H) → Nat
  | [] => 0
  | d :: r => uptoBulk d + uptoBulkAll r
def uptoBulkEntries {H : Type} : List (Lit × DataW H) → Nat
  | [] => 0
  | x :: r => uptoBulkEntry x + uptoBulkEntries r
def uptoBulkEntry {H : Type} : Lit × DataW H → Nat
  | (.string bytes, d) => bytes.length + uptoBulk d + 1
  | (_, d) => uptoBulk d + 1
 end
def uptoSmall : (H : Type) → List (DataW H) → Bool := fun _ ds => decide (uptoBulkAll ds ≤ 1048576)
def OpenSpec.upto (s : _root_.Go.ChangeSpec) : _root_.Go.OpenSpec := { _root_.Go.OpenSpec.ofChange s with cond := some uptoSmall }

/-- 'codendlaw06.HangChecks', WHERE WHAT IT READS IS OF BULK AT MOST 1048576: true; the input reads as it did. -/
def hangChecksUptoRow : OpenClaim := { program := "ytpngggdfbbdfaaadoor", sum := "bf1ed4e18dfaff32eea1b52e788c21a79c6dfff0a8c4f22d01763bd51dbf380e", func := "codend/codendlaw06.HangChecks", spec := "hangChecks", unfollowed := true, recurses := true, named := ["codend/hang.tens"], apart := false, laid := [("codend/hang.tens", laid_codend_hang_tens)], narrowed := true }
def HangChecksUptoSaid : Prop := hangChecksUptoRow.holds Tryd.pinned (OpenSpec.upto hangChecksSpec)

/-- 'codendlaw06.HangSizes', WHERE WHAT IT READS IS OF BULK AT MOST 1048576: true; the input reads as it did. -/
def hangSizesUptoRow : OpenClaim := { program := "ytpngggdfbbdfaaadoor", sum := "bf1ed4e18dfaff32eea1b52e788c21a79c6dfff0a8c4f22d01763bd51dbf380e", func := "codend/codendlaw06.HangSizes", spec := "hangSizes", unfollowed := true, recurses := true, named := ["codend/hang.tens"], apart := false, laid := [("codend/hang.tens", laid_codend_hang_tens)], narrowed := true }
def HangSizesUptoSaid : Prop := hangSizesUptoRow.holds Tryd.pinned (OpenSpec.upto hangSizesSpec)

/-- 'codendlaw06.HangRoots', WHERE WHAT IT READS IS OF BULK AT MOST 1048576: true; the input reads as it did. -/
def hangRootsUptoRow : OpenClaim := { program := "ytpngggdfbbdfaaadoor", sum := "bf1ed4e18dfaff32eea1b52e788c21a79c6dfff0a8c4f22d01763bd51dbf380e", func := "codend/codendlaw06.HangRoots", spec := "hangRoots", unfollowed := true, recurses := true, named := ["codend/hang.tens"], apart := false, laid := [("codend/hang.tens", laid_codend_hang_tens)], narrowed := true }
def HangRootsUptoSaid : Prop := hangRootsUptoRow.holds Tryd.pinned (OpenSpec.upto hangRootsSpec)

/-- 'codendlaw06.HangRopes', WHERE WHAT IT READS IS OF BULK AT MOST 1048576: true; the input reads as it did. -/
def hangRopesUptoRow : OpenClaim := { program := "ytpngggdfbbdfaaadoor", sum := "bf1ed4e18dfaff32eea1b52e788c21a79c6dfff0a8c4f22d01763bd51dbf380e", func := "codend/codendlaw06.HangRopes", spec := "hangRopes", unfollowed := true, recurses := true, named := ["codend/hang.tens"], apart := false, laid := [("codend/hang.tens", laid_codend_hang_tens)], narrowed := true }
def HangRopesUptoSaid : Prop := hangRopesUptoRow.holds Tryd.pinned (OpenSpec.upto hangRopesSpec)

/-- 'codendlaw06.HangTwines', WHERE WHAT IT READS IS OF BULK AT MOST 1048576: true; the input reads as it did. -/
def hangTwinesUptoRow : OpenClaim := { program := "ytpngggdfbbdfaaadoor", sum := "bf1ed4e18dfaff32eea1b52e788c21a79c6dfff0a8c4f22d01763bd51dbf380e", func := "codend/codendlaw06.HangTwines", spec := "hangTwines", unfollowed := true, recurses := true, named := ["codend/hang.tens"], apart := false, laid := [("codend/hang.tens", laid_codend_hang_tens)], narrowed := true }
def HangTwinesUptoSaid : Prop := hangTwinesUptoRow.holds Tryd.pinned (OpenSpec.upto hangTwinesSpec)

/-- 'codendlaw06.HangWeights', WHERE WHAT IT READS IS OF BULK AT MOST 1048576: true; the input reads as it did. -/
def hangWeightsUptoRow : OpenClaim := { program := "ytpngggdfbbdfaaadoor", sum := "bf1ed4e18dfaff32eea1b52e788c21a79c6dfff0a8c4f22d01763bd51dbf380e", func := "codend/codendlaw06.HangWeights", spec := "hangWeights", unfollowed := true, recurses := true, named := ["codend/hang.tens"], apart := false, laid := [("codend/hang.tens", laid_codend_hang_tens)], narrowed := true }
def HangWeightsUptoSaid : Prop := hangWeightsUptoRow.holds Tryd.pinned (OpenSpec.upto hangWeightsSpec)

/-- 'codendlaw06.HangBills', WHERE WHAT IT READS IS OF BULK AT MOST 1048576: true; the input reads as it did. -/
def hangBillsUptoRow : OpenClaim := { program := "ytpngggdfbbdfaaadoor", sum := "bf1ed4e18dfaff32eea1b52e788c21a79c6dfff0a8c4f22d01763bd51dbf380e", func := "codend/codendlaw06.HangBills", spec := "hangBills", unfollowed := true, recurses := true, named := ["codend/hang.tens"], apart := false, laid := [("codend/hang.tens", laid_codend_hang_tens)], narrowed := true }
def HangBillsUptoSaid : Prop := hangBillsUptoRow.holds Tryd.pinned (OpenSpec.upto hangBillsSpec)

/-- 'codendlaw06.HangFloors', WHERE WHAT IT READS IS OF BULK AT MOST 1048576: true; the input reads as it did. -/
def hangFloorsUptoRow : OpenClaim := { program := "ytpngggdfbbdfaaadoor", sum := "bf1ed4e18dfaff32eea1b52e788c21a79c6dfff0a8c4f22d01763bd51dbf380e", func := "codend/codendlaw06.HangFloors", spec := "hangFloors", unfollowed := true, recurses := true, named := ["codend/hang.tens"], apart := false, laid := [("codend/hang.tens", laid_codend_hang_tens)], narrowed := true }
def HangFloorsUptoSaid : Prop := hangFloorsUptoRow.holds Tryd.pinned (OpenSpec.upto hangFloorsSpec)

/-- 'codendlaw06.HangJoins', WHERE WHAT IT READS IS OF BULK AT MOST 1048576: true; the input reads as it did. -/
def hangJoinsUptoRow : OpenClaim := { program := "ytpngggdfbbdfaaadoor", sum := "bf1ed4e18dfaff32eea1b52e788c21a79c6dfff0a8c4f22d01763bd51dbf380e", func := "codend/codendlaw06.HangJoins", spec := "hangJoins", unfollowed := true, recurses := true, named := ["codend/hang.tens"], apart := false, laid := [("codend/hang.tens", laid_codend_hang_tens)], narrowed := true }
def HangJoinsUptoSaid : Prop := hangJoinsUptoRow.holds Tryd.pinned (OpenSpec.upto hangJoinsSpec)

/-- 'codendlaw06.HangSpreads', WHERE WHAT IT READS IS OF BULK AT MOST 1048576: true; the input reads as it did. -/
def hangSpreadsUptoRow : OpenClaim := { program := "ytpngggdfbbdfaaadoor", sum := "bf1ed4e18dfaff32eea1b52e788c21a79c6dfff0a8c4f22d01763bd51dbf380e", func := "codend/codendlaw06.HangSpreads", spec := "hangSpreads", unfollowed := true, recurses := true, named := ["codend/hang.tens"], apart := false, laid := [("codend/hang.tens", laid_codend_hang_tens)], narrowed := true }
def HangSpreadsUptoSaid : Prop := hangSpreadsUptoRow.holds Tryd.pinned (OpenSpec.upto hangSpreadsSpec)

/-- 'codendlaw06.HangSums', WHERE WHAT IT READS IS OF BULK AT MOST 1048576: true; the input reads as it did. -/
def hangSumsUptoRow : OpenClaim := { program := "ytpngggdfbbdfaaadoor", sum := "bf1ed4e18dfaff32eea1b52e788c21a79c6dfff0a8c4f22d01763bd51dbf380e", func := "codend/codendlaw06.HangSums", spec := "hangSums", unfollowed := true, recurses := true, named := ["codend/hang.tens"], apart := false, laid := [("codend/hang.tens", laid_codend_hang_tens)], narrowed := true }
def HangSumsUptoSaid : Prop := hangSumsUptoRow.holds Tryd.pinned (OpenSpec.upto hangSumsSpec)

end Rows
end Go.Proofs.YtpngggdfbbdfaaaDoor
