/-
  No cell of these rows narrows 'for every input' (looked for: loops, veiled, ifaces, maps, wideKeys, modest, calm, conditions, laid).
  DERIVED. THE GIVEN ROWS OF THIS SEAT. 5 by the template 'for every input the law returns true; each argument reads behind the call as it read before'; 0 by the template 'total and deterministic' (their statements: YtegoimldbgdeiaaGreatTotals.lean).
  GIVEN WITH THE SEED: the statements are not yours to turn. If you find one false, say at which input.
  Laid BY PROGRAM, IN A SANDBOX (cutbox-rows.mjs): the forced cells as the released guide's own fill.sh prints them over the translation 9a3f2c6a24c389f4… (all of the seat's roots in one cut). By AI agents, Wed Nov 11 2026. No macro, syntax, notation, axiom, sorry.
-/
import Derived.Test.YtegoimldbgdeiaaGreatChecked
import GoSem.Claim
import GoSem.ClaimJoined
import GoSem.ClaimMapViews
import Derived.JoinedTies
import Derived.KernelRfl
namespace Go.Proofs.YtegoimldbgdeiaaGreat
/- THE CELL 'sum', in the pinned program and in every row, IS THE sha256 OF THE DUMP (.gsa) THAT YtegoimldbgdeiaaGreatProg.lean LOADS. Nothing in Lean hashes anything: it is a label: what it is worth is what the hold of that sum in a sandbox is worth. -/
noncomputable def Tryz.pinned : Pinned := { name := "ytegoimldbgdeiaagreat", sum := "9a3f2c6a24c389f48d8575a1152e4d76c30bd3a19befb0aa30ebcce1195ad450", checked := Tryz.checked }
namespace Rows
def none {H : Type} : Left H := { results := [], args := [] }

/-- 'codendlaw07.TrawlOpenings': WHATEVER THE INPUT: true; the input reads as it did. -/
def trawlOpeningsSpec : ChangeSpec := { name := "trawlOpenings", fn := fun _ => fun
  | [d] => { results := [.lit (.bool true)], args := [d] }
  | _ => none }
def trawlOpeningsRow : OpenClaim := { program := "ytegoimldbgdeiaagreat", sum := "9a3f2c6a24c389f48d8575a1152e4d76c30bd3a19befb0aa30ebcce1195ad450", func := "codend/codendlaw07.TrawlOpenings", spec := "trawlOpenings", unfollowed := true, recurses := true, plainKeys := false, apart := false }
def TrawlOpeningsSaid : Prop := trawlOpeningsRow.holds Tryz.pinned (OpenSpec.ofChange trawlOpeningsSpec)

/-- ITS FALSE NEIGHBOUR: 'it returns false'. Refute it at one input. -/
def trawlOpeningsWrong : ChangeSpec := { name := "trawlOpenings", fn := fun _ => fun
  | [d] => { results := [.lit (.bool false)], args := [d] }
  | _ => none }
def TrawlOpeningsWrongFalsely : Prop := trawlOpeningsRow.holds Tryz.pinned (OpenSpec.ofChange trawlOpeningsWrong)

/-- 'codendlaw07.TrawlSurfaces': WHATEVER THE INPUT: true; the input reads as it did. -/
def trawlSurfacesSpec : ChangeSpec := { name := "trawlSurfaces", fn := fun _ => fun
  | [d] => { results := [.lit (.bool true)], args := [d] }
  | _ => none }
def trawlSurfacesRow : OpenClaim := { program := "ytegoimldbgdeiaagreat", sum := "9a3f2c6a24c389f48d8575a1152e4d76c30bd3a19befb0aa30ebcce1195ad450", func := "codend/codendlaw07.TrawlSurfaces", spec := "trawlSurfaces", unfollowed := true, recurses := true, plainKeys := false, apart := false }
def TrawlSurfacesSaid : Prop := trawlSurfacesRow.holds Tryz.pinned (OpenSpec.ofChange trawlSurfacesSpec)

/-- ITS FALSE NEIGHBOUR: 'it returns false'. Refute it at one input. -/
def trawlSurfacesWrong : ChangeSpec := { name := "trawlSurfaces", fn := fun _ => fun
  | [d] => { results := [.lit (.bool false)], args := [d] }
  | _ => none }
def TrawlSurfacesWrongFalsely : Prop := trawlSurfacesRow.holds Tryz.pinned (OpenSpec.ofChange trawlSurfacesWrong)

/-- 'codendlaw07.TrawlProves': WHATEVER THE INPUT: true; the input reads as it did. -/
def trawlProvesSpec : ChangeSpec := { name := "trawlProves", fn := fun _ => fun
  | [d] => { results := [.lit (.bool true)], args := [d] }
  | _ => none }
def trawlProvesRow : OpenClaim := { program := "ytegoimldbgdeiaagreat", sum := "9a3f2c6a24c389f48d8575a1152e4d76c30bd3a19befb0aa30ebcce1195ad450", func := "codend/codendlaw07.TrawlProves", spec := "trawlProves", unfollowed := true, recurses := true, plainKeys := false, apart := false }
def TrawlProvesSaid : Prop := trawlProvesRow.holds Tryz.pinned (OpenSpec.ofChange trawlProvesSpec)

/-- ITS FALSE NEIGHBOUR: 'it returns false'. Refute it at one input. -/
def trawlProvesWrong : ChangeSpec := { name := "trawlProves", fn := fun _ => fun
  | [d] => { results := [.lit (.bool false)], args := [d] }
  | _ => none }
def TrawlProvesWrongFalsely : Prop := trawlProvesRow.holds Tryz.pinned (OpenSpec.ofChange trawlProvesWrong)

/-- 'codendlaw07.TrawlHeights': WHATEVER THE INPUT: true; the input reads as it did. -/
def trawlHeightsSpec : ChangeSpec := { name := "trawlHeights", fn := fun _ => fun
  | [d1, d2] => { results := [.lit (.bool true)], args := [d1, d2] }
  | _ => none }
def trawlHeightsRow : OpenClaim := { program := "ytegoimldbgdeiaagreat", sum := "9a3f2c6a24c389f48d8575a1152e4d76c30bd3a19befb0aa30ebcce1195ad450", func := "codend/codendlaw07.TrawlHeights", spec := "trawlHeights", unfollowed := true, recurses := true, plainKeys := false, apart := false }
def TrawlHeightsSaid : Prop := trawlHeightsRow.holds Tryz.pinned (OpenSpec.ofChange trawlHeightsSpec)

/-- ITS FALSE NEIGHBOUR: 'it returns false'. Refute it at one input. -/
def trawlHeightsWrong : ChangeSpec := { name := "trawlHeights", fn := fun _ => fun
  | [d1, d2] => { results := [.lit (.bool false)], args := [d1, d2] }
  | _ => none }
def TrawlHeightsWrongFalsely : Prop := trawlHeightsRow.holds Tryz.pinned (OpenSpec.ofChange trawlHeightsWrong)

/-- 'codendlaw07.TrawlSews': WHATEVER THE INPUT: true; the input reads as it did. -/
def trawlSewsSpec : ChangeSpec := { name := "trawlSews", fn := fun _ => fun
  | [d1, d2, d3] => { results := [.lit (.bool true)], args := [d1, d2, d3] }
  | _ => none }
def trawlSewsRow : OpenClaim := { program := "ytegoimldbgdeiaagreat", sum := "9a3f2c6a24c389f48d8575a1152e4d76c30bd3a19befb0aa30ebcce1195ad450", func := "codend/codendlaw07.TrawlSews", spec := "trawlSews", unfollowed := true, recurses := true, plainKeys := false, apart := false }
def TrawlSewsSaid : Prop := trawlSewsRow.holds Tryz.pinned (OpenSpec.ofChange trawlSewsSpec)

/-- ITS FALSE NEIGHBOUR: 'it returns false'. Refute it at one input. -/
def trawlSewsWrong : ChangeSpec := { name := "trawlSews", fn := fun _ => fun
  | [d1, d2, d3] => { results := [.lit (.bool false)], args := [d1, d2, d3] }
  | _ => none }
def TrawlSewsWrongFalsely : Prop := trawlSewsRow.holds Tryz.pinned (OpenSpec.ofChange trawlSewsWrong)

/- THE SECOND FORM. 'bulk': how many values and letters a reading holds, each counted each time it is reached (what is shared counts as often as it is met; a slice's spare places count too). A statement '..UptoSaid' is the law's where the arguments, and the package variables that the reading takes, are together of bulk at most 1048576: NARROWER than '..Said'. Prove '..Said' where nothing that the law and all that it calls make is longer than what came in: it says more and counts as full. Else prove '..UptoSaid'. A law counts once. -/
mutual
def uptoBulk {H : Type} : DataW H → Nat
  | .lit (.string bytes) => bytes.length + 1
  | .lit _ => 1
  | .nil => 1
  | .ptr d => uptoBulk d + 1
  | .slice elems spare => uptoBulkAll elems + uptoBulkAll spare + 1
  | .agg parts => uptoBulkAll parts + 1
  | .iface _ d => uptoBulk d + 1
  | .map entries => uptoBulkEntries entries + 1
  | .held _ => 1
def uptoBulkAll {H : Type} : List (DataW H) → Nat
  | [] => 0
  | d :: r => uptoBulk d + uptoBulkAll r
def uptoBulkEntries {H : Type} : List (Lit × DataW H) → Nat
  | [] => 0
  | x :: r => uptoBulkEntry x + uptoBulkEntries r
def uptoBulkEntry {H : Type} : Lit × DataW H → Nat
  | (.string bytes, d) => bytes.length + uptoBulk d + 1
  | (_, d) => uptoBulk d + 1
 end
def uptoSmall : (H : Type) → List (DataW H) → Bool := fun _ ds => decide (uptoBulkAll ds ≤ 1048576)
def OpenSpec.upto (s : _root_.Go.ChangeSpec) : _root_.Go.OpenSpec := { _root_.Go.OpenSpec.ofChange s with cond := some uptoSmall }

/-- 'codendlaw07.TrawlOpenings', WHERE WHAT IT READS IS OF BULK AT MOST 1048576: true; the input reads as it did. -/
def trawlOpeningsUptoRow : OpenClaim := { program := "ytegoimldbgdeiaagreat", sum := "9a3f2c6a24c389f48d8575a1152e4d76c30bd3a19befb0aa30ebcce1195ad450", func := "codend/codendlaw07.TrawlOpenings", spec := "trawlOpenings", unfollowed := true, recurses := true, plainKeys := false, apart := false, narrowed := true }
def TrawlOpeningsUptoSaid : Prop := trawlOpeningsUptoRow.holds Tryz.pinned (OpenSpec.upto trawlOpeningsSpec)

/-- 'codendlaw07.TrawlSurfaces', WHERE WHAT IT READS IS OF BULK AT MOST 1048576: true; the input reads as it did. -/
def trawlSurfacesUptoRow : OpenClaim := { program := "ytegoimldbgdeiaagreat", sum := "9a3f2c6a24c389f48d8575a1152e4d76c30bd3a19befb0aa30ebcce1195ad450", func := "codend/codendlaw07.TrawlSurfaces", spec := "trawlSurfaces", unfollowed := true, recurses := true, plainKeys := false, apart := false, narrowed := true }
def TrawlSurfacesUptoSaid : Prop := trawlSurfacesUptoRow.holds Tryz.pinned (OpenSpec.upto trawlSurfacesSpec)

/-- 'codendlaw07.TrawlProves', WHERE WHAT IT READS IS OF BULK AT MOST 1048576: true; the input reads as it did. -/
def trawlProvesUptoRow : OpenClaim := { program := "ytegoimldbgdeiaagreat", sum := "9a3f2c6a24c389f48d8575a1152e4d76c30bd3a19befb0aa30ebcce1195ad450", func := "codend/codendlaw07.TrawlProves", spec := "trawlProves", unfollowed := true, recurses := true, plainKeys := false, apart := false, narrowed := true }
def TrawlProvesUptoSaid : Prop := trawlProvesUptoRow.holds Tryz.pinned (OpenSpec.upto trawlProvesSpec)

/-- 'codendlaw07.TrawlHeights', WHERE WHAT IT READS IS OF BULK AT MOST 1048576: true; the input reads as it did. -/
def trawlHeightsUptoRow : OpenClaim := { program := "ytegoimldbgdeiaagreat", sum := "9a3f2c6a24c389f48d8575a1152e4d76c30bd3a19befb0aa30ebcce1195ad450", func := "codend/codendlaw07.TrawlHeights", spec := "trawlHeights", unfollowed := true, recurses := true, plainKeys := false, apart := false, narrowed := true }
def TrawlHeightsUptoSaid : Prop := trawlHeightsUptoRow.holds Tryz.pinned (OpenSpec.upto trawlHeightsSpec)

/-- 'codendlaw07.TrawlSews', WHERE WHAT IT READS IS OF BULK AT MOST 1048576: true; the input reads as it did. -/
def trawlSewsUptoRow : OpenClaim := { program := "ytegoimldbgdeiaagreat", sum := "9a3f2c6a24c389f48d8575a1152e4d76c30bd3a19befb0aa30ebcce1195ad450", func := "codend/codendlaw07.TrawlSews", spec := "trawlSews", unfollowed := true, recurses := true, plainKeys := false, apart := false, narrowed := true }
def TrawlSewsUptoSaid : Prop := trawlSewsUptoRow.holds Tryz.pinned (OpenSpec.upto trawlSewsSpec)

end Rows
end Go.Proofs.YtegoimldbgdeiaaGreat
