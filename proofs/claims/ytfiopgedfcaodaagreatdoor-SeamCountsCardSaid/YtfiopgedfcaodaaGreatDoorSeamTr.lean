/- What the functions compute (printed by a program of ours, checked by the kernel). -/
import Derived.Test.YtfiopgedfcaodaaGreatDoorSeamTs
set_option linter.all false
namespace Go.Proofs.YtfiopgedfcaodaaGreatDoor
open Go Go.Am
set_option maxRecDepth 100000
def c60 : List (Nat × Cert) := [(58, .loop [] ⟨(.cons (.int .i64) .nil), [5], [], [], [], []⟩ [(.ret, ⟨(.cons .bool .nil), [4], [], [], [], []⟩), (.ex 0, ⟨.nil, [], [], [], [], []⟩)])]
-- "codend/codendref01.SameInts"
noncomputable def T60 (N : Nat) : (List Int) × (List Int) → Option Bool := (cx N [] [(60, c60)]).fn 1000 60 (.cons (.list 1 (.int .i64)) (.cons (.list 1 (.int .i64)) .nil)) .bool
noncomputable def e60 (N : Nat) : Entry := ⟨(.cons (.list 1 (.int .i64)) (.cons (.list 1 (.int .i64)) .nil)), .bool, T60 N⟩
theorem T60_ok (N : Nat) : EntryOk envS 60 (e60 N) := Ctx.fn_ok (fun _ _ h => by cases h) (by kernel_rfl) (by kernel_rfl)
noncomputable def R60x58 (N : Nat) (a0 : List Int) (a1 : List Int) (v1 : Int) : Option (Int ⊕ (Bool ⊕ Unit)) :=
  (bif (decide (v1 < ((((List.map n3 a0)).length : Nat) : Int))) then bif (decide ((0 : Int) ≤ v1 ∧ v1 < (((List.map n3 a0)).length : Int)) && Pat.fits p3 (nthD (List.map n3 a0) (Int.toNat v1))) then bif (decide ((0 : Int) ≤ v1 ∧ v1 < (((List.map n3 a1)).length : Int)) && Pat.fits p3 (nthD (List.map n3 a1) (Int.toNat v1))) then (bif ((d3 (nthD (List.map n3 a0) (Int.toNat v1))) != (d3 (nthD (List.map n3 a1) (Int.toNat v1)))) then (some (Sum.inr (Sum.inl false))) else (some (Sum.inl (IntKind.wrap .i64 (v1 + 1))))) else none else none else (some (Sum.inr (Sum.inr ()))))
theorem T60_eq (N : Nat) (a0 : List Int) (a1 : List Int) : T60 N (a0, a1) =
  (bif (((((List.map n3 a0)).length : Nat) : Int) != ((((List.map n3 a1)).length : Nat) : Int)) then some false else ((loopR (V := Int) (X := Bool ⊕ Unit) (R60x58 N a0 a1) N 0).bind fun o6 => (Sum.elim (fun o7 => some o7) (fun o8 => some true) o6))) := by kernel_rfl

-- "codend/seam.runs"
-- "codend/seam.Runs"
-- "codend/seam.checkRuns"
-- "codend/seam.Even"
-- "codend/codendref04.CheckRuns"
-- "codend/seam.FromRuns"
-- "codend/codendref04.Runs"
-- "codend/codendref04.FromRuns"
-- "codend/codendref04.Sum"
-- "codend/codendref04.Even"
-- "codend/codendlaw04.SeamRuns"
end Go.Proofs.YtfiopgedfcaodaaGreatDoor
