/- What the functions compute (printed by a program of ours, checked by the kernel). -/
import Derived.Test.YtfiopgedfcaodaaGreatDoorSeamTe
set_option linter.all false
namespace Go.Proofs.YtfiopgedfcaodaaGreatDoor
open Go Go.Am
set_option maxRecDepth 100000
-- "codend/codendref04.SameJoins"
-- "codend/codendlaw04.own"
-- "codend/seam.checkPiece"
noncomputable def T129 (N : Nat) : Int → Option Int := (cx N [(93, e93 N)] []).fn 1000 129 (.cons (.int .i64) .nil) (.int .i64)
noncomputable def e129 (N : Nat) : Entry := ⟨(.cons (.int .i64) .nil), (.int .i64), T129 N⟩
theorem T129_ok (N : Nat) : EntryOk envS 129 (e129 N) := Ctx.fn_ok (tabF_ok (by intro a e h; simp only [List.mem_cons, Prod.mk.injEq, List.not_mem_nil, or_false] at h; rcases h with ⟨rfl, rfl⟩; exact T93_ok N)) (by kernel_rfl) (by kernel_rfl)
theorem T129_eq (N : Nat) (a0 : Int) : T129 N a0 =
  (T93 N (a0, 0, 15)).bind fun y1 => some y1 := by kernel_rfl

-- "codend/seam.Seam"
-- "codend/codendref04.CheckPiece"
noncomputable def T80 (N : Nat) : Int → Option Int := (cx N [(94, e94 N)] []).fn 1000 80 (.cons (.int .i64) .nil) (.int .i64)
noncomputable def e80 (N : Nat) : Entry := ⟨(.cons (.int .i64) .nil), (.int .i64), T80 N⟩
theorem T80_ok (N : Nat) : EntryOk envS 80 (e80 N) := Ctx.fn_ok (tabF_ok (by intro a e h; simp only [List.mem_cons, Prod.mk.injEq, List.not_mem_nil, or_false] at h; rcases h with ⟨rfl, rfl⟩; exact T94_ok N)) (by kernel_rfl) (by kernel_rfl)
theorem T80_eq (N : Nat) (a0 : Int) : T80 N a0 =
  (T94 N (a0, 0, 15)).bind fun y1 => some y1 := by kernel_rfl

-- "codend/codendref04.Seam"
-- "codend/codendlaw04.SeamSeams"
end Go.Proofs.YtfiopgedfcaodaaGreatDoor
