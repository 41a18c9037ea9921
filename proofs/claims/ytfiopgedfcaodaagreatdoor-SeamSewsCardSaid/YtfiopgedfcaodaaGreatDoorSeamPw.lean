/- Plain laws: loose places,program and reference. -/
import Derived.Test.YtfiopgedfcaodaaGreatDoorSeamPu
set_option linter.all false
namespace Go.Proofs.YtfiopgedfcaodaaGreatDoor
open Go Go.Am Go.Sort
set_option maxRecDepth 100000
theorem chkQ_ok {C:List (List P3)} {J:List Six} (h:chkQ C J = 0):chkP C = 0 ∧ J.length ≤ 1024:=by
 unfold chkQ at h
 split at h
 ·rename_i h0; exact absurd h h0
 ·rename_i h0
  split at h
  ·cases h
  ·exact ⟨Decidable.not_not.1 h0,by omega⟩
section
variable {N:Nat} (hN:Big N)
include hN
end
end Go.Proofs.YtfiopgedfcaodaaGreatDoor
