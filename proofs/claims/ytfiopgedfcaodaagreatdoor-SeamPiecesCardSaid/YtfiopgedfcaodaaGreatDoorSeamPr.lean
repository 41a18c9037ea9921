/- Plain laws: runs of joins. -/
import Derived.Test.YtfiopgedfcaodaaGreatDoorSeamTr
import Derived.Test.YtfiopgedfcaodaaGreatDoorSeamPe
set_option linter.all false
namespace Go.Proofs.YtfiopgedfcaodaaGreatDoor
open Go Go.Am
set_option maxRecDepth 100000
section
variable {N : Nat} (hN : Big N) (l : List Int) (hl : l.length ≤ 1000000)
include hN hl
end
section
variable {N : Nat} (hN : Big N) (l : List Int) (hl : l.length ≤ 256) (hx : ∀ x ∈ l, 1 ≤ x ∧ x ≤ 256)
include hN hl hx
end
section
variable {N : Nat} (hN : Big N) (m n : Int) (l : List (Int × Int)) (hl : l.length ≤ 1000000)
include hN hl
end
end Go.Proofs.YtfiopgedfcaodaaGreatDoor
