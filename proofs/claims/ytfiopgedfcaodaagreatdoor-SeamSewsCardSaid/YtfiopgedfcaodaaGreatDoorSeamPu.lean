/- Plain laws: loose places by the program. -/
import Derived.Test.YtfiopgedfcaodaaGreatDoorSeamPq
set_option linter.all false
namespace Go.Proofs.YtfiopgedfcaodaaGreatDoor
open Go Go.Am Go.Sort
set_option maxRecDepth 100000
section
variable {N:Nat} (hN:Big N)
include hN
section
variable (J:List Six) (S:List P3) (m:List (P3 × Bool)) (hS:S.length ≤ 1000000) (hm:∀ p,(getM p m).getD false = tied J p)
include hS hm
end
end
end Go.Proofs.YtfiopgedfcaodaaGreatDoor
