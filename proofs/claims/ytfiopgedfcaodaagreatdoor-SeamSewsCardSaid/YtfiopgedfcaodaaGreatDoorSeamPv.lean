/- Plain laws: even runs. -/
import Derived.Test.YtfiopgedfcaodaaGreatDoorSeamPr
set_option linter.all false
namespace Go.Proofs.YtfiopgedfcaodaaGreatDoor
open Go Go.Am
set_option maxRecDepth 100000
section
variable {N:Nat} (hN:Big N) (l:List Int) (hl:l.length ≤ 256) (hx:∀ x ∈ l,1 ≤ x ∧ x ≤ 256) (hs:l.sum ≤ 256)
include hN hl hx hs
end
section
variable {N:Nat} (hN:Big N) (l:List Int) (hl:l.length ≤ 256) (hx:∀ x ∈ l,1 ≤ x ∧ x ≤ 256) (hs:l.sum ≤ 256)
include hN hl hx hs
end
end Go.Proofs.YtfiopgedfcaodaaGreatDoor
