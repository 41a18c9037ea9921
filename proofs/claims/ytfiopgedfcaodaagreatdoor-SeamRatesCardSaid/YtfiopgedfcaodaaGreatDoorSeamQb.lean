/- Plain laws: the law of even seams. -/
import Derived.Test.YtfiopgedfcaodaaGreatDoorSeamQa
import Derived.Test.YtfiopgedfcaodaaGreatDoorSeamKB
import Derived.Test.YtfiopgedfcaodaaGreatDoorSeamTd
set_option linter.all false
namespace Go.Proofs.YtfiopgedfcaodaaGreatDoor
open Go Go.Am
set_option maxRecDepth 100000
section
variable {N:Nat} (hN:Big N) {a b:Nat} (ha:1≤a) (ha':a≤256) (hb:1≤b) (hb':b≤256)
include hN ha ha' hb hb'
end
end Go.Proofs.YtfiopgedfcaodaaGreatDoor
