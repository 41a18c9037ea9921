/- Plain laws: edges. -/
import Derived.Test.YtfiopgedfcaodaaGreatDoorSeamTe
import Derived.Test.YtfiopgedfcaodaaGreatDoorSeamP
set_option linter.all false
namespace Go.Proofs.YtfiopgedfcaodaaGreatDoor
open Go Go.Am
set_option maxRecDepth 100000

/-! ### Searches -/

/-! ### Steps of an edge -/
/-! ### Moved edges -/
end Go.Proofs.YtfiopgedfcaodaaGreatDoor
