/- What the functions compute (printed by a program of ours, checked by the kernel). -/
import Derived.Test.YtfiopgedfcaodaaGreatDoorSeamTc
set_option linter.all false
namespace Go.Proofs.YtfiopgedfcaodaaGreatDoor
open Go Go.Am
set_option maxRecDepth 100000
-- "codend/codendlaw04.rotated"
-- "codend/codendlaw04.SeamEvenly"
end Go.Proofs.YtfiopgedfcaodaaGreatDoor
