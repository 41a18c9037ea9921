/- What the functions compute (printed by a program of ours, checked by the kernel). -/
import Derived.Test.YtfiopgedfcaodaaGreatDoorSeamTe
set_option linter.all false
namespace Go.Proofs.YtfiopgedfcaodaaGreatDoor
open Go Go.Am
set_option maxRecDepth 100000
-- "codend/codendref04.SameJoins"
-- "codend/codendlaw04.own"
-- "codend/seam.checkPiece"
-- "codend/seam.Seam"
-- "codend/codendref04.CheckPiece"
-- "codend/codendref04.Seam"
-- "codend/codendlaw04.SeamSeams"
end Go.Proofs.YtfiopgedfcaodaaGreatDoor
