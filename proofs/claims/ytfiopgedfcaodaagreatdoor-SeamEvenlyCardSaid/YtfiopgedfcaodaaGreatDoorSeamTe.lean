/- What the functions compute (printed by a program of ours, checked by the kernel). -/
import Derived.Test.YtfiopgedfcaodaaGreatDoorSeamT
set_option linter.all false
namespace Go.Proofs.YtfiopgedfcaodaaGreatDoor
open Go Go.Am
set_option maxRecDepth 100000
-- "codend/netting.first"
-- "codend/netting.when"
-- "codend/netting.within"
-- "codend/netting.reach"
-- "codend/netting.CheckKnot"
-- "slices.Index[[]codend/api.Knot,codend/api.Knot]"
-- "slices.Contains[[]codend/api.Knot,codend/api.Knot]"
-- "codend/seam.CheckEdge"
-- "codend/seam.Moved"
-- "codend/codendlaw04.knots"
-- "codend/codendref01.HasKnot"
-- "codend/codendref01.far"
-- "codend/codendref01.even"
-- "codend/codendref01.CheckKnot"
-- "codend/codendref04.IsStep"
-- "codend/codendref04.CheckEdge"
-- "codend/codendref04.Moved"
-- "codend/codendref01.SameKnots"
-- "codend/codendlaw04.SeamEdges"
end Go.Proofs.YtfiopgedfcaodaaGreatDoor
