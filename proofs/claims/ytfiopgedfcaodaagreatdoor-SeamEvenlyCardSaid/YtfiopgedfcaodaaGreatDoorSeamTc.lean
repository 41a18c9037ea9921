/- What the functions compute (printed by a program of ours, checked by the kernel). -/
import Derived.Test.YtfiopgedfcaodaaGreatDoorSeamTr
set_option linter.all false
namespace Go.Proofs.YtfiopgedfcaodaaGreatDoor
open Go Go.Am
set_option maxRecDepth 100000
abbrev p4 : Pat := .bool
abbrev d4 (v : AV) : Bool := Pat.decD p4 v
-- "codend/codendref04.ShortSewn"
-- "(codend/seam.Sewn).check"
-- "codend/seam.ClassOf"
-- "codend/codendlaw04.sewn"
-- "codend/seam.Degrees"
-- "codend/seam.Counts"
-- "codend/codendref04.at"
-- "codend/codendref04.CheckSewn"
-- "codend/codendref04.ClassOf"
-- "codend/codendref04.Degrees"
-- "codend/codendref04.Counts"
-- "codend/codendlaw04.SeamCounts"
end Go.Proofs.YtfiopgedfcaodaaGreatDoor
