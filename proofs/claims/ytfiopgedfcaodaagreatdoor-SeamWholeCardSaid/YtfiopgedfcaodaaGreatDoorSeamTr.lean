/- What the functions compute (printed by a program of ours,checked by the kernel). -/
import Derived.Test.YtfiopgedfcaodaaGreatDoorSeamTs
set_option linter.all false
namespace Go.Proofs.YtfiopgedfcaodaaGreatDoor
open Go Go.Am
set_option maxRecDepth 100000
open List (map)
open Int (toNat)
open aA (fits)
noncomputable section
-- "codend/codendref01.SameInts"
-- "codend/seam.runs"
-- "codend/seam.Runs"
-- "codend/seam.checkRuns"
-- "codend/seam.Even"
-- "codend/codendref04.CheckRuns"
-- "codend/seam.FromRuns"
-- "codend/codendref04.Runs"
-- "codend/codendref04.FromRuns"
-- "codend/codendref04.Sum"
-- "codend/codendref04.Even"
-- "codend/codendlaw04.SeamRuns"
end
end Go.Proofs.YtfiopgedfcaodaaGreatDoor
