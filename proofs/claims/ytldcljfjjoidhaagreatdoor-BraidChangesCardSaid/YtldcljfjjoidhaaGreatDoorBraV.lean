/- What the functions compute (printed by a program of ours,checked by the kernel). -/
import Derived.Test.YtldcljfjjoidhaaGreatDoorBraSo
import Derived.Test.YtldcljfjjoidhaaGreatDoorBraU
set_option linter.all false
namespace Go.Proofs.YtldcljfjjoidhaaGreatDoor
open Go Go.Am
set_option maxRecDepth 100000
-- "codend/codendref01.Lower"
-- "codend/codendref01.Upper"
-- "codend/codendref01.Ends"
-- "codend/codendref01.Less"
-- "codend/codendref01.Has"
-- "codend/codendref01.SameNet"
-- "codend/codendref01.SameInts"
-- "codend/codendref01.Sorted"
-- "codend/codendref01.Knots"
-- "codend/codendref08.Net"
-- "codend/codendref08.Twines"
-- "codend/codendref08.Fly"
-- "codend/braid.twines"
-- "codend/braid.Twines"
-- "codend/braid.net"
-- "codend/braid.Net"
-- "codend/braid.Order"
-- "codend/netting.knots$2"
-- "codend/netting.knots"
-- "codend/netting.Knots"
-- "codend/braid.Fly"
end Go.Proofs.YtldcljfjjoidhaaGreatDoor
