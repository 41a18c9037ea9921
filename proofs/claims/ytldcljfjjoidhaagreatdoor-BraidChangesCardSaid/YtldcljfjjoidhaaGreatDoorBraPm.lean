/- Plain laws: the net of a valid program is a valid net; fly knots. -/
import Derived.Test.YtldcljfjjoidhaaGreatDoorBraPl
set_option linter.all false
namespace Go.Proofs.YtldcljfjjoidhaaGreatDoor
open Go Go.Am Go.Sort
set_option maxRecDepth 100000
section
variable {N:Nat} (hN:iK N)
include hN
def hM (l:List nJ):List ((Int × Int) × Bool):=l.foldl (fun m b=>oU (XQ b) true m) []
end
end Go.Proofs.YtldcljfjjoidhaaGreatDoor
