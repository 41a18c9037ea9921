/- What functions compute. -/
import Derived.Test.YtldcljfjjoidhaaGreatDoorBraSp
import Derived.Test.YtldcljfjjoidhaaGreatDoorBraW
set_option linter.all false
namespace Go.Proofs.YtldcljfjjoidhaaGreatDoor
open Go Go.Am
open List (map)
open Int (toNat)
open Go.IntKind (wrap)
open Go.Am.aM (fits)
set_option maxRecDepth 100000
noncomputable section
abbrev J0:aM:=(.list 5 (.agg (.cons (.int .i64) (.cons (.int .i64) (.cons .bool (.cons .bool (.cons (.int .i64) .nil)))))))
end
end Go.Proofs.YtldcljfjjoidhaaGreatDoor
