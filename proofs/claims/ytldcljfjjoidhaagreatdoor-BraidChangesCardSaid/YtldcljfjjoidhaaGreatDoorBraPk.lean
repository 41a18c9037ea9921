/- Plain laws: bars and nets are checked. -/
import Derived.Test.YtldcljfjjoidhaaGreatDoorBraPj
set_option linter.all false
namespace Go.Proofs.YtldcljfjjoidhaaGreatDoor
open Go Go.Am
set_option maxRecDepth 100000
def XQ (b:nJ):Int × Int:=(IntKind.wrap .i64 (b.1+b.2.2),IntKind.wrap .i64 (b.2.1+1))
def Y1 (b:nJ):Int × Int:=(b.1,b.2.1)
end Go.Proofs.YtldcljfjjoidhaaGreatDoor
