/- Plain laws: the bars of a course,the order of a program (reference). -/
import Derived.Test.YtldcljfjjoidhaaGreatDoorSeamKA
import Derived.Test.YtldcljfjjoidhaaGreatDoorBraU
set_option linter.all false
namespace Go.Proofs.YtldcljfjjoidhaaGreatDoor
open Go Go.Am
open List (map)
open Int (toNat)
open Go.IntKind (wrap)
open Go.Am.aO (fits)
set_option maxRecDepth 100000
abbrev aQ:=Int × Int × Int
theorem sb (l:List aQ) (p:aQ):map ae l++[AV.agg [AV.int .i64 p.1,AV.int .i64 p.2.1,AV.int .i64 p.2.2]]=map ae (l++[p]):=by rw [List.map_append]; rfl
section
variable {N:Nat} (hN:e7 N)
include hN
end
end Go.Proofs.YtldcljfjjoidhaaGreatDoor
