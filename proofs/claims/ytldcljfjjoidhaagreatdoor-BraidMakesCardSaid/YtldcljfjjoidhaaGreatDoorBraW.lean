/- What functions compute. -/
import Derived.Test.YtldcljfjjoidhaaGreatDoorBraSo
import Derived.Test.YtldcljfjjoidhaaGreatDoorBraV
set_option linter.all false
namespace Go.Proofs.YtldcljfjjoidhaaGreatDoor
open Go Go.Am
open List (map)
open Int (toNat)
open Go.IntKind (wrap)
open Go.Am.aO (fits)
set_option maxRecDepth 100000
noncomputable section
def T63 (N:Nat):Int × Int→Option Bool:=(PV N [(111,U5 N)] []).fn 1000 63 (.ci (.ci .nil)) .bool
def e63 (N:Nat):aR:=⟨(.ci (.ci .nil)),.bool,T63 N⟩
theorem aaF (N:Nat):aj bH 63 (e63 N):=fU.bA (eZ (Eu N) qa) (by kernel_rfl) (by kernel_rfl)
theorem aaG (N:Nat) (a0:Int) (a1:Int):T63 N (a0,a1) =
 (vQ N (a0,a1)).bind fun y1=>some (y1 == 0):=by kernel_rfl
end
end Go.Proofs.YtldcljfjjoidhaaGreatDoor
