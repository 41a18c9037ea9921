/- What the functions compute (printed by a program of ours,checked by the kernel). -/
import Derived.Test.YtldcljfjjoidhaaGreatDoorBraSo
import Derived.Test.YtldcljfjjoidhaaGreatDoorBraV
set_option linter.all false
namespace Go.Proofs.YtldcljfjjoidhaaGreatDoor
open Go Go.Am
open List (map)
open Int (toNat)
open Go.IntKind (wrap)
open Go.Am.aR (fits)
set_option maxRecDepth 100000
noncomputable section
def T63 (N:Nat):Int × Int→Option Bool:=(R5 N [(111,Rz N)] []).fn 1000 63 (.cons (.int .i64) (.cons (.int .i64) .nil)) .bool
def e63 (N:Nat):aS:=⟨(.cons (.int .i64) (.cons (.int .i64) .nil)),.bool,T63 N⟩
theorem Xb (N:Nat):ak bF 63 (e63 N):=fw.bu (aZ (by intro a e h; simp only [List.mem_cons,Prod.mk.injEq,List.not_mem_nil,or_false] at h; rcases h with ⟨rfl,rfl⟩; exact Cq N)) (by kernel_rfl) (by kernel_rfl)
theorem Xc (N:Nat) (a0:Int) (a1:Int):T63 N (a0,a1) =
 (uI N (a0,a1)).bind fun y1=>some (y1 == 0):=by kernel_rfl
end
end Go.Proofs.YtldcljfjjoidhaaGreatDoor
