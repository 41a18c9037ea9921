/- What the functions compute (printed by a program of ours,checked by the kernel). -/
import Derived.Test.YtldcljfjjoidhaaGreatDoorBraMm
import Derived.Test.YtldcljfjjoidhaaGreatDoorBraZ
set_option linter.all false
namespace Go.Proofs.YtldcljfjjoidhaaGreatDoor
open Go Go.Am
open List (map)
open Int (toNat)
open Go.IntKind (wrap)
open Go.Am.aO (fits)
set_option maxRecDepth 100000
noncomputable section
def c8:List (Nat × df):=[(12,.join [(.norm,⟨(.cons .bool .nil),[18],[],[],[],[]⟩)]),
 (1021,.join [(.norm,⟨(.cons (.int .i64) (.cons p50 .nil)),[8,10],[],[],[],[]⟩)]),
 (2044,.join [(.norm,⟨(.cons .bool .nil),[53],[],[],[],[]⟩)]),
 (2045,.join [(.norm,⟨(.cons (.int .i64) .nil),[9],[],[],[],[]⟩)]),
 (2046,.join [(.norm,⟨(.cons .bool .nil),[4],[],[],[],[]⟩)])]
end
end Go.Proofs.YtldcljfjjoidhaaGreatDoor
