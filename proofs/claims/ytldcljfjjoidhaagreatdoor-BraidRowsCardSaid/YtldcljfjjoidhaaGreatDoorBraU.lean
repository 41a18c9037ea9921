/- What the functions compute (printed by a program of ours,checked by the kernel). -/
import Derived.Test.YtldcljfjjoidhaaGreatDoorBraT
set_option linter.all false
namespace Go.Proofs.YtldcljfjjoidhaaGreatDoor
open Go Go.Am
open List (map)
open Int (toNat)
open Go.IntKind (wrap)
open Go.Am.aO (fits)
set_option maxRecDepth 100000
noncomputable section
abbrev p4:aO:=.bool
abbrev Ug (v:AV):Bool:=aO.bo p4 v
abbrev cR:aO:=(.agg (.cons (.agg (.cons (.int .i64) (.cons (.int .i64) (.cons (.int .i64) .nil)))) (.cons .bool .nil)))
abbrev fw (v:AV):XB × Bool:=aO.bo cR v
abbrev aS (x:XB × Bool):AV:=aO.enc cR x
theorem eH (l:List (XB × Bool)):allFit (fits cR) (map aS l)=true:=dM (p:=cR) rfl l
theorem eI (l:List (XB × Bool)):map fw (map aS l)=l:=gL (p:=cR) rfl l
end
end Go.Proofs.YtldcljfjjoidhaaGreatDoor
