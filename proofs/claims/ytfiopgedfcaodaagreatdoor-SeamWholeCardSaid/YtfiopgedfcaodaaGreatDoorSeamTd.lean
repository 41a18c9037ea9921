/- What the functions compute (printed by a program of ours,checked by the kernel). -/
import Derived.Test.YtfiopgedfcaodaaGreatDoorSeamTc
set_option linter.all false
namespace Go.Proofs.YtfiopgedfcaodaaGreatDoor
open Go Go.Am
set_option maxRecDepth 100000
open List (map)
open Int (toNat)
open aA (fits)
noncomputable section
abbrev eF:aA:=(.agg (.cons (.int .i64) (.cons (.int .i64) .nil)))
abbrev gj (v:AV):Int × Int:=aA.bh eF v
abbrev mq (x:Int × Int):AV:=aA.enc eF x
abbrev bg (l:List (Int × Int)):=aB (map mq l)
abbrev iw (l:List (Int × Int)):=jw (aB (map mq l))
theorem jN (l:List (Int × Int)):allFit (fits eF) (map mq l)=true:=bW (p:=eF) rfl l
theorem jO (l:List (Int × Int)):map gj (map mq l)=l:=dw (p:=eF) rfl l
-- "codend/codendlaw04.rotated"
def c8:List (Nat × a8):=[(60,.join [(.norm,⟨(.cons .bool .nil),[62],[],[],[],[]⟩)]),
 (506,.loop [] ⟨(.cons (.int .i64) (.cons (.list 2 aW) (.cons (.list 2 aW) .nil))),[68],[],[],[.map,.map],[]⟩ [(.ex 0,⟨(.cons (.list 2 aW) (.cons (.list 2 aW) .nil)),[],[],[],[.map,.map],[]⟩)]),
 (508,.join [(.norm,⟨(.cons .bool (.cons (.list 2 aW) (.cons (.list 2 aW) .nil))),[96],[],[],[.map,.map],[]⟩)]),
 (2044,.join [(.norm,⟨(.cons .bool (.cons (.list 2 aW) (.cons (.list 2 aW) .nil))),[114],[],[],[.map,.map],[]⟩)]),
 (8190,.join [(.norm,⟨(.cons .bool (.cons (.int .i64) (.cons (.list 2 aW) (.cons (.list 2 aW) .nil)))),[20,21],[],[],[.map,.map],[]⟩)]),
 (16378,.loop [] ⟨(.cons (.int .i64) (.cons (.int .i64) (.cons (.list 2 aW) (.cons (.list 2 aW) .nil)))),[16,117],[],[],[.map,.map],[]⟩ [(.ret,⟨(.cons .bool (.cons (.list 2 aW) (.cons (.list 2 aW) .nil))),[6],[],[],[.map,.map],[]⟩),(.ex 2,⟨(.cons (.int .i64) (.cons (.list 2 aW) (.cons (.list 2 aW) .nil))),[16],[],[],[.map,.map],[]⟩)]),
 (32764,.join [(.norm,⟨(.cons .bool (.cons (.list 2 aW) (.cons (.list 2 aW) .nil))),[155],[],[],[.map,.map],[]⟩)]),
 (65532,.join [(.norm,⟨(.cons .bool (.cons (.list 2 aW) (.cons (.list 2 aW) .nil))),[163],[],[],[.map,.map],[]⟩)]),
 (65534,.join [(.norm,⟨(.cons .bool (.cons (.int .i64) (.cons (.list 2 aW) (.cons (.list 2 aW) .nil)))),[22,23],[],[],[.map,.map],[]⟩)]),
 (1048570,.loop [] ⟨(.cons (.int .i64) (.cons (.int .i64) (.cons (.list 2 aW) (.cons (.list 2 aW) .nil)))),[24,174],[],[],[.map,.map],[]⟩ [(.ex 4,⟨(.cons (.int .i64) (.cons (.list 2 aW) (.cons (.list 2 aW) .nil))),[24],[],[],[.map,.map],[]⟩)]),
 (2097148,.join [(.norm,⟨(.cons .bool (.cons (.list 2 aW) (.cons (.list 2 aW) .nil))),[200],[],[],[.map,.map],[]⟩)]),
 (8385741,.join [(.norm,⟨(.cons (.int .i64) (.cons (.list 2 aW) (.cons (.list 2 aW) .nil))),[19],[],[],[.map,.map],[]⟩)]),
 (8388604,.join [(.norm,⟨(.cons .bool (.cons (.list 2 aW) (.cons (.list 2 aW) .nil))),[217],[],[],[.map,.map],[]⟩)]),
 (16771484,.join [(.norm,⟨(.cons .bool (.cons (.list 2 aW) (.cons (.list 2 aW) .nil))),[131],[],[],[.map,.map],[]⟩)]),
 (16777212,.join [(.norm,⟨(.cons .bool (.cons (.list 2 aW) (.cons (.list 2 aW) .nil))),[224],[],[],[.map,.map],[]⟩)])]
-- "codend/codendlaw04.SeamEvenly"
end
end Go.Proofs.YtfiopgedfcaodaaGreatDoor
