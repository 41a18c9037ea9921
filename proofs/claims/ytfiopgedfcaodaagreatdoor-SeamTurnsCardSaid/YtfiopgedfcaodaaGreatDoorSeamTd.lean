/- What the functions compute (printed by a program of ours,checked by the kernel). -/
import Derived.Test.YtfiopgedfcaodaaGreatDoorSeamTc
set_option linter.all false
namespace Go.Proofs.YtfiopgedfcaodaaGreatDoor
open Go Go.Am
set_option maxRecDepth 100000
open List (map)
open Int (toNat)
open Pat (fits)
noncomputable section
def c64:List (Nat × Cert):=[(26,.loop [] ⟨(.cons (.int .i64) .nil),[8],[],[],[],[]⟩ [(.ret,⟨(.cons .bool .nil),[4],[],[],[],[]⟩),(.ex 0,⟨.nil,[],[],[],[],[]⟩)]),
 (3378,.join [(.norm,⟨(.cons .bool .nil),[21],[],[],[],[]⟩)])]
-- "codend/codendlaw04.rotated"
def T64 (N:Nat):LZ × LZ→Option Bool:=(cx N [(60,e60 N)] [(64,c64)]).fn 1000 64 (.cons (.list 1 (.int .i64)) (.cons (.list 1 (.int .i64)) .nil)) .bool
def e64 (N:Nat):Entry:=⟨(.cons (.list 1 (.int .i64)) (.cons (.list 1 (.int .i64)) .nil)),.bool,T64 N⟩
def c8:List (Nat × Cert):=[(60,.join [(.norm,⟨(.cons .bool .nil),[62],[],[],[],[]⟩)]),
 (506,.loop [] ⟨(.cons (.int .i64) (.cons (.list 2 p46) (.cons (.list 2 p46) .nil))),[68],[],[],[.map,.map],[]⟩ [(.ex 0,⟨(.cons (.list 2 p46) (.cons (.list 2 p46) .nil)),[],[],[],[.map,.map],[]⟩)]),
 (508,.join [(.norm,⟨(.cons .bool (.cons (.list 2 p46) (.cons (.list 2 p46) .nil))),[96],[],[],[.map,.map],[]⟩)]),
 (2044,.join [(.norm,⟨(.cons .bool (.cons (.list 2 p46) (.cons (.list 2 p46) .nil))),[114],[],[],[.map,.map],[]⟩)]),
 (8190,.join [(.norm,⟨(.cons .bool (.cons (.int .i64) (.cons (.list 2 p46) (.cons (.list 2 p46) .nil)))),[20,21],[],[],[.map,.map],[]⟩)]),
 (16378,.loop [] ⟨(.cons (.int .i64) (.cons (.int .i64) (.cons (.list 2 p46) (.cons (.list 2 p46) .nil)))),[16,117],[],[],[.map,.map],[]⟩ [(.ret,⟨(.cons .bool (.cons (.list 2 p46) (.cons (.list 2 p46) .nil))),[6],[],[],[.map,.map],[]⟩),(.ex 2,⟨(.cons (.int .i64) (.cons (.list 2 p46) (.cons (.list 2 p46) .nil))),[16],[],[],[.map,.map],[]⟩)]),
 (32764,.join [(.norm,⟨(.cons .bool (.cons (.list 2 p46) (.cons (.list 2 p46) .nil))),[155],[],[],[.map,.map],[]⟩)]),
 (65532,.join [(.norm,⟨(.cons .bool (.cons (.list 2 p46) (.cons (.list 2 p46) .nil))),[163],[],[],[.map,.map],[]⟩)]),
 (65534,.join [(.norm,⟨(.cons .bool (.cons (.int .i64) (.cons (.list 2 p46) (.cons (.list 2 p46) .nil)))),[22,23],[],[],[.map,.map],[]⟩)]),
 (1048570,.loop [] ⟨(.cons (.int .i64) (.cons (.int .i64) (.cons (.list 2 p46) (.cons (.list 2 p46) .nil)))),[24,174],[],[],[.map,.map],[]⟩ [(.ex 4,⟨(.cons (.int .i64) (.cons (.list 2 p46) (.cons (.list 2 p46) .nil))),[24],[],[],[.map,.map],[]⟩)]),
 (2097148,.join [(.norm,⟨(.cons .bool (.cons (.list 2 p46) (.cons (.list 2 p46) .nil))),[200],[],[],[.map,.map],[]⟩)]),
 (8385741,.join [(.norm,⟨(.cons (.int .i64) (.cons (.list 2 p46) (.cons (.list 2 p46) .nil))),[19],[],[],[.map,.map],[]⟩)]),
 (8388604,.join [(.norm,⟨(.cons .bool (.cons (.list 2 p46) (.cons (.list 2 p46) .nil))),[217],[],[],[.map,.map],[]⟩)]),
 (16771484,.join [(.norm,⟨(.cons .bool (.cons (.list 2 p46) (.cons (.list 2 p46) .nil))),[131],[],[],[.map,.map],[]⟩)]),
 (16777212,.join [(.norm,⟨(.cons .bool (.cons (.list 2 p46) (.cons (.list 2 p46) .nil))),[224],[],[],[.map,.map],[]⟩)])]
-- "codend/codendlaw04.SeamEvenly"
def T8 (N:Nat):Int × Int × LZ→Option Bool:=(cx N [(16,e16 N),(17,e17 N),(19,e19 N),(20,e20 N),(61,e61 N),(62,e62 N),(63,e63 N),(64,e64 N)] [(8,c8)]).fn 1000 8 (.cons (.int .u8) (.cons (.int .u8) (.cons (.list 1 (.int .i64)) .nil))) .bool
def e8 (N:Nat):Entry:=⟨(.cons (.int .u8) (.cons (.int .u8) (.cons (.list 1 (.int .i64)) .nil))),.bool,T8 N⟩
end
end Go.Proofs.YtfiopgedfcaodaaGreatDoor
