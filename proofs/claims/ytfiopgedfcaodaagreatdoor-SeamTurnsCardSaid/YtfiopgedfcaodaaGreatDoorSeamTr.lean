/- What the functions compute (printed by a program of ours,checked by the kernel). -/
import Derived.Test.YtfiopgedfcaodaaGreatDoorSeamTs
set_option linter.all false
namespace Go.Proofs.YtfiopgedfcaodaaGreatDoor
open Go Go.Am
set_option maxRecDepth 100000
open List (map)
open Int (toNat)
open Pat (fits)
noncomputable section
def c60:List (Nat × Cert):=[(58,.loop [] ⟨(.cons (.int .i64) .nil),[5],[],[],[],[]⟩ [(.ret,⟨(.cons .bool .nil),[4],[],[],[],[]⟩),(.ex 0,⟨.nil,[],[],[],[],[]⟩)])]
-- "codend/codendref01.SameInts"
def T60 (N:Nat):LZ × LZ→Option Bool:=(cx N [] [(60,c60)]).fn 1000 60 (.cons (.list 1 (.int .i64)) (.cons (.list 1 (.int .i64)) .nil)) .bool
def e60 (N:Nat):Entry:=⟨(.cons (.list 1 (.int .i64)) (.cons (.list 1 (.int .i64)) .nil)),.bool,T60 N⟩
def c135:List (Nat × Cert):=[(250,.loop [] ⟨(.cons (.int .i64) (.cons (.list 1 (.int .i64)) .nil)),[20],[],[],[.gro 1 3],[]⟩ [(.ex 0,⟨(.cons (.list 1 (.int .i64)) .nil),[],[],[],[.gro 1 3],[]⟩)])]
-- "codend/seam.runs"
def T135 (N:Nat):Int × Int × LA→Option (LZ):=(cx N [] [(135,c135)]).fn 1000 135 (.cons (.int .i64) (.cons (.int .i64) (.cons (.list 2 p46) .nil))) (.list 1 (.int .i64))
def e135 (N:Nat):Entry:=⟨(.cons (.int .i64) (.cons (.int .i64) (.cons (.list 2 p46) .nil))),(.list 1 (.int .i64)),T135 N⟩
-- "codend/seam.Runs"
def T61 (N:Nat):Int × Int × LA→Option (LZ × Int):=(cx N [(19,e19 N),(135,e135 N)] []).fn 1000 61 (.cons (.int .i64) (.cons (.int .i64) (.cons (.list 2 p46) .nil))) (.tup (.cons (.list 1 (.int .i64)) (.cons (.int .i64) .nil)))
def e61 (N:Nat):Entry:=⟨(.cons (.int .i64) (.cons (.int .i64) (.cons (.list 2 p46) .nil))),(.tup (.cons (.list 1 (.int .i64)) (.cons (.int .i64) .nil))),T61 N⟩
def c136:List (Nat × Cert):=[(122,.loop [] ⟨(.cons (.int .i64) (.cons (.int .i64) .nil)),[4,23],[],[],[],[]⟩ [(.ret,⟨(.cons (.int .i64) .nil),[2],[],[],[],[]⟩),(.ex 0,⟨(.cons (.int .i64) .nil),[4],[],[],[],[]⟩)])]
-- "codend/seam.checkRuns"
def T136 (N:Nat):LZ→Option Int:=(cx N [(90,e90 N),(91,e91 N),(93,e93 N)] [(136,c136)]).fn 1000 136 (.cons (.list 1 (.int .i64)) .nil) (.int .i64)
def e136 (N:Nat):Entry:=⟨(.cons (.list 1 (.int .i64)) .nil),(.int .i64),T136 N⟩
def c62:List (Nat × Cert):=[(122,.loop [] ⟨(.cons (.own 0 1 (.int .i64)) (.cons (.int .i64) .nil)),[5,21],[],[],[.tok 0 1 3],[]⟩ [(.ex 0,⟨(.cons (.own 0 1 (.int .i64)) .nil),[5],[],[],[.tok 0 1 3],[]⟩)]),
 (250,.loop [] ⟨(.cons (.own 0 1 (.int .i64)) (.cons (.int .i64) .nil)),[5,38],[],[],[.tok 0 1 3],[]⟩ [(.ret,⟨(.cons .bool (.cons (.int .i64) (.cons (.own 0 1 (.int .i64)) .nil))),[2,3,5],[],[],[.tok 2 1 3],[]⟩),(.ex 2,⟨(.cons (.own 0 1 (.int .i64)) .nil),[5],[],[],[.tok 0 1 3],[]⟩)]),
 (256410,.loop [] ⟨(.cons (.own 0 1 (.int .i64)) (.cons (.int .i64) (.cons (.int .i64) (.cons (.int .i64) .nil)))),[5,9,10,55],[],[],[.tok 0 1 3],[]⟩ [(.ex 4,⟨(.cons (.own 0 1 (.int .i64)) (.cons (.int .i64) (.cons (.int .i64) .nil))),[5,9,10],[],[],[.tok 0 1 3],[]⟩)])]
-- "codend/seam.Even"
def T62 (N:Nat):LZ→Option (Bool × Int):=(cx N [(136,e136 N)] [(62,c62)]).fn 1000 62 (.cons (.list 1 (.int .i64)) .nil) (.tup (.cons .bool (.cons (.int .i64) .nil)))
def e62 (N:Nat):Entry:=⟨(.cons (.list 1 (.int .i64)) .nil),(.tup (.cons .bool (.cons (.int .i64) .nil))),T62 N⟩
def c63:List (Nat × Cert):=[(250,.loop [] ⟨(.cons (.int .i64) (.cons (.int .i64) .nil)),[3,4],[],[],[],[]⟩ [(.ret,⟨(.cons (.int .i64) .nil),[2],[],[],[],[]⟩),(.ex 0,⟨(.cons (.int .i64) .nil),[3],[],[],[],[]⟩)]),
 (16016,.join [(.norm,⟨(.cons .bool .nil),[28],[],[],[],[]⟩)])]
-- "codend/codendref04.CheckRuns"
def T63 (N:Nat):LZ→Option Int:=(cx N [] [(63,c63)]).fn 1000 63 (.cons (.list 1 (.int .i64)) .nil) (.int .i64)
def e63 (N:Nat):Entry:=⟨(.cons (.list 1 (.int .i64)) .nil),(.int .i64),T63 N⟩
-- "codend/seam.FromRuns"
-- "codend/codendref04.Runs"
-- "codend/codendref04.FromRuns"
-- "codend/codendref04.Sum"
-- "codend/codendref04.Even"
-- "codend/codendlaw04.SeamRuns"
end
end Go.Proofs.YtfiopgedfcaodaaGreatDoor
