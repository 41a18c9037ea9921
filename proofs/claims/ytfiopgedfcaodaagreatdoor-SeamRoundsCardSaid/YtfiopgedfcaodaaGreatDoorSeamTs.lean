/- What the functions compute (printed by a program of ours,checked by the kernel). -/
import Derived.Test.YtfiopgedfcaodaaGreatDoorSeamTe
set_option linter.all false
namespace Go.Proofs.YtfiopgedfcaodaaGreatDoor
open Go Go.Am
set_option maxRecDepth 100000
open List (map)
open Int (toNat)
open Pat (fits)
noncomputable section
abbrev p127:Pat:=(.agg (.cons (.int .i64) (.cons (.int .i64) (.cons (.int .i64) (.cons (.int .i64) (.cons (.int .i64) (.cons (.int .i64) .nil)))))))
def c45:List (Nat × Cert):=[(58,.loop [] ⟨(.cons (.int .i64) .nil),[5],[],[],[],[]⟩ [(.ret,⟨(.cons .bool .nil),[4],[],[],[],[]⟩),(.ex 0,⟨.nil,[],[],[],[],[]⟩)])]
-- "codend/codendref04.SameJoins"
def T45 (N:Nat):LF × LF→Option Bool:=(cx N [] [(45,c45)]).fn 1000 45 (.cons (.list 6 p127) (.cons (.list 6 p127) .nil)) .bool
def e45 (N:Nat):Entry:=⟨(.cons (.list 6 p127) (.cons (.list 6 p127) .nil)),.bool,T45 N⟩
def c46:List (Nat × Cert):=[(58,.loop [(.slot 3,6,129)] ⟨(.cons (.own 0 6 p127) (.cons (.int .i64) .nil)),[3,8],[],[],[.tok 0 6 129],[]⟩ [(.ex 0,⟨(.cons (.own 0 6 p127) .nil),[3],[],[],[.tok 0 6 129],[]⟩)])]
-- "codend/codendlaw04.own"
def T46 (N:Nat):LF→Option (LF):=(cx N [] [(46,c46)]).fn 1000 46 (.cons (.list 6 p127) .nil) (.list 6 p127)
def e46 (N:Nat):Entry:=⟨(.cons (.list 6 p127) .nil),(.list 6 p127),T46 N⟩
-- "codend/seam.checkPiece"
-- "codend/seam.Seam"
-- "codend/codendref04.CheckPiece"
-- "codend/codendref04.Seam"
-- "codend/codendlaw04.SeamSeams"
end
end Go.Proofs.YtfiopgedfcaodaaGreatDoor
