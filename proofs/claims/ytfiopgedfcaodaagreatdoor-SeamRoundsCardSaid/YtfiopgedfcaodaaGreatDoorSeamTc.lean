/- What the functions compute (printed by a program of ours,checked by the kernel). -/
import Derived.Test.YtfiopgedfcaodaaGreatDoorSeamTr
set_option linter.all false
namespace Go.Proofs.YtfiopgedfcaodaaGreatDoor
open Go Go.Am
set_option maxRecDepth 100000
open List (map)
open Int (toNat)
open Pat (fits)
noncomputable section
abbrev p4:Pat:=.bool
abbrev d4 (v:AV):Bool:=Pat.decD p4 v
abbrev p53:Pat:=(.list 3 (.agg (.cons (.int .i64) (.cons (.int .i64) (.cons (.int .i64) .nil)))))
abbrev p89:Pat:=(.agg (.cons (.int .i64) (.cons (.int .i64) (.cons (.int .i64) .nil))))
abbrev pM177:Pat:=(.agg (.cons (.agg (.cons (.int .i64) (.cons (.int .i64) (.cons (.int .i64) .nil)))) (.cons .bool .nil)))
-- "codend/codendref04.ShortSewn"
-- "(codend/seam.Sewn).check"
-- "codend/seam.ClassOf"
-- "codend/codendlaw04.sewn"
-- "codend/seam.Degrees"
-- "codend/seam.Counts"
def c126:List (Nat × Cert):=[(26,.loop [] ⟨(.cons (.int .i64) .nil),[5],[],[],[],[]⟩ [(.ret,⟨(.cons (.int .i64) .nil),[4],[],[],[],[]⟩),(.ex 0,⟨.nil,[],[],[],[],[]⟩)])]
-- "codend/codendref04.at"
def T126 (N:Nat):LB × PB→Option Int:=(cx N [] [(126,c126)]).fn 1000 126 (.cons p53 (.cons p89 .nil)) (.int .i64)
def e126 (N:Nat):Entry:=⟨(.cons p53 (.cons p89 .nil)),(.int .i64),T126 N⟩
-- "codend/codendref04.CheckSewn"
-- "codend/codendref04.ClassOf"
-- "codend/codendref04.Degrees"
-- "codend/codendref04.Counts"
def c7:List (Nat × Cert):=[(4093,.join [(.norm,⟨(.cons (.int .i64) (.cons (.int .i64) (.cons (.list 1 (.int .i64)) (.cons (.int .i64) (.cons (.int .i64) (.cons (.int .i64) (.cons (.int .i64) .nil))))))),[12,13,14],[],[(15,4)],[],[]⟩)]),
 (4094,.join [(.norm,⟨(.cons .bool .nil),[4],[],[],[],[]⟩)])]
-- "codend/codendlaw04.SeamCounts"
end
end Go.Proofs.YtfiopgedfcaodaaGreatDoor
