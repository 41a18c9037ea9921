/- What the functions compute (printed by a program of ours,checked by the kernel). -/
import Derived.Test.YtfiopgedfcaodaaGreatDoorSeamT
set_option linter.all false
namespace Go.Proofs.YtfiopgedfcaodaaGreatDoor
open Go Go.Am
set_option maxRecDepth 100000
open List (map)
open Int (toNat)
open Pat (fits)
noncomputable section
def c167:List (Nat × Cert):=[(26,.loop [] ⟨(.cons (.int .i64) .nil),[7],[],[],[],[]⟩ [(.ret,⟨(.cons (.int .i64) .nil),[2],[],[],[],[]⟩),(.ex 0,⟨.nil,[],[],[],[],[]⟩)])]
-- "codend/netting.first"
def T167 (N:Nat):LZ→Option Int:=(cx N [] [(167,c167)]).fn 1000 167 (.cons (.list 1 (.int .i64)) .nil) (.int .i64)
def e167 (N:Nat):Entry:=⟨(.cons (.list 1 (.int .i64)) .nil),(.int .i64),T167 N⟩
-- "codend/netting.when"
def T169 (N:Nat):Bool × Int→Option Int:=(cx N [] []).fn 1000 169 (.cons .bool (.cons (.int .i64) .nil)) (.int .i64)
def e169 (N:Nat):Entry:=⟨(.cons .bool (.cons (.int .i64) .nil)),(.int .i64),T169 N⟩
def c198:List (Nat × Cert):=[(6,.join [(.norm,⟨(.cons (.int .i64) .nil),[6],[],[],[],[]⟩)])]
-- "codend/netting.within"
def T198 (N:Nat):Int × Int × Int→Option Int:=(cx N [(169,e169 N)] [(198,c198)]).fn 1000 198 (.cons (.int .i64) (.cons (.int .i64) (.cons (.int .i64) .nil))) (.int .i64)
def e198 (N:Nat):Entry:=⟨(.cons (.int .i64) (.cons (.int .i64) (.cons (.int .i64) .nil))),(.int .i64),T198 N⟩
-- "codend/netting.reach"
def T171 (N:Nat):PA→Option Int:=(cx N [(167,e167 N),(198,e198 N)] []).fn 1000 171 (.cons p46 .nil) (.int .i64)
def e171 (N:Nat):Entry:=⟨(.cons p46 .nil),(.int .i64),T171 N⟩
-- "codend/netting.CheckKnot"
def T130 (N:Nat):PA→Option Int:=(cx N [(167,e167 N),(169,e169 N),(171,e171 N)] []).fn 1000 130 (.cons p46 .nil) (.int .i64)
def e130 (N:Nat):Entry:=⟨(.cons p46 .nil),(.int .i64),T130 N⟩
-- "slices.Index[[]codend/api.Knot,codend/api.Knot]"
-- "slices.Contains[[]codend/api.Knot,codend/api.Knot]"
-- "codend/seam.CheckEdge"
-- "codend/seam.Moved"
-- "codend/codendlaw04.knots"
def c115:List (Nat × Cert):=[(26,.loop [] ⟨(.cons (.int .i64) .nil),[5],[],[],[],[]⟩ [(.ret,⟨(.cons .bool .nil),[4],[],[],[],[]⟩),(.ex 0,⟨.nil,[],[],[],[],[]⟩)])]
-- "codend/codendref01.HasKnot"
def T115 (N:Nat):LA × PA→Option Bool:=(cx N [] [(115,c115)]).fn 1000 115 (.cons (.list 2 p46) (.cons p46 .nil)) .bool
def e115 (N:Nat):Entry:=⟨(.cons (.list 2 p46) (.cons p46 .nil)),.bool,T115 N⟩
def c173:List (Nat × Cert):=[(6,.join [(.norm,⟨(.cons .bool .nil),[2],[],[],[],[]⟩)])]
-- "codend/codendref01.far"
def T173 (N:Nat):Int→Option Bool:=(cx N [] [(173,c173)]).fn 1000 173 (.cons (.int .i64) .nil) .bool
def e173 (N:Nat):Entry:=⟨(.cons (.int .i64) .nil),.bool,T173 N⟩
-- "codend/codendref01.even"
def T174 (N:Nat):Int × Int→Option Bool:=(cx N [] []).fn 1000 174 (.cons (.int .i64) (.cons (.int .i64) .nil)) .bool
def e174 (N:Nat):Entry:=⟨(.cons (.int .i64) (.cons (.int .i64) .nil)),.bool,T174 N⟩
def c134:List (Nat × Cert):=[(12,.join [(.norm,⟨(.cons .bool .nil),[10],[],[],[],[]⟩)])]
-- "codend/codendref01.CheckKnot"
def T134 (N:Nat):PA→Option Int:=(cx N [(173,e173 N),(174,e174 N)] [(134,c134)]).fn 1000 134 (.cons p46 .nil) (.int .i64)
def e134 (N:Nat):Entry:=⟨(.cons p46 .nil),(.int .i64),T134 N⟩
-- "codend/codendref04.IsStep"
-- "codend/codendref04.CheckEdge"
-- "codend/codendref04.Moved"
-- "codend/codendref01.SameKnots"
-- "codend/codendlaw04.SeamEdges"
end
end Go.Proofs.YtfiopgedfcaodaaGreatDoor
