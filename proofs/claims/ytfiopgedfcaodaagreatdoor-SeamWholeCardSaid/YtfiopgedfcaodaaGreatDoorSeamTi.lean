/- What the functions compute (printed by a program of ours,checked by the kernel). -/
import Derived.Test.YtfiopgedfcaodaaGreatDoorSeamSo
import Derived.Test.YtfiopgedfcaodaaGreatDoorSeamTh
set_option linter.all false
namespace Go.Proofs.YtfiopgedfcaodaaGreatDoor
open Go Go.Am
set_option maxRecDepth 100000
open List (map)
open Int (toNat)
open aA (fits)
noncomputable section
abbrev ga:aA:=(.agg (.cons (.int .i64) (.cons (.aP 1 1 (.int .i64)) .nil)))
def Vp:List (Nat × a8):=[(6,.loop [] ⟨(.cons (.int .i64) (.cons (.int .i64) (.cons (.int .i64) (.cons (.int .i64) (.cons (.list 2 aW) .nil))))),[2,3],[],[],[.row 1,.row 1,.a7 2 46],[]⟩ [(.ex 0,⟨(.cons (.int .i64) (.cons (.int .i64) (.cons (.list 2 aW) .nil))),[],[],[],[.row 1,.row 1,.a7 2 46],[]⟩)])]
def Vq:List (Nat × a8):=[(58,.loop [(.slot 5,2,46)] ⟨(.cons (.own 3 2 aW) (.cons (.int .i64) (.cons (.int .i64) (.cons (.int .i64) (.cons (.list 2 aW) .nil))))),[5,10],[],[],[.row 1,.row 1,.a7 2 46,.tok 0 2 46],[]⟩ [(.ex 0,⟨(.cons (.own 3 2 aW) (.cons (.int .i64) (.cons (.int .i64) (.cons (.list 2 aW) .nil)))),[5],[],[],[.row 1,.row 1,.a7 2 46,.tok 0 2 46],[]⟩)])]
-- "codend/seam.Reverse"
def T26 (N:Nat):Int × Int × LA→Option (LA × Int):=(iD N [(19,e19 N)] [(96,Vp),(97,Vq)]).fn 1000 26 (.cons (.int .i64) (.cons (.int .i64) (.cons (.list 2 aW) .nil))) (.bH (.cons (.list 2 aW) (.cons (.int .i64) .nil)))
def e26 (N:Nat):aD:=⟨(.cons (.int .i64) (.cons (.int .i64) (.cons (.list 2 aW) .nil))),(.bH (.cons (.list 2 aW) (.cons (.int .i64) .nil))),T26 N⟩
-- "codend/seam.checkPairs"
def T99 (N:Nat):LA→Option Int:=(iD N [(19,e19 N),(90,Nl N),(93,Wk N)] []).fn 1000 99 (.cons (.list 2 aW) .nil) (.int .i64)
def e99 (N:Nat):aD:=⟨(.cons (.list 2 aW) .nil),(.int .i64),T99 N⟩
-- "slices.Compare[[]int,int]"
def c27:List (Nat × a8):=[(250,.loop [] ⟨(.cons (.int .i64) (.cons (.list 2 ga) (.cons (.list 1 (.int .i64)) .nil))),[40],[],[],[.iS,.aP 1 3],[]⟩ [(.ex 0,⟨(.cons (.list 2 ga) (.cons (.list 1 (.int .i64)) .nil)),[],[],[],[.iS,.aP 1 3],[]⟩)]),
 (1018,.loop [] ⟨(.cons (.eo (.cR 2 0 0 2 0)) (.cons (.int .i64) (.cons (.list 2 ga) (.cons (.list 1 (.int .i64)) (.cons (.list 2 aW) .nil))))),[10,58],[],[],[.iS,.aP 1 3,.a7 2 46],[]⟩ [(.ex 2,⟨(.cons (.eo (.cR 2 0 0 2 0)) (.cons (.list 2 ga) (.cons (.list 1 (.int .i64)) (.cons (.list 2 aW) .nil)))),[10],[],[],[.iS,.aP 1 3,.a7 2 46],[]⟩)])]
def Q0:List (Nat × a8):=[(58,.loop [(.slot 5,2,46)] ⟨(.cons (.own 4 2 aW) (.cons (.int .i64) (.cons (.list 2 ga) (.cons (.list 1 (.int .i64)) (.cons (.list 2 aW) (.cons (.int .i64) (.cons (.int .i64) .nil))))))),[5,10],[],[],[.iS,.aP 1 3,.a7 2 46,.row 2,.tok 0 2 46],[]⟩ [(.ex 0,⟨(.cons (.own 4 2 aW) (.cons (.list 2 ga) (.cons (.list 1 (.int .i64)) (.cons (.list 2 aW) (.cons (.int .i64) (.cons (.int .i64) .nil)))))),[5],[],[],[.iS,.aP 1 3,.a7 2 46,.row 2,.tok 0 2 46],[]⟩)])]
def Q1:List (Nat × a8):=[(1,.join [(.ret,⟨(.cons (.list 2 aW) (.cons (.list 2 ga) (.cons (.list 1 (.int .i64)) .nil))),[2],[],[],[.iS,.aP 1 3,.dead],[]⟩)]),
 (58,.loop [] ⟨(.cons (.int .i64) (.cons (.list 2 ga) (.cons (.list 1 (.int .i64)) (.cons (.list 2 aW) .nil)))),[3],[],[],[.iS,.aP 1 3,.a7 2 46],[]⟩ [(.ret,⟨(.cons (.list 2 aW) (.cons (.list 2 ga) (.cons (.list 1 (.int .i64)) .nil))),[2],[],[],[.iS,.aP 1 3,.dead],[]⟩),(.ex 0,⟨(.cons (.list 2 ga) (.cons (.list 1 (.int .i64)) (.cons (.list 2 aW) .nil))),[],[],[],[.iS,.aP 1 3,.a7 2 46],[]⟩)]),
 (59690,.loop [] ⟨(.cons (.int .i64) (.cons (.int .i64) (.cons (.list 2 ga) (.cons (.list 1 (.int .i64)) (.cons (.list 2 aW) .nil))))),[3,5],[],[],[.iS,.aP 1 3,.a7 2 46],[]⟩ [(.ex 2,⟨(.cons (.int .i64) (.cons (.list 2 ga) (.cons (.list 1 (.int .i64)) (.cons (.list 2 aW) .nil)))),[3],[],[],[.iS,.aP 1 3,.a7 2 46],[]⟩)]),
 (477522,.join [(.norm,⟨(.cons (.int .i64) (.cons (.list 2 ga) (.cons (.list 1 (.int .i64)) (.cons (.list 2 aW) .nil)))),[3],[],[],[.iS,.aP 1 3,.a7 2 46],[]⟩)])]
-- "codend/seam.Compose"
def T27 (N:Nat):LA × LA→Option (LA × Int):=(iD N [(90,Nl N),(99,e99 N)] [(27,c27),(100,Q0),(105,Q1)]).fn 1000 27 (.cons (.list 2 aW) (.cons (.list 2 aW) .nil)) (.bH (.cons (.list 2 aW) (.cons (.int .i64) .nil)))
def e27 (N:Nat):aD:=⟨(.cons (.list 2 aW) (.cons (.list 2 aW) .nil)),(.bH (.cons (.list 2 aW) (.cons (.int .i64) .nil))),T27 N⟩
def c29:List (Nat × a8):=[(60,.join [(.norm,⟨(.cons .bool .nil),[30],[],[],[],[]⟩)])]
-- "codend/codendref04.CheckPairs"
def T29 (N:Nat):LA→Option Int:=(iD N [(25,e25 N)] [(29,c29)]).fn 1000 29 (.cons (.list 2 aW) .nil) (.int .i64)
def e29 (N:Nat):aD:=⟨(.cons (.list 2 aW) .nil),(.int .i64),T29 N⟩
def c30:List (Nat × a8):=[(58,.loop [(.slot 7,2,46)] ⟨(.cons (.own 0 2 aW) (.cons (.int .i64) .nil)),[7,8],[],[],[.tok 0 2 46],[]⟩ [(.ex 0,⟨(.cons (.own 0 2 aW) .nil),[7],[],[],[.tok 0 2 46],[]⟩)])]
-- "codend/codendref04.Reverse"
def T30 (N:Nat):Int × Int × LA→Option (LA):=(iD N [] [(30,c30)]).fn 1000 30 (.cons (.int .i64) (.cons (.int .i64) (.cons (.list 2 aW) .nil))) (.list 2 aW)
def e30 (N:Nat):aD:=⟨(.cons (.int .i64) (.cons (.int .i64) (.cons (.list 2 aW) .nil))),(.list 2 aW),T30 N⟩
def adC:List (Nat × a8):=[(26,.loop [] ⟨(.cons (.int .i64) .nil),[9],[],[],[],[]⟩ [(.ret,⟨(.cons .bool .nil),[8],[],[],[],[]⟩),(.ex 0,⟨.nil,[],[],[],[],[]⟩)]),
 (1682,.loop [] ⟨(.cons (.int .i64) .nil),[10],[],[],[],[]⟩ [(.ret,⟨(.cons .bool .nil),[8],[],[],[],[]⟩),(.ex 2,⟨.nil,[],[],[],[],[]⟩)]),
 (53832,.join [(.norm,⟨(.cons .bool .nil),[51],[],[],[],[]⟩)])]
-- "codend/codendref04.meet"
def adD (N:Nat):LA × LA × Int × Int→Option Bool:=(iD N [] [(106,adC)]).fn 1000 106 (.cons (.list 2 aW) (.cons (.list 2 aW) (.cons (.int .i64) (.cons (.int .i64) .nil)))) .bool
def adE (N:Nat):aD:=⟨(.cons (.list 2 aW) (.cons (.list 2 aW) (.cons (.int .i64) (.cons (.int .i64) .nil)))),.bool,adD N⟩
def c31:List (Nat × a8):=[(58,.loop [(.slot 5,2,46)] ⟨(.cons (.own 0 2 aW) (.cons (.int .i64) .nil)),[5,6],[],[],[.tok 0 2 46],[]⟩ [(.ex 0,⟨(.cons (.own 0 2 aW) .nil),[5],[],[],[.tok 0 2 46],[]⟩)]),
 (3730,.loop [] ⟨(.cons (.own 0 2 aW) (.cons (.int .i64) .nil)),[5,7],[],[],[.tok 0 2 46],[]⟩ [(.ex 2,⟨(.cons (.own 0 2 aW) .nil),[5],[],[],[.tok 0 2 46],[]⟩)]),
 (29842,.join [(.norm,⟨(.cons (.own 0 2 aW) .nil),[5],[],[],[.tok 0 2 46],[]⟩)])]
-- "codend/codendref04.Compose"
def T31 (N:Nat):LA × LA→Option (LA):=(iD N [(106,adE N)] [(31,c31)]).fn 1000 31 (.cons (.list 2 aW) (.cons (.list 2 aW) .nil)) (.list 2 aW)
def e31 (N:Nat):aD:=⟨(.cons (.list 2 aW) (.cons (.list 2 aW) .nil)),(.list 2 aW),T31 N⟩
def c4:List (Nat × a8):=[(28,.join [(.norm,⟨(.cons .bool .nil),[29],[],[],[],[]⟩)]),
 (1020,.join [(.norm,⟨(.cons .bool .nil),[75],[],[],[],[]⟩)]),
 (1021,.join [(.norm,⟨(.cons (.int .i64) .nil),[13],[],[],[],[]⟩)]),
 (4093,.join [(.norm,⟨(.cons (.list 2 aW) .nil),[14],[],[],[],[]⟩)]),
 (8189,.join [(.norm,⟨(.cons (.list 2 aW) .nil),[15],[],[],[],[]⟩)]),
 (8190,.join [(.norm,⟨(.cons .bool .nil),[4],[],[],[],[]⟩)])]
-- "codend/codendlaw04.SeamTurns"
def T4 (N:Nat):(Int × Int × LA) × LA→Option Bool:=(iD N [(16,Ud N),(20,e20 N),(24,e24 N),(25,e25 N),(26,e26 N),(27,e27 N),(28,XU N),(29,e29 N),(30,e30 N),(31,e31 N)] [(4,c4)]).fn 1000 4 (.cons (.agg (.cons (.int .i64) (.cons (.int .i64) (.cons (.list 2 aW) .nil)))) (.cons (.list 2 aW) .nil)) .bool
def e4 (N:Nat):aD:=⟨(.cons (.agg (.cons (.int .i64) (.cons (.int .i64) (.cons (.list 2 aW) .nil)))) (.cons (.list 2 aW) .nil)),.bool,T4 N⟩
end
end Go.Proofs.YtfiopgedfcaodaaGreatDoor
