/- What the functions compute (printed by a program of ours,checked by the kernel). -/
import Derived.Test.YtfiopgedfcaodaaGreatDoorSeamTr
set_option linter.all false
namespace Go.Proofs.YtfiopgedfcaodaaGreatDoor
open Go Go.Am
set_option maxRecDepth 100000
open List (map)
open Int (toNat)
open Pat (fits)
noncomputable section
abbrev p4:Pat:=.bool
abbrev d4 (v:AV):Bool:=Pat.decD p4 v
abbrev p53:Pat:=(.list 3 (.agg (.cons (.int .i64) (.cons (.int .i64) (.cons (.int .i64) .nil)))))
abbrev p89:Pat:=(.agg (.cons (.int .i64) (.cons (.int .i64) (.cons (.int .i64) .nil))))
abbrev pM177:Pat:=(.agg (.cons (.agg (.cons (.int .i64) (.cons (.int .i64) (.cons (.int .i64) .nil)))) (.cons .bool .nil)))
def c51:List (Nat × Cert):=[(12,.join [(.norm,⟨(.cons .bool .nil),[25],[],[],[],[]⟩)]),
 (58,.loop [] ⟨(.cons (.int .i64) .nil),[3],[],[],[],[]⟩ [(.ret,⟨(.cons .bool .nil),[2],[],[],[],[]⟩),(.ex 0,⟨.nil,[],[],[],[],[]⟩)])]
-- "codend/codendref04.ShortSewn"
def T51 (N:Nat):((List LB) × LA)→Option Bool:=(cx N [] [(51,c51)]).fn 1000 51 (.cons (.agg (.cons (.list 1 p53) (.cons (.list 2 p46) .nil))) .nil) .bool
def e51 (N:Nat):Entry:=⟨(.cons (.agg (.cons (.list 1 p53) (.cons (.list 2 p46) .nil))) .nil),.bool,T51 N⟩
def c128:List (Nat × Cert):=[(12,.join [(.norm,⟨(.cons .bool .nil),[22],[],[],[],[]⟩)]),
 (122,.loop [] ⟨(.cons (.int .i64) (.cons (.list 2 pM177) .nil)),[27],[],[],[.map],[]⟩ [(.ret,⟨(.cons (.int .i64) (.cons (.list 2 pM177) .nil)),[2],[],[],[.map],[]⟩),(.ex 0,⟨(.cons (.list 2 pM177) .nil),[],[],[],[.map],[]⟩)]),
 (506,.loop [] ⟨(.cons (.int .i64) (.cons (.list 2 pM177) .nil)),[66],[],[],[.map],[]⟩ [(.ret,⟨(.cons (.int .i64) (.cons (.list 2 pM177) .nil)),[2],[],[],[.map],[]⟩),(.ex 4,⟨(.cons (.list 2 pM177) .nil),[],[],[],[.map],[]⟩)]),
 (62670,.loop [] ⟨(.cons (.int .i64) (.cons (.list 2 pM177) .nil)),[36],[],[],[.map],[]⟩ [(.ret,⟨(.cons (.int .i64) (.cons (.list 2 pM177) .nil)),[2],[],[],[.map],[]⟩),(.ex 2,⟨(.cons (.list 2 pM177) .nil),[],[],[],[.map],[]⟩)])]
-- "(codend/seam.Sewn).check"
def T128 (N:Nat):((List LB) × LA)→Option Int:=(cx N [(90,e90 N),(91,e91 N),(93,e93 N),(129,e129 N),(130,e130 N)] [(128,c128)]).fn 1000 128 (.cons (.agg (.cons (.list 1 p53) (.cons (.list 2 p46) .nil))) .nil) (.int .i64)
def e128 (N:Nat):Entry:=⟨(.cons (.agg (.cons (.list 1 p53) (.cons (.list 2 p46) .nil))) .nil),(.int .i64),T128 N⟩
def c52x131:List (Nat × Cert):=[(1,.join [(.ret,⟨(.cons (.int .i64) (.cons (.int .i64) (.cons (.int .i64) (.cons (.int .i64) .nil)))),[4],[],[],[.row 3],[]⟩)]),
 (26,.loop [] ⟨(.cons (.int .i64) (.cons (.int .i64) (.cons (.int .i64) (.cons (.int .i64) .nil)))),[8],[],[],[.row 3],[]⟩ [(.ret,⟨(.cons (.int .i64) (.cons (.int .i64) (.cons (.int .i64) (.cons (.int .i64) .nil)))),[4],[],[],[.row 3],[]⟩),(.ex 0,⟨(.cons (.int .i64) (.cons (.int .i64) (.cons (.int .i64) .nil))),[],[],[],[.row 3],[]⟩)])]
def c52x172:List (Nat × Cert):=[(1,.join [(.ret,⟨(.cons (.int .i64) (.cons (.int .i64) (.cons (.int .i64) (.cons (.int .i64) .nil)))),[4],[],[],[.row 3],[]⟩)]),
 (26,.loop [] ⟨(.cons (.int .i64) (.cons (.int .i64) (.cons (.int .i64) (.cons (.int .i64) .nil)))),[8],[],[],[.row 3],[]⟩ [(.ret,⟨(.cons (.int .i64) (.cons (.int .i64) (.cons (.int .i64) (.cons (.int .i64) .nil)))),[4],[],[],[.row 3],[]⟩),(.ex 0,⟨(.cons (.int .i64) (.cons (.int .i64) (.cons (.int .i64) .nil))),[],[],[],[.row 3],[]⟩)])]
-- "codend/seam.ClassOf"
def T52 (N:Nat):((List LB) × LA) × PB→Option PA:=(cx N [(90,e90 N),(91,e91 N),(128,e128 N),(129,e129 N),(130,e130 N)] [(131,c52x131),(172,c52x172)]).fn 1000 52 (.cons (.agg (.cons (.list 1 p53) (.cons (.list 2 p46) .nil))) (.cons p89 .nil)) (.tup (.cons (.int .i64) (.cons (.int .i64) .nil)))
def e52 (N:Nat):Entry:=⟨(.cons (.agg (.cons (.list 1 p53) (.cons (.list 2 p46) .nil))) (.cons p89 .nil)),(.tup (.cons (.int .i64) (.cons (.int .i64) .nil))),T52 N⟩
def c53:List (Nat × Cert):=[(6,.join [(.norm,⟨(.cons (.cst (.list .nil 0 [])) (.cons (.list 2 p46) .nil)),[],[],[(3,2)],[],[(3,3,0)]⟩)]),
 (58,.loop [(.box 3 0,1,53)] ⟨(.cons (.int .i64) (.cons (.own 0 1 p53) (.cons (.list 2 p46) .nil))),[17],[],[(3,2)],[.tok 1 1 53],[]⟩ [(.ex 0,⟨(.cons (.own 0 1 p53) (.cons (.list 2 p46) .nil)),[],[],[(3,2)],[.tok 0 1 53],[]⟩)]),
 (59802,.loop [(.slot 6,3,94)] ⟨(.cons (.own 1 3 p89) (.cons (.int .i64) .nil)),[6,23],[],[],[.keep,.tok 0 3 94],[]⟩ [(.ex 2,⟨(.cons (.own 1 3 p89) .nil),[6],[],[],[.keep,.tok 0 3 94],[]⟩)])]
-- "codend/codendlaw04.sewn"
def T53 (N:Nat):((List LB) × LA)→Option (((List LB) × LA)):=(cx N [] [(53,c53)]).fn 1000 53 (.cons (.agg (.cons (.list 1 p53) (.cons (.list 2 p46) .nil))) .nil) (.agg (.cons (.list 1 p53) (.cons (.list 2 p46) .nil)))
def e53 (N:Nat):Entry:=⟨(.cons (.agg (.cons (.list 1 p53) (.cons (.list 2 p46) .nil))) .nil),(.agg (.cons (.list 1 p53) (.cons (.list 2 p46) .nil))),T53 N⟩
def c54:List (Nat × Cert):=[(122,.loop [] ⟨(.cons (.int .i64) (.cons (.list 1 (.int .i64)) .nil)),[20],[],[],[.gro 1 3],[]⟩ [(.ex 0,⟨(.cons (.list 1 (.int .i64)) .nil),[],[],[],[.gro 1 3],[]⟩)])]
-- "codend/seam.Degrees"
def T54 (N:Nat):((List LB) × LA)→Option (LZ × Int):=(cx N [(128,e128 N)] [(54,c54)]).fn 1000 54 (.cons (.agg (.cons (.list 1 p53) (.cons (.list 2 p46) .nil))) .nil) (.tup (.cons (.list 1 (.int .i64)) (.cons (.int .i64) .nil)))
def e54 (N:Nat):Entry:=⟨(.cons (.agg (.cons (.list 1 p53) (.cons (.list 2 p46) .nil))) .nil),(.tup (.cons (.list 1 (.int .i64)) (.cons (.int .i64) .nil))),T54 N⟩
def c55:List (Nat × Cert):=[(122,.loop [] ⟨(.cons (.int .i64) (.cons (.list 1 (.int .i64)) .nil)),[23],[],[],[.gro 1 3],[]⟩ [(.ex 0,⟨(.cons (.list 1 (.int .i64)) .nil),[],[],[],[.gro 1 3],[]⟩)]),
 (506,.loop [] ⟨(.cons (.int .i64) (.cons (.int .i64) (.cons (.int .i64) (.cons (.int .i64) (.cons (.int .i64) (.cons (.list 1 (.int .i64)) .nil)))))),[43],[],[(8,4)],[.gro 1 3],[]⟩ [(.ex 2,⟨(.cons (.int .i64) (.cons (.int .i64) (.cons (.int .i64) (.cons (.int .i64) (.cons (.list 1 (.int .i64)) .nil))))),[],[],[(8,4)],[.gro 1 3],[]⟩)]),
 (8102,.join [(.norm,⟨(.cons (.int .i64) (.cons (.int .i64) (.cons (.int .i64) (.cons (.int .i64) (.cons (.list 1 (.int .i64)) .nil))))),[],[],[(8,4)],[.gro 1 3],[]⟩)])]
def c55x122:List (Nat × Cert):=[(58,.loop [] ⟨(.cons (.cst (.gsl 0 0 0 1 0)) (.cons (.int .i64) (.cons (.list 1 (.int .i64)) .nil))),[3,6],[],[],[.gro 1 3],[]⟩ [(.ex 0,⟨(.cons (.cst (.gsl 0 0 0 1 0)) (.cons (.list 1 (.int .i64)) .nil)),[3],[],[],[.gro 1 3],[]⟩)])]
def c55x123:List (Nat × Cert):=[(12,.loop [] ⟨(.cons (.int .i64) (.cons (.list 1 (.int .i64)) .nil)),[1],[],[],[.gro 1 3],[]⟩ [(.ex 0,⟨(.cons (.int .i64) (.cons (.list 1 (.int .i64)) .nil)),[1],[],[],[.gro 1 3],[]⟩)])]
-- "codend/seam.Counts"
def T55 (N:Nat):((List LB) × LA)→Option ((Int × Int × Int × Int) × Int):=(cx N [(128,e128 N)] [(55,c55),(122,c55x122),(123,c55x123)]).fn 1000 55 (.cons (.agg (.cons (.list 1 p53) (.cons (.list 2 p46) .nil))) .nil) (.tup (.cons (.agg (.cons (.int .i64) (.cons (.int .i64) (.cons (.int .i64) (.cons (.int .i64) .nil))))) (.cons (.int .i64) .nil)))
def e55 (N:Nat):Entry:=⟨(.cons (.agg (.cons (.list 1 p53) (.cons (.list 2 p46) .nil))) .nil),(.tup (.cons (.agg (.cons (.int .i64) (.cons (.int .i64) (.cons (.int .i64) (.cons (.int .i64) .nil))))) (.cons (.int .i64) .nil))),T55 N⟩
def c126:List (Nat × Cert):=[(26,.loop [] ⟨(.cons (.int .i64) .nil),[5],[],[],[],[]⟩ [(.ret,⟨(.cons (.int .i64) .nil),[4],[],[],[],[]⟩),(.ex 0,⟨.nil,[],[],[],[],[]⟩)])]
-- "codend/codendref04.at"
def T126 (N:Nat):LB × PB→Option Int:=(cx N [] [(126,c126)]).fn 1000 126 (.cons p53 (.cons p89 .nil)) (.int .i64)
def e126 (N:Nat):Entry:=⟨(.cons p53 (.cons p89 .nil)),(.int .i64),T126 N⟩
def c56:List (Nat × Cert):=[(12,.join [(.norm,⟨(.cons .bool .nil),[19],[],[],[],[]⟩)]),
 (122,.loop [(.slot 3,3,89)] ⟨(.cons (.own 0 3 p89) (.cons (.int .i64) .nil)),[3,4],[],[],[.tok 0 3 89],[]⟩ [(.ret,⟨(.cons (.int .i64) .nil),[2],[],[],[.dead],[]⟩),(.ex 0,⟨.nil,[],[],[],[.dead],[]⟩)]),
 (250,.loop [] ⟨(.cons (.int .i64) .nil),[8],[],[],[.dead],[]⟩ [(.ret,⟨(.cons (.int .i64) .nil),[2],[],[],[.dead],[]⟩),(.ex 4,⟨.nil,[],[],[],[.dead],[]⟩)]),
 (15654,.loop [] ⟨(.cons (.own 0 3 p89) (.cons (.int .i64) .nil)),[3,5],[],[],[.tok 0 3 89],[]⟩ [(.ret,⟨(.cons (.int .i64) .nil),[2],[],[],[.dead],[]⟩),(.ex 2,⟨(.cons (.own 0 3 p89) .nil),[3],[],[],[.tok 0 3 89],[]⟩)]),
 (32036,.join [(.norm,⟨(.cons .bool .nil),[110],[],[],[.dead],[]⟩)]),
 (4007500,.join [(.norm,⟨(.cons (.own 0 3 p89) (.cons .bool .nil)),[3,67],[],[],[.tok 0 3 89],[]⟩)]),
 (4007501,.join [(.norm,⟨(.cons (.own 0 3 p89) (.cons (.int .i64) .nil)),[3,7],[],[],[.tok 0 3 89],[]⟩)])]
-- "codend/codendref04.CheckSewn"
def T56 (N:Nat):((List LB) × LA)→Option Int:=(cx N [(28,e28 N),(80,e80 N),(126,e126 N),(134,e134 N)] [(56,c56)]).fn 1000 56 (.cons (.agg (.cons (.list 1 p53) (.cons (.list 2 p46) .nil))) .nil) (.int .i64)
def e56 (N:Nat):Entry:=⟨(.cons (.agg (.cons (.list 1 p53) (.cons (.list 2 p46) .nil))) .nil),(.int .i64),T56 N⟩
def c57:List (Nat × Cert):=[(122,.loop [] ⟨(.cons (.int .i64) .nil),[7],[],[],[],[]⟩ [(.ret,⟨(.cons (.int .i64) (.cons (.int .i64) .nil)),[4,5],[],[],[],[]⟩),(.ex 0,⟨.nil,[],[],[],[],[]⟩)])]
-- "codend/codendref04.ClassOf"
def T57 (N:Nat):((List LB) × LA) × PB→Option PA:=(cx N [(28,e28 N),(80,e80 N),(126,e126 N),(134,e134 N)] [(57,c57)]).fn 1000 57 (.cons (.agg (.cons (.list 1 p53) (.cons (.list 2 p46) .nil))) (.cons p89 .nil)) (.tup (.cons (.int .i64) (.cons (.int .i64) .nil)))
def e57 (N:Nat):Entry:=⟨(.cons (.agg (.cons (.list 1 p53) (.cons (.list 2 p46) .nil))) (.cons p89 .nil)),(.tup (.cons (.int .i64) (.cons (.int .i64) .nil))),T57 N⟩
def c58:List (Nat × Cert):=[(58,.loop [] ⟨(.cons (.int .i64) (.cons (.list 1 (.int .i64)) .nil)),[4],[],[],[.gro 1 3],[]⟩ [(.ex 0,⟨(.cons (.list 1 (.int .i64)) .nil),[],[],[],[.gro 1 3],[]⟩)])]
-- "codend/codendref04.Degrees"
def T58 (N:Nat):((List LB) × LA)→Option (LZ):=(cx N [] [(58,c58)]).fn 1000 58 (.cons (.agg (.cons (.list 1 p53) (.cons (.list 2 p46) .nil))) .nil) (.list 1 (.int .i64))
def e58 (N:Nat):Entry:=⟨(.cons (.agg (.cons (.list 1 p53) (.cons (.list 2 p46) .nil))) .nil),(.list 1 (.int .i64)),T58 N⟩
def c59:List (Nat × Cert):=[(58,.loop [] ⟨(.cons (.int .i64) (.cons (.list 1 (.int .i64)) .nil)),[4],[],[],[.gro 1 3],[]⟩ [(.ex 0,⟨(.cons (.list 1 (.int .i64)) .nil),[],[],[],[.gro 1 3],[]⟩)]),
 (122,.loop [] ⟨(.cons (.int .i64) (.cons (.list 1 (.int .i64)) .nil)),[5],[],[],[.gro 1 3],[]⟩ [(.ex 2,⟨(.cons (.list 1 (.int .i64)) .nil),[],[],[],[.gro 1 3],[]⟩)]),
 (506,.loop [] ⟨(.cons (.int .i64) (.cons (.int .i64) (.cons (.list 1 (.int .i64)) .nil))),[8,9],[],[],[.gro 1 3],[]⟩ [(.ex 6,⟨(.cons (.int .i64) (.cons (.list 1 (.int .i64)) .nil)),[8],[],[],[.gro 1 3],[]⟩)]),
 (4050,.join [(.norm,⟨(.cons (.int .i64) (.cons (.list 1 (.int .i64)) .nil)),[8],[],[],[.gro 1 3],[]⟩)]),
 (7826,.loop [] ⟨(.cons (.int .i64) (.cons (.list 1 (.int .i64)) .nil)),[6],[],[],[.gro 1 3],[]⟩ [(.ex 4,⟨(.cons (.list 1 (.int .i64)) .nil),[],[],[],[.gro 1 3],[]⟩)])]
-- "codend/codendref04.Counts"
def T59 (N:Nat):((List LB) × LA)→Option ((Int × Int × Int × Int)):=(cx N [] [(59,c59)]).fn 1000 59 (.cons (.agg (.cons (.list 1 p53) (.cons (.list 2 p46) .nil))) .nil) (.agg (.cons (.int .i64) (.cons (.int .i64) (.cons (.int .i64) (.cons (.int .i64) .nil)))))
def e59 (N:Nat):Entry:=⟨(.cons (.agg (.cons (.list 1 p53) (.cons (.list 2 p46) .nil))) .nil),(.agg (.cons (.int .i64) (.cons (.int .i64) (.cons (.int .i64) (.cons (.int .i64) .nil))))),T59 N⟩
def c7:List (Nat × Cert):=[(4093,.join [(.norm,⟨(.cons (.int .i64) (.cons (.int .i64) (.cons (.list 1 (.int .i64)) (.cons (.int .i64) (.cons (.int .i64) (.cons (.int .i64) (.cons (.int .i64) .nil))))))),[12,13,14],[],[(15,4)],[],[]⟩)]),
 (4094,.join [(.norm,⟨(.cons .bool .nil),[4],[],[],[],[]⟩)])]
-- "codend/codendlaw04.SeamCounts"
def T7 (N:Nat):((List LB) × LA) × PB→Option Bool:=(cx N [(16,e16 N),(51,e51 N),(52,e52 N),(53,e53 N),(54,e54 N),(55,e55 N),(56,e56 N),(57,e57 N),(58,e58 N),(59,e59 N),(60,e60 N)] [(7,c7)]).fn 1000 7 (.cons (.agg (.cons (.list 1 p53) (.cons (.list 2 p46) .nil))) (.cons p89 .nil)) .bool
def e7 (N:Nat):Entry:=⟨(.cons (.agg (.cons (.list 1 p53) (.cons (.list 2 p46) .nil))) (.cons p89 .nil)),.bool,T7 N⟩
end
end Go.Proofs.YtfiopgedfcaodaaGreatDoor
