/- What the functions compute (printed by a program of ours,checked by the kernel). -/
import Derived.Test.YtfiopgedfcaodaaGreatDoorSeamSo
import Derived.Test.YtfiopgedfcaodaaGreatDoorSeamTd
set_option linter.all false
namespace Go.Proofs.YtfiopgedfcaodaaGreatDoor
open Go Go.Am
set_option maxRecDepth 100000
open List (map)
open Int (toNat)
open Pat (fits)
noncomputable section
abbrev pM191:Pat:=(.agg (.cons (.agg (.cons (.int .i64) (.cons (.int .i64) (.cons (.int .i64) .nil)))) (.cons (.int .i64) .nil)))
def c107:List (Nat × Cert):=[(6,.join [(.norm,⟨(.cons .bool .nil),[4],[],[],[],[]⟩)])]
-- "codend/codendref01.ShortNet"
def T107 (N:Nat):LB × Int→Option Bool:=(cxS N [] [(107,c107)]).fn 1000 107 (.cons p53 (.cons (.int .i64) .nil)) .bool
def e107 (N:Nat):Entry:=⟨(.cons p53 (.cons (.int .i64) .nil)),.bool,T107 N⟩
def c32:List (Nat × Cert):=[(12,.join [(.norm,⟨(.cons .bool .nil),[11],[],[],[],[]⟩)]),
 (58,.loop [] ⟨(.cons (.int .i64) .nil),[3],[],[],[],[]⟩ [(.ret,⟨(.cons .bool .nil),[2],[],[],[],[]⟩),(.ex 0,⟨.nil,[],[],[],[],[]⟩)])]
-- "codend/codendref04.ShortPieces"
def T32 (N:Nat):(List LB)→Option Bool:=(cxS N [(107,e107 N)] [(32,c32)]).fn 1000 32 (.cons (.list 1 p53) .nil) .bool
def e32 (N:Nat):Entry:=⟨(.cons (.list 1 p53) .nil),.bool,T32 N⟩
-- "codend/netting.ends"
def T197 (N:Nat):PB→Option ((Int × Int × Int × Int)):=(cxS N [] []).fn 1000 197 (.cons p89 .nil) (.agg (.cons (.int .i64) (.cons (.int .i64) (.cons (.int .i64) (.cons (.int .i64) .nil)))))
def e197 (N:Nat):Entry:=⟨(.cons p89 .nil),(.agg (.cons (.int .i64) (.cons (.int .i64) (.cons (.int .i64) (.cons (.int .i64) .nil))))),T197 N⟩
def c168:List (Nat × Cert):=[(12,.join [(.norm,⟨(.cons (.int .i64) .nil),[3],[],[],[],[]⟩)])]
-- "codend/netting.CheckBar"
def T168 (N:Nat):PB→Option Int:=(cxS N [(130,e130 N),(167,e167 N),(169,e169 N),(171,e171 N),(197,e197 N)] [(168,c168)]).fn 1000 168 (.cons p89 .nil) (.int .i64)
def e168 (N:Nat):Entry:=⟨(.cons p89 .nil),(.int .i64),T168 N⟩
-- "cmp.isNaN[int]"
def T195 (N:Nat):Int→Option Bool:=(cxS N [] []).fn 1000 195 (.cons (.int .i64) .nil) .bool
def e195 (N:Nat):Entry:=⟨(.cons (.int .i64) .nil),.bool,T195 N⟩
-- "cmp.Compare[int]"
def T161 (N:Nat):Int × Int→Option Int:=(cxS N [(195,e195 N)] []).fn 1000 161 (.cons (.int .i64) (.cons (.int .i64) .nil)) (.int .i64)
def e161 (N:Nat):Entry:=⟨(.cons (.int .i64) (.cons (.int .i64) .nil)),(.int .i64),T161 N⟩
def c166:List (Nat × Cert):=[(58,.loop [] ⟨(.cons (.int .i64) .nil),[8],[],[],[],[]⟩ [(.ret,⟨(.cons (.int .i64) .nil),[2],[],[],[],[]⟩),(.ex 0,⟨.nil,[],[],[],[],[]⟩)])]
-- "cmp.Or[int]"
def T166 (N:Nat):LZ→Option Int:=(cxS N [] [(166,c166)]).fn 1000 166 (.cons (.list 1 (.int .i64)) .nil) (.int .i64)
def e166 (N:Nat):Entry:=⟨(.cons (.list 1 (.int .i64)) .nil),(.int .i64),T166 N⟩
-- "codend/netting.compare"
def T170 (N:Nat):PB × PB→Option Int:=(cxS N [(161,e161 N),(166,e166 N)] []).fn 1000 170 (.cons p89 (.cons p89 .nil)) (.int .i64)
def e170 (N:Nat):Entry:=⟨(.cons p89 (.cons p89 .nil)),(.int .i64),T170 N⟩
def c117:List (Nat × Cert):=[(58,.loop [] ⟨(.cons (.int .i64) .nil),[11],[],[],[],[]⟩ [(.ret,⟨(.cons (.int .i64) .nil),[2],[],[],[],[]⟩),(.ex 0,⟨.nil,[],[],[],[],[]⟩)]),
 (7474,.join [(.norm,⟨(.cons (.int .i64) .nil),[5],[],[],[],[]⟩)])]
-- "codend/netting.CheckNet"
def T117 (N:Nat):LB→Option Int:=(cxS N [(167,e167 N),(168,e168 N),(169,e169 N),(170,e170 N)] [(117,c117)]).fn 1000 117 (.cons p53 .nil) (.int .i64)
def e117 (N:Nat):Entry:=⟨(.cons p53 .nil),(.int .i64),T117 N⟩
def c41x116:List (Nat × Cert):=[(58,.loop [(.slot 5,1,24)] ⟨(.cons (.own 0 1 (.int .i64)) (.cons (.int .i64) .nil)),[5,10],[],[],[.tok 0 1 24],[]⟩ [(.ex 0,⟨(.cons (.own 0 1 (.int .i64)) .nil),[5],[],[],[.tok 0 1 24],[]⟩)])]
-- "codend/seam.CheckPieces"
def T41 (N:Nat):(List LB)→Option Int:=(cxS N [(90,e90 N),(117,e117 N)] [(116,c41x116)]).fn 1000 41 (.cons (.list 1 p53) .nil) (.int .i64)
def e41 (N:Nat):Entry:=⟨(.cons (.list 1 p53) .nil),(.int .i64),T41 N⟩
-- "codend/netting.knots$2"
def T214 (N:Nat):PA × PA→Option Bool:=(cxS N [] []).fn 1000 214 (.cons p46 (.cons p46 .nil)) .bool
def e214 (N:Nat):Entry:=⟨(.cons p46 (.cons p46 .nil)),.bool,T214 N⟩
def c196:List (Nat × Cert):=[(58,.loop [] ⟨(.cons (.cst (.gsl 0 0 0 2 0)) (.cons (.int .i64) (.cons (.list 2 p46) .nil))),[3,9],[],[],[.gro 2 87],[]⟩ [(.ex 0,⟨(.cons (.cst (.gsl 0 0 0 2 0)) (.cons (.list 2 p46) .nil)),[3],[],[],[.gro 2 87],[]⟩)])]
def c196x213:List (Nat × Cert):=[(1,.join [(.ret,⟨(.cons (.list 2 p46) .nil),[4],[],[],[.dead],[]⟩)]),
 (58,.loop [] ⟨(.cons (.int .i64) (.cons (.list 2 p46) .nil)),[5],[],[],[.gro 2 87],[]⟩ [(.ret,⟨(.cons (.list 2 p46) .nil),[4],[],[],[.dead],[]⟩),(.ex 0,⟨(.cons (.list 2 p46) .nil),[],[],[],[.gro 2 87],[]⟩)]),
 (59690,.loop [] ⟨(.cons (.int .i64) (.cons (.int .i64) (.cons (.list 2 p46) .nil))),[5,7],[],[],[.gro 2 87],[]⟩ [(.ex 2,⟨(.cons (.int .i64) (.cons (.list 2 p46) .nil)),[5],[],[],[.gro 2 87],[]⟩)]),
 (477522,.join [(.norm,⟨(.cons (.int .i64) (.cons (.list 2 p46) .nil)),[5],[],[],[.gro 2 87],[]⟩)])]
-- "codend/netting.knots"
def T196 (N:Nat):LB→Option (LA):=(cxS N [(197,e197 N),(214,e214 N)] [(196,c196),(213,c196x213)]).fn 1000 196 (.cons p53 .nil) (.list 2 p46)
def e196 (N:Nat):Entry:=⟨(.cons p53 .nil),(.list 2 p46),T196 N⟩
-- "codend/netting.Knots"
def T163 (N:Nat):LB→Option (LA × Int):=(cxS N [(117,e117 N),(196,e196 N)] []).fn 1000 163 (.cons p53 .nil) (.tup (.cons (.list 2 p46) (.cons (.int .i64) .nil)))
def e163 (N:Nat):Entry:=⟨(.cons p53 .nil),(.tup (.cons (.list 2 p46) (.cons (.int .i64) .nil))),T163 N⟩
def c42x109:List (Nat × Cert):=[(58,.loop [] ⟨(.cons (.cst (.gsl 1 0 0 3 0)) (.cons (.int .i64) (.cons (.list 1 p53) (.cons p53 .nil)))),[3,10],[],[],[.row 1,.gro 3 94],[]⟩ [(.ex 0,⟨(.cons (.cst (.gsl 1 0 0 3 0)) (.cons (.list 1 p53) (.cons p53 .nil))),[3],[],[],[.row 1,.gro 3 94],[]⟩)])]
def c42x118:List (Nat × Cert):=[(58,.loop [] ⟨(.cons (.int .i64) (.cons (.list 1 p53) (.cons p53 (.cons (.list 2 pM191) .nil)))),[9],[],[],[.row 1,.gro 3 94,.map],[]⟩ [(.ex 0,⟨(.cons (.list 1 p53) (.cons p53 (.cons (.list 2 pM191) .nil))),[],[],[],[.row 1,.gro 3 94,.map],[]⟩)])]
def c42x119:List (Nat × Cert):=[(14,.join [(.norm,⟨(.cons (.int .i64) (.cons (.list 1 p53) (.cons p53 (.cons (.list 2 pM191) (.cons (.cst (.map 2)) (.cons (.cst (.fn 119 [] [.ptr 3 0,.ptr 0 0])) .nil)))))),[4],[],[],[.row 1,.gro 3 94,.map,.row 1,.row 1,.keep],[]⟩)])]
def c42x120:List (Nat × Cert):=[(58,.loop [(.slot 5,1,24)] ⟨(.cons (.own 5 1 (.int .i64)) (.cons (.int .i64) (.cons (.list 1 p53) (.cons p53 (.cons (.list 2 pM191) (.cons (.cst (.map 2)) (.cons (.cst (.fn 119 [] [.ptr 3 0,.ptr 0 0])) .nil))))))),[5,10],[],[],[.row 1,.gro 3 94,.map,.row 1,.row 1,.tok 0 1 24],[]⟩ [(.ex 0,⟨(.cons (.own 5 1 (.int .i64)) (.cons (.list 1 p53) (.cons p53 (.cons (.list 2 pM191) (.cons (.cst (.map 2)) (.cons (.cst (.fn 119 [] [.ptr 3 0,.ptr 0 0])) .nil)))))),[5],[],[],[.row 1,.gro 3 94,.map,.row 1,.row 1,.tok 0 1 24],[]⟩)])]
def c42x164:List (Nat × Cert):=[(58,.loop [(.slot 5,3,94)] ⟨(.cons (.own 3 3 p89) (.cons (.int .i64) (.cons (.list 1 p53) (.cons p53 (.cons (.int .i64) .nil))))),[5,10],[],[],[.row 1,.gro 3 94,.row 1,.tok 0 3 94],[]⟩ [(.ex 0,⟨(.cons (.own 3 3 p89) (.cons (.list 1 p53) (.cons p53 (.cons (.int .i64) .nil)))),[5],[],[],[.row 1,.gro 3 94,.row 1,.tok 0 3 94],[]⟩)])]
-- "codend/seam.CheckSeams"
def T42 (N:Nat):(List LB) × LF→Option Int:=(cxS N [(41,e41 N),(90,e90 N),(91,e91 N),(163,e163 N)] [(109,c42x109),(118,c42x118),(119,c42x119),(120,c42x120),(164,c42x164)]).fn 1000 42 (.cons (.list 1 p53) (.cons (.list 6 p127) .nil)) (.int .i64)
def e42 (N:Nat):Entry:=⟨(.cons (.list 1 p53) (.cons (.list 6 p127) .nil)),(.int .i64),T42 N⟩
def c33:List (Nat × Cert):=[(122,.loop [] ⟨(.cons (.int .i64) (.cons (.list 2 pM177) (.cons (.cst (.map 0)) .nil))),[19],[],[],[.map,.row 1],[]⟩ [(.ex 0,⟨(.cons (.list 2 pM177) (.cons (.cst (.map 0)) .nil)),[],[],[],[.map,.row 1],[]⟩)])]
def c33x108:List (Nat × Cert):=[(122,.loop [] ⟨(.cons (.int .i64) (.cons (.int .i64) (.cons (.list 2 pM177) (.cons (.cst (.map 0)) (.cons p53 .nil))))),[5,6],[],[],[.map,.row 1,.gro 3 94],[]⟩ [(.ex 0,⟨(.cons (.int .i64) (.cons (.list 2 pM177) (.cons (.cst (.map 0)) (.cons p53 .nil)))),[5],[],[],[.map,.row 1,.gro 3 94],[]⟩)]),
 (978,.join [(.norm,⟨(.cons (.int .i64) (.cons (.list 2 pM177) (.cons (.cst (.map 0)) (.cons p53 .nil)))),[5],[],[],[.map,.row 1,.gro 3 94],[]⟩)])]
def c33x109:List (Nat × Cert):=[(58,.loop [] ⟨(.cons (.cst (.gsl 2 0 0 3 0)) (.cons (.int .i64) (.cons (.list 2 pM177) (.cons (.cst (.map 0)) (.cons p53 .nil))))),[3,10],[],[],[.map,.row 1,.gro 3 94],[]⟩ [(.ex 0,⟨(.cons (.cst (.gsl 2 0 0 3 0)) (.cons (.list 2 pM177) (.cons (.cst (.map 0)) (.cons p53 .nil)))),[3],[],[],[.map,.row 1,.gro 3 94],[]⟩)])]
def c33x162:List (Nat × Cert):=[(1,.join [(.ret,⟨(.cons (.int .i64) (.cons (.list 2 pM177) (.cons (.cst (.map 0)) (.cons p53 .nil)))),[4],[],[],[.map,.row 1,.gro 3 94],[]⟩)]),
 (26,.loop [] ⟨(.cons (.int .i64) (.cons (.list 2 pM177) (.cons (.cst (.map 0)) (.cons p53 .nil)))),[8],[],[],[.map,.row 1,.gro 3 94],[]⟩ [(.ret,⟨(.cons (.int .i64) (.cons (.list 2 pM177) (.cons (.cst (.map 0)) (.cons p53 .nil)))),[4],[],[],[.map,.row 1,.gro 3 94],[]⟩),(.ex 0,⟨(.cons (.list 2 pM177) (.cons (.cst (.map 0)) (.cons p53 .nil))),[],[],[],[.map,.row 1,.gro 3 94],[]⟩)])]
def c33x164:List (Nat × Cert):=[(58,.loop [(.slot 5,3,94)] ⟨(.cons (.own 4 3 p89) (.cons (.int .i64) (.cons (.list 2 pM177) (.cons (.cst (.map 0)) (.cons p53 (.cons (.int .i64) .nil)))))),[5,10],[],[],[.map,.row 1,.gro 3 94,.row 1,.tok 0 3 94],[]⟩ [(.ex 0,⟨(.cons (.own 4 3 p89) (.cons (.list 2 pM177) (.cons (.cst (.map 0)) (.cons p53 (.cons (.int .i64) .nil))))),[5],[],[],[.map,.row 1,.gro 3 94,.row 1,.tok 0 3 94],[]⟩)])]
-- "codend/seam.Loose"
def T33 (N:Nat):(List LB) × LF→Option (LB × Int):=(cxS N [(42,e42 N),(163,e163 N)] [(33,c33),(108,c33x108),(109,c33x109),(162,c33x162),(164,c33x164)]).fn 1000 33 (.cons (.list 1 p53) (.cons (.list 6 p127) .nil)) (.tup (.cons p53 (.cons (.int .i64) .nil)))
def e33 (N:Nat):Entry:=⟨(.cons (.list 1 p53) (.cons (.list 6 p127) .nil)),(.tup (.cons p53 (.cons (.int .i64) .nil))),T33 N⟩
def c34:List (Nat × Cert):=[(58,.loop [(.slot 3,1,115)] ⟨(.cons (.own 0 1 p53) (.cons (.int .i64) .nil)),[3,8],[],[],[.tok 0 1 115],[]⟩ [(.ex 0,⟨(.cons (.own 0 1 p53) .nil),[3],[],[],[.tok 0 1 115],[]⟩)]),
 (934,.join [(.norm,⟨(.cons (.own 0 1 p53) .nil),[3],[],[],[.tok 0 1 115],[]⟩)])]
-- "codend/codendlaw04.nets"
def T34 (N:Nat):(List LB)→Option ((List LB)):=(cxS N [] [(34,c34)]).fn 1000 34 (.cons (.list 1 p53) .nil) (.list 1 p53)
def e34 (N:Nat):Entry:=⟨(.cons (.list 1 p53) .nil),(.list 1 p53),T34 N⟩
def c35:List (Nat × Cert):=[(58,.loop [(.slot 3,6,127)] ⟨(.cons (.own 0 6 p127) (.cons (.int .i64) .nil)),[3,8],[],[],[.tok 0 6 127],[]⟩ [(.ex 0,⟨(.cons (.own 0 6 p127) .nil),[3],[],[],[.tok 0 6 127],[]⟩)])]
-- "codend/codendlaw04.joins"
def T35 (N:Nat):LF→Option (LF):=(cxS N [] [(35,c35)]).fn 1000 35 (.cons (.list 6 p127) .nil) (.list 6 p127)
def e35 (N:Nat):Entry:=⟨(.cons (.list 6 p127) .nil),(.list 6 p127),T35 N⟩
-- "(codend/seam.Place).compare"
def T112 (N:Nat):PB × PB→Option Int:=(cxS N [(161,e161 N),(166,e166 N)] []).fn 1000 112 (.cons p89 (.cons p89 .nil)) (.int .i64)
def e112 (N:Nat):Entry:=⟨(.cons p89 (.cons p89 .nil)),(.int .i64),T112 N⟩
def c36:List (Nat × Cert):=[(6,.join [(.norm,⟨(.cons .bool .nil),[8],[],[],[],[]⟩)]),
 (506,.loop [(.slot 10,6,127)] ⟨(.cons (.own 1 6 p127) (.cons (.int .i64) (.cons p53 .nil))),[10,52],[],[],[.gro 3 94,.tok 0 6 127],[]⟩ [(.ex 0,⟨(.cons (.own 1 6 p127) (.cons p53 .nil)),[10],[],[],[.gro 3 94,.tok 0 6 127],[]⟩)]),
 (8102,.join [(.norm,⟨(.cons (.own 1 6 p127) (.cons p53 .nil)),[10],[],[],[.gro 3 94,.tok 0 6 127],[]⟩)]),
 (259278,.join [(.norm,⟨(.cons (.own 1 6 p127) (.cons .bool (.cons p53 .nil))),[10,72],[],[],[.gro 3 94,.tok 0 6 127],[]⟩)])]
def c36x109:List (Nat × Cert):=[(58,.loop [] ⟨(.cons (.cst (.gsl 0 0 0 3 0)) (.cons (.int .i64) (.cons p53 .nil))),[3,10],[],[],[.gro 3 94],[]⟩ [(.ex 0,⟨(.cons (.cst (.gsl 0 0 0 3 0)) (.cons p53 .nil)),[3],[],[],[.gro 3 94],[]⟩)])]
def c36x111:List (Nat × Cert):=[(60,.loop [] ⟨(.cons (.int .i64) (.cons (.int .i64) (.cons p53 .nil))),[9,10],[],[],[.gro 3 94,.keep],[]⟩ [(.ex 0,⟨(.cons (.int .i64) (.cons p53 .nil)),[9],[],[],[.gro 3 94,.keep],[]⟩)]),
 (62,.join [(.norm,⟨(.cons (.int .i64) (.cons .bool (.cons p53 .nil))),[6,7],[],[],[.gro 3 94,.keep],[]⟩)])]
def c36x164:List (Nat × Cert):=[(58,.loop [(.slot 5,3,94)] ⟨(.cons (.own 2 3 p89) (.cons (.int .i64) (.cons p53 (.cons (.int .i64) .nil)))),[5,10],[],[],[.gro 3 94,.row 1,.tok 0 3 94],[]⟩ [(.ex 0,⟨(.cons (.own 2 3 p89) (.cons p53 (.cons (.int .i64) .nil))),[5],[],[],[.gro 3 94,.row 1,.tok 0 3 94],[]⟩)])]
-- "codend/seam.Common"
def T36 (N:Nat):(List LB) × Int × Int→Option (LF × Int):=(cxS N [(41,e41 N),(90,e90 N),(91,e91 N),(112,e112 N),(163,e163 N)] [(36,c36),(109,c36x109),(111,c36x111),(164,c36x164)]).fn 1000 36 (.cons (.list 1 p53) (.cons (.int .i64) (.cons (.int .i64) .nil))) (.tup (.cons (.list 6 p127) (.cons (.int .i64) .nil)))
def e36 (N:Nat):Entry:=⟨(.cons (.list 1 p53) (.cons (.int .i64) (.cons (.int .i64) .nil))),(.tup (.cons (.list 6 p127) (.cons (.int .i64) .nil))),T36 N⟩
-- "codend/codendref01.Lower"
def T141 (N:Nat):PB→Option (PA):=(cxS N [] []).fn 1000 141 (.cons p89 .nil) p46
def e141 (N:Nat):Entry:=⟨(.cons p89 .nil),p46,T141 N⟩
-- "codend/codendref01.Upper"
def T142 (N:Nat):PB→Option (PA):=(cxS N [] []).fn 1000 142 (.cons p89 .nil) p46
def e142 (N:Nat):Entry:=⟨(.cons p89 .nil),p46,T142 N⟩
def c137:List (Nat × Cert):=[(28,.join [(.norm,⟨(.cons .bool .nil),[18],[],[],[],[]⟩)]),
 (29,.join [(.norm,⟨(.cons (.int .i64) .nil),[3],[],[],[],[]⟩)]),
 (61,.join [(.norm,⟨(.cons (.int .i64) .nil),[3],[],[],[],[]⟩)])]
-- "codend/codendref01.CheckBar"
def T137 (N:Nat):PB→Option Int:=(cxS N [(134,e134 N),(141,e141 N),(142,e142 N)] [(137,c137)]).fn 1000 137 (.cons p89 .nil) (.int .i64)
def e137 (N:Nat):Entry:=⟨(.cons p89 .nil),(.int .i64),T137 N⟩
-- "codend/codendref01.Less"
def T138 (N:Nat):PB × PB→Option Bool:=(cxS N [] []).fn 1000 138 (.cons p89 (.cons p89 .nil)) .bool
def e138 (N:Nat):Entry:=⟨(.cons p89 (.cons p89 .nil)),.bool,T138 N⟩
def c65:List (Nat × Cert):=[(58,.loop [] ⟨(.cons (.int .i64) .nil),[3],[],[],[],[]⟩ [(.ret,⟨(.cons (.int .i64) .nil),[2],[],[],[],[]⟩),(.ex 0,⟨.nil,[],[],[],[],[]⟩)]),
 (7462,.join [(.norm,⟨(.cons .bool .nil),[36],[],[],[],[]⟩)])]
-- "codend/codendref01.CheckNet"
def T65 (N:Nat):LB→Option Int:=(cxS N [(137,e137 N),(138,e138 N)] [(65,c65)]).fn 1000 65 (.cons p53 .nil) (.int .i64)
def e65 (N:Nat):Entry:=⟨(.cons p53 .nil),(.int .i64),T65 N⟩
def c37:List (Nat × Cert):=[(58,.loop [] ⟨(.cons (.int .i64) .nil),[3],[],[],[],[]⟩ [(.ret,⟨(.cons (.int .i64) .nil),[2],[],[],[],[]⟩),(.ex 0,⟨.nil,[],[],[],[],[]⟩)])]
-- "codend/codendref04.CheckPieces"
def T37 (N:Nat):(List LB)→Option Int:=(cxS N [(65,e65 N)] [(37,c37)]).fn 1000 37 (.cons (.list 1 p53) .nil) (.int .i64)
def e37 (N:Nat):Entry:=⟨(.cons (.list 1 p53) .nil),(.int .i64),T37 N⟩
-- "codend/codendref01.Ends"
def T127 (N:Nat):PB→Option ((Int × Int × Int × Int)):=(cxS N [(141,e141 N),(142,e142 N)] []).fn 1000 127 (.cons p89 .nil) (.agg (.cons (.int .i64) (.cons (.int .i64) (.cons (.int .i64) (.cons (.int .i64) .nil)))))
def e127 (N:Nat):Entry:=⟨(.cons p89 .nil),(.agg (.cons (.int .i64) (.cons (.int .i64) (.cons (.int .i64) (.cons (.int .i64) .nil))))),T127 N⟩
def c66:List (Nat × Cert):=[(58,.loop [] ⟨(.cons (.list 2 p46) (.cons (.int .i64) .nil)),[3,4],[],[],[],[]⟩ [(.ex 0,⟨(.cons (.list 2 p46) .nil),[3],[],[],[],[]⟩)]),
 (466,.join [(.norm,⟨(.cons (.list 2 p46) .nil),[3],[],[],[],[]⟩)]),
 (1864,.join [(.norm,⟨(.cons (.int .i64) (.cons (.int .i64) .nil)),[],[],[(5,2)],[],[(5,5,0)]⟩)]),
 (14924,.loop [] ⟨(.cons (.int .i64) .nil),[6],[],[],[],[]⟩ [(.ex 2,⟨(.cons (.int .i64) .nil),[6],[],[],[],[]⟩)]),
 (14926,.join [(.norm,⟨(.cons .bool .nil),[70],[],[],[],[]⟩)]),
 (119392,.join [(.norm,⟨(.cons .bool .nil),[56],[],[],[],[]⟩)])]
-- "codend/codendref01.Knots"
def T66 (N:Nat):LB→Option (LA):=(cxS N [(127,e127 N)] [(66,c66)]).fn 1000 66 (.cons p53 .nil) (.list 2 p46)
def e66 (N:Nat):Entry:=⟨(.cons p53 .nil),(.list 2 p46),T66 N⟩
def c113:List (Nat × Cert):=[(12,.join [(.norm,⟨(.cons .bool .nil),[14],[],[],[],[]⟩)])]
-- "codend/codendref04.checkPlace"
def T113 (N:Nat):(List LB) × PB→Option Int:=(cxS N [(66,e66 N),(115,e115 N)] [(113,c113)]).fn 1000 113 (.cons (.list 1 p53) (.cons p89 .nil)) (.int .i64)
def e113 (N:Nat):Entry:=⟨(.cons (.list 1 p53) (.cons p89 .nil)),(.int .i64),T113 N⟩
def c38:List (Nat × Cert):=[(250,.loop [] ⟨(.cons (.int .i64) .nil),[6],[],[],[],[]⟩ [(.ret,⟨(.cons (.int .i64) .nil),[4],[],[],[],[]⟩),(.ex 0,⟨.nil,[],[],[],[],[]⟩)]),
 (32036,.join [(.norm,⟨(.cons .bool .nil),[51],[],[],[],[]⟩)]),
 (32037,.join [(.norm,⟨(.cons (.int .i64) .nil),[5],[],[],[],[]⟩)])]
-- "codend/codendref04.CheckSeams"
def T38 (N:Nat):(List LB) × LF→Option Int:=(cxS N [(28,e28 N),(37,e37 N),(113,e113 N)] [(38,c38)]).fn 1000 38 (.cons (.list 1 p53) (.cons (.list 6 p127) .nil)) (.int .i64)
def e38 (N:Nat):Entry:=⟨(.cons (.list 1 p53) (.cons (.list 6 p127) .nil)),(.int .i64),T38 N⟩
def c114:List (Nat × Cert):=[(58,.loop [(.slot 3,3,89)] ⟨(.cons (.own 0 3 p89) (.cons (.int .i64) .nil)),[3,4],[],[],[.tok 0 3 89],[]⟩ [(.ex 0,⟨(.cons (.own 0 3 p89) .nil),[3],[],[],[.tok 0 3 89],[]⟩)]),
 (7462,.loop [] ⟨(.cons (.own 0 3 p89) (.cons (.int .i64) .nil)),[3,6],[],[],[.tok 0 3 89],[]⟩ [(.ex 2,⟨(.cons (.own 0 3 p89) .nil),[3],[],[],[.tok 0 3 89],[]⟩)])]
-- "codend/codendref04.Places"
def T114 (N:Nat):(List LB)→Option (LB):=(cxS N [(66,e66 N)] [(114,c114)]).fn 1000 114 (.cons (.list 1 p53) .nil) p53
def e114 (N:Nat):Entry:=⟨(.cons (.list 1 p53) .nil),p53,T114 N⟩
def c39:List (Nat × Cert):=[(122,.loop [(.slot 6,3,89)] ⟨(.cons (.own 0 3 p89) (.cons (.int .i64) .nil)),[6,7],[],[],[.tok 0 3 89],[]⟩ [(.ex 0,⟨(.cons (.own 0 3 p89) .nil),[6],[],[],[.tok 0 3 89],[]⟩)]),
 (978,.join [(.norm,⟨(.cons (.own 0 3 p89) .nil),[6],[],[],[.tok 0 3 89],[]⟩)]),
 (31306,.loop [] ⟨(.cons (.own 0 3 p89) (.cons .bool (.cons (.int .i64) .nil))),[6,8,9],[],[],[.tok 0 3 89],[]⟩ [(.ex 2,⟨(.cons (.own 0 3 p89) (.cons .bool .nil)),[6,8],[],[],[.tok 0 3 89],[]⟩)]),
 (250450,.join [(.norm,⟨(.cons (.own 0 3 p89) (.cons .bool .nil)),[6,8],[],[],[.tok 0 3 89],[]⟩)])]
-- "codend/codendref04.Loose"
def T39 (N:Nat):(List LB) × LF→Option (LB):=(cxS N [(114,e114 N)] [(39,c39)]).fn 1000 39 (.cons (.list 1 p53) (.cons (.list 6 p127) .nil)) p53
def e39 (N:Nat):Entry:=⟨(.cons (.list 1 p53) (.cons (.list 6 p127) .nil)),p53,T39 N⟩
def c40:List (Nat × Cert):=[(12,.join [(.norm,⟨(.cons .bool .nil),[29],[],[],[],[]⟩)]),
 (506,.loop [(.slot 10,6,129)] ⟨(.cons (.own 0 6 p127) (.cons (.int .i64) .nil)),[10,11],[],[],[.tok 0 6 129],[]⟩ [(.ex 0,⟨(.cons (.own 0 6 p127) .nil),[10],[],[],[.tok 0 6 129],[]⟩)]),
 (4050,.join [(.norm,⟨(.cons (.own 0 6 p127) .nil),[10],[],[],[.tok 0 6 129],[]⟩)])]
-- "codend/codendref04.Common"
def T40 (N:Nat):(List LB) × Int × Int→Option (LF × Int):=(cxS N [(66,e66 N),(115,e115 N)] [(40,c40)]).fn 1000 40 (.cons (.list 1 p53) (.cons (.int .i64) (.cons (.int .i64) .nil))) (.tup (.cons (.list 6 p127) (.cons (.int .i64) .nil)))
def e40 (N:Nat):Entry:=⟨(.cons (.list 1 p53) (.cons (.int .i64) (.cons (.int .i64) .nil))),(.tup (.cons (.list 6 p127) (.cons (.int .i64) .nil))),T40 N⟩
def c43:List (Nat × Cert):=[(58,.loop [] ⟨(.cons (.int .i64) .nil),[5],[],[],[],[]⟩ [(.ret,⟨(.cons .bool .nil),[4],[],[],[],[]⟩),(.ex 0,⟨.nil,[],[],[],[],[]⟩)])]
-- "codend/codendref04.SamePlaces"
def T43 (N:Nat):LB × LB→Option Bool:=(cxS N [] [(43,c43)]).fn 1000 43 (.cons p53 (.cons p53 .nil)) .bool
def e43 (N:Nat):Entry:=⟨(.cons p53 (.cons p53 .nil)),.bool,T43 N⟩
def c44:List (Nat × Cert):=[(58,.loop [(.slot 3,3,89)] ⟨(.cons (.own 0 3 p89) (.cons (.int .i64) .nil)),[3,8],[],[],[.tok 0 3 89],[]⟩ [(.ex 0,⟨(.cons (.own 0 3 p89) .nil),[3],[],[],[.tok 0 3 89],[]⟩)])]
-- "codend/codendlaw04.ownPlaces"
def T44 (N:Nat):LB→Option (LB):=(cxS N [] [(44,c44)]).fn 1000 44 (.cons p53 .nil) p53
def e44 (N:Nat):Entry:=⟨(.cons p53 .nil),p53,T44 N⟩
def c5:List (Nat × Cert):=[(12,.join [(.norm,⟨(.cons .bool .nil),[27],[],[],[],[]⟩)]),
 (1021,.join [(.norm,⟨(.cons p53 .nil),[13],[],[],[],[]⟩)]),
 (4093,.join [(.norm,⟨(.cons (.int .i64) (.cons (.list 6 p127) .nil)),[11,14],[],[],[],[]⟩)]),
 (4094,.join [(.norm,⟨(.cons .bool .nil),[6],[],[],[],[]⟩)])]
-- "codend/codendlaw04.SeamPieces"
def T5 (N:Nat):(List LB) × LF × PA→Option Bool:=(cxS N [(16,e16 N),(32,e32 N),(33,e33 N),(34,e34 N),(35,e35 N),(36,e36 N),(37,e37 N),(38,e38 N),(39,e39 N),(40,e40 N),(41,e41 N),(42,e42 N),(43,e43 N),(44,e44 N),(45,e45 N),(46,e46 N)] [(5,c5)]).fn 1000 5 (.cons (.list 1 p53) (.cons (.list 6 p127) (.cons p46 .nil))) .bool
def e5 (N:Nat):Entry:=⟨(.cons (.list 1 p53) (.cons (.list 6 p127) (.cons p46 .nil))),.bool,T5 N⟩
end
end Go.Proofs.YtfiopgedfcaodaaGreatDoor
