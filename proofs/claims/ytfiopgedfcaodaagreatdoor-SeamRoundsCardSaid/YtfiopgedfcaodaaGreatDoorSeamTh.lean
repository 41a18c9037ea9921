/- What the functions compute (printed by a program of ours,checked by the kernel). -/
import Derived.Test.YtfiopgedfcaodaaGreatDoorSeamSo
import Derived.Test.YtfiopgedfcaodaaGreatDoorSeamTg
set_option linter.all false
namespace Go.Proofs.YtfiopgedfcaodaaGreatDoor
open Go Go.Am
set_option maxRecDepth 100000
open List (map)
open Int (toNat)
open Pat (fits)
noncomputable section
abbrev p2:Pat:=(.int .i64)
abbrev d2 (v:AV):Int:=Pat.decD p2 v
abbrev n2 (x:Int):AV:=Pat.enc p2 x
abbrev L2 (l:List (Int)):=map n2 l
theorem fa2 (l:List Int):allFit (fits p2) (map n2 l)=true:=allFit_encs (p:=p2) rfl l
theorem md2 (l:List Int):map d2 (map n2 l)=l:=map_decs (p:=p2) rfl l
theorem fn2 (x:Int):fits p2 (n2 x)=true:=(Pat.fits_enc p2 x rfl).1
theorem dn2 (x:Int):d2 (n2 x)=x:=(Pat.fits_enc p2 x rfl).2
abbrev pF74x4:Pat:=(.fam 4 3 (.agg (.cons (.int .i64) (.cons (.int .i64) (.cons (.int .i64) .nil)))))
abbrev pF79x2:Pat:=(.fam 2 3 (.agg (.cons (.int .i64) (.cons (.int .i64) (.cons (.int .i64) .nil)))))
-- "codend/seam.ends"
def T125 (N:Nat):PB→Option ((Int × Int × Int × Int)):=(cxS N [] []).fn 1000 125 (.cons p89 .nil) (.agg (.cons (.int .i64) (.cons (.int .i64) (.cons (.int .i64) (.cons (.int .i64) .nil)))))
def e125 (N:Nat):Entry:=⟨(.cons p89 .nil),(.agg (.cons (.int .i64) (.cons (.int .i64) (.cons (.int .i64) (.cons (.int .i64) .nil))))),T125 N⟩
def c47:List (Nat × Cert):=[(1018,.loop [] ⟨(.cons (.int .i64) (.cons p53 (.cons (.list 2 pM191) (.cons (.list 1 (.int .i64)) .nil)))),[44],[],[],[.gro 3 94,.map,.gro 1 3],[]⟩ [(.ex 0,⟨(.cons p53 (.cons (.list 2 pM191) (.cons (.list 1 (.int .i64)) .nil))),[],[],[],[.gro 3 94,.map,.gro 1 3],[]⟩)]),
 (8186,.loop [] ⟨(.cons (.int .i64) (.cons (.cst (.gsl 3 0 0 1 0)) (.cons (.cst (.list .nil 0 [])) (.cons p53 (.cons (.list 2 pM191) (.cons (.list 1 (.int .i64)) (.cons (.list 1 pF74x4) (.cons (.list 1 (.int .i64)) (.cons (.list 2 p46) .nil))))))))),[62],[],[(13,2)],[.gro 3 94,.map,.gro 1 3,.gro 1 53,.fam 3 94,.map],[]⟩ [(.ex 2,⟨(.cons (.cst (.gsl 3 0 0 1 0)) (.cons (.cst (.list .nil 0 [])) (.cons p53 (.cons (.list 2 pM191) (.cons (.list 1 (.int .i64)) (.cons (.list 1 pF74x4) (.cons (.list 1 (.int .i64)) (.cons (.list 2 p46) .nil)))))))),[],[],[(13,2)],[.gro 3 94,.map,.gro 1 3,.gro 1 53,.fam 3 94,.map],[]⟩)]),
 (16378,.loop [(.box 13 1,2,46)] ⟨(.cons (.int .i64) (.cons (.cst (.gsl 3 0 0 1 0)) (.cons (.own 6 2 p46) (.cons p53 (.cons (.list 2 pM191) (.cons (.list 1 (.int .i64)) (.cons (.list 1 pF74x4) (.cons (.list 1 (.int .i64)) (.cons (.list 2 p46) .nil))))))))),[105],[],[(13,2)],[.gro 3 94,.map,.gro 1 3,.gro 1 53,.fam 3 94,.map,.tok 2 2 46],[]⟩ [(.ex 4,⟨(.cons (.cst (.gsl 3 0 0 1 0)) (.cons (.own 6 2 p46) (.cons p53 (.cons (.list 2 pM191) (.cons (.list 1 (.int .i64)) (.cons (.list 1 pF74x4) (.cons (.list 1 (.int .i64)) (.cons (.list 2 p46) .nil)))))))),[],[],[(13,2)],[.gro 3 94,.map,.gro 1 3,.gro 1 53,.fam 3 94,.map,.tok 1 2 46],[]⟩)]),
 (16380,.join [(.norm,⟨(.cons .bool (.cons p53 (.cons (.list 2 pM191) (.cons (.list 1 (.int .i64)) (.cons (.list 1 pF74x4) (.cons (.list 1 (.int .i64)) (.cons (.list 2 p46) .nil))))))),[161],[],[],[.gro 3 94,.map,.gro 1 3,.gro 1 53,.fam 3 94,.map,.keep],[]⟩)]),
 (4191437,.join [(.norm,⟨(.cons (.int .i64) (.cons (.cst (.gsl 3 0 0 1 0)) (.cons (.cst (.list .nil 0 [])) (.cons p53 (.cons (.list 2 pM191) (.cons (.list 1 (.int .i64)) (.cons (.list 1 pF74x4) (.cons (.list 1 (.int .i64)) (.cons (.list 2 p46) .nil))))))))),[17],[],[(13,2)],[.gro 3 94,.map,.gro 1 3,.gro 1 53,.fam 3 94,.map],[]⟩)]),
 (4192870,.loop [] ⟨(.cons (.int .i64) (.cons (.cst (.gsl 3 0 0 1 0)) (.cons (.own 6 2 p46) (.cons p53 (.cons (.list 2 pM191) (.cons (.list 1 (.int .i64)) (.cons (.list 1 pF74x4) (.cons (.list 1 (.int .i64)) (.cons (.list 2 p46) .nil))))))))),[112],[],[(13,2)],[.gro 3 94,.map,.gro 1 3,.gro 1 53,.fam 3 94,.map,.tok 2 2 46],[]⟩ [(.ex 6,⟨(.cons (.cst (.gsl 3 0 0 1 0)) (.cons (.own 6 2 p46) (.cons p53 (.cons (.list 2 pM191) (.cons (.list 1 (.int .i64)) (.cons (.list 1 pF74x4) (.cons (.list 1 (.int .i64)) (.cons (.list 2 p46) .nil)))))))),[],[],[(13,2)],[.gro 3 94,.map,.gro 1 3,.gro 1 53,.fam 3 94,.map,.tok 1 2 46],[]⟩)])]
def c47x109:List (Nat × Cert):=[(58,.loop [] ⟨(.cons (.cst (.gsl 0 0 0 3 0)) (.cons (.int .i64) (.cons p53 .nil))),[3,10],[],[],[.gro 3 94],[]⟩ [(.ex 0,⟨(.cons (.cst (.gsl 0 0 0 3 0)) (.cons p53 .nil)),[3],[],[],[.gro 3 94],[]⟩)])]
def c47x118:List (Nat × Cert):=[(58,.loop [] ⟨(.cons (.int .i64) (.cons p53 (.cons (.list 2 pM191) .nil))),[9],[],[],[.gro 3 94,.map],[]⟩ [(.ex 0,⟨(.cons p53 (.cons (.list 2 pM191) .nil)),[],[],[],[.gro 3 94,.map],[]⟩)])]
def c47x122:List (Nat × Cert):=[(58,.loop [] ⟨(.cons (.cst (.gsl 2 0 0 1 0)) (.cons (.int .i64) (.cons p53 (.cons (.list 2 pM191) (.cons (.list 1 (.int .i64)) .nil))))),[3,6],[],[],[.gro 3 94,.map,.gro 1 3],[]⟩ [(.ex 0,⟨(.cons (.cst (.gsl 2 0 0 1 0)) (.cons p53 (.cons (.list 2 pM191) (.cons (.list 1 (.int .i64)) .nil)))),[3],[],[],[.gro 3 94,.map,.gro 1 3],[]⟩)])]
def c47x123:List (Nat × Cert):=[(12,(.alt 3 (.loop [] ⟨(.cons (.int .i64) (.cons p53 (.cons (.list 2 pM191) (.cons (.list 1 (.int .i64)) .nil)))),[1],[],[],[.gro 3 94,.map,.gro 1 3],[]⟩ [(.ex 0,⟨(.cons (.int .i64) (.cons p53 (.cons (.list 2 pM191) (.cons (.list 1 (.int .i64)) .nil)))),[1],[],[],[.gro 3 94,.map,.gro 1 3],[]⟩)]) (.alt 6 (.loop [] ⟨(.cons (.int .i64) (.cons p53 (.cons (.list 2 pM191) (.cons (.list 1 (.int .i64)) (.cons (.list 1 pF74x4) (.cons (.list 1 (.int .i64)) (.cons (.list 2 p46) .nil))))))),[1],[],[],[.gro 3 94,.map,.gro 1 3,.gro 1 53,.fam 3 94,.map],[]⟩ [(.ex 0,⟨(.cons (.int .i64) (.cons p53 (.cons (.list 2 pM191) (.cons (.list 1 (.int .i64)) (.cons (.list 1 pF74x4) (.cons (.list 1 (.int .i64)) (.cons (.list 2 p46) .nil))))))),[1],[],[],[.gro 3 94,.map,.gro 1 3,.gro 1 53,.fam 3 94,.map],[]⟩)]) (.loop [] ⟨(.cons (.int .i64) (.cons p53 (.cons (.list 2 pM191) (.cons (.list 1 (.int .i64)) (.cons (.list 1 pF74x4) (.cons (.list 1 (.int .i64)) (.cons (.list 2 p46) .nil))))))),[1],[],[],[.gro 3 94,.map,.gro 1 3,.gro 1 53,.fam 3 94,.map,.keep],[]⟩ [(.ex 0,⟨(.cons (.int .i64) (.cons p53 (.cons (.list 2 pM191) (.cons (.list 1 (.int .i64)) (.cons (.list 1 pF74x4) (.cons (.list 1 (.int .i64)) (.cons (.list 2 p46) .nil))))))),[1],[],[],[.gro 3 94,.map,.gro 1 3,.gro 1 53,.fam 3 94,.map,.keep],[]⟩)]))))]
def c47x164:List (Nat × Cert):=[(58,.loop [(.slot 5,3,94)] ⟨(.cons (.own 2 3 p89) (.cons (.int .i64) (.cons p53 (.cons (.int .i64) .nil)))),[5,10],[],[],[.gro 3 94,.row 1,.tok 0 3 94],[]⟩ [(.ex 0,⟨(.cons (.own 2 3 p89) (.cons p53 (.cons (.int .i64) .nil))),[5],[],[],[.gro 3 94,.row 1,.tok 0 3 94],[]⟩)])]
-- "codend/seam.Sew"
def T47 (N:Nat):(List LB) × LF→Option (((List LB) × LA) × Int):=(cxS N [(42,e42 N),(125,e125 N),(163,e163 N)] [(47,c47),(109,c47x109),(118,c47x118),(122,c47x122),(123,c47x123),(164,c47x164)]).fn 1000 47 (.cons (.list 1 p53) (.cons (.list 6 p127) .nil)) (.tup (.cons (.agg (.cons (.list 1 p53) (.cons (.list 2 p46) .nil))) (.cons (.int .i64) .nil)))
def e47 (N:Nat):Entry:=⟨(.cons (.list 1 p53) (.cons (.list 6 p127) .nil)),(.tup (.cons (.agg (.cons (.list 1 p53) (.cons (.list 2 p46) .nil))) (.cons (.int .i64) .nil))),T47 N⟩
def c48:List (Nat × Cert):=[(122,.loop [] ⟨(.cons (.int .i64) (.cons (.list 1 (.int .i64)) .nil)),[7],[],[],[.gro 1 3],[]⟩ [(.ex 0,⟨(.cons (.list 1 (.int .i64)) .nil),[],[],[],[.gro 1 3],[]⟩)]),
 (250,.loop [] ⟨(.cons (.int .i64) (.cons (.list 1 (.int .i64)) .nil)),[8],[],[],[.gro 1 3],[]⟩ [(.ex 2,⟨(.cons (.list 1 (.int .i64)) .nil),[],[],[],[.gro 1 3],[]⟩)]),
 (2042,.loop [] ⟨(.cons (.int .i64) (.cons (.cst (.gsl 1 0 0 1 0)) (.cons (.cst (.list .nil 0 [])) (.cons (.list 1 (.int .i64)) (.cons (.list 1 pF79x2) (.cons (.list 1 (.int .i64)) (.cons (.list 1 (.int .i64)) .nil))))))),[15],[],[(13,2)],[.gro 1 3,.gro 1 63,.fam 3 89,.gro 1 3],[]⟩ [(.ex 6,⟨(.cons (.cst (.gsl 1 0 0 1 0)) (.cons (.cst (.list .nil 0 [])) (.cons (.list 1 (.int .i64)) (.cons (.list 1 pF79x2) (.cons (.list 1 (.int .i64)) (.cons (.list 1 (.int .i64)) .nil)))))),[],[],[(13,2)],[.gro 1 3,.gro 1 63,.fam 3 89,.gro 1 3],[]⟩)]),
 (4090,.loop [(.box 13 1,2,46)] ⟨(.cons (.int .i64) (.cons (.cst (.gsl 1 0 0 1 0)) (.cons (.own 4 2 p46) (.cons (.list 1 (.int .i64)) (.cons (.list 1 pF79x2) (.cons (.list 1 (.int .i64)) (.cons (.list 1 (.int .i64)) .nil))))))),[16],[],[(13,2)],[.gro 1 3,.gro 1 63,.fam 3 89,.gro 1 3,.tok 2 2 46],[]⟩ [(.ex 8,⟨(.cons (.cst (.gsl 1 0 0 1 0)) (.cons (.own 4 2 p46) (.cons (.list 1 (.int .i64)) (.cons (.list 1 pF79x2) (.cons (.list 1 (.int .i64)) (.cons (.list 1 (.int .i64)) .nil)))))),[],[],[(13,2)],[.gro 1 3,.gro 1 63,.fam 3 89,.gro 1 3,.tok 1 2 46],[]⟩)]),
 (16018,.loop [] ⟨(.cons (.int .i64) (.cons (.list 1 (.int .i64)) .nil)),[9],[],[],[.gro 1 3],[]⟩ [(.ex 4,⟨(.cons (.list 1 (.int .i64)) .nil),[],[],[],[.gro 1 3],[]⟩)]),
 (16338,.join [(.norm,⟨(.cons (.cst (.gsl 1 0 0 1 0)) (.cons (.cst (.list .nil 0 [])) (.cons (.list 1 (.int .i64)) (.cons (.list 1 pF79x2) (.cons (.list 1 (.int .i64)) (.cons (.list 1 (.int .i64)) .nil)))))),[],[],[(13,2)],[.gro 1 3,.gro 1 63,.fam 3 89,.gro 1 3],[]⟩)]),
 (261778,.loop [] ⟨(.cons (.int .i64) (.cons (.cst (.gsl 1 0 0 1 0)) (.cons (.own 4 2 p46) (.cons (.list 1 (.int .i64)) (.cons (.list 1 pF79x2) (.cons (.list 1 (.int .i64)) (.cons (.list 1 (.int .i64)) .nil))))))),[17],[],[(13,2)],[.gro 1 3,.gro 1 63,.fam 3 89,.gro 1 3,.tok 2 2 46],[]⟩ [(.ex 10,⟨(.cons (.cst (.gsl 1 0 0 1 0)) (.cons (.own 4 2 p46) (.cons (.list 1 (.int .i64)) (.cons (.list 1 pF79x2) (.cons (.list 1 (.int .i64)) (.cons (.list 1 (.int .i64)) .nil)))))),[],[],[(13,2)],[.gro 1 3,.gro 1 63,.fam 3 89,.gro 1 3,.tok 1 2 46],[]⟩)])]
-- "codend/codendref04.Sew"
def T48 (N:Nat):(List LB) × LF→Option (((List LB) × LA)):=(cxS N [(114,e114 N),(126,e126 N),(127,e127 N)] [(48,c48)]).fn 1000 48 (.cons (.list 1 p53) (.cons (.list 6 p127) .nil)) (.agg (.cons (.list 1 p53) (.cons (.list 2 p46) .nil)))
def e48 (N:Nat):Entry:=⟨(.cons (.list 1 p53) (.cons (.list 6 p127) .nil)),(.agg (.cons (.list 1 p53) (.cons (.list 2 p46) .nil))),T48 N⟩
def c49:List (Nat × Cert):=[(12,.join [(.norm,⟨(.cons .bool .nil),[20],[],[],[],[]⟩)]),
 (58,.loop [] ⟨(.cons (.int .i64) .nil),[5],[],[],[],[]⟩ [(.ret,⟨(.cons .bool .nil),[4],[],[],[],[]⟩),(.ex 0,⟨.nil,[],[],[],[],[]⟩)])]
-- "codend/codendref04.SameSewn"
def T49 (N:Nat):((List LB) × LA) × ((List LB) × LA)→Option Bool:=(cxS N [(24,e24 N),(43,e43 N)] [(49,c49)]).fn 1000 49 (.cons (.agg (.cons (.list 1 p53) (.cons (.list 2 p46) .nil))) (.cons (.agg (.cons (.list 1 p53) (.cons (.list 2 p46) .nil))) .nil)) .bool
def e49 (N:Nat):Entry:=⟨(.cons (.agg (.cons (.list 1 p53) (.cons (.list 2 p46) .nil))) (.cons (.agg (.cons (.list 1 p53) (.cons (.list 2 p46) .nil))) .nil)),.bool,T49 N⟩
def c50:List (Nat × Cert):=[(58,.loop [(.box 3 0,1,63)] ⟨(.cons (.int .i64) (.cons (.own 0 1 p53) (.cons (.list 2 p46) .nil))),[12],[],[(3,2)],[.tok 1 1 63],[]⟩ [(.ex 0,⟨(.cons (.own 0 1 p53) (.cons (.list 2 p46) .nil)),[],[],[(3,2)],[.tok 0 1 63],[]⟩)])]
-- "codend/codendlaw04.ownSewn"
def T50 (N:Nat):((List LB) × LA)→Option (((List LB) × LA)):=(cxS N [(44,e44 N)] [(50,c50)]).fn 1000 50 (.cons (.agg (.cons (.list 1 p53) (.cons (.list 2 p46) .nil))) .nil) (.agg (.cons (.list 1 p53) (.cons (.list 2 p46) .nil)))
def e50 (N:Nat):Entry:=⟨(.cons (.agg (.cons (.list 1 p53) (.cons (.list 2 p46) .nil))) .nil),(.agg (.cons (.list 1 p53) (.cons (.list 2 p46) .nil))),T50 N⟩
def c6:List (Nat × Cert):=[(12,.join [(.norm,⟨(.cons .bool .nil),[21],[],[],[],[]⟩)]),
 (253,.join [(.norm,⟨(.cons (.list 1 p53) (.cons (.list 2 p46) .nil)),[],[],[(8,2)],[],[]⟩)]),
 (254,.join [(.norm,⟨(.cons .bool .nil),[4],[],[],[],[]⟩)])]
-- "codend/codendlaw04.SeamSews"
def T6 (N:Nat):(List LB) × LF→Option Bool:=(cxS N [(16,e16 N),(32,e32 N),(34,e34 N),(35,e35 N),(38,e38 N),(47,e47 N),(48,e48 N),(49,e49 N),(50,e50 N)] [(6,c6)]).fn 1000 6 (.cons (.list 1 p53) (.cons (.list 6 p127) .nil)) .bool
def e6 (N:Nat):Entry:=⟨(.cons (.list 1 p53) (.cons (.list 6 p127) .nil)),.bool,T6 N⟩
end
end Go.Proofs.YtfiopgedfcaodaaGreatDoor
