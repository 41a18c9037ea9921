/- What functions compute. -/
import Derived.Test.YtldcljfjjoidhaaGreatDoorBraLg
set_option linter.all false
open Sum renaming inr→aaa, inl→aab, elim→aac
namespace Go.Proofs.YtldcljfjjoidhaaGreatDoor
open Go Go.Am
open List (map)
open Int (toNat)
open Go.IntKind (wrap)
open Go.Am.aM (fits)
set_option maxRecDepth 100000
noncomputable section
abbrev e7:aM:=(.agg (.cons (.int .i64) (.cons (.int .i64) (.cons .bool (.cons .bool (.cons (.int .i64) .nil))))))
abbrev df (v:AV):Int × Int × Bool × Bool × Int:=aM.bA e7 v
abbrev fx (x:Int × Int × Bool × Bool × Int):AV:=aM.enc e7 x
abbrev dz (l:List XC):=map fx l
abbrev Nt (l:List XC):=allFit (fits e7) (map fx l)
abbrev Nu (l:List XC):=map df (map fx l)
theorem GU (l:List XC):allFit (fits e7) (map fx l)=true:=eD (p:=e7) rfl l
theorem GV (l:List XC):map df (map fx l)=l:=iM (p:=e7) rfl l
theorem aem (x:Int × Int × Bool × Bool × Int):fits e7 (fx x)=true:=(aM.bU e7 x rfl).1
theorem aen (x:Int × Int × Bool × Bool × Int):df (fx x)=x:=(aM.bU e7 x rfl).2
def c26:List (Nat × cN):=[(12,.join [(.norm,⟨(.cons .bool .nil),[14],[],[],[],[]⟩)]),
 (58,.loop [] ⟨(.ci .nil),[5],[],[],[],[]⟩ [(.ret,⟨(.cons .bool .nil),[4],[],[],[],[]⟩),(.ex 0,⟨.nil,[],[],[],[],[]⟩)]),
 (1864,.join [(.norm,⟨(.cons .bool .nil),[34],[],[],[],[]⟩)])]
def T26 (N:Nat):ey × Int→Option Bool:=(cx N [] [(26,c26)]).fn 1000 26 (.cons (.list 5 e7) (.ci .nil)) .bool
def e26 (N:Nat):aP:=⟨(.cons (.list 5 e7) (.ci .nil)),.bool,T26 N⟩
theorem Wy (N:Nat):ai bQ 26 (e26 N):=fj.bH (fun _ _ h=>by cases h) (by kernel_rfl) (by kernel_rfl)
def zq (N:Nat) (a0:List XC) (v2:Int):Option (Int ⊕ (Bool ⊕ Unit)):=
 (bif (decide (v2 < (((dz a0).length:Nat):Int))) then ((bif (decide ((0:Int)≤v2∧v2 < ((dz a0).length:Int))&&fits e7 (ah (dz a0) (toNat v2))) then (bif (decide ((df (ah (dz a0) (toNat v2))).2.2.2.2 > 12)) then bif (decide ((0:Int)≤v2∧v2 < ((dz a0).length:Int))&&fits e7 (ah (dz a0) (toNat v2))) then (some (decide ((df (ah (dz a0) (toNat v2))).2.2.2.2≤512))) else none else (some false)) else none).bind fun o3=>(bif o3 then (some (aaa (aab false))) else (some (aab (wrap .i64 (v2+1)))))) else (some (aaa (aaa ()))))
theorem Wz (N:Nat) (a0:List XC) (a1:Int):T26 N (a0,a1) =
 (((bif (decide ((((dz a0).length:Nat):Int) > a1)) then (some ((((dz a0).length:Nat):Int) != 257)) else (some false)):Option Bool).bind fun o1=>(bif o1 then some false else ((aH (zq N a0) N 0).bind fun o8=>(aac (fun o9=>some o9) (fun D7=>some true) o8)))):=by kernel_rfl
def c78:List (Nat × cN):=[(26,.loop [] ⟨(.ci .nil),[7],[],[],[],[]⟩ [(.ret,⟨(.ci .nil),[2],[],[],[],[]⟩),(.ex 0,⟨.nil,[],[],[],[],[]⟩)])]
def O8 (N:Nat):oQ→Option Int:=(cx N [] [(78,c78)]).fn 1000 78 (.cons (.list 1 (.int .i64)) .nil) (.int .i64)
def e78 (N:Nat):aP:=⟨(.cons (.list 1 (.int .i64)) .nil),(.int .i64),O8 N⟩
theorem CH (N:Nat):ai bQ 78 (e78 N):=fj.bH (fun _ _ h=>by cases h) (by kernel_rfl) (by kernel_rfl)
def CI (N:Nat) (a0:List Int) (v1:Int):Option (Int ⊕ (Int ⊕ Unit)):=
 (bif (decide (v1 < (((O7 a0).length:Nat):Int))) then bif (decide ((0:Int)≤v1∧v1 < ((O7 a0).length:Int))&&fits wS (ah (O7 a0) (toNat v1))) then (bif ((kd (ah (O7 a0) (toNat v1))) != 0) then (some (aaa (aab (kd (ah (O7 a0) (toNat v1)))))) else (some (aab (wrap .i64 (v1+1))))) else none else (some (aaa (aaa ()))))
theorem WA (N:Nat) (a0:List Int):O8 N a0 =
 ((aH (CI N a0) N 0).bind fun o6=>(aac (fun o7=>some o7) (fun o8=>some 0) o6)):=by kernel_rfl
def O9 (N:Nat):Bool × Int→Option Int:=(cx N [] []).fn 1000 80 (.cons .bool (.ci .nil)) (.int .i64)
def e80 (N:Nat):aP:=⟨(.cons .bool (.ci .nil)),(.int .i64),O9 N⟩
theorem GW (N:Nat):ai bQ 80 (e80 N):=fj.bH (fun _ _ h=>by cases h) (by kernel_rfl) (by kernel_rfl)
theorem WB (N:Nat) (a0:Bool) (a1:Int):O9 N (a0,a1) =
 (bif a0 then some a1 else some 0):=by kernel_rfl
def c90:List (Nat × cN):=[(6,.join [(.norm,⟨(.ci .nil),[6],[],[],[],[]⟩)])]
def Yl (N:Nat):Int × Int × Int→Option Int:=(cx N [(80,e80 N)] [(90,c90)]).fn 1000 90 (.ci (.ci (.ci .nil))) (.int .i64)
def e90 (N:Nat):aP:=⟨(.ci (.ci (.ci .nil))),(.int .i64),Yl N⟩
theorem Nv (N:Nat):ai bQ 90 (e90 N):=fj.bH (eH (GW N) rB) (by kernel_rfl) (by kernel_rfl)
theorem WC (N:Nat) (a0:Int) (a1:Int) (a2:Int):Yl N (a0,a1,a2) =
 (((bif (decide (a0 < a1)) then (O9 N (true,3)).bind fun y1=>(some y1) else (O9 N ((decide (a0 > a2)),3)).bind fun y2=>(some y2)):Option Int).bind fun o3=>some o3):=by kernel_rfl
def Sb (N:Nat):Bool→Option Int:=(cx N [] []).fn 1000 152 (.cons .bool .nil) (.int .i64)
def aaD (N:Nat):aP:=⟨(.cons .bool .nil),(.int .i64),Sb N⟩
theorem Sc (N:Nat):ai bQ 152 (aaD N):=fj.bH (fun _ _ h=>by cases h) (by kernel_rfl) (by kernel_rfl)
theorem Iq (N:Nat) (a0:Bool):Sb N a0 =
 (bif a0 then some 1 else some (-1)):=by kernel_rfl
def pV (N:Nat):XC × Int→Option (XA):=(cx N [(152,aaD N)] []).fn 1000 109 (.cons e7 (.ci .nil)) da
def GX (N:Nat):aP:=⟨(.cons e7 (.ci .nil)),da,pV N⟩
theorem qC (N:Nat):ai bQ 109 (GX N):=fj.bH (eH (Sc N) rB) (by kernel_rfl) (by kernel_rfl)
theorem Sd (N:Nat) (a0:Int × Int × Bool × Bool × Int) (a1:Int):pV N (a0,a1) =
 (Sb N a0.2.2.1).bind fun y1=>bif ((a0.2.2.2.1 == a0.2.2.2.1)&&((a0.2.1 == a0.2.1)&&((a0.1 == a0.1)&&true))) then (Sb N a0.2.2.2.1).bind fun y2=>bif ((a0.2.1 == a0.2.1)&&((a0.1 == a0.1)&&true)) then some ((wrap .i64 (a0.1+(wrap .i64 (a1 * y1)))),(wrap .i64 (a0.2.1+(wrap .i64 ((Int.tmod a1 2) * y2))))) else none else none:=by kernel_rfl
def aep:List (Nat × cN):=[(58,.loop [] ⟨(.ci .nil),[20],[],[],[],[]⟩ [(.ret,⟨(.ci .nil),[2],[],[],[],[]⟩),(.ex 0,⟨.nil,[],[],[],[],[]⟩)])]
def GY (N:Nat):XC→Option Int:=(cx N [(78,e78 N),(90,e90 N),(109,GX N),(151,V9 N)] [(108,aep)]).fn 1000 108 (.cons e7 .nil) (.int .i64)
def WD (N:Nat):aP:=⟨(.cons e7 .nil),(.int .i64),GY N⟩
theorem Ir (N:Nat):ai bQ 108 (WD N):=fj.bH (eH (CH N) (eH (Nv N) (eH (qC N) (eH (Il N) rB)))) (by kernel_rfl) (by kernel_rfl)
def wY (N:Nat) (a0:Int × Int × Bool × Bool × Int) (v5:Int):Option (Int ⊕ (Int ⊕ Unit)):=
 (bif (decide (v5 < (wrap .i64 (a0.2.2.2.2+1)))) then (pV N ((a0.1,a0.2.1,a0.2.2.1,a0.2.2.2.1,a0.2.2.2.2),v5)).bind fun y6=>(Ex N (y6.1,y6.2)).bind fun y7=>(bif (y7 != 0) then (some (aaa (aab y7))) else (some (aab (wrap .i64 (v5+1))))) else (some (aaa (aaa ()))))
theorem Se (N:Nat) (a0:Int × Int × Bool × Bool × Int):GY N a0 =
 (Ex N (a0.1,a0.2.1)).bind fun y1=>bif ((a0.2.2.2.2 == a0.2.2.2.2)&&true) then (Yl N (a0.2.2.2.2,1,512)).bind fun y2=>((bif (allFit (fits wS) [(AV.int .i64 y1),(AV.int .i64 y2)]&&true) then some (map kd [(AV.int .i64 y1),(AV.int .i64 y2)]) else none).bind fun x4=>(O8 N x4).bind fun y3=>(bif (y3 != 0) then some y3 else ((aH (wY N a0) N 0).bind fun gG=>(aac (fun C7=>some C7) (fun Io=>some 0) gG)))) else none:=by kernel_rfl
def Sf (N:Nat):XC→Option (XA):=(cx N [(109,GX N)] []).fn 1000 110 (.cons e7 .nil) da
def Sg (N:Nat):aP:=⟨(.cons e7 .nil),da,Sf N⟩
theorem Sh (N:Nat):ai bQ 110 (Sg N):=fj.bH (eH (qC N) rB) (by kernel_rfl) (by kernel_rfl)
theorem Si (N:Nat) (a0:Int × Int × Bool × Bool × Int):Sf N a0 =
 (pV N ((a0.1,a0.2.1,a0.2.2.1,a0.2.2.2.1,a0.2.2.2.2),a0.2.2.2.2)).bind fun y1=>some (y1.1,y1.2):=by kernel_rfl
def c32:List (Nat × cN):=[(26,.loop [] ⟨(.ci .nil),[3],[],[],[],[]⟩ [(.ret,⟨(.ci .nil),[2],[],[],[],[]⟩),(.ex 0,⟨.nil,[],[],[],[],[]⟩)])]
def T32 (N:Nat):oQ→Option Int:=(cx N [] [(32,c32)]).fn 1000 32 (.cons (.list 1 (.int .i64)) .nil) (.int .i64)
def WE (N:Nat):aP:=⟨(.cons (.list 1 (.int .i64)) .nil),(.int .i64),T32 N⟩
theorem WG (N:Nat):ai bQ 32 (WE N):=fj.bH (fun _ _ h=>by cases h) (by kernel_rfl) (by kernel_rfl)
def CJ (N:Nat) (a0:List Int) (v1:Int):Option (Int ⊕ (Int ⊕ Unit)):=
 (bif (decide (v1 < (((L3 a0).length:Nat):Int))) then bif (decide ((0:Int)≤v1∧v1 < ((L3 a0).length:Int))&&fits p3 (ah (L3 a0) (toNat v1))) then (bif ((iD (ah (L3 a0) (toNat v1))) != 0) then bif (decide ((0:Int)≤v1∧v1 < ((L3 a0).length:Int))&&fits p3 (ah (L3 a0) (toNat v1))) then (some (aaa (aab (iD (ah (L3 a0) (toNat v1)))))) else none else (some (aab (wrap .i64 (v1+1))))) else none else (some (aaa (aaa ()))))
theorem WH (N:Nat) (a0:List Int):T32 N a0 =
 ((aH (CJ N a0) N 0).bind fun o6=>(aac (fun o7=>some o7) (fun o8=>some 0) o6)):=by kernel_rfl
def c33:List (Nat × cN):=[(12,.join [(.norm,⟨(.cons .bool .nil),[14],[],[],[],[]⟩)])]
def T33 (N:Nat):Int × Int × Int→Option Int:=(cx N [] [(33,c33)]).fn 1000 33 (.ci (.ci (.ci .nil))) (.int .i64)
def e33 (N:Nat):aP:=⟨(.ci (.ci (.ci .nil))),(.int .i64),T33 N⟩
theorem WI (N:Nat):ai bQ 33 (e33 N):=fj.bH (fun _ _ h=>by cases h) (by kernel_rfl) (by kernel_rfl)
theorem WJ (N:Nat) (a0:Int) (a1:Int) (a2:Int):T33 N (a0,a1,a2) =
 (((bif (decide (a0 < a1)) then (some true) else (some (decide (a0 > a2)))):Option Bool).bind fun o1=>(bif o1 then some 3 else some 0)):=by kernel_rfl
def c55:List (Nat × cN):=[(122,.loop [] ⟨(.cons (.own 0 2 da) (.cons .bool (.ci (.ci (.ci .nil))))),[3,5,6],[],[(4,2)],[.tok 0 2 86],[]⟩ [(.ex 0,⟨(.cons (.own 0 2 da) (.ci (.ci .nil))),[3],[],[(4,2)],[.tok 0 2 86],[]⟩)]),
 (7825,.join [(.norm,⟨(.cons (.own 0 2 da) (.ci (.ci .nil))),[3],[],[(4,2)],[.tok 0 2 86],[]⟩)]),
 (15653,.join [(.norm,⟨(.cons (.own 0 2 da) (.ci (.ci .nil))),[3],[],[(4,2)],[.tok 0 2 86],[]⟩)])]
def WK (N:Nat):XC→Option (lS):=(cx N [] [(55,c55)]).fn 1000 55 (.cons e7 .nil) (.list 2 da)
def e55 (N:Nat):aP:=⟨(.cons e7 .nil),(.list 2 da),WK N⟩
theorem Nw (N:Nat):ai bQ 55 (e55 N):=fj.bH (fun _ _ h=>by cases h) (by kernel_rfl) (by kernel_rfl)
def tD (N:Nat) (a0:Int × Int × Bool × Bool × Int) (v1:lS × Bool × Int × Int × Int):Option ((lS × Bool × Int × Int × Int) ⊕ ((lS × Int × Int))):=
 (bif (decide (v1.2.2.1 < a0.2.2.2.2)) then (((bif a0.2.2.1 then ((bif (AH v1.1&&true) then some ((Bt v1.1),(wrap .i64 (v1.2.2.2.1+1)),v1.2.2.2.2) else none).bind fun w2=>bif (decide ((bK v1.1).length=(map dv w2.1).length)&&true) then some w2 else none) else ((bif (AH v1.1&&true) then some ((Bt v1.1),(wrap .i64 (v1.2.2.2.1 - 1)),v1.2.2.2.2) else none).bind fun w3=>bif (decide ((bK v1.1).length=(map dv w3.1).length)&&true) then some w3 else none)):Option ((lS × Int × Int))).bind fun o4=>(((bif v1.2.1 then ((bif (AH o4.1&&true) then some ((Bt o4.1),o4.2.1,(wrap .i64 (o4.2.2+1))) else none).bind fun w5=>bif (decide ((bK o4.1).length=(map dv w5.1).length)&&true) then some w5 else none) else ((bif (AH o4.1&&true) then some ((Bt o4.1),o4.2.1,(wrap .i64 (o4.2.2 - 1))) else none).bind fun w6=>bif (decide ((bK o4.1).length=(map dv w6.1).length)&&true) then some w6 else none)):Option ((lS × Int × Int))).bind fun o7=>bif (decide ((bK o7.1).length=(bK o7.1).length)&&decide (((bK o7.1).length+1) * 16≤140737488355328)) then (((bif (allFit (fits da) ((bK o7.1)++[(AV.agg [(AV.int .i64 o7.2.1),(AV.int .i64 o7.2.2)])])&&true) then some ((map ef ((bK o7.1)++[(AV.agg [(AV.int .i64 o7.2.1),(AV.int .i64 o7.2.2)])])),(!v1.2.1),(wrap .i64 (v1.2.2.1+1)),o7.2.1,o7.2.2) else none).bind fun w8=>bif (decide (((bK o7.1).length+1)=(map dv w8.1).length)&&true) then some w8 else none).bind fun u9=>some (aab u9)) else none)) else (((bif (AH v1.1&&true) then some ((Bt v1.1),v1.2.2.2.1,v1.2.2.2.2) else none).bind fun Pa=>bif (decide ((bK v1.1).length=(map dv Pa.1).length)&&true) then some Pa else none).bind fun u11=>some (aaa u11)))
theorem WL (N:Nat) (a0:Int × Int × Bool × Bool × Int):WK N a0 =
 bif ((a0.2.2.2.1 == a0.2.2.2.1)&&(((a0.1 == a0.1)&&((a0.2.1 == a0.2.1)&&true))&&true)) then bif ((a0.2.2.2.1 == a0.2.2.2.1)&&true) then (((bif (allFit (fits da) [(AV.agg [(AV.int .i64 a0.1),(AV.int .i64 a0.2.1)])]&&true) then some ((map ef [(AV.agg [(AV.int .i64 a0.1),(AV.int .i64 a0.2.1)])]),a0.2.2.2.1,0,a0.1,a0.2.1) else none:Option (lS × Bool × Int × Int × Int)).bind fun Sj=>bif (decide (1=(map dv Sj.1).length)&&true) then some Sj else none).bind fun x14=>(aH (tD N a0) N x14).bind fun C7=>(bif AH C7.1 then some (Bt C7.1) else none)) else none else none:=by kernel_rfl
def aes:List (Nat × cN):=[(6,.join [(.norm,⟨(.cons .bool .nil),[2],[],[],[],[]⟩)])]
def Sk (N:Nat):Int→Option Bool:=(cx N [] [(123,aes)]).fn 1000 123 (.ci .nil) .bool
def aaE (N:Nat):aP:=⟨(.ci .nil),.bool,Sk N⟩
theorem Sl (N:Nat):ai bQ 123 (aaE N):=fj.bH (fun _ _ h=>by cases h) (by kernel_rfl) (by kernel_rfl)
theorem Is (N:Nat) (a0:Int):Sk N a0 =
 (((bif (decide (a0 < (-100000))) then (some true) else (some (decide (a0 > 100000)))):Option Bool).bind fun o1=>some o1):=by kernel_rfl
def WM (N:Nat):Int × Int→Option Bool:=(cx N [] []).fn 1000 153 (.ci (.ci .nil)) .bool
def aaF (N:Nat):aP:=⟨(.ci (.ci .nil)),.bool,WM N⟩
theorem Sm (N:Nat):ai bQ 153 (aaF N):=fj.bH (fun _ _ h=>by cases h) (by kernel_rfl) (by kernel_rfl)
theorem Sn (N:Nat) (a0:Int) (a1:Int):WM N (a0,a1) =
 some ((Int.tmod (wrap .i64 (a0+a1)) 2) == 0):=by kernel_rfl
def aet:List (Nat × cN):=[(12,.join [(.norm,⟨(.cons .bool .nil),[10],[],[],[],[]⟩)])]
def GZ (N:Nat):XA→Option Int:=(cx N [(123,aaE N),(153,aaF N)] [(111,aet)]).fn 1000 111 (.cons da .nil) (.int .i64)
def aaG (N:Nat):aP:=⟨(.cons da .nil),(.int .i64),GZ N⟩
theorem Sp (N:Nat):ai bQ 111 (aaG N):=fj.bH (eH (Sl N) (eH (Sm N) rB)) (by kernel_rfl) (by kernel_rfl)
theorem Sq (N:Nat) (a0:Int × Int):GZ N a0 =
 (((Sk N a0.1).bind fun y1=>(bif y1 then (some true) else (Sk N a0.2).bind fun y2=>(some y2)):Option Bool).bind fun o3=>(bif o3 then some 3 else (WM N (a0.1,a0.2)).bind fun y4=>(bif (!y4) then some 14 else some 0))):=by kernel_rfl
def c54:List (Nat × cN):=[(250,.loop [] ⟨(.ci .nil),[5],[],[],[],[]⟩ [(.ret,⟨(.ci .nil),[2],[],[],[],[]⟩),(.ex 0,⟨.nil,[],[],[],[],[]⟩)])]
def T54 (N:Nat):XC→Option Int:=(cx N [(32,WE N),(33,e33 N),(55,e55 N),(111,aaG N)] [(54,c54)]).fn 1000 54 (.cons e7 .nil) (.int .i64)
def e54 (N:Nat):aP:=⟨(.cons e7 .nil),(.int .i64),T54 N⟩
theorem WN (N:Nat):ai bQ 54 (e54 N):=fj.bH (eH (WG N) (eH (WI N) (eH (Nw N) (eH (Sp N) rB)))) (by kernel_rfl) (by kernel_rfl)
def wZ (N:Nat) (y5:lS) (v6:Int):Option (Int ⊕ (Int ⊕ Unit)):=
 (bif (decide (v6 < (((bK y5).length:Nat):Int))) then bif (decide ((0:Int)≤v6∧v6 < ((bK y5).length:Int))&&fits da (ah (bK y5) (toNat v6))) then (GZ N ((ef (ah (bK y5) (toNat v6))).1,(ef (ah (bK y5) (toNat v6))).2)).bind fun y7=>(bif (y7 != 0) then (some (aaa (aab y7))) else (some (aab (wrap .i64 (v6+1))))) else none else (some (aaa (aaa ()))))
theorem WO (N:Nat) (a0:Int × Int × Bool × Bool × Int):T54 N a0 =
 (GZ N (a0.1,a0.2.1)).bind fun y1=>bif ((a0.2.2.2.2 == a0.2.2.2.2)&&true) then (T33 N (a0.2.2.2.2,1,512)).bind fun y2=>((bif (allFit (fits p3) [(AV.int .i64 y1),(AV.int .i64 y2)]&&true) then some (map iD [(AV.int .i64 y1),(AV.int .i64 y2)]) else none).bind fun x4=>(T32 N x4).bind fun y3=>(bif (y3 != 0) then some y3 else (WK N (a0.1,a0.2.1,a0.2.2.1,a0.2.2.2.1,a0.2.2.2.2)).bind fun y5=>((aH (wZ N y5) N 0).bind fun gG=>(aac (fun C7=>some C7) (fun Io=>some 0) gG)))) else none:=by kernel_rfl
end
end Go.Proofs.YtldcljfjjoidhaaGreatDoor
