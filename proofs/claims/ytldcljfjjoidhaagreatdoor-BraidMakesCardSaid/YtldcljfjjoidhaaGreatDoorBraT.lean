/- What functions compute. -/
import Derived.Test.YtldcljfjjoidhaaGreatDoorBraLg
set_option linter.all false
open Sum renaming inr→aad, inl→aao
namespace Go.Proofs.YtldcljfjjoidhaaGreatDoor
open Go Go.Am
open List (map)
open Int (toNat)
open Go.IntKind (wrap)
open Go.Am.aO (fits)
set_option maxRecDepth 100000
noncomputable section
abbrev gI:aO:=(.agg (.cons (.int .i64) (.cons (.int .i64) (.cons .bool (.cons .bool (.cons (.int .i64) .nil))))))
abbrev ee (v:AV):Int × Int × Bool × Bool × Int:=aO.bC gI v
abbrev fQ (x:Int × Int × Bool × Bool × Int):AV:=aO.enc gI x
abbrev fR (l:List XC):=map fQ l
abbrev UQ (l:List XC):=allFit (fits gI) (map fQ l)
abbrev UR (l:List XC):=map ee (map fQ l)
theorem B0 (l:List XC):allFit (fits gI) (map fQ l)=true:=dI (p:=gI) rfl l
theorem B1 (l:List XC):map ee (map fQ l)=l:=gC (p:=gI) rfl l
theorem ah2 (x:Int × Int × Bool × Bool × Int):fits gI (fQ x)=true:=(aO.bI gI x rfl).1
theorem ah3 (x:Int × Int × Bool × Bool × Int):ee (fQ x)=x:=(aO.bI gI x rfl).2
def c78:List (Nat × cW):=[(26,.loop [] ⟨(.ci .nil),[7],[],[],[],[]⟩ [(.ret,⟨(.ci .nil),[2],[],[],[],[]⟩),(.ex 0,⟨.nil,[],[],[],[],[]⟩)])]
def US (N:Nat):kM→Option Int:=(cx N [] [(78,c78)]).fn 1000 78 (.cons (.list 1 (.int .i64)) .nil) (.int .i64)
def e78 (N:Nat):aR:=⟨(.cons (.list 1 (.int .i64)) .nil),(.int .i64),US N⟩
theorem AR (N:Nat):aj bH 78 (e78 N):=fU.bA (fun _ _ h=>by cases h) (by kernel_rfl) (by kernel_rfl)
def Es (N:Nat) (a0:List Int) (v1:Int):Option (Int ⊕ (Int ⊕ Unit)):=
 (bif (decide (v1 < (((Ry a0).length:Nat):Int))) then bif (decide ((0:Int)≤v1∧v1 < ((Ry a0).length:Int))&&fits xq (ae (Ry a0) (toNat v1))) then (bif ((kN (ae (Ry a0) (toNat v1))) != 0) then (some (aad (aao (kN (ae (Ry a0) (toNat v1)))))) else (some (aao (wrap .i64 (v1+1))))) else none else (some (aad (aad ()))))
theorem ZL (N:Nat) (a0:List Int):US N a0 =
 ((az (Es N a0) N 0).bind fun o6=>(Sum.elim (fun o7=>some o7) (fun o8=>some 0) o6)):=by kernel_rfl
def Pq (N:Nat):Bool × Int→Option Int:=(cx N [] []).fn 1000 80 (.cons .bool (.ci .nil)) (.int .i64)
def e80 (N:Nat):aR:=⟨(.cons .bool (.ci .nil)),(.int .i64),Pq N⟩
theorem AS (N:Nat):aj bH 80 (e80 N):=fU.bA (fun _ _ h=>by cases h) (by kernel_rfl) (by kernel_rfl)
theorem ZM (N:Nat) (a0:Bool) (a1:Int):Pq N (a0,a1) =
 (bif a0 then some a1 else some 0):=by kernel_rfl
def c90:List (Nat × cW):=[(6,.join [(.norm,⟨(.ci .nil),[6],[],[],[],[]⟩)])]
def T90 (N:Nat):Int × Int × Int→Option Int:=(cx N [(80,e80 N)] [(90,c90)]).fn 1000 90 (.ci (.ci (.ci .nil))) (.int .i64)
def e90 (N:Nat):aR:=⟨(.ci (.ci (.ci .nil))),(.int .i64),T90 N⟩
theorem ZN (N:Nat):aj bH 90 (e90 N):=fU.bA (eZ (AS N) qa) (by kernel_rfl) (by kernel_rfl)
theorem ZO (N:Nat) (a0:Int) (a1:Int) (a2:Int):T90 N (a0,a1,a2) =
 (((bif (decide (a0 < a1)) then (Pq N (true,3)).bind fun y1=>(some y1) else (Pq N ((decide (a0 > a2)),3)).bind fun y2=>(some y2)):Option Int).bind fun o3=>some o3):=by kernel_rfl
def UT (N:Nat):Bool→Option Int:=(cx N [] []).fn 1000 152 (.cons .bool .nil) (.int .i64)
def ad1 (N:Nat):aR:=⟨(.cons .bool .nil),(.int .i64),UT N⟩
theorem UU (N:Nat):aj bH 152 (ad1 N):=fU.bA (fun _ _ h=>by cases h) (by kernel_rfl) (by kernel_rfl)
theorem Kd (N:Nat) (a0:Bool):UT N a0 =
 (bif a0 then some 1 else some (-1)):=by kernel_rfl
def vP (N:Nat):XC × Int→Option (XA):=(cx N [(152,ad1 N)] []).fn 1000 109 (.cons gI (.ci .nil)) gk
def LS (N:Nat):aR:=⟨(.cons gI (.ci .nil)),gk,vP N⟩
theorem uJ (N:Nat):aj bH 109 (LS N):=fU.bA (eZ (UU N) qa) (by kernel_rfl) (by kernel_rfl)
theorem UW (N:Nat) (a0:Int × Int × Bool × Bool × Int) (a1:Int):vP N (a0,a1) =
 (UT N a0.2.2.1).bind fun y1=>bif ((a0.2.2.2.1 == a0.2.2.2.1)&&((a0.2.1 == a0.2.1)&&((a0.1 == a0.1)&&true))) then (UT N a0.2.2.2.1).bind fun y2=>bif ((a0.2.1 == a0.2.1)&&((a0.1 == a0.1)&&true)) then some ((wrap .i64 (a0.1+(wrap .i64 (a1 * y1)))),(wrap .i64 (a0.2.1+(wrap .i64 ((Int.tmod a1 2) * y2))))) else none else none:=by kernel_rfl
def ah4:List (Nat × cW):=[(58,.loop [] ⟨(.ci .nil),[20],[],[],[],[]⟩ [(.ret,⟨(.ci .nil),[2],[],[],[],[]⟩),(.ex 0,⟨.nil,[],[],[],[],[]⟩)])]
def Pr (N:Nat):XC→Option Int:=(cx N [(78,e78 N),(90,e90 N),(109,LS N),(151,Zk N)] [(108,ah4)]).fn 1000 108 (.cons gI .nil) (.int .i64)
def ad2 (N:Nat):aR:=⟨(.cons gI .nil),(.int .i64),Pr N⟩
theorem UX (N:Nat):aj bH 108 (ad2 N):=fU.bA (eZ (AR N) (eZ (ZN N) (eZ (uJ N) (eZ (J6 N) qa)))) (by kernel_rfl) (by kernel_rfl)
def yJ (N:Nat) (a0:Int × Int × Bool × Bool × Int) (v5:Int):Option (Int ⊕ (Int ⊕ Unit)):=
 (bif (decide (v5 < (wrap .i64 (a0.2.2.2.2+1)))) then (vP N ((a0.1,a0.2.1,a0.2.2.1,a0.2.2.2.1,a0.2.2.2.2),v5)).bind fun y6=>(Gk N (y6.1,y6.2)).bind fun y7=>(bif (y7 != 0) then (some (aad (aao y7))) else (some (aao (wrap .i64 (v5+1))))) else (some (aad (aad ()))))
theorem UY (N:Nat) (a0:Int × Int × Bool × Bool × Int):Pr N a0 =
 (Gk N (a0.1,a0.2.1)).bind fun y1=>bif ((a0.2.2.2.2 == a0.2.2.2.2)&&true) then (T90 N (a0.2.2.2.2,1,512)).bind fun y2=>((bif (allFit (fits xq) [(AV.int .i64 y1),(AV.int .i64 y2)]&&true) then some (map kN [(AV.int .i64 y1),(AV.int .i64 y2)]) else none).bind fun x4=>(US N x4).bind fun y3=>(bif (y3 != 0) then some y3 else ((az (yJ N a0) N 0).bind fun Bz=>(Sum.elim (fun EV=>some EV) (fun O2=>some 0) Bz)))) else none:=by kernel_rfl
def su (N:Nat):XC→Option (XA):=(cx N [(109,LS N)] []).fn 1000 110 (.cons gI .nil) gk
def Ps (N:Nat):aR:=⟨(.cons gI .nil),gk,su N⟩
theorem Ke (N:Nat):aj bH 110 (Ps N):=fU.bA (eZ (uJ N) qa) (by kernel_rfl) (by kernel_rfl)
theorem UZ (N:Nat) (a0:Int × Int × Bool × Bool × Int):su N a0 =
 (vP N ((a0.1,a0.2.1,a0.2.2.1,a0.2.2.2.1,a0.2.2.2.2),a0.2.2.2.2)).bind fun y1=>some (y1.1,y1.2):=by kernel_rfl
def c32:List (Nat × cW):=[(26,.loop [] ⟨(.ci .nil),[3],[],[],[],[]⟩ [(.ret,⟨(.ci .nil),[2],[],[],[],[]⟩),(.ex 0,⟨.nil,[],[],[],[],[]⟩)])]
def T32 (N:Nat):kM→Option Int:=(cx N [] [(32,c32)]).fn 1000 32 (.cons (.list 1 (.int .i64)) .nil) (.int .i64)
def e32 (N:Nat):aR:=⟨(.cons (.list 1 (.int .i64)) .nil),(.int .i64),T32 N⟩
theorem ZP (N:Nat):aj bH 32 (e32 N):=fU.bA (fun _ _ h=>by cases h) (by kernel_rfl) (by kernel_rfl)
def Et (N:Nat) (a0:List Int) (v1:Int):Option (Int ⊕ (Int ⊕ Unit)):=
 (bif (decide (v1 < (((L3 a0).length:Nat):Int))) then bif (decide ((0:Int)≤v1∧v1 < ((L3 a0).length:Int))&&fits p3 (ae (L3 a0) (toNat v1))) then (bif ((gD (ae (L3 a0) (toNat v1))) != 0) then bif (decide ((0:Int)≤v1∧v1 < ((L3 a0).length:Int))&&fits p3 (ae (L3 a0) (toNat v1))) then (some (aad (aao (gD (ae (L3 a0) (toNat v1)))))) else none else (some (aao (wrap .i64 (v1+1))))) else none else (some (aad (aad ()))))
theorem ZQ (N:Nat) (a0:List Int):T32 N a0 =
 ((az (Et N a0) N 0).bind fun o6=>(Sum.elim (fun o7=>some o7) (fun o8=>some 0) o6)):=by kernel_rfl
def c33:List (Nat × cW):=[(12,.join [(.norm,⟨(.cons .bool .nil),[14],[],[],[],[]⟩)])]
def T33 (N:Nat):Int × Int × Int→Option Int:=(cx N [] [(33,c33)]).fn 1000 33 (.ci (.ci (.ci .nil))) (.int .i64)
def e33 (N:Nat):aR:=⟨(.ci (.ci (.ci .nil))),(.int .i64),T33 N⟩
theorem ZR (N:Nat):aj bH 33 (e33 N):=fU.bA (fun _ _ h=>by cases h) (by kernel_rfl) (by kernel_rfl)
theorem ZS (N:Nat) (a0:Int) (a1:Int) (a2:Int):T33 N (a0,a1,a2) =
 (((bif (decide (a0 < a1)) then (some true) else (some (decide (a0 > a2)))):Option Bool).bind fun o1=>(bif o1 then some 3 else some 0)):=by kernel_rfl
def c55:List (Nat × cW):=[(122,.loop [] ⟨(.cons (.own 0 2 gk) (.cons .bool (.ci (.ci (.ci .nil))))),[3,5,6],[],[(4,2)],[.tok 0 2 86],[]⟩ [(.ex 0,⟨(.cons (.own 0 2 gk) (.ci (.ci .nil))),[3],[],[(4,2)],[.tok 0 2 86],[]⟩)]),
 (7825,.join [(.norm,⟨(.cons (.own 0 2 gk) (.ci (.ci .nil))),[3],[],[(4,2)],[.tok 0 2 86],[]⟩)]),
 (15653,.join [(.norm,⟨(.cons (.own 0 2 gk) (.ci (.ci .nil))),[3],[],[(4,2)],[.tok 0 2 86],[]⟩)])]
def U0 (N:Nat):XC→Option (iK):=(cx N [] [(55,c55)]).fn 1000 55 (.cons gI .nil) (.list 2 gk)
def e55 (N:Nat):aR:=⟨(.cons gI .nil),(.list 2 gk),U0 N⟩
theorem IW (N:Nat):aj bH 55 (e55 N):=fU.bA (fun _ _ h=>by cases h) (by kernel_rfl) (by kernel_rfl)
def uK (N:Nat) (a0:Int × Int × Bool × Bool × Int) (v1:iK × Bool × Int × Int × Int):Option ((iK × Bool × Int × Int × Int) ⊕ ((iK × Int × Int))):=
 (bif (decide (v1.2.2.1 < a0.2.2.2.2)) then (((bif a0.2.2.1 then ((bif (F86 v1.1&&true) then some ((K86 v1.1),(wrap .i64 (v1.2.2.2.1+1)),v1.2.2.2.2) else none).bind fun w2=>bif (decide ((rX v1.1).length=(map oC w2.1).length)&&true) then some w2 else none) else ((bif (F86 v1.1&&true) then some ((K86 v1.1),(wrap .i64 (v1.2.2.2.1 - 1)),v1.2.2.2.2) else none).bind fun w3=>bif (decide ((rX v1.1).length=(map oC w3.1).length)&&true) then some w3 else none)):Option ((iK × Int × Int))).bind fun o4=>(((bif v1.2.1 then ((bif (F86 o4.1&&true) then some ((K86 o4.1),o4.2.1,(wrap .i64 (o4.2.2+1))) else none).bind fun w5=>bif (decide ((rX o4.1).length=(map oC w5.1).length)&&true) then some w5 else none) else ((bif (F86 o4.1&&true) then some ((K86 o4.1),o4.2.1,(wrap .i64 (o4.2.2 - 1))) else none).bind fun w6=>bif (decide ((rX o4.1).length=(map oC w6.1).length)&&true) then some w6 else none)):Option ((iK × Int × Int))).bind fun o7=>bif (decide ((rX o7.1).length=(rX o7.1).length)&&decide (((rX o7.1).length+1) * 16≤140737488355328)) then (((bif (allFit (fits gk) ((rX o7.1)++[(AV.agg [(AV.int .i64 o7.2.1),(AV.int .i64 o7.2.2)])])&&true) then some ((map to ((rX o7.1)++[(AV.agg [(AV.int .i64 o7.2.1),(AV.int .i64 o7.2.2)])])),(!v1.2.1),(wrap .i64 (v1.2.2.1+1)),o7.2.1,o7.2.2) else none).bind fun w8=>bif (decide (((rX o7.1).length+1)=(map oC w8.1).length)&&true) then some w8 else none).bind fun u9=>some (aao u9)) else none)) else (((bif (F86 v1.1&&true) then some ((K86 v1.1),v1.2.2.2.1,v1.2.2.2.2) else none).bind fun Kf=>bif (decide ((rX v1.1).length=(map oC Kf.1).length)&&true) then some Kf else none).bind fun u11=>some (aad u11)))
theorem ZT (N:Nat) (a0:Int × Int × Bool × Bool × Int):U0 N a0 =
 bif ((a0.2.2.2.1 == a0.2.2.2.1)&&(((a0.1 == a0.1)&&((a0.2.1 == a0.2.1)&&true))&&true)) then bif ((a0.2.2.2.1 == a0.2.2.2.1)&&true) then (((bif (allFit (fits gk) [(AV.agg [(AV.int .i64 a0.1),(AV.int .i64 a0.2.1)])]&&true) then some ((map to [(AV.agg [(AV.int .i64 a0.1),(AV.int .i64 a0.2.1)])]),a0.2.2.2.1,0,a0.1,a0.2.1) else none:Option (iK × Bool × Int × Int × Int)).bind fun Pt=>bif (decide (1=(map oC Pt.1).length)&&true) then some Pt else none).bind fun x14=>(az (uK N a0) N x14).bind fun EV=>(bif F86 EV.1 then some (K86 EV.1) else none)) else none else none:=by kernel_rfl
def ah6:List (Nat × cW):=[(6,.join [(.norm,⟨(.cons .bool .nil),[2],[],[],[],[]⟩)])]
def U1 (N:Nat):Int→Option Bool:=(cx N [] [(123,ah6)]).fn 1000 123 (.ci .nil) .bool
def ad4 (N:Nat):aR:=⟨(.ci .nil),.bool,U1 N⟩
theorem U2 (N:Nat):aj bH 123 (ad4 N):=fU.bA (fun _ _ h=>by cases h) (by kernel_rfl) (by kernel_rfl)
theorem Kg (N:Nat) (a0:Int):U1 N a0 =
 (((bif (decide (a0 < (-100000))) then (some true) else (some (decide (a0 > 100000)))):Option Bool).bind fun o1=>some o1):=by kernel_rfl
def ZU (N:Nat):Int × Int→Option Bool:=(cx N [] []).fn 1000 153 (.ci (.ci .nil)) .bool
def ad5 (N:Nat):aR:=⟨(.ci (.ci .nil)),.bool,ZU N⟩
theorem U3 (N:Nat):aj bH 153 (ad5 N):=fU.bA (fun _ _ h=>by cases h) (by kernel_rfl) (by kernel_rfl)
theorem U4 (N:Nat) (a0:Int) (a1:Int):ZU N (a0,a1) =
 some ((Int.tmod (wrap .i64 (a0+a1)) 2) == 0):=by kernel_rfl
def ah7:List (Nat × cW):=[(12,.join [(.norm,⟨(.cons .bool .nil),[10],[],[],[],[]⟩)])]
def vQ (N:Nat):XA→Option Int:=(cx N [(123,ad4 N),(153,ad5 N)] [(111,ah7)]).fn 1000 111 (.cons gk .nil) (.int .i64)
def U5 (N:Nat):aR:=⟨(.cons gk .nil),(.int .i64),vQ N⟩
theorem Eu (N:Nat):aj bH 111 (U5 N):=fU.bA (eZ (U2 N) (eZ (U3 N) qa)) (by kernel_rfl) (by kernel_rfl)
theorem U6 (N:Nat) (a0:Int × Int):vQ N a0 =
 (((U1 N a0.1).bind fun y1=>(bif y1 then (some true) else (U1 N a0.2).bind fun y2=>(some y2)):Option Bool).bind fun o3=>(bif o3 then some 3 else (ZU N (a0.1,a0.2)).bind fun y4=>(bif (!y4) then some 14 else some 0))):=by kernel_rfl
def c54:List (Nat × cW):=[(250,.loop [] ⟨(.ci .nil),[5],[],[],[],[]⟩ [(.ret,⟨(.ci .nil),[2],[],[],[],[]⟩),(.ex 0,⟨.nil,[],[],[],[],[]⟩)])]
def T54 (N:Nat):XC→Option Int:=(cx N [(32,e32 N),(33,e33 N),(55,e55 N),(111,U5 N)] [(54,c54)]).fn 1000 54 (.cons gI .nil) (.int .i64)
def e54 (N:Nat):aR:=⟨(.cons gI .nil),(.int .i64),T54 N⟩
theorem ZV (N:Nat):aj bH 54 (e54 N):=fU.bA (eZ (ZP N) (eZ (ZR N) (eZ (IW N) (eZ (Eu N) qa)))) (by kernel_rfl) (by kernel_rfl)
def yK (N:Nat) (y5:iK) (v6:Int):Option (Int ⊕ (Int ⊕ Unit)):=
 (bif (decide (v6 < (((rX y5).length:Nat):Int))) then bif (decide ((0:Int)≤v6∧v6 < ((rX y5).length:Int))&&fits gk (ae (rX y5) (toNat v6))) then (vQ N ((to (ae (rX y5) (toNat v6))).1,(to (ae (rX y5) (toNat v6))).2)).bind fun y7=>(bif (y7 != 0) then (some (aad (aao y7))) else (some (aao (wrap .i64 (v6+1))))) else none else (some (aad (aad ()))))
theorem ZW (N:Nat) (a0:Int × Int × Bool × Bool × Int):T54 N a0 =
 (vQ N (a0.1,a0.2.1)).bind fun y1=>bif ((a0.2.2.2.2 == a0.2.2.2.2)&&true) then (T33 N (a0.2.2.2.2,1,512)).bind fun y2=>((bif (allFit (fits p3) [(AV.int .i64 y1),(AV.int .i64 y2)]&&true) then some (map gD [(AV.int .i64 y1),(AV.int .i64 y2)]) else none).bind fun x4=>(T32 N x4).bind fun y3=>(bif (y3 != 0) then some y3 else (U0 N (a0.1,a0.2.1,a0.2.2.1,a0.2.2.2.1,a0.2.2.2.2)).bind fun y5=>((az (yK N y5) N 0).bind fun Bz=>(Sum.elim (fun EV=>some EV) (fun O2=>some 0) Bz)))) else none:=by kernel_rfl
def T56 (N:Nat):XC→Option (XA):=(cx N [(55,e55 N)] []).fn 1000 56 (.cons gI .nil) gk
def e56 (N:Nat):aR:=⟨(.cons gI .nil),gk,T56 N⟩
theorem ZX (N:Nat):aj bH 56 (e56 N):=fU.bA (eZ (IW N) qa) (by kernel_rfl) (by kernel_rfl)
theorem ZY (N:Nat) (a0:Int × Int × Bool × Bool × Int):T56 N a0 =
 (U0 N (a0.1,a0.2.1,a0.2.2.1,a0.2.2.2.1,a0.2.2.2.2)).bind fun y1=>bif (decide ((0:Int)≤(wrap .i64 ((((rX y1).length:Nat):Int) - 1))∧(wrap .i64 ((((rX y1).length:Nat):Int) - 1)) < ((rX y1).length:Int))&&fits gk (ae (rX y1) (toNat (wrap .i64 ((((rX y1).length:Nat):Int) - 1))))) then some ((to (ae (rX y1) (toNat (wrap .i64 ((((rX y1).length:Nat):Int) - 1))))).1,(to (ae (rX y1) (toNat (wrap .i64 ((((rX y1).length:Nat):Int) - 1))))).2) else none:=by kernel_rfl
end
end Go.Proofs.YtldcljfjjoidhaaGreatDoor
