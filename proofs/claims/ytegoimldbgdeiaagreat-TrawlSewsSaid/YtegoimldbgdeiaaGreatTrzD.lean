/- What functions compute. -/
import Derived.Test.YtegoimldbgdeiaaGreatTrzC
set_option linter.all false
open Sum renaming inr→aal, inl→aao, elim→aap
namespace Go.Proofs.YtegoimldbgdeiaaGreat
open Go Go.Am
open List (map)
open Int (toNat)
open Go.IntKind (wrap)
open Go.Am.aP (fits)
set_option maxRecDepth 100000
noncomputable section
abbrev tu:aP:=C0
abbrev d79 (v:AV):Int × Int × Int × Int × Bool:=aP.bw tu v
abbrev vA (x:Int × Int × Int × Int × Bool):AV:=aP.enc tu x
abbrev dI (l:List ku):=map vA l
abbrev sS (l:List ku):=allFit (fits tu) (map vA l)
abbrev sT (l:List ku):=map d79 (map vA l)
theorem qN (l:List ku):allFit (fits tu) (map vA l)=true:=cH (p:=tu) rfl l
theorem qO (l:List ku):map d79 (map vA l)=l:=eW (p:=tu) rfl l
abbrev nE:aP:=(.agg (.cons .str (.cons pz .nil)))
abbrev d92 (v:AV):eJ × aw:=aP.bw nE v
abbrev iB (x:eJ × aw):AV:=aP.enc nE x
abbrev dx (l:List jE):=map iB l
abbrev ox (l:List jE):=allFit (fits nE) (map iB l)
abbrev oz (l:List jE):=map d92 (map iB l)
theorem nS (l:List jE):allFit (fits nE) (map iB l)=true:=cH (p:=nE) rfl l
theorem nT (l:List jE):map d92 (map iB l)=l:=eW (p:=nE) rfl l
theorem ad4 (x:eJ × aw):fits nE (iB x)=true:=(aP.bA nE x rfl).1
theorem ad5 (x:eJ × aw):d92 (iB x)=x:=(aP.bA nE x rfl).2
abbrev EL:aP:=th
abbrev d94 (v:AV):Int × Int:=aP.bw EL v
abbrev tv (x:Int × Int):AV:=aP.enc EL x
abbrev hY (l:List cp):=map tv l
abbrev F94 (l:List cp):=allFit (fits EL) (map tv l)
abbrev K94 (l:List cp):=map d94 (map tv l)
theorem Lw (l:List cp):allFit (fits EL) (map tv l)=true:=cH (p:=EL) rfl l
theorem Lx (l:List cp):map d94 (map tv l)=l:=eW (p:=EL) rfl l
def ad6:List (Nat × dY):=[(12,.join [(.norm,⟨(.cons .bool .nil),[13],[],[],[],[]⟩)]),
 (58,.loop [] ⟨(.ci .nil),[3],[],[],[],[]⟩ [(.ret,⟨(.cons .bool .nil),[2],[],[],[],[]⟩),(.ex 0,⟨.nil,[],[],[],[],[]⟩)]),
 (3730,.join [(.norm,⟨(.cons .bool .nil),[5],[],[],[],[]⟩)]),
 (7462,.join [(.norm,⟨(.cons .bool .nil),[54],[],[],[],[]⟩)])]
def RS (N:Nat):eJ→Option Bool:=(cx N [] [(110,ad6)]).fn 1000 110 (.cons .str .nil) .bool
def aai (N:Nat):bK:=⟨(.cons .str .nil),.bool,RS N⟩
theorem RT (N:Nat):aI bU 110 (aai N):=jT.dT (fun _ _ h=>by cases h) (by kernel_rfl) (by kernel_rfl)
def vB (N:Nat) (a0:List UInt8) (v2:Int):Option F5:=
 (bif (decide (v2 < (((a0).length:Nat):Int))) then bif decide ((0:Int)≤v2∧v2 < ((a0).length:Int)) then (((bif (decide (((((a0).getD (toNat v2) 0).toNat:Nat):Int)≥97)) then (bif (decide (((((a0).getD (toNat v2) 0).toNat:Nat):Int)≤122)) then (some true) else (bif (decide (((((a0).getD (toNat v2) 0).toNat:Nat):Int)≥65)) then (some (decide (((((a0).getD (toNat v2) 0).toNat:Nat):Int)≤90))) else (some false))) else (bif (decide (((((a0).getD (toNat v2) 0).toNat:Nat):Int)≥65)) then (some (decide (((((a0).getD (toNat v2) 0).toNat:Nat):Int)≤90))) else (some false))):Option Bool).bind fun o3=>(((bif (!o3) then (bif (v2 == 0) then (some true) else (bif (((((a0).getD (toNat v2) 0).toNat:Nat):Int) != 95) then (bif (decide (((((a0).getD (toNat v2) 0).toNat:Nat):Int) < 48)) then (some true) else (some (decide (((((a0).getD (toNat v2) 0).toNat:Nat):Int) > 57)))) else (some false))) else (some false)):Option Bool).bind fun o4=>(bif o4 then (some (aal (aao false))) else (some (aao (wrap .i64 (v2+1))))))) else none else (some (aal (aal ()))))
theorem RU (N:Nat) (a0:List UInt8):RS N a0 =
 (((bif ((((a0).length:Nat):Int) == 0) then (some true) else (some (decide ((((a0).length:Nat):Int) > 24)))):Option Bool).bind fun o1=>(bif o1 then some false else ((aB (vB N a0) N 0).bind fun o9=>(aap (fun K6=>some K6) (fun mX=>some true) o9)))):=by kernel_rfl
def ad7:List (Nat × dY):=[(26,.loop [] ⟨(.ci .nil),[3],[],[],[],[]⟩ [(.ret,⟨(.ci .nil),[2],[],[],[],[]⟩),(.ex 0,⟨.nil,[],[],[],[],[]⟩)])]
def RV (N:Nat):aM→Option Int:=(cx N [] [(111,ad7)]).fn 1000 111 (.cons bF .nil) (.int .i64)
def aaj (N:Nat):bK:=⟨(.cons bF .nil),(.int .i64),RV N⟩
theorem RW (N:Nat):aI bU 111 (aaj N):=jT.dT (fun _ _ h=>by cases h) (by kernel_rfl) (by kernel_rfl)
def zd (N:Nat) (a0:List Int) (v1:Int):Option tk:=
 (bif (decide (v1 < (((L3 a0).length:Nat):Int))) then bif (decide ((0:Int)≤v1∧v1 < ((L3 a0).length:Int))&&fits p3 (ae (L3 a0) (toNat v1))) then (bif ((d3 (ae (L3 a0) (toNat v1))) != 0) then bif (decide ((0:Int)≤v1∧v1 < ((L3 a0).length:Int))&&fits p3 (ae (L3 a0) (toNat v1))) then (some (aal (aao (d3 (ae (L3 a0) (toNat v1)))))) else none else (some (aao (wrap .i64 (v1+1))))) else none else (some (aal (aal ()))))
theorem RX (N:Nat) (a0:List Int):RV N a0 =
 ((aB (zd N a0) N 0).bind fun o6=>(aap (fun o7=>some o7) (fun o8=>some 0) o6)):=by kernel_rfl
def ad8:List (Nat × dY):=[(12,.join [(.norm,⟨(.cons .bool .nil),[14],[],[],[],[]⟩)])]
def Ou (N:Nat):Int × Int × Int→Option Int:=(cx N [] [(112,ad8)]).fn 1000 112 (.ci (.ci (.ci .nil))) (.int .i64)
def aak (N:Nat):bK:=⟨(.ci (.ci (.ci .nil))),(.int .i64),Ou N⟩
theorem RY (N:Nat):aI bU 112 (aak N):=jT.dT (fun _ _ h=>by cases h) (by kernel_rfl) (by kernel_rfl)
theorem RZ (N:Nat) (a0:Int) (a1:Int) (a2:Int):Ou N (a0,a1,a2) =
 (((bif (decide (a0 < a1)) then (some true) else (some (decide (a0 > a2)))):Option Bool).bind fun o1=>(bif o1 then some 3 else some 0)):=by kernel_rfl
def c44:List (Nat × dY):=[(6,.join [(.norm,⟨(.cons .bool .nil),[4],[],[],[],[]⟩)])]
def T44 (N:Nat):dN × cp→Option Bool:=(cx N [] [(44,c44)]).fn 1000 44 (.cons cM (.cons bC .nil)) .bool
def e44 (N:Nat):bK:=⟨(.cons cM (.cons bC .nil)),.bool,T44 N⟩
theorem WI (N:Nat):aI bU 44 (e44 N):=jT.dT (fun _ _ h=>by cases h) (by kernel_rfl) (by kernel_rfl)
theorem WJ (N:Nat) (a0:a7 × a6) (a1:Int × Int):T44 N (a0,a1) =
 (((bif (decide (a1.1≥0)) then (bif (decide (a1.1 < (((dx a0.1).length:Nat):Int))) then (bif (decide (a1.2≥0)) then bif (decide ((0:Int)≤a1.1∧a1.1 < ((dx a0.1).length:Int))&&fits nE (ae (dx a0.1) (toNat a1.1))) then (some (decide (a1.2 < ((((hY (d92 (ae (map iB a0.1) (toNat a1.1))).2)).length:Nat):Int)))) else none else (some false)) else (some false)) else (some false)):Option Bool).bind fun o1=>some o1):=by kernel_rfl
def c9:List (Nat × dY):=[(12,.join [(.norm,⟨(.cons .bool .nil),[40],[],[],[],[]⟩)]),
 (58,.loop [] ⟨(.ci .nil),[5],[],[],[],[]⟩ [(.ret,⟨(.cons .bool .nil),[4],[],[],[],[]⟩),(.ex 0,⟨.nil,[],[],[],[],[]⟩)]),
 (1864,.join [(.norm,⟨(.cons .bool .nil),[65],[],[],[],[]⟩)])]
def T9 (N:Nat):dN × Int→Option Bool:=(cx N [] [(9,c9)]).fn 1000 9 (.cons cM (.ci .nil)) .bool
def e9 (N:Nat):bK:=⟨(.cons cM (.ci .nil)),.bool,T9 N⟩
theorem aam (N:Nat):aI bU 9 (e9 N):=jT.dT (fun _ _ h=>by cases h) (by kernel_rfl) (by kernel_rfl)
def Gl (N:Nat) (a0:a7 × a6) (v2:Int):Option F5:=
 (bif (decide (v2 < (((dx a0.1).length:Nat):Int))) then ((bif (decide ((0:Int)≤v2∧v2 < ((dx a0.1).length:Int))&&fits nE (ae (dx a0.1) (toNat v2))) then (bif (decide (((((d92 (ae (dx a0.1) (toNat v2))).1).length:Nat):Int) > 60)) then (some true) else bif (decide ((0:Int)≤v2∧v2 < ((dx a0.1).length:Int))&&fits nE (ae (dx a0.1) (toNat v2))) then (some (decide (((((hY (d92 (ae (map iB a0.1) (toNat v2))).2)).length:Nat):Int) > 10))) else none) else none).bind fun o3=>(bif o3 then (some (aal (aao false))) else (some (aao (wrap .i64 (v2+1)))))) else (some (aal (aal ()))))
theorem aan (N:Nat) (a0:a7 × a6) (a1:Int):T9 N (a0,a1) =
 (((bif (decide ((((dx a0.1).length:Nat):Int) > a1)) then (bif (decide ((((dx a0.1).length:Nat):Int)≤16)) then (some true) else (bif (decide ((((dx a0.1).length:Nat):Int) > 18)) then (some true) else (bif (decide ((((dI a0.2).length:Nat):Int) > 12)) then (bif (decide ((((dI a0.2).length:Nat):Int)≤64)) then (some true) else (some (decide ((((dI a0.2).length:Nat):Int) > 66)))) else (some (decide ((((dI a0.2).length:Nat):Int) > 66)))))) else (bif (decide ((((dx a0.1).length:Nat):Int) > 18)) then (some true) else (bif (decide ((((dI a0.2).length:Nat):Int) > 12)) then (bif (decide ((((dI a0.2).length:Nat):Int)≤64)) then (some true) else (some (decide ((((dI a0.2).length:Nat):Int) > 66)))) else (some (decide ((((dI a0.2).length:Nat):Int) > 66)))))):Option Bool).bind fun o1=>(bif o1 then some false else ((aB (Gl N a0) N 0).bind fun o8=>(aap (fun o9=>some o9) (fun K6=>some true) o8)))):=by kernel_rfl
def T69 (N:Nat):dN × cp→Option (cp):=(cx N [] []).fn 1000 69 (.cons cM (.cons bC .nil)) bC
def e69 (N:Nat):bK:=⟨(.cons cM (.cons bC .nil)),bC,T69 N⟩
theorem WK (N:Nat):aI bU 69 (e69 N):=jT.dT (fun _ _ h=>by cases h) (by kernel_rfl) (by kernel_rfl)
theorem WL (N:Nat) (a0:a7 × a6) (a1:Int × Int):T69 N (a0,a1) =
 bif (decide ((0:Int)≤a1.1∧a1.1 < ((dx a0.1).length:Int))&&fits nE (ae (dx a0.1) (toNat a1.1))) then bif (decide ((0:Int)≤a1.2∧a1.2 < (((hY (d92 (ae (map iB a0.1) (toNat a1.1))).2)).length:Int))&&fits EL (ae (hY (d92 (ae (map iB a0.1) (toNat a1.1))).2) (toNat a1.2))) then some ((d94 (ae (hY (d92 (ae (map iB a0.1) (toNat a1.1))).2) (toNat a1.2))).1,(d94 (ae (hY (d92 (ae (map iB a0.1) (toNat a1.1))).2) (toNat a1.2))).2) else none else none:=by kernel_rfl
def c48:List (Nat × dY):=[(12,.join [(.norm,⟨(.cons .bool .nil),[22],[],[],[],[]⟩)]),
 (122,.loop [] ⟨(.ci .nil),[7],[],[],[],[]⟩ [(.ret,⟨(.ci .nil),[6],[],[],[],[]⟩),(.ex 0,⟨.nil,[],[],[],[],[]⟩)]),
 (252,.join [(.norm,⟨(.cons .bool .nil),[83],[],[],[],[]⟩)]),
 (7826,.join [(.norm,⟨(.cons .bool .nil),[63],[],[],[],[]⟩)])]
def R6 (N:Nat):dN × a6 × ku→Option Int:=(cx N [(44,e44 N),(69,e69 N)] [(48,c48)]).fn 1000 48 (.cons cM (.cons cR (.cons nQ .nil))) (.int .i64)
def e48 (N:Nat):bK:=⟨(.cons cM (.cons cR (.cons nQ .nil))),(.int .i64),R6 N⟩
theorem Ov (N:Nat):aI bU 48 (e48 N):=jT.dT (ks (WI N) (ks (WK N) EI)) (by kernel_rfl) (by kernel_rfl)
def vC (N:Nat) (a1:List ku) (a2:Int × Int × Int × Int × Bool) (v6:Int):Option tk:=
 (bif (decide (v6 < (((dI a1).length:Nat):Int))) then bif (decide ((0:Int)≤v6∧v6 < ((dI a1).length:Int))&&fits tu (ae (dI a1) (toNat v6))) then (((bif (((d79 (ae (dI a1) (toNat v6))).1 == a2.1)&&(((d79 (ae (dI a1) (toNat v6))).2.1 == a2.2.1)&&true)) then (some true) else (bif (((d79 (ae (dI a1) (toNat v6))).1 == a2.2.2.1)&&(((d79 (ae (dI a1) (toNat v6))).2.1 == a2.2.2.2.1)&&true)) then (some true) else (bif (((d79 (ae (dI a1) (toNat v6))).2.2.1 == a2.1)&&(((d79 (ae (dI a1) (toNat v6))).2.2.2.1 == a2.2.1)&&true)) then (some true) else (some (((d79 (ae (dI a1) (toNat v6))).2.2.1 == a2.2.2.1)&&(((d79 (ae (dI a1) (toNat v6))).2.2.2.1 == a2.2.2.2.1)&&true)))))):Option Bool).bind fun o7=>(bif o7 then (some (aal (aao 9))) else (some (aao (wrap .i64 (v6+1)))))) else none else (some (aal (aal ()))))
theorem WM (N:Nat) (a0:a7 × a6) (a1:List ku) (a2:Int × Int × Int × Int × Bool):R6 N (a0,a1,a2) =
 ((((bif ((ox a0.1&&(sS a0.2&&true))&&true) then some (((oz a0.1),(sT a0.2)),(a2.1,a2.2.1)) else none).bind fun x2=>(T44 N x2).bind fun y1=>(bif (!y1) then (some true) else ((bif ((ox a0.1&&(sS a0.2&&true))&&true) then some (((oz a0.1),(sT a0.2)),(a2.2.2.1,a2.2.2.2.1)) else none).bind fun x4=>(T44 N x4).bind fun y3=>(some (!y3))))):Option Bool).bind fun o5=>(bif o5 then some 10 else (bif ((a2.1 == a2.2.2.1)&&((a2.2.1 == a2.2.2.2.1)&&true)) then some 9 else ((aB (vC N a1 a2) N 0).bind fun V8=>(aap (fun Ln=>some Ln) (fun lB=>((bif ((ox a0.1&&(sS a0.2&&true))&&true) then some (((oz a0.1),(sT a0.2)),(a2.1,a2.2.1)) else none).bind fun x16=>(T69 N x16).bind fun ZR=>bif (((a2.2.2.1 == a2.2.2.1)&&((a2.2.2.2.1 == a2.2.2.2.1)&&true))&&((bD (dx a0.1) (dx a0.1)&&(bD (dI a0.2) (dI a0.2)&&true))&&true)) then ((bif ((ox a0.1&&(sS a0.2&&true))&&true) then some (((oz a0.1),(sT a0.2)),(a2.2.2.1,a2.2.2.2.1)) else none).bind fun x18=>(T69 N x18).bind fun ZS=>(((bif (decide (ZR.1 > (wrap .i64 (2 * ZS.1)))) then (some true) else (some (decide (ZS.1 > (wrap .i64 (2 * ZR.1)))))):Option Bool).bind fun IK=>(bif IK then some 24 else some 0))) else none)) V8))))):=by kernel_rfl
def c64:List (Nat × dY):=[(58,.loop [] ⟨(.ci .nil),[5],[],[],[],[]⟩ [(.ret,⟨(.ci .nil),[4],[],[],[],[]⟩),(.ex 0,⟨.nil,[],[],[],[],[]⟩)]),
 (60,.join [(.norm,⟨(.cons .bool .nil),[47],[],[],[],[]⟩)]),
 (250,.loop [] ⟨(.ci .nil),[6],[],[],[],[]⟩ [(.ret,⟨(.ci .nil),[4],[],[],[],[]⟩),(.ex 2,⟨.nil,[],[],[],[],[]⟩)])]
def T64 (N:Nat):a7 × Int→Option Int:=(cx N [(110,aai N),(111,aaj N),(112,aak N)] [(64,c64)]).fn 1000 64 (.cons fm (.ci .nil)) (.int .i64)
def e64 (N:Nat):bK:=⟨(.cons fm (.ci .nil)),(.int .i64),T64 N⟩
theorem WN (N:Nat):aI bU 64 (e64 N):=jT.dT (ks (RT N) (ks (RW N) (ks (RY N) EI))) (by kernel_rfl) (by kernel_rfl)
def Bv (N:Nat) (a0:List jE) (a1:Int) (v2:Int):Option tk:=
 (bif (decide (v2 < a1)) then bif (decide ((0:Int)≤v2∧v2 < ((dx a0).length:Int))&&fits nE (ae (dx a0) (toNat v2))) then bif (decide ((0:Int)≤a1∧a1 < ((dx a0).length:Int))&&fits nE (ae (dx a0) (toNat a1))) then (bif ((d92 (ae (dx a0) (toNat v2))).1 == (d92 (ae (dx a0) (toNat a1))).1) then (some (aal (aao 9))) else (some (aao (wrap .i64 (v2+1))))) else none else none else (some (aal (aal ()))))
def vD (N:Nat) (a0:List jE) (a1:Int) (v11:Int):Option tk:=
 bif (decide ((0:Int)≤a1∧a1 < ((dx a0).length:Int))&&fits nE (ae (dx a0) (toNat a1))) then (bif (decide (v11 < ((((hY (d92 (ae (map iB a0) (toNat a1))).2)).length:Nat):Int))) then bif (decide ((0:Int)≤a1∧a1 < ((dx a0).length:Int))&&fits nE (ae (dx a0) (toNat a1))) then bif (decide ((0:Int)≤v11∧v11 < (((hY (d92 (ae (map iB a0) (toNat a1))).2)).length:Int))&&fits EL (ae (hY (d92 (ae (map iB a0) (toNat a1))).2) (toNat v11))) then (Ou N ((d94 (ae (hY (d92 (ae (map iB a0) (toNat a1))).2) (toNat v11))).1,1,10000)).bind fun GN=>bif (((d94 (ae (hY (d92 (ae (map iB a0) (toNat a1))).2) (toNat v11))).2 == (d94 (ae (hY (d92 (ae (map iB a0) (toNat a1))).2) (toNat v11))).2)&&true) then (Ou N ((d94 (ae (hY (d92 (ae (map iB a0) (toNat a1))).2) (toNat v11))).2,(-100000),100000)).bind fun WO=>((bif (allFit (fits p3) [(AV.int .i64 GN),(AV.int .i64 WO)]&&true) then some (map d3 [(AV.int .i64 GN),(AV.int .i64 WO)]) else none).bind fun x15=>(RV N x15).bind fun WQ=>(bif (WQ != 0) then (some (aal (aao WQ))) else (some (aao (wrap .i64 (v11+1)))))) else none else none else none else (some (aal (aal ())))) else none
theorem WR (N:Nat) (a0:List jE) (a1:Int):T64 N (a0,a1) =
 bif (decide ((0:Int)≤a1∧a1 < ((dx a0).length:Int))&&fits nE (ae (dx a0) (toNat a1))) then (RS N (d92 (ae (dx a0) (toNat a1))).1).bind fun y1=>(bif (!y1) then some 8 else ((aB (Bv N a0 a1) N 0).bind fun o7=>(aap (fun o8=>some o8) (fun o9=>((bif (decide ((0:Int)≤a1∧a1 < ((dx a0).length:Int))&&fits nE (ae (dx a0) (toNat a1))) then (bif (decide (((((hY (d92 (ae (map iB a0) (toNat a1))).2)).length:Nat):Int) < 3)) then (some true) else bif (decide ((0:Int)≤a1∧a1 < ((dx a0).length:Int))&&fits nE (ae (dx a0) (toNat a1))) then (some (decide (((((hY (d92 (ae (map iB a0) (toNat a1))).2)).length:Nat):Int) > 8))) else none) else none).bind fun K6=>(bif K6 then some 2 else ((aB (vD N a0 a1) N 0).bind fun BK=>(aap (fun L5=>some L5) (fun J1=>some 0) BK))))) o7))) else none:=by kernel_rfl
def c14:List (Nat × dY):=[(122,.loop [] ⟨(.ci .nil),[3],[],[],[],[]⟩ [(.ret,⟨(.ci .nil),[2],[],[],[],[]⟩),(.ex 0,⟨.nil,[],[],[],[],[]⟩)]),
 (506,.loop [] ⟨(.ci .nil),[5],[],[],[],[]⟩ [(.ret,⟨(.ci .nil),[2],[],[],[],[]⟩),(.ex 2,⟨.nil,[],[],[],[],[]⟩)])]
def T14 (N:Nat):dN→Option Int:=(cx N [(48,e48 N),(64,e64 N)] [(14,c14)]).fn 1000 14 (.cons cM .nil) (.int .i64)
def e14 (N:Nat):bK:=⟨(.cons cM .nil),(.int .i64),T14 N⟩
theorem WS (N:Nat):aI bU 14 (e14 N):=jT.dT (ks (Ov N) (ks (WN N) EI)) (by kernel_rfl) (by kernel_rfl)
def vE (N:Nat) (a0:a7 × a6) (v1:Int):Option tk:=
 (bif (decide (v1 < (((dx a0.1).length:Nat):Int))) then ((bif (ox a0.1&&true) then some ((oz a0.1),v1) else none).bind fun x3=>(T64 N x3).bind fun y2=>(bif (y2 != 0) then (some (aal (aao y2))) else (some (aao (wrap .i64 (v1+1)))))) else (some (aal (aal ()))))
def vF (N:Nat) (a0:a7 × a6) (v11:Int):Option tk:=
 (bif (decide (v11 < (((dI a0.2).length:Nat):Int))) then bif (decide ((0:Int)≤v11∧v11≤((dI a0.2).length:Int))&&true) then bif (decide ((0:Int)≤v11∧v11 < ((dI a0.2).length:Int))&&fits tu (ae (dI a0.2) (toNat v11))) then ((bif ((ox a0.1&&(sS a0.2&&true))&&(allFit (fits tu) (kv 0 (toNat v11) (dI a0.2))&&true)) then some (((oz a0.1),(sT a0.2)),(map d79 (kv 0 (toNat v11) (dI a0.2))),((d79 (ae (dI a0.2) (toNat v11))).1,(d79 (ae (dI a0.2) (toNat v11))).2.1,(d79 (ae (dI a0.2) (toNat v11))).2.2.1,(d79 (ae (dI a0.2) (toNat v11))).2.2.2.1,(d79 (ae (dI a0.2) (toNat v11))).2.2.2.2)) else none).bind fun x13=>(R6 N x13).bind fun GN=>(bif (GN != 0) then (some (aal (aao GN))) else (some (aao (wrap .i64 (v11+1)))))) else none else none else (some (aal (aal ()))))
theorem WT (N:Nat) (a0:a7 × a6):T14 N a0 =
 (bif ((((dx a0.1).length:Nat):Int) == 0) then some 12 else (bif (decide ((((dx a0.1).length:Nat):Int) > 16)) then some 5 else ((aB (vE N a0) N 0).bind fun o8=>(aap (fun o9=>some o9) (fun K6=>(bif (decide ((((dI a0.2).length:Nat):Int) > 64)) then some 5 else ((aB (vF N a0) N 0).bind fun xX=>(aap (fun IK=>some IK) (fun BK=>some 0) xX)))) o8)))):=by kernel_rfl
end
end Go.Proofs.YtegoimldbgdeiaaGreat
