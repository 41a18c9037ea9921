/- What functions compute. -/
import Derived.Test.YtegoimldbgdeiaaGreatTrzC
set_option linter.all false
open Sum renaming inr→aaa, inl→aag, elim→aah
namespace Go.Proofs.YtegoimldbgdeiaaGreat
open Go Go.Am
open List (map)
open Int (toNat)
open Go.IntKind (wrap)
open Go.Am.aM (fits)
set_option maxRecDepth 100000
noncomputable section
abbrev M7:aM:=wM
abbrev d77 (v:AV):Int × Int:=aM.bC M7 v
abbrev BY (x:Int × Int):AV:=aM.enc M7 x
abbrev qZ (l:List bg):=map BY l
abbrev Zs (l:List bg):=allFit (fits M7) (map BY l)
abbrev Zt (l:List bg):=map d77 (map BY l)
theorem M8 (l:List bg):allFit (fits M7) (map BY l)=true:=bN (p:=M7) rfl l
theorem M9 (l:List bg):map d77 (map BY l)=l:=dZ (p:=M7) rfl l
abbrev Na:aM:=SJ
abbrev d79 (v:AV):Int × Int × Int × Int × Bool:=aM.bC Na v
abbrev Q6 (x:Int × Int × Int × Int × Bool):AV:=aM.enc Na x
abbrev dv (l:List nq):=map Q6 l
abbrev En (l:List nq):=allFit (fits Na) (map Q6 l)
abbrev Eo (l:List nq):=map d79 (map Q6 l)
theorem Ep (l:List nq):allFit (fits Na) (map Q6 l)=true:=bN (p:=Na) rfl l
theorem Er (l:List nq):map d79 (map Q6 l)=l:=dZ (p:=Na) rfl l
abbrev By:aM:=(.agg (.cons .str (.cons rW .nil)))
abbrev d92 (v:AV):kw × av:=aM.bC By v
abbrev qW (x:kw × av):AV:=aM.enc By x
abbrev fF (l:List lN):=map qW l
abbrev Cl (l:List lN):=allFit (fits By) (map qW l)
abbrev Cm (l:List lN):=map d92 (map qW l)
theorem BZ (l:List lN):allFit (fits By) (map qW l)=true:=bN (p:=By) rfl l
theorem B0 (l:List lN):map d92 (map qW l)=l:=dZ (p:=By) rfl l
theorem akl (x:kw × av):fits By (qW x)=true:=(aM.bq By x rfl).1
theorem akm (x:kw × av):d92 (qW x)=x:=(aM.bq By x rfl).2
abbrev p94:aM:=wM
abbrev d94 (v:AV):Int × Int:=aM.bC p94 v
abbrev UX (x:Int × Int):AV:=aM.enc p94 x
abbrev xA (l:List bg):=map UX l
def akn:List (Nat × eZ):=[(12,.join [(.norm,⟨(.cons .bool .nil),[13],[],[],[],[]⟩)]),
 (58,.loop [] ⟨(.ci .nil),[3],[],[],[],[]⟩ [(.ret,⟨(.cons .bool .nil),[2],[],[],[],[]⟩),(.ex 0,⟨.nil,[],[],[],[],[]⟩)]),
 (3730,.join [(.norm,⟨(.cons .bool .nil),[5],[],[],[],[]⟩)]),
 (7462,.join [(.norm,⟨(.cons .bool .nil),[54],[],[],[],[]⟩)])]
def Xi (N:Nat):kw→Option Bool:=(cx N [] [(110,akn)]).fn 1000 110 (.cons .str .nil) .bool
def agn (N:Nat):bH:=⟨(.cons .str .nil),.bool,Xi N⟩
theorem Xj (N:Nat):aJ cm 110 (agn N):=km.dP (fun _ _ h=>by cases h) (by kernel_rfl) (by kernel_rfl)
def zg (N:Nat) (a0:List UInt8) (v2:Int):Option (Int ⊕ (Bool ⊕ Unit)):=
 (bif (decide (v2 < (((a0).length:Nat):Int))) then bif decide ((0:Int)≤v2∧v2 < ((a0).length:Int)) then (((bif (decide (((((a0).getD (toNat v2) 0).toNat:Nat):Int)≥97)) then (bif (decide (((((a0).getD (toNat v2) 0).toNat:Nat):Int)≤122)) then (some true) else (bif (decide (((((a0).getD (toNat v2) 0).toNat:Nat):Int)≥65)) then (some (decide (((((a0).getD (toNat v2) 0).toNat:Nat):Int)≤90))) else (some false))) else (bif (decide (((((a0).getD (toNat v2) 0).toNat:Nat):Int)≥65)) then (some (decide (((((a0).getD (toNat v2) 0).toNat:Nat):Int)≤90))) else (some false))):Option Bool).bind fun o3=>(((bif (!o3) then (bif (v2 == 0) then (some true) else (bif (((((a0).getD (toNat v2) 0).toNat:Nat):Int) != 95) then (bif (decide (((((a0).getD (toNat v2) 0).toNat:Nat):Int) < 48)) then (some true) else (some (decide (((((a0).getD (toNat v2) 0).toNat:Nat):Int) > 57)))) else (some false))) else (some false)):Option Bool).bind fun o4=>(bif o4 then (some (aaa (aag false))) else (some (aag (wrap .i64 (v2+1))))))) else none else (some (aaa (aaa ()))))
theorem Xk (N:Nat) (a0:List UInt8):Xi N a0 =
 (((bif ((((a0).length:Nat):Int) == 0) then (some true) else (some (decide ((((a0).length:Nat):Int) > 24)))):Option Bool).bind fun o1=>(bif o1 then some false else ((aA (zg N a0) N 0).bind fun o9=>(aah (fun F9=>some F9) (fun wG=>some true) o9)))):=by kernel_rfl
def ako:List (Nat × eZ):=[(26,.loop [] ⟨(.ci .nil),[3],[],[],[],[]⟩ [(.ret,⟨(.ci .nil),[2],[],[],[],[]⟩),(.ex 0,⟨.nil,[],[],[],[],[]⟩)])]
def Xl (N:Nat):aG→Option Int:=(cx N [] [(111,ako)]).fn 1000 111 (.cons bQ .nil) (.int .i64)
def ago (N:Nat):bH:=⟨(.cons bQ .nil),(.int .i64),Xl N⟩
theorem Xm (N:Nat):aJ cm 111 (ago N):=km.dP (fun _ _ h=>by cases h) (by kernel_rfl) (by kernel_rfl)
def Co (N:Nat) (a0:List Int) (v1:Int):Option wN:=
 (bif (decide (v1 < (((L3 a0).length:Nat):Int))) then bif (decide ((0:Int)≤v1∧v1 < ((L3 a0).length:Int))&&fits p3 (af (L3 a0) (toNat v1))) then (bif ((d3 (af (L3 a0) (toNat v1))) != 0) then bif (decide ((0:Int)≤v1∧v1 < ((L3 a0).length:Int))&&fits p3 (af (L3 a0) (toNat v1))) then (some (aaa (aag (d3 (af (L3 a0) (toNat v1)))))) else none else (some (aag (wrap .i64 (v1+1))))) else none else (some (aaa (aaa ()))))
theorem Xn (N:Nat) (a0:List Int):Xl N a0 =
 ((aA (Co N a0) N 0).bind fun o6=>(aah (fun o7=>some o7) (fun o8=>some 0) o6)):=by kernel_rfl
def akp:List (Nat × eZ):=[(12,.join [(.norm,⟨(.cons .bool .nil),[14],[],[],[],[]⟩)])]
def TA (N:Nat):Int × Int × Int→Option Int:=(cx N [] [(112,akp)]).fn 1000 112 (.ci (.ci (.ci .nil))) (.int .i64)
def agp (N:Nat):bH:=⟨(.ci (.ci (.ci .nil))),(.int .i64),TA N⟩
theorem Xo (N:Nat):aJ cm 112 (agp N):=km.dP (fun _ _ h=>by cases h) (by kernel_rfl) (by kernel_rfl)
theorem Xp (N:Nat) (a0:Int) (a1:Int) (a2:Int):TA N (a0,a1,a2) =
 (((bif (decide (a0 < a1)) then (some true) else (some (decide (a0 > a2)))):Option Bool).bind fun o1=>(bif o1 then some 3 else some 0)):=by kernel_rfl
def c44:List (Nat × eZ):=[(6,.join [(.norm,⟨(.cons .bool .nil),[4],[],[],[],[]⟩)])]
def T44 (N:Nat):eV × bg→Option Bool:=(cx N [] [(44,c44)]).fn 1000 44 (.cons dI (.cons bt .nil)) .bool
def e44 (N:Nat):bH:=⟨(.cons dI (.cons bt .nil)),.bool,T44 N⟩
theorem acu (N:Nat):aJ cm 44 (e44 N):=km.dP (fun _ _ h=>by cases h) (by kernel_rfl) (by kernel_rfl)
theorem acv (N:Nat) (a0:aW × a7) (a1:Int × Int):T44 N (a0,a1) =
 (((bif (decide (a1.1≥0)) then (bif (decide (a1.1 < (((fF a0.1).length:Nat):Int))) then (bif (decide (a1.2≥0)) then bif (decide ((0:Int)≤a1.1∧a1.1 < ((fF a0.1).length:Int))&&fits By (af (fF a0.1) (toNat a1.1))) then (some (decide (a1.2 < ((((xA (d92 (af (map qW a0.1) (toNat a1.1))).2)).length:Nat):Int)))) else none else (some false)) else (some false)) else (some false)):Option Bool).bind fun o1=>some o1):=by kernel_rfl
def c9:List (Nat × eZ):=[(12,.join [(.norm,⟨(.cons .bool .nil),[40],[],[],[],[]⟩)]),
 (58,.loop [] ⟨(.ci .nil),[5],[],[],[],[]⟩ [(.ret,⟨(.cons .bool .nil),[4],[],[],[],[]⟩),(.ex 0,⟨.nil,[],[],[],[],[]⟩)]),
 (1864,.join [(.norm,⟨(.cons .bool .nil),[65],[],[],[],[]⟩)])]
def T9 (N:Nat):eV × Int→Option Bool:=(cx N [] [(9,c9)]).fn 1000 9 (.cons dI (.ci .nil)) .bool
def e9 (N:Nat):bH:=⟨(.cons dI (.ci .nil)),.bool,T9 N⟩
theorem agr (N:Nat):aJ cm 9 (e9 N):=km.dP (fun _ _ h=>by cases h) (by kernel_rfl) (by kernel_rfl)
def Kc (N:Nat) (a0:aW × a7) (v2:Int):Option (Int ⊕ (Bool ⊕ Unit)):=
 (bif (decide (v2 < (((fF a0.1).length:Nat):Int))) then ((bif (decide ((0:Int)≤v2∧v2 < ((fF a0.1).length:Int))&&fits By (af (fF a0.1) (toNat v2))) then (bif (decide (((((d92 (af (fF a0.1) (toNat v2))).1).length:Nat):Int) > 60)) then (some true) else bif (decide ((0:Int)≤v2∧v2 < ((fF a0.1).length:Int))&&fits By (af (fF a0.1) (toNat v2))) then (some (decide (((((xA (d92 (af (map qW a0.1) (toNat v2))).2)).length:Nat):Int) > 10))) else none) else none).bind fun o3=>(bif o3 then (some (aaa (aag false))) else (some (aag (wrap .i64 (v2+1)))))) else (some (aaa (aaa ()))))
theorem agt (N:Nat) (a0:aW × a7) (a1:Int):T9 N (a0,a1) =
 (((bif (decide ((((fF a0.1).length:Nat):Int) > a1)) then (bif (decide ((((fF a0.1).length:Nat):Int)≤16)) then (some true) else (bif (decide ((((fF a0.1).length:Nat):Int) > 18)) then (some true) else (bif (decide ((((dv a0.2).length:Nat):Int) > 12)) then (bif (decide ((((dv a0.2).length:Nat):Int)≤64)) then (some true) else (some (decide ((((dv a0.2).length:Nat):Int) > 66)))) else (some (decide ((((dv a0.2).length:Nat):Int) > 66)))))) else (bif (decide ((((fF a0.1).length:Nat):Int) > 18)) then (some true) else (bif (decide ((((dv a0.2).length:Nat):Int) > 12)) then (bif (decide ((((dv a0.2).length:Nat):Int)≤64)) then (some true) else (some (decide ((((dv a0.2).length:Nat):Int) > 66)))) else (some (decide ((((dv a0.2).length:Nat):Int) > 66)))))):Option Bool).bind fun o1=>(bif o1 then some false else ((aA (Kc N a0) N 0).bind fun o8=>(aah (fun o9=>some o9) (fun F9=>some true) o8)))):=by kernel_rfl
def T69 (N:Nat):eV × bg→Option (bg):=(cx N [] []).fn 1000 69 (.cons dI (.cons bt .nil)) bt
def e69 (N:Nat):bH:=⟨(.cons dI (.cons bt .nil)),bt,T69 N⟩
theorem acw (N:Nat):aJ cm 69 (e69 N):=km.dP (fun _ _ h=>by cases h) (by kernel_rfl) (by kernel_rfl)
theorem acx (N:Nat) (a0:aW × a7) (a1:Int × Int):T69 N (a0,a1) =
 bif (decide ((0:Int)≤a1.1∧a1.1 < ((fF a0.1).length:Int))&&fits By (af (fF a0.1) (toNat a1.1))) then bif (decide ((0:Int)≤a1.2∧a1.2 < (((xA (d92 (af (map qW a0.1) (toNat a1.1))).2)).length:Int))&&fits p94 (af (xA (d92 (af (map qW a0.1) (toNat a1.1))).2) (toNat a1.2))) then some ((d94 (af (xA (d92 (af (map qW a0.1) (toNat a1.1))).2) (toNat a1.2))).1,(d94 (af (xA (d92 (af (map qW a0.1) (toNat a1.1))).2) (toNat a1.2))).2) else none else none:=by kernel_rfl
def c48:List (Nat × eZ):=[(12,.join [(.norm,⟨(.cons .bool .nil),[22],[],[],[],[]⟩)]),
 (122,.loop [] ⟨(.ci .nil),[7],[],[],[],[]⟩ [(.ret,⟨(.ci .nil),[6],[],[],[],[]⟩),(.ex 0,⟨.nil,[],[],[],[],[]⟩)]),
 (252,.join [(.norm,⟨(.cons .bool .nil),[83],[],[],[],[]⟩)]),
 (7826,.join [(.norm,⟨(.cons .bool .nil),[63],[],[],[],[]⟩)])]
def T48 (N:Nat):eV × a7 × nq→Option Int:=(cx N [(44,e44 N),(69,e69 N)] [(48,c48)]).fn 1000 48 (.cons dI (.cons gj (.cons uW .nil))) (.int .i64)
def e48 (N:Nat):bH:=⟨(.cons dI (.cons gj (.cons uW .nil))),(.int .i64),T48 N⟩
theorem acz (N:Nat):aJ cm 48 (e48 N):=km.dP (ld (acu N) (ld (acw N) D2)) (by kernel_rfl) (by kernel_rfl)
def zh (N:Nat) (a1:List nq) (a2:Int × Int × Int × Int × Bool) (v6:Int):Option wN:=
 (bif (decide (v6 < (((dv a1).length:Nat):Int))) then bif (decide ((0:Int)≤v6∧v6 < ((dv a1).length:Int))&&fits Na (af (dv a1) (toNat v6))) then (((bif (((d79 (af (dv a1) (toNat v6))).1 == a2.1)&&(((d79 (af (dv a1) (toNat v6))).2.1 == a2.2.1)&&true)) then (some true) else (bif (((d79 (af (dv a1) (toNat v6))).1 == a2.2.2.1)&&(((d79 (af (dv a1) (toNat v6))).2.1 == a2.2.2.2.1)&&true)) then (some true) else (bif (((d79 (af (dv a1) (toNat v6))).2.2.1 == a2.1)&&(((d79 (af (dv a1) (toNat v6))).2.2.2.1 == a2.2.1)&&true)) then (some true) else (some (((d79 (af (dv a1) (toNat v6))).2.2.1 == a2.2.2.1)&&(((d79 (af (dv a1) (toNat v6))).2.2.2.1 == a2.2.2.2.1)&&true)))))):Option Bool).bind fun o7=>(bif o7 then (some (aaa (aag 9))) else (some (aag (wrap .i64 (v6+1)))))) else none else (some (aaa (aaa ()))))
theorem acA (N:Nat) (a0:aW × a7) (a1:List nq) (a2:Int × Int × Int × Int × Bool):T48 N (a0,a1,a2) =
 ((((bif ((Cl a0.1&&(En a0.2&&true))&&true) then some (((Cm a0.1),(Eo a0.2)),(a2.1,a2.2.1)) else none).bind fun x2=>(T44 N x2).bind fun y1=>(bif (!y1) then (some true) else ((bif ((Cl a0.1&&(En a0.2&&true))&&true) then some (((Cm a0.1),(Eo a0.2)),(a2.2.2.1,a2.2.2.2.1)) else none).bind fun x4=>(T44 N x4).bind fun y3=>(some (!y3))))):Option Bool).bind fun o5=>(bif o5 then some 10 else (bif ((a2.1 == a2.2.2.1)&&((a2.2.1 == a2.2.2.2.1)&&true)) then some 9 else ((aA (zh N a1 a2) N 0).bind fun oa=>(aah (fun qY=>some qY) (fun uZ=>((bif ((Cl a0.1&&(En a0.2&&true))&&true) then some (((Cm a0.1),(Eo a0.2)),(a2.1,a2.2.1)) else none).bind fun x16=>(T69 N x16).bind fun y15=>bif (((a2.2.2.1 == a2.2.2.1)&&((a2.2.2.2.1 == a2.2.2.2.1)&&true))&&((aT (fF a0.1) (fF a0.1)&&(aT (dv a0.2) (dv a0.2)&&true))&&true)) then ((bif ((Cl a0.1&&(En a0.2&&true))&&true) then some (((Cm a0.1),(Eo a0.2)),(a2.2.2.1,a2.2.2.2.1)) else none).bind fun x18=>(T69 N x18).bind fun tX=>(((bif (decide (y15.1 > (wrap .i64 (2 * tX.1)))) then (some true) else (some (decide (tX.1 > (wrap .i64 (2 * y15.1)))))):Option Bool).bind fun TB=>(bif TB then some 24 else some 0))) else none)) oa))))):=by kernel_rfl
def c64:List (Nat × eZ):=[(58,.loop [] ⟨(.ci .nil),[5],[],[],[],[]⟩ [(.ret,⟨(.ci .nil),[4],[],[],[],[]⟩),(.ex 0,⟨.nil,[],[],[],[],[]⟩)]),
 (60,.join [(.norm,⟨(.cons .bool .nil),[47],[],[],[],[]⟩)]),
 (250,.loop [] ⟨(.ci .nil),[6],[],[],[],[]⟩ [(.ret,⟨(.ci .nil),[4],[],[],[],[]⟩),(.ex 2,⟨.nil,[],[],[],[],[]⟩)])]
def T64 (N:Nat):aW × Int→Option Int:=(cx N [(110,agn N),(111,ago N),(112,agp N)] [(64,c64)]).fn 1000 64 (.cons gf (.ci .nil)) (.int .i64)
def e64 (N:Nat):bH:=⟨(.cons gf (.ci .nil)),(.int .i64),T64 N⟩
theorem acB (N:Nat):aJ cm 64 (e64 N):=km.dP (ld (Xj N) (ld (Xm N) (ld (Xo N) D2))) (by kernel_rfl) (by kernel_rfl)
def Es (N:Nat) (a0:List lN) (a1:Int) (v2:Int):Option wN:=
 (bif (decide (v2 < a1)) then bif (decide ((0:Int)≤v2∧v2 < ((fF a0).length:Int))&&fits By (af (fF a0) (toNat v2))) then bif (decide ((0:Int)≤a1∧a1 < ((fF a0).length:Int))&&fits By (af (fF a0) (toNat a1))) then (bif ((d92 (af (fF a0) (toNat v2))).1 == (d92 (af (fF a0) (toNat a1))).1) then (some (aaa (aag 9))) else (some (aag (wrap .i64 (v2+1))))) else none else none else (some (aaa (aaa ()))))
def zi (N:Nat) (a0:List lN) (a1:Int) (v11:Int):Option wN:=
 bif (decide ((0:Int)≤a1∧a1 < ((fF a0).length:Int))&&fits By (af (fF a0) (toNat a1))) then (bif (decide (v11 < ((((xA (d92 (af (map qW a0) (toNat a1))).2)).length:Nat):Int))) then bif (decide ((0:Int)≤a1∧a1 < ((fF a0).length:Int))&&fits By (af (fF a0) (toNat a1))) then bif (decide ((0:Int)≤v11∧v11 < (((xA (d92 (af (map qW a0) (toNat a1))).2)).length:Int))&&fits p94 (af (xA (d92 (af (map qW a0) (toNat a1))).2) (toNat v11))) then (TA N ((d94 (af (xA (d92 (af (map qW a0) (toNat a1))).2) (toNat v11))).1,1,10000)).bind fun TC=>bif (((d94 (af (xA (d92 (af (map qW a0) (toNat a1))).2) (toNat v11))).2 == (d94 (af (xA (d92 (af (map qW a0) (toNat a1))).2) (toNat v11))).2)&&true) then (TA N ((d94 (af (xA (d92 (af (map qW a0) (toNat a1))).2) (toNat v11))).2,(-100000),100000)).bind fun J3=>((bif (allFit (fits p3) [(AV.int .i64 TC),(AV.int .i64 J3)]&&true) then some (map d3 [(AV.int .i64 TC),(AV.int .i64 J3)]) else none).bind fun x15=>(Xl N x15).bind fun y14=>(bif (y14 != 0) then (some (aaa (aag y14))) else (some (aag (wrap .i64 (v11+1)))))) else none else none else none else (some (aaa (aaa ())))) else none
theorem acE (N:Nat) (a0:List lN) (a1:Int):T64 N (a0,a1) =
 bif (decide ((0:Int)≤a1∧a1 < ((fF a0).length:Int))&&fits By (af (fF a0) (toNat a1))) then (Xi N (d92 (af (fF a0) (toNat a1))).1).bind fun y1=>(bif (!y1) then some 8 else ((aA (Es N a0 a1) N 0).bind fun o7=>(aah (fun o8=>some o8) (fun o9=>((bif (decide ((0:Int)≤a1∧a1 < ((fF a0).length:Int))&&fits By (af (fF a0) (toNat a1))) then (bif (decide (((((xA (d92 (af (map qW a0) (toNat a1))).2)).length:Nat):Int) < 3)) then (some true) else bif (decide ((0:Int)≤a1∧a1 < ((fF a0).length:Int))&&fits By (af (fF a0) (toNat a1))) then (some (decide (((((xA (d92 (af (map qW a0) (toNat a1))).2)).length:Nat):Int) > 8))) else none) else none).bind fun F9=>(bif F9 then some 2 else ((aA (zi N a0 a1) N 0).bind fun tY=>(aah (fun Q0=>some Q0) (fun Zu=>some 0) tY))))) o7))) else none:=by kernel_rfl
def c14:List (Nat × eZ):=[(122,.loop [] ⟨(.ci .nil),[3],[],[],[],[]⟩ [(.ret,⟨(.ci .nil),[2],[],[],[],[]⟩),(.ex 0,⟨.nil,[],[],[],[],[]⟩)]),
 (506,.loop [] ⟨(.ci .nil),[5],[],[],[],[]⟩ [(.ret,⟨(.ci .nil),[2],[],[],[],[]⟩),(.ex 2,⟨.nil,[],[],[],[],[]⟩)])]
def T14 (N:Nat):eV→Option Int:=(cx N [(48,e48 N),(64,e64 N)] [(14,c14)]).fn 1000 14 (.cons dI .nil) (.int .i64)
def e14 (N:Nat):bH:=⟨(.cons dI .nil),(.int .i64),T14 N⟩
theorem acF (N:Nat):aJ cm 14 (e14 N):=km.dP (ld (acz N) (ld (acB N) D2)) (by kernel_rfl) (by kernel_rfl)
def zj (N:Nat) (a0:aW × a7) (v1:Int):Option wN:=
 (bif (decide (v1 < (((fF a0.1).length:Nat):Int))) then ((bif (Cl a0.1&&true) then some ((Cm a0.1),v1) else none).bind fun x3=>(T64 N x3).bind fun y2=>(bif (y2 != 0) then (some (aaa (aag y2))) else (some (aag (wrap .i64 (v1+1)))))) else (some (aaa (aaa ()))))
def zk (N:Nat) (a0:aW × a7) (v11:Int):Option wN:=
 (bif (decide (v11 < (((dv a0.2).length:Nat):Int))) then bif (decide ((0:Int)≤v11∧v11≤((dv a0.2).length:Int))&&true) then bif (decide ((0:Int)≤v11∧v11 < ((dv a0.2).length:Int))&&fits Na (af (dv a0.2) (toNat v11))) then ((bif ((Cl a0.1&&(En a0.2&&true))&&(allFit (fits Na) (qH 0 (toNat v11) (dv a0.2))&&true)) then some (((Cm a0.1),(Eo a0.2)),(map d79 (qH 0 (toNat v11) (dv a0.2))),((d79 (af (dv a0.2) (toNat v11))).1,(d79 (af (dv a0.2) (toNat v11))).2.1,(d79 (af (dv a0.2) (toNat v11))).2.2.1,(d79 (af (dv a0.2) (toNat v11))).2.2.2.1,(d79 (af (dv a0.2) (toNat v11))).2.2.2.2)) else none).bind fun x13=>(T48 N x13).bind fun TC=>(bif (TC != 0) then (some (aaa (aag TC))) else (some (aag (wrap .i64 (v11+1)))))) else none else none else (some (aaa (aaa ()))))
theorem acG (N:Nat) (a0:aW × a7):T14 N a0 =
 (bif ((((fF a0.1).length:Nat):Int) == 0) then some 12 else (bif (decide ((((fF a0.1).length:Nat):Int) > 16)) then some 5 else ((aA (zj N a0) N 0).bind fun o8=>(aah (fun o9=>some o9) (fun F9=>(bif (decide ((((dv a0.2).length:Nat):Int) > 64)) then some 5 else ((aA (zk N a0) N 0).bind fun xy=>(aah (fun TB=>some TB) (fun tY=>some 0) xy)))) o8)))):=by kernel_rfl
def akr:List (Nat × eZ):=[(26,.loop [] ⟨(.ci (.ci (.ci .nil))),[7],[],[(4,2)],[],[]⟩ [(.ret,⟨(.cons .bool (.cons .bool (.ci (.ci .nil)))),[5,6],[],[(4,2)],[],[]⟩),(.ex 0,⟨(.ci (.ci .nil)),[],[],[(4,2)],[],[]⟩)])]
def H0 (N:Nat):eV × bg→Option (bg × Bool × Bool):=(cx N [] [(113,akr)]).fn 1000 113 (.cons dI (.cons bt .nil)) (.bW (.cons bt (.cons .bool (.cons .bool .nil))))
def acH (N:Nat):bH:=⟨(.cons dI (.cons bt .nil)),(.bW (.cons bt (.cons .bool (.cons .bool .nil)))),H0 N⟩
theorem OL (N:Nat):aJ cm 113 (acH N):=km.dP (fun _ _ h=>by cases h) (by kernel_rfl) (by kernel_rfl)
def zl (N:Nat) (a0:aW × a7) (a1:Int × Int) (v1:Int × Int × Int):Option ((Int × Int × Int) ⊕ ((Bool × Bool × Int × Int) ⊕ bg)):=
 (bif (decide (v1.1 < (((dv a0.2).length:Nat):Int))) then bif (decide ((0:Int)≤v1.1∧v1.1 < ((dv a0.2).length:Int))&&fits Na (af (dv a0.2) (toNat v1.1))) then (bif (((d79 (af (dv a0.2) (toNat v1.1))).1 == a1.1)&&(((d79 (af (dv a0.2) (toNat v1.1))).2.1 == a1.2)&&true)) then bif (((d79 (af (dv a0.2) (toNat v1.1))).2.2.2.2 == (d79 (af (dv a0.2) (toNat v1.1))).2.2.2.2)&&true) then (some (aaa (aag ((d79 (af (dv a0.2) (toNat v1.1))).2.2.2.2,true,(d79 (af (dv a0.2) (toNat v1.1))).2.2.1,(d79 (af (dv a0.2) (toNat v1.1))).2.2.2.1)))) else none else (bif (((d79 (af (dv a0.2) (toNat v1.1))).2.2.1 == a1.1)&&(((d79 (af (dv a0.2) (toNat v1.1))).2.2.2.1 == a1.2)&&true)) then bif (((d79 (af (dv a0.2) (toNat v1.1))).2.2.2.2 == (d79 (af (dv a0.2) (toNat v1.1))).2.2.2.2)&&true) then (some (aaa (aag ((d79 (af (dv a0.2) (toNat v1.1))).2.2.2.2,true,(d79 (af (dv a0.2) (toNat v1.1))).1,(d79 (af (dv a0.2) (toNat v1.1))).2.1)))) else none else (some (aag ((wrap .i64 (v1.1+1)),v1.2.1,v1.2.2))))) else none else (some (aaa (aaa (v1.2.1,v1.2.2)))))
theorem Xq (N:Nat) (a0:aW × a7) (a1:Int × Int):H0 N (a0,a1) =
 ((aA (zl N a0 a1) N (0,0,0)).bind fun o8=>(aah (fun o9=>some ((o9.2.2.1,o9.2.2.2),o9.1,o9.2.1)) (fun F9=>some ((0,0),false,false)) o8)):=by kernel_rfl
def c65:List (Nat × eZ):=[(58,.loop [(.slot 3,2,77)] ⟨(.cons (.own 0 2 bt) (.ci .nil)),[3,4],[],[],[.tok 0 2 77],[]⟩ [(.ex 0,⟨(.cons (.own 0 2 bt) .nil),[3],[],[],[.tok 0 2 77],[]⟩)]),
 (3730,.loop [] ⟨(.cons (.own 0 2 bt) (.ci .nil)),[3,5],[],[],[.tok 0 2 77],[]⟩ [(.ex 2,⟨(.cons (.own 0 2 bt) .nil),[3],[],[],[.tok 0 2 77],[]⟩)]),
 (29842,.join [(.norm,⟨(.cons (.own 0 2 bt) .nil),[3],[],[],[.tok 0 2 77],[]⟩)])]
def Xr (N:Nat):eV→Option (av):=(cx N [(113,acH N)] [(65,c65)]).fn 1000 65 (.cons dI .nil) bF
def e65 (N:Nat):bH:=⟨(.cons dI .nil),bF,Xr N⟩
theorem TD (N:Nat):aJ cm 65 (e65 N):=km.dP (ld (OL N) D2) (by kernel_rfl) (by kernel_rfl)
def vh (N:Nat) (a0:aW × a7) (v1:av × Int) (v2:av × Int):Option ((av × Int) ⊕ ((av))):=
 bif (decide ((0:Int)≤v1.2∧v1.2 < ((fF a0.1).length:Int))&&fits By (af (fF a0.1) (toNat v1.2))) then (bif (decide (v2.2 < ((((xA (d92 (af (map qW a0.1) (toNat v1.2))).2)).length:Nat):Int))) then ((((bif ((Cl a0.1&&(En a0.2&&true))&&true) then some (((Cm a0.1),(Eo a0.2)),(v1.2,v2.2)) else none).bind fun x4=>(H0 N x4).bind fun y3=>(bif (!y3.2.2) then bif (decide ((qZ v2.1).length=(qZ v2.1).length)&&decide (((qZ v2.1).length+1) * 16≤140737488355328)) then ((bif (allFit (fits M7) ((qZ v2.1)++[(AV.agg [(AV.int .i64 v1.2),(AV.int .i64 v2.2)])])&&true) then some (map d77 ((qZ v2.1)++[(AV.agg [(AV.int .i64 v1.2),(AV.int .i64 v2.2)])])) else none).bind fun w5=>bif (decide (((qZ v2.1).length+1)=(map BY w5).length)&&true) then some w5 else none) else none else ((bif (Zs v2.1&&true) then some (Zt v2.1) else none).bind fun w6=>bif (decide ((qZ v2.1).length=(map BY w6).length)&&true) then some w6 else none))):Option ((av))).bind fun o7=>(((bif (Zs o7&&true) then some ((Zt o7),(wrap .i64 (v2.2+1))) else none).bind fun w8=>bif (decide ((qZ o7).length=(map BY w8.1).length)&&true) then some w8 else none).bind fun u9=>some (aag u9))) else (((bif (Zs v2.1&&true) then some (Zt v2.1) else none).bind fun OF=>bif (decide ((qZ v2.1).length=(map BY OF).length)&&true) then some OF else none).bind fun u11=>some (aaa u11))) else none
def Et (N:Nat) (a0:aW × a7) (v1:av × Int):Option ((av × Int) ⊕ ((av))):=
 (bif (decide (v1.2 < (((fF a0.1).length:Nat):Int))) then (((bif (Zs v1.1&&true) then some ((Zt v1.1),0) else none:Option (av × Int)).bind fun HQ=>bif (decide ((qZ v1.1).length=(map BY HQ.1).length)&&true) then some HQ else none).bind fun x16=>(aA (vh N a0 v1) N x16).bind fun qY=>(((bif (Zs qY&&true) then some ((Zt qY),(wrap .i64 (v1.2+1))) else none).bind fun K0=>bif (decide ((qZ qY).length=(map BY K0.1).length)&&true) then some K0 else none).bind fun u15=>some (aag u15))) else (((bif (Zs v1.1&&true) then some (Zt v1.1) else none).bind fun Gu=>bif (decide ((qZ v1.1).length=(map BY Gu).length)&&true) then some Gu else none).bind fun Tb=>some (aaa Tb)))
theorem acI (N:Nat) (a0:aW × a7):Xr N a0 =
 (((bif (allFit (fits M7) ([]:List AV)&&true) then some ((map d77 ([]:List AV)),0) else none:Option (av × Int)).bind fun J1=>bif (decide (0=(map BY J1.1).length)&&true) then some J1 else none).bind fun x21=>(aA (Et N a0) N x21).bind fun tY=>(bif Zs tY then some (Zt tY) else none)):=by kernel_rfl
end
end Go.Proofs.YtegoimldbgdeiaaGreat
