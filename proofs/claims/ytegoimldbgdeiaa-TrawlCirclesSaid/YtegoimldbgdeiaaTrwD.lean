/- What functions compute. -/
import Derived.Test.YtegoimldbgdeiaaTrwC
set_option linter.all false
open Sum renaming inr→aae, inl→aal, elim→aas
namespace Go.Proofs.Ytegoimldbgdeiaa
open Go Go.Am
open List (map)
open Int (toNat)
open Go.IntKind (wrap)
open Go.Am.aL (fits)
set_option maxRecDepth 100000
noncomputable section
abbrev Yi:aL:=AL
abbrev d71 (v:AV):Int × Int:=aL.bB Yi v
abbrev Uj (x:Int × Int):AV:=aL.enc Yi x
abbrev za (l:List bI):=map Uj l
abbrev BT:aL:=(.agg (.cons .str (.cons td .nil)))
abbrev d74 (v:AV):jH × av:=aL.bB BT v
abbrev rQ (x:jH × av):AV:=aL.enc BT x
abbrev pw (l:List lf):=map rQ l
abbrev Qw (l:List lf):=allFit (fits BT) (map rQ l)
abbrev Qx (l:List lf):=map d74 (map rQ l)
theorem JC (l:List lf):allFit (fits BT) (map rQ l)=true:=cK (p:=BT) rfl l
theorem JD (l:List lf):map d74 (map rQ l)=l:=eY (p:=BT) rfl l
theorem ajv (x:jH × av):fits BT (rQ x)=true:=(aL.bq BT x rfl).1
theorem ajw (x:jH × av):d74 (rQ x)=x:=(aL.bq BT x rfl).2
abbrev D0:aL:=RX
abbrev d113 (v:AV):Int × Int × Int × Int × Bool:=aL.bB D0 v
abbrev n113 (x:Int × Int × Int × Int × Bool):AV:=aL.enc D0 x
abbrev gq (l:List mJ):=map n113 l
abbrev D1 (l:List mJ):=allFit (fits D0) (map n113 l)
abbrev D2 (l:List mJ):=map d113 (map n113 l)
theorem D3 (l:List mJ):allFit (fits D0) (map n113 l)=true:=cK (p:=D0) rfl l
theorem D4 (l:List mJ):map d113 (map n113 l)=l:=eY (p:=D0) rfl l
def c53:List (Nat × de):=[(12,.join [(.norm,⟨(.cons .bool .nil),[13],[],[],[],[]⟩)]),
 (58,.loop [] ⟨(.ci .nil),[3],[],[],[],[]⟩ [(.ret,⟨(.cons .bool .nil),[2],[],[],[],[]⟩),(.ex 0,⟨.nil,[],[],[],[],[]⟩)]),
 (3730,.join [(.norm,⟨(.cons .bool .nil),[5],[],[],[],[]⟩)]),
 (7462,.join [(.norm,⟨(.cons .bool .nil),[54],[],[],[],[]⟩)])]
def T53 (N:Nat):jH→Option Bool:=(cx N [] [(53,c53)]).fn 1000 53 (.cons .str .nil) .bool
def e53 (N:Nat):bi:=⟨(.cons .str .nil),.bool,T53 N⟩
theorem abF (N:Nat):aK ck 53 (e53 N):=ke.eE (fun _ _ h=>by cases h) (by kernel_rfl) (by kernel_rfl)
def D5 (N:Nat) (a0:List UInt8) (v2:Int):Option (Int ⊕ (Bool ⊕ Unit)):=
 (bif (decide (v2 < (((a0).length:Nat):Int))) then bif decide ((0:Int)≤v2∧v2 < ((a0).length:Int)) then (((bif (decide (((((a0).getD (toNat v2) 0).toNat:Nat):Int)≥97)) then (bif (decide (((((a0).getD (toNat v2) 0).toNat:Nat):Int)≤122)) then (some true) else (bif (decide (((((a0).getD (toNat v2) 0).toNat:Nat):Int)≥65)) then (some (decide (((((a0).getD (toNat v2) 0).toNat:Nat):Int)≤90))) else (some false))) else (bif (decide (((((a0).getD (toNat v2) 0).toNat:Nat):Int)≥65)) then (some (decide (((((a0).getD (toNat v2) 0).toNat:Nat):Int)≤90))) else (some false))):Option Bool).bind fun o3=>(((bif (!o3) then (bif (v2 == 0) then (some true) else (bif (((((a0).getD (toNat v2) 0).toNat:Nat):Int) != 95) then (bif (decide (((((a0).getD (toNat v2) 0).toNat:Nat):Int) < 48)) then (some true) else (some (decide (((((a0).getD (toNat v2) 0).toNat:Nat):Int) > 57)))) else (some false))) else (some false)):Option Bool).bind fun o4=>(bif o4 then (some (aae (aal false))) else (some (aal (wrap .i64 (v2+1))))))) else none else (some (aae (aae ()))))
theorem abG (N:Nat) (a0:List UInt8):T53 N a0 =
 (((bif ((((a0).length:Nat):Int) == 0) then (some true) else (some (decide ((((a0).length:Nat):Int) > 24)))):Option Bool).bind fun o1=>(bif o1 then some false else ((aw (D5 N a0) N 0).bind fun o9=>(aas (fun eL=>some eL) (fun vR=>some true) o9)))):=by kernel_rfl
def c54:List (Nat × de):=[(26,.loop [] ⟨(.ci .nil),[3],[],[],[],[]⟩ [(.ret,⟨(.ci .nil),[2],[],[],[],[]⟩),(.ex 0,⟨.nil,[],[],[],[],[]⟩)])]
def T54 (N:Nat):ao→Option Int:=(cx N [] [(54,c54)]).fn 1000 54 (.cons aQ .nil) (.int .i64)
def e54 (N:Nat):bi:=⟨(.cons aQ .nil),(.int .i64),T54 N⟩
theorem abH (N:Nat):aK ck 54 (e54 N):=ke.eE (fun _ _ h=>by cases h) (by kernel_rfl) (by kernel_rfl)
def HD (N:Nat) (a0:List Int) (v1:Int):Option vY:=
 (bif (decide (v1 < (((L3 a0).length:Nat):Int))) then bif (decide ((0:Int)≤v1∧v1 < ((L3 a0).length:Int))&&fits p3 (ae (L3 a0) (toNat v1))) then (bif ((d3 (ae (L3 a0) (toNat v1))) != 0) then bif (decide ((0:Int)≤v1∧v1 < ((L3 a0).length:Int))&&fits p3 (ae (L3 a0) (toNat v1))) then (some (aae (aal (d3 (ae (L3 a0) (toNat v1)))))) else none else (some (aal (wrap .i64 (v1+1))))) else none else (some (aae (aae ()))))
theorem abI (N:Nat) (a0:List Int):T54 N a0 =
 ((aw (HD N a0) N 0).bind fun o6=>(aas (fun o7=>some o7) (fun o8=>some 0) o6)):=by kernel_rfl
def c55:List (Nat × de):=[(12,.join [(.norm,⟨(.cons .bool .nil),[14],[],[],[],[]⟩)])]
def T55 (N:Nat):Int × Int × Int→Option Int:=(cx N [] [(55,c55)]).fn 1000 55 (.ci (.ci (.ci .nil))) (.int .i64)
def e55 (N:Nat):bi:=⟨(.ci (.ci (.ci .nil))),(.int .i64),T55 N⟩
theorem abJ (N:Nat):aK ck 55 (e55 N):=ke.eE (fun _ _ h=>by cases h) (by kernel_rfl) (by kernel_rfl)
theorem abK (N:Nat) (a0:Int) (a1:Int) (a2:Int):T55 N (a0,a1,a2) =
 (((bif (decide (a0 < a1)) then (some true) else (some (decide (a0 > a2)))):Option Bool).bind fun o1=>(bif o1 then some 3 else some 0)):=by kernel_rfl
def c13:List (Nat × de):=[(58,.loop [] ⟨(.ci .nil),[3],[],[],[],[]⟩ [(.ret,⟨(.ci .nil),[2],[],[],[],[]⟩),(.ex 0,⟨.nil,[],[],[],[],[]⟩)])]
def T13 (N:Nat):FV→Option Int:=(cx N [(53,e53 N),(54,e54 N),(55,e55 N)] [(13,c13)]).fn 1000 13 (.cons nG .nil) (.int .i64)
def e13 (N:Nat):bi:=⟨(.cons nG .nil),(.int .i64),T13 N⟩
def c14:List (Nat × de):=[(58,.loop [] ⟨(.ci (.ci (.ci .nil))),[4,5,6],[],[],[],[]⟩ [(.ex 0,⟨(.ci (.ci .nil)),[4,5],[],[],[],[]⟩)])]
def T14 (N:Nat):FV→Option bI:=(cx N [] [(14,c14)]).fn 1000 14 (.cons nG .nil) (.bG (.ci (.ci .nil)))
def e14 (N:Nat):bi:=⟨(.cons nG .nil),(.bG (.ci (.ci .nil))),T14 N⟩
def c15:List (Nat × de):=[(250,.loop [] ⟨(.ci (.ci (.ci .nil))),[11],[],[(6,2)],[],[]⟩ [(.ret,⟨(.ci (.ci (.ci .nil))),[7],[],[(6,2)],[],[]⟩),(.ex 0,⟨(.ci (.ci .nil)),[],[],[(6,2)],[],[]⟩)]),
 (8008,.join [(.norm,⟨(.cons .bool .nil),[56],[],[],[],[]⟩)])]
def T15 (N:Nat):FV × Int × Int→Option (bI × Int):=(cx N [(14,e14 N)] [(15,c15)]).fn 1000 15 (.cons nG (.ci (.ci .nil))) (.bG (.cons bC (.ci .nil)))
def e15 (N:Nat):bi:=⟨(.cons nG (.ci (.ci .nil))),(.bG (.cons bC (.ci .nil))),T15 N⟩
def c23:List (Nat × de):=[(6,.join [(.norm,⟨(.cons .bool .nil),[4],[],[],[],[]⟩)])]
def Wu (N:Nat):dR × bI→Option Bool:=(cx N [] [(23,c23)]).fn 1000 23 (.cons cD (.cons bC .nil)) .bool
def e23 (N:Nat):bi:=⟨(.cons cD (.cons bC .nil)),.bool,Wu N⟩
theorem S0 (N:Nat):aK ck 23 (e23 N):=ke.eE (fun _ _ h=>by cases h) (by kernel_rfl) (by kernel_rfl)
theorem abL (N:Nat) (a0:a6 × a8) (a1:Int × Int):Wu N (a0,a1) =
 (((bif (decide (a1.1≥0)) then (bif (decide (a1.1 < (((pw a0.1).length:Nat):Int))) then (bif (decide (a1.2≥0)) then bif (decide ((0:Int)≤a1.1∧a1.1 < ((pw a0.1).length:Int))&&fits BT (ae (pw a0.1) (toNat a1.1))) then (some (decide (a1.2 < ((((za (d74 (ae (map rQ a0.1) (toNat a1.1))).2)).length:Nat):Int)))) else none else (some false)) else (some false)) else (some false)):Option Bool).bind fun o1=>some o1):=by kernel_rfl
def c24:List (Nat × de):=[(12,.join [(.norm,⟨(.cons .bool .nil),[40],[],[],[],[]⟩)]),
 (58,.loop [] ⟨(.ci .nil),[5],[],[],[],[]⟩ [(.ret,⟨(.cons .bool .nil),[4],[],[],[],[]⟩),(.ex 0,⟨.nil,[],[],[],[],[]⟩)]),
 (1864,.join [(.norm,⟨(.cons .bool .nil),[65],[],[],[],[]⟩)])]
def T24 (N:Nat):dR × Int→Option Bool:=(cx N [] [(24,c24)]).fn 1000 24 (.cons cD (.ci .nil)) .bool
def e24 (N:Nat):bi:=⟨(.cons cD (.ci .nil)),.bool,T24 N⟩
theorem abM (N:Nat):aK ck 24 (e24 N):=ke.eE (fun _ _ h=>by cases h) (by kernel_rfl) (by kernel_rfl)
def D6 (N:Nat) (a0:a6 × a8) (v2:Int):Option (Int ⊕ (Bool ⊕ Unit)):=
 (bif (decide (v2 < (((pw a0.1).length:Nat):Int))) then ((bif (decide ((0:Int)≤v2∧v2 < ((pw a0.1).length:Int))&&fits BT (ae (pw a0.1) (toNat v2))) then (bif (decide (((((d74 (ae (pw a0.1) (toNat v2))).1).length:Nat):Int) > 60)) then (some true) else bif (decide ((0:Int)≤v2∧v2 < ((pw a0.1).length:Int))&&fits BT (ae (pw a0.1) (toNat v2))) then (some (decide (((((za (d74 (ae (map rQ a0.1) (toNat v2))).2)).length:Nat):Int) > 10))) else none) else none).bind fun o3=>(bif o3 then (some (aae (aal false))) else (some (aal (wrap .i64 (v2+1)))))) else (some (aae (aae ()))))
theorem abN (N:Nat) (a0:a6 × a8) (a1:Int):T24 N (a0,a1) =
 (((bif (decide ((((pw a0.1).length:Nat):Int) > a1)) then (bif (decide ((((pw a0.1).length:Nat):Int)≤16)) then (some true) else (bif (decide ((((pw a0.1).length:Nat):Int) > 18)) then (some true) else (bif (decide ((((gq a0.2).length:Nat):Int) > 12)) then (bif (decide ((((gq a0.2).length:Nat):Int)≤64)) then (some true) else (some (decide ((((gq a0.2).length:Nat):Int) > 66)))) else (some (decide ((((gq a0.2).length:Nat):Int) > 66)))))) else (bif (decide ((((pw a0.1).length:Nat):Int) > 18)) then (some true) else (bif (decide ((((gq a0.2).length:Nat):Int) > 12)) then (bif (decide ((((gq a0.2).length:Nat):Int)≤64)) then (some true) else (some (decide ((((gq a0.2).length:Nat):Int) > 66)))) else (some (decide ((((gq a0.2).length:Nat):Int) > 66)))))):Option Bool).bind fun o1=>(bif o1 then some false else ((aw (D6 N a0) N 0).bind fun o8=>(aas (fun o9=>some o9) (fun eL=>some true) o8)))):=by kernel_rfl
def T81 (N:Nat):dR × bI→Option (bI):=(cx N [] []).fn 1000 81 (.cons cD (.cons bC .nil)) bC
def e81 (N:Nat):bi:=⟨(.cons cD (.cons bC .nil)),bC,T81 N⟩
theorem abO (N:Nat):aK ck 81 (e81 N):=ke.eE (fun _ _ h=>by cases h) (by kernel_rfl) (by kernel_rfl)
theorem abP (N:Nat) (a0:a6 × a8) (a1:Int × Int):T81 N (a0,a1) =
 bif (decide ((0:Int)≤a1.1∧a1.1 < ((pw a0.1).length:Int))&&fits BT (ae (pw a0.1) (toNat a1.1))) then bif (decide ((0:Int)≤a1.2∧a1.2 < (((za (d74 (ae (map rQ a0.1) (toNat a1.1))).2)).length:Int))&&fits Yi (ae (za (d74 (ae (map rQ a0.1) (toNat a1.1))).2) (toNat a1.2))) then some ((d71 (ae (za (d74 (ae (map rQ a0.1) (toNat a1.1))).2) (toNat a1.2))).1,(d71 (ae (za (d74 (ae (map rQ a0.1) (toNat a1.1))).2) (toNat a1.2))).2) else none else none:=by kernel_rfl
def c42:List (Nat × de):=[(12,.join [(.norm,⟨(.cons .bool .nil),[22],[],[],[],[]⟩)]),
 (122,.loop [] ⟨(.ci .nil),[7],[],[],[],[]⟩ [(.ret,⟨(.ci .nil),[6],[],[],[],[]⟩),(.ex 0,⟨.nil,[],[],[],[],[]⟩)]),
 (252,.join [(.norm,⟨(.cons .bool .nil),[83],[],[],[],[]⟩)]),
 (7826,.join [(.norm,⟨(.cons .bool .nil),[63],[],[],[],[]⟩)])]
def T42 (N:Nat):dR × a8 × mJ→Option Int:=(cx N [(23,e23 N),(81,e81 N)] [(42,c42)]).fn 1000 42 (.cons cD (.cons dW (.cons DA .nil))) (.int .i64)
def e42 (N:Nat):bi:=⟨(.cons cD (.cons dW (.cons DA .nil))),(.int .i64),T42 N⟩
theorem abR (N:Nat):aK ck 42 (e42 N):=ke.eE (kK (S0 N) (kK (abO N) Ez)) (by kernel_rfl) (by kernel_rfl)
def yC (N:Nat) (a1:List mJ) (a2:Int × Int × Int × Int × Bool) (v6:Int):Option vY:=
 (bif (decide (v6 < (((gq a1).length:Nat):Int))) then bif (decide ((0:Int)≤v6∧v6 < ((gq a1).length:Int))&&fits D0 (ae (gq a1) (toNat v6))) then (((bif (((d113 (ae (gq a1) (toNat v6))).1 == a2.1)&&(((d113 (ae (gq a1) (toNat v6))).2.1 == a2.2.1)&&true)) then (some true) else (bif (((d113 (ae (gq a1) (toNat v6))).1 == a2.2.2.1)&&(((d113 (ae (gq a1) (toNat v6))).2.1 == a2.2.2.2.1)&&true)) then (some true) else (bif (((d113 (ae (gq a1) (toNat v6))).2.2.1 == a2.1)&&(((d113 (ae (gq a1) (toNat v6))).2.2.2.1 == a2.2.1)&&true)) then (some true) else (some (((d113 (ae (gq a1) (toNat v6))).2.2.1 == a2.2.2.1)&&(((d113 (ae (gq a1) (toNat v6))).2.2.2.1 == a2.2.2.2.1)&&true)))))):Option Bool).bind fun o7=>(bif o7 then (some (aae (aal 9))) else (some (aal (wrap .i64 (v6+1)))))) else none else (some (aae (aae ()))))
theorem abS (N:Nat) (a0:a6 × a8) (a1:List mJ) (a2:Int × Int × Int × Int × Bool):T42 N (a0,a1,a2) =
 ((((bif ((Qw a0.1&&(D1 a0.2&&true))&&true) then some (((Qx a0.1),(D2 a0.2)),(a2.1,a2.2.1)) else none).bind fun x2=>(Wu N x2).bind fun y1=>(bif (!y1) then (some true) else ((bif ((Qw a0.1&&(D1 a0.2&&true))&&true) then some (((Qx a0.1),(D2 a0.2)),(a2.2.2.1,a2.2.2.2.1)) else none).bind fun x4=>(Wu N x4).bind fun y3=>(some (!y3))))):Option Bool).bind fun o5=>(bif o5 then some 10 else (bif ((a2.1 == a2.2.2.1)&&((a2.2.1 == a2.2.2.2.1)&&true)) then some 9 else ((aw (yC N a1 a2) N 0).bind fun yZ=>(aas (fun AR=>some AR) (fun fQ=>((bif ((Qw a0.1&&(D1 a0.2&&true))&&true) then some (((Qx a0.1),(D2 a0.2)),(a2.1,a2.2.1)) else none).bind fun x16=>(T81 N x16).bind fun y15=>bif (((a2.2.2.1 == a2.2.2.1)&&((a2.2.2.2.1 == a2.2.2.2.1)&&true))&&((bR (pw a0.1) (pw a0.1)&&(bR (gq a0.2) (gq a0.2)&&true))&&true)) then ((bif ((Qw a0.1&&(D1 a0.2&&true))&&true) then some (((Qx a0.1),(D2 a0.2)),(a2.2.2.1,a2.2.2.2.1)) else none).bind fun x18=>(T81 N x18).bind fun y17=>(((bif (decide (y15.1 > (wrap .i64 (2 * y17.1)))) then (some true) else (some (decide (y17.1 > (wrap .i64 (2 * y15.1)))))):Option Bool).bind fun o19=>(bif o19 then some 24 else some 0))) else none)) yZ))))):=by kernel_rfl
def c68:List (Nat × de):=[(58,.loop [] ⟨(.ci .nil),[5],[],[],[],[]⟩ [(.ret,⟨(.ci .nil),[4],[],[],[],[]⟩),(.ex 0,⟨.nil,[],[],[],[],[]⟩)]),
 (60,.join [(.norm,⟨(.cons .bool .nil),[47],[],[],[],[]⟩)]),
 (250,.loop [] ⟨(.ci .nil),[6],[],[],[],[]⟩ [(.ret,⟨(.ci .nil),[4],[],[],[],[]⟩),(.ex 2,⟨.nil,[],[],[],[],[]⟩)])]
def T68 (N:Nat):a6 × Int→Option Int:=(cx N [(53,e53 N),(54,e54 N),(55,e55 N)] [(68,c68)]).fn 1000 68 (.cons dV (.ci .nil)) (.int .i64)
def e68 (N:Nat):bi:=⟨(.cons dV (.ci .nil)),(.int .i64),T68 N⟩
theorem abT (N:Nat):aK ck 68 (e68 N):=ke.eE (kK (abF N) (kK (abH N) (kK (abJ N) Ez))) (by kernel_rfl) (by kernel_rfl)
def D7 (N:Nat) (a0:List lf) (a1:Int) (v2:Int):Option vY:=
 (bif (decide (v2 < a1)) then bif (decide ((0:Int)≤v2∧v2 < ((pw a0).length:Int))&&fits BT (ae (pw a0) (toNat v2))) then bif (decide ((0:Int)≤a1∧a1 < ((pw a0).length:Int))&&fits BT (ae (pw a0) (toNat a1))) then (bif ((d74 (ae (pw a0) (toNat v2))).1 == (d74 (ae (pw a0) (toNat a1))).1) then (some (aae (aal 9))) else (some (aal (wrap .i64 (v2+1))))) else none else none else (some (aae (aae ()))))
def yD (N:Nat) (a0:List lf) (a1:Int) (v11:Int):Option vY:=
 bif (decide ((0:Int)≤a1∧a1 < ((pw a0).length:Int))&&fits BT (ae (pw a0) (toNat a1))) then (bif (decide (v11 < ((((za (d74 (ae (map rQ a0) (toNat a1))).2)).length:Nat):Int))) then bif (decide ((0:Int)≤a1∧a1 < ((pw a0).length:Int))&&fits BT (ae (pw a0) (toNat a1))) then bif (decide ((0:Int)≤v11∧v11 < (((za (d74 (ae (map rQ a0) (toNat a1))).2)).length:Int))&&fits Yi (ae (za (d74 (ae (map rQ a0) (toNat a1))).2) (toNat v11))) then (T55 N ((d71 (ae (za (d74 (ae (map rQ a0) (toNat a1))).2) (toNat v11))).1,1,10000)).bind fun JE=>bif (((d71 (ae (za (d74 (ae (map rQ a0) (toNat a1))).2) (toNat v11))).2 == (d71 (ae (za (d74 (ae (map rQ a0) (toNat a1))).2) (toNat v11))).2)&&true) then (T55 N ((d71 (ae (za (d74 (ae (map rQ a0) (toNat a1))).2) (toNat v11))).2,(-100000),100000)).bind fun Jt=>((bif (allFit (fits p3) [(AV.int .i64 JE),(AV.int .i64 Jt)]&&true) then some (map d3 [(AV.int .i64 JE),(AV.int .i64 Jt)]) else none).bind fun x15=>(T54 N x15).bind fun Gc=>(bif (Gc != 0) then (some (aae (aal Gc))) else (some (aal (wrap .i64 (v11+1)))))) else none else none else none else (some (aae (aae ())))) else none
theorem abU (N:Nat) (a0:List lf) (a1:Int):T68 N (a0,a1) =
 bif (decide ((0:Int)≤a1∧a1 < ((pw a0).length:Int))&&fits BT (ae (pw a0) (toNat a1))) then (T53 N (d74 (ae (pw a0) (toNat a1))).1).bind fun y1=>(bif (!y1) then some 8 else ((aw (D7 N a0 a1) N 0).bind fun o7=>(aas (fun o8=>some o8) (fun o9=>((bif (decide ((0:Int)≤a1∧a1 < ((pw a0).length:Int))&&fits BT (ae (pw a0) (toNat a1))) then (bif (decide (((((za (d74 (ae (map rQ a0) (toNat a1))).2)).length:Nat):Int) < 3)) then (some true) else bif (decide ((0:Int)≤a1∧a1 < ((pw a0).length:Int))&&fits BT (ae (pw a0) (toNat a1))) then (some (decide (((((za (d74 (ae (map rQ a0) (toNat a1))).2)).length:Nat):Int) > 8))) else none) else none).bind fun eL=>(bif eL then some 2 else ((aw (yD N a0 a1) N 0).bind fun pL=>(aas (fun E1=>some E1) (fun PL=>some 0) pL))))) o7))) else none:=by kernel_rfl
def c28:List (Nat × de):=[(122,.loop [] ⟨(.ci .nil),[3],[],[],[],[]⟩ [(.ret,⟨(.ci .nil),[2],[],[],[],[]⟩),(.ex 0,⟨.nil,[],[],[],[],[]⟩)]),
 (506,.loop [] ⟨(.ci .nil),[5],[],[],[],[]⟩ [(.ret,⟨(.ci .nil),[2],[],[],[],[]⟩),(.ex 2,⟨.nil,[],[],[],[],[]⟩)])]
def T28 (N:Nat):dR→Option Int:=(cx N [(42,e42 N),(68,e68 N)] [(28,c28)]).fn 1000 28 (.cons cD .nil) (.int .i64)
def e28 (N:Nat):bi:=⟨(.cons cD .nil),(.int .i64),T28 N⟩
theorem abV (N:Nat):aK ck 28 (e28 N):=ke.eE (kK (abR N) (kK (abT N) Ez)) (by kernel_rfl) (by kernel_rfl)
def yG (N:Nat) (a0:a6 × a8) (v1:Int):Option vY:=
 (bif (decide (v1 < (((pw a0.1).length:Nat):Int))) then ((bif (Qw a0.1&&true) then some ((Qx a0.1),v1) else none).bind fun x3=>(T68 N x3).bind fun y2=>(bif (y2 != 0) then (some (aae (aal y2))) else (some (aal (wrap .i64 (v1+1)))))) else (some (aae (aae ()))))
def yH (N:Nat) (a0:a6 × a8) (v11:Int):Option vY:=
 (bif (decide (v11 < (((gq a0.2).length:Nat):Int))) then bif (decide ((0:Int)≤v11∧v11≤((gq a0.2).length:Int))&&true) then bif (decide ((0:Int)≤v11∧v11 < ((gq a0.2).length:Int))&&fits D0 (ae (gq a0.2) (toNat v11))) then ((bif ((Qw a0.1&&(D1 a0.2&&true))&&(allFit (fits D0) (qn 0 (toNat v11) (gq a0.2))&&true)) then some (((Qx a0.1),(D2 a0.2)),(map d113 (qn 0 (toNat v11) (gq a0.2))),((d113 (ae (gq a0.2) (toNat v11))).1,(d113 (ae (gq a0.2) (toNat v11))).2.1,(d113 (ae (gq a0.2) (toNat v11))).2.2.1,(d113 (ae (gq a0.2) (toNat v11))).2.2.2.1,(d113 (ae (gq a0.2) (toNat v11))).2.2.2.2)) else none).bind fun x13=>(T42 N x13).bind fun JE=>(bif (JE != 0) then (some (aae (aal JE))) else (some (aal (wrap .i64 (v11+1)))))) else none else none else (some (aae (aae ()))))
theorem abW (N:Nat) (a0:a6 × a8):T28 N a0 =
 (bif ((((pw a0.1).length:Nat):Int) == 0) then some 12 else (bif (decide ((((pw a0.1).length:Nat):Int) > 16)) then some 5 else ((aw (yG N a0) N 0).bind fun o8=>(aas (fun o9=>some o9) (fun eL=>(bif (decide ((((gq a0.2).length:Nat):Int) > 64)) then some 5 else ((aw (yH N a0) N 0).bind fun lj=>(aas (fun o19=>some o19) (fun pL=>some 0) lj)))) o8)))):=by kernel_rfl
end
end Go.Proofs.Ytegoimldbgdeiaa
