/- What functions compute. -/
import Derived.Test.YtegoimldbgdeiaaTrwC
set_option linter.all false
namespace Go.Proofs.Ytegoimldbgdeiaa
open Go Go.Am
open List (map)
open Int (toNat)
open Go.IntKind (wrap)
open Go.Am.aM (fits)
set_option maxRecDepth 100000
noncomputable section
abbrev Wy:aM:=(.agg (.cons (.int .i64) (.cons (.int .i64) .nil)))
abbrev d71 (v:AV):Int × Int:=aM.bp Wy v
abbrev NS (x:Int × Int):AV:=aM.enc Wy x
abbrev As (l:List (Int × Int)):=map NS l
abbrev Au:aM:=(.agg (.cons .str (.cons (.list 2 (.agg (.cons (.int .i64) (.cons (.int .i64) .nil)))) .nil)))
abbrev d74 (v:AV):(List UInt8) × (List (Int × Int)):=aM.bp Au v
abbrev rm (x:(List UInt8) × (List (Int × Int))):AV:=aM.enc Au x
abbrev gE (l:List ((List UInt8) × (List (Int × Int)))):=map rm l
abbrev Fe (l:List ((List UInt8) × (List (Int × Int)))):=allFit (fits Au) (map rm l)
abbrev Ff (l:List ((List UInt8) × (List (Int × Int)))):=map d74 (map rm l)
theorem J2 (l:List ((List UInt8) × (List (Int × Int)))):allFit (fits Au) (map rm l)=true:=cF (p:=Au) rfl l
theorem J3 (l:List ((List UInt8) × (List (Int × Int)))):map d74 (map rm l)=l:=eT (p:=Au) rfl l
theorem acB (x:(List UInt8) × (List (Int × Int))):fits Au (rm x)=true:=(aM.bg Au x rfl).1
theorem acC (x:(List UInt8) × (List (Int × Int))):d74 (rm x)=x:=(aM.bg Au x rfl).2
abbrev pq:aM:=(.agg (.cons (.int .i64) (.cons (.int .i64) (.cons (.int .i64) (.cons (.int .i64) (.cons .bool .nil))))))
abbrev d113 (v:AV):Int × Int × Int × Int × Bool:=aM.bp pq v
abbrev n113 (x:Int × Int × Int × Int × Bool):AV:=aM.enc pq x
abbrev aW (l:List (Int × Int × Int × Int × Bool)):=map n113 l
abbrev sF (l:List (Int × Int × Int × Int × Bool)):=allFit (fits pq) (map n113 l)
abbrev sG (l:List (Int × Int × Int × Int × Bool)):=map d113 (map n113 l)
theorem EP (l:List (Int × Int × Int × Int × Bool)):allFit (fits pq) (map n113 l)=true:=cF (p:=pq) rfl l
theorem EQ (l:List (Int × Int × Int × Int × Bool)):map d113 (map n113 l)=l:=eT (p:=pq) rfl l
def c53:List (Nat × cC):=[(12,.join [(.norm,⟨(.cons .bool .nil),[13],[],[],[],[]⟩)]),
 (58,.loop [] ⟨(.ci .nil),[3],[],[],[],[]⟩ [(.ret,⟨(.cons .bool .nil),[2],[],[],[],[]⟩),(.ex 0,⟨.nil,[],[],[],[],[]⟩)]),
 (3730,.join [(.norm,⟨(.cons .bool .nil),[5],[],[],[],[]⟩)]),
 (7462,.join [(.norm,⟨(.cons .bool .nil),[54],[],[],[],[]⟩)])]
def Z2 (N:Nat):(List UInt8)→Option Bool:=(cx N [] [(53,c53)]).fn 1000 53 (.cons .str .nil) .bool
def e53 (N:Nat):bf:=⟨(.cons .str .nil),.bool,Z2 N⟩
theorem U1 (N:Nat):aE bJ 53 (e53 N):=iN.df (fun _ _ h=>by cases h) (by kernel_rfl) (by kernel_rfl)
def zW (N:Nat) (a0:List UInt8) (v2:Int):Option (Int ⊕ (Bool ⊕ Unit)):=
 (bif (decide (v2 < (((a0).length:Nat):Int))) then bif decide ((0:Int)≤v2∧v2 < ((a0).length:Int)) then (((bif (decide (((((a0).getD (toNat v2) 0).toNat:Nat):Int)≥97)) then (bif (decide (((((a0).getD (toNat v2) 0).toNat:Nat):Int)≤122)) then (some true) else (bif (decide (((((a0).getD (toNat v2) 0).toNat:Nat):Int)≥65)) then (some (decide (((((a0).getD (toNat v2) 0).toNat:Nat):Int)≤90))) else (some false))) else (bif (decide (((((a0).getD (toNat v2) 0).toNat:Nat):Int)≥65)) then (some (decide (((((a0).getD (toNat v2) 0).toNat:Nat):Int)≤90))) else (some false))):Option Bool).bind fun o3=>(((bif (!o3) then (bif (v2 == 0) then (some true) else (bif (((((a0).getD (toNat v2) 0).toNat:Nat):Int) != 95) then (bif (decide (((((a0).getD (toNat v2) 0).toNat:Nat):Int) < 48)) then (some true) else (some (decide (((((a0).getD (toNat v2) 0).toNat:Nat):Int) > 57)))) else (some false))) else (some false)):Option Bool).bind fun o4=>(bif o4 then (some (Sum.inr (Sum.inl false))) else (some (Sum.inl (wrap .i64 (v2+1))))))) else none else (some (Sum.inr (Sum.inr ()))))
theorem U2 (N:Nat) (a0:List UInt8):Z2 N a0 =
 (((bif ((((a0).length:Nat):Int) == 0) then (some true) else (some (decide ((((a0).length:Nat):Int) > 24)))):Option Bool).bind fun o1=>(bif o1 then some false else ((ar (zW N a0) N 0).bind fun o9=>(Sum.elim (fun eY=>some eY) (fun sL=>some true) o9)))):=by kernel_rfl
def c54:List (Nat × cC):=[(26,.loop [] ⟨(.ci .nil),[3],[],[],[],[]⟩ [(.ret,⟨(.ci .nil),[2],[],[],[],[]⟩),(.ex 0,⟨.nil,[],[],[],[],[]⟩)])]
def Z3 (N:Nat):(List Int)→Option Int:=(cx N [] [(54,c54)]).fn 1000 54 (.cons (.list 1 (.int .i64)) .nil) (.int .i64)
def e54 (N:Nat):bf:=⟨(.cons (.list 1 (.int .i64)) .nil),(.int .i64),Z3 N⟩
theorem U3 (N:Nat):aE bJ 54 (e54 N):=iN.df (fun _ _ h=>by cases h) (by kernel_rfl) (by kernel_rfl)
def Dc (N:Nat) (a0:List Int) (v1:Int):Option (Int ⊕ (Int ⊕ Unit)):=
 (bif (decide (v1 < (((L3 a0).length:Nat):Int))) then bif (decide ((0:Int)≤v1∧v1 < ((L3 a0).length:Int))&&fits p3 (ab (L3 a0) (toNat v1))) then (bif ((d3 (ab (L3 a0) (toNat v1))) != 0) then bif (decide ((0:Int)≤v1∧v1 < ((L3 a0).length:Int))&&fits p3 (ab (L3 a0) (toNat v1))) then (some (Sum.inr (Sum.inl (d3 (ab (L3 a0) (toNat v1)))))) else none else (some (Sum.inl (wrap .i64 (v1+1))))) else none else (some (Sum.inr (Sum.inr ()))))
theorem U4 (N:Nat) (a0:List Int):Z3 N a0 =
 ((ar (Dc N a0) N 0).bind fun o6=>(Sum.elim (fun o7=>some o7) (fun o8=>some 0) o6)):=by kernel_rfl
def c55:List (Nat × cC):=[(12,.join [(.norm,⟨(.cons .bool .nil),[14],[],[],[],[]⟩)])]
def Y8 (N:Nat):Int × Int × Int→Option Int:=(cx N [] [(55,c55)]).fn 1000 55 (.ci (.ci (.ci .nil))) (.int .i64)
def e55 (N:Nat):bf:=⟨(.ci (.ci (.ci .nil))),(.int .i64),Y8 N⟩
theorem U5 (N:Nat):aE bJ 55 (e55 N):=iN.df (fun _ _ h=>by cases h) (by kernel_rfl) (by kernel_rfl)
theorem U6 (N:Nat) (a0:Int) (a1:Int) (a2:Int):Y8 N (a0,a1,a2) =
 (((bif (decide (a0 < a1)) then (some true) else (some (decide (a0 > a2)))):Option Bool).bind fun o1=>(bif o1 then some 3 else some 0)):=by kernel_rfl
def c13:List (Nat × cC):=[(58,.loop [] ⟨(.ci .nil),[3],[],[],[],[]⟩ [(.ret,⟨(.ci .nil),[2],[],[],[],[]⟩),(.ex 0,⟨.nil,[],[],[],[],[]⟩)])]
def T13 (N:Nat):(List ((List UInt8) × Int × Int))→Option Int:=(cx N [(53,e53 N),(54,e54 N),(55,e55 N)] [(13,c13)]).fn 1000 13 (.cons (.list 3 (.agg (.cons .str (.ci (.ci .nil))))) .nil) (.int .i64)
def e13 (N:Nat):bf:=⟨(.cons (.list 3 (.agg (.cons .str (.ci (.ci .nil))))) .nil),(.int .i64),T13 N⟩
def c14:List (Nat × cC):=[(58,.loop [] ⟨(.ci (.ci (.ci .nil))),[4,5,6],[],[],[],[]⟩ [(.ex 0,⟨(.ci (.ci .nil)),[4,5],[],[],[],[]⟩)])]
def T14 (N:Nat):(List ((List UInt8) × Int × Int))→Option (Int × Int):=(cx N [] [(14,c14)]).fn 1000 14 (.cons (.list 3 (.agg (.cons .str (.ci (.ci .nil))))) .nil) (.bD (.ci (.ci .nil)))
def e14 (N:Nat):bf:=⟨(.cons (.list 3 (.agg (.cons .str (.ci (.ci .nil))))) .nil),(.bD (.ci (.ci .nil))),T14 N⟩
def c15:List (Nat × cC):=[(250,.loop [] ⟨(.ci (.ci (.ci .nil))),[11],[],[(6,2)],[],[]⟩ [(.ret,⟨(.ci (.ci (.ci .nil))),[7],[],[(6,2)],[],[]⟩),(.ex 0,⟨(.ci (.ci .nil)),[],[],[(6,2)],[],[]⟩)]),
 (8008,.join [(.norm,⟨(.cons .bool .nil),[56],[],[],[],[]⟩)])]
def T15 (N:Nat):(List ((List UInt8) × Int × Int)) × Int × Int→Option ((Int × Int) × Int):=(cx N [(14,e14 N)] [(15,c15)]).fn 1000 15 (.cons (.list 3 (.agg (.cons .str (.ci (.ci .nil))))) (.ci (.ci .nil))) (.bD (.cons (.agg (.ci (.ci .nil))) (.ci .nil)))
def e15 (N:Nat):bf:=⟨(.cons (.list 3 (.agg (.cons .str (.ci (.ci .nil))))) (.ci (.ci .nil))),(.bD (.cons (.agg (.ci (.ci .nil))) (.ci .nil))),T15 N⟩
def c23:List (Nat × cC):=[(6,.join [(.norm,⟨(.cons .bool .nil),[4],[],[],[],[]⟩)])]
def Y9 (N:Nat):((List ((List UInt8) × (List (Int × Int)))) × (List (Int × Int × Int × Int × Bool))) × (Int × Int)→Option Bool:=(cx N [] [(23,c23)]).fn 1000 23 (.cons (.agg (.cons (.list 2 (.agg (.cons .str (.cons (.list 2 (.agg (.ci (.ci .nil)))) .nil)))) (.cons (.list 5 (.agg (.ci (.ci (.ci (.ci (.cons .bool .nil))))))) .nil))) (.cons (.agg (.ci (.ci .nil))) .nil)) .bool
def e23 (N:Nat):bf:=⟨(.cons (.agg (.cons (.list 2 (.agg (.cons .str (.cons (.list 2 (.agg (.ci (.ci .nil)))) .nil)))) (.cons (.list 5 (.agg (.ci (.ci (.ci (.ci (.cons .bool .nil))))))) .nil))) (.cons (.agg (.ci (.ci .nil))) .nil)),.bool,Y9 N⟩
theorem U7 (N:Nat):aE bJ 23 (e23 N):=iN.df (fun _ _ h=>by cases h) (by kernel_rfl) (by kernel_rfl)
theorem U8 (N:Nat) (a0:(List ((List UInt8) × (List (Int × Int)))) × (List (Int × Int × Int × Int × Bool))) (a1:Int × Int):Y9 N (a0,a1) =
 (((bif (decide (a1.1≥0)) then (bif (decide (a1.1 < (((gE a0.1).length:Nat):Int))) then (bif (decide (a1.2≥0)) then bif (decide ((0:Int)≤a1.1∧a1.1 < ((gE a0.1).length:Int))&&fits Au (ab (gE a0.1) (toNat a1.1))) then (some (decide (a1.2 < ((((As (d74 (ab (map rm a0.1) (toNat a1.1))).2)).length:Nat):Int)))) else none else (some false)) else (some false)) else (some false)):Option Bool).bind fun o1=>some o1):=by kernel_rfl
def c24:List (Nat × cC):=[(12,.join [(.norm,⟨(.cons .bool .nil),[40],[],[],[],[]⟩)]),
 (58,.loop [] ⟨(.ci .nil),[5],[],[],[],[]⟩ [(.ret,⟨(.cons .bool .nil),[4],[],[],[],[]⟩),(.ex 0,⟨.nil,[],[],[],[],[]⟩)]),
 (1864,.join [(.norm,⟨(.cons .bool .nil),[65],[],[],[],[]⟩)])]
def Z4 (N:Nat):((List ((List UInt8) × (List (Int × Int)))) × (List (Int × Int × Int × Int × Bool))) × Int→Option Bool:=(cx N [] [(24,c24)]).fn 1000 24 (.cons (.agg (.cons (.list 2 (.agg (.cons .str (.cons (.list 2 (.agg (.ci (.ci .nil)))) .nil)))) (.cons (.list 5 (.agg (.ci (.ci (.ci (.ci (.cons .bool .nil))))))) .nil))) (.ci .nil)) .bool
def e24 (N:Nat):bf:=⟨(.cons (.agg (.cons (.list 2 (.agg (.cons .str (.cons (.list 2 (.agg (.ci (.ci .nil)))) .nil)))) (.cons (.list 5 (.agg (.ci (.ci (.ci (.ci (.cons .bool .nil))))))) .nil))) (.ci .nil)),.bool,Z4 N⟩
theorem U9 (N:Nat):aE bJ 24 (e24 N):=iN.df (fun _ _ h=>by cases h) (by kernel_rfl) (by kernel_rfl)
def zX (N:Nat) (a0:(List ((List UInt8) × (List (Int × Int)))) × (List (Int × Int × Int × Int × Bool))) (v2:Int):Option (Int ⊕ (Bool ⊕ Unit)):=
 (bif (decide (v2 < (((gE a0.1).length:Nat):Int))) then ((bif (decide ((0:Int)≤v2∧v2 < ((gE a0.1).length:Int))&&fits Au (ab (gE a0.1) (toNat v2))) then (bif (decide (((((d74 (ab (gE a0.1) (toNat v2))).1).length:Nat):Int) > 60)) then (some true) else bif (decide ((0:Int)≤v2∧v2 < ((gE a0.1).length:Int))&&fits Au (ab (gE a0.1) (toNat v2))) then (some (decide (((((As (d74 (ab (map rm a0.1) (toNat v2))).2)).length:Nat):Int) > 10))) else none) else none).bind fun o3=>(bif o3 then (some (Sum.inr (Sum.inl false))) else (some (Sum.inl (wrap .i64 (v2+1)))))) else (some (Sum.inr (Sum.inr ()))))
theorem Va (N:Nat) (a0:(List ((List UInt8) × (List (Int × Int)))) × (List (Int × Int × Int × Int × Bool))) (a1:Int):Z4 N (a0,a1) =
 (((bif (decide ((((gE a0.1).length:Nat):Int) > a1)) then (bif (decide ((((gE a0.1).length:Nat):Int)≤16)) then (some true) else (bif (decide ((((gE a0.1).length:Nat):Int) > 18)) then (some true) else (bif (decide ((((aW a0.2).length:Nat):Int) > 12)) then (bif (decide ((((aW a0.2).length:Nat):Int)≤64)) then (some true) else (some (decide ((((aW a0.2).length:Nat):Int) > 66)))) else (some (decide ((((aW a0.2).length:Nat):Int) > 66)))))) else (bif (decide ((((gE a0.1).length:Nat):Int) > 18)) then (some true) else (bif (decide ((((aW a0.2).length:Nat):Int) > 12)) then (bif (decide ((((aW a0.2).length:Nat):Int)≤64)) then (some true) else (some (decide ((((aW a0.2).length:Nat):Int) > 66)))) else (some (decide ((((aW a0.2).length:Nat):Int) > 66)))))):Option Bool).bind fun o1=>(bif o1 then some false else ((ar (zX N a0) N 0).bind fun o8=>(Sum.elim (fun o9=>some o9) (fun eY=>some true) o8)))):=by kernel_rfl
def Za (N:Nat):((List ((List UInt8) × (List (Int × Int)))) × (List (Int × Int × Int × Int × Bool))) × (Int × Int)→Option ((Int × Int)):=(cx N [] []).fn 1000 81 (.cons (.agg (.cons (.list 2 (.agg (.cons .str (.cons (.list 2 (.agg (.ci (.ci .nil)))) .nil)))) (.cons (.list 5 (.agg (.ci (.ci (.ci (.ci (.cons .bool .nil))))))) .nil))) (.cons (.agg (.ci (.ci .nil))) .nil)) (.agg (.ci (.ci .nil)))
def e81 (N:Nat):bf:=⟨(.cons (.agg (.cons (.list 2 (.agg (.cons .str (.cons (.list 2 (.agg (.ci (.ci .nil)))) .nil)))) (.cons (.list 5 (.agg (.ci (.ci (.ci (.ci (.cons .bool .nil))))))) .nil))) (.cons (.agg (.ci (.ci .nil))) .nil)),(.agg (.ci (.ci .nil))),Za N⟩
theorem Vb (N:Nat):aE bJ 81 (e81 N):=iN.df (fun _ _ h=>by cases h) (by kernel_rfl) (by kernel_rfl)
theorem Vc (N:Nat) (a0:(List ((List UInt8) × (List (Int × Int)))) × (List (Int × Int × Int × Int × Bool))) (a1:Int × Int):Za N (a0,a1) =
 bif (decide ((0:Int)≤a1.1∧a1.1 < ((gE a0.1).length:Int))&&fits Au (ab (gE a0.1) (toNat a1.1))) then bif (decide ((0:Int)≤a1.2∧a1.2 < (((As (d74 (ab (map rm a0.1) (toNat a1.1))).2)).length:Int))&&fits Wy (ab (As (d74 (ab (map rm a0.1) (toNat a1.1))).2) (toNat a1.2))) then some ((d71 (ab (As (d74 (ab (map rm a0.1) (toNat a1.1))).2) (toNat a1.2))).1,(d71 (ab (As (d74 (ab (map rm a0.1) (toNat a1.1))).2) (toNat a1.2))).2) else none else none:=by kernel_rfl
def c42:List (Nat × cC):=[(12,.join [(.norm,⟨(.cons .bool .nil),[22],[],[],[],[]⟩)]),
 (122,.loop [] ⟨(.ci .nil),[7],[],[],[],[]⟩ [(.ret,⟨(.ci .nil),[6],[],[],[],[]⟩),(.ex 0,⟨.nil,[],[],[],[],[]⟩)]),
 (252,.join [(.norm,⟨(.cons .bool .nil),[83],[],[],[],[]⟩)]),
 (7826,.join [(.norm,⟨(.cons .bool .nil),[63],[],[],[],[]⟩)])]
def Vd (N:Nat):((List ((List UInt8) × (List (Int × Int)))) × (List (Int × Int × Int × Int × Bool))) × (List (Int × Int × Int × Int × Bool)) × (Int × Int × Int × Int × Bool)→Option Int:=(cx N [(23,e23 N),(81,e81 N)] [(42,c42)]).fn 1000 42 (.cons (.agg (.cons (.list 2 (.agg (.cons .str (.cons (.list 2 (.agg (.ci (.ci .nil)))) .nil)))) (.cons (.list 5 (.agg (.ci (.ci (.ci (.ci (.cons .bool .nil))))))) .nil))) (.cons (.list 5 (.agg (.ci (.ci (.ci (.ci (.cons .bool .nil))))))) (.cons (.agg (.ci (.ci (.ci (.ci (.cons .bool .nil)))))) .nil))) (.int .i64)
def e42 (N:Nat):bf:=⟨(.cons (.agg (.cons (.list 2 (.agg (.cons .str (.cons (.list 2 (.agg (.ci (.ci .nil)))) .nil)))) (.cons (.list 5 (.agg (.ci (.ci (.ci (.ci (.cons .bool .nil))))))) .nil))) (.cons (.list 5 (.agg (.ci (.ci (.ci (.ci (.cons .bool .nil))))))) (.cons (.agg (.ci (.ci (.ci (.ci (.cons .bool .nil)))))) .nil))),(.int .i64),Vd N⟩
theorem Ve (N:Nat):aE bJ 42 (e42 N):=iN.df (kE (U7 N) (kE (Vb N) C1)) (by kernel_rfl) (by kernel_rfl)
def uk (N:Nat) (a1:List (Int × Int × Int × Int × Bool)) (a2:Int × Int × Int × Int × Bool) (v6:Int):Option (Int ⊕ (Int ⊕ Unit)):=
 (bif (decide (v6 < (((aW a1).length:Nat):Int))) then bif (decide ((0:Int)≤v6∧v6 < ((aW a1).length:Int))&&fits pq (ab (aW a1) (toNat v6))) then (((bif (((d113 (ab (aW a1) (toNat v6))).1 == a2.1)&&(((d113 (ab (aW a1) (toNat v6))).2.1 == a2.2.1)&&true)) then (some true) else (bif (((d113 (ab (aW a1) (toNat v6))).1 == a2.2.2.1)&&(((d113 (ab (aW a1) (toNat v6))).2.1 == a2.2.2.2.1)&&true)) then (some true) else (bif (((d113 (ab (aW a1) (toNat v6))).2.2.1 == a2.1)&&(((d113 (ab (aW a1) (toNat v6))).2.2.2.1 == a2.2.1)&&true)) then (some true) else (some (((d113 (ab (aW a1) (toNat v6))).2.2.1 == a2.2.2.1)&&(((d113 (ab (aW a1) (toNat v6))).2.2.2.1 == a2.2.2.2.1)&&true)))))):Option Bool).bind fun o7=>(bif o7 then (some (Sum.inr (Sum.inl 9))) else (some (Sum.inl (wrap .i64 (v6+1)))))) else none else (some (Sum.inr (Sum.inr ()))))
theorem Vf (N:Nat) (a0:(List ((List UInt8) × (List (Int × Int)))) × (List (Int × Int × Int × Int × Bool))) (a1:List (Int × Int × Int × Int × Bool)) (a2:Int × Int × Int × Int × Bool):Vd N (a0,a1,a2) =
 ((((bif ((Fe a0.1&&(sF a0.2&&true))&&true) then some (((Ff a0.1),(sG a0.2)),(a2.1,a2.2.1)) else none).bind fun x2=>(Y9 N x2).bind fun y1=>(bif (!y1) then (some true) else ((bif ((Fe a0.1&&(sF a0.2&&true))&&true) then some (((Ff a0.1),(sG a0.2)),(a2.2.2.1,a2.2.2.2.1)) else none).bind fun x4=>(Y9 N x4).bind fun y3=>(some (!y3))))):Option Bool).bind fun o5=>(bif o5 then some 10 else (bif ((a2.1 == a2.2.2.1)&&((a2.2.1 == a2.2.2.2.1)&&true)) then some 9 else ((ar (uk N a1 a2) N 0).bind fun AT=>(Sum.elim (fun Aq=>some Aq) (fun eM=>((bif ((Fe a0.1&&(sF a0.2&&true))&&true) then some (((Ff a0.1),(sG a0.2)),(a2.1,a2.2.1)) else none).bind fun YE=>(Za N YE).bind fun YF=>bif (((a2.2.2.1 == a2.2.2.1)&&((a2.2.2.2.1 == a2.2.2.2.1)&&true))&&((bk (gE a0.1) (gE a0.1)&&(bk (aW a0.2) (aW a0.2)&&true))&&true)) then ((bif ((Fe a0.1&&(sF a0.2&&true))&&true) then some (((Ff a0.1),(sG a0.2)),(a2.2.2.1,a2.2.2.2.1)) else none).bind fun x18=>(Za N x18).bind fun YG=>(((bif (decide (YF.1 > (wrap .i64 (2 * YG.1)))) then (some true) else (some (decide (YG.1 > (wrap .i64 (2 * YF.1)))))):Option Bool).bind fun o19=>(bif o19 then some 24 else some 0))) else none)) AT))))):=by kernel_rfl
def c68:List (Nat × cC):=[(58,.loop [] ⟨(.ci .nil),[5],[],[],[],[]⟩ [(.ret,⟨(.ci .nil),[4],[],[],[],[]⟩),(.ex 0,⟨.nil,[],[],[],[],[]⟩)]),
 (60,.join [(.norm,⟨(.cons .bool .nil),[47],[],[],[],[]⟩)]),
 (250,.loop [] ⟨(.ci .nil),[6],[],[],[],[]⟩ [(.ret,⟨(.ci .nil),[4],[],[],[],[]⟩),(.ex 2,⟨.nil,[],[],[],[],[]⟩)])]
def Z5 (N:Nat):(List ((List UInt8) × (List (Int × Int)))) × Int→Option Int:=(cx N [(53,e53 N),(54,e54 N),(55,e55 N)] [(68,c68)]).fn 1000 68 (.cons (.list 2 (.agg (.cons .str (.cons (.list 2 (.agg (.ci (.ci .nil)))) .nil)))) (.ci .nil)) (.int .i64)
def e68 (N:Nat):bf:=⟨(.cons (.list 2 (.agg (.cons .str (.cons (.list 2 (.agg (.ci (.ci .nil)))) .nil)))) (.ci .nil)),(.int .i64),Z5 N⟩
theorem Vg (N:Nat):aE bJ 68 (e68 N):=iN.df (kE (U1 N) (kE (U3 N) (kE (U5 N) C1))) (by kernel_rfl) (by kernel_rfl)
def zY (N:Nat) (a0:List ((List UInt8) × (List (Int × Int)))) (a1:Int) (v2:Int):Option (Int ⊕ (Int ⊕ Unit)):=
 (bif (decide (v2 < a1)) then bif (decide ((0:Int)≤v2∧v2 < ((gE a0).length:Int))&&fits Au (ab (gE a0) (toNat v2))) then bif (decide ((0:Int)≤a1∧a1 < ((gE a0).length:Int))&&fits Au (ab (gE a0) (toNat a1))) then (bif ((d74 (ab (gE a0) (toNat v2))).1 == (d74 (ab (gE a0) (toNat a1))).1) then (some (Sum.inr (Sum.inl 9))) else (some (Sum.inl (wrap .i64 (v2+1))))) else none else none else (some (Sum.inr (Sum.inr ()))))
def um (N:Nat) (a0:List ((List UInt8) × (List (Int × Int)))) (a1:Int) (v11:Int):Option (Int ⊕ (Int ⊕ Unit)):=
 bif (decide ((0:Int)≤a1∧a1 < ((gE a0).length:Int))&&fits Au (ab (gE a0) (toNat a1))) then (bif (decide (v11 < ((((As (d74 (ab (map rm a0) (toNat a1))).2)).length:Nat):Int))) then bif (decide ((0:Int)≤a1∧a1 < ((gE a0).length:Int))&&fits Au (ab (gE a0) (toNat a1))) then bif (decide ((0:Int)≤v11∧v11 < (((As (d74 (ab (map rm a0) (toNat a1))).2)).length:Int))&&fits Wy (ab (As (d74 (ab (map rm a0) (toNat a1))).2) (toNat v11))) then (Y8 N ((d71 (ab (As (d74 (ab (map rm a0) (toNat a1))).2) (toNat v11))).1,1,10000)).bind fun Fg=>bif (((d71 (ab (As (d74 (ab (map rm a0) (toNat a1))).2) (toNat v11))).2 == (d71 (ab (As (d74 (ab (map rm a0) (toNat a1))).2) (toNat v11))).2)&&true) then (Y8 N ((d71 (ab (As (d74 (ab (map rm a0) (toNat a1))).2) (toNat v11))).2,(-100000),100000)).bind fun y13=>((bif (allFit (fits p3) [(AV.int .i64 Fg),(AV.int .i64 y13)]&&true) then some (map d3 [(AV.int .i64 Fg),(AV.int .i64 y13)]) else none).bind fun x15=>(Z3 N x15).bind fun MZ=>(bif (MZ != 0) then (some (Sum.inr (Sum.inl MZ))) else (some (Sum.inl (wrap .i64 (v11+1)))))) else none else none else none else (some (Sum.inr (Sum.inr ())))) else none
theorem Vh (N:Nat) (a0:List ((List UInt8) × (List (Int × Int)))) (a1:Int):Z5 N (a0,a1) =
 bif (decide ((0:Int)≤a1∧a1 < ((gE a0).length:Int))&&fits Au (ab (gE a0) (toNat a1))) then (Z2 N (d74 (ab (gE a0) (toNat a1))).1).bind fun y1=>(bif (!y1) then some 8 else ((ar (zY N a0 a1) N 0).bind fun o7=>(Sum.elim (fun o8=>some o8) (fun o9=>((bif (decide ((0:Int)≤a1∧a1 < ((gE a0).length:Int))&&fits Au (ab (gE a0) (toNat a1))) then (bif (decide (((((As (d74 (ab (map rm a0) (toNat a1))).2)).length:Nat):Int) < 3)) then (some true) else bif (decide ((0:Int)≤a1∧a1 < ((gE a0).length:Int))&&fits Au (ab (gE a0) (toNat a1))) then (some (decide (((((As (d74 (ab (map rm a0) (toNat a1))).2)).length:Nat):Int) > 8))) else none) else none).bind fun eY=>(bif eY then some 2 else ((ar (um N a0 a1) N 0).bind fun rk=>(Sum.elim (fun KC=>some KC) (fun Zb=>some 0) rk))))) o7))) else none:=by kernel_rfl
def c28:List (Nat × cC):=[(122,.loop [] ⟨(.ci .nil),[3],[],[],[],[]⟩ [(.ret,⟨(.ci .nil),[2],[],[],[],[]⟩),(.ex 0,⟨.nil,[],[],[],[],[]⟩)]),
 (506,.loop [] ⟨(.ci .nil),[5],[],[],[],[]⟩ [(.ret,⟨(.ci .nil),[2],[],[],[],[]⟩),(.ex 2,⟨.nil,[],[],[],[],[]⟩)])]
def Z6 (N:Nat):((List ((List UInt8) × (List (Int × Int)))) × (List (Int × Int × Int × Int × Bool)))→Option Int:=(cx N [(42,e42 N),(68,e68 N)] [(28,c28)]).fn 1000 28 (.cons (.agg (.cons (.list 2 (.agg (.cons .str (.cons (.list 2 (.agg (.ci (.ci .nil)))) .nil)))) (.cons (.list 5 (.agg (.ci (.ci (.ci (.ci (.cons .bool .nil))))))) .nil))) .nil) (.int .i64)
def e28 (N:Nat):bf:=⟨(.cons (.agg (.cons (.list 2 (.agg (.cons .str (.cons (.list 2 (.agg (.ci (.ci .nil)))) .nil)))) (.cons (.list 5 (.agg (.ci (.ci (.ci (.ci (.cons .bool .nil))))))) .nil))) .nil),(.int .i64),Z6 N⟩
theorem Vi (N:Nat):aE bJ 28 (e28 N):=iN.df (kE (Ve N) (kE (Vg N) C1)) (by kernel_rfl) (by kernel_rfl)
def uo (N:Nat) (a0:(List ((List UInt8) × (List (Int × Int)))) × (List (Int × Int × Int × Int × Bool))) (v1:Int):Option (Int ⊕ (Int ⊕ Unit)):=
 (bif (decide (v1 < (((gE a0.1).length:Nat):Int))) then ((bif (Fe a0.1&&true) then some ((Ff a0.1),v1) else none).bind fun x3=>(Z5 N x3).bind fun y2=>(bif (y2 != 0) then (some (Sum.inr (Sum.inl y2))) else (some (Sum.inl (wrap .i64 (v1+1)))))) else (some (Sum.inr (Sum.inr ()))))
def uq (N:Nat) (a0:(List ((List UInt8) × (List (Int × Int)))) × (List (Int × Int × Int × Int × Bool))) (v11:Int):Option (Int ⊕ (Int ⊕ Unit)):=
 (bif (decide (v11 < (((aW a0.2).length:Nat):Int))) then bif (decide ((0:Int)≤v11∧v11≤((aW a0.2).length:Int))&&true) then bif (decide ((0:Int)≤v11∧v11 < ((aW a0.2).length:Int))&&fits pq (ab (aW a0.2) (toNat v11))) then ((bif ((Fe a0.1&&(sF a0.2&&true))&&(allFit (fits pq) (jC 0 (toNat v11) (aW a0.2))&&true)) then some (((Ff a0.1),(sG a0.2)),(map d113 (jC 0 (toNat v11) (aW a0.2))),((d113 (ab (aW a0.2) (toNat v11))).1,(d113 (ab (aW a0.2) (toNat v11))).2.1,(d113 (ab (aW a0.2) (toNat v11))).2.2.1,(d113 (ab (aW a0.2) (toNat v11))).2.2.2.1,(d113 (ab (aW a0.2) (toNat v11))).2.2.2.2)) else none).bind fun x13=>(Vd N x13).bind fun Fg=>(bif (Fg != 0) then (some (Sum.inr (Sum.inl Fg))) else (some (Sum.inl (wrap .i64 (v11+1)))))) else none else none else (some (Sum.inr (Sum.inr ()))))
theorem Vj (N:Nat) (a0:(List ((List UInt8) × (List (Int × Int)))) × (List (Int × Int × Int × Int × Bool))):Z6 N a0 =
 (bif ((((gE a0.1).length:Nat):Int) == 0) then some 12 else (bif (decide ((((gE a0.1).length:Nat):Int) > 16)) then some 5 else ((ar (uo N a0) N 0).bind fun o8=>(Sum.elim (fun o9=>some o9) (fun eY=>(bif (decide ((((aW a0.2).length:Nat):Int) > 64)) then some 5 else ((ar (uq N a0) N 0).bind fun iL=>(Sum.elim (fun o19=>some o19) (fun rk=>some 0) iL)))) o8)))):=by kernel_rfl
end
end Go.Proofs.Ytegoimldbgdeiaa
