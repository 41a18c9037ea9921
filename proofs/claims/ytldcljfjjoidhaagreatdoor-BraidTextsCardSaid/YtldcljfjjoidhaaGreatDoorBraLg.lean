/- What functions compute. -/
import Derived.Test.YtldcljfjjoidhaaGreatDoorBraL
import Derived.Test.YtldcljfjjoidhaaGreatDoorAmKK
set_option linter.all false
open List renaming erase→aab, length→aad
open Sum renaming inr→aac, inl→aae
namespace Go.Proofs.YtldcljfjjoidhaaGreatDoor
open Go Go.Am
open List (map)
open Int (toNat)
open Go.IntKind (wrap)
open Go.Am.aP (fits)
set_option maxRecDepth 100000
noncomputable section
abbrev Pq:EK:=.st (.cons 0 1 false .int (.cons 1 1 false .int .nil))
abbrev XA:=Int × Int
abbrev XB:=Int × Int × Int
abbrev XC:=Int × Int × Bool × Bool × Int
abbrev XT:=Int × Int × Bool × Bool × Int × Int × Int × Bool × Bool × Int
abbrev lZ:=List XA
abbrev j4:=List XB
abbrev dQ:=List XC
abbrev ma:=List Int
abbrev p2:aP:=(.int .i64)
abbrev lD (v:AV):Int:=aP.bJ p2 v
abbrev J6 (x:Int):AV:=aP.enc p2 x
abbrev L2 (l:List (Int)):=map J6 l
theorem fa2 (l:List Int):allFit (fits p2) (map J6 l)=true:=dP (p:=p2) rfl l
theorem md2 (l:List Int):map lD (map J6 l)=l:=gN (p:=p2) rfl l
theorem fn2 (x:Int):fits p2 (J6 x)=true:=(aP.bX p2 x rfl).1
theorem dn2 (x:Int):lD (J6 x)=x:=(aP.bX p2 x rfl).2
abbrev p3:aP:=(.int .i64)
abbrev gP (v:AV):Int:=aP.bJ p3 v
abbrev p0 (x:Int):AV:=aP.enc p3 x
abbrev L3 (l:List (Int)):=map p0 l
abbrev F3 (l:List (Int)):=allFit (fits p3) (map p0 l)
abbrev K3 (l:List (Int)):=map gP (map p0 l)
theorem KP (l:List Int):allFit (fits p3) (map p0 l)=true:=dP (p:=p3) rfl l
theorem KQ (l:List Int):map gP (map p0 l)=l:=gN (p:=p3) rfl l
theorem fn3 (x:Int):fits p3 (p0 x)=true:=(aP.bX p3 x rfl).1
theorem dn3 (x:Int):gP (p0 x)=x:=(aP.bX p3 x rfl).2
abbrev xh:aP:=(.int .i64)
abbrev kj (v:AV):Int:=aP.bJ xh v
abbrev G9 (x:Int):AV:=aP.enc xh x
abbrev Pr (l:List (Int)):=map G9 l
abbrev cZ:aP:=(.agg (.cons (.int .i64) (.cons (.int .i64) .nil)))
abbrev dX (v:AV):Int × Int:=aP.bJ cZ v
abbrev dx (x:Int × Int):AV:=aP.enc cZ x
abbrev bO (l:List XA):=map dx l
abbrev AE (l:List XA):=allFit (fits cZ) (map dx l)
abbrev Bx (l:List XA):=map dX (map dx l)
theorem kV (l:List XA):allFit (fits cZ) (map dx l)=true:=dP (p:=cZ) rfl l
theorem kW (l:List XA):map dX (map dx l)=l:=gN (p:=cZ) rfl l
theorem aaP (x:Int × Int):fits cZ (dx x)=true:=(aP.bX cZ x rfl).1
theorem aaQ (x:Int × Int):dX (dx x)=x:=(aP.bX cZ x rfl).2
abbrev aV:aP:=(.agg (.cons (.int .i64) (.cons (.int .i64) (.cons (.int .i64) .nil))))
abbrev bD (v:AV):Int × Int × Int:=aP.bJ aV v
abbrev de (x:Int × Int × Int):AV:=aP.enc aV x
abbrev az (l:List XB):=map de l
abbrev lE (l:List XB):=allFit (fits aV) (map de l)
abbrev mD (l:List XB):=map bD (map de l)
theorem gA (l:List XB):allFit (fits aV) (map de l)=true:=dP (p:=aV) rfl l
theorem fX (l:List XB):map bD (map de l)=l:=gN (p:=aV) rfl l
theorem aaR (x:Int × Int × Int):fits aV (de x)=true:=(aP.bX aV x rfl).1
theorem aaS (x:Int × Int × Int):bD (de x)=x:=(aP.bX aV x rfl).2
abbrev cC:aP:=(.agg (.cons (.agg (.cons (.int .i64) (.cons (.int .i64) .nil))) (.cons (.int .i64) .nil)))
abbrev di (v:AV):XA × Int:=aP.bJ cC v
abbrev iP (x:XA × Int):AV:=aP.enc cC x
abbrev aC (l:List (XA × Int)):=aK (map iP l)
abbrev dL (l:List ((Int × Int) × Int)):=bg (aK (map iP l))
theorem qa (l:List (XA × Int)):allFit (fits cC) (map iP l)=true:=dP (p:=cC) rfl l
theorem qb (l:List (XA × Int)):map di (map iP l)=l:=gN (p:=cC) rfl l
def ae3:List (Nat × aP):=[(22,(.agg (.ci (.ci (.ci .nil))))),(25,(.agg (.ci (.ci (.ci .nil))))),(30,(.agg (.ci (.ci .nil)))),(36,(.agg (.ci (.ci (.ci .nil))))),(43,(.agg (.ci (.ci (.cons .bool (.cons .bool (.ci .nil))))))),(50,(.agg (.ci (.ci (.cons .bool (.cons .bool (.ci .nil))))))),(59,(.int .i64)),(72,(.agg (.ci (.ci .nil)))),(130,(.list 3 (.agg (.ci (.ci (.ci .nil)))))),(144,(.int .u8)),(163,.str),(177,(.agg (.ci (.ci (.cons .bool (.cons .bool (.ci (.ci (.ci (.cons .bool (.cons .bool (.ci .nil)))))))))))),(187,(.int .i64)),(218,(.list 5 (.agg (.ci (.ci (.cons .bool (.cons .bool (.ci .nil)))))))),(154,.bool),(169,.bool),(193,(.int .i64)),(86,(.agg (.ci (.ci .nil)))),(106,(.agg (.ci (.ci (.ci .nil)))))]
def WN:List (Nat × aP)→Nat→Option aP
 |[],_=>none
 |(a,p) :: l,t=>bif Nat.beq a t then some p else WN l t
def ae4:List (Nat × aP):=[]
def bG:Env:={ env with Pv:=WN ae3,elg:=WN ae4 }
def Nl:JL:={ aaK with toEnv:=bG }
def cx (N:Nat) (xe:List (Nat × aD)) (oo:List (Nat × List (Nat × cA))):eB:={ D:=Nl,xe:=wI xe,oo:=Is oo,fz:=false,N:=N }
def ae5:List (Nat × cA):=[(26,.loop [] ⟨(.ci .nil),[7],[],[],[],[]⟩ [(.ret,⟨(.ci .nil),[2],[],[],[],[]⟩),(.ex 0,⟨.nil,[],[],[],[],[]⟩)])]
def wJ (N:Nat):ma→Option Int:=(cx N [] [(124,ae5)]).fn 1000 124 (.cons (.list 1 (.int .i64)) .nil) (.int .i64)
def Nn (N:Nat):aD:=⟨(.cons (.list 1 (.int .i64)) .nil),(.int .i64),wJ N⟩
theorem xi (N:Nat):ai bG 124 (Nn N):=eB.bk (fun _ _ h=>by cases h) (by kernel_rfl) (by kernel_rfl)
def xj (N:Nat) (a0:List Int) (v1:Int):Option (Int ⊕ (Int ⊕ Unit)):=
 (bif (decide (v1 < (((Pr a0).length:Nat):Int))) then bif (decide ((0:Int)≤v1∧v1 < ((Pr a0).length:Int))&&fits xh (ah (Pr a0) (toNat v1))) then (bif ((kj (ah (Pr a0) (toNat v1))) != 0) then (some (aac (aae (kj (ah (Pr a0) (toNat v1)))))) else (some (aae (wrap .i64 (v1+1))))) else none else (some (aac (aac ()))))
theorem RL (N:Nat) (a0:List Int):wJ N a0 =
 ((ay (xj N a0) N 0).bind fun o6=>(Sum.elim (fun o7=>some o7) (fun o8=>some 0) o6)):=by kernel_rfl
def AF (N:Nat):Bool × Int→Option Int:=(cx N [] []).fn 1000 126 (.cons .bool (.ci .nil)) (.int .i64)
def No (N:Nat):aD:=⟨(.cons .bool (.ci .nil)),(.int .i64),AF N⟩
theorem xl (N:Nat):ai bG 126 (No N):=eB.bk (fun _ _ h=>by cases h) (by kernel_rfl) (by kernel_rfl)
theorem RM (N:Nat) (a0:Bool) (a1:Int):AF N (a0,a1) =
 (bif a0 then some a1 else some 0):=by kernel_rfl
def ae6:List (Nat × cA):=[(6,.join [(.norm,⟨(.ci .nil),[6],[],[],[],[]⟩)])]
def Np (N:Nat):Int × Int × Int→Option Int:=(cx N [(126,No N)] [(194,ae6)]).fn 1000 194 (.ci (.ci (.ci .nil))) (.int .i64)
def aaT (N:Nat):aD:=⟨(.ci (.ci (.ci .nil))),(.int .i64),Np N⟩
theorem RN (N:Nat):ai bG 194 (aaT N):=eB.bk (dI (xl N) ng) (by kernel_rfl) (by kernel_rfl)
theorem RQ (N:Nat) (a0:Int) (a1:Int) (a2:Int):Np N (a0,a1,a2) =
 (((bif (decide (a0 < a1)) then (AF N (true,3)).bind fun y1=>(some y1) else (AF N ((decide (a0 > a2)),3)).bind fun y2=>(some y2)):Option Int).bind fun o3=>some o3):=by kernel_rfl
def J7 (N:Nat):XA→Option Int:=(cx N [(124,Nn N),(194,aaT N)] []).fn 1000 157 (.cons cZ .nil) (.int .i64)
def WO (N:Nat):aD:=⟨(.cons cZ .nil),(.int .i64),J7 N⟩
theorem IA (N:Nat):ai bG 157 (WO N):=eB.bk (dI (xi N) (dI (RN N) ng)) (by kernel_rfl) (by kernel_rfl)
theorem IB (N:Nat) (a0:Int × Int):J7 N a0 =
 (Np N (a0.1,(-100000),100000)).bind fun y1=>bif ((a0.2 == a0.2)&&true) then (Np N (a0.2,(-100000),100000)).bind fun y2=>((bif (allFit (fits xh) [(AV.int .i64 y1),(AV.int .i64 y2)]&&true) then some (map kj [(AV.int .i64 y1),(AV.int .i64 y2)]) else none).bind fun x4=>(wJ N x4).bind fun y3=>some y3) else none:=by kernel_rfl
def EJ (N:Nat):XA→Option Int:=(cx N [(124,Nn N),(126,No N),(157,WO N)] []).fn 1000 151 (.cons cZ .nil) (.int .i64)
def WQ (N:Nat):aD:=⟨(.cons cZ .nil),(.int .i64),EJ N⟩
theorem IC (N:Nat):ai bG 151 (WQ N):=eB.bk (dI (xi N) (dI (xl N) (dI (IA N) ng))) (by kernel_rfl) (by kernel_rfl)
theorem RR (N:Nat) (a0:Int × Int):EJ N a0 =
 (J7 N (a0.1,a0.2)).bind fun y1=>bif ((a0.2 == a0.2)&&((a0.1 == a0.1)&&true)) then (AF N (((I8 .i64 (I9 .i64 a0.1 a0.2) 1) != 0),14)).bind fun y2=>((bif (allFit (fits xh) [(AV.int .i64 y1),(AV.int .i64 y2)]&&true) then some (map kj [(AV.int .i64 y1),(AV.int .i64 y2)]) else none).bind fun x4=>(wJ N x4).bind fun y3=>some y3) else none:=by kernel_rfl
def EL (N:Nat):XB→Option ((Int × Int × Int × Int)):=(cx N [] []).fn 1000 158 (.cons aV .nil) (.agg (.ci (.ci (.ci (.ci .nil)))))
def RS (N:Nat):aD:=⟨(.cons aV .nil),(.agg (.ci (.ci (.ci (.ci .nil))))),EL N⟩
theorem CP (N:Nat):ai bG 158 (RS N):=eB.bk (fun _ _ h=>by cases h) (by kernel_rfl) (by kernel_rfl)
theorem ID (N:Nat) (a0:Int × Int × Int):EL N a0 =
 some (a0.1,a0.2.1,(wrap .i64 (a0.1+a0.2.2)),(wrap .i64 (a0.2.1+1))):=by kernel_rfl
def ae7:List (Nat × cA):=[(12,.join [(.norm,⟨(.ci .nil),[3],[],[],[],[]⟩)])]
def Nq (N:Nat):XB→Option Int:=(cx N [(124,Nn N),(126,No N),(151,WQ N),(157,WO N),(158,RS N)] [(125,ae7)]).fn 1000 125 (.cons aV .nil) (.int .i64)
def aaU (N:Nat):aD:=⟨(.cons aV .nil),(.int .i64),Nq N⟩
theorem RT (N:Nat):ai bG 125 (aaU N):=eB.bk (dI (xi N) (dI (xl N) (dI (IC N) (dI (IA N) (dI (CP N) ng))))) (by kernel_rfl) (by kernel_rfl)
theorem RU (N:Nat) (a0:Int × Int × Int):Nq N a0 =
 (((EJ N (a0.1,a0.2.1)).bind fun y1=>bif ((a0.2.2 == a0.2.2)&&true) then (bif (a0.2.2 != (-1)) then (AF N ((a0.2.2 != 1),13)).bind fun y2=>((bif (allFit (fits xh) [(AV.int .i64 y1),(AV.int .i64 y2)]&&true) then some (map kj [(AV.int .i64 y1),(AV.int .i64 y2)]) else none).bind fun x4=>(wJ N x4).bind fun y3=>(some y3)) else (AF N (false,13)).bind fun y5=>((bif (allFit (fits xh) [(AV.int .i64 y1),(AV.int .i64 y5)]&&true) then some (map kj [(AV.int .i64 y1),(AV.int .i64 y5)]) else none).bind fun x7=>(wJ N x7).bind fun y6=>(some y6))) else none).bind fun o8=>(bif (o8 != 0) then some o8 else (EL N (a0.1,a0.2.1,a0.2.2)).bind fun y9=>(J7 N (y9.2.2.1,y9.2.2.2)).bind fun y10=>some y10)):=by kernel_rfl
def ae8:List (Nat × cA):=[(58,.loop [] ⟨(.ci .nil),[8],[],[],[],[]⟩ [(.ret,⟨(.ci .nil),[2],[],[],[],[]⟩),(.ex 0,⟨.nil,[],[],[],[],[]⟩)])]
def RV (N:Nat):ma→Option Int:=(cx N [] [(159,ae8)]).fn 1000 159 (.cons (.list 1 (.int .i64)) .nil) (.int .i64)
def aaV (N:Nat):aD:=⟨(.cons (.list 1 (.int .i64)) .nil),(.int .i64),RV N⟩
theorem RW (N:Nat):ai bG 159 (aaV N):=eB.bk (fun _ _ h=>by cases h) (by kernel_rfl) (by kernel_rfl)
def xm (N:Nat) (a0:List Int) (v1:Int):Option (Int ⊕ (Int ⊕ Unit)):=
 (bif (decide (v1 < (((L3 a0).length:Nat):Int))) then bif (decide ((0:Int)≤v1∧v1 < ((L3 a0).length:Int))&&fits p3 (ah (L3 a0) (toNat v1))) then (bif ((gP (ah (L3 a0) (toNat v1))) != 0) then (some (aac (aae (gP (ah (L3 a0) (toNat v1)))))) else (some (aae (wrap .i64 (v1+1))))) else none else (some (aac (aac ()))))
theorem RX (N:Nat) (a0:List Int):RV N a0 =
 ((ay (xm N a0) N 0).bind fun o6=>(Sum.elim (fun o7=>some o7) (fun o8=>some 0) o6)):=by kernel_rfl
def RY (N:Nat):Int→Option Bool:=(cx N [] []).fn 1000 195 (.ci .nil) .bool
def aaW (N:Nat):aD:=⟨(.ci .nil),.bool,RY N⟩
theorem RZ (N:Nat):ai bG 195 (aaW N):=eB.bk (fun _ _ h=>by cases h) (by kernel_rfl) (by kernel_rfl)
theorem R4 (N:Nat) (a0:Int):RY N a0 =
 some (a0 != a0):=by kernel_rfl
def J8 (N:Nat):Int × Int→Option Int:=(cx N [(195,aaW N)] []).fn 1000 160 (.ci (.ci .nil)) (.int .i64)
def aaX (N:Nat):aD:=⟨(.ci (.ci .nil)),(.int .i64),J8 N⟩
theorem R5 (N:Nat):ai bG 160 (aaX N):=eB.bk (dI (RZ N) ng) (by kernel_rfl) (by kernel_rfl)
theorem R6 (N:Nat) (a0:Int) (a1:Int):J8 N (a0,a1) =
 (RY N a0).bind fun y1=>(RY N a1).bind fun y2=>(bif y1 then (bif y2 then some 0 else some (-1)) else (bif y2 then some 1 else (bif (decide (a0 < a1)) then some (-1) else (bif (decide (a0 > a1)) then some 1 else some 0)))):=by kernel_rfl
def Nr (N:Nat):XB × XB→Option Int:=(cx N [(159,aaV N),(160,aaX N)] []).fn 1000 127 (.cons aV (.cons aV .nil)) (.int .i64)
def aaY (N:Nat):aD:=⟨(.cons aV (.cons aV .nil)),(.int .i64),Nr N⟩
theorem R7 (N:Nat):ai bG 127 (aaY N):=eB.bk (dI (RW N) (dI (R5 N) ng)) (by kernel_rfl) (by kernel_rfl)
theorem R8 (N:Nat) (a0:Int × Int × Int) (a1:Int × Int × Int):Nr N (a0,a1) =
 (J8 N (a0.2.1,a1.2.1)).bind fun y1=>bif ((a1.2.2 == a1.2.2)&&((a0.2.2 == a0.2.2)&&((a1.1 == a1.1)&&((a0.1 == a0.1)&&true)))) then (J8 N (a0.1,a1.1)).bind fun y2=>bif ((a1.2.2 == a1.2.2)&&((a0.2.2 == a0.2.2)&&true)) then (J8 N (a0.2.2,a1.2.2)).bind fun y3=>((bif (allFit (fits p3) [(AV.int .i64 y1),(AV.int .i64 y2),(AV.int .i64 y3)]&&true) then some (map gP [(AV.int .i64 y1),(AV.int .i64 y2),(AV.int .i64 y3)]) else none).bind fun x5=>(RV N x5).bind fun y4=>some y4) else none else none:=by kernel_rfl
def c79:List (Nat × cA):=[(58,.loop [] ⟨(.ci .nil),[11],[],[],[],[]⟩ [(.ret,⟨(.ci .nil),[2],[],[],[],[]⟩),(.ex 0,⟨.nil,[],[],[],[],[]⟩)]),
 (7474,.join [(.norm,⟨(.ci .nil),[5],[],[],[],[]⟩)])]
def WR (N:Nat):j4→Option Int:=(cx N [(124,Nn N),(125,aaU N),(126,No N),(127,aaY N)] [(79,c79)]).fn 1000 79 (.cons (.list 3 aV) .nil) (.int .i64)
def e79 (N:Nat):aD:=⟨(.cons (.list 3 aV) .nil),(.int .i64),WR N⟩
theorem Ns (N:Nat):ai bG 79 (e79 N):=eB.bk (dI (xi N) (dI (RT N) (dI (xl N) (dI (R7 N) ng)))) (by kernel_rfl) (by kernel_rfl)
def zw (N:Nat) (a0:List XB) (v1:Int):Option (Int ⊕ (Int ⊕ Unit)):=
 (bif (decide (v1 < (((az a0).length:Nat):Int))) then bif (decide ((0:Int)≤v1∧v1 < ((az a0).length:Int))&&fits aV (ah (az a0) (toNat v1))) then (((Nq N ((bD (ah (az a0) (toNat v1))).1,(bD (ah (az a0) (toNat v1))).2.1,(bD (ah (az a0) (toNat v1))).2.2)).bind fun y2=>(bif (decide (v1 > 0)) then bif (decide ((0:Int)≤(if (wrap .i64 (v1 - 1)) > 0 then (wrap .i64 (v1 - 1)) else 0)∧(if (wrap .i64 (v1 - 1)) > 0 then (wrap .i64 (v1 - 1)) else 0) < ((az a0).length:Int))&&fits aV (ah (az a0) (toNat (if (wrap .i64 (v1 - 1)) > 0 then (wrap .i64 (v1 - 1)) else 0)))) then (Nr N (((bD (ah (az a0) (toNat (if (wrap .i64 (v1 - 1)) > 0 then (wrap .i64 (v1 - 1)) else 0)))).1,(bD (ah (az a0) (toNat (if (wrap .i64 (v1 - 1)) > 0 then (wrap .i64 (v1 - 1)) else 0)))).2.1,(bD (ah (az a0) (toNat (if (wrap .i64 (v1 - 1)) > 0 then (wrap .i64 (v1 - 1)) else 0)))).2.2),((bD (ah (az a0) (toNat v1))).1,(bD (ah (az a0) (toNat v1))).2.1,(bD (ah (az a0) (toNat v1))).2.2))).bind fun y3=>(AF N ((decide (y3≥0)),11)).bind fun y4=>((bif (allFit (fits xh) [(AV.int .i64 y2),(AV.int .i64 y4)]&&true) then some (map kj [(AV.int .i64 y2),(AV.int .i64 y4)]) else none).bind fun x6=>(wJ N x6).bind fun y5=>(some y5)) else none else (AF N (false,11)).bind fun y7=>((bif (allFit (fits xh) [(AV.int .i64 y2),(AV.int .i64 y7)]&&true) then some (map kj [(AV.int .i64 y2),(AV.int .i64 y7)]) else none).bind fun x9=>(wJ N x9).bind fun y8=>(some y8))):Option Int).bind fun oU=>(bif (oU != 0) then (some (aac (aae oU))) else (some (aae (wrap .i64 (v1+1)))))) else none else (some (aac (aac ()))))
theorem WS (N:Nat) (a0:List XB):WR N a0 =
 (bif (decide ((((az a0).length:Nat):Int) > 4096)) then some 5 else ((ay (zw N a0) N 0).bind fun o15=>(Sum.elim (fun IE=>some IE) (fun o17=>some 0) o15))):=by kernel_rfl
def c84:List (Nat × cA):=[(122,.nf [] ⟨(.ci (.ci (.ci (.ci (.ci (.cons (.list 2 cC) (.ci (.cons (.list 1 (.int .i64)) .nil)))))))),[],[],[(5,5)],[.map,.oQ 0],[]⟩ [(.ex 0,⟨(.ci (.ci (.ci (.ci (.ci (.cons (.list 2 cC) (.ci (.cons (.list 1 (.int .i64)) .nil)))))))),[],[],[(5,5)],[.map,.oQ 0],[]⟩)])]
def R9:List (Nat × cA):=[(58,.loop [] ⟨(.ci (.cons (.list 2 cC) .nil)),[11],[],[],[.map],[]⟩ [(.ex 0,⟨(.cons (.list 2 cC) .nil),[],[],[],[.map],[]⟩)]),
 (14950,.loop [] ⟨(.ci (.cons (.list 2 cC) .nil)),[17],[],[],[.map],[]⟩ [(.ex 2,⟨(.cons (.list 2 cC) .nil),[],[],[],[.map],[]⟩)]),
 (956824,.join [(.norm,⟨(.ci (.ci (.cons (.list 2 cC) .nil))),[],[],[(7,2)],[.map],[(7,7,0)]⟩)])]
def T84 (N:Nat):j4→Option ((Int × Int × Int × Int × Int) × Int):=(cx N [(79,e79 N),(158,RS N)] [(84,c84),(131,R9)]).fn 1000 84 (.cons (.list 3 aV) .nil) (.bq (.cons (.agg (.ci (.ci (.ci (.ci (.ci .nil)))))) (.ci .nil)))
def e84 (N:Nat):aD:=⟨(.cons (.list 3 aV) .nil),(.bq (.cons (.agg (.ci (.ci (.ci (.ci (.ci .nil)))))) (.ci .nil))),T84 N⟩
theorem WT (N:Nat):ai bG 84 (e84 N):=eB.bk (dI (Ns N) (dI (CP N) ng)) (by kernel_rfl) (by kernel_rfl)
def eh (o8:((Int × Int × (List (XA × Int))))):=
 (eP Pq (AV.agg [(AV.int .i64 o8.1),(AV.int .i64 o8.2.1)]) (AV.int .i64 0) (aC o8.2.2))
def dy (o8:((Int × Int × (List (XA × Int))))):=
 (gH Pq (AV.agg [(AV.int .i64 o8.1),(AV.int .i64 o8.2.1)]) (eh o8) (aC o8.2.2))
def eY (o8:((Int × Int × (List (XA × Int))))):=
 (jT (dy o8) (toNat ((iG Pq (AV.agg [(AV.int .i64 o8.1),(AV.int .i64 o8.2.1)]) (aC o8.2.2):Nat):Int)) (AV.int .i64 (wrap .i64 ((gP (eh o8))+1))))
def dR (N:Nat) (y4:(Int × Int × Int × Int)) (v5:Int × (List (XA × Int))):Option ((Int × (List (XA × Int))) ⊕ (((List (XA × Int))))):=
 (bif (decide (v5.1 < 2)) then (((bif (decide (v5.1=0)) then ((bif (allFit (fits cC) (ab (aC v5.2))&&true) then some (y4.1,y4.2.1,(map di (ab (aC v5.2)))) else none).bind fun w6=>bif (dL v5.2&&true) then some w6 else none) else (bif (decide (v5.1=1)) then ((bif (allFit (fits cC) (ab (aC v5.2))&&true) then some (y4.2.2.1,y4.2.2.2,(map di (ab (aC v5.2)))) else none).bind fun w7=>bif (dL v5.2&&true) then some w7 else none) else none)):Option ((Int × Int × (List (XA × Int))))).bind fun o8=>bif (gz Pq (AV.agg [(AV.int .i64 o8.1),(AV.int .i64 o8.2.1)]) (aC o8.2.2)&&fits p3 (eh o8)) then bif gz Pq (AV.agg [(AV.int .i64 o8.1),(AV.int .i64 o8.2.1)]) (aC o8.2.2) then bif (((gz Pq (AV.agg [(AV.int .i64 o8.1),(AV.int .i64 o8.2.1)]) (dy o8)&&fits p3 (eP Pq (AV.agg [(AV.int .i64 o8.1),(AV.int .i64 o8.2.1)]) (AV.int .i64 0) (dy o8)))&&((gP (eP Pq (AV.agg [(AV.int .i64 o8.1),(AV.int .i64 o8.2.1)]) (AV.int .i64 0) (dy o8))) == (gP (eh o8))))&&true) then bif (decide (0≤((iG Pq (AV.agg [(AV.int .i64 o8.1),(AV.int .i64 o8.2.1)]) (aC o8.2.2):Nat):Int))&&decide (toNat ((iG Pq (AV.agg [(AV.int .i64 o8.1),(AV.int .i64 o8.2.1)]) (aC o8.2.2):Nat):Int) < aad (dy o8))) then (((bif (allFit (fits cC) (ab (eY o8))&&true) then some ((wrap .i64 (v5.1+1)),(map di (ab (eY o8)))) else none).bind fun w9=>bif (bg (eY o8)&&true) then some w9 else none).bind fun WU=>some (aae WU)) else none else none else none else none) else (((bif (allFit (fits cC) (ab (aC v5.2))&&true) then some (map di (ab (aC v5.2))) else none).bind fun EM=>bif (dL v5.2&&true) then some EM else none).bind fun WV=>some (aac WV)))
def kX (N:Nat) (a0:List XB) (v3:Int × (List (XA × Int))):Option ((Int × (List (XA × Int))) ⊕ (((List (XA × Int))))):=
 (bif (decide (v3.1 < (((az a0).length:Nat):Int))) then bif (decide ((0:Int)≤v3.1∧v3.1 < ((az a0).length:Int))&&fits aV (ah (az a0) (toNat v3.1))) then (EL N ((bD (ah (az a0) (toNat v3.1))).1,(bD (ah (az a0) (toNat v3.1))).2.1,(bD (ah (az a0) (toNat v3.1))).2.2)).bind fun y4=>(((bif (allFit (fits cC) (ab (aC v3.2))&&true) then some (0,(map di (ab (aC v3.2)))) else none:Option (Int × (List (XA × Int)))).bind fun zx=>bif (dL v3.2&&true) then some zx else none).bind fun x17=>(ay (dR N y4) N x17).bind fun EN=>(((bif (allFit (fits cC) (ab (aC EN))&&true) then some ((wrap .i64 (v3.1+1)),(map di (ab (aC EN)))) else none).bind fun w15=>bif (dL EN&&true) then some w15 else none).bind fun u16=>some (aae u16))) else none else (((bif (allFit (fits cC) (ab (aC v3.2))&&true) then some (map di (ab (aC v3.2))) else none).bind fun w18=>bif (dL v3.2&&true) then some w18 else none).bind fun u19=>some (aac u19)))
def xn (N:Nat) (wK:(Int × Int × Int × Int × Int × (List (XA × Int)) × Int × ma)→Option ((Int × Int × Int × Int × Int × (List (XA × Int)) × Int × ma))) (v22:Int × Int × Int × Int × Int × (List (XA × Int)) × Int × ma):Option ((Int × Int × Int × Int × Int × (List (XA × Int)) × Int × ma)):=
 (bif (decide (aad (aC v22.2.2.2.2.2.1)=(toNat v22.2.2.2.2.2.2.1))) then (bif (List.isEmpty (ba (L2 v22.2.2.2.2.2.2.2))) then ((bif (allFit (fits cC) (ab (aC v22.2.2.2.2.2.1))&&(allFit (fits p2) (cN (ba (L2 v22.2.2.2.2.2.2.2)))&&true)) then some (v22.1,v22.2.1,v22.2.2.1,v22.2.2.2.1,v22.2.2.2.2.1,(map di (ab (aC v22.2.2.2.2.2.1))),(((toNat v22.2.2.2.2.2.2.1):Nat):Int),(map lD (cN (ba (L2 v22.2.2.2.2.2.2.2))))) else none).bind fun w25=>bif (dL v22.2.2.2.2.2.1&&true) then some w25 else none) else (P1 (ba (L2 v22.2.2.2.2.2.2.2)) fun i24=>bif (fits cZ (ee (aC v22.2.2.2.2.2.1) i24).1&&fits p3 (ee (aC v22.2.2.2.2.2.1) i24).2) then bif (decide (aad (aC v22.2.2.2.2.2.1)=(toNat v22.2.2.2.2.2.2.1))&&decide (i24 < (toNat v22.2.2.2.2.2.2.1))&&(fits cZ (ee (aC v22.2.2.2.2.2.1) i24).1&&fits p3 (ee (aC v22.2.2.2.2.2.1) i24).2)) then (bif (decide ((gP (ee (aC v22.2.2.2.2.2.1) i24).2)=0)) then (bif (decide ((gP (ee (aC v22.2.2.2.2.2.1) i24).2)=0)) then (((bif (allFit (fits cC) (ab (aC v22.2.2.2.2.2.1))&&(allFit (fits p2) (cN (aab (ba (L2 v22.2.2.2.2.2.2.2)) i24))&&true)) then some ((wrap .i64 (v22.1+1)),v22.2.1,v22.2.2.1,v22.2.2.2.1,v22.2.2.2.2.1,(map di (ab (aC v22.2.2.2.2.2.1))),(((toNat v22.2.2.2.2.2.2.1):Nat):Int),(map lD (cN (aab (ba (L2 v22.2.2.2.2.2.2.2)) i24)))) else none).bind fun w26=>bif (dL v22.2.2.2.2.2.1&&true) then some w26 else none).bind wK) else (bif (decide ((gP (ee (aC v22.2.2.2.2.2.1) i24).2)=1)) then (((bif (allFit (fits cC) (ab (aC v22.2.2.2.2.2.1))&&(allFit (fits p2) (cN (aab (ba (L2 v22.2.2.2.2.2.2.2)) i24))&&true)) then some (v22.1,(wrap .i64 (v22.1+1)),v22.2.2.1,v22.2.2.2.1,v22.2.2.2.2.1,(map di (ab (aC v22.2.2.2.2.2.1))),(((toNat v22.2.2.2.2.2.2.1):Nat):Int),(map lD (cN (aab (ba (L2 v22.2.2.2.2.2.2.2)) i24)))) else none).bind fun WW=>bif (dL v22.2.2.2.2.2.1&&true) then some WW else none).bind wK) else (bif (decide ((gP (ee (aC v22.2.2.2.2.2.1) i24).2)=2)) then (((bif (allFit (fits cC) (ab (aC v22.2.2.2.2.2.1))&&(allFit (fits p2) (cN (aab (ba (L2 v22.2.2.2.2.2.2.2)) i24))&&true)) then some (v22.1,v22.2.1,(wrap .i64 (v22.1+1)),v22.2.2.2.1,v22.2.2.2.2.1,(map di (ab (aC v22.2.2.2.2.2.1))),(((toNat v22.2.2.2.2.2.2.1):Nat):Int),(map lD (cN (aab (ba (L2 v22.2.2.2.2.2.2.2)) i24)))) else none).bind fun w28=>bif (dL v22.2.2.2.2.2.1&&true) then some w28 else none).bind wK) else (bif (decide ((gP (ee (aC v22.2.2.2.2.2.1) i24).2)=3)) then (((bif (allFit (fits cC) (ab (aC v22.2.2.2.2.2.1))&&(allFit (fits p2) (cN (aab (ba (L2 v22.2.2.2.2.2.2.2)) i24))&&true)) then some (v22.1,v22.2.1,v22.2.2.1,(wrap .i64 (v22.1+1)),v22.2.2.2.2.1,(map di (ab (aC v22.2.2.2.2.2.1))),(((toNat v22.2.2.2.2.2.2.1):Nat):Int),(map lD (cN (aab (ba (L2 v22.2.2.2.2.2.2.2)) i24)))) else none).bind fun w29=>bif (dL v22.2.2.2.2.2.1&&true) then some w29 else none).bind wK) else (bif (decide ((gP (ee (aC v22.2.2.2.2.2.1) i24).2)=4)) then (((bif (allFit (fits cC) (ab (aC v22.2.2.2.2.2.1))&&(allFit (fits p2) (cN (aab (ba (L2 v22.2.2.2.2.2.2.2)) i24))&&true)) then some (v22.1,v22.2.1,v22.2.2.1,v22.2.2.2.1,(wrap .i64 (v22.1+1)),(map di (ab (aC v22.2.2.2.2.2.1))),(((toNat v22.2.2.2.2.2.2.1):Nat):Int),(map lD (cN (aab (ba (L2 v22.2.2.2.2.2.2.2)) i24)))) else none).bind fun w30=>bif (dL v22.2.2.2.2.2.1&&true) then some w30 else none).bind wK) else none))))) else (bif (decide ((gP (ee (aC v22.2.2.2.2.2.1) i24).2)=1)) then (bif (decide ((gP (ee (aC v22.2.2.2.2.2.1) i24).2)=0)) then (((bif (allFit (fits cC) (ab (aC v22.2.2.2.2.2.1))&&(allFit (fits p2) (cN (aab (ba (L2 v22.2.2.2.2.2.2.2)) i24))&&true)) then some ((wrap .i64 (v22.2.1+1)),v22.2.1,v22.2.2.1,v22.2.2.2.1,v22.2.2.2.2.1,(map di (ab (aC v22.2.2.2.2.2.1))),(((toNat v22.2.2.2.2.2.2.1):Nat):Int),(map lD (cN (aab (ba (L2 v22.2.2.2.2.2.2.2)) i24)))) else none).bind fun w31=>bif (dL v22.2.2.2.2.2.1&&true) then some w31 else none).bind wK) else (bif (decide ((gP (ee (aC v22.2.2.2.2.2.1) i24).2)=1)) then (((bif (allFit (fits cC) (ab (aC v22.2.2.2.2.2.1))&&(allFit (fits p2) (cN (aab (ba (L2 v22.2.2.2.2.2.2.2)) i24))&&true)) then some (v22.1,(wrap .i64 (v22.2.1+1)),v22.2.2.1,v22.2.2.2.1,v22.2.2.2.2.1,(map di (ab (aC v22.2.2.2.2.2.1))),(((toNat v22.2.2.2.2.2.2.1):Nat):Int),(map lD (cN (aab (ba (L2 v22.2.2.2.2.2.2.2)) i24)))) else none).bind fun w32=>bif (dL v22.2.2.2.2.2.1&&true) then some w32 else none).bind wK) else (bif (decide ((gP (ee (aC v22.2.2.2.2.2.1) i24).2)=2)) then (((bif (allFit (fits cC) (ab (aC v22.2.2.2.2.2.1))&&(allFit (fits p2) (cN (aab (ba (L2 v22.2.2.2.2.2.2.2)) i24))&&true)) then some (v22.1,v22.2.1,(wrap .i64 (v22.2.1+1)),v22.2.2.2.1,v22.2.2.2.2.1,(map di (ab (aC v22.2.2.2.2.2.1))),(((toNat v22.2.2.2.2.2.2.1):Nat):Int),(map lD (cN (aab (ba (L2 v22.2.2.2.2.2.2.2)) i24)))) else none).bind fun w33=>bif (dL v22.2.2.2.2.2.1&&true) then some w33 else none).bind wK) else (bif (decide ((gP (ee (aC v22.2.2.2.2.2.1) i24).2)=3)) then (((bif (allFit (fits cC) (ab (aC v22.2.2.2.2.2.1))&&(allFit (fits p2) (cN (aab (ba (L2 v22.2.2.2.2.2.2.2)) i24))&&true)) then some (v22.1,v22.2.1,v22.2.2.1,(wrap .i64 (v22.2.1+1)),v22.2.2.2.2.1,(map di (ab (aC v22.2.2.2.2.2.1))),(((toNat v22.2.2.2.2.2.2.1):Nat):Int),(map lD (cN (aab (ba (L2 v22.2.2.2.2.2.2.2)) i24)))) else none).bind fun w34=>bif (dL v22.2.2.2.2.2.1&&true) then some w34 else none).bind wK) else (bif (decide ((gP (ee (aC v22.2.2.2.2.2.1) i24).2)=4)) then (((bif (allFit (fits cC) (ab (aC v22.2.2.2.2.2.1))&&(allFit (fits p2) (cN (aab (ba (L2 v22.2.2.2.2.2.2.2)) i24))&&true)) then some (v22.1,v22.2.1,v22.2.2.1,v22.2.2.2.1,(wrap .i64 (v22.2.1+1)),(map di (ab (aC v22.2.2.2.2.2.1))),(((toNat v22.2.2.2.2.2.2.1):Nat):Int),(map lD (cN (aab (ba (L2 v22.2.2.2.2.2.2.2)) i24)))) else none).bind fun w35=>bif (dL v22.2.2.2.2.2.1&&true) then some w35 else none).bind wK) else none))))) else (bif (decide ((gP (ee (aC v22.2.2.2.2.2.1) i24).2)=2)) then (bif (decide ((gP (ee (aC v22.2.2.2.2.2.1) i24).2)=0)) then (((bif (allFit (fits cC) (ab (aC v22.2.2.2.2.2.1))&&(allFit (fits p2) (cN (aab (ba (L2 v22.2.2.2.2.2.2.2)) i24))&&true)) then some ((wrap .i64 (v22.2.2.1+1)),v22.2.1,v22.2.2.1,v22.2.2.2.1,v22.2.2.2.2.1,(map di (ab (aC v22.2.2.2.2.2.1))),(((toNat v22.2.2.2.2.2.2.1):Nat):Int),(map lD (cN (aab (ba (L2 v22.2.2.2.2.2.2.2)) i24)))) else none).bind fun w36=>bif (dL v22.2.2.2.2.2.1&&true) then some w36 else none).bind wK) else (bif (decide ((gP (ee (aC v22.2.2.2.2.2.1) i24).2)=1)) then (((bif (allFit (fits cC) (ab (aC v22.2.2.2.2.2.1))&&(allFit (fits p2) (cN (aab (ba (L2 v22.2.2.2.2.2.2.2)) i24))&&true)) then some (v22.1,(wrap .i64 (v22.2.2.1+1)),v22.2.2.1,v22.2.2.2.1,v22.2.2.2.2.1,(map di (ab (aC v22.2.2.2.2.2.1))),(((toNat v22.2.2.2.2.2.2.1):Nat):Int),(map lD (cN (aab (ba (L2 v22.2.2.2.2.2.2.2)) i24)))) else none).bind fun w37=>bif (dL v22.2.2.2.2.2.1&&true) then some w37 else none).bind wK) else (bif (decide ((gP (ee (aC v22.2.2.2.2.2.1) i24).2)=2)) then (((bif (allFit (fits cC) (ab (aC v22.2.2.2.2.2.1))&&(allFit (fits p2) (cN (aab (ba (L2 v22.2.2.2.2.2.2.2)) i24))&&true)) then some (v22.1,v22.2.1,(wrap .i64 (v22.2.2.1+1)),v22.2.2.2.1,v22.2.2.2.2.1,(map di (ab (aC v22.2.2.2.2.2.1))),(((toNat v22.2.2.2.2.2.2.1):Nat):Int),(map lD (cN (aab (ba (L2 v22.2.2.2.2.2.2.2)) i24)))) else none).bind fun w38=>bif (dL v22.2.2.2.2.2.1&&true) then some w38 else none).bind wK) else (bif (decide ((gP (ee (aC v22.2.2.2.2.2.1) i24).2)=3)) then (((bif (allFit (fits cC) (ab (aC v22.2.2.2.2.2.1))&&(allFit (fits p2) (cN (aab (ba (L2 v22.2.2.2.2.2.2.2)) i24))&&true)) then some (v22.1,v22.2.1,v22.2.2.1,(wrap .i64 (v22.2.2.1+1)),v22.2.2.2.2.1,(map di (ab (aC v22.2.2.2.2.2.1))),(((toNat v22.2.2.2.2.2.2.1):Nat):Int),(map lD (cN (aab (ba (L2 v22.2.2.2.2.2.2.2)) i24)))) else none).bind fun w39=>bif (dL v22.2.2.2.2.2.1&&true) then some w39 else none).bind wK) else (bif (decide ((gP (ee (aC v22.2.2.2.2.2.1) i24).2)=4)) then (((bif (allFit (fits cC) (ab (aC v22.2.2.2.2.2.1))&&(allFit (fits p2) (cN (aab (ba (L2 v22.2.2.2.2.2.2.2)) i24))&&true)) then some (v22.1,v22.2.1,v22.2.2.1,v22.2.2.2.1,(wrap .i64 (v22.2.2.1+1)),(map di (ab (aC v22.2.2.2.2.2.1))),(((toNat v22.2.2.2.2.2.2.1):Nat):Int),(map lD (cN (aab (ba (L2 v22.2.2.2.2.2.2.2)) i24)))) else none).bind fun w40=>bif (dL v22.2.2.2.2.2.1&&true) then some w40 else none).bind wK) else none))))) else (bif (decide ((gP (ee (aC v22.2.2.2.2.2.1) i24).2)=3)) then (bif (decide ((gP (ee (aC v22.2.2.2.2.2.1) i24).2)=0)) then (((bif (allFit (fits cC) (ab (aC v22.2.2.2.2.2.1))&&(allFit (fits p2) (cN (aab (ba (L2 v22.2.2.2.2.2.2.2)) i24))&&true)) then some ((wrap .i64 (v22.2.2.2.1+1)),v22.2.1,v22.2.2.1,v22.2.2.2.1,v22.2.2.2.2.1,(map di (ab (aC v22.2.2.2.2.2.1))),(((toNat v22.2.2.2.2.2.2.1):Nat):Int),(map lD (cN (aab (ba (L2 v22.2.2.2.2.2.2.2)) i24)))) else none).bind fun w41=>bif (dL v22.2.2.2.2.2.1&&true) then some w41 else none).bind wK) else (bif (decide ((gP (ee (aC v22.2.2.2.2.2.1) i24).2)=1)) then (((bif (allFit (fits cC) (ab (aC v22.2.2.2.2.2.1))&&(allFit (fits p2) (cN (aab (ba (L2 v22.2.2.2.2.2.2.2)) i24))&&true)) then some (v22.1,(wrap .i64 (v22.2.2.2.1+1)),v22.2.2.1,v22.2.2.2.1,v22.2.2.2.2.1,(map di (ab (aC v22.2.2.2.2.2.1))),(((toNat v22.2.2.2.2.2.2.1):Nat):Int),(map lD (cN (aab (ba (L2 v22.2.2.2.2.2.2.2)) i24)))) else none).bind fun w42=>bif (dL v22.2.2.2.2.2.1&&true) then some w42 else none).bind wK) else (bif (decide ((gP (ee (aC v22.2.2.2.2.2.1) i24).2)=2)) then (((bif (allFit (fits cC) (ab (aC v22.2.2.2.2.2.1))&&(allFit (fits p2) (cN (aab (ba (L2 v22.2.2.2.2.2.2.2)) i24))&&true)) then some (v22.1,v22.2.1,(wrap .i64 (v22.2.2.2.1+1)),v22.2.2.2.1,v22.2.2.2.2.1,(map di (ab (aC v22.2.2.2.2.2.1))),(((toNat v22.2.2.2.2.2.2.1):Nat):Int),(map lD (cN (aab (ba (L2 v22.2.2.2.2.2.2.2)) i24)))) else none).bind fun w43=>bif (dL v22.2.2.2.2.2.1&&true) then some w43 else none).bind wK) else (bif (decide ((gP (ee (aC v22.2.2.2.2.2.1) i24).2)=3)) then (((bif (allFit (fits cC) (ab (aC v22.2.2.2.2.2.1))&&(allFit (fits p2) (cN (aab (ba (L2 v22.2.2.2.2.2.2.2)) i24))&&true)) then some (v22.1,v22.2.1,v22.2.2.1,(wrap .i64 (v22.2.2.2.1+1)),v22.2.2.2.2.1,(map di (ab (aC v22.2.2.2.2.2.1))),(((toNat v22.2.2.2.2.2.2.1):Nat):Int),(map lD (cN (aab (ba (L2 v22.2.2.2.2.2.2.2)) i24)))) else none).bind fun w44=>bif (dL v22.2.2.2.2.2.1&&true) then some w44 else none).bind wK) else (bif (decide ((gP (ee (aC v22.2.2.2.2.2.1) i24).2)=4)) then (((bif (allFit (fits cC) (ab (aC v22.2.2.2.2.2.1))&&(allFit (fits p2) (cN (aab (ba (L2 v22.2.2.2.2.2.2.2)) i24))&&true)) then some (v22.1,v22.2.1,v22.2.2.1,v22.2.2.2.1,(wrap .i64 (v22.2.2.2.1+1)),(map di (ab (aC v22.2.2.2.2.2.1))),(((toNat v22.2.2.2.2.2.2.1):Nat):Int),(map lD (cN (aab (ba (L2 v22.2.2.2.2.2.2.2)) i24)))) else none).bind fun w45=>bif (dL v22.2.2.2.2.2.1&&true) then some w45 else none).bind wK) else none))))) else (bif (decide ((gP (ee (aC v22.2.2.2.2.2.1) i24).2)=4)) then (bif (decide ((gP (ee (aC v22.2.2.2.2.2.1) i24).2)=0)) then (((bif (allFit (fits cC) (ab (aC v22.2.2.2.2.2.1))&&(allFit (fits p2) (cN (aab (ba (L2 v22.2.2.2.2.2.2.2)) i24))&&true)) then some ((wrap .i64 (v22.2.2.2.2.1+1)),v22.2.1,v22.2.2.1,v22.2.2.2.1,v22.2.2.2.2.1,(map di (ab (aC v22.2.2.2.2.2.1))),(((toNat v22.2.2.2.2.2.2.1):Nat):Int),(map lD (cN (aab (ba (L2 v22.2.2.2.2.2.2.2)) i24)))) else none).bind fun w46=>bif (dL v22.2.2.2.2.2.1&&true) then some w46 else none).bind wK) else (bif (decide ((gP (ee (aC v22.2.2.2.2.2.1) i24).2)=1)) then (((bif (allFit (fits cC) (ab (aC v22.2.2.2.2.2.1))&&(allFit (fits p2) (cN (aab (ba (L2 v22.2.2.2.2.2.2.2)) i24))&&true)) then some (v22.1,(wrap .i64 (v22.2.2.2.2.1+1)),v22.2.2.1,v22.2.2.2.1,v22.2.2.2.2.1,(map di (ab (aC v22.2.2.2.2.2.1))),(((toNat v22.2.2.2.2.2.2.1):Nat):Int),(map lD (cN (aab (ba (L2 v22.2.2.2.2.2.2.2)) i24)))) else none).bind fun w47=>bif (dL v22.2.2.2.2.2.1&&true) then some w47 else none).bind wK) else (bif (decide ((gP (ee (aC v22.2.2.2.2.2.1) i24).2)=2)) then (((bif (allFit (fits cC) (ab (aC v22.2.2.2.2.2.1))&&(allFit (fits p2) (cN (aab (ba (L2 v22.2.2.2.2.2.2.2)) i24))&&true)) then some (v22.1,v22.2.1,(wrap .i64 (v22.2.2.2.2.1+1)),v22.2.2.2.1,v22.2.2.2.2.1,(map di (ab (aC v22.2.2.2.2.2.1))),(((toNat v22.2.2.2.2.2.2.1):Nat):Int),(map lD (cN (aab (ba (L2 v22.2.2.2.2.2.2.2)) i24)))) else none).bind fun w48=>bif (dL v22.2.2.2.2.2.1&&true) then some w48 else none).bind wK) else (bif (decide ((gP (ee (aC v22.2.2.2.2.2.1) i24).2)=3)) then (((bif (allFit (fits cC) (ab (aC v22.2.2.2.2.2.1))&&(allFit (fits p2) (cN (aab (ba (L2 v22.2.2.2.2.2.2.2)) i24))&&true)) then some (v22.1,v22.2.1,v22.2.2.1,(wrap .i64 (v22.2.2.2.2.1+1)),v22.2.2.2.2.1,(map di (ab (aC v22.2.2.2.2.2.1))),(((toNat v22.2.2.2.2.2.2.1):Nat):Int),(map lD (cN (aab (ba (L2 v22.2.2.2.2.2.2.2)) i24)))) else none).bind fun w49=>bif (dL v22.2.2.2.2.2.1&&true) then some w49 else none).bind wK) else (bif (decide ((gP (ee (aC v22.2.2.2.2.2.1) i24).2)=4)) then (((bif (allFit (fits cC) (ab (aC v22.2.2.2.2.2.1))&&(allFit (fits p2) (cN (aab (ba (L2 v22.2.2.2.2.2.2.2)) i24))&&true)) then some (v22.1,v22.2.1,v22.2.2.1,v22.2.2.2.1,(wrap .i64 (v22.2.2.2.2.1+1)),(map di (ab (aC v22.2.2.2.2.2.1))),(((toNat v22.2.2.2.2.2.2.1):Nat):Int),(map lD (cN (aab (ba (L2 v22.2.2.2.2.2.2.2)) i24)))) else none).bind fun w50=>bif (dL v22.2.2.2.2.2.1&&true) then some w50 else none).bind wK) else none))))) else none))))) else none else none)) else none)
theorem WX (N:Nat) (a0:List XB):T84 N a0 =
 ((bif (lE a0&&true) then some (mD a0) else none).bind fun x2=>(WR N x2).bind fun y1=>(bif (y1 != 0) then some ((0,0,0,0,0),y1) else (((bif (allFit (fits cC) (ab ([]:List (AV × AV)))&&true) then some (0,(map di (ab ([]:List (AV × AV))))) else none:Option (Int × (List (XA × Int)))).bind fun w20=>bif (bg ([]:List (AV × AV))&&true) then some w20 else none).bind fun x54=>(ay (kX N a0) N x54).bind fun Zb=>(((bif (allFit (fits cC) (ab (aC Zb))&&(allFit (fits p2) (cN (List.range (aad (aC Zb))))&&true)) then some (0,0,0,0,0,(map di (ab (aC Zb))),(((aad (aC Zb)):Nat):Int),(map lD (cN (List.range (aad (aC Zb)))))) else none:Option (Int × Int × Int × Int × Int × (List (XA × Int)) × Int × ma)).bind fun w51=>bif (dL Zb&&true) then some w51 else none).bind fun x53=>(nf (xn N) N x53).bind fun o52=>some ((o52.1,o52.2.1,o52.2.2.1,o52.2.2.2.1,o52.2.2.2.2.1),0))))):=by kernel_rfl
end
end Go.Proofs.YtldcljfjjoidhaaGreatDoor
