/- What functions compute. -/
import Derived.Test.YtldcljfjjoidhaaGreatDoorBraL
import Derived.Test.YtldcljfjjoidhaaGreatDoorAmKK
set_option linter.all false
open List renaming erase→aad, length→aau
open Sum renaming inr→aao, inl→aaB
namespace Go.Proofs.YtldcljfjjoidhaaGreatDoor
open Go Go.Am
open List (map)
open Int (toNat)
open Go.IntKind (wrap)
open Go.Am.aO (fits)
set_option maxRecDepth 100000
noncomputable section
abbrev Rx:EK:=.st (.cons 0 1 false .int (.cons 1 1 false .int .nil))
abbrev XA:=Int × Int
abbrev XB:=Int × Int × Int
abbrev XC:=Int × Int × Bool × Bool × Int
abbrev XT:=Int × Int × Bool × Bool × Int × Int × Int × Bool × Bool × Int
abbrev iK:=List XA
abbrev cI:=List XB
abbrev iO:=List XC
abbrev j8:=List XT
abbrev kM:=List Int
abbrev p2:aO:=(.int .i64)
abbrev kW (v:AV):Int:=aO.bC p2 v
abbrev IQ (x:Int):AV:=aO.enc p2 x
abbrev L2 (l:List (Int)):=map IQ l
theorem fa2 (l:List Int):allFit (fits p2) (map IQ l)=true:=dI (p:=p2) rfl l
theorem md2 (l:List Int):map kW (map IQ l)=l:=gC (p:=p2) rfl l
theorem fn2 (x:Int):fits p2 (IQ x)=true:=(aO.bI p2 x rfl).1
theorem dn2 (x:Int):kW (IQ x)=x:=(aO.bI p2 x rfl).2
abbrev p3:aO:=(.int .i64)
abbrev gD (v:AV):Int:=aO.bC p3 v
abbrev lS (x:Int):AV:=aO.enc p3 x
abbrev L3 (l:List (Int)):=map lS l
abbrev F3 (l:List (Int)):=allFit (fits p3) (map lS l)
abbrev K3 (l:List (Int)):=map gD (map lS l)
theorem AI (l:List Int):allFit (fits p3) (map lS l)=true:=dI (p:=p3) rfl l
theorem By (l:List Int):map gD (map lS l)=l:=gC (p:=p3) rfl l
theorem fn3 (x:Int):fits p3 (lS x)=true:=(aO.bI p3 x rfl).1
theorem dn3 (x:Int):gD (lS x)=x:=(aO.bI p3 x rfl).2
abbrev xq:aO:=(.int .i64)
abbrev kN (v:AV):Int:=aO.bC xq v
abbrev IR (x:Int):AV:=aO.enc xq x
abbrev Ry (l:List (Int)):=map IR l
abbrev gk:aO:=(.agg (.cons (.int .i64) (.cons (.int .i64) .nil)))
abbrev to (v:AV):Int × Int:=aO.bC gk v
abbrev oC (x:Int × Int):AV:=aO.enc gk x
abbrev rX (l:List XA):=map oC l
abbrev F86 (l:List XA):=allFit (fits gk) (map oC l)
abbrev K86 (l:List XA):=map to (map oC l)
theorem Zg (l:List XA):allFit (fits gk) (map oC l)=true:=dI (p:=gk) rfl l
theorem Zh (l:List XA):map to (map oC l)=l:=gC (p:=gk) rfl l
theorem ahx (x:Int × Int):fits gk (oC x)=true:=(aO.bI gk x rfl).1
theorem ahy (x:Int × Int):to (oC x)=x:=(aO.bI gk x rfl).2
abbrev aA:aO:=(.agg (.cons (.int .i64) (.cons (.int .i64) (.cons (.int .i64) .nil))))
abbrev aB (v:AV):Int × Int × Int:=aO.bC aA v
abbrev cC (x:Int × Int × Int):AV:=aO.enc aA x
abbrev ai (l:List XB):=map cC l
abbrev dB (l:List XB):=allFit (fits aA) (map cC l)
abbrev du (l:List XB):=map aB (map cC l)
theorem cq (l:List XB):allFit (fits aA) (map cC l)=true:=dI (p:=aA) rfl l
theorem b9 (l:List XB):map aB (map cC l)=l:=gC (p:=aA) rfl l
theorem adv (x:Int × Int × Int):fits aA (cC x)=true:=(aO.bI aA x rfl).1
theorem adw (x:Int × Int × Int):aB (cC x)=x:=(aO.bI aA x rfl).2
abbrev cH:aO:=(.agg (.cons (.agg (.cons (.int .i64) (.cons (.int .i64) .nil))) (.cons (.int .i64) .nil)))
abbrev dN (v:AV):XA × Int:=aO.bC cH v
abbrev jR (x:XA × Int):AV:=aO.enc cH x
abbrev aD (l:List (XA × Int)):=ar (map jR l)
abbrev e7 (l:List ((Int × Int) × Int)):=dP (ar (map jR l))
theorem qZ (l:List (XA × Int)):allFit (fits cH) (map jR l)=true:=dI (p:=cH) rfl l
theorem q8 (l:List (XA × Int)):map dN (map jR l)=l:=gC (p:=cH) rfl l
def ahz:List (Nat × aO):=[(22,(.agg (.ci (.ci (.ci .nil))))),(25,(.agg (.ci (.ci (.ci .nil))))),(30,(.agg (.ci (.ci .nil)))),(36,(.agg (.ci (.ci (.ci .nil))))),(43,(.agg (.ci (.ci (.cons .bool (.cons .bool (.ci .nil))))))),(50,(.agg (.ci (.ci (.cons .bool (.cons .bool (.ci .nil))))))),(59,(.int .i64)),(72,(.agg (.ci (.ci .nil)))),(130,(.list 3 (.agg (.ci (.ci (.ci .nil)))))),(144,(.int .u8)),(163,.str),(177,(.agg (.ci (.ci (.cons .bool (.cons .bool (.ci (.ci (.ci (.cons .bool (.cons .bool (.ci .nil)))))))))))),(187,(.int .i64)),(218,(.list 5 (.agg (.ci (.ci (.cons .bool (.cons .bool (.ci .nil)))))))),(154,.bool),(169,.bool),(193,(.int .i64)),(86,(.agg (.ci (.ci .nil)))),(106,(.agg (.ci (.ci (.ci .nil)))))]
def Zi:List (Nat × aO)→Nat→Option aO
 |[],_=>none
 |(a,p) :: l,t=>bif Nat.beq a t then some p else Zi l t
def ahA:List (Nat × aO):=[]
def bH:Env:={ env with RM:=Zi ahz,elg:=Zi ahA }
def OW:Lt:={ adu with toEnv:=bH }
def cx (N:Nat) (Bx:List (Nat × aR)) (qU:List (Nat × List (Nat × cW))):fU:={ D:=OW,Bx:=xY Bx,qU:=JZ qU,fz:=false,N:=N }
def ahB:List (Nat × cW):=[(26,.loop [] ⟨(.ci .nil),[7],[],[],[],[]⟩ [(.ret,⟨(.ci .nil),[2],[],[],[],[]⟩),(.ex 0,⟨.nil,[],[],[],[],[]⟩)])]
def xZ (N:Nat):kM→Option Int:=(cx N [] [(124,ahB)]).fn 1000 124 (.cons (.list 1 (.int .i64)) .nil) (.int .i64)
def OX (N:Nat):aR:=⟨(.cons (.list 1 (.int .i64)) .nil),(.int .i64),xZ N⟩
theorem yD (N:Nat):aj bH 124 (OX N):=fU.bA (fun _ _ h=>by cases h) (by kernel_rfl) (by kernel_rfl)
def yF (N:Nat) (a0:List Int) (v1:Int):Option (Int ⊕ (Int ⊕ Unit)):=
 (bif (decide (v1 < (((Ry a0).length:Nat):Int))) then bif (decide ((0:Int)≤v1∧v1 < ((Ry a0).length:Int))&&fits xq (ae (Ry a0) (toNat v1))) then (bif ((kN (ae (Ry a0) (toNat v1))) != 0) then (some (aao (aaB (kN (ae (Ry a0) (toNat v1)))))) else (some (aaB (wrap .i64 (v1+1))))) else none else (some (aao (aao ()))))
theorem Ud (N:Nat) (a0:List Int):xZ N a0 =
 ((az (yF N a0) N 0).bind fun o6=>(Sum.elim (fun o7=>some o7) (fun o8=>some 0) o6)):=by kernel_rfl
def BZ (N:Nat):Bool × Int→Option Int:=(cx N [] []).fn 1000 126 (.cons .bool (.ci .nil)) (.int .i64)
def OY (N:Nat):aR:=⟨(.cons .bool (.ci .nil)),(.int .i64),BZ N⟩
theorem yG (N:Nat):aj bH 126 (OY N):=fU.bA (fun _ _ h=>by cases h) (by kernel_rfl) (by kernel_rfl)
theorem Ue (N:Nat) (a0:Bool) (a1:Int):BZ N (a0,a1) =
 (bif a0 then some a1 else some 0):=by kernel_rfl
def ahC:List (Nat × cW):=[(6,.join [(.norm,⟨(.ci .nil),[6],[],[],[],[]⟩)])]
def OZ (N:Nat):Int × Int × Int→Option Int:=(cx N [(126,OY N)] [(194,ahC)]).fn 1000 194 (.ci (.ci (.ci .nil))) (.int .i64)
def adx (N:Nat):aR:=⟨(.ci (.ci (.ci .nil))),(.int .i64),OZ N⟩
theorem Uf (N:Nat):aj bH 194 (adx N):=fU.bA (eZ (yG N) qa) (by kernel_rfl) (by kernel_rfl)
theorem Ug (N:Nat) (a0:Int) (a1:Int) (a2:Int):OZ N (a0,a1,a2) =
 (((bif (decide (a0 < a1)) then (BZ N (true,3)).bind fun y1=>(some y1) else (BZ N ((decide (a0 > a2)),3)).bind fun y2=>(some y2)):Option Int).bind fun o3=>some o3):=by kernel_rfl
def LO (N:Nat):XA→Option Int:=(cx N [(124,OX N),(194,adx N)] []).fn 1000 157 (.cons gk .nil) (.int .i64)
def Zj (N:Nat):aR:=⟨(.cons gk .nil),(.int .i64),LO N⟩
theorem J4 (N:Nat):aj bH 157 (Zj N):=fU.bA (eZ (yD N) (eZ (Uf N) qa)) (by kernel_rfl) (by kernel_rfl)
theorem J5 (N:Nat) (a0:Int × Int):LO N a0 =
 (OZ N (a0.1,(-100000),100000)).bind fun y1=>bif ((a0.2 == a0.2)&&true) then (OZ N (a0.2,(-100000),100000)).bind fun y2=>((bif (allFit (fits xq) [(AV.int .i64 y1),(AV.int .i64 y2)]&&true) then some (map kN [(AV.int .i64 y1),(AV.int .i64 y2)]) else none).bind fun x4=>(xZ N x4).bind fun y3=>some y3) else none:=by kernel_rfl
def Gk (N:Nat):XA→Option Int:=(cx N [(124,OX N),(126,OY N),(157,Zj N)] []).fn 1000 151 (.cons gk .nil) (.int .i64)
def Zk (N:Nat):aR:=⟨(.cons gk .nil),(.int .i64),Gk N⟩
theorem J6 (N:Nat):aj bH 151 (Zk N):=fU.bA (eZ (yD N) (eZ (yG N) (eZ (J4 N) qa))) (by kernel_rfl) (by kernel_rfl)
theorem Uh (N:Nat) (a0:Int × Int):Gk N a0 =
 (LO N (a0.1,a0.2)).bind fun y1=>bif ((a0.2 == a0.2)&&((a0.1 == a0.1)&&true)) then (BZ N (((BE .i64 (KR .i64 a0.1 a0.2) 1) != 0),14)).bind fun y2=>((bif (allFit (fits xq) [(AV.int .i64 y1),(AV.int .i64 y2)]&&true) then some (map kN [(AV.int .i64 y1),(AV.int .i64 y2)]) else none).bind fun x4=>(xZ N x4).bind fun y3=>some y3) else none:=by kernel_rfl
def Gl (N:Nat):XB→Option ((Int × Int × Int × Int)):=(cx N [] []).fn 1000 158 (.cons aA .nil) (.agg (.ci (.ci (.ci (.ci .nil)))))
def Ui (N:Nat):aR:=⟨(.cons aA .nil),(.agg (.ci (.ci (.ci (.ci .nil))))),Gl N⟩
theorem En (N:Nat):aj bH 158 (Ui N):=fU.bA (fun _ _ h=>by cases h) (by kernel_rfl) (by kernel_rfl)
theorem J7 (N:Nat) (a0:Int × Int × Int):Gl N a0 =
 some (a0.1,a0.2.1,(wrap .i64 (a0.1+a0.2.2)),(wrap .i64 (a0.2.1+1))):=by kernel_rfl
def ahD:List (Nat × cW):=[(12,.join [(.norm,⟨(.ci .nil),[3],[],[],[],[]⟩)])]
def O0 (N:Nat):XB→Option Int:=(cx N [(124,OX N),(126,OY N),(151,Zk N),(157,Zj N),(158,Ui N)] [(125,ahD)]).fn 1000 125 (.cons aA .nil) (.int .i64)
def ady (N:Nat):aR:=⟨(.cons aA .nil),(.int .i64),O0 N⟩
theorem Uj (N:Nat):aj bH 125 (ady N):=fU.bA (eZ (yD N) (eZ (yG N) (eZ (J6 N) (eZ (J4 N) (eZ (En N) qa))))) (by kernel_rfl) (by kernel_rfl)
theorem Uk (N:Nat) (a0:Int × Int × Int):O0 N a0 =
 (((Gk N (a0.1,a0.2.1)).bind fun y1=>bif ((a0.2.2 == a0.2.2)&&true) then (bif (a0.2.2 != (-1)) then (BZ N ((a0.2.2 != 1),13)).bind fun y2=>((bif (allFit (fits xq) [(AV.int .i64 y1),(AV.int .i64 y2)]&&true) then some (map kN [(AV.int .i64 y1),(AV.int .i64 y2)]) else none).bind fun x4=>(xZ N x4).bind fun y3=>(some y3)) else (BZ N (false,13)).bind fun y5=>((bif (allFit (fits xq) [(AV.int .i64 y1),(AV.int .i64 y5)]&&true) then some (map kN [(AV.int .i64 y1),(AV.int .i64 y5)]) else none).bind fun x7=>(xZ N x7).bind fun y6=>(some y6))) else none).bind fun o8=>(bif (o8 != 0) then some o8 else (Gl N (a0.1,a0.2.1,a0.2.2)).bind fun y9=>(LO N (y9.2.2.1,y9.2.2.2)).bind fun y10=>some y10)):=by kernel_rfl
def ahE:List (Nat × cW):=[(58,.loop [] ⟨(.ci .nil),[8],[],[],[],[]⟩ [(.ret,⟨(.ci .nil),[2],[],[],[],[]⟩),(.ex 0,⟨.nil,[],[],[],[],[]⟩)])]
def Ul (N:Nat):kM→Option Int:=(cx N [] [(159,ahE)]).fn 1000 159 (.cons (.list 1 (.int .i64)) .nil) (.int .i64)
def adz (N:Nat):aR:=⟨(.cons (.list 1 (.int .i64)) .nil),(.int .i64),Ul N⟩
theorem Um (N:Nat):aj bH 159 (adz N):=fU.bA (fun _ _ h=>by cases h) (by kernel_rfl) (by kernel_rfl)
def yH (N:Nat) (a0:List Int) (v1:Int):Option (Int ⊕ (Int ⊕ Unit)):=
 (bif (decide (v1 < (((L3 a0).length:Nat):Int))) then bif (decide ((0:Int)≤v1∧v1 < ((L3 a0).length:Int))&&fits p3 (ae (L3 a0) (toNat v1))) then (bif ((gD (ae (L3 a0) (toNat v1))) != 0) then (some (aao (aaB (gD (ae (L3 a0) (toNat v1)))))) else (some (aaB (wrap .i64 (v1+1))))) else none else (some (aao (aao ()))))
theorem Un (N:Nat) (a0:List Int):Ul N a0 =
 ((az (yH N a0) N 0).bind fun o6=>(Sum.elim (fun o7=>some o7) (fun o8=>some 0) o6)):=by kernel_rfl
def Uo (N:Nat):Int→Option Bool:=(cx N [] []).fn 1000 195 (.ci .nil) .bool
def adA (N:Nat):aR:=⟨(.ci .nil),.bool,Uo N⟩
theorem Up (N:Nat):aj bH 195 (adA N):=fU.bA (fun _ _ h=>by cases h) (by kernel_rfl) (by kernel_rfl)
theorem Uq (N:Nat) (a0:Int):Uo N a0 =
 some (a0 != a0):=by kernel_rfl
def LP (N:Nat):Int × Int→Option Int:=(cx N [(195,adA N)] []).fn 1000 160 (.ci (.ci .nil)) (.int .i64)
def adB (N:Nat):aR:=⟨(.ci (.ci .nil)),(.int .i64),LP N⟩
theorem Ur (N:Nat):aj bH 160 (adB N):=fU.bA (eZ (Up N) qa) (by kernel_rfl) (by kernel_rfl)
theorem Us (N:Nat) (a0:Int) (a1:Int):LP N (a0,a1) =
 (Uo N a0).bind fun y1=>(Uo N a1).bind fun y2=>(bif y1 then (bif y2 then some 0 else some (-1)) else (bif y2 then some 1 else (bif (decide (a0 < a1)) then some (-1) else (bif (decide (a0 > a1)) then some 1 else some 0)))):=by kernel_rfl
def Eo (N:Nat):XB × XB→Option Int:=(cx N [(159,adz N),(160,adB N)] []).fn 1000 127 (.cons aA (.cons aA .nil)) (.int .i64)
def Zl (N:Nat):aR:=⟨(.cons aA (.cons aA .nil)),(.int .i64),Eo N⟩
theorem J8 (N:Nat):aj bH 127 (Zl N):=fU.bA (eZ (Um N) (eZ (Ur N) qa)) (by kernel_rfl) (by kernel_rfl)
theorem Ut (N:Nat) (a0:Int × Int × Int) (a1:Int × Int × Int):Eo N (a0,a1) =
 (LP N (a0.2.1,a1.2.1)).bind fun y1=>bif ((a1.2.2 == a1.2.2)&&((a0.2.2 == a0.2.2)&&((a1.1 == a1.1)&&((a0.1 == a0.1)&&true)))) then (LP N (a0.1,a1.1)).bind fun y2=>bif ((a1.2.2 == a1.2.2)&&((a0.2.2 == a0.2.2)&&true)) then (LP N (a0.2.2,a1.2.2)).bind fun y3=>((bif (allFit (fits p3) [(AV.int .i64 y1),(AV.int .i64 y2),(AV.int .i64 y3)]&&true) then some (map gD [(AV.int .i64 y1),(AV.int .i64 y2),(AV.int .i64 y3)]) else none).bind fun x5=>(Ul N x5).bind fun y4=>some y4) else none else none:=by kernel_rfl
def c79:List (Nat × cW):=[(58,.loop [] ⟨(.ci .nil),[11],[],[],[],[]⟩ [(.ret,⟨(.ci .nil),[2],[],[],[],[]⟩),(.ex 0,⟨.nil,[],[],[],[],[]⟩)]),
 (7474,.join [(.norm,⟨(.ci .nil),[5],[],[],[],[]⟩)])]
def Uu (N:Nat):cI→Option Int:=(cx N [(124,OX N),(125,ady N),(126,OY N),(127,Zl N)] [(79,c79)]).fn 1000 79 (.cons (.list 3 aA) .nil) (.int .i64)
def e79 (N:Nat):aR:=⟨(.cons (.list 3 aA) .nil),(.int .i64),Uu N⟩
theorem Ep (N:Nat):aj bH 79 (e79 N):=fU.bA (eZ (yD N) (eZ (Uj N) (eZ (yG N) (eZ (J8 N) qa)))) (by kernel_rfl) (by kernel_rfl)
def AJ (N:Nat) (a0:List XB) (v1:Int):Option (Int ⊕ (Int ⊕ Unit)):=
 (bif (decide (v1 < (((ai a0).length:Nat):Int))) then bif (decide ((0:Int)≤v1∧v1 < ((ai a0).length:Int))&&fits aA (ae (ai a0) (toNat v1))) then (((O0 N ((aB (ae (ai a0) (toNat v1))).1,(aB (ae (ai a0) (toNat v1))).2.1,(aB (ae (ai a0) (toNat v1))).2.2)).bind fun y2=>(bif (decide (v1 > 0)) then bif (decide ((0:Int)≤(if (wrap .i64 (v1 - 1)) > 0 then (wrap .i64 (v1 - 1)) else 0)∧(if (wrap .i64 (v1 - 1)) > 0 then (wrap .i64 (v1 - 1)) else 0) < ((ai a0).length:Int))&&fits aA (ae (ai a0) (toNat (if (wrap .i64 (v1 - 1)) > 0 then (wrap .i64 (v1 - 1)) else 0)))) then (Eo N (((aB (ae (ai a0) (toNat (if (wrap .i64 (v1 - 1)) > 0 then (wrap .i64 (v1 - 1)) else 0)))).1,(aB (ae (ai a0) (toNat (if (wrap .i64 (v1 - 1)) > 0 then (wrap .i64 (v1 - 1)) else 0)))).2.1,(aB (ae (ai a0) (toNat (if (wrap .i64 (v1 - 1)) > 0 then (wrap .i64 (v1 - 1)) else 0)))).2.2),((aB (ae (ai a0) (toNat v1))).1,(aB (ae (ai a0) (toNat v1))).2.1,(aB (ae (ai a0) (toNat v1))).2.2))).bind fun y3=>(BZ N ((decide (y3≥0)),11)).bind fun y4=>((bif (allFit (fits xq) [(AV.int .i64 y2),(AV.int .i64 y4)]&&true) then some (map kN [(AV.int .i64 y2),(AV.int .i64 y4)]) else none).bind fun x6=>(xZ N x6).bind fun y5=>(some y5)) else none else (BZ N (false,11)).bind fun y7=>((bif (allFit (fits xq) [(AV.int .i64 y2),(AV.int .i64 y7)]&&true) then some (map kN [(AV.int .i64 y2),(AV.int .i64 y7)]) else none).bind fun x9=>(xZ N x9).bind fun y8=>(some y8))):Option Int).bind fun NG=>(bif (NG != 0) then (some (aao (aaB NG))) else (some (aaB (wrap .i64 (v1+1)))))) else none else (some (aao (aao ()))))
theorem Zm (N:Nat) (a0:List XB):Uu N a0 =
 (bif (decide ((((ai a0).length:Nat):Int) > 4096)) then some 5 else ((az (AJ N a0) N 0).bind fun yd=>(Sum.elim (fun Rz=>some Rz) (fun o17=>some 0) yd))):=by kernel_rfl
def c84:List (Nat × cW):=[(122,.oA [] ⟨(.ci (.ci (.ci (.ci (.ci (.cons (.list 2 cH) (.ci (.cons (.list 1 (.int .i64)) .nil)))))))),[],[],[(5,5)],[.map,.pY 0],[]⟩ [(.ex 0,⟨(.ci (.ci (.ci (.ci (.ci (.cons (.list 2 cH) (.ci (.cons (.list 1 (.int .i64)) .nil)))))))),[],[],[(5,5)],[.map,.pY 0],[]⟩)])]
def Uv:List (Nat × cW):=[(58,.loop [] ⟨(.ci (.cons (.list 2 cH) .nil)),[11],[],[],[.map],[]⟩ [(.ex 0,⟨(.cons (.list 2 cH) .nil),[],[],[],[.map],[]⟩)]),
 (14950,.loop [] ⟨(.ci (.cons (.list 2 cH) .nil)),[17],[],[],[.map],[]⟩ [(.ex 2,⟨(.cons (.list 2 cH) .nil),[],[],[],[.map],[]⟩)]),
 (956824,.join [(.norm,⟨(.ci (.ci (.cons (.list 2 cH) .nil))),[],[],[(7,2)],[.map],[(7,7,0)]⟩)])]
def T84 (N:Nat):cI→Option ((Int × Int × Int × Int × Int) × Int):=(cx N [(79,e79 N),(158,Ui N)] [(84,c84),(131,Uv)]).fn 1000 84 (.cons (.list 3 aA) .nil) (.bu (.cons (.agg (.ci (.ci (.ci (.ci (.ci .nil)))))) (.ci .nil)))
def e84 (N:Nat):aR:=⟨(.cons (.list 3 aA) .nil),(.bu (.cons (.agg (.ci (.ci (.ci (.ci (.ci .nil)))))) (.ci .nil))),T84 N⟩
theorem O1 (N:Nat):aj bH 84 (e84 N):=fU.bA (eZ (Ep N) (eZ (En N) qa)) (by kernel_rfl) (by kernel_rfl)
def fx (o8:((Int × Int × (List (XA × Int))))):=
 (dV Rx (AV.agg [(AV.int .i64 o8.1),(AV.int .i64 o8.2.1)]) (AV.int .i64 0) (aD o8.2.2))
def dZ (o8:((Int × Int × (List (XA × Int))))):=
 (fJ Rx (AV.agg [(AV.int .i64 o8.1),(AV.int .i64 o8.2.1)]) (fx o8) (aD o8.2.2))
def gf (o8:((Int × Int × (List (XA × Int))))):=
 (k9 (dZ o8) (toNat ((jE Rx (AV.agg [(AV.int .i64 o8.1),(AV.int .i64 o8.2.1)]) (aD o8.2.2):Nat):Int)) (AV.int .i64 (wrap .i64 ((gD (fx o8))+1))))
def fh (N:Nat) (y4:(Int × Int × Int × Int)) (v5:Int × (List (XA × Int))):Option ((Int × (List (XA × Int))) ⊕ (((List (XA × Int))))):=
 (bif (decide (v5.1 < 2)) then (((bif (decide (v5.1=0)) then ((bif (allFit (fits cH) (ah (aD v5.2))&&true) then some (y4.1,y4.2.1,(map dN (ah (aD v5.2)))) else none).bind fun w6=>bif (e7 v5.2&&true) then some w6 else none) else (bif (decide (v5.1=1)) then ((bif (allFit (fits cH) (ah (aD v5.2))&&true) then some (y4.2.2.1,y4.2.2.2,(map dN (ah (aD v5.2)))) else none).bind fun w7=>bif (e7 v5.2&&true) then some w7 else none) else none)):Option ((Int × Int × (List (XA × Int))))).bind fun o8=>bif (fI Rx (AV.agg [(AV.int .i64 o8.1),(AV.int .i64 o8.2.1)]) (aD o8.2.2)&&fits p3 (fx o8)) then bif fI Rx (AV.agg [(AV.int .i64 o8.1),(AV.int .i64 o8.2.1)]) (aD o8.2.2) then bif (((fI Rx (AV.agg [(AV.int .i64 o8.1),(AV.int .i64 o8.2.1)]) (dZ o8)&&fits p3 (dV Rx (AV.agg [(AV.int .i64 o8.1),(AV.int .i64 o8.2.1)]) (AV.int .i64 0) (dZ o8)))&&((gD (dV Rx (AV.agg [(AV.int .i64 o8.1),(AV.int .i64 o8.2.1)]) (AV.int .i64 0) (dZ o8))) == (gD (fx o8))))&&true) then bif (decide (0≤((jE Rx (AV.agg [(AV.int .i64 o8.1),(AV.int .i64 o8.2.1)]) (aD o8.2.2):Nat):Int))&&decide (toNat ((jE Rx (AV.agg [(AV.int .i64 o8.1),(AV.int .i64 o8.2.1)]) (aD o8.2.2):Nat):Int) < aau (dZ o8))) then (((bif (allFit (fits cH) (ah (gf o8))&&true) then some ((wrap .i64 (v5.1+1)),(map dN (ah (gf o8)))) else none).bind fun w9=>bif (dP (gf o8)&&true) then some w9 else none).bind fun u10=>some (aaB u10)) else none else none else none else none) else (((bif (allFit (fits cH) (ah (aD v5.2))&&true) then some (map dN (ah (aD v5.2))) else none).bind fun RA=>bif (e7 v5.2&&true) then some RA else none).bind fun u12=>some (aao u12)))
def mB (N:Nat) (a0:List XB) (v3:Int × (List (XA × Int))):Option ((Int × (List (XA × Int))) ⊕ (((List (XA × Int))))):=
 (bif (decide (v3.1 < (((ai a0).length:Nat):Int))) then bif (decide ((0:Int)≤v3.1∧v3.1 < ((ai a0).length:Int))&&fits aA (ae (ai a0) (toNat v3.1))) then (Gl N ((aB (ae (ai a0) (toNat v3.1))).1,(aB (ae (ai a0) (toNat v3.1))).2.1,(aB (ae (ai a0) (toNat v3.1))).2.2)).bind fun y4=>(((bif (allFit (fits cH) (ah (aD v3.2))&&true) then some (0,(map dN (ah (aD v3.2)))) else none:Option (Int × (List (XA × Int)))).bind fun Hh=>bif (e7 v3.2&&true) then some Hh else none).bind fun x17=>(az (fh N y4) N x17).bind fun O2=>(((bif (allFit (fits cH) (ah (aD O2))&&true) then some ((wrap .i64 (v3.1+1)),(map dN (ah (aD O2)))) else none).bind fun w15=>bif (e7 O2&&true) then some w15 else none).bind fun u16=>some (aaB u16))) else none else (((bif (allFit (fits cH) (ah (aD v3.2))&&true) then some (map dN (ah (aD v3.2))) else none).bind fun Zn=>bif (e7 v3.2&&true) then some Zn else none).bind fun u19=>some (aao u19)))
def yI (N:Nat) (ye:(Int × Int × Int × Int × Int × (List (XA × Int)) × Int × kM)→Option ((Int × Int × Int × Int × Int × (List (XA × Int)) × Int × kM))) (v22:Int × Int × Int × Int × Int × (List (XA × Int)) × Int × kM):Option ((Int × Int × Int × Int × Int × (List (XA × Int)) × Int × kM)):=
 (bif (decide (aau (aD v22.2.2.2.2.2.1)=(toNat v22.2.2.2.2.2.2.1))) then (bif (List.isEmpty (bc (L2 v22.2.2.2.2.2.2.2))) then ((bif (allFit (fits cH) (ah (aD v22.2.2.2.2.2.1))&&(allFit (fits p2) (c7 (bc (L2 v22.2.2.2.2.2.2.2)))&&true)) then some (v22.1,v22.2.1,v22.2.2.1,v22.2.2.2.1,v22.2.2.2.2.1,(map dN (ah (aD v22.2.2.2.2.2.1))),(((toNat v22.2.2.2.2.2.2.1):Nat):Int),(map kW (c7 (bc (L2 v22.2.2.2.2.2.2.2))))) else none).bind fun w25=>bif (e7 v22.2.2.2.2.2.1&&true) then some w25 else none) else (Ss (bc (L2 v22.2.2.2.2.2.2.2)) fun i24=>bif (fits gk (fu (aD v22.2.2.2.2.2.1) i24).1&&fits p3 (fu (aD v22.2.2.2.2.2.1) i24).2) then bif (decide (aau (aD v22.2.2.2.2.2.1)=(toNat v22.2.2.2.2.2.2.1))&&decide (i24 < (toNat v22.2.2.2.2.2.2.1))&&(fits gk (fu (aD v22.2.2.2.2.2.1) i24).1&&fits p3 (fu (aD v22.2.2.2.2.2.1) i24).2)) then (bif (decide ((gD (fu (aD v22.2.2.2.2.2.1) i24).2)=0)) then (bif (decide ((gD (fu (aD v22.2.2.2.2.2.1) i24).2)=0)) then (((bif (allFit (fits cH) (ah (aD v22.2.2.2.2.2.1))&&(allFit (fits p2) (c7 (aad (bc (L2 v22.2.2.2.2.2.2.2)) i24))&&true)) then some ((wrap .i64 (v22.1+1)),v22.2.1,v22.2.2.1,v22.2.2.2.1,v22.2.2.2.2.1,(map dN (ah (aD v22.2.2.2.2.2.1))),(((toNat v22.2.2.2.2.2.2.1):Nat):Int),(map kW (c7 (aad (bc (L2 v22.2.2.2.2.2.2.2)) i24)))) else none).bind fun w26=>bif (e7 v22.2.2.2.2.2.1&&true) then some w26 else none).bind ye) else (bif (decide ((gD (fu (aD v22.2.2.2.2.2.1) i24).2)=1)) then (((bif (allFit (fits cH) (ah (aD v22.2.2.2.2.2.1))&&(allFit (fits p2) (c7 (aad (bc (L2 v22.2.2.2.2.2.2.2)) i24))&&true)) then some (v22.1,(wrap .i64 (v22.1+1)),v22.2.2.1,v22.2.2.2.1,v22.2.2.2.2.1,(map dN (ah (aD v22.2.2.2.2.2.1))),(((toNat v22.2.2.2.2.2.2.1):Nat):Int),(map kW (c7 (aad (bc (L2 v22.2.2.2.2.2.2.2)) i24)))) else none).bind fun Uw=>bif (e7 v22.2.2.2.2.2.1&&true) then some Uw else none).bind ye) else (bif (decide ((gD (fu (aD v22.2.2.2.2.2.1) i24).2)=2)) then (((bif (allFit (fits cH) (ah (aD v22.2.2.2.2.2.1))&&(allFit (fits p2) (c7 (aad (bc (L2 v22.2.2.2.2.2.2.2)) i24))&&true)) then some (v22.1,v22.2.1,(wrap .i64 (v22.1+1)),v22.2.2.2.1,v22.2.2.2.2.1,(map dN (ah (aD v22.2.2.2.2.2.1))),(((toNat v22.2.2.2.2.2.2.1):Nat):Int),(map kW (c7 (aad (bc (L2 v22.2.2.2.2.2.2.2)) i24)))) else none).bind fun w28=>bif (e7 v22.2.2.2.2.2.1&&true) then some w28 else none).bind ye) else (bif (decide ((gD (fu (aD v22.2.2.2.2.2.1) i24).2)=3)) then (((bif (allFit (fits cH) (ah (aD v22.2.2.2.2.2.1))&&(allFit (fits p2) (c7 (aad (bc (L2 v22.2.2.2.2.2.2.2)) i24))&&true)) then some (v22.1,v22.2.1,v22.2.2.1,(wrap .i64 (v22.1+1)),v22.2.2.2.2.1,(map dN (ah (aD v22.2.2.2.2.2.1))),(((toNat v22.2.2.2.2.2.2.1):Nat):Int),(map kW (c7 (aad (bc (L2 v22.2.2.2.2.2.2.2)) i24)))) else none).bind fun Zo=>bif (e7 v22.2.2.2.2.2.1&&true) then some Zo else none).bind ye) else (bif (decide ((gD (fu (aD v22.2.2.2.2.2.1) i24).2)=4)) then (((bif (allFit (fits cH) (ah (aD v22.2.2.2.2.2.1))&&(allFit (fits p2) (c7 (aad (bc (L2 v22.2.2.2.2.2.2.2)) i24))&&true)) then some (v22.1,v22.2.1,v22.2.2.1,v22.2.2.2.1,(wrap .i64 (v22.1+1)),(map dN (ah (aD v22.2.2.2.2.2.1))),(((toNat v22.2.2.2.2.2.2.1):Nat):Int),(map kW (c7 (aad (bc (L2 v22.2.2.2.2.2.2.2)) i24)))) else none).bind fun Zp=>bif (e7 v22.2.2.2.2.2.1&&true) then some Zp else none).bind ye) else none))))) else (bif (decide ((gD (fu (aD v22.2.2.2.2.2.1) i24).2)=1)) then (bif (decide ((gD (fu (aD v22.2.2.2.2.2.1) i24).2)=0)) then (((bif (allFit (fits cH) (ah (aD v22.2.2.2.2.2.1))&&(allFit (fits p2) (c7 (aad (bc (L2 v22.2.2.2.2.2.2.2)) i24))&&true)) then some ((wrap .i64 (v22.2.1+1)),v22.2.1,v22.2.2.1,v22.2.2.2.1,v22.2.2.2.2.1,(map dN (ah (aD v22.2.2.2.2.2.1))),(((toNat v22.2.2.2.2.2.2.1):Nat):Int),(map kW (c7 (aad (bc (L2 v22.2.2.2.2.2.2.2)) i24)))) else none).bind fun w31=>bif (e7 v22.2.2.2.2.2.1&&true) then some w31 else none).bind ye) else (bif (decide ((gD (fu (aD v22.2.2.2.2.2.1) i24).2)=1)) then (((bif (allFit (fits cH) (ah (aD v22.2.2.2.2.2.1))&&(allFit (fits p2) (c7 (aad (bc (L2 v22.2.2.2.2.2.2.2)) i24))&&true)) then some (v22.1,(wrap .i64 (v22.2.1+1)),v22.2.2.1,v22.2.2.2.1,v22.2.2.2.2.1,(map dN (ah (aD v22.2.2.2.2.2.1))),(((toNat v22.2.2.2.2.2.2.1):Nat):Int),(map kW (c7 (aad (bc (L2 v22.2.2.2.2.2.2.2)) i24)))) else none).bind fun Zq=>bif (e7 v22.2.2.2.2.2.1&&true) then some Zq else none).bind ye) else (bif (decide ((gD (fu (aD v22.2.2.2.2.2.1) i24).2)=2)) then (((bif (allFit (fits cH) (ah (aD v22.2.2.2.2.2.1))&&(allFit (fits p2) (c7 (aad (bc (L2 v22.2.2.2.2.2.2.2)) i24))&&true)) then some (v22.1,v22.2.1,(wrap .i64 (v22.2.1+1)),v22.2.2.2.1,v22.2.2.2.2.1,(map dN (ah (aD v22.2.2.2.2.2.1))),(((toNat v22.2.2.2.2.2.2.1):Nat):Int),(map kW (c7 (aad (bc (L2 v22.2.2.2.2.2.2.2)) i24)))) else none).bind fun w33=>bif (e7 v22.2.2.2.2.2.1&&true) then some w33 else none).bind ye) else (bif (decide ((gD (fu (aD v22.2.2.2.2.2.1) i24).2)=3)) then (((bif (allFit (fits cH) (ah (aD v22.2.2.2.2.2.1))&&(allFit (fits p2) (c7 (aad (bc (L2 v22.2.2.2.2.2.2.2)) i24))&&true)) then some (v22.1,v22.2.1,v22.2.2.1,(wrap .i64 (v22.2.1+1)),v22.2.2.2.2.1,(map dN (ah (aD v22.2.2.2.2.2.1))),(((toNat v22.2.2.2.2.2.2.1):Nat):Int),(map kW (c7 (aad (bc (L2 v22.2.2.2.2.2.2.2)) i24)))) else none).bind fun w34=>bif (e7 v22.2.2.2.2.2.1&&true) then some w34 else none).bind ye) else (bif (decide ((gD (fu (aD v22.2.2.2.2.2.1) i24).2)=4)) then (((bif (allFit (fits cH) (ah (aD v22.2.2.2.2.2.1))&&(allFit (fits p2) (c7 (aad (bc (L2 v22.2.2.2.2.2.2.2)) i24))&&true)) then some (v22.1,v22.2.1,v22.2.2.1,v22.2.2.2.1,(wrap .i64 (v22.2.1+1)),(map dN (ah (aD v22.2.2.2.2.2.1))),(((toNat v22.2.2.2.2.2.2.1):Nat):Int),(map kW (c7 (aad (bc (L2 v22.2.2.2.2.2.2.2)) i24)))) else none).bind fun w35=>bif (e7 v22.2.2.2.2.2.1&&true) then some w35 else none).bind ye) else none))))) else (bif (decide ((gD (fu (aD v22.2.2.2.2.2.1) i24).2)=2)) then (bif (decide ((gD (fu (aD v22.2.2.2.2.2.1) i24).2)=0)) then (((bif (allFit (fits cH) (ah (aD v22.2.2.2.2.2.1))&&(allFit (fits p2) (c7 (aad (bc (L2 v22.2.2.2.2.2.2.2)) i24))&&true)) then some ((wrap .i64 (v22.2.2.1+1)),v22.2.1,v22.2.2.1,v22.2.2.2.1,v22.2.2.2.2.1,(map dN (ah (aD v22.2.2.2.2.2.1))),(((toNat v22.2.2.2.2.2.2.1):Nat):Int),(map kW (c7 (aad (bc (L2 v22.2.2.2.2.2.2.2)) i24)))) else none).bind fun w36=>bif (e7 v22.2.2.2.2.2.1&&true) then some w36 else none).bind ye) else (bif (decide ((gD (fu (aD v22.2.2.2.2.2.1) i24).2)=1)) then (((bif (allFit (fits cH) (ah (aD v22.2.2.2.2.2.1))&&(allFit (fits p2) (c7 (aad (bc (L2 v22.2.2.2.2.2.2.2)) i24))&&true)) then some (v22.1,(wrap .i64 (v22.2.2.1+1)),v22.2.2.1,v22.2.2.2.1,v22.2.2.2.2.1,(map dN (ah (aD v22.2.2.2.2.2.1))),(((toNat v22.2.2.2.2.2.2.1):Nat):Int),(map kW (c7 (aad (bc (L2 v22.2.2.2.2.2.2.2)) i24)))) else none).bind fun w37=>bif (e7 v22.2.2.2.2.2.1&&true) then some w37 else none).bind ye) else (bif (decide ((gD (fu (aD v22.2.2.2.2.2.1) i24).2)=2)) then (((bif (allFit (fits cH) (ah (aD v22.2.2.2.2.2.1))&&(allFit (fits p2) (c7 (aad (bc (L2 v22.2.2.2.2.2.2.2)) i24))&&true)) then some (v22.1,v22.2.1,(wrap .i64 (v22.2.2.1+1)),v22.2.2.2.1,v22.2.2.2.2.1,(map dN (ah (aD v22.2.2.2.2.2.1))),(((toNat v22.2.2.2.2.2.2.1):Nat):Int),(map kW (c7 (aad (bc (L2 v22.2.2.2.2.2.2.2)) i24)))) else none).bind fun w38=>bif (e7 v22.2.2.2.2.2.1&&true) then some w38 else none).bind ye) else (bif (decide ((gD (fu (aD v22.2.2.2.2.2.1) i24).2)=3)) then (((bif (allFit (fits cH) (ah (aD v22.2.2.2.2.2.1))&&(allFit (fits p2) (c7 (aad (bc (L2 v22.2.2.2.2.2.2.2)) i24))&&true)) then some (v22.1,v22.2.1,v22.2.2.1,(wrap .i64 (v22.2.2.1+1)),v22.2.2.2.2.1,(map dN (ah (aD v22.2.2.2.2.2.1))),(((toNat v22.2.2.2.2.2.2.1):Nat):Int),(map kW (c7 (aad (bc (L2 v22.2.2.2.2.2.2.2)) i24)))) else none).bind fun w39=>bif (e7 v22.2.2.2.2.2.1&&true) then some w39 else none).bind ye) else (bif (decide ((gD (fu (aD v22.2.2.2.2.2.1) i24).2)=4)) then (((bif (allFit (fits cH) (ah (aD v22.2.2.2.2.2.1))&&(allFit (fits p2) (c7 (aad (bc (L2 v22.2.2.2.2.2.2.2)) i24))&&true)) then some (v22.1,v22.2.1,v22.2.2.1,v22.2.2.2.1,(wrap .i64 (v22.2.2.1+1)),(map dN (ah (aD v22.2.2.2.2.2.1))),(((toNat v22.2.2.2.2.2.2.1):Nat):Int),(map kW (c7 (aad (bc (L2 v22.2.2.2.2.2.2.2)) i24)))) else none).bind fun w40=>bif (e7 v22.2.2.2.2.2.1&&true) then some w40 else none).bind ye) else none))))) else (bif (decide ((gD (fu (aD v22.2.2.2.2.2.1) i24).2)=3)) then (bif (decide ((gD (fu (aD v22.2.2.2.2.2.1) i24).2)=0)) then (((bif (allFit (fits cH) (ah (aD v22.2.2.2.2.2.1))&&(allFit (fits p2) (c7 (aad (bc (L2 v22.2.2.2.2.2.2.2)) i24))&&true)) then some ((wrap .i64 (v22.2.2.2.1+1)),v22.2.1,v22.2.2.1,v22.2.2.2.1,v22.2.2.2.2.1,(map dN (ah (aD v22.2.2.2.2.2.1))),(((toNat v22.2.2.2.2.2.2.1):Nat):Int),(map kW (c7 (aad (bc (L2 v22.2.2.2.2.2.2.2)) i24)))) else none).bind fun w41=>bif (e7 v22.2.2.2.2.2.1&&true) then some w41 else none).bind ye) else (bif (decide ((gD (fu (aD v22.2.2.2.2.2.1) i24).2)=1)) then (((bif (allFit (fits cH) (ah (aD v22.2.2.2.2.2.1))&&(allFit (fits p2) (c7 (aad (bc (L2 v22.2.2.2.2.2.2.2)) i24))&&true)) then some (v22.1,(wrap .i64 (v22.2.2.2.1+1)),v22.2.2.1,v22.2.2.2.1,v22.2.2.2.2.1,(map dN (ah (aD v22.2.2.2.2.2.1))),(((toNat v22.2.2.2.2.2.2.1):Nat):Int),(map kW (c7 (aad (bc (L2 v22.2.2.2.2.2.2.2)) i24)))) else none).bind fun Zr=>bif (e7 v22.2.2.2.2.2.1&&true) then some Zr else none).bind ye) else (bif (decide ((gD (fu (aD v22.2.2.2.2.2.1) i24).2)=2)) then (((bif (allFit (fits cH) (ah (aD v22.2.2.2.2.2.1))&&(allFit (fits p2) (c7 (aad (bc (L2 v22.2.2.2.2.2.2.2)) i24))&&true)) then some (v22.1,v22.2.1,(wrap .i64 (v22.2.2.2.1+1)),v22.2.2.2.1,v22.2.2.2.2.1,(map dN (ah (aD v22.2.2.2.2.2.1))),(((toNat v22.2.2.2.2.2.2.1):Nat):Int),(map kW (c7 (aad (bc (L2 v22.2.2.2.2.2.2.2)) i24)))) else none).bind fun w43=>bif (e7 v22.2.2.2.2.2.1&&true) then some w43 else none).bind ye) else (bif (decide ((gD (fu (aD v22.2.2.2.2.2.1) i24).2)=3)) then (((bif (allFit (fits cH) (ah (aD v22.2.2.2.2.2.1))&&(allFit (fits p2) (c7 (aad (bc (L2 v22.2.2.2.2.2.2.2)) i24))&&true)) then some (v22.1,v22.2.1,v22.2.2.1,(wrap .i64 (v22.2.2.2.1+1)),v22.2.2.2.2.1,(map dN (ah (aD v22.2.2.2.2.2.1))),(((toNat v22.2.2.2.2.2.2.1):Nat):Int),(map kW (c7 (aad (bc (L2 v22.2.2.2.2.2.2.2)) i24)))) else none).bind fun My=>bif (e7 v22.2.2.2.2.2.1&&true) then some My else none).bind ye) else (bif (decide ((gD (fu (aD v22.2.2.2.2.2.1) i24).2)=4)) then (((bif (allFit (fits cH) (ah (aD v22.2.2.2.2.2.1))&&(allFit (fits p2) (c7 (aad (bc (L2 v22.2.2.2.2.2.2.2)) i24))&&true)) then some (v22.1,v22.2.1,v22.2.2.1,v22.2.2.2.1,(wrap .i64 (v22.2.2.2.1+1)),(map dN (ah (aD v22.2.2.2.2.2.1))),(((toNat v22.2.2.2.2.2.2.1):Nat):Int),(map kW (c7 (aad (bc (L2 v22.2.2.2.2.2.2.2)) i24)))) else none).bind fun w45=>bif (e7 v22.2.2.2.2.2.1&&true) then some w45 else none).bind ye) else none))))) else (bif (decide ((gD (fu (aD v22.2.2.2.2.2.1) i24).2)=4)) then (bif (decide ((gD (fu (aD v22.2.2.2.2.2.1) i24).2)=0)) then (((bif (allFit (fits cH) (ah (aD v22.2.2.2.2.2.1))&&(allFit (fits p2) (c7 (aad (bc (L2 v22.2.2.2.2.2.2.2)) i24))&&true)) then some ((wrap .i64 (v22.2.2.2.2.1+1)),v22.2.1,v22.2.2.1,v22.2.2.2.1,v22.2.2.2.2.1,(map dN (ah (aD v22.2.2.2.2.2.1))),(((toNat v22.2.2.2.2.2.2.1):Nat):Int),(map kW (c7 (aad (bc (L2 v22.2.2.2.2.2.2.2)) i24)))) else none).bind fun w46=>bif (e7 v22.2.2.2.2.2.1&&true) then some w46 else none).bind ye) else (bif (decide ((gD (fu (aD v22.2.2.2.2.2.1) i24).2)=1)) then (((bif (allFit (fits cH) (ah (aD v22.2.2.2.2.2.1))&&(allFit (fits p2) (c7 (aad (bc (L2 v22.2.2.2.2.2.2.2)) i24))&&true)) then some (v22.1,(wrap .i64 (v22.2.2.2.2.1+1)),v22.2.2.1,v22.2.2.2.1,v22.2.2.2.2.1,(map dN (ah (aD v22.2.2.2.2.2.1))),(((toNat v22.2.2.2.2.2.2.1):Nat):Int),(map kW (c7 (aad (bc (L2 v22.2.2.2.2.2.2.2)) i24)))) else none).bind fun w47=>bif (e7 v22.2.2.2.2.2.1&&true) then some w47 else none).bind ye) else (bif (decide ((gD (fu (aD v22.2.2.2.2.2.1) i24).2)=2)) then (((bif (allFit (fits cH) (ah (aD v22.2.2.2.2.2.1))&&(allFit (fits p2) (c7 (aad (bc (L2 v22.2.2.2.2.2.2.2)) i24))&&true)) then some (v22.1,v22.2.1,(wrap .i64 (v22.2.2.2.2.1+1)),v22.2.2.2.1,v22.2.2.2.2.1,(map dN (ah (aD v22.2.2.2.2.2.1))),(((toNat v22.2.2.2.2.2.2.1):Nat):Int),(map kW (c7 (aad (bc (L2 v22.2.2.2.2.2.2.2)) i24)))) else none).bind fun w48=>bif (e7 v22.2.2.2.2.2.1&&true) then some w48 else none).bind ye) else (bif (decide ((gD (fu (aD v22.2.2.2.2.2.1) i24).2)=3)) then (((bif (allFit (fits cH) (ah (aD v22.2.2.2.2.2.1))&&(allFit (fits p2) (c7 (aad (bc (L2 v22.2.2.2.2.2.2.2)) i24))&&true)) then some (v22.1,v22.2.1,v22.2.2.1,(wrap .i64 (v22.2.2.2.2.1+1)),v22.2.2.2.2.1,(map dN (ah (aD v22.2.2.2.2.2.1))),(((toNat v22.2.2.2.2.2.2.1):Nat):Int),(map kW (c7 (aad (bc (L2 v22.2.2.2.2.2.2.2)) i24)))) else none).bind fun w49=>bif (e7 v22.2.2.2.2.2.1&&true) then some w49 else none).bind ye) else (bif (decide ((gD (fu (aD v22.2.2.2.2.2.1) i24).2)=4)) then (((bif (allFit (fits cH) (ah (aD v22.2.2.2.2.2.1))&&(allFit (fits p2) (c7 (aad (bc (L2 v22.2.2.2.2.2.2.2)) i24))&&true)) then some (v22.1,v22.2.1,v22.2.2.1,v22.2.2.2.1,(wrap .i64 (v22.2.2.2.2.1+1)),(map dN (ah (aD v22.2.2.2.2.2.1))),(((toNat v22.2.2.2.2.2.2.1):Nat):Int),(map kW (c7 (aad (bc (L2 v22.2.2.2.2.2.2.2)) i24)))) else none).bind fun w50=>bif (e7 v22.2.2.2.2.2.1&&true) then some w50 else none).bind ye) else none))))) else none))))) else none else none)) else none)
theorem Zs (N:Nat) (a0:List XB):T84 N a0 =
 ((bif (dB a0&&true) then some (du a0) else none).bind fun x2=>(Uu N x2).bind fun y1=>(bif (y1 != 0) then some ((0,0,0,0,0),y1) else (((bif (allFit (fits cH) (ah ([]:List (AV × AV)))&&true) then some (0,(map dN (ah ([]:List (AV × AV))))) else none:Option (Int × (List (XA × Int)))).bind fun w20=>bif (dP ([]:List (AV × AV))&&true) then some w20 else none).bind fun x54=>(az (mB N a0) N x54).bind fun o21=>(((bif (allFit (fits cH) (ah (aD o21))&&(allFit (fits p2) (c7 (List.range (aau (aD o21))))&&true)) then some (0,0,0,0,0,(map dN (ah (aD o21))),(((aau (aD o21)):Nat):Int),(map kW (c7 (List.range (aau (aD o21)))))) else none:Option (Int × Int × Int × Int × Int × (List (XA × Int)) × Int × kM)).bind fun w51=>bif (e7 o21&&true) then some w51 else none).bind fun x53=>(oA (yI N) N x53).bind fun o52=>some ((o52.1,o52.2.1,o52.2.2.1,o52.2.2.2.1,o52.2.2.2.2.1),0))))):=by kernel_rfl
end
end Go.Proofs.YtldcljfjjoidhaaGreatDoor
