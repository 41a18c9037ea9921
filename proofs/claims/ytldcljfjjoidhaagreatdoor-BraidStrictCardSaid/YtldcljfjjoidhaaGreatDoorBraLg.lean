/- What functions compute. -/
import Derived.Test.YtldcljfjjoidhaaGreatDoorBraL
import Derived.Test.YtldcljfjjoidhaaGreatDoorAmKK
set_option linter.all false
open List renaming erase→aaa, length→aac
open Sum renaming inr→aab, inl→aax
namespace Go.Proofs.YtldcljfjjoidhaaGreatDoor
open Go Go.Am
open List (map)
open Int (toNat)
open Go.IntKind (wrap)
open Go.Am.aM (fits)
set_option maxRecDepth 100000
noncomputable section
abbrev O6:EK:=.st (.cons 0 1 false .int (.cons 1 1 false .int .nil))
abbrev XA:=Int × Int
abbrev XB:=Int × Int × Int
abbrev XC:=Int × Int × Bool × Bool × Int
abbrev XT:=Int × Int × Bool × Bool × Int × Int × Int × Bool × Bool × Int
abbrev lS:=List XA
abbrev mY:=List XB
abbrev ey:=List XC
abbrev oQ:=List Int
abbrev p2:aM:=(.int .i64)
abbrev lz (v:AV):Int:=aM.bA p2 v
abbrev C6 (x:Int):AV:=aM.enc p2 x
abbrev L2 (l:List (Int)):=map C6 l
theorem fa2 (l:List Int):allFit (fits p2) (map C6 l)=true:=eD (p:=p2) rfl l
theorem md2 (l:List Int):map lz (map C6 l)=l:=iM (p:=p2) rfl l
theorem fn2 (x:Int):fits p2 (C6 x)=true:=(aM.bU p2 x rfl).1
theorem dn2 (x:Int):lz (C6 x)=x:=(aM.bU p2 x rfl).2
abbrev p3:aM:=(.int .i64)
abbrev iD (v:AV):Int:=aM.bA p3 v
abbrev tC (x:Int):AV:=aM.enc p3 x
abbrev L3 (l:List (Int)):=map tC l
abbrev F3 (l:List (Int)):=allFit (fits p3) (map tC l)
abbrev K3 (l:List (Int)):=map iD (map tC l)
theorem V5 (l:List Int):allFit (fits p3) (map tC l)=true:=eD (p:=p3) rfl l
theorem V6 (l:List Int):map iD (map tC l)=l:=iM (p:=p3) rfl l
theorem fn3 (x:Int):fits p3 (tC x)=true:=(aM.bU p3 x rfl).1
theorem dn3 (x:Int):iD (tC x)=x:=(aM.bU p3 x rfl).2
abbrev wS:aM:=(.int .i64)
abbrev kd (v:AV):Int:=aM.bA wS v
abbrev GM (x:Int):AV:=aM.enc wS x
abbrev O7 (l:List (Int)):=map GM l
abbrev da:aM:=(.agg (.cons (.int .i64) (.cons (.int .i64) .nil)))
abbrev ef (v:AV):Int × Int:=aM.bA da v
abbrev dv (x:Int × Int):AV:=aM.enc da x
abbrev bK (l:List XA):=map dv l
abbrev AH (l:List XA):=allFit (fits da) (map dv l)
abbrev Bt (l:List XA):=map ef (map dv l)
theorem kS (l:List XA):allFit (fits da) (map dv l)=true:=eD (p:=da) rfl l
theorem kT (l:List XA):map ef (map dv l)=l:=iM (p:=da) rfl l
theorem ZQ (x:Int × Int):fits da (dv x)=true:=(aM.bU da x rfl).1
theorem ZR (x:Int × Int):ef (dv x)=x:=(aM.bU da x rfl).2
abbrev ba:aM:=(.agg (.cons (.int .i64) (.cons (.int .i64) (.cons (.int .i64) .nil))))
abbrev cY (v:AV):Int × Int × Int:=aM.bA ba v
abbrev e8 (x:Int × Int × Int):AV:=aM.enc ba x
abbrev a7 (l:List XB):=map e8 l
abbrev pS (l:List XB):=allFit (fits ba) (map e8 l)
abbrev qV (l:List XB):=map cY (map e8 l)
theorem jG (l:List XB):allFit (fits ba) (map e8 l)=true:=eD (p:=ba) rfl l
theorem iZ (l:List XB):map cY (map e8 l)=l:=iM (p:=ba) rfl l
theorem ZS (x:Int × Int × Int):fits ba (e8 x)=true:=(aM.bU ba x rfl).1
theorem ZT (x:Int × Int × Int):cY (e8 x)=x:=(aM.bU ba x rfl).2
abbrev cr:aM:=(.agg (.cons (.agg (.cons (.int .i64) (.cons (.int .i64) .nil))) (.cons (.int .i64) .nil)))
abbrev de (v:AV):XA × Int:=aM.bA cr v
abbrev iO (x:XA × Int):AV:=aM.enc cr x
abbrev aA (l:List (XA × Int)):=aG (map iO l)
abbrev dL (l:List ((Int × Int) × Int)):=bc (aG (map iO l))
theorem pT (l:List (XA × Int)):allFit (fits cr) (map iO l)=true:=eD (p:=cr) rfl l
theorem pU (l:List (XA × Int)):map de (map iO l)=l:=iM (p:=cr) rfl l
def adP:List (Nat × aM):=[(22,(.agg (.ci (.ci (.ci .nil))))),(25,(.agg (.ci (.ci (.ci .nil))))),(30,(.agg (.ci (.ci .nil)))),(36,(.agg (.ci (.ci (.ci .nil))))),(43,(.agg (.ci (.ci (.cons .bool (.cons .bool (.ci .nil))))))),(50,(.agg (.ci (.ci (.cons .bool (.cons .bool (.ci .nil))))))),(59,(.int .i64)),(72,(.agg (.ci (.ci .nil)))),(130,(.list 3 (.agg (.ci (.ci (.ci .nil)))))),(144,(.int .u8)),(163,.str),(177,(.agg (.ci (.ci (.cons .bool (.cons .bool (.ci (.ci (.ci (.cons .bool (.cons .bool (.ci .nil)))))))))))),(187,(.int .i64)),(218,(.list 5 (.agg (.ci (.ci (.cons .bool (.cons .bool (.ci .nil)))))))),(154,.bool),(169,.bool),(193,(.int .i64)),(86,(.agg (.ci (.ci .nil)))),(106,(.agg (.ci (.ci (.ci .nil)))))]
def V7:List (Nat × aM)→Nat→Option aM
 |[],_=>none
 |(a,p) :: l,t=>bif Nat.beq a t then some p else V7 l t
def adQ:List (Nat × aM):=[]
def bQ:Env:={ env with Pc:=V7 adP,elg:=V7 adQ }
def MY:Jr:={ ZL with toEnv:=bQ }
def cx (N:Nat) (wP:List (Nat × aP)) (n9:List (Nat × List (Nat × cN))):fj:={ D:=MY,wP:=wv wP,n9:=H9 n9,fz:=false,N:=N }
def adR:List (Nat × cN):=[(26,.loop [] ⟨(.ci .nil),[7],[],[],[],[]⟩ [(.ret,⟨(.ci .nil),[2],[],[],[],[]⟩),(.ex 0,⟨.nil,[],[],[],[],[]⟩)])]
def wx (N:Nat):oQ→Option Int:=(cx N [] [(124,adR)]).fn 1000 124 (.cons (.list 1 (.int .i64)) .nil) (.int .i64)
def MZ (N:Nat):aP:=⟨(.cons (.list 1 (.int .i64)) .nil),(.int .i64),wx N⟩
theorem wT (N:Nat):ai bQ 124 (MZ N):=fj.bH (fun _ _ h=>by cases h) (by kernel_rfl) (by kernel_rfl)
def wU (N:Nat) (a0:List Int) (v1:Int):Option (Int ⊕ (Int ⊕ Unit)):=
 (bif (decide (v1 < (((O7 a0).length:Nat):Int))) then bif (decide ((0:Int)≤v1∧v1 < ((O7 a0).length:Int))&&fits wS (ah (O7 a0) (toNat v1))) then (bif ((kd (ah (O7 a0) (toNat v1))) != 0) then (some (aab (aax (kd (ah (O7 a0) (toNat v1)))))) else (some (aax (wrap .i64 (v1+1))))) else none else (some (aab (aab ()))))
theorem Rp (N:Nat) (a0:List Int):wx N a0 =
 ((aH (wU N a0) N 0).bind fun o6=>(Sum.elim (fun o7=>some o7) (fun o8=>some 0) o6)):=by kernel_rfl
def AI (N:Nat):Bool × Int→Option Int:=(cx N [] []).fn 1000 126 (.cons .bool (.ci .nil)) (.int .i64)
def M0 (N:Nat):aP:=⟨(.cons .bool (.ci .nil)),(.int .i64),AI N⟩
theorem wV (N:Nat):ai bQ 126 (M0 N):=fj.bH (fun _ _ h=>by cases h) (by kernel_rfl) (by kernel_rfl)
theorem Rq (N:Nat) (a0:Bool) (a1:Int):AI N (a0,a1) =
 (bif a0 then some a1 else some 0):=by kernel_rfl
def adS:List (Nat × cN):=[(6,.join [(.norm,⟨(.ci .nil),[6],[],[],[],[]⟩)])]
def M1 (N:Nat):Int × Int × Int→Option Int:=(cx N [(126,M0 N)] [(194,adS)]).fn 1000 194 (.ci (.ci (.ci .nil))) (.int .i64)
def ZU (N:Nat):aP:=⟨(.ci (.ci (.ci .nil))),(.int .i64),M1 N⟩
theorem Rr (N:Nat):ai bQ 194 (ZU N):=fj.bH (eH (wV N) rB) (by kernel_rfl) (by kernel_rfl)
theorem Rs (N:Nat) (a0:Int) (a1:Int) (a2:Int):M1 N (a0,a1,a2) =
 (((bif (decide (a0 < a1)) then (AI N (true,3)).bind fun y1=>(some y1) else (AI N ((decide (a0 > a2)),3)).bind fun y2=>(some y2)):Option Int).bind fun o3=>some o3):=by kernel_rfl
def JL (N:Nat):XA→Option Int:=(cx N [(124,MZ N),(194,ZU N)] []).fn 1000 157 (.cons da .nil) (.int .i64)
def V8 (N:Nat):aP:=⟨(.cons da .nil),(.int .i64),JL N⟩
theorem Ij (N:Nat):ai bQ 157 (V8 N):=fj.bH (eH (wT N) (eH (Rr N) rB)) (by kernel_rfl) (by kernel_rfl)
theorem Ik (N:Nat) (a0:Int × Int):JL N a0 =
 (M1 N (a0.1,(-100000),100000)).bind fun y1=>bif ((a0.2 == a0.2)&&true) then (M1 N (a0.2,(-100000),100000)).bind fun y2=>((bif (allFit (fits wS) [(AV.int .i64 y1),(AV.int .i64 y2)]&&true) then some (map kd [(AV.int .i64 y1),(AV.int .i64 y2)]) else none).bind fun x4=>(wx N x4).bind fun y3=>some y3) else none:=by kernel_rfl
def Ex (N:Nat):XA→Option Int:=(cx N [(124,MZ N),(126,M0 N),(157,V8 N)] []).fn 1000 151 (.cons da .nil) (.int .i64)
def V9 (N:Nat):aP:=⟨(.cons da .nil),(.int .i64),Ex N⟩
theorem Il (N:Nat):ai bQ 151 (V9 N):=fj.bH (eH (wT N) (eH (wV N) (eH (Ij N) rB))) (by kernel_rfl) (by kernel_rfl)
theorem Rt (N:Nat) (a0:Int × Int):Ex N a0 =
 (JL N (a0.1,a0.2)).bind fun y1=>bif ((a0.2 == a0.2)&&((a0.1 == a0.1)&&true)) then (AI N (((IN .i64 (IP .i64 a0.1 a0.2) 1) != 0),14)).bind fun y2=>((bif (allFit (fits wS) [(AV.int .i64 y1),(AV.int .i64 y2)]&&true) then some (map kd [(AV.int .i64 y1),(AV.int .i64 y2)]) else none).bind fun x4=>(wx N x4).bind fun y3=>some y3) else none:=by kernel_rfl
def Ey (N:Nat):XB→Option ((Int × Int × Int × Int)):=(cx N [] []).fn 1000 158 (.cons ba .nil) (.agg (.ci (.ci (.ci (.ci .nil)))))
def Ru (N:Nat):aP:=⟨(.cons ba .nil),(.agg (.ci (.ci (.ci (.ci .nil))))),Ey N⟩
theorem CF (N:Nat):ai bQ 158 (Ru N):=fj.bH (fun _ _ h=>by cases h) (by kernel_rfl) (by kernel_rfl)
theorem Im (N:Nat) (a0:Int × Int × Int):Ey N a0 =
 some (a0.1,a0.2.1,(wrap .i64 (a0.1+a0.2.2)),(wrap .i64 (a0.2.1+1))):=by kernel_rfl
def adT:List (Nat × cN):=[(12,.join [(.norm,⟨(.ci .nil),[3],[],[],[],[]⟩)])]
def M2 (N:Nat):XB→Option Int:=(cx N [(124,MZ N),(126,M0 N),(151,V9 N),(157,V8 N),(158,Ru N)] [(125,adT)]).fn 1000 125 (.cons ba .nil) (.int .i64)
def ZV (N:Nat):aP:=⟨(.cons ba .nil),(.int .i64),M2 N⟩
theorem Rv (N:Nat):ai bQ 125 (ZV N):=fj.bH (eH (wT N) (eH (wV N) (eH (Il N) (eH (Ij N) (eH (CF N) rB))))) (by kernel_rfl) (by kernel_rfl)
theorem Rw (N:Nat) (a0:Int × Int × Int):M2 N a0 =
 (((Ex N (a0.1,a0.2.1)).bind fun y1=>bif ((a0.2.2 == a0.2.2)&&true) then (bif (a0.2.2 != (-1)) then (AI N ((a0.2.2 != 1),13)).bind fun y2=>((bif (allFit (fits wS) [(AV.int .i64 y1),(AV.int .i64 y2)]&&true) then some (map kd [(AV.int .i64 y1),(AV.int .i64 y2)]) else none).bind fun x4=>(wx N x4).bind fun y3=>(some y3)) else (AI N (false,13)).bind fun y5=>((bif (allFit (fits wS) [(AV.int .i64 y1),(AV.int .i64 y5)]&&true) then some (map kd [(AV.int .i64 y1),(AV.int .i64 y5)]) else none).bind fun x7=>(wx N x7).bind fun y6=>(some y6))) else none).bind fun o8=>(bif (o8 != 0) then some o8 else (Ey N (a0.1,a0.2.1,a0.2.2)).bind fun y9=>(JL N (y9.2.2.1,y9.2.2.2)).bind fun y10=>some y10)):=by kernel_rfl
def adU:List (Nat × cN):=[(58,.loop [] ⟨(.ci .nil),[8],[],[],[],[]⟩ [(.ret,⟨(.ci .nil),[2],[],[],[],[]⟩),(.ex 0,⟨.nil,[],[],[],[],[]⟩)])]
def Rx (N:Nat):oQ→Option Int:=(cx N [] [(159,adU)]).fn 1000 159 (.cons (.list 1 (.int .i64)) .nil) (.int .i64)
def ZW (N:Nat):aP:=⟨(.cons (.list 1 (.int .i64)) .nil),(.int .i64),Rx N⟩
theorem Ry (N:Nat):ai bQ 159 (ZW N):=fj.bH (fun _ _ h=>by cases h) (by kernel_rfl) (by kernel_rfl)
def wW (N:Nat) (a0:List Int) (v1:Int):Option (Int ⊕ (Int ⊕ Unit)):=
 (bif (decide (v1 < (((L3 a0).length:Nat):Int))) then bif (decide ((0:Int)≤v1∧v1 < ((L3 a0).length:Int))&&fits p3 (ah (L3 a0) (toNat v1))) then (bif ((iD (ah (L3 a0) (toNat v1))) != 0) then (some (aab (aax (iD (ah (L3 a0) (toNat v1)))))) else (some (aax (wrap .i64 (v1+1))))) else none else (some (aab (aab ()))))
theorem Rz (N:Nat) (a0:List Int):Rx N a0 =
 ((aH (wW N a0) N 0).bind fun o6=>(Sum.elim (fun o7=>some o7) (fun o8=>some 0) o6)):=by kernel_rfl
def RA (N:Nat):Int→Option Bool:=(cx N [] []).fn 1000 195 (.ci .nil) .bool
def ZX (N:Nat):aP:=⟨(.ci .nil),.bool,RA N⟩
theorem RB (N:Nat):ai bQ 195 (ZX N):=fj.bH (fun _ _ h=>by cases h) (by kernel_rfl) (by kernel_rfl)
theorem RC (N:Nat) (a0:Int):RA N a0 =
 some (a0 != a0):=by kernel_rfl
def JM (N:Nat):Int × Int→Option Int:=(cx N [(195,ZX N)] []).fn 1000 160 (.ci (.ci .nil)) (.int .i64)
def ZY (N:Nat):aP:=⟨(.ci (.ci .nil)),(.int .i64),JM N⟩
theorem RD (N:Nat):ai bQ 160 (ZY N):=fj.bH (eH (RB N) rB) (by kernel_rfl) (by kernel_rfl)
theorem RE (N:Nat) (a0:Int) (a1:Int):JM N (a0,a1) =
 (RA N a0).bind fun y1=>(RA N a1).bind fun y2=>(bif y1 then (bif y2 then some 0 else some (-1)) else (bif y2 then some 1 else (bif (decide (a0 < a1)) then some (-1) else (bif (decide (a0 > a1)) then some 1 else some 0)))):=by kernel_rfl
def M3 (N:Nat):XB × XB→Option Int:=(cx N [(159,ZW N),(160,ZY N)] []).fn 1000 127 (.cons ba (.cons ba .nil)) (.int .i64)
def ZZ (N:Nat):aP:=⟨(.cons ba (.cons ba .nil)),(.int .i64),M3 N⟩
theorem RG (N:Nat):ai bQ 127 (ZZ N):=fj.bH (eH (Ry N) (eH (RD N) rB)) (by kernel_rfl) (by kernel_rfl)
theorem RH (N:Nat) (a0:Int × Int × Int) (a1:Int × Int × Int):M3 N (a0,a1) =
 (JM N (a0.2.1,a1.2.1)).bind fun y1=>bif ((a1.2.2 == a1.2.2)&&((a0.2.2 == a0.2.2)&&((a1.1 == a1.1)&&((a0.1 == a0.1)&&true)))) then (JM N (a0.1,a1.1)).bind fun y2=>bif ((a1.2.2 == a1.2.2)&&((a0.2.2 == a0.2.2)&&true)) then (JM N (a0.2.2,a1.2.2)).bind fun y3=>((bif (allFit (fits p3) [(AV.int .i64 y1),(AV.int .i64 y2),(AV.int .i64 y3)]&&true) then some (map iD [(AV.int .i64 y1),(AV.int .i64 y2),(AV.int .i64 y3)]) else none).bind fun x5=>(Rx N x5).bind fun y4=>some y4) else none else none:=by kernel_rfl
def c79:List (Nat × cN):=[(58,.loop [] ⟨(.ci .nil),[11],[],[],[],[]⟩ [(.ret,⟨(.ci .nil),[2],[],[],[],[]⟩),(.ex 0,⟨.nil,[],[],[],[],[]⟩)]),
 (7474,.join [(.norm,⟨(.ci .nil),[5],[],[],[],[]⟩)])]
def Wa (N:Nat):mY→Option Int:=(cx N [(124,MZ N),(125,ZV N),(126,M0 N),(127,ZZ N)] [(79,c79)]).fn 1000 79 (.cons (.list 3 ba) .nil) (.int .i64)
def e79 (N:Nat):aP:=⟨(.cons (.list 3 ba) .nil),(.int .i64),Wa N⟩
theorem M4 (N:Nat):ai bQ 79 (e79 N):=fj.bH (eH (wT N) (eH (Rv N) (eH (wV N) (eH (RG N) rB)))) (by kernel_rfl) (by kernel_rfl)
def zk (N:Nat) (a0:List XB) (v1:Int):Option (Int ⊕ (Int ⊕ Unit)):=
 (bif (decide (v1 < (((a7 a0).length:Nat):Int))) then bif (decide ((0:Int)≤v1∧v1 < ((a7 a0).length:Int))&&fits ba (ah (a7 a0) (toNat v1))) then (((M2 N ((cY (ah (a7 a0) (toNat v1))).1,(cY (ah (a7 a0) (toNat v1))).2.1,(cY (ah (a7 a0) (toNat v1))).2.2)).bind fun y2=>(bif (decide (v1 > 0)) then bif (decide ((0:Int)≤(if (wrap .i64 (v1 - 1)) > 0 then (wrap .i64 (v1 - 1)) else 0)∧(if (wrap .i64 (v1 - 1)) > 0 then (wrap .i64 (v1 - 1)) else 0) < ((a7 a0).length:Int))&&fits ba (ah (a7 a0) (toNat (if (wrap .i64 (v1 - 1)) > 0 then (wrap .i64 (v1 - 1)) else 0)))) then (M3 N (((cY (ah (a7 a0) (toNat (if (wrap .i64 (v1 - 1)) > 0 then (wrap .i64 (v1 - 1)) else 0)))).1,(cY (ah (a7 a0) (toNat (if (wrap .i64 (v1 - 1)) > 0 then (wrap .i64 (v1 - 1)) else 0)))).2.1,(cY (ah (a7 a0) (toNat (if (wrap .i64 (v1 - 1)) > 0 then (wrap .i64 (v1 - 1)) else 0)))).2.2),((cY (ah (a7 a0) (toNat v1))).1,(cY (ah (a7 a0) (toNat v1))).2.1,(cY (ah (a7 a0) (toNat v1))).2.2))).bind fun y3=>(AI N ((decide (y3≥0)),11)).bind fun y4=>((bif (allFit (fits wS) [(AV.int .i64 y2),(AV.int .i64 y4)]&&true) then some (map kd [(AV.int .i64 y2),(AV.int .i64 y4)]) else none).bind fun x6=>(wx N x6).bind fun y5=>(some y5)) else none else (AI N (false,11)).bind fun y7=>((bif (allFit (fits wS) [(AV.int .i64 y2),(AV.int .i64 y7)]&&true) then some (map kd [(AV.int .i64 y2),(AV.int .i64 y7)]) else none).bind fun x9=>(wx N x9).bind fun y8=>(some y8))):Option Int).bind fun D7=>(bif (D7 != 0) then (some (aab (aax D7))) else (some (aax (wrap .i64 (v1+1)))))) else none else (some (aab (aab ()))))
theorem Wb (N:Nat) (a0:List XB):Wa N a0 =
 (bif (decide ((((a7 a0).length:Nat):Int) > 4096)) then some 5 else ((aH (zk N a0) N 0).bind fun Z0=>(Sum.elim (fun GN=>some GN) (fun o17=>some 0) Z0))):=by kernel_rfl
def c84:List (Nat × cN):=[(122,.mW [] ⟨(.ci (.ci (.ci (.ci (.ci (.cons (.list 2 cr) (.ci (.cons (.list 1 (.int .i64)) .nil)))))))),[],[],[(5,5)],[.map,.oE 0],[]⟩ [(.ex 0,⟨(.ci (.ci (.ci (.ci (.ci (.cons (.list 2 cr) (.ci (.cons (.list 1 (.int .i64)) .nil)))))))),[],[],[(5,5)],[.map,.oE 0],[]⟩)])]
def RI:List (Nat × cN):=[(58,.loop [] ⟨(.ci (.cons (.list 2 cr) .nil)),[11],[],[],[.map],[]⟩ [(.ex 0,⟨(.cons (.list 2 cr) .nil),[],[],[],[.map],[]⟩)]),
 (14950,.loop [] ⟨(.ci (.cons (.list 2 cr) .nil)),[17],[],[],[.map],[]⟩ [(.ex 2,⟨(.cons (.list 2 cr) .nil),[],[],[],[.map],[]⟩)]),
 (956824,.join [(.norm,⟨(.ci (.ci (.cons (.list 2 cr) .nil))),[],[],[(7,2)],[.map],[(7,7,0)]⟩)])]
def T84 (N:Nat):mY→Option ((Int × Int × Int × Int × Int) × Int):=(cx N [(79,e79 N),(158,Ru N)] [(84,c84),(131,RI)]).fn 1000 84 (.cons (.list 3 ba) .nil) (.bk (.cons (.agg (.ci (.ci (.ci (.ci (.ci .nil)))))) (.ci .nil)))
def e84 (N:Nat):aP:=⟨(.cons (.list 3 ba) .nil),(.bk (.cons (.agg (.ci (.ci (.ci (.ci (.ci .nil)))))) (.ci .nil))),T84 N⟩
theorem Wc (N:Nat):ai bQ 84 (e84 N):=fj.bH (eH (M4 N) (eH (CF N) rB)) (by kernel_rfl) (by kernel_rfl)
def dZ (o8:((Int × Int × (List (XA × Int))))):=
 (eK O6 (AV.agg [(AV.int .i64 o8.1),(AV.int .i64 o8.2.1)]) (AV.int .i64 0) (aA o8.2.2))
def dw (o8:((Int × Int × (List (XA × Int))))):=
 (gJ O6 (AV.agg [(AV.int .i64 o8.1),(AV.int .i64 o8.2.1)]) (dZ o8) (aA o8.2.2))
def eT (o8:((Int × Int × (List (XA × Int))))):=
 (jP (dw o8) (toNat ((iC O6 (AV.agg [(AV.int .i64 o8.1),(AV.int .i64 o8.2.1)]) (aA o8.2.2):Nat):Int)) (AV.int .i64 (wrap .i64 ((iD (dZ o8))+1))))
def dP (N:Nat) (y4:(Int × Int × Int × Int)) (v5:Int × (List (XA × Int))):Option ((Int × (List (XA × Int))) ⊕ (((List (XA × Int))))):=
 (bif (decide (v5.1 < 2)) then (((bif (decide (v5.1=0)) then ((bif (allFit (fits cr) (ab (aA v5.2))&&true) then some (y4.1,y4.2.1,(map de (ab (aA v5.2)))) else none).bind fun w6=>bif (dL v5.2&&true) then some w6 else none) else (bif (decide (v5.1=1)) then ((bif (allFit (fits cr) (ab (aA v5.2))&&true) then some (y4.2.2.1,y4.2.2.2,(map de (ab (aA v5.2)))) else none).bind fun w7=>bif (dL v5.2&&true) then some w7 else none) else none)):Option ((Int × Int × (List (XA × Int))))).bind fun o8=>bif (gC O6 (AV.agg [(AV.int .i64 o8.1),(AV.int .i64 o8.2.1)]) (aA o8.2.2)&&fits p3 (dZ o8)) then bif gC O6 (AV.agg [(AV.int .i64 o8.1),(AV.int .i64 o8.2.1)]) (aA o8.2.2) then bif (((gC O6 (AV.agg [(AV.int .i64 o8.1),(AV.int .i64 o8.2.1)]) (dw o8)&&fits p3 (eK O6 (AV.agg [(AV.int .i64 o8.1),(AV.int .i64 o8.2.1)]) (AV.int .i64 0) (dw o8)))&&((iD (eK O6 (AV.agg [(AV.int .i64 o8.1),(AV.int .i64 o8.2.1)]) (AV.int .i64 0) (dw o8))) == (iD (dZ o8))))&&true) then bif (decide (0≤((iC O6 (AV.agg [(AV.int .i64 o8.1),(AV.int .i64 o8.2.1)]) (aA o8.2.2):Nat):Int))&&decide (toNat ((iC O6 (AV.agg [(AV.int .i64 o8.1),(AV.int .i64 o8.2.1)]) (aA o8.2.2):Nat):Int) < aac (dw o8))) then (((bif (allFit (fits cr) (ab (eT o8))&&true) then some ((wrap .i64 (v5.1+1)),(map de (ab (eT o8)))) else none).bind fun w9=>bif (bc (eT o8)&&true) then some w9 else none).bind fun Z1=>some (aax Z1)) else none else none else none else none) else (((bif (allFit (fits cr) (ab (aA v5.2))&&true) then some (map de (ab (aA v5.2))) else none).bind fun M5=>bif (dL v5.2&&true) then some M5 else none).bind fun Z2=>some (aab Z2)))
def kU (N:Nat) (a0:List XB) (v3:Int × (List (XA × Int))):Option ((Int × (List (XA × Int))) ⊕ (((List (XA × Int))))):=
 (bif (decide (v3.1 < (((a7 a0).length:Nat):Int))) then bif (decide ((0:Int)≤v3.1∧v3.1 < ((a7 a0).length:Int))&&fits ba (ah (a7 a0) (toNat v3.1))) then (Ey N ((cY (ah (a7 a0) (toNat v3.1))).1,(cY (ah (a7 a0) (toNat v3.1))).2.1,(cY (ah (a7 a0) (toNat v3.1))).2.2)).bind fun y4=>(((bif (allFit (fits cr) (ab (aA v3.2))&&true) then some (0,(map de (ab (aA v3.2)))) else none:Option (Int × (List (XA × Int)))).bind fun Ez=>bif (dL v3.2&&true) then some Ez else none).bind fun x17=>(aH (dP N y4) N x17).bind fun Io=>(((bif (allFit (fits cr) (ab (aA Io))&&true) then some ((wrap .i64 (v3.1+1)),(map de (ab (aA Io)))) else none).bind fun Z3=>bif (dL Io&&true) then some Z3 else none).bind fun u16=>some (aax u16))) else none else (((bif (allFit (fits cr) (ab (aA v3.2))&&true) then some (map de (ab (aA v3.2))) else none).bind fun w18=>bif (dL v3.2&&true) then some w18 else none).bind fun u19=>some (aab u19)))
def wX (N:Nat) (wy:(Int × Int × Int × Int × Int × (List (XA × Int)) × Int × oQ)→Option ((Int × Int × Int × Int × Int × (List (XA × Int)) × Int × oQ))) (v22:Int × Int × Int × Int × Int × (List (XA × Int)) × Int × oQ):Option ((Int × Int × Int × Int × Int × (List (XA × Int)) × Int × oQ)):=
 (bif (decide (aac (aA v22.2.2.2.2.2.1)=(toNat v22.2.2.2.2.2.2.1))) then (bif (List.isEmpty (aZ (L2 v22.2.2.2.2.2.2.2))) then ((bif (allFit (fits cr) (ab (aA v22.2.2.2.2.2.1))&&(allFit (fits p2) (cI (aZ (L2 v22.2.2.2.2.2.2.2)))&&true)) then some (v22.1,v22.2.1,v22.2.2.1,v22.2.2.2.1,v22.2.2.2.2.1,(map de (ab (aA v22.2.2.2.2.2.1))),(((toNat v22.2.2.2.2.2.2.1):Nat):Int),(map lz (cI (aZ (L2 v22.2.2.2.2.2.2.2))))) else none).bind fun w25=>bif (dL v22.2.2.2.2.2.1&&true) then some w25 else none) else (PJ (aZ (L2 v22.2.2.2.2.2.2.2)) fun i24=>bif (fits da (dX (aA v22.2.2.2.2.2.1) i24).1&&fits p3 (dX (aA v22.2.2.2.2.2.1) i24).2) then bif (decide (aac (aA v22.2.2.2.2.2.1)=(toNat v22.2.2.2.2.2.2.1))&&decide (i24 < (toNat v22.2.2.2.2.2.2.1))&&(fits da (dX (aA v22.2.2.2.2.2.1) i24).1&&fits p3 (dX (aA v22.2.2.2.2.2.1) i24).2)) then (bif (decide ((iD (dX (aA v22.2.2.2.2.2.1) i24).2)=0)) then (bif (decide ((iD (dX (aA v22.2.2.2.2.2.1) i24).2)=0)) then (((bif (allFit (fits cr) (ab (aA v22.2.2.2.2.2.1))&&(allFit (fits p2) (cI (aaa (aZ (L2 v22.2.2.2.2.2.2.2)) i24))&&true)) then some ((wrap .i64 (v22.1+1)),v22.2.1,v22.2.2.1,v22.2.2.2.1,v22.2.2.2.2.1,(map de (ab (aA v22.2.2.2.2.2.1))),(((toNat v22.2.2.2.2.2.2.1):Nat):Int),(map lz (cI (aaa (aZ (L2 v22.2.2.2.2.2.2.2)) i24)))) else none).bind fun w26=>bif (dL v22.2.2.2.2.2.1&&true) then some w26 else none).bind wy) else (bif (decide ((iD (dX (aA v22.2.2.2.2.2.1) i24).2)=1)) then (((bif (allFit (fits cr) (ab (aA v22.2.2.2.2.2.1))&&(allFit (fits p2) (cI (aaa (aZ (L2 v22.2.2.2.2.2.2.2)) i24))&&true)) then some (v22.1,(wrap .i64 (v22.1+1)),v22.2.2.1,v22.2.2.2.1,v22.2.2.2.2.1,(map de (ab (aA v22.2.2.2.2.2.1))),(((toNat v22.2.2.2.2.2.2.1):Nat):Int),(map lz (cI (aaa (aZ (L2 v22.2.2.2.2.2.2.2)) i24)))) else none).bind fun Wd=>bif (dL v22.2.2.2.2.2.1&&true) then some Wd else none).bind wy) else (bif (decide ((iD (dX (aA v22.2.2.2.2.2.1) i24).2)=2)) then (((bif (allFit (fits cr) (ab (aA v22.2.2.2.2.2.1))&&(allFit (fits p2) (cI (aaa (aZ (L2 v22.2.2.2.2.2.2.2)) i24))&&true)) then some (v22.1,v22.2.1,(wrap .i64 (v22.1+1)),v22.2.2.2.1,v22.2.2.2.2.1,(map de (ab (aA v22.2.2.2.2.2.1))),(((toNat v22.2.2.2.2.2.2.1):Nat):Int),(map lz (cI (aaa (aZ (L2 v22.2.2.2.2.2.2.2)) i24)))) else none).bind fun w28=>bif (dL v22.2.2.2.2.2.1&&true) then some w28 else none).bind wy) else (bif (decide ((iD (dX (aA v22.2.2.2.2.2.1) i24).2)=3)) then (((bif (allFit (fits cr) (ab (aA v22.2.2.2.2.2.1))&&(allFit (fits p2) (cI (aaa (aZ (L2 v22.2.2.2.2.2.2.2)) i24))&&true)) then some (v22.1,v22.2.1,v22.2.2.1,(wrap .i64 (v22.1+1)),v22.2.2.2.2.1,(map de (ab (aA v22.2.2.2.2.2.1))),(((toNat v22.2.2.2.2.2.2.1):Nat):Int),(map lz (cI (aaa (aZ (L2 v22.2.2.2.2.2.2.2)) i24)))) else none).bind fun Z4=>bif (dL v22.2.2.2.2.2.1&&true) then some Z4 else none).bind wy) else (bif (decide ((iD (dX (aA v22.2.2.2.2.2.1) i24).2)=4)) then (((bif (allFit (fits cr) (ab (aA v22.2.2.2.2.2.1))&&(allFit (fits p2) (cI (aaa (aZ (L2 v22.2.2.2.2.2.2.2)) i24))&&true)) then some (v22.1,v22.2.1,v22.2.2.1,v22.2.2.2.1,(wrap .i64 (v22.1+1)),(map de (ab (aA v22.2.2.2.2.2.1))),(((toNat v22.2.2.2.2.2.2.1):Nat):Int),(map lz (cI (aaa (aZ (L2 v22.2.2.2.2.2.2.2)) i24)))) else none).bind fun w30=>bif (dL v22.2.2.2.2.2.1&&true) then some w30 else none).bind wy) else none))))) else (bif (decide ((iD (dX (aA v22.2.2.2.2.2.1) i24).2)=1)) then (bif (decide ((iD (dX (aA v22.2.2.2.2.2.1) i24).2)=0)) then (((bif (allFit (fits cr) (ab (aA v22.2.2.2.2.2.1))&&(allFit (fits p2) (cI (aaa (aZ (L2 v22.2.2.2.2.2.2.2)) i24))&&true)) then some ((wrap .i64 (v22.2.1+1)),v22.2.1,v22.2.2.1,v22.2.2.2.1,v22.2.2.2.2.1,(map de (ab (aA v22.2.2.2.2.2.1))),(((toNat v22.2.2.2.2.2.2.1):Nat):Int),(map lz (cI (aaa (aZ (L2 v22.2.2.2.2.2.2.2)) i24)))) else none).bind fun w31=>bif (dL v22.2.2.2.2.2.1&&true) then some w31 else none).bind wy) else (bif (decide ((iD (dX (aA v22.2.2.2.2.2.1) i24).2)=1)) then (((bif (allFit (fits cr) (ab (aA v22.2.2.2.2.2.1))&&(allFit (fits p2) (cI (aaa (aZ (L2 v22.2.2.2.2.2.2.2)) i24))&&true)) then some (v22.1,(wrap .i64 (v22.2.1+1)),v22.2.2.1,v22.2.2.2.1,v22.2.2.2.2.1,(map de (ab (aA v22.2.2.2.2.2.1))),(((toNat v22.2.2.2.2.2.2.1):Nat):Int),(map lz (cI (aaa (aZ (L2 v22.2.2.2.2.2.2.2)) i24)))) else none).bind fun Z5=>bif (dL v22.2.2.2.2.2.1&&true) then some Z5 else none).bind wy) else (bif (decide ((iD (dX (aA v22.2.2.2.2.2.1) i24).2)=2)) then (((bif (allFit (fits cr) (ab (aA v22.2.2.2.2.2.1))&&(allFit (fits p2) (cI (aaa (aZ (L2 v22.2.2.2.2.2.2.2)) i24))&&true)) then some (v22.1,v22.2.1,(wrap .i64 (v22.2.1+1)),v22.2.2.2.1,v22.2.2.2.2.1,(map de (ab (aA v22.2.2.2.2.2.1))),(((toNat v22.2.2.2.2.2.2.1):Nat):Int),(map lz (cI (aaa (aZ (L2 v22.2.2.2.2.2.2.2)) i24)))) else none).bind fun w33=>bif (dL v22.2.2.2.2.2.1&&true) then some w33 else none).bind wy) else (bif (decide ((iD (dX (aA v22.2.2.2.2.2.1) i24).2)=3)) then (((bif (allFit (fits cr) (ab (aA v22.2.2.2.2.2.1))&&(allFit (fits p2) (cI (aaa (aZ (L2 v22.2.2.2.2.2.2.2)) i24))&&true)) then some (v22.1,v22.2.1,v22.2.2.1,(wrap .i64 (v22.2.1+1)),v22.2.2.2.2.1,(map de (ab (aA v22.2.2.2.2.2.1))),(((toNat v22.2.2.2.2.2.2.1):Nat):Int),(map lz (cI (aaa (aZ (L2 v22.2.2.2.2.2.2.2)) i24)))) else none).bind fun w34=>bif (dL v22.2.2.2.2.2.1&&true) then some w34 else none).bind wy) else (bif (decide ((iD (dX (aA v22.2.2.2.2.2.1) i24).2)=4)) then (((bif (allFit (fits cr) (ab (aA v22.2.2.2.2.2.1))&&(allFit (fits p2) (cI (aaa (aZ (L2 v22.2.2.2.2.2.2.2)) i24))&&true)) then some (v22.1,v22.2.1,v22.2.2.1,v22.2.2.2.1,(wrap .i64 (v22.2.1+1)),(map de (ab (aA v22.2.2.2.2.2.1))),(((toNat v22.2.2.2.2.2.2.1):Nat):Int),(map lz (cI (aaa (aZ (L2 v22.2.2.2.2.2.2.2)) i24)))) else none).bind fun w35=>bif (dL v22.2.2.2.2.2.1&&true) then some w35 else none).bind wy) else none))))) else (bif (decide ((iD (dX (aA v22.2.2.2.2.2.1) i24).2)=2)) then (bif (decide ((iD (dX (aA v22.2.2.2.2.2.1) i24).2)=0)) then (((bif (allFit (fits cr) (ab (aA v22.2.2.2.2.2.1))&&(allFit (fits p2) (cI (aaa (aZ (L2 v22.2.2.2.2.2.2.2)) i24))&&true)) then some ((wrap .i64 (v22.2.2.1+1)),v22.2.1,v22.2.2.1,v22.2.2.2.1,v22.2.2.2.2.1,(map de (ab (aA v22.2.2.2.2.2.1))),(((toNat v22.2.2.2.2.2.2.1):Nat):Int),(map lz (cI (aaa (aZ (L2 v22.2.2.2.2.2.2.2)) i24)))) else none).bind fun Z6=>bif (dL v22.2.2.2.2.2.1&&true) then some Z6 else none).bind wy) else (bif (decide ((iD (dX (aA v22.2.2.2.2.2.1) i24).2)=1)) then (((bif (allFit (fits cr) (ab (aA v22.2.2.2.2.2.1))&&(allFit (fits p2) (cI (aaa (aZ (L2 v22.2.2.2.2.2.2.2)) i24))&&true)) then some (v22.1,(wrap .i64 (v22.2.2.1+1)),v22.2.2.1,v22.2.2.2.1,v22.2.2.2.2.1,(map de (ab (aA v22.2.2.2.2.2.1))),(((toNat v22.2.2.2.2.2.2.1):Nat):Int),(map lz (cI (aaa (aZ (L2 v22.2.2.2.2.2.2.2)) i24)))) else none).bind fun Z7=>bif (dL v22.2.2.2.2.2.1&&true) then some Z7 else none).bind wy) else (bif (decide ((iD (dX (aA v22.2.2.2.2.2.1) i24).2)=2)) then (((bif (allFit (fits cr) (ab (aA v22.2.2.2.2.2.1))&&(allFit (fits p2) (cI (aaa (aZ (L2 v22.2.2.2.2.2.2.2)) i24))&&true)) then some (v22.1,v22.2.1,(wrap .i64 (v22.2.2.1+1)),v22.2.2.2.1,v22.2.2.2.2.1,(map de (ab (aA v22.2.2.2.2.2.1))),(((toNat v22.2.2.2.2.2.2.1):Nat):Int),(map lz (cI (aaa (aZ (L2 v22.2.2.2.2.2.2.2)) i24)))) else none).bind fun w38=>bif (dL v22.2.2.2.2.2.1&&true) then some w38 else none).bind wy) else (bif (decide ((iD (dX (aA v22.2.2.2.2.2.1) i24).2)=3)) then (((bif (allFit (fits cr) (ab (aA v22.2.2.2.2.2.1))&&(allFit (fits p2) (cI (aaa (aZ (L2 v22.2.2.2.2.2.2.2)) i24))&&true)) then some (v22.1,v22.2.1,v22.2.2.1,(wrap .i64 (v22.2.2.1+1)),v22.2.2.2.2.1,(map de (ab (aA v22.2.2.2.2.2.1))),(((toNat v22.2.2.2.2.2.2.1):Nat):Int),(map lz (cI (aaa (aZ (L2 v22.2.2.2.2.2.2.2)) i24)))) else none).bind fun Z8=>bif (dL v22.2.2.2.2.2.1&&true) then some Z8 else none).bind wy) else (bif (decide ((iD (dX (aA v22.2.2.2.2.2.1) i24).2)=4)) then (((bif (allFit (fits cr) (ab (aA v22.2.2.2.2.2.1))&&(allFit (fits p2) (cI (aaa (aZ (L2 v22.2.2.2.2.2.2.2)) i24))&&true)) then some (v22.1,v22.2.1,v22.2.2.1,v22.2.2.2.1,(wrap .i64 (v22.2.2.1+1)),(map de (ab (aA v22.2.2.2.2.2.1))),(((toNat v22.2.2.2.2.2.2.1):Nat):Int),(map lz (cI (aaa (aZ (L2 v22.2.2.2.2.2.2.2)) i24)))) else none).bind fun w40=>bif (dL v22.2.2.2.2.2.1&&true) then some w40 else none).bind wy) else none))))) else (bif (decide ((iD (dX (aA v22.2.2.2.2.2.1) i24).2)=3)) then (bif (decide ((iD (dX (aA v22.2.2.2.2.2.1) i24).2)=0)) then (((bif (allFit (fits cr) (ab (aA v22.2.2.2.2.2.1))&&(allFit (fits p2) (cI (aaa (aZ (L2 v22.2.2.2.2.2.2.2)) i24))&&true)) then some ((wrap .i64 (v22.2.2.2.1+1)),v22.2.1,v22.2.2.1,v22.2.2.2.1,v22.2.2.2.2.1,(map de (ab (aA v22.2.2.2.2.2.1))),(((toNat v22.2.2.2.2.2.2.1):Nat):Int),(map lz (cI (aaa (aZ (L2 v22.2.2.2.2.2.2.2)) i24)))) else none).bind fun w41=>bif (dL v22.2.2.2.2.2.1&&true) then some w41 else none).bind wy) else (bif (decide ((iD (dX (aA v22.2.2.2.2.2.1) i24).2)=1)) then (((bif (allFit (fits cr) (ab (aA v22.2.2.2.2.2.1))&&(allFit (fits p2) (cI (aaa (aZ (L2 v22.2.2.2.2.2.2.2)) i24))&&true)) then some (v22.1,(wrap .i64 (v22.2.2.2.1+1)),v22.2.2.1,v22.2.2.2.1,v22.2.2.2.2.1,(map de (ab (aA v22.2.2.2.2.2.1))),(((toNat v22.2.2.2.2.2.2.1):Nat):Int),(map lz (cI (aaa (aZ (L2 v22.2.2.2.2.2.2.2)) i24)))) else none).bind fun w42=>bif (dL v22.2.2.2.2.2.1&&true) then some w42 else none).bind wy) else (bif (decide ((iD (dX (aA v22.2.2.2.2.2.1) i24).2)=2)) then (((bif (allFit (fits cr) (ab (aA v22.2.2.2.2.2.1))&&(allFit (fits p2) (cI (aaa (aZ (L2 v22.2.2.2.2.2.2.2)) i24))&&true)) then some (v22.1,v22.2.1,(wrap .i64 (v22.2.2.2.1+1)),v22.2.2.2.1,v22.2.2.2.2.1,(map de (ab (aA v22.2.2.2.2.2.1))),(((toNat v22.2.2.2.2.2.2.1):Nat):Int),(map lz (cI (aaa (aZ (L2 v22.2.2.2.2.2.2.2)) i24)))) else none).bind fun Z9=>bif (dL v22.2.2.2.2.2.1&&true) then some Z9 else none).bind wy) else (bif (decide ((iD (dX (aA v22.2.2.2.2.2.1) i24).2)=3)) then (((bif (allFit (fits cr) (ab (aA v22.2.2.2.2.2.1))&&(allFit (fits p2) (cI (aaa (aZ (L2 v22.2.2.2.2.2.2.2)) i24))&&true)) then some (v22.1,v22.2.1,v22.2.2.1,(wrap .i64 (v22.2.2.2.1+1)),v22.2.2.2.2.1,(map de (ab (aA v22.2.2.2.2.2.1))),(((toNat v22.2.2.2.2.2.2.1):Nat):Int),(map lz (cI (aaa (aZ (L2 v22.2.2.2.2.2.2.2)) i24)))) else none).bind fun w44=>bif (dL v22.2.2.2.2.2.1&&true) then some w44 else none).bind wy) else (bif (decide ((iD (dX (aA v22.2.2.2.2.2.1) i24).2)=4)) then (((bif (allFit (fits cr) (ab (aA v22.2.2.2.2.2.1))&&(allFit (fits p2) (cI (aaa (aZ (L2 v22.2.2.2.2.2.2.2)) i24))&&true)) then some (v22.1,v22.2.1,v22.2.2.1,v22.2.2.2.1,(wrap .i64 (v22.2.2.2.1+1)),(map de (ab (aA v22.2.2.2.2.2.1))),(((toNat v22.2.2.2.2.2.2.1):Nat):Int),(map lz (cI (aaa (aZ (L2 v22.2.2.2.2.2.2.2)) i24)))) else none).bind fun w45=>bif (dL v22.2.2.2.2.2.1&&true) then some w45 else none).bind wy) else none))))) else (bif (decide ((iD (dX (aA v22.2.2.2.2.2.1) i24).2)=4)) then (bif (decide ((iD (dX (aA v22.2.2.2.2.2.1) i24).2)=0)) then (((bif (allFit (fits cr) (ab (aA v22.2.2.2.2.2.1))&&(allFit (fits p2) (cI (aaa (aZ (L2 v22.2.2.2.2.2.2.2)) i24))&&true)) then some ((wrap .i64 (v22.2.2.2.2.1+1)),v22.2.1,v22.2.2.1,v22.2.2.2.1,v22.2.2.2.2.1,(map de (ab (aA v22.2.2.2.2.2.1))),(((toNat v22.2.2.2.2.2.2.1):Nat):Int),(map lz (cI (aaa (aZ (L2 v22.2.2.2.2.2.2.2)) i24)))) else none).bind fun w46=>bif (dL v22.2.2.2.2.2.1&&true) then some w46 else none).bind wy) else (bif (decide ((iD (dX (aA v22.2.2.2.2.2.1) i24).2)=1)) then (((bif (allFit (fits cr) (ab (aA v22.2.2.2.2.2.1))&&(allFit (fits p2) (cI (aaa (aZ (L2 v22.2.2.2.2.2.2.2)) i24))&&true)) then some (v22.1,(wrap .i64 (v22.2.2.2.2.1+1)),v22.2.2.1,v22.2.2.2.1,v22.2.2.2.2.1,(map de (ab (aA v22.2.2.2.2.2.1))),(((toNat v22.2.2.2.2.2.2.1):Nat):Int),(map lz (cI (aaa (aZ (L2 v22.2.2.2.2.2.2.2)) i24)))) else none).bind fun w47=>bif (dL v22.2.2.2.2.2.1&&true) then some w47 else none).bind wy) else (bif (decide ((iD (dX (aA v22.2.2.2.2.2.1) i24).2)=2)) then (((bif (allFit (fits cr) (ab (aA v22.2.2.2.2.2.1))&&(allFit (fits p2) (cI (aaa (aZ (L2 v22.2.2.2.2.2.2.2)) i24))&&true)) then some (v22.1,v22.2.1,(wrap .i64 (v22.2.2.2.2.1+1)),v22.2.2.2.1,v22.2.2.2.2.1,(map de (ab (aA v22.2.2.2.2.2.1))),(((toNat v22.2.2.2.2.2.2.1):Nat):Int),(map lz (cI (aaa (aZ (L2 v22.2.2.2.2.2.2.2)) i24)))) else none).bind fun w48=>bif (dL v22.2.2.2.2.2.1&&true) then some w48 else none).bind wy) else (bif (decide ((iD (dX (aA v22.2.2.2.2.2.1) i24).2)=3)) then (((bif (allFit (fits cr) (ab (aA v22.2.2.2.2.2.1))&&(allFit (fits p2) (cI (aaa (aZ (L2 v22.2.2.2.2.2.2.2)) i24))&&true)) then some (v22.1,v22.2.1,v22.2.2.1,(wrap .i64 (v22.2.2.2.2.1+1)),v22.2.2.2.2.1,(map de (ab (aA v22.2.2.2.2.2.1))),(((toNat v22.2.2.2.2.2.2.1):Nat):Int),(map lz (cI (aaa (aZ (L2 v22.2.2.2.2.2.2.2)) i24)))) else none).bind fun w49=>bif (dL v22.2.2.2.2.2.1&&true) then some w49 else none).bind wy) else (bif (decide ((iD (dX (aA v22.2.2.2.2.2.1) i24).2)=4)) then (((bif (allFit (fits cr) (ab (aA v22.2.2.2.2.2.1))&&(allFit (fits p2) (cI (aaa (aZ (L2 v22.2.2.2.2.2.2.2)) i24))&&true)) then some (v22.1,v22.2.1,v22.2.2.1,v22.2.2.2.1,(wrap .i64 (v22.2.2.2.2.1+1)),(map de (ab (aA v22.2.2.2.2.2.1))),(((toNat v22.2.2.2.2.2.2.1):Nat):Int),(map lz (cI (aaa (aZ (L2 v22.2.2.2.2.2.2.2)) i24)))) else none).bind fun w50=>bif (dL v22.2.2.2.2.2.1&&true) then some w50 else none).bind wy) else none))))) else none))))) else none else none)) else none)
theorem We (N:Nat) (a0:List XB):T84 N a0 =
 ((bif (pS a0&&true) then some (qV a0) else none).bind fun x2=>(Wa N x2).bind fun y1=>(bif (y1 != 0) then some ((0,0,0,0,0),y1) else (((bif (allFit (fits cr) (ab ([]:List (AV × AV)))&&true) then some (0,(map de (ab ([]:List (AV × AV))))) else none:Option (Int × (List (XA × Int)))).bind fun w20=>bif (bc ([]:List (AV × AV))&&true) then some w20 else none).bind fun x54=>(aH (kU N a0) N x54).bind fun Yj=>(((bif (allFit (fits cr) (ab (aA Yj))&&(allFit (fits p2) (cI (List.range (aac (aA Yj))))&&true)) then some (0,0,0,0,0,(map de (ab (aA Yj))),(((aac (aA Yj)):Nat):Int),(map lz (cI (List.range (aac (aA Yj)))))) else none:Option (Int × Int × Int × Int × Int × (List (XA × Int)) × Int × oQ)).bind fun w51=>bif (dL Yj&&true) then some w51 else none).bind fun x53=>(mW (wX N) N x53).bind fun o52=>some ((o52.1,o52.2.1,o52.2.2.1,o52.2.2.2.1,o52.2.2.2.2.1),0))))):=by kernel_rfl
end
end Go.Proofs.YtldcljfjjoidhaaGreatDoor
