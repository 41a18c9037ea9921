/- What functions compute. -/
import Derived.Test.YtldcljfjjoidhaaGreatDoorBraT
set_option linter.all false
open Sum renaming inr→aab, inl→aac
namespace Go.Proofs.YtldcljfjjoidhaaGreatDoor
open Go Go.Am
open List (map)
open Int (toNat)
open Go.IntKind (wrap)
open Go.Am.aP (fits)
set_option maxRecDepth 100000
noncomputable section
def qg (lo:Nat):Env:={ bG with lo:=lo }
def Xv (lo:Nat):JL:={ Nl with toEnv:=qg lo }
def cxL (lo N:Nat) (xe:List (Nat × aD)) (oo:List (Nat × List (Nat × cA))):eB:={ D:=Xv lo,xe:=wI xe,oo:=Is oo,fz:=false,N:=N }
def Kc:List (Nat × cA):=[(1,.join [(.ret,⟨(.ci .nil),[2],[],[],[],[]⟩)]),
 (58,.loop [] ⟨(.ci .nil),[8],[],[],[],[]⟩ [(.ret,⟨(.ci .nil),[2],[],[],[],[]⟩),(.ex 0,⟨.nil,[],[],[],[],[]⟩)])]
def Kd:List (Nat × cA):=[(1,.join [(.ret,⟨(.ci .nil),[4],[],[],[],[]⟩)])]
def IJ (lo N:Nat):XB × XB→Option Int:=(cxL lo N [] [(159,Kc),(160,Kd)]).fn 1000 127 (.cons aV (.cons aV .nil)) (.int .i64)
def abE (lo N:Nat):aD:=⟨(.cons aV (.cons aV .nil)),(.int .i64),IJ lo N⟩
theorem NS (lo N:Nat):ai (qg lo) 127 (abE lo N):=eB.bk (fun _ _ h=>by cases h) (by kernel_rfl) (by kernel_rfl)
def gu (N:Nat) (o1:Int) (o2:Int) (o3:Int) (v4:Int):Option (Int ⊕ (Int ⊕ Unit)):=
 (bif (decide (v4 < 3)) then bif (decide ((0:Int)≤v4∧v4 < (([(AV.int .i64 o1),(AV.int .i64 o2),(AV.int .i64 o3)]).length:Int))&&fits p3 (ah [(AV.int .i64 o1),(AV.int .i64 o2),(AV.int .i64 o3)] (toNat v4))) then (bif ((gP (ah [(AV.int .i64 o1),(AV.int .i64 o2),(AV.int .i64 o3)] (toNat v4))) != 0) then (some (aab (aac (gP (ah [(AV.int .i64 o1),(AV.int .i64 o2),(AV.int .i64 o3)] (toNat v4)))))) else (some (aac (wrap .i64 (v4+1))))) else none else (some (aab (aab ()))))
theorem NT (lo N:Nat) (a0:Int × Int × Int) (a1:Int × Int × Int):IJ lo N (a0,a1) =
 (((bif (a0.2.1 != a0.2.1) then (bif (a1.2.1 != a1.2.1) then (some 0) else (some (-1))) else (bif (a1.2.1 != a1.2.1) then (some 1) else (bif (decide (a0.2.1 < a1.2.1)) then (some (-1)) else (bif (decide (a0.2.1 > a1.2.1)) then (some 1) else (some 0))))):Option Int).bind fun o1=>bif ((a1.2.2 == a1.2.2)&&((a0.2.2 == a0.2.2)&&((a1.1 == a1.1)&&((a0.1 == a0.1)&&true)))) then (((bif (a0.1 != a0.1) then (bif (a1.1 != a1.1) then (some 0) else (some (-1))) else (bif (a1.1 != a1.1) then (some 1) else (bif (decide (a0.1 < a1.1)) then (some (-1)) else (bif (decide (a0.1 > a1.1)) then (some 1) else (some 0))))):Option Int).bind fun o2=>bif ((a1.2.2 == a1.2.2)&&((a0.2.2 == a0.2.2)&&true)) then (((bif (a0.2.2 != a0.2.2) then (bif (a1.2.2 != a1.2.2) then (some 0) else (some (-1))) else (bif (a1.2.2 != a1.2.2) then (some 1) else (bif (decide (a0.2.2 < a1.2.2)) then (some (-1)) else (bif (decide (a0.2.2 > a1.2.2)) then (some 1) else (some 0))))):Option Int).bind fun o3=>((((ay (gu N o1 o2 o3) N 0).bind fun o9=>(Sum.elim (fun oU=>(some oU)) (fun tA=>(some 0)) o9)):Option Int).bind fun gD=>some gD)) else none) else none):=by kernel_rfl
def Ke:List (Nat × cA):=[(1,.join [(.ret,⟨(.ci .nil),[4],[],[],[],[]⟩)]),
 (26,.loop [] ⟨(.ci .nil),[11],[],[],[],[]⟩ [(.ret,⟨(.ci .nil),[4],[],[],[],[]⟩),(.ex 0,⟨.nil,[],[],[],[],[]⟩)])]
def Kf:List (Nat × cA):=[(1,.join [(.ret,⟨(.ci .nil),[4],[],[],[],[]⟩)])]
def IK (lo N:Nat):XB × XB→Option Int:=(cxL lo N [] [(137,Ke),(160,Kf)]).fn 1000 136 (.cons aV (.cons aV .nil)) (.int .i64)
def abF (lo N:Nat):aD:=⟨(.cons aV (.cons aV .nil)),(.int .i64),IK lo N⟩
theorem NU (lo N:Nat):ai (qg lo) 136 (abF lo N):=eB.bk (fun _ _ h=>by cases h) (by kernel_rfl) (by kernel_rfl)
def mE (a0:Int × Int × Int) (v1:Int):=
 ((gP (ah [(AV.int .i64 a0.2.1),(AV.int .i64 a0.1),(AV.int .i64 a0.2.2)] (toNat v1))) != (gP (ah [(AV.int .i64 a0.2.1),(AV.int .i64 a0.1),(AV.int .i64 a0.2.2)] (toNat v1))))
def iQ (N:Nat) (a0:Int × Int × Int) (a1:Int × Int × Int) (v1:Int):Option (Int ⊕ (Int ⊕ Unit)):=
 (bif (decide (v1 < 3)) then bif (decide ((0:Int)≤v1∧v1 < (([(AV.int .i64 a0.2.1),(AV.int .i64 a0.1),(AV.int .i64 a0.2.2)]).length:Int))&&fits p3 (ah [(AV.int .i64 a0.2.1),(AV.int .i64 a0.1),(AV.int .i64 a0.2.2)] (toNat v1))) then (bif (decide (v1≥3)) then (some (aab (aac 1))) else bif (decide ((0:Int)≤v1∧v1 < (([(AV.int .i64 a1.2.1),(AV.int .i64 a1.1),(AV.int .i64 a1.2.2)]).length:Int))&&fits p3 (ah [(AV.int .i64 a1.2.1),(AV.int .i64 a1.1),(AV.int .i64 a1.2.2)] (toNat v1))) then (((bif (mE a0 v1) then (bif (mE a1 v1) then (some 0) else (some (-1))) else (bif (mE a1 v1) then (some 1) else (bif (decide ((gP (ah [(AV.int .i64 a0.2.1),(AV.int .i64 a0.1),(AV.int .i64 a0.2.2)] (toNat v1))) < (gP (ah [(AV.int .i64 a1.2.1),(AV.int .i64 a1.1),(AV.int .i64 a1.2.2)] (toNat v1))))) then (some (-1)) else (bif (decide ((gP (ah [(AV.int .i64 a0.2.1),(AV.int .i64 a0.1),(AV.int .i64 a0.2.2)] (toNat v1))) > (gP (ah [(AV.int .i64 a1.2.1),(AV.int .i64 a1.1),(AV.int .i64 a1.2.2)] (toNat v1))))) then (some 1) else (some 0))))):Option Int).bind fun o4=>(bif (o4 != 0) then (some (aab (aac o4))) else (some (aac (wrap .i64 (v1+1)))))) else none) else none else (some (aab (aab ()))))
theorem NV (lo N:Nat) (a0:Int × Int × Int) (a1:Int × Int × Int):IK lo N (a0,a1) =
 ((((ay (iQ N a0 a1) N 0).bind fun o9=>(Sum.elim (fun oU=>(some oU)) (fun tA=>(bif (decide (3 < 3)) then (some (-1)) else (some 0))) o9)):Option Int).bind fun gD=>some gD):=by kernel_rfl
def Kg:List (Nat × cA):=[(1,.join [(.ret,⟨(.ci .nil),[2],[],[],[],[]⟩)]),
 (58,.loop [] ⟨(.ci .nil),[8],[],[],[],[]⟩ [(.ret,⟨(.ci .nil),[2],[],[],[],[]⟩),(.ex 0,⟨.nil,[],[],[],[],[]⟩)])]
def Kh:List (Nat × cA):=[(1,.join [(.ret,⟨(.ci .nil),[4],[],[],[],[]⟩)])]
def IL (lo N:Nat):XA × XA→Option Int:=(cxL lo N [] [(159,Kg),(160,Kh)]).fn 1000 177 (.cons cZ (.cons cZ .nil)) (.int .i64)
def abG (lo N:Nat):aD:=⟨(.cons cZ (.cons cZ .nil)),(.int .i64),IL lo N⟩
theorem NW (lo N:Nat):ai (qg lo) 177 (abG lo N):=eB.bk (fun _ _ h=>by cases h) (by kernel_rfl) (by kernel_rfl)
def iR (N:Nat) (o1:Int) (o2:Int) (v3:Int):Option (Int ⊕ (Int ⊕ Unit)):=
 (bif (decide (v3 < 2)) then bif (decide ((0:Int)≤v3∧v3 < (([(AV.int .i64 o1),(AV.int .i64 o2)]).length:Int))&&fits p3 (ah [(AV.int .i64 o1),(AV.int .i64 o2)] (toNat v3))) then (bif ((gP (ah [(AV.int .i64 o1),(AV.int .i64 o2)] (toNat v3))) != 0) then (some (aab (aac (gP (ah [(AV.int .i64 o1),(AV.int .i64 o2)] (toNat v3)))))) else (some (aac (wrap .i64 (v3+1))))) else none else (some (aab (aab ()))))
theorem NX (lo N:Nat) (a0:Int × Int) (a1:Int × Int):IL lo N (a0,a1) =
 (((bif (a0.2 != a0.2) then (bif (a1.2 != a1.2) then (some 0) else (some (-1))) else (bif (a1.2 != a1.2) then (some 1) else (bif (decide (a0.2 < a1.2)) then (some (-1)) else (bif (decide (a0.2 > a1.2)) then (some 1) else (some 0))))):Option Int).bind fun o1=>bif ((a1.1 == a1.1)&&((a0.1 == a0.1)&&true)) then (((bif (a0.1 != a0.1) then (bif (a1.1 != a1.1) then (some 0) else (some (-1))) else (bif (a1.1 != a1.1) then (some 1) else (bif (decide (a0.1 < a1.1)) then (some (-1)) else (bif (decide (a0.1 > a1.1)) then (some 1) else (some 0))))):Option Int).bind fun o2=>((((ay (iR N o1 o2) N 0).bind fun o8=>(Sum.elim (fun o9=>(some o9)) (fun oU=>(some 0)) o8)):Option Int).bind fun tA=>some tA)) else none):=by kernel_rfl
end
end Go.Proofs.YtldcljfjjoidhaaGreatDoor
