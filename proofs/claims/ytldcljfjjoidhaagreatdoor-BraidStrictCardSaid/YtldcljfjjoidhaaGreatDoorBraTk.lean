/- What functions compute. -/
import Derived.Test.YtldcljfjjoidhaaGreatDoorBraT
set_option linter.all false
open Sum renaming inr→aaa, inl→aab
namespace Go.Proofs.YtldcljfjjoidhaaGreatDoor
open Go Go.Am
open List (map)
open Int (toNat)
open Go.IntKind (wrap)
open Go.Am.aM (fits)
set_option maxRecDepth 100000
noncomputable section
def pW (lo:Nat):Env:={ bQ with lo:=lo }
def WQ (lo:Nat):Jr:={ MY with toEnv:=pW lo }
def cxL (lo N:Nat) (wP:List (Nat × aP)) (n9:List (Nat × List (Nat × cN))):fj:={ D:=WQ lo,wP:=wv wP,n9:=H9 n9,fz:=false,N:=N }
def JQ:List (Nat × cN):=[(1,.join [(.ret,⟨(.ci .nil),[2],[],[],[],[]⟩)]),
 (58,.loop [] ⟨(.ci .nil),[8],[],[],[],[]⟩ [(.ret,⟨(.ci .nil),[2],[],[],[],[]⟩),(.ex 0,⟨.nil,[],[],[],[],[]⟩)])]
def JR:List (Nat × cN):=[(1,.join [(.ret,⟨(.ci .nil),[4],[],[],[],[]⟩)])]
def It (lo N:Nat):XB × XB→Option Int:=(cxL lo N [] [(159,JQ),(160,JR)]).fn 1000 127 (.cons ba (.cons ba .nil)) (.int .i64)
def aaI (lo N:Nat):aP:=⟨(.cons ba (.cons ba .nil)),(.int .i64),It lo N⟩
theorem Nx (lo N:Nat):ai (pW lo) 127 (aaI lo N):=fj.bH (fun _ _ h=>by cases h) (by kernel_rfl) (by kernel_rfl)
def gw (N:Nat) (o1:Int) (o2:Int) (o3:Int) (v4:Int):Option (Int ⊕ (Int ⊕ Unit)):=
 (bif (decide (v4 < 3)) then bif (decide ((0:Int)≤v4∧v4 < (([(AV.int .i64 o1),(AV.int .i64 o2),(AV.int .i64 o3)]).length:Int))&&fits p3 (ah [(AV.int .i64 o1),(AV.int .i64 o2),(AV.int .i64 o3)] (toNat v4))) then (bif ((iD (ah [(AV.int .i64 o1),(AV.int .i64 o2),(AV.int .i64 o3)] (toNat v4))) != 0) then (some (aaa (aab (iD (ah [(AV.int .i64 o1),(AV.int .i64 o2),(AV.int .i64 o3)] (toNat v4)))))) else (some (aab (wrap .i64 (v4+1))))) else none else (some (aaa (aaa ()))))
theorem Ny (lo N:Nat) (a0:Int × Int × Int) (a1:Int × Int × Int):It lo N (a0,a1) =
 (((bif (a0.2.1 != a0.2.1) then (bif (a1.2.1 != a1.2.1) then (some 0) else (some (-1))) else (bif (a1.2.1 != a1.2.1) then (some 1) else (bif (decide (a0.2.1 < a1.2.1)) then (some (-1)) else (bif (decide (a0.2.1 > a1.2.1)) then (some 1) else (some 0))))):Option Int).bind fun o1=>bif ((a1.2.2 == a1.2.2)&&((a0.2.2 == a0.2.2)&&((a1.1 == a1.1)&&((a0.1 == a0.1)&&true)))) then (((bif (a0.1 != a0.1) then (bif (a1.1 != a1.1) then (some 0) else (some (-1))) else (bif (a1.1 != a1.1) then (some 1) else (bif (decide (a0.1 < a1.1)) then (some (-1)) else (bif (decide (a0.1 > a1.1)) then (some 1) else (some 0))))):Option Int).bind fun o2=>bif ((a1.2.2 == a1.2.2)&&((a0.2.2 == a0.2.2)&&true)) then (((bif (a0.2.2 != a0.2.2) then (bif (a1.2.2 != a1.2.2) then (some 0) else (some (-1))) else (bif (a1.2.2 != a1.2.2) then (some 1) else (bif (decide (a0.2.2 < a1.2.2)) then (some (-1)) else (bif (decide (a0.2.2 > a1.2.2)) then (some 1) else (some 0))))):Option Int).bind fun o3=>((((aH (gw N o1 o2 o3) N 0).bind fun o9=>(Sum.elim (fun D7=>(some D7)) (fun sw=>(some 0)) o9)):Option Int).bind fun gG=>some gG)) else none) else none):=by kernel_rfl
def JS:List (Nat × cN):=[(1,.join [(.ret,⟨(.ci .nil),[4],[],[],[],[]⟩)]),
 (26,.loop [] ⟨(.ci .nil),[11],[],[],[],[]⟩ [(.ret,⟨(.ci .nil),[4],[],[],[],[]⟩),(.ex 0,⟨.nil,[],[],[],[],[]⟩)])]
def JU:List (Nat × cN):=[(1,.join [(.ret,⟨(.ci .nil),[4],[],[],[],[]⟩)])]
def Iu (lo N:Nat):XB × XB→Option Int:=(cxL lo N [] [(137,JS),(160,JU)]).fn 1000 136 (.cons ba (.cons ba .nil)) (.int .i64)
def aaJ (lo N:Nat):aP:=⟨(.cons ba (.cons ba .nil)),(.int .i64),Iu lo N⟩
theorem Nz (lo N:Nat):ai (pW lo) 136 (aaJ lo N):=fj.bH (fun _ _ h=>by cases h) (by kernel_rfl) (by kernel_rfl)
def ms (a0:Int × Int × Int) (v1:Int):=
 ((iD (ah [(AV.int .i64 a0.2.1),(AV.int .i64 a0.1),(AV.int .i64 a0.2.2)] (toNat v1))) != (iD (ah [(AV.int .i64 a0.2.1),(AV.int .i64 a0.1),(AV.int .i64 a0.2.2)] (toNat v1))))
def iP (N:Nat) (a0:Int × Int × Int) (a1:Int × Int × Int) (v1:Int):Option (Int ⊕ (Int ⊕ Unit)):=
 (bif (decide (v1 < 3)) then bif (decide ((0:Int)≤v1∧v1 < (([(AV.int .i64 a0.2.1),(AV.int .i64 a0.1),(AV.int .i64 a0.2.2)]).length:Int))&&fits p3 (ah [(AV.int .i64 a0.2.1),(AV.int .i64 a0.1),(AV.int .i64 a0.2.2)] (toNat v1))) then (bif (decide (v1≥3)) then (some (aaa (aab 1))) else bif (decide ((0:Int)≤v1∧v1 < (([(AV.int .i64 a1.2.1),(AV.int .i64 a1.1),(AV.int .i64 a1.2.2)]).length:Int))&&fits p3 (ah [(AV.int .i64 a1.2.1),(AV.int .i64 a1.1),(AV.int .i64 a1.2.2)] (toNat v1))) then (((bif (ms a0 v1) then (bif (ms a1 v1) then (some 0) else (some (-1))) else (bif (ms a1 v1) then (some 1) else (bif (decide ((iD (ah [(AV.int .i64 a0.2.1),(AV.int .i64 a0.1),(AV.int .i64 a0.2.2)] (toNat v1))) < (iD (ah [(AV.int .i64 a1.2.1),(AV.int .i64 a1.1),(AV.int .i64 a1.2.2)] (toNat v1))))) then (some (-1)) else (bif (decide ((iD (ah [(AV.int .i64 a0.2.1),(AV.int .i64 a0.1),(AV.int .i64 a0.2.2)] (toNat v1))) > (iD (ah [(AV.int .i64 a1.2.1),(AV.int .i64 a1.1),(AV.int .i64 a1.2.2)] (toNat v1))))) then (some 1) else (some 0))))):Option Int).bind fun o4=>(bif (o4 != 0) then (some (aaa (aab o4))) else (some (aab (wrap .i64 (v1+1)))))) else none) else none else (some (aaa (aaa ()))))
theorem NA (lo N:Nat) (a0:Int × Int × Int) (a1:Int × Int × Int):Iu lo N (a0,a1) =
 ((((aH (iP N a0 a1) N 0).bind fun o9=>(Sum.elim (fun D7=>(some D7)) (fun sw=>(bif (decide (3 < 3)) then (some (-1)) else (some 0))) o9)):Option Int).bind fun gG=>some gG):=by kernel_rfl
def JV:List (Nat × cN):=[(1,.join [(.ret,⟨(.ci .nil),[2],[],[],[],[]⟩)]),
 (58,.loop [] ⟨(.ci .nil),[8],[],[],[],[]⟩ [(.ret,⟨(.ci .nil),[2],[],[],[],[]⟩),(.ex 0,⟨.nil,[],[],[],[],[]⟩)])]
def JW:List (Nat × cN):=[(1,.join [(.ret,⟨(.ci .nil),[4],[],[],[],[]⟩)])]
def Iv (lo N:Nat):XA × XA→Option Int:=(cxL lo N [] [(159,JV),(160,JW)]).fn 1000 177 (.cons da (.cons da .nil)) (.int .i64)
def aaK (lo N:Nat):aP:=⟨(.cons da (.cons da .nil)),(.int .i64),Iv lo N⟩
theorem NB (lo N:Nat):ai (pW lo) 177 (aaK lo N):=fj.bH (fun _ _ h=>by cases h) (by kernel_rfl) (by kernel_rfl)
def iQ (N:Nat) (o1:Int) (o2:Int) (v3:Int):Option (Int ⊕ (Int ⊕ Unit)):=
 (bif (decide (v3 < 2)) then bif (decide ((0:Int)≤v3∧v3 < (([(AV.int .i64 o1),(AV.int .i64 o2)]).length:Int))&&fits p3 (ah [(AV.int .i64 o1),(AV.int .i64 o2)] (toNat v3))) then (bif ((iD (ah [(AV.int .i64 o1),(AV.int .i64 o2)] (toNat v3))) != 0) then (some (aaa (aab (iD (ah [(AV.int .i64 o1),(AV.int .i64 o2)] (toNat v3)))))) else (some (aab (wrap .i64 (v3+1))))) else none else (some (aaa (aaa ()))))
theorem ND (lo N:Nat) (a0:Int × Int) (a1:Int × Int):Iv lo N (a0,a1) =
 (((bif (a0.2 != a0.2) then (bif (a1.2 != a1.2) then (some 0) else (some (-1))) else (bif (a1.2 != a1.2) then (some 1) else (bif (decide (a0.2 < a1.2)) then (some (-1)) else (bif (decide (a0.2 > a1.2)) then (some 1) else (some 0))))):Option Int).bind fun o1=>bif ((a1.1 == a1.1)&&((a0.1 == a0.1)&&true)) then (((bif (a0.1 != a0.1) then (bif (a1.1 != a1.1) then (some 0) else (some (-1))) else (bif (a1.1 != a1.1) then (some 1) else (bif (decide (a0.1 < a1.1)) then (some (-1)) else (bif (decide (a0.1 > a1.1)) then (some 1) else (some 0))))):Option Int).bind fun o2=>((((aH (iQ N o1 o2) N 0).bind fun o8=>(Sum.elim (fun o9=>(some o9)) (fun D7=>(some 0)) o8)):Option Int).bind fun sw=>some sw)) else none):=by kernel_rfl
end
end Go.Proofs.YtldcljfjjoidhaaGreatDoor
