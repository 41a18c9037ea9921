/- What the functions compute (printed by a program of ours,checked by the kernel). -/
import Derived.Test.YtldcljfjjoidhaaGreatDoorBraT
set_option linter.all false
namespace Go.Proofs.YtldcljfjjoidhaaGreatDoor
open Go Go.Am
open List (map)
open Int (toNat)
open Go.IntKind (wrap)
open Go.Am.aT (fits)
set_option maxRecDepth 100000
noncomputable section
def oZ (lo:Nat):Env:={ bC with lo:=lo }
def VO (lo:Nat):HR:={ Lb with toEnv:=oZ lo }
def cxL (lo N:Nat) (yx:List (Nat × aQ)) (oO:List (Nat × List (Nat × cA))):eE:={ D:=VO lo,yx:=CZ yx,oO:=Gw oO,fz:=false,N:=N }
def Ir:List (Nat × cA):=[(1,.join [(.ret,⟨(.cons (.int .i64) .nil),[2],[],[],[],[]⟩)]),
 (58,.loop [] ⟨(.cons (.int .i64) .nil),[8],[],[],[],[]⟩ [(.ret,⟨(.cons (.int .i64) .nil),[2],[],[],[],[]⟩),(.ex 0,⟨.nil,[],[],[],[],[]⟩)])]
def Is:List (Nat × cA):=[(1,.join [(.ret,⟨(.cons (.int .i64) .nil),[4],[],[],[],[]⟩)])]
-- "codend/netting.compare"
def GR (lo N:Nat):XB × XB→Option Int:=(cxL lo N [] [(159,Ir),(160,Is)]).fn 1000 127 (.cons aw (.cons aw .nil)) (.int .i64)
def Zv (lo N:Nat):aQ:=⟨(.cons aw (.cons aw .nil)),(.int .i64),GR lo N⟩
theorem LW (lo N:Nat):ap (oZ lo) 127 (Zv lo N):=eE.bu (fun _ _ h=>by cases h) (by kernel_rfl) (by kernel_rfl)
def gn (N:Nat) (o1:Int) (o2:Int) (o3:Int) (v4:Int):Option (Int ⊕ (Int ⊕ Unit)):=
 (bif (decide (v4 < 3)) then bif (decide ((0:Int)≤v4∧v4 < (([(AV.int .i64 o1),(AV.int .i64 o2),(AV.int .i64 o3)]).length:Int))&&fits p3 (af [(AV.int .i64 o1),(AV.int .i64 o2),(AV.int .i64 o3)] (toNat v4))) then (bif ((eR (af [(AV.int .i64 o1),(AV.int .i64 o2),(AV.int .i64 o3)] (toNat v4))) != 0) then (some (Sum.inr (Sum.inl (eR (af [(AV.int .i64 o1),(AV.int .i64 o2),(AV.int .i64 o3)] (toNat v4)))))) else (some (Sum.inl (wrap .i64 (v4+1))))) else none else (some (Sum.inr (Sum.inr ()))))
theorem LX (lo N:Nat) (a0:Int × Int × Int) (a1:Int × Int × Int):GR lo N (a0,a1) =
 (((bif (a0.2.1 != a0.2.1) then (bif (a1.2.1 != a1.2.1) then (some 0) else (some (-1))) else (bif (a1.2.1 != a1.2.1) then (some 1) else (bif (decide (a0.2.1 < a1.2.1)) then (some (-1)) else (bif (decide (a0.2.1 > a1.2.1)) then (some 1) else (some 0))))):Option Int).bind fun o1=>bif ((a1.2.2 == a1.2.2)&&((a0.2.2 == a0.2.2)&&((a1.1 == a1.1)&&((a0.1 == a0.1)&&true)))) then (((bif (a0.1 != a0.1) then (bif (a1.1 != a1.1) then (some 0) else (some (-1))) else (bif (a1.1 != a1.1) then (some 1) else (bif (decide (a0.1 < a1.1)) then (some (-1)) else (bif (decide (a0.1 > a1.1)) then (some 1) else (some 0))))):Option Int).bind fun o2=>bif ((a1.2.2 == a1.2.2)&&((a0.2.2 == a0.2.2)&&true)) then (((bif (a0.2.2 != a0.2.2) then (bif (a1.2.2 != a1.2.2) then (some 0) else (some (-1))) else (bif (a1.2.2 != a1.2.2) then (some 1) else (bif (decide (a0.2.2 < a1.2.2)) then (some (-1)) else (bif (decide (a0.2.2 > a1.2.2)) then (some 1) else (some 0))))):Option Int).bind fun o3=>((((aG (gn N o1 o2 o3) N 0).bind fun o9=>(Sum.elim (fun CP=>(some CP)) (fun nT=>(some 0)) o9)):Option Int).bind fun Qo=>some Qo)) else none) else none):=by kernel_rfl
def It:List (Nat × cA):=[(1,.join [(.ret,⟨(.cons (.int .i64) .nil),[4],[],[],[],[]⟩)]),
 (26,.loop [] ⟨(.cons (.int .i64) .nil),[11],[],[],[],[]⟩ [(.ret,⟨(.cons (.int .i64) .nil),[4],[],[],[],[]⟩),(.ex 0,⟨.nil,[],[],[],[],[]⟩)])]
def Iu:List (Nat × cA):=[(1,.join [(.ret,⟨(.cons (.int .i64) .nil),[4],[],[],[],[]⟩)])]
-- "codend/braid.net$1"
def GS (lo N:Nat):XB × XB→Option Int:=(cxL lo N [] [(137,It),(160,Iu)]).fn 1000 136 (.cons aw (.cons aw .nil)) (.int .i64)
def Zw (lo N:Nat):aQ:=⟨(.cons aw (.cons aw .nil)),(.int .i64),GS lo N⟩
theorem LY (lo N:Nat):ap (oZ lo) 136 (Zw lo N):=eE.bu (fun _ _ h=>by cases h) (by kernel_rfl) (by kernel_rfl)
def iH (N:Nat) (a0:Int × Int × Int) (a1:Int × Int × Int) (v1:Int):Option (Int ⊕ (Int ⊕ Unit)):=
 (bif (decide (v1 < 3)) then bif (decide ((0:Int)≤v1∧v1 < (([(AV.int .i64 a0.2.1),(AV.int .i64 a0.1),(AV.int .i64 a0.2.2)]).length:Int))&&fits p3 (af [(AV.int .i64 a0.2.1),(AV.int .i64 a0.1),(AV.int .i64 a0.2.2)] (toNat v1))) then (bif (decide (v1≥3)) then (some (Sum.inr (Sum.inl 1))) else bif (decide ((0:Int)≤v1∧v1 < (([(AV.int .i64 a1.2.1),(AV.int .i64 a1.1),(AV.int .i64 a1.2.2)]).length:Int))&&fits p3 (af [(AV.int .i64 a1.2.1),(AV.int .i64 a1.1),(AV.int .i64 a1.2.2)] (toNat v1))) then (((bif ((eR (af [(AV.int .i64 a0.2.1),(AV.int .i64 a0.1),(AV.int .i64 a0.2.2)] (toNat v1))) != (eR (af [(AV.int .i64 a0.2.1),(AV.int .i64 a0.1),(AV.int .i64 a0.2.2)] (toNat v1)))) then (bif ((eR (af [(AV.int .i64 a1.2.1),(AV.int .i64 a1.1),(AV.int .i64 a1.2.2)] (toNat v1))) != (eR (af [(AV.int .i64 a1.2.1),(AV.int .i64 a1.1),(AV.int .i64 a1.2.2)] (toNat v1)))) then (some 0) else (some (-1))) else (bif ((eR (af [(AV.int .i64 a1.2.1),(AV.int .i64 a1.1),(AV.int .i64 a1.2.2)] (toNat v1))) != (eR (af [(AV.int .i64 a1.2.1),(AV.int .i64 a1.1),(AV.int .i64 a1.2.2)] (toNat v1)))) then (some 1) else (bif (decide ((eR (af [(AV.int .i64 a0.2.1),(AV.int .i64 a0.1),(AV.int .i64 a0.2.2)] (toNat v1))) < (eR (af [(AV.int .i64 a1.2.1),(AV.int .i64 a1.1),(AV.int .i64 a1.2.2)] (toNat v1))))) then (some (-1)) else (bif (decide ((eR (af [(AV.int .i64 a0.2.1),(AV.int .i64 a0.1),(AV.int .i64 a0.2.2)] (toNat v1))) > (eR (af [(AV.int .i64 a1.2.1),(AV.int .i64 a1.1),(AV.int .i64 a1.2.2)] (toNat v1))))) then (some 1) else (some 0))))):Option Int).bind fun o4=>(bif (o4 != 0) then (some (Sum.inr (Sum.inl o4))) else (some (Sum.inl (wrap .i64 (v1+1)))))) else none) else none else (some (Sum.inr (Sum.inr ()))))
theorem LZ (lo N:Nat) (a0:Int × Int × Int) (a1:Int × Int × Int):GS lo N (a0,a1) =
 ((((aG (iH N a0 a1) N 0).bind fun o9=>(Sum.elim (fun CP=>(some CP)) (fun nT=>(bif (decide (3 < 3)) then (some (-1)) else (some 0))) o9)):Option Int).bind fun Qo=>some Qo):=by kernel_rfl
def Iv:List (Nat × cA):=[(1,.join [(.ret,⟨(.cons (.int .i64) .nil),[2],[],[],[],[]⟩)]),
 (58,.loop [] ⟨(.cons (.int .i64) .nil),[8],[],[],[],[]⟩ [(.ret,⟨(.cons (.int .i64) .nil),[2],[],[],[],[]⟩),(.ex 0,⟨.nil,[],[],[],[],[]⟩)])]
def Iw:List (Nat × cA):=[(1,.join [(.ret,⟨(.cons (.int .i64) .nil),[4],[],[],[],[]⟩)])]
-- "codend/netting.knots$1"
def GU (lo N:Nat):XA × XA→Option Int:=(cxL lo N [] [(159,Iv),(160,Iw)]).fn 1000 177 (.cons cz (.cons cz .nil)) (.int .i64)
def Zx (lo N:Nat):aQ:=⟨(.cons cz (.cons cz .nil)),(.int .i64),GU lo N⟩
theorem L0 (lo N:Nat):ap (oZ lo) 177 (Zx lo N):=eE.bu (fun _ _ h=>by cases h) (by kernel_rfl) (by kernel_rfl)
def iI (N:Nat) (o1:Int) (o2:Int) (v3:Int):Option (Int ⊕ (Int ⊕ Unit)):=
 (bif (decide (v3 < 2)) then bif (decide ((0:Int)≤v3∧v3 < (([(AV.int .i64 o1),(AV.int .i64 o2)]).length:Int))&&fits p3 (af [(AV.int .i64 o1),(AV.int .i64 o2)] (toNat v3))) then (bif ((eR (af [(AV.int .i64 o1),(AV.int .i64 o2)] (toNat v3))) != 0) then (some (Sum.inr (Sum.inl (eR (af [(AV.int .i64 o1),(AV.int .i64 o2)] (toNat v3)))))) else (some (Sum.inl (wrap .i64 (v3+1))))) else none else (some (Sum.inr (Sum.inr ()))))
theorem L3 (lo N:Nat) (a0:Int × Int) (a1:Int × Int):GU lo N (a0,a1) =
 (((bif (a0.2 != a0.2) then (bif (a1.2 != a1.2) then (some 0) else (some (-1))) else (bif (a1.2 != a1.2) then (some 1) else (bif (decide (a0.2 < a1.2)) then (some (-1)) else (bif (decide (a0.2 > a1.2)) then (some 1) else (some 0))))):Option Int).bind fun o1=>bif ((a1.1 == a1.1)&&((a0.1 == a0.1)&&true)) then (((bif (a0.1 != a0.1) then (bif (a1.1 != a1.1) then (some 0) else (some (-1))) else (bif (a1.1 != a1.1) then (some 1) else (bif (decide (a0.1 < a1.1)) then (some (-1)) else (bif (decide (a0.1 > a1.1)) then (some 1) else (some 0))))):Option Int).bind fun o2=>((((aG (iI N o1 o2) N 0).bind fun o8=>(Sum.elim (fun o9=>(some o9)) (fun CP=>(some 0)) o8)):Option Int).bind fun nT=>some nT)) else none):=by kernel_rfl
end
end Go.Proofs.YtldcljfjjoidhaaGreatDoor
