/- What functions compute. -/
import Derived.Test.YtldcljfjjoidhaaGreatDoorBraT
set_option linter.all false
open Sum renaming inr→aad, inl→aao
namespace Go.Proofs.YtldcljfjjoidhaaGreatDoor
open Go Go.Am
open List (map)
open Int (toNat)
open Go.IntKind (wrap)
open Go.Am.aO (fits)
set_option maxRecDepth 100000
noncomputable section
def rq (lo:Nat):Env:={ bH with lo:=lo }
def aaf (lo:Nat):Lt:={ OW with toEnv:=rq lo }
def cxL (lo N:Nat) (Bx:List (Nat × aR)) (qU:List (Nat × List (Nat × cW))):fU:={ D:=aaf lo,Bx:=xY Bx,qU:=JZ qU,fz:=false,N:=N }
def LW:List (Nat × cW):=[(1,.join [(.ret,⟨(.ci .nil),[2],[],[],[],[]⟩)]),
 (58,.loop [] ⟨(.ci .nil),[8],[],[],[],[]⟩ [(.ret,⟨(.ci .nil),[2],[],[],[],[]⟩),(.ex 0,⟨.nil,[],[],[],[],[]⟩)])]
def LX:List (Nat × cW):=[(1,.join [(.ret,⟨(.ci .nil),[4],[],[],[],[]⟩)])]
def Kk (lo N:Nat):XB × XB→Option Int:=(cxL lo N [] [(159,LW),(160,LX)]).fn 1000 127 (.cons aA (.cons aA .nil)) (.int .i64)
def aef (lo N:Nat):aR:=⟨(.cons aA (.cons aA .nil)),(.int .i64),Kk lo N⟩
theorem PK (lo N:Nat):aj (rq lo) 127 (aef lo N):=fU.bA (fun _ _ h=>by cases h) (by kernel_rfl) (by kernel_rfl)
def iE (N:Nat) (o1:Int) (o2:Int) (o3:Int) (v4:Int):Option (Int ⊕ (Int ⊕ Unit)):=
 (bif (decide (v4 < 3)) then bif (decide ((0:Int)≤v4∧v4 < (([(AV.int .i64 o1),(AV.int .i64 o2),(AV.int .i64 o3)]).length:Int))&&fits p3 (ae [(AV.int .i64 o1),(AV.int .i64 o2),(AV.int .i64 o3)] (toNat v4))) then (bif ((gD (ae [(AV.int .i64 o1),(AV.int .i64 o2),(AV.int .i64 o3)] (toNat v4))) != 0) then (some (aad (aao (gD (ae [(AV.int .i64 o1),(AV.int .i64 o2),(AV.int .i64 o3)] (toNat v4)))))) else (some (aao (wrap .i64 (v4+1))))) else none else (some (aad (aad ()))))
theorem PL (lo N:Nat) (a0:Int × Int × Int) (a1:Int × Int × Int):Kk lo N (a0,a1) =
 (((bif (a0.2.1 != a0.2.1) then (bif (a1.2.1 != a1.2.1) then (some 0) else (some (-1))) else (bif (a1.2.1 != a1.2.1) then (some 1) else (bif (decide (a0.2.1 < a1.2.1)) then (some (-1)) else (bif (decide (a0.2.1 > a1.2.1)) then (some 1) else (some 0))))):Option Int).bind fun o1=>bif ((a1.2.2 == a1.2.2)&&((a0.2.2 == a0.2.2)&&((a1.1 == a1.1)&&((a0.1 == a0.1)&&true)))) then (((bif (a0.1 != a0.1) then (bif (a1.1 != a1.1) then (some 0) else (some (-1))) else (bif (a1.1 != a1.1) then (some 1) else (bif (decide (a0.1 < a1.1)) then (some (-1)) else (bif (decide (a0.1 > a1.1)) then (some 1) else (some 0))))):Option Int).bind fun o2=>bif ((a1.2.2 == a1.2.2)&&((a0.2.2 == a0.2.2)&&true)) then (((bif (a0.2.2 != a0.2.2) then (bif (a1.2.2 != a1.2.2) then (some 0) else (some (-1))) else (bif (a1.2.2 != a1.2.2) then (some 1) else (bif (decide (a0.2.2 < a1.2.2)) then (some (-1)) else (bif (decide (a0.2.2 > a1.2.2)) then (some 1) else (some 0))))):Option Int).bind fun o3=>((((az (iE N o1 o2 o3) N 0).bind fun o9=>(Sum.elim (fun NG=>(some NG)) (fun tc=>(some 0)) o9)):Option Int).bind fun Bz=>some Bz)) else none) else none):=by kernel_rfl
def LY:List (Nat × cW):=[(1,.join [(.ret,⟨(.ci .nil),[4],[],[],[],[]⟩)]),
 (26,.loop [] ⟨(.ci .nil),[11],[],[],[],[]⟩ [(.ret,⟨(.ci .nil),[4],[],[],[],[]⟩),(.ex 0,⟨.nil,[],[],[],[],[]⟩)])]
def LZ:List (Nat × cW):=[(1,.join [(.ret,⟨(.ci .nil),[4],[],[],[],[]⟩)])]
def Kl (lo N:Nat):XB × XB→Option Int:=(cxL lo N [] [(137,LY),(160,LZ)]).fn 1000 136 (.cons aA (.cons aA .nil)) (.int .i64)
def aeg (lo N:Nat):aR:=⟨(.cons aA (.cons aA .nil)),(.int .i64),Kl lo N⟩
theorem PM (lo N:Nat):aj (rq lo) 136 (aeg lo N):=fU.bA (fun _ _ h=>by cases h) (by kernel_rfl) (by kernel_rfl)
def nQ (a0:Int × Int × Int) (v1:Int):=
 ((gD (ae [(AV.int .i64 a0.2.1),(AV.int .i64 a0.1),(AV.int .i64 a0.2.2)] (toNat v1))) != (gD (ae [(AV.int .i64 a0.2.1),(AV.int .i64 a0.1),(AV.int .i64 a0.2.2)] (toNat v1))))
def jT (N:Nat) (a0:Int × Int × Int) (a1:Int × Int × Int) (v1:Int):Option (Int ⊕ (Int ⊕ Unit)):=
 (bif (decide (v1 < 3)) then bif (decide ((0:Int)≤v1∧v1 < (([(AV.int .i64 a0.2.1),(AV.int .i64 a0.1),(AV.int .i64 a0.2.2)]).length:Int))&&fits p3 (ae [(AV.int .i64 a0.2.1),(AV.int .i64 a0.1),(AV.int .i64 a0.2.2)] (toNat v1))) then (bif (decide (v1≥3)) then (some (aad (aao 1))) else bif (decide ((0:Int)≤v1∧v1 < (([(AV.int .i64 a1.2.1),(AV.int .i64 a1.1),(AV.int .i64 a1.2.2)]).length:Int))&&fits p3 (ae [(AV.int .i64 a1.2.1),(AV.int .i64 a1.1),(AV.int .i64 a1.2.2)] (toNat v1))) then (((bif (nQ a0 v1) then (bif (nQ a1 v1) then (some 0) else (some (-1))) else (bif (nQ a1 v1) then (some 1) else (bif (decide ((gD (ae [(AV.int .i64 a0.2.1),(AV.int .i64 a0.1),(AV.int .i64 a0.2.2)] (toNat v1))) < (gD (ae [(AV.int .i64 a1.2.1),(AV.int .i64 a1.1),(AV.int .i64 a1.2.2)] (toNat v1))))) then (some (-1)) else (bif (decide ((gD (ae [(AV.int .i64 a0.2.1),(AV.int .i64 a0.1),(AV.int .i64 a0.2.2)] (toNat v1))) > (gD (ae [(AV.int .i64 a1.2.1),(AV.int .i64 a1.1),(AV.int .i64 a1.2.2)] (toNat v1))))) then (some 1) else (some 0))))):Option Int).bind fun o4=>(bif (o4 != 0) then (some (aad (aao o4))) else (some (aao (wrap .i64 (v1+1)))))) else none) else none else (some (aad (aad ()))))
theorem PN (lo N:Nat) (a0:Int × Int × Int) (a1:Int × Int × Int):Kl lo N (a0,a1) =
 ((((az (jT N a0 a1) N 0).bind fun o9=>(Sum.elim (fun NG=>(some NG)) (fun tc=>(bif (decide (3 < 3)) then (some (-1)) else (some 0))) o9)):Option Int).bind fun Bz=>some Bz):=by kernel_rfl
def L0:List (Nat × cW):=[(1,.join [(.ret,⟨(.ci .nil),[2],[],[],[],[]⟩)]),
 (58,.loop [] ⟨(.ci .nil),[8],[],[],[],[]⟩ [(.ret,⟨(.ci .nil),[2],[],[],[],[]⟩),(.ex 0,⟨.nil,[],[],[],[],[]⟩)])]
def L4:List (Nat × cW):=[(1,.join [(.ret,⟨(.ci .nil),[4],[],[],[],[]⟩)])]
def Km (lo N:Nat):XA × XA→Option Int:=(cxL lo N [] [(159,L0),(160,L4)]).fn 1000 177 (.cons gk (.cons gk .nil)) (.int .i64)
def aeh (lo N:Nat):aR:=⟨(.cons gk (.cons gk .nil)),(.int .i64),Km lo N⟩
theorem PO (lo N:Nat):aj (rq lo) 177 (aeh lo N):=fU.bA (fun _ _ h=>by cases h) (by kernel_rfl) (by kernel_rfl)
def jU (N:Nat) (o1:Int) (o2:Int) (v3:Int):Option (Int ⊕ (Int ⊕ Unit)):=
 (bif (decide (v3 < 2)) then bif (decide ((0:Int)≤v3∧v3 < (([(AV.int .i64 o1),(AV.int .i64 o2)]).length:Int))&&fits p3 (ae [(AV.int .i64 o1),(AV.int .i64 o2)] (toNat v3))) then (bif ((gD (ae [(AV.int .i64 o1),(AV.int .i64 o2)] (toNat v3))) != 0) then (some (aad (aao (gD (ae [(AV.int .i64 o1),(AV.int .i64 o2)] (toNat v3)))))) else (some (aao (wrap .i64 (v3+1))))) else none else (some (aad (aad ()))))
theorem PP (lo N:Nat) (a0:Int × Int) (a1:Int × Int):Km lo N (a0,a1) =
 (((bif (a0.2 != a0.2) then (bif (a1.2 != a1.2) then (some 0) else (some (-1))) else (bif (a1.2 != a1.2) then (some 1) else (bif (decide (a0.2 < a1.2)) then (some (-1)) else (bif (decide (a0.2 > a1.2)) then (some 1) else (some 0))))):Option Int).bind fun o1=>bif ((a1.1 == a1.1)&&((a0.1 == a0.1)&&true)) then (((bif (a0.1 != a0.1) then (bif (a1.1 != a1.1) then (some 0) else (some (-1))) else (bif (a1.1 != a1.1) then (some 1) else (bif (decide (a0.1 < a1.1)) then (some (-1)) else (bif (decide (a0.1 > a1.1)) then (some 1) else (some 0))))):Option Int).bind fun o2=>((((az (jU N o1 o2) N 0).bind fun o8=>(Sum.elim (fun o9=>(some o9)) (fun NG=>(some 0)) o8)):Option Int).bind fun tc=>some tc)) else none):=by kernel_rfl
end
end Go.Proofs.YtldcljfjjoidhaaGreatDoor
