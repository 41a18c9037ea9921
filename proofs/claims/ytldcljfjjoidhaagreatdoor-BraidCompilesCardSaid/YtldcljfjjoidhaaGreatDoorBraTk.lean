/- What the functions compute (printed by a program of ours,checked by the kernel). -/
import Derived.Test.YtldcljfjjoidhaaGreatDoorBraT
set_option linter.all false
namespace Go.Proofs.YtldcljfjjoidhaaGreatDoor
open Go Go.Am
open List (map)
open Int (toNat)
open Go.IntKind (wrap)
open Go.Am.aR (fits)
set_option maxRecDepth 100000
noncomputable section
def p9 (lo:Nat):Env:={ bF with lo:=lo }
def WR (lo:Nat):IL:={ L8 with toEnv:=p9 lo }
def cxL (lo N:Nat) (zS:List (Nat × aS)) (pP:List (Nat × List (Nat × cE))):fw:={ D:=WR lo,zS:=DL zS,pP:=Hr pP,fz:=false,N:=N }
def Jg:List (Nat × cE):=[(1,.join [(.ret,⟨(.cons (.int .i64) .nil),[2],[],[],[],[]⟩)]),
 (58,.loop [] ⟨(.cons (.int .i64) .nil),[8],[],[],[],[]⟩ [(.ret,⟨(.cons (.int .i64) .nil),[2],[],[],[],[]⟩),(.ex 0,⟨.nil,[],[],[],[],[]⟩)])]
def Jh:List (Nat × cE):=[(1,.join [(.ret,⟨(.cons (.int .i64) .nil),[4],[],[],[],[]⟩)])]
def HJ (lo N:Nat):XB × XB→Option Int:=(cxL lo N [] [(159,Jg),(160,Jh)]).fn 1000 127 (.cons ay (.cons ay .nil)) (.int .i64)
def aaD (lo N:Nat):aS:=⟨(.cons ay (.cons ay .nil)),(.int .i64),HJ lo N⟩
theorem MS (lo N:Nat):ak (p9 lo) 127 (aaD lo N):=fw.bu (fun _ _ h=>by cases h) (by kernel_rfl) (by kernel_rfl)
def gY (N:Nat) (o1:Int) (o2:Int) (o3:Int) (v4:Int):Option (Int ⊕ (Int ⊕ Unit)):=
 (bif (decide (v4 < 3)) then bif (decide ((0:Int)≤v4∧v4 < (([(AV.int .i64 o1),(AV.int .i64 o2),(AV.int .i64 o3)]).length:Int))&&fits p3 (ah [(AV.int .i64 o1),(AV.int .i64 o2),(AV.int .i64 o3)] (toNat v4))) then (bif ((fx (ah [(AV.int .i64 o1),(AV.int .i64 o2),(AV.int .i64 o3)] (toNat v4))) != 0) then (some (Sum.inr (Sum.inl (fx (ah [(AV.int .i64 o1),(AV.int .i64 o2),(AV.int .i64 o3)] (toNat v4)))))) else (some (Sum.inl (wrap .i64 (v4+1))))) else none else (some (Sum.inr (Sum.inr ()))))
theorem MT (lo N:Nat) (a0:Int × Int × Int) (a1:Int × Int × Int):HJ lo N (a0,a1) =
 (((bif (a0.2.1 != a0.2.1) then (bif (a1.2.1 != a1.2.1) then (some 0) else (some (-1))) else (bif (a1.2.1 != a1.2.1) then (some 1) else (bif (decide (a0.2.1 < a1.2.1)) then (some (-1)) else (bif (decide (a0.2.1 > a1.2.1)) then (some 1) else (some 0))))):Option Int).bind fun o1=>bif ((a1.2.2 == a1.2.2)&&((a0.2.2 == a0.2.2)&&((a1.1 == a1.1)&&((a0.1 == a0.1)&&true)))) then (((bif (a0.1 != a0.1) then (bif (a1.1 != a1.1) then (some 0) else (some (-1))) else (bif (a1.1 != a1.1) then (some 1) else (bif (decide (a0.1 < a1.1)) then (some (-1)) else (bif (decide (a0.1 > a1.1)) then (some 1) else (some 0))))):Option Int).bind fun o2=>bif ((a1.2.2 == a1.2.2)&&((a0.2.2 == a0.2.2)&&true)) then (((bif (a0.2.2 != a0.2.2) then (bif (a1.2.2 != a1.2.2) then (some 0) else (some (-1))) else (bif (a1.2.2 != a1.2.2) then (some 1) else (bif (decide (a0.2.2 < a1.2.2)) then (some (-1)) else (bif (decide (a0.2.2 > a1.2.2)) then (some 1) else (some 0))))):Option Int).bind fun o3=>((((aL (gY N o1 o2 o3) N 0).bind fun o9=>(Sum.elim (fun IS=>(some IS)) (fun rZ=>(some 0)) o9)):Option Int).bind fun Rr=>some Rr)) else none) else none):=by kernel_rfl
def Ji:List (Nat × cE):=[(1,.join [(.ret,⟨(.cons (.int .i64) .nil),[4],[],[],[],[]⟩)]),
 (26,.loop [] ⟨(.cons (.int .i64) .nil),[11],[],[],[],[]⟩ [(.ret,⟨(.cons (.int .i64) .nil),[4],[],[],[],[]⟩),(.ex 0,⟨.nil,[],[],[],[],[]⟩)])]
def Jj:List (Nat × cE):=[(1,.join [(.ret,⟨(.cons (.int .i64) .nil),[4],[],[],[],[]⟩)])]
def HK (lo N:Nat):XB × XB→Option Int:=(cxL lo N [] [(137,Ji),(160,Jj)]).fn 1000 136 (.cons ay (.cons ay .nil)) (.int .i64)
def aaE (lo N:Nat):aS:=⟨(.cons ay (.cons ay .nil)),(.int .i64),HK lo N⟩
theorem MU (lo N:Nat):ak (p9 lo) 136 (aaE lo N):=fw.bu (fun _ _ h=>by cases h) (by kernel_rfl) (by kernel_rfl)
def mN (a0:Int × Int × Int) (v1:Int):=
 ((fx (ah [(AV.int .i64 a0.2.1),(AV.int .i64 a0.1),(AV.int .i64 a0.2.2)] (toNat v1))) != (fx (ah [(AV.int .i64 a0.2.1),(AV.int .i64 a0.1),(AV.int .i64 a0.2.2)] (toNat v1))))
def jo (N:Nat) (a0:Int × Int × Int) (a1:Int × Int × Int) (v1:Int):Option (Int ⊕ (Int ⊕ Unit)):=
 (bif (decide (v1 < 3)) then bif (decide ((0:Int)≤v1∧v1 < (([(AV.int .i64 a0.2.1),(AV.int .i64 a0.1),(AV.int .i64 a0.2.2)]).length:Int))&&fits p3 (ah [(AV.int .i64 a0.2.1),(AV.int .i64 a0.1),(AV.int .i64 a0.2.2)] (toNat v1))) then (bif (decide (v1≥3)) then (some (Sum.inr (Sum.inl 1))) else bif (decide ((0:Int)≤v1∧v1 < (([(AV.int .i64 a1.2.1),(AV.int .i64 a1.1),(AV.int .i64 a1.2.2)]).length:Int))&&fits p3 (ah [(AV.int .i64 a1.2.1),(AV.int .i64 a1.1),(AV.int .i64 a1.2.2)] (toNat v1))) then (((bif (mN a0 v1) then (bif (mN a1 v1) then (some 0) else (some (-1))) else (bif (mN a1 v1) then (some 1) else (bif (decide ((fx (ah [(AV.int .i64 a0.2.1),(AV.int .i64 a0.1),(AV.int .i64 a0.2.2)] (toNat v1))) < (fx (ah [(AV.int .i64 a1.2.1),(AV.int .i64 a1.1),(AV.int .i64 a1.2.2)] (toNat v1))))) then (some (-1)) else (bif (decide ((fx (ah [(AV.int .i64 a0.2.1),(AV.int .i64 a0.1),(AV.int .i64 a0.2.2)] (toNat v1))) > (fx (ah [(AV.int .i64 a1.2.1),(AV.int .i64 a1.1),(AV.int .i64 a1.2.2)] (toNat v1))))) then (some 1) else (some 0))))):Option Int).bind fun o4=>(bif (o4 != 0) then (some (Sum.inr (Sum.inl o4))) else (some (Sum.inl (wrap .i64 (v1+1)))))) else none) else none else (some (Sum.inr (Sum.inr ()))))
theorem MV (lo N:Nat) (a0:Int × Int × Int) (a1:Int × Int × Int):HK lo N (a0,a1) =
 ((((aL (jo N a0 a1) N 0).bind fun o9=>(Sum.elim (fun IS=>(some IS)) (fun rZ=>(bif (decide (3 < 3)) then (some (-1)) else (some 0))) o9)):Option Int).bind fun Rr=>some Rr):=by kernel_rfl
def Jk:List (Nat × cE):=[(1,.join [(.ret,⟨(.cons (.int .i64) .nil),[2],[],[],[],[]⟩)]),
 (58,.loop [] ⟨(.cons (.int .i64) .nil),[8],[],[],[],[]⟩ [(.ret,⟨(.cons (.int .i64) .nil),[2],[],[],[],[]⟩),(.ex 0,⟨.nil,[],[],[],[],[]⟩)])]
def Jl:List (Nat × cE):=[(1,.join [(.ret,⟨(.cons (.int .i64) .nil),[4],[],[],[],[]⟩)])]
def HL (lo N:Nat):XA × XA→Option Int:=(cxL lo N [] [(159,Jk),(160,Jl)]).fn 1000 177 (.cons fI (.cons fI .nil)) (.int .i64)
def aaF (lo N:Nat):aS:=⟨(.cons fI (.cons fI .nil)),(.int .i64),HL lo N⟩
theorem MW (lo N:Nat):ak (p9 lo) 177 (aaF lo N):=fw.bu (fun _ _ h=>by cases h) (by kernel_rfl) (by kernel_rfl)
def jq (N:Nat) (o1:Int) (o2:Int) (v3:Int):Option (Int ⊕ (Int ⊕ Unit)):=
 (bif (decide (v3 < 2)) then bif (decide ((0:Int)≤v3∧v3 < (([(AV.int .i64 o1),(AV.int .i64 o2)]).length:Int))&&fits p3 (ah [(AV.int .i64 o1),(AV.int .i64 o2)] (toNat v3))) then (bif ((fx (ah [(AV.int .i64 o1),(AV.int .i64 o2)] (toNat v3))) != 0) then (some (Sum.inr (Sum.inl (fx (ah [(AV.int .i64 o1),(AV.int .i64 o2)] (toNat v3)))))) else (some (Sum.inl (wrap .i64 (v3+1))))) else none else (some (Sum.inr (Sum.inr ()))))
theorem MX (lo N:Nat) (a0:Int × Int) (a1:Int × Int):HL lo N (a0,a1) =
 (((bif (a0.2 != a0.2) then (bif (a1.2 != a1.2) then (some 0) else (some (-1))) else (bif (a1.2 != a1.2) then (some 1) else (bif (decide (a0.2 < a1.2)) then (some (-1)) else (bif (decide (a0.2 > a1.2)) then (some 1) else (some 0))))):Option Int).bind fun o1=>bif ((a1.1 == a1.1)&&((a0.1 == a0.1)&&true)) then (((bif (a0.1 != a0.1) then (bif (a1.1 != a1.1) then (some 0) else (some (-1))) else (bif (a1.1 != a1.1) then (some 1) else (bif (decide (a0.1 < a1.1)) then (some (-1)) else (bif (decide (a0.1 > a1.1)) then (some 1) else (some 0))))):Option Int).bind fun o2=>((((aL (jq N o1 o2) N 0).bind fun o8=>(Sum.elim (fun o9=>(some o9)) (fun IS=>(some 0)) o8)):Option Int).bind fun rZ=>some rZ)) else none):=by kernel_rfl
end
end Go.Proofs.YtldcljfjjoidhaaGreatDoor
