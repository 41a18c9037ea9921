/- What the functions compute (printed by a program of ours,checked by the kernel). -/
import Derived.Test.YtldcljfjjoidhaaGreatDoorBraT
set_option linter.all false
namespace Go.Proofs.YtldcljfjjoidhaaGreatDoor
open Go Go.Am
open List (map)
open Int (toNat)
open Go.IntKind (wrap)
open Go.Am.aO (fits)
set_option maxRecDepth 100000
noncomputable section
def oL (lo:Nat):Env:={ bR with lo:=lo }
def Uh (lo:Nat):Hu:={ KS with toEnv:=oL lo }
def cxL (lo N:Nat) (yy:List (Nat × aZ)) (oD:List (Nat × List (Nat × df))):gv:={ D:=Uh lo,yy:=CR yy,oD:=F9 oD,fz:=false,N:=N }
def HT:List (Nat × df):=[(1,.join [(.ret,⟨(.cons (.int .i64) .nil),[2],[],[],[],[]⟩)]),
 (58,.loop [] ⟨(.cons (.int .i64) .nil),[8],[],[],[],[]⟩ [(.ret,⟨(.cons (.int .i64) .nil),[2],[],[],[],[]⟩),(.ex 0,⟨.nil,[],[],[],[],[]⟩)])]
def HU:List (Nat × df):=[(1,.join [(.ret,⟨(.cons (.int .i64) .nil),[4],[],[],[],[]⟩)])]
def Gq (lo N:Nat):XB × XB→Option Int:=(cxL lo N [] [(159,HT),(160,HU)]).fn 1000 127 (.cons au (.cons au .nil)) (.int .i64)
def XR (lo N:Nat):aZ:=⟨(.cons au (.cons au .nil)),(.int .i64),Gq lo N⟩
theorem Ls (lo N:Nat):ap (oL lo) 127 (XR lo N):=gv.bY (fun _ _ h=>by cases h) (by kernel_rfl) (by kernel_rfl)
def gy (N:Nat) (o1:Int) (o2:Int) (o3:Int) (v4:Int):Option (Int ⊕ (Int ⊕ Unit)):=
 (bif (decide (v4 < 3)) then bif (decide ((0:Int)≤v4∧v4 < (([(AV.int .i64 o1),(AV.int .i64 o2),(AV.int .i64 o3)]).length:Int))&&fits p3 (aj [(AV.int .i64 o1),(AV.int .i64 o2),(AV.int .i64 o3)] (toNat v4))) then (bif ((gb (aj [(AV.int .i64 o1),(AV.int .i64 o2),(AV.int .i64 o3)] (toNat v4))) != 0) then (some (Sum.inr (Sum.inl (gb (aj [(AV.int .i64 o1),(AV.int .i64 o2),(AV.int .i64 o3)] (toNat v4)))))) else (some (Sum.inl (wrap .i64 (v4+1))))) else none else (some (Sum.inr (Sum.inr ()))))
theorem Lt (lo N:Nat) (a0:Int × Int × Int) (a1:Int × Int × Int):Gq lo N (a0,a1) =
 (((bif (a0.2.1 != a0.2.1) then (bif (a1.2.1 != a1.2.1) then (some 0) else (some (-1))) else (bif (a1.2.1 != a1.2.1) then (some 1) else (bif (decide (a0.2.1 < a1.2.1)) then (some (-1)) else (bif (decide (a0.2.1 > a1.2.1)) then (some 1) else (some 0))))):Option Int).bind fun o1=>bif ((a1.2.2 == a1.2.2)&&((a0.2.2 == a0.2.2)&&((a1.1 == a1.1)&&((a0.1 == a0.1)&&true)))) then (((bif (a0.1 != a0.1) then (bif (a1.1 != a1.1) then (some 0) else (some (-1))) else (bif (a1.1 != a1.1) then (some 1) else (bif (decide (a0.1 < a1.1)) then (some (-1)) else (bif (decide (a0.1 > a1.1)) then (some 1) else (some 0))))):Option Int).bind fun o2=>bif ((a1.2.2 == a1.2.2)&&((a0.2.2 == a0.2.2)&&true)) then (((bif (a0.2.2 != a0.2.2) then (bif (a1.2.2 != a1.2.2) then (some 0) else (some (-1))) else (bif (a1.2.2 != a1.2.2) then (some 1) else (bif (decide (a0.2.2 < a1.2.2)) then (some (-1)) else (bif (decide (a0.2.2 > a1.2.2)) then (some 1) else (some 0))))):Option Int).bind fun o3=>((((aN (gy N o1 o2 o3) N 0).bind fun o9=>(Sum.elim (fun Iu=>(some Iu)) (fun Iv=>(some 0)) o9)):Option Int).bind fun xQ=>some xQ)) else none) else none):=by kernel_rfl
def HV:List (Nat × df):=[(1,.join [(.ret,⟨(.cons (.int .i64) .nil),[4],[],[],[],[]⟩)]),
 (26,.loop [] ⟨(.cons (.int .i64) .nil),[11],[],[],[],[]⟩ [(.ret,⟨(.cons (.int .i64) .nil),[4],[],[],[],[]⟩),(.ex 0,⟨.nil,[],[],[],[],[]⟩)])]
def HW:List (Nat × df):=[(1,.join [(.ret,⟨(.cons (.int .i64) .nil),[4],[],[],[],[]⟩)])]
def Gr (lo N:Nat):XB × XB→Option Int:=(cxL lo N [] [(137,HV),(160,HW)]).fn 1000 136 (.cons au (.cons au .nil)) (.int .i64)
def XS (lo N:Nat):aZ:=⟨(.cons au (.cons au .nil)),(.int .i64),Gr lo N⟩
theorem Lu (lo N:Nat):ap (oL lo) 136 (XS lo N):=gv.bY (fun _ _ h=>by cases h) (by kernel_rfl) (by kernel_rfl)
def lR (a0:Int × Int × Int) (v1:Int):=
 ((gb (aj [(AV.int .i64 a0.2.1),(AV.int .i64 a0.1),(AV.int .i64 a0.2.2)] (toNat v1))) != (gb (aj [(AV.int .i64 a0.2.1),(AV.int .i64 a0.1),(AV.int .i64 a0.2.2)] (toNat v1))))
def iH (N:Nat) (a0:Int × Int × Int) (a1:Int × Int × Int) (v1:Int):Option (Int ⊕ (Int ⊕ Unit)):=
 (bif (decide (v1 < 3)) then bif (decide ((0:Int)≤v1∧v1 < (([(AV.int .i64 a0.2.1),(AV.int .i64 a0.1),(AV.int .i64 a0.2.2)]).length:Int))&&fits p3 (aj [(AV.int .i64 a0.2.1),(AV.int .i64 a0.1),(AV.int .i64 a0.2.2)] (toNat v1))) then (bif (decide (v1≥3)) then (some (Sum.inr (Sum.inl 1))) else bif (decide ((0:Int)≤v1∧v1 < (([(AV.int .i64 a1.2.1),(AV.int .i64 a1.1),(AV.int .i64 a1.2.2)]).length:Int))&&fits p3 (aj [(AV.int .i64 a1.2.1),(AV.int .i64 a1.1),(AV.int .i64 a1.2.2)] (toNat v1))) then (((bif (lR a0 v1) then (bif (lR a1 v1) then (some 0) else (some (-1))) else (bif (lR a1 v1) then (some 1) else (bif (decide ((gb (aj [(AV.int .i64 a0.2.1),(AV.int .i64 a0.1),(AV.int .i64 a0.2.2)] (toNat v1))) < (gb (aj [(AV.int .i64 a1.2.1),(AV.int .i64 a1.1),(AV.int .i64 a1.2.2)] (toNat v1))))) then (some (-1)) else (bif (decide ((gb (aj [(AV.int .i64 a0.2.1),(AV.int .i64 a0.1),(AV.int .i64 a0.2.2)] (toNat v1))) > (gb (aj [(AV.int .i64 a1.2.1),(AV.int .i64 a1.1),(AV.int .i64 a1.2.2)] (toNat v1))))) then (some 1) else (some 0))))):Option Int).bind fun o4=>(bif (o4 != 0) then (some (Sum.inr (Sum.inl o4))) else (some (Sum.inl (wrap .i64 (v1+1)))))) else none) else none else (some (Sum.inr (Sum.inr ()))))
theorem Lv (lo N:Nat) (a0:Int × Int × Int) (a1:Int × Int × Int):Gr lo N (a0,a1) =
 ((((aN (iH N a0 a1) N 0).bind fun o9=>(Sum.elim (fun Iu=>(some Iu)) (fun Iv=>(bif (decide (3 < 3)) then (some (-1)) else (some 0))) o9)):Option Int).bind fun xQ=>some xQ):=by kernel_rfl
def HX:List (Nat × df):=[(1,.join [(.ret,⟨(.cons (.int .i64) .nil),[2],[],[],[],[]⟩)]),
 (58,.loop [] ⟨(.cons (.int .i64) .nil),[8],[],[],[],[]⟩ [(.ret,⟨(.cons (.int .i64) .nil),[2],[],[],[],[]⟩),(.ex 0,⟨.nil,[],[],[],[],[]⟩)])]
def HY:List (Nat × df):=[(1,.join [(.ret,⟨(.cons (.int .i64) .nil),[4],[],[],[],[]⟩)])]
def Gs (lo N:Nat):XA × XA→Option Int:=(cxL lo N [] [(159,HX),(160,HY)]).fn 1000 177 (.cons fI (.cons fI .nil)) (.int .i64)
def XU (lo N:Nat):aZ:=⟨(.cons fI (.cons fI .nil)),(.int .i64),Gs lo N⟩
theorem Lw (lo N:Nat):ap (oL lo) 177 (XU lo N):=gv.bY (fun _ _ h=>by cases h) (by kernel_rfl) (by kernel_rfl)
def iI (N:Nat) (o1:Int) (o2:Int) (v3:Int):Option (Int ⊕ (Int ⊕ Unit)):=
 (bif (decide (v3 < 2)) then bif (decide ((0:Int)≤v3∧v3 < (([(AV.int .i64 o1),(AV.int .i64 o2)]).length:Int))&&fits p3 (aj [(AV.int .i64 o1),(AV.int .i64 o2)] (toNat v3))) then (bif ((gb (aj [(AV.int .i64 o1),(AV.int .i64 o2)] (toNat v3))) != 0) then (some (Sum.inr (Sum.inl (gb (aj [(AV.int .i64 o1),(AV.int .i64 o2)] (toNat v3)))))) else (some (Sum.inl (wrap .i64 (v3+1))))) else none else (some (Sum.inr (Sum.inr ()))))
theorem Lx (lo N:Nat) (a0:Int × Int) (a1:Int × Int):Gs lo N (a0,a1) =
 (((bif (a0.2 != a0.2) then (bif (a1.2 != a1.2) then (some 0) else (some (-1))) else (bif (a1.2 != a1.2) then (some 1) else (bif (decide (a0.2 < a1.2)) then (some (-1)) else (bif (decide (a0.2 > a1.2)) then (some 1) else (some 0))))):Option Int).bind fun o1=>bif ((a1.1 == a1.1)&&((a0.1 == a0.1)&&true)) then (((bif (a0.1 != a0.1) then (bif (a1.1 != a1.1) then (some 0) else (some (-1))) else (bif (a1.1 != a1.1) then (some 1) else (bif (decide (a0.1 < a1.1)) then (some (-1)) else (bif (decide (a0.1 > a1.1)) then (some 1) else (some 0))))):Option Int).bind fun o2=>((((aN (iI N o1 o2) N 0).bind fun o8=>(Sum.elim (fun o9=>(some o9)) (fun Iu=>(some 0)) o8)):Option Int).bind fun Iv=>some Iv)) else none):=by kernel_rfl
end
end Go.Proofs.YtldcljfjjoidhaaGreatDoor
