/- What the functions compute (printed by a program of ours,checked by the kernel). -/
import Derived.Test.YtophnjjjmikmeaaGreatOttU
set_option linter.all false
namespace Go.Proofs.YtophnjjjmikmeaaGreat
open Go Go.Am
set_option maxRecDepth 100000
noncomputable def rR (lo:Nat):Env:={ cn with lo:=lo }
noncomputable def SK (lo:Nat):MW:={ PA with toEnv:=rR lo }
noncomputable def cxL (lo N:Nat) (DH:List (Nat × bl)) (sO:List (Nat × List (Nat × dL))):gn:={ D:=SK lo,DH:=C4 DH,sO:=Ku sO,fz:=false,N:=N }
def On:List (Nat × dL):=[(1,.join [(.ret,⟨(.cons (.int .i64) .nil),[2],[],[],[],[]⟩)]),
 (58,.loop [] ⟨(.cons (.int .i64) .nil),[8],[],[],[],[]⟩ [(.ret,⟨(.cons (.int .i64) .nil),[2],[],[],[],[]⟩),(.ex 0,⟨.nil,[],[],[],[],[]⟩)])]
def Oo:List (Nat × dL):=[(1,.join [(.ret,⟨(.cons (.int .i64) .nil),[4],[],[],[],[]⟩)])]
noncomputable def Oq (lo N:Nat):(Int × Int × Int) × (Int × Int × Int)→Option Int:=(cxL lo N [] [(76,On),(77,Oo)]).fn 1000 72 (.cons (.agg (.cons (.int .i64) (.cons (.int .i64) (.cons (.int .i64) .nil)))) (.cons (.agg (.cons (.int .i64) (.cons (.int .i64) (.cons (.int .i64) .nil)))) .nil)) (.int .i64)
noncomputable def Zn (lo N:Nat):bl:=⟨(.cons (.agg (.cons (.int .i64) (.cons (.int .i64) (.cons (.int .i64) .nil)))) (.cons (.agg (.cons (.int .i64) (.cons (.int .i64) (.cons (.int .i64) .nil)))) .nil)),(.int .i64),Oq lo N⟩
theorem Ot (lo N:Nat):av (rR lo) 72 (Zn lo N):=gn.cj (fun _ _ h=>by cases h) (by kernel_rfl) (by kernel_rfl)
noncomputable def iN (N:Nat) (o1:Int) (o2:Int) (o3:Int) (v4:Int):Option (Int ⊕ (Int ⊕ Unit)):=
 (bif (decide (v4 < 3)) then bif (decide ((0:Int)≤v4∧v4 < (([(AV.int .i64 o1),(AV.int .i64 o2),(AV.int .i64 o3)]).length:Int))&&aj.fits p3 (aw [(AV.int .i64 o1),(AV.int .i64 o2),(AV.int .i64 o3)] (Int.toNat v4))) then (bif ((d3 (aw [(AV.int .i64 o1),(AV.int .i64 o2),(AV.int .i64 o3)] (Int.toNat v4))) != 0) then (some (Sum.inr (Sum.inl (d3 (aw [(AV.int .i64 o1),(AV.int .i64 o2),(AV.int .i64 o3)] (Int.toNat v4)))))) else (some (Sum.inl (IntKind.wrap .i64 (v4+1))))) else none else (some (Sum.inr (Sum.inr ()))))
theorem Ou (lo N:Nat) (a0:Int × Int × Int) (a1:Int × Int × Int):Oq lo N (a0,a1) =
 (((bif (a0.2.1 != a0.2.1) then (bif (a1.2.1 != a1.2.1) then (some 0) else (some (-1))) else (bif (a1.2.1 != a1.2.1) then (some 1) else (bif (decide (a0.2.1 < a1.2.1)) then (some (-1)) else (bif (decide (a0.2.1 > a1.2.1)) then (some 1) else (some 0))))):Option Int).bind fun o1=>bif ((a1.2.2 == a1.2.2)&&((a0.2.2 == a0.2.2)&&((a1.1 == a1.1)&&((a0.1 == a0.1)&&true)))) then (((bif (a0.1 != a0.1) then (bif (a1.1 != a1.1) then (some 0) else (some (-1))) else (bif (a1.1 != a1.1) then (some 1) else (bif (decide (a0.1 < a1.1)) then (some (-1)) else (bif (decide (a0.1 > a1.1)) then (some 1) else (some 0))))):Option Int).bind fun o2=>bif ((a1.2.2 == a1.2.2)&&((a0.2.2 == a0.2.2)&&true)) then (((bif (a0.2.2 != a0.2.2) then (bif (a1.2.2 != a1.2.2) then (some 0) else (some (-1))) else (bif (a1.2.2 != a1.2.2) then (some 1) else (bif (decide (a0.2.2 < a1.2.2)) then (some (-1)) else (bif (decide (a0.2.2 > a1.2.2)) then (some 1) else (some 0))))):Option Int).bind fun o3=>((((aZ (V:=Int) (X:=Int ⊕ Unit) (iN N o1 o2 o3) N 0).bind fun o9=>(Sum.elim (fun zM=>(some zM)) (fun H8=>(some 0)) o9)):Option Int).bind fun BS=>some BS)) else none) else none):=by kernel_rfl
def Ov:List (Nat × dL):=[(1,.join [(.ret,⟨(.cons (.int .i64) .nil),[2],[],[],[],[]⟩)]),
 (58,.loop [] ⟨(.cons (.int .i64) .nil),[8],[],[],[],[]⟩ [(.ret,⟨(.cons (.int .i64) .nil),[2],[],[],[],[]⟩),(.ex 0,⟨.nil,[],[],[],[],[]⟩)])]
def Ow:List (Nat × dL):=[(1,.join [(.ret,⟨(.cons (.int .i64) .nil),[4],[],[],[],[]⟩)])]
noncomputable def Ox (lo N:Nat):(Int × Int) × (Int × Int)→Option Int:=(cxL lo N [] [(76,Ov),(77,Ow)]).fn 1000 75 (.cons (.agg (.cons (.int .i64) (.cons (.int .i64) .nil))) (.cons (.agg (.cons (.int .i64) (.cons (.int .i64) .nil))) .nil)) (.int .i64)
noncomputable def Zo (lo N:Nat):bl:=⟨(.cons (.agg (.cons (.int .i64) (.cons (.int .i64) .nil))) (.cons (.agg (.cons (.int .i64) (.cons (.int .i64) .nil))) .nil)),(.int .i64),Ox lo N⟩
theorem Oy (lo N:Nat):av (rR lo) 75 (Zo lo N):=gn.cj (fun _ _ h=>by cases h) (by kernel_rfl) (by kernel_rfl)
noncomputable def kA (N:Nat) (o1:Int) (o2:Int) (v3:Int):Option (Int ⊕ (Int ⊕ Unit)):=
 (bif (decide (v3 < 2)) then bif (decide ((0:Int)≤v3∧v3 < (([(AV.int .i64 o1),(AV.int .i64 o2)]).length:Int))&&aj.fits p3 (aw [(AV.int .i64 o1),(AV.int .i64 o2)] (Int.toNat v3))) then (bif ((d3 (aw [(AV.int .i64 o1),(AV.int .i64 o2)] (Int.toNat v3))) != 0) then (some (Sum.inr (Sum.inl (d3 (aw [(AV.int .i64 o1),(AV.int .i64 o2)] (Int.toNat v3)))))) else (some (Sum.inl (IntKind.wrap .i64 (v3+1))))) else none else (some (Sum.inr (Sum.inr ()))))
theorem Oz (lo N:Nat) (a0:Int × Int) (a1:Int × Int):Ox lo N (a0,a1) =
 (((bif (a0.2 != a0.2) then (bif (a1.2 != a1.2) then (some 0) else (some (-1))) else (bif (a1.2 != a1.2) then (some 1) else (bif (decide (a0.2 < a1.2)) then (some (-1)) else (bif (decide (a0.2 > a1.2)) then (some 1) else (some 0))))):Option Int).bind fun o1=>bif ((a1.1 == a1.1)&&((a0.1 == a0.1)&&true)) then (((bif (a0.1 != a0.1) then (bif (a1.1 != a1.1) then (some 0) else (some (-1))) else (bif (a1.1 != a1.1) then (some 1) else (bif (decide (a0.1 < a1.1)) then (some (-1)) else (bif (decide (a0.1 > a1.1)) then (some 1) else (some 0))))):Option Int).bind fun o2=>((((aZ (V:=Int) (X:=Int ⊕ Unit) (kA N o1 o2) N 0).bind fun o8=>(Sum.elim (fun o9=>(some o9)) (fun zM=>(some 0)) o8)):Option Int).bind fun H8=>some H8)) else none):=by kernel_rfl
end Go.Proofs.YtophnjjjmikmeaaGreat
