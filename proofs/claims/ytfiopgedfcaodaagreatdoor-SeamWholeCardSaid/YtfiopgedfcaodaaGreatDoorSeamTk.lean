/- What the functions compute (printed by a program of ours,checked by the kernel). -/
import Derived.Test.YtfiopgedfcaodaaGreatDoorSeamT
set_option linter.all false
namespace Go.Proofs.YtfiopgedfcaodaaGreatDoor
open Go Go.Am
set_option maxRecDepth 100000
noncomputable def ss (lo:Nat):Env:={ bX with lo:=lo }
noncomputable def Uu (lo:Nat):NU:={ Su with toEnv:=ss lo }
noncomputable def cxL (lo N:Nat) (G4:List (Nat × aD)) (xS:List (Nat × List (Nat × a8))):fJ:={ D:=Uu lo,G4:=IK G4,xS:=KS xS,fz:=false,N:=N }
def Lz:List (Nat × a8):=[(1,.join [(.ret,⟨(.cons (.int .i64) .nil),[4],[],[],[],[]⟩)])]
def LC:List (Nat × a8):=[(1,.join [(.ret,⟨(.cons (.int .i64) .nil),[2],[],[],[],[]⟩)]),
 (58,.loop [] ⟨(.cons (.int .i64) .nil),[8],[],[],[],[]⟩ [(.ret,⟨(.cons (.int .i64) .nil),[2],[],[],[],[]⟩),(.ex 0,⟨.nil,[],[],[],[],[]⟩)])]
-- "codend/netting.knots$1"
noncomputable def PD (lo N:Nat):(Int × Int) × (Int × Int)→Option Int:=(cxL lo N [] [(161,Lz),(166,LC)]).fn 1000 212 (.cons (.agg (.cons (.int .i64) (.cons (.int .i64) .nil))) (.cons (.agg (.cons (.int .i64) (.cons (.int .i64) .nil))) .nil)) (.int .i64)
noncomputable def abY (lo N:Nat):aD:=⟨(.cons (.agg (.cons (.int .i64) (.cons (.int .i64) .nil))) (.cons (.agg (.cons (.int .i64) (.cons (.int .i64) .nil))) .nil)),(.int .i64),PD lo N⟩
theorem PE (lo N:Nat):aw (ss lo) 212 (abY lo N):=fJ.bL (fun _ _ h=>by cases h) (by kernel_rfl) (by kernel_rfl)
noncomputable def jz (N:Nat) (o1:Int) (o2:Int) (v3:Int):Option (Int ⊕ (Int ⊕ Unit)):=
 (bif (decide (v3 < 2)) then bif (decide ((0:Int)≤v3∧v3 < (([(AV.int .i64 o1),(AV.int .i64 o2)]).length:Int))&&aA.fits p3 (ab [(AV.int .i64 o1),(AV.int .i64 o2)] (Int.toNat v3))) then (bif ((d3 (ab [(AV.int .i64 o1),(AV.int .i64 o2)] (Int.toNat v3))) != 0) then (some (Sum.inr (Sum.inl (d3 (ab [(AV.int .i64 o1),(AV.int .i64 o2)] (Int.toNat v3)))))) else (some (Sum.inl (IntKind.wrap .i64 (v3+1))))) else none else (some (Sum.inr (Sum.inr ()))))
theorem PG (lo N:Nat) (a0:Int × Int) (a1:Int × Int):PD lo N (a0,a1) =
 (((bif (a0.2 != a0.2) then (bif (a1.2 != a1.2) then (some 0) else (some (-1))) else (bif (a1.2 != a1.2) then (some 1) else (bif (decide (a0.2 < a1.2)) then (some (-1)) else (bif (decide (a0.2 > a1.2)) then (some 1) else (some 0))))):Option Int).bind fun o1=>bif ((a1.1 == a1.1)&&((a0.1 == a0.1)&&true)) then (((bif (a0.1 != a0.1) then (bif (a1.1 != a1.1) then (some 0) else (some (-1))) else (bif (a1.1 != a1.1) then (some 1) else (bif (decide (a0.1 < a1.1)) then (some (-1)) else (bif (decide (a0.1 > a1.1)) then (some 1) else (some 0))))):Option Int).bind fun o2=>((((ak (V:=Int) (X:=Int ⊕ Unit) (jz N o1 o2) N 0).bind fun o8=>(Sum.elim (fun o9=>(some o9)) (fun Nj=>(some 0)) o8)):Option Int).bind fun IC=>some IC)) else none):=by kernel_rfl
def LD:List (Nat × a8):=[(1,.join [(.ret,⟨(.cons (.int .i64) .nil),[4],[],[],[.dead,.dead],[]⟩)]),
 (26,.loop [] ⟨(.cons (.int .i64) .nil),[11],[],[],[.dead,.dead],[]⟩ [(.ret,⟨(.cons (.int .i64) .nil),[4],[],[],[.dead,.dead],[]⟩),(.ex 0,⟨.nil,[],[],[],[.dead,.dead],[]⟩)])]
def LG:List (Nat × a8):=[(1,.join [(.ret,⟨(.cons (.int .i64) .nil),[4],[],[],[.dead,.dead],[]⟩)])]
-- "codend/seam.Compose$2"
noncomputable def PH (lo N:Nat):(Int × Int) × (Int × Int)→Option Int:=(cxL lo N [] [(104,LD),(161,LG)]).fn 1000 103 (.cons (.agg (.cons (.int .i64) (.cons (.int .i64) .nil))) (.cons (.agg (.cons (.int .i64) (.cons (.int .i64) .nil))) .nil)) (.int .i64)
noncomputable def abZ (lo N:Nat):aD:=⟨(.cons (.agg (.cons (.int .i64) (.cons (.int .i64) .nil))) (.cons (.agg (.cons (.int .i64) (.cons (.int .i64) .nil))) .nil)),(.int .i64),PH lo N⟩
theorem PI (lo N:Nat):aw (ss lo) 103 (abZ lo N):=fJ.bL (fun _ _ h=>by cases h) (by kernel_rfl) (by kernel_rfl)
noncomputable def lf (N:Nat) (a0:Int × Int) (a1:Int × Int) (v1:Int):Option (Int ⊕ (Int ⊕ Unit)):=
 (bif (decide (v1 < 2)) then bif (decide ((0:Int)≤v1∧v1 < (([(AV.int .i64 a0.1),(AV.int .i64 a0.2)]).length:Int))&&aA.fits p3 (ab [(AV.int .i64 a0.1),(AV.int .i64 a0.2)] (Int.toNat v1))) then (bif (decide (v1≥2)) then (some (Sum.inr (Sum.inl 1))) else bif (decide ((0:Int)≤v1∧v1 < (([(AV.int .i64 a1.1),(AV.int .i64 a1.2)]).length:Int))&&aA.fits p3 (ab [(AV.int .i64 a1.1),(AV.int .i64 a1.2)] (Int.toNat v1))) then (((bif ((d3 (ab [(AV.int .i64 a0.1),(AV.int .i64 a0.2)] (Int.toNat v1))) != (d3 (ab [(AV.int .i64 a0.1),(AV.int .i64 a0.2)] (Int.toNat v1)))) then (bif ((d3 (ab [(AV.int .i64 a1.1),(AV.int .i64 a1.2)] (Int.toNat v1))) != (d3 (ab [(AV.int .i64 a1.1),(AV.int .i64 a1.2)] (Int.toNat v1)))) then (some 0) else (some (-1))) else (bif ((d3 (ab [(AV.int .i64 a1.1),(AV.int .i64 a1.2)] (Int.toNat v1))) != (d3 (ab [(AV.int .i64 a1.1),(AV.int .i64 a1.2)] (Int.toNat v1)))) then (some 1) else (bif (decide ((d3 (ab [(AV.int .i64 a0.1),(AV.int .i64 a0.2)] (Int.toNat v1))) < (d3 (ab [(AV.int .i64 a1.1),(AV.int .i64 a1.2)] (Int.toNat v1))))) then (some (-1)) else (bif (decide ((d3 (ab [(AV.int .i64 a0.1),(AV.int .i64 a0.2)] (Int.toNat v1))) > (d3 (ab [(AV.int .i64 a1.1),(AV.int .i64 a1.2)] (Int.toNat v1))))) then (some 1) else (some 0))))):Option Int).bind fun o4=>(bif (o4 != 0) then (some (Sum.inr (Sum.inl o4))) else (some (Sum.inl (IntKind.wrap .i64 (v1+1)))))) else none) else none else (some (Sum.inr (Sum.inr ()))))
theorem PJ (lo N:Nat) (a0:Int × Int) (a1:Int × Int):PH lo N (a0,a1) =
 ((((ak (V:=Int) (X:=Int ⊕ Unit) (lf N a0 a1) N 0).bind fun o9=>(Sum.elim (fun Nj=>(some Nj)) (fun IC=>(bif (decide (2 < 2)) then (some (-1)) else (some 0))) o9)):Option Int).bind fun yV=>some yV):=by kernel_rfl
end Go.Proofs.YtfiopgedfcaodaaGreatDoor
