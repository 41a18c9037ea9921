/- What the functions compute (printed by a program of ours,checked by the kernel). -/
import Derived.Test.YtfiopgedfcaodaaGreatDoorSeamT
set_option linter.all false
namespace Go.Proofs.YtfiopgedfcaodaaGreatDoor
open Go Go.Am
set_option maxRecDepth 100000
noncomputable def envLo (lo:Nat):Env:={ envS with lo:=lo }
noncomputable def envDLo (lo:Nat):EnvD:={ envDS with toEnv:=envLo lo }
noncomputable def cxL (lo N:Nat) (tab:List (Nat × Entry)) (cert:List (Nat × List (Nat × Cert))):Ctx:={ D:=envDLo lo,tab:=tabF tab,cert:=certF cert,fz:=false,N:=N }
def c212x161:List (Nat × Cert):=[(1,.join [(.ret,⟨(.cons (.int .i64) .nil),[4],[],[],[],[]⟩)])]
def c212x166:List (Nat × Cert):=[(1,.join [(.ret,⟨(.cons (.int .i64) .nil),[2],[],[],[],[]⟩)]),
 (58,.loop [] ⟨(.cons (.int .i64) .nil),[8],[],[],[],[]⟩ [(.ret,⟨(.cons (.int .i64) .nil),[2],[],[],[],[]⟩),(.ex 0,⟨.nil,[],[],[],[],[]⟩)])]
-- "codend/netting.knots$1"
noncomputable def T212 (lo N:Nat):(Int × Int) × (Int × Int)→Option Int:=(cxL lo N [] [(161,c212x161),(166,c212x166)]).fn 1000 212 (.cons (.agg (.cons (.int .i64) (.cons (.int .i64) .nil))) (.cons (.agg (.cons (.int .i64) (.cons (.int .i64) .nil))) .nil)) (.int .i64)
noncomputable def e212 (lo N:Nat):Entry:=⟨(.cons (.agg (.cons (.int .i64) (.cons (.int .i64) .nil))) (.cons (.agg (.cons (.int .i64) (.cons (.int .i64) .nil))) .nil)),(.int .i64),T212 lo N⟩
theorem T212_ok (lo N:Nat):EntryOk (envLo lo) 212 (e212 lo N):=Ctx.fn_ok (fun _ _ h=>by cases h) (by kernel_rfl) (by kernel_rfl)
noncomputable def R212x166x58 (N:Nat) (o1:Int) (o2:Int) (v3:Int):Option (Int ⊕ (Int ⊕ Unit)):=
 (bif (decide (v3 < 2)) then bif (decide ((0:Int)≤v3∧v3 < (([(AV.int .i64 o1),(AV.int .i64 o2)]).length:Int))&&Pat.fits p3 (nthD [(AV.int .i64 o1),(AV.int .i64 o2)] (Int.toNat v3))) then (bif ((d3 (nthD [(AV.int .i64 o1),(AV.int .i64 o2)] (Int.toNat v3))) != 0) then (some (Sum.inr (Sum.inl (d3 (nthD [(AV.int .i64 o1),(AV.int .i64 o2)] (Int.toNat v3)))))) else (some (Sum.inl (IntKind.wrap .i64 (v3+1))))) else none else (some (Sum.inr (Sum.inr ()))))
theorem T212_eq (lo N:Nat) (a0:Int × Int) (a1:Int × Int):T212 lo N (a0,a1) =
 (((bif (a0.2 != a0.2) then (bif (a1.2 != a1.2) then (some 0) else (some (-1))) else (bif (a1.2 != a1.2) then (some 1) else (bif (decide (a0.2 < a1.2)) then (some (-1)) else (bif (decide (a0.2 > a1.2)) then (some 1) else (some 0))))):Option Int).bind fun o1=>bif ((a1.1 == a1.1)&&((a0.1 == a0.1)&&true)) then (((bif (a0.1 != a0.1) then (bif (a1.1 != a1.1) then (some 0) else (some (-1))) else (bif (a1.1 != a1.1) then (some 1) else (bif (decide (a0.1 < a1.1)) then (some (-1)) else (bif (decide (a0.1 > a1.1)) then (some 1) else (some 0))))):Option Int).bind fun o2=>((((loopR (V:=Int) (X:=Int ⊕ Unit) (R212x166x58 N o1 o2) N 0).bind fun o8=>(Sum.elim (fun o9=>(some o9)) (fun o10=>(some 0)) o8)):Option Int).bind fun o11=>some o11)) else none):=by kernel_rfl
def c103x104:List (Nat × Cert):=[(1,.join [(.ret,⟨(.cons (.int .i64) .nil),[4],[],[],[.dead,.dead],[]⟩)]),
 (26,.loop [] ⟨(.cons (.int .i64) .nil),[11],[],[],[.dead,.dead],[]⟩ [(.ret,⟨(.cons (.int .i64) .nil),[4],[],[],[.dead,.dead],[]⟩),(.ex 0,⟨.nil,[],[],[],[.dead,.dead],[]⟩)])]
def c103x161:List (Nat × Cert):=[(1,.join [(.ret,⟨(.cons (.int .i64) .nil),[4],[],[],[.dead,.dead],[]⟩)])]
-- "codend/seam.Compose$2"
noncomputable def T103 (lo N:Nat):(Int × Int) × (Int × Int)→Option Int:=(cxL lo N [] [(104,c103x104),(161,c103x161)]).fn 1000 103 (.cons (.agg (.cons (.int .i64) (.cons (.int .i64) .nil))) (.cons (.agg (.cons (.int .i64) (.cons (.int .i64) .nil))) .nil)) (.int .i64)
noncomputable def e103 (lo N:Nat):Entry:=⟨(.cons (.agg (.cons (.int .i64) (.cons (.int .i64) .nil))) (.cons (.agg (.cons (.int .i64) (.cons (.int .i64) .nil))) .nil)),(.int .i64),T103 lo N⟩
theorem T103_ok (lo N:Nat):EntryOk (envLo lo) 103 (e103 lo N):=Ctx.fn_ok (fun _ _ h=>by cases h) (by kernel_rfl) (by kernel_rfl)
noncomputable def R103x104x26 (N:Nat) (a0:Int × Int) (a1:Int × Int) (v1:Int):Option (Int ⊕ (Int ⊕ Unit)):=
 (bif (decide (v1 < 2)) then bif (decide ((0:Int)≤v1∧v1 < (([(AV.int .i64 a0.1),(AV.int .i64 a0.2)]).length:Int))&&Pat.fits p3 (nthD [(AV.int .i64 a0.1),(AV.int .i64 a0.2)] (Int.toNat v1))) then (bif (decide (v1≥2)) then (some (Sum.inr (Sum.inl 1))) else bif (decide ((0:Int)≤v1∧v1 < (([(AV.int .i64 a1.1),(AV.int .i64 a1.2)]).length:Int))&&Pat.fits p3 (nthD [(AV.int .i64 a1.1),(AV.int .i64 a1.2)] (Int.toNat v1))) then (((bif ((d3 (nthD [(AV.int .i64 a0.1),(AV.int .i64 a0.2)] (Int.toNat v1))) != (d3 (nthD [(AV.int .i64 a0.1),(AV.int .i64 a0.2)] (Int.toNat v1)))) then (bif ((d3 (nthD [(AV.int .i64 a1.1),(AV.int .i64 a1.2)] (Int.toNat v1))) != (d3 (nthD [(AV.int .i64 a1.1),(AV.int .i64 a1.2)] (Int.toNat v1)))) then (some 0) else (some (-1))) else (bif ((d3 (nthD [(AV.int .i64 a1.1),(AV.int .i64 a1.2)] (Int.toNat v1))) != (d3 (nthD [(AV.int .i64 a1.1),(AV.int .i64 a1.2)] (Int.toNat v1)))) then (some 1) else (bif (decide ((d3 (nthD [(AV.int .i64 a0.1),(AV.int .i64 a0.2)] (Int.toNat v1))) < (d3 (nthD [(AV.int .i64 a1.1),(AV.int .i64 a1.2)] (Int.toNat v1))))) then (some (-1)) else (bif (decide ((d3 (nthD [(AV.int .i64 a0.1),(AV.int .i64 a0.2)] (Int.toNat v1))) > (d3 (nthD [(AV.int .i64 a1.1),(AV.int .i64 a1.2)] (Int.toNat v1))))) then (some 1) else (some 0))))):Option Int).bind fun o4=>(bif (o4 != 0) then (some (Sum.inr (Sum.inl o4))) else (some (Sum.inl (IntKind.wrap .i64 (v1+1)))))) else none) else none else (some (Sum.inr (Sum.inr ()))))
theorem T103_eq (lo N:Nat) (a0:Int × Int) (a1:Int × Int):T103 lo N (a0,a1) =
 ((((loopR (V:=Int) (X:=Int ⊕ Unit) (R103x104x26 N a0 a1) N 0).bind fun o9=>(Sum.elim (fun o10=>(some o10)) (fun o11=>(bif (decide (2 < 2)) then (some (-1)) else (some 0))) o9)):Option Int).bind fun o12=>some o12):=by kernel_rfl
end Go.Proofs.YtfiopgedfcaodaaGreatDoor
