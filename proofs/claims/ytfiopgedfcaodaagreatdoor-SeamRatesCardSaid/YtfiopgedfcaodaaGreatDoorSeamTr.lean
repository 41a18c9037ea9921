/- What the functions compute (printed by a program of ours,checked by the kernel). -/
import Derived.Test.YtfiopgedfcaodaaGreatDoorSeamTs
set_option linter.all false
namespace Go.Proofs.YtfiopgedfcaodaaGreatDoor
open Go Go.Am
set_option maxRecDepth 100000
open List (map)
open Int (toNat)
open Pat (fits)
noncomputable section
def c60:List (Nat × Cert):=[(58,.loop [] ⟨(.cons (.int .i64) .nil),[5],[],[],[],[]⟩ [(.ret,⟨(.cons .bool .nil),[4],[],[],[],[]⟩),(.ex 0,⟨.nil,[],[],[],[],[]⟩)])]
-- "codend/codendref01.SameInts"
def T60 (N:Nat):LZ × LZ→Option Bool:=(cx N [] [(60,c60)]).fn 1000 60 (.cons (.list 1 (.int .i64)) (.cons (.list 1 (.int .i64)) .nil)) .bool
def e60 (N:Nat):Entry:=⟨(.cons (.list 1 (.int .i64)) (.cons (.list 1 (.int .i64)) .nil)),.bool,T60 N⟩
theorem T60_ok (N:Nat):EntryOk envS 60 (e60 N):=Ctx.fn_ok (fun _ _ h=>by cases h) (by kernel_rfl) (by kernel_rfl)
def R60x58 (N:Nat) (a0:List Int) (a1:List Int) (v1:Int):Option (Int ⊕ (Bool ⊕ Unit)):=
 (bif (decide (v1 < (((L3 a0).length:Nat):Int))) then bif (decide ((0:Int)≤v1∧v1 < ((L3 a0).length:Int))&&fits p3 (nthD (L3 a0) (toNat v1))) then bif (decide ((0:Int)≤v1∧v1 < ((L3 a1).length:Int))&&fits p3 (nthD (L3 a1) (toNat v1))) then (bif ((d3 (nthD (L3 a0) (toNat v1))) != (d3 (nthD (L3 a1) (toNat v1)))) then (some (Sum.inr (Sum.inl false))) else (some (Sum.inl (IntKind.wrap .i64 (v1+1))))) else none else none else (some (Sum.inr (Sum.inr ()))))
theorem T60_eq (N:Nat) (a0:List Int) (a1:List Int):T60 N (a0,a1) =
 (bif ((((L3 a0).length:Nat):Int) != (((L3 a1).length:Nat):Int)) then some false else ((loopR (R60x58 N a0 a1) N 0).bind fun o6=>(Sum.elim (fun o7=>some o7) (fun o8=>some true) o6))):=by kernel_rfl
def c135:List (Nat × Cert):=[(250,.loop [] ⟨(.cons (.int .i64) (.cons (.list 1 (.int .i64)) .nil)),[20],[],[],[.gro 1 3],[]⟩ [(.ex 0,⟨(.cons (.list 1 (.int .i64)) .nil),[],[],[],[.gro 1 3],[]⟩)])]
-- "codend/seam.runs"
def T135 (N:Nat):Int × Int × LA→Option (LZ):=(cx N [] [(135,c135)]).fn 1000 135 (.cons (.int .i64) (.cons (.int .i64) (.cons (.list 2 p46) .nil))) (.list 1 (.int .i64))
def e135 (N:Nat):Entry:=⟨(.cons (.int .i64) (.cons (.int .i64) (.cons (.list 2 p46) .nil))),(.list 1 (.int .i64)),T135 N⟩
theorem T135_ok (N:Nat):EntryOk envS 135 (e135 N):=Ctx.fn_ok (fun _ _ h=>by cases h) (by kernel_rfl) (by kernel_rfl)
def R135x250 (N:Nat) (a0:Int) (a1:Int) (a2:LA) (v1:Int × LZ):Option ((Int × LZ) ⊕ (LZ)):=
 (bif (decide (v1.1 < (((L46 a2).length:Nat):Int))) then bif (decide ((0:Int)≤v1.1∧v1.1 < ((L46 a2).length:Int))&&fits p46 (nthD (L46 a2) (toNat v1.1))) then bif decide ((0:Int)≤(d46 (nthD (L46 a2) (toNat v1.1))).2∧(d46 (nthD (L46 a2) (toNat v1.1))).2 < (((toNat (if a1 < a0 then a1 else a0)):Nat):Int)) then bif (decide ((toNat (if a1 < a0 then a1 else a0))=(L3 v1.2).length)&&decide ((0+toNat (d46 (nthD (L46 a2) (toNat v1.1))).2) < (L3 v1.2).length)&&fits p3 (nthD (L3 v1.2) (0+toNat (d46 (nthD (L46 a2) (toNat v1.1))).2))) then bif decide ((0:Int)≤(d46 (nthD (L46 a2) (toNat v1.1))).2∧(d46 (nthD (L46 a2) (toNat v1.1))).2 < (((toNat (if a1 < a0 then a1 else a0)):Nat):Int)) then bif (decide ((toNat (if a1 < a0 then a1 else a0))=(L3 v1.2).length)&&decide ((0+toNat (d46 (nthD (L46 a2) (toNat v1.1))).2) < (L3 v1.2).length)) then (((bif (allFit (fits p3) (setN (L3 v1.2) (0+toNat (d46 (nthD (L46 a2) (toNat v1.1))).2) (i6 (IntKind.wrap .i64 ((d3 (nthD (L3 v1.2) (0+toNat (d46 (nthD (L46 a2) (toNat v1.1))).2)))+1))))&&true) then some ((IntKind.wrap .i64 (v1.1+1)),(map d3 (setN (L3 v1.2) (0+toNat (d46 (nthD (L46 a2) (toNat v1.1))).2) (i6 (IntKind.wrap .i64 ((d3 (nthD (L3 v1.2) (0+toNat (d46 (nthD (L46 a2) (toNat v1.1))).2)))+1)))))) else none).bind fun w2=>some w2).bind fun u3=>some (Sum.inl u3)) else none else none else none else none else none else (((bif (F3 v1.2&&true) then some (K3 v1.2) else none).bind fun w4=>some w4).bind fun u5=>some (Sum.inr u5)))
def R135x250b (N:Nat) (a0:Int) (a1:Int) (a2:LA) (v9:Int × LZ):Option ((Int × LZ) ⊕ (LZ)):=
 (bif (decide (v9.1 < (((L46 a2).length:Nat):Int))) then bif (decide ((0:Int)≤v9.1∧v9.1 < ((L46 a2).length:Int))&&fits p46 (nthD (L46 a2) (toNat v9.1))) then bif decide ((0:Int)≤(d46 (nthD (L46 a2) (toNat v9.1))).1∧(d46 (nthD (L46 a2) (toNat v9.1))).1 < (((toNat (if a1 < a0 then a1 else a0)):Nat):Int)) then bif (decide ((toNat (if a1 < a0 then a1 else a0))=(L3 v9.2).length)&&decide ((0+toNat (d46 (nthD (L46 a2) (toNat v9.1))).1) < (L3 v9.2).length)&&fits p3 (nthD (L3 v9.2) (0+toNat (d46 (nthD (L46 a2) (toNat v9.1))).1))) then bif decide ((0:Int)≤(d46 (nthD (L46 a2) (toNat v9.1))).1∧(d46 (nthD (L46 a2) (toNat v9.1))).1 < (((toNat (if a1 < a0 then a1 else a0)):Nat):Int)) then bif (decide ((toNat (if a1 < a0 then a1 else a0))=(L3 v9.2).length)&&decide ((0+toNat (d46 (nthD (L46 a2) (toNat v9.1))).1) < (L3 v9.2).length)) then (((bif (allFit (fits p3) (setN (L3 v9.2) (0+toNat (d46 (nthD (L46 a2) (toNat v9.1))).1) (i6 (IntKind.wrap .i64 ((d3 (nthD (L3 v9.2) (0+toNat (d46 (nthD (L46 a2) (toNat v9.1))).1)))+1))))&&true) then some ((IntKind.wrap .i64 (v9.1+1)),(map d3 (setN (L3 v9.2) (0+toNat (d46 (nthD (L46 a2) (toNat v9.1))).1) (i6 (IntKind.wrap .i64 ((d3 (nthD (L3 v9.2) (0+toNat (d46 (nthD (L46 a2) (toNat v9.1))).1)))+1)))))) else none).bind fun w10=>some w10).bind fun u11=>some (Sum.inl u11)) else none else none else none else none else none else (((bif (F3 v9.2&&true) then some (K3 v9.2) else none).bind fun w12=>some w12).bind fun u13=>some (Sum.inr u13)))
theorem T135_eq (N:Nat) (a0:Int) (a1:Int) (a2:LA):T135 N (a0,a1,a2) =
 (bif (decide (a0 > a1)) then bif decide ((0:Int)≤(if a1 < a0 then a1 else a0)∧(if a1 < a0 then a1 else a0)≤(if a1 < a0 then a1 else a0)∧(if a1 < a0 then a1 else a0)≤140737488355328∧(if a1 < a0 then a1 else a0) * 8≤140737488355328) then (((bif (allFit (fits p3) (List.replicate (toNat (if a1 < a0 then a1 else a0)) (i6 0))&&true) then some (0,(map d3 (List.replicate (toNat (if a1 < a0 then a1 else a0)) (i6 0)))) else none:Option (Int × LZ)).bind fun w6=>some w6).bind fun x8=>(loopR (R135x250 N a0 a1 a2) N x8).bind fun o7=>(bif ((decide ((toNat (if a1 < a0 then a1 else a0))=(L3 o7).length)&&decide ((toNat (if a1 < a0 then a1 else a0))=(L3 o7).length)&&closedL (L3 o7))&&true) then (bif F3 o7 then some (K3 o7) else none) else none)) else none else bif decide ((0:Int)≤(if a1 < a0 then a1 else a0)∧(if a1 < a0 then a1 else a0)≤(if a1 < a0 then a1 else a0)∧(if a1 < a0 then a1 else a0)≤140737488355328∧(if a1 < a0 then a1 else a0) * 8≤140737488355328) then (((bif (allFit (fits p3) (List.replicate (toNat (if a1 < a0 then a1 else a0)) (i6 0))&&true) then some (0,(map d3 (List.replicate (toNat (if a1 < a0 then a1 else a0)) (i6 0)))) else none:Option (Int × LZ)).bind fun w14=>some w14).bind fun x16=>(loopR (R135x250b N a0 a1 a2) N x16).bind fun o15=>(bif ((decide ((toNat (if a1 < a0 then a1 else a0))=(L3 o15).length)&&decide ((toNat (if a1 < a0 then a1 else a0))=(L3 o15).length)&&closedL (L3 o15))&&true) then (bif F3 o15 then some (K3 o15) else none) else none)) else none):=by kernel_rfl
-- "codend/seam.Runs"
def c136:List (Nat × Cert):=[(122,.loop [] ⟨(.cons (.int .i64) (.cons (.int .i64) .nil)),[4,23],[],[],[],[]⟩ [(.ret,⟨(.cons (.int .i64) .nil),[2],[],[],[],[]⟩),(.ex 0,⟨(.cons (.int .i64) .nil),[4],[],[],[],[]⟩)])]
-- "codend/seam.checkRuns"
def T136 (N:Nat):LZ→Option Int:=(cx N [(90,e90 N),(91,e91 N),(93,e93 N)] [(136,c136)]).fn 1000 136 (.cons (.list 1 (.int .i64)) .nil) (.int .i64)
def e136 (N:Nat):Entry:=⟨(.cons (.list 1 (.int .i64)) .nil),(.int .i64),T136 N⟩
theorem T136_ok (N:Nat):EntryOk envS 136 (e136 N):=Ctx.fn_ok (tabF_ok (by intro a e h; simp only [List.mem_cons,Prod.mk.injEq,List.not_mem_nil,or_false] at h; rcases h with ⟨rfl,rfl⟩ | ⟨rfl,rfl⟩ | ⟨rfl,rfl⟩; exact T90_ok N; exact T91_ok N; exact T93_ok N)) (by kernel_rfl) (by kernel_rfl)
def R136x122 (N:Nat) (a0:List Int) (v5:Int × Int):Option (PA ⊕ (Int ⊕ Int)):=
 (bif (decide (v5.2 < (((L3 a0).length:Nat):Int))) then bif (decide ((0:Int)≤v5.2∧v5.2 < ((L3 a0).length:Int))&&fits p3 (nthD (L3 a0) (toNat v5.2))) then (T93 N ((d3 (nthD (L3 a0) (toNat v5.2))),1,256)).bind fun y6=>(bif (y6 != 0) then (some (Sum.inr (Sum.inl y6))) else (some (Sum.inl ((IntKind.wrap .i64 (v5.1+(d3 (nthD (L3 a0) (toNat v5.2))))),(IntKind.wrap .i64 (v5.2+1)))))) else none else (some (Sum.inr (Sum.inr v5.1))))
theorem T136_eq (N:Nat) (a0:List Int):T136 N a0 =
 (T91 N (((((L3 a0).length:Nat):Int) == 0),12)).bind fun y1=>(T91 N ((decide ((((L3 a0).length:Nat):Int) > 256)),5)).bind fun y2=>((bif (allFit (fits p24) [(i6 y1),(i6 y2)]&&true) then some (map d24 [(i6 y1),(i6 y2)]) else none).bind fun x4=>(T90 N x4).bind fun y3=>(bif (y3 != 0) then some y3 else ((loopR (R136x122 N a0) N (0,0)).bind fun o11=>(Sum.elim (fun o12=>some o12) (fun o13=>(T91 N ((decide (o13 > 256)),4)).bind fun y14=>some y14) o11)))):=by kernel_rfl
-- "codend/seam.Even"
def c63:List (Nat × Cert):=[(250,.loop [] ⟨(.cons (.int .i64) (.cons (.int .i64) .nil)),[3,4],[],[],[],[]⟩ [(.ret,⟨(.cons (.int .i64) .nil),[2],[],[],[],[]⟩),(.ex 0,⟨(.cons (.int .i64) .nil),[3],[],[],[],[]⟩)]),
 (16016,.join [(.norm,⟨(.cons .bool .nil),[28],[],[],[],[]⟩)])]
-- "codend/codendref04.CheckRuns"
def T63 (N:Nat):LZ→Option Int:=(cx N [] [(63,c63)]).fn 1000 63 (.cons (.list 1 (.int .i64)) .nil) (.int .i64)
def e63 (N:Nat):Entry:=⟨(.cons (.list 1 (.int .i64)) .nil),(.int .i64),T63 N⟩
theorem T63_ok (N:Nat):EntryOk envS 63 (e63 N):=Ctx.fn_ok (fun _ _ h=>by cases h) (by kernel_rfl) (by kernel_rfl)
def R63x250 (N:Nat) (a0:List Int) (v1:Int × Int):Option (PA ⊕ (Int ⊕ Int)):=
 (bif (decide (v1.2 < (((L3 a0).length:Nat):Int))) then ((bif (decide ((0:Int)≤v1.2∧v1.2 < ((L3 a0).length:Int))&&fits p3 (nthD (L3 a0) (toNat v1.2))) then (bif (decide ((d3 (nthD (L3 a0) (toNat v1.2))) < 1)) then (some true) else bif (decide ((0:Int)≤v1.2∧v1.2 < ((L3 a0).length:Int))&&fits p3 (nthD (L3 a0) (toNat v1.2))) then (some (decide ((d3 (nthD (L3 a0) (toNat v1.2))) > 256))) else none) else none).bind fun o2=>(bif o2 then (some (Sum.inr (Sum.inl 3))) else bif (decide ((0:Int)≤v1.2∧v1.2 < ((L3 a0).length:Int))&&fits p3 (nthD (L3 a0) (toNat v1.2))) then (some (Sum.inl ((IntKind.wrap .i64 (v1.1+(d3 (nthD (L3 a0) (toNat v1.2))))),(IntKind.wrap .i64 (v1.2+1))))) else none)) else (some (Sum.inr (Sum.inr v1.1))))
theorem T63_eq (N:Nat) (a0:List Int):T63 N a0 =
 (bif ((((L3 a0).length:Nat):Int) == 0) then some 12 else (bif (decide ((((L3 a0).length:Nat):Int) > 256)) then some 5 else ((loopR (R63x250 N a0) N (0,0)).bind fun o7=>(Sum.elim (fun o8=>some o8) (fun o9=>(bif (decide (o9 > 256)) then some 4 else some 0)) o7)))):=by kernel_rfl
-- "codend/seam.FromRuns"
def c76:List (Nat × Cert):=[(250,.loop [] ⟨(.cons (.int .i64) (.cons (.list 1 (.int .i64)) .nil)),[9],[],[],[.gro 1 3],[]⟩ [(.ex 0,⟨(.cons (.list 1 (.int .i64)) .nil),[],[],[],[.gro 1 3],[]⟩)])]
-- "codend/codendref04.Runs"
def T76 (N:Nat):Int × Int × LA→Option (LZ):=(cx N [] [(76,c76)]).fn 1000 76 (.cons (.int .i64) (.cons (.int .i64) (.cons (.list 2 p46) .nil))) (.list 1 (.int .i64))
def e76 (N:Nat):Entry:=⟨(.cons (.int .i64) (.cons (.int .i64) (.cons (.list 2 p46) .nil))),(.list 1 (.int .i64)),T76 N⟩
theorem T76_ok (N:Nat):EntryOk envS 76 (e76 N):=Ctx.fn_ok (fun _ _ h=>by cases h) (by kernel_rfl) (by kernel_rfl)
def R76x250:=R135x250
def R76x250b:=R135x250b
theorem T76_eq (N:Nat) (a0:Int) (a1:Int) (a2:LA):T76 N (a0,a1,a2) =
 (bif (decide (a0 > a1)) then bif decide ((0:Int)≤(if a1 < a0 then a1 else a0)∧(if a1 < a0 then a1 else a0)≤(if a1 < a0 then a1 else a0)∧(if a1 < a0 then a1 else a0)≤140737488355328∧(if a1 < a0 then a1 else a0) * 8≤140737488355328) then (((bif (allFit (fits p3) (List.replicate (toNat (if a1 < a0 then a1 else a0)) (i6 0))&&true) then some (0,(map d3 (List.replicate (toNat (if a1 < a0 then a1 else a0)) (i6 0)))) else none:Option (Int × LZ)).bind fun w6=>some w6).bind fun x8=>(loopR (R76x250 N a0 a1 a2) N x8).bind fun o7=>(bif ((decide ((toNat (if a1 < a0 then a1 else a0))=(L3 o7).length)&&decide ((toNat (if a1 < a0 then a1 else a0))=(L3 o7).length)&&closedL (L3 o7))&&true) then (bif F3 o7 then some (K3 o7) else none) else none)) else none else bif decide ((0:Int)≤(if a1 < a0 then a1 else a0)∧(if a1 < a0 then a1 else a0)≤(if a1 < a0 then a1 else a0)∧(if a1 < a0 then a1 else a0)≤140737488355328∧(if a1 < a0 then a1 else a0) * 8≤140737488355328) then (((bif (allFit (fits p3) (List.replicate (toNat (if a1 < a0 then a1 else a0)) (i6 0))&&true) then some (0,(map d3 (List.replicate (toNat (if a1 < a0 then a1 else a0)) (i6 0)))) else none:Option (Int × LZ)).bind fun w14=>some w14).bind fun x16=>(loopR (R76x250b N a0 a1 a2) N x16).bind fun o15=>(bif ((decide ((toNat (if a1 < a0 then a1 else a0))=(L3 o15).length)&&decide ((toNat (if a1 < a0 then a1 else a0))=(L3 o15).length)&&closedL (L3 o15))&&true) then (bif F3 o15 then some (K3 o15) else none) else none)) else none):=by kernel_rfl
-- "codend/codendref04.FromRuns"
-- "codend/codendref04.Sum"
-- "codend/codendref04.Even"
-- "codend/codendlaw04.SeamRuns"
end
end Go.Proofs.YtfiopgedfcaodaaGreatDoor
