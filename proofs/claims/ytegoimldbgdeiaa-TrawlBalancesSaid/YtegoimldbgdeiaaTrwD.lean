/- What the functions compute (printed by a program of ours,checked by the kernel). -/
import Derived.Test.YtegoimldbgdeiaaTrwC
set_option linter.all false
namespace Go.Proofs.Ytegoimldbgdeiaa
open Go Go.Am
set_option maxRecDepth 100000
abbrev EO:ah:=(.agg (.cons .str (.cons (.int .i64) (.cons (.int .i64) .nil))))
abbrev d27 (v:AV):(List UInt8) × Int × Int:=ah.a7 EO v
abbrev fC (x:(List UInt8) × Int × Int):AV:=ah.enc EO x
theorem Ty (l:List ((List UInt8) × Int × Int)):allFit (ah.fits EO) (List.map fC l)=true:=cH (p:=EO) rfl l
theorem Tz (l:List ((List UInt8) × Int × Int)):List.map d27 (List.map fC l)=l:=e8 (p:=EO) rfl l
def Xd:List (Nat × eL):=[(12,.join [(.norm,⟨(.cons .bool .nil),[13],[],[],[],[]⟩)]),
 (58,.loop [] ⟨(.cons (.int .i64) .nil),[3],[],[],[],[]⟩ [(.ret,⟨(.cons .bool .nil),[2],[],[],[],[]⟩),(.ex 0,⟨.nil,[],[],[],[],[]⟩)]),
 (3730,.join [(.norm,⟨(.cons .bool .nil),[5],[],[],[],[]⟩)]),
 (7462,.join [(.norm,⟨(.cons .bool .nil),[54],[],[],[],[]⟩)])]
noncomputable def Q7 (N:Nat):(List UInt8)→Option Bool:=(cx N [] [(53,Xd)]).fn 1000 53 (.cons .str .nil) .bool
noncomputable def U1 (N:Nat):bS:=⟨(.cons .str .nil),.bool,Q7 N⟩
theorem Nu (N:Nat):aO cj 53 (U1 N):=kZ.fW (fun _ _ h=>by cases h) (by kernel_rfl) (by kernel_rfl)
noncomputable def vz (N:Nat) (a0:List UInt8) (v2:Int):Option (Int ⊕ (Bool ⊕ Unit)):=
 (bif (decide (v2 < (((a0).length:Nat):Int))) then bif decide ((0:Int)≤v2∧v2 < ((a0).length:Int)) then (((bif (decide (((((a0).getD (Int.toNat v2) 0).toNat:Nat):Int)≥97)) then (bif (decide (((((a0).getD (Int.toNat v2) 0).toNat:Nat):Int)≤122)) then (some true) else (bif (decide (((((a0).getD (Int.toNat v2) 0).toNat:Nat):Int)≥65)) then (some (decide (((((a0).getD (Int.toNat v2) 0).toNat:Nat):Int)≤90))) else (some false))) else (bif (decide (((((a0).getD (Int.toNat v2) 0).toNat:Nat):Int)≥65)) then (some (decide (((((a0).getD (Int.toNat v2) 0).toNat:Nat):Int)≤90))) else (some false))):Option Bool).bind fun o3=>(((bif (!o3) then (bif (v2 == 0) then (some true) else (bif (((((a0).getD (Int.toNat v2) 0).toNat:Nat):Int) != 95) then (bif (decide (((((a0).getD (Int.toNat v2) 0).toNat:Nat):Int) < 48)) then (some true) else (some (decide (((((a0).getD (Int.toNat v2) 0).toNat:Nat):Int) > 57)))) else (some false))) else (some false)):Option Bool).bind fun o4=>(bif o4 then (some (Sum.inr (Sum.inl false))) else (some (Sum.inl (IntKind.wrap .i64 (v2+1))))))) else none else (some (Sum.inr (Sum.inr ()))))
theorem Nv (N:Nat) (a0:List UInt8):Q7 N a0 =
 (((bif ((((a0).length:Nat):Int) == 0) then (some true) else (some (decide ((((a0).length:Nat):Int) > 24)))):Option Bool).bind fun o1=>(bif o1 then some false else ((a8 (V:=Int) (X:=Bool ⊕ Unit) (vz N a0) N 0).bind fun o9=>(Sum.elim (fun QP=>some QP) (fun pA=>some true) o9)))):=by kernel_rfl
def Xe:List (Nat × eL):=[(26,.loop [] ⟨(.cons (.int .i64) .nil),[3],[],[],[],[]⟩ [(.ret,⟨(.cons (.int .i64) .nil),[2],[],[],[],[]⟩),(.ex 0,⟨.nil,[],[],[],[],[]⟩)])]
noncomputable def Q8 (N:Nat):(List Int)→Option Int:=(cx N [] [(54,Xe)]).fn 1000 54 (.cons (.list 1 (.int .i64)) .nil) (.int .i64)
noncomputable def U2 (N:Nat):bS:=⟨(.cons (.list 1 (.int .i64)) .nil),(.int .i64),Q8 N⟩
theorem Nw (N:Nat):aO cj 54 (U2 N):=kZ.fW (fun _ _ h=>by cases h) (by kernel_rfl) (by kernel_rfl)
noncomputable def yI (N:Nat) (a0:List Int) (v1:Int):Option (Int ⊕ (Int ⊕ Unit)):=
 (bif (decide (v1 < ((((List.map n3 a0)).length:Nat):Int))) then bif (decide ((0:Int)≤v1∧v1 < (((List.map n3 a0)).length:Int))&&ah.fits p3 (ak (List.map n3 a0) (Int.toNat v1))) then (bif ((d3 (ak (List.map n3 a0) (Int.toNat v1))) != 0) then bif (decide ((0:Int)≤v1∧v1 < (((List.map n3 a0)).length:Int))&&ah.fits p3 (ak (List.map n3 a0) (Int.toNat v1))) then (some (Sum.inr (Sum.inl (d3 (ak (List.map n3 a0) (Int.toNat v1)))))) else none else (some (Sum.inl (IntKind.wrap .i64 (v1+1))))) else none else (some (Sum.inr (Sum.inr ()))))
theorem Nx (N:Nat) (a0:List Int):Q8 N a0 =
 ((a8 (V:=Int) (X:=Int ⊕ Unit) (yI N a0) N 0).bind fun o6=>(Sum.elim (fun o7=>some o7) (fun o8=>some 0) o6)):=by kernel_rfl
def Xf:List (Nat × eL):=[(12,.join [(.norm,⟨(.cons .bool .nil),[14],[],[],[],[]⟩)])]
noncomputable def Qo (N:Nat):Int × Int × Int→Option Int:=(cx N [] [(55,Xf)]).fn 1000 55 (.cons (.int .i64) (.cons (.int .i64) (.cons (.int .i64) .nil))) (.int .i64)
noncomputable def U3 (N:Nat):bS:=⟨(.cons (.int .i64) (.cons (.int .i64) (.cons (.int .i64) .nil))),(.int .i64),Qo N⟩
theorem Ny (N:Nat):aO cj 55 (U3 N):=kZ.fW (fun _ _ h=>by cases h) (by kernel_rfl) (by kernel_rfl)
theorem Nz (N:Nat) (a0:Int) (a1:Int) (a2:Int):Qo N (a0,a1,a2) =
 (((bif (decide (a0 < a1)) then (some true) else (some (decide (a0 > a2)))):Option Bool).bind fun o1=>(bif o1 then some 3 else some 0)):=by kernel_rfl
def Xg:List (Nat × eL):=[(58,.loop [] ⟨(.cons (.int .i64) .nil),[3],[],[],[],[]⟩ [(.ret,⟨(.cons (.int .i64) .nil),[2],[],[],[],[]⟩),(.ex 0,⟨.nil,[],[],[],[],[]⟩)])]
noncomputable def Q9 (N:Nat):(List ((List UInt8) × Int × Int))→Option Int:=(cx N [(53,U1 N),(54,U2 N),(55,U3 N)] [(13,Xg)]).fn 1000 13 (.cons (.list 3 (.agg (.cons .str (.cons (.int .i64) (.cons (.int .i64) .nil))))) .nil) (.int .i64)
noncomputable def TA (N:Nat):bS:=⟨(.cons (.list 3 (.agg (.cons .str (.cons (.int .i64) (.cons (.int .i64) .nil))))) .nil),(.int .i64),Q9 N⟩
theorem NA (N:Nat):aO cj 13 (TA N):=kZ.fW (bV (by intro a e h; simp only [List.mem_cons,Prod.mk.injEq,List.not_mem_nil,or_false] at h; rcases h with ⟨rfl,rfl⟩ | ⟨rfl,rfl⟩ | ⟨rfl,rfl⟩; exact Nu N; exact Nw N; exact Ny N)) (by kernel_rfl) (by kernel_rfl)
noncomputable def yJ (N:Nat) (a0:List ((List UInt8) × Int × Int)) (v1:Int):Option (Int ⊕ (Int ⊕ Unit)):=
 (bif (decide (v1 < ((((List.map fC a0)).length:Nat):Int))) then bif (decide ((0:Int)≤v1∧v1 < (((List.map fC a0)).length:Int))&&ah.fits EO (ak (List.map fC a0) (Int.toNat v1))) then (Q7 N (d27 (ak (List.map fC a0) (Int.toNat v1))).1).bind fun y2=>(bif (!y2) then (some (Sum.inr (Sum.inl 8))) else bif (decide ((0:Int)≤v1∧v1 < (((List.map fC a0)).length:Int))&&ah.fits EO (ak (List.map fC a0) (Int.toNat v1))) then bif (decide ((0:Int)≤v1∧v1 < (((List.map fC a0)).length:Int))&&ah.fits EO (ak (List.map fC a0) (Int.toNat v1))) then (Qo N ((d27 (ak (List.map fC a0) (Int.toNat v1))).2.1,(-1000000),1000000)).bind fun y5=>bif (((d27 (ak (List.map fC a0) (Int.toNat v1))).2.2 == (d27 (ak (List.map fC a0) (Int.toNat v1))).2.2)&&true) then (Qo N ((d27 (ak (List.map fC a0) (Int.toNat v1))).2.2,(-10000),10000)).bind fun y6=>((bif (allFit (ah.fits p3) [(AV.int .i64 y5),(AV.int .i64 y6)]&&true) then some (List.map d3 [(AV.int .i64 y5),(AV.int .i64 y6)]) else none:Option ((List Int))).bind fun x8=>(Q8 N x8).bind fun y7=>(bif (y7 != 0) then (some (Sum.inr (Sum.inl y7))) else (some (Sum.inl (IntKind.wrap .i64 (v1+1)))))) else none else none else none) else none else (some (Sum.inr (Sum.inr ()))))
theorem NB (N:Nat) (a0:List ((List UInt8) × Int × Int)):Q9 N a0 =
 (bif (decide (((((List.map fC a0)).length:Nat):Int) > 64)) then some 5 else ((a8 (V:=Int) (X:=Int ⊕ Unit) (yJ N a0) N 0).bind fun S7=>(Sum.elim (fun qA=>some qA) (fun XQ=>some 0) S7))):=by kernel_rfl
def Xh:List (Nat × eL):=[(58,.loop [] ⟨(.cons (.int .i64) (.cons (.int .i64) (.cons (.int .i64) .nil))),[4,5,6],[],[],[],[]⟩ [(.ex 0,⟨(.cons (.int .i64) (.cons (.int .i64) .nil)),[4,5],[],[],[],[]⟩)])]
noncomputable def Xi (N:Nat):(List ((List UInt8) × Int × Int))→Option (Int × Int):=(cx N [] [(14,Xh)]).fn 1000 14 (.cons (.list 3 (.agg (.cons .str (.cons (.int .i64) (.cons (.int .i64) .nil))))) .nil) (.bk (.cons (.int .i64) (.cons (.int .i64) .nil)))
noncomputable def U4 (N:Nat):bS:=⟨(.cons (.list 3 (.agg (.cons .str (.cons (.int .i64) (.cons (.int .i64) .nil))))) .nil),(.bk (.cons (.int .i64) (.cons (.int .i64) .nil))),Xi N⟩
def Xj:List (Nat × eL):=[(250,.loop [] ⟨(.cons (.int .i64) (.cons (.int .i64) (.cons (.int .i64) .nil))),[11],[],[(6,2)],[],[]⟩ [(.ret,⟨(.cons (.int .i64) (.cons (.int .i64) (.cons (.int .i64) .nil))),[7],[],[(6,2)],[],[]⟩),(.ex 0,⟨(.cons (.int .i64) (.cons (.int .i64) .nil)),[],[],[(6,2)],[],[]⟩)]),
 (8008,.join [(.norm,⟨(.cons .bool .nil),[56],[],[],[],[]⟩)])]
noncomputable def Xk (N:Nat):(List ((List UInt8) × Int × Int)) × Int × Int→Option ((Int × Int) × Int):=(cx N [(14,U4 N)] [(15,Xj)]).fn 1000 15 (.cons (.list 3 (.agg (.cons .str (.cons (.int .i64) (.cons (.int .i64) .nil))))) (.cons (.int .i64) (.cons (.int .i64) .nil))) (.bk (.cons (.agg (.cons (.int .i64) (.cons (.int .i64) .nil))) (.cons (.int .i64) .nil)))
noncomputable def Xl (N:Nat):bS:=⟨(.cons (.list 3 (.agg (.cons .str (.cons (.int .i64) (.cons (.int .i64) .nil))))) (.cons (.int .i64) (.cons (.int .i64) .nil))),(.bk (.cons (.agg (.cons (.int .i64) (.cons (.int .i64) .nil))) (.cons (.int .i64) .nil))),Xk N⟩
end Go.Proofs.Ytegoimldbgdeiaa
