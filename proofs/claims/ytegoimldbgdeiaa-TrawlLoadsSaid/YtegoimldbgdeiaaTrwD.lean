/- What the functions compute (printed by a program of ours,checked by the kernel). -/
import Derived.Test.YtegoimldbgdeiaaTrwC
set_option linter.all false
namespace Go.Proofs.Ytegoimldbgdeiaa
open Go Go.Am
set_option maxRecDepth 100000
abbrev Ay:ah:=(.agg (.cons .str (.cons (.int .i64) (.cons (.int .i64) .nil))))
abbrev d27 (v:AV):(List UInt8) × Int × Int:=ah.a8 Ay v
abbrev iS (x:(List UInt8) × Int × Int):AV:=ah.enc Ay x
theorem Nu (l:List ((List UInt8) × Int × Int)):allFit (ah.fits Ay) (List.map iS l)=true:=cI (p:=Ay) rfl l
theorem Nv (l:List ((List UInt8) × Int × Int)):List.map d27 (List.map iS l)=l:=eZ (p:=Ay) rfl l
def Xm:List (Nat × eJ):=[(12,.join [(.norm,⟨(.cons .bool .nil),[13],[],[],[],[]⟩)]),
 (58,.loop [] ⟨(.cons (.int .i64) .nil),[3],[],[],[],[]⟩ [(.ret,⟨(.cons .bool .nil),[2],[],[],[],[]⟩),(.ex 0,⟨.nil,[],[],[],[],[]⟩)]),
 (3730,.join [(.norm,⟨(.cons .bool .nil),[5],[],[],[],[]⟩)]),
 (7462,.join [(.norm,⟨(.cons .bool .nil),[54],[],[],[],[]⟩)])]
noncomputable def Re (N:Nat):(List UInt8)→Option Bool:=(cx N [] [(53,Xm)]).fn 1000 53 (.cons .str .nil) .bool
noncomputable def U6 (N:Nat):bV:=⟨(.cons .str .nil),.bool,Re N⟩
theorem Nw (N:Nat):aM b8 53 (U6 N):=kz.fu (fun _ _ h=>by cases h) (by kernel_rfl) (by kernel_rfl)
noncomputable def vt (N:Nat) (a0:List UInt8) (v2:Int):Option (Int ⊕ (Bool ⊕ Unit)):=
 (bif (decide (v2 < (((a0).length:Nat):Int))) then bif decide ((0:Int)≤v2∧v2 < ((a0).length:Int)) then (((bif (decide (((((a0).getD (Int.toNat v2) 0).toNat:Nat):Int)≥97)) then (bif (decide (((((a0).getD (Int.toNat v2) 0).toNat:Nat):Int)≤122)) then (some true) else (bif (decide (((((a0).getD (Int.toNat v2) 0).toNat:Nat):Int)≥65)) then (some (decide (((((a0).getD (Int.toNat v2) 0).toNat:Nat):Int)≤90))) else (some false))) else (bif (decide (((((a0).getD (Int.toNat v2) 0).toNat:Nat):Int)≥65)) then (some (decide (((((a0).getD (Int.toNat v2) 0).toNat:Nat):Int)≤90))) else (some false))):Option Bool).bind fun o3=>(((bif (!o3) then (bif (v2 == 0) then (some true) else (bif (((((a0).getD (Int.toNat v2) 0).toNat:Nat):Int) != 95) then (bif (decide (((((a0).getD (Int.toNat v2) 0).toNat:Nat):Int) < 48)) then (some true) else (some (decide (((((a0).getD (Int.toNat v2) 0).toNat:Nat):Int) > 57)))) else (some false))) else (some false)):Option Bool).bind fun o4=>(bif o4 then (some (Sum.inr (Sum.inl false))) else (some (Sum.inl (IntKind.wrap .i64 (v2+1))))))) else none else (some (Sum.inr (Sum.inr ()))))
theorem Nx (N:Nat) (a0:List UInt8):Re N a0 =
 (((bif ((((a0).length:Nat):Int) == 0) then (some true) else (some (decide ((((a0).length:Nat):Int) > 24)))):Option Bool).bind fun o1=>(bif o1 then some false else ((a6 (V:=Int) (X:=Bool ⊕ Unit) (vt N a0) N 0).bind fun o9=>(Sum.elim (fun JW=>some JW) (fun pj=>some true) o9)))):=by kernel_rfl
def Xn:List (Nat × eJ):=[(26,.loop [] ⟨(.cons (.int .i64) .nil),[3],[],[],[],[]⟩ [(.ret,⟨(.cons (.int .i64) .nil),[2],[],[],[],[]⟩),(.ex 0,⟨.nil,[],[],[],[],[]⟩)])]
noncomputable def Rf (N:Nat):(List Int)→Option Int:=(cx N [] [(54,Xn)]).fn 1000 54 (.cons (.list 1 (.int .i64)) .nil) (.int .i64)
noncomputable def U7 (N:Nat):bV:=⟨(.cons (.list 1 (.int .i64)) .nil),(.int .i64),Rf N⟩
theorem Ny (N:Nat):aM b8 54 (U7 N):=kz.fu (fun _ _ h=>by cases h) (by kernel_rfl) (by kernel_rfl)
noncomputable def yG (N:Nat) (a0:List Int) (v1:Int):Option (Int ⊕ (Int ⊕ Unit)):=
 (bif (decide (v1 < ((((List.map n3 a0)).length:Nat):Int))) then bif (decide ((0:Int)≤v1∧v1 < (((List.map n3 a0)).length:Int))&&ah.fits p3 (an (List.map n3 a0) (Int.toNat v1))) then (bif ((d3 (an (List.map n3 a0) (Int.toNat v1))) != 0) then bif (decide ((0:Int)≤v1∧v1 < (((List.map n3 a0)).length:Int))&&ah.fits p3 (an (List.map n3 a0) (Int.toNat v1))) then (some (Sum.inr (Sum.inl (d3 (an (List.map n3 a0) (Int.toNat v1)))))) else none else (some (Sum.inl (IntKind.wrap .i64 (v1+1))))) else none else (some (Sum.inr (Sum.inr ()))))
theorem Nz (N:Nat) (a0:List Int):Rf N a0 =
 ((a6 (V:=Int) (X:=Int ⊕ Unit) (yG N a0) N 0).bind fun o6=>(Sum.elim (fun o7=>some o7) (fun o8=>some 0) o6)):=by kernel_rfl
def Xo:List (Nat × eJ):=[(12,.join [(.norm,⟨(.cons .bool .nil),[14],[],[],[],[]⟩)])]
noncomputable def Qu (N:Nat):Int × Int × Int→Option Int:=(cx N [] [(55,Xo)]).fn 1000 55 (.cons (.int .i64) (.cons (.int .i64) (.cons (.int .i64) .nil))) (.int .i64)
noncomputable def U8 (N:Nat):bV:=⟨(.cons (.int .i64) (.cons (.int .i64) (.cons (.int .i64) .nil))),(.int .i64),Qu N⟩
theorem NA (N:Nat):aM b8 55 (U8 N):=kz.fu (fun _ _ h=>by cases h) (by kernel_rfl) (by kernel_rfl)
theorem NB (N:Nat) (a0:Int) (a1:Int) (a2:Int):Qu N (a0,a1,a2) =
 (((bif (decide (a0 < a1)) then (some true) else (some (decide (a0 > a2)))):Option Bool).bind fun o1=>(bif o1 then some 3 else some 0)):=by kernel_rfl
def Xp:List (Nat × eJ):=[(58,.loop [] ⟨(.cons (.int .i64) .nil),[3],[],[],[],[]⟩ [(.ret,⟨(.cons (.int .i64) .nil),[2],[],[],[],[]⟩),(.ex 0,⟨.nil,[],[],[],[],[]⟩)])]
noncomputable def Rg (N:Nat):(List ((List UInt8) × Int × Int))→Option Int:=(cx N [(53,U6 N),(54,U7 N),(55,U8 N)] [(13,Xp)]).fn 1000 13 (.cons (.list 3 (.agg (.cons .str (.cons (.int .i64) (.cons (.int .i64) .nil))))) .nil) (.int .i64)
noncomputable def Ty (N:Nat):bV:=⟨(.cons (.list 3 (.agg (.cons .str (.cons (.int .i64) (.cons (.int .i64) .nil))))) .nil),(.int .i64),Rg N⟩
theorem ND (N:Nat):aM b8 13 (Ty N):=kz.fu (bR (by intro a e h; simp only [List.mem_cons,Prod.mk.injEq,List.not_mem_nil,or_false] at h; rcases h with ⟨rfl,rfl⟩ | ⟨rfl,rfl⟩ | ⟨rfl,rfl⟩; exact Nw N; exact Ny N; exact NA N)) (by kernel_rfl) (by kernel_rfl)
noncomputable def yH (N:Nat) (a0:List ((List UInt8) × Int × Int)) (v1:Int):Option (Int ⊕ (Int ⊕ Unit)):=
 (bif (decide (v1 < ((((List.map iS a0)).length:Nat):Int))) then bif (decide ((0:Int)≤v1∧v1 < (((List.map iS a0)).length:Int))&&ah.fits Ay (an (List.map iS a0) (Int.toNat v1))) then (Re N (d27 (an (List.map iS a0) (Int.toNat v1))).1).bind fun y2=>(bif (!y2) then (some (Sum.inr (Sum.inl 8))) else bif (decide ((0:Int)≤v1∧v1 < (((List.map iS a0)).length:Int))&&ah.fits Ay (an (List.map iS a0) (Int.toNat v1))) then bif (decide ((0:Int)≤v1∧v1 < (((List.map iS a0)).length:Int))&&ah.fits Ay (an (List.map iS a0) (Int.toNat v1))) then (Qu N ((d27 (an (List.map iS a0) (Int.toNat v1))).2.1,(-1000000),1000000)).bind fun y5=>bif (((d27 (an (List.map iS a0) (Int.toNat v1))).2.2 == (d27 (an (List.map iS a0) (Int.toNat v1))).2.2)&&true) then (Qu N ((d27 (an (List.map iS a0) (Int.toNat v1))).2.2,(-10000),10000)).bind fun y6=>((bif (allFit (ah.fits p3) [(AV.int .i64 y5),(AV.int .i64 y6)]&&true) then some (List.map d3 [(AV.int .i64 y5),(AV.int .i64 y6)]) else none:Option ((List Int))).bind fun x8=>(Rf N x8).bind fun y7=>(bif (y7 != 0) then (some (Sum.inr (Sum.inl y7))) else (some (Sum.inl (IntKind.wrap .i64 (v1+1)))))) else none else none else none) else none else (some (Sum.inr (Sum.inr ()))))
theorem NE (N:Nat) (a0:List ((List UInt8) × Int × Int)):Rg N a0 =
 (bif (decide (((((List.map iS a0)).length:Nat):Int) > 64)) then some 5 else ((a6 (V:=Int) (X:=Int ⊕ Unit) (yH N a0) N 0).bind fun Ta=>(Sum.elim (fun px=>some px) (fun U9=>some 0) Ta))):=by kernel_rfl
def Xq:List (Nat × eJ):=[(58,.loop [] ⟨(.cons (.int .i64) (.cons (.int .i64) (.cons (.int .i64) .nil))),[4,5,6],[],[],[],[]⟩ [(.ex 0,⟨(.cons (.int .i64) (.cons (.int .i64) .nil)),[4,5],[],[],[],[]⟩)])]
noncomputable def On (N:Nat):(List ((List UInt8) × Int × Int))→Option (Int × Int):=(cx N [] [(14,Xq)]).fn 1000 14 (.cons (.list 3 (.agg (.cons .str (.cons (.int .i64) (.cons (.int .i64) .nil))))) .nil) (.bi (.cons (.int .i64) (.cons (.int .i64) .nil)))
noncomputable def Tz (N:Nat):bV:=⟨(.cons (.list 3 (.agg (.cons .str (.cons (.int .i64) (.cons (.int .i64) .nil))))) .nil),(.bi (.cons (.int .i64) (.cons (.int .i64) .nil))),On N⟩
theorem G7 (N:Nat):aM b8 14 (Tz N):=kz.fu (fun _ _ h=>by cases h) (by kernel_rfl) (by kernel_rfl)
noncomputable def vu (N:Nat) (a0:List ((List UInt8) × Int × Int)) (v1:Int × Int × Int):Option ((Int × Int × Int) ⊕ ((Int × Int))):=
 (bif (decide (v1.2.2 < ((((List.map iS a0)).length:Nat):Int))) then bif (decide ((0:Int)≤v1.2.2∧v1.2.2 < (((List.map iS a0)).length:Int))&&ah.fits Ay (an (List.map iS a0) (Int.toNat v1.2.2))) then bif (decide ((0:Int)≤v1.2.2∧v1.2.2 < (((List.map iS a0)).length:Int))&&ah.fits Ay (an (List.map iS a0) (Int.toNat v1.2.2))) then bif (decide ((0:Int)≤v1.2.2∧v1.2.2 < (((List.map iS a0)).length:Int))&&ah.fits Ay (an (List.map iS a0) (Int.toNat v1.2.2))) then (some (Sum.inl ((IntKind.wrap .i64 (v1.1+(d27 (an (List.map iS a0) (Int.toNat v1.2.2))).2.1)),(IntKind.wrap .i64 (v1.2.1+(IntKind.wrap .i64 ((d27 (an (List.map iS a0) (Int.toNat v1.2.2))).2.1 * (d27 (an (List.map iS a0) (Int.toNat v1.2.2))).2.2)))),(IntKind.wrap .i64 (v1.2.2+1))))) else none else none else none else (some (Sum.inr (v1.1,v1.2.1))))
theorem NF (N:Nat) (a0:List ((List UInt8) × Int × Int)):On N a0 =
 ((a6 (V:=Int × Int × Int) (X:=(Int × Int)) (vu N a0) N (0,0,0)).bind fun o3=>some (o3.1,o3.2)):=by kernel_rfl
def Xr:List (Nat × eJ):=[(250,.loop [] ⟨(.cons (.int .i64) (.cons (.int .i64) (.cons (.int .i64) .nil))),[11],[],[(6,2)],[],[]⟩ [(.ret,⟨(.cons (.int .i64) (.cons (.int .i64) (.cons (.int .i64) .nil))),[7],[],[(6,2)],[],[]⟩),(.ex 0,⟨(.cons (.int .i64) (.cons (.int .i64) .nil)),[],[],[(6,2)],[],[]⟩)]),
 (8008,.join [(.norm,⟨(.cons .bool .nil),[56],[],[],[],[]⟩)])]
noncomputable def Qv (N:Nat):(List ((List UInt8) × Int × Int)) × Int × Int→Option ((Int × Int) × Int):=(cx N [(14,Tz N)] [(15,Xr)]).fn 1000 15 (.cons (.list 3 (.agg (.cons .str (.cons (.int .i64) (.cons (.int .i64) .nil))))) (.cons (.int .i64) (.cons (.int .i64) .nil))) (.bi (.cons (.agg (.cons (.int .i64) (.cons (.int .i64) .nil))) (.cons (.int .i64) .nil)))
noncomputable def Va (N:Nat):bV:=⟨(.cons (.list 3 (.agg (.cons .str (.cons (.int .i64) (.cons (.int .i64) .nil))))) (.cons (.int .i64) (.cons (.int .i64) .nil))),(.bi (.cons (.agg (.cons (.int .i64) (.cons (.int .i64) .nil))) (.cons (.int .i64) .nil))),Qv N⟩
theorem NG (N:Nat):aM b8 15 (Va N):=kz.fu (bR (by intro a e h; simp only [List.mem_cons,Prod.mk.injEq,List.not_mem_nil,or_false] at h; rcases h with ⟨rfl,rfl⟩; exact G7 N)) (by kernel_rfl) (by kernel_rfl)
noncomputable def kO (N:Nat) (a1:Int) (a2:Int) (y1:Int × Int) (v3:Int × Int × Int):Option ((Int × Int × Int) ⊕ ((Int × Int × Int) ⊕ (Int × Int))):=
 (bif (decide (v3.1≤10000)) then (((bif (decide (v3.1≥(IntKind.wrap .i64 (Int.tdiv y1.2 (IntKind.wrap .i64 (a1 * a2)))))) then (bif (decide (v3.1≥(IntKind.wrap .i64 (0 - (IntKind.wrap .i64 (Int.tdiv y1.2 (IntKind.wrap .i64 (a1 * a2)))))))) then (bif ((Int.tmod (IntKind.wrap .i64 (v3.1 - (IntKind.wrap .i64 (Int.tdiv y1.2 (IntKind.wrap .i64 (a1 * a2)))))) 2) == 0) then (some (decide ((IntKind.wrap .i64 (y1.1+(IntKind.wrap .i64 (a1 * v3.1))))≥0))) else (some false)) else (some false)) else (some false)):Option Bool).bind fun o4=>(bif o4 then (some (Sum.inr (Sum.inl (0,(IntKind.wrap .i64 (Int.tdiv (IntKind.wrap .i64 (v3.1+(IntKind.wrap .i64 (Int.tdiv y1.2 (IntKind.wrap .i64 (a1 * a2)))))) 2)),(IntKind.wrap .i64 (Int.tdiv (IntKind.wrap .i64 (v3.1 - (IntKind.wrap .i64 (Int.tdiv y1.2 (IntKind.wrap .i64 (a1 * a2)))))) 2)))))) else (some (Sum.inl ((IntKind.wrap .i64 (v3.1+1)),v3.2.1,v3.2.2))))) else (some (Sum.inr (Sum.inr (v3.2.1,v3.2.2)))))
theorem NH (N:Nat) (a0:List ((List UInt8) × Int × Int)) (a1:Int) (a2:Int):Qv N (a0,a1,a2) =
 ((bif (allFit (ah.fits Ay) (List.map iS a0)&&true) then some (List.map d27 (List.map iS a0)) else none:Option ((List ((List UInt8) × Int × Int)))).bind fun x2=>(On N x2).bind fun y1=>bif !(decide ((IntKind.wrap .i64 (a1 * a2))=0)) then (bif ((Int.tmod y1.2 (IntKind.wrap .i64 (a1 * a2))) != 0) then some ((0,0),23) else bif !(decide ((IntKind.wrap .i64 (a1 * a2))=0)) then ((a6 (V:=Int × Int × Int) (X:=(Int × Int × Int) ⊕ (Int × Int)) (kO N a1 a2 y1) N (0,0,0)).bind fun o9=>(Sum.elim (fun JW=>some ((JW.2.1,JW.2.2),JW.1)) (fun pj=>some ((0,0),5)) o9)) else none) else none):=by kernel_rfl
end Go.Proofs.Ytegoimldbgdeiaa
