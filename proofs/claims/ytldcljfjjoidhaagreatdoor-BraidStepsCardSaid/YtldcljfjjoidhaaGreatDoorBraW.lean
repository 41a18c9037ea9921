/- What the functions compute (printed by a program of ours,checked by the kernel). -/
import Derived.Test.YtldcljfjjoidhaaGreatDoorBraSo
import Derived.Test.YtldcljfjjoidhaaGreatDoorBraV
set_option linter.all false
namespace Go.Proofs.YtldcljfjjoidhaaGreatDoor
open Go Go.Am
set_option maxRecDepth 100000
-- "codend/codendref01.IsKnot"
noncomputable def XI (N:Nat):Int × Int→Option Bool:=(Aw N [(111,Ti N)] []).fn 1000 63 (.cons (.int .i64) (.cons (.int .i64) .nil)) .bool
noncomputable def e63 (N:Nat):aL:=⟨(.cons (.int .i64) (.cons (.int .i64) .nil)),.bool,XI N⟩
theorem Uj (N:Nat):an bF 63 (e63 N):=ej.bt (aT (by intro a e h; simp only [List.mem_cons,Prod.mk.injEq,List.not_mem_nil,or_false] at h; rcases h with ⟨rfl,rfl⟩; exact Fj N)) (by kernel_rfl) (by kernel_rfl)
theorem Uk (N:Nat) (a0:Int) (a1:Int):XI N (a0,a1) =
 (Ak N (a0,a1)).bind fun y1=>some (y1 == 0):=by kernel_rfl
def c66:List (Nat × cE):=[(26,.loop [] ⟨(.cons (.int .i64) .nil),[5],[],[],[],[]⟩ [(.ret,⟨(.cons .bool .nil),[4],[],[],[],[]⟩),(.ex 0,⟨.nil,[],[],[],[],[]⟩)])]
-- "codend/codendref01.HasKnot"
noncomputable def XJ (N:Nat):(List (Int × Int)) × (Int × Int)→Option Bool:=(Aw N [] [(66,c66)]).fn 1000 66 (.cons (.list 2 (.agg (.cons (.int .i64) (.cons (.int .i64) .nil)))) (.cons (.agg (.cons (.int .i64) (.cons (.int .i64) .nil))) .nil)) .bool
noncomputable def e66 (N:Nat):aL:=⟨(.cons (.list 2 (.agg (.cons (.int .i64) (.cons (.int .i64) .nil)))) (.cons (.agg (.cons (.int .i64) (.cons (.int .i64) .nil))) .nil)),.bool,XJ N⟩
theorem Ul (N:Nat):an bF 66 (e66 N):=ej.bt (fun _ _ h=>by cases h) (by kernel_rfl) (by kernel_rfl)
noncomputable def xi (N:Nat) (a0:List (Int × Int)) (a1:Int × Int) (v1:Int):Option (Int ⊕ (Bool ⊕ Unit)):=
 (bif (decide (v1 < ((((List.map au a0)).length:Nat):Int))) then bif (decide ((0:Int)≤v1∧v1 < (((List.map au a0)).length:Int))&&aj.fits cG (ah (List.map au a0) (Int.toNat v1))) then (bif (((d86 (ah (List.map au a0) (Int.toNat v1))).1 == a1.1)&&(((d86 (ah (List.map au a0) (Int.toNat v1))).2 == a1.2)&&true)) then (some (Sum.inr (Sum.inl true))) else (some (Sum.inl (IntKind.wrap .i64 (v1+1))))) else none else (some (Sum.inr (Sum.inr ()))))
theorem Um (N:Nat) (a0:List (Int × Int)) (a1:Int × Int):XJ N (a0,a1) =
 ((az (V:=Int) (X:=Bool ⊕ Unit) (xi N a0 a1) N 0).bind fun o6=>(Sum.elim (fun o7=>some o7) (fun o8=>some false) o6)):=by kernel_rfl
end Go.Proofs.YtldcljfjjoidhaaGreatDoor
