/- What the functions compute (printed by a program of ours,checked by the kernel). -/
import Derived.Test.YtldcljfjjoidhaaGreatDoorBraLg
set_option linter.all false
namespace Go.Proofs.YtldcljfjjoidhaaGreatDoor
open Go Go.Am
open List (map)
open Int (toNat)
open Go.IntKind (wrap)
open Go.Am.aO (fits)
set_option maxRecDepth 100000
noncomputable section
def c78:List (Nat × df):=[(26,.loop [] ⟨(.cons (.int .i64) .nil),[7],[],[],[],[]⟩ [(.ret,⟨(.cons (.int .i64) .nil),[2],[],[],[],[]⟩),(.ex 0,⟨.nil,[],[],[],[],[]⟩)])]
def Ze (N:Nat):qP→Option Int:=(cx N [] [(78,c78)]).fn 1000 78 (.cons (.list 1 (.int .i64)) .nil) (.int .i64)
def e78 (N:Nat):aZ:=⟨(.cons (.list 1 (.int .i64)) .nil),(.int .i64),Ze N⟩
theorem T7 (N:Nat):ap bR 78 (e78 N):=gv.bY (fun _ _ h=>by cases h) (by kernel_rfl) (by kernel_rfl)
def Bk (N:Nat) (a0:List Int) (v1:Int):Option (Int ⊕ (Int ⊕ Unit)):=
 (bif (decide (v1 < ((((map pH a0)).length:Nat):Int))) then bif (decide ((0:Int)≤v1∧v1 < (((map pH a0)).length:Int))&&fits BI (aj (map pH a0) (toNat v1))) then (bif ((nJ (aj (map pH a0) (toNat v1))) != 0) then (some (Sum.inr (Sum.inl (nJ (aj (map pH a0) (toNat v1)))))) else (some (Sum.inl (wrap .i64 (v1+1))))) else none else (some (Sum.inr (Sum.inr ()))))
theorem T8 (N:Nat) (a0:List Int):Ze N a0 =
 ((aN (Bk N a0) N 0).bind fun o6=>(Sum.elim (fun o7=>some o7) (fun o8=>some 0) o6)):=by kernel_rfl
def Zf (N:Nat):Bool × Int→Option Int:=(cx N [] []).fn 1000 80 (.cons .bool (.cons (.int .i64) .nil)) (.int .i64)
def e80 (N:Nat):aZ:=⟨(.cons .bool (.cons (.int .i64) .nil)),(.int .i64),Zf N⟩
theorem T9 (N:Nat):ap bR 80 (e80 N):=gv.bY (fun _ _ h=>by cases h) (by kernel_rfl) (by kernel_rfl)
theorem Ua (N:Nat) (a0:Bool) (a1:Int):Zf N (a0,a1) =
 (bif a0 then some a1 else some 0):=by kernel_rfl
def abh:List (Nat × df):=[(6,.join [(.norm,⟨(.cons .bool .nil),[2],[],[],[],[]⟩)])]
def PS (N:Nat):Int→Option Bool:=(cx N [] [(123,abh)]).fn 1000 123 (.cons (.int .i64) .nil) .bool
def XJ (N:Nat):aZ:=⟨(.cons (.int .i64) .nil),.bool,PS N⟩
theorem PT (N:Nat):ap bR 123 (XJ N):=gv.bY (fun _ _ h=>by cases h) (by kernel_rfl) (by kernel_rfl)
theorem Gm (N:Nat) (a0:Int):PS N a0 =
 (((bif (decide (a0 < (-100000))) then (some true) else (some (decide (a0 > 100000)))):Option Bool).bind fun o1=>some o1):=by kernel_rfl
def Ub (N:Nat):Int × Int→Option Bool:=(cx N [] []).fn 1000 153 (.cons (.int .i64) (.cons (.int .i64) .nil)) .bool
def XL (N:Nat):aZ:=⟨(.cons (.int .i64) (.cons (.int .i64) .nil)),.bool,Ub N⟩
theorem PU (N:Nat):ap bR 153 (XL N):=gv.bY (fun _ _ h=>by cases h) (by kernel_rfl) (by kernel_rfl)
theorem PV (N:Nat) (a0:Int) (a1:Int):Ub N (a0,a1) =
 some ((Int.tmod (wrap .i64 (a0+a1)) 2) == 0):=by kernel_rfl
def abi:List (Nat × df):=[(12,.join [(.norm,⟨(.cons .bool .nil),[10],[],[],[],[]⟩)])]
def E8 (N:Nat):XA→Option Int:=(cx N [(123,XJ N),(153,XL N)] [(111,abi)]).fn 1000 111 (.cons fI .nil) (.int .i64)
def XM (N:Nat):aZ:=⟨(.cons fI .nil),(.int .i64),E8 N⟩
theorem PW (N:Nat):ap bR 111 (XM N):=gv.bY (bn (by intro a e h; simp only [List.mem_cons,Prod.mk.injEq,List.not_mem_nil,or_false] at h; rcases h with ⟨rfl,rfl⟩ | ⟨rfl,rfl⟩; exact PT N; exact PU N)) (by kernel_rfl) (by kernel_rfl)
theorem PX (N:Nat) (a0:Int × Int):E8 N a0 =
 (((PS N a0.1).bind fun y1=>(bif y1 then (some true) else (PS N a0.2).bind fun y2=>(some y2)):Option Bool).bind fun o3=>(bif o3 then some 3 else (Ub N (a0.1,a0.2)).bind fun y4=>(bif (!y4) then some 14 else some 0))):=by kernel_rfl
end
end Go.Proofs.YtldcljfjjoidhaaGreatDoor
