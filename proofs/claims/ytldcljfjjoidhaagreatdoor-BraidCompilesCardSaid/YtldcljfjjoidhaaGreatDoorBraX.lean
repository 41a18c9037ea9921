/- What the functions compute (printed by a program of ours,checked by the kernel). -/
import Derived.Test.YtldcljfjjoidhaaGreatDoorBraSp
import Derived.Test.YtldcljfjjoidhaaGreatDoorBraW
set_option linter.all false
namespace Go.Proofs.YtldcljfjjoidhaaGreatDoor
open Go Go.Am
open List (map)
open Int (toNat)
open Go.IntKind (wrap)
open Go.Am.aR (fits)
set_option maxRecDepth 100000
noncomputable section
abbrev zT:aR:=(.list 5 (.agg (.cons (.int .i64) (.cons (.int .i64) (.cons .bool (.cons .bool (.cons (.int .i64) .nil)))))))
def c19:List (Nat × cE):=[(58,.loop [] ⟨(.cons (.int .i64) .nil),[3],[],[],[],[]⟩ [(.ret,⟨(.cons (.int .i64) .nil),[2],[],[],[],[]⟩),(.ex 0,⟨.nil,[],[],[],[],[]⟩)]),
 (7462,.join [(.norm,⟨(.cons .bool .nil),[36],[],[],[],[]⟩)])]
def Xd:List (Nat × cE):=[(28,.join [(.norm,⟨(.cons .bool .nil),[18],[],[],[],[]⟩)]),
 (29,.join [(.norm,⟨(.cons (.int .i64) .nil),[3],[],[],[],[]⟩)]),
 (61,.join [(.norm,⟨(.cons (.int .i64) .nil),[3],[],[],[],[]⟩)])]
def T19 (N:Nat):dY→Option Int:=(HR N [(86,e86 N),(111,Rz N),(132,aaL N),(133,aaM N)] [(19,c19),(85,Xd)]).fn 1000 19 (.cons (.list 3 ay) .nil) (.int .i64)
def e19 (N:Nat):aS:=⟨(.cons (.list 3 ay) .nil),(.int .i64),T19 N⟩
theorem Ns (N:Nat):ak bF 19 (e19 N):=fw.bu (aZ (by intro a e h; simp only [List.mem_cons,Prod.mk.injEq,List.not_mem_nil,or_false] at h; rcases h with ⟨rfl,rfl⟩ | ⟨rfl,rfl⟩ | ⟨rfl,rfl⟩ | ⟨rfl,rfl⟩; exact M6 N; exact Cq N; exact R6 N; exact R8 N)) (by kernel_rfl) (by kernel_rfl)
def zL (N:Nat) (a0:List XB) (v1:Int):Option (Int ⊕ (Int ⊕ Unit)):=
 (bif (decide (v1 < ((((map af a0)).length:Nat):Int))) then bif (decide ((0:Int)≤v1∧v1 < (((map af a0)).length:Int))&&fits ay (ah (map af a0) (toNat v1))) then (M4 N ((aw (ah (map af a0) (toNat v1))).1,(aw (ah (map af a0) (toNat v1))).2.1,(aw (ah (map af a0) (toNat v1))).2.2)).bind fun y2=>(uI N (y2.1,y2.2)).bind fun y3=>(((bif (y3 == 0) then (bif ((aw (ah (map af a0) (toNat v1))).2.2 != 1) then (some ((aw (ah (map af a0) (toNat v1))).2.2 != (-1))) else (some false)) else (some false)):Option Bool).bind fun o4=>(((bif o4 then (some 13) else (some y3)):Option Int).bind fun o5=>(((bif (o5 == 0) then (M5 N ((aw (ah (map af a0) (toNat v1))).1,(aw (ah (map af a0) (toNat v1))).2.1,(aw (ah (map af a0) (toNat v1))).2.2)).bind fun y6=>(uI N (y6.1,y6.2)).bind fun y7=>(some y7) else (some o5)):Option Int).bind fun o8=>(bif (o8 != 0) then (some (Sum.inr (Sum.inl o8))) else (((bif (decide (v1 > 0)) then bif (decide ((0:Int)≤(wrap .i64 (v1 - 1))∧(wrap .i64 (v1 - 1)) < (((map af a0)).length:Int))&&fits ay (ah (map af a0) (toNat (wrap .i64 (v1 - 1))))) then bif (decide ((0:Int)≤v1∧v1 < (((map af a0)).length:Int))&&fits ay (ah (map af a0) (toNat v1))) then (T6 N (((aw (ah (map af a0) (toNat (wrap .i64 (v1 - 1))))).1,(aw (ah (map af a0) (toNat (wrap .i64 (v1 - 1))))).2.1,(aw (ah (map af a0) (toNat (wrap .i64 (v1 - 1))))).2.2),((aw (ah (map af a0) (toNat v1))).1,(aw (ah (map af a0) (toNat v1))).2.1,(aw (ah (map af a0) (toNat v1))).2.2))).bind fun JP=>(some (!JP)) else none else none else (some false)):Option Bool).bind fun Rr=>(bif Rr then (some (Sum.inr (Sum.inl 11))) else (some (Sum.inl (wrap .i64 (v1+1)))))))))) else none else (some (Sum.inr (Sum.inr ()))))
theorem Xe (N:Nat) (a0:List XB):T19 N a0 =
 (bif (decide (((((map af a0)).length:Nat):Int) > 4096)) then some 5 else ((aL (zL N a0) N 0).bind fun Yi=>(Sum.elim (fun jn=>some jn) (fun o19=>some 0) Yi))):=by kernel_rfl
end
end Go.Proofs.YtldcljfjjoidhaaGreatDoor
