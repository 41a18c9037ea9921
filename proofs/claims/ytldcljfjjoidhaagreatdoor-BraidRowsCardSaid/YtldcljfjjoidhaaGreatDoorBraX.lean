/- What the functions compute (printed by a program of ours,checked by the kernel). -/
import Derived.Test.YtldcljfjjoidhaaGreatDoorBraSp
import Derived.Test.YtldcljfjjoidhaaGreatDoorBraW
set_option linter.all false
namespace Go.Proofs.YtldcljfjjoidhaaGreatDoor
open Go Go.Am
open List (map)
open Int (toNat)
open Go.IntKind (wrap)
open Go.Am.aO (fits)
set_option maxRecDepth 100000
noncomputable section
abbrev p50:aO:=(.list 5 (.agg (.cons (.int .i64) (.cons (.int .i64) (.cons .bool (.cons .bool (.cons (.int .i64) .nil)))))))
def c19:List (Nat × df):=[(58,.loop [] ⟨(.cons (.int .i64) .nil),[3],[],[],[],[]⟩ [(.ret,⟨(.cons (.int .i64) .nil),[2],[],[],[],[]⟩),(.ex 0,⟨.nil,[],[],[],[],[]⟩)]),
 (7462,.join [(.norm,⟨(.cons .bool .nil),[36],[],[],[],[]⟩)])]
def Ux:List (Nat × df):=[(28,.join [(.norm,⟨(.cons .bool .nil),[18],[],[],[],[]⟩)]),
 (29,.join [(.norm,⟨(.cons (.int .i64) .nil),[3],[],[],[],[]⟩)]),
 (61,.join [(.norm,⟨(.cons (.int .i64) .nil),[3],[],[],[],[]⟩)])]
def X4 (N:Nat):bO→Option Int:=(yZ N [(86,e86 N),(111,XM N),(132,LD N),(133,LF N)] [(19,c19),(85,Ux)]).fn 1000 19 (.cons (.list 3 au) .nil) (.int .i64)
def e19 (N:Nat):aZ:=⟨(.cons (.list 3 au) .nil),(.int .i64),X4 N⟩
theorem LW (N:Nat):ap bR 19 (e19 N):=gv.bY (bn (by intro a e h; simp only [List.mem_cons,Prod.mk.injEq,List.not_mem_nil,or_false] at h; rcases h with ⟨rfl,rfl⟩ | ⟨rfl,rfl⟩ | ⟨rfl,rfl⟩ | ⟨rfl,rfl⟩; exact LH N; exact PW N; exact vr N; exact vt N)) (by kernel_rfl) (by kernel_rfl)
def ye (N:Nat) (a0:List XB) (v1:Int):Option (Int ⊕ (Int ⊕ Unit)):=
 (bif (decide (v1 < ((((map ae a0)).length:Nat):Int))) then bif (decide ((0:Int)≤v1∧v1 < (((map ae a0)).length:Int))&&fits au (aj (map ae a0) (toNat v1))) then (sd N ((ak (aj (map ae a0) (toNat v1))).1,(ak (aj (map ae a0) (toNat v1))).2.1,(ak (aj (map ae a0) (toNat v1))).2.2)).bind fun y2=>(E8 N (y2.1,y2.2)).bind fun y3=>(((bif (y3 == 0) then (bif ((ak (aj (map ae a0) (toNat v1))).2.2 != 1) then (some ((ak (aj (map ae a0) (toNat v1))).2.2 != (-1))) else (some false)) else (some false)):Option Bool).bind fun o4=>(((bif o4 then (some 13) else (some y3)):Option Int).bind fun o5=>(((bif (o5 == 0) then (se N ((ak (aj (map ae a0) (toNat v1))).1,(ak (aj (map ae a0) (toNat v1))).2.1,(ak (aj (map ae a0) (toNat v1))).2.2)).bind fun y6=>(E8 N (y6.1,y6.2)).bind fun y7=>(some y7) else (some o5)):Option Int).bind fun o8=>(bif (o8 != 0) then (some (Sum.inr (Sum.inl o8))) else (((bif (decide (v1 > 0)) then bif (decide ((0:Int)≤(wrap .i64 (v1 - 1))∧(wrap .i64 (v1 - 1)) < (((map ae a0)).length:Int))&&fits au (aj (map ae a0) (toNat (wrap .i64 (v1 - 1))))) then bif (decide ((0:Int)≤v1∧v1 < (((map ae a0)).length:Int))&&fits au (aj (map ae a0) (toNat v1))) then (RQ N (((ak (aj (map ae a0) (toNat (wrap .i64 (v1 - 1))))).1,(ak (aj (map ae a0) (toNat (wrap .i64 (v1 - 1))))).2.1,(ak (aj (map ae a0) (toNat (wrap .i64 (v1 - 1))))).2.2),((ak (aj (map ae a0) (toNat v1))).1,(ak (aj (map ae a0) (toNat v1))).2.1,(ak (aj (map ae a0) (toNat v1))).2.2))).bind fun y11=>(some (!y11)) else none else none else (some false)):Option Bool).bind fun xQ=>(bif xQ then (some (Sum.inr (Sum.inl 11))) else (some (Sum.inl (wrap .i64 (v1+1)))))))))) else none else (some (Sum.inr (Sum.inr ()))))
theorem Uy (N:Nat) (a0:List XB):X4 N a0 =
 (bif (decide (((((map ae a0)).length:Nat):Int) > 4096)) then some 5 else ((aN (ye N a0) N 0).bind fun Px=>(Sum.elim (fun IA=>some IA) (fun iL=>some 0) Px))):=by kernel_rfl
end
end Go.Proofs.YtldcljfjjoidhaaGreatDoor
