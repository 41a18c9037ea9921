/- What functions compute. -/
import Derived.Test.YtldcljfjjoidhaaGreatDoorBraSp
import Derived.Test.YtldcljfjjoidhaaGreatDoorBraW
set_option linter.all false
namespace Go.Proofs.YtldcljfjjoidhaaGreatDoor
open Go Go.Am
open List (map)
open Int (toNat)
open Go.IntKind (wrap)
open Go.Am.aO (fits)
set_option maxRecDepth 100000
noncomputable section
abbrev p50:aO:=(.list 5 (.agg (.cons (.int .i64) (.cons (.int .i64) (.cons .bool (.cons .bool (.cons (.int .i64) .nil)))))))
def c19:List (Nat × cW):=[(58,.loop [] ⟨(.ci .nil),[3],[],[],[],[]⟩ [(.ret,⟨(.ci .nil),[2],[],[],[],[]⟩),(.ex 0,⟨.nil,[],[],[],[],[]⟩)]),
 (7462,.join [(.norm,⟨(.cons .bool .nil),[36],[],[],[],[]⟩)])]
def aaH:List (Nat × cW):=[(28,.join [(.norm,⟨(.cons .bool .nil),[18],[],[],[],[]⟩)]),
 (29,.join [(.norm,⟨(.ci .nil),[3],[],[],[],[]⟩)]),
 (61,.join [(.norm,⟨(.ci .nil),[3],[],[],[],[]⟩)])]
def T19 (N:Nat):cI→Option Int:=(Kt N [(86,e86 N),(111,U5 N),(132,aen N),(133,aeo N)] [(19,c19),(85,aaH)]).fn 1000 19 (.cons (.list 3 aA) .nil) (.int .i64)
def e19 (N:Nat):aR:=⟨(.cons (.list 3 aA) .nil),(.int .i64),T19 N⟩
theorem Qk (N:Nat):aj bH 19 (e19 N):=fU.bA (eZ (PY N) (eZ (Eu N) (eZ (Vr N) (eZ (Vt N) qa)))) (by kernel_rfl) (by kernel_rfl)
def Bg (N:Nat) (a0:List XB) (v1:Int):Option (Int ⊕ (Int ⊕ Unit)):=
 (bif (decide (v1 < (((ai a0).length:Nat):Int))) then bif (decide ((0:Int)≤v1∧v1 < ((ai a0).length:Int))&&fits aA (ae (ai a0) (toNat v1))) then (PW N ((aB (ae (ai a0) (toNat v1))).1,(aB (ae (ai a0) (toNat v1))).2.1,(aB (ae (ai a0) (toNat v1))).2.2)).bind fun y2=>(vQ N (y2.1,y2.2)).bind fun y3=>(((bif (y3 == 0) then (bif ((aB (ae (ai a0) (toNat v1))).2.2 != 1) then (some ((aB (ae (ai a0) (toNat v1))).2.2 != (-1))) else (some false)) else (some false)):Option Bool).bind fun o4=>(((bif o4 then (some 13) else (some y3)):Option Int).bind fun o5=>(((bif (o5 == 0) then (PX N ((aB (ae (ai a0) (toNat v1))).1,(aB (ae (ai a0) (toNat v1))).2.1,(aB (ae (ai a0) (toNat v1))).2.2)).bind fun y6=>(vQ N (y6.1,y6.2)).bind fun y7=>(some y7) else (some o5)):Option Int).bind fun o8=>(bif (o8 != 0) then (some (Sum.inr (Sum.inl o8))) else (((bif (decide (v1 > 0)) then bif (decide ((0:Int)≤(wrap .i64 (v1 - 1))∧(wrap .i64 (v1 - 1)) < ((ai a0).length:Int))&&fits aA (ae (ai a0) (toNat (wrap .i64 (v1 - 1))))) then bif (decide ((0:Int)≤v1∧v1 < ((ai a0).length:Int))&&fits aA (ae (ai a0) (toNat v1))) then (XD N (((aB (ae (ai a0) (toNat (wrap .i64 (v1 - 1))))).1,(aB (ae (ai a0) (toNat (wrap .i64 (v1 - 1))))).2.1,(aB (ae (ai a0) (toNat (wrap .i64 (v1 - 1))))).2.2),((aB (ae (ai a0) (toNat v1))).1,(aB (ae (ai a0) (toNat v1))).2.1,(aB (ae (ai a0) (toNat v1))).2.2))).bind fun y11=>(some (!y11)) else none else none else (some false)):Option Bool).bind fun Bz=>(bif Bz then (some (Sum.inr (Sum.inl 11))) else (some (Sum.inl (wrap .i64 (v1+1)))))))))) else none else (some (Sum.inr (Sum.inr ()))))
theorem aaI (N:Nat) (a0:List XB):T19 N a0 =
 (bif (decide ((((ai a0).length:Nat):Int) > 4096)) then some 5 else ((az (Bg N a0) N 0).bind fun o17=>(Sum.elim (fun lU=>some lU) (fun kw=>some 0) o17))):=by kernel_rfl
end
end Go.Proofs.YtldcljfjjoidhaaGreatDoor
