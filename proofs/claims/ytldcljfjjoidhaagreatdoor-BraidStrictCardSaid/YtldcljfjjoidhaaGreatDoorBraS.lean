/- What functions compute. -/
import Derived.Test.YtldcljfjjoidhaaGreatDoorBraSp
import Derived.Test.YtldcljfjjoidhaaGreatDoorBraY
set_option linter.all false
namespace Go.Proofs.YtldcljfjjoidhaaGreatDoor
open Go Go.Am
open List (map)
open Int (toNat)
open Go.IntKind (wrap)
open Go.Am.aM (fits)
set_option maxRecDepth 100000
noncomputable section
abbrev p9:aM:=.str
abbrev ng (v:AV):List UInt8:=aM.bA p9 v
abbrev vO (x:List UInt8):AV:=aM.enc p9 x
abbrev L9 (l:List (List UInt8)):=map vO l
def T27 (N:Nat):ey × Int × Int→Option ((Int × Int × Int × Int) × Int):=(cxQ N [(48,e48 N),(78,e78 N),(90,e90 N),(91,e91 N),(92,e92 N),(93,e93 N)] []).fn 1000 27 (.cons J0 (.ci (.ci .nil))) (.bk (.cons (.agg (.ci (.ci (.ci (.ci .nil))))) (.ci .nil)))
def e27 (N:Nat):aP:=⟨(.cons J0 (.ci (.ci .nil))),(.bk (.cons (.agg (.ci (.ci (.ci (.ci .nil))))) (.ci .nil))),T27 N⟩
theorem Xn (N:Nat):ai bQ 27 (e27 N):=fj.bH (eH (CO N) (eH (CH N) (eH (Nv N) (eH (NW N) (eH (Xl N) (eH (NV N) rB)))))) (by kernel_rfl) (by kernel_rfl)
theorem Xo (N:Nat) (a0:List XC) (a1:Int) (a2:Int):T27 N (a0,a1,a2) =
 ((bif (wz a0&&true) then some (wA a0) else none).bind fun x2=>(SF N x2).bind fun y1=>(Yl N (a1,1,100)).bind fun y3=>(Yl N (a2,0,100)).bind fun y4=>((bif (allFit (fits wS) [(AV.int .i64 y1),(AV.int .i64 y3),(AV.int .i64 y4)]&&true) then some (map kd [(AV.int .i64 y1),(AV.int .i64 y3),(AV.int .i64 y4)]) else none).bind fun x6=>(O8 N x6).bind fun y5=>(bif (y5 != 0) then some ((0,0,0,0),y5) else ((bif (wz a0&&true) then some (wA a0) else none).bind fun x8=>(T91 N x8).bind fun y7=>((bif (pS y7&&true) then some (qV y7) else none).bind fun x10=>(T92 N x10).bind fun y9=>((bif (wz a0&&true) then some (wA a0) else none).bind fun x12=>(T93 N x12).bind fun y11=>some (((((a7 y7).length:Nat):Int),(((bK y9.1).length:Nat):Int),(((L3 y11).length:Nat):Int),(wrap .i64 ((wrap .i64 ((((a7 y7).length:Nat):Int) * a1))+(wrap .i64 ((((bK y9.1).length:Nat):Int) * a2))))),0))))))):=by kernel_rfl
def Yp (N:Nat):Bool × (List UInt8) × (List UInt8)→Option ((List UInt8)):=(cxQ N [] []).fn 1000 96 (.cons .bool (.cons .str (.cons .str .nil))) .str
def e96 (N:Nat):aP:=⟨(.cons .bool (.cons .str (.cons .str .nil))),.str,Yp N⟩
theorem Xp (N:Nat):ai bQ 96 (e96 N):=fj.bH (fun _ _ h=>by cases h) (by kernel_rfl) (by kernel_rfl)
theorem NY (N:Nat) (a0:Bool) (a1:List UInt8) (a2:List UInt8):Yp N (a0,a1,a2) =
 (bif a0 then some a1 else some a2):=by kernel_rfl
end
end Go.Proofs.YtldcljfjjoidhaaGreatDoor
