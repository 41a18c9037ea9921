/- Print,the empty program too. -/
import Derived.Test.YtldcljfjjoidhaaGreatDoorBraR
set_option linter.all false
namespace Go.Proofs.YtldcljfjjoidhaaGreatDoor
open Go Go.Am
open List (map)
open Int (toNat)
open Go.IntKind (wrap)
open Go.Am.aM (fits)
set_option maxRecDepth 100000
def Xv:(List UInt8) × Int:=([],0)
def Uy (y:(List UInt8) × Int):Bool:=decide (y=Xv)
theorem N1 {y:(List UInt8) × Int} (h:Uy y=true):y=Xv:=of_decide_eq_true h
theorem afZ (m:Int):aR (eZ m) 29 (aJ.enc (.cons J0 .nil) ([]:List XC)) (fun r=>r=aM.enc (.bk (.cons .str (.cons (.int .i64) .nil))) Xv):=
 aR.mono (cS (C:=Kv m) (n:=100000) (p:=(.bk (.cons .str (.cons (.int .i64) .nil)))) (ok:=Uy) (fL (gv m)) (by kernel_rfl) (by kernel_rfl) (by kernel_rfl)) fun r ⟨y,h1,h2⟩=>by rw [h1,N1 h2]
noncomputable def EL (m:Int) (N:Nat):List XC→Option ((List UInt8) × Int)
 |[]=>some ([],0)
 |c :: l=>T29 m N (c :: l)
noncomputable def abo (m:Int) (N:Nat):aP:=⟨(.cons J0 .nil),(.bk (.cons .str (.cons (.int .i64) .nil))),EL m N⟩
theorem S5 (m:Int) (N:Nat):ai (oM m) 29 (abo m N):=fun (x:List XC) y h=>by
 cases x with
 |nil=>
  have h:some (([],0):(List UInt8) × Int)=some y:=h;cases h;exact aR.env (E:=eZ m) rfl rfl (afZ m)
 |cons c l=>exact Xq m N (c :: l) y h
end Go.Proofs.YtldcljfjjoidhaaGreatDoor
