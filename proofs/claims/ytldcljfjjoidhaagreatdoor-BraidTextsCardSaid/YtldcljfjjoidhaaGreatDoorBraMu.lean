/- Print,the empty program too. -/
import Derived.Test.YtldcljfjjoidhaaGreatDoorBraR
set_option linter.all false
namespace Go.Proofs.YtldcljfjjoidhaaGreatDoor
open Go Go.Am
open List (map)
open Int (toNat)
open Go.IntKind (wrap)
open Go.Am.aP (fits)
set_option maxRecDepth 100000
def Yq:(List UInt8) × Int:=([],0)
def Vb (y:(List UInt8) × Int):Bool:=decide (y=Yq)
theorem Ou {y:(List UInt8) × Int} (h:Vb y=true):y=Yq:=of_decide_eq_true h
theorem ahj (m:Int):aU (e8 m) 29 (aM.enc (.cons CY .nil) ([]:List XC)) (fun r=>r=aP.enc (.bq (.cons .str (.cons (.int .i64) .nil))) Yq):=
 aU.mono (cY (C:=KR m) (n:=100000) (p:=(.bq (.cons .str (.cons (.int .i64) .nil)))) (ok:=Vb) (fJ (gr m)) (by kernel_rfl) (by kernel_rfl) (by kernel_rfl)) fun r ⟨y,h1,h2⟩=>by rw [h1,Ou h2]
noncomputable def Yr (m:Int) (N:Nat):List XC→Option ((List UInt8) × Int)
 |[]=>some ([],0)
 |c :: l=>T29 m N (c :: l)
noncomputable def acu (m:Int) (N:Nat):aD:=⟨(.cons CY .nil),(.bq (.cons .str (.cons (.int .i64) .nil))),Yr m N⟩
theorem TE (m:Int) (N:Nat):ai (oZ m) 29 (acu m N):=fun (x:List XC) y h=>by
 cases x with
 |nil=>
  have h:some (([],0):(List UInt8) × Int)=some y:=h;cases h;exact aU.env (E:=e8 m) rfl rfl (ahj m)
 |cons c l=>exact Yl m N (c :: l) y h
end Go.Proofs.YtldcljfjjoidhaaGreatDoor
