/- The surroundings in which the laws are carried out: the library's variables known,the forms of elements,too. -/
import Derived.Test.YtldcljfjjoidhaaGreatDoorBraC
set_option linter.all false
namespace Go.Proofs.YtldcljfjjoidhaaGreatDoor
open Go Go.Am
set_option maxRecDepth 100000
noncomputable def sY (m:Int):Env:={ di with bY:=sS m,gx:=fun g=>Nat.beq g 1,mf:=xH m }
noncomputable def N9 (m:Int):C1:={ I1 with toEnv:=sY m }
noncomputable def T9 (m:Int) (N:Nat) (zv:List (Nat × aV)) (tA:List (Nat × List (Nat × e8))):gD:={ D:=N9 m,zv:=zB zv,tA:=Dq tA,fz:=false,N:=N,gt:=fun _=>none }
theorem ap.KZ {m:Int} {g:FuncId} {e:aV} (h:ap di g e):ap (sY m) g e:=fun x y hT=>
 aN.more (E:=di) rfl (fun g cs hg=>by cases (show (none:Option (List AV))=some cs from hg)) (h x y hT)
def OV (_N:Nat):Unit→Option Bool:=fun _=>some true
def RV (N:Nat):aV:=⟨.nil,.bool,OV N⟩
theorem K0 (m:Int) (N:Nat):ap (sY m) 14 (RV N):=fun x y h=>by
 cases h
 exact aN.env (E:=dK m) rfl rfl (aN.mono (xN m) fun r ⟨y,h1,h2⟩=>by rw [h1,h2]; rfl)
end Go.Proofs.YtldcljfjjoidhaaGreatDoor
