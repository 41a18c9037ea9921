/- The surroundings in which the laws are carried out: the library's variables known,the forms of elements,too. -/
import Derived.Test.YtldcljfjjoidhaaGreatDoorBraC
set_option linter.all false
namespace Go.Proofs.YtldcljfjjoidhaaGreatDoor
open Go Go.Am
open List (map)
open Int (toNat)
open Go.IntKind (wrap)
open Go.Am.aT (fits)
set_option maxRecDepth 100000
noncomputable def xF (m:Int):Env:={ bC with cb:=xx m,gx:=fun g=>Nat.beq g 1,nX:=Dd m }
noncomputable def Za (m:Int):HR:={ Lb with toEnv:=xF m }
noncomputable def cxN (m:Int) (N:Nat) (yx:List (Nat × aQ)) (oO:List (Nat × List (Nat × cA))):eE:={ D:=Za m,yx:=CZ yx,oO:=Gw oO,fz:=false,N:=N,gt:=fun _=>none }
theorem ap.Fi {m:Int} {g:FuncId} {e:aQ} (h:ap bC g e):ap (xF m) g e:=fun x y hT=>
 aY.more (E:=bC) rfl (fun g cs hg=>by cases (show (none:Option (List AV))=some cs from hg)) (h x y hT)
def W9 (_N:Nat):Unit→Option Bool:=fun _=>some true
def e14 (N:Nat):aQ:=⟨.nil,.bool,W9 N⟩
theorem UT (m:Int) (N:Nat):ap (xF m) 14 (e14 N):=fun x y h=>by
 cases h
 exact aY.env (E:=fC m) rfl rfl (aY.mono (Dj m) fun r ⟨y,h1,h2⟩=>by rw [h1,h2]; rfl)
end Go.Proofs.YtldcljfjjoidhaaGreatDoor
