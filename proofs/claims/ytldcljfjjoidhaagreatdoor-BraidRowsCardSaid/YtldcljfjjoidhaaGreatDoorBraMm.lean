/- The surroundings in which the laws are carried out: the library's variables known,the forms of elements,too. -/
import Derived.Test.YtldcljfjjoidhaaGreatDoorBraC
set_option linter.all false
namespace Go.Proofs.YtldcljfjjoidhaaGreatDoor
open Go Go.Am
open List (map)
open Int (toNat)
open Go.IntKind (wrap)
open Go.Am.aO (fits)
set_option maxRecDepth 100000
noncomputable def xJ (m:Int):Env:={ bR with b6:=xB m,gx:=fun g=>Nat.beq g 1,nN:=C6 m }
noncomputable def XF (m:Int):Hu:={ KS with toEnv:=xJ m }
noncomputable def cxN (m:Int) (N:Nat) (yy:List (Nat × aZ)) (oD:List (Nat × List (Nat × df))):gv:={ D:=XF m,yy:=CR yy,oD:=F9 oD,fz:=false,N:=N,gt:=fun _=>none }
theorem ap.Ix {m:Int} {g:FuncId} {e:aZ} (h:ap bR g e):ap (xJ m) g e:=fun x y hT=>
 aW.more (E:=bR) rfl (fun g cs hg=>by cases (show (none:Option (List AV))=some cs from hg)) (h x y hT)
def Zd (_N:Nat):Unit→Option Bool:=fun _=>some true
def e14 (N:Nat):aZ:=⟨.nil,.bool,Zd N⟩
theorem TX (m:Int) (N:Nat):ap (xJ m) 14 (e14 N):=fun x y h=>by
 cases h
 exact aW.env (E:=fK m) rfl rfl (aW.mono (Db m) fun r ⟨y,h1,h2⟩=>by rw [h1,h2]; rfl)
end Go.Proofs.YtldcljfjjoidhaaGreatDoor
