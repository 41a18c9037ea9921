/- The surroundings in which the laws are carried out: the library's variables known,the forms of elements,too. -/
import Derived.Test.YtldcljfjjoidhaaGreatDoorBraC
set_option linter.all false
namespace Go.Proofs.YtldcljfjjoidhaaGreatDoor
open Go Go.Am
open List (map)
open Int (toNat)
open Go.IntKind (wrap)
open Go.Am.aO (fits)
set_option maxRecDepth 100000
noncomputable def AO (m:Int):Env:={ bH with cw:=AG m,gx:=fun g=>Nat.beq g 1,qh:=Gj m }
noncomputable def adX (m:Int):Lt:={ OW with toEnv:=AO m }
noncomputable def cxN (m:Int) (N:Nat) (Bx:List (Nat × aR)) (qU:List (Nat × List (Nat × cW))):fU:={ D:=adX m,Bx:=xY Bx,qU:=JZ qU,fz:=false,N:=N,gt:=fun _=>none }
theorem aj.IT {m:Int} {g:FuncId} {e:aR} (h:aj bH g e):aj (AO m) g e:=fun x y hT=>
 a6.more (E:=bH) rfl (fun g cs hg=>by cases (show (none:Option (List AV))=some cs from hg)) (h x y hT)
def T14 (_N:Nat):Unit→Option Bool:=fun _=>some true
def e14 (N:Nat):aR:=⟨.nil,.bool,T14 N⟩
theorem ZC (m:Int) (N:Nat):aj (AO m) 14 (e14 N):=fun x y h=>by
 cases h;exact a6.env (E:=gT m) rfl rfl (a6.mono (Gq m) fun r ⟨y,h1,h2⟩=>by rw [h1,h2]; rfl)
end Go.Proofs.YtldcljfjjoidhaaGreatDoor
