/- The surroundings in which the laws are carried out: the library's variables known,the forms of elements,too. -/
import Derived.Test.YtldcljfjjoidhaaGreatDoorBraC
set_option linter.all false
namespace Go.Proofs.YtldcljfjjoidhaaGreatDoor
open Go Go.Am
open List (map)
open Int (toNat)
open Go.IntKind (wrap)
open Go.Am.aP (fits)
set_option maxRecDepth 100000
noncomputable def oZ (m:Int):Env:={ bG with cr:=zt m,gx:=fun g=>Nat.beq g 1,pg:=EH m }
noncomputable def abt (m:Int):JL:={ Nl with toEnv:=oZ m }
noncomputable def cxN (m:Int) (N:Nat) (xe:List (Nat × aD)) (oo:List (Nat × List (Nat × cA))):eB:={ D:=abt m,xe:=wI xe,oo:=Is oo,fz:=false,N:=N,gt:=fun _=>none }
theorem ai.Di {m:Int} {g:FuncId} {e:aD} (h:ai bG g e):ai (oZ m) g e:=fun x y hT=>
 aU.more (E:=bG) rfl (fun g cs hg=>by cases (show (none:Option (List AV))=some cs from hg)) (h x y hT)
def T14 (_N:Nat):Unit→Option Bool:=fun _=>some true
def e14 (N:Nat):aD:=⟨.nil,.bool,T14 N⟩
theorem W7 (m:Int) (N:Nat):ai (oZ m) 14 (e14 N):=fun x y h=>by
 cases h;exact aU.env (E:=e8 m) rfl rfl (aU.mono (ES m) fun r ⟨y,h1,h2⟩=>by rw [h1,h2]; rfl)
end Go.Proofs.YtldcljfjjoidhaaGreatDoor
