/- The surroundings in which the laws are carried out: the library's variables known,the forms of elements,too. -/
import Derived.Test.YtldcljfjjoidhaaGreatDoorBraC
set_option linter.all false
namespace Go.Proofs.YtldcljfjjoidhaaGreatDoor
open Go Go.Am
open List (map)
open Int (toNat)
open Go.IntKind (wrap)
open Go.Am.aM (fits)
set_option maxRecDepth 100000
noncomputable def oM (m:Int):Env:={ bQ with ck:=zh m,gx:=fun g=>Nat.beq g 1,oS:=Ev m }
noncomputable def aaw (m:Int):Jr:={ MY with toEnv:=oM m }
noncomputable def cxN (m:Int) (N:Nat) (wP:List (Nat × aP)) (n9:List (Nat × List (Nat × cN))):fj:={ D:=aaw m,wP:=wv wP,n9:=H9 n9,fz:=false,N:=N,gt:=fun _=>none }
theorem ai.Fg {m:Int} {g:FuncId} {e:aP} (h:ai bQ g e):ai (oM m) g e:=fun x y hT=>
 aR.more (E:=bQ) rfl (fun g cs hg=>by cases (show (none:Option (List AV))=some cs from hg)) (h x y hT)
def T14 (_N:Nat):Unit→Option Bool:=fun _=>some true
def e14 (N:Nat):aP:=⟨.nil,.bool,T14 N⟩
theorem Wo (m:Int) (N:Nat):ai (oM m) 14 (e14 N):=fun x y h=>by
 cases h;exact aR.env (E:=eZ m) rfl rfl (aR.mono (EE m) fun r ⟨y,h1,h2⟩=>by rw [h1,h2]; rfl)
end Go.Proofs.YtldcljfjjoidhaaGreatDoor
