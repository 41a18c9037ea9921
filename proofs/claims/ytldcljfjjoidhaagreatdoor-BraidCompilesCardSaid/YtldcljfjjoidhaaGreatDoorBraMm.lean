/- The surroundings in which the laws are carried out: the library's variables known,the forms of elements,too. -/
import Derived.Test.YtldcljfjjoidhaaGreatDoorBraC
set_option linter.all false
namespace Go.Proofs.YtldcljfjjoidhaaGreatDoor
open Go Go.Am
open List (map)
open Int (toNat)
open Go.IntKind (wrap)
open Go.Am.aR (fits)
set_option maxRecDepth 100000
noncomputable def zm (m:Int):Env:={ bF with cm:=zh m,gx:=fun g=>Nat.beq g 1,oV:=D0 m }
noncomputable def aah (m:Int):IL:={ L8 with toEnv:=zm m }
noncomputable def cxN (m:Int) (N:Nat) (zS:List (Nat × aS)) (pP:List (Nat × List (Nat × cE))):fw:={ D:=aah m,zS:=DL zS,pP:=Hr pP,fz:=false,N:=N,gt:=fun _=>none }
theorem ak.HC {m:Int} {g:FuncId} {e:aS} (h:ak bF g e):ak (zm m) g e:=fun x y hT=>
 a7.more (E:=bF) rfl (fun g cs hg=>by cases (show (none:Option (List AV))=some cs from hg)) (h x y hT)
def T14 (_N:Nat):Unit→Option Bool:=fun _=>some true
def e14 (N:Nat):aS:=⟨.nil,.bool,T14 N⟩
theorem V3 (m:Int) (N:Nat):ak (zm m) 14 (e14 N):=fun x y h=>by
 cases h
 exact a7.env (E:=gu m) rfl rfl (a7.mono (D8 m) fun r ⟨y,h1,h2⟩=>by rw [h1,h2]; rfl)
end Go.Proofs.YtldcljfjjoidhaaGreatDoor
