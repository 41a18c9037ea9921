/- The surroundings in which the laws are carried out: the library's variables known,the forms of elements,too. -/
import Derived.Test.YtldcljfjjoidhaaGreatDoorBraC
set_option linter.all false
namespace Go.Proofs.YtldcljfjjoidhaaGreatDoor
open Go Go.Am
set_option maxRecDepth 100000
noncomputable def vj (m:Int):Env:={ bF with bN:=vc m,gx:=fun g=>Nat.beq g 1,me:=AW m }
noncomputable def TS (m:Int):EI:={ HM with toEnv:=vj m }
noncomputable def cxN (m:Int) (N:Nat) (xd:List (Nat × aK)) (oJ:List (Nat × List (Nat × cC))):eR:={ D:=TS m,xd:=AG xd,oJ:=DF oJ,fz:=false,N:=N,gt:=fun _=>none }
theorem ao.E7 {m:Int} {g:FuncId} {e:aK} (h:ao bF g e):ao (vj m) g e:=fun x y hT=>
 aM.more (E:=bF) rfl (fun g cs hg=>by cases (show (none:Option (List AV))=some cs from hg)) (h x y hT)
def UZ (_N:Nat):Unit→Option Bool:=fun _=>some true
def YL (N:Nat):aK:=⟨.nil,.bool,UZ N⟩
theorem PV (m:Int) (N:Nat):ao (vj m) 14 (YL N):=fun x y h=>by
 cases h
 exact aM.env (E:=eC m) rfl rfl (aM.mono (A1 m) fun r ⟨y,h1,h2⟩=>by rw [h1,h2]; rfl)
end Go.Proofs.YtldcljfjjoidhaaGreatDoor
