/- The surroundings in which the laws are carried out: the library's variables known,the forms of elements,too. -/
import Derived.Test.YtldcljfjjoidhaaGreatDoorBraC
set_option linter.all false
namespace Go.Proofs.YtldcljfjjoidhaaGreatDoor
open Go Go.Am
set_option maxRecDepth 100000
noncomputable def wh (m:Int):Env:={ bC with bY:=vY m,gx:=fun g=>Nat.beq g 1,mJ:=BM m }
noncomputable def WC (m:Int):Gb:={ JA with toEnv:=wh m }
noncomputable def cxN (m:Int) (N:Nat) (yo:List (Nat × aJ)) (pH:List (Nat × List (Nat × cu))):ea:={ D:=WC m,yo:=Bw yo,pH:=ET pH,fz:=false,N:=N,gt:=fun _=>none }
theorem an.DL {m:Int} {g:FuncId} {e:aJ} (h:an bC g e):an (wh m) g e:=fun x y hT=>
 aS.more (E:=bC) rfl (fun g cs hg=>by cases (show (none:Option (List AV))=some cs from hg)) (h x y hT)
def XY (_N:Nat):Unit→Option Bool:=fun _=>some true
def e14 (N:Nat):aJ:=⟨.nil,.bool,XY N⟩
theorem Sn (m:Int) (N:Nat):an (wh m) 14 (e14 N):=fun x y h=>by
 cases h
 exact aS.env (E:=eP m) rfl rfl (aS.mono (BS m) fun r ⟨y,h1,h2⟩=>by rw [h1,h2]; rfl)
end Go.Proofs.YtldcljfjjoidhaaGreatDoor
