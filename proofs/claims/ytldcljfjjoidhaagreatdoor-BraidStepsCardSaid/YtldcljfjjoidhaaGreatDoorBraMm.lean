/- The surroundings in which the laws are carried out: the library's variables known,the forms of elements,too. -/
import Derived.Test.YtldcljfjjoidhaaGreatDoorBraC
set_option linter.all false
namespace Go.Proofs.YtldcljfjjoidhaaGreatDoor
open Go Go.Am
set_option maxRecDepth 100000
noncomputable def wE (m:Int):Env:={ bF with bY:=wv m,gx:=fun g=>Nat.beq g 1,mT:=B5 m }
noncomputable def WZ (m:Int):Gm:={ JJ with toEnv:=wE m }
noncomputable def cxN (m:Int) (N:Nat) (yH:List (Nat × aL)) (pL:List (Nat × List (Nat × cE))):ej:={ D:=WZ m,yH:=BP yH,pL:=E2 pL,fz:=false,N:=N,gt:=fun _=>none }
theorem an.Cw {m:Int} {g:FuncId} {e:aL} (h:an bF g e):an (wE m) g e:=fun x y hT=>
 aR.more (E:=bF) rfl (fun g cs hg=>by cases (show (none:Option (List AV))=some cs from hg)) (h x y hT)
def Yp (_N:Nat):Unit→Option Bool:=fun _=>some true
def e14 (N:Nat):aL:=⟨.nil,.bool,Yp N⟩
theorem SN (m:Int) (N:Nat):an (wE m) 14 (e14 N):=fun x y h=>by
 cases h
 exact aR.env (E:=eT m) rfl rfl (aR.mono (Cb m) fun r ⟨y,h1,h2⟩=>by rw [h1,h2]; rfl)
end Go.Proofs.YtldcljfjjoidhaaGreatDoor
