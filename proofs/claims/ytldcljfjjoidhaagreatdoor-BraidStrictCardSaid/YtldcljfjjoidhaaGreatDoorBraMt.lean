/- The library's functions in the surroundings of the laws. -/
import Derived.Test.YtldcljfjjoidhaaGreatDoorBraMm
set_option linter.all false
namespace Go.Proofs.YtldcljfjjoidhaaGreatDoor
open Go Go.Am Go.Proofs Go.Shelf
open List (map)
open Int (toNat)
open Go.IntKind (wrap)
open Go.Am.aM (fits)
set_option maxRecDepth 100000
theorem ai.ofM {m:Int} {g:FuncId} {e:aP} (h:ai (eZ m) g e):ai (oM m) g e:=fun x y hT=>aR.env (E:=eZ m) rfl rfl (h x y hT)
noncomputable def gtN (m:Int):(g:FuncId)→Option (kN (oM m) g)
 |139=>some (ccE (E:=oM m) Ii ZN)
 |97=>some (ZH (E:=oM m) Tryz.Ih Tryz.lR rfl)
 |_=>none
noncomputable def cxT (m:Int) (N:Nat) (wP:List (Nat × aP)) (n9:List (Nat × List (Nat × cN))):fj:={ cxN m N wP n9 with gt:=gtN m }
def Wx (_N:Nat):Int→Option (List UInt8):=zj
def T98 (_N:Nat):List UInt8 × List UInt8→Option (List UInt8 × List UInt8 × Bool):=ZM
def Sa (_N:Nat):List UInt8 × List UInt8→Option (List (List UInt8)):=MV
end Go.Proofs.YtldcljfjjoidhaaGreatDoor
