/- The library's functions in the surroundings of the laws. -/
import Derived.Test.YtldcljfjjoidhaaGreatDoorBraMm
set_option linter.all false
namespace Go.Proofs.YtldcljfjjoidhaaGreatDoor
open Go Go.Am Go.Proofs Go.Shelf
open List (map)
open Int (toNat)
open Go.IntKind (wrap)
open Go.Am.aP (fits)
set_option maxRecDepth 100000
theorem ai.ofM {m:Int} {g:FuncId} {e:aD} (h:ai (e8 m) g e):ai (oZ m) g e:=fun x y hT=>aU.env (E:=e8 m) rfl rfl (h x y hT)
noncomputable def gtN (m:Int):(g:FuncId)→Option (kQ (oZ m) g)
 |139=>some (ccE (E:=oZ m) Iz aaM)
 |97=>some (aaE (E:=oZ m) Tryz.Iy Tryz.lY rfl)
 |_=>none
noncomputable def cxT (m:Int) (N:Nat) (xe:List (Nat × aD)) (oo:List (Nat × List (Nat × cA))):eB:={ cxN m N xe oo with gt:=gtN m }
def Xg (_N:Nat):Int→Option (List UInt8):=zv
def T98 (_N:Nat):List UInt8 × List UInt8→Option (List UInt8 × List UInt8 × Bool):=aaL
def Sw (_N:Nat):List UInt8 × List UInt8→Option (List (List UInt8)):=Ni
end Go.Proofs.YtldcljfjjoidhaaGreatDoor
