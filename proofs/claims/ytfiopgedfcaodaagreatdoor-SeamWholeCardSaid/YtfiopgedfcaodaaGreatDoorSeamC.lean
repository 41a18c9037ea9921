/- The chapter's examples: the closed call,carried out by the kernel. -/
import Derived.Test.YtfiopgedfcaodaaGreatDoorSeamL
set_option linter.all false
namespace Go.Proofs.YtfiopgedfcaodaaGreatDoor
open Go Go.Am
set_option maxRecDepth 1000000
noncomputable def cxC:fJ:={ D:=XS,G4:=IK Ua,xS:=fun _ _=>none,fz:=true,N:=0 }
theorem DC:ck env 16 [] (fun r=>∃ y:Bool,r=aA.enc .bool y∧y=true):=
 Dr (C:=cxC) (n:=100000) (p:=.bool) (ok:=fun (y:Bool)=>y) (bC Py) (by kernel_rfl) (by kernel_rfl) (by kernel_rfl)
end Go.Proofs.YtfiopgedfcaodaaGreatDoor
