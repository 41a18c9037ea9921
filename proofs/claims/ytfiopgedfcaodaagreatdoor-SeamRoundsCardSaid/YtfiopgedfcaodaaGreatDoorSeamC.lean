/- The chapter's examples: the closed call,carried out by the kernel. -/
import Derived.Test.YtfiopgedfcaodaaGreatDoorSeamL
set_option linter.all false
namespace Go.Proofs.YtfiopgedfcaodaaGreatDoor
open Go Go.Am
set_option maxRecDepth 1000000
noncomputable def cxC:Ctx:={ D:=envD,tab:=tabF libL,cert:=fun _ _=>none,fz:=true,N:=0 }
theorem awake_calls:PCalls env 16 [] (fun r=>∃ y:Bool,r=Pat.enc .bool y∧y=true):=
 closed_call (C:=cxC) (n:=100000) (p:=.bool) (ok:=fun (y:Bool)=>y) (tabF_ok libL_ok) (by kernel_rfl) (by kernel_rfl) (by kernel_rfl)
end Go.Proofs.YtfiopgedfcaodaaGreatDoor
