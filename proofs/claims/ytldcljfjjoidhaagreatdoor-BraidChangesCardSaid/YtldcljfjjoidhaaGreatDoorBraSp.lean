/- Entries for slices.Sort of integers and slices.Grow of courses,by the shelf's contracts. -/
import Derived.Test.YtldcljfjjoidhaaGreatDoorBraSo
import Derived.Test.YtldcljfjjoidhaaGreatDoorBraSort2
import Derived.Test.YtldcljfjjoidhaaGreatDoorAmKL
set_option linter.all false
namespace Go.Proofs.YtldcljfjjoidhaaGreatDoor
open Go Go.Am
set_option maxRecDepth 100000
noncomputable def QY:lD bF 82:=⟨CY 3,IV (ρ:=Tryz.sd) Tryz.M0 (Plain.of Tryz.func82 (by kernel_rfl) (by kernel_rfl)) (by kernel_rfl)⟩
theorem Fj:∃ (i0:TypeInfo) (z:Value),Tryz.prog.info? 90=some i0∧i0.zero=some z∧i0.size=5∧i0.bytes=32∧z.cells.size=5:=by
 have h1:((Tryz.prog.info? 90).bind fun i=>i.zero).isSome=true:=by kernel_rfl
 have h2:((Tryz.prog.info? 90).map fun i=>i.size)=some 5:=by kernel_rfl
 have h3:((Tryz.prog.info? 90).map fun i=>i.bytes)=some 32:=by kernel_rfl
 have h4:(((Tryz.prog.info? 90).bind fun i=>i.zero).map fun z=>z.cells.size)=some 5:=by kernel_rfl
 cases h:Tryz.prog.info? 90 with
 | none=>rw [h] at h1; cases h1
 | some i0=>
  rw [h] at h1 h2 h3 h4
  simp only [Option.bind_some,Option.map_some,Option.some.injEq] at h1 h2 h3 h4
  cases hz:i0.zero with
  | none=>rw [hz] at h1; cases h1
  | some z=>
   rw [hz] at h4
   exact ⟨i0,z,rfl,hz,h2,h3,by simpa using h4⟩
noncomputable def QZ:lD bF 156:=⟨IW 5 32 90,fun args G r G' h=>by
 obtain ⟨i0,z,h1,h2,h3,h4,h5⟩:=Fj
 have key:=IX (E:=bF) (ρ:=Tryz.xz) Tryz.Uu (Plain.of Tryz.func156 (by kernel_rfl) (by kernel_rfl)) i0 z h1 h2 (by omega) (by omega) args G r G'
 rw [h3,h4] at key
 exact key h⟩
noncomputable def gtQ:(g:FuncId)→Option (lD bF g)
 | 176=>some QT
 | 135=>some QU
 | 82=>some QY
 | 156=>some QZ
 | _=>none
noncomputable def Y3 (N:Nat) (xd:List (Nat × aK)) (oJ:List (Nat × List (Nat × cC))):eR:={ cx N xd oJ with gt:=gtQ }
end Go.Proofs.YtldcljfjjoidhaaGreatDoor
