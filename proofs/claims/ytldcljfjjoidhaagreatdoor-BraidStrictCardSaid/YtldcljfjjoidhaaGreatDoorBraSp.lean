/- Entries for slices.Sort of integers and slices.Grow of courses,by the shelf's contracts. -/
import Derived.Test.YtldcljfjjoidhaaGreatDoorBraSo
import Derived.Test.YtldcljfjjoidhaaGreatDoorBraSort2
import Derived.Test.YtldcljfjjoidhaaGreatDoorAmKL
set_option linter.all false
namespace Go.Proofs.YtldcljfjjoidhaaGreatDoor
open Go Go.Am
open List (map)
open Int (toNat)
open Go.IntKind (wrap)
open Go.Am.aM (fits)
set_option maxRecDepth 100000
noncomputable def WT:kN bQ 82:=⟨G9 3,NO (ρ:=Tryz.vN) Tryz.Sx (Plain.of Tryz.func82 (by kernel_rfl) (by kernel_rfl)) (by kernel_rfl)⟩
theorem JY:∃ (i0:TypeInfo) (z:Value),Tryz.prog.info? 90=some i0∧i0.zero=some z∧i0.size=5∧i0.bytes=32∧z.cells.size=5:=by
 have h1:((Tryz.prog.info? 90).bind fun i=>i.zero).isSome=true:=by kernel_rfl
 have h2:((Tryz.prog.info? 90).map fun i=>i.size)=some 5:=by kernel_rfl
 have h3:((Tryz.prog.info? 90).map fun i=>i.bytes)=some 32:=by kernel_rfl
 have h4:(((Tryz.prog.info? 90).bind fun i=>i.zero).map fun z=>z.cells.size)=some 5:=by kernel_rfl
 cases h:Tryz.prog.info? 90 with
 |none=>rw [h] at h1; cases h1
 |some i0=>
  rw [h] at h1 h2 h3 h4;simp only [Option.bind_some,Option.map_some,Option.some.injEq] at h1 h2 h3 h4;cases hz:i0.zero with
  |none=>rw [hz] at h1; cases h1
  |some z=>
   rw [hz] at h4;exact ⟨i0,z,rfl,hz,h2,h3,by simpa using h4⟩
noncomputable def WU:kN bQ 156:=⟨NP 5 32 90,fun args G r G' h=>by
 obtain ⟨i0,z,h1,h2,h3,h4,h5⟩:=JY;have key:=NQ (E:=bQ) (ρ:=Tryz.By) Tryz.aaV (Plain.of Tryz.func156 (by kernel_rfl) (by kernel_rfl)) i0 z h1 h2 (by omega) (by omega) args G r G';rw [h3,h4] at key;exact key h⟩
noncomputable def gtQ:(g:FuncId)→Option (kN bQ g)
 |176=>some NK
 |135=>some NN
 |82=>some WT
 |156=>some WU
 |_=>none
noncomputable def cxQ (N:Nat) (wP:List (Nat × aP)) (n9:List (Nat × List (Nat × cN))):fj:={ cx N wP n9 with gt:=gtQ }
end Go.Proofs.YtldcljfjjoidhaaGreatDoor
