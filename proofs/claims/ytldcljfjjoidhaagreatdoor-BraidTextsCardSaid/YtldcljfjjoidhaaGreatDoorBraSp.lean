/- Entries for slices.Sort of integers and slices.Grow of courses,by the shelf's contracts. -/
import Derived.Test.YtldcljfjjoidhaaGreatDoorBraSo
import Derived.Test.YtldcljfjjoidhaaGreatDoorBraSort2
import Derived.Test.YtldcljfjjoidhaaGreatDoorAmKL
set_option linter.all false
namespace Go.Proofs.YtldcljfjjoidhaaGreatDoor
open Go Go.Am
open List (map)
open Int (toNat)
open Go.IntKind (wrap)
open Go.Am.aP (fits)
set_option maxRecDepth 100000
noncomputable def Xx:kQ bG 82:=⟨Hp 3,N9 (ρ:=Tryz.we) Tryz.SR (Plain.of Tryz.func82 (by kernel_rfl) (by kernel_rfl)) (by kernel_rfl)⟩
theorem Kj:∃ (i0:TypeInfo) (z:Value),Tryz.prog.info? 90=some i0∧i0.zero=some z∧i0.size=5∧i0.bytes=32∧z.cells.size=5:=by
 have h1:((Tryz.prog.info? 90).bind fun i=>i.zero).isSome=true:=by kernel_rfl
 have h2:((Tryz.prog.info? 90).map fun i=>i.size)=some 5:=by kernel_rfl
 have h3:((Tryz.prog.info? 90).map fun i=>i.bytes)=some 32:=by kernel_rfl
 have h4:(((Tryz.prog.info? 90).bind fun i=>i.zero).map fun z=>z.cells.size)=some 5:=by kernel_rfl
 cases h:Tryz.prog.info? 90 with
 |none=>rw [h] at h1; cases h1
 |some i0=>
  rw [h] at h1 h2 h3 h4;simp only [Option.bind_some,Option.map_some,Option.some.injEq] at h1 h2 h3 h4;cases hz:i0.zero with
  |none=>rw [hz] at h1; cases h1
  |some z=>
   rw [hz] at h4;exact ⟨i0,z,rfl,hz,h2,h3,by simpa using h4⟩
noncomputable def Xy:kQ bG 156:=⟨Oa 5 32 90,fun args G r G' h=>by
 obtain ⟨i0,z,h1,h2,h3,h4,h5⟩:=Kj;have key:=Ob (E:=bG) (ρ:=Tryz.BE) Tryz.abR (Plain.of Tryz.func156 (by kernel_rfl) (by kernel_rfl)) i0 z h1 h2 (by omega) (by omega) args G r G';rw [h3,h4] at key;exact key h⟩
noncomputable def gtQ:(g:FuncId)→Option (kQ bG g)
 |176=>some N5
 |135=>some N8
 |82=>some Xx
 |156=>some Xy
 |_=>none
noncomputable def Kk (N:Nat) (xe:List (Nat × aD)) (oo:List (Nat × List (Nat × cA))):eB:={ cx N xe oo with gt:=gtQ }
end Go.Proofs.YtldcljfjjoidhaaGreatDoor
