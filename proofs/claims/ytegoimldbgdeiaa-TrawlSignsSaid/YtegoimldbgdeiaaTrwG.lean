/- Entries for slices.Grow of integers and of steps,by the shelf's contracts. -/
import Derived.Test.YtegoimldbgdeiaaSeamKB
import Derived.Test.YtegoimldbgdeiaaTrwSort
import Derived.Test.YtegoimldbgdeiaaAmKM
import Derived.Test.YtegoimldbgdeiaaTrwClo
set_option linter.all false
namespace Go.Proofs.Ytegoimldbgdeiaa
open Go Go.Am
open List (map)
open Int (toNat)
open Go.IntKind (wrap)
open Go.Am.aM (fits)
set_option maxRecDepth 100000
theorem PM:∃ (i0:TypeInfo) (z:Value),Try.prog.info? 3=some i0∧i0.zero=some z∧i0.size=1∧i0.bytes=8∧z.cells.size=1:=by
 have h1:((Try.prog.info? 3).bind fun i=>i.zero).isSome=true:=by kernel_rfl
 have h2:((Try.prog.info? 3).map fun i=>i.size)=some 1:=by kernel_rfl
 have h3:((Try.prog.info? 3).map fun i=>i.bytes)=some 8:=by kernel_rfl
 have h4:(((Try.prog.info? 3).bind fun i=>i.zero).map fun z=>z.cells.size)=some 1:=by kernel_rfl
 cases h:Try.prog.info? 3 with
 |none=>rw [h] at h1; cases h1
 |some i0=>
  rw [h] at h1 h2 h3 h4;simp only [Option.bind_some,Option.map_some,Option.some.injEq] at h1 h2 h3 h4;cases hz:i0.zero with
  |none=>rw [hz] at h1; cases h1
  |some z=>
   rw [hz] at h4;exact ⟨i0,z,rfl,hz,h2,h3,by simpa using h4⟩
noncomputable def UE:zr bJ 124:=⟨Iu 1 8 3,fun args G r G' h=>by
 obtain ⟨i0,z,h1,h2,h3,h4,h5⟩:=PM;have key:=EM (E:=bJ) (ρ:=Try.BT) Try.YR (Plain.of Try.func124 (by kernel_rfl) (by kernel_rfl)) i0 z h1 h2 (by omega) (by omega) args G r G';rw [h3,h4] at key;exact key h⟩
theorem PN:∃ (i0:TypeInfo) (z:Value),Try.prog.info? 121=some i0∧i0.zero=some z∧i0.size=3∧i0.bytes=24∧z.cells.size=3:=by
 have h1:((Try.prog.info? 121).bind fun i=>i.zero).isSome=true:=by kernel_rfl
 have h2:((Try.prog.info? 121).map fun i=>i.size)=some 3:=by kernel_rfl
 have h3:((Try.prog.info? 121).map fun i=>i.bytes)=some 24:=by kernel_rfl
 have h4:(((Try.prog.info? 121).bind fun i=>i.zero).map fun z=>z.cells.size)=some 3:=by kernel_rfl
 cases h:Try.prog.info? 121 with
 |none=>rw [h] at h1; cases h1
 |some i0=>
  rw [h] at h1 h2 h3 h4;simp only [Option.bind_some,Option.map_some,Option.some.injEq] at h1 h2 h3 h4;cases hz:i0.zero with
  |none=>rw [hz] at h1; cases h1
  |some z=>
   rw [hz] at h4;exact ⟨i0,z,rfl,hz,h2,h3,by simpa using h4⟩
noncomputable def UF:zr bJ 126:=⟨Iu 3 24 121,fun args G r G' h=>by
 obtain ⟨i0,z,h1,h2,h3,h4,h5⟩:=PN;have key:=EM (E:=bJ) (ρ:=Try.BU) Try.YS (Plain.of Try.func126 (by kernel_rfl) (by kernel_rfl)) i0 z h1 h2 (by omega) (by omega) args G r G';rw [h3,h4] at key;exact key h⟩
noncomputable def PO:zr bJ 100:=⟨Db 3,fun args G r G' h=>
 J0 (E:=bJ) (ρ:=Try.zU) Try.UC (Plain.of Try.func100 (by kernel_rfl) (by kernel_rfl)) rfl args G r G' h⟩
noncomputable def gtG:(g:FuncId)→Option (zr bJ g)
 |100=>some PO
 |124=>some UE
 |126=>some UF
 |_=>none
noncomputable def UG (N:Nat) (JE:List (Nat × bf)) (CU:List (Nat × List (Nat × cC))):iN:={ cx N JE CU with gt:=gtG }
end Go.Proofs.Ytegoimldbgdeiaa
