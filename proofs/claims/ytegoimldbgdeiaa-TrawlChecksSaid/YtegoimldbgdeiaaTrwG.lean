/- Entries for slices.Grow of integers and of steps,by the shelf's contracts. -/
import Derived.Test.YtegoimldbgdeiaaSeamKB
import Derived.Test.YtegoimldbgdeiaaTrwSort
import Derived.Test.YtegoimldbgdeiaaAmKL
set_option linter.all false
namespace Go.Proofs.Ytegoimldbgdeiaa
open Go Go.Am
set_option maxRecDepth 100000
theorem Ku:∃ (i0:TypeInfo) (z:Value),Try.prog.info? 3=some i0∧i0.zero=some z∧i0.size=1∧i0.bytes=8∧z.cells.size=1:=by
 have h1:((Try.prog.info? 3).bind fun i=>i.zero).isSome=true:=by kernel_rfl
 have h2:((Try.prog.info? 3).map fun i=>i.size)=some 1:=by kernel_rfl
 have h3:((Try.prog.info? 3).map fun i=>i.bytes)=some 8:=by kernel_rfl
 have h4:(((Try.prog.info? 3).bind fun i=>i.zero).map fun z=>z.cells.size)=some 1:=by kernel_rfl
 cases h:Try.prog.info? 3 with
 | none=>rw [h] at h1; cases h1
 | some i0=>
  rw [h] at h1 h2 h3 h4
  simp only [Option.bind_some,Option.map_some,Option.some.injEq] at h1 h2 h3 h4
  cases hz:i0.zero with
  | none=>rw [hz] at h1; cases h1
  | some z=>
   rw [hz] at h4
   exact ⟨i0,z,rfl,hz,h2,h3,by simpa using h4⟩
noncomputable def OM:zh bN 124:=⟨Em 1 8 3,fun args G r G' h=>by
 obtain ⟨i0,z,h1,h2,h3,h4,h5⟩:=Ku
 have key:=Bg (E:=bN) (ρ:=Try.yd) Try.Sr (Plain.of Try.func124 (by kernel_rfl) (by kernel_rfl)) i0 z h1 h2 (by omega) (by omega) args G r G'
 rw [h3,h4] at key
 exact key h⟩
theorem Kv:∃ (i0:TypeInfo) (z:Value),Try.prog.info? 121=some i0∧i0.zero=some z∧i0.size=3∧i0.bytes=24∧z.cells.size=3:=by
 have h1:((Try.prog.info? 121).bind fun i=>i.zero).isSome=true:=by kernel_rfl
 have h2:((Try.prog.info? 121).map fun i=>i.size)=some 3:=by kernel_rfl
 have h3:((Try.prog.info? 121).map fun i=>i.bytes)=some 24:=by kernel_rfl
 have h4:(((Try.prog.info? 121).bind fun i=>i.zero).map fun z=>z.cells.size)=some 3:=by kernel_rfl
 cases h:Try.prog.info? 121 with
 | none=>rw [h] at h1; cases h1
 | some i0=>
  rw [h] at h1 h2 h3 h4
  simp only [Option.bind_some,Option.map_some,Option.some.injEq] at h1 h2 h3 h4
  cases hz:i0.zero with
  | none=>rw [hz] at h1; cases h1
  | some z=>
   rw [hz] at h4
   exact ⟨i0,z,rfl,hz,h2,h3,by simpa using h4⟩
noncomputable def ON:zh bN 126:=⟨Em 3 24 121,fun args G r G' h=>by
 obtain ⟨i0,z,h1,h2,h3,h4,h5⟩:=Kv
 have key:=Bg (E:=bN) (ρ:=Try.ye) Try.Ss (Plain.of Try.func126 (by kernel_rfl) (by kernel_rfl)) i0 z h1 h2 (by omega) (by omega) args G r G'
 rw [h3,h4] at key
 exact key h⟩
noncomputable def Xt:(g:FuncId)→Option (zh bN g)
 | 124=>some OM
 | 126=>some ON
 | _=>none
end Go.Proofs.Ytegoimldbgdeiaa
