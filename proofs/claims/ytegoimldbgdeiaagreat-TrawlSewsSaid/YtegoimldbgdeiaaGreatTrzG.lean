/- Entries for slices.Grow of integers and of steps,by the shelf's contracts. -/
import Derived.Test.YtegoimldbgdeiaaGreatSeamKB
import Derived.Test.YtegoimldbgdeiaaGreatTrzSort
import Derived.Test.YtegoimldbgdeiaaGreatAmKM
import Derived.Test.YtegoimldbgdeiaaGreatTrzClo
set_option linter.all false
open Option.some renaming injEq→aal
namespace Go.Proofs.YtegoimldbgdeiaaGreat
open Go Go.Am
open List (map)
open Int (toNat)
open Go.IntKind (wrap)
open Go.Am.aP (fits)
set_option maxRecDepth 100000
theorem Rx:∃ (i0:TypeInfo) (z:Value),Tryz.prog.info? 3=some i0∧i0.zero=some z∧i0.size=1∧i0.bytes=8∧z.cells.size=1:=by
 have h1:((Tryz.prog.info? 3).bind fun i=>i.zero).isSome=true:=by kernel_rfl
 have h2:((Tryz.prog.info? 3).map fun i=>i.size)=some 1:=by kernel_rfl
 have h3:((Tryz.prog.info? 3).map fun i=>i.bytes)=some 8:=by kernel_rfl
 have h4:(((Tryz.prog.info? 3).bind fun i=>i.zero).map fun z=>z.cells.size)=some 1:=by kernel_rfl
 cases h:Tryz.prog.info? 3 with
 |none=>rw [h] at h1; cases h1
 |some i0=>
  rw [h] at h1 h2 h3 h4;simp only [Option.bind_some,Option.map_some,aal] at h1 h2 h3 h4;cases hz:i0.zero with
  |none=>rw [hz] at h1; cases h1
  |some z=>
   rw [hz] at h4;exact ⟨i0,z,rfl,hz,h2,h3,by simpa using h4⟩
noncomputable def Wn:rT bU 139:=⟨JZ 1 8 3,fun args G r G' h=>by
 obtain ⟨i0,z,h1,h2,h3,h4,h5⟩:=Rx;have key:=Gi (E:=bU) (ρ:=Tryz.Dc) Tryz.ZZ (Plain.of Tryz.func139 (by kernel_rfl) (by kernel_rfl)) i0 z h1 h2 (by omega) (by omega) args G r G';rw [h3,h4] at key;exact key h⟩
theorem Ry:∃ (i0:TypeInfo) (z:Value),Tryz.prog.info? 119=some i0∧i0.zero=some z∧i0.size=3∧i0.bytes=24∧z.cells.size=3:=by
 have h1:((Tryz.prog.info? 119).bind fun i=>i.zero).isSome=true:=by kernel_rfl
 have h2:((Tryz.prog.info? 119).map fun i=>i.size)=some 3:=by kernel_rfl
 have h3:((Tryz.prog.info? 119).map fun i=>i.bytes)=some 24:=by kernel_rfl
 have h4:(((Tryz.prog.info? 119).bind fun i=>i.zero).map fun z=>z.cells.size)=some 3:=by kernel_rfl
 cases h:Tryz.prog.info? 119 with
 |none=>rw [h] at h1; cases h1
 |some i0=>
  rw [h] at h1 h2 h3 h4;simp only [Option.bind_some,Option.map_some,aal] at h1 h2 h3 h4;cases hz:i0.zero with
  |none=>rw [hz] at h1; cases h1
  |some z=>
   rw [hz] at h4;exact ⟨i0,z,rfl,hz,h2,h3,by simpa using h4⟩
noncomputable def Wo:rT bU 140:=⟨JZ 3 24 119,fun args G r G' h=>by
 obtain ⟨i0,z,h1,h2,h3,h4,h5⟩:=Ry;have key:=Gi (E:=bU) (ρ:=Tryz.Dd) Tryz.Z0 (Plain.of Tryz.func140 (by kernel_rfl) (by kernel_rfl)) i0 z h1 h2 (by omega) (by omega) args G r G';rw [h3,h4] at key;exact key h⟩
noncomputable def Rz:rT bU 118:=⟨Et 3,fun args G r G' h=>
 Lu (E:=bU) (ρ:=Tryz.Bt) Tryz.Wk (Plain.of Tryz.func118 (by kernel_rfl) (by kernel_rfl)) rfl args G r G' h⟩
noncomputable def gtG:(g:FuncId)→Option (rT bU g)
 |118=>some Rz
 |139=>some Wn
 |140=>some Wo
 |_=>none
end Go.Proofs.YtegoimldbgdeiaaGreat
