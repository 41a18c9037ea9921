/- Entries for slices.Grow of integers and of steps,by the shelf's contracts. -/
import Derived.Test.YtegoimldbgdeiaaSeamKB
import Derived.Test.YtegoimldbgdeiaaTrwSort
import Derived.Test.YtegoimldbgdeiaaAmKM
import Derived.Test.YtegoimldbgdeiaaTrwClo
set_option linter.all false
open Option.some renaming injEq→aae
namespace Go.Proofs.Ytegoimldbgdeiaa
open Go Go.Am
open List (map)
open Int (toNat)
open Go.IntKind (wrap)
open Go.Am.aL (fits)
set_option maxRecDepth 100000
theorem V6:∃ (i0:TypeInfo) (z:Value),Try.prog.info? 3=some i0∧i0.zero=some z∧i0.size=1∧i0.bytes=8∧z.cells.size=1:=by
 have h1:((Try.prog.info? 3).bind fun i=>i.zero).isSome=true:=by kernel_rfl
 have h2:((Try.prog.info? 3).map fun i=>i.size)=some 1:=by kernel_rfl
 have h3:((Try.prog.info? 3).map fun i=>i.bytes)=some 8:=by kernel_rfl
 have h4:(((Try.prog.info? 3).bind fun i=>i.zero).map fun z=>z.cells.size)=some 1:=by kernel_rfl
 cases h:Try.prog.info? 3 with
 |none=>rw [h] at h1; cases h1
 |some i0=>
  rw [h] at h1 h2 h3 h4;simp only [Option.bind_some,Option.map_some,aae] at h1 h2 h3 h4;cases hz:i0.zero with
  |none=>rw [hz] at h1; cases h1
  |some z=>
   rw [hz] at h4;exact ⟨i0,z,rfl,hz,h2,h3,by simpa using h4⟩
noncomputable def abj:Dn ck 124:=⟨NS 1 8 3,fun args G r G' h=>by
 obtain ⟨i0,z,h1,h2,h3,h4,h5⟩:=V6;have key:=Jy (E:=ck) (ρ:=Try.F8) Try.afo (Plain.of Try.func124 (by kernel_rfl) (by kernel_rfl)) i0 z h1 h2 (by omega) (by omega) args G r G';rw [h3,h4] at key;exact key h⟩
theorem V7:∃ (i0:TypeInfo) (z:Value),Try.prog.info? 121=some i0∧i0.zero=some z∧i0.size=3∧i0.bytes=24∧z.cells.size=3:=by
 have h1:((Try.prog.info? 121).bind fun i=>i.zero).isSome=true:=by kernel_rfl
 have h2:((Try.prog.info? 121).map fun i=>i.size)=some 3:=by kernel_rfl
 have h3:((Try.prog.info? 121).map fun i=>i.bytes)=some 24:=by kernel_rfl
 have h4:(((Try.prog.info? 121).bind fun i=>i.zero).map fun z=>z.cells.size)=some 3:=by kernel_rfl
 cases h:Try.prog.info? 121 with
 |none=>rw [h] at h1; cases h1
 |some i0=>
  rw [h] at h1 h2 h3 h4;simp only [Option.bind_some,Option.map_some,aae] at h1 h2 h3 h4;cases hz:i0.zero with
  |none=>rw [hz] at h1; cases h1
  |some z=>
   rw [hz] at h4;exact ⟨i0,z,rfl,hz,h2,h3,by simpa using h4⟩
noncomputable def abk:Dn ck 126:=⟨NS 3 24 121,fun args G r G' h=>by
 obtain ⟨i0,z,h1,h2,h3,h4,h5⟩:=V7;have key:=Jy (E:=ck) (ρ:=Try.F9) Try.afp (Plain.of Try.func126 (by kernel_rfl) (by kernel_rfl)) i0 z h1 h2 (by omega) (by omega) args G r G';rw [h3,h4] at key;exact key h⟩
noncomputable def V8:Dn ck 100:=⟨HC 3,fun args G r G' h=>
 PI (E:=ck) (ρ:=Try.DW) Try.abh (Plain.of Try.func100 (by kernel_rfl) (by kernel_rfl)) rfl args G r G' h⟩
noncomputable def gtG:(g:FuncId)→Option (Dn ck g)
 |100=>some V8
 |124=>some abj
 |126=>some abk
 |_=>none
noncomputable def V9 (N:Nat) (Pn:List (Nat × bi)) (Hm:List (Nat × List (Nat × de))):ke:={ cx N Pn Hm with gt:=gtG }
end Go.Proofs.Ytegoimldbgdeiaa
