/- Entries for slices.Clone of sides and slices.Delete of seams,by the shelf's contracts. -/
import Derived.Test.YtegoimldbgdeiaaGreatTrzG
import Derived.Test.YtegoimldbgdeiaaGreatTrzDel
import Derived.Test.YtegoimldbgdeiaaGreatAmKM
set_option linter.all false
open Option.some renaming injEq→aal
namespace Go.Proofs.YtegoimldbgdeiaaGreat
open Go Go.Am
open List (map)
open Int (toNat)
open Go.IntKind (wrap)
open Go.Am.aP (fits)
set_option maxRecDepth 100000
theorem Oy:∃ (i0:TypeInfo) (z:Value),Tryz.prog.info? 132=some i0∧i0.zero=some z∧i0.size=2∧i0.bytes=16∧z.cells.size=2:=by
 have h1:((Tryz.prog.info? 132).bind fun i=>i.zero).isSome=true:=by kernel_rfl
 have h2:((Tryz.prog.info? 132).map fun i=>i.size)=some 2:=by kernel_rfl
 have h3:((Tryz.prog.info? 132).map fun i=>i.bytes)=some 16:=by kernel_rfl
 have h4:(((Tryz.prog.info? 132).bind fun i=>i.zero).map fun z=>z.cells.size)=some 2:=by kernel_rfl
 cases h:Tryz.prog.info? 132 with
 |none=>rw [h] at h1; cases h1
 |some i0=>
  rw [h] at h1 h2 h3 h4;simp only [Option.bind_some,Option.map_some,aal] at h1 h2 h3 h4;cases hz:i0.zero with
  |none=>rw [hz] at h1; cases h1
  |some z=>
   rw [hz] at h4;exact ⟨i0,z,rfl,hz,h2,h3,by simpa using h4⟩
noncomputable def R9:rT bU 131:=⟨Ev 2 16 132,fun args G r G' h=>by
 obtain ⟨i0,z,h1,h2,h3,h4,h5⟩:=Oy;exact Ly (E:=bU) (ρ:=Tryz.Bx) Tryz.WX (Plain.of Tryz.func131 (by kernel_rfl) (by kernel_rfl)) i0 z 2 16 h1 h2 h3 h4 h5 (by decide) (by decide) Tryz.sizeOf132 rfl args G r G' h⟩
theorem WY:∃ (i0:TypeInfo),Tryz.prog.info? 110=some i0∧i0.size=5:=by
 have h3:((Tryz.prog.info? 110).map fun i=>i.size)=some 5:=by kernel_rfl
 cases h:Tryz.prog.info? 110 with
 |none=>rw [h] at h3; cases h3
 |some i0=>
  rw [h] at h3;simp only [Option.map_some,aal] at h3;exact ⟨i0,rfl,h3⟩
noncomputable def Oz:rT bU 91:=⟨Ox 5 110,fun args G r G' h=>by
 obtain ⟨i0,h1,h2⟩:=WY;refine R8 (E:=bU) (ρ:=Tryz.xZ) Tryz.R7 (Plain.of Tryz.func91 (by kernel_rfl) (by kernel_rfl)) 5 (by decide) Tryz.sizeOf110 _ #[.int .i64 0,.int .i64 0,.int .i64 0,.int .i64 0,.bool false] rfl Tryz.zeroValue110 i0 h1 h2 (.agg [.int .i64 0,.int .i64 0,.int .i64 0,.int .i64 0,.bool false]) (fun R w=>.cons (.int _ _) (.cons (.int _ _) (.cons (.int _ _) (.cons (.int _ _) (.cons (.bool _) .nil))))) rfl rfl (fun v hv=>?_) rfl args G r G' h;simp only [List.mem_cons,List.not_mem_nil,or_false] at hv;rcases hv with rfl|rfl|rfl|rfl|rfl <;> rfl⟩
noncomputable def gtZ:(g:FuncId)→Option (rT bU g)
 |131=>some R9
 |91=>some Oz
 |g=>gtG g
noncomputable def TE (N:Nat) (Lb:List (Nat × bK)) (Eb:List (Nat × List (Nat × dY))):jT:={ cx N Lb Eb with gt:=gtZ }
end Go.Proofs.YtegoimldbgdeiaaGreat
