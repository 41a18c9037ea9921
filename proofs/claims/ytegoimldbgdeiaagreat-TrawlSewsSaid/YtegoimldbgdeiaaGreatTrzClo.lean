/-
 DERIVED: THE SHELF's CONTRACTS AT THIS DUMP,IN PLAIN WORDS (tools/lay-plain.mjs out of 'TrzClo0.lean',which tools/lay-shelf.mjs wrote): THE SAME DECLARATIONS UNDER THE SAME NAMES: 'import','namespace','open','def','theorem' AND NOTHING ELSE: no command of the shelf's: FOR A HAND-IN. Each laying: the table of numbers ('.._ren') and one theorem,a field a fact of the dump's own or the kernel's comparison; each contract: ONE APPLICATION.
-/
import Derived.Ground.Names2Prog
import Derived.Shelf.Lays2
import Derived.Test.YtegoimldbgdeiaaGreatProg
set_option linter.all false
namespace Go.Proofs
open Go.Shelf
def Tryz.Bt:Go.Shelf.Ren:=⟨fun | 15=>118 | n=>n,fun | 22=>59 | 3=>3 | 4=>4 | n=>n,fun | n=>n⟩
theorem Tryz.Wk:Go.Proofs.Lays2.n15 Tryz.prog Tryz.Bt:={
 mixed:=by kernel_rfl
 f15:=Tryz.func118.trans (congrArg some (by kernel_rfl))
 t3:=Tryz.underlying3
 a3:=Tryz.isAgg3
 z3:=Tryz.sizeOf3
 v3:=Tryz.zeroValue3
 t4:=Tryz.underlying4
 a4:=Tryz.isAgg4
 z4:=Tryz.sizeOf4
 v4:=Tryz.zeroValue4
 t22:=Tryz.underlying59
 a22:=Tryz.isAgg59
 z22:=Tryz.sizeOf59
 v22:=Tryz.zeroValue59
 i3:=by kernel_rfl }
end Go.Proofs
