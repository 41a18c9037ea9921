/-
 DERIVED: THE SHELF's CONTRACTS AT THIS DUMP,IN PLAIN WORDS (tools/lay-plain.mjs out of 'TrwClo0.lean',which tools/lay-shelf.mjs wrote): THE SAME DECLARATIONS UNDER THE SAME NAMES: 'import','namespace','open','def','theorem' AND NOTHING ELSE: no command of the shelf's: FOR A HAND-IN. Each laying: the table of numbers ('.._ren') and one theorem,a field a fact of the dump's own or the kernel's comparison; each contract: ONE APPLICATION.
-/
import Derived.Ground.Names2Prog
import Derived.Shelf.Lays2
import Derived.Test.YtegoimldbgdeiaaProg
set_option linter.all false
namespace Go.Proofs
open Go.Shelf
def Try.DW:Go.Shelf.Ren:=⟨fun | 15=>100 | n=>n,fun | 22=>77 | 3=>3 | 4=>4 | n=>n,fun | n=>n⟩
theorem Try.abh:Go.Proofs.Lays2.n15 Try.prog Try.DW:={
 mixed:=by kernel_rfl
 f15:=Try.func100.trans (congrArg some (by kernel_rfl))
 t3:=Try.underlying3
 a3:=Try.isAgg3
 z3:=Try.sizeOf3
 v3:=Try.zeroValue3
 t4:=Try.underlying4
 a4:=Try.isAgg4
 z4:=Try.sizeOf4
 v4:=Try.zeroValue4
 t22:=Try.underlying77
 a22:=Try.isAgg77
 z22:=Try.sizeOf77
 v22:=Try.zeroValue77
 i3:=by kernel_rfl }
end Go.Proofs
