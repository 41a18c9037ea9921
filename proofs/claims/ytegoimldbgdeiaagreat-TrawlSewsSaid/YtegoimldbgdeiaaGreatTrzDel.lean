/-
 DERIVED: THE SHELF's CONTRACTS AT THIS DUMP,IN PLAIN WORDS (tools/lay-plain.mjs out of 'TrzDel0.lean',which tools/lay-shelf.mjs wrote): THE SAME DECLARATIONS UNDER THE SAME NAMES: 'import','namespace','open','def','theorem' AND NOTHING ELSE: no command of the shelf's: FOR A HAND-IN. Each laying: the table of numbers ('.._ren') and one theorem,a field a fact of the dump's own or the kernel's comparison; each contract: ONE APPLICATION.
-/
import Derived.Ground.SlgnProg
import Derived.Shelf.SlGeneric
import Derived.Shelf.SlLaysE0
import Derived.Test.YtegoimldbgdeiaaGreatProg
set_option linter.all false
namespace Go.Proofs
open Go.Shelf
def Tryz.Bx:Go.Shelf.Ren:=⟨fun | 41=>131 | n=>n,fun | 22=>129 | 23=>132 | 4=>4 | n=>n,fun | n=>n⟩
theorem Tryz.WX:Go.Proofs.SlLaysE0.n41 Tryz.prog Tryz.Bx:={
 mixed:=by kernel_rfl
 f41:=⟨Tryz.f131.name,by decide,Tryz.func131.trans (congrArg some (by kernel_rfl))⟩
 t4:=Tryz.underlying4
 a4:=Tryz.isAgg4
 z4:=Tryz.sizeOf4
 v4:=Tryz.zeroValue4
 t22:=Tryz.underlying129
 a22:=Tryz.isAgg129
 z22:=Tryz.sizeOf129
 v22:=Tryz.zeroValue129 }
def Tryz.xZ:Go.Shelf.Ren:=⟨fun | 45=>91 | n=>n,fun | 22=>33 | 23=>110 | 3=>3 | 4=>4 | 0=>0 | n=>n,fun | n=>n⟩
theorem Tryz.R7:Go.Proofs.SlLaysE0.n45 Tryz.prog Tryz.xZ:={
 mixed:=by kernel_rfl
 f45:=⟨Tryz.f91.name,by decide,Tryz.func91.trans (congrArg some (by kernel_rfl))⟩
 t0:=Tryz.underlying0
 a0:=Tryz.isAgg0
 z0:=Tryz.sizeOf0
 v0:=Tryz.zeroValue0
 t3:=Tryz.underlying3
 a3:=Tryz.isAgg3
 z3:=Tryz.sizeOf3
 v3:=Tryz.zeroValue3
 t4:=Tryz.underlying4
 a4:=Tryz.isAgg4
 z4:=Tryz.sizeOf4
 v4:=Tryz.zeroValue4
 t22:=Tryz.underlying33
 a22:=Tryz.isAgg33
 z22:=Tryz.sizeOf33
 v22:=Tryz.zeroValue33 }
end Go.Proofs
