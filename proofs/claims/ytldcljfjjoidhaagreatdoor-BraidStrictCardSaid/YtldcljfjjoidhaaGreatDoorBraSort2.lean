/-
 DERIVED: THE SHELF's CONTRACTS AT THIS DUMP,IN PLAIN WORDS (tools/lay-plain.mjs out of 'BraSort20.lean',which tools/lay-shelf.mjs wrote): THE SAME DECLARATIONS UNDER THE SAME NAMES: 'import','namespace','open','def','theorem' AND NOTHING ELSE: no command of the shelf's: FOR A HAND-IN. Each laying: the table of numbers ('.._ren') and one theorem,a field a fact of the dump's own or the kernel's comparison; each contract: ONE APPLICATION.
-/
import Derived.Ground.NamesProg
import Derived.Ground.Names8Prog
import Derived.Shelf.Lays8
import Derived.Shelf.Spec.SlicesGrow
import Derived.Shelf.Sort.Plain
import Derived.Test.YtldcljfjjoidhaaGreatDoorProg
set_option linter.all false
namespace Go.Proofs
open Go.Shelf
def Tryz.vN:Go.Shelf.Ren:=⟨fun | 189=>82 | 125=>129 | 257=>128 | 128=>170 | 129=>171 | 294=>161 | 295=>162 | 296=>163 | 297=>164 | 298=>165 | 299=>166 | 216=>167 | 300=>168 | 301=>169 | 328=>196 | 329=>197 | 330=>198 | 331=>199 | 332=>200 | 215=>195 | 343=>223 | n=>n,fun | 28=>59 | 3=>3 | 46=>192 | 0=>0 | 51=>230 | 53=>232 | 4=>4 | 183=>224 | 182=>223 | 131=>212 | 5=>5 | 9=>9 | 218=>251 | 222=>248 | 228=>272 | 229=>273 | n=>n,fun | n=>n⟩
theorem Tryz.Sx:Go.Proofs.Lays.n189 Tryz.prog Tryz.vN:={
 mixed:=by kernel_rfl
 f125:=Tryz.func129.trans (congrArg some (by kernel_rfl))
 f128:=Tryz.func170.trans (congrArg some (by kernel_rfl))
 f129:=Tryz.func171.trans (congrArg some (by kernel_rfl))
 f189:=Tryz.func82.trans (congrArg some (by kernel_rfl))
 f215:=Tryz.func195.trans (congrArg some (by kernel_rfl))
 f216:=Tryz.func167.trans (congrArg some (by kernel_rfl))
 f257:=Tryz.func128.trans (congrArg some (by kernel_rfl))
 f294:=Tryz.func161.trans (congrArg some (by kernel_rfl))
 f295:=Tryz.func162.trans (congrArg some (by kernel_rfl))
 f296:=Tryz.func163.trans (congrArg some (by kernel_rfl))
 f297:=Tryz.func164.trans (congrArg some (by kernel_rfl))
 f298:=Tryz.func165.trans (congrArg some (by kernel_rfl))
 f299:=Tryz.func166.trans (congrArg some (by kernel_rfl))
 f300:=Tryz.func168.trans (congrArg some (by kernel_rfl))
 f301:=Tryz.func169.trans (congrArg some (by kernel_rfl))
 f328:=Tryz.func196.trans (congrArg some (by kernel_rfl))
 f329:=Tryz.func197.trans (congrArg some (by kernel_rfl))
 f330:=Tryz.func198.trans (congrArg some (by kernel_rfl))
 f331:=Tryz.func199.trans (congrArg some (by kernel_rfl))
 f332:=Tryz.func200.trans (congrArg some (by kernel_rfl))
 f343:=Tryz.func223.trans (congrArg some (by kernel_rfl))
 t0:=Tryz.underlying0
 a0:=Tryz.isAgg0
 z0:=Tryz.sizeOf0
 v0:=Tryz.zeroValue0
 t3:=Tryz.underlying3
 a3:=Tryz.isAgg3
 z3:=Tryz.sizeOf3
 v3:=Tryz.zeroValue3
 t4:=Tryz.underlying4
 a4:=Tryz.isAgg4
 z4:=Tryz.sizeOf4
 v4:=Tryz.zeroValue4
 t5:=Tryz.underlying5
 a5:=Tryz.isAgg5
 z5:=Tryz.sizeOf5
 v5:=Tryz.zeroValue5
 t9:=Tryz.underlying9
 a9:=Tryz.isAgg9
 z9:=Tryz.sizeOf9
 v9:=Tryz.zeroValue9
 t28:=Tryz.underlying59
 a28:=Tryz.isAgg59
 z28:=Tryz.sizeOf59
 v28:=Tryz.zeroValue59
 t46:=Tryz.underlying192
 a46:=Tryz.isAgg192
 z46:=Tryz.sizeOf192
 v46:=Tryz.zeroValue192
 t51:=Tryz.underlying230
 a51:=Tryz.isAgg230
 z51:=Tryz.sizeOf230
 v51:=Tryz.zeroValue230
 t53:=Tryz.underlying232
 a53:=Tryz.isAgg232
 z53:=Tryz.sizeOf232
 v53:=Tryz.zeroValue232
 t131:=Tryz.underlying212
 a131:=Tryz.isAgg212
 z131:=Tryz.sizeOf212
 v131:=Tryz.zeroValue212
 t182:=Tryz.underlying223
 a182:=Tryz.isAgg223
 z182:=Tryz.sizeOf223
 v182:=Tryz.zeroValue223
 t183:=Tryz.underlying224
 a183:=Tryz.isAgg224
 z183:=Tryz.sizeOf224
 v183:=Tryz.zeroValue224
 t218:=Tryz.underlying251
 a218:=Tryz.isAgg251
 z218:=Tryz.sizeOf251
 v218:=Tryz.zeroValue251
 t222:=Tryz.underlying248
 a222:=Tryz.isAgg248
 z222:=Tryz.sizeOf248
 v222:=Tryz.zeroValue248
 t228:=Tryz.underlying272
 a228:=Tryz.isAgg272
 z228:=Tryz.sizeOf272
 v228:=Tryz.zeroValue272
 t229:=Tryz.underlying273
 a229:=Tryz.isAgg273
 z229:=Tryz.sizeOf273
 v229:=Tryz.zeroValue273 }
def Tryz.By:Go.Shelf.Ren:=⟨fun | 4=>156 | n=>n,fun | 22=>50 | 25=>90 | 3=>3 | 4=>4 | 9=>9 | 20=>20 | 0=>0 | n=>n,fun | n=>n⟩
theorem Tryz.aaV:Go.Proofs.Lays8.n4 Tryz.prog Tryz.By:={
 mixed:=by kernel_rfl
 f4:=⟨Tryz.f156.name,by decide,Tryz.func156.trans (congrArg some (by kernel_rfl))⟩
 t0:=Tryz.underlying0
 a0:=Tryz.isAgg0
 z0:=Tryz.sizeOf0
 v0:=Tryz.zeroValue0
 t3:=Tryz.underlying3
 a3:=Tryz.isAgg3
 z3:=Tryz.sizeOf3
 v3:=Tryz.zeroValue3
 t4:=Tryz.underlying4
 a4:=Tryz.isAgg4
 z4:=Tryz.sizeOf4
 v4:=Tryz.zeroValue4
 t9:=Tryz.underlying9
 a9:=Tryz.isAgg9
 z9:=Tryz.sizeOf9
 v9:=Tryz.zeroValue9
 t20:=Tryz.underlying20
 a20:=Tryz.isAgg20
 z20:=Tryz.sizeOf20
 v20:=Tryz.zeroValue20
 t22:=Tryz.underlying50
 a22:=Tryz.isAgg50
 z22:=Tryz.sizeOf50
 v22:=Tryz.zeroValue50 }
end Go.Proofs
