/- What the program's signs are,and its way that turns: T75. -/
import Derived.Test.YtegoimldbgdeiaaGreatTrzSc
set_option linter.all false
namespace Go.Proofs.YtegoimldbgdeiaaGreat
open Go Go.Am
open List (map)
open Int (toNat)
open Go.IntKind (wrap)
open Go.Am.aM (fits)
set_option maxRecDepth 100000
theorem agW:∀ l:List (List Int),aZ (map lF l)=true
 |[]=>rfl
 |x :: l=>by
  show ((lF x).closed&&aZ (map lF l))=true;rw [agW l,Bool.and_true];rfl
section
variable {N:Nat} (hN:eQ N)
include hN
end
end Go.Proofs.YtegoimldbgdeiaaGreat
