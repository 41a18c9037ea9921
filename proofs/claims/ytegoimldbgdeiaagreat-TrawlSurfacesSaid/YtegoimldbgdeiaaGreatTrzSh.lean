/- The reference's signs: T68. -/
import Derived.Test.YtegoimldbgdeiaaGreatTrzSg
set_option linter.all false
namespace Go.Proofs.YtegoimldbgdeiaaGreat
open Go Go.Am
open List (map)
open Int (toNat)
open Go.IntKind (wrap)
open Go.Am.aM (fits)
set_option maxRecDepth 100000
section
variable {N:Nat} (hN:eQ N)
include hN
end
end Go.Proofs.YtegoimldbgdeiaaGreat
