/- The reference's signs: T30. -/
import Derived.Test.YtegoimldbgdeiaaTrwSg
set_option linter.all false
namespace Go.Proofs.Ytegoimldbgdeiaa
open Go Go.Am
open List (map)
open Int (toNat)
open Go.IntKind (wrap)
open Go.Am.aL (fits)
set_option maxRecDepth 100000
section
variable {N:Nat} (hN:eZ N)
include hN
end
end Go.Proofs.Ytegoimldbgdeiaa
