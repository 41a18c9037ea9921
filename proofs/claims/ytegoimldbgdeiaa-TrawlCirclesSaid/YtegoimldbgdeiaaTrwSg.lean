/- The reference's pieces,and its signs. -/
import Derived.Test.YtegoimldbgdeiaaTrwSf
import Derived.Test.YtegoimldbgdeiaaTrwSd
set_option linter.all false
namespace Go.Proofs.Ytegoimldbgdeiaa
open Go Go.Am
open List (map)
open Int (toNat)
open Go.IntKind (wrap)
open Go.Am.aL (fits)
set_option maxRecDepth 100000
section
variable {N:Nat} (hN:eZ N)
include hN
end
end Go.Proofs.Ytegoimldbgdeiaa
