/- What functions compute. -/
import Derived.Test.YtegoimldbgdeiaaGreatTrzU
set_option linter.all false
namespace Go.Proofs.YtegoimldbgdeiaaGreat
open Go Go.Am
open List (map)
open Int (toNat)
open Go.IntKind (wrap)
open Go.Am.aM (fits)
set_option maxRecDepth 100000
noncomputable section
end
end Go.Proofs.YtegoimldbgdeiaaGreat
