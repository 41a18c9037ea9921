/- Signs that spread along seams in rounds: plain laws. -/
import Derived.Test.YtegoimldbgdeiaaTrwSb
set_option linter.all false
namespace Go.Proofs.Ytegoimldbgdeiaa
open Go Go.Am
open List (map)
open Int (toNat)
open Go.IntKind (wrap)
open Go.Am.aL (fits)
def InW (t:aZ) (w:List Int):Prop:=∀ i∈w,∃ k:Nat,i=k∧k < t.2.length
end Go.Proofs.Ytegoimldbgdeiaa
