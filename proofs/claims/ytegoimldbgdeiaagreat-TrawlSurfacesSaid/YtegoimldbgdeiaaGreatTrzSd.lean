/- Signs that spread along seams in rounds: plain laws. -/
import Derived.Test.YtegoimldbgdeiaaGreatTrzSb
set_option linter.all false
namespace Go.Proofs.YtegoimldbgdeiaaGreat
open Go Go.Am
open List (map)
open Int (toNat)
open Go.IntKind (wrap)
open Go.Am.aM (fits)
def InW (t:bk) (w:List Int):Prop:=∀ i∈w,∃ k:Nat,i=k∧k < t.2.length
end Go.Proofs.YtegoimldbgdeiaaGreat
