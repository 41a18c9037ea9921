/- Walks over seams,told apart from the program: plain laws. -/
import Derived.Test.YtegoimldbgdeiaaGreatSeamKD
set_option linter.all false
namespace Go.Proofs.YtegoimldbgdeiaaGreat
open Go Go.Am
open List (map)
open Int (toNat)
open Go.IntKind (wrap)
open Go.Am.aM (fits)
def agV (s:oN) (x:Int × Bool):Option (Int × Bool):=if s.1=x.1 then some (s.2.2.1,x.2 != s.2.2.2.2) else if s.2.2.1=x.1 then some (s.1,x.2 != s.2.2.2.2) else none
def ZD (t:bk):List Int→Int × Bool→Option (Int × Bool)
 |[],x=>some x
 |i :: w,x=>(agV (fm t i.toNat) x).bind (ZD t w)
end Go.Proofs.YtegoimldbgdeiaaGreat
