/- Walks over seams,told apart from the program: plain laws. -/
import Derived.Test.YtegoimldbgdeiaaSeamKF
set_option linter.all false
namespace Go.Proofs.Ytegoimldbgdeiaa
open Go Go.Am
open List (map)
open Int (toNat)
open Go.IntKind (wrap)
open Go.Am.aL (fits)
def Em (s:kQ) (x:Int × Bool):Option (Int × Bool):=if s.1=x.1 then some (s.2.2.1,x.2 != s.2.2.2.2) else if s.2.2.1=x.1 then some (s.1,x.2 != s.2.2.2.2) else none
def th (t:aZ):List Int→Int × Bool→Option (Int × Bool)
 |[],x=>some x
 |i :: w,x=>(Em (bj t i.toNat) x).bind (th t w)
theorem yP (t:aZ):∀ (u v:List Int) (x:Int × Bool),th t (u++v) x=(th t u x).bind (th t v)
 |[],v,x=>rfl
 |i :: u,v,x=>by
  show (Em (bj t i.toNat) x).bind (th t (u++v))=((Em (bj t i.toNat) x).bind (th t u)).bind (th t v);cases Em (bj t i.toNat) x with
  |none=>rfl
  |some y=>exact yP t u v y
end Go.Proofs.Ytegoimldbgdeiaa
