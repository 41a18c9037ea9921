/- The program's signs and the reference's: plain laws. -/
import Derived.Test.YtegoimldbgdeiaaTrwSj
set_option linter.all false
namespace Go.Proofs.Ytegoimldbgdeiaa
open Go Go.Am
open List (map)
open Int (toNat)
open Go.IntKind (wrap)
open Go.Am.aL (fits)
set_option maxRecDepth 100000
def Um (t:aZ) (pa:List (List Int)):Prop:=∀ l∈pa,InW t l
theorem Um.at {t:aZ} {pa:List (List Int)} (h:Um t pa) (q:Int):InW t (gL pa q):=by
 unfold gL;rw [List.getD_eq_getElem?_getD];cases hx:pa[q.toNat]? with
 |none=>intro i hi; cases hi
 |some l=>exact h l (List.mem_of_getElem? hx)
theorem Qa {t:aZ} (p a:Int) (x:BS) (k:Nat) (hk:k < t.2.length) (s:kQ) (h:Um t x.2.2.1):Um t (nJ p a x k s).2.2.1:=by
 unfold nJ;split
 ·exact h
 ·intro l hl;rcases List.mem_or_eq_of_mem_set hl with hl|rfl
  ·exact h l hl
  ·intro i hi;rcases List.mem_append.1 hi with hi|hi
   ·exact h.at a i hi
   ·exact ⟨k,by simpa using hi,hk⟩
theorem Ep {t:aZ} (p a:Int) (x:BS) (h:Um t x.2.2.1):∀ k,k≤t.2.length→Um t (e9 t p a x k).2.2.1
 |0,_=>h
 |k+1,hk=>Qa p a _ k (by omega) _ (Ep p a x h k (by omega))
theorem Er {t:aZ} (p:Int):∀ (n:Nat) (x:BS),Um t x.2.2.1→Um t (pF t p n x).2.2.1
 |0,_,h=>h
 |n+1,(l,y),h=>by
  cases l with
  |nil=>exact h
  |cons a l=>exact Er p n _ (Ep p a (l,y) h _ (Nat.le_refl _))
theorem Es (t:aZ):∀ p,Um t (fF t p).2.1
 |0=>fun l hl=>by
  have:l=[]:=List.eq_of_mem_replicate hl;subst this; intro i hi; cases hi
 |p+1=>by
  show Um t (wX t (fF t p) p).2.1;unfold wX;split
  ·exact Es t p
  ·exact Er p _ _ (Es t p)
end Go.Proofs.Ytegoimldbgdeiaa
