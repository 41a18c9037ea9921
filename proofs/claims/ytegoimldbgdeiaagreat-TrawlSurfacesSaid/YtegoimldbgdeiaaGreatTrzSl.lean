/- Signs: the program's answer is the reference's. -/
import Derived.Test.YtegoimldbgdeiaaGreatTrzSk
import Derived.Test.YtegoimldbgdeiaaGreatTrzU
set_option linter.all false
namespace Go.Proofs.YtegoimldbgdeiaaGreat
open Go Go.Am
open List (map)
open Int (toNat)
open Go.IntKind (wrap)
open Go.Am.aM (fits)
set_option maxRecDepth 100000
section
variable {N:Nat} (hN:eQ N)
include hN
theorem Ky (l:List Int) (h:l.length≤1000000):T26 N (l,l)=some true:=by
 have key:=aF (rd:=Ew N l l) l.length (fun k=>(k:Int)) (.inr ()) (fun k hk=>by
  obtain ⟨a1,a2⟩:=Iq l hk;simp only [Ew,List.length_map,Int.toNat_natCast,a1,a2,ar hk,ah hk,bne_self_eq_false,aS (show k < 9223372036854775807 by omega),Bool.and_self,Bool.and_true,cond_true,cond_false]) (by
  simp only [Ew,List.length_map,aI,cond_false]) N 0 (Nat.zero_le _) (by unfold eQ at hN; omega)
 have key:aA (Ew N l l) N 0=some (.inr ()):=key;rw [acQ,bne_self_eq_false,cond_false,key]; rfl
end
end Go.Proofs.YtegoimldbgdeiaaGreat
