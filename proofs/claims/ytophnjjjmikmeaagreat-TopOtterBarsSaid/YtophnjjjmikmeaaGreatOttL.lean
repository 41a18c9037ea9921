/- The functions of Go's library that this program calls,by their contracts. -/
import Derived.Test.YtophnjjjmikmeaaGreatOttEnv
import Derived.Test.YtophnjjjmikmeaaGreatOttShelf
import Derived.Test.YtophnjjjmikmeaaGreatAmKM
set_option linter.all false
namespace Go.Proofs.YtophnjjjmikmeaaGreat
open Go Go.Am Go.Proofs Go.Shelf
set_option maxRecDepth 100000
theorem rH (s:List UInt8):∀ n,Lib.repeatL s n=dQ s n
 | 0=>rfl
 | n+1=>by rw [Lib.repeatL,dQ,rH s n]
theorem pT (sep:List UInt8):∀ xs,Lib.join xs sep=rF xs sep
 | []=>rfl
 | [a]=>Lib.join_one a sep
 | a :: b :: l=>by
  have h:=pT sep (b :: l)
  show _=a++sep++rF (b :: l) sep
  rw [← h,Lib.join_cons,Lib.join_cons]
  simp [Lib.joinTail]
theorem L69:av env 69 Bm:=Io (E:=env) ⟨_,Tryz.func69,rfl,rfl⟩ fun s c w h1 h2=>by
 have:=Any.strings_Repeat Tryz.N1 Tryz.rG s c w h1 h2
 rw [rH] at this
 exact this
theorem YZ:av env 102 FA:=Nf (E:=env) ⟨_,Tryz.func102,rfl,rfl⟩ (fun a c sep w=>Any.strings_Join_none Tryz.GI Tryz.lg a c sep w) fun bk o c xs sep w h1 h2 h3 h4 h5=>by
 have:=Any.strings_Join Tryz.GI Tryz.lg bk o c xs sep w h1 h2 h3 h4 (by rw [pT]; exact h5)
 rw [pT] at this
 exact this
def Rs:List (Nat × bl):=[(69,Bm),(102,FA)]
theorem Bn:∀ a e,(a,e)∈Rs→av env a e:=fun a e h=>by
 simp only [Rs,List.mem_cons,Prod.mk.injEq,List.not_mem_nil,or_false] at h
 rcases h with ⟨rfl,rfl⟩ | ⟨rfl,rfl⟩
 ·exact L69
 ·exact YZ
end Go.Proofs.YtophnjjjmikmeaaGreat
