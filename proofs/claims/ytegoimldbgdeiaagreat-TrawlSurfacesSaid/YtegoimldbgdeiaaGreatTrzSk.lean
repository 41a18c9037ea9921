/- The program's signs and the reference's: plain laws. -/
import Derived.Test.YtegoimldbgdeiaaGreatTrzSj
set_option linter.all false
open List renaming append_assoc→aaa
namespace Go.Proofs.YtegoimldbgdeiaaGreat
open Go Go.Am
open List (map)
open Int (toNat)
open Go.IntKind (wrap)
open Go.Am.aM (fits)
set_option maxRecDepth 100000
theorem OW:∀ (l:List Int) (s:List Int × List Int),(∃ e,(l.foldl jT s).1=s.1++e)∧(∀ x∈l,x∈(l.foldl jT s).1)∧(l.foldl jT s).2=s.2++l.map fun x=>(((l.foldl jT s).1.idxOf x:Nat):Int)
 |[],s=>⟨⟨[],by simp⟩,by simp,by simp⟩
 |x :: l,s=>by
  obtain ⟨⟨e,h1⟩,h2,h3⟩:=OW l (jT s x);rw [List.foldl_cons];have key:∃ e2,(jT s x).1=s.1++e2∧x∈(jT s x).1∧∀ e3,(s.1++e2++e3).idxOf x=s.1.idxOf x:=by
   by_cases hx:x∈s.1
   ·have cE:s.1.idxOf x < s.1.length:=List.idxOf_lt_length_of_mem hx;refine ⟨[],?_,?_,fun e3=>?_⟩
    ·show (if _ then _ else _:List Int)=_;rw [if_neg (by omega)]; simp
    ·show x∈(if _ then _ else _:List Int);rw [if_neg (by omega)]; exact hx
    ·rw [List.append_nil,List.idxOf_append,if_pos hx]
   ·have hle:s.1.idxOf x=s.1.length:=List.idxOf_eq_length hx;refine ⟨[x],?_,?_,fun e3=>?_⟩
    ·show (if _ then _ else _:List Int)=_;rw [if_pos hle]
    ·show x∈(if _ then _ else _:List Int);rw [if_pos hle]; simp
    ·rw [aaa,List.idxOf_append,if_neg hx,hle];simp
  obtain ⟨e2,k1,k2,k3⟩:=key;refine ⟨⟨e2++e,by rw [h1,k1,aaa]⟩,fun z hz=>?_,?_⟩
  ·rcases List.mem_cons.1 hz with rfl|hz
   ·rw [h1]; exact List.mem_append_left _ k2
   ·exact h2 z hz
  ·rw [h3];have:(jT s x).2=s.2++[((s.1.idxOf x:Nat):Int)]:=rfl;rw [this,List.map_cons,aaa,List.singleton_append];congr 2;rw [h1,k1,k3 e]
def PIn (t:bk) (pa:List (List Int)):Prop:=∀ l∈pa,InW t l
theorem PIn.at {t:bk} {pa:List (List Int)} (h:PIn t pa) (q:Int):InW t (gL pa q):=by
 unfold gL;rw [List.getD_eq_getElem?_getD];cases hx:pa[q.toNat]? with
 |none=>intro i hi; cases hi
 |some l=>exact h l (List.mem_of_getElem? hx)
end Go.Proofs.YtegoimldbgdeiaaGreat
