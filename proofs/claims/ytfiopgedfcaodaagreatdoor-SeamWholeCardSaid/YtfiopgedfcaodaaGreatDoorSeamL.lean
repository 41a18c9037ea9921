/- The functions of Go's library that this program calls,by their contracts. -/
import Derived.Test.YtfiopgedfcaodaaGreatDoorSeamEnv
import Derived.Test.YtfiopgedfcaodaaGreatDoorSeamShelf
import Derived.Test.YtfiopgedfcaodaaGreatDoorAmKJ
set_option linter.all false
namespace Go.Proofs.YtfiopgedfcaodaaGreatDoor
open Go Go.Am Go.Proofs Go.Shelf
set_option maxRecDepth 100000
theorem yh (i:Nat) (h:i < 100):Lib.decDigits i=KU i:=by
 unfold KU
 by_cases h1:i < 10
 ·rw [Lib.decDigits]
  have:decide ((i:Int) < 10)=true:=by simp; omega
  simp [h1,this]
 ·rw [Lib.decDigits,Lib.decDigits]
  have:decide ((i:Int) < 10)=false:=by simp; omega
  have h2:i / 10 < 10:=by omega
  simp [h1,h2,this]
theorem qO (sep:List UInt8):∀ xs,Lib.join xs sep=sr xs sep
 | []=>rfl
 | [a]=>Lib.join_one a sep
 | a :: b :: l=>by
  have h:=qO sep (b :: l)
  show _=a++sep++sr (b :: l) sep
  rw [← h,Lib.join_cons,Lib.join_cons]
  simp [Lib.joinTail]
theorem abN:aw env 149 Ha:=Oa (E:=env) ⟨_,Tryz.func149,rfl,rfl⟩ fun i hi w=>by
 have:=Any.strconv_Itoa_small Tryz.Px i hi w
 rw [yh i hi] at this
 exact this
theorem abO:aw env 150 FT:=Ob (E:=env) ⟨_,Tryz.func150,rfl,rfl⟩ (fun a c sep w=>Any.strings_Join_none Tryz.Hb Tryz.k9 a c sep w) fun bk o c xs sep w h1 h2 h3 h4 h5=>by
 have:=Any.strings_Join Tryz.Hb Tryz.k9 bk o c xs sep w h1 h2 h3 h4 (by rw [qO]; exact h5)
 rw [qO] at this
 exact this
def Ua:List (Nat × aD):=[(149,Ha),(150,FT)]
theorem Py:∀ a e,(a,e)∈Ua→aw env a e:=fun a e h=>by
 simp only [Ua,List.mem_cons,Prod.mk.injEq,List.not_mem_nil,or_false] at h
 rcases h with ⟨rfl,rfl⟩ | ⟨rfl,rfl⟩
 ·exact abN
 ·exact abO
end Go.Proofs.YtfiopgedfcaodaaGreatDoor
