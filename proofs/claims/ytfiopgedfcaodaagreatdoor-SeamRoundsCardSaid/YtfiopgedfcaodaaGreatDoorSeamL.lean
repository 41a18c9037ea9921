/- The functions of Go's library that this program calls,by their contracts. -/
import Derived.Test.YtfiopgedfcaodaaGreatDoorSeamEnv
import Derived.Test.YtfiopgedfcaodaaGreatDoorSeamShelf
import Derived.Test.YtfiopgedfcaodaaGreatDoorAmKK
set_option linter.all false
namespace Go.Proofs.YtfiopgedfcaodaaGreatDoor
open Go Go.Am Go.Proofs Go.Shelf
set_option maxRecDepth 100000
theorem decDigits_dig2 (i:Nat) (h:i < 100):Lib.decDigits i=dig2 i:=by
 unfold dig2
 by_cases h1:i < 10
 ·rw [Lib.decDigits]
  have:decide ((i:Int) < 10)=true:=by simp; omega
  simp [h1,this]
 ·rw [Lib.decDigits,Lib.decDigits]
  have:decide ((i:Int) < 10)=false:=by simp; omega
  have h2:i / 10 < 10:=by omega
  simp [h1,h2,this]
theorem join_joinL (sep:List UInt8):∀ xs,Lib.join xs sep=joinL xs sep
 | []=>rfl
 | [a]=>Lib.join_one a sep
 | a :: b :: l=>by
  have h:=join_joinL sep (b :: l)
  show _=a++sep++joinL (b :: l) sep
  rw [← h,Lib.join_cons,Lib.join_cons]
  simp [Lib.joinTail]
theorem L149:EntryOk env 149 itoaE:=itoa_ok (E:=env) ⟨_,Tryz.func149,rfl,rfl⟩ fun i hi w=>by
 have:=Any.strconv_Itoa_small Tryz.lays171 i hi w
 rw [decDigits_dig2 i hi] at this
 exact this
theorem L150:EntryOk env 150 joinE':=join_ok (E:=env) ⟨_,Tryz.func150,rfl,rfl⟩ (fun a c sep w=>Any.strings_Join_none Tryz.lays156 Tryz.Builder_Extra_156 a c sep w) fun bk o c xs sep w h1 h2 h3 h4 h5=>by
 have:=Any.strings_Join Tryz.lays156 Tryz.Builder_Extra_156 bk o c xs sep w h1 h2 h3 h4 (by rw [join_joinL]; exact h5)
 rw [join_joinL] at this
 exact this
def libL:List (Nat × Entry):=[(149,itoaE),(150,joinE')]
theorem libL_ok:∀ a e,(a,e)∈libL→EntryOk env a e:=fun a e h=>by
 simp only [libL,List.mem_cons,Prod.mk.injEq,List.not_mem_nil,or_false] at h
 rcases h with ⟨rfl,rfl⟩ | ⟨rfl,rfl⟩
 ·exact L149
 ·exact L150
end Go.Proofs.YtfiopgedfcaodaaGreatDoor
