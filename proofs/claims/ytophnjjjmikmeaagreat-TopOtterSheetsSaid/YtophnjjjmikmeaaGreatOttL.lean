/- The functions of Go's library that this program calls,by their contracts. -/
import Derived.Test.YtophnjjjmikmeaaGreatOttEnv
import Derived.Test.YtophnjjjmikmeaaGreatOttShelf
import Derived.Test.YtophnjjjmikmeaaGreatAmKM
set_option linter.all false
namespace Go.Proofs.YtophnjjjmikmeaaGreat
open Go Go.Am Go.Proofs Go.Shelf
set_option maxRecDepth 100000
theorem qx (s:List UInt8):∀ n,Lib.repeatL s n=cD s n
 | 0=>rfl
 | n+1=>by rw [Lib.repeatL,cD,qx s n]
theorem oZ (sep:List UInt8):∀ xs,Lib.join xs sep=qu xs sep
 | []=>rfl
 | [a]=>Lib.join_one a sep
 | a :: b :: l=>by
  have h:=oZ sep (b :: l)
  show _=a++sep++qu (b :: l) sep
  rw [← h,Lib.join_cons,Lib.join_cons]
  simp [Lib.joinTail]
theorem Xb:ax env 69 zP:=FN (E:=env) ⟨_,Tryz.func69,rfl,rfl⟩ fun s c w h1 h2=>by
 have:=Any.strings_Repeat Tryz.Lb Tryz.qw s c w h1 h2
 rw [qx] at this
 exact this
theorem Vz:ax env 102 Dy:=Kq (E:=env) ⟨_,Tryz.func102,rfl,rfl⟩ (fun a c sep w=>Any.strings_Join_none Tryz.Ey Tryz.kd a c sep w) fun bk o c xs sep w h1 h2 h3 h4 h5=>by
 have:=Any.strings_Join Tryz.Ey Tryz.kd bk o c xs sep w h1 h2 h3 h4 (by rw [oZ]; exact h5)
 rw [oZ] at this
 exact this
def Ol:List (Nat × a8):=[(69,zP),(102,Dy)]
theorem zQ:∀ a e,(a,e)∈Ol→ax env a e:=fun a e h=>by
 simp only [Ol,List.mem_cons,Prod.mk.injEq,List.not_mem_nil,or_false] at h
 rcases h with ⟨rfl,rfl⟩ | ⟨rfl,rfl⟩
 ·exact Xb
 ·exact Vz
end Go.Proofs.YtophnjjjmikmeaaGreat
