/- Plain laws: the knots of a net. -/
import Derived.Test.YtldcljfjjoidhaaGreatDoorBraPk
set_option linter.all false
namespace Go.Proofs.YtldcljfjjoidhaaGreatDoor
open Go Go.Am Go.Sort
set_option maxRecDepth 100000
def ng:List nJ→List (Int × Int)
 | []=>[]
 | b :: l=>Y1 b :: XQ b :: ng l
theorem A8:∀ l:List nJ,(ng l).length=2 * l.length
 | []=>rfl
 | b :: l=>by rw [ng,List.length_cons,List.length_cons,A8 l,List.length_cons]; omega
theorem qi:∀ (l:List nJ) (k:Nat) (h:k / 2 < l.length) (h2:k < (ng l).length),(ng l)[k]=if k % 2=0 then Y1 l[k / 2] else XQ l[k / 2]
 | [],k,h,_=>absurd h (Nat.not_lt_zero _)
 | b :: l,0,_,_=>rfl
 | b :: l,1,_,_=>rfl
 | b :: l,k+2,h,h2=>by
  have e:(k+2) / 2=k / 2+1:=by omega
  have e2:(k+2) % 2=k % 2:=by omega
  have hl:k / 2 < l.length:=by rw [e,List.length_cons] at h; omega
  have JP:k < (ng l).length:=by rw [A8]; omega
  have ih:=qi l k hl JP
  simp only [e2]
  have g1:(ng (b :: l))[k+2]=(ng l)[k]:=rfl
  have g2:(b :: l)[(k+2) / 2]=l[k / 2]:=by
   have:∀ i (hi:i < (b :: l).length) (zj:i=k / 2+1),(b :: l)[i]=l[k / 2]:=by
    intro i hi zj; subst zj; rfl
   exact this _ h e
  rw [g1,g2,ih]
section
variable {N:Nat} (hN:iK N)
include hN
section
variable (F st:List (Int × Int)) (hn:st.length=F.length) (hF:F.length≤2000000)
include hn hF
end
end
end Go.Proofs.YtldcljfjjoidhaaGreatDoor
