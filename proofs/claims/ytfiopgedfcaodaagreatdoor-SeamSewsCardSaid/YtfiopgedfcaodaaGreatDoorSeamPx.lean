/- Plain laws: common knots,program: the search in the places. -/
import Derived.Test.YtfiopgedfcaodaaGreatDoorSeamPw
import Derived.Test.YtfiopgedfcaodaaGreatDoorAmKK
set_option linter.all false
namespace Go.Proofs.YtfiopgedfcaodaaGreatDoor
open Go Go.Am Go.Sort
set_option maxRecDepth 100000
def ltP (a b:P3):Prop:=a.1 < b.1 ∨ a.1 = b.1 ∧ (a.2.2 < b.2.2 ∨ a.2.2 = b.2.2 ∧ a.2.1 < b.2.1)
theorem plcs_sorted (C:List (List P3)):(plcs C).Pairwise ltP:=by
 unfold plcs
 rw [List.pairwise_flatMap]
 constructor
 ·intro i _
  unfold plc
  rw [List.pairwise_map]
  refine ((insL_spec swoK totK (0,0) (flatK2 (C.getD i []))).1).imp fun {x y} h=>?_
  have h:=of_decide_eq_true ((cfK_lt x y).symm.trans h)
  exact .inr ⟨rfl,h⟩
 ·refine List.pairwise_lt_range.imp fun {i j} h x hx y hy=>?_
  unfold plc at hx hy
  obtain ⟨k1,_,rfl⟩:=List.mem_map.1 hx
  obtain ⟨k2,_,rfl⟩:=List.mem_map.1 hy
  unfold ltP
  simp only
  omega
section
variable {N:Nat} (hN:Big N)
include hN
section
variable (S:List P3) (hS:S.length ≤ 131072) (hs:S.Pairwise ltP)
include hS hs
end
end
end Go.Proofs.YtfiopgedfcaodaaGreatDoor
