/- Plain laws: runs of joins. -/
import Derived.Test.YtfiopgedfcaodaaGreatDoorSeamTr
import Derived.Test.YtfiopgedfcaodaaGreatDoorSeamPe
set_option linter.all false
namespace Go.Proofs.YtfiopgedfcaodaaGreatDoor
open Go Go.Am
set_option maxRecDepth 100000
theorem at3 (l:List Int) {k:Nat} (hk:k < l.length):d3 (nthD (List.map n3 l) k) = l[k] ∧ Pat.fits p3 (nthD (List.map n3 l) k) = true:=by
 rw [nthD_map n3 l k hk,dn3,fn3]
 exact ⟨rfl,rfl⟩
theorem snoc3 (l:List Int) (a:Int):List.map n3 l ++ [AV.int .i64 a] = List.map n3 (l ++ [a]):=by
 rw [List.map_append]; rfl
section
variable {N:Nat} (hN:Big N) (l:List Int) (hl:l.length ≤ 1000000)
include hN hl
end
section
variable {N:Nat} (hN:Big N) (l:List Int) (hl:l.length ≤ 256) (hx:∀ x ∈ l,1 ≤ x ∧ x ≤ 256)
include hN hl hx
end
theorem setN3 (s:List Int) (i:Nat) (v:Int):setN (List.map n3 s) i (AV.int .i64 v) = List.map n3 (s.set i v):=by
 rw [setN_eq]
 show (List.map n3 s).set i (n3 v) = _
 rw [List.map_set]
section
variable {N:Nat} (hN:Big N) (m n:Int) (l:List (Int × Int)) (hl:l.length ≤ 1000000)
include hN hl
end
end Go.Proofs.YtfiopgedfcaodaaGreatDoor
