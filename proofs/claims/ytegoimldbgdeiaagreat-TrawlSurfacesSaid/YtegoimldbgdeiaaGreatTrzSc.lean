/- What the program's search along seams computes: one seam. -/
import Derived.Test.YtegoimldbgdeiaaGreatTrzSb
import Derived.Test.YtegoimldbgdeiaaGreatTrzU
set_option linter.all false
open List renaming getD_eq_getElem?_getD→aaa, getElem?_eq_getElem→aag
namespace Go.Proofs.YtegoimldbgdeiaaGreat
open Go Go.Am
open List (map)
open Int (toNat)
open Go.IntKind (wrap)
open Go.Am.aM (fits)
set_option maxRecDepth 100000
theorem adv (l:List Int) (k:Nat) (v:Int):aC (map n3 l) k (AV.int .i64 v)=map n3 (l.set k v):=by rw [fg,List.map_set]; rfl
theorem zD (l:List Int) {k:Nat} (hk:k < l.length):gI l (k:Int)=l[k]:=by unfold gI; rw [Int.toNat_natCast,aaa,aag hk]; rfl
theorem Ud (l:List (List Int)) {k:Nat} (hk:k < l.length):gL l (k:Int)=l[k]:=by unfold gL; rw [Int.toNat_natCast,aaa,aag hk]; rfl
theorem g3 (l:List Int) {k:Nat} (hk:k < l.length):d3 (af (map n3 l) k)=gI l (k:Int)∧fits p3 (af (map n3 l) k)=true:=by
 rw [zD l hk]; exact Iq l hk
theorem g59 (l:List (List Int)) {k:Nat} (hk:k < l.length):d59 (af (map lF l) k)=gL l (k:Int)∧fits kH (af (map lF l) k)=true:=by
 rw [Ud l hk,gb lF l k hk]; exact ⟨agy _,agx _⟩
section
variable {N:Nat} (hN:eQ N)
include hN
end
end Go.Proofs.YtegoimldbgdeiaaGreat
