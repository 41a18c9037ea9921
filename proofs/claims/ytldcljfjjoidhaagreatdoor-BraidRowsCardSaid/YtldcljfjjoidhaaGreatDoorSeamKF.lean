/- Plain laws: programs mirrored,worked back,lifted,and put one behind the other. -/
import Derived.Test.YtldcljfjjoidhaaGreatDoorSeamKC
import Derived.Test.YtldcljfjjoidhaaGreatDoorBraX
set_option linter.all false
namespace Go.Proofs.YtldcljfjjoidhaaGreatDoor
open Go Go.Am Go.Sort
open List (map)
open Int (toNat)
open Go.IntKind (wrap)
open Go.Am.aO (fits)
set_option maxRecDepth 100000
theorem abT {α β:Type} {rd:List β × Int→Option ((List β × Int) ⊕ List β)} (l:List α) (g:α→β)
  (h:∀ k (hk:k < l.length) (s:List β),s.length=k→rd (s,(k:Int))=some (.inl (s++[g l[k]],((k+1:Nat):Int)))) (h0:∀ s:List β,s.length=l.length→rd (s,(l.length:Int))=some (.inr s)) (n:Nat) (hn:l.length < n) :
  aN rd n ([],0)=some (l.map g):=by
 have key:=fa (rd:=rd) l.length (fun k=>((l.take k).map g,(k:Int))) (l.map g) (fun k hk=>by
  rw [h k hk _ (by rw [List.length_map,List.length_take]; omega)]
  have e:(l.take (k+1)).map g=(l.take k).map g++[g l[k]]:=by
   rw [List.take_add_one,List.getElem?_eq_getElem hk,List.map_append]
   rfl
  rw [e]) (by
  have e:(l.take l.length).map g=l.map g:=by rw [List.take_length]
  have:=h0 (l.map g) (by rw [List.length_map])
  rw [e]
  exact this) n 0 (Nat.zero_le _) (by omega)
 simpa using key
section
variable {N:Nat} (hN:e7 N)
include hN
end
end Go.Proofs.YtldcljfjjoidhaaGreatDoor
namespace Go.Proofs.YtldcljfjjoidhaaGreatDoor
open Go Go.Am Go.Sort
open List (map)
open Int (toNat)
open Go.IntKind (wrap)
open Go.Am.aO (fits)
set_option maxRecDepth 100000
def mk (s:Bool) (x:Int):Int:=if s then -x else x
variable {s:Bool} {dx dy:Int}
end Go.Proofs.YtldcljfjjoidhaaGreatDoor
namespace Go.Proofs.YtldcljfjjoidhaaGreatDoor
open Go Go.Am Go.Sort
open List (map)
open Int (toNat)
open Go.IntKind (wrap)
open Go.Am.aO (fits)
set_option maxRecDepth 100000
section
variable {N:Nat} (hN:e7 N)
include hN
end
end Go.Proofs.YtldcljfjjoidhaaGreatDoor
