/- Plain laws: the order and the net of a program. -/
import Derived.Test.YtldcljfjjoidhaaGreatDoorBraPe
set_option linter.all false
namespace Go.Proofs.YtldcljfjjoidhaaGreatDoor
open Go Go.Am Go.Sort
set_option maxRecDepth 100000
section
variable {N:Nat} (hN:iK N)
include hN
theorem CX (l:List cQ) {k:Nat} (hk:k < l.length):d90 (ah (List.map au l) k)=l[k]∧an.fits fE (ah (List.map au l) k)=true:=by
 rw [jz au l k hk]
 exact ⟨Xz _,Xy _⟩
end
end Go.Proofs.YtldcljfjjoidhaaGreatDoor
