/- Plain laws: neighbours prove (a finite check), nearest words are the nearest. -/
import Derived.Test.YtbfappllfpngdaaGreatDoorTapPr
set_option linter.all false
namespace Go.Proofs.YtbfappllfpngdaaGreatDoor
open Go Go.Am
set_option maxRecDepth 100000

def goA (s : P2) : Nat → Nat → P2 × P2 → Bool
  | 0, _, _ => true
  | f + 1, k, st => provesB s ((k : Int) + 1) ((partsK k).foldl (refS s) st).1 ((partsK k).foldl (refS s) st).2 && goA s f (k + 1) ((partsK k).foldl (refS s) st)
def allA : Bool := (List.range 41).all fun a => (List.range 40).all fun d => !low1 ((a : Int), (d : Int) + 1) || goA (shr ((a : Int), (d : Int) + 1)) 12 0 start
theorem allA_true : allA = true := by kernel_rfl
end Go.Proofs.YtbfappllfpngdaaGreatDoor
