/- The example of the chapter as an entry. -/
import Derived.Test.YtophnjjjmikmeaaGreatOttT
import Derived.Test.YtophnjjjmikmeaaGreatOttC
set_option linter.all false
namespace Go.Proofs.YtophnjjjmikmeaaGreat
open Go Go.Am
noncomputable def T7 (_N:Nat):Unit→Option Bool:=fun _=>some true
noncomputable def e7 (N:Nat):a8:=⟨.nil,.bool,T7 N⟩
theorem SG (N:Nat):ax cE 7 (e7 N):=fun x y h=>by
 cases h
 exact bP.env (E:=env) rfl rfl (bP.mono BI fun r ⟨y,h1,h2⟩=>by rw [h1,h2]; rfl)
end Go.Proofs.YtophnjjjmikmeaaGreat
