/- What functions compute. -/
import Derived.Test.YtegoimldbgdeiaaTrwU
import Derived.Test.YtegoimldbgdeiaaSeamKC
set_option linter.all false
namespace Go.Proofs.Ytegoimldbgdeiaa
open Go Go.Am
open List (map)
open Int (toNat)
open Go.IntKind (wrap)
open Go.Am.aL (fits)
set_option maxRecDepth 100000
noncomputable section
def c6:List (Nat × de):=[(12,.join [(.norm,⟨(.cons .bool .nil),[37],[],[],[],[]⟩)]),
 (62,.join [(.norm,⟨(.ci .nil),[9],[],[],[],[]⟩)]),
 (2036,.join [(.norm,⟨(.cons .bool .nil),[4],[],[],[],[]⟩)]),
 (4094,.join [(.norm,⟨(.cons .bool .nil),[4],[],[],[],[]⟩)]),
 (16372,.join [(.norm,⟨(.cons .bool .nil),[4],[],[],[],[]⟩)])]
def T6 (N:Nat):((List ((List UInt8) × (List (Int × Int)))) × (List (Int × Int × Int × Int × Bool))) × (Int × (List Int))→Option Bool:=(cx N [(10,e10 N),(17,e17 N),(24,e24 N),(25,e25 N),(26,e26 N),(27,e27 N),(28,e28 N),(29,e29 N),(30,e30 N),(31,e31 N)] [(6,c6)]).fn 1000 6 (.cons cD (.cons vX .nil)) .bool
def e6 (N:Nat):bi:=⟨(.cons cD (.cons vX .nil)),.bool,T6 N⟩
end
end Go.Proofs.Ytegoimldbgdeiaa
