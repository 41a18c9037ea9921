/- What functions compute. -/
import Derived.Test.YtegoimldbgdeiaaTrwE
import Derived.Test.YtegoimldbgdeiaaSeamKC
set_option linter.all false
namespace Go.Proofs.Ytegoimldbgdeiaa
open Go Go.Am
open List (map)
open Int (toNat)
open Go.IntKind (wrap)
open Go.Am.aL (fits)
set_option maxRecDepth 100000
noncomputable section
def c3:List (Nat × de):=[(12,.join [(.norm,⟨(.cons .bool .nil),[34],[],[],[],[]⟩)]),
 (62,.join [(.norm,⟨(.cons (.own 0 3 nF) (.ci (.ci (.ci .nil)))),[5,8,9,10],[],[],[.tok 0 3 28],[]⟩)]),
 (122,.loop [(.slot 5,3,28)] ⟨(.cons (.own 0 3 nF) (.ci .nil)),[5,38],[],[],[.tok 0 3 28],[]⟩ [(.ret,⟨(.cons .bool .nil),[4],[],[],[.dead],[]⟩),(.ex 0,⟨(.cons (.own 0 3 nF) .nil),[5],[],[],[.tok 0 3 28],[]⟩)]),
 (126,.join [(.norm,⟨(.cons (.own 0 3 nF) (.ci (.ci (.ci .nil)))),[5,12],[],[(11,2)],[.tok 0 3 28],[(11,11,0)]⟩)]),
 (8189,.join [(.norm,⟨(.cons (.own 0 3 nF) (.ci (.ci (.ci (.ci (.ci .nil)))))),[5,14,15,16],[],[(17,2)],[.tok 0 3 28],[]⟩)]),
 (8190,.join [(.norm,⟨(.cons .bool (.cons (.own 0 3 nF) .nil)),[4,5],[],[],[.tok 1 3 28],[]⟩)]),
 (65514,.join [(.norm,⟨(.cons (.own 0 3 nF) (.cons .bool .nil)),[5,98],[],[],[.tok 0 3 28],[]⟩)])]
def T3 (N:Nat):(List ((List UInt8) × Int × Int)) × (Int × Int)→Option Bool:=(cx N [(10,e10 N),(11,e11 N),(12,e12 N),(13,e13 N),(14,e14 N),(15,e15 N)] [(3,c3)]).fn 1000 3 (.cons nG (.cons bC .nil)) .bool
def e3 (N:Nat):bi:=⟨(.cons nG (.cons bC .nil)),.bool,T3 N⟩
def c4:List (Nat × de):=[(12,.join [(.norm,⟨(.cons .bool .nil),[51],[],[],[],[]⟩)]),
 (122,.loop [(.slot 5,3,28),(.slot 6,3,28),(.slot 7,3,28)] ⟨(.cons (.own 0 3 nF) (.cons (.own 1 3 nF) (.cons (.own 2 3 nF) (.ci .nil)))),[5,6,7,55],[],[],[.tok 0 3 28,.tok 1 3 28,.tok 2 3 28],[]⟩ [(.ex 0,⟨(.cons (.own 0 3 nF) (.cons (.own 1 3 nF) (.cons (.own 2 3 nF) .nil))),[5,6,7],[],[],[.tok 0 3 28,.tok 1 3 28,.tok 2 3 28],[]⟩)]),
 (2044,.join [(.norm,⟨(.cons .bool .nil),[148],[],[],[.bh,.bh,.bh],[]⟩)]),
 (16380,.join [(.norm,⟨(.cons .bool .nil),[228],[],[],[.bh,.bh,.bh],[]⟩)]),
 (16382,.join [(.norm,⟨(.cons .bool .nil),[4],[],[],[.bh,.bh,.bh],[]⟩)]),
 (32756,.join [(.norm,⟨(.cons .bool .nil),[4],[],[],[.bh,.bh,.bh],[]⟩)])]
def T4 (N:Nat):(List ((List UInt8) × Int × Int)) × (Int × Int)→Option Bool:=(cx N [(10,e10 N),(11,e11 N),(12,e12 N),(13,e13 N)] [(4,c4)]).fn 1000 4 (.cons nG (.cons bC .nil)) .bool
def e4 (N:Nat):bi:=⟨(.cons nG (.cons bC .nil)),.bool,T4 N⟩
def c7:List (Nat × de):=[(12,.join [(.norm,⟨(.cons .bool .nil),[22],[],[],[],[]⟩)]),
 (4093,.join [(.norm,⟨(.cons bu (.cons .bool (.ci (.ci (.ci .nil))))),[11,13,14],[],[(12,2)],[],[]⟩)]),
 (4094,.join [(.norm,⟨(.cons .bool .nil),[4],[],[],[],[]⟩)])]
end
end Go.Proofs.Ytegoimldbgdeiaa
