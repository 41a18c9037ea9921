/- Plain laws: seams between edges. -/
import Derived.Test.YtfiopgedfcaodaaGreatDoorSeamTs
import Derived.Test.YtfiopgedfcaodaaGreatDoorSeamKA
import Derived.Test.YtfiopgedfcaodaaGreatDoorSeamTc
import Derived.Test.YtfiopgedfcaodaaGreatDoorAmKL
set_option linter.all false
namespace Go.Proofs.YtfiopgedfcaodaaGreatDoor
open Go Go.Am
set_option maxRecDepth 100000
abbrev Six:=Int × Int × Int × Int × Int × Int
section seam
variable {N:Nat} (hN:Big N) (a b:Int) (e1 e2:List (Int × Int))
def lgN (e1 e2:List (Int × Int)):Nat:=max e1.length e2.length
def kA (k:Nat):Int × Int:=e1.getD (k * e1.length / lgN e1 e2) (0,0)
def kB (k:Nat):Int × Int:=e2.getD (k * e2.length / lgN e1 e2) (0,0)
def six (k:Nat):Six:=(a,(kA e1 e2 k).1,(kA e1 e2 k).2,b,(kB e1 e2 k).1,(kB e1 e2 k).2)
def samek (k:Nat):Bool:=(a == b)&&((((kA e1 e2 k).1 == (kB e1 e2 k).1)&&(((kA e1 e2 k).2 == (kB e1 e2 k).2)&&true))&&true)
def stS (s:List Six) (k:Nat):List Six ⊕ List Six:=if samek a b e1 e2 k then .inr s else .inl (s++[six a b e1 e2 k])
variable (h1:1≤e1.length) (h1':e1.length≤256) (h2:1≤e2.length) (h2':e2.length≤256)
include h1 h1' h2 h2'
include hN
end seam
end Go.Proofs.YtfiopgedfcaodaaGreatDoor
namespace Go.Proofs.YtfiopgedfcaodaaGreatDoor
open Go Go.Am
set_option maxRecDepth 100000
abbrev P3:=Int × Int × Int
theorem at46g (l:List (Int × Int)) {k:Nat} (hk:k < l.length):d46 (nthD (List.map n46 l) k)=l[k]∧Pat.fits p46 (nthD (List.map n46 l) k)=true:=by
 rw [nthD_map n46 l k hk,dn46,fn46]; exact ⟨rfl,rfl⟩
section
variable {N:Nat} (hN:Big N) (C:List (List P3)) (B:List (Int × Int)) (hC:C.length≤10000) (hB:B.length≤10000) (hc:∀ c∈C,c.length≤10000)
include hN hC hB hc
end
end Go.Proofs.YtfiopgedfcaodaaGreatDoor
