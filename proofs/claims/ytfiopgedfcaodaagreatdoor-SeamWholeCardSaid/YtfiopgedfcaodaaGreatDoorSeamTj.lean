/- What the functions compute (printed by a program of ours,checked by the kernel). -/
import Derived.Test.YtfiopgedfcaodaaGreatDoorSeamSo
import Derived.Test.YtfiopgedfcaodaaGreatDoorSeamTh
set_option linter.all false
namespace Go.Proofs.YtfiopgedfcaodaaGreatDoor
open Go Go.Am
set_option maxRecDepth 100000
open List (map)
open Int (toNat)
open aA (fits)
noncomputable section
def c10:List (Nat × a8):=[(12,.join [(.norm,⟨(.cons .bool .nil),[45],[],[],[],[]⟩)]),
 (122,.loop [] ⟨(.cons (.list 6 ca) (.cons (.int .i64) .nil)),[5,50],[],[],[],[]⟩ [(.ex 0,⟨(.cons (.list 6 ca) .nil),[5],[],[],[],[]⟩)]),
 (508,.join [(.norm,⟨(.cons .bool .nil),[91],[],[],[],[]⟩)]),
 (1958,.join [(.norm,⟨(.cons (.list 6 ca) .nil),[5],[],[],[],[]⟩)]),
 (4090,.loop [] ⟨(.cons (.int .i64) (.cons (.int .i64) .nil)),[12,13],[],[],[],[]⟩ [(.ret,⟨(.cons .bool .nil),[4],[],[],[],[]⟩),(.ex 2,⟨.nil,[],[],[],[],[]⟩)]),
 (130888,.join [(.norm,⟨(.cons (.int .i64) (.cons (.list 1 bl) (.cons (.list 2 aW) .nil))),[15],[],[(14,2)],[],[(14,14,0)]⟩)]),
 (523556,.join [(.norm,⟨(.cons .bool .nil),[115],[],[],[],[]⟩)]),
 (4188476,.join [(.norm,⟨(.cons .bool .nil),[131],[],[],[],[]⟩)]),
 (33507834,.loop [] ⟨(.cons (.int .i64) (.cons (.int .i64) .nil)),[20,134],[],[],[],[]⟩ [(.ex 4,⟨(.cons (.int .i64) .nil),[20],[],[],[],[]⟩)]),
 (33507836,.join [(.norm,⟨(.cons .bool .nil),[188],[],[],[],[]⟩)]),
 (67015676,.join [(.norm,⟨(.cons .bool .nil),[205],[],[],[],[]⟩)]),
 (134031357,.join [(.norm,⟨.nil,[],[],[],[],[]⟩),(.ret,⟨(.cons .bool .nil),[4],[],[],[],[]⟩)]),
 (2144501718,.join [(.norm,⟨(.cons .bool .nil),[240],[],[],[],[]⟩)])]
-- "codend/codendlaw04.SeamSteps"
def T10 (N:Nat):(List LB) × LF→Option Bool:=(iD N [(16,Ud N),(32,e32 N),(34,Yy N),(35,e35 N),(38,e38 N),(47,e47 N),(49,e49 N),(50,e50 N),(52,e52 N),(54,e54 N),(55,e55 N),(56,e56 N)] [(10,c10)]).fn 1000 10 (.cons (.list 1 bl) (.cons (.list 6 ca) .nil)) .bool
def e10 (N:Nat):aD:=⟨(.cons (.list 1 bl) (.cons (.list 6 ca) .nil)),.bool,T10 N⟩
end
end Go.Proofs.YtfiopgedfcaodaaGreatDoor
