/- What the functions compute (printed by a program of ours,checked by the kernel). -/
import Derived.Test.YtfiopgedfcaodaaGreatDoorSeamTe
set_option linter.all false
namespace Go.Proofs.YtfiopgedfcaodaaGreatDoor
open Go Go.Am
set_option maxRecDepth 100000
open List (map)
open Int (toNat)
open aA (fits)
noncomputable section
abbrev ca:aA:=(.agg (.cons (.int .i64) (.cons (.int .i64) (.cons (.int .i64) (.cons (.int .i64) (.cons (.int .i64) (.cons (.int .i64) .nil)))))))
abbrev d127 (v:AV):Int × Int × Int × Int × Int × Int:=aA.bh ca v
abbrev n127 (x:Int × Int × Int × Int × Int × Int):AV:=aA.enc ca x
abbrev aX (l:List (Int × Int × Int × Int × Int × Int)):=map n127 l
abbrev FY (l:List (Int × Int × Int × Int × Int × Int)):=allFit (fits ca) (map n127 l)
abbrev FZ (l:List (Int × Int × Int × Int × Int × Int)):=map d127 (map n127 l)
theorem yl (l:List (Int × Int × Int × Int × Int × Int)):allFit (fits ca) (map n127 l)=true:=bW (p:=ca) rfl l
theorem ym (l:List (Int × Int × Int × Int × Int × Int)):map d127 (map n127 l)=l:=dw (p:=ca) rfl l
theorem Sv (x:Int × Int × Int × Int × Int × Int):fits ca (n127 x)=true:=(aA.aU ca x rfl).1
theorem Sw (x:Int × Int × Int × Int × Int × Int):d127 (n127 x)=x:=(aA.aU ca x rfl).2
def c45:List (Nat × a8):=[(58,.loop [] ⟨(.cons (.int .i64) .nil),[5],[],[],[],[]⟩ [(.ret,⟨(.cons .bool .nil),[4],[],[],[],[]⟩),(.ex 0,⟨.nil,[],[],[],[],[]⟩)])]
-- "codend/codendref04.SameJoins"
def T45 (N:Nat):LF × LF→Option Bool:=(cx N [] [(45,c45)]).fn 1000 45 (.cons (.list 6 ca) (.cons (.list 6 ca) .nil)) .bool
def e45 (N:Nat):aD:=⟨(.cons (.list 6 ca) (.cons (.list 6 ca) .nil)),.bool,T45 N⟩
def c46:List (Nat × a8):=[(58,.loop [(.slot 3,6,129)] ⟨(.cons (.own 0 6 ca) (.cons (.int .i64) .nil)),[3,8],[],[],[.tok 0 6 129],[]⟩ [(.ex 0,⟨(.cons (.own 0 6 ca) .nil),[3],[],[],[.tok 0 6 129],[]⟩)])]
-- "codend/codendlaw04.own"
def T46 (N:Nat):LF→Option (LF):=(cx N [] [(46,c46)]).fn 1000 46 (.cons (.list 6 ca) .nil) (.list 6 ca)
def e46 (N:Nat):aD:=⟨(.cons (.list 6 ca) .nil),(.list 6 ca),T46 N⟩
-- "codend/seam.checkPiece"
def PX (N:Nat):Int→Option Int:=(cx N [(93,Wk N)] []).fn 1000 129 (.cons (.int .i64) .nil) (.int .i64)
def UD (N:Nat):aD:=⟨(.cons (.int .i64) .nil),(.int .i64),PX N⟩
theorem PY (N:Nat):aw bX 129 (UD N):=fJ.bL (bC (by intro a e h; simp only [List.mem_cons,Prod.mk.injEq,List.not_mem_nil,or_false] at h; rcases h with ⟨rfl,rfl⟩; exact Lx N)) (by kernel_rfl) (by kernel_rfl)
theorem PZ (N:Nat) (a0:Int):PX N a0 =
 (Wj N (a0,0,15)).bind fun y1=>some y1:=by kernel_rfl
-- "codend/seam.Seam"
-- "codend/codendref04.CheckPiece"
def Z6 (N:Nat):Int→Option Int:=(cx N [(94,e94 N)] []).fn 1000 80 (.cons (.int .i64) .nil) (.int .i64)
def e80 (N:Nat):aD:=⟨(.cons (.int .i64) .nil),(.int .i64),Z6 N⟩
theorem UE (N:Nat):aw bX 80 (e80 N):=fJ.bL (bC (by intro a e h; simp only [List.mem_cons,Prod.mk.injEq,List.not_mem_nil,or_false] at h; rcases h with ⟨rfl,rfl⟩; exact Ul N)) (by kernel_rfl) (by kernel_rfl)
theorem UG (N:Nat) (a0:Int):Z6 N a0 =
 (Z4 N (a0,0,15)).bind fun y1=>some y1:=by kernel_rfl
-- "codend/codendref04.Seam"
-- "codend/codendlaw04.SeamSeams"
end
end Go.Proofs.YtfiopgedfcaodaaGreatDoor
