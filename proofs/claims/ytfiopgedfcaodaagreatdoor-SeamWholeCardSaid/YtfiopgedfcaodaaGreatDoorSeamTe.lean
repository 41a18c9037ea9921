/- What the functions compute (printed by a program of ours,checked by the kernel). -/
import Derived.Test.YtfiopgedfcaodaaGreatDoorSeamT
set_option linter.all false
namespace Go.Proofs.YtfiopgedfcaodaaGreatDoor
open Go Go.Am
set_option maxRecDepth 100000
open List (map)
open Int (toNat)
open aA (fits)
noncomputable section
abbrev oX:aA:=(.agg (.cons (.int .i64) (.cons (.int .i64) .nil)))
abbrev d87 (v:AV):Int × Int:=aA.bh oX v
abbrev mE (x:Int × Int):AV:=aA.enc oX x
abbrev bO (l:List (Int × Int)):=map mE l
abbrev Hf (l:List (Int × Int)):=allFit (fits oX) (map mE l)
abbrev Hg (l:List (Int × Int)):=map d87 (map mE l)
theorem mj (l:List (Int × Int)):allFit (fits oX) (map mE l)=true:=bW (p:=oX) rfl l
theorem ml (l:List (Int × Int)):map d87 (map mE l)=l:=dw (p:=oX) rfl l
theorem ab3 (x:Int × Int):fits oX (mE x)=true:=(aA.aU oX x rfl).1
theorem ab4 (x:Int × Int):d87 (mE x)=x:=(aA.aU oX x rfl).2
def ab5:List (Nat × a8):=[(26,.loop [] ⟨(.cons (.int .i64) .nil),[7],[],[],[],[]⟩ [(.ret,⟨(.cons (.int .i64) .nil),[2],[],[],[],[]⟩),(.ex 0,⟨.nil,[],[],[],[],[]⟩)])]
-- "codend/netting.first"
def vg (N:Nat):LZ→Option Int:=(cx N [] [(167,ab5)]).fn 1000 167 (.cons (.list 1 (.int .i64)) .nil) (.int .i64)
def LQ (N:Nat):aD:=⟨(.cons (.list 1 (.int .i64)) .nil),(.int .i64),vg N⟩
theorem vJ (N:Nat):aw bX 167 (LQ N):=fJ.bL (fun _ _ h=>by cases h) (by kernel_rfl) (by kernel_rfl)
def vK:=qP
theorem PM (N:Nat) (a0:List Int):vg N a0 =
 ((ak (vK N a0) N 0).bind fun o6=>(Sum.elim (fun o7=>some o7) (fun o8=>some 0) o6)):=by kernel_rfl
-- "codend/netting.when"
def zy (N:Nat):Bool × Int→Option Int:=(cx N [] []).fn 1000 169 (.cons .bool (.cons (.int .i64) .nil)) (.int .i64)
def LR (N:Nat):aD:=⟨(.cons .bool (.cons (.int .i64) .nil)),(.int .i64),zy N⟩
theorem vL (N:Nat):aw bX 169 (LR N):=fJ.bL (fun _ _ h=>by cases h) (by kernel_rfl) (by kernel_rfl)
theorem PN (N:Nat) (a0:Bool) (a1:Int):zy N (a0,a1) =
 (bif a0 then some a1 else some 0):=by kernel_rfl
def ab6:List (Nat × a8):=[(6,.join [(.norm,⟨(.cons (.int .i64) .nil),[6],[],[],[],[]⟩)])]
-- "codend/netting.within"
def LS (N:Nat):Int × Int × Int→Option Int:=(cx N [(169,LR N)] [(198,ab6)]).fn 1000 198 (.cons (.int .i64) (.cons (.int .i64) (.cons (.int .i64) .nil))) (.int .i64)
def X3 (N:Nat):aD:=⟨(.cons (.int .i64) (.cons (.int .i64) (.cons (.int .i64) .nil))),(.int .i64),LS N⟩
theorem PO (N:Nat):aw bX 198 (X3 N):=fJ.bL (bC (by intro a e h; simp only [List.mem_cons,Prod.mk.injEq,List.not_mem_nil,or_false] at h; rcases h with ⟨rfl,rfl⟩; exact vL N)) (by kernel_rfl) (by kernel_rfl)
theorem PP (N:Nat) (a0:Int) (a1:Int) (a2:Int):LS N (a0,a1,a2) =
 (((bif (decide (a0 < a1)) then (zy N (true,3)).bind fun y1=>(some y1) else (zy N ((decide (a0 > a2)),3)).bind fun y2=>(some y2)):Option Int).bind fun o3=>some o3):=by kernel_rfl
-- "codend/netting.reach"
def IV (N:Nat):PA→Option Int:=(cx N [(167,LQ N),(198,X3 N)] []).fn 1000 171 (.cons aW .nil) (.int .i64)
def UA (N:Nat):aD:=⟨(.cons aW .nil),(.int .i64),IV N⟩
theorem Hh (N:Nat):aw bX 171 (UA N):=fJ.bL (bC (by intro a e h; simp only [List.mem_cons,Prod.mk.injEq,List.not_mem_nil,or_false] at h; rcases h with ⟨rfl,rfl⟩ | ⟨rfl,rfl⟩; exact vJ N; exact PO N)) (by kernel_rfl) (by kernel_rfl)
theorem Hi (N:Nat) (a0:Int × Int):IV N a0 =
 (LS N (a0.1,(-100000),100000)).bind fun y1=>bif ((a0.2 == a0.2)&&true) then (LS N (a0.2,(-100000),100000)).bind fun y2=>((bif (allFit (fits nL) [(i6 y1),(i6 y2)]&&true) then some (map d24 [(i6 y1),(i6 y2)]) else none).bind fun x4=>(vg N x4).bind fun y3=>some y3) else none:=by kernel_rfl
-- "codend/netting.CheckKnot"
def IW (N:Nat):PA→Option Int:=(cx N [(167,LQ N),(169,LR N),(171,UA N)] []).fn 1000 130 (.cons aW .nil) (.int .i64)
def PQ (N:Nat):aD:=⟨(.cons aW .nil),(.int .i64),IW N⟩
theorem Hj (N:Nat):aw bX 130 (PQ N):=fJ.bL (bC (by intro a e h; simp only [List.mem_cons,Prod.mk.injEq,List.not_mem_nil,or_false] at h; rcases h with ⟨rfl,rfl⟩ | ⟨rfl,rfl⟩ | ⟨rfl,rfl⟩; exact vJ N; exact vL N; exact Hh N)) (by kernel_rfl) (by kernel_rfl)
theorem PR (N:Nat) (a0:Int × Int):IW N a0 =
 (IV N (a0.1,a0.2)).bind fun y1=>bif ((a0.2 == a0.2)&&((a0.1 == a0.1)&&true)) then (zy N (((pN .i64 (HU .i64 a0.1 a0.2) 1) != 0),14)).bind fun y2=>((bif (allFit (fits nL) [(i6 y1),(i6 y2)]&&true) then some (map d24 [(i6 y1),(i6 y2)]) else none).bind fun x4=>(vg N x4).bind fun y3=>some y3) else none:=by kernel_rfl
-- "slices.Index[[]codend/api.Knot,codend/api.Knot]"
-- "slices.Contains[[]codend/api.Knot,codend/api.Knot]"
-- "codend/seam.CheckEdge"
-- "codend/seam.Moved"
-- "codend/codendlaw04.knots"
def ab7:List (Nat × a8):=[(26,.loop [] ⟨(.cons (.int .i64) .nil),[5],[],[],[],[]⟩ [(.ret,⟨(.cons .bool .nil),[4],[],[],[],[]⟩),(.ex 0,⟨.nil,[],[],[],[],[]⟩)])]
-- "codend/codendref01.HasKnot"
def ab8 (N:Nat):LA × PA→Option Bool:=(cx N [] [(115,ab7)]).fn 1000 115 (.cons (.list 2 aW) (.cons aW .nil)) .bool
def X4 (N:Nat):aD:=⟨(.cons (.list 2 aW) (.cons aW .nil)),.bool,ab8 N⟩
def ab9:List (Nat × a8):=[(6,.join [(.norm,⟨(.cons .bool .nil),[2],[],[],[],[]⟩)])]
-- "codend/codendref01.far"
def PS (N:Nat):Int→Option Bool:=(cx N [] [(173,ab9)]).fn 1000 173 (.cons (.int .i64) .nil) .bool
def X5 (N:Nat):aD:=⟨(.cons (.int .i64) .nil),.bool,PS N⟩
theorem PT (N:Nat):aw bX 173 (X5 N):=fJ.bL (fun _ _ h=>by cases h) (by kernel_rfl) (by kernel_rfl)
theorem Hk (N:Nat) (a0:Int):PS N a0 =
 (((bif (decide (a0 < (-100000))) then (some true) else (some (decide (a0 > 100000)))):Option Bool).bind fun o1=>some o1):=by kernel_rfl
-- "codend/codendref01.even"
def UB (N:Nat):Int × Int→Option Bool:=(cx N [] []).fn 1000 174 (.cons (.int .i64) (.cons (.int .i64) .nil)) .bool
def X6 (N:Nat):aD:=⟨(.cons (.int .i64) (.cons (.int .i64) .nil)),.bool,UB N⟩
theorem PU (N:Nat):aw bX 174 (X6 N):=fJ.bL (fun _ _ h=>by cases h) (by kernel_rfl) (by kernel_rfl)
theorem PV (N:Nat) (a0:Int) (a1:Int):UB N (a0,a1) =
 some ((Int.tmod (IntKind.wrap .i64 (a0+a1)) 2) == 0):=by kernel_rfl
def aca:List (Nat × a8):=[(12,.join [(.norm,⟨(.cons .bool .nil),[10],[],[],[],[]⟩)])]
-- "codend/codendref01.CheckKnot"
def DJ (N:Nat):PA→Option Int:=(cx N [(173,X5 N),(174,X6 N)] [(134,aca)]).fn 1000 134 (.cons aW .nil) (.int .i64)
def UC (N:Nat):aD:=⟨(.cons aW .nil),(.int .i64),DJ N⟩
theorem Hl (N:Nat):aw bX 134 (UC N):=fJ.bL (bC (by intro a e h; simp only [List.mem_cons,Prod.mk.injEq,List.not_mem_nil,or_false] at h; rcases h with ⟨rfl,rfl⟩ | ⟨rfl,rfl⟩; exact PT N; exact PU N)) (by kernel_rfl) (by kernel_rfl)
theorem PW (N:Nat) (a0:Int × Int):DJ N a0 =
 (((PS N a0.1).bind fun y1=>(bif y1 then (some true) else (PS N a0.2).bind fun y2=>(some y2)):Option Bool).bind fun o3=>(bif o3 then some 3 else (UB N (a0.1,a0.2)).bind fun y4=>(bif (!y4) then some 14 else some 0))):=by kernel_rfl
-- "codend/codendref04.IsStep"
-- "codend/codendref04.CheckEdge"
-- "codend/codendref04.Moved"
-- "codend/codendref01.SameKnots"
-- "codend/codendlaw04.SeamEdges"
end
end Go.Proofs.YtfiopgedfcaodaaGreatDoor
