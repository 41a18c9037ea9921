/- What the functions compute (printed by a program of ours,checked by the kernel). -/
import Derived.Test.YtfiopgedfcaodaaGreatDoorSeamC
import Derived.Test.YtfiopgedfcaodaaGreatDoorAmKJ
set_option linter.all false
namespace Go.Proofs.YtfiopgedfcaodaaGreatDoor
open Go Go.Am
set_option maxRecDepth 100000
open List (map)
open Int (toNat)
open aA (fits)
noncomputable section
abbrev PA:=Int × Int
abbrev PB:=Int × Int × Int
abbrev PF:=Int × Int × Int × Int × Int × Int
abbrev LA:=List PA
abbrev LB:=List PB
abbrev LF:=List PF
abbrev LZ:=List Int
abbrev LN:=List (Nat × LB)
abbrev LM:=List (PB × Int)
abbrev i6 (x:Int):AV:=.int .i64 x
abbrev kv:EK:=.st (.cons 0 1 false .int (.cons 1 2 true (.st (.cons 0 1 false .int (.cons 1 1 false .int .nil))) .nil))
abbrev p3:aA:=(.int .i64)
abbrev d3 (v:AV):Int:=aA.bh p3 v
abbrev n3 (x:Int):AV:=aA.enc p3 x
abbrev L3 (l:List (Int)):=map n3 l
abbrev F3 (l:List (Int)):=allFit (fits p3) (map n3 l)
abbrev K3 (l:List (Int)):=map d3 (map n3 l)
theorem qi (l:List Int):allFit (fits p3) (map n3 l)=true:=bW (p:=p3) rfl l
theorem qj (l:List Int):map d3 (map n3 l)=l:=dw (p:=p3) rfl l
theorem Ub (x:Int):fits p3 (n3 x)=true:=(aA.aU p3 x rfl).1
theorem ZZ (x:Int):d3 (n3 x)=x:=(aA.aU p3 x rfl).2
abbrev nL:aA:=(.int .i64)
abbrev d24 (v:AV):Int:=aA.bh nL v
abbrev n24 (x:Int):AV:=aA.enc nL x
abbrev tH (l:List (Int)):=map n24 l
abbrev Z0 (l:List (Int)):=allFit (fits nL) (map n24 l)
abbrev Z1 (l:List (Int)):=map d24 (map n24 l)
theorem IR (l:List Int):allFit (fits nL) (map n24 l)=true:=bW (p:=nL) rfl l
theorem IS (l:List Int):map d24 (map n24 l)=l:=dw (p:=nL) rfl l
abbrev aW:aA:=(.agg (.cons (.int .i64) (.cons (.int .i64) .nil)))
abbrev d46 (v:AV):Int × Int:=aA.bh aW v
abbrev n46 (x:Int × Int):AV:=aA.enc aW x
abbrev dG (l:List (Int × Int)):=map n46 l
abbrev DD (l:List (Int × Int)):=allFit (fits aW) (map n46 l)
abbrev DE (l:List (Int × Int)):=map d46 (map n46 l)
theorem vd (l:List (Int × Int)):allFit (fits aW) (map n46 l)=true:=bW (p:=aW) rfl l
theorem vf (l:List (Int × Int)):map d46 (map n46 l)=l:=dw (p:=aW) rfl l
theorem abP (x:Int × Int):fits aW (n46 x)=true:=(aA.aU aW x rfl).1
theorem abQ (x:Int × Int):d46 (n46 x)=x:=(aA.aU aW x rfl).2
def abR:List (Nat × aA):=[(22,(.agg (.cons (.int .i64) (.cons (.int .i64) .nil)))),(45,(.int .i64)),(50,(.list 3 (.agg (.cons (.int .i64) (.cons (.int .i64) (.cons (.int .i64) .nil)))))),(51,(.agg (.cons (.int .i64) (.cons (.int .i64) (.cons (.int .i64) (.cons (.int .i64) (.cons (.int .i64) (.cons (.int .i64) .nil)))))))),(53,(.agg (.cons (.int .i64) (.cons (.int .i64) (.cons (.int .i64) .nil))))),(57,(.agg (.cons (.int .i64) (.cons (.int .i64) (.cons (.int .i64) (.cons (.int .i64) (.cons (.int .i64) (.cons (.int .i64) .nil)))))))),(63,(.agg (.cons (.int .i64) (.cons (.int .i64) (.cons (.int .i64) .nil))))),(74,(.list 3 (.agg (.cons (.int .i64) (.cons (.int .i64) (.cons (.int .i64) .nil)))))),(79,(.list 3 (.agg (.cons (.int .i64) (.cons (.int .i64) (.cons (.int .i64) .nil)))))),(115,(.agg (.cons (.int .i64) (.cons (.int .i64) (.cons (.int .i64) .nil))))),(121,(.agg (.cons (.int .i64) (.cons (.int .i64) .nil)))),(188,(.int .i64)),(196,(.int .i64)),(220,.str),(248,(.int .u8)),(109,(.int .i64)),(177,.bool),(191,(.int .i64))]
def Uc:List (Nat × aA)→Nat→Option aA
 | [],_=>none
 | (a,p) :: l,t=>bif Nat.beq a t then some p else Uc l t
def abS:List (Nat × aA):=[(169,(.aP 3 1 (.int .i64))),(74,(.aP 94 3 (.agg (.cons (.int .i64) (.cons (.int .i64) (.cons (.int .i64) .nil)))))),(79,(.aP 89 3 (.agg (.cons (.int .i64) (.cons (.int .i64) (.cons (.int .i64) .nil))))))]
def bX:Env:={ env with RN:=Uc abR,Zt:=Uc abS }
def Su:NU:={ XS with toEnv:=bX }
def cx (N:Nat) (G4:List (Nat × aD)) (xS:List (Nat × List (Nat × a8))):fJ:={ D:=Su,G4:=IK G4,xS:=KS xS,fz:=false,N:=N }
def Z2 (_N:Nat):Unit→Option Bool:=fun _=>some true
def Ud (N:Nat):aD:=⟨.nil,.bool,Z2 N⟩
theorem Ue (N:Nat):aw bX 16 (Ud N):=fun x y h=>by
 cases h
 exact ck.env (E:=env) rfl rfl (ck.mono DC fun r ⟨y,h1,h2⟩=>by rw [h1,h2]; rfl)
def c90:List (Nat × a8):=[(26,.loop [] ⟨(.cons (.int .i64) .nil),[7],[],[],[],[]⟩ [(.ret,⟨(.cons (.int .i64) .nil),[2],[],[],[],[]⟩),(.ex 0,⟨.nil,[],[],[],[],[]⟩)])]
-- "codend/seam.first"
def Cd (N:Nat):LZ→Option Int:=(cx N [] [(90,c90)]).fn 1000 90 (.cons (.list 1 (.int .i64)) .nil) (.int .i64)
def Nl (N:Nat):aD:=⟨(.cons (.list 1 (.int .i64)) .nil),(.int .i64),Cd N⟩
theorem BF (N:Nat):aw bX 90 (Nl N):=fJ.bL (fun _ _ h=>by cases h) (by kernel_rfl) (by kernel_rfl)
def qP (N:Nat) (a0:List Int) (v1:Int):Option (Int ⊕ (Int ⊕ Unit)):=
 (bif (decide (v1 < (((tH a0).length:Nat):Int))) then bif (decide ((0:Int)≤v1∧v1 < ((tH a0).length:Int))&&fits nL (ab (tH a0) (toNat v1))) then (bif ((d24 (ab (tH a0) (toNat v1))) != 0) then (some (Sum.inr (Sum.inl (d24 (ab (tH a0) (toNat v1)))))) else (some (Sum.inl (IntKind.wrap .i64 (v1+1))))) else none else (some (Sum.inr (Sum.inr ()))))
theorem Uf (N:Nat) (a0:List Int):Cd N a0 =
 ((ak (qP N a0) N 0).bind fun o6=>(Sum.elim (fun o7=>some o7) (fun o8=>some 0) o6)):=by kernel_rfl
-- "codend/seam.when"
def BG (N:Nat):Bool × Int→Option Int:=(cx N [] []).fn 1000 91 (.cons .bool (.cons (.int .i64) .nil)) (.int .i64)
def Ug (N:Nat):aD:=⟨(.cons .bool (.cons (.int .i64) .nil)),(.int .i64),BG N⟩
theorem BH (N:Nat):aw bX 91 (Ug N):=fJ.bL (fun _ _ h=>by cases h) (by kernel_rfl) (by kernel_rfl)
theorem Uh (N:Nat) (a0:Bool) (a1:Int):BG N (a0,a1) =
 (bif a0 then some a1 else some 0):=by kernel_rfl
def c93:List (Nat × a8):=[(6,.join [(.norm,⟨(.cons (.int .i64) .nil),[6],[],[],[],[]⟩)])]
-- "codend/seam.within"
def Wj (N:Nat):Int × Int × Int→Option Int:=(cx N [(91,Ug N)] [(93,c93)]).fn 1000 93 (.cons (.int .i64) (.cons (.int .i64) (.cons (.int .i64) .nil))) (.int .i64)
def Wk (N:Nat):aD:=⟨(.cons (.int .i64) (.cons (.int .i64) (.cons (.int .i64) .nil))),(.int .i64),Wj N⟩
theorem Lx (N:Nat):aw bX 93 (Wk N):=fJ.bL (bC (by intro a e h; simp only [List.mem_cons,Prod.mk.injEq,List.not_mem_nil,or_false] at h; rcases h with ⟨rfl,rfl⟩; exact BH N)) (by kernel_rfl) (by kernel_rfl)
theorem Ui (N:Nat) (a0:Int) (a1:Int) (a2:Int):Wj N (a0,a1,a2) =
 (((bif (decide (a0 < a1)) then (BG N (true,3)).bind fun y1=>(some y1) else (BG N ((decide (a0 > a2)),3)).bind fun y2=>(some y2)):Option Int).bind fun o3=>some o3):=by kernel_rfl
-- "codend/seam.checkMeshes"
def T86 (N:Nat):Int × Int→Option Int:=(cx N [(90,Nl N),(93,Wk N)] []).fn 1000 86 (.cons (.int .i64) (.cons (.int .i64) .nil)) (.int .i64)
def e86 (N:Nat):aD:=⟨(.cons (.int .i64) (.cons (.int .i64) .nil)),(.int .i64),T86 N⟩
def Pz:List (Nat × a8):=[(14,.loop [(.row 2 0,2,46)] ⟨(.cons (.int .i64) (.cons (.int .i64) (.cons (.int .i64) (.cons (.own 5 2 aW) .nil)))),[10],[],[],[.row 1,.row 1,.row 1,.bQ,.lp .open_,.tok 3 2 46],[]⟩ [(.ex 0,⟨(.cons (.int .i64) (.cons (.int .i64) (.cons (.own 5 2 aW) .nil))),[],[],[],[.row 1,.row 1,.row 1,.bQ,.lp .open_,.tok 2 2 46],[]⟩)])]
-- "codend/seam.Joins"
def T17 (N:Nat):Int × Int→Option (LA × Int):=(cx N [(86,e86 N)] [(158,Pz)]).fn 1000 17 (.cons (.int .i64) (.cons (.int .i64) .nil)) (.bH (.cons (.list 2 aW) (.cons (.int .i64) .nil)))
def e17 (N:Nat):aD:=⟨(.cons (.int .i64) (.cons (.int .i64) .nil)),(.bH (.cons (.list 2 aW) (.cons (.int .i64) .nil))),T17 N⟩
def c89:List (Nat × a8):=[(12,.loop [] ⟨(.cons (.int .i64) (.cons (.int .i64) .nil)),[0,1],[],[],[],[]⟩ [(.ex 0,⟨(.cons (.int .i64) .nil),[0],[],[],[],[]⟩)])]
-- "codend/seam.divisor"
def T89 (N:Nat):Int × Int→Option Int:=(cx N [] [(89,c89)]).fn 1000 89 (.cons (.int .i64) (.cons (.int .i64) .nil)) (.int .i64)
def e89 (N:Nat):aD:=⟨(.cons (.int .i64) (.cons (.int .i64) .nil)),(.int .i64),T89 N⟩
-- "codend/seam.Takeup"
def T18 (N:Nat):Int × Int→Option (PA × Int):=(cx N [(86,e86 N),(89,e89 N)] []).fn 1000 18 (.cons (.int .i64) (.cons (.int .i64) .nil)) (.bH (.cons aW (.cons (.int .i64) .nil)))
def e18 (N:Nat):aD:=⟨(.cons (.int .i64) (.cons (.int .i64) .nil)),(.bH (.cons aW (.cons (.int .i64) .nil))),T18 N⟩
def c92:List (Nat × a8):=[(14,.join [(.norm,⟨(.cons .bool .nil),[8],[],[],[],[]⟩)])]
-- "codend/seam.follows"
def T92 (N:Nat):Int × Int × PA × PA→Option Bool:=(cx N [] [(92,c92)]).fn 1000 92 (.cons (.int .i64) (.cons (.int .i64) (.cons aW (.cons aW .nil)))) .bool
def e92 (N:Nat):aD:=⟨(.cons (.int .i64) (.cons (.int .i64) (.cons aW (.cons aW .nil)))),.bool,T92 N⟩
def c19:List (Nat × a8):=[(58,.loop [] ⟨(.cons (.int .i64) .nil),[29],[],[],[],[]⟩ [(.ret,⟨(.cons (.int .i64) .nil),[6],[],[],[],[]⟩),(.ex 0,⟨.nil,[],[],[],[],[]⟩)]),
 (29901,.join [(.norm,⟨(.cons .bool .nil),[10],[],[],[],[]⟩)])]
-- "codend/seam.CheckJoins"
def T19 (N:Nat):Int × Int × LA→Option Int:=(cx N [(86,e86 N),(90,Nl N),(91,Ug N),(92,e92 N),(93,Wk N)] [(19,c19)]).fn 1000 19 (.cons (.int .i64) (.cons (.int .i64) (.cons (.list 2 aW) .nil))) (.int .i64)
def e19 (N:Nat):aD:=⟨(.cons (.int .i64) (.cons (.int .i64) (.cons (.list 2 aW) .nil))),(.int .i64),T19 N⟩
def c20:List (Nat × a8):=[(6,.join [(.norm,⟨(.cons (.list 2 aW) .nil),[2],[],[],[],[]⟩)])]
-- "codend/codendlaw04.pairs"
def T20 (N:Nat):LA→Option (LA):=(cx N [] [(20,c20)]).fn 1000 20 (.cons (.list 2 aW) .nil) (.list 2 aW)
def e20 (N:Nat):aD:=⟨(.cons (.list 2 aW) .nil),(.list 2 aW),T20 N⟩
def c28:List (Nat × a8):=[(26,.loop [] ⟨(.cons (.int .i64) .nil),[3],[],[],[],[]⟩ [(.ret,⟨(.cons (.int .i64) .nil),[2],[],[],[],[]⟩),(.ex 0,⟨.nil,[],[],[],[],[]⟩)])]
-- "codend/codendref01.First"
def Z3 (N:Nat):LZ→Option Int:=(cx N [] [(28,c28)]).fn 1000 28 (.cons (.list 1 (.int .i64)) .nil) (.int .i64)
def XU (N:Nat):aD:=⟨(.cons (.list 1 (.int .i64)) .nil),(.int .i64),Z3 N⟩
theorem Uj (N:Nat):aw bX 28 (XU N):=fJ.bL (fun _ _ h=>by cases h) (by kernel_rfl) (by kernel_rfl)
def BI (N:Nat) (a0:List Int) (v1:Int):Option (Int ⊕ (Int ⊕ Unit)):=
 (bif (decide (v1 < (((L3 a0).length:Nat):Int))) then bif (decide ((0:Int)≤v1∧v1 < ((L3 a0).length:Int))&&fits p3 (ab (L3 a0) (toNat v1))) then (bif ((d3 (ab (L3 a0) (toNat v1))) != 0) then bif (decide ((0:Int)≤v1∧v1 < ((L3 a0).length:Int))&&fits p3 (ab (L3 a0) (toNat v1))) then (some (Sum.inr (Sum.inl (d3 (ab (L3 a0) (toNat v1)))))) else none else (some (Sum.inl (IntKind.wrap .i64 (v1+1))))) else none else (some (Sum.inr (Sum.inr ()))))
theorem Uk (N:Nat) (a0:List Int):Z3 N a0 =
 ((ak (BI N a0) N 0).bind fun o6=>(Sum.elim (fun o7=>some o7) (fun o8=>some 0) o6)):=by kernel_rfl
def c94:List (Nat × a8):=[(12,.join [(.norm,⟨(.cons .bool .nil),[14],[],[],[],[]⟩)])]
-- "codend/codendref01.CheckRange"
def Z4 (N:Nat):Int × Int × Int→Option Int:=(cx N [] [(94,c94)]).fn 1000 94 (.cons (.int .i64) (.cons (.int .i64) (.cons (.int .i64) .nil))) (.int .i64)
def e94 (N:Nat):aD:=⟨(.cons (.int .i64) (.cons (.int .i64) (.cons (.int .i64) .nil))),(.int .i64),Z4 N⟩
theorem Ul (N:Nat):aw bX 94 (e94 N):=fJ.bL (fun _ _ h=>by cases h) (by kernel_rfl) (by kernel_rfl)
theorem Um (N:Nat) (a0:Int) (a1:Int) (a2:Int):Z4 N (a0,a1,a2) =
 (((bif (decide (a0 < a1)) then (some true) else (some (decide (a0 > a2)))):Option Bool).bind fun o1=>(bif o1 then some 3 else some 0)):=by kernel_rfl
-- "codend/codendref04.CheckMeshes"
def T21 (N:Nat):Int × Int→Option Int:=(cx N [(28,XU N),(94,e94 N)] []).fn 1000 21 (.cons (.int .i64) (.cons (.int .i64) .nil)) (.int .i64)
def e21 (N:Nat):aD:=⟨(.cons (.int .i64) (.cons (.int .i64) .nil)),(.int .i64),T21 N⟩
def c22:List (Nat × a8):=[(122,.loop [(.slot 6,2,46)] ⟨(.cons (.own 0 2 aW) (.cons (.int .i64) .nil)),[6,7],[],[],[.tok 0 2 46],[]⟩ [(.ex 0,⟨(.cons (.own 0 2 aW) .nil),[6],[],[],[.tok 0 2 46],[]⟩)])]
-- "codend/codendref04.Joins"
def T22 (N:Nat):Int × Int→Option (LA):=(cx N [] [(22,c22)]).fn 1000 22 (.cons (.int .i64) (.cons (.int .i64) .nil)) (.list 2 aW)
def e22 (N:Nat):aD:=⟨(.cons (.int .i64) (.cons (.int .i64) .nil)),(.list 2 aW),T22 N⟩
def c23:List (Nat × a8):=[(26,.loop [] ⟨(.cons (.int .i64) (.cons (.int .i64) (.cons (.int .i64) .nil))),[5],[],[(4,2)],[],[]⟩ [(.ret,⟨(.cons (.int .i64) (.cons (.int .i64) .nil)),[],[],[(4,2)],[],[]⟩),(.ex 0,⟨(.cons (.int .i64) (.cons (.int .i64) .nil)),[],[],[(4,2)],[],[]⟩)]),
 (840,.join [(.norm,⟨(.cons .bool .nil),[22],[],[],[],[]⟩)])]
-- "codend/codendref04.Takeup"
def T23 (N:Nat):Int × Int→Option (PA):=(cx N [] [(23,c23)]).fn 1000 23 (.cons (.int .i64) (.cons (.int .i64) .nil)) aW
def e23 (N:Nat):aD:=⟨(.cons (.int .i64) (.cons (.int .i64) .nil)),aW,T23 N⟩
def c24:List (Nat × a8):=[(58,.loop [] ⟨(.cons (.int .i64) .nil),[5],[],[],[],[]⟩ [(.ret,⟨(.cons .bool .nil),[4],[],[],[],[]⟩),(.ex 0,⟨.nil,[],[],[],[],[]⟩)])]
-- "codend/codendref04.SamePairs"
def T24 (N:Nat):LA × LA→Option Bool:=(cx N [] [(24,c24)]).fn 1000 24 (.cons (.list 2 aW) (.cons (.list 2 aW) .nil)) .bool
def e24 (N:Nat):aD:=⟨(.cons (.list 2 aW) (.cons (.list 2 aW) .nil)),.bool,T24 N⟩
def c95:List (Nat × a8):=[(62,.join [(.norm,⟨(.cons .bool .nil),[8],[],[],[],[]⟩)]),
 (116,.join [(.norm,⟨(.cons .bool .nil),[8],[],[],[],[]⟩)]),
 (244,.join [(.norm,⟨(.cons .bool .nil),[8],[],[],[],[]⟩)])]
-- "codend/codendref04.follows"
def T95 (N:Nat):Int × Int × PA × PA→Option Bool:=(cx N [] [(95,c95)]).fn 1000 95 (.cons (.int .i64) (.cons (.int .i64) (.cons aW (.cons aW .nil)))) .bool
def e95 (N:Nat):aD:=⟨(.cons (.int .i64) (.cons (.int .i64) (.cons aW (.cons aW .nil)))),.bool,T95 N⟩
def c25:List (Nat × a8):=[(250,.loop [] ⟨(.cons (.int .i64) .nil),[8],[],[],[],[]⟩ [(.ret,⟨(.cons (.int .i64) .nil),[6],[],[],[],[]⟩),(.ex 0,⟨.nil,[],[],[],[],[]⟩)]),
 (16016,.join [(.norm,⟨(.cons .bool .nil),[58],[],[],[],[]⟩)]),
 (32036,.join [(.norm,⟨(.cons .bool .nil),[67],[],[],[],[]⟩)]),
 (32038,.join [(.norm,⟨(.cons .bool .nil),[84],[],[],[],[]⟩)])]
-- "codend/codendref04.CheckJoins"
def T25 (N:Nat):Int × Int × LA→Option Int:=(cx N [(21,e21 N),(95,e95 N)] [(25,c25)]).fn 1000 25 (.cons (.int .i64) (.cons (.int .i64) (.cons (.list 2 aW) .nil))) (.int .i64)
def e25 (N:Nat):aD:=⟨(.cons (.int .i64) (.cons (.int .i64) (.cons (.list 2 aW) .nil))),(.int .i64),T25 N⟩
def c3:List (Nat × a8):=[(2045,.join [(.norm,⟨(.cons (.list 2 aW) (.cons (.int .i64) (.cons (.int .i64) .nil))),[13],[],[(14,2)],[],[]⟩)]),
 (2046,.join [(.norm,⟨(.cons .bool .nil),[6],[],[],[],[]⟩)])]
-- "codend/codendlaw04.SeamJoins"
def T3 (N:Nat):Int × Int × LA→Option Bool:=(cx N [(16,Ud N),(17,e17 N),(18,e18 N),(19,e19 N),(20,e20 N),(21,e21 N),(22,e22 N),(23,e23 N),(24,e24 N),(25,e25 N)] [(3,c3)]).fn 1000 3 (.cons (.int .i64) (.cons (.int .i64) (.cons (.list 2 aW) .nil))) .bool
def e3 (N:Nat):aD:=⟨(.cons (.int .i64) (.cons (.int .i64) (.cons (.list 2 aW) .nil))),.bool,T3 N⟩
end
end Go.Proofs.YtfiopgedfcaodaaGreatDoor
