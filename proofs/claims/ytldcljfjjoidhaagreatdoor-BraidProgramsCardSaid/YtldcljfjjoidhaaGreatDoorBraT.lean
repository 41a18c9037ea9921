/- What the functions compute (printed by a program of ours,checked by the kernel). -/
import Derived.Test.YtldcljfjjoidhaaGreatDoorBraLg
set_option linter.all false
namespace Go.Proofs.YtldcljfjjoidhaaGreatDoor
open Go Go.Am
set_option maxRecDepth 100000
abbrev nJ:aj:=(.agg (.cons (.int .i64) (.cons (.int .i64) (.cons .bool (.cons .bool (.cons (.int .i64) .nil))))))
abbrev d88 (v:AV):Int × Int × Bool × Bool × Int:=aj.bi nJ v
abbrev bR (x:Int × Int × Bool × Bool × Int):AV:=aj.enc nJ x
theorem J5 (l:List (Int × Int × Bool × Bool × Int)):allFit (aj.fits nJ) (List.map bR l)=true:=dK (p:=nJ) rfl l
theorem J6 (l:List (Int × Int × Bool × Bool × Int)):List.map d88 (List.map bR l)=l:=gL (p:=nJ) rfl l
theorem aai (x:Int × Int × Bool × Bool × Int):aj.fits nJ (bR x)=true:=(aj.bK nJ x rfl).1
theorem aaj (x:Int × Int × Bool × Bool × Int):d88 (bR x)=x:=(aj.bK nJ x rfl).2
def c26:List (Nat × cu):=[(12,.join [(.norm,⟨(.cons .bool .nil),[14],[],[],[],[]⟩)]),
 (58,.loop [] ⟨(.cons (.int .i64) .nil),[5],[],[],[],[]⟩ [(.ret,⟨(.cons .bool .nil),[4],[],[],[],[]⟩),(.ex 0,⟨.nil,[],[],[],[],[]⟩)]),
 (1864,.join [(.norm,⟨(.cons .bool .nil),[34],[],[],[],[]⟩)])]
-- "codend/codendref08.Short"
noncomputable def WH (N:Nat):(List (Int × Int × Bool × Bool × Int)) × Int→Option Bool:=(cx N [] [(26,c26)]).fn 1000 26 (.cons (.list 5 (.agg (.cons (.int .i64) (.cons (.int .i64) (.cons .bool (.cons .bool (.cons (.int .i64) .nil))))))) (.cons (.int .i64) .nil)) .bool
noncomputable def e26 (N:Nat):aJ:=⟨(.cons (.list 5 (.agg (.cons (.int .i64) (.cons (.int .i64) (.cons .bool (.cons .bool (.cons (.int .i64) .nil))))))) (.cons (.int .i64) .nil)),.bool,WH N⟩
theorem Sy (N:Nat):an bC 26 (e26 N):=ea.bl (fun _ _ h=>by cases h) (by kernel_rfl) (by kernel_rfl)
noncomputable def wo (N:Nat) (a0:List (Int × Int × Bool × Bool × Int)) (v2:Int):Option (Int ⊕ (Bool ⊕ Unit)):=
 (bif (decide (v2 < ((((List.map bR a0)).length:Nat):Int))) then ((bif (decide ((0:Int)≤v2∧v2 < (((List.map bR a0)).length:Int))&&aj.fits nJ (ah (List.map bR a0) (Int.toNat v2))) then (bif (decide ((d88 (ah (List.map bR a0) (Int.toNat v2))).2.2.2.2 > 12)) then bif (decide ((0:Int)≤v2∧v2 < (((List.map bR a0)).length:Int))&&aj.fits nJ (ah (List.map bR a0) (Int.toNat v2))) then (some (decide ((d88 (ah (List.map bR a0) (Int.toNat v2))).2.2.2.2≤512))) else none else (some false)) else none:Option Bool).bind fun o3=>(bif o3 then (some (Sum.inr (Sum.inl false))) else (some (Sum.inl (IntKind.wrap .i64 (v2+1)))))) else (some (Sum.inr (Sum.inr ()))))
theorem Sz (N:Nat) (a0:List (Int × Int × Bool × Bool × Int)) (a1:Int):WH N (a0,a1) =
 (((bif (decide (((((List.map bR a0)).length:Nat):Int) > a1)) then (some (((((List.map bR a0)).length:Nat):Int) != 257)) else (some false)):Option Bool).bind fun o1=>(bif o1 then some false else ((az (V:=Int) (X:=Bool ⊕ Unit) (wo N a0) N 0).bind fun o8=>(Sum.elim (fun o9=>some o9) (fun Il=>some true) o8)))):=by kernel_rfl
def c51:List (Nat × cu):=[(58,.loop [] ⟨(.cons (.int .i64) .nil),[5],[],[],[],[]⟩ [(.ret,⟨(.cons .bool .nil),[4],[],[],[],[]⟩),(.ex 0,⟨.nil,[],[],[],[],[]⟩)])]
-- "codend/codendref01.SameKnots"
noncomputable def XZ (N:Nat):(List (Int × Int)) × (List (Int × Int))→Option Bool:=(cx N [] [(51,c51)]).fn 1000 51 (.cons (.list 2 (.agg (.cons (.int .i64) (.cons (.int .i64) .nil)))) (.cons (.list 2 (.agg (.cons (.int .i64) (.cons (.int .i64) .nil)))) .nil)) .bool
noncomputable def e51 (N:Nat):aJ:=⟨(.cons (.list 2 (.agg (.cons (.int .i64) (.cons (.int .i64) .nil)))) (.cons (.list 2 (.agg (.cons (.int .i64) (.cons (.int .i64) .nil)))) .nil)),.bool,XZ N⟩
theorem SA (N:Nat):an bC 51 (e51 N):=ea.bl (fun _ _ h=>by cases h) (by kernel_rfl) (by kernel_rfl)
noncomputable def wq (N:Nat) (a0:List (Int × Int)) (a1:List (Int × Int)) (v1:Int):Option (Int ⊕ (Bool ⊕ Unit)):=
 (bif (decide (v1 < ((((List.map av a0)).length:Nat):Int))) then bif (decide ((0:Int)≤v1∧v1 < (((List.map av a0)).length:Int))&&aj.fits cG (ah (List.map av a0) (Int.toNat v1))) then bif (decide ((0:Int)≤v1∧v1 < (((List.map av a1)).length:Int))&&aj.fits cG (ah (List.map av a1) (Int.toNat v1))) then (bif (!(((d86 (ah (List.map av a0) (Int.toNat v1))).1 == (d86 (ah (List.map av a1) (Int.toNat v1))).1)&&(((d86 (ah (List.map av a0) (Int.toNat v1))).2 == (d86 (ah (List.map av a1) (Int.toNat v1))).2)&&true))) then (some (Sum.inr (Sum.inl false))) else (some (Sum.inl (IntKind.wrap .i64 (v1+1))))) else none else none else (some (Sum.inr (Sum.inr ()))))
theorem SB (N:Nat) (a0:List (Int × Int)) (a1:List (Int × Int)):XZ N (a0,a1) =
 (bif (((((List.map av a0)).length:Nat):Int) != ((((List.map av a1)).length:Nat):Int)) then some false else ((az (V:=Int) (X:=Bool ⊕ Unit) (wq N a0 a1) N 0).bind fun o6=>(Sum.elim (fun o7=>some o7) (fun o8=>some true) o6))):=by kernel_rfl
def c78:List (Nat × cu):=[(26,.loop [] ⟨(.cons (.int .i64) .nil),[7],[],[],[],[]⟩ [(.ret,⟨(.cons (.int .i64) .nil),[2],[],[],[],[]⟩),(.ex 0,⟨.nil,[],[],[],[],[]⟩)])]
-- "codend/braid.first"
noncomputable def Ux (N:Nat):(List Int)→Option Int:=(cx N [] [(78,c78)]).fn 1000 78 (.cons (.list 1 (.int .i64)) .nil) (.int .i64)
noncomputable def e78 (N:Nat):aJ:=⟨(.cons (.list 1 (.int .i64)) .nil),(.int .i64),Ux N⟩
theorem J7 (N:Nat):an bC 78 (e78 N):=ea.bl (fun _ _ h=>by cases h) (by kernel_rfl) (by kernel_rfl)
noncomputable def zV (N:Nat) (a0:List Int) (v1:Int):Option (Int ⊕ (Int ⊕ Unit)):=
 (bif (decide (v1 < ((((List.map n26 a0)).length:Nat):Int))) then bif (decide ((0:Int)≤v1∧v1 < (((List.map n26 a0)).length:Int))&&aj.fits zS (ah (List.map n26 a0) (Int.toNat v1))) then (bif ((d26 (ah (List.map n26 a0) (Int.toNat v1))) != 0) then (some (Sum.inr (Sum.inl (d26 (ah (List.map n26 a0) (Int.toNat v1)))))) else (some (Sum.inl (IntKind.wrap .i64 (v1+1))))) else none else (some (Sum.inr (Sum.inr ()))))
theorem SC (N:Nat) (a0:List Int):Ux N a0 =
 ((az (V:=Int) (X:=Int ⊕ Unit) (zV N a0) N 0).bind fun o6=>(Sum.elim (fun o7=>some o7) (fun o8=>some 0) o6)):=by kernel_rfl
-- "codend/braid.when"
noncomputable def SD (N:Nat):Bool × Int→Option Int:=(cx N [] []).fn 1000 80 (.cons .bool (.cons (.int .i64) .nil)) (.int .i64)
noncomputable def e80 (N:Nat):aJ:=⟨(.cons .bool (.cons (.int .i64) .nil)),(.int .i64),SD N⟩
theorem J8 (N:Nat):an bC 80 (e80 N):=ea.bl (fun _ _ h=>by cases h) (by kernel_rfl) (by kernel_rfl)
theorem SE (N:Nat) (a0:Bool) (a1:Int):SD N (a0,a1) =
 (bif a0 then some a1 else some 0):=by kernel_rfl
def c90:List (Nat × cu):=[(6,.join [(.norm,⟨(.cons (.int .i64) .nil),[6],[],[],[],[]⟩)])]
-- "codend/braid.within"
noncomputable def X0 (N:Nat):Int × Int × Int→Option Int:=(cx N [(80,e80 N)] [(90,c90)]).fn 1000 90 (.cons (.int .i64) (.cons (.int .i64) (.cons (.int .i64) .nil))) (.int .i64)
noncomputable def e90 (N:Nat):aJ:=⟨(.cons (.int .i64) (.cons (.int .i64) (.cons (.int .i64) .nil))),(.int .i64),X0 N⟩
theorem SF (N:Nat):an bC 90 (e90 N):=ea.bl (aQ (by intro a e h; simp only [List.mem_cons,Prod.mk.injEq,List.not_mem_nil,or_false] at h; rcases h with ⟨rfl,rfl⟩; exact J8 N)) (by kernel_rfl) (by kernel_rfl)
theorem SG (N:Nat) (a0:Int) (a1:Int) (a2:Int):X0 N (a0,a1,a2) =
 (((bif (decide (a0 < a1)) then (SD N (true,3)).bind fun y1=>(some y1) else (SD N ((decide (a0 > a2)),3)).bind fun y2=>(some y2)):Option Int).bind fun o3=>some o3):=by kernel_rfl
-- "codend/braid.sign"
noncomputable def Od (N:Nat):Bool→Option Int:=(cx N [] []).fn 1000 152 (.cons .bool .nil) (.int .i64)
noncomputable def WI (N:Nat):aJ:=⟨(.cons .bool .nil),(.int .i64),Od N⟩
theorem Oe (N:Nat):an bC 152 (WI N):=ea.bl (fun _ _ h=>by cases h) (by kernel_rfl) (by kernel_rfl)
theorem E5 (N:Nat) (a0:Bool):Od N a0 =
 (bif a0 then some 1 else some (-1)):=by kernel_rfl
-- "(codend/braid.Course).knot"
noncomputable def nK (N:Nat):(Int × Int × Bool × Bool × Int) × Int→Option ((Int × Int)):=(cx N [(152,WI N)] []).fn 1000 109 (.cons (.agg (.cons (.int .i64) (.cons (.int .i64) (.cons .bool (.cons .bool (.cons (.int .i64) .nil)))))) (.cons (.int .i64) .nil)) (.agg (.cons (.int .i64) (.cons (.int .i64) .nil)))
noncomputable def BU (N:Nat):aJ:=⟨(.cons (.agg (.cons (.int .i64) (.cons (.int .i64) (.cons .bool (.cons .bool (.cons (.int .i64) .nil)))))) (.cons (.int .i64) .nil)),(.agg (.cons (.int .i64) (.cons (.int .i64) .nil))),nK N⟩
theorem ms (N:Nat):an bC 109 (BU N):=ea.bl (aQ (by intro a e h; simp only [List.mem_cons,Prod.mk.injEq,List.not_mem_nil,or_false] at h; rcases h with ⟨rfl,rfl⟩; exact Oe N)) (by kernel_rfl) (by kernel_rfl)
theorem Of (N:Nat) (a0:Int × Int × Bool × Bool × Int) (a1:Int):nK N (a0,a1) =
 (Od N a0.2.2.1).bind fun y1=>bif ((a0.2.2.2.1 == a0.2.2.2.1)&&((a0.2.1 == a0.2.1)&&((a0.1 == a0.1)&&true))) then (Od N a0.2.2.2.1).bind fun y2=>bif ((a0.2.1 == a0.2.1)&&((a0.1 == a0.1)&&true)) then some ((IntKind.wrap .i64 (a0.1+(IntKind.wrap .i64 (a1 * y1)))),(IntKind.wrap .i64 (a0.2.1+(IntKind.wrap .i64 ((Int.tmod a1 2) * y2))))) else none else none:=by kernel_rfl
def aam:List (Nat × cu):=[(58,.loop [] ⟨(.cons (.int .i64) .nil),[20],[],[],[],[]⟩ [(.ret,⟨(.cons (.int .i64) .nil),[2],[],[],[],[]⟩),(.ex 0,⟨.nil,[],[],[],[],[]⟩)])]
-- "(codend/braid.Course).check"
noncomputable def J9 (N:Nat):(Int × Int × Bool × Bool × Int)→Option Int:=(cx N [(78,e78 N),(90,e90 N),(109,BU N),(151,R7 N)] [(108,aam)]).fn 1000 108 (.cons (.agg (.cons (.int .i64) (.cons (.int .i64) (.cons .bool (.cons .bool (.cons (.int .i64) .nil)))))) .nil) (.int .i64)
noncomputable def WJ (N:Nat):aJ:=⟨(.cons (.agg (.cons (.int .i64) (.cons (.int .i64) (.cons .bool (.cons .bool (.cons (.int .i64) .nil)))))) .nil),(.int .i64),J9 N⟩
theorem Og (N:Nat):an bC 108 (WJ N):=ea.bl (aQ (by intro a e h; simp only [List.mem_cons,Prod.mk.injEq,List.not_mem_nil,or_false] at h; rcases h with ⟨rfl,rfl⟩ | ⟨rfl,rfl⟩ | ⟨rfl,rfl⟩ | ⟨rfl,rfl⟩; exact J7 N; exact SF N; exact ms N; exact E0 N)) (by kernel_rfl) (by kernel_rfl)
noncomputable def tZ (N:Nat) (a0:Int × Int × Bool × Bool × Int) (v5:Int):Option (Int ⊕ (Int ⊕ Unit)):=
 (bif (decide (v5 < (IntKind.wrap .i64 (a0.2.2.2.2+1)))) then (nK N ((a0.1,a0.2.1,a0.2.2.1,a0.2.2.2.1,a0.2.2.2.2),v5)).bind fun y6=>(BN N (y6.1,y6.2)).bind fun y7=>(bif (y7 != 0) then (some (Sum.inr (Sum.inl y7))) else (some (Sum.inl (IntKind.wrap .i64 (v5+1))))) else (some (Sum.inr (Sum.inr ()))))
theorem Oh (N:Nat) (a0:Int × Int × Bool × Bool × Int):J9 N a0 =
 (BN N (a0.1,a0.2.1)).bind fun y1=>bif ((a0.2.2.2.2 == a0.2.2.2.2)&&true) then (X0 N (a0.2.2.2.2,1,512)).bind fun y2=>((bif (allFit (aj.fits zS) [(AV.int .i64 y1),(AV.int .i64 y2)]&&true) then some (List.map d26 [(AV.int .i64 y1),(AV.int .i64 y2)]) else none:Option ((List Int))).bind fun x4=>(Ux N x4).bind fun y3=>(bif (y3 != 0) then some y3 else ((az (V:=Int) (X:=Int ⊕ Unit) (tZ N a0) N 0).bind fun Al=>(Sum.elim (fun An=>some An) (fun JH=>some 0) Al)))) else none:=by kernel_rfl
-- "codend/braid.Walk"
-- "(codend/braid.Course).end"
noncomputable def Oi (N:Nat):(Int × Int × Bool × Bool × Int)→Option ((Int × Int)):=(cx N [(109,BU N)] []).fn 1000 110 (.cons (.agg (.cons (.int .i64) (.cons (.int .i64) (.cons .bool (.cons .bool (.cons (.int .i64) .nil)))))) .nil) (.agg (.cons (.int .i64) (.cons (.int .i64) .nil)))
noncomputable def Oj (N:Nat):aJ:=⟨(.cons (.agg (.cons (.int .i64) (.cons (.int .i64) (.cons .bool (.cons .bool (.cons (.int .i64) .nil)))))) .nil),(.agg (.cons (.int .i64) (.cons (.int .i64) .nil))),Oi N⟩
theorem Ol (N:Nat):an bC 110 (Oj N):=ea.bl (aQ (by intro a e h; simp only [List.mem_cons,Prod.mk.injEq,List.not_mem_nil,or_false] at h; rcases h with ⟨rfl,rfl⟩; exact ms N)) (by kernel_rfl) (by kernel_rfl)
theorem Om (N:Nat) (a0:Int × Int × Bool × Bool × Int):Oi N a0 =
 (nK N ((a0.1,a0.2.1,a0.2.2.1,a0.2.2.2.1,a0.2.2.2.2),a0.2.2.2.2)).bind fun y1=>some (y1.1,y1.2):=by kernel_rfl
-- "codend/braid.End"
def c32:List (Nat × cu):=[(26,.loop [] ⟨(.cons (.int .i64) .nil),[3],[],[],[],[]⟩ [(.ret,⟨(.cons (.int .i64) .nil),[2],[],[],[],[]⟩),(.ex 0,⟨.nil,[],[],[],[],[]⟩)])]
-- "codend/codendref01.First"
noncomputable def X1 (N:Nat):(List Int)→Option Int:=(cx N [] [(32,c32)]).fn 1000 32 (.cons (.list 1 (.int .i64)) .nil) (.int .i64)
noncomputable def e32 (N:Nat):aJ:=⟨(.cons (.list 1 (.int .i64)) .nil),(.int .i64),X1 N⟩
theorem SH (N:Nat):an bC 32 (e32 N):=ea.bl (fun _ _ h=>by cases h) (by kernel_rfl) (by kernel_rfl)
noncomputable def zW (N:Nat) (a0:List Int) (v1:Int):Option (Int ⊕ (Int ⊕ Unit)):=
 (bif (decide (v1 < ((((List.map n3 a0)).length:Nat):Int))) then bif (decide ((0:Int)≤v1∧v1 < (((List.map n3 a0)).length:Int))&&aj.fits p3 (ah (List.map n3 a0) (Int.toNat v1))) then (bif ((d3 (ah (List.map n3 a0) (Int.toNat v1))) != 0) then bif (decide ((0:Int)≤v1∧v1 < (((List.map n3 a0)).length:Int))&&aj.fits p3 (ah (List.map n3 a0) (Int.toNat v1))) then (some (Sum.inr (Sum.inl (d3 (ah (List.map n3 a0) (Int.toNat v1)))))) else none else (some (Sum.inl (IntKind.wrap .i64 (v1+1))))) else none else (some (Sum.inr (Sum.inr ()))))
theorem SI (N:Nat) (a0:List Int):X1 N a0 =
 ((az (V:=Int) (X:=Int ⊕ Unit) (zW N a0) N 0).bind fun o6=>(Sum.elim (fun o7=>some o7) (fun o8=>some 0) o6)):=by kernel_rfl
def c33:List (Nat × cu):=[(12,.join [(.norm,⟨(.cons .bool .nil),[14],[],[],[],[]⟩)])]
-- "codend/codendref01.CheckRange"
noncomputable def X2 (N:Nat):Int × Int × Int→Option Int:=(cx N [] [(33,c33)]).fn 1000 33 (.cons (.int .i64) (.cons (.int .i64) (.cons (.int .i64) .nil))) (.int .i64)
noncomputable def e33 (N:Nat):aJ:=⟨(.cons (.int .i64) (.cons (.int .i64) (.cons (.int .i64) .nil))),(.int .i64),X2 N⟩
theorem SJ (N:Nat):an bC 33 (e33 N):=ea.bl (fun _ _ h=>by cases h) (by kernel_rfl) (by kernel_rfl)
theorem SK (N:Nat) (a0:Int) (a1:Int) (a2:Int):X2 N (a0,a1,a2) =
 (((bif (decide (a0 < a1)) then (some true) else (some (decide (a0 > a2)))):Option Bool).bind fun o1=>(bif o1 then some 3 else some 0)):=by kernel_rfl
def c55:List (Nat × cu):=[(122,.loop [] ⟨(.cons (.own 0 2 (.agg (.cons (.int .i64) (.cons (.int .i64) .nil)))) (.cons .bool (.cons (.int .i64) (.cons (.int .i64) (.cons (.int .i64) .nil))))),[3,5,6],[],[(4,2)],[.tok 0 2 86],[]⟩ [(.ex 0,⟨(.cons (.own 0 2 (.agg (.cons (.int .i64) (.cons (.int .i64) .nil)))) (.cons (.int .i64) (.cons (.int .i64) .nil))),[3],[],[(4,2)],[.tok 0 2 86],[]⟩)]),
 (7825,.join [(.norm,⟨(.cons (.own 0 2 (.agg (.cons (.int .i64) (.cons (.int .i64) .nil)))) (.cons (.int .i64) (.cons (.int .i64) .nil))),[3],[],[(4,2)],[.tok 0 2 86],[]⟩)]),
 (15653,.join [(.norm,⟨(.cons (.own 0 2 (.agg (.cons (.int .i64) (.cons (.int .i64) .nil)))) (.cons (.int .i64) (.cons (.int .i64) .nil))),[3],[],[(4,2)],[.tok 0 2 86],[]⟩)])]
-- "codend/codendref08.Walk"
noncomputable def On (N:Nat):(Int × Int × Bool × Bool × Int)→Option ((List (Int × Int))):=(cx N [] [(55,c55)]).fn 1000 55 (.cons (.agg (.cons (.int .i64) (.cons (.int .i64) (.cons .bool (.cons .bool (.cons (.int .i64) .nil)))))) .nil) (.list 2 (.agg (.cons (.int .i64) (.cons (.int .i64) .nil))))
noncomputable def X3 (N:Nat):aJ:=⟨(.cons (.agg (.cons (.int .i64) (.cons (.int .i64) (.cons .bool (.cons .bool (.cons (.int .i64) .nil)))))) .nil),(.list 2 (.agg (.cons (.int .i64) (.cons (.int .i64) .nil)))),On N⟩
theorem DO (N:Nat):an bC 55 (X3 N):=ea.bl (fun _ _ h=>by cases h) (by kernel_rfl) (by kernel_rfl)
noncomputable def qS (N:Nat) (a0:Int × Int × Bool × Bool × Int) (v1:(List (Int × Int)) × Bool × Int × Int × Int):Option (((List (Int × Int)) × Bool × Int × Int × Int) ⊕ (((List (Int × Int)) × Int × Int))):=
 (bif (decide (v1.2.2.1 < a0.2.2.2.2)) then (((bif a0.2.2.1 then ((bif (allFit (aj.fits cG) (List.map av v1.1)&&true) then some ((List.map d86 (List.map av v1.1)),(IntKind.wrap .i64 (v1.2.2.2.1+1)),v1.2.2.2.2) else none:Option ((List (Int × Int)) × Int × Int)).bind fun w2=>bif (decide ((((List.map av v1.1)).length)=(List.map av w2.1).length)&&true) then some w2 else none) else ((bif (allFit (aj.fits cG) (List.map av v1.1)&&true) then some ((List.map d86 (List.map av v1.1)),(IntKind.wrap .i64 (v1.2.2.2.1 - 1)),v1.2.2.2.2) else none:Option ((List (Int × Int)) × Int × Int)).bind fun w3=>bif (decide ((((List.map av v1.1)).length)=(List.map av w3.1).length)&&true) then some w3 else none)):Option (((List (Int × Int)) × Int × Int))).bind fun o4=>(((bif v1.2.1 then ((bif (allFit (aj.fits cG) (List.map av o4.1)&&true) then some ((List.map d86 (List.map av o4.1)),o4.2.1,(IntKind.wrap .i64 (o4.2.2+1))) else none:Option ((List (Int × Int)) × Int × Int)).bind fun w5=>bif (decide ((((List.map av o4.1)).length)=(List.map av w5.1).length)&&true) then some w5 else none) else ((bif (allFit (aj.fits cG) (List.map av o4.1)&&true) then some ((List.map d86 (List.map av o4.1)),o4.2.1,(IntKind.wrap .i64 (o4.2.2 - 1))) else none:Option ((List (Int × Int)) × Int × Int)).bind fun w6=>bif (decide ((((List.map av o4.1)).length)=(List.map av w6.1).length)&&true) then some w6 else none)):Option (((List (Int × Int)) × Int × Int))).bind fun o7=>bif (decide ((((List.map av o7.1)).length)=((List.map av o7.1)).length)&&decide ((((List.map av o7.1)).length+1) * 16≤140737488355328)) then (((bif (allFit (aj.fits cG) ((List.map av o7.1)++[(AV.agg [(AV.int .i64 o7.2.1),(AV.int .i64 o7.2.2)])])&&true) then some ((List.map d86 ((List.map av o7.1)++[(AV.agg [(AV.int .i64 o7.2.1),(AV.int .i64 o7.2.2)])])),(!v1.2.1),(IntKind.wrap .i64 (v1.2.2.1+1)),o7.2.1,o7.2.2) else none:Option ((List (Int × Int)) × Bool × Int × Int × Int)).bind fun w8=>bif (decide (((((List.map av o7.1)).length)+1)=(List.map av w8.1).length)&&true) then some w8 else none).bind fun u9=>some (Sum.inl u9)) else none)) else (((bif (allFit (aj.fits cG) (List.map av v1.1)&&true) then some ((List.map d86 (List.map av v1.1)),v1.2.2.2.1,v1.2.2.2.2) else none:Option ((List (Int × Int)) × Int × Int)).bind fun E6=>bif (decide ((((List.map av v1.1)).length)=(List.map av E6.1).length)&&true) then some E6 else none).bind fun SL=>some (Sum.inr SL)))
theorem SM (N:Nat) (a0:Int × Int × Bool × Bool × Int):On N a0 =
 bif ((a0.2.2.2.1 == a0.2.2.2.1)&&(((a0.1 == a0.1)&&((a0.2.1 == a0.2.1)&&true))&&true)) then bif ((a0.2.2.2.1 == a0.2.2.2.1)&&true) then (((bif (allFit (aj.fits cG) [(AV.agg [(AV.int .i64 a0.1),(AV.int .i64 a0.2.1)])]&&true) then some ((List.map d86 [(AV.agg [(AV.int .i64 a0.1),(AV.int .i64 a0.2.1)])]),a0.2.2.2.1,0,a0.1,a0.2.1) else none:Option ((List (Int × Int)) × Bool × Int × Int × Int)).bind fun DP=>bif (decide (1=(List.map av DP.1).length)&&true) then some DP else none).bind fun x14=>(az (V:=(List (Int × Int)) × Bool × Int × Int × Int) (X:=((List (Int × Int)) × Int × Int)) (qS N a0) N x14).bind fun An=>(bif allFit (aj.fits cG) (List.map av An.1) then some (List.map d86 (List.map av An.1)) else none)) else none else none:=by kernel_rfl
def aan:List (Nat × cu):=[(6,.join [(.norm,⟨(.cons .bool .nil),[2],[],[],[],[]⟩)])]
-- "codend/codendref01.far"
noncomputable def Oo (N:Nat):Int→Option Bool:=(cx N [] [(123,aan)]).fn 1000 123 (.cons (.int .i64) .nil) .bool
noncomputable def WK (N:Nat):aJ:=⟨(.cons (.int .i64) .nil),.bool,Oo N⟩
theorem Oq (N:Nat):an bC 123 (WK N):=ea.bl (fun _ _ h=>by cases h) (by kernel_rfl) (by kernel_rfl)
theorem E7 (N:Nat) (a0:Int):Oo N a0 =
 (((bif (decide (a0 < (-100000))) then (some true) else (some (decide (a0 > 100000)))):Option Bool).bind fun o1=>some o1):=by kernel_rfl
-- "codend/codendref01.even"
noncomputable def SN (N:Nat):Int × Int→Option Bool:=(cx N [] []).fn 1000 153 (.cons (.int .i64) (.cons (.int .i64) .nil)) .bool
noncomputable def WL (N:Nat):aJ:=⟨(.cons (.int .i64) (.cons (.int .i64) .nil)),.bool,SN N⟩
theorem Ot (N:Nat):an bC 153 (WL N):=ea.bl (fun _ _ h=>by cases h) (by kernel_rfl) (by kernel_rfl)
theorem Ou (N:Nat) (a0:Int) (a1:Int):SN N (a0,a1) =
 some ((Int.tmod (IntKind.wrap .i64 (a0+a1)) 2) == 0):=by kernel_rfl
def aao:List (Nat × cu):=[(12,.join [(.norm,⟨(.cons .bool .nil),[10],[],[],[],[]⟩)])]
-- "codend/codendref01.CheckKnot"
noncomputable def DQ (N:Nat):(Int × Int)→Option Int:=(cx N [(123,WK N),(153,WL N)] [(111,aao)]).fn 1000 111 (.cons (.agg (.cons (.int .i64) (.cons (.int .i64) .nil))) .nil) (.int .i64)
noncomputable def WM (N:Nat):aJ:=⟨(.cons (.agg (.cons (.int .i64) (.cons (.int .i64) .nil))) .nil),(.int .i64),DQ N⟩
theorem Ov (N:Nat):an bC 111 (WM N):=ea.bl (aQ (by intro a e h; simp only [List.mem_cons,Prod.mk.injEq,List.not_mem_nil,or_false] at h; rcases h with ⟨rfl,rfl⟩ | ⟨rfl,rfl⟩; exact Oq N; exact Ot N)) (by kernel_rfl) (by kernel_rfl)
theorem Ow (N:Nat) (a0:Int × Int):DQ N a0 =
 (((Oo N a0.1).bind fun y1=>(bif y1 then (some true) else (Oo N a0.2).bind fun y2=>(some y2)):Option Bool).bind fun o3=>(bif o3 then some 3 else (SN N (a0.1,a0.2)).bind fun y4=>(bif (!y4) then some 14 else some 0))):=by kernel_rfl
def c54:List (Nat × cu):=[(250,.loop [] ⟨(.cons (.int .i64) .nil),[5],[],[],[],[]⟩ [(.ret,⟨(.cons (.int .i64) .nil),[2],[],[],[],[]⟩),(.ex 0,⟨.nil,[],[],[],[],[]⟩)])]
-- "codend/codendref08.CheckCourse"
noncomputable def WN (N:Nat):(Int × Int × Bool × Bool × Int)→Option Int:=(cx N [(32,e32 N),(33,e33 N),(55,X3 N),(111,WM N)] [(54,c54)]).fn 1000 54 (.cons (.agg (.cons (.int .i64) (.cons (.int .i64) (.cons .bool (.cons .bool (.cons (.int .i64) .nil)))))) .nil) (.int .i64)
noncomputable def e54 (N:Nat):aJ:=⟨(.cons (.agg (.cons (.int .i64) (.cons (.int .i64) (.cons .bool (.cons .bool (.cons (.int .i64) .nil)))))) .nil),(.int .i64),WN N⟩
theorem SO (N:Nat):an bC 54 (e54 N):=ea.bl (aQ (by intro a e h; simp only [List.mem_cons,Prod.mk.injEq,List.not_mem_nil,or_false] at h; rcases h with ⟨rfl,rfl⟩ | ⟨rfl,rfl⟩ | ⟨rfl,rfl⟩ | ⟨rfl,rfl⟩; exact SH N; exact SJ N; exact DO N; exact Ov N)) (by kernel_rfl) (by kernel_rfl)
noncomputable def ua (N:Nat) (y5:(List (Int × Int))) (v6:Int):Option (Int ⊕ (Int ⊕ Unit)):=
 (bif (decide (v6 < ((((List.map av y5)).length:Nat):Int))) then bif (decide ((0:Int)≤v6∧v6 < (((List.map av y5)).length:Int))&&aj.fits cG (ah (List.map av y5) (Int.toNat v6))) then (DQ N ((d86 (ah (List.map av y5) (Int.toNat v6))).1,(d86 (ah (List.map av y5) (Int.toNat v6))).2)).bind fun y7=>(bif (y7 != 0) then (some (Sum.inr (Sum.inl y7))) else (some (Sum.inl (IntKind.wrap .i64 (v6+1))))) else none else (some (Sum.inr (Sum.inr ()))))
theorem SP (N:Nat) (a0:Int × Int × Bool × Bool × Int):WN N a0 =
 (DQ N (a0.1,a0.2.1)).bind fun y1=>bif ((a0.2.2.2.2 == a0.2.2.2.2)&&true) then (X2 N (a0.2.2.2.2,1,512)).bind fun y2=>((bif (allFit (aj.fits p3) [(AV.int .i64 y1),(AV.int .i64 y2)]&&true) then some (List.map d3 [(AV.int .i64 y1),(AV.int .i64 y2)]) else none:Option ((List Int))).bind fun x4=>(X1 N x4).bind fun y3=>(bif (y3 != 0) then some y3 else (On N (a0.1,a0.2.1,a0.2.2.1,a0.2.2.2.1,a0.2.2.2.2)).bind fun y5=>((az (V:=Int) (X:=Int ⊕ Unit) (ua N y5) N 0).bind fun Al=>(Sum.elim (fun An=>some An) (fun JH=>some 0) Al)))) else none:=by kernel_rfl
-- "codend/codendref08.End"
noncomputable def X4 (N:Nat):(Int × Int × Bool × Bool × Int)→Option ((Int × Int)):=(cx N [(55,X3 N)] []).fn 1000 56 (.cons (.agg (.cons (.int .i64) (.cons (.int .i64) (.cons .bool (.cons .bool (.cons (.int .i64) .nil)))))) .nil) (.agg (.cons (.int .i64) (.cons (.int .i64) .nil)))
noncomputable def X5 (N:Nat):aJ:=⟨(.cons (.agg (.cons (.int .i64) (.cons (.int .i64) (.cons .bool (.cons .bool (.cons (.int .i64) .nil)))))) .nil),(.agg (.cons (.int .i64) (.cons (.int .i64) .nil))),X4 N⟩
theorem SQ (N:Nat):an bC 56 (X5 N):=ea.bl (aQ (by intro a e h; simp only [List.mem_cons,Prod.mk.injEq,List.not_mem_nil,or_false] at h; rcases h with ⟨rfl,rfl⟩; exact DO N)) (by kernel_rfl) (by kernel_rfl)
theorem SR (N:Nat) (a0:Int × Int × Bool × Bool × Int):X4 N a0 =
 (On N (a0.1,a0.2.1,a0.2.2.1,a0.2.2.2.1,a0.2.2.2.2)).bind fun y1=>bif (decide ((0:Int)≤(IntKind.wrap .i64 (((((List.map av y1)).length:Nat):Int) - 1))∧(IntKind.wrap .i64 (((((List.map av y1)).length:Nat):Int) - 1)) < (((List.map av y1)).length:Int))&&aj.fits cG (ah (List.map av y1) (Int.toNat (IntKind.wrap .i64 (((((List.map av y1)).length:Nat):Int) - 1))))) then some ((d86 (ah (List.map av y1) (Int.toNat (IntKind.wrap .i64 (((((List.map av y1)).length:Nat):Int) - 1))))).1,(d86 (ah (List.map av y1) (Int.toNat (IntKind.wrap .i64 (((((List.map av y1)).length:Nat):Int) - 1))))).2) else none:=by kernel_rfl
end Go.Proofs.YtldcljfjjoidhaaGreatDoor
