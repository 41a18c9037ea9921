/- What the functions compute (printed by a program of ours,checked by the kernel). -/
import Derived.Test.YtldcljfjjoidhaaGreatDoorBraLg
set_option linter.all false
namespace Go.Proofs.YtldcljfjjoidhaaGreatDoor
open Go Go.Am
set_option maxRecDepth 100000
abbrev dN:an:=(.agg (.cons (.int .i64) (.cons (.int .i64) (.cons .bool (.cons .bool (.cons (.int .i64) .nil))))))
abbrev d88 (v:AV):Int × Int × Bool × Bool × Int:=an.bf dN v
abbrev az (x:Int × Int × Bool × Bool × Int):AV:=an.enc dN x
theorem ig (l:List (Int × Int × Bool × Bool × Int)):allFit (an.fits dN) (List.map az l)=true:=eT (p:=dN) rfl l
theorem ij (l:List (Int × Int × Bool × Bool × Int)):List.map d88 (List.map az l)=l:=jy (p:=dN) rfl l
theorem Xi (x:Int × Int × Bool × Bool × Int):an.fits dN (az x)=true:=(an.bn dN x rfl).1
theorem Xj (x:Int × Int × Bool × Bool × Int):d88 (az x)=x:=(an.bn dN x rfl).2
def c26:List (Nat × cC):=[(12,.join [(.norm,⟨(.cons .bool .nil),[14],[],[],[],[]⟩)]),
 (58,.loop [] ⟨(.cons (.int .i64) .nil),[5],[],[],[],[]⟩ [(.ret,⟨(.cons .bool .nil),[4],[],[],[],[]⟩),(.ex 0,⟨.nil,[],[],[],[],[]⟩)]),
 (1864,.join [(.norm,⟨(.cons .bool .nil),[34],[],[],[],[]⟩)])]
-- "codend/codendref08.Short"
noncomputable def P4 (N:Nat):(List (Int × Int × Bool × Bool × Int)) × Int→Option Bool:=(cx N [] [(26,c26)]).fn 1000 26 (.cons (.list 5 (.agg (.cons (.int .i64) (.cons (.int .i64) (.cons .bool (.cons .bool (.cons (.int .i64) .nil))))))) (.cons (.int .i64) .nil)) .bool
noncomputable def YN (N:Nat):aK:=⟨(.cons (.list 5 (.agg (.cons (.int .i64) (.cons (.int .i64) (.cons .bool (.cons .bool (.cons (.int .i64) .nil))))))) (.cons (.int .i64) .nil)),.bool,P4 N⟩
theorem P5 (N:Nat):ao bF 26 (YN N):=eR.bC (fun _ _ h=>by cases h) (by kernel_rfl) (by kernel_rfl)
noncomputable def vm (N:Nat) (a0:List (Int × Int × Bool × Bool × Int)) (v2:Int):Option (Int ⊕ (Bool ⊕ Unit)):=
 (bif (decide (v2 < ((((List.map az a0)).length:Nat):Int))) then ((bif (decide ((0:Int)≤v2∧v2 < (((List.map az a0)).length:Int))&&an.fits dN (ah (List.map az a0) (Int.toNat v2))) then (bif (decide ((d88 (ah (List.map az a0) (Int.toNat v2))).2.2.2.2 > 12)) then bif (decide ((0:Int)≤v2∧v2 < (((List.map az a0)).length:Int))&&an.fits dN (ah (List.map az a0) (Int.toNat v2))) then (some (decide ((d88 (ah (List.map az a0) (Int.toNat v2))).2.2.2.2≤512))) else none else (some false)) else none:Option Bool).bind fun o3=>(bif o3 then (some (Sum.inr (Sum.inl false))) else (some (Sum.inl (IntKind.wrap .i64 (v2+1)))))) else (some (Sum.inr (Sum.inr ()))))
theorem P6 (N:Nat) (a0:List (Int × Int × Bool × Bool × Int)) (a1:Int):P4 N (a0,a1) =
 (((bif (decide (((((List.map az a0)).length:Nat):Int) > a1)) then (some (((((List.map az a0)).length:Nat):Int) != 257)) else (some false)):Option Bool).bind fun o1=>(bif o1 then some false else ((aQ (V:=Int) (X:=Bool ⊕ Unit) (vm N a0) N 0).bind fun o8=>(Sum.elim (fun o9=>some o9) (fun yt=>some true) o8)))):=by kernel_rfl
-- "codend/codendref01.SameKnots"
def c78:List (Nat × cC):=[(26,.loop [] ⟨(.cons (.int .i64) .nil),[7],[],[],[],[]⟩ [(.ret,⟨(.cons (.int .i64) .nil),[2],[],[],[],[]⟩),(.ex 0,⟨.nil,[],[],[],[],[]⟩)])]
-- "codend/braid.first"
noncomputable def NX (N:Nat):(List Int)→Option Int:=(cx N [] [(78,c78)]).fn 1000 78 (.cons (.list 1 (.int .i64)) .nil) (.int .i64)
noncomputable def TW (N:Nat):aK:=⟨(.cons (.list 1 (.int .i64)) .nil),(.int .i64),NX N⟩
theorem yN (N:Nat):ao bF 78 (TW N):=eR.bC (fun _ _ h=>by cases h) (by kernel_rfl) (by kernel_rfl)
noncomputable def yO (N:Nat) (a0:List Int) (v1:Int):Option (Int ⊕ (Int ⊕ Unit)):=
 (bif (decide (v1 < ((((List.map n26 a0)).length:Nat):Int))) then bif (decide ((0:Int)≤v1∧v1 < (((List.map n26 a0)).length:Int))&&an.fits Bi (ah (List.map n26 a0) (Int.toNat v1))) then (bif ((d26 (ah (List.map n26 a0) (Int.toNat v1))) != 0) then (some (Sum.inr (Sum.inl (d26 (ah (List.map n26 a0) (Int.toNat v1)))))) else (some (Sum.inl (IntKind.wrap .i64 (v1+1))))) else none else (some (Sum.inr (Sum.inr ()))))
theorem P7 (N:Nat) (a0:List Int):NX N a0 =
 ((aQ (V:=Int) (X:=Int ⊕ Unit) (yO N a0) N 0).bind fun o6=>(Sum.elim (fun o7=>some o7) (fun o8=>some 0) o6)):=by kernel_rfl
-- "codend/braid.when"
noncomputable def P8 (N:Nat):Bool × Int→Option Int:=(cx N [] []).fn 1000 80 (.cons .bool (.cons (.int .i64) .nil)) (.int .i64)
noncomputable def Xk (N:Nat):aK:=⟨(.cons .bool (.cons (.int .i64) .nil)),(.int .i64),P8 N⟩
theorem Ii (N:Nat):ao bF 80 (Xk N):=eR.bC (fun _ _ h=>by cases h) (by kernel_rfl) (by kernel_rfl)
theorem P9 (N:Nat) (a0:Bool) (a1:Int):P8 N (a0,a1) =
 (bif a0 then some a1 else some 0):=by kernel_rfl
def c90:List (Nat × cC):=[(6,.join [(.norm,⟨(.cons (.int .i64) .nil),[6],[],[],[],[]⟩)])]
-- "codend/braid.within"
noncomputable def RB (N:Nat):Int × Int × Int→Option Int:=(cx N [(80,Xk N)] [(90,c90)]).fn 1000 90 (.cons (.int .i64) (.cons (.int .i64) (.cons (.int .i64) .nil))) (.int .i64)
noncomputable def Xl (N:Nat):aK:=⟨(.cons (.int .i64) (.cons (.int .i64) (.cons (.int .i64) .nil))),(.int .i64),RB N⟩
theorem Ij (N:Nat):ao bF 90 (Xl N):=eR.bC (aW (by intro a e h; simp only [List.mem_cons,Prod.mk.injEq,List.not_mem_nil,or_false] at h; rcases h with ⟨rfl,rfl⟩; exact Ii N)) (by kernel_rfl) (by kernel_rfl)
theorem Qa (N:Nat) (a0:Int) (a1:Int) (a2:Int):RB N (a0,a1,a2) =
 (((bif (decide (a0 < a1)) then (P8 N (true,3)).bind fun y1=>(some y1) else (P8 N ((decide (a0 > a2)),3)).bind fun y2=>(some y2)):Option Int).bind fun o3=>some o3):=by kernel_rfl
-- "codend/braid.sign"
noncomputable def Mh (N:Nat):Bool→Option Int:=(cx N [] []).fn 1000 152 (.cons .bool .nil) (.int .i64)
noncomputable def TX (N:Nat):aK:=⟨(.cons .bool .nil),(.int .i64),Mh N⟩
theorem Mi (N:Nat):ao bF 152 (TX N):=eR.bC (fun _ _ h=>by cases h) (by kernel_rfl) (by kernel_rfl)
theorem DO (N:Nat) (a0:Bool):Mh N a0 =
 (bif a0 then some 1 else some (-1)):=by kernel_rfl
-- "(codend/braid.Course).knot"
noncomputable def vn (N:Nat):(Int × Int × Bool × Bool × Int) × Int→Option ((Int × Int)):=(cx N [(152,TX N)] []).fn 1000 109 (.cons (.agg (.cons (.int .i64) (.cons (.int .i64) (.cons .bool (.cons .bool (.cons (.int .i64) .nil)))))) (.cons (.int .i64) .nil)) (.agg (.cons (.int .i64) (.cons (.int .i64) .nil)))
noncomputable def Ik (N:Nat):aK:=⟨(.cons (.agg (.cons (.int .i64) (.cons (.int .i64) (.cons .bool (.cons .bool (.cons (.int .i64) .nil)))))) (.cons (.int .i64) .nil)),(.agg (.cons (.int .i64) (.cons (.int .i64) .nil))),vn N⟩
theorem s6 (N:Nat):ao bF 109 (Ik N):=eR.bC (aW (by intro a e h; simp only [List.mem_cons,Prod.mk.injEq,List.not_mem_nil,or_false] at h; rcases h with ⟨rfl,rfl⟩; exact Mi N)) (by kernel_rfl) (by kernel_rfl)
theorem Mj (N:Nat) (a0:Int × Int × Bool × Bool × Int) (a1:Int):vn N (a0,a1) =
 (Mh N a0.2.2.1).bind fun y1=>bif ((a0.2.2.2.1 == a0.2.2.2.1)&&((a0.2.1 == a0.2.1)&&((a0.1 == a0.1)&&true))) then (Mh N a0.2.2.2.1).bind fun y2=>bif ((a0.2.1 == a0.2.1)&&((a0.1 == a0.1)&&true)) then some ((IntKind.wrap .i64 (a0.1+(IntKind.wrap .i64 (a1 * y1)))),(IntKind.wrap .i64 (a0.2.1+(IntKind.wrap .i64 ((Int.tmod a1 2) * y2))))) else none else none:=by kernel_rfl
def Xm:List (Nat × cC):=[(58,.loop [] ⟨(.cons (.int .i64) .nil),[20],[],[],[],[]⟩ [(.ret,⟨(.cons (.int .i64) .nil),[2],[],[],[],[]⟩),(.ex 0,⟨.nil,[],[],[],[],[]⟩)])]
-- "(codend/braid.Course).check"
noncomputable def Il (N:Nat):(Int × Int × Bool × Bool × Int)→Option Int:=(cx N [(78,TW N),(90,Xl N),(109,Ik N),(151,PH N)] [(108,Xm)]).fn 1000 108 (.cons (.agg (.cons (.int .i64) (.cons (.int .i64) (.cons .bool (.cons .bool (.cons (.int .i64) .nil)))))) .nil) (.int .i64)
noncomputable def TY (N:Nat):aK:=⟨(.cons (.agg (.cons (.int .i64) (.cons (.int .i64) (.cons .bool (.cons .bool (.cons (.int .i64) .nil)))))) .nil),(.int .i64),Il N⟩
theorem Mk (N:Nat):ao bF 108 (TY N):=eR.bC (aW (by intro a e h; simp only [List.mem_cons,Prod.mk.injEq,List.not_mem_nil,or_false] at h; rcases h with ⟨rfl,rfl⟩ | ⟨rfl,rfl⟩ | ⟨rfl,rfl⟩ | ⟨rfl,rfl⟩; exact yN N; exact Ij N; exact s6 N; exact DL N)) (by kernel_rfl) (by kernel_rfl)
noncomputable def s7 (N:Nat) (a0:Int × Int × Bool × Bool × Int) (v5:Int):Option (Int ⊕ (Int ⊕ Unit)):=
 (bif (decide (v5 < (IntKind.wrap .i64 (a0.2.2.2.2+1)))) then (vn N ((a0.1,a0.2.1,a0.2.2.1,a0.2.2.2.1,a0.2.2.2.2),v5)).bind fun y6=>(E4 N (y6.1,y6.2)).bind fun y7=>(bif (y7 != 0) then (some (Sum.inr (Sum.inl y7))) else (some (Sum.inl (IntKind.wrap .i64 (v5+1))))) else (some (Sum.inr (Sum.inr ()))))
theorem Ml (N:Nat) (a0:Int × Int × Bool × Bool × Int):Il N a0 =
 (E4 N (a0.1,a0.2.1)).bind fun y1=>bif ((a0.2.2.2.2 == a0.2.2.2.2)&&true) then (RB N (a0.2.2.2.2,1,512)).bind fun y2=>((bif (allFit (an.fits Bi) [(AV.int .i64 y1),(AV.int .i64 y2)]&&true) then some (List.map d26 [(AV.int .i64 y1),(AV.int .i64 y2)]) else none:Option ((List Int))).bind fun x4=>(NX N x4).bind fun y3=>(bif (y3 != 0) then some y3 else ((aQ (V:=Int) (X:=Int ⊕ Unit) (s7 N a0) N 0).bind fun Qb=>(Sum.elim (fun DP=>some DP) (fun Tn=>some 0) Qb)))) else none:=by kernel_rfl
-- "codend/braid.Walk"
-- "(codend/braid.Course).end"
noncomputable def Im (N:Nat):(Int × Int × Bool × Bool × Int)→Option ((Int × Int)):=(cx N [(109,Ik N)] []).fn 1000 110 (.cons (.agg (.cons (.int .i64) (.cons (.int .i64) (.cons .bool (.cons .bool (.cons (.int .i64) .nil)))))) .nil) (.agg (.cons (.int .i64) (.cons (.int .i64) .nil)))
noncomputable def TZ (N:Nat):aK:=⟨(.cons (.agg (.cons (.int .i64) (.cons (.int .i64) (.cons .bool (.cons .bool (.cons (.int .i64) .nil)))))) .nil),(.agg (.cons (.int .i64) (.cons (.int .i64) .nil))),Im N⟩
theorem Mm (N:Nat):ao bF 110 (TZ N):=eR.bC (aW (by intro a e h; simp only [List.mem_cons,Prod.mk.injEq,List.not_mem_nil,or_false] at h; rcases h with ⟨rfl,rfl⟩; exact s6 N)) (by kernel_rfl) (by kernel_rfl)
theorem Mn (N:Nat) (a0:Int × Int × Bool × Bool × Int):Im N a0 =
 (vn N ((a0.1,a0.2.1,a0.2.2.1,a0.2.2.2.1,a0.2.2.2.2),a0.2.2.2.2)).bind fun y1=>some (y1.1,y1.2):=by kernel_rfl
-- "codend/braid.End"
def c32:List (Nat × cC):=[(26,.loop [] ⟨(.cons (.int .i64) .nil),[3],[],[],[],[]⟩ [(.ret,⟨(.cons (.int .i64) .nil),[2],[],[],[],[]⟩),(.ex 0,⟨.nil,[],[],[],[],[]⟩)])]
-- "codend/codendref01.First"
noncomputable def T0 (N:Nat):(List Int)→Option Int:=(cx N [] [(32,c32)]).fn 1000 32 (.cons (.list 1 (.int .i64)) .nil) (.int .i64)
noncomputable def Xn (N:Nat):aK:=⟨(.cons (.list 1 (.int .i64)) .nil),(.int .i64),T0 N⟩
theorem Io (N:Nat):ao bF 32 (Xn N):=eR.bC (fun _ _ h=>by cases h) (by kernel_rfl) (by kernel_rfl)
noncomputable def yP (N:Nat) (a0:List Int) (v1:Int):Option (Int ⊕ (Int ⊕ Unit)):=
 (bif (decide (v1 < ((((List.map n3 a0)).length:Nat):Int))) then bif (decide ((0:Int)≤v1∧v1 < (((List.map n3 a0)).length:Int))&&an.fits p3 (ah (List.map n3 a0) (Int.toNat v1))) then (bif ((d3 (ah (List.map n3 a0) (Int.toNat v1))) != 0) then bif (decide ((0:Int)≤v1∧v1 < (((List.map n3 a0)).length:Int))&&an.fits p3 (ah (List.map n3 a0) (Int.toNat v1))) then (some (Sum.inr (Sum.inl (d3 (ah (List.map n3 a0) (Int.toNat v1)))))) else none else (some (Sum.inl (IntKind.wrap .i64 (v1+1))))) else none else (some (Sum.inr (Sum.inr ()))))
theorem Qd (N:Nat) (a0:List Int):T0 N a0 =
 ((aQ (V:=Int) (X:=Int ⊕ Unit) (yP N a0) N 0).bind fun o6=>(Sum.elim (fun o7=>some o7) (fun o8=>some 0) o6)):=by kernel_rfl
def c33:List (Nat × cC):=[(12,.join [(.norm,⟨(.cons .bool .nil),[14],[],[],[],[]⟩)])]
-- "codend/codendref01.CheckRange"
noncomputable def RC (N:Nat):Int × Int × Int→Option Int:=(cx N [] [(33,c33)]).fn 1000 33 (.cons (.int .i64) (.cons (.int .i64) (.cons (.int .i64) .nil))) (.int .i64)
noncomputable def Xo (N:Nat):aK:=⟨(.cons (.int .i64) (.cons (.int .i64) (.cons (.int .i64) .nil))),(.int .i64),RC N⟩
theorem Ip (N:Nat):ao bF 33 (Xo N):=eR.bC (fun _ _ h=>by cases h) (by kernel_rfl) (by kernel_rfl)
theorem Qe (N:Nat) (a0:Int) (a1:Int) (a2:Int):RC N (a0,a1,a2) =
 (((bif (decide (a0 < a1)) then (some true) else (some (decide (a0 > a2)))):Option Bool).bind fun o1=>(bif o1 then some 3 else some 0)):=by kernel_rfl
def c55:List (Nat × cC):=[(122,.loop [] ⟨(.cons (.own 0 2 (.agg (.cons (.int .i64) (.cons (.int .i64) .nil)))) (.cons .bool (.cons (.int .i64) (.cons (.int .i64) (.cons (.int .i64) .nil))))),[3,5,6],[],[(4,2)],[.tok 0 2 86],[]⟩ [(.ex 0,⟨(.cons (.own 0 2 (.agg (.cons (.int .i64) (.cons (.int .i64) .nil)))) (.cons (.int .i64) (.cons (.int .i64) .nil))),[3],[],[(4,2)],[.tok 0 2 86],[]⟩)]),
 (7825,.join [(.norm,⟨(.cons (.own 0 2 (.agg (.cons (.int .i64) (.cons (.int .i64) .nil)))) (.cons (.int .i64) (.cons (.int .i64) .nil))),[3],[],[(4,2)],[.tok 0 2 86],[]⟩)]),
 (15653,.join [(.norm,⟨(.cons (.own 0 2 (.agg (.cons (.int .i64) (.cons (.int .i64) .nil)))) (.cons (.int .i64) (.cons (.int .i64) .nil))),[3],[],[(4,2)],[.tok 0 2 86],[]⟩)])]
-- "codend/codendref08.Walk"
noncomputable def Mo (N:Nat):(Int × Int × Bool × Bool × Int)→Option ((List (Int × Int))):=(cx N [] [(55,c55)]).fn 1000 55 (.cons (.agg (.cons (.int .i64) (.cons (.int .i64) (.cons .bool (.cons .bool (.cons (.int .i64) .nil)))))) .nil) (.list 2 (.agg (.cons (.int .i64) (.cons (.int .i64) .nil))))
noncomputable def U0 (N:Nat):aK:=⟨(.cons (.agg (.cons (.int .i64) (.cons (.int .i64) (.cons .bool (.cons .bool (.cons (.int .i64) .nil)))))) .nil),(.list 2 (.agg (.cons (.int .i64) (.cons (.int .i64) .nil)))),Mo N⟩
theorem CM (N:Nat):ao bF 55 (U0 N):=eR.bC (fun _ _ h=>by cases h) (by kernel_rfl) (by kernel_rfl)
noncomputable def qh (N:Nat) (a0:Int × Int × Bool × Bool × Int) (v1:(List (Int × Int)) × Bool × Int × Int × Int):Option (((List (Int × Int)) × Bool × Int × Int × Int) ⊕ (((List (Int × Int)) × Int × Int))):=
 (bif (decide (v1.2.2.1 < a0.2.2.2.2)) then (((bif a0.2.2.1 then ((bif (allFit (an.fits nF) (List.map fS v1.1)&&true) then some ((List.map d86 (List.map fS v1.1)),(IntKind.wrap .i64 (v1.2.2.2.1+1)),v1.2.2.2.2) else none:Option ((List (Int × Int)) × Int × Int)).bind fun w2=>bif (decide ((((List.map fS v1.1)).length)=(List.map fS w2.1).length)&&true) then some w2 else none) else ((bif (allFit (an.fits nF) (List.map fS v1.1)&&true) then some ((List.map d86 (List.map fS v1.1)),(IntKind.wrap .i64 (v1.2.2.2.1 - 1)),v1.2.2.2.2) else none:Option ((List (Int × Int)) × Int × Int)).bind fun w3=>bif (decide ((((List.map fS v1.1)).length)=(List.map fS w3.1).length)&&true) then some w3 else none)):Option (((List (Int × Int)) × Int × Int))).bind fun o4=>(((bif v1.2.1 then ((bif (allFit (an.fits nF) (List.map fS o4.1)&&true) then some ((List.map d86 (List.map fS o4.1)),o4.2.1,(IntKind.wrap .i64 (o4.2.2+1))) else none:Option ((List (Int × Int)) × Int × Int)).bind fun w5=>bif (decide ((((List.map fS o4.1)).length)=(List.map fS w5.1).length)&&true) then some w5 else none) else ((bif (allFit (an.fits nF) (List.map fS o4.1)&&true) then some ((List.map d86 (List.map fS o4.1)),o4.2.1,(IntKind.wrap .i64 (o4.2.2 - 1))) else none:Option ((List (Int × Int)) × Int × Int)).bind fun w6=>bif (decide ((((List.map fS o4.1)).length)=(List.map fS w6.1).length)&&true) then some w6 else none)):Option (((List (Int × Int)) × Int × Int))).bind fun o7=>bif (decide ((((List.map fS o7.1)).length)=((List.map fS o7.1)).length)&&decide ((((List.map fS o7.1)).length+1) * 16≤140737488355328)) then (((bif (allFit (an.fits nF) ((List.map fS o7.1)++[(AV.agg [(AV.int .i64 o7.2.1),(AV.int .i64 o7.2.2)])])&&true) then some ((List.map d86 ((List.map fS o7.1)++[(AV.agg [(AV.int .i64 o7.2.1),(AV.int .i64 o7.2.2)])])),(!v1.2.1),(IntKind.wrap .i64 (v1.2.2.1+1)),o7.2.1,o7.2.2) else none:Option ((List (Int × Int)) × Bool × Int × Int × Int)).bind fun w8=>bif (decide (((((List.map fS o7.1)).length)+1)=(List.map fS w8.1).length)&&true) then some w8 else none).bind fun u9=>some (Sum.inl u9)) else none)) else (((bif (allFit (an.fits nF) (List.map fS v1.1)&&true) then some ((List.map d86 (List.map fS v1.1)),v1.2.2.2.1,v1.2.2.2.2) else none:Option ((List (Int × Int)) × Int × Int)).bind fun RD=>bif (decide ((((List.map fS v1.1)).length)=(List.map fS RD.1).length)&&true) then some RD else none).bind fun Xp=>some (Sum.inr Xp)))
theorem Qf (N:Nat) (a0:Int × Int × Bool × Bool × Int):Mo N a0 =
 bif ((a0.2.2.2.1 == a0.2.2.2.1)&&(((a0.1 == a0.1)&&((a0.2.1 == a0.2.1)&&true))&&true)) then bif ((a0.2.2.2.1 == a0.2.2.2.1)&&true) then (((bif (allFit (an.fits nF) [(AV.agg [(AV.int .i64 a0.1),(AV.int .i64 a0.2.1)])]&&true) then some ((List.map d86 [(AV.agg [(AV.int .i64 a0.1),(AV.int .i64 a0.2.1)])]),a0.2.2.2.1,0,a0.1,a0.2.1) else none:Option ((List (Int × Int)) × Bool × Int × Int × Int)).bind fun Mp=>bif (decide (1=(List.map fS Mp.1).length)&&true) then some Mp else none).bind fun Xq=>(aQ (V:=(List (Int × Int)) × Bool × Int × Int × Int) (X:=((List (Int × Int)) × Int × Int)) (qh N a0) N Xq).bind fun DP=>(bif allFit (an.fits nF) (List.map fS DP.1) then some (List.map d86 (List.map fS DP.1)) else none)) else none else none:=by kernel_rfl
def Xr:List (Nat × cC):=[(6,.join [(.norm,⟨(.cons .bool .nil),[2],[],[],[],[]⟩)])]
-- "codend/codendref01.far"
noncomputable def Mq (N:Nat):Int→Option Bool:=(cx N [] [(123,Xr)]).fn 1000 123 (.cons (.int .i64) .nil) .bool
noncomputable def T1 (N:Nat):aK:=⟨(.cons (.int .i64) .nil),.bool,Mq N⟩
theorem Mr (N:Nat):ao bF 123 (T1 N):=eR.bC (fun _ _ h=>by cases h) (by kernel_rfl) (by kernel_rfl)
theorem DQ (N:Nat) (a0:Int):Mq N a0 =
 (((bif (decide (a0 < (-100000))) then (some true) else (some (decide (a0 > 100000)))):Option Bool).bind fun o1=>some o1):=by kernel_rfl
-- "codend/codendref01.even"
noncomputable def Qg (N:Nat):Int × Int→Option Bool:=(cx N [] []).fn 1000 153 (.cons (.int .i64) (.cons (.int .i64) .nil)) .bool
noncomputable def T2 (N:Nat):aK:=⟨(.cons (.int .i64) (.cons (.int .i64) .nil)),.bool,Qg N⟩
theorem Ms (N:Nat):ao bF 153 (T2 N):=eR.bC (fun _ _ h=>by cases h) (by kernel_rfl) (by kernel_rfl)
theorem Mt (N:Nat) (a0:Int) (a1:Int):Qg N (a0,a1) =
 some ((Int.tmod (IntKind.wrap .i64 (a0+a1)) 2) == 0):=by kernel_rfl
def Xs:List (Nat × cC):=[(12,.join [(.norm,⟨(.cons .bool .nil),[10],[],[],[],[]⟩)])]
-- "codend/codendref01.CheckKnot"
noncomputable def CN (N:Nat):(Int × Int)→Option Int:=(cx N [(123,T1 N),(153,T2 N)] [(111,Xs)]).fn 1000 111 (.cons (.agg (.cons (.int .i64) (.cons (.int .i64) .nil))) .nil) (.int .i64)
noncomputable def T3 (N:Nat):aK:=⟨(.cons (.agg (.cons (.int .i64) (.cons (.int .i64) .nil))) .nil),(.int .i64),CN N⟩
theorem Mu (N:Nat):ao bF 111 (T3 N):=eR.bC (aW (by intro a e h; simp only [List.mem_cons,Prod.mk.injEq,List.not_mem_nil,or_false] at h; rcases h with ⟨rfl,rfl⟩ | ⟨rfl,rfl⟩; exact Mr N; exact Ms N)) (by kernel_rfl) (by kernel_rfl)
theorem Mw (N:Nat) (a0:Int × Int):CN N a0 =
 (((Mq N a0.1).bind fun y1=>(bif y1 then (some true) else (Mq N a0.2).bind fun y2=>(some y2)):Option Bool).bind fun o3=>(bif o3 then some 3 else (Qg N (a0.1,a0.2)).bind fun y4=>(bif (!y4) then some 14 else some 0))):=by kernel_rfl
def c54:List (Nat × cC):=[(250,.loop [] ⟨(.cons (.int .i64) .nil),[5],[],[],[],[]⟩ [(.ret,⟨(.cons (.int .i64) .nil),[2],[],[],[],[]⟩),(.ex 0,⟨.nil,[],[],[],[],[]⟩)])]
-- "codend/codendref08.CheckCourse"
noncomputable def T4 (N:Nat):(Int × Int × Bool × Bool × Int)→Option Int:=(cx N [(32,Xn N),(33,Xo N),(55,U0 N),(111,T3 N)] [(54,c54)]).fn 1000 54 (.cons (.agg (.cons (.int .i64) (.cons (.int .i64) (.cons .bool (.cons .bool (.cons (.int .i64) .nil)))))) .nil) (.int .i64)
noncomputable def YO (N:Nat):aK:=⟨(.cons (.agg (.cons (.int .i64) (.cons (.int .i64) (.cons .bool (.cons .bool (.cons (.int .i64) .nil)))))) .nil),(.int .i64),T4 N⟩
theorem Qh (N:Nat):ao bF 54 (YO N):=eR.bC (aW (by intro a e h; simp only [List.mem_cons,Prod.mk.injEq,List.not_mem_nil,or_false] at h; rcases h with ⟨rfl,rfl⟩ | ⟨rfl,rfl⟩ | ⟨rfl,rfl⟩ | ⟨rfl,rfl⟩; exact Io N; exact Ip N; exact CM N; exact Mu N)) (by kernel_rfl) (by kernel_rfl)
noncomputable def s8 (N:Nat) (y5:(List (Int × Int))) (v6:Int):Option (Int ⊕ (Int ⊕ Unit)):=
 (bif (decide (v6 < ((((List.map fS y5)).length:Nat):Int))) then bif (decide ((0:Int)≤v6∧v6 < (((List.map fS y5)).length:Int))&&an.fits nF (ah (List.map fS y5) (Int.toNat v6))) then (CN N ((d86 (ah (List.map fS y5) (Int.toNat v6))).1,(d86 (ah (List.map fS y5) (Int.toNat v6))).2)).bind fun y7=>(bif (y7 != 0) then (some (Sum.inr (Sum.inl y7))) else (some (Sum.inl (IntKind.wrap .i64 (v6+1))))) else none else (some (Sum.inr (Sum.inr ()))))
theorem Qi (N:Nat) (a0:Int × Int × Bool × Bool × Int):T4 N a0 =
 (CN N (a0.1,a0.2.1)).bind fun y1=>bif ((a0.2.2.2.2 == a0.2.2.2.2)&&true) then (RC N (a0.2.2.2.2,1,512)).bind fun y2=>((bif (allFit (an.fits p3) [(AV.int .i64 y1),(AV.int .i64 y2)]&&true) then some (List.map d3 [(AV.int .i64 y1),(AV.int .i64 y2)]) else none:Option ((List Int))).bind fun x4=>(T0 N x4).bind fun y3=>(bif (y3 != 0) then some y3 else (Mo N (a0.1,a0.2.1,a0.2.2.1,a0.2.2.2.1,a0.2.2.2.2)).bind fun y5=>((aQ (V:=Int) (X:=Int ⊕ Unit) (s8 N y5) N 0).bind fun Qb=>(Sum.elim (fun DP=>some DP) (fun Tn=>some 0) Qb)))) else none:=by kernel_rfl
-- "codend/codendref08.End"
noncomputable def T5 (N:Nat):(Int × Int × Bool × Bool × Int)→Option ((Int × Int)):=(cx N [(55,U0 N)] []).fn 1000 56 (.cons (.agg (.cons (.int .i64) (.cons (.int .i64) (.cons .bool (.cons .bool (.cons (.int .i64) .nil)))))) .nil) (.agg (.cons (.int .i64) (.cons (.int .i64) .nil)))
noncomputable def YP (N:Nat):aK:=⟨(.cons (.agg (.cons (.int .i64) (.cons (.int .i64) (.cons .bool (.cons .bool (.cons (.int .i64) .nil)))))) .nil),(.agg (.cons (.int .i64) (.cons (.int .i64) .nil))),T5 N⟩
theorem Qj (N:Nat):ao bF 56 (YP N):=eR.bC (aW (by intro a e h; simp only [List.mem_cons,Prod.mk.injEq,List.not_mem_nil,or_false] at h; rcases h with ⟨rfl,rfl⟩; exact CM N)) (by kernel_rfl) (by kernel_rfl)
theorem Qk (N:Nat) (a0:Int × Int × Bool × Bool × Int):T5 N a0 =
 (Mo N (a0.1,a0.2.1,a0.2.2.1,a0.2.2.2.1,a0.2.2.2.2)).bind fun y1=>bif (decide ((0:Int)≤(IntKind.wrap .i64 (((((List.map fS y1)).length:Nat):Int) - 1))∧(IntKind.wrap .i64 (((((List.map fS y1)).length:Nat):Int) - 1)) < (((List.map fS y1)).length:Int))&&an.fits nF (ah (List.map fS y1) (Int.toNat (IntKind.wrap .i64 (((((List.map fS y1)).length:Nat):Int) - 1))))) then some ((d86 (ah (List.map fS y1) (Int.toNat (IntKind.wrap .i64 (((((List.map fS y1)).length:Nat):Int) - 1))))).1,(d86 (ah (List.map fS y1) (Int.toNat (IntKind.wrap .i64 (((((List.map fS y1)).length:Nat):Int) - 1))))).2) else none:=by kernel_rfl
end Go.Proofs.YtldcljfjjoidhaaGreatDoor
