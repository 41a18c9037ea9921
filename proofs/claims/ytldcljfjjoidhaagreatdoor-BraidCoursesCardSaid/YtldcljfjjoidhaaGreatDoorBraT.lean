/- What the functions compute (printed by a program of ours,checked by the kernel). -/
import Derived.Test.YtldcljfjjoidhaaGreatDoorBraLg
set_option linter.all false
namespace Go.Proofs.YtldcljfjjoidhaaGreatDoor
open Go Go.Am
set_option maxRecDepth 100000
abbrev La:av:=(.agg (.cons (.int .i64) (.cons (.int .i64) (.cons .bool (.cons .bool (.cons (.int .i64) .nil))))))
abbrev d88 (v:AV):Int × Int × Bool × Bool × Int:=av.aX La v
abbrev zL (x:Int × Int × Bool × Bool × Int):AV:=av.enc La x
def Ub:List (Nat × e8):=[(12,.join [(.norm,⟨(.cons .bool .nil),[14],[],[],[],[]⟩)]),
 (58,.loop [] ⟨(.cons (.int .i64) .nil),[5],[],[],[],[]⟩ [(.ret,⟨(.cons .bool .nil),[4],[],[],[],[]⟩),(.ex 0,⟨.nil,[],[],[],[],[]⟩)]),
 (1864,.join [(.norm,⟨(.cons .bool .nil),[34],[],[],[],[]⟩)])]
-- "codend/codendref08.Short"
noncomputable def OW (N:Nat):(List (Int × Int × Bool × Bool × Int)) × Int→Option Bool:=(cx N [] [(26,Ub)]).fn 1000 26 (.cons (.list 5 (.agg (.cons (.int .i64) (.cons (.int .i64) (.cons .bool (.cons .bool (.cons (.int .i64) .nil))))))) (.cons (.int .i64) .nil)) .bool
noncomputable def RX (N:Nat):aV:=⟨(.cons (.list 5 (.agg (.cons (.int .i64) (.cons (.int .i64) (.cons .bool (.cons .bool (.cons (.int .i64) .nil))))))) (.cons (.int .i64) .nil)),.bool,OW N⟩
theorem Lb (N:Nat):ap di 26 (RX N):=gD.cw (fun _ _ h=>by cases h) (by kernel_rfl) (by kernel_rfl)
noncomputable def vB (N:Nat) (a0:List (Int × Int × Bool × Bool × Int)) (v2:Int):Option (Int ⊕ (Bool ⊕ Unit)):=
 (bif (decide (v2 < ((((List.map zL a0)).length:Nat):Int))) then ((bif (decide ((0:Int)≤v2∧v2 < (((List.map zL a0)).length:Int))&&av.fits La (bM (List.map zL a0) (Int.toNat v2))) then (bif (decide ((d88 (bM (List.map zL a0) (Int.toNat v2))).2.2.2.2 > 12)) then bif (decide ((0:Int)≤v2∧v2 < (((List.map zL a0)).length:Int))&&av.fits La (bM (List.map zL a0) (Int.toNat v2))) then (some (decide ((d88 (bM (List.map zL a0) (Int.toNat v2))).2.2.2.2≤512))) else none else (some false)) else none:Option Bool).bind fun o3=>(bif o3 then (some (Sum.inr (Sum.inl false))) else (some (Sum.inl (IntKind.wrap .i64 (v2+1)))))) else (some (Sum.inr (Sum.inr ()))))
theorem Lc (N:Nat) (a0:List (Int × Int × Bool × Bool × Int)) (a1:Int):OW N (a0,a1) =
 (((bif (decide (((((List.map zL a0)).length:Nat):Int) > a1)) then (some (((((List.map zL a0)).length:Nat):Int) != 257)) else (some false)):Option Bool).bind fun o1=>(bif o1 then some false else ((cq (V:=Int) (X:=Bool ⊕ Unit) (vB N a0) N 0).bind fun o8=>(Sum.elim (fun o9=>some o9) (fun Rz=>some true) o8)))):=by kernel_rfl
def Uc:List (Nat × e8):=[(58,.loop [] ⟨(.cons (.int .i64) .nil),[5],[],[],[],[]⟩ [(.ret,⟨(.cons .bool .nil),[4],[],[],[],[]⟩),(.ex 0,⟨.nil,[],[],[],[],[]⟩)])]
-- "codend/codendref01.SameKnots"
noncomputable def OX (N:Nat):(List (Int × Int)) × (List (Int × Int))→Option Bool:=(cx N [] [(51,Uc)]).fn 1000 51 (.cons (.list 2 (.agg (.cons (.int .i64) (.cons (.int .i64) .nil)))) (.cons (.list 2 (.agg (.cons (.int .i64) (.cons (.int .i64) .nil)))) .nil)) .bool
noncomputable def RY (N:Nat):aV:=⟨(.cons (.list 2 (.agg (.cons (.int .i64) (.cons (.int .i64) .nil)))) (.cons (.list 2 (.agg (.cons (.int .i64) (.cons (.int .i64) .nil)))) .nil)),.bool,OX N⟩
theorem Ld (N:Nat):ap di 51 (RY N):=gD.cw (fun _ _ h=>by cases h) (by kernel_rfl) (by kernel_rfl)
noncomputable def s6 (N:Nat) (a0:List (Int × Int)) (a1:List (Int × Int)) (v1:Int):Option (Int ⊕ (Bool ⊕ Unit)):=
 (bif (decide (v1 < ((((List.map cU a0)).length:Nat):Int))) then bif (decide ((0:Int)≤v1∧v1 < (((List.map cU a0)).length:Int))&&av.fits kn (bM (List.map cU a0) (Int.toNat v1))) then bif (decide ((0:Int)≤v1∧v1 < (((List.map cU a1)).length:Int))&&av.fits kn (bM (List.map cU a1) (Int.toNat v1))) then (bif (!(((d86 (bM (List.map cU a0) (Int.toNat v1))).1 == (d86 (bM (List.map cU a1) (Int.toNat v1))).1)&&(((d86 (bM (List.map cU a0) (Int.toNat v1))).2 == (d86 (bM (List.map cU a1) (Int.toNat v1))).2)&&true))) then (some (Sum.inr (Sum.inl false))) else (some (Sum.inl (IntKind.wrap .i64 (v1+1))))) else none else none else (some (Sum.inr (Sum.inr ()))))
theorem Le (N:Nat) (a0:List (Int × Int)) (a1:List (Int × Int)):OX N (a0,a1) =
 (bif (((((List.map cU a0)).length:Nat):Int) != ((((List.map cU a1)).length:Nat):Int)) then some false else ((cq (V:=Int) (X:=Bool ⊕ Unit) (s6 N a0 a1) N 0).bind fun o6=>(Sum.elim (fun o7=>some o7) (fun o8=>some true) o6))):=by kernel_rfl
def Ud:List (Nat × e8):=[(26,.loop [] ⟨(.cons (.int .i64) .nil),[7],[],[],[],[]⟩ [(.ret,⟨(.cons (.int .i64) .nil),[2],[],[],[],[]⟩),(.ex 0,⟨.nil,[],[],[],[],[]⟩)])]
-- "codend/braid.first"
noncomputable def OY (N:Nat):(List Int)→Option Int:=(cx N [] [(78,Ud)]).fn 1000 78 (.cons (.list 1 (.int .i64)) .nil) (.int .i64)
noncomputable def RZ (N:Nat):aV:=⟨(.cons (.list 1 (.int .i64)) .nil),(.int .i64),OY N⟩
theorem Lf (N:Nat):ap di 78 (RZ N):=gD.cw (fun _ _ h=>by cases h) (by kernel_rfl) (by kernel_rfl)
noncomputable def vC (N:Nat) (a0:List Int) (v1:Int):Option (Int ⊕ (Int ⊕ Unit)):=
 (bif (decide (v1 < ((((List.map n26 a0)).length:Nat):Int))) then bif (decide ((0:Int)≤v1∧v1 < (((List.map n26 a0)).length:Int))&&av.fits Fa (bM (List.map n26 a0) (Int.toNat v1))) then (bif ((d26 (bM (List.map n26 a0) (Int.toNat v1))) != 0) then (some (Sum.inr (Sum.inl (d26 (bM (List.map n26 a0) (Int.toNat v1)))))) else (some (Sum.inl (IntKind.wrap .i64 (v1+1))))) else none else (some (Sum.inr (Sum.inr ()))))
theorem Lg (N:Nat) (a0:List Int):OY N a0 =
 ((cq (V:=Int) (X:=Int ⊕ Unit) (vC N a0) N 0).bind fun o6=>(Sum.elim (fun o7=>some o7) (fun o8=>some 0) o6)):=by kernel_rfl
-- "codend/braid.when"
noncomputable def Od (N:Nat):Bool × Int→Option Int:=(cx N [] []).fn 1000 80 (.cons .bool (.cons (.int .i64) .nil)) (.int .i64)
noncomputable def R4 (N:Nat):aV:=⟨(.cons .bool (.cons (.int .i64) .nil)),(.int .i64),Od N⟩
theorem Lh (N:Nat):ap di 80 (R4 N):=gD.cw (fun _ _ h=>by cases h) (by kernel_rfl) (by kernel_rfl)
theorem Li (N:Nat) (a0:Bool) (a1:Int):Od N (a0,a1) =
 (bif a0 then some a1 else some 0):=by kernel_rfl
def Ue:List (Nat × e8):=[(6,.join [(.norm,⟨(.cons (.int .i64) .nil),[6],[],[],[],[]⟩)])]
-- "codend/braid.within"
noncomputable def OZ (N:Nat):Int × Int × Int→Option Int:=(cx N [(80,R4 N)] [(90,Ue)]).fn 1000 90 (.cons (.int .i64) (.cons (.int .i64) (.cons (.int .i64) .nil))) (.int .i64)
noncomputable def R5 (N:Nat):aV:=⟨(.cons (.int .i64) (.cons (.int .i64) (.cons (.int .i64) .nil))),(.int .i64),OZ N⟩
theorem Lj (N:Nat):ap di 90 (R5 N):=gD.cw (bi (by intro a e h; simp only [List.mem_cons,Prod.mk.injEq,List.not_mem_nil,or_false] at h; rcases h with ⟨rfl,rfl⟩; exact Lh N)) (by kernel_rfl) (by kernel_rfl)
theorem Lk (N:Nat) (a0:Int) (a1:Int) (a2:Int):OZ N (a0,a1,a2) =
 (((bif (decide (a0 < a1)) then (Od N (true,3)).bind fun y1=>(some y1) else (Od N ((decide (a0 > a2)),3)).bind fun y2=>(some y2)):Option Int).bind fun o3=>some o3):=by kernel_rfl
-- "codend/braid.sign"
noncomputable def H0 (N:Nat):Bool→Option Int:=(cx N [] []).fn 1000 152 (.cons .bool .nil) (.int .i64)
noncomputable def Oe (N:Nat):aV:=⟨(.cons .bool .nil),(.int .i64),H0 N⟩
theorem H3 (N:Nat):ap di 152 (Oe N):=gD.cw (fun _ _ h=>by cases h) (by kernel_rfl) (by kernel_rfl)
theorem AM (N:Nat) (a0:Bool):H0 N a0 =
 (bif a0 then some 1 else some (-1)):=by kernel_rfl
-- "(codend/braid.Course).knot"
noncomputable def BT (N:Nat):(Int × Int × Bool × Bool × Int) × Int→Option ((Int × Int)):=(cx N [(152,Oe N)] []).fn 1000 109 (.cons (.agg (.cons (.int .i64) (.cons (.int .i64) (.cons .bool (.cons .bool (.cons (.int .i64) .nil)))))) (.cons (.int .i64) .nil)) (.agg (.cons (.int .i64) (.cons (.int .i64) .nil)))
noncomputable def H4 (N:Nat):aV:=⟨(.cons (.agg (.cons (.int .i64) (.cons (.int .i64) (.cons .bool (.cons .bool (.cons (.int .i64) .nil)))))) (.cons (.int .i64) .nil)),(.agg (.cons (.int .i64) (.cons (.int .i64) .nil))),BT N⟩
theorem vD (N:Nat):ap di 109 (H4 N):=gD.cw (bi (by intro a e h; simp only [List.mem_cons,Prod.mk.injEq,List.not_mem_nil,or_false] at h; rcases h with ⟨rfl,rfl⟩; exact H3 N)) (by kernel_rfl) (by kernel_rfl)
theorem H5 (N:Nat) (a0:Int × Int × Bool × Bool × Int) (a1:Int):BT N (a0,a1) =
 (H0 N a0.2.2.1).bind fun y1=>bif ((a0.2.2.2.1 == a0.2.2.2.1)&&((a0.2.1 == a0.2.1)&&((a0.1 == a0.1)&&true))) then (H0 N a0.2.2.2.1).bind fun y2=>bif ((a0.2.1 == a0.2.1)&&((a0.1 == a0.1)&&true)) then some ((IntKind.wrap .i64 (a0.1+(IntKind.wrap .i64 (a1 * y1)))),(IntKind.wrap .i64 (a0.2.1+(IntKind.wrap .i64 ((Int.tmod a1 2) * y2))))) else none else none:=by kernel_rfl
def Q0:List (Nat × e8):=[(58,.loop [] ⟨(.cons (.int .i64) .nil),[20],[],[],[],[]⟩ [(.ret,⟨(.cons (.int .i64) .nil),[2],[],[],[],[]⟩),(.ex 0,⟨.nil,[],[],[],[],[]⟩)])]
-- "(codend/braid.Course).check"
noncomputable def zM (N:Nat):(Int × Int × Bool × Bool × Int)→Option Int:=(cx N [(78,RZ N),(90,R5 N),(109,H4 N),(151,KL N)] [(108,Q0)]).fn 1000 108 (.cons (.agg (.cons (.int .i64) (.cons (.int .i64) (.cons .bool (.cons .bool (.cons (.int .i64) .nil)))))) .nil) (.int .i64)
noncomputable def Ll (N:Nat):aV:=⟨(.cons (.agg (.cons (.int .i64) (.cons (.int .i64) (.cons .bool (.cons .bool (.cons (.int .i64) .nil)))))) .nil),(.int .i64),zM N⟩
theorem AN (N:Nat):ap di 108 (Ll N):=gD.cw (bi (by intro a e h; simp only [List.mem_cons,Prod.mk.injEq,List.not_mem_nil,or_false] at h; rcases h with ⟨rfl,rfl⟩ | ⟨rfl,rfl⟩ | ⟨rfl,rfl⟩ | ⟨rfl,rfl⟩; exact Lf N; exact Lj N; exact vD N; exact AJ N)) (by kernel_rfl) (by kernel_rfl)
noncomputable def qJ (N:Nat) (a0:Int × Int × Bool × Bool × Int) (v5:Int):Option (Int ⊕ (Int ⊕ Unit)):=
 (bif (decide (v5 < (IntKind.wrap .i64 (a0.2.2.2.2+1)))) then (BT N ((a0.1,a0.2.1,a0.2.2.1,a0.2.2.2.1,a0.2.2.2.2),v5)).bind fun y6=>(BP N (y6.1,y6.2)).bind fun y7=>(bif (y7 != 0) then (some (Sum.inr (Sum.inl y7))) else (some (Sum.inl (IntKind.wrap .i64 (v5+1))))) else (some (Sum.inr (Sum.inr ()))))
theorem H6 (N:Nat) (a0:Int × Int × Bool × Bool × Int):zM N a0 =
 (BP N (a0.1,a0.2.1)).bind fun y1=>bif ((a0.2.2.2.2 == a0.2.2.2.2)&&true) then (OZ N (a0.2.2.2.2,1,512)).bind fun y2=>((bif (allFit (av.fits Fa) [(AV.int .i64 y1),(AV.int .i64 y2)]&&true) then some (List.map d26 [(AV.int .i64 y1),(AV.int .i64 y2)]) else none:Option ((List Int))).bind fun x4=>(OY N x4).bind fun y3=>(bif (y3 != 0) then some y3 else ((cq (V:=Int) (X:=Int ⊕ Unit) (qJ N a0) N 0).bind fun Q1=>(Sum.elim (fun L8=>some L8) (fun NN=>some 0) Q1)))) else none:=by kernel_rfl
def Uf:List (Nat × e8):=[(122,.loop [(.slot 5,2,86)] ⟨(.cons (.own 0 2 (.agg (.cons (.int .i64) (.cons (.int .i64) .nil)))) (.cons (.int .i64) .nil)),[5,15],[],[],[.tok 0 2 86],[]⟩ [(.ex 0,⟨(.cons (.own 0 2 (.agg (.cons (.int .i64) (.cons (.int .i64) .nil)))) .nil),[5],[],[],[.tok 0 2 86],[]⟩)])]
-- "codend/braid.Walk"
noncomputable def Of (N:Nat):(Int × Int × Bool × Bool × Int)→Option ((List (Int × Int)) × Int):=(cx N [(108,Ll N),(109,H4 N)] [(52,Uf)]).fn 1000 52 (.cons (.agg (.cons (.int .i64) (.cons (.int .i64) (.cons .bool (.cons .bool (.cons (.int .i64) .nil)))))) .nil) (.aR (.cons (.list 2 (.agg (.cons (.int .i64) (.cons (.int .i64) .nil)))) (.cons (.int .i64) .nil)))
noncomputable def R6 (N:Nat):aV:=⟨(.cons (.agg (.cons (.int .i64) (.cons (.int .i64) (.cons .bool (.cons .bool (.cons (.int .i64) .nil)))))) .nil),(.aR (.cons (.list 2 (.agg (.cons (.int .i64) (.cons (.int .i64) .nil)))) (.cons (.int .i64) .nil))),Of N⟩
theorem Lm (N:Nat):ap di 52 (R6 N):=gD.cw (bi (by intro a e h; simp only [List.mem_cons,Prod.mk.injEq,List.not_mem_nil,or_false] at h; rcases h with ⟨rfl,rfl⟩ | ⟨rfl,rfl⟩; exact AN N; exact vD N)) (by kernel_rfl) (by kernel_rfl)
noncomputable def nY (N:Nat) (a0:Int × Int × Bool × Bool × Int) (v2:(List (Int × Int)) × Int):Option (((List (Int × Int)) × Int) ⊕ (((List (Int × Int))))):=
 (bif (decide (v2.2 < (IntKind.wrap .i64 (a0.2.2.2.2+1)))) then (BT N ((a0.1,a0.2.1,a0.2.2.1,a0.2.2.2.1,a0.2.2.2.2),v2.2)).bind fun y3=>bif (decide ((((List.map cU v2.1)).length)=((List.map cU v2.1)).length)&&decide ((((List.map cU v2.1)).length+1) * 16≤140737488355328)) then (((bif (allFit (av.fits kn) ((List.map cU v2.1)++[(AV.agg [(AV.int .i64 y3.1),(AV.int .i64 y3.2)])])&&true) then some ((List.map d86 ((List.map cU v2.1)++[(AV.agg [(AV.int .i64 y3.1),(AV.int .i64 y3.2)])])),(IntKind.wrap .i64 (v2.2+1))) else none:Option ((List (Int × Int)) × Int)).bind fun w4=>bif (decide (((((List.map cU v2.1)).length)+1)=(List.map cU w4.1).length)&&true) then some w4 else none).bind fun u5=>some (Sum.inl u5)) else none else (((bif (allFit (av.fits kn) (List.map cU v2.1)&&true) then some (List.map d86 (List.map cU v2.1)) else none:Option ((List (Int × Int)))).bind fun w6=>bif (decide ((((List.map cU v2.1)).length)=(List.map cU w6).length)&&true) then some w6 else none).bind fun u7=>some (Sum.inr u7)))
theorem Ln (N:Nat) (a0:Int × Int × Bool × Bool × Int):Of N a0 =
 (zM N (a0.1,a0.2.1,a0.2.2.1,a0.2.2.2.1,a0.2.2.2.2)).bind fun y1=>(bif (y1 != 0) then (bif (allFit (av.fits kn) ([]:List AV)&&true) then some ((List.map d86 ([]:List AV)),y1) else none) else (((bif (allFit (av.fits kn) ([]:List AV)&&true) then some ((List.map d86 ([]:List AV)),0) else none:Option ((List (Int × Int)) × Int)).bind fun w8=>bif (decide (0=(List.map cU w8.1).length)&&true) then some w8 else none).bind fun Ug=>(cq (V:=(List (Int × Int)) × Int) (X:=((List (Int × Int)))) (nY N a0) N Ug).bind fun o9=>(bif (allFit (av.fits kn) (List.map cU o9)&&true) then some ((List.map d86 (List.map cU o9)),0) else none))):=by kernel_rfl
-- "(codend/braid.Course).end"
noncomputable def EN (N:Nat):(Int × Int × Bool × Bool × Int)→Option ((Int × Int)):=(cx N [(109,H4 N)] []).fn 1000 110 (.cons (.agg (.cons (.int .i64) (.cons (.int .i64) (.cons .bool (.cons .bool (.cons (.int .i64) .nil)))))) .nil) (.agg (.cons (.int .i64) (.cons (.int .i64) .nil)))
noncomputable def Og (N:Nat):aV:=⟨(.cons (.agg (.cons (.int .i64) (.cons (.int .i64) (.cons .bool (.cons .bool (.cons (.int .i64) .nil)))))) .nil),(.agg (.cons (.int .i64) (.cons (.int .i64) .nil))),EN N⟩
theorem H7 (N:Nat):ap di 110 (Og N):=gD.cw (bi (by intro a e h; simp only [List.mem_cons,Prod.mk.injEq,List.not_mem_nil,or_false] at h; rcases h with ⟨rfl,rfl⟩; exact vD N)) (by kernel_rfl) (by kernel_rfl)
theorem H8 (N:Nat) (a0:Int × Int × Bool × Bool × Int):EN N a0 =
 (BT N ((a0.1,a0.2.1,a0.2.2.1,a0.2.2.2.1,a0.2.2.2.2),a0.2.2.2.2)).bind fun y1=>some (y1.1,y1.2):=by kernel_rfl
-- "codend/braid.End"
noncomputable def Oh (N:Nat):(Int × Int × Bool × Bool × Int)→Option ((Int × Int) × Int):=(cx N [(108,Ll N),(110,Og N)] []).fn 1000 53 (.cons (.agg (.cons (.int .i64) (.cons (.int .i64) (.cons .bool (.cons .bool (.cons (.int .i64) .nil)))))) .nil) (.aR (.cons (.agg (.cons (.int .i64) (.cons (.int .i64) .nil))) (.cons (.int .i64) .nil)))
noncomputable def R7 (N:Nat):aV:=⟨(.cons (.agg (.cons (.int .i64) (.cons (.int .i64) (.cons .bool (.cons .bool (.cons (.int .i64) .nil)))))) .nil),(.aR (.cons (.agg (.cons (.int .i64) (.cons (.int .i64) .nil))) (.cons (.int .i64) .nil))),Oh N⟩
theorem Lo (N:Nat):ap di 53 (R7 N):=gD.cw (bi (by intro a e h; simp only [List.mem_cons,Prod.mk.injEq,List.not_mem_nil,or_false] at h; rcases h with ⟨rfl,rfl⟩ | ⟨rfl,rfl⟩; exact AN N; exact H7 N)) (by kernel_rfl) (by kernel_rfl)
theorem Lp (N:Nat) (a0:Int × Int × Bool × Bool × Int):Oh N a0 =
 (zM N (a0.1,a0.2.1,a0.2.2.1,a0.2.2.2.1,a0.2.2.2.2)).bind fun y1=>(bif (y1 != 0) then some ((0,0),y1) else (EN N (a0.1,a0.2.1,a0.2.2.1,a0.2.2.2.1,a0.2.2.2.2)).bind fun y2=>some ((y2.1,y2.2),0)):=by kernel_rfl
def Uh:List (Nat × e8):=[(26,.loop [] ⟨(.cons (.int .i64) .nil),[3],[],[],[],[]⟩ [(.ret,⟨(.cons (.int .i64) .nil),[2],[],[],[],[]⟩),(.ex 0,⟨.nil,[],[],[],[],[]⟩)])]
-- "codend/codendref01.First"
noncomputable def O0 (N:Nat):(List Int)→Option Int:=(cx N [] [(32,Uh)]).fn 1000 32 (.cons (.list 1 (.int .i64)) .nil) (.int .i64)
noncomputable def R8 (N:Nat):aV:=⟨(.cons (.list 1 (.int .i64)) .nil),(.int .i64),O0 N⟩
theorem Lq (N:Nat):ap di 32 (R8 N):=gD.cw (fun _ _ h=>by cases h) (by kernel_rfl) (by kernel_rfl)
noncomputable def vE (N:Nat) (a0:List Int) (v1:Int):Option (Int ⊕ (Int ⊕ Unit)):=
 (bif (decide (v1 < ((((List.map n3 a0)).length:Nat):Int))) then bif (decide ((0:Int)≤v1∧v1 < (((List.map n3 a0)).length:Int))&&av.fits p3 (bM (List.map n3 a0) (Int.toNat v1))) then (bif ((d3 (bM (List.map n3 a0) (Int.toNat v1))) != 0) then bif (decide ((0:Int)≤v1∧v1 < (((List.map n3 a0)).length:Int))&&av.fits p3 (bM (List.map n3 a0) (Int.toNat v1))) then (some (Sum.inr (Sum.inl (d3 (bM (List.map n3 a0) (Int.toNat v1)))))) else none else (some (Sum.inl (IntKind.wrap .i64 (v1+1))))) else none else (some (Sum.inr (Sum.inr ()))))
theorem Lr (N:Nat) (a0:List Int):O0 N a0 =
 ((cq (V:=Int) (X:=Int ⊕ Unit) (vE N a0) N 0).bind fun o6=>(Sum.elim (fun o7=>some o7) (fun o8=>some 0) o6)):=by kernel_rfl
def Ui:List (Nat × e8):=[(12,.join [(.norm,⟨(.cons .bool .nil),[14],[],[],[],[]⟩)])]
-- "codend/codendref01.CheckRange"
noncomputable def O1 (N:Nat):Int × Int × Int→Option Int:=(cx N [] [(33,Ui)]).fn 1000 33 (.cons (.int .i64) (.cons (.int .i64) (.cons (.int .i64) .nil))) (.int .i64)
noncomputable def R9 (N:Nat):aV:=⟨(.cons (.int .i64) (.cons (.int .i64) (.cons (.int .i64) .nil))),(.int .i64),O1 N⟩
theorem Ls (N:Nat):ap di 33 (R9 N):=gD.cw (fun _ _ h=>by cases h) (by kernel_rfl) (by kernel_rfl)
theorem Lt (N:Nat) (a0:Int) (a1:Int) (a2:Int):O1 N (a0,a1,a2) =
 (((bif (decide (a0 < a1)) then (some true) else (some (decide (a0 > a2)))):Option Bool).bind fun o1=>(bif o1 then some 3 else some 0)):=by kernel_rfl
def Uj:List (Nat × e8):=[(122,.loop [] ⟨(.cons (.own 0 2 (.agg (.cons (.int .i64) (.cons (.int .i64) .nil)))) (.cons .bool (.cons (.int .i64) (.cons (.int .i64) (.cons (.int .i64) .nil))))),[3,5,6],[],[(4,2)],[.tok 0 2 86],[]⟩ [(.ex 0,⟨(.cons (.own 0 2 (.agg (.cons (.int .i64) (.cons (.int .i64) .nil)))) (.cons (.int .i64) (.cons (.int .i64) .nil))),[3],[],[(4,2)],[.tok 0 2 86],[]⟩)]),
 (7825,.join [(.norm,⟨(.cons (.own 0 2 (.agg (.cons (.int .i64) (.cons (.int .i64) .nil)))) (.cons (.int .i64) (.cons (.int .i64) .nil))),[3],[],[(4,2)],[.tok 0 2 86],[]⟩)]),
 (15653,.join [(.norm,⟨(.cons (.own 0 2 (.agg (.cons (.int .i64) (.cons (.int .i64) .nil)))) (.cons (.int .i64) (.cons (.int .i64) .nil))),[3],[],[(4,2)],[.tok 0 2 86],[]⟩)])]
-- "codend/codendref08.Walk"
noncomputable def H9 (N:Nat):(Int × Int × Bool × Bool × Int)→Option ((List (Int × Int))):=(cx N [] [(55,Uj)]).fn 1000 55 (.cons (.agg (.cons (.int .i64) (.cons (.int .i64) (.cons .bool (.cons .bool (.cons (.int .i64) .nil)))))) .nil) (.list 2 (.agg (.cons (.int .i64) (.cons (.int .i64) .nil))))
noncomputable def O2 (N:Nat):aV:=⟨(.cons (.agg (.cons (.int .i64) (.cons (.int .i64) (.cons .bool (.cons .bool (.cons (.int .i64) .nil)))))) .nil),(.list 2 (.agg (.cons (.int .i64) (.cons (.int .i64) .nil)))),H9 N⟩
theorem zN (N:Nat):ap di 55 (O2 N):=gD.cw (fun _ _ h=>by cases h) (by kernel_rfl) (by kernel_rfl)
noncomputable def nZ (N:Nat) (a0:Int × Int × Bool × Bool × Int) (v1:(List (Int × Int)) × Bool × Int × Int × Int):Option (((List (Int × Int)) × Bool × Int × Int × Int) ⊕ (((List (Int × Int)) × Int × Int))):=
 (bif (decide (v1.2.2.1 < a0.2.2.2.2)) then (((bif a0.2.2.1 then ((bif (allFit (av.fits kn) (List.map cU v1.1)&&true) then some ((List.map d86 (List.map cU v1.1)),(IntKind.wrap .i64 (v1.2.2.2.1+1)),v1.2.2.2.2) else none:Option ((List (Int × Int)) × Int × Int)).bind fun w2=>bif (decide ((((List.map cU v1.1)).length)=(List.map cU w2.1).length)&&true) then some w2 else none) else ((bif (allFit (av.fits kn) (List.map cU v1.1)&&true) then some ((List.map d86 (List.map cU v1.1)),(IntKind.wrap .i64 (v1.2.2.2.1 - 1)),v1.2.2.2.2) else none:Option ((List (Int × Int)) × Int × Int)).bind fun w3=>bif (decide ((((List.map cU v1.1)).length)=(List.map cU w3.1).length)&&true) then some w3 else none)):Option (((List (Int × Int)) × Int × Int))).bind fun o4=>(((bif v1.2.1 then ((bif (allFit (av.fits kn) (List.map cU o4.1)&&true) then some ((List.map d86 (List.map cU o4.1)),o4.2.1,(IntKind.wrap .i64 (o4.2.2+1))) else none:Option ((List (Int × Int)) × Int × Int)).bind fun w5=>bif (decide ((((List.map cU o4.1)).length)=(List.map cU w5.1).length)&&true) then some w5 else none) else ((bif (allFit (av.fits kn) (List.map cU o4.1)&&true) then some ((List.map d86 (List.map cU o4.1)),o4.2.1,(IntKind.wrap .i64 (o4.2.2 - 1))) else none:Option ((List (Int × Int)) × Int × Int)).bind fun w6=>bif (decide ((((List.map cU o4.1)).length)=(List.map cU w6.1).length)&&true) then some w6 else none)):Option (((List (Int × Int)) × Int × Int))).bind fun o7=>bif (decide ((((List.map cU o7.1)).length)=((List.map cU o7.1)).length)&&decide ((((List.map cU o7.1)).length+1) * 16≤140737488355328)) then (((bif (allFit (av.fits kn) ((List.map cU o7.1)++[(AV.agg [(AV.int .i64 o7.2.1),(AV.int .i64 o7.2.2)])])&&true) then some ((List.map d86 ((List.map cU o7.1)++[(AV.agg [(AV.int .i64 o7.2.1),(AV.int .i64 o7.2.2)])])),(!v1.2.1),(IntKind.wrap .i64 (v1.2.2.1+1)),o7.2.1,o7.2.2) else none:Option ((List (Int × Int)) × Bool × Int × Int × Int)).bind fun w8=>bif (decide (((((List.map cU o7.1)).length)+1)=(List.map cU w8.1).length)&&true) then some w8 else none).bind fun u9=>some (Sum.inl u9)) else none)) else (((bif (allFit (av.fits kn) (List.map cU v1.1)&&true) then some ((List.map d86 (List.map cU v1.1)),v1.2.2.2.1,v1.2.2.2.2) else none:Option ((List (Int × Int)) × Int × Int)).bind fun O3=>bif (decide ((((List.map cU v1.1)).length)=(List.map cU O3.1).length)&&true) then some O3 else none).bind fun Uk=>some (Sum.inr Uk)))
theorem Lu (N:Nat) (a0:Int × Int × Bool × Bool × Int):H9 N a0 =
 bif ((a0.2.2.2.1 == a0.2.2.2.1)&&(((a0.1 == a0.1)&&((a0.2.1 == a0.2.1)&&true))&&true)) then bif ((a0.2.2.2.1 == a0.2.2.2.1)&&true) then (((bif (allFit (av.fits kn) [(AV.agg [(AV.int .i64 a0.1),(AV.int .i64 a0.2.1)])]&&true) then some ((List.map d86 [(AV.agg [(AV.int .i64 a0.1),(AV.int .i64 a0.2.1)])]),a0.2.2.2.1,0,a0.1,a0.2.1) else none:Option ((List (Int × Int)) × Bool × Int × Int × Int)).bind fun Oi=>bif (decide (1=(List.map cU Oi.1).length)&&true) then some Oi else none).bind fun Ul=>(cq (V:=(List (Int × Int)) × Bool × Int × Int × Int) (X:=((List (Int × Int)) × Int × Int)) (nZ N a0) N Ul).bind fun L8=>(bif allFit (av.fits kn) (List.map cU L8.1) then some (List.map d86 (List.map cU L8.1)) else none)) else none else none:=by kernel_rfl
def Q2:List (Nat × e8):=[(6,.join [(.norm,⟨(.cons .bool .nil),[2],[],[],[],[]⟩)])]
-- "codend/codendref01.far"
noncomputable def Ia (N:Nat):Int→Option Bool:=(cx N [] [(123,Q2)]).fn 1000 123 (.cons (.int .i64) .nil) .bool
noncomputable def Oj (N:Nat):aV:=⟨(.cons (.int .i64) .nil),.bool,Ia N⟩
theorem Ib (N:Nat):ap di 123 (Oj N):=gD.cw (fun _ _ h=>by cases h) (by kernel_rfl) (by kernel_rfl)
theorem AO (N:Nat) (a0:Int):Ia N a0 =
 (((bif (decide (a0 < (-100000))) then (some true) else (some (decide (a0 > 100000)))):Option Bool).bind fun o1=>some o1):=by kernel_rfl
-- "codend/codendref01.even"
noncomputable def Lv (N:Nat):Int × Int→Option Bool:=(cx N [] []).fn 1000 153 (.cons (.int .i64) (.cons (.int .i64) .nil)) .bool
noncomputable def Ol (N:Nat):aV:=⟨(.cons (.int .i64) (.cons (.int .i64) .nil)),.bool,Lv N⟩
theorem Ic (N:Nat):ap di 153 (Ol N):=gD.cw (fun _ _ h=>by cases h) (by kernel_rfl) (by kernel_rfl)
theorem Ie (N:Nat) (a0:Int) (a1:Int):Lv N (a0,a1) =
 some ((Int.tmod (IntKind.wrap .i64 (a0+a1)) 2) == 0):=by kernel_rfl
def Q3:List (Nat × e8):=[(12,.join [(.norm,⟨(.cons .bool .nil),[10],[],[],[],[]⟩)])]
-- "codend/codendref01.CheckKnot"
noncomputable def zO (N:Nat):(Int × Int)→Option Int:=(cx N [(123,Oj N),(153,Ol N)] [(111,Q3)]).fn 1000 111 (.cons (.agg (.cons (.int .i64) (.cons (.int .i64) .nil))) .nil) (.int .i64)
noncomputable def Om (N:Nat):aV:=⟨(.cons (.agg (.cons (.int .i64) (.cons (.int .i64) .nil))) .nil),(.int .i64),zO N⟩
theorem Ig (N:Nat):ap di 111 (Om N):=gD.cw (bi (by intro a e h; simp only [List.mem_cons,Prod.mk.injEq,List.not_mem_nil,or_false] at h; rcases h with ⟨rfl,rfl⟩ | ⟨rfl,rfl⟩; exact Ib N; exact Ic N)) (by kernel_rfl) (by kernel_rfl)
theorem Ih (N:Nat) (a0:Int × Int):zO N a0 =
 (((Ia N a0.1).bind fun y1=>(bif y1 then (some true) else (Ia N a0.2).bind fun y2=>(some y2)):Option Bool).bind fun o3=>(bif o3 then some 3 else (Lv N (a0.1,a0.2)).bind fun y4=>(bif (!y4) then some 14 else some 0))):=by kernel_rfl
def Um:List (Nat × e8):=[(250,.loop [] ⟨(.cons (.int .i64) .nil),[5],[],[],[],[]⟩ [(.ret,⟨(.cons (.int .i64) .nil),[2],[],[],[],[]⟩),(.ex 0,⟨.nil,[],[],[],[],[]⟩)])]
-- "codend/codendref08.CheckCourse"
noncomputable def On (N:Nat):(Int × Int × Bool × Bool × Int)→Option Int:=(cx N [(32,R8 N),(33,R9 N),(55,O2 N),(111,Om N)] [(54,Um)]).fn 1000 54 (.cons (.agg (.cons (.int .i64) (.cons (.int .i64) (.cons .bool (.cons .bool (.cons (.int .i64) .nil)))))) .nil) (.int .i64)
noncomputable def Sa (N:Nat):aV:=⟨(.cons (.agg (.cons (.int .i64) (.cons (.int .i64) (.cons .bool (.cons .bool (.cons (.int .i64) .nil)))))) .nil),(.int .i64),On N⟩
theorem Lw (N:Nat):ap di 54 (Sa N):=gD.cw (bi (by intro a e h; simp only [List.mem_cons,Prod.mk.injEq,List.not_mem_nil,or_false] at h; rcases h with ⟨rfl,rfl⟩ | ⟨rfl,rfl⟩ | ⟨rfl,rfl⟩ | ⟨rfl,rfl⟩; exact Lq N; exact Ls N; exact zN N; exact Ig N)) (by kernel_rfl) (by kernel_rfl)
noncomputable def qK (N:Nat) (y5:(List (Int × Int))) (v6:Int):Option (Int ⊕ (Int ⊕ Unit)):=
 (bif (decide (v6 < ((((List.map cU y5)).length:Nat):Int))) then bif (decide ((0:Int)≤v6∧v6 < (((List.map cU y5)).length:Int))&&av.fits kn (bM (List.map cU y5) (Int.toNat v6))) then (zO N ((d86 (bM (List.map cU y5) (Int.toNat v6))).1,(d86 (bM (List.map cU y5) (Int.toNat v6))).2)).bind fun y7=>(bif (y7 != 0) then (some (Sum.inr (Sum.inl y7))) else (some (Sum.inl (IntKind.wrap .i64 (v6+1))))) else none else (some (Sum.inr (Sum.inr ()))))
theorem Lx (N:Nat) (a0:Int × Int × Bool × Bool × Int):On N a0 =
 (zO N (a0.1,a0.2.1)).bind fun y1=>bif ((a0.2.2.2.2 == a0.2.2.2.2)&&true) then (O1 N (a0.2.2.2.2,1,512)).bind fun y2=>((bif (allFit (av.fits p3) [(AV.int .i64 y1),(AV.int .i64 y2)]&&true) then some (List.map d3 [(AV.int .i64 y1),(AV.int .i64 y2)]) else none:Option ((List Int))).bind fun x4=>(O0 N x4).bind fun y3=>(bif (y3 != 0) then some y3 else (H9 N (a0.1,a0.2.1,a0.2.2.1,a0.2.2.2.1,a0.2.2.2.2)).bind fun y5=>((cq (V:=Int) (X:=Int ⊕ Unit) (qK N y5) N 0).bind fun Q1=>(Sum.elim (fun L8=>some L8) (fun NN=>some 0) Q1)))) else none:=by kernel_rfl
-- "codend/codendref08.End"
noncomputable def Oo (N:Nat):(Int × Int × Bool × Bool × Int)→Option ((Int × Int)):=(cx N [(55,O2 N)] []).fn 1000 56 (.cons (.agg (.cons (.int .i64) (.cons (.int .i64) (.cons .bool (.cons .bool (.cons (.int .i64) .nil)))))) .nil) (.agg (.cons (.int .i64) (.cons (.int .i64) .nil)))
noncomputable def Sb (N:Nat):aV:=⟨(.cons (.agg (.cons (.int .i64) (.cons (.int .i64) (.cons .bool (.cons .bool (.cons (.int .i64) .nil)))))) .nil),(.agg (.cons (.int .i64) (.cons (.int .i64) .nil))),Oo N⟩
theorem Ly (N:Nat):ap di 56 (Sb N):=gD.cw (bi (by intro a e h; simp only [List.mem_cons,Prod.mk.injEq,List.not_mem_nil,or_false] at h; rcases h with ⟨rfl,rfl⟩; exact zN N)) (by kernel_rfl) (by kernel_rfl)
theorem Lz (N:Nat) (a0:Int × Int × Bool × Bool × Int):Oo N a0 =
 (H9 N (a0.1,a0.2.1,a0.2.2.1,a0.2.2.2.1,a0.2.2.2.2)).bind fun y1=>bif (decide ((0:Int)≤(IntKind.wrap .i64 (((((List.map cU y1)).length:Nat):Int) - 1))∧(IntKind.wrap .i64 (((((List.map cU y1)).length:Nat):Int) - 1)) < (((List.map cU y1)).length:Int))&&av.fits kn (bM (List.map cU y1) (Int.toNat (IntKind.wrap .i64 (((((List.map cU y1)).length:Nat):Int) - 1))))) then some ((d86 (bM (List.map cU y1) (Int.toNat (IntKind.wrap .i64 (((((List.map cU y1)).length:Nat):Int) - 1))))).1,(d86 (bM (List.map cU y1) (Int.toNat (IntKind.wrap .i64 (((((List.map cU y1)).length:Nat):Int) - 1))))).2) else none:=by kernel_rfl
end Go.Proofs.YtldcljfjjoidhaaGreatDoor
