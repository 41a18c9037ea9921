/- What the functions compute (printed by a program of ours,checked by the kernel). -/
import Derived.Test.YtldcljfjjoidhaaGreatDoorBraLg
set_option linter.all false
namespace Go.Proofs.YtldcljfjjoidhaaGreatDoor
open Go Go.Am
set_option maxRecDepth 100000
abbrev tR:aj:=(.agg (.cons (.int .i64) (.cons (.int .i64) (.cons .bool (.cons .bool (.cons (.int .i64) .nil))))))
abbrev d88 (v:AV):Int × Int × Bool × Bool × Int:=aj.bn tR v
abbrev ca (x:Int × Int × Bool × Bool × Int):AV:=aj.enc tR x
theorem Oy (l:List (Int × Int × Bool × Bool × Int)):allFit (aj.fits tR) (List.map ca l)=true:=dP (p:=tR) rfl l
theorem Oz (l:List (Int × Int × Bool × Bool × Int)):List.map d88 (List.map ca l)=l:=gO (p:=tR) rfl l
theorem aaD (x:Int × Int × Bool × Bool × Int):aj.fits tR (ca x)=true:=(aj.bO tR x rfl).1
theorem aaE (x:Int × Int × Bool × Bool × Int):d88 (ca x)=x:=(aj.bO tR x rfl).2
def c26:List (Nat × cE):=[(12,.join [(.norm,⟨(.cons .bool .nil),[14],[],[],[],[]⟩)]),
 (58,.loop [] ⟨(.cons (.int .i64) .nil),[5],[],[],[],[]⟩ [(.ret,⟨(.cons .bool .nil),[4],[],[],[],[]⟩),(.ex 0,⟨.nil,[],[],[],[],[]⟩)]),
 (1864,.join [(.norm,⟨(.cons .bool .nil),[34],[],[],[],[]⟩)])]
-- "codend/codendref08.Short"
noncomputable def W3 (N:Nat):(List (Int × Int × Bool × Bool × Int)) × Int→Option Bool:=(cx N [] [(26,c26)]).fn 1000 26 (.cons (.list 5 (.agg (.cons (.int .i64) (.cons (.int .i64) (.cons .bool (.cons .bool (.cons (.int .i64) .nil))))))) (.cons (.int .i64) .nil)) .bool
noncomputable def e26 (N:Nat):aL:=⟨(.cons (.list 5 (.agg (.cons (.int .i64) (.cons (.int .i64) (.cons .bool (.cons .bool (.cons (.int .i64) .nil))))))) (.cons (.int .i64) .nil)),.bool,W3 N⟩
theorem SZ (N:Nat):an bF 26 (e26 N):=ej.bt (fun _ _ h=>by cases h) (by kernel_rfl) (by kernel_rfl)
noncomputable def wH (N:Nat) (a0:List (Int × Int × Bool × Bool × Int)) (v2:Int):Option (Int ⊕ (Bool ⊕ Unit)):=
 (bif (decide (v2 < ((((List.map ca a0)).length:Nat):Int))) then ((bif (decide ((0:Int)≤v2∧v2 < (((List.map ca a0)).length:Int))&&aj.fits tR (ah (List.map ca a0) (Int.toNat v2))) then (bif (decide ((d88 (ah (List.map ca a0) (Int.toNat v2))).2.2.2.2 > 12)) then bif (decide ((0:Int)≤v2∧v2 < (((List.map ca a0)).length:Int))&&aj.fits tR (ah (List.map ca a0) (Int.toNat v2))) then (some (decide ((d88 (ah (List.map ca a0) (Int.toNat v2))).2.2.2.2≤512))) else none else (some false)) else none:Option Bool).bind fun o3=>(bif o3 then (some (Sum.inr (Sum.inl false))) else (some (Sum.inl (IntKind.wrap .i64 (v2+1)))))) else (some (Sum.inr (Sum.inr ()))))
theorem S0 (N:Nat) (a0:List (Int × Int × Bool × Bool × Int)) (a1:Int):W3 N (a0,a1) =
 (((bif (decide (((((List.map ca a0)).length:Nat):Int) > a1)) then (some (((((List.map ca a0)).length:Nat):Int) != 257)) else (some false)):Option Bool).bind fun o1=>(bif o1 then some false else ((az (V:=Int) (X:=Bool ⊕ Unit) (wH N a0) N 0).bind fun o8=>(Sum.elim (fun o9=>some o9) (fun Iv=>some true) o8)))):=by kernel_rfl
-- "codend/codendref01.SameKnots"
def c78:List (Nat × cE):=[(26,.loop [] ⟨(.cons (.int .i64) .nil),[7],[],[],[],[]⟩ [(.ret,⟨(.cons (.int .i64) .nil),[2],[],[],[],[]⟩),(.ex 0,⟨.nil,[],[],[],[],[]⟩)])]
-- "codend/braid.first"
noncomputable def U2 (N:Nat):(List Int)→Option Int:=(cx N [] [(78,c78)]).fn 1000 78 (.cons (.list 1 (.int .i64)) .nil) (.int .i64)
noncomputable def e78 (N:Nat):aL:=⟨(.cons (.list 1 (.int .i64)) .nil),(.int .i64),U2 N⟩
theorem Kd (N:Nat):an bF 78 (e78 N):=ej.bt (fun _ _ h=>by cases h) (by kernel_rfl) (by kernel_rfl)
noncomputable def Af (N:Nat) (a0:List Int) (v1:Int):Option (Int ⊕ (Int ⊕ Unit)):=
 (bif (decide (v1 < ((((List.map n26 a0)).length:Nat):Int))) then bif (decide ((0:Int)≤v1∧v1 < (((List.map n26 a0)).length:Int))&&aj.fits Ac (ah (List.map n26 a0) (Int.toNat v1))) then (bif ((d26 (ah (List.map n26 a0) (Int.toNat v1))) != 0) then (some (Sum.inr (Sum.inl (d26 (ah (List.map n26 a0) (Int.toNat v1)))))) else (some (Sum.inl (IntKind.wrap .i64 (v1+1))))) else none else (some (Sum.inr (Sum.inr ()))))
theorem S1 (N:Nat) (a0:List Int):U2 N a0 =
 ((az (V:=Int) (X:=Int ⊕ Unit) (Af N a0) N 0).bind fun o6=>(Sum.elim (fun o7=>some o7) (fun o8=>some 0) o6)):=by kernel_rfl
-- "codend/braid.when"
noncomputable def S2 (N:Nat):Bool × Int→Option Int:=(cx N [] []).fn 1000 80 (.cons .bool (.cons (.int .i64) .nil)) (.int .i64)
noncomputable def e80 (N:Nat):aL:=⟨(.cons .bool (.cons (.int .i64) .nil)),(.int .i64),S2 N⟩
theorem Ke (N:Nat):an bF 80 (e80 N):=ej.bt (fun _ _ h=>by cases h) (by kernel_rfl) (by kernel_rfl)
theorem S3 (N:Nat) (a0:Bool) (a1:Int):S2 N (a0,a1) =
 (bif a0 then some a1 else some 0):=by kernel_rfl
def c90:List (Nat × cE):=[(6,.join [(.norm,⟨(.cons (.int .i64) .nil),[6],[],[],[],[]⟩)])]
-- "codend/braid.within"
noncomputable def Yq (N:Nat):Int × Int × Int→Option Int:=(cx N [(80,e80 N)] [(90,c90)]).fn 1000 90 (.cons (.int .i64) (.cons (.int .i64) (.cons (.int .i64) .nil))) (.int .i64)
noncomputable def e90 (N:Nat):aL:=⟨(.cons (.int .i64) (.cons (.int .i64) (.cons (.int .i64) .nil))),(.int .i64),Yq N⟩
theorem S4 (N:Nat):an bF 90 (e90 N):=ej.bt (aT (by intro a e h; simp only [List.mem_cons,Prod.mk.injEq,List.not_mem_nil,or_false] at h; rcases h with ⟨rfl,rfl⟩; exact Ke N)) (by kernel_rfl) (by kernel_rfl)
theorem S5 (N:Nat) (a0:Int) (a1:Int) (a2:Int):Yq N (a0,a1,a2) =
 (((bif (decide (a0 < a1)) then (S2 N (true,3)).bind fun y1=>(some y1) else (S2 N ((decide (a0 > a2)),3)).bind fun y2=>(some y2)):Option Int).bind fun o3=>some o3):=by kernel_rfl
-- "codend/braid.sign"
noncomputable def OA (N:Nat):Bool→Option Int:=(cx N [] []).fn 1000 152 (.cons .bool .nil) (.int .i64)
noncomputable def W4 (N:Nat):aL:=⟨(.cons .bool .nil),(.int .i64),OA N⟩
theorem OB (N:Nat):an bF 152 (W4 N):=ej.bt (fun _ _ h=>by cases h) (by kernel_rfl) (by kernel_rfl)
theorem Ff (N:Nat) (a0:Bool):OA N a0 =
 (bif a0 then some 1 else some (-1)):=by kernel_rfl
-- "(codend/braid.Course).knot"
noncomputable def mQ (N:Nat):(Int × Int × Bool × Bool × Int) × Int→Option ((Int × Int)):=(cx N [(152,W4 N)] []).fn 1000 109 (.cons (.agg (.cons (.int .i64) (.cons (.int .i64) (.cons .bool (.cons .bool (.cons (.int .i64) .nil)))))) (.cons (.int .i64) .nil)) (.agg (.cons (.int .i64) (.cons (.int .i64) .nil)))
noncomputable def Ag (N:Nat):aL:=⟨(.cons (.agg (.cons (.int .i64) (.cons (.int .i64) (.cons .bool (.cons .bool (.cons (.int .i64) .nil)))))) (.cons (.int .i64) .nil)),(.agg (.cons (.int .i64) (.cons (.int .i64) .nil))),mQ N⟩
theorem kH (N:Nat):an bF 109 (Ag N):=ej.bt (aT (by intro a e h; simp only [List.mem_cons,Prod.mk.injEq,List.not_mem_nil,or_false] at h; rcases h with ⟨rfl,rfl⟩; exact OB N)) (by kernel_rfl) (by kernel_rfl)
theorem OC (N:Nat) (a0:Int × Int × Bool × Bool × Int) (a1:Int):mQ N (a0,a1) =
 (OA N a0.2.2.1).bind fun y1=>bif ((a0.2.2.2.1 == a0.2.2.2.1)&&((a0.2.1 == a0.2.1)&&((a0.1 == a0.1)&&true))) then (OA N a0.2.2.2.1).bind fun y2=>bif ((a0.2.1 == a0.2.1)&&((a0.1 == a0.1)&&true)) then some ((IntKind.wrap .i64 (a0.1+(IntKind.wrap .i64 (a1 * y1)))),(IntKind.wrap .i64 (a0.2.1+(IntKind.wrap .i64 ((Int.tmod a1 2) * y2))))) else none else none:=by kernel_rfl
def aaH:List (Nat × cE):=[(58,.loop [] ⟨(.cons (.int .i64) .nil),[20],[],[],[],[]⟩ [(.ret,⟨(.cons (.int .i64) .nil),[2],[],[],[],[]⟩),(.ex 0,⟨.nil,[],[],[],[],[]⟩)])]
-- "(codend/braid.Course).check"
noncomputable def Ah (N:Nat):(Int × Int × Bool × Bool × Int)→Option Int:=(cx N [(78,e78 N),(90,e90 N),(109,Ag N),(151,Sy N)] [(108,aaH)]).fn 1000 108 (.cons (.agg (.cons (.int .i64) (.cons (.int .i64) (.cons .bool (.cons .bool (.cons (.int .i64) .nil)))))) .nil) (.int .i64)
noncomputable def OD (N:Nat):aL:=⟨(.cons (.agg (.cons (.int .i64) (.cons (.int .i64) (.cons .bool (.cons .bool (.cons (.int .i64) .nil)))))) .nil),(.int .i64),Ah N⟩
theorem Ai (N:Nat):an bF 108 (OD N):=ej.bt (aT (by intro a e h; simp only [List.mem_cons,Prod.mk.injEq,List.not_mem_nil,or_false] at h; rcases h with ⟨rfl,rfl⟩ | ⟨rfl,rfl⟩ | ⟨rfl,rfl⟩ | ⟨rfl,rfl⟩; exact Kd N; exact S4 N; exact kH N; exact E9 N)) (by kernel_rfl) (by kernel_rfl)
noncomputable def ur (N:Nat) (a0:Int × Int × Bool × Bool × Int) (v5:Int):Option (Int ⊕ (Int ⊕ Unit)):=
 (bif (decide (v5 < (IntKind.wrap .i64 (a0.2.2.2.2+1)))) then (mQ N ((a0.1,a0.2.1,a0.2.2.1,a0.2.2.2.1,a0.2.2.2.2),v5)).bind fun y6=>(B6 N (y6.1,y6.2)).bind fun y7=>(bif (y7 != 0) then (some (Sum.inr (Sum.inl y7))) else (some (Sum.inl (IntKind.wrap .i64 (v5+1))))) else (some (Sum.inr (Sum.inr ()))))
theorem OE (N:Nat) (a0:Int × Int × Bool × Bool × Int):Ah N a0 =
 (B6 N (a0.1,a0.2.1)).bind fun y1=>bif ((a0.2.2.2.2 == a0.2.2.2.2)&&true) then (Yq N (a0.2.2.2.2,1,512)).bind fun y2=>((bif (allFit (aj.fits Ac) [(AV.int .i64 y1),(AV.int .i64 y2)]&&true) then some (List.map d26 [(AV.int .i64 y1),(AV.int .i64 y2)]) else none:Option ((List Int))).bind fun x4=>(U2 N x4).bind fun y3=>(bif (y3 != 0) then some y3 else ((az (V:=Int) (X:=Int ⊕ Unit) (ur N a0) N 0).bind fun Lp=>(Sum.elim (fun AI=>some AI) (fun Qq=>some 0) Lp)))) else none:=by kernel_rfl
def c52:List (Nat × cE):=[(122,.loop [(.slot 5,2,86)] ⟨(.cons (.own 0 2 (.agg (.cons (.int .i64) (.cons (.int .i64) .nil)))) (.cons (.int .i64) .nil)),[5,15],[],[],[.tok 0 2 86],[]⟩ [(.ex 0,⟨(.cons (.own 0 2 (.agg (.cons (.int .i64) (.cons (.int .i64) .nil)))) .nil),[5],[],[],[.tok 0 2 86],[]⟩)])]
-- "codend/braid.Walk"
noncomputable def W5 (N:Nat):(Int × Int × Bool × Bool × Int)→Option ((List (Int × Int)) × Int):=(cx N [(108,OD N),(109,Ag N)] [(52,c52)]).fn 1000 52 (.cons (.agg (.cons (.int .i64) (.cons (.int .i64) (.cons .bool (.cons .bool (.cons (.int .i64) .nil)))))) .nil) (.bf (.cons (.list 2 (.agg (.cons (.int .i64) (.cons (.int .i64) .nil)))) (.cons (.int .i64) .nil)))
noncomputable def e52 (N:Nat):aL:=⟨(.cons (.agg (.cons (.int .i64) (.cons (.int .i64) (.cons .bool (.cons .bool (.cons (.int .i64) .nil)))))) .nil),(.bf (.cons (.list 2 (.agg (.cons (.int .i64) (.cons (.int .i64) .nil)))) (.cons (.int .i64) .nil))),W5 N⟩
theorem S6 (N:Nat):an bF 52 (e52 N):=ej.bt (aT (by intro a e h; simp only [List.mem_cons,Prod.mk.injEq,List.not_mem_nil,or_false] at h; rcases h with ⟨rfl,rfl⟩ | ⟨rfl,rfl⟩; exact Ai N; exact kH N)) (by kernel_rfl) (by kernel_rfl)
noncomputable def qW (N:Nat) (a0:Int × Int × Bool × Bool × Int) (v2:(List (Int × Int)) × Int):Option (((List (Int × Int)) × Int) ⊕ (((List (Int × Int))))):=
 (bif (decide (v2.2 < (IntKind.wrap .i64 (a0.2.2.2.2+1)))) then (mQ N ((a0.1,a0.2.1,a0.2.2.1,a0.2.2.2.1,a0.2.2.2.2),v2.2)).bind fun y3=>bif (decide ((((List.map au v2.1)).length)=((List.map au v2.1)).length)&&decide ((((List.map au v2.1)).length+1) * 16≤140737488355328)) then (((bif (allFit (aj.fits cG) ((List.map au v2.1)++[(AV.agg [(AV.int .i64 y3.1),(AV.int .i64 y3.2)])])&&true) then some ((List.map d86 ((List.map au v2.1)++[(AV.agg [(AV.int .i64 y3.1),(AV.int .i64 y3.2)])])),(IntKind.wrap .i64 (v2.2+1))) else none:Option ((List (Int × Int)) × Int)).bind fun w4=>bif (decide (((((List.map au v2.1)).length)+1)=(List.map au w4.1).length)&&true) then some w4 else none).bind fun u5=>some (Sum.inl u5)) else none else (((bif (allFit (aj.fits cG) (List.map au v2.1)&&true) then some (List.map d86 (List.map au v2.1)) else none:Option ((List (Int × Int)))).bind fun w6=>bif (decide ((((List.map au v2.1)).length)=(List.map au w6).length)&&true) then some w6 else none).bind fun u7=>some (Sum.inr u7)))
theorem S7 (N:Nat) (a0:Int × Int × Bool × Bool × Int):W5 N a0 =
 (Ah N (a0.1,a0.2.1,a0.2.2.1,a0.2.2.2.1,a0.2.2.2.2)).bind fun y1=>(bif (y1 != 0) then (bif (allFit (aj.fits cG) ([]:List AV)&&true) then some ((List.map d86 ([]:List AV)),y1) else none) else (((bif (allFit (aj.fits cG) ([]:List AV)&&true) then some ((List.map d86 ([]:List AV)),0) else none:Option ((List (Int × Int)) × Int)).bind fun w8=>bif (decide (0=(List.map au w8.1).length)&&true) then some w8 else none).bind fun W6=>(az (V:=(List (Int × Int)) × Int) (X:=((List (Int × Int)))) (qW N a0) N W6).bind fun o9=>(bif (allFit (aj.fits cG) (List.map au o9)&&true) then some ((List.map d86 (List.map au o9)),0) else none))):=by kernel_rfl
-- "(codend/braid.Course).end"
noncomputable def GN (N:Nat):(Int × Int × Bool × Bool × Int)→Option ((Int × Int)):=(cx N [(109,Ag N)] []).fn 1000 110 (.cons (.agg (.cons (.int .i64) (.cons (.int .i64) (.cons .bool (.cons .bool (.cons (.int .i64) .nil)))))) .nil) (.agg (.cons (.int .i64) (.cons (.int .i64) .nil)))
noncomputable def Kf (N:Nat):aL:=⟨(.cons (.agg (.cons (.int .i64) (.cons (.int .i64) (.cons .bool (.cons .bool (.cons (.int .i64) .nil)))))) .nil),(.agg (.cons (.int .i64) (.cons (.int .i64) .nil))),GN N⟩
theorem Fg (N:Nat):an bF 110 (Kf N):=ej.bt (aT (by intro a e h; simp only [List.mem_cons,Prod.mk.injEq,List.not_mem_nil,or_false] at h; rcases h with ⟨rfl,rfl⟩; exact kH N)) (by kernel_rfl) (by kernel_rfl)
theorem OF (N:Nat) (a0:Int × Int × Bool × Bool × Int):GN N a0 =
 (mQ N ((a0.1,a0.2.1,a0.2.2.1,a0.2.2.2.1,a0.2.2.2.2),a0.2.2.2.2)).bind fun y1=>some (y1.1,y1.2):=by kernel_rfl
-- "codend/braid.End"
noncomputable def W7 (N:Nat):(Int × Int × Bool × Bool × Int)→Option ((Int × Int) × Int):=(cx N [(108,OD N),(110,Kf N)] []).fn 1000 53 (.cons (.agg (.cons (.int .i64) (.cons (.int .i64) (.cons .bool (.cons .bool (.cons (.int .i64) .nil)))))) .nil) (.bf (.cons (.agg (.cons (.int .i64) (.cons (.int .i64) .nil))) (.cons (.int .i64) .nil)))
noncomputable def e53 (N:Nat):aL:=⟨(.cons (.agg (.cons (.int .i64) (.cons (.int .i64) (.cons .bool (.cons .bool (.cons (.int .i64) .nil)))))) .nil),(.bf (.cons (.agg (.cons (.int .i64) (.cons (.int .i64) .nil))) (.cons (.int .i64) .nil))),W7 N⟩
theorem S8 (N:Nat):an bF 53 (e53 N):=ej.bt (aT (by intro a e h; simp only [List.mem_cons,Prod.mk.injEq,List.not_mem_nil,or_false] at h; rcases h with ⟨rfl,rfl⟩ | ⟨rfl,rfl⟩; exact Ai N; exact Fg N)) (by kernel_rfl) (by kernel_rfl)
theorem S9 (N:Nat) (a0:Int × Int × Bool × Bool × Int):W7 N a0 =
 (Ah N (a0.1,a0.2.1,a0.2.2.1,a0.2.2.2.1,a0.2.2.2.2)).bind fun y1=>(bif (y1 != 0) then some ((0,0),y1) else (GN N (a0.1,a0.2.1,a0.2.2.1,a0.2.2.2.1,a0.2.2.2.2)).bind fun y2=>some ((y2.1,y2.2),0)):=by kernel_rfl
def c32:List (Nat × cE):=[(26,.loop [] ⟨(.cons (.int .i64) .nil),[3],[],[],[],[]⟩ [(.ret,⟨(.cons (.int .i64) .nil),[2],[],[],[],[]⟩),(.ex 0,⟨.nil,[],[],[],[],[]⟩)])]
-- "codend/codendref01.First"
noncomputable def Yr (N:Nat):(List Int)→Option Int:=(cx N [] [(32,c32)]).fn 1000 32 (.cons (.list 1 (.int .i64)) .nil) (.int .i64)
noncomputable def e32 (N:Nat):aL:=⟨(.cons (.list 1 (.int .i64)) .nil),(.int .i64),Yr N⟩
theorem Ta (N:Nat):an bF 32 (e32 N):=ej.bt (fun _ _ h=>by cases h) (by kernel_rfl) (by kernel_rfl)
noncomputable def Aj (N:Nat) (a0:List Int) (v1:Int):Option (Int ⊕ (Int ⊕ Unit)):=
 (bif (decide (v1 < ((((List.map n3 a0)).length:Nat):Int))) then bif (decide ((0:Int)≤v1∧v1 < (((List.map n3 a0)).length:Int))&&aj.fits p3 (ah (List.map n3 a0) (Int.toNat v1))) then (bif ((d3 (ah (List.map n3 a0) (Int.toNat v1))) != 0) then bif (decide ((0:Int)≤v1∧v1 < (((List.map n3 a0)).length:Int))&&aj.fits p3 (ah (List.map n3 a0) (Int.toNat v1))) then (some (Sum.inr (Sum.inl (d3 (ah (List.map n3 a0) (Int.toNat v1)))))) else none else (some (Sum.inl (IntKind.wrap .i64 (v1+1))))) else none else (some (Sum.inr (Sum.inr ()))))
theorem Tb (N:Nat) (a0:List Int):Yr N a0 =
 ((az (V:=Int) (X:=Int ⊕ Unit) (Aj N a0) N 0).bind fun o6=>(Sum.elim (fun o7=>some o7) (fun o8=>some 0) o6)):=by kernel_rfl
def c33:List (Nat × cE):=[(12,.join [(.norm,⟨(.cons .bool .nil),[14],[],[],[],[]⟩)])]
-- "codend/codendref01.CheckRange"
noncomputable def Ys (N:Nat):Int × Int × Int→Option Int:=(cx N [] [(33,c33)]).fn 1000 33 (.cons (.int .i64) (.cons (.int .i64) (.cons (.int .i64) .nil))) (.int .i64)
noncomputable def e33 (N:Nat):aL:=⟨(.cons (.int .i64) (.cons (.int .i64) (.cons (.int .i64) .nil))),(.int .i64),Ys N⟩
theorem Tc (N:Nat):an bF 33 (e33 N):=ej.bt (fun _ _ h=>by cases h) (by kernel_rfl) (by kernel_rfl)
theorem Td (N:Nat) (a0:Int) (a1:Int) (a2:Int):Ys N (a0,a1,a2) =
 (((bif (decide (a0 < a1)) then (some true) else (some (decide (a0 > a2)))):Option Bool).bind fun o1=>(bif o1 then some 3 else some 0)):=by kernel_rfl
def c55:List (Nat × cE):=[(122,.loop [] ⟨(.cons (.own 0 2 (.agg (.cons (.int .i64) (.cons (.int .i64) .nil)))) (.cons .bool (.cons (.int .i64) (.cons (.int .i64) (.cons (.int .i64) .nil))))),[3,5,6],[],[(4,2)],[.tok 0 2 86],[]⟩ [(.ex 0,⟨(.cons (.own 0 2 (.agg (.cons (.int .i64) (.cons (.int .i64) .nil)))) (.cons (.int .i64) (.cons (.int .i64) .nil))),[3],[],[(4,2)],[.tok 0 2 86],[]⟩)]),
 (7825,.join [(.norm,⟨(.cons (.own 0 2 (.agg (.cons (.int .i64) (.cons (.int .i64) .nil)))) (.cons (.int .i64) (.cons (.int .i64) .nil))),[3],[],[(4,2)],[.tok 0 2 86],[]⟩)]),
 (15653,.join [(.norm,⟨(.cons (.own 0 2 (.agg (.cons (.int .i64) (.cons (.int .i64) .nil)))) (.cons (.int .i64) (.cons (.int .i64) .nil))),[3],[],[(4,2)],[.tok 0 2 86],[]⟩)])]
-- "codend/codendref08.Walk"
noncomputable def Te (N:Nat):(Int × Int × Bool × Bool × Int)→Option ((List (Int × Int))):=(cx N [] [(55,c55)]).fn 1000 55 (.cons (.agg (.cons (.int .i64) (.cons (.int .i64) (.cons .bool (.cons .bool (.cons (.int .i64) .nil)))))) .nil) (.list 2 (.agg (.cons (.int .i64) (.cons (.int .i64) .nil))))
noncomputable def e55 (N:Nat):aL:=⟨(.cons (.agg (.cons (.int .i64) (.cons (.int .i64) (.cons .bool (.cons .bool (.cons (.int .i64) .nil)))))) .nil),(.list 2 (.agg (.cons (.int .i64) (.cons (.int .i64) .nil)))),Te N⟩
theorem Kg (N:Nat):an bF 55 (e55 N):=ej.bt (fun _ _ h=>by cases h) (by kernel_rfl) (by kernel_rfl)
noncomputable def qX (N:Nat) (a0:Int × Int × Bool × Bool × Int) (v1:(List (Int × Int)) × Bool × Int × Int × Int):Option (((List (Int × Int)) × Bool × Int × Int × Int) ⊕ (((List (Int × Int)) × Int × Int))):=
 (bif (decide (v1.2.2.1 < a0.2.2.2.2)) then (((bif a0.2.2.1 then ((bif (allFit (aj.fits cG) (List.map au v1.1)&&true) then some ((List.map d86 (List.map au v1.1)),(IntKind.wrap .i64 (v1.2.2.2.1+1)),v1.2.2.2.2) else none:Option ((List (Int × Int)) × Int × Int)).bind fun w2=>bif (decide ((((List.map au v1.1)).length)=(List.map au w2.1).length)&&true) then some w2 else none) else ((bif (allFit (aj.fits cG) (List.map au v1.1)&&true) then some ((List.map d86 (List.map au v1.1)),(IntKind.wrap .i64 (v1.2.2.2.1 - 1)),v1.2.2.2.2) else none:Option ((List (Int × Int)) × Int × Int)).bind fun w3=>bif (decide ((((List.map au v1.1)).length)=(List.map au w3.1).length)&&true) then some w3 else none)):Option (((List (Int × Int)) × Int × Int))).bind fun o4=>(((bif v1.2.1 then ((bif (allFit (aj.fits cG) (List.map au o4.1)&&true) then some ((List.map d86 (List.map au o4.1)),o4.2.1,(IntKind.wrap .i64 (o4.2.2+1))) else none:Option ((List (Int × Int)) × Int × Int)).bind fun w5=>bif (decide ((((List.map au o4.1)).length)=(List.map au w5.1).length)&&true) then some w5 else none) else ((bif (allFit (aj.fits cG) (List.map au o4.1)&&true) then some ((List.map d86 (List.map au o4.1)),o4.2.1,(IntKind.wrap .i64 (o4.2.2 - 1))) else none:Option ((List (Int × Int)) × Int × Int)).bind fun w6=>bif (decide ((((List.map au o4.1)).length)=(List.map au w6.1).length)&&true) then some w6 else none)):Option (((List (Int × Int)) × Int × Int))).bind fun o7=>bif (decide ((((List.map au o7.1)).length)=((List.map au o7.1)).length)&&decide ((((List.map au o7.1)).length+1) * 16≤140737488355328)) then (((bif (allFit (aj.fits cG) ((List.map au o7.1)++[(AV.agg [(AV.int .i64 o7.2.1),(AV.int .i64 o7.2.2)])])&&true) then some ((List.map d86 ((List.map au o7.1)++[(AV.agg [(AV.int .i64 o7.2.1),(AV.int .i64 o7.2.2)])])),(!v1.2.1),(IntKind.wrap .i64 (v1.2.2.1+1)),o7.2.1,o7.2.2) else none:Option ((List (Int × Int)) × Bool × Int × Int × Int)).bind fun w8=>bif (decide (((((List.map au o7.1)).length)+1)=(List.map au w8.1).length)&&true) then some w8 else none).bind fun u9=>some (Sum.inl u9)) else none)) else (((bif (allFit (aj.fits cG) (List.map au v1.1)&&true) then some ((List.map d86 (List.map au v1.1)),v1.2.2.2.1,v1.2.2.2.2) else none:Option ((List (Int × Int)) × Int × Int)).bind fun Fh=>bif (decide ((((List.map au v1.1)).length)=(List.map au Fh.1).length)&&true) then some Fh else none).bind fun Tf=>some (Sum.inr Tf)))
theorem Tg (N:Nat) (a0:Int × Int × Bool × Bool × Int):Te N a0 =
 bif ((a0.2.2.2.1 == a0.2.2.2.1)&&(((a0.1 == a0.1)&&((a0.2.1 == a0.2.1)&&true))&&true)) then bif ((a0.2.2.2.1 == a0.2.2.2.1)&&true) then (((bif (allFit (aj.fits cG) [(AV.agg [(AV.int .i64 a0.1),(AV.int .i64 a0.2.1)])]&&true) then some ((List.map d86 [(AV.agg [(AV.int .i64 a0.1),(AV.int .i64 a0.2.1)])]),a0.2.2.2.1,0,a0.1,a0.2.1) else none:Option ((List (Int × Int)) × Bool × Int × Int × Int)).bind fun DZ=>bif (decide (1=(List.map au DZ.1).length)&&true) then some DZ else none).bind fun x14=>(az (V:=(List (Int × Int)) × Bool × Int × Int × Int) (X:=((List (Int × Int)) × Int × Int)) (qX N a0) N x14).bind fun AI=>(bif allFit (aj.fits cG) (List.map au AI.1) then some (List.map d86 (List.map au AI.1)) else none)) else none else none:=by kernel_rfl
def aaK:List (Nat × cE):=[(6,.join [(.norm,⟨(.cons .bool .nil),[2],[],[],[],[]⟩)])]
-- "codend/codendref01.far"
noncomputable def OG (N:Nat):Int→Option Bool:=(cx N [] [(123,aaK)]).fn 1000 123 (.cons (.int .i64) .nil) .bool
noncomputable def W8 (N:Nat):aL:=⟨(.cons (.int .i64) .nil),.bool,OG N⟩
theorem OH (N:Nat):an bF 123 (W8 N):=ej.bt (fun _ _ h=>by cases h) (by kernel_rfl) (by kernel_rfl)
theorem Fi (N:Nat) (a0:Int):OG N a0 =
 (((bif (decide (a0 < (-100000))) then (some true) else (some (decide (a0 > 100000)))):Option Bool).bind fun o1=>some o1):=by kernel_rfl
-- "codend/codendref01.even"
noncomputable def Th (N:Nat):Int × Int→Option Bool:=(cx N [] []).fn 1000 153 (.cons (.int .i64) (.cons (.int .i64) .nil)) .bool
noncomputable def W9 (N:Nat):aL:=⟨(.cons (.int .i64) (.cons (.int .i64) .nil)),.bool,Th N⟩
theorem OI (N:Nat):an bF 153 (W9 N):=ej.bt (fun _ _ h=>by cases h) (by kernel_rfl) (by kernel_rfl)
theorem OJ (N:Nat) (a0:Int) (a1:Int):Th N (a0,a1) =
 some ((Int.tmod (IntKind.wrap .i64 (a0+a1)) 2) == 0):=by kernel_rfl
def aaL:List (Nat × cE):=[(12,.join [(.norm,⟨(.cons .bool .nil),[10],[],[],[],[]⟩)])]
-- "codend/codendref01.CheckKnot"
noncomputable def Ak (N:Nat):(Int × Int)→Option Int:=(cx N [(123,W8 N),(153,W9 N)] [(111,aaL)]).fn 1000 111 (.cons (.agg (.cons (.int .i64) (.cons (.int .i64) .nil))) .nil) (.int .i64)
noncomputable def Ti (N:Nat):aL:=⟨(.cons (.agg (.cons (.int .i64) (.cons (.int .i64) .nil))) .nil),(.int .i64),Ak N⟩
theorem Fj (N:Nat):an bF 111 (Ti N):=ej.bt (aT (by intro a e h; simp only [List.mem_cons,Prod.mk.injEq,List.not_mem_nil,or_false] at h; rcases h with ⟨rfl,rfl⟩ | ⟨rfl,rfl⟩; exact OH N; exact OI N)) (by kernel_rfl) (by kernel_rfl)
theorem OK (N:Nat) (a0:Int × Int):Ak N a0 =
 (((OG N a0.1).bind fun y1=>(bif y1 then (some true) else (OG N a0.2).bind fun y2=>(some y2)):Option Bool).bind fun o3=>(bif o3 then some 3 else (Th N (a0.1,a0.2)).bind fun y4=>(bif (!y4) then some 14 else some 0))):=by kernel_rfl
def c54:List (Nat × cE):=[(250,.loop [] ⟨(.cons (.int .i64) .nil),[5],[],[],[],[]⟩ [(.ret,⟨(.cons (.int .i64) .nil),[2],[],[],[],[]⟩),(.ex 0,⟨.nil,[],[],[],[],[]⟩)])]
-- "codend/codendref08.CheckCourse"
noncomputable def Xa (N:Nat):(Int × Int × Bool × Bool × Int)→Option Int:=(cx N [(32,e32 N),(33,e33 N),(55,e55 N),(111,Ti N)] [(54,c54)]).fn 1000 54 (.cons (.agg (.cons (.int .i64) (.cons (.int .i64) (.cons .bool (.cons .bool (.cons (.int .i64) .nil)))))) .nil) (.int .i64)
noncomputable def e54 (N:Nat):aL:=⟨(.cons (.agg (.cons (.int .i64) (.cons (.int .i64) (.cons .bool (.cons .bool (.cons (.int .i64) .nil)))))) .nil),(.int .i64),Xa N⟩
theorem Tj (N:Nat):an bF 54 (e54 N):=ej.bt (aT (by intro a e h; simp only [List.mem_cons,Prod.mk.injEq,List.not_mem_nil,or_false] at h; rcases h with ⟨rfl,rfl⟩ | ⟨rfl,rfl⟩ | ⟨rfl,rfl⟩ | ⟨rfl,rfl⟩; exact Ta N; exact Tc N; exact Kg N; exact Fj N)) (by kernel_rfl) (by kernel_rfl)
noncomputable def uu (N:Nat) (y5:(List (Int × Int))) (v6:Int):Option (Int ⊕ (Int ⊕ Unit)):=
 (bif (decide (v6 < ((((List.map au y5)).length:Nat):Int))) then bif (decide ((0:Int)≤v6∧v6 < (((List.map au y5)).length:Int))&&aj.fits cG (ah (List.map au y5) (Int.toNat v6))) then (Ak N ((d86 (ah (List.map au y5) (Int.toNat v6))).1,(d86 (ah (List.map au y5) (Int.toNat v6))).2)).bind fun y7=>(bif (y7 != 0) then (some (Sum.inr (Sum.inl y7))) else (some (Sum.inl (IntKind.wrap .i64 (v6+1))))) else none else (some (Sum.inr (Sum.inr ()))))
theorem Tk (N:Nat) (a0:Int × Int × Bool × Bool × Int):Xa N a0 =
 (Ak N (a0.1,a0.2.1)).bind fun y1=>bif ((a0.2.2.2.2 == a0.2.2.2.2)&&true) then (Ys N (a0.2.2.2.2,1,512)).bind fun y2=>((bif (allFit (aj.fits p3) [(AV.int .i64 y1),(AV.int .i64 y2)]&&true) then some (List.map d3 [(AV.int .i64 y1),(AV.int .i64 y2)]) else none:Option ((List Int))).bind fun x4=>(Yr N x4).bind fun y3=>(bif (y3 != 0) then some y3 else (Te N (a0.1,a0.2.1,a0.2.2.1,a0.2.2.2.1,a0.2.2.2.2)).bind fun y5=>((az (V:=Int) (X:=Int ⊕ Unit) (uu N y5) N 0).bind fun Lp=>(Sum.elim (fun AI=>some AI) (fun Qq=>some 0) Lp)))) else none:=by kernel_rfl
-- "codend/codendref08.End"
end Go.Proofs.YtldcljfjjoidhaaGreatDoor
