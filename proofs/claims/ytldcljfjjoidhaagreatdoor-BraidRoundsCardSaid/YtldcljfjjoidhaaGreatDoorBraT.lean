/- What the functions compute (printed by a program of ours,checked by the kernel). -/
import Derived.Test.YtldcljfjjoidhaaGreatDoorBraLg
set_option linter.all false
namespace Go.Proofs.YtldcljfjjoidhaaGreatDoor
open Go Go.Am
open List (map)
open Int (toNat)
open Go.IntKind (wrap)
open Go.Am.aT (fits)
set_option maxRecDepth 100000
noncomputable section
abbrev cR:aT:=(.agg (.cons (.int .i64) (.cons (.int .i64) (.cons .bool (.cons .bool (.cons (.int .i64) .nil))))))
abbrev bO (v:AV):Int × Int × Bool × Bool × Int:=aT.bw cR v
abbrev az (x:Int × Int × Bool × Bool × Int):AV:=aT.enc cR x
theorem Bl (l:List XC):allFit (fits cR) (map az l)=true:=er (p:=cR) rfl l
theorem Bm (l:List XC):map bO (map az l)=l:=iD (p:=cR) rfl l
theorem ac3 (x:Int × Int × Bool × Bool × Int):fits cR (az x)=true:=(aT.bL cR x rfl).1
theorem ac4 (x:Int × Int × Bool × Bool × Int):bO (az x)=x:=(aT.bL cR x rfl).2
def c26:List (Nat × cA):=[(12,.join [(.norm,⟨(.cons .bool .nil),[14],[],[],[],[]⟩)]),
 (58,.loop [] ⟨(.cons (.int .i64) .nil),[5],[],[],[],[]⟩ [(.ret,⟨(.cons .bool .nil),[4],[],[],[],[]⟩),(.ex 0,⟨.nil,[],[],[],[],[]⟩)]),
 (1864,.join [(.norm,⟨(.cons .bool .nil),[34],[],[],[],[]⟩)])]
-- "codend/codendref08.Short"
def Ze (N:Nat):eD × Int→Option Bool:=(cx N [] [(26,c26)]).fn 1000 26 (.cons (.list 5 cR) (.cons (.int .i64) .nil)) .bool
def e26 (N:Nat):aQ:=⟨(.cons (.list 5 cR) (.cons (.int .i64) .nil)),.bool,Ze N⟩
theorem U3 (N:Nat):ap bC 26 (e26 N):=eE.bu (fun _ _ h=>by cases h) (by kernel_rfl) (by kernel_rfl)
def xI (N:Nat) (a0:List XC) (v2:Int):Option (Int ⊕ (Bool ⊕ Unit)):=
 (bif (decide (v2 < ((((map az a0)).length:Nat):Int))) then ((bif (decide ((0:Int)≤v2∧v2 < (((map az a0)).length:Int))&&fits cR (af (map az a0) (toNat v2))) then (bif (decide ((bO (af (map az a0) (toNat v2))).2.2.2.2 > 12)) then bif (decide ((0:Int)≤v2∧v2 < (((map az a0)).length:Int))&&fits cR (af (map az a0) (toNat v2))) then (some (decide ((bO (af (map az a0) (toNat v2))).2.2.2.2≤512))) else none else (some false)) else none).bind fun o3=>(bif o3 then (some (Sum.inr (Sum.inl false))) else (some (Sum.inl (wrap .i64 (v2+1)))))) else (some (Sum.inr (Sum.inr ()))))
theorem U4 (N:Nat) (a0:List XC) (a1:Int):Ze N (a0,a1) =
 (((bif (decide (((((map az a0)).length:Nat):Int) > a1)) then (some (((((map az a0)).length:Nat):Int) != 257)) else (some false)):Option Bool).bind fun o1=>(bif o1 then some false else ((aG (xI N a0) N 0).bind fun o8=>(Sum.elim (fun o9=>some o9) (fun CP=>some true) o8)))):=by kernel_rfl
-- "codend/codendref01.SameKnots"
def c78:List (Nat × cA):=[(26,.loop [] ⟨(.cons (.int .i64) .nil),[7],[],[],[],[]⟩ [(.ret,⟨(.cons (.int .i64) .nil),[2],[],[],[],[]⟩),(.ex 0,⟨.nil,[],[],[],[],[]⟩)])]
-- "codend/braid.first"
def SM (N:Nat):pX→Option Int:=(cx N [] [(78,c78)]).fn 1000 78 (.cons (.list 1 (.int .i64)) .nil) (.int .i64)
def Zf (N:Nat):aQ:=⟨(.cons (.list 1 (.int .i64)) .nil),(.int .i64),SM N⟩
theorem Bn (N:Nat):ap bC 78 (Zf N):=eE.bu (fun _ _ h=>by cases h) (by kernel_rfl) (by kernel_rfl)
def Bo (N:Nat) (a0:List Int) (v1:Int):Option (Int ⊕ (Int ⊕ Unit)):=
 (bif (decide (v1 < ((((map pY a0)).length:Nat):Int))) then bif (decide ((0:Int)≤v1∧v1 < (((map pY a0)).length:Int))&&fits xz (af (map pY a0) (toNat v1))) then (bif ((kF (af (map pY a0) (toNat v1))) != 0) then (some (Sum.inr (Sum.inl (kF (af (map pY a0) (toNat v1)))))) else (some (Sum.inl (wrap .i64 (v1+1))))) else none else (some (Sum.inr (Sum.inr ()))))
theorem U5 (N:Nat) (a0:List Int):SM N a0 =
 ((aG (Bo N a0) N 0).bind fun o6=>(Sum.elim (fun o7=>some o7) (fun o8=>some 0) o6)):=by kernel_rfl
-- "codend/braid.when"
def U6 (N:Nat):Bool × Int→Option Int:=(cx N [] []).fn 1000 80 (.cons .bool (.cons (.int .i64) .nil)) (.int .i64)
def e80 (N:Nat):aQ:=⟨(.cons .bool (.cons (.int .i64) .nil)),(.int .i64),U6 N⟩
theorem LF (N:Nat):ap bC 80 (e80 N):=eE.bu (fun _ _ h=>by cases h) (by kernel_rfl) (by kernel_rfl)
theorem U7 (N:Nat) (a0:Bool) (a1:Int):U6 N (a0,a1) =
 (bif a0 then some a1 else some 0):=by kernel_rfl
def c90:List (Nat × cA):=[(6,.join [(.norm,⟨(.cons (.int .i64) .nil),[6],[],[],[],[]⟩)])]
-- "codend/braid.within"
def Xa (N:Nat):Int × Int × Int→Option Int:=(cx N [(80,e80 N)] [(90,c90)]).fn 1000 90 (.cons (.int .i64) (.cons (.int .i64) (.cons (.int .i64) .nil))) (.int .i64)
def e90 (N:Nat):aQ:=⟨(.cons (.int .i64) (.cons (.int .i64) (.cons (.int .i64) .nil))),(.int .i64),Xa N⟩
theorem LG (N:Nat):ap bC 90 (e90 N):=eE.bu (aW (by intro a e h; simp only [List.mem_cons,Prod.mk.injEq,List.not_mem_nil,or_false] at h; rcases h with ⟨rfl,rfl⟩; exact LF N)) (by kernel_rfl) (by kernel_rfl)
theorem U8 (N:Nat) (a0:Int) (a1:Int) (a2:Int):Xa N (a0,a1,a2) =
 (((bif (decide (a0 < a1)) then (U6 N (true,3)).bind fun y1=>(some y1) else (U6 N ((decide (a0 > a2)),3)).bind fun y2=>(some y2)):Option Int).bind fun o3=>some o3):=by kernel_rfl
-- "codend/braid.sign"
def Qj (N:Nat):Bool→Option Int:=(cx N [] []).fn 1000 152 (.cons .bool .nil) (.int .i64)
def Zg (N:Nat):aQ:=⟨(.cons .bool .nil),(.int .i64),Qj N⟩
theorem Qk (N:Nat):ap bC 152 (Zg N):=eE.bu (fun _ _ h=>by cases h) (by kernel_rfl) (by kernel_rfl)
theorem GI (N:Nat) (a0:Bool):Qj N a0 =
 (bif a0 then some 1 else some (-1)):=by kernel_rfl
-- "(codend/braid.Course).knot"
def qQ (N:Nat):XC × Int→Option (XA):=(cx N [(152,Zg N)] []).fn 1000 109 (.cons cR (.cons (.int .i64) .nil)) cz
def Fl (N:Nat):aQ:=⟨(.cons cR (.cons (.int .i64) .nil)),cz,qQ N⟩
theorem pH (N:Nat):ap bC 109 (Fl N):=eE.bu (aW (by intro a e h; simp only [List.mem_cons,Prod.mk.injEq,List.not_mem_nil,or_false] at h; rcases h with ⟨rfl,rfl⟩; exact Qk N)) (by kernel_rfl) (by kernel_rfl)
theorem Ql (N:Nat) (a0:Int × Int × Bool × Bool × Int) (a1:Int):qQ N (a0,a1) =
 (Qj N a0.2.2.1).bind fun y1=>bif ((a0.2.2.2.1 == a0.2.2.2.1)&&((a0.2.1 == a0.2.1)&&((a0.1 == a0.1)&&true))) then (Qj N a0.2.2.2.1).bind fun y2=>bif ((a0.2.1 == a0.2.1)&&((a0.1 == a0.1)&&true)) then some ((wrap .i64 (a0.1+(wrap .i64 (a1 * y1)))),(wrap .i64 (a0.2.1+(wrap .i64 ((Int.tmod a1 2) * y2))))) else none else none:=by kernel_rfl
def ac7:List (Nat × cA):=[(58,.loop [] ⟨(.cons (.int .i64) .nil),[20],[],[],[],[]⟩ [(.ret,⟨(.cons (.int .i64) .nil),[2],[],[],[],[]⟩),(.ex 0,⟨.nil,[],[],[],[],[]⟩)])]
-- "(codend/braid.Course).check"
def LH (N:Nat):XC→Option Int:=(cx N [(78,Zf N),(90,e90 N),(109,Fl N),(151,UD N)] [(108,ac7)]).fn 1000 108 (.cons cR .nil) (.int .i64)
def Zh (N:Nat):aQ:=⟨(.cons cR .nil),(.int .i64),LH N⟩
theorem Qm (N:Nat):ap bC 108 (Zh N):=eE.bu (aW (by intro a e h; simp only [List.mem_cons,Prod.mk.injEq,List.not_mem_nil,or_false] at h; rcases h with ⟨rfl,rfl⟩ | ⟨rfl,rfl⟩ | ⟨rfl,rfl⟩ | ⟨rfl,rfl⟩; exact Bn N; exact LG N; exact pH N; exact GD N)) (by kernel_rfl) (by kernel_rfl)
def vn (N:Nat) (a0:Int × Int × Bool × Bool × Int) (v5:Int):Option (Int ⊕ (Int ⊕ Unit)):=
 (bif (decide (v5 < (wrap .i64 (a0.2.2.2.2+1)))) then (qQ N ((a0.1,a0.2.1,a0.2.2.1,a0.2.2.2.1,a0.2.2.2.2),v5)).bind fun y6=>(De N (y6.1,y6.2)).bind fun y7=>(bif (y7 != 0) then (some (Sum.inr (Sum.inl y7))) else (some (Sum.inl (wrap .i64 (v5+1))))) else (some (Sum.inr (Sum.inr ()))))
theorem Qn (N:Nat) (a0:Int × Int × Bool × Bool × Int):LH N a0 =
 (De N (a0.1,a0.2.1)).bind fun y1=>bif ((a0.2.2.2.2 == a0.2.2.2.2)&&true) then (Xa N (a0.2.2.2.2,1,512)).bind fun y2=>((bif (allFit (fits xz) [(AV.int .i64 y1),(AV.int .i64 y2)]&&true) then some (map kF [(AV.int .i64 y1),(AV.int .i64 y2)]) else none).bind fun x4=>(SM N x4).bind fun y3=>(bif (y3 != 0) then some y3 else ((aG (vn N a0) N 0).bind fun Qo=>(Sum.elim (fun uy=>some uy) (fun Su=>some 0) Qo)))) else none:=by kernel_rfl
-- "codend/braid.Walk"
-- "(codend/braid.Course).end"
def Ik (N:Nat):XC→Option (XA):=(cx N [(109,Fl N)] []).fn 1000 110 (.cons cR .nil) cz
def LI (N:Nat):aQ:=⟨(.cons cR .nil),cz,Ik N⟩
theorem GJ (N:Nat):ap bC 110 (LI N):=eE.bu (aW (by intro a e h; simp only [List.mem_cons,Prod.mk.injEq,List.not_mem_nil,or_false] at h; rcases h with ⟨rfl,rfl⟩; exact pH N)) (by kernel_rfl) (by kernel_rfl)
theorem Qp (N:Nat) (a0:Int × Int × Bool × Bool × Int):Ik N a0 =
 (qQ N ((a0.1,a0.2.1,a0.2.2.1,a0.2.2.2.1,a0.2.2.2.2),a0.2.2.2.2)).bind fun y1=>some (y1.1,y1.2):=by kernel_rfl
-- "codend/braid.End"
def c32:List (Nat × cA):=[(26,.loop [] ⟨(.cons (.int .i64) .nil),[3],[],[],[],[]⟩ [(.ret,⟨(.cons (.int .i64) .nil),[2],[],[],[],[]⟩),(.ex 0,⟨.nil,[],[],[],[],[]⟩)])]
-- "codend/codendref01.First"
def T32 (N:Nat):pX→Option Int:=(cx N [] [(32,c32)]).fn 1000 32 (.cons (.list 1 (.int .i64)) .nil) (.int .i64)
def e32 (N:Nat):aQ:=⟨(.cons (.list 1 (.int .i64)) .nil),(.int .i64),T32 N⟩
theorem U9 (N:Nat):ap bC 32 (e32 N):=eE.bu (fun _ _ h=>by cases h) (by kernel_rfl) (by kernel_rfl)
def Bp (N:Nat) (a0:List Int) (v1:Int):Option (Int ⊕ (Int ⊕ Unit)):=
 (bif (decide (v1 < ((((map eP a0)).length:Nat):Int))) then bif (decide ((0:Int)≤v1∧v1 < (((map eP a0)).length:Int))&&fits p3 (af (map eP a0) (toNat v1))) then (bif ((eR (af (map eP a0) (toNat v1))) != 0) then bif (decide ((0:Int)≤v1∧v1 < (((map eP a0)).length:Int))&&fits p3 (af (map eP a0) (toNat v1))) then (some (Sum.inr (Sum.inl (eR (af (map eP a0) (toNat v1)))))) else none else (some (Sum.inl (wrap .i64 (v1+1))))) else none else (some (Sum.inr (Sum.inr ()))))
theorem Va (N:Nat) (a0:List Int):T32 N a0 =
 ((aG (Bp N a0) N 0).bind fun o6=>(Sum.elim (fun o7=>some o7) (fun o8=>some 0) o6)):=by kernel_rfl
def c33:List (Nat × cA):=[(12,.join [(.norm,⟨(.cons .bool .nil),[14],[],[],[],[]⟩)])]
-- "codend/codendref01.CheckRange"
def T33 (N:Nat):Int × Int × Int→Option Int:=(cx N [] [(33,c33)]).fn 1000 33 (.cons (.int .i64) (.cons (.int .i64) (.cons (.int .i64) .nil))) (.int .i64)
def e33 (N:Nat):aQ:=⟨(.cons (.int .i64) (.cons (.int .i64) (.cons (.int .i64) .nil))),(.int .i64),T33 N⟩
theorem Vb (N:Nat):ap bC 33 (e33 N):=eE.bu (fun _ _ h=>by cases h) (by kernel_rfl) (by kernel_rfl)
theorem Vc (N:Nat) (a0:Int) (a1:Int) (a2:Int):T33 N (a0,a1,a2) =
 (((bif (decide (a0 < a1)) then (some true) else (some (decide (a0 > a2)))):Option Bool).bind fun o1=>(bif o1 then some 3 else some 0)):=by kernel_rfl
def c55:List (Nat × cA):=[(122,.loop [] ⟨(.cons (.own 0 2 cz) (.cons .bool (.cons (.int .i64) (.cons (.int .i64) (.cons (.int .i64) .nil))))),[3,5,6],[],[(4,2)],[.tok 0 2 86],[]⟩ [(.ex 0,⟨(.cons (.own 0 2 cz) (.cons (.int .i64) (.cons (.int .i64) .nil))),[3],[],[(4,2)],[.tok 0 2 86],[]⟩)]),
 (7825,.join [(.norm,⟨(.cons (.own 0 2 cz) (.cons (.int .i64) (.cons (.int .i64) .nil))),[3],[],[(4,2)],[.tok 0 2 86],[]⟩)]),
 (15653,.join [(.norm,⟨(.cons (.own 0 2 cz) (.cons (.int .i64) (.cons (.int .i64) .nil))),[3],[],[(4,2)],[.tok 0 2 86],[]⟩)])]
-- "codend/codendref08.Walk"
def Vd (N:Nat):XC→Option (lN):=(cx N [] [(55,c55)]).fn 1000 55 (.cons cR .nil) (.list 2 cz)
def e55 (N:Nat):aQ:=⟨(.cons cR .nil),(.list 2 cz),Vd N⟩
theorem LJ (N:Nat):ap bC 55 (e55 N):=eE.bu (fun _ _ h=>by cases h) (by kernel_rfl) (by kernel_rfl)
def sj (N:Nat) (a0:Int × Int × Bool × Bool × Int) (v1:lN × Bool × Int × Int × Int):Option ((lN × Bool × Int × Int × Int) ⊕ ((lN × Int × Int))):=
 (bif (decide (v1.2.2.1 < a0.2.2.2.2)) then (((bif a0.2.2.1 then ((bif (allFit (fits cz) (map av v1.1)&&true) then some ((map cn (map av v1.1)),(wrap .i64 (v1.2.2.2.1+1)),v1.2.2.2.2) else none).bind fun w2=>bif (decide ((((map av v1.1)).length)=(map av w2.1).length)&&true) then some w2 else none) else ((bif (allFit (fits cz) (map av v1.1)&&true) then some ((map cn (map av v1.1)),(wrap .i64 (v1.2.2.2.1 - 1)),v1.2.2.2.2) else none).bind fun w3=>bif (decide ((((map av v1.1)).length)=(map av w3.1).length)&&true) then some w3 else none)):Option ((lN × Int × Int))).bind fun o4=>(((bif v1.2.1 then ((bif (allFit (fits cz) (map av o4.1)&&true) then some ((map cn (map av o4.1)),o4.2.1,(wrap .i64 (o4.2.2+1))) else none).bind fun w5=>bif (decide ((((map av o4.1)).length)=(map av w5.1).length)&&true) then some w5 else none) else ((bif (allFit (fits cz) (map av o4.1)&&true) then some ((map cn (map av o4.1)),o4.2.1,(wrap .i64 (o4.2.2 - 1))) else none).bind fun w6=>bif (decide ((((map av o4.1)).length)=(map av w6.1).length)&&true) then some w6 else none)):Option ((lN × Int × Int))).bind fun o7=>bif (decide ((((map av o7.1)).length)=((map av o7.1)).length)&&decide ((((map av o7.1)).length+1) * 16≤140737488355328)) then (((bif (allFit (fits cz) ((map av o7.1)++[(AV.agg [(AV.int .i64 o7.2.1),(AV.int .i64 o7.2.2)])])&&true) then some ((map cn ((map av o7.1)++[(AV.agg [(AV.int .i64 o7.2.1),(AV.int .i64 o7.2.2)])])),(!v1.2.1),(wrap .i64 (v1.2.2.1+1)),o7.2.1,o7.2.2) else none).bind fun w8=>bif (decide (((((map av o7.1)).length)+1)=(map av w8.1).length)&&true) then some w8 else none).bind fun u9=>some (Sum.inl u9)) else none)) else (((bif (allFit (fits cz) (map av v1.1)&&true) then some ((map cn (map av v1.1)),v1.2.2.2.1,v1.2.2.2.2) else none).bind fun Fm=>bif (decide ((((map av v1.1)).length)=(map av Fm.1).length)&&true) then some Fm else none).bind fun Ve=>some (Sum.inr Ve)))
theorem Vf (N:Nat) (a0:Int × Int × Bool × Bool × Int):Vd N a0 =
 bif ((a0.2.2.2.1 == a0.2.2.2.1)&&(((a0.1 == a0.1)&&((a0.2.1 == a0.2.1)&&true))&&true)) then bif ((a0.2.2.2.1 == a0.2.2.2.1)&&true) then (((bif (allFit (fits cz) [(AV.agg [(AV.int .i64 a0.1),(AV.int .i64 a0.2.1)])]&&true) then some ((map cn [(AV.agg [(AV.int .i64 a0.1),(AV.int .i64 a0.2.1)])]),a0.2.2.2.1,0,a0.1,a0.2.1) else none:Option (lN × Bool × Int × Int × Int)).bind fun BP=>bif (decide (1=(map av BP.1).length)&&true) then some BP else none).bind fun Zi=>(aG (sj N a0) N Zi).bind fun uy=>(bif allFit (fits cz) (map av uy.1) then some (map cn (map av uy.1)) else none)) else none else none:=by kernel_rfl
def ac9:List (Nat × cA):=[(6,.join [(.norm,⟨(.cons .bool .nil),[2],[],[],[],[]⟩)])]
-- "codend/codendref01.far"
def Bq (N:Nat):Int→Option Bool:=(cx N [] [(123,ac9)]).fn 1000 123 (.cons (.int .i64) .nil) .bool
def Vg (N:Nat):aQ:=⟨(.cons (.int .i64) .nil),.bool,Bq N⟩
theorem GK (N:Nat):ap bC 123 (Vg N):=eE.bu (fun _ _ h=>by cases h) (by kernel_rfl) (by kernel_rfl)
theorem Br (N:Nat) (a0:Int):Bq N a0 =
 (((bif (decide (a0 < (-100000))) then (some true) else (some (decide (a0 > 100000)))):Option Bool).bind fun o1=>some o1):=by kernel_rfl
-- "codend/codendref01.even"
def Vh (N:Nat):Int × Int→Option Bool:=(cx N [] []).fn 1000 153 (.cons (.int .i64) (.cons (.int .i64) .nil)) .bool
def Zj (N:Nat):aQ:=⟨(.cons (.int .i64) (.cons (.int .i64) .nil)),.bool,Vh N⟩
theorem Qq (N:Nat):ap bC 153 (Zj N):=eE.bu (fun _ _ h=>by cases h) (by kernel_rfl) (by kernel_rfl)
theorem Qr (N:Nat) (a0:Int) (a1:Int):Vh N (a0,a1) =
 some ((Int.tmod (wrap .i64 (a0+a1)) 2) == 0):=by kernel_rfl
def ada:List (Nat × cA):=[(12,.join [(.norm,⟨(.cons .bool .nil),[10],[],[],[],[]⟩)])]
-- "codend/codendref01.CheckKnot"
def xJ (N:Nat):XA→Option Int:=(cx N [(123,Vg N),(153,Zj N)] [(111,ada)]).fn 1000 111 (.cons cz .nil) (.int .i64)
def Vi (N:Nat):aQ:=⟨(.cons cz .nil),(.int .i64),xJ N⟩
theorem GM (N:Nat):ap bC 111 (Vi N):=eE.bu (aW (by intro a e h; simp only [List.mem_cons,Prod.mk.injEq,List.not_mem_nil,or_false] at h; rcases h with ⟨rfl,rfl⟩ | ⟨rfl,rfl⟩; exact GK N; exact Qq N)) (by kernel_rfl) (by kernel_rfl)
theorem Qs (N:Nat) (a0:Int × Int):xJ N a0 =
 (((Bq N a0.1).bind fun y1=>(bif y1 then (some true) else (Bq N a0.2).bind fun y2=>(some y2)):Option Bool).bind fun o3=>(bif o3 then some 3 else (Vh N (a0.1,a0.2)).bind fun y4=>(bif (!y4) then some 14 else some 0))):=by kernel_rfl
def c54:List (Nat × cA):=[(250,.loop [] ⟨(.cons (.int .i64) .nil),[5],[],[],[],[]⟩ [(.ret,⟨(.cons (.int .i64) .nil),[2],[],[],[],[]⟩),(.ex 0,⟨.nil,[],[],[],[],[]⟩)])]
-- "codend/codendref08.CheckCourse"
def Zk (N:Nat):XC→Option Int:=(cx N [(32,e32 N),(33,e33 N),(55,e55 N),(111,Vi N)] [(54,c54)]).fn 1000 54 (.cons cR .nil) (.int .i64)
def e54 (N:Nat):aQ:=⟨(.cons cR .nil),(.int .i64),Zk N⟩
theorem Vj (N:Nat):ap bC 54 (e54 N):=eE.bu (aW (by intro a e h; simp only [List.mem_cons,Prod.mk.injEq,List.not_mem_nil,or_false] at h; rcases h with ⟨rfl,rfl⟩ | ⟨rfl,rfl⟩ | ⟨rfl,rfl⟩ | ⟨rfl,rfl⟩; exact U9 N; exact Vb N; exact LJ N; exact GM N)) (by kernel_rfl) (by kernel_rfl)
def vo (N:Nat) (y5:lN) (v6:Int):Option (Int ⊕ (Int ⊕ Unit)):=
 (bif (decide (v6 < ((((map av y5)).length:Nat):Int))) then bif (decide ((0:Int)≤v6∧v6 < (((map av y5)).length:Int))&&fits cz (af (map av y5) (toNat v6))) then (xJ N ((cn (af (map av y5) (toNat v6))).1,(cn (af (map av y5) (toNat v6))).2)).bind fun y7=>(bif (y7 != 0) then (some (Sum.inr (Sum.inl y7))) else (some (Sum.inl (wrap .i64 (v6+1))))) else none else (some (Sum.inr (Sum.inr ()))))
theorem Vk (N:Nat) (a0:Int × Int × Bool × Bool × Int):Zk N a0 =
 (xJ N (a0.1,a0.2.1)).bind fun y1=>bif ((a0.2.2.2.2 == a0.2.2.2.2)&&true) then (T33 N (a0.2.2.2.2,1,512)).bind fun y2=>((bif (allFit (fits p3) [(AV.int .i64 y1),(AV.int .i64 y2)]&&true) then some (map eR [(AV.int .i64 y1),(AV.int .i64 y2)]) else none).bind fun x4=>(T32 N x4).bind fun y3=>(bif (y3 != 0) then some y3 else (Vd N (a0.1,a0.2.1,a0.2.2.1,a0.2.2.2.1,a0.2.2.2.2)).bind fun y5=>((aG (vo N y5) N 0).bind fun Qo=>(Sum.elim (fun uy=>some uy) (fun Su=>some 0) Qo)))) else none:=by kernel_rfl
-- "codend/codendref08.End"
end
end Go.Proofs.YtldcljfjjoidhaaGreatDoor
