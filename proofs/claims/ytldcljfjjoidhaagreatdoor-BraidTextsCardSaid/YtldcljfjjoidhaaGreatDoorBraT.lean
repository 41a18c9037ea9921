/- What functions compute. -/
import Derived.Test.YtldcljfjjoidhaaGreatDoorBraLg
set_option linter.all false
open Sum renaming inr→aab, inl→aac, elim→aad
namespace Go.Proofs.YtldcljfjjoidhaaGreatDoor
open Go Go.Am
open List (map)
open Int (toNat)
open Go.IntKind (wrap)
open Go.Am.aP (fits)
set_option maxRecDepth 100000
noncomputable section
abbrev dS:aP:=(.agg (.cons (.int .i64) (.cons (.int .i64) (.cons .bool (.cons .bool (.cons (.int .i64) .nil))))))
abbrev cb (v:AV):Int × Int × Bool × Bool × Int:=aP.bJ dS v
abbrev ey (x:Int × Int × Bool × Bool × Int):AV:=aP.enc dS x
abbrev cK (l:List XC):=map ey l
abbrev Bz (l:List XC):=allFit (fits dS) (map ey l)
abbrev BA (l:List XC):=map cb (map ey l)
theorem qd (l:List XC):allFit (fits dS) (map ey l)=true:=dP (p:=dS) rfl l
theorem qe (l:List XC):map cb (map ey l)=l:=gN (p:=dS) rfl l
theorem afA (x:Int × Int × Bool × Bool × Int):fits dS (ey x)=true:=(aP.bX dS x rfl).1
theorem afB (x:Int × Int × Bool × Bool × Int):cb (ey x)=x:=(aP.bX dS x rfl).2
def c26:List (Nat × cA):=[(12,.join [(.norm,⟨(.cons .bool .nil),[14],[],[],[],[]⟩)]),
 (58,.loop [] ⟨(.ci .nil),[5],[],[],[],[]⟩ [(.ret,⟨(.cons .bool .nil),[4],[],[],[],[]⟩),(.ex 0,⟨.nil,[],[],[],[],[]⟩)]),
 (1864,.join [(.norm,⟨(.cons .bool .nil),[34],[],[],[],[]⟩)])]
def T26 (N:Nat):dQ × Int→Option Bool:=(cx N [] [(26,c26)]).fn 1000 26 (.cons (.list 5 dS) (.ci .nil)) .bool
def e26 (N:Nat):aD:=⟨(.cons (.list 5 dS) (.ci .nil)),.bool,T26 N⟩
theorem Xh (N:Nat):ai bG 26 (e26 N):=eB.bk (fun _ _ h=>by cases h) (by kernel_rfl) (by kernel_rfl)
def zC (N:Nat) (a0:List XC) (v2:Int):Option (Int ⊕ (Bool ⊕ Unit)):=
 (bif (decide (v2 < (((cK a0).length:Nat):Int))) then ((bif (decide ((0:Int)≤v2∧v2 < ((cK a0).length:Int))&&fits dS (ah (cK a0) (toNat v2))) then (bif (decide ((cb (ah (cK a0) (toNat v2))).2.2.2.2 > 12)) then bif (decide ((0:Int)≤v2∧v2 < ((cK a0).length:Int))&&fits dS (ah (cK a0) (toNat v2))) then (some (decide ((cb (ah (cK a0) (toNat v2))).2.2.2.2≤512))) else none else (some false)) else none).bind fun o3=>(bif o3 then (some (aab (aac false))) else (some (aac (wrap .i64 (v2+1)))))) else (some (aab (aab ()))))
theorem Xi (N:Nat) (a0:List XC) (a1:Int):T26 N (a0,a1) =
 (((bif (decide ((((cK a0).length:Nat):Int) > a1)) then (some ((((cK a0).length:Nat):Int) != 257)) else (some false)):Option Bool).bind fun o1=>(bif o1 then some false else ((ay (zC N a0) N 0).bind fun o8=>(aad (fun o9=>some o9) (fun oU=>some true) o8)))):=by kernel_rfl
def c78:List (Nat × cA):=[(26,.loop [] ⟨(.ci .nil),[7],[],[],[],[]⟩ [(.ret,⟨(.ci .nil),[2],[],[],[],[]⟩),(.ex 0,⟨.nil,[],[],[],[],[]⟩)])]
def Ps (N:Nat):ma→Option Int:=(cx N [] [(78,c78)]).fn 1000 78 (.cons (.list 1 (.int .i64)) .nil) (.int .i64)
def e78 (N:Nat):aD:=⟨(.cons (.list 1 (.int .i64)) .nil),(.int .i64),Ps N⟩
theorem CR (N:Nat):ai bG 78 (e78 N):=eB.bk (fun _ _ h=>by cases h) (by kernel_rfl) (by kernel_rfl)
def CS (N:Nat) (a0:List Int) (v1:Int):Option (Int ⊕ (Int ⊕ Unit)):=
 (bif (decide (v1 < (((Pr a0).length:Nat):Int))) then bif (decide ((0:Int)≤v1∧v1 < ((Pr a0).length:Int))&&fits xh (ah (Pr a0) (toNat v1))) then (bif ((kj (ah (Pr a0) (toNat v1))) != 0) then (some (aab (aac (kj (ah (Pr a0) (toNat v1)))))) else (some (aac (wrap .i64 (v1+1))))) else none else (some (aab (aab ()))))
theorem Xj (N:Nat) (a0:List Int):Ps N a0 =
 ((ay (CS N a0) N 0).bind fun o6=>(aad (fun o7=>some o7) (fun o8=>some 0) o6)):=by kernel_rfl
def Pt (N:Nat):Bool × Int→Option Int:=(cx N [] []).fn 1000 80 (.cons .bool (.ci .nil)) (.int .i64)
def e80 (N:Nat):aD:=⟨(.cons .bool (.ci .nil)),(.int .i64),Pt N⟩
theorem He (N:Nat):ai bG 80 (e80 N):=eB.bk (fun _ _ h=>by cases h) (by kernel_rfl) (by kernel_rfl)
theorem Xk (N:Nat) (a0:Bool) (a1:Int):Pt N (a0,a1) =
 (bif a0 then some a1 else some 0):=by kernel_rfl
def c90:List (Nat × cA):=[(6,.join [(.norm,⟨(.ci .nil),[6],[],[],[],[]⟩)])]
def Zd (N:Nat):Int × Int × Int→Option Int:=(cx N [(80,e80 N)] [(90,c90)]).fn 1000 90 (.ci (.ci (.ci .nil))) (.int .i64)
def e90 (N:Nat):aD:=⟨(.ci (.ci (.ci .nil))),(.int .i64),Zd N⟩
theorem NP (N:Nat):ai bG 90 (e90 N):=eB.bk (dI (He N) ng) (by kernel_rfl) (by kernel_rfl)
theorem Xl (N:Nat) (a0:Int) (a1:Int) (a2:Int):Zd N (a0,a1,a2) =
 (((bif (decide (a0 < a1)) then (Pt N (true,3)).bind fun y1=>(some y1) else (Pt N ((decide (a0 > a2)),3)).bind fun y2=>(some y2)):Option Int).bind fun o3=>some o3):=by kernel_rfl
def Sx (N:Nat):Bool→Option Int:=(cx N [] []).fn 1000 152 (.cons .bool .nil) (.int .i64)
def abz (N:Nat):aD:=⟨(.cons .bool .nil),(.int .i64),Sx N⟩
theorem Sy (N:Nat):ai bG 152 (abz N):=eB.bk (fun _ _ h=>by cases h) (by kernel_rfl) (by kernel_rfl)
theorem IG (N:Nat) (a0:Bool):Sx N a0 =
 (bif a0 then some 1 else some (-1)):=by kernel_rfl
def qf (N:Nat):XC × Int→Option (XA):=(cx N [(152,abz N)] []).fn 1000 109 (.cons dS (.ci .nil)) cZ
def Hf (N:Nat):aD:=⟨(.cons dS (.ci .nil)),cZ,qf N⟩
theorem qT (N:Nat):ai bG 109 (Hf N):=eB.bk (dI (Sy N) ng) (by kernel_rfl) (by kernel_rfl)
theorem Sz (N:Nat) (a0:Int × Int × Bool × Bool × Int) (a1:Int):qf N (a0,a1) =
 (Sx N a0.2.2.1).bind fun y1=>bif ((a0.2.2.2.1 == a0.2.2.2.1)&&((a0.2.1 == a0.2.1)&&((a0.1 == a0.1)&&true))) then (Sx N a0.2.2.2.1).bind fun y2=>bif ((a0.2.1 == a0.2.1)&&((a0.1 == a0.1)&&true)) then some ((wrap .i64 (a0.1+(wrap .i64 (a1 * y1)))),(wrap .i64 (a0.2.1+(wrap .i64 ((Int.tmod a1 2) * y2))))) else none else none:=by kernel_rfl
def afD:List (Nat × cA):=[(58,.loop [] ⟨(.ci .nil),[20],[],[],[],[]⟩ [(.ret,⟨(.ci .nil),[2],[],[],[],[]⟩),(.ex 0,⟨.nil,[],[],[],[],[]⟩)])]
def Hg (N:Nat):XC→Option Int:=(cx N [(78,e78 N),(90,e90 N),(109,Hf N),(151,WQ N)] [(108,afD)]).fn 1000 108 (.cons dS .nil) (.int .i64)
def Xm (N:Nat):aD:=⟨(.cons dS .nil),(.int .i64),Hg N⟩
theorem IH (N:Nat):ai bG 108 (Xm N):=eB.bk (dI (CR N) (dI (NP N) (dI (qT N) (dI (IC N) ng)))) (by kernel_rfl) (by kernel_rfl)
def xo (N:Nat) (a0:Int × Int × Bool × Bool × Int) (v5:Int):Option (Int ⊕ (Int ⊕ Unit)):=
 (bif (decide (v5 < (wrap .i64 (a0.2.2.2.2+1)))) then (qf N ((a0.1,a0.2.1,a0.2.2.1,a0.2.2.2.1,a0.2.2.2.2),v5)).bind fun y6=>(EJ N (y6.1,y6.2)).bind fun y7=>(bif (y7 != 0) then (some (aab (aac y7))) else (some (aac (wrap .i64 (v5+1))))) else (some (aab (aab ()))))
theorem SA (N:Nat) (a0:Int × Int × Bool × Bool × Int):Hg N a0 =
 (EJ N (a0.1,a0.2.1)).bind fun y1=>bif ((a0.2.2.2.2 == a0.2.2.2.2)&&true) then (Zd N (a0.2.2.2.2,1,512)).bind fun y2=>((bif (allFit (fits xh) [(AV.int .i64 y1),(AV.int .i64 y2)]&&true) then some (map kj [(AV.int .i64 y1),(AV.int .i64 y2)]) else none).bind fun x4=>(Ps N x4).bind fun y3=>(bif (y3 != 0) then some y3 else ((ay (xo N a0) N 0).bind fun gD=>(aad (fun AG=>some AG) (fun EN=>some 0) gD)))) else none:=by kernel_rfl
def SB (N:Nat):XC→Option (XA):=(cx N [(109,Hf N)] []).fn 1000 110 (.cons dS .nil) cZ
def SC (N:Nat):aD:=⟨(.cons dS .nil),cZ,SB N⟩
theorem SD (N:Nat):ai bG 110 (SC N):=eB.bk (dI (qT N) ng) (by kernel_rfl) (by kernel_rfl)
theorem SE (N:Nat) (a0:Int × Int × Bool × Bool × Int):SB N a0 =
 (qf N ((a0.1,a0.2.1,a0.2.2.1,a0.2.2.2.1,a0.2.2.2.2),a0.2.2.2.2)).bind fun y1=>some (y1.1,y1.2):=by kernel_rfl
def c32:List (Nat × cA):=[(26,.loop [] ⟨(.ci .nil),[3],[],[],[],[]⟩ [(.ret,⟨(.ci .nil),[2],[],[],[],[]⟩),(.ex 0,⟨.nil,[],[],[],[],[]⟩)])]
def Ze (N:Nat):ma→Option Int:=(cx N [] [(32,c32)]).fn 1000 32 (.cons (.list 1 (.int .i64)) .nil) (.int .i64)
def e32 (N:Nat):aD:=⟨(.cons (.list 1 (.int .i64)) .nil),(.int .i64),Ze N⟩
theorem NQ (N:Nat):ai bG 32 (e32 N):=eB.bk (fun _ _ h=>by cases h) (by kernel_rfl) (by kernel_rfl)
def CT (N:Nat) (a0:List Int) (v1:Int):Option (Int ⊕ (Int ⊕ Unit)):=
 (bif (decide (v1 < (((L3 a0).length:Nat):Int))) then bif (decide ((0:Int)≤v1∧v1 < ((L3 a0).length:Int))&&fits p3 (ah (L3 a0) (toNat v1))) then (bif ((gP (ah (L3 a0) (toNat v1))) != 0) then bif (decide ((0:Int)≤v1∧v1 < ((L3 a0).length:Int))&&fits p3 (ah (L3 a0) (toNat v1))) then (some (aab (aac (gP (ah (L3 a0) (toNat v1)))))) else none else (some (aac (wrap .i64 (v1+1))))) else none else (some (aab (aab ()))))
theorem Xn (N:Nat) (a0:List Int):Ze N a0 =
 ((ay (CT N a0) N 0).bind fun o6=>(aad (fun o7=>some o7) (fun o8=>some 0) o6)):=by kernel_rfl
def c33:List (Nat × cA):=[(12,.join [(.norm,⟨(.cons .bool .nil),[14],[],[],[],[]⟩)])]
def Zf (N:Nat):Int × Int × Int→Option Int:=(cx N [] [(33,c33)]).fn 1000 33 (.ci (.ci (.ci .nil))) (.int .i64)
def e33 (N:Nat):aD:=⟨(.ci (.ci (.ci .nil))),(.int .i64),Zf N⟩
theorem NR (N:Nat):ai bG 33 (e33 N):=eB.bk (fun _ _ h=>by cases h) (by kernel_rfl) (by kernel_rfl)
theorem Xo (N:Nat) (a0:Int) (a1:Int) (a2:Int):Zf N (a0,a1,a2) =
 (((bif (decide (a0 < a1)) then (some true) else (some (decide (a0 > a2)))):Option Bool).bind fun o1=>(bif o1 then some 3 else some 0)):=by kernel_rfl
def c55:List (Nat × cA):=[(122,.loop [] ⟨(.cons (.own 0 2 cZ) (.cons .bool (.ci (.ci (.ci .nil))))),[3,5,6],[],[(4,2)],[.tok 0 2 86],[]⟩ [(.ex 0,⟨(.cons (.own 0 2 cZ) (.ci (.ci .nil))),[3],[],[(4,2)],[.tok 0 2 86],[]⟩)]),
 (7825,.join [(.norm,⟨(.cons (.own 0 2 cZ) (.ci (.ci .nil))),[3],[],[(4,2)],[.tok 0 2 86],[]⟩)]),
 (15653,.join [(.norm,⟨(.cons (.own 0 2 cZ) (.ci (.ci .nil))),[3],[],[(4,2)],[.tok 0 2 86],[]⟩)])]
def SF (N:Nat):XC→Option (lZ):=(cx N [] [(55,c55)]).fn 1000 55 (.cons dS .nil) (.list 2 cZ)
def e55 (N:Nat):aD:=⟨(.cons dS .nil),(.list 2 cZ),SF N⟩
theorem Hh (N:Nat):ai bG 55 (e55 N):=eB.bk (fun _ _ h=>by cases h) (by kernel_rfl) (by kernel_rfl)
def tN (N:Nat) (a0:Int × Int × Bool × Bool × Int) (v1:lZ × Bool × Int × Int × Int):Option ((lZ × Bool × Int × Int × Int) ⊕ ((lZ × Int × Int))):=
 (bif (decide (v1.2.2.1 < a0.2.2.2.2)) then (((bif a0.2.2.1 then ((bif (AE v1.1&&true) then some ((Bx v1.1),(wrap .i64 (v1.2.2.2.1+1)),v1.2.2.2.2) else none).bind fun w2=>bif (decide ((bO v1.1).length=(map dx w2.1).length)&&true) then some w2 else none) else ((bif (AE v1.1&&true) then some ((Bx v1.1),(wrap .i64 (v1.2.2.2.1 - 1)),v1.2.2.2.2) else none).bind fun w3=>bif (decide ((bO v1.1).length=(map dx w3.1).length)&&true) then some w3 else none)):Option ((lZ × Int × Int))).bind fun o4=>(((bif v1.2.1 then ((bif (AE o4.1&&true) then some ((Bx o4.1),o4.2.1,(wrap .i64 (o4.2.2+1))) else none).bind fun w5=>bif (decide ((bO o4.1).length=(map dx w5.1).length)&&true) then some w5 else none) else ((bif (AE o4.1&&true) then some ((Bx o4.1),o4.2.1,(wrap .i64 (o4.2.2 - 1))) else none).bind fun w6=>bif (decide ((bO o4.1).length=(map dx w6.1).length)&&true) then some w6 else none)):Option ((lZ × Int × Int))).bind fun o7=>bif (decide ((bO o7.1).length=(bO o7.1).length)&&decide (((bO o7.1).length+1) * 16≤140737488355328)) then (((bif (allFit (fits cZ) ((bO o7.1)++[(AV.agg [(AV.int .i64 o7.2.1),(AV.int .i64 o7.2.2)])])&&true) then some ((map dX ((bO o7.1)++[(AV.agg [(AV.int .i64 o7.2.1),(AV.int .i64 o7.2.2)])])),(!v1.2.1),(wrap .i64 (v1.2.2.1+1)),o7.2.1,o7.2.2) else none).bind fun w8=>bif (decide (((bO o7.1).length+1)=(map dx w8.1).length)&&true) then some w8 else none).bind fun u9=>some (aac u9)) else none)) else (((bif (AE v1.1&&true) then some ((Bx v1.1),v1.2.2.2.1,v1.2.2.2.2) else none).bind fun KS=>bif (decide ((bO v1.1).length=(map dx KS.1).length)&&true) then some KS else none).bind fun u11=>some (aab u11)))
theorem Xp (N:Nat) (a0:Int × Int × Bool × Bool × Int):SF N a0 =
 bif ((a0.2.2.2.1 == a0.2.2.2.1)&&(((a0.1 == a0.1)&&((a0.2.1 == a0.2.1)&&true))&&true)) then bif ((a0.2.2.2.1 == a0.2.2.2.1)&&true) then (((bif (allFit (fits cZ) [(AV.agg [(AV.int .i64 a0.1),(AV.int .i64 a0.2.1)])]&&true) then some ((map dX [(AV.agg [(AV.int .i64 a0.1),(AV.int .i64 a0.2.1)])]),a0.2.2.2.1,0,a0.1,a0.2.1) else none:Option (lZ × Bool × Int × Int × Int)).bind fun EU=>bif (decide (1=(map dx EU.1).length)&&true) then some EU else none).bind fun x14=>(ay (tN N a0) N x14).bind fun AG=>(bif AE AG.1 then some (Bx AG.1) else none)) else none else none:=by kernel_rfl
def afI:List (Nat × cA):=[(6,.join [(.norm,⟨(.cons .bool .nil),[2],[],[],[],[]⟩)])]
def SG (N:Nat):Int→Option Bool:=(cx N [] [(123,afI)]).fn 1000 123 (.ci .nil) .bool
def abA (N:Nat):aD:=⟨(.ci .nil),.bool,SG N⟩
theorem SH (N:Nat):ai bG 123 (abA N):=eB.bk (fun _ _ h=>by cases h) (by kernel_rfl) (by kernel_rfl)
theorem II (N:Nat) (a0:Int):SG N a0 =
 (((bif (decide (a0 < (-100000))) then (some true) else (some (decide (a0 > 100000)))):Option Bool).bind fun o1=>some o1):=by kernel_rfl
def Xq (N:Nat):Int × Int→Option Bool:=(cx N [] []).fn 1000 153 (.ci (.ci .nil)) .bool
def abB (N:Nat):aD:=⟨(.ci (.ci .nil)),.bool,Xq N⟩
theorem SI (N:Nat):ai bG 153 (abB N):=eB.bk (fun _ _ h=>by cases h) (by kernel_rfl) (by kernel_rfl)
theorem SJ (N:Nat) (a0:Int) (a1:Int):Xq N (a0,a1) =
 some ((Int.tmod (wrap .i64 (a0+a1)) 2) == 0):=by kernel_rfl
def afJ:List (Nat × cA):=[(12,.join [(.norm,⟨(.cons .bool .nil),[10],[],[],[],[]⟩)])]
def Hi (N:Nat):XA→Option Int:=(cx N [(123,abA N),(153,abB N)] [(111,afJ)]).fn 1000 111 (.cons cZ .nil) (.int .i64)
def abC (N:Nat):aD:=⟨(.cons cZ .nil),(.int .i64),Hi N⟩
theorem SK (N:Nat):ai bG 111 (abC N):=eB.bk (dI (SH N) (dI (SI N) ng)) (by kernel_rfl) (by kernel_rfl)
theorem SL (N:Nat) (a0:Int × Int):Hi N a0 =
 (((SG N a0.1).bind fun y1=>(bif y1 then (some true) else (SG N a0.2).bind fun y2=>(some y2)):Option Bool).bind fun o3=>(bif o3 then some 3 else (Xq N (a0.1,a0.2)).bind fun y4=>(bif (!y4) then some 14 else some 0))):=by kernel_rfl
def c54:List (Nat × cA):=[(250,.loop [] ⟨(.ci .nil),[5],[],[],[],[]⟩ [(.ret,⟨(.ci .nil),[2],[],[],[],[]⟩),(.ex 0,⟨.nil,[],[],[],[],[]⟩)])]
def T54 (N:Nat):XC→Option Int:=(cx N [(32,e32 N),(33,e33 N),(55,e55 N),(111,abC N)] [(54,c54)]).fn 1000 54 (.cons dS .nil) (.int .i64)
def e54 (N:Nat):aD:=⟨(.cons dS .nil),(.int .i64),T54 N⟩
theorem Xr (N:Nat):ai bG 54 (e54 N):=eB.bk (dI (NQ N) (dI (NR N) (dI (Hh N) (dI (SK N) ng)))) (by kernel_rfl) (by kernel_rfl)
def xp (N:Nat) (y5:lZ) (v6:Int):Option (Int ⊕ (Int ⊕ Unit)):=
 (bif (decide (v6 < (((bO y5).length:Nat):Int))) then bif (decide ((0:Int)≤v6∧v6 < ((bO y5).length:Int))&&fits cZ (ah (bO y5) (toNat v6))) then (Hi N ((dX (ah (bO y5) (toNat v6))).1,(dX (ah (bO y5) (toNat v6))).2)).bind fun y7=>(bif (y7 != 0) then (some (aab (aac y7))) else (some (aac (wrap .i64 (v6+1))))) else none else (some (aab (aab ()))))
theorem Xs (N:Nat) (a0:Int × Int × Bool × Bool × Int):T54 N a0 =
 (Hi N (a0.1,a0.2.1)).bind fun y1=>bif ((a0.2.2.2.2 == a0.2.2.2.2)&&true) then (Zf N (a0.2.2.2.2,1,512)).bind fun y2=>((bif (allFit (fits p3) [(AV.int .i64 y1),(AV.int .i64 y2)]&&true) then some (map gP [(AV.int .i64 y1),(AV.int .i64 y2)]) else none).bind fun x4=>(Ze N x4).bind fun y3=>(bif (y3 != 0) then some y3 else (SF N (a0.1,a0.2.1,a0.2.2.1,a0.2.2.2.1,a0.2.2.2.2)).bind fun y5=>((ay (xp N y5) N 0).bind fun gD=>(aad (fun AG=>some AG) (fun EN=>some 0) gD)))) else none:=by kernel_rfl
def T56 (N:Nat):XC→Option (XA):=(cx N [(55,e55 N)] []).fn 1000 56 (.cons dS .nil) cZ
def e56 (N:Nat):aD:=⟨(.cons dS .nil),cZ,T56 N⟩
theorem Xt (N:Nat):ai bG 56 (e56 N):=eB.bk (dI (Hh N) ng) (by kernel_rfl) (by kernel_rfl)
theorem Xu (N:Nat) (a0:Int × Int × Bool × Bool × Int):T56 N a0 =
 (SF N (a0.1,a0.2.1,a0.2.2.1,a0.2.2.2.1,a0.2.2.2.2)).bind fun y1=>bif (decide ((0:Int)≤(wrap .i64 ((((bO y1).length:Nat):Int) - 1))∧(wrap .i64 ((((bO y1).length:Nat):Int) - 1)) < ((bO y1).length:Int))&&fits cZ (ah (bO y1) (toNat (wrap .i64 ((((bO y1).length:Nat):Int) - 1))))) then some ((dX (ah (bO y1) (toNat (wrap .i64 ((((bO y1).length:Nat):Int) - 1))))).1,(dX (ah (bO y1) (toNat (wrap .i64 ((((bO y1).length:Nat):Int) - 1))))).2) else none:=by kernel_rfl
end
end Go.Proofs.YtldcljfjjoidhaaGreatDoor
