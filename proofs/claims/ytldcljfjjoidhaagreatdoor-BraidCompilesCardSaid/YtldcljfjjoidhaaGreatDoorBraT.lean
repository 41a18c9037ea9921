/- What the functions compute (printed by a program of ours,checked by the kernel). -/
import Derived.Test.YtldcljfjjoidhaaGreatDoorBraLg
set_option linter.all false
namespace Go.Proofs.YtldcljfjjoidhaaGreatDoor
open Go Go.Am
open List (map)
open Int (toNat)
open Go.IntKind (wrap)
open Go.Am.aR (fits)
set_option maxRecDepth 100000
noncomputable section
abbrev df:aR:=(.agg (.cons (.int .i64) (.cons (.int .i64) (.cons .bool (.cons .bool (.cons (.int .i64) .nil))))))
abbrev bC (v:AV):Int × Int × Bool × Bool × Int:=aR.bA df v
abbrev ax (x:Int × Int × Bool × Bool × Int):AV:=aR.enc df x
theorem wz (l:List XC):allFit (fits df) (map ax l)=true:=dp (p:=df) rfl l
theorem wA (l:List XC):map bC (map ax l)=l:=fW (p:=df) rfl l
theorem aev (x:Int × Int × Bool × Bool × Int):fits df (ax x)=true:=(aR.bH df x rfl).1
theorem aew (x:Int × Int × Bool × Bool × Int):bC (ax x)=x:=(aR.bH df x rfl).2
def c26:List (Nat × cE):=[(12,.join [(.norm,⟨(.cons .bool .nil),[14],[],[],[],[]⟩)]),
 (58,.loop [] ⟨(.cons (.int .i64) .nil),[5],[],[],[],[]⟩ [(.ret,⟨(.cons .bool .nil),[4],[],[],[],[]⟩),(.ex 0,⟨.nil,[],[],[],[],[]⟩)]),
 (1864,.join [(.norm,⟨(.cons .bool .nil),[34],[],[],[],[]⟩)])]
def T26 (N:Nat):fK × Int→Option Bool:=(cx N [] [(26,c26)]).fn 1000 26 (.cons (.list 5 df) (.cons (.int .i64) .nil)) .bool
def e26 (N:Nat):aS:=⟨(.cons (.list 5 df) (.cons (.int .i64) .nil)),.bool,T26 N⟩
theorem Wc (N:Nat):ak bF 26 (e26 N):=fw.bu (fun _ _ h=>by cases h) (by kernel_rfl) (by kernel_rfl)
def zp (N:Nat) (a0:List XC) (v2:Int):Option (Int ⊕ (Bool ⊕ Unit)):=
 (bif (decide (v2 < ((((map ax a0)).length:Nat):Int))) then ((bif (decide ((0:Int)≤v2∧v2 < (((map ax a0)).length:Int))&&fits df (ah (map ax a0) (toNat v2))) then (bif (decide ((bC (ah (map ax a0) (toNat v2))).2.2.2.2 > 12)) then bif (decide ((0:Int)≤v2∧v2 < (((map ax a0)).length:Int))&&fits df (ah (map ax a0) (toNat v2))) then (some (decide ((bC (ah (map ax a0) (toNat v2))).2.2.2.2≤512))) else none else (some false)) else none).bind fun o3=>(bif o3 then (some (Sum.inr (Sum.inl false))) else (some (Sum.inl (wrap .i64 (v2+1)))))) else (some (Sum.inr (Sum.inr ()))))
theorem Wd (N:Nat) (a0:List XC) (a1:Int):T26 N (a0,a1) =
 (((bif (decide (((((map ax a0)).length:Nat):Int) > a1)) then (some (((((map ax a0)).length:Nat):Int) != 257)) else (some false)):Option Bool).bind fun o1=>(bif o1 then some false else ((aL (zp N a0) N 0).bind fun o8=>(Sum.elim (fun o9=>some o9) (fun IS=>some true) o8)))):=by kernel_rfl
def c78:List (Nat × cE):=[(26,.loop [] ⟨(.cons (.int .i64) .nil),[7],[],[],[],[]⟩ [(.ret,⟨(.cons (.int .i64) .nil),[2],[],[],[],[]⟩),(.ex 0,⟨.nil,[],[],[],[],[]⟩)])]
def Rl (N:Nat):lW→Option Int:=(cx N [] [(78,c78)]).fn 1000 78 (.cons (.list 1 (.int .i64)) .nil) (.int .i64)
def Yl (N:Nat):aS:=⟨(.cons (.list 1 (.int .i64)) .nil),(.int .i64),Rl N⟩
theorem zq (N:Nat):ak bF 78 (Yl N):=fw.bu (fun _ _ h=>by cases h) (by kernel_rfl) (by kernel_rfl)
def Co (N:Nat) (a0:List Int) (v1:Int):Option (Int ⊕ (Int ⊕ Unit)):=
 (bif (decide (v1 < ((((map qT a0)).length:Nat):Int))) then bif (decide ((0:Int)≤v1∧v1 < (((map qT a0)).length:Int))&&fits vO (ah (map qT a0) (toNat v1))) then (bif ((ka (ah (map qT a0) (toNat v1))) != 0) then (some (Sum.inr (Sum.inl (ka (ah (map qT a0) (toNat v1)))))) else (some (Sum.inl (wrap .i64 (v1+1))))) else none else (some (Sum.inr (Sum.inr ()))))
theorem We (N:Nat) (a0:List Int):Rl N a0 =
 ((aL (Co N a0) N 0).bind fun o6=>(Sum.elim (fun o7=>some o7) (fun o8=>some 0) o6)):=by kernel_rfl
def MB (N:Nat):Bool × Int→Option Int:=(cx N [] []).fn 1000 80 (.cons .bool (.cons (.int .i64) .nil)) (.int .i64)
def Ym (N:Nat):aS:=⟨(.cons .bool (.cons (.int .i64) .nil)),(.int .i64),MB N⟩
theorem zr (N:Nat):ak bF 80 (Ym N):=fw.bu (fun _ _ h=>by cases h) (by kernel_rfl) (by kernel_rfl)
theorem Wf (N:Nat) (a0:Bool) (a1:Int):MB N (a0,a1) =
 (bif a0 then some a1 else some 0):=by kernel_rfl
def c90:List (Nat × cE):=[(6,.join [(.norm,⟨(.cons (.int .i64) .nil),[6],[],[],[],[]⟩)])]
def T90 (N:Nat):Int × Int × Int→Option Int:=(cx N [(80,Ym N)] [(90,c90)]).fn 1000 90 (.cons (.int .i64) (.cons (.int .i64) (.cons (.int .i64) .nil))) (.int .i64)
def e90 (N:Nat):aS:=⟨(.cons (.int .i64) (.cons (.int .i64) (.cons (.int .i64) .nil))),(.int .i64),T90 N⟩
theorem Wg (N:Nat):ak bF 90 (e90 N):=fw.bu (aZ (by intro a e h; simp only [List.mem_cons,Prod.mk.injEq,List.not_mem_nil,or_false] at h; rcases h with ⟨rfl,rfl⟩; exact zr N)) (by kernel_rfl) (by kernel_rfl)
theorem Wh (N:Nat) (a0:Int) (a1:Int) (a2:Int):T90 N (a0,a1,a2) =
 (((bif (decide (a0 < a1)) then (MB N (true,3)).bind fun y1=>(some y1) else (MB N ((decide (a0 > a2)),3)).bind fun y2=>(some y2)):Option Int).bind fun o3=>some o3):=by kernel_rfl
def Rm (N:Nat):Bool→Option Int:=(cx N [] []).fn 1000 152 (.cons .bool .nil) (.int .i64)
def aam (N:Nat):aS:=⟨(.cons .bool .nil),(.int .i64),Rm N⟩
theorem Rn (N:Nat):ak bF 152 (aam N):=fw.bu (fun _ _ h=>by cases h) (by kernel_rfl) (by kernel_rfl)
theorem HD (N:Nat) (a0:Bool):Rm N a0 =
 (bif a0 then some 1 else some (-1)):=by kernel_rfl
def uH (N:Nat):XC × Int→Option (XA):=(cx N [(152,aam N)] []).fn 1000 109 (.cons df (.cons (.int .i64) .nil)) fI
def Jd (N:Nat):aS:=⟨(.cons df (.cons (.int .i64) .nil)),fI,uH N⟩
theorem tv (N:Nat):ak bF 109 (Jd N):=fw.bu (aZ (by intro a e h; simp only [List.mem_cons,Prod.mk.injEq,List.not_mem_nil,or_false] at h; rcases h with ⟨rfl,rfl⟩; exact Rn N)) (by kernel_rfl) (by kernel_rfl)
theorem Ro (N:Nat) (a0:Int × Int × Bool × Bool × Int) (a1:Int):uH N (a0,a1) =
 (Rm N a0.2.2.1).bind fun y1=>bif ((a0.2.2.2.1 == a0.2.2.2.1)&&((a0.2.1 == a0.2.1)&&((a0.1 == a0.1)&&true))) then (Rm N a0.2.2.2.1).bind fun y2=>bif ((a0.2.1 == a0.2.1)&&((a0.1 == a0.1)&&true)) then some ((wrap .i64 (a0.1+(wrap .i64 (a1 * y1)))),(wrap .i64 (a0.2.1+(wrap .i64 ((Int.tmod a1 2) * y2))))) else none else none:=by kernel_rfl
def aex:List (Nat × cE):=[(58,.loop [] ⟨(.cons (.int .i64) .nil),[20],[],[],[],[]⟩ [(.ret,⟨(.cons (.int .i64) .nil),[2],[],[],[],[]⟩),(.ex 0,⟨.nil,[],[],[],[],[]⟩)])]
def MC (N:Nat):XC→Option Int:=(cx N [(78,Yl N),(90,e90 N),(109,Jd N),(151,VM N)] [(108,aex)]).fn 1000 108 (.cons df .nil) (.int .i64)
def aan (N:Nat):aS:=⟨(.cons df .nil),(.int .i64),MC N⟩
theorem Rp (N:Nat):ak bF 108 (aan N):=fw.bu (aZ (by intro a e h; simp only [List.mem_cons,Prod.mk.injEq,List.not_mem_nil,or_false] at h; rcases h with ⟨rfl,rfl⟩ | ⟨rfl,rfl⟩ | ⟨rfl,rfl⟩ | ⟨rfl,rfl⟩; exact zq N; exact Wg N; exact tv N; exact Hy N)) (by kernel_rfl) (by kernel_rfl)
def wZ (N:Nat) (a0:Int × Int × Bool × Bool × Int) (v5:Int):Option (Int ⊕ (Int ⊕ Unit)):=
 (bif (decide (v5 < (wrap .i64 (a0.2.2.2.2+1)))) then (uH N ((a0.1,a0.2.1,a0.2.2.1,a0.2.2.2.1,a0.2.2.2.2),v5)).bind fun y6=>(D3 N (y6.1,y6.2)).bind fun y7=>(bif (y7 != 0) then (some (Sum.inr (Sum.inl y7))) else (some (Sum.inl (wrap .i64 (v5+1))))) else (some (Sum.inr (Sum.inr ()))))
theorem Rq (N:Nat) (a0:Int × Int × Bool × Bool × Int):MC N a0 =
 (D3 N (a0.1,a0.2.1)).bind fun y1=>bif ((a0.2.2.2.2 == a0.2.2.2.2)&&true) then (T90 N (a0.2.2.2.2,1,512)).bind fun y2=>((bif (allFit (fits vO) [(AV.int .i64 y1),(AV.int .i64 y2)]&&true) then some (map ka [(AV.int .i64 y1),(AV.int .i64 y2)]) else none).bind fun x4=>(Rl N x4).bind fun y3=>(bif (y3 != 0) then some y3 else ((aL (wZ N a0) N 0).bind fun Rr=>(Sum.elim (fun CE=>some CE) (fun TG=>some 0) Rr)))) else none:=by kernel_rfl
def sj (N:Nat):XC→Option (XA):=(cx N [(109,Jd N)] []).fn 1000 110 (.cons df .nil) fI
def aao (N:Nat):aS:=⟨(.cons df .nil),fI,sj N⟩
theorem Rs (N:Nat):ak bF 110 (aao N):=fw.bu (aZ (by intro a e h; simp only [List.mem_cons,Prod.mk.injEq,List.not_mem_nil,or_false] at h; rcases h with ⟨rfl,rfl⟩; exact tv N)) (by kernel_rfl) (by kernel_rfl)
theorem Rt (N:Nat) (a0:Int × Int × Bool × Bool × Int):sj N a0 =
 (uH N ((a0.1,a0.2.1,a0.2.2.1,a0.2.2.2.1,a0.2.2.2.2),a0.2.2.2.2)).bind fun y1=>some (y1.1,y1.2):=by kernel_rfl
def c32:List (Nat × cE):=[(26,.loop [] ⟨(.cons (.int .i64) .nil),[3],[],[],[],[]⟩ [(.ret,⟨(.cons (.int .i64) .nil),[2],[],[],[],[]⟩),(.ex 0,⟨.nil,[],[],[],[],[]⟩)])]
def T32 (N:Nat):lW→Option Int:=(cx N [] [(32,c32)]).fn 1000 32 (.cons (.list 1 (.int .i64)) .nil) (.int .i64)
def e32 (N:Nat):aS:=⟨(.cons (.list 1 (.int .i64)) .nil),(.int .i64),T32 N⟩
theorem MD (N:Nat):ak bF 32 (e32 N):=fw.bu (fun _ _ h=>by cases h) (by kernel_rfl) (by kernel_rfl)
def Cp (N:Nat) (a0:List Int) (v1:Int):Option (Int ⊕ (Int ⊕ Unit)):=
 (bif (decide (v1 < ((((map cC a0)).length:Nat):Int))) then bif (decide ((0:Int)≤v1∧v1 < (((map cC a0)).length:Int))&&fits p3 (ah (map cC a0) (toNat v1))) then (bif ((fx (ah (map cC a0) (toNat v1))) != 0) then bif (decide ((0:Int)≤v1∧v1 < (((map cC a0)).length:Int))&&fits p3 (ah (map cC a0) (toNat v1))) then (some (Sum.inr (Sum.inl (fx (ah (map cC a0) (toNat v1)))))) else none else (some (Sum.inl (wrap .i64 (v1+1))))) else none else (some (Sum.inr (Sum.inr ()))))
theorem Wi (N:Nat) (a0:List Int):T32 N a0 =
 ((aL (Cp N a0) N 0).bind fun o6=>(Sum.elim (fun o7=>some o7) (fun o8=>some 0) o6)):=by kernel_rfl
def c33:List (Nat × cE):=[(12,.join [(.norm,⟨(.cons .bool .nil),[14],[],[],[],[]⟩)])]
def T33 (N:Nat):Int × Int × Int→Option Int:=(cx N [] [(33,c33)]).fn 1000 33 (.cons (.int .i64) (.cons (.int .i64) (.cons (.int .i64) .nil))) (.int .i64)
def e33 (N:Nat):aS:=⟨(.cons (.int .i64) (.cons (.int .i64) (.cons (.int .i64) .nil))),(.int .i64),T33 N⟩
theorem Wj (N:Nat):ak bF 33 (e33 N):=fw.bu (fun _ _ h=>by cases h) (by kernel_rfl) (by kernel_rfl)
theorem Wk (N:Nat) (a0:Int) (a1:Int) (a2:Int):T33 N (a0,a1,a2) =
 (((bif (decide (a0 < a1)) then (some true) else (some (decide (a0 > a2)))):Option Bool).bind fun o1=>(bif o1 then some 3 else some 0)):=by kernel_rfl
def c55:List (Nat × cE):=[(122,.loop [] ⟨(.cons (.own 0 2 fI) (.cons .bool (.cons (.int .i64) (.cons (.int .i64) (.cons (.int .i64) .nil))))),[3,5,6],[],[(4,2)],[.tok 0 2 86],[]⟩ [(.ex 0,⟨(.cons (.own 0 2 fI) (.cons (.int .i64) (.cons (.int .i64) .nil))),[3],[],[(4,2)],[.tok 0 2 86],[]⟩)]),
 (7825,.join [(.norm,⟨(.cons (.own 0 2 fI) (.cons (.int .i64) (.cons (.int .i64) .nil))),[3],[],[(4,2)],[.tok 0 2 86],[]⟩)]),
 (15653,.join [(.norm,⟨(.cons (.own 0 2 fI) (.cons (.int .i64) (.cons (.int .i64) .nil))),[3],[],[(4,2)],[.tok 0 2 86],[]⟩)])]
def Ru (N:Nat):XC→Option (hU):=(cx N [] [(55,c55)]).fn 1000 55 (.cons df .nil) (.list 2 fI)
def e55 (N:Nat):aS:=⟨(.cons df .nil),(.list 2 fI),Ru N⟩
theorem Gm (N:Nat):ak bF 55 (e55 N):=fw.bu (fun _ _ h=>by cases h) (by kernel_rfl) (by kernel_rfl)
def tw (N:Nat) (a0:Int × Int × Bool × Bool × Int) (v1:hU × Bool × Int × Int × Int):Option ((hU × Bool × Int × Int × Int) ⊕ ((hU × Int × Int))):=
 (bif (decide (v1.2.2.1 < a0.2.2.2.2)) then (((bif a0.2.2.1 then ((bif (allFit (fits fI) (map cS v1.1)&&true) then some ((map nt (map cS v1.1)),(wrap .i64 (v1.2.2.2.1+1)),v1.2.2.2.2) else none).bind fun w2=>bif (decide ((((map cS v1.1)).length)=(map cS w2.1).length)&&true) then some w2 else none) else ((bif (allFit (fits fI) (map cS v1.1)&&true) then some ((map nt (map cS v1.1)),(wrap .i64 (v1.2.2.2.1 - 1)),v1.2.2.2.2) else none).bind fun w3=>bif (decide ((((map cS v1.1)).length)=(map cS w3.1).length)&&true) then some w3 else none)):Option ((hU × Int × Int))).bind fun o4=>(((bif v1.2.1 then ((bif (allFit (fits fI) (map cS o4.1)&&true) then some ((map nt (map cS o4.1)),o4.2.1,(wrap .i64 (o4.2.2+1))) else none).bind fun w5=>bif (decide ((((map cS o4.1)).length)=(map cS w5.1).length)&&true) then some w5 else none) else ((bif (allFit (fits fI) (map cS o4.1)&&true) then some ((map nt (map cS o4.1)),o4.2.1,(wrap .i64 (o4.2.2 - 1))) else none).bind fun w6=>bif (decide ((((map cS o4.1)).length)=(map cS w6.1).length)&&true) then some w6 else none)):Option ((hU × Int × Int))).bind fun o7=>bif (decide ((((map cS o7.1)).length)=((map cS o7.1)).length)&&decide ((((map cS o7.1)).length+1) * 16≤140737488355328)) then (((bif (allFit (fits fI) ((map cS o7.1)++[(AV.agg [(AV.int .i64 o7.2.1),(AV.int .i64 o7.2.2)])])&&true) then some ((map nt ((map cS o7.1)++[(AV.agg [(AV.int .i64 o7.2.1),(AV.int .i64 o7.2.2)])])),(!v1.2.1),(wrap .i64 (v1.2.2.1+1)),o7.2.1,o7.2.2) else none).bind fun w8=>bif (decide (((((map cS o7.1)).length)+1)=(map cS w8.1).length)&&true) then some w8 else none).bind fun u9=>some (Sum.inl u9)) else none)) else (((bif (allFit (fits fI) (map cS v1.1)&&true) then some ((map nt (map cS v1.1)),v1.2.2.2.1,v1.2.2.2.2) else none).bind fun HE=>bif (decide ((((map cS v1.1)).length)=(map cS HE.1).length)&&true) then some HE else none).bind fun Wl=>some (Sum.inr Wl)))
theorem Wm (N:Nat) (a0:Int × Int × Bool × Bool × Int):Ru N a0 =
 bif ((a0.2.2.2.1 == a0.2.2.2.1)&&(((a0.1 == a0.1)&&((a0.2.1 == a0.2.1)&&true))&&true)) then bif ((a0.2.2.2.1 == a0.2.2.2.1)&&true) then (((bif (allFit (fits fI) [(AV.agg [(AV.int .i64 a0.1),(AV.int .i64 a0.2.1)])]&&true) then some ((map nt [(AV.agg [(AV.int .i64 a0.1),(AV.int .i64 a0.2.1)])]),a0.2.2.2.1,0,a0.1,a0.2.1) else none:Option (hU × Bool × Int × Int × Int)).bind fun ME=>bif (decide (1=(map cS ME.1).length)&&true) then some ME else none).bind fun x14=>(aL (tw N a0) N x14).bind fun CE=>(bif allFit (fits fI) (map cS CE.1) then some (map nt (map cS CE.1)) else none)) else none else none:=by kernel_rfl
def aeA:List (Nat × cE):=[(6,.join [(.norm,⟨(.cons .bool .nil),[2],[],[],[],[]⟩)])]
def Rv (N:Nat):Int→Option Bool:=(cx N [] [(123,aeA)]).fn 1000 123 (.cons (.int .i64) .nil) .bool
def aaq (N:Nat):aS:=⟨(.cons (.int .i64) .nil),.bool,Rv N⟩
theorem Rw (N:Nat):ak bF 123 (aaq N):=fw.bu (fun _ _ h=>by cases h) (by kernel_rfl) (by kernel_rfl)
theorem HF (N:Nat) (a0:Int):Rv N a0 =
 (((bif (decide (a0 < (-100000))) then (some true) else (some (decide (a0 > 100000)))):Option Bool).bind fun o1=>some o1):=by kernel_rfl
def Wn (N:Nat):Int × Int→Option Bool:=(cx N [] []).fn 1000 153 (.cons (.int .i64) (.cons (.int .i64) .nil)) .bool
def aar (N:Nat):aS:=⟨(.cons (.int .i64) (.cons (.int .i64) .nil)),.bool,Wn N⟩
theorem Rx (N:Nat):ak bF 153 (aar N):=fw.bu (fun _ _ h=>by cases h) (by kernel_rfl) (by kernel_rfl)
theorem Ry (N:Nat) (a0:Int) (a1:Int):Wn N (a0,a1) =
 some ((Int.tmod (wrap .i64 (a0+a1)) 2) == 0):=by kernel_rfl
def aeB:List (Nat × cE):=[(12,.join [(.norm,⟨(.cons .bool .nil),[10],[],[],[],[]⟩)])]
def uI (N:Nat):XA→Option Int:=(cx N [(123,aaq N),(153,aar N)] [(111,aeB)]).fn 1000 111 (.cons fI .nil) (.int .i64)
def Rz (N:Nat):aS:=⟨(.cons fI .nil),(.int .i64),uI N⟩
theorem Cq (N:Nat):ak bF 111 (Rz N):=fw.bu (aZ (by intro a e h; simp only [List.mem_cons,Prod.mk.injEq,List.not_mem_nil,or_false] at h; rcases h with ⟨rfl,rfl⟩ | ⟨rfl,rfl⟩; exact Rw N; exact Rx N)) (by kernel_rfl) (by kernel_rfl)
theorem RA (N:Nat) (a0:Int × Int):uI N a0 =
 (((Rv N a0.1).bind fun y1=>(bif y1 then (some true) else (Rv N a0.2).bind fun y2=>(some y2)):Option Bool).bind fun o3=>(bif o3 then some 3 else (Wn N (a0.1,a0.2)).bind fun y4=>(bif (!y4) then some 14 else some 0))):=by kernel_rfl
def c54:List (Nat × cE):=[(250,.loop [] ⟨(.cons (.int .i64) .nil),[5],[],[],[],[]⟩ [(.ret,⟨(.cons (.int .i64) .nil),[2],[],[],[],[]⟩),(.ex 0,⟨.nil,[],[],[],[],[]⟩)])]
def T54 (N:Nat):XC→Option Int:=(cx N [(32,e32 N),(33,e33 N),(55,e55 N),(111,Rz N)] [(54,c54)]).fn 1000 54 (.cons df .nil) (.int .i64)
def e54 (N:Nat):aS:=⟨(.cons df .nil),(.int .i64),T54 N⟩
theorem Wo (N:Nat):ak bF 54 (e54 N):=fw.bu (aZ (by intro a e h; simp only [List.mem_cons,Prod.mk.injEq,List.not_mem_nil,or_false] at h; rcases h with ⟨rfl,rfl⟩ | ⟨rfl,rfl⟩ | ⟨rfl,rfl⟩ | ⟨rfl,rfl⟩; exact MD N; exact Wj N; exact Gm N; exact Cq N)) (by kernel_rfl) (by kernel_rfl)
def xd (N:Nat) (y5:hU) (v6:Int):Option (Int ⊕ (Int ⊕ Unit)):=
 (bif (decide (v6 < ((((map cS y5)).length:Nat):Int))) then bif (decide ((0:Int)≤v6∧v6 < (((map cS y5)).length:Int))&&fits fI (ah (map cS y5) (toNat v6))) then (uI N ((nt (ah (map cS y5) (toNat v6))).1,(nt (ah (map cS y5) (toNat v6))).2)).bind fun y7=>(bif (y7 != 0) then (some (Sum.inr (Sum.inl y7))) else (some (Sum.inl (wrap .i64 (v6+1))))) else none else (some (Sum.inr (Sum.inr ()))))
theorem Wp (N:Nat) (a0:Int × Int × Bool × Bool × Int):T54 N a0 =
 (uI N (a0.1,a0.2.1)).bind fun y1=>bif ((a0.2.2.2.2 == a0.2.2.2.2)&&true) then (T33 N (a0.2.2.2.2,1,512)).bind fun y2=>((bif (allFit (fits p3) [(AV.int .i64 y1),(AV.int .i64 y2)]&&true) then some (map fx [(AV.int .i64 y1),(AV.int .i64 y2)]) else none).bind fun x4=>(T32 N x4).bind fun y3=>(bif (y3 != 0) then some y3 else (Ru N (a0.1,a0.2.1,a0.2.2.1,a0.2.2.2.1,a0.2.2.2.2)).bind fun y5=>((aL (xd N y5) N 0).bind fun Rr=>(Sum.elim (fun CE=>some CE) (fun TG=>some 0) Rr)))) else none:=by kernel_rfl
def T56 (N:Nat):XC→Option (XA):=(cx N [(55,e55 N)] []).fn 1000 56 (.cons df .nil) fI
def e56 (N:Nat):aS:=⟨(.cons df .nil),fI,T56 N⟩
theorem Wq (N:Nat):ak bF 56 (e56 N):=fw.bu (aZ (by intro a e h; simp only [List.mem_cons,Prod.mk.injEq,List.not_mem_nil,or_false] at h; rcases h with ⟨rfl,rfl⟩; exact Gm N)) (by kernel_rfl) (by kernel_rfl)
theorem Wr (N:Nat) (a0:Int × Int × Bool × Bool × Int):T56 N a0 =
 (Ru N (a0.1,a0.2.1,a0.2.2.1,a0.2.2.2.1,a0.2.2.2.2)).bind fun y1=>bif (decide ((0:Int)≤(wrap .i64 (((((map cS y1)).length:Nat):Int) - 1))∧(wrap .i64 (((((map cS y1)).length:Nat):Int) - 1)) < (((map cS y1)).length:Int))&&fits fI (ah (map cS y1) (toNat (wrap .i64 (((((map cS y1)).length:Nat):Int) - 1))))) then some ((nt (ah (map cS y1) (toNat (wrap .i64 (((((map cS y1)).length:Nat):Int) - 1))))).1,(nt (ah (map cS y1) (toNat (wrap .i64 (((((map cS y1)).length:Nat):Int) - 1))))).2) else none:=by kernel_rfl
end
end Go.Proofs.YtldcljfjjoidhaaGreatDoor
