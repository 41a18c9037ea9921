/- What functions compute. -/
import Derived.Test.YtegoimldbgdeiaaGreatTrzA
set_option linter.all false
open Sum renaming inr→aal, inl→aao, elim→aap
namespace Go.Proofs.YtegoimldbgdeiaaGreat
open Go Go.Am
open List (map)
open Int (toNat)
open Go.IntKind (wrap)
open Go.Am.aP (fits)
set_option maxRecDepth 100000
noncomputable section
abbrev p4:aP:=.bool
abbrev d4 (v:AV):Bool:=aP.bw p4 v
abbrev n4 (x:Bool):AV:=aP.enc p4 x
abbrev V5:aP:=pz
abbrev d37 (v:AV):List cp:=aP.bw V5 v
abbrev n37 (x:List cp):AV:=aP.enc V5 x
abbrev L37 (l:List aw):=map n37 l
theorem adq (x:List cp):fits V5 (n37 x)=true:=(aP.bA V5 x rfl).1
theorem adr (x:List cp):d37 (n37 x)=x:=(aP.bA V5 x rfl).2
def ads:List (Nat × dY):=[(12,.join [(.norm,⟨(.cons .bool .nil),[13],[],[],[],[]⟩)]),
 (58,.loop [] ⟨(.cons .str (.ci .nil)),[],[],[],[.GK],[]⟩ [(.ex 0,⟨(.cons .str (.ci .nil)),[],[],[],[.GK],[]⟩),(.ret,⟨(.cons .bool (.cons .str (.ci .nil))),[2],[],[],[.GK],[]⟩)]),
 (3738,.join [(.norm,⟨(.cons .bool (.cons .str (.ci .nil))),[5],[],[],[.GK],[]⟩)]),
 (7478,.join [(.norm,⟨(.cons .bool (.cons .str (.ci .nil))),[51],[],[],[.GK],[]⟩)])]
def Rh (N:Nat):eJ→Option Bool:=(cx N [] [(132,ads)]).fn 1000 132 (.cons .str .nil) .bool
def ZO (N:Nat):bK:=⟨(.cons .str .nil),.bool,Rh N⟩
theorem Ri (N:Nat):aI bU 132 (ZO N):=jT.dT (fun _ _ h=>by cases h) (by kernel_rfl) (by kernel_rfl)
def vv (N:Nat) (v2:eJ × Int):Option ((eJ × Int) ⊕ ((eJ × Int) ⊕ (Bool × eJ × Int))):=
 (bif Nat.blt (toNat v2.2) (List.length v2.1) then (((bif (decide ((((cQ v2.1 (toNat v2.2)).1:Nat):Int)≥65)) then (bif (decide ((((cQ v2.1 (toNat v2.2)).1:Nat):Int)≤90)) then (some (true,v2.1,((((toNat v2.2)+(cQ v2.1 (toNat v2.2)).2):Nat):Int))) else (bif (decide ((((cQ v2.1 (toNat v2.2)).1:Nat):Int)≥97)) then (some ((decide ((((cQ v2.1 (toNat v2.2)).1:Nat):Int)≤122)),v2.1,((((toNat v2.2)+(cQ v2.1 (toNat v2.2)).2):Nat):Int))) else (some (false,v2.1,((((toNat v2.2)+(cQ v2.1 (toNat v2.2)).2):Nat):Int))))) else (bif (decide ((((cQ v2.1 (toNat v2.2)).1:Nat):Int)≥97)) then (some ((decide ((((cQ v2.1 (toNat v2.2)).1:Nat):Int)≤122)),v2.1,((((toNat v2.2)+(cQ v2.1 (toNat v2.2)).2):Nat):Int))) else (some (false,v2.1,((((toNat v2.2)+(cQ v2.1 (toNat v2.2)).2):Nat):Int))))):Option ((Bool × eJ × Int))).bind fun o3=>(((bif (!o3.1) then (bif ((((toNat v2.2):Nat):Int) == 0) then (some (true,o3.2.1,(((toNat o3.2.2):Nat):Int))) else (bif ((((cQ v2.1 (toNat v2.2)).1:Nat):Int) != 95) then (bif (decide ((((cQ v2.1 (toNat v2.2)).1:Nat):Int) < 48)) then (some (true,o3.2.1,(((toNat o3.2.2):Nat):Int))) else (some ((decide ((((cQ v2.1 (toNat v2.2)).1:Nat):Int) > 57)),o3.2.1,(((toNat o3.2.2):Nat):Int)))) else (some (false,o3.2.1,(((toNat o3.2.2):Nat):Int))))) else (some (false,o3.2.1,(((toNat o3.2.2):Nat):Int)))):Option ((Bool × eJ × Int))).bind fun o4=>(bif o4.1 then (some (aal (aal (false,o4.2.1,(((toNat o4.2.2):Nat):Int))))) else (some (aao (o4.2.1,(((toNat o4.2.2):Nat):Int))))))) else (some (aal (aao (v2.1,(((toNat v2.2):Nat):Int))))))
theorem Rj (N:Nat) (a0:List UInt8):Rh N a0 =
 (((bif ((((a0).length:Nat):Int) == 0) then (some true) else (some (decide ((((a0).length:Nat):Int) > 24)))):Option Bool).bind fun o1=>(bif o1 then some false else ((aB (vv N) N (a0,((0:Nat):Int))).bind fun o9=>(aap (fun K6=>some true) (fun mX=>some mX.1) o9)))):=by kernel_rfl
def c98:List (Nat × dY):=[(26,.loop [] ⟨(.ci .nil),[12],[],[],[],[]⟩ [(.ret,⟨(.ci .nil),[2],[],[],[],[]⟩),(.ex 0,⟨.nil,[],[],[],[],[]⟩)]),
 (13516,.join [(.norm,⟨(.ci (.cons .str (.cons bO .nil))),[6],[],[],[.row 2],[]⟩)]),
 (27038,.loop [] ⟨(.ci (.cons .str (.cons bO .nil))),[48],[],[],[.row 2],[]⟩ [(.ret,⟨(.ci (.cons .str (.cons bO .nil))),[2],[],[],[.row 2],[]⟩),(.ex 2,⟨(.cons .str (.cons bO .nil)),[],[],[],[.row 2],[]⟩)])]
def Rk:List (Nat × dY):=[(1,.join [(.ret,⟨(.ci (.cons .str (.cons bO .nil))),[4],[],[],[.row 2],[]⟩)]),
 (26,.loop [] ⟨(.ci (.cons .str (.cons bO .nil))),[8],[],[],[.row 2],[]⟩ [(.ret,⟨(.ci (.cons .str (.cons bO .nil))),[4],[],[],[.row 2],[]⟩),(.ex 0,⟨(.cons .str (.cons bO .nil)),[],[],[],[.row 2],[]⟩)])]
def T98 (N:Nat):a7→Option Int:=(cx N [(59,Tb N),(77,VB N),(97,e97 N),(132,ZO N)] [(98,c98),(141,Rk)]).fn 1000 98 (.cons fm .nil) (.int .i64)
def e98 (N:Nat):bK:=⟨(.cons fm .nil),(.int .i64),T98 N⟩
theorem V6 (N:Nat):aI bU 98 (e98 N):=jT.dT (ks (ub N) (ks (wV N) (ks (VE N) (ks (Ri N) EI)))) (by kernel_rfl) (by kernel_rfl)
def nA (N:Nat) (a0:List jE) (v1:Int) (v2:Int × eJ × aw):Option (py ⊕ (py ⊕ jE)):=
 (bif (decide (v2.1 < ((((kv 0 (toNat v1) (aW a0))).length:Nat):Int))) then bif (decide ((0:Int)≤v2.1∧v2.1 < (((kv 0 (toNat v1) (aW a0))).length:Int))&&fits iR (ae (kv 0 (toNat v1) (aW a0)) (toNat v2.1))) then (bif ((d131 (ae (kv 0 (toNat v1) (aW a0)) (toNat v2.1))).1 == v2.2.1) then ((((bif (wT v2.2.2&&true) then some (v2.1,v2.2.1,(wU v2.2.2)) else none).bind fun w3=>some w3).bind fun u4=>some (aao u4)).bind fun u5=>some (aal u5)) else (((bif (wT v2.2.2&&true) then some ((wrap .i64 (v2.1+1)),v2.2.1,(wU v2.2.2)) else none).bind fun w6=>some w6).bind fun u7=>some (aao u7))) else none else ((((bif (wT v2.2.2&&true) then some (v2.2.1,(wU v2.2.2)) else none).bind fun w8=>some w8).bind fun u9=>some (aal u9)).bind fun QX=>some (aal QX)))
def pD (N:Nat) (qR:py) (v33:Int × eJ × aw):Option (py ⊕ (py ⊕ jE)):=
 (bif (decide (v33.1 < (((dU qR.2.2).length:Nat):Int))) then bif (decide ((0:Int)≤v33.1∧v33.1 < ((dU qR.2.2).length:Int))&&fits r7 (ae (dU qR.2.2) (toNat v33.1))) then (Zx N ((d132 (ae (dU qR.2.2) (toNat v33.1))).1,1,10000)).bind fun L6=>bif (((d132 (ae (dU qR.2.2) (toNat v33.1))).2 == (d132 (ae (dU qR.2.2) (toNat v33.1))).2)&&true) then (Zx N ((d132 (ae (dU qR.2.2) (toNat v33.1))).2,(-100000),100000)).bind fun V7=>((bif (allFit (fits C4) [(AV.int .i64 L6),(AV.int .i64 V7)]&&true) then some (map d29 [(AV.int .i64 L6),(AV.int .i64 V7)]) else none).bind fun x37=>(Ek N x37).bind fun y36=>(bif (y36 != 0) then ((((bif (wT v33.2.2&&true) then some (y36,v33.2.1,(wU v33.2.2)) else none).bind fun NR=>some NR).bind fun u39=>some (aao u39)).bind fun u40=>some (aal u40)) else (((bif (wT v33.2.2&&true) then some ((wrap .i64 (v33.1+1)),v33.2.1,(wU v33.2.2)) else none).bind fun VQ=>some VQ).bind fun u42=>some (aao u42)))) else none else none else ((((bif (wT v33.2.2&&true) then some (v33.2.1,(wU v33.2.2)) else none).bind fun w43=>some w43).bind fun u44=>some (aal u44)).bind fun ZB=>some (aal ZB)))
def Eo (N:Nat) (a0:List jE) (v1:Int):Option tk:=
 (bif (decide (v1 < (((aW a0).length:Nat):Int))) then bif (decide ((0:Int)≤v1∧v1 < ((aW a0).length:Int))&&fits iR (ae (aW a0) (toNat v1))) then bif (decide ((0:Int)≤v1∧v1≤((aW a0).length:Int))&&true) then (((((bif (wT (d131 (ae (aW a0) (toNat v1))).2&&true) then some (0,(d131 (ae (aW a0) (toNat v1))).1,(wU (d131 (ae (aW a0) (toNat v1))).2)) else none:Option py).bind fun QY=>some QY).bind fun ZP=>(aB (nA N a0 v1) N ZP).bind fun V8=>(aap (fun Ln=>((bif (wT Ln.2.2&&true) then some (Ln.1,Ln.2.1,(wU Ln.2.2)) else none).bind fun V9=>some V9)) (fun lB=>((bif (wT lB.2&&true) then some ((-1),lB.1,(wU lB.2)) else none).bind fun Pf=>some Pf)) V8)):Option (py)).bind fun xX=>(((Rh N xX.2.1).bind fun XV=>bif (((((dU xX.2.2).length:Nat):Int) == (((dU xX.2.2).length:Nat):Int))&&(bD (dU xX.2.2) (dU xX.2.2)&&true)) then (C5 N ((!XV),8)).bind fun Rl=>bif (((((dU xX.2.2).length:Nat):Int) == (((dU xX.2.2).length:Nat):Int))&&(bD (dU xX.2.2) (dU xX.2.2)&&true)) then (C5 N ((decide (xX.1≥0)),9)).bind fun XW=>bif (((((dU xX.2.2).length:Nat):Int) == (((dU xX.2.2).length:Nat):Int))&&(bD (dU xX.2.2) (dU xX.2.2)&&true)) then (bif (decide ((((dU xX.2.2).length:Nat):Int) < 3)) then (C5 N (true,2)).bind fun y22=>((bif (allFit (fits C4) [(AV.int .i64 Rl),(AV.int .i64 XW),(AV.int .i64 y22)]&&true) then some (map d29 [(AV.int .i64 Rl),(AV.int .i64 XW),(AV.int .i64 y22)]) else none).bind fun ZQ=>(Ek N ZQ).bind fun y23=>((bif (wT xX.2.2&&true) then some (y23,xX.2.1,(wU xX.2.2)) else none).bind fun Wa=>some Wa)) else (C5 N ((decide ((((dU xX.2.2).length:Nat):Int) > 8)),2)).bind fun y26=>((bif (allFit (fits C4) [(AV.int .i64 Rl),(AV.int .i64 XW),(AV.int .i64 y26)]&&true) then some (map d29 [(AV.int .i64 Rl),(AV.int .i64 XW),(AV.int .i64 y26)]) else none).bind fun x28=>(Ek N x28).bind fun y27=>((bif (wT xX.2.2&&true) then some (y27,xX.2.1,(wU xX.2.2)) else none).bind fun XP=>some XP))) else none else none else none:Option (py)).bind fun qR=>(bif (qR.1 != 0) then (some (aal (aao qR.1))) else (((bif (wT qR.2.2&&true) then some (0,qR.2.1,(wU qR.2.2)) else none:Option py).bind fun Tg=>some Tg).bind fun x52=>(aB (pD N qR) N x52).bind fun nR=>(aap (fun Da=>(some (aal (aao Da.1)))) (fun o49=>(some (aao (wrap .i64 (v1+1))))) nR))))) else none else none else (some (aal (aal ()))))
theorem Wb (N:Nat) (a0:List jE):T98 N a0 =
 ((aB (Eo N a0) N 0).bind fun o55=>(aap (fun o56=>some o56) (fun nt=>some 0) o55)):=by kernel_rfl
def c89:List (Nat × dY):=[(12,.join [(.norm,⟨(.cons .bool .nil),[22],[],[],[],[]⟩)]),
 (58,.loop [] ⟨(.ci .nil),[25],[],[],[],[]⟩ [(.ret,⟨(.ci .nil),[6],[],[],[],[]⟩),(.ex 0,⟨.nil,[],[],[],[],[]⟩)]),
 (62,.join [(.norm,⟨(.ci .nil),[6],[],[],[],[]⟩)]),
 (7474,.join [(.norm,⟨(.cons .bool .nil),[54],[],[],[],[]⟩)])]
def Rm (N:Nat):dN × ku × a6→Option Int:=(cx N [(59,Tb N),(77,VB N),(85,e85 N),(88,e88 N)] [(89,c89)]).fn 1000 89 (.cons cM (.cons nQ (.cons cR .nil))) (.int .i64)
def e89 (N:Nat):bK:=⟨(.cons cM (.cons nQ (.cons cR .nil))),(.int .i64),Rm N⟩
theorem N5 (N:Nat):aI bU 89 (e89 N):=jT.dT (ks (ub N) (ks (wV N) (ks (VG N) (ks (VI N) EI)))) (by kernel_rfl) (by kernel_rfl)
def Bq (N:Nat) (a1:Int × Int × Int × Int × Bool) (a2:List ku) (v6:Int):Option tk:=
 (bif (decide (v6 < (((az a2).length:Nat):Int))) then bif (decide ((0:Int)≤v6∧v6 < ((az a2).length:Int))&&fits js (ae (az a2) (toNat v6))) then (((bif ((a1.1 == (d110 (ae (az a2) (toNat v6))).1)&&((a1.2.1 == (d110 (ae (az a2) (toNat v6))).2.1)&&true)) then (some true) else (bif ((a1.1 == (d110 (ae (az a2) (toNat v6))).2.2.1)&&((a1.2.1 == (d110 (ae (az a2) (toNat v6))).2.2.2.1)&&true)) then (some true) else (bif ((a1.2.2.1 == (d110 (ae (az a2) (toNat v6))).1)&&((a1.2.2.2.1 == (d110 (ae (az a2) (toNat v6))).2.1)&&true)) then (some true) else (some ((a1.2.2.1 == (d110 (ae (az a2) (toNat v6))).2.2.1)&&((a1.2.2.2.1 == (d110 (ae (az a2) (toNat v6))).2.2.2.1)&&true)))))):Option Bool).bind fun o7=>(bif o7 then (some (aal (aao 9))) else (some (aao (wrap .i64 (v6+1)))))) else none else (some (aal (aal ()))))
theorem Wc (N:Nat) (a0:a7 × a6) (a1:Int × Int × Int × Int × Bool) (a2:List ku):Rm N (a0,a1,a2) =
 ((((bif ((ey a0.1&&(dh a0.2&&true))&&true) then some (((eA a0.1),(da a0.2)),(a1.1,a1.2.1)) else none).bind fun x2=>(Zy N x2).bind fun y1=>(bif (!y1) then (some true) else ((bif ((ey a0.1&&(dh a0.2&&true))&&true) then some (((eA a0.1),(da a0.2)),(a1.2.2.1,a1.2.2.2.1)) else none).bind fun x4=>(Zy N x4).bind fun y3=>(some (!y3))))):Option Bool).bind fun o5=>(bif o5 then some 10 else ((aB (Bq N a1 a2) N 0).bind fun V8=>(aap (fun Ln=>some Ln) (fun lB=>((bif ((ey a0.1&&(dh a0.2&&true))&&true) then some (((eA a0.1),(da a0.2)),(a1.1,a1.2.1)) else none).bind fun x16=>(Zz N x16).bind fun ZR=>bif (((a1.2.2.1 == a1.2.2.1)&&((a1.2.2.2.1 == a1.2.2.2.1)&&true))&&((bD (aW a0.1) (aW a0.1)&&(bD (az a0.2) (az a0.2)&&true))&&true)) then ((bif ((ey a0.1&&(dh a0.2&&true))&&true) then some (((eA a0.1),(da a0.2)),(a1.2.2.1,a1.2.2.2.1)) else none).bind fun x18=>(Zz N x18).bind fun ZS=>(((C5 N (((a1.1 == a1.2.2.1)&&((a1.2.1 == a1.2.2.2.1)&&true)),9)).bind fun XV=>(bif (decide (ZR.1 > (wrap .i64 (2 * ZS.1)))) then (C5 N (true,24)).bind fun Rl=>((bif (allFit (fits C4) [(AV.int .i64 XV),(AV.int .i64 Rl)]&&true) then some (map d29 [(AV.int .i64 XV),(AV.int .i64 Rl)]) else none).bind fun x22=>(Ek N x22).bind fun XW=>(some XW)) else (C5 N ((decide (ZS.1 > (wrap .i64 (2 * ZR.1)))),24)).bind fun y23=>((bif (allFit (fits C4) [(AV.int .i64 XV),(AV.int .i64 y23)]&&true) then some (map d29 [(AV.int .i64 XV),(AV.int .i64 y23)]) else none).bind fun x25=>(Ek N x25).bind fun y24=>(some y24))):Option Int).bind fun L7=>some L7)) else none)) V8)))):=by kernel_rfl
def c56:List (Nat × dY):=[(58,.loop [] ⟨(.ci .nil),[38],[],[],[],[]⟩ [(.ret,⟨(.ci .nil),[2],[],[],[],[]⟩),(.ex 0,⟨.nil,[],[],[],[],[]⟩)])]
def L8 (N:Nat):dN→Option Int:=(cx N [(59,Tb N),(77,VB N),(89,e89 N),(98,e98 N)] [(56,c56)]).fn 1000 56 (.cons cM .nil) (.int .i64)
def e56 (N:Nat):bK:=⟨(.cons cM .nil),(.int .i64),L8 N⟩
theorem IF (N:Nat):aI bU 56 (e56 N):=jT.dT (ks (ub N) (ks (wV N) (ks (N5 N) (ks (V6 N) EI)))) (by kernel_rfl) (by kernel_rfl)
def Br (N:Nat) (a0:a7 × a6) (v8:Int):Option tk:=
 (bif (decide (v8 < (((az a0.2).length:Nat):Int))) then bif (decide ((0:Int)≤v8∧v8 < ((az a0.2).length:Int))&&fits js (ae (az a0.2) (toNat v8))) then bif (decide ((0:Int)≤v8∧v8≤((az a0.2).length:Int))&&true) then ((bif ((ey a0.1&&(dh a0.2&&true))&&(allFit (fits js) (kv 0 (toNat v8) (az a0.2))&&true)) then some (((eA a0.1),(da a0.2)),((d110 (ae (az a0.2) (toNat v8))).1,(d110 (ae (az a0.2) (toNat v8))).2.1,(d110 (ae (az a0.2) (toNat v8))).2.2.1,(d110 (ae (az a0.2) (toNat v8))).2.2.2.1,(d110 (ae (az a0.2) (toNat v8))).2.2.2.2),(map d110 (kv 0 (toNat v8) (az a0.2)))) else none).bind fun x10=>(Rm N x10).bind fun y9=>(bif (y9 != 0) then (some (aal (aao y9))) else (some (aao (wrap .i64 (v8+1)))))) else none else none else (some (aal (aal ()))))
theorem Wd (N:Nat) (a0:a7 × a6):L8 N a0 =
 bif (decide ((0:Int)≤(if 16 < (((aW a0.1).length:Nat):Int) then 16 else (((aW a0.1).length:Nat):Int))∧(if 16 < (((aW a0.1).length:Nat):Int) then 16 else (((aW a0.1).length:Nat):Int))≤((aW a0.1).length:Int))&&true) then (C5 N (((((aW a0.1).length:Nat):Int) == 0),12)).bind fun y1=>bif (((((az a0.2).length:Nat):Int) == (((az a0.2).length:Nat):Int))&&(bD (az a0.2) (az a0.2)&&(((if 16 < (((aW a0.1).length:Nat):Int) then 16 else (((aW a0.1).length:Nat):Int)) == (if 16 < (((aW a0.1).length:Nat):Int) then 16 else (((aW a0.1).length:Nat):Int)))&&(((((aW a0.1).length:Nat):Int) == (((aW a0.1).length:Nat):Int))&&(bD (aW a0.1) (aW a0.1)&&(bD (aW a0.1) (aW a0.1)&&(((((aW a0.1).length:Nat):Int) == (((aW a0.1).length:Nat):Int))&&(bD (aW a0.1) (aW a0.1)&&true)))))))) then (C5 N ((decide ((((aW a0.1).length:Nat):Int) > 16)),5)).bind fun y2=>bif (((((az a0.2).length:Nat):Int) == (((az a0.2).length:Nat):Int))&&(bD (az a0.2) (az a0.2)&&(((if 16 < (((aW a0.1).length:Nat):Int) then 16 else (((aW a0.1).length:Nat):Int)) == (if 16 < (((aW a0.1).length:Nat):Int) then 16 else (((aW a0.1).length:Nat):Int)))&&(((((aW a0.1).length:Nat):Int) == (((aW a0.1).length:Nat):Int))&&(bD (aW a0.1) (aW a0.1)&&(bD (aW a0.1) (aW a0.1)&&true)))))) then ((bif (allFit (fits iR) (kv 0 (toNat (if 16 < (((aW a0.1).length:Nat):Int) then 16 else (((aW a0.1).length:Nat):Int))) (aW a0.1))&&true) then some (map d131 (kv 0 (toNat (if 16 < (((aW a0.1).length:Nat):Int) then 16 else (((aW a0.1).length:Nat):Int))) (aW a0.1))) else none).bind fun x4=>(T98 N x4).bind fun y3=>bif (((((az a0.2).length:Nat):Int) == (((az a0.2).length:Nat):Int))&&(bD (az a0.2) (az a0.2)&&true)) then (C5 N ((decide ((((az a0.2).length:Nat):Int) > 64)),5)).bind fun y5=>((bif (allFit (fits C4) [(AV.int .i64 y1),(AV.int .i64 y2),(AV.int .i64 y3),(AV.int .i64 y5)]&&true) then some (map d29 [(AV.int .i64 y1),(AV.int .i64 y2),(AV.int .i64 y3),(AV.int .i64 y5)]) else none).bind fun x7=>(Ek N x7).bind fun y6=>(bif (y6 != 0) then some y6 else ((aB (Br N a0) N 0).bind fun Rn=>(aap (fun bN=>some bN) (fun Th=>some 0) Rn)))) else none) else none else none else none:=by kernel_rfl
def adz:List (Nat × dY):=[(26,.loop [] ⟨(.ci (.ci (.ci .nil))),[12],[],[(4,2)],[],[]⟩ [(.ret,⟨(.ci (.cons .bool (.ci (.ci .nil)))),[5,6],[],[(4,2)],[],[]⟩),(.ex 0,⟨(.ci (.ci .nil)),[],[],[(4,2)],[],[]⟩)])]
def adA (N:Nat):dN × cp→Option (cp × Int × Bool):=(cx N [] [(135,adz)]).fn 1000 135 (.cons cM (.cons bC .nil)) (.bP (.cons bC (.ci (.cons .bool .nil))))
def We (N:Nat):bK:=⟨(.cons cM (.cons bC .nil)),(.bP (.cons bC (.ci (.cons .bool .nil)))),adA N⟩
theorem JV (N:Nat):aI bU 135 (We N):=jT.dT (fun _ _ h=>by cases h) (by kernel_rfl) (by kernel_rfl)
def c99:List (Nat × dY):=[(117,.join [(.norm,⟨(.cons fm (.cons cR (.cons (.own 5 2 bC) (.cons fm (.cons cR .nil))))),[],[],[],[.row 2,.row 1,.row 2,.keep,.lp .busy,.tok 2 2 100],[]⟩)])]
def Ro:List (Nat × dY):=[(6,.loop [(.row 1 0,2,100)] ⟨(.ci (.cons fm (.cons cR (.cons (.own 5 2 bC) (.cons fm (.cons cR .nil)))))),[8],[],[],[.row 2,.row 1,.row 2,.keep,.lp .open_,.tok 3 2 100],[]⟩ [(.ex 0,⟨(.cons fm (.cons cR (.cons (.own 5 2 bC) (.cons fm (.cons cR .nil))))),[],[],[],[.row 2,.row 1,.row 2,.keep,.lp .open_,.tok 2 2 100],[]⟩)]),
 (1638,.loop [] ⟨(.ci (.cons fm (.cons cR (.cons (.own 5 2 bC) (.cons fm (.cons cR .nil)))))),[18],[],[],[.row 2,.row 1,.row 2,.keep,.lp .open_,.tok 3 2 100],[]⟩ [(.ex 2,⟨(.cons fm (.cons cR (.cons (.own 5 2 bC) (.cons fm (.cons cR .nil))))),[],[],[],[.row 2,.row 1,.row 2,.keep,.lp .open_,.tok 2 2 100],[]⟩)])]
def XX (N:Nat):dN→Option (aw):=(cx N [(135,We N)] [(99,c99),(117,Ro)]).fn 1000 99 (.cons cM .nil) bO
def e99 (N:Nat):bK:=⟨(.cons cM .nil),bO,XX N⟩
theorem N6 (N:Nat):aI bU 99 (e99 N):=jT.dT (ks (JV N) EI) (by kernel_rfl) (by kernel_rfl)
def adC (N:Nat):dN × cp × cp→Option (cp):=(cx N [] []).fn 1000 136 (.cons cM (.cons bC (.cons bC .nil))) bC
def ZT (N:Nat):bK:=⟨(.cons cM (.cons bC (.cons bC .nil))),bC,adC N⟩
theorem Rp (N:Nat):aI bU 136 (ZT N):=jT.dT (fun _ _ h=>by cases h) (by kernel_rfl) (by kernel_rfl)
def adD:List (Nat × dY):=[(6,.loop [] ⟨(.ci (.ci (.ci (.ci (.ci (.ci .nil)))))),[],[],[(4,2),(5,2),(6,2)],[],[]⟩ [(.ret,⟨(.cons .bool (.ci (.ci (.ci (.ci (.ci (.ci .nil))))))),[7],[],[(4,2),(5,2),(6,2)],[],[]⟩)]),
 (1594,.loop [] ⟨(.ci (.ci (.ci .nil))),[37],[],[(5,2)],[],[]⟩ [(.ex 2,⟨(.ci (.ci .nil)),[],[],[(5,2)],[],[]⟩)]),
 (102040,.join [(.norm,⟨(.ci (.ci (.ci (.ci .nil)))),[],[],[(12,4)],[],[(12,12,0)]⟩)]),
 (408164,.join [(.norm,⟨(.cons .bool .nil),[53],[],[],[],[]⟩)]),
 (408166,.join [(.norm,⟨(.cons .bool .nil),[69],[],[],[],[]⟩)])]
def adE (N:Nat):dN × cp × cp→Option (cp × Bool):=(cx N [(114,QS N),(135,We N),(136,ZT N)] [(101,adD)]).fn 1000 101 (.cons cM (.cons bC (.cons bC .nil))) (.bP (.cons bC (.cons .bool .nil)))
def ZU (N:Nat):bK:=⟨(.cons cM (.cons bC (.cons bC .nil))),(.bP (.cons bC (.cons .bool .nil))),adE N⟩
theorem Rq (N:Nat):aI bU 101 (ZU N):=jT.dT (ks (JJ N) (ks (JV N) (ks (Rp N) EI))) (by kernel_rfl) (by kernel_rfl)
def c57:List (Nat × dY):=[(442,.loop [(.slot 4,1,37)] ⟨(.cons (.own 1 1 bO) (.ci (.cons C2 .nil))),[4,15],[],[],[.map,.tok 0 1 37],[]⟩ [(.ex 0,⟨(.cons (.own 1 1 bO) (.cons C2 .nil)),[4],[],[],[.map,.tok 0 1 37],[]⟩)]),
 (7078,.join [(.norm,⟨(.cons (.own 1 1 bO) (.cons C2 .nil)),[4],[],[],[.map,.tok 0 1 37],[]⟩)]),
 (453022,.loop [(.slot 7,2,100)] ⟨(.cons (.own 1 1 bO) (.cons (.own 2 2 bC) (.cons .bool (.ci (.ci (.cons C2 .nil)))))),[4,7,9],[],[(8,2)],[.map,.tok 0 1 37,.tok 1 2 100],[]⟩ [(.ex 1,⟨(.cons (.own 1 1 bO) (.ci (.ci (.cons C2 .nil)))),[4],[],[(8,2)],[.map,.tok 0 1 37,.dead],[]⟩)]),
 (57986845,.join [(.norm,⟨(.cons (.own 1 1 bO) (.cons (.own 2 2 bC) (.ci (.ci (.cons C2 .nil))))),[4,7],[],[(10,2)],[.map,.tok 0 1 37,.tok 1 2 100],[]⟩)])]
def XY (N:Nat):dN→Option (lU):=(cx N [(99,e99 N),(100,VK N),(101,ZU N)] [(57,c57)]).fn 1000 57 (.cons cM .nil) rZ
def e57 (N:Nat):bK:=⟨(.cons cM .nil),rZ,XY N⟩
theorem Wf (N:Nat):aI bU 57 (e57 N):=jT.dT (ks (N6 N) (ks (JI N) (ks (Rq N) EI))) (by kernel_rfl) (by kernel_rfl)
def c60:List (Nat × dY):=[(122,.loop [] ⟨(.ci (.ci .nil)),[3,4],[],[],[],[]⟩ [(.ex 0,⟨(.ci .nil),[3],[],[],[],[]⟩)])]
def ZV (N:Nat):aM→Option Int:=(cx N [] [(60,c60)]).fn 1000 60 (.cons bF .nil) (.int .i64)
def e60 (N:Nat):bK:=⟨(.cons bF .nil),(.int .i64),ZV N⟩
theorem Wg (N:Nat):aI bU 60 (e60 N):=jT.dT (fun _ _ h=>by cases h) (by kernel_rfl) (by kernel_rfl)
end
end Go.Proofs.YtegoimldbgdeiaaGreat
