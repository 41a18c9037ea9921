/- What functions compute. -/
import Derived.Test.YtldcljfjjoidhaaGreatDoorBraMm
import Derived.Test.YtldcljfjjoidhaaGreatDoorBraMu
set_option linter.all false
namespace Go.Proofs.YtldcljfjjoidhaaGreatDoor
open Go Go.Am
open List (map)
open Int (toNat)
open Go.IntKind (wrap)
open Go.Am.aP (fits)
set_option maxRecDepth 100000
noncomputable section
def c4:List (Nat × cA):=[(12,.join [(.norm,⟨(.cons .bool .nil),[28],[],[],[],[]⟩)]),
 (4093,.join [(.norm,⟨(.ci (.ci (.ci (.ci .nil)))),[],[],[(16,4)],[],[]⟩)]),
 (8189,.join [(.norm,⟨(.cons .str .nil),[17],[],[],[],[]⟩)]),
 (16382,.join [(.norm,⟨(.cons .bool .nil),[6],[],[],[],[]⟩)])]
def T4 (m:Int) (N:Nat):dQ × (List UInt8) × XA→Option Bool:=(cxN m N [(14,e14 N),(26,e26 N),(27,e27 N),(28,e28 N),(29,acu m N),(30,e30 m N),(31,e31 N),(32,e32 N),(33,e33 N),(34,e34 N),(35,e35 N),(36,e36 N),(37,e37 N),(38,e38 N)] [(4,c4)]).fn 1000 4 (.cons CY (.cons .str (.cons cZ .nil))) .bool
def e4 (m:Int) (N:Nat):aD:=⟨(.cons CY (.cons .str (.cons cZ .nil))),.bool,T4 m N⟩
theorem acP (m:Int) (N:Nat):ai (oZ m) 4 (e4 m N):=eB.bk (dI (W7 m N) (dI (ai.Di (Xh N)) (dI (ai.Di (Yc N)) (dI (ai.Di (XM N)) (dI (TE m N) (dI (Yo m N) (dI (ai.Di (XJ N)) (dI (ai.Di (NQ N)) (dI (ai.Di (NR N)) (dI (ai.Di (Yf N)) (dI (ai.Di (Yh N)) (dI (ai.Di (Yj N)) (dI (ai.Di (XQ N)) (dI (ai.Di (XO N)) ng)))))))))))))) (by kernel_rfl) (by kernel_rfl)
theorem acQ (m:Int) (N:Nat) (a0:List XC) (a1:List UInt8) (a2:Int × Int):T4 m N (a0,a1,a2) =
 ((((bif (Bz a0&&true) then some ((BA a0),7) else none:Option (dQ × Int)).bind fun x2=>(T26 N x2).bind fun y1=>(bif (!y1) then (some true) else (some (decide ((((a1).length:Nat):Int) > 400))))):Option Bool).bind fun o3=>(bif o3 then (T14 N ()).bind fun y4=>some y4 else ((bif (Bz a0&&true) then some (BA a0) else none).bind fun x6=>(T28 N x6).bind fun y5=>bif ((a2.2 == a2.2)&&((a2.1 == a2.1)&&true)) then ((bif (Dj y5&&true) then some ((Dk y5),a2.1,a2.2) else none).bind fun x8=>(T27 N x8).bind fun y7=>((bif (Bz a0&&true) then some (BA a0) else none).bind fun x10=>(T28 N x10).bind fun y9=>((bif (Dj y9&&true) then some (Dk y9) else none).bind fun x12=>(Yr m N x12).bind fun Zl=>(T30 m N a1).bind fun Zk=>((bif (Bz a0&&true) then some (BA a0) else none).bind fun S9=>(T31 N S9).bind fun Of=>(Zf N (a2.1,1,100)).bind fun y16=>bif ((a2.2 == a2.2)&&true) then (Zf N (a2.2,0,100)).bind fun y17=>((bif (allFit (fits p3) [(AV.int .i64 Of),(AV.int .i64 y16),(AV.int .i64 y17)]&&true) then some (map gP [(AV.int .i64 Of),(AV.int .i64 y16),(AV.int .i64 y17)]) else none).bind fun x19=>(Ze N x19).bind fun y18=>(((bif (y18 == 0) then ((bif (Bz a0&&true) then some ((BA a0),a2.1,a2.2) else none).bind fun x21=>(T34 N x21).bind fun y20=>(some (y20.1,y20.2.1,y20.2.2.1,y20.2.2.2))) else (some (0,0,0,0))):Option ((Int × Int × Int × Int))).bind fun lg=>(((bif (Of == 0) then ((bif (Bz a0&&true) then some (BA a0) else none).bind fun x24=>(T35 N x24).bind fun y23=>(some y23)) else (some ([]:List UInt8))):Option ((List UInt8))).bind fun o25=>(T36 N a1).bind fun y26=>(((bif ((y7.1.1 == lg.1)&&((y7.1.2.1 == lg.2.1)&&((y7.1.2.2.1 == lg.2.2.1)&&((y7.1.2.2.2 == lg.2.2.2)&&true)))) then (bif (y7.2 == y18) then (bif (Zl.1 == o25) then (bif (Zl.2 == Of) then ((bif (Dj Zk.1&&true) then some (Dk Zk.1) else none).bind fun x28=>(T38 N x28).bind fun y27=>((bif (Bz y27&&(Bz y26.1&&true)) then some ((BA y27),(BA y26.1)) else none).bind fun x30=>(T37 N x30).bind fun y29=>(bif y29 then (bif (Zk.2.1 == y26.2.1) then (bif (Zk.2.2 == y26.2.2) then (T14 N ()).bind fun y31=>(some y31) else (some false)) else (some false)) else (some false)))) else (some false)) else (some false)) else (some false)) else (some false)):Option Bool).bind fun o32=>some o32)))) else none)))) else none))):=by kernel_rfl
end
end Go.Proofs.YtldcljfjjoidhaaGreatDoor
