/- What functions compute. -/
import Derived.Test.YtegoimldbgdeiaaGreatTrzR
import Derived.Test.YtegoimldbgdeiaaGreatSeamKC
set_option linter.all false
namespace Go.Proofs.YtegoimldbgdeiaaGreat
open Go Go.Am
open List (map)
open Int (toNat)
open Go.IntKind (wrap)
open Go.Am.aM (fits)
set_option maxRecDepth 100000
noncomputable section
def c24:List (Nat × eZ):=[(58,.loop [] ⟨(.ci .nil),[5],[],[],[],[]⟩ [(.ret,⟨(.cons .bool .nil),[4],[],[],[],[]⟩),(.ex 0,⟨.nil,[],[],[],[],[]⟩)])]
def T24 (N:Nat):bI × bI→Option Bool:=(cx N [(26,e26 N)] [(24,c24)]).fn 1000 24 (.cons fa (.cons fa .nil)) .bool
def e24 (N:Nat):bH:=⟨(.cons fa (.cons fa .nil)),.bool,T24 N⟩
theorem adG (N:Nat):aJ cm 24 (e24 N):=km.dP (ld (TF N) D2) (by kernel_rfl) (by kernel_rfl)
def EY (N:Nat) (a0:List aG) (a1:List aG) (v1:Int):Option (Int ⊕ (Bool ⊕ Unit)):=
 (bif (decide (v1 < (((bX a0).length:Nat):Int))) then bif (decide ((0:Int)≤v1∧v1 < ((bX a0).length:Int))&&fits kH (af (bX a0) (toNat v1))) then bif (decide ((0:Int)≤v1∧v1 < ((bX a1).length:Int))&&fits kH (af (bX a1) (toNat v1))) then ((bif (F3 (d59 (af (bX a0) (toNat v1)))&&(F3 (d59 (af (bX a1) (toNat v1)))&&true)) then some ((K3 (d59 (af (bX a0) (toNat v1)))),(K3 (d59 (af (bX a1) (toNat v1))))) else none).bind fun x3=>(T26 N x3).bind fun y2=>(bif (!y2) then (some (Sum.inr (Sum.inl false))) else (some (Sum.inl (wrap .i64 (v1+1)))))) else none else none else (some (Sum.inr (Sum.inr ()))))
theorem adH (N:Nat) (a0:List aG) (a1:List aG):T24 N (a0,a1) =
 (bif ((((bX a0).length:Nat):Int) != (((bX a1).length:Nat):Int)) then some false else ((aA (EY N a0 a1) N 0).bind fun o8=>(Sum.elim (fun o9=>some o9) (fun F9=>some true) o8))):=by kernel_rfl
def c4:List (Nat × eZ):=[(12,.join [(.norm,⟨(.cons .bool .nil),[16],[],[],[],[]⟩)]),
 (510,.join [(.norm,⟨(.cons .bool .nil),[2],[],[],[],[]⟩)]),
 (2036,.join [(.norm,⟨(.cons .bool .nil),[2],[],[],[],[]⟩)])]
def T4 (N:Nat):eV→Option Bool:=(cx N [(8,e8 N),(9,e9 N),(11,e11 N),(14,e14 N),(21,e21 N),(22,e22 N),(23,e23 N),(24,e24 N),(25,e25 N),(26,e26 N),(27,e27 N),(28,e28 N)] [(4,c4)]).fn 1000 4 (.cons dI .nil) .bool
def e4 (N:Nat):bH:=⟨(.cons dI .nil),.bool,T4 N⟩
theorem ag3 (N:Nat):aJ cm 4 (e4 N):=km.dP (ld (agl N) (ld (agr N) (ld (acK N) (ld (acF N) (ld (adb N) (ld (ab1 N) (ld (ab3 N) (ld (adG N) (ld (TG N) (ld (TF N) (ld (TE N) (ld (ac9 N) D2)))))))))))) (by kernel_rfl) (by kernel_rfl)
theorem ag4 (N:Nat) (a0:aW × a7):T4 N a0 =
 (((T8 N ()).bind fun y1=>(bif (!y1) then (some true) else ((bif ((Cl a0.1&&(En a0.2&&true))&&true) then some (((Cm a0.1),(Eo a0.2)),4) else none:Option (eV × Int)).bind fun x3=>(T9 N x3).bind fun y2=>(some (!y2)))):Option Bool).bind fun o4=>(bif o4 then (T8 N ()).bind fun y5=>some y5 else ((bif ((Cl a0.1&&(En a0.2&&true))&&true) then some ((Cm a0.1),(Eo a0.2)) else none).bind fun x7=>(T11 N x7).bind fun y6=>((bif ((cY y6.1&&(dD y6.2&&true))&&true) then some ((cU y6.1),(dq y6.2)) else none).bind fun x9=>(TH N x9).bind fun y8=>((bif ((Cl a0.1&&(En a0.2&&true))&&true) then some ((Cm a0.1),(Eo a0.2)) else none).bind fun x11=>(T11 N x11).bind fun y10=>((bif ((cY y10.1&&(dD y10.2&&true))&&true) then some ((cU y10.1),(dq y10.2)) else none).bind fun x13=>(Tc N x13).bind fun TC=>((bif ((Cl a0.1&&(En a0.2&&true))&&true) then some ((Cm a0.1),(Eo a0.2)) else none).bind fun x15=>(T11 N x15).bind fun y14=>((bif ((cY y14.1&&(dD y14.2&&true))&&true) then some ((cU y14.1),(dq y14.2)) else none).bind fun x17=>(Tg N x17).bind fun BC=>((bif ((Cl a0.1&&(En a0.2&&true))&&true) then some ((Cm a0.1),(Eo a0.2)) else none).bind fun x19=>(T14 N x19).bind fun y18=>(bif (y18 != 0) then (((bif ((((bX y8.1).length:Nat):Int) == 0) then (bif (y8.2 == y18) then (bif ((((L3 TC.1).length:Nat):Int) == 0) then (bif (TC.2 == y18) then (bif ((BC.1.1 == 0)&&((BC.1.2.1 == 0)&&((BC.1.2.2.1 == 0)&&((BC.1.2.2.2.1 == 0)&&((BC.1.2.2.2.2.1 == 0)&&((BC.1.2.2.2.2.2 == 0)&&true)))))) then (some (BC.2 == y18)) else (some false)) else (some false)) else (some false)) else (some false)) else (some false)):Option Bool).bind fun tY=>some tY) else (((bif (y8.2 == 0) then ((bif ((Cl a0.1&&(En a0.2&&true))&&true) then some ((Cm a0.1),(Eo a0.2)) else none).bind fun x22=>(Zw N x22).bind fun OC=>((bif (Nb y8.1&&(Nb OC&&true)) then some ((Nc y8.1),(Nc OC)) else none).bind fun x24=>(T24 N x24).bind fun S8=>(bif S8 then (bif (TC.2 == 0) then ((bif ((Cl a0.1&&(En a0.2&&true))&&true) then some ((Cm a0.1),(Eo a0.2)) else none).bind fun x26=>(Zv N x26).bind fun y25=>((bif (F3 TC.1&&(F3 y25&&true)) then some ((K3 TC.1),(K3 y25)) else none).bind fun x28=>(T26 N x28).bind fun y27=>(bif y27 then (bif (BC.2 == 0) then ((bif ((Cl a0.1&&(En a0.2&&true))&&true) then some ((Cm a0.1),(Eo a0.2)) else none).bind fun x30=>(T28 N x30).bind fun y29=>bif (((BC.1.1 == BC.1.1)&&((BC.1.2.1 == BC.1.2.1)&&((BC.1.2.2.1 == BC.1.2.2.1)&&((BC.1.2.2.2.1 == BC.1.2.2.2.1)&&((BC.1.2.2.2.2.1 == BC.1.2.2.2.2.1)&&((BC.1.2.2.2.2.2 == BC.1.2.2.2.2.2)&&true))))))&&true) then (some ((BC.1.1 == y29.1)&&((BC.1.2.1 == y29.2.1)&&((BC.1.2.2.1 == y29.2.2.1)&&((BC.1.2.2.2.1 == y29.2.2.2.1)&&((BC.1.2.2.2.2.1 == y29.2.2.2.2.1)&&((BC.1.2.2.2.2.2 == y29.2.2.2.2.2)&&true))))))) else none) else (some false)) else (some false)))) else (some false)) else (some false)))) else (some false)):Option Bool).bind fun Ci=>some Ci))))))))))):=by kernel_rfl
end
end Go.Proofs.YtegoimldbgdeiaaGreat
