/- What the functions compute (printed by a program of ours,checked by the kernel). -/
import Derived.Test.YtophnjjjmikmeaaGreatOttT
set_option linter.all false
namespace Go.Proofs.YtophnjjjmikmeaaGreat
open Go Go.Am
set_option maxRecDepth 100000
abbrev p3:aq:=(.int .i64)
abbrev d3 (v:AV):Int:=aq.bc p3 v
abbrev n3 (x:Int):AV:=aq.enc p3 x
noncomputable def TJ (N:Nat):(Int × Int × Int)→Option ((Int × Int × Int × Int)):=(cx N [] []).fn 1000 73 (.cons (.agg (.cons (.int .i64) (.cons (.int .i64) (.cons (.int .i64) .nil)))) .nil) (.agg (.cons (.int .i64) (.cons (.int .i64) (.cons (.int .i64) (.cons (.int .i64) .nil)))))
noncomputable def Xt (N:Nat):a8:=⟨(.cons (.agg (.cons (.int .i64) (.cons (.int .i64) (.cons (.int .i64) .nil)))) .nil),(.agg (.cons (.int .i64) (.cons (.int .i64) (.cons (.int .i64) (.cons (.int .i64) .nil))))),TJ N⟩
theorem O1 (N:Nat):ax cE 73 (Xt N):=fP.bU (fun _ _ h=>by cases h) (by kernel_rfl) (by kernel_rfl)
theorem O2 (N:Nat) (a0:Int × Int × Int):TJ N a0 =
 some (a0.1,a0.2.1,(IntKind.wrap .i64 (a0.1+a0.2.2)),(IntKind.wrap .i64 (a0.2.1+1))):=by kernel_rfl
def Zk:List (Nat × dR):=[(12,.join [(.norm,⟨(.cons (.int .i64) .nil),[3],[],[],[],[]⟩)])]
noncomputable def O3 (N:Nat):(Int × Int × Int)→Option Int:=(cx N [(40,Le N),(41,Sc N),(45,QA N),(46,Tx N),(73,Xt N)] [(53,Zk)]).fn 1000 53 (.cons (.agg (.cons (.int .i64) (.cons (.int .i64) (.cons (.int .i64) .nil)))) .nil) (.int .i64)
noncomputable def VR (N:Nat):a8:=⟨(.cons (.agg (.cons (.int .i64) (.cons (.int .i64) (.cons (.int .i64) .nil)))) .nil),(.int .i64),O3 N⟩
theorem IA (N:Nat):ax cE 53 (VR N):=fP.bU (bD (by intro a e h; simp only [List.mem_cons,Prod.mk.injEq,List.not_mem_nil,or_false] at h; rcases h with ⟨rfl,rfl⟩ | ⟨rfl,rfl⟩ | ⟨rfl,rfl⟩ | ⟨rfl,rfl⟩ | ⟨rfl,rfl⟩; exact ni N; exact zT N; exact vZ N; exact Dz N; exact O1 N)) (by kernel_rfl) (by kernel_rfl)
theorem O4 (N:Nat) (a0:Int × Int × Int):O3 N a0 =
 (((MB N (a0.1,a0.2.1)).bind fun y1=>bif ((a0.2.2 == a0.2.2)&&true) then (bif (a0.2.2 != (-1)) then (Ir N ((a0.2.2 != 1),13)).bind fun y2=>((bif (allFit (aq.fits qW) [(AV.int .i64 y1),(AV.int .i64 y2)]&&true) then some (List.map d30 [(AV.int .i64 y1),(AV.int .i64 y2)]) else none:Option ((List Int))).bind fun x4=>(wN N x4).bind fun y3=>(some y3)) else (Ir N (false,13)).bind fun y5=>((bif (allFit (aq.fits qW) [(AV.int .i64 y1),(AV.int .i64 y5)]&&true) then some (List.map d30 [(AV.int .i64 y1),(AV.int .i64 y5)]) else none:Option ((List Int))).bind fun x7=>(wN N x7).bind fun y6=>(some y6))) else none:Option Int).bind fun o8=>(bif (o8 != 0) then some o8 else (TJ N (a0.1,a0.2.1,a0.2.2)).bind fun y9=>(MA N (y9.2.2.1,y9.2.2.2)).bind fun Zl=>some Zl)):=by kernel_rfl
noncomputable def Li (N:Nat):Int→Option Bool:=(cx N [] []).fn 1000 100 (.cons (.int .i64) .nil) .bool
noncomputable def Su (N:Nat):a8:=⟨(.cons (.int .i64) .nil),.bool,Li N⟩
theorem Lj (N:Nat):ax cE 100 (Su N):=fP.bU (fun _ _ h=>by cases h) (by kernel_rfl) (by kernel_rfl)
theorem Lk (N:Nat) (a0:Int):Li N a0 =
 some (a0 != a0):=by kernel_rfl
noncomputable def QB (N:Nat):Int × Int→Option Int:=(cx N [(100,Su N)] []).fn 1000 77 (.cons (.int .i64) (.cons (.int .i64) .nil)) (.int .i64)
noncomputable def Xu (N:Nat):a8:=⟨(.cons (.int .i64) (.cons (.int .i64) .nil)),(.int .i64),QB N⟩
theorem O5 (N:Nat):ax cE 77 (Xu N):=fP.bU (bD (by intro a e h; simp only [List.mem_cons,Prod.mk.injEq,List.not_mem_nil,or_false] at h; rcases h with ⟨rfl,rfl⟩; exact Lj N)) (by kernel_rfl) (by kernel_rfl)
theorem O6 (N:Nat) (a0:Int) (a1:Int):QB N (a0,a1) =
 (Li N a0).bind fun y1=>(Li N a1).bind fun y2=>(bif y1 then (bif y2 then some 0 else some (-1)) else (bif y2 then some 1 else (bif (decide (a0 < a1)) then some (-1) else (bif (decide (a0 > a1)) then some 1 else some 0)))):=by kernel_rfl
def Zm:List (Nat × dR):=[(58,.loop [] ⟨(.cons (.int .i64) .nil),[8],[],[],[],[]⟩ [(.ret,⟨(.cons (.int .i64) .nil),[2],[],[],[],[]⟩),(.ex 0,⟨.nil,[],[],[],[],[]⟩)])]
noncomputable def TL (N:Nat):(List Int)→Option Int:=(cx N [] [(76,Zm)]).fn 1000 76 (.cons (.list 1 (.int .i64)) .nil) (.int .i64)
noncomputable def Xv (N:Nat):a8:=⟨(.cons (.list 1 (.int .i64)) .nil),(.int .i64),TL N⟩
theorem O7 (N:Nat):ax cE 76 (Xv N):=fP.bU (fun _ _ h=>by cases h) (by kernel_rfl) (by kernel_rfl)
noncomputable def zW (N:Nat) (a0:List Int) (v1:Int):Option (Int ⊕ (Int ⊕ Unit)):=
 (bif (decide (v1 < ((((List.map n3 a0)).length:Nat):Int))) then bif (decide ((0:Int)≤v1∧v1 < (((List.map n3 a0)).length:Int))&&aq.fits p3 (av (List.map n3 a0) (Int.toNat v1))) then (bif ((d3 (av (List.map n3 a0) (Int.toNat v1))) != 0) then (some (Sum.inr (Sum.inl (d3 (av (List.map n3 a0) (Int.toNat v1)))))) else (some (Sum.inl (IntKind.wrap .i64 (v1+1))))) else none else (some (Sum.inr (Sum.inr ()))))
theorem O8 (N:Nat) (a0:List Int):TL N a0 =
 ((a6 (V:=Int) (X:=Int ⊕ Unit) (zW N a0) N 0).bind fun o6=>(Sum.elim (fun o7=>some o7) (fun o8=>some 0) o6)):=by kernel_rfl
noncomputable def FP (N:Nat):(Int × Int × Int) × (Int × Int × Int)→Option Int:=(cx N [(76,Xv N),(77,Xu N)] []).fn 1000 72 (.cons (.agg (.cons (.int .i64) (.cons (.int .i64) (.cons (.int .i64) .nil)))) (.cons (.agg (.cons (.int .i64) (.cons (.int .i64) (.cons (.int .i64) .nil)))) .nil)) (.int .i64)
noncomputable def Sv (N:Nat):a8:=⟨(.cons (.agg (.cons (.int .i64) (.cons (.int .i64) (.cons (.int .i64) .nil)))) (.cons (.agg (.cons (.int .i64) (.cons (.int .i64) (.cons (.int .i64) .nil)))) .nil)),(.int .i64),FP N⟩
theorem zX (N:Nat):ax cE 72 (Sv N):=fP.bU (bD (by intro a e h; simp only [List.mem_cons,Prod.mk.injEq,List.not_mem_nil,or_false] at h; rcases h with ⟨rfl,rfl⟩ | ⟨rfl,rfl⟩; exact O7 N; exact O5 N)) (by kernel_rfl) (by kernel_rfl)
theorem O9 (N:Nat) (a0:Int × Int × Int) (a1:Int × Int × Int):FP N (a0,a1) =
 (QB N (a0.2.1,a1.2.1)).bind fun y1=>bif ((a1.2.2 == a1.2.2)&&((a0.2.2 == a0.2.2)&&((a1.1 == a1.1)&&((a0.1 == a0.1)&&true)))) then (QB N (a0.1,a1.1)).bind fun y2=>bif ((a1.2.2 == a1.2.2)&&((a0.2.2 == a0.2.2)&&true)) then (QB N (a0.2.2,a1.2.2)).bind fun y3=>((bif (allFit (aq.fits p3) [(AV.int .i64 y1),(AV.int .i64 y2),(AV.int .i64 y3)]&&true) then some (List.map d3 [(AV.int .i64 y1),(AV.int .i64 y2),(AV.int .i64 y3)]) else none:Option ((List Int))).bind fun x5=>(TL N x5).bind fun y4=>some y4) else none else none:=by kernel_rfl
def Zn:List (Nat × dR):=[(58,.loop [] ⟨(.cons (.int .i64) .nil),[11],[],[],[],[]⟩ [(.ret,⟨(.cons (.int .i64) .nil),[2],[],[],[],[]⟩),(.ex 0,⟨.nil,[],[],[],[],[]⟩)]),
 (7474,.join [(.norm,⟨(.cons (.int .i64) .nil),[5],[],[],[],[]⟩)])]
noncomputable def Js (N:Nat):(List (Int × Int × Int))→Option Int:=(cx N [(40,Le N),(45,QA N),(53,VR N),(72,Sv N)] [(33,Zn)]).fn 1000 33 (.cons (.list 3 (.agg (.cons (.int .i64) (.cons (.int .i64) (.cons (.int .i64) .nil))))) .nil) (.int .i64)
noncomputable def Sw (N:Nat):a8:=⟨(.cons (.list 3 (.agg (.cons (.int .i64) (.cons (.int .i64) (.cons (.int .i64) .nil))))) .nil),(.int .i64),Js N⟩
theorem wh (N:Nat):ax cE 33 (Sw N):=fP.bU (bD (by intro a e h; simp only [List.mem_cons,Prod.mk.injEq,List.not_mem_nil,or_false] at h; rcases h with ⟨rfl,rfl⟩ | ⟨rfl,rfl⟩ | ⟨rfl,rfl⟩ | ⟨rfl,rfl⟩; exact ni N; exact vZ N; exact IA N; exact zX N)) (by kernel_rfl) (by kernel_rfl)
noncomputable def wj (N:Nat) (a0:List (Int × Int × Int)) (v1:Int):Option (Int ⊕ (Int ⊕ Unit)):=
 (bif (decide (v1 < ((((List.map n59 a0)).length:Nat):Int))) then bif (decide ((0:Int)≤v1∧v1 < (((List.map n59 a0)).length:Int))&&aq.fits b6 (av (List.map n59 a0) (Int.toNat v1))) then (((O3 N ((d59 (av (List.map n59 a0) (Int.toNat v1))).1,(d59 (av (List.map n59 a0) (Int.toNat v1))).2.1,(d59 (av (List.map n59 a0) (Int.toNat v1))).2.2)).bind fun y2=>(bif (decide (v1 > 0)) then bif (decide ((0:Int)≤(if (IntKind.wrap .i64 (v1 - 1)) > 0 then (IntKind.wrap .i64 (v1 - 1)) else 0)∧(if (IntKind.wrap .i64 (v1 - 1)) > 0 then (IntKind.wrap .i64 (v1 - 1)) else 0) < (((List.map n59 a0)).length:Int))&&aq.fits b6 (av (List.map n59 a0) (Int.toNat (if (IntKind.wrap .i64 (v1 - 1)) > 0 then (IntKind.wrap .i64 (v1 - 1)) else 0)))) then (FP N (((d59 (av (List.map n59 a0) (Int.toNat (if (IntKind.wrap .i64 (v1 - 1)) > 0 then (IntKind.wrap .i64 (v1 - 1)) else 0)))).1,(d59 (av (List.map n59 a0) (Int.toNat (if (IntKind.wrap .i64 (v1 - 1)) > 0 then (IntKind.wrap .i64 (v1 - 1)) else 0)))).2.1,(d59 (av (List.map n59 a0) (Int.toNat (if (IntKind.wrap .i64 (v1 - 1)) > 0 then (IntKind.wrap .i64 (v1 - 1)) else 0)))).2.2),((d59 (av (List.map n59 a0) (Int.toNat v1))).1,(d59 (av (List.map n59 a0) (Int.toNat v1))).2.1,(d59 (av (List.map n59 a0) (Int.toNat v1))).2.2))).bind fun y3=>(Ir N ((decide (y3≥0)),11)).bind fun y4=>((bif (allFit (aq.fits qW) [(AV.int .i64 y2),(AV.int .i64 y4)]&&true) then some (List.map d30 [(AV.int .i64 y2),(AV.int .i64 y4)]) else none:Option ((List Int))).bind fun x6=>(wN N x6).bind fun y5=>(some y5)) else none else (Ir N (false,11)).bind fun y7=>((bif (allFit (aq.fits qW) [(AV.int .i64 y2),(AV.int .i64 y7)]&&true) then some (List.map d30 [(AV.int .i64 y2),(AV.int .i64 y7)]) else none:Option ((List Int))).bind fun x9=>(wN N x9).bind fun y8=>(some y8))):Option Int).bind fun Qu=>(bif (Qu != 0) then (some (Sum.inr (Sum.inl Qu))) else (some (Sum.inl (IntKind.wrap .i64 (v1+1)))))) else none else (some (Sum.inr (Sum.inr ()))))
theorem Pa (N:Nat) (a0:List (Int × Int × Int)):Js N a0 =
 (bif (decide (((((List.map n59 a0)).length:Nat):Int) > 4096)) then some 5 else ((a6 (V:=Int) (X:=Int ⊕ Unit) (wj N a0) N 0).bind fun gV=>(Sum.elim (fun qA=>some qA) (fun Xh=>some 0) gV))):=by kernel_rfl
end Go.Proofs.YtophnjjjmikmeaaGreat
