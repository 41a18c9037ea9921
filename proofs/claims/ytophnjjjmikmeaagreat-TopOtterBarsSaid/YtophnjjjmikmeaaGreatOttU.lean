/- What the functions compute (printed by a program of ours,checked by the kernel). -/
import Derived.Test.YtophnjjjmikmeaaGreatOttT
set_option linter.all false
namespace Go.Proofs.YtophnjjjmikmeaaGreat
open Go Go.Am
set_option maxRecDepth 100000
abbrev p3:aj:=(.int .i64)
abbrev d3 (v:AV):Int:=aj.bh p3 v
abbrev n3 (x:Int):AV:=aj.enc p3 x
theorem Zg (x:Int):aj.fits p3 (n3 x)=true:=(aj.bU p3 x rfl).1
theorem Zh (x:Int):d3 (n3 x)=x:=(aj.bU p3 x rfl).2
noncomputable def GK (N:Nat):(Int × Int × Int)→Option ((Int × Int × Int × Int)):=(cx N [] []).fn 1000 73 (.cons (.agg (.cons (.int .i64) (.cons (.int .i64) (.cons (.int .i64) .nil)))) .nil) (.agg (.cons (.int .i64) (.cons (.int .i64) (.cons (.int .i64) (.cons (.int .i64) .nil)))))
noncomputable def Sf (N:Nat):bl:=⟨(.cons (.agg (.cons (.int .i64) (.cons (.int .i64) (.cons (.int .i64) .nil)))) .nil),(.agg (.cons (.int .i64) (.cons (.int .i64) (.cons (.int .i64) (.cons (.int .i64) .nil))))),GK N⟩
theorem sS (N:Nat):av cn 73 (Sf N):=gn.cj (fun _ _ h=>by cases h) (by kernel_rfl) (by kernel_rfl)
theorem Bu (N:Nat) (a0:Int × Int × Int):GK N a0 =
 some (a0.1,a0.2.1,(IntKind.wrap .i64 (a0.1+a0.2.2)),(IntKind.wrap .i64 (a0.2.1+1))):=by kernel_rfl
def c53:List (Nat × dL):=[(12,.join [(.norm,⟨(.cons (.int .i64) .nil),[3],[],[],[],[]⟩)])]
noncomputable def VG (N:Nat):(Int × Int × Int)→Option Int:=(cx N [(40,Rw N),(41,Vq N),(45,Vo N),(46,WX N),(73,Sf N)] [(53,c53)]).fn 1000 53 (.cons (.agg (.cons (.int .i64) (.cons (.int .i64) (.cons (.int .i64) .nil)))) .nil) (.int .i64)
noncomputable def e53 (N:Nat):bl:=⟨(.cons (.agg (.cons (.int .i64) (.cons (.int .i64) (.cons (.int .i64) .nil)))) .nil),(.int .i64),VG N⟩
theorem Sg (N:Nat):av cn 53 (e53 N):=gn.cj (bN (by intro a e h; simp only [List.mem_cons,Prod.mk.injEq,List.not_mem_nil,or_false] at h; rcases h with ⟨rfl,rfl⟩ | ⟨rfl,rfl⟩ | ⟨rfl,rfl⟩ | ⟨rfl,rfl⟩ | ⟨rfl,rfl⟩; exact sR N; exact Br N; exact Bp N; exact FB N; exact sS N)) (by kernel_rfl) (by kernel_rfl)
theorem Sh (N:Nat) (a0:Int × Int × Int):VG N a0 =
 (((N3 N (a0.1,a0.2.1)).bind fun y1=>bif ((a0.2.2 == a0.2.2)&&true) then (bif (a0.2.2 != (-1)) then (Mc N ((a0.2.2 != 1),13)).bind fun y2=>((bif (allFit (aj.fits u0) [(AV.int .i64 y1),(AV.int .i64 y2)]&&true) then some (List.map d30 [(AV.int .i64 y1),(AV.int .i64 y2)]) else none:Option ((List Int))).bind fun x4=>(DJ N x4).bind fun y3=>(some y3)) else (Mc N (false,13)).bind fun y5=>((bif (allFit (aj.fits u0) [(AV.int .i64 y1),(AV.int .i64 y5)]&&true) then some (List.map d30 [(AV.int .i64 y1),(AV.int .i64 y5)]) else none:Option ((List Int))).bind fun x7=>(DJ N x7).bind fun y6=>(some y6))) else none:Option Int).bind fun o8=>(bif (o8 != 0) then some o8 else (GK N (a0.1,a0.2.1,a0.2.2)).bind fun y9=>(N2 N (y9.2.2.1,y9.2.2.2)).bind fun y10=>some y10)):=by kernel_rfl
noncomputable def N7 (N:Nat):Int→Option Bool:=(cx N [] []).fn 1000 100 (.cons (.int .i64) .nil) .bool
noncomputable def VH (N:Nat):bl:=⟨(.cons (.int .i64) .nil),.bool,N7 N⟩
theorem N8 (N:Nat):av cn 100 (VH N):=gn.cj (fun _ _ h=>by cases h) (by kernel_rfl) (by kernel_rfl)
theorem N9 (N:Nat) (a0:Int):N7 N a0 =
 some (a0 != a0):=by kernel_rfl
noncomputable def TS (N:Nat):Int × Int→Option Int:=(cx N [(100,VH N)] []).fn 1000 77 (.cons (.int .i64) (.cons (.int .i64) .nil)) (.int .i64)
noncomputable def e77 (N:Nat):bl:=⟨(.cons (.int .i64) (.cons (.int .i64) .nil)),(.int .i64),TS N⟩
theorem Si (N:Nat):av cn 77 (e77 N):=gn.cj (bN (by intro a e h; simp only [List.mem_cons,Prod.mk.injEq,List.not_mem_nil,or_false] at h; rcases h with ⟨rfl,rfl⟩; exact N8 N)) (by kernel_rfl) (by kernel_rfl)
theorem Sj (N:Nat) (a0:Int) (a1:Int):TS N (a0,a1) =
 (N7 N a0).bind fun y1=>(N7 N a1).bind fun y2=>(bif y1 then (bif y2 then some 0 else some (-1)) else (bif y2 then some 1 else (bif (decide (a0 < a1)) then some (-1) else (bif (decide (a0 > a1)) then some 1 else some 0)))):=by kernel_rfl
def c76:List (Nat × dL):=[(58,.loop [] ⟨(.cons (.int .i64) .nil),[8],[],[],[],[]⟩ [(.ret,⟨(.cons (.int .i64) .nil),[2],[],[],[],[]⟩),(.ex 0,⟨.nil,[],[],[],[],[]⟩)])]
noncomputable def Xb (N:Nat):(List Int)→Option Int:=(cx N [] [(76,c76)]).fn 1000 76 (.cons (.list 1 (.int .i64)) .nil) (.int .i64)
noncomputable def e76 (N:Nat):bl:=⟨(.cons (.list 1 (.int .i64)) .nil),(.int .i64),Xb N⟩
theorem Sk (N:Nat):av cn 76 (e76 N):=gn.cj (fun _ _ h=>by cases h) (by kernel_rfl) (by kernel_rfl)
noncomputable def Bv (N:Nat) (a0:List Int) (v1:Int):Option (Int ⊕ (Int ⊕ Unit)):=
 (bif (decide (v1 < ((((List.map n3 a0)).length:Nat):Int))) then bif (decide ((0:Int)≤v1∧v1 < (((List.map n3 a0)).length:Int))&&aj.fits p3 (aw (List.map n3 a0) (Int.toNat v1))) then (bif ((d3 (aw (List.map n3 a0) (Int.toNat v1))) != 0) then (some (Sum.inr (Sum.inl (d3 (aw (List.map n3 a0) (Int.toNat v1)))))) else (some (Sum.inl (IntKind.wrap .i64 (v1+1))))) else none else (some (Sum.inr (Sum.inr ()))))
theorem Sl (N:Nat) (a0:List Int):Xb N a0 =
 ((aZ (V:=Int) (X:=Int ⊕ Unit) (Bv N a0) N 0).bind fun o6=>(Sum.elim (fun o7=>some o7) (fun o8=>some 0) o6)):=by kernel_rfl
noncomputable def Oa (N:Nat):(Int × Int × Int) × (Int × Int × Int)→Option Int:=(cx N [(76,e76 N),(77,e77 N)] []).fn 1000 72 (.cons (.agg (.cons (.int .i64) (.cons (.int .i64) (.cons (.int .i64) .nil)))) (.cons (.agg (.cons (.int .i64) (.cons (.int .i64) (.cons (.int .i64) .nil)))) .nil)) (.int .i64)
noncomputable def Zi (N:Nat):bl:=⟨(.cons (.agg (.cons (.int .i64) (.cons (.int .i64) (.cons (.int .i64) .nil)))) (.cons (.agg (.cons (.int .i64) (.cons (.int .i64) (.cons (.int .i64) .nil)))) .nil)),(.int .i64),Oa N⟩
theorem K6 (N:Nat):av cn 72 (Zi N):=gn.cj (bN (by intro a e h; simp only [List.mem_cons,Prod.mk.injEq,List.not_mem_nil,or_false] at h; rcases h with ⟨rfl,rfl⟩ | ⟨rfl,rfl⟩; exact Sk N; exact Si N)) (by kernel_rfl) (by kernel_rfl)
theorem Sm (N:Nat) (a0:Int × Int × Int) (a1:Int × Int × Int):Oa N (a0,a1) =
 (TS N (a0.2.1,a1.2.1)).bind fun y1=>bif ((a1.2.2 == a1.2.2)&&((a0.2.2 == a0.2.2)&&((a1.1 == a1.1)&&((a0.1 == a0.1)&&true)))) then (TS N (a0.1,a1.1)).bind fun y2=>bif ((a1.2.2 == a1.2.2)&&((a0.2.2 == a0.2.2)&&true)) then (TS N (a0.2.2,a1.2.2)).bind fun y3=>((bif (allFit (aj.fits p3) [(AV.int .i64 y1),(AV.int .i64 y2),(AV.int .i64 y3)]&&true) then some (List.map d3 [(AV.int .i64 y1),(AV.int .i64 y2),(AV.int .i64 y3)]) else none:Option ((List Int))).bind fun x5=>(Xb N x5).bind fun y4=>some y4) else none else none:=by kernel_rfl
def c33:List (Nat × dL):=[(58,.loop [] ⟨(.cons (.int .i64) .nil),[11],[],[],[],[]⟩ [(.ret,⟨(.cons (.int .i64) .nil),[2],[],[],[],[]⟩),(.ex 0,⟨.nil,[],[],[],[],[]⟩)]),
 (7474,.join [(.norm,⟨(.cons (.int .i64) .nil),[5],[],[],[],[]⟩)])]
noncomputable def Mg (N:Nat):(List (Int × Int × Int))→Option Int:=(cx N [(40,Rw N),(45,Vo N),(53,e53 N),(72,Zi N)] [(33,c33)]).fn 1000 33 (.cons (.list 3 (.agg (.cons (.int .i64) (.cons (.int .i64) (.cons (.int .i64) .nil))))) .nil) (.int .i64)
noncomputable def VI (N:Nat):bl:=⟨(.cons (.list 3 (.agg (.cons (.int .i64) (.cons (.int .i64) (.cons (.int .i64) .nil))))) .nil),(.int .i64),Mg N⟩
theorem xC (N:Nat):av cn 33 (VI N):=gn.cj (bN (by intro a e h; simp only [List.mem_cons,Prod.mk.injEq,List.not_mem_nil,or_false] at h; rcases h with ⟨rfl,rfl⟩ | ⟨rfl,rfl⟩ | ⟨rfl,rfl⟩ | ⟨rfl,rfl⟩; exact sR N; exact Bp N; exact Sg N; exact K6 N)) (by kernel_rfl) (by kernel_rfl)
noncomputable def xD (N:Nat) (a0:List (Int × Int × Int)) (v1:Int):Option (Int ⊕ (Int ⊕ Unit)):=
 (bif (decide (v1 < ((((List.map n59 a0)).length:Nat):Int))) then bif (decide ((0:Int)≤v1∧v1 < (((List.map n59 a0)).length:Int))&&aj.fits cN (aw (List.map n59 a0) (Int.toNat v1))) then (((VG N ((d59 (aw (List.map n59 a0) (Int.toNat v1))).1,(d59 (aw (List.map n59 a0) (Int.toNat v1))).2.1,(d59 (aw (List.map n59 a0) (Int.toNat v1))).2.2)).bind fun y2=>(bif (decide (v1 > 0)) then bif (decide ((0:Int)≤(if (IntKind.wrap .i64 (v1 - 1)) > 0 then (IntKind.wrap .i64 (v1 - 1)) else 0)∧(if (IntKind.wrap .i64 (v1 - 1)) > 0 then (IntKind.wrap .i64 (v1 - 1)) else 0) < (((List.map n59 a0)).length:Int))&&aj.fits cN (aw (List.map n59 a0) (Int.toNat (if (IntKind.wrap .i64 (v1 - 1)) > 0 then (IntKind.wrap .i64 (v1 - 1)) else 0)))) then (Oa N (((d59 (aw (List.map n59 a0) (Int.toNat (if (IntKind.wrap .i64 (v1 - 1)) > 0 then (IntKind.wrap .i64 (v1 - 1)) else 0)))).1,(d59 (aw (List.map n59 a0) (Int.toNat (if (IntKind.wrap .i64 (v1 - 1)) > 0 then (IntKind.wrap .i64 (v1 - 1)) else 0)))).2.1,(d59 (aw (List.map n59 a0) (Int.toNat (if (IntKind.wrap .i64 (v1 - 1)) > 0 then (IntKind.wrap .i64 (v1 - 1)) else 0)))).2.2),((d59 (aw (List.map n59 a0) (Int.toNat v1))).1,(d59 (aw (List.map n59 a0) (Int.toNat v1))).2.1,(d59 (aw (List.map n59 a0) (Int.toNat v1))).2.2))).bind fun y3=>(Mc N ((decide (y3≥0)),11)).bind fun y4=>((bif (allFit (aj.fits u0) [(AV.int .i64 y2),(AV.int .i64 y4)]&&true) then some (List.map d30 [(AV.int .i64 y2),(AV.int .i64 y4)]) else none:Option ((List Int))).bind fun x6=>(DJ N x6).bind fun y5=>(some y5)) else none else (Mc N (false,11)).bind fun y7=>((bif (allFit (aj.fits u0) [(AV.int .i64 y2),(AV.int .i64 y7)]&&true) then some (List.map d30 [(AV.int .i64 y2),(AV.int .i64 y7)]) else none:Option ((List Int))).bind fun x9=>(DJ N x9).bind fun y8=>(some y8))):Option Int).bind fun zM=>(bif (zM != 0) then (some (Sum.inr (Sum.inl zM))) else (some (Sum.inl (IntKind.wrap .i64 (v1+1)))))) else none else (some (Sum.inr (Sum.inr ()))))
theorem Sn (N:Nat) (a0:List (Int × Int × Int)):Mg N a0 =
 (bif (decide (((((List.map n59 a0)).length:Nat):Int) > 4096)) then some 5 else ((aZ (V:=Int) (X:=Int ⊕ Unit) (xD N a0) N 0).bind fun yT=>(Sum.elim (fun Sp=>some Sp) (fun gV=>some 0) yT))):=by kernel_rfl
end Go.Proofs.YtophnjjjmikmeaaGreat
