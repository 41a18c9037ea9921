/- What the functions compute (printed by a program of ours,checked by the kernel). -/
import Derived.Test.YtfiopgedfcaodaaGreatDoorSeamT
set_option linter.all false
namespace Go.Proofs.YtfiopgedfcaodaaGreatDoor
open Go Go.Am
set_option maxRecDepth 100000
open List (map)
open Int (toNat)
open Pat (fits)
noncomputable section
abbrev p87:Pat:=(.agg (.cons (.int .i64) (.cons (.int .i64) .nil)))
abbrev d87 (v:AV):Int × Int:=Pat.decD p87 v
abbrev n87 (x:Int × Int):AV:=Pat.enc p87 x
abbrev L87 (l:List (Int × Int)):=map n87 l
abbrev F87 (l:List (Int × Int)):=allFit (fits p87) (map n87 l)
abbrev K87 (l:List (Int × Int)):=map d87 (map n87 l)
theorem fa87 (l:List (Int × Int)):allFit (fits p87) (map n87 l)=true:=allFit_encs (p:=p87) rfl l
theorem md87 (l:List (Int × Int)):map d87 (map n87 l)=l:=map_decs (p:=p87) rfl l
theorem fn87 (x:Int × Int):fits p87 (n87 x)=true:=(Pat.fits_enc p87 x rfl).1
theorem dn87 (x:Int × Int):d87 (n87 x)=x:=(Pat.fits_enc p87 x rfl).2
def c167:List (Nat × Cert):=[(26,.loop [] ⟨(.cons (.int .i64) .nil),[7],[],[],[],[]⟩ [(.ret,⟨(.cons (.int .i64) .nil),[2],[],[],[],[]⟩),(.ex 0,⟨.nil,[],[],[],[],[]⟩)])]
-- "codend/netting.first"
def T167 (N:Nat):LZ→Option Int:=(cx N [] [(167,c167)]).fn 1000 167 (.cons (.list 1 (.int .i64)) .nil) (.int .i64)
def e167 (N:Nat):Entry:=⟨(.cons (.list 1 (.int .i64)) .nil),(.int .i64),T167 N⟩
theorem T167_ok (N:Nat):EntryOk envS 167 (e167 N):=Ctx.fn_ok (fun _ _ h=>by cases h) (by kernel_rfl) (by kernel_rfl)
def R167x26:=R90x26
theorem T167_eq (N:Nat) (a0:List Int):T167 N a0 =
 ((loopR (R167x26 N a0) N 0).bind fun o6=>(Sum.elim (fun o7=>some o7) (fun o8=>some 0) o6)):=by kernel_rfl
-- "codend/netting.when"
def T169 (N:Nat):Bool × Int→Option Int:=(cx N [] []).fn 1000 169 (.cons .bool (.cons (.int .i64) .nil)) (.int .i64)
def e169 (N:Nat):Entry:=⟨(.cons .bool (.cons (.int .i64) .nil)),(.int .i64),T169 N⟩
theorem T169_ok (N:Nat):EntryOk envS 169 (e169 N):=Ctx.fn_ok (fun _ _ h=>by cases h) (by kernel_rfl) (by kernel_rfl)
theorem T169_eq (N:Nat) (a0:Bool) (a1:Int):T169 N (a0,a1) =
 (bif a0 then some a1 else some 0):=by kernel_rfl
def c198:List (Nat × Cert):=[(6,.join [(.norm,⟨(.cons (.int .i64) .nil),[6],[],[],[],[]⟩)])]
-- "codend/netting.within"
def T198 (N:Nat):Int × Int × Int→Option Int:=(cx N [(169,e169 N)] [(198,c198)]).fn 1000 198 (.cons (.int .i64) (.cons (.int .i64) (.cons (.int .i64) .nil))) (.int .i64)
def e198 (N:Nat):Entry:=⟨(.cons (.int .i64) (.cons (.int .i64) (.cons (.int .i64) .nil))),(.int .i64),T198 N⟩
theorem T198_ok (N:Nat):EntryOk envS 198 (e198 N):=Ctx.fn_ok (tabF_ok (by intro a e h; simp only [List.mem_cons,Prod.mk.injEq,List.not_mem_nil,or_false] at h; rcases h with ⟨rfl,rfl⟩; exact T169_ok N)) (by kernel_rfl) (by kernel_rfl)
theorem T198_eq (N:Nat) (a0:Int) (a1:Int) (a2:Int):T198 N (a0,a1,a2) =
 (((bif (decide (a0 < a1)) then (T169 N (true,3)).bind fun y1=>(some y1) else (T169 N ((decide (a0 > a2)),3)).bind fun y2=>(some y2)):Option Int).bind fun o3=>some o3):=by kernel_rfl
-- "codend/netting.reach"
def T171 (N:Nat):PA→Option Int:=(cx N [(167,e167 N),(198,e198 N)] []).fn 1000 171 (.cons p46 .nil) (.int .i64)
def e171 (N:Nat):Entry:=⟨(.cons p46 .nil),(.int .i64),T171 N⟩
theorem T171_ok (N:Nat):EntryOk envS 171 (e171 N):=Ctx.fn_ok (tabF_ok (by intro a e h; simp only [List.mem_cons,Prod.mk.injEq,List.not_mem_nil,or_false] at h; rcases h with ⟨rfl,rfl⟩ | ⟨rfl,rfl⟩; exact T167_ok N; exact T198_ok N)) (by kernel_rfl) (by kernel_rfl)
theorem T171_eq (N:Nat) (a0:Int × Int):T171 N a0 =
 (T198 N (a0.1,(-100000),100000)).bind fun y1=>bif ((a0.2 == a0.2)&&true) then (T198 N (a0.2,(-100000),100000)).bind fun y2=>((bif (allFit (fits p24) [(i6 y1),(i6 y2)]&&true) then some (map d24 [(i6 y1),(i6 y2)]) else none).bind fun x4=>(T167 N x4).bind fun y3=>some y3) else none:=by kernel_rfl
-- "codend/netting.CheckKnot"
def T130 (N:Nat):PA→Option Int:=(cx N [(167,e167 N),(169,e169 N),(171,e171 N)] []).fn 1000 130 (.cons p46 .nil) (.int .i64)
def e130 (N:Nat):Entry:=⟨(.cons p46 .nil),(.int .i64),T130 N⟩
theorem T130_ok (N:Nat):EntryOk envS 130 (e130 N):=Ctx.fn_ok (tabF_ok (by intro a e h; simp only [List.mem_cons,Prod.mk.injEq,List.not_mem_nil,or_false] at h; rcases h with ⟨rfl,rfl⟩ | ⟨rfl,rfl⟩ | ⟨rfl,rfl⟩; exact T167_ok N; exact T169_ok N; exact T171_ok N)) (by kernel_rfl) (by kernel_rfl)
theorem T130_eq (N:Nat) (a0:Int × Int):T130 N a0 =
 (T171 N (a0.1,a0.2)).bind fun y1=>bif ((a0.2 == a0.2)&&((a0.1 == a0.1)&&true)) then (T169 N (((andI .i64 (xorI .i64 a0.1 a0.2) 1) != 0),14)).bind fun y2=>((bif (allFit (fits p24) [(i6 y1),(i6 y2)]&&true) then some (map d24 [(i6 y1),(i6 y2)]) else none).bind fun x4=>(T167 N x4).bind fun y3=>some y3) else none:=by kernel_rfl
-- "slices.Index[[]codend/api.Knot,codend/api.Knot]"
-- "slices.Contains[[]codend/api.Knot,codend/api.Knot]"
-- "codend/seam.CheckEdge"
-- "codend/seam.Moved"
-- "codend/codendlaw04.knots"
def c115:List (Nat × Cert):=[(26,.loop [] ⟨(.cons (.int .i64) .nil),[5],[],[],[],[]⟩ [(.ret,⟨(.cons .bool .nil),[4],[],[],[],[]⟩),(.ex 0,⟨.nil,[],[],[],[],[]⟩)])]
-- "codend/codendref01.HasKnot"
def T115 (N:Nat):LA × PA→Option Bool:=(cx N [] [(115,c115)]).fn 1000 115 (.cons (.list 2 p46) (.cons p46 .nil)) .bool
def e115 (N:Nat):Entry:=⟨(.cons (.list 2 p46) (.cons p46 .nil)),.bool,T115 N⟩
theorem T115_ok (N:Nat):EntryOk envS 115 (e115 N):=Ctx.fn_ok (fun _ _ h=>by cases h) (by kernel_rfl) (by kernel_rfl)
def R115x26 (N:Nat) (a0:LA) (a1:Int × Int) (v1:Int):Option (Int ⊕ (Bool ⊕ Unit)):=
 (bif (decide (v1 < (((L87 a0).length:Nat):Int))) then bif (decide ((0:Int)≤v1∧v1 < ((L87 a0).length:Int))&&fits p87 (nthD (L87 a0) (toNat v1))) then (bif (((d87 (nthD (L87 a0) (toNat v1))).1 == a1.1)&&(((d87 (nthD (L87 a0) (toNat v1))).2 == a1.2)&&true)) then (some (Sum.inr (Sum.inl true))) else (some (Sum.inl (IntKind.wrap .i64 (v1+1))))) else none else (some (Sum.inr (Sum.inr ()))))
theorem T115_eq (N:Nat) (a0:LA) (a1:Int × Int):T115 N (a0,a1) =
 ((loopR (R115x26 N a0 a1) N 0).bind fun o6=>(Sum.elim (fun o7=>some o7) (fun o8=>some false) o6)):=by kernel_rfl
def c173:List (Nat × Cert):=[(6,.join [(.norm,⟨(.cons .bool .nil),[2],[],[],[],[]⟩)])]
-- "codend/codendref01.far"
def T173 (N:Nat):Int→Option Bool:=(cx N [] [(173,c173)]).fn 1000 173 (.cons (.int .i64) .nil) .bool
def e173 (N:Nat):Entry:=⟨(.cons (.int .i64) .nil),.bool,T173 N⟩
theorem T173_ok (N:Nat):EntryOk envS 173 (e173 N):=Ctx.fn_ok (fun _ _ h=>by cases h) (by kernel_rfl) (by kernel_rfl)
theorem T173_eq (N:Nat) (a0:Int):T173 N a0 =
 (((bif (decide (a0 < (-100000))) then (some true) else (some (decide (a0 > 100000)))):Option Bool).bind fun o1=>some o1):=by kernel_rfl
-- "codend/codendref01.even"
def T174 (N:Nat):Int × Int→Option Bool:=(cx N [] []).fn 1000 174 (.cons (.int .i64) (.cons (.int .i64) .nil)) .bool
def e174 (N:Nat):Entry:=⟨(.cons (.int .i64) (.cons (.int .i64) .nil)),.bool,T174 N⟩
theorem T174_ok (N:Nat):EntryOk envS 174 (e174 N):=Ctx.fn_ok (fun _ _ h=>by cases h) (by kernel_rfl) (by kernel_rfl)
theorem T174_eq (N:Nat) (a0:Int) (a1:Int):T174 N (a0,a1) =
 some ((Int.tmod (IntKind.wrap .i64 (a0+a1)) 2) == 0):=by kernel_rfl
def c134:List (Nat × Cert):=[(12,.join [(.norm,⟨(.cons .bool .nil),[10],[],[],[],[]⟩)])]
-- "codend/codendref01.CheckKnot"
def T134 (N:Nat):PA→Option Int:=(cx N [(173,e173 N),(174,e174 N)] [(134,c134)]).fn 1000 134 (.cons p46 .nil) (.int .i64)
def e134 (N:Nat):Entry:=⟨(.cons p46 .nil),(.int .i64),T134 N⟩
theorem T134_ok (N:Nat):EntryOk envS 134 (e134 N):=Ctx.fn_ok (tabF_ok (by intro a e h; simp only [List.mem_cons,Prod.mk.injEq,List.not_mem_nil,or_false] at h; rcases h with ⟨rfl,rfl⟩ | ⟨rfl,rfl⟩; exact T173_ok N; exact T174_ok N)) (by kernel_rfl) (by kernel_rfl)
theorem T134_eq (N:Nat) (a0:Int × Int):T134 N a0 =
 (((T173 N a0.1).bind fun y1=>(bif y1 then (some true) else (T173 N a0.2).bind fun y2=>(some y2)):Option Bool).bind fun o3=>(bif o3 then some 3 else (T174 N (a0.1,a0.2)).bind fun y4=>(bif (!y4) then some 14 else some 0))):=by kernel_rfl
-- "codend/codendref04.IsStep"
-- "codend/codendref04.CheckEdge"
-- "codend/codendref04.Moved"
-- "codend/codendref01.SameKnots"
-- "codend/codendlaw04.SeamEdges"
end
end Go.Proofs.YtfiopgedfcaodaaGreatDoor
