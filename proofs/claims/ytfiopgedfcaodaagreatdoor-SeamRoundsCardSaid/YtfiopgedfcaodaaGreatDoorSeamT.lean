/- What the functions compute (printed by a program of ours,checked by the kernel). -/
import Derived.Test.YtfiopgedfcaodaaGreatDoorSeamC
import Derived.Test.YtfiopgedfcaodaaGreatDoorAmKK
set_option linter.all false
namespace Go.Proofs.YtfiopgedfcaodaaGreatDoor
open Go Go.Am
set_option maxRecDepth 100000
open List (map)
open Int (toNat)
open Pat (fits)
noncomputable section
abbrev PA:=Int × Int
abbrev PB:=Int × Int × Int
abbrev PF:=Int × Int × Int × Int × Int × Int
abbrev LA:=List PA
abbrev LB:=List PB
abbrev LF:=List PF
abbrev LZ:=List Int
abbrev i6 (x:Int):AV:=.int .i64 x
abbrev p3:Pat:=(.int .i64)
abbrev d3 (v:AV):Int:=Pat.decD p3 v
abbrev n3 (x:Int):AV:=Pat.enc p3 x
abbrev L3 (l:List (Int)):=map n3 l
abbrev F3 (l:List (Int)):=allFit (fits p3) (map n3 l)
abbrev K3 (l:List (Int)):=map d3 (map n3 l)
theorem fa3 (l:List Int):allFit (fits p3) (map n3 l)=true:=allFit_encs (p:=p3) rfl l
theorem md3 (l:List Int):map d3 (map n3 l)=l:=map_decs (p:=p3) rfl l
theorem fn3 (x:Int):fits p3 (n3 x)=true:=(Pat.fits_enc p3 x rfl).1
theorem dn3 (x:Int):d3 (n3 x)=x:=(Pat.fits_enc p3 x rfl).2
abbrev p24:Pat:=(.int .i64)
abbrev d24 (v:AV):Int:=Pat.decD p24 v
abbrev n24 (x:Int):AV:=Pat.enc p24 x
abbrev L24 (l:List (Int)):=map n24 l
abbrev p46:Pat:=(.agg (.cons (.int .i64) (.cons (.int .i64) .nil)))
abbrev d46 (v:AV):Int × Int:=Pat.decD p46 v
abbrev n46 (x:Int × Int):AV:=Pat.enc p46 x
abbrev L46 (l:List (Int × Int)):=map n46 l
abbrev F46 (l:List (Int × Int)):=allFit (fits p46) (map n46 l)
abbrev K46 (l:List (Int × Int)):=map d46 (map n46 l)
theorem fa46 (l:List (Int × Int)):allFit (fits p46) (map n46 l)=true:=allFit_encs (p:=p46) rfl l
theorem md46 (l:List (Int × Int)):map d46 (map n46 l)=l:=map_decs (p:=p46) rfl l
theorem fn46 (x:Int × Int):fits p46 (n46 x)=true:=(Pat.fits_enc p46 x rfl).1
theorem dn46 (x:Int × Int):d46 (n46 x)=x:=(Pat.fits_enc p46 x rfl).2
def elpL:List (Nat × Pat):=[(22,(.agg (.cons (.int .i64) (.cons (.int .i64) .nil)))),(45,(.int .i64)),(50,(.list 3 (.agg (.cons (.int .i64) (.cons (.int .i64) (.cons (.int .i64) .nil)))))),(51,(.agg (.cons (.int .i64) (.cons (.int .i64) (.cons (.int .i64) (.cons (.int .i64) (.cons (.int .i64) (.cons (.int .i64) .nil)))))))),(53,(.agg (.cons (.int .i64) (.cons (.int .i64) (.cons (.int .i64) .nil))))),(57,(.agg (.cons (.int .i64) (.cons (.int .i64) (.cons (.int .i64) (.cons (.int .i64) (.cons (.int .i64) (.cons (.int .i64) .nil)))))))),(63,(.agg (.cons (.int .i64) (.cons (.int .i64) (.cons (.int .i64) .nil))))),(74,(.list 3 (.agg (.cons (.int .i64) (.cons (.int .i64) (.cons (.int .i64) .nil)))))),(79,(.list 3 (.agg (.cons (.int .i64) (.cons (.int .i64) (.cons (.int .i64) .nil)))))),(115,(.agg (.cons (.int .i64) (.cons (.int .i64) (.cons (.int .i64) .nil))))),(121,(.agg (.cons (.int .i64) (.cons (.int .i64) .nil)))),(188,(.int .i64)),(196,(.int .i64)),(220,.str),(248,(.int .u8)),(109,(.int .i64)),(177,.bool),(191,(.int .i64))]
def elpF:List (Nat × Pat)→Nat→Option Pat
 | [],_=>none
 | (a,p) :: l,t=>bif Nat.beq a t then some p else elpF l t
def elgL:List (Nat × Pat):=[(169,(.fam 3 1 (.int .i64))),(74,(.fam 94 3 (.agg (.cons (.int .i64) (.cons (.int .i64) (.cons (.int .i64) .nil)))))),(79,(.fam 89 3 (.agg (.cons (.int .i64) (.cons (.int .i64) (.cons (.int .i64) .nil))))))]
def envS:Env:={ env with elp:=elpF elpL,elg:=elpF elgL }
def envDS:EnvD:={ envD with toEnv:=envS }
def cx (N:Nat) (tab:List (Nat × Entry)) (cert:List (Nat × List (Nat × Cert))):Ctx:={ D:=envDS,tab:=tabF tab,cert:=certF cert,fz:=false,N:=N }
def T16 (_N:Nat):Unit→Option Bool:=fun _=>some true
def e16 (N:Nat):Entry:=⟨.nil,.bool,T16 N⟩
theorem T16_ok (N:Nat):EntryOk envS 16 (e16 N):=fun x y h=>by
 cases h
 exact PCalls.env (E:=env) rfl rfl (PCalls.mono awake_calls fun r ⟨y,h1,h2⟩=>by rw [h1,h2]; rfl)
theorem EntryOk.toS {g:FuncId} {e:Entry} (h:EntryOk env g e):EntryOk envS g e:=fun x y hT=>PCalls.env (E:=env) rfl rfl (h x y hT)
def T150 (_N:Nat):List (List UInt8) × List UInt8→Option (List UInt8):=joinT
def e150 (N:Nat):Entry:=⟨p2 (.list 1 .str) .str,.str,T150 N⟩
theorem T150_ok (N:Nat):EntryOk envS 150 (e150 N):=EntryOk.toS L150
def c90:List (Nat × Cert):=[(26,.loop [] ⟨(.cons (.int .i64) .nil),[7],[],[],[],[]⟩ [(.ret,⟨(.cons (.int .i64) .nil),[2],[],[],[],[]⟩),(.ex 0,⟨.nil,[],[],[],[],[]⟩)])]
-- "codend/seam.first"
def T90 (N:Nat):LZ→Option Int:=(cx N [] [(90,c90)]).fn 1000 90 (.cons (.list 1 (.int .i64)) .nil) (.int .i64)
def e90 (N:Nat):Entry:=⟨(.cons (.list 1 (.int .i64)) .nil),(.int .i64),T90 N⟩
theorem T90_ok (N:Nat):EntryOk envS 90 (e90 N):=Ctx.fn_ok (fun _ _ h=>by cases h) (by kernel_rfl) (by kernel_rfl)
def R90x26 (N:Nat) (a0:List Int) (v1:Int):Option (Int ⊕ (Int ⊕ Unit)):=
 (bif (decide (v1 < (((L24 a0).length:Nat):Int))) then bif (decide ((0:Int)≤v1∧v1 < ((L24 a0).length:Int))&&fits p24 (nthD (L24 a0) (toNat v1))) then (bif ((d24 (nthD (L24 a0) (toNat v1))) != 0) then (some (Sum.inr (Sum.inl (d24 (nthD (L24 a0) (toNat v1)))))) else (some (Sum.inl (IntKind.wrap .i64 (v1+1))))) else none else (some (Sum.inr (Sum.inr ()))))
theorem T90_eq (N:Nat) (a0:List Int):T90 N a0 =
 ((loopR (R90x26 N a0) N 0).bind fun o6=>(Sum.elim (fun o7=>some o7) (fun o8=>some 0) o6)):=by kernel_rfl
-- "codend/seam.when"
def T91 (N:Nat):Bool × Int→Option Int:=(cx N [] []).fn 1000 91 (.cons .bool (.cons (.int .i64) .nil)) (.int .i64)
def e91 (N:Nat):Entry:=⟨(.cons .bool (.cons (.int .i64) .nil)),(.int .i64),T91 N⟩
theorem T91_ok (N:Nat):EntryOk envS 91 (e91 N):=Ctx.fn_ok (fun _ _ h=>by cases h) (by kernel_rfl) (by kernel_rfl)
theorem T91_eq (N:Nat) (a0:Bool) (a1:Int):T91 N (a0,a1) =
 (bif a0 then some a1 else some 0):=by kernel_rfl
def c93:List (Nat × Cert):=[(6,.join [(.norm,⟨(.cons (.int .i64) .nil),[6],[],[],[],[]⟩)])]
-- "codend/seam.within"
def T93 (N:Nat):Int × Int × Int→Option Int:=(cx N [(91,e91 N)] [(93,c93)]).fn 1000 93 (.cons (.int .i64) (.cons (.int .i64) (.cons (.int .i64) .nil))) (.int .i64)
def e93 (N:Nat):Entry:=⟨(.cons (.int .i64) (.cons (.int .i64) (.cons (.int .i64) .nil))),(.int .i64),T93 N⟩
theorem T93_ok (N:Nat):EntryOk envS 93 (e93 N):=Ctx.fn_ok (tabF_ok (by intro a e h; simp only [List.mem_cons,Prod.mk.injEq,List.not_mem_nil,or_false] at h; rcases h with ⟨rfl,rfl⟩; exact T91_ok N)) (by kernel_rfl) (by kernel_rfl)
theorem T93_eq (N:Nat) (a0:Int) (a1:Int) (a2:Int):T93 N (a0,a1,a2) =
 (((bif (decide (a0 < a1)) then (T91 N (true,3)).bind fun y1=>(some y1) else (T91 N ((decide (a0 > a2)),3)).bind fun y2=>(some y2)):Option Int).bind fun o3=>some o3):=by kernel_rfl
-- "codend/seam.checkMeshes"
def T86 (N:Nat):Int × Int→Option Int:=(cx N [(90,e90 N),(93,e93 N)] []).fn 1000 86 (.cons (.int .i64) (.cons (.int .i64) .nil)) (.int .i64)
def e86 (N:Nat):Entry:=⟨(.cons (.int .i64) (.cons (.int .i64) .nil)),(.int .i64),T86 N⟩
theorem T86_ok (N:Nat):EntryOk envS 86 (e86 N):=Ctx.fn_ok (tabF_ok (by intro a e h; simp only [List.mem_cons,Prod.mk.injEq,List.not_mem_nil,or_false] at h; rcases h with ⟨rfl,rfl⟩ | ⟨rfl,rfl⟩; exact T90_ok N; exact T93_ok N)) (by kernel_rfl) (by kernel_rfl)
theorem T86_eq (N:Nat) (a0:Int) (a1:Int):T86 N (a0,a1) =
 (T93 N (a0,1,256)).bind fun y1=>(T93 N (a1,1,256)).bind fun y2=>((bif (allFit (fits p24) [(i6 y1),(i6 y2)]&&true) then some (map d24 [(i6 y1),(i6 y2)]) else none).bind fun x4=>(T90 N x4).bind fun y3=>some y3):=by kernel_rfl
def c17x158:List (Nat × Cert):=[(14,.loop [(.row 2 0,2,46)] ⟨(.cons (.int .i64) (.cons (.int .i64) (.cons (.int .i64) (.cons (.own 5 2 p46) .nil)))),[10],[],[],[.row 1,.row 1,.row 1,.keep,.lp .open_,.tok 3 2 46],[]⟩ [(.ex 0,⟨(.cons (.int .i64) (.cons (.int .i64) (.cons (.own 5 2 p46) .nil))),[],[],[],[.row 1,.row 1,.row 1,.keep,.lp .open_,.tok 2 2 46],[]⟩)])]
-- "codend/seam.Joins"
def T17 (N:Nat):Int × Int→Option (LA × Int):=(cx N [(86,e86 N)] [(158,c17x158)]).fn 1000 17 (.cons (.int .i64) (.cons (.int .i64) .nil)) (.tup (.cons (.list 2 p46) (.cons (.int .i64) .nil)))
def e17 (N:Nat):Entry:=⟨(.cons (.int .i64) (.cons (.int .i64) .nil)),(.tup (.cons (.list 2 p46) (.cons (.int .i64) .nil))),T17 N⟩
theorem T17_ok (N:Nat):EntryOk envS 17 (e17 N):=Ctx.fn_ok (tabF_ok (by intro a e h; simp only [List.mem_cons,Prod.mk.injEq,List.not_mem_nil,or_false] at h; rcases h with ⟨rfl,rfl⟩; exact T86_ok N)) (by kernel_rfl) (by kernel_rfl)
def R17x158x14 (N:Nat) (a0:Int) (a1:Int) (v2:Int × Int × Int × LA):Option ((Int × Int × Int × LA) ⊕ ((Int × Int × LA))):=
 (bif (decide (v2.1 < (if a1 > a0 then a1 else a0))) then bif !(decide ((if a1 > a0 then a1 else a0)=0)) then bif !(decide ((if a1 > a0 then a1 else a0)=0)) then bif (decide ((L46 v2.2.2.2).length=(L46 v2.2.2.2).length)&&decide (((L46 v2.2.2.2).length+1) * 16≤140737488355328)) then (((bif (allFit (fits p46) ((L46 v2.2.2.2)++[(AV.agg [(i6 (IntKind.wrap .i64 (Int.tdiv (IntKind.wrap .i64 (v2.1 * v2.2.1)) (if a1 > a0 then a1 else a0)))),(i6 (IntKind.wrap .i64 (Int.tdiv (IntKind.wrap .i64 (v2.1 * v2.2.2.1)) (if a1 > a0 then a1 else a0))))])])&&true) then some ((IntKind.wrap .i64 (v2.1+1)),v2.2.1,v2.2.2.1,(map d46 ((L46 v2.2.2.2)++[(AV.agg [(i6 (IntKind.wrap .i64 (Int.tdiv (IntKind.wrap .i64 (v2.1 * v2.2.1)) (if a1 > a0 then a1 else a0)))),(i6 (IntKind.wrap .i64 (Int.tdiv (IntKind.wrap .i64 (v2.1 * v2.2.2.1)) (if a1 > a0 then a1 else a0))))])]))) else none).bind fun w3=>bif (decide (((L46 v2.2.2.2).length+1)=(map n46 w3.2.2.2).length)&&true) then some w3 else none).bind fun u4=>some (Sum.inl u4)) else none else none else none else (((bif (F46 v2.2.2.2&&true) then some (v2.2.1,v2.2.2.1,(K46 v2.2.2.2)) else none).bind fun w5=>bif (decide ((L46 v2.2.2.2).length=(map n46 w5.2.2).length)&&true) then some w5 else none).bind fun u6=>some (Sum.inr u6)))
theorem T17_eq (N:Nat) (a0:Int) (a1:Int):T17 N (a0,a1) =
 (T86 N (a0,a1)).bind fun y1=>(bif (y1 != 0) then (bif (allFit (fits p46) ([]:List AV)&&true) then some ((map d46 ([]:List AV)),y1) else none) else (((bif (allFit (fits p46) ([]:List AV)&&true) then some (0,a0,a1,(map d46 ([]:List AV))) else none:Option (Int × Int × Int × LA)).bind fun w7=>bif (decide (0=(map n46 w7.2.2.2).length)&&true) then some w7 else none).bind fun x9=>(loopR (R17x158x14 N a0 a1) N x9).bind fun o8=>(bif (F46 o8.2.2&&true) then some ((K46 o8.2.2),0) else none))):=by kernel_rfl
def c89:List (Nat × Cert):=[(12,.loop [] ⟨(.cons (.int .i64) (.cons (.int .i64) .nil)),[0,1],[],[],[],[]⟩ [(.ex 0,⟨(.cons (.int .i64) .nil),[0],[],[],[],[]⟩)])]
-- "codend/seam.divisor"
def T89 (N:Nat):Int × Int→Option Int:=(cx N [] [(89,c89)]).fn 1000 89 (.cons (.int .i64) (.cons (.int .i64) .nil)) (.int .i64)
def e89 (N:Nat):Entry:=⟨(.cons (.int .i64) (.cons (.int .i64) .nil)),(.int .i64),T89 N⟩
-- "codend/seam.Takeup"
def T18 (N:Nat):Int × Int→Option (PA × Int):=(cx N [(86,e86 N),(89,e89 N)] []).fn 1000 18 (.cons (.int .i64) (.cons (.int .i64) .nil)) (.tup (.cons p46 (.cons (.int .i64) .nil)))
def e18 (N:Nat):Entry:=⟨(.cons (.int .i64) (.cons (.int .i64) .nil)),(.tup (.cons p46 (.cons (.int .i64) .nil))),T18 N⟩
def c92:List (Nat × Cert):=[(14,.join [(.norm,⟨(.cons .bool .nil),[8],[],[],[],[]⟩)])]
-- "codend/seam.follows"
def T92 (N:Nat):Int × Int × PA × PA→Option Bool:=(cx N [] [(92,c92)]).fn 1000 92 (.cons (.int .i64) (.cons (.int .i64) (.cons p46 (.cons p46 .nil)))) .bool
def e92 (N:Nat):Entry:=⟨(.cons (.int .i64) (.cons (.int .i64) (.cons p46 (.cons p46 .nil)))),.bool,T92 N⟩
theorem T92_ok (N:Nat):EntryOk envS 92 (e92 N):=Ctx.fn_ok (fun _ _ h=>by cases h) (by kernel_rfl) (by kernel_rfl)
theorem T92_eq (N:Nat) (a0:Int) (a1:Int) (a2:Int × Int) (a3:Int × Int):T92 N (a0,a1,a2,a3) =
 (((bif ((IntKind.wrap .i64 (a3.1 - a2.1)) == 1) then (bif ((IntKind.wrap .i64 (a3.2 - a2.2)) == 1) then (some true) else (bif ((IntKind.wrap .i64 (a3.2 - a2.2)) == 0) then (some (decide (a1 < a0))) else (some false))) else (bif ((IntKind.wrap .i64 (a3.1 - a2.1)) == 0) then (bif (decide (a0 < a1)) then (bif ((IntKind.wrap .i64 (a3.2 - a2.2)) == 1) then (some true) else (bif ((IntKind.wrap .i64 (a3.2 - a2.2)) == 0) then (some (decide (a1 < a0))) else (some false))) else (some false)) else (some false))):Option Bool).bind fun o1=>some o1):=by kernel_rfl
def c19:List (Nat × Cert):=[(58,.loop [] ⟨(.cons (.int .i64) .nil),[29],[],[],[],[]⟩ [(.ret,⟨(.cons (.int .i64) .nil),[6],[],[],[],[]⟩),(.ex 0,⟨.nil,[],[],[],[],[]⟩)]),
 (29901,.join [(.norm,⟨(.cons .bool .nil),[10],[],[],[],[]⟩)])]
-- "codend/seam.CheckJoins"
def T19 (N:Nat):Int × Int × LA→Option Int:=(cx N [(86,e86 N),(90,e90 N),(91,e91 N),(92,e92 N),(93,e93 N)] [(19,c19)]).fn 1000 19 (.cons (.int .i64) (.cons (.int .i64) (.cons (.list 2 p46) .nil))) (.int .i64)
def e19 (N:Nat):Entry:=⟨(.cons (.int .i64) (.cons (.int .i64) (.cons (.list 2 p46) .nil))),(.int .i64),T19 N⟩
theorem T19_ok (N:Nat):EntryOk envS 19 (e19 N):=Ctx.fn_ok (tabF_ok (by intro a e h; simp only [List.mem_cons,Prod.mk.injEq,List.not_mem_nil,or_false] at h; rcases h with ⟨rfl,rfl⟩ | ⟨rfl,rfl⟩ | ⟨rfl,rfl⟩ | ⟨rfl,rfl⟩ | ⟨rfl,rfl⟩; exact T86_ok N; exact T90_ok N; exact T91_ok N; exact T92_ok N; exact T93_ok N)) (by kernel_rfl) (by kernel_rfl)
def R19x58 (N:Nat) (a0:Int) (a1:Int) (a2:LA) (v5:Int):Option (Int ⊕ (Int ⊕ Unit)):=
 (bif (decide (v5 < (((L46 a2).length:Nat):Int))) then bif (decide ((0:Int)≤v5∧v5 < ((L46 a2).length:Int))&&fits p46 (nthD (L46 a2) (toNat v5))) then (((bif (decide (v5 > 0)) then bif (decide ((0:Int)≤(IntKind.wrap .i64 (v5 - 1))∧(IntKind.wrap .i64 (v5 - 1)) < ((L46 a2).length:Int))&&fits p46 (nthD (L46 a2) (toNat (IntKind.wrap .i64 (v5 - 1))))) then (T92 N (a0,a1,((d46 (nthD (L46 a2) (toNat (IntKind.wrap .i64 (v5 - 1))))).1,(d46 (nthD (L46 a2) (toNat (IntKind.wrap .i64 (v5 - 1))))).2),((d46 (nthD (L46 a2) (toNat v5))).1,(d46 (nthD (L46 a2) (toNat v5))).2))).bind fun y6=>(some (!y6)) else none else (some (!(((d46 (nthD (L46 a2) (toNat v5))).1 == 0)&&(((d46 (nthD (L46 a2) (toNat v5))).2 == 0)&&true))))):Option Bool).bind fun o7=>(T93 N ((d46 (nthD (L46 a2) (toNat v5))).1,0,(IntKind.wrap .i64 (a0 - 1)))).bind fun y8=>bif (((d46 (nthD (L46 a2) (toNat v5))).2 == (d46 (nthD (L46 a2) (toNat v5))).2)&&true) then (T93 N ((d46 (nthD (L46 a2) (toNat v5))).2,0,(IntKind.wrap .i64 (a1 - 1)))).bind fun y9=>(T91 N (o7,11)).bind fun y10=>((bif (allFit (fits p24) [(i6 y8),(i6 y9),(i6 y10)]&&true) then some (map d24 [(i6 y8),(i6 y9),(i6 y10)]) else none).bind fun x12=>(T90 N x12).bind fun y11=>(bif (y11 != 0) then (some (Sum.inr (Sum.inl y11))) else (some (Sum.inl (IntKind.wrap .i64 (v5+1)))))) else none) else none else (some (Sum.inr (Sum.inr ()))))
theorem T19_eq (N:Nat) (a0:Int) (a1:Int) (a2:LA):T19 N (a0,a1,a2) =
 (T86 N (a0,a1)).bind fun y1=>(T91 N (((((L46 a2).length:Nat):Int) != (if a1 > a0 then a1 else a0)),2)).bind fun y2=>((bif (allFit (fits p24) [(i6 y1),(i6 y2)]&&true) then some (map d24 [(i6 y1),(i6 y2)]) else none).bind fun x4=>(T90 N x4).bind fun y3=>(bif (y3 != 0) then some y3 else ((loopR (R19x58 N a0 a1 a2) N 0).bind fun o17=>(Sum.elim (fun o18=>some o18) (fun o19=>bif (decide ((0:Int)≤(IntKind.wrap .i64 ((((L46 a2).length:Nat):Int) - 1))∧(IntKind.wrap .i64 ((((L46 a2).length:Nat):Int) - 1)) < ((L46 a2).length:Int))&&fits p46 (nthD (L46 a2) (toNat (IntKind.wrap .i64 ((((L46 a2).length:Nat):Int) - 1))))) then (T91 N ((!(((d46 (nthD (L46 a2) (toNat (IntKind.wrap .i64 ((((L46 a2).length:Nat):Int) - 1))))).1 == (IntKind.wrap .i64 (a0 - 1)))&&(((d46 (nthD (L46 a2) (toNat (IntKind.wrap .i64 ((((L46 a2).length:Nat):Int) - 1))))).2 == (IntKind.wrap .i64 (a1 - 1)))&&true))),15)).bind fun y20=>some y20 else none) o17)))):=by kernel_rfl
def c20:List (Nat × Cert):=[(6,.join [(.norm,⟨(.cons (.list 2 p46) .nil),[2],[],[],[],[]⟩)])]
-- "codend/codendlaw04.pairs"
def T20 (N:Nat):LA→Option (LA):=(cx N [] [(20,c20)]).fn 1000 20 (.cons (.list 2 p46) .nil) (.list 2 p46)
def e20 (N:Nat):Entry:=⟨(.cons (.list 2 p46) .nil),(.list 2 p46),T20 N⟩
theorem T20_ok (N:Nat):EntryOk envS 20 (e20 N):=Ctx.fn_ok (fun _ _ h=>by cases h) (by kernel_rfl) (by kernel_rfl)
theorem T20_eq (N:Nat) (a0:LA):T20 N a0 =
 (((bif List.isEmpty (L46 a0) then ((bif (allFit (fits p46) []&&true) then some (map d46 []) else none).bind fun w1=>some w1) else bif decide ((0+List.length (L46 a0)) * 16≤140737488355328) then ((bif (allFit (fits p46) ([]++(L46 a0))&&true) then some (map d46 ([]++(L46 a0))) else none).bind fun w2=>some w2) else none):Option ((LA))).bind fun o3=>(bif F46 o3 then some (K46 o3) else none)):=by kernel_rfl
def c28:List (Nat × Cert):=[(26,.loop [] ⟨(.cons (.int .i64) .nil),[3],[],[],[],[]⟩ [(.ret,⟨(.cons (.int .i64) .nil),[2],[],[],[],[]⟩),(.ex 0,⟨.nil,[],[],[],[],[]⟩)])]
-- "codend/codendref01.First"
def T28 (N:Nat):LZ→Option Int:=(cx N [] [(28,c28)]).fn 1000 28 (.cons (.list 1 (.int .i64)) .nil) (.int .i64)
def e28 (N:Nat):Entry:=⟨(.cons (.list 1 (.int .i64)) .nil),(.int .i64),T28 N⟩
def c94:List (Nat × Cert):=[(12,.join [(.norm,⟨(.cons .bool .nil),[14],[],[],[],[]⟩)])]
-- "codend/codendref01.CheckRange"
def T94 (N:Nat):Int × Int × Int→Option Int:=(cx N [] [(94,c94)]).fn 1000 94 (.cons (.int .i64) (.cons (.int .i64) (.cons (.int .i64) .nil))) (.int .i64)
def e94 (N:Nat):Entry:=⟨(.cons (.int .i64) (.cons (.int .i64) (.cons (.int .i64) .nil))),(.int .i64),T94 N⟩
-- "codend/codendref04.CheckMeshes"
def T21 (N:Nat):Int × Int→Option Int:=(cx N [(28,e28 N),(94,e94 N)] []).fn 1000 21 (.cons (.int .i64) (.cons (.int .i64) .nil)) (.int .i64)
def e21 (N:Nat):Entry:=⟨(.cons (.int .i64) (.cons (.int .i64) .nil)),(.int .i64),T21 N⟩
def c22:List (Nat × Cert):=[(122,.loop [(.slot 6,2,46)] ⟨(.cons (.own 0 2 p46) (.cons (.int .i64) .nil)),[6,7],[],[],[.tok 0 2 46],[]⟩ [(.ex 0,⟨(.cons (.own 0 2 p46) .nil),[6],[],[],[.tok 0 2 46],[]⟩)])]
-- "codend/codendref04.Joins"
def T22 (N:Nat):Int × Int→Option (LA):=(cx N [] [(22,c22)]).fn 1000 22 (.cons (.int .i64) (.cons (.int .i64) .nil)) (.list 2 p46)
def e22 (N:Nat):Entry:=⟨(.cons (.int .i64) (.cons (.int .i64) .nil)),(.list 2 p46),T22 N⟩
def c23:List (Nat × Cert):=[(26,.loop [] ⟨(.cons (.int .i64) (.cons (.int .i64) (.cons (.int .i64) .nil))),[5],[],[(4,2)],[],[]⟩ [(.ret,⟨(.cons (.int .i64) (.cons (.int .i64) .nil)),[],[],[(4,2)],[],[]⟩),(.ex 0,⟨(.cons (.int .i64) (.cons (.int .i64) .nil)),[],[],[(4,2)],[],[]⟩)]),
 (840,.join [(.norm,⟨(.cons .bool .nil),[22],[],[],[],[]⟩)])]
-- "codend/codendref04.Takeup"
def T23 (N:Nat):Int × Int→Option (PA):=(cx N [] [(23,c23)]).fn 1000 23 (.cons (.int .i64) (.cons (.int .i64) .nil)) p46
def e23 (N:Nat):Entry:=⟨(.cons (.int .i64) (.cons (.int .i64) .nil)),p46,T23 N⟩
def c24:List (Nat × Cert):=[(58,.loop [] ⟨(.cons (.int .i64) .nil),[5],[],[],[],[]⟩ [(.ret,⟨(.cons .bool .nil),[4],[],[],[],[]⟩),(.ex 0,⟨.nil,[],[],[],[],[]⟩)])]
-- "codend/codendref04.SamePairs"
def T24 (N:Nat):LA × LA→Option Bool:=(cx N [] [(24,c24)]).fn 1000 24 (.cons (.list 2 p46) (.cons (.list 2 p46) .nil)) .bool
def e24 (N:Nat):Entry:=⟨(.cons (.list 2 p46) (.cons (.list 2 p46) .nil)),.bool,T24 N⟩
theorem T24_ok (N:Nat):EntryOk envS 24 (e24 N):=Ctx.fn_ok (fun _ _ h=>by cases h) (by kernel_rfl) (by kernel_rfl)
def R24x58 (N:Nat) (a0:LA) (a1:LA) (v1:Int):Option (Int ⊕ (Bool ⊕ Unit)):=
 (bif (decide (v1 < (((L46 a0).length:Nat):Int))) then bif (decide ((0:Int)≤v1∧v1 < ((L46 a0).length:Int))&&fits p46 (nthD (L46 a0) (toNat v1))) then bif (decide ((0:Int)≤v1∧v1 < ((L46 a1).length:Int))&&fits p46 (nthD (L46 a1) (toNat v1))) then (bif (!(((d46 (nthD (L46 a0) (toNat v1))).1 == (d46 (nthD (L46 a1) (toNat v1))).1)&&(((d46 (nthD (L46 a0) (toNat v1))).2 == (d46 (nthD (L46 a1) (toNat v1))).2)&&true))) then (some (Sum.inr (Sum.inl false))) else (some (Sum.inl (IntKind.wrap .i64 (v1+1))))) else none else none else (some (Sum.inr (Sum.inr ()))))
theorem T24_eq (N:Nat) (a0:LA) (a1:LA):T24 N (a0,a1) =
 (bif ((((L46 a0).length:Nat):Int) != (((L46 a1).length:Nat):Int)) then some false else ((loopR (R24x58 N a0 a1) N 0).bind fun o6=>(Sum.elim (fun o7=>some o7) (fun o8=>some true) o6))):=by kernel_rfl
def c95:List (Nat × Cert):=[(62,.join [(.norm,⟨(.cons .bool .nil),[8],[],[],[],[]⟩)]),
 (116,.join [(.norm,⟨(.cons .bool .nil),[8],[],[],[],[]⟩)]),
 (244,.join [(.norm,⟨(.cons .bool .nil),[8],[],[],[],[]⟩)])]
-- "codend/codendref04.follows"
def T95 (N:Nat):Int × Int × PA × PA→Option Bool:=(cx N [] [(95,c95)]).fn 1000 95 (.cons (.int .i64) (.cons (.int .i64) (.cons p46 (.cons p46 .nil)))) .bool
def e95 (N:Nat):Entry:=⟨(.cons (.int .i64) (.cons (.int .i64) (.cons p46 (.cons p46 .nil)))),.bool,T95 N⟩
def c25:List (Nat × Cert):=[(250,.loop [] ⟨(.cons (.int .i64) .nil),[8],[],[],[],[]⟩ [(.ret,⟨(.cons (.int .i64) .nil),[6],[],[],[],[]⟩),(.ex 0,⟨.nil,[],[],[],[],[]⟩)]),
 (16016,.join [(.norm,⟨(.cons .bool .nil),[58],[],[],[],[]⟩)]),
 (32036,.join [(.norm,⟨(.cons .bool .nil),[67],[],[],[],[]⟩)]),
 (32038,.join [(.norm,⟨(.cons .bool .nil),[84],[],[],[],[]⟩)])]
-- "codend/codendref04.CheckJoins"
def T25 (N:Nat):Int × Int × LA→Option Int:=(cx N [(21,e21 N),(95,e95 N)] [(25,c25)]).fn 1000 25 (.cons (.int .i64) (.cons (.int .i64) (.cons (.list 2 p46) .nil))) (.int .i64)
def e25 (N:Nat):Entry:=⟨(.cons (.int .i64) (.cons (.int .i64) (.cons (.list 2 p46) .nil))),(.int .i64),T25 N⟩
def c3:List (Nat × Cert):=[(2045,.join [(.norm,⟨(.cons (.list 2 p46) (.cons (.int .i64) (.cons (.int .i64) .nil))),[13],[],[(14,2)],[],[]⟩)]),
 (2046,.join [(.norm,⟨(.cons .bool .nil),[6],[],[],[],[]⟩)])]
-- "codend/codendlaw04.SeamJoins"
def T3 (N:Nat):Int × Int × LA→Option Bool:=(cx N [(16,e16 N),(17,e17 N),(18,e18 N),(19,e19 N),(20,e20 N),(21,e21 N),(22,e22 N),(23,e23 N),(24,e24 N),(25,e25 N)] [(3,c3)]).fn 1000 3 (.cons (.int .i64) (.cons (.int .i64) (.cons (.list 2 p46) .nil))) .bool
def e3 (N:Nat):Entry:=⟨(.cons (.int .i64) (.cons (.int .i64) (.cons (.list 2 p46) .nil))),.bool,T3 N⟩
end
end Go.Proofs.YtfiopgedfcaodaaGreatDoor
