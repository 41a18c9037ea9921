/- What the functions compute (printed by a program of ours,checked by the kernel). -/
import Derived.Test.YtophnjjjmikmeaaGreatOttL
import Derived.Test.YtophnjjjmikmeaaGreatAmKM
set_option linter.all false
namespace Go.Proofs.YtophnjjjmikmeaaGreat
open Go Go.Am
set_option maxRecDepth 100000
abbrev Y1:aq:=(.agg (.cons (.int .i64) (.cons (.int .i64) .nil)))
abbrev qW:aq:=(.int .i64)
abbrev d30 (v:AV):Int:=aq.bc qW v
abbrev n30 (x:Int):AV:=aq.enc qW x
theorem VA (x:Int):aq.fits qW (n30 x)=true:=(aq.bL qW x rfl).1
theorem VB (x:Int):d30 (n30 x)=x:=(aq.bL qW x rfl).2
abbrev yu:aq:=(.agg (.cons (.int .i64) (.cons (.int .i64) .nil)))
abbrev d46 (v:AV):Int × Int:=aq.bc yu v
abbrev n46 (x:Int × Int):AV:=aq.enc yu x
theorem Lc (l:List (Int × Int)):allFit (aq.fits yu) (List.map n46 l)=true:=iq (p:=yu) rfl l
theorem Ld (l:List (Int × Int)):List.map d46 (List.map n46 l)=l:=ng (p:=yu) rfl l
theorem VC (x:Int × Int):aq.fits yu (n46 x)=true:=(aq.bL yu x rfl).1
theorem VD (x:Int × Int):d46 (n46 x)=x:=(aq.bL yu x rfl).2
abbrev b6:aq:=(.agg (.cons (.int .i64) (.cons (.int .i64) (.cons (.int .i64) .nil))))
abbrev d59 (v:AV):Int × Int × Int:=aq.bc b6 v
abbrev n59 (x:Int × Int × Int):AV:=aq.enc b6 x
theorem dF (l:List (Int × Int × Int)):allFit (aq.fits b6) (List.map n59 l)=true:=iq (p:=b6) rfl l
theorem dG (l:List (Int × Int × Int)):List.map d59 (List.map n59 l)=l:=ng (p:=b6) rfl l
theorem xo (x:Int × Int × Int):aq.fits b6 (n59 x)=true:=(aq.bL b6 x rfl).1
theorem xp (x:Int × Int × Int):d59 (n59 x)=x:=(aq.bL b6 x rfl).2
abbrev BD:aq:=(.agg (.cons (.int .i32) (.cons (.int .i64) (.cons (.int .i64) (.cons (.int .i64) (.cons (.int .i64) .nil))))))
abbrev d80 (v:AV):Int × Int × Int × Int × Int:=aq.bc BD v
abbrev iT (x:Int × Int × Int × Int × Int):AV:=aq.enc BD x
theorem Om (l:List (Int × Int × Int × Int × Int)):allFit (aq.fits BD) (List.map iT l)=true:=iq (p:=BD) rfl l
theorem On (l:List (Int × Int × Int × Int × Int)):List.map d80 (List.map iT l)=l:=ng (p:=BD) rfl l
theorem R9 (x:Int × Int × Int × Int × Int):aq.fits BD (iT x)=true:=(aq.bL BD x rfl).1
theorem Sa (x:Int × Int × Int × Int × Int):d80 (iT x)=x:=(aq.bL BD x rfl).2
abbrev nh:aq:=(.agg (.cons (.int .i32) (.cons (.agg (.cons (.int .i64) (.cons (.int .i64) .nil))) .nil)))
abbrev qy (v:AV):Int × (Int × Int):=aq.bc nh v
abbrev da (x:Int × (Int × Int)):AV:=aq.enc nh x
def VE:List (Nat × aq):=[(29,(.agg (.cons (.int .i64) (.cons (.int .i64) (.cons (.int .i64) .nil))))),(49,(.agg (.cons (.int .i64) (.cons (.int .i64) .nil)))),(53,(.agg (.cons (.int .i64) (.cons (.int .i64) .nil)))),(70,(.agg (.cons (.int .i64) (.cons (.int .i64) .nil)))),(76,(.agg (.cons (.int .i32) (.cons (.int .i64) (.cons (.int .i64) (.cons (.int .i64) (.cons (.int .i64) .nil))))))),(86,(.list 3 (.agg (.cons (.int .i64) (.cons (.int .i64) (.cons (.int .i64) .nil)))))),(133,(.int .i64)),(146,(.int .u8)),(158,(.int .i64)),(160,.str),(56,.bool),(88,(.int .i64)),(118,(.agg (.cons (.int .i64) (.cons (.int .i64) .nil)))),(129,.bool),(23,(.agg (.cons (.int .i64) (.cons (.int .i64) .nil)))),(59,(.agg (.cons (.int .i64) (.cons (.int .i64) (.cons (.int .i64) .nil)))))]
def Oo:List (Nat × aq)→Nat→Option aq
 | [],_=>none
 | (a,p) :: l,t=>bif Nat.beq a t then some p else Oo l t
def VF:List (Nat × aq):=[]
noncomputable def cE:Env:={ env with JB:=Oo VE,S4:=Oo VF }
noncomputable def Sb:NH:={ La with toEnv:=cE }
noncomputable def cx (N:Nat) (HI:List (Nat × a8)) (Bt:List (Nat × List (Nat × dR))):fP:={ D:=Sb,HI:=Dv HI,Bt:=Mx Bt,fz:=false,N:=N }
def Y2:List (Nat × dR):=[(26,.loop [] ⟨(.cons (.int .i64) .nil),[7],[],[],[],[]⟩ [(.ret,⟨(.cons (.int .i64) .nil),[2],[],[],[],[]⟩),(.ex 0,⟨.nil,[],[],[],[],[]⟩)])]
noncomputable def wN (N:Nat):(List Int)→Option Int:=(cx N [] [(40,Y2)]).fn 1000 40 (.cons (.list 1 (.int .i64)) .nil) (.int .i64)
noncomputable def Le (N:Nat):a8:=⟨(.cons (.list 1 (.int .i64)) .nil),(.int .i64),wN N⟩
theorem ni (N:Nat):ax cE 40 (Le N):=fP.bU (fun _ _ h=>by cases h) (by kernel_rfl) (by kernel_rfl)
noncomputable def zR (N:Nat) (a0:List Int) (v1:Int):Option (Int ⊕ (Int ⊕ Unit)):=
 (bif (decide (v1 < ((((List.map n30 a0)).length:Nat):Int))) then bif (decide ((0:Int)≤v1∧v1 < (((List.map n30 a0)).length:Int))&&aq.fits qW (av (List.map n30 a0) (Int.toNat v1))) then (bif ((d30 (av (List.map n30 a0) (Int.toNat v1))) != 0) then (some (Sum.inr (Sum.inl (d30 (av (List.map n30 a0) (Int.toNat v1)))))) else (some (Sum.inl (IntKind.wrap .i64 (v1+1))))) else none else (some (Sum.inr (Sum.inr ()))))
theorem Oq (N:Nat) (a0:List Int):wN N a0 =
 ((a6 (V:=Int) (X:=Int ⊕ Unit) (zR N a0) N 0).bind fun o6=>(Sum.elim (fun o7=>some o7) (fun o8=>some 0) o6)):=by kernel_rfl
theorem ax.Y3 {g:FuncId} {e:a8} (h:ax env g e):ax cE g e:=fun x y hT=>bP.env (E:=env) rfl rfl (h x y hT)
def VG (_N:Nat):List UInt8 × Int→Option (List UInt8):=tQ
def Xc (N:Nat):a8:=⟨p2 .str (.int .i64),.str,VG N⟩
theorem Ot (N:Nat):ax cE 69 (Xc N):=ax.Y3 Xb
noncomputable def Ir (N:Nat):Bool × Int→Option Int:=(cx N [] []).fn 1000 45 (.cons .bool (.cons (.int .i64) .nil)) (.int .i64)
noncomputable def QA (N:Nat):a8:=⟨(.cons .bool (.cons (.int .i64) .nil)),(.int .i64),Ir N⟩
theorem vZ (N:Nat):ax cE 45 (QA N):=fP.bU (fun _ _ h=>by cases h) (by kernel_rfl) (by kernel_rfl)
theorem zS (N:Nat) (a0:Bool) (a1:Int):Ir N (a0,a1) =
 (bif a0 then some a1 else some 0):=by kernel_rfl
def Y4:List (Nat × dR):=[(6,.join [(.norm,⟨(.cons (.int .i64) .nil),[6],[],[],[],[]⟩)])]
noncomputable def Ou (N:Nat):Int × Int × Int→Option Int:=(cx N [(45,QA N)] [(44,Y4)]).fn 1000 44 (.cons (.int .i64) (.cons (.int .i64) (.cons (.int .i64) .nil))) (.int .i64)
noncomputable def VH (N:Nat):a8:=⟨(.cons (.int .i64) (.cons (.int .i64) (.cons (.int .i64) .nil))),(.int .i64),Ou N⟩
theorem Is (N:Nat):ax cE 44 (VH N):=fP.bU (bD (by intro a e h; simp only [List.mem_cons,Prod.mk.injEq,List.not_mem_nil,or_false] at h; rcases h with ⟨rfl,rfl⟩; exact vZ N)) (by kernel_rfl) (by kernel_rfl)
theorem Ov (N:Nat) (a0:Int) (a1:Int) (a2:Int):Ou N (a0,a1,a2) =
 (((bif (decide (a0 < a1)) then (Ir N (true,3)).bind fun y1=>(some y1) else (Ir N ((decide (a0 > a2)),3)).bind fun y2=>(some y2)):Option Int).bind fun o3=>some o3):=by kernel_rfl
noncomputable def MA (N:Nat):(Int × Int)→Option Int:=(cx N [(40,Le N),(44,VH N)] []).fn 1000 46 (.cons (.agg (.cons (.int .i64) (.cons (.int .i64) .nil))) .nil) (.int .i64)
noncomputable def Tx (N:Nat):a8:=⟨(.cons (.agg (.cons (.int .i64) (.cons (.int .i64) .nil))) .nil),(.int .i64),MA N⟩
theorem Dz (N:Nat):ax cE 46 (Tx N):=fP.bU (bD (by intro a e h; simp only [List.mem_cons,Prod.mk.injEq,List.not_mem_nil,or_false] at h; rcases h with ⟨rfl,rfl⟩ | ⟨rfl,rfl⟩; exact ni N; exact Is N)) (by kernel_rfl) (by kernel_rfl)
theorem It (N:Nat) (a0:Int × Int):MA N a0 =
 (Ou N (a0.1,(-100000),100000)).bind fun y1=>bif ((a0.2 == a0.2)&&true) then (Ou N (a0.2,(-100000),100000)).bind fun y2=>((bif (allFit (aq.fits qW) [(AV.int .i64 y1),(AV.int .i64 y2)]&&true) then some (List.map d30 [(AV.int .i64 y1),(AV.int .i64 y2)]) else none:Option ((List Int))).bind fun x4=>(wN N x4).bind fun y3=>some y3) else none:=by kernel_rfl
noncomputable def MB (N:Nat):(Int × Int)→Option Int:=(cx N [(40,Le N),(45,QA N),(46,Tx N)] []).fn 1000 41 (.cons (.agg (.cons (.int .i64) (.cons (.int .i64) .nil))) .nil) (.int .i64)
noncomputable def Sc (N:Nat):a8:=⟨(.cons (.agg (.cons (.int .i64) (.cons (.int .i64) .nil))) .nil),(.int .i64),MB N⟩
theorem zT (N:Nat):ax cE 41 (Sc N):=fP.bU (bD (by intro a e h; simp only [List.mem_cons,Prod.mk.injEq,List.not_mem_nil,or_false] at h; rcases h with ⟨rfl,rfl⟩ | ⟨rfl,rfl⟩ | ⟨rfl,rfl⟩; exact ni N; exact vZ N; exact Dz N)) (by kernel_rfl) (by kernel_rfl)
theorem Ow (N:Nat) (a0:Int × Int):MB N a0 =
 (MA N (a0.1,a0.2)).bind fun y1=>bif ((a0.2 == a0.2)&&((a0.1 == a0.1)&&true)) then (Ir N (((EH .i64 (EI .i64 a0.1 a0.2) 1) != 0),14)).bind fun y2=>((bif (allFit (aq.fits qW) [(AV.int .i64 y1),(AV.int .i64 y2)]&&true) then some (List.map d30 [(AV.int .i64 y1),(AV.int .i64 y2)]) else none:Option ((List Int))).bind fun x4=>(wN N x4).bind fun y3=>some y3) else none:=by kernel_rfl
def Y5:List (Nat × dR):=[(26,.loop [] ⟨(.cons (.int .i64) .nil),[7],[],[],[],[]⟩ [(.ret,⟨(.cons (.int .i64) .nil),[2],[],[],[],[]⟩),(.ex 0,⟨.nil,[],[],[],[],[]⟩)])]
noncomputable def Sd (N:Nat):(List Int)→Option Int:=(cx N [] [(86,Y5)]).fn 1000 86 (.cons (.list 1 (.int .i64)) .nil) (.int .i64)
noncomputable def VI (N:Nat):a8:=⟨(.cons (.list 1 (.int .i64)) .nil),(.int .i64),Sd N⟩
theorem Iu (N:Nat):ax cE 86 (VI N):=fP.bU (fun _ _ h=>by cases h) (by kernel_rfl) (by kernel_rfl)
noncomputable def zU (N:Nat) (a0:List Int) (v1:Int):Option (Int ⊕ (Int ⊕ Unit)):=
 (bif (decide (v1 < ((((List.map n30 a0)).length:Nat):Int))) then bif (decide ((0:Int)≤v1∧v1 < (((List.map n30 a0)).length:Int))&&aq.fits qW (av (List.map n30 a0) (Int.toNat v1))) then (bif ((d30 (av (List.map n30 a0) (Int.toNat v1))) != 0) then (some (Sum.inr (Sum.inl (d30 (av (List.map n30 a0) (Int.toNat v1)))))) else (some (Sum.inl (IntKind.wrap .i64 (v1+1))))) else none else (some (Sum.inr (Sum.inr ()))))
theorem Ox (N:Nat) (a0:List Int):Sd N a0 =
 ((a6 (V:=Int) (X:=Int ⊕ Unit) (zU N a0) N 0).bind fun o6=>(Sum.elim (fun o7=>some o7) (fun o8=>some 0) o6)):=by kernel_rfl
noncomputable def MC (N:Nat):Bool × Int→Option Int:=(cx N [] []).fn 1000 88 (.cons .bool (.cons (.int .i64) .nil)) (.int .i64)
noncomputable def Ty (N:Nat):a8:=⟨(.cons .bool (.cons (.int .i64) .nil)),(.int .i64),MC N⟩
theorem DA (N:Nat):ax cE 88 (Ty N):=fP.bU (fun _ _ h=>by cases h) (by kernel_rfl) (by kernel_rfl)
theorem Oy (N:Nat) (a0:Bool) (a1:Int):MC N (a0,a1) =
 (bif a0 then some a1 else some 0):=by kernel_rfl
def Y6:List (Nat × dR):=[(6,.join [(.norm,⟨(.cons .bool .nil),[2],[],[],[],[]⟩)])]
noncomputable def Tz (N:Nat):Int→Option Bool:=(cx N [] [(91,Y6)]).fn 1000 91 (.cons (.int .i32) .nil) .bool
noncomputable def Xd (N:Nat):a8:=⟨(.cons (.int .i32) .nil),.bool,Tz N⟩
theorem Oz (N:Nat):ax cE 91 (Xd N):=fP.bU (fun _ _ h=>by cases h) (by kernel_rfl) (by kernel_rfl)
theorem OA (N:Nat) (a0:Int):Tz N a0 =
 (((bif (a0 == 78) then (some true) else (bif (a0 == 66) then (some true) else (some (a0 == 84)))):Option Bool).bind fun o1=>some o1):=by kernel_rfl
def Y7:List (Nat × dR):=[(58,.loop [] ⟨(.cons .str (.cons (.int .i64) .nil)),[],[],[],[.Bj],[]⟩ [(.ex 0,⟨(.cons .str (.cons (.int .i64) .nil)),[],[],[],[.Bj],[]⟩),(.ret,⟨(.cons (.int .i64) (.cons .str (.cons (.int .i64) .nil))),[2],[],[],[.Bj],[]⟩)])]
noncomputable def TA (N:Nat):(List UInt8)→Option Int:=(cx N [(86,VI N),(88,Ty N),(91,Xd N)] [(60,Y7)]).fn 1000 60 (.cons .str .nil) (.int .i64)
noncomputable def Xe (N:Nat):a8:=⟨(.cons .str .nil),(.int .i64),TA N⟩
theorem OB (N:Nat):ax cE 60 (Xe N):=fP.bU (bD (by intro a e h; simp only [List.mem_cons,Prod.mk.injEq,List.not_mem_nil,or_false] at h; rcases h with ⟨rfl,rfl⟩ | ⟨rfl,rfl⟩ | ⟨rfl,rfl⟩; exact Iu N; exact DA N; exact Oz N)) (by kernel_rfl) (by kernel_rfl)
noncomputable def v7 (N:Nat) (v5:(List UInt8) × Int):Option (((List UInt8) × Int) ⊕ (((List UInt8) × Int) ⊕ (Int × (List UInt8) × Int))):=
 (bif Nat.blt (Int.toNat v5.2) (List.length v5.1) then (Tz N (((bA v5.1 (Int.toNat v5.2)).1:Nat):Int)).bind fun y6=>(bif (!y6) then (some (Sum.inr (Sum.inr (1,v5.1,((((Int.toNat v5.2)+(bA v5.1 (Int.toNat v5.2)).2):Nat):Int))))) else (some (Sum.inl (v5.1,((((Int.toNat v5.2)+(bA v5.1 (Int.toNat v5.2)).2):Nat):Int))))) else (some (Sum.inr (Sum.inl (v5.1,(((Int.toNat v5.2):Nat):Int))))))
theorem OC (N:Nat) (a0:List UInt8):TA N a0 =
 (MC N ((a0 == ([]:List UInt8)),12)).bind fun y1=>(MC N ((decide ((((a0).length:Nat):Int) > 64)),26)).bind fun y2=>((bif (allFit (aq.fits qW) [(AV.int .i64 y1),(AV.int .i64 y2)]&&true) then some (List.map d30 [(AV.int .i64 y1),(AV.int .i64 y2)]) else none:Option ((List Int))).bind fun x4=>(Sd N x4).bind fun y3=>(bif (y3 != 0) then some y3 else ((a6 (V:=(List UInt8) × Int) (X:=((List UInt8) × Int) ⊕ (Int × (List UInt8) × Int)) (v7 N) N (a0,((0:Nat):Int))).bind fun Mn=>(Sum.elim (fun FO=>some 0) (fun rU=>some rU.1) Mn)))):=by kernel_rfl
def Y8:List (Nat × dR):=[(6,.join [(.norm,⟨(.cons (.int .i64) .nil),[6],[],[],[],[]⟩)])]
noncomputable def TB (N:Nat):Int × Int × Int→Option Int:=(cx N [(88,Ty N)] [(87,Y8)]).fn 1000 87 (.cons (.int .i64) (.cons (.int .i64) (.cons (.int .i64) .nil))) (.int .i64)
noncomputable def Xf (N:Nat):a8:=⟨(.cons (.int .i64) (.cons (.int .i64) (.cons (.int .i64) .nil))),(.int .i64),TB N⟩
theorem OD (N:Nat):ax cE 87 (Xf N):=fP.bU (bD (by intro a e h; simp only [List.mem_cons,Prod.mk.injEq,List.not_mem_nil,or_false] at h; rcases h with ⟨rfl,rfl⟩; exact DA N)) (by kernel_rfl) (by kernel_rfl)
theorem OE (N:Nat) (a0:Int) (a1:Int) (a2:Int):TB N (a0,a1,a2) =
 (((bif (decide (a0 < a1)) then (MC N (true,3)).bind fun y1=>(some y1) else (MC N ((decide (a0 > a2)),3)).bind fun y2=>(some y2)):Option Int).bind fun o3=>some o3):=by kernel_rfl
noncomputable def TC (N:Nat):(Int × Int) × (List UInt8) × Int→Option Int:=(cx N [(41,Sc N),(60,Xe N),(86,VI N),(87,Xf N),(88,Ty N)] []).fn 1000 67 (.cons (.agg (.cons (.int .i64) (.cons (.int .i64) .nil))) (.cons .str (.cons (.int .i64) .nil))) (.int .i64)
noncomputable def Xg (N:Nat):a8:=⟨(.cons (.agg (.cons (.int .i64) (.cons (.int .i64) .nil))) (.cons .str (.cons (.int .i64) .nil))),(.int .i64),TC N⟩
theorem OF (N:Nat):ax cE 67 (Xg N):=fP.bU (bD (by intro a e h; simp only [List.mem_cons,Prod.mk.injEq,List.not_mem_nil,or_false] at h; rcases h with ⟨rfl,rfl⟩ | ⟨rfl,rfl⟩ | ⟨rfl,rfl⟩ | ⟨rfl,rfl⟩ | ⟨rfl,rfl⟩; exact zT N; exact OB N; exact Iu N; exact OD N; exact DA N)) (by kernel_rfl) (by kernel_rfl)
theorem OG (N:Nat) (a0:Int × Int) (a1:List UInt8) (a2:Int):TC N (a0,a1,a2) =
 (MB N (a0.1,a0.2)).bind fun y1=>(TA N a1).bind fun y2=>(TB N (a2,1,256)).bind fun y3=>((bif (allFit (aq.fits qW) [(AV.int .i64 y1),(AV.int .i64 y2),(AV.int .i64 y3)]&&true) then some (List.map d30 [(AV.int .i64 y1),(AV.int .i64 y2),(AV.int .i64 y3)]) else none:Option ((List Int))).bind fun x5=>(Sd N x5).bind fun y4=>(bif (y4 != 0) then some y4 else (MC N ((decide ((IntKind.wrap .i64 ((((a1).length:Nat):Int) * a2)) > 256)),26)).bind fun y6=>some y6)):=by kernel_rfl
def Y9:List (Nat × dR):=[(125,.join [(.norm,⟨(.cons (.int .i64) (.cons (.list 2 (.agg (.cons (.int .i32) (.cons (.agg (.cons (.int .i64) (.cons (.int .i64) .nil))) .nil)))) .nil)),[12],[],[],[.map],[]⟩)]),
 (1018,.loop [(.slot 13,5,80)] ⟨(.cons (.own 2 5 (.agg (.cons (.int .i32) (.cons (.int .i64) (.cons (.int .i64) (.cons (.int .i64) (.cons (.int .i64) .nil))))))) (.cons (.int .i64) (.cons (.int .i64) (.cons (.list 2 (.agg (.cons (.int .i32) (.cons (.agg (.cons (.int .i64) (.cons (.int .i64) .nil))) .nil)))) (.cons .str (.cons (.int .i64) .nil)))))),[13],[],[(4,2)],[.map,.Bj,.tok 0 5 80],[]⟩ [(.ex 0,⟨(.cons (.own 2 5 (.agg (.cons (.int .i32) (.cons (.int .i64) (.cons (.int .i64) (.cons (.int .i64) (.cons (.int .i64) .nil))))))) (.cons (.int .i64) (.cons (.int .i64) (.cons (.list 2 (.agg (.cons (.int .i32) (.cons (.agg (.cons (.int .i64) (.cons (.int .i64) .nil))) .nil)))) (.cons .str (.cons (.int .i64) .nil)))))),[13],[],[(4,2)],[.map,.Bj,.tok 0 5 80],[]⟩),(.ret,⟨(.cons (.lg (.list .nil 0 [])) (.cons (.int .i64) (.cons (.int .i64) (.cons (.int .i64) (.cons (.list 2 (.agg (.cons (.int .i32) (.cons (.agg (.cons (.int .i64) (.cons (.int .i64) .nil))) .nil)))) (.cons .str (.cons (.int .i64) .nil))))))),[8,9],[],[(4,2)],[.map,.Bj,.dead],[]⟩)])]
noncomputable def Se (N:Nat):(Int × Int) × (List UInt8) × Int × Bool→Option ((List (Int × Int × Int × Int × Int)) × Int):=(cx N [(41,Sc N),(67,Xg N),(69,Xc N)] [(30,Y9)]).fn 1000 30 (.cons (.agg (.cons (.int .i64) (.cons (.int .i64) .nil))) (.cons .str (.cons (.int .i64) (.cons .bool .nil)))) (.bt (.cons (.list 5 (.agg (.cons (.int .i32) (.cons (.int .i64) (.cons (.int .i64) (.cons (.int .i64) (.cons (.int .i64) .nil))))))) (.cons (.int .i64) .nil)))
noncomputable def VJ (N:Nat):a8:=⟨(.cons (.agg (.cons (.int .i64) (.cons (.int .i64) .nil))) (.cons .str (.cons (.int .i64) (.cons .bool .nil)))),(.bt (.cons (.list 5 (.agg (.cons (.int .i32) (.cons (.int .i64) (.cons (.int .i64) (.cons (.int .i64) (.cons (.int .i64) .nil))))))) (.cons (.int .i64) .nil))),Se N⟩
theorem Iv (N:Nat):ax cE 30 (VJ N):=fP.bU (bD (by intro a e h; simp only [List.mem_cons,Prod.mk.injEq,List.not_mem_nil,or_false] at h; rcases h with ⟨rfl,rfl⟩ | ⟨rfl,rfl⟩ | ⟨rfl,rfl⟩; exact zT N; exact OF N; exact Ot N)) (by kernel_rfl) (by kernel_rfl)
noncomputable def nj (N:Nat) (o4:(Int × (List (Int × (Int × Int))))) (v6:(List (Int × Int × Int × Int × Int)) × Int × Int × (List (Int × (Int × Int))) × (List UInt8) × Int):Option (((List (Int × Int × Int × Int × Int)) × Int × Int × (List (Int × (Int × Int))) × (List UInt8) × Int) ⊕ (((List (Int × Int × Int × Int × Int)) × Int × Int × (List (Int × (Int × Int))) × (List UInt8) × Int) ⊕ (Unit × Int × Int × Int × (List (Int × (Int × Int))) × (List UInt8) × Int))):=
 (bif Nat.blt (Int.toNat v6.2.2.2.2.2) (List.length v6.2.2.2.2.1) then bif (dc .int (AV.int .i32 (((bA v6.2.2.2.2.1 (Int.toNat v6.2.2.2.2.2)).1:Nat):Int)) (ae (List.map da v6.2.2.2.1))&&aq.fits yu (b8 .int (AV.int .i32 (((bA v6.2.2.2.2.1 (Int.toNat v6.2.2.2.2.2)).1:Nat):Int)) (AV.agg [(AV.int .i64 0),(AV.int .i64 0)]) (ae (List.map da v6.2.2.2.1)))) then bif (dc .int (AV.int .i32 (((bA v6.2.2.2.2.1 (Int.toNat v6.2.2.2.2.2)).1:Nat):Int)) (ae (List.map da v6.2.2.2.1))&&aq.fits yu (b8 .int (AV.int .i32 (((bA v6.2.2.2.2.1 (Int.toNat v6.2.2.2.2.2)).1:Nat):Int)) (AV.agg [(AV.int .i64 0),(AV.int .i64 0)]) (ae (List.map da v6.2.2.2.1)))) then (MB N ((IntKind.wrap .i64 (v6.2.1+(IntKind.wrap .i64 (o4.1 * (d46 (b8 .int (AV.int .i32 (((bA v6.2.2.2.2.1 (Int.toNat v6.2.2.2.2.2)).1:Nat):Int)) (AV.agg [(AV.int .i64 0),(AV.int .i64 0)]) (ae (List.map da v6.2.2.2.1)))).1)))),(IntKind.wrap .i64 (v6.2.2.1+(d46 (b8 .int (AV.int .i32 (((bA v6.2.2.2.2.1 (Int.toNat v6.2.2.2.2.2)).1:Nat):Int)) (AV.agg [(AV.int .i64 0),(AV.int .i64 0)]) (ae (List.map da v6.2.2.2.1)))).2)))).bind fun y7=>(bif (y7 != 0) then ((((bif (allFit (aq.fits nh) (ao (ae (List.map da v6.2.2.2.1)))&&true) then some ((),32,v6.2.1,v6.2.2.1,(List.map qy (ao (ae (List.map da v6.2.2.2.1)))),v6.2.2.2.2.1,((((Int.toNat v6.2.2.2.2.2)+(bA v6.2.2.2.2.1 (Int.toNat v6.2.2.2.2.2)).2):Nat):Int)) else none:Option (Unit × Int × Int × Int × (List (Int × (Int × Int))) × (List UInt8) × Int)).bind fun w8=>bif (bZ (ae (List.map da v6.2.2.2.1))&&true) then some w8 else none).bind fun u9=>some (Sum.inr u9)).bind fun Za=>some (Sum.inr Za)) else bif (decide ((((List.map iT v6.1)).length)=((List.map iT v6.1)).length)&&decide ((((List.map iT v6.1)).length+1) * 40≤140737488355328)) then (((bif (allFit (aq.fits BD) ((List.map iT v6.1)++[(AV.agg [(AV.int .i32 (((bA v6.2.2.2.2.1 (Int.toNat v6.2.2.2.2.2)).1:Nat):Int)),(AV.int .i64 v6.2.1),(AV.int .i64 v6.2.2.1),(AV.int .i64 (IntKind.wrap .i64 (v6.2.1+(IntKind.wrap .i64 (o4.1 * (d46 (b8 .int (AV.int .i32 (((bA v6.2.2.2.2.1 (Int.toNat v6.2.2.2.2.2)).1:Nat):Int)) (AV.agg [(AV.int .i64 0),(AV.int .i64 0)]) (ae (List.map da v6.2.2.2.1)))).1))))),(AV.int .i64 (IntKind.wrap .i64 (v6.2.2.1+(d46 (b8 .int (AV.int .i32 (((bA v6.2.2.2.2.1 (Int.toNat v6.2.2.2.2.2)).1:Nat):Int)) (AV.agg [(AV.int .i64 0),(AV.int .i64 0)]) (ae (List.map da v6.2.2.2.1)))).2)))])])&&(allFit (aq.fits nh) (ao (ae (List.map da v6.2.2.2.1)))&&true)) then some ((List.map d80 ((List.map iT v6.1)++[(AV.agg [(AV.int .i32 (((bA v6.2.2.2.2.1 (Int.toNat v6.2.2.2.2.2)).1:Nat):Int)),(AV.int .i64 v6.2.1),(AV.int .i64 v6.2.2.1),(AV.int .i64 (IntKind.wrap .i64 (v6.2.1+(IntKind.wrap .i64 (o4.1 * (d46 (b8 .int (AV.int .i32 (((bA v6.2.2.2.2.1 (Int.toNat v6.2.2.2.2.2)).1:Nat):Int)) (AV.agg [(AV.int .i64 0),(AV.int .i64 0)]) (ae (List.map da v6.2.2.2.1)))).1))))),(AV.int .i64 (IntKind.wrap .i64 (v6.2.2.1+(d46 (b8 .int (AV.int .i32 (((bA v6.2.2.2.2.1 (Int.toNat v6.2.2.2.2.2)).1:Nat):Int)) (AV.agg [(AV.int .i64 0),(AV.int .i64 0)]) (ae (List.map da v6.2.2.2.1)))).2)))])])),(IntKind.wrap .i64 (v6.2.1+(IntKind.wrap .i64 (o4.1 * (d46 (b8 .int (AV.int .i32 (((bA v6.2.2.2.2.1 (Int.toNat v6.2.2.2.2.2)).1:Nat):Int)) (AV.agg [(AV.int .i64 0),(AV.int .i64 0)]) (ae (List.map da v6.2.2.2.1)))).1)))),(IntKind.wrap .i64 (v6.2.2.1+(d46 (b8 .int (AV.int .i32 (((bA v6.2.2.2.2.1 (Int.toNat v6.2.2.2.2.2)).1:Nat):Int)) (AV.agg [(AV.int .i64 0),(AV.int .i64 0)]) (ae (List.map da v6.2.2.2.1)))).2)),(List.map qy (ao (ae (List.map da v6.2.2.2.1)))),v6.2.2.2.2.1,((((Int.toNat v6.2.2.2.2.2)+(bA v6.2.2.2.2.1 (Int.toNat v6.2.2.2.2.2)).2):Nat):Int)) else none:Option ((List (Int × Int × Int × Int × Int)) × Int × Int × (List (Int × (Int × Int))) × (List UInt8) × Int)).bind fun Sf=>bif (bZ (ae (List.map da v6.2.2.2.1))&&(decide (((((List.map iT v6.1)).length)+1)=(List.map iT Sf.1).length)&&true)) then some Sf else none).bind fun Zb=>some (Sum.inl Zb)) else none) else none else none else ((((bif (allFit (aq.fits BD) (List.map iT v6.1)&&(allFit (aq.fits nh) (ao (ae (List.map da v6.2.2.2.1)))&&true)) then some ((List.map d80 (List.map iT v6.1)),v6.2.1,v6.2.2.1,(List.map qy (ao (ae (List.map da v6.2.2.2.1)))),v6.2.2.2.2.1,(((Int.toNat v6.2.2.2.2.2):Nat):Int)) else none:Option ((List (Int × Int × Int × Int × Int)) × Int × Int × (List (Int × (Int × Int))) × (List UInt8) × Int)).bind fun OH=>bif (bZ (ae (List.map da v6.2.2.2.1))&&(decide ((((List.map iT v6.1)).length)=(List.map iT OH.1).length)&&true)) then some OH else none).bind fun Zc=>some (Sum.inl Zc)).bind fun Zd=>some (Sum.inr Zd)))
theorem OI (N:Nat) (a0:Int × Int) (a1:List UInt8) (a2:Int) (a3:Bool):Se N (a0,a1,a2,a3) =
 (TC N ((a0.1,a0.2),a1,a2)).bind fun y1=>(bif (y1 != 0) then (bif (allFit (aq.fits BD) ([]:List AV)&&true) then some ((List.map d80 ([]:List AV)),y1) else none) else bif (dc .int (AV.int .i32 78) ([]:List (AV × AV))) then bif (dc .int (AV.int .i32 66) (bz .int (AV.int .i32 78) (AV.agg [(AV.int .i64 0),(AV.int .i64 2)]) ([]:List (AV × AV)))) then bif (dc .int (AV.int .i32 84) (bz .int (AV.int .i32 66) (AV.agg [(AV.int .i64 1),(AV.int .i64 1)]) (bz .int (AV.int .i32 78) (AV.agg [(AV.int .i64 0),(AV.int .i64 2)]) ([]:List (AV × AV))))) then (((bif (!a3) then ((bif (allFit (aq.fits nh) (ao (bz .int (AV.int .i32 84) (AV.agg [(AV.int .i64 2),(AV.int .i64 0)]) (bz .int (AV.int .i32 66) (AV.agg [(AV.int .i64 1),(AV.int .i64 1)]) (bz .int (AV.int .i32 78) (AV.agg [(AV.int .i64 0),(AV.int .i64 2)]) ([]:List (AV × AV))))))&&true) then some ((-1),(List.map qy (ao (bz .int (AV.int .i32 84) (AV.agg [(AV.int .i64 2),(AV.int .i64 0)]) (bz .int (AV.int .i32 66) (AV.agg [(AV.int .i64 1),(AV.int .i64 1)]) (bz .int (AV.int .i32 78) (AV.agg [(AV.int .i64 0),(AV.int .i64 2)]) ([]:List (AV × AV)))))))) else none:Option (Int × (List (Int × (Int × Int))))).bind fun w2=>bif (bZ (bz .int (AV.int .i32 84) (AV.agg [(AV.int .i64 2),(AV.int .i64 0)]) (bz .int (AV.int .i32 66) (AV.agg [(AV.int .i64 1),(AV.int .i64 1)]) (bz .int (AV.int .i32 78) (AV.agg [(AV.int .i64 0),(AV.int .i64 2)]) ([]:List (AV × AV)))))&&true) then some w2 else none) else ((bif (allFit (aq.fits nh) (ao (bz .int (AV.int .i32 84) (AV.agg [(AV.int .i64 2),(AV.int .i64 0)]) (bz .int (AV.int .i32 66) (AV.agg [(AV.int .i64 1),(AV.int .i64 1)]) (bz .int (AV.int .i32 78) (AV.agg [(AV.int .i64 0),(AV.int .i64 2)]) ([]:List (AV × AV))))))&&true) then some (1,(List.map qy (ao (bz .int (AV.int .i32 84) (AV.agg [(AV.int .i64 2),(AV.int .i64 0)]) (bz .int (AV.int .i32 66) (AV.agg [(AV.int .i64 1),(AV.int .i64 1)]) (bz .int (AV.int .i32 78) (AV.agg [(AV.int .i64 0),(AV.int .i64 2)]) ([]:List (AV × AV)))))))) else none:Option (Int × (List (Int × (Int × Int))))).bind fun w3=>bif (bZ (bz .int (AV.int .i32 84) (AV.agg [(AV.int .i64 2),(AV.int .i64 0)]) (bz .int (AV.int .i32 66) (AV.agg [(AV.int .i64 1),(AV.int .i64 1)]) (bz .int (AV.int .i32 78) (AV.agg [(AV.int .i64 0),(AV.int .i64 2)]) ([]:List (AV × AV)))))&&true) then some w3 else none)):Option ((Int × (List (Int × (Int × Int)))))).bind fun o4=>(VG N (a1,a2)).bind fun y5=>(((bif (allFit (aq.fits BD) ([]:List AV)&&(allFit (aq.fits nh) (ao (ae (List.map da o4.2)))&&true)) then some ((List.map d80 ([]:List AV)),a0.1,a0.2,(List.map qy (ao (ae (List.map da o4.2)))),y5,((0:Nat):Int)) else none:Option ((List (Int × Int × Int × Int × Int)) × Int × Int × (List (Int × (Int × Int))) × (List UInt8) × Int)).bind fun Jr=>bif (bZ (ae (List.map da o4.2))&&(decide (0=(List.map iT Jr.1).length)&&true)) then some Jr else none).bind fun VK=>(a6 (V:=(List (Int × Int × Int × Int × Int)) × Int × Int × (List (Int × (Int × Int))) × (List UInt8) × Int) (X:=((List (Int × Int × Int × Int × Int)) × Int × Int × (List (Int × (Int × Int))) × (List UInt8) × Int) ⊕ (Unit × Int × Int × Int × (List (Int × (Int × Int))) × (List UInt8) × Int)) (nj N o4) N VK).bind fun Xh=>(Sum.elim (fun Xi=>(bif (allFit (aq.fits BD) (List.map iT Xi.1)&&true) then some ((List.map d80 (List.map iT Xi.1)),0) else none)) (fun fQ=>(bif (allFit (aq.fits BD) ([]:List AV)&&true) then some ((List.map d80 ([]:List AV)),fQ.2.1) else none)) Xh))) else none else none else none):=by kernel_rfl
def c8:List (Nat × dR):=[(250,.loop [(.slot 12,3,59)] ⟨(.cons (.own 0 3 (.agg (.cons (.int .i64) (.cons (.int .i64) (.cons (.int .i64) .nil))))) (.cons (.int .i64) .nil)),[12,28],[],[],[.tok 0 3 59],[]⟩ [(.ex 0,⟨(.cons (.own 0 3 (.agg (.cons (.int .i64) (.cons (.int .i64) (.cons (.int .i64) .nil))))) .nil),[12],[],[],[.tok 0 3 59],[]⟩)]),
 (4006,.join [(.norm,⟨(.cons (.own 0 3 (.agg (.cons (.int .i64) (.cons (.int .i64) (.cons (.int .i64) .nil))))) .nil),[12],[],[],[.tok 0 3 59],[]⟩)])]
noncomputable def T8 (N:Nat):(Int × Int) × (List UInt8) × Int × Bool→Option ((List (Int × Int × Int)) × Int):=(cx N [(30,VJ N)] [(8,c8)]).fn 1000 8 (.cons (.agg (.cons (.int .i64) (.cons (.int .i64) .nil))) (.cons .str (.cons (.int .i64) (.cons .bool .nil)))) (.bt (.cons (.list 3 (.agg (.cons (.int .i64) (.cons (.int .i64) (.cons (.int .i64) .nil))))) (.cons (.int .i64) .nil)))
noncomputable def e8 (N:Nat):a8:=⟨(.cons (.agg (.cons (.int .i64) (.cons (.int .i64) .nil))) (.cons .str (.cons (.int .i64) (.cons .bool .nil)))),(.bt (.cons (.list 3 (.agg (.cons (.int .i64) (.cons (.int .i64) (.cons (.int .i64) .nil))))) (.cons (.int .i64) .nil))),T8 N⟩
theorem Sg (N:Nat):ax cE 8 (e8 N):=fP.bU (bD (by intro a e h; simp only [List.mem_cons,Prod.mk.injEq,List.not_mem_nil,or_false] at h; rcases h with ⟨rfl,rfl⟩; exact Iv N)) (by kernel_rfl) (by kernel_rfl)
noncomputable def wg (N:Nat) (y1:(List (Int × Int × Int × Int × Int)) × Int) (v2:(List (Int × Int × Int)) × Int):Option (((List (Int × Int × Int)) × Int) ⊕ (((List (Int × Int × Int))))):=
 (bif (decide (v2.2 < ((((List.map iT y1.1)).length:Nat):Int))) then ((bif (decide ((0:Int)≤v2.2∧v2.2 < (((List.map iT y1.1)).length:Int))&&aq.fits BD (av (List.map iT y1.1) (Int.toNat v2.2))) then (bif ((d80 (av (List.map iT y1.1) (Int.toNat v2.2))).1 == 66) then bif (decide ((((List.map n59 v2.1)).length)=((List.map n59 v2.1)).length)&&decide ((((List.map n59 v2.1)).length+1) * 24≤140737488355328)) then ((bif (allFit (aq.fits b6) ((List.map n59 v2.1)++[(AV.agg [(AV.int .i64 (d80 (av (List.map iT y1.1) (Int.toNat v2.2))).2.1),(AV.int .i64 (d80 (av (List.map iT y1.1) (Int.toNat v2.2))).2.2.1),(AV.int .i64 (IntKind.wrap .i64 ((d80 (av (List.map iT y1.1) (Int.toNat v2.2))).2.2.2.1 - (d80 (av (List.map iT y1.1) (Int.toNat v2.2))).2.1)))])])&&true) then some (List.map d59 ((List.map n59 v2.1)++[(AV.agg [(AV.int .i64 (d80 (av (List.map iT y1.1) (Int.toNat v2.2))).2.1),(AV.int .i64 (d80 (av (List.map iT y1.1) (Int.toNat v2.2))).2.2.1),(AV.int .i64 (IntKind.wrap .i64 ((d80 (av (List.map iT y1.1) (Int.toNat v2.2))).2.2.2.1 - (d80 (av (List.map iT y1.1) (Int.toNat v2.2))).2.1)))])])) else none:Option ((List (Int × Int × Int)))).bind fun w3=>bif (decide (((((List.map n59 v2.1)).length)+1)=(List.map n59 w3).length)&&true) then some w3 else none) else none else ((bif (allFit (aq.fits b6) (List.map n59 v2.1)&&true) then some (List.map d59 (List.map n59 v2.1)) else none:Option ((List (Int × Int × Int)))).bind fun w4=>bif (decide ((((List.map n59 v2.1)).length)=(List.map n59 w4).length)&&true) then some w4 else none)) else none:Option (((List (Int × Int × Int))))).bind fun o5=>(((bif (allFit (aq.fits b6) (List.map n59 o5)&&true) then some ((List.map d59 (List.map n59 o5)),(IntKind.wrap .i64 (v2.2+1))) else none:Option ((List (Int × Int × Int)) × Int)).bind fun w6=>bif (decide ((((List.map n59 o5)).length)=(List.map n59 w6.1).length)&&true) then some w6 else none).bind fun u7=>some (Sum.inl u7))) else (((bif (allFit (aq.fits b6) (List.map n59 v2.1)&&true) then some (List.map d59 (List.map n59 v2.1)) else none:Option ((List (Int × Int × Int)))).bind fun w8=>bif (decide ((((List.map n59 v2.1)).length)=(List.map n59 w8).length)&&true) then some w8 else none).bind fun u9=>some (Sum.inr u9)))
theorem Sh (N:Nat) (a0:Int × Int) (a1:List UInt8) (a2:Int) (a3:Bool):T8 N (a0,a1,a2,a3) =
 (Se N ((a0.1,a0.2),a1,a2,a3)).bind fun y1=>(bif (y1.2 != 0) then (bif (allFit (aq.fits b6) ([]:List AV)&&true) then some ((List.map d59 ([]:List AV)),y1.2) else none) else (((bif (allFit (aq.fits b6) ([]:List AV)&&true) then some ((List.map d59 ([]:List AV)),0) else none:Option ((List (Int × Int × Int)) × Int)).bind fun BE=>bif (decide (0=(List.map n59 BE.1).length)&&true) then some BE else none).bind fun VL=>(a6 (V:=(List (Int × Int × Int)) × Int) (X:=((List (Int × Int × Int)))) (wg N y1) N VL).bind fun Mn=>(bif (allFit (aq.fits b6) (List.map n59 Mn)&&true) then some ((List.map d59 (List.map n59 Mn)),0) else none))):=by kernel_rfl
def Ze:List (Nat × dR):=[(6,.join [(.norm,⟨(.cons .bool .nil),[2],[],[],[],[]⟩)])]
noncomputable def TD (N:Nat):Int→Option Bool:=(cx N [] [(65,Ze)]).fn 1000 65 (.cons (.int .i64) .nil) .bool
noncomputable def Xj (N:Nat):a8:=⟨(.cons (.int .i64) .nil),.bool,TD N⟩
theorem OJ (N:Nat):ax cE 65 (Xj N):=fP.bU (fun _ _ h=>by cases h) (by kernel_rfl) (by kernel_rfl)
theorem Iw (N:Nat) (a0:Int):TD N a0 =
 (((bif (decide (a0 < (-100000))) then (some true) else (some (decide (a0 > 100000)))):Option Bool).bind fun o1=>some o1):=by kernel_rfl
noncomputable def VM (N:Nat):Int × Int→Option Bool:=(cx N [] []).fn 1000 66 (.cons (.int .i64) (.cons (.int .i64) .nil)) .bool
noncomputable def Xk (N:Nat):a8:=⟨(.cons (.int .i64) (.cons (.int .i64) .nil)),.bool,VM N⟩
theorem OK (N:Nat):ax cE 66 (Xk N):=fP.bU (fun _ _ h=>by cases h) (by kernel_rfl) (by kernel_rfl)
theorem OL (N:Nat) (a0:Int) (a1:Int):VM N (a0,a1) =
 some ((Int.tmod (IntKind.wrap .i64 (a0+a1)) 2) == 0):=by kernel_rfl
def Zf:List (Nat × dR):=[(12,.join [(.norm,⟨(.cons .bool .nil),[10],[],[],[],[]⟩)])]
noncomputable def Lf (N:Nat):(Int × Int)→Option Int:=(cx N [(65,Xj N),(66,Xk N)] [(29,Zf)]).fn 1000 29 (.cons (.agg (.cons (.int .i64) (.cons (.int .i64) .nil))) .nil) (.int .i64)
noncomputable def VN (N:Nat):a8:=⟨(.cons (.agg (.cons (.int .i64) (.cons (.int .i64) .nil))) .nil),(.int .i64),Lf N⟩
theorem Ix (N:Nat):ax cE 29 (VN N):=fP.bU (bD (by intro a e h; simp only [List.mem_cons,Prod.mk.injEq,List.not_mem_nil,or_false] at h; rcases h with ⟨rfl,rfl⟩ | ⟨rfl,rfl⟩; exact OJ N; exact OK N)) (by kernel_rfl) (by kernel_rfl)
theorem OM (N:Nat) (a0:Int × Int):Lf N a0 =
 (((TD N a0.1).bind fun y1=>(bif y1 then (some true) else (TD N a0.2).bind fun y2=>(some y2)):Option Bool).bind fun o3=>(bif o3 then some 3 else (VM N (a0.1,a0.2)).bind fun y4=>(bif (!y4) then some 14 else some 0))):=by kernel_rfl
noncomputable def Si (N:Nat):(Int × Int × Int)→Option ((Int × Int)):=(cx N [] []).fn 1000 70 (.cons (.agg (.cons (.int .i64) (.cons (.int .i64) (.cons (.int .i64) .nil)))) .nil) (.agg (.cons (.int .i64) (.cons (.int .i64) .nil)))
noncomputable def Xl (N:Nat):a8:=⟨(.cons (.agg (.cons (.int .i64) (.cons (.int .i64) (.cons (.int .i64) .nil)))) .nil),(.agg (.cons (.int .i64) (.cons (.int .i64) .nil))),Si N⟩
theorem ON (N:Nat):ax cE 70 (Xl N):=fP.bU (fun _ _ h=>by cases h) (by kernel_rfl) (by kernel_rfl)
theorem OO (N:Nat) (a0:Int × Int × Int):Si N a0 =
 some (a0.1,a0.2.1):=by kernel_rfl
noncomputable def Sj (N:Nat):(Int × Int × Int)→Option ((Int × Int)):=(cx N [] []).fn 1000 71 (.cons (.agg (.cons (.int .i64) (.cons (.int .i64) (.cons (.int .i64) .nil)))) .nil) (.agg (.cons (.int .i64) (.cons (.int .i64) .nil)))
noncomputable def Xm (N:Nat):a8:=⟨(.cons (.agg (.cons (.int .i64) (.cons (.int .i64) (.cons (.int .i64) .nil)))) .nil),(.agg (.cons (.int .i64) (.cons (.int .i64) .nil))),Sj N⟩
theorem OP (N:Nat):ax cE 71 (Xm N):=fP.bU (fun _ _ h=>by cases h) (by kernel_rfl) (by kernel_rfl)
theorem OQ (N:Nat) (a0:Int × Int × Int):Sj N a0 =
 some ((IntKind.wrap .i64 (a0.1+a0.2.2)),(IntKind.wrap .i64 (a0.2.1+1))):=by kernel_rfl
def Zg:List (Nat × dR):=[(28,.join [(.norm,⟨(.cons .bool .nil),[18],[],[],[],[]⟩)]),
 (29,.join [(.norm,⟨(.cons (.int .i64) .nil),[3],[],[],[],[]⟩)]),
 (61,.join [(.norm,⟨(.cons (.int .i64) .nil),[3],[],[],[],[]⟩)])]
noncomputable def Sk (N:Nat):(Int × Int × Int)→Option Int:=(cx N [(29,VN N),(70,Xl N),(71,Xm N)] [(31,Zg)]).fn 1000 31 (.cons (.agg (.cons (.int .i64) (.cons (.int .i64) (.cons (.int .i64) .nil)))) .nil) (.int .i64)
noncomputable def Xn (N:Nat):a8:=⟨(.cons (.agg (.cons (.int .i64) (.cons (.int .i64) (.cons (.int .i64) .nil)))) .nil),(.int .i64),Sk N⟩
theorem OR (N:Nat):ax cE 31 (Xn N):=fP.bU (bD (by intro a e h; simp only [List.mem_cons,Prod.mk.injEq,List.not_mem_nil,or_false] at h; rcases h with ⟨rfl,rfl⟩ | ⟨rfl,rfl⟩ | ⟨rfl,rfl⟩; exact Ix N; exact ON N; exact OP N)) (by kernel_rfl) (by kernel_rfl)
theorem OS (N:Nat) (a0:Int × Int × Int):Sk N a0 =
 (Si N (a0.1,a0.2.1,a0.2.2)).bind fun y1=>(Lf N (y1.1,y1.2)).bind fun y2=>(((bif (y2 == 0) then (bif (a0.2.2 != 1) then (some (a0.2.2 != (-1))) else (some false)) else (some false)):Option Bool).bind fun o3=>(((bif o3 then (some 13) else (some y2)):Option Int).bind fun o4=>(((bif (o4 == 0) then (Sj N (a0.1,a0.2.1,a0.2.2)).bind fun y5=>(Lf N (y5.1,y5.2)).bind fun y6=>(some y6) else (some o4)):Option Int).bind fun o7=>some o7))):=by kernel_rfl
noncomputable def Sl (N:Nat):(Int × Int × Int) × (Int × Int × Int)→Option Bool:=(cx N [] []).fn 1000 32 (.cons (.agg (.cons (.int .i64) (.cons (.int .i64) (.cons (.int .i64) .nil)))) (.cons (.agg (.cons (.int .i64) (.cons (.int .i64) (.cons (.int .i64) .nil)))) .nil)) .bool
noncomputable def Xo (N:Nat):a8:=⟨(.cons (.agg (.cons (.int .i64) (.cons (.int .i64) (.cons (.int .i64) .nil)))) (.cons (.agg (.cons (.int .i64) (.cons (.int .i64) (.cons (.int .i64) .nil)))) .nil)),.bool,Sl N⟩
theorem OT (N:Nat):ax cE 32 (Xo N):=fP.bU (fun _ _ h=>by cases h) (by kernel_rfl) (by kernel_rfl)
theorem OU (N:Nat) (a0:Int × Int × Int) (a1:Int × Int × Int):Sl N (a0,a1) =
 (bif (a0.2.1 != a1.2.1) then some (decide (a0.2.1 < a1.2.1)) else (bif (a0.1 != a1.1) then some (decide (a0.1 < a1.1)) else some (decide (a0.2.2 < a1.2.2)))):=by kernel_rfl
def c9:List (Nat × dR):=[(58,.loop [] ⟨(.cons (.int .i64) .nil),[3],[],[],[],[]⟩ [(.ret,⟨(.cons (.int .i64) .nil),[2],[],[],[],[]⟩),(.ex 0,⟨.nil,[],[],[],[],[]⟩)]),
 (7462,.join [(.norm,⟨(.cons .bool .nil),[36],[],[],[],[]⟩)])]
noncomputable def T9 (N:Nat):(List (Int × Int × Int))→Option Int:=(cx N [(31,Xn N),(32,Xo N)] [(9,c9)]).fn 1000 9 (.cons (.list 3 (.agg (.cons (.int .i64) (.cons (.int .i64) (.cons (.int .i64) .nil))))) .nil) (.int .i64)
noncomputable def e9 (N:Nat):a8:=⟨(.cons (.list 3 (.agg (.cons (.int .i64) (.cons (.int .i64) (.cons (.int .i64) .nil))))) .nil),(.int .i64),T9 N⟩
theorem Sm (N:Nat):ax cE 9 (e9 N):=fP.bU (bD (by intro a e h; simp only [List.mem_cons,Prod.mk.injEq,List.not_mem_nil,or_false] at h; rcases h with ⟨rfl,rfl⟩ | ⟨rfl,rfl⟩; exact OR N; exact OT N)) (by kernel_rfl) (by kernel_rfl)
noncomputable def Ez (N:Nat) (a0:List (Int × Int × Int)) (v1:Int):Option (Int ⊕ (Int ⊕ Unit)):=
 (bif (decide (v1 < ((((List.map n59 a0)).length:Nat):Int))) then bif (decide ((0:Int)≤v1∧v1 < (((List.map n59 a0)).length:Int))&&aq.fits b6 (av (List.map n59 a0) (Int.toNat v1))) then (Sk N ((d59 (av (List.map n59 a0) (Int.toNat v1))).1,(d59 (av (List.map n59 a0) (Int.toNat v1))).2.1,(d59 (av (List.map n59 a0) (Int.toNat v1))).2.2)).bind fun y2=>(bif (y2 != 0) then (some (Sum.inr (Sum.inl y2))) else (((bif (decide (v1 > 0)) then bif (decide ((0:Int)≤(IntKind.wrap .i64 (v1 - 1))∧(IntKind.wrap .i64 (v1 - 1)) < (((List.map n59 a0)).length:Int))&&aq.fits b6 (av (List.map n59 a0) (Int.toNat (IntKind.wrap .i64 (v1 - 1))))) then bif (decide ((0:Int)≤v1∧v1 < (((List.map n59 a0)).length:Int))&&aq.fits b6 (av (List.map n59 a0) (Int.toNat v1))) then (Sl N (((d59 (av (List.map n59 a0) (Int.toNat (IntKind.wrap .i64 (v1 - 1))))).1,(d59 (av (List.map n59 a0) (Int.toNat (IntKind.wrap .i64 (v1 - 1))))).2.1,(d59 (av (List.map n59 a0) (Int.toNat (IntKind.wrap .i64 (v1 - 1))))).2.2),((d59 (av (List.map n59 a0) (Int.toNat v1))).1,(d59 (av (List.map n59 a0) (Int.toNat v1))).2.1,(d59 (av (List.map n59 a0) (Int.toNat v1))).2.2))).bind fun y5=>(some (!y5)) else none else none else (some false)):Option Bool).bind fun o6=>(bif o6 then (some (Sum.inr (Sum.inl 11))) else (some (Sum.inl (IntKind.wrap .i64 (v1+1))))))) else none else (some (Sum.inr (Sum.inr ()))))
theorem Sn (N:Nat) (a0:List (Int × Int × Int)):T9 N a0 =
 (bif (decide (((((List.map n59 a0)).length:Nat):Int) > 4096)) then some 5 else ((a6 (V:=Int) (X:=Int ⊕ Unit) (Ez N a0) N 0).bind fun Mn=>(Sum.elim (fun FO=>some FO) (fun rU=>some 0) Mn))):=by kernel_rfl
def Zh:List (Nat × dR):=[(6,.join [(.norm,⟨(.cons .bool .nil),[2],[],[],[],[]⟩)])]
noncomputable def TE (N:Nat):Int→Option Bool:=(cx N [] [(64,Zh)]).fn 1000 64 (.cons (.int .u8) .nil) .bool
noncomputable def Xp (N:Nat):a8:=⟨(.cons (.int .u8) .nil),.bool,TE N⟩
theorem OV (N:Nat):ax cE 64 (Xp N):=fP.bU (fun _ _ h=>by cases h) (by kernel_rfl) (by kernel_rfl)
theorem OW (N:Nat) (a0:Int):TE N a0 =
 (((bif (a0 == 78) then (some true) else (bif (a0 == 66) then (some true) else (some (a0 == 84)))):Option Bool).bind fun o1=>some o1):=by kernel_rfl
def Zi:List (Nat × dR):=[(122,.loop [] ⟨(.cons (.int .i64) .nil),[3],[],[],[],[]⟩ [(.ret,⟨(.cons (.int .i64) .nil),[2],[],[],[],[]⟩),(.ex 0,⟨.nil,[],[],[],[],[]⟩)])]
noncomputable def TF (N:Nat):(List UInt8)→Option Int:=(cx N [(64,Xp N)] [(28,Zi)]).fn 1000 28 (.cons .str .nil) (.int .i64)
noncomputable def Xq (N:Nat):a8:=⟨(.cons .str .nil),(.int .i64),TF N⟩
theorem OX (N:Nat):ax cE 28 (Xq N):=fP.bU (bD (by intro a e h; simp only [List.mem_cons,Prod.mk.injEq,List.not_mem_nil,or_false] at h; rcases h with ⟨rfl,rfl⟩; exact OV N)) (by kernel_rfl) (by kernel_rfl)
noncomputable def qz (N:Nat) (a0:List UInt8) (v1:Int):Option (Int ⊕ (Int ⊕ Unit)):=
 (bif (decide (v1 < (((a0).length:Nat):Int))) then bif decide ((0:Int)≤v1∧v1 < ((a0).length:Int)) then (TE N ((((a0).getD (Int.toNat v1) 0).toNat:Nat):Int)).bind fun y2=>(bif (!y2) then (some (Sum.inr (Sum.inl 1))) else (some (Sum.inl (IntKind.wrap .i64 (v1+1))))) else none else (some (Sum.inr (Sum.inr ()))))
theorem OY (N:Nat) (a0:List UInt8):TF N a0 =
 (bif (a0 == ([]:List UInt8)) then some 12 else (bif (decide ((((a0).length:Nat):Int) > 64)) then some 26 else ((a6 (V:=Int) (X:=Int ⊕ Unit) (qz N a0) N 0).bind fun o7=>(Sum.elim (fun o8=>some o8) (fun o9=>some 0) o7)))):=by kernel_rfl
end Go.Proofs.YtophnjjjmikmeaaGreat
