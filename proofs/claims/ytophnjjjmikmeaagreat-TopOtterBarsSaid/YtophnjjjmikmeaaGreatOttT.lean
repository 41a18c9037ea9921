/- What the functions compute (printed by a program of ours,checked by the kernel). -/
import Derived.Test.YtophnjjjmikmeaaGreatOttL
import Derived.Test.YtophnjjjmikmeaaGreatAmKM
set_option linter.all false
namespace Go.Proofs.YtophnjjjmikmeaaGreat
open Go Go.Am
set_option maxRecDepth 100000
abbrev iR:aj:=(.agg (.cons (.int .i64) (.cons (.int .i64) .nil)))
abbrev d23 (v:AV):Int × Int:=aj.bh iR v
abbrev n23 (x:Int × Int):AV:=aj.enc iR x
theorem rI (l:List (Int × Int)):allFit (aj.fits iR) (List.map n23 l)=true:=fG (p:=iR) rfl l
theorem rJ (l:List (Int × Int)):List.map d23 (List.map n23 l)=l:=kw (p:=iR) rfl l
theorem Y0 (x:Int × Int):aj.fits iR (n23 x)=true:=(aj.bU iR x rfl).1
theorem Y1 (x:Int × Int):d23 (n23 x)=x:=(aj.bU iR x rfl).2
abbrev u0:aj:=(.int .i64)
abbrev d30 (v:AV):Int:=aj.bh u0 v
abbrev n30 (x:Int):AV:=aj.enc u0 x
theorem Y2 (x:Int):aj.fits u0 (n30 x)=true:=(aj.bU u0 x rfl).1
theorem Y3 (x:Int):d30 (n30 x)=x:=(aj.bU u0 x rfl).2
abbrev WW:aj:=(.agg (.cons (.int .i64) (.cons (.int .i64) .nil)))
abbrev d46 (v:AV):Int × Int:=aj.bh WW v
abbrev cN:aj:=(.agg (.cons (.int .i64) (.cons (.int .i64) (.cons (.int .i64) .nil))))
abbrev d59 (v:AV):Int × Int × Int:=aj.bh cN v
abbrev n59 (x:Int × Int × Int):AV:=aj.enc cN x
theorem fY (l:List (Int × Int × Int)):allFit (aj.fits cN) (List.map n59 l)=true:=fG (p:=cN) rfl l
theorem ft (l:List (Int × Int × Int)):List.map d59 (List.map n59 l)=l:=kw (p:=cN) rfl l
theorem KW (x:Int × Int × Int):aj.fits cN (n59 x)=true:=(aj.bU cN x rfl).1
theorem KX (x:Int × Int × Int):d59 (n59 x)=x:=(aj.bU cN x rfl).2
abbrev DI:aj:=(.agg (.cons (.int .i32) (.cons (.int .i64) (.cons (.int .i64) (.cons (.int .i64) (.cons (.int .i64) .nil))))))
abbrev d80 (v:AV):Int × Int × Int × Int × Int:=aj.bh DI v
abbrev nf (x:Int × Int × Int × Int × Int):AV:=aj.enc DI x
theorem Rt (l:List (Int × Int × Int × Int × Int)):allFit (aj.fits DI) (List.map nf l)=true:=fG (p:=DI) rfl l
theorem Ru (l:List (Int × Int × Int × Int × Int)):List.map d80 (List.map nf l)=l:=kw (p:=DI) rfl l
theorem Y4 (x:Int × Int × Int × Int × Int):aj.fits DI (nf x)=true:=(aj.bU DI x rfl).1
theorem Y5 (x:Int × Int × Int × Int × Int):d80 (nf x)=x:=(aj.bU DI x rfl).2
abbrev n9:aj:=(.agg (.cons (.int .i32) (.cons (.agg (.cons (.int .i64) (.cons (.int .i64) .nil))) .nil)))
abbrev rK (v:AV):Int × (Int × Int):=aj.bh n9 v
abbrev dv (x:Int × (Int × Int)):AV:=aj.enc n9 x
def Y6:List (Nat × aj):=[(29,(.agg (.cons (.int .i64) (.cons (.int .i64) (.cons (.int .i64) .nil))))),(49,(.agg (.cons (.int .i64) (.cons (.int .i64) .nil)))),(53,(.agg (.cons (.int .i64) (.cons (.int .i64) .nil)))),(70,(.agg (.cons (.int .i64) (.cons (.int .i64) .nil)))),(76,(.agg (.cons (.int .i32) (.cons (.int .i64) (.cons (.int .i64) (.cons (.int .i64) (.cons (.int .i64) .nil))))))),(86,(.list 3 (.agg (.cons (.int .i64) (.cons (.int .i64) (.cons (.int .i64) .nil)))))),(133,(.int .i64)),(146,(.int .u8)),(158,(.int .i64)),(160,.str),(56,.bool),(88,(.int .i64)),(118,(.agg (.cons (.int .i64) (.cons (.int .i64) .nil)))),(129,.bool),(23,(.agg (.cons (.int .i64) (.cons (.int .i64) .nil)))),(59,(.agg (.cons (.int .i64) (.cons (.int .i64) (.cons (.int .i64) .nil)))))]
def Rv:List (Nat × aj)→Nat→Option aj
 | [],_=>none
 | (a,p) :: l,t=>bif Nat.beq a t then some p else Rv l t
def Y7:List (Nat × aj):=[]
noncomputable def cn:Env:={ env with Ml:=Rv Y6,Wr:=Rv Y7 }
noncomputable def PA:MW:={ NZ with toEnv:=cn }
noncomputable def cx (N:Nat) (DH:List (Nat × bl)) (sO:List (Nat × List (Nat × dL))):gn:={ D:=PA,DH:=C4 DH,sO:=Ku sO,fz:=false,N:=N }
def c40:List (Nat × dL):=[(26,.loop [] ⟨(.cons (.int .i64) .nil),[7],[],[],[],[]⟩ [(.ret,⟨(.cons (.int .i64) .nil),[2],[],[],[],[]⟩),(.ex 0,⟨.nil,[],[],[],[],[]⟩)])]
noncomputable def DJ (N:Nat):(List Int)→Option Int:=(cx N [] [(40,c40)]).fn 1000 40 (.cons (.list 1 (.int .i64)) .nil) (.int .i64)
noncomputable def Rw (N:Nat):bl:=⟨(.cons (.list 1 (.int .i64)) .nil),(.int .i64),DJ N⟩
theorem sR (N:Nat):av cn 40 (Rw N):=gn.cj (fun _ _ h=>by cases h) (by kernel_rfl) (by kernel_rfl)
noncomputable def Bo (N:Nat) (a0:List Int) (v1:Int):Option (Int ⊕ (Int ⊕ Unit)):=
 (bif (decide (v1 < ((((List.map n30 a0)).length:Nat):Int))) then bif (decide ((0:Int)≤v1∧v1 < (((List.map n30 a0)).length:Int))&&aj.fits u0 (aw (List.map n30 a0) (Int.toNat v1))) then (bif ((d30 (aw (List.map n30 a0) (Int.toNat v1))) != 0) then (some (Sum.inr (Sum.inl (d30 (aw (List.map n30 a0) (Int.toNat v1)))))) else (some (Sum.inl (IntKind.wrap .i64 (v1+1))))) else none else (some (Sum.inr (Sum.inr ()))))
theorem Rx (N:Nat) (a0:List Int):DJ N a0 =
 ((aZ (V:=Int) (X:=Int ⊕ Unit) (Bo N a0) N 0).bind fun o6=>(Sum.elim (fun o7=>some o7) (fun o8=>some 0) o6)):=by kernel_rfl
theorem av.toS {g:FuncId} {e:bl} (h:av env g e):av cn g e:=fun x y hT=>bz.env (E:=env) rfl rfl (h x y hT)
def Y8 (_N:Nat):List UInt8 × Int→Option (List UInt8):=uZ
def e69 (N:Nat):bl:=⟨p2 .str (.int .i64),.str,Y8 N⟩
theorem Ry (N:Nat):av cn 69 (e69 N):=av.toS L69
noncomputable def Mc (N:Nat):Bool × Int→Option Int:=(cx N [] []).fn 1000 45 (.cons .bool (.cons (.int .i64) .nil)) (.int .i64)
noncomputable def Vo (N:Nat):bl:=⟨(.cons .bool (.cons (.int .i64) .nil)),(.int .i64),Mc N⟩
theorem Bp (N:Nat):av cn 45 (Vo N):=gn.cj (fun _ _ h=>by cases h) (by kernel_rfl) (by kernel_rfl)
theorem Bq (N:Nat) (a0:Bool) (a1:Int):Mc N (a0,a1) =
 (bif a0 then some a1 else some 0):=by kernel_rfl
def c44:List (Nat × dL):=[(6,.join [(.norm,⟨(.cons (.int .i64) .nil),[6],[],[],[],[]⟩)])]
noncomputable def Vp (N:Nat):Int × Int × Int→Option Int:=(cx N [(45,Vo N)] [(44,c44)]).fn 1000 44 (.cons (.int .i64) (.cons (.int .i64) (.cons (.int .i64) .nil))) (.int .i64)
noncomputable def e44 (N:Nat):bl:=⟨(.cons (.int .i64) (.cons (.int .i64) (.cons (.int .i64) .nil))),(.int .i64),Vp N⟩
theorem Rz (N:Nat):av cn 44 (e44 N):=gn.cj (bN (by intro a e h; simp only [List.mem_cons,Prod.mk.injEq,List.not_mem_nil,or_false] at h; rcases h with ⟨rfl,rfl⟩; exact Bp N)) (by kernel_rfl) (by kernel_rfl)
theorem RA (N:Nat) (a0:Int) (a1:Int) (a2:Int):Vp N (a0,a1,a2) =
 (((bif (decide (a0 < a1)) then (Mc N (true,3)).bind fun y1=>(some y1) else (Mc N ((decide (a0 > a2)),3)).bind fun y2=>(some y2)):Option Int).bind fun o3=>some o3):=by kernel_rfl
noncomputable def N2 (N:Nat):(Int × Int)→Option Int:=(cx N [(40,Rw N),(44,e44 N)] []).fn 1000 46 (.cons (.agg (.cons (.int .i64) (.cons (.int .i64) .nil))) .nil) (.int .i64)
noncomputable def WX (N:Nat):bl:=⟨(.cons (.agg (.cons (.int .i64) (.cons (.int .i64) .nil))) .nil),(.int .i64),N2 N⟩
theorem FB (N:Nat):av cn 46 (WX N):=gn.cj (bN (by intro a e h; simp only [List.mem_cons,Prod.mk.injEq,List.not_mem_nil,or_false] at h; rcases h with ⟨rfl,rfl⟩ | ⟨rfl,rfl⟩; exact sR N; exact Rz N)) (by kernel_rfl) (by kernel_rfl)
theorem KY (N:Nat) (a0:Int × Int):N2 N a0 =
 (Vp N (a0.1,(-100000),100000)).bind fun y1=>bif ((a0.2 == a0.2)&&true) then (Vp N (a0.2,(-100000),100000)).bind fun y2=>((bif (allFit (aj.fits u0) [(AV.int .i64 y1),(AV.int .i64 y2)]&&true) then some (List.map d30 [(AV.int .i64 y1),(AV.int .i64 y2)]) else none:Option ((List Int))).bind fun x4=>(DJ N x4).bind fun y3=>some y3) else none:=by kernel_rfl
noncomputable def N3 (N:Nat):(Int × Int)→Option Int:=(cx N [(40,Rw N),(45,Vo N),(46,WX N)] []).fn 1000 41 (.cons (.agg (.cons (.int .i64) (.cons (.int .i64) .nil))) .nil) (.int .i64)
noncomputable def Vq (N:Nat):bl:=⟨(.cons (.agg (.cons (.int .i64) (.cons (.int .i64) .nil))) .nil),(.int .i64),N3 N⟩
theorem Br (N:Nat):av cn 41 (Vq N):=gn.cj (bN (by intro a e h; simp only [List.mem_cons,Prod.mk.injEq,List.not_mem_nil,or_false] at h; rcases h with ⟨rfl,rfl⟩ | ⟨rfl,rfl⟩ | ⟨rfl,rfl⟩; exact sR N; exact Bp N; exact FB N)) (by kernel_rfl) (by kernel_rfl)
theorem RB (N:Nat) (a0:Int × Int):N3 N a0 =
 (N2 N (a0.1,a0.2)).bind fun y1=>bif ((a0.2 == a0.2)&&((a0.1 == a0.1)&&true)) then (Mc N (((Hg .i64 (Hh .i64 a0.1 a0.2) 1) != 0),14)).bind fun y2=>((bif (allFit (aj.fits u0) [(AV.int .i64 y1),(AV.int .i64 y2)]&&true) then some (List.map d30 [(AV.int .i64 y1),(AV.int .i64 y2)]) else none:Option ((List Int))).bind fun x4=>(DJ N x4).bind fun y3=>some y3) else none:=by kernel_rfl
def c86:List (Nat × dL):=[(26,.loop [] ⟨(.cons (.int .i64) .nil),[7],[],[],[],[]⟩ [(.ret,⟨(.cons (.int .i64) .nil),[2],[],[],[],[]⟩),(.ex 0,⟨.nil,[],[],[],[],[]⟩)])]
noncomputable def Vr (N:Nat):(List Int)→Option Int:=(cx N [] [(86,c86)]).fn 1000 86 (.cons (.list 1 (.int .i64)) .nil) (.int .i64)
noncomputable def Y9 (N:Nat):bl:=⟨(.cons (.list 1 (.int .i64)) .nil),(.int .i64),Vr N⟩
theorem KZ (N:Nat):av cn 86 (Y9 N):=gn.cj (fun _ _ h=>by cases h) (by kernel_rfl) (by kernel_rfl)
noncomputable def Bs (N:Nat) (a0:List Int) (v1:Int):Option (Int ⊕ (Int ⊕ Unit)):=
 (bif (decide (v1 < ((((List.map n30 a0)).length:Nat):Int))) then bif (decide ((0:Int)≤v1∧v1 < (((List.map n30 a0)).length:Int))&&aj.fits u0 (aw (List.map n30 a0) (Int.toNat v1))) then (bif ((d30 (aw (List.map n30 a0) (Int.toNat v1))) != 0) then (some (Sum.inr (Sum.inl (d30 (aw (List.map n30 a0) (Int.toNat v1)))))) else (some (Sum.inl (IntKind.wrap .i64 (v1+1))))) else none else (some (Sum.inr (Sum.inr ()))))
theorem RC (N:Nat) (a0:List Int):Vr N a0 =
 ((aZ (V:=Int) (X:=Int ⊕ Unit) (Bs N a0) N 0).bind fun o6=>(Sum.elim (fun o7=>some o7) (fun o8=>some 0) o6)):=by kernel_rfl
noncomputable def PB (N:Nat):Bool × Int→Option Int:=(cx N [] []).fn 1000 88 (.cons .bool (.cons (.int .i64) .nil)) (.int .i64)
noncomputable def WY (N:Nat):bl:=⟨(.cons .bool (.cons (.int .i64) .nil)),(.int .i64),PB N⟩
theorem FC (N:Nat):av cn 88 (WY N):=gn.cj (fun _ _ h=>by cases h) (by kernel_rfl) (by kernel_rfl)
theorem RD (N:Nat) (a0:Bool) (a1:Int):PB N (a0,a1) =
 (bif a0 then some a1 else some 0):=by kernel_rfl
def c91:List (Nat × dL):=[(6,.join [(.norm,⟨(.cons .bool .nil),[2],[],[],[],[]⟩)])]
noncomputable def WZ (N:Nat):Int→Option Bool:=(cx N [] [(91,c91)]).fn 1000 91 (.cons (.int .i32) .nil) .bool
noncomputable def e91 (N:Nat):bl:=⟨(.cons (.int .i32) .nil),.bool,WZ N⟩
theorem RE (N:Nat):av cn 91 (e91 N):=gn.cj (fun _ _ h=>by cases h) (by kernel_rfl) (by kernel_rfl)
theorem RG (N:Nat) (a0:Int):WZ N a0 =
 (((bif (a0 == 78) then (some true) else (bif (a0 == 66) then (some true) else (some (a0 == 84)))):Option Bool).bind fun o1=>some o1):=by kernel_rfl
def c60:List (Nat × dL):=[(58,.loop [] ⟨(.cons .str (.cons (.int .i64) .nil)),[],[],[],[.CP],[]⟩ [(.ex 0,⟨(.cons .str (.cons (.int .i64) .nil)),[],[],[],[.CP],[]⟩),(.ret,⟨(.cons (.int .i64) (.cons .str (.cons (.int .i64) .nil))),[2],[],[],[.CP],[]⟩)])]
noncomputable def W0 (N:Nat):(List UInt8)→Option Int:=(cx N [(86,Y9 N),(88,WY N),(91,e91 N)] [(60,c60)]).fn 1000 60 (.cons .str .nil) (.int .i64)
noncomputable def e60 (N:Nat):bl:=⟨(.cons .str .nil),(.int .i64),W0 N⟩
theorem RH (N:Nat):av cn 60 (e60 N):=gn.cj (bN (by intro a e h; simp only [List.mem_cons,Prod.mk.injEq,List.not_mem_nil,or_false] at h; rcases h with ⟨rfl,rfl⟩ | ⟨rfl,rfl⟩ | ⟨rfl,rfl⟩; exact KZ N; exact FC N; exact RE N)) (by kernel_rfl) (by kernel_rfl)
noncomputable def xA (N:Nat) (v5:(List UInt8) × Int):Option (((List UInt8) × Int) ⊕ (((List UInt8) × Int) ⊕ (Int × (List UInt8) × Int))):=
 (bif Nat.blt (Int.toNat v5.2) (List.length v5.1) then (WZ N (((bJ v5.1 (Int.toNat v5.2)).1:Nat):Int)).bind fun y6=>(bif (!y6) then (some (Sum.inr (Sum.inr (1,v5.1,((((Int.toNat v5.2)+(bJ v5.1 (Int.toNat v5.2)).2):Nat):Int))))) else (some (Sum.inl (v5.1,((((Int.toNat v5.2)+(bJ v5.1 (Int.toNat v5.2)).2):Nat):Int))))) else (some (Sum.inr (Sum.inl (v5.1,(((Int.toNat v5.2):Nat):Int))))))
theorem RI (N:Nat) (a0:List UInt8):W0 N a0 =
 (PB N ((a0 == ([]:List UInt8)),12)).bind fun y1=>(PB N ((decide ((((a0).length:Nat):Int) > 64)),26)).bind fun y2=>((bif (allFit (aj.fits u0) [(AV.int .i64 y1),(AV.int .i64 y2)]&&true) then some (List.map d30 [(AV.int .i64 y1),(AV.int .i64 y2)]) else none:Option ((List Int))).bind fun x4=>(Vr N x4).bind fun y3=>(bif (y3 != 0) then some y3 else ((aZ (V:=(List UInt8) × Int) (X:=((List UInt8) × Int) ⊕ (Int × (List UInt8) × Int)) (xA N) N (a0,((0:Nat):Int))).bind fun H8=>(Sum.elim (fun BS=>some 0) (fun o13=>some o13.1) H8)))):=by kernel_rfl
def c87:List (Nat × dL):=[(6,.join [(.norm,⟨(.cons (.int .i64) .nil),[6],[],[],[],[]⟩)])]
noncomputable def W4 (N:Nat):Int × Int × Int→Option Int:=(cx N [(88,WY N)] [(87,c87)]).fn 1000 87 (.cons (.int .i64) (.cons (.int .i64) (.cons (.int .i64) .nil))) (.int .i64)
noncomputable def e87 (N:Nat):bl:=⟨(.cons (.int .i64) (.cons (.int .i64) (.cons (.int .i64) .nil))),(.int .i64),W4 N⟩
theorem RJ (N:Nat):av cn 87 (e87 N):=gn.cj (bN (by intro a e h; simp only [List.mem_cons,Prod.mk.injEq,List.not_mem_nil,or_false] at h; rcases h with ⟨rfl,rfl⟩; exact FC N)) (by kernel_rfl) (by kernel_rfl)
theorem RK (N:Nat) (a0:Int) (a1:Int) (a2:Int):W4 N (a0,a1,a2) =
 (((bif (decide (a0 < a1)) then (PB N (true,3)).bind fun y1=>(some y1) else (PB N ((decide (a0 > a2)),3)).bind fun y2=>(some y2)):Option Int).bind fun o3=>some o3):=by kernel_rfl
noncomputable def W5 (N:Nat):(Int × Int) × (List UInt8) × Int→Option Int:=(cx N [(41,Vq N),(60,e60 N),(86,Y9 N),(87,e87 N),(88,WY N)] []).fn 1000 67 (.cons (.agg (.cons (.int .i64) (.cons (.int .i64) .nil))) (.cons .str (.cons (.int .i64) .nil))) (.int .i64)
noncomputable def e67 (N:Nat):bl:=⟨(.cons (.agg (.cons (.int .i64) (.cons (.int .i64) .nil))) (.cons .str (.cons (.int .i64) .nil))),(.int .i64),W5 N⟩
theorem RL (N:Nat):av cn 67 (e67 N):=gn.cj (bN (by intro a e h; simp only [List.mem_cons,Prod.mk.injEq,List.not_mem_nil,or_false] at h; rcases h with ⟨rfl,rfl⟩ | ⟨rfl,rfl⟩ | ⟨rfl,rfl⟩ | ⟨rfl,rfl⟩ | ⟨rfl,rfl⟩; exact Br N; exact RH N; exact KZ N; exact RJ N; exact FC N)) (by kernel_rfl) (by kernel_rfl)
theorem RM (N:Nat) (a0:Int × Int) (a1:List UInt8) (a2:Int):W5 N (a0,a1,a2) =
 (N3 N (a0.1,a0.2)).bind fun y1=>(W0 N a1).bind fun y2=>(W4 N (a2,1,256)).bind fun y3=>((bif (allFit (aj.fits u0) [(AV.int .i64 y1),(AV.int .i64 y2),(AV.int .i64 y3)]&&true) then some (List.map d30 [(AV.int .i64 y1),(AV.int .i64 y2),(AV.int .i64 y3)]) else none:Option ((List Int))).bind fun x5=>(Vr N x5).bind fun y4=>(bif (y4 != 0) then some y4 else (PB N ((decide ((IntKind.wrap .i64 ((((a1).length:Nat):Int) * a2)) > 256)),26)).bind fun y6=>some y6)):=by kernel_rfl
def c30:List (Nat × dL):=[(125,.join [(.norm,⟨(.cons (.int .i64) (.cons (.list 2 (.agg (.cons (.int .i32) (.cons (.agg (.cons (.int .i64) (.cons (.int .i64) .nil))) .nil)))) .nil)),[12],[],[],[.map],[]⟩)]),
 (1018,.loop [(.slot 13,5,80)] ⟨(.cons (.own 2 5 (.agg (.cons (.int .i32) (.cons (.int .i64) (.cons (.int .i64) (.cons (.int .i64) (.cons (.int .i64) .nil))))))) (.cons (.int .i64) (.cons (.int .i64) (.cons (.list 2 (.agg (.cons (.int .i32) (.cons (.agg (.cons (.int .i64) (.cons (.int .i64) .nil))) .nil)))) (.cons .str (.cons (.int .i64) .nil)))))),[13],[],[(4,2)],[.map,.CP,.tok 0 5 80],[]⟩ [(.ex 0,⟨(.cons (.own 2 5 (.agg (.cons (.int .i32) (.cons (.int .i64) (.cons (.int .i64) (.cons (.int .i64) (.cons (.int .i64) .nil))))))) (.cons (.int .i64) (.cons (.int .i64) (.cons (.list 2 (.agg (.cons (.int .i32) (.cons (.agg (.cons (.int .i64) (.cons (.int .i64) .nil))) .nil)))) (.cons .str (.cons (.int .i64) .nil)))))),[13],[],[(4,2)],[.map,.CP,.tok 0 5 80],[]⟩),(.ret,⟨(.cons (.mN (.list .nil 0 [])) (.cons (.int .i64) (.cons (.int .i64) (.cons (.int .i64) (.cons (.list 2 (.agg (.cons (.int .i32) (.cons (.agg (.cons (.int .i64) (.cons (.int .i64) .nil))) .nil)))) (.cons .str (.cons (.int .i64) .nil))))))),[8,9],[],[(4,2)],[.map,.CP,.dead],[]⟩)])]
noncomputable def W6 (N:Nat):(Int × Int) × (List UInt8) × Int × Bool→Option ((List (Int × Int × Int × Int × Int)) × Int):=(cx N [(41,Vq N),(67,e67 N),(69,e69 N)] [(30,c30)]).fn 1000 30 (.cons (.agg (.cons (.int .i64) (.cons (.int .i64) .nil))) (.cons .str (.cons (.int .i64) (.cons .bool .nil)))) (.bF (.cons (.list 5 (.agg (.cons (.int .i32) (.cons (.int .i64) (.cons (.int .i64) (.cons (.int .i64) (.cons (.int .i64) .nil))))))) (.cons (.int .i64) .nil)))
noncomputable def e30 (N:Nat):bl:=⟨(.cons (.agg (.cons (.int .i64) (.cons (.int .i64) .nil))) (.cons .str (.cons (.int .i64) (.cons .bool .nil)))),(.bF (.cons (.list 5 (.agg (.cons (.int .i32) (.cons (.int .i64) (.cons (.int .i64) (.cons (.int .i64) (.cons (.int .i64) .nil))))))) (.cons (.int .i64) .nil))),W6 N⟩
theorem RN (N:Nat):av cn 30 (e30 N):=gn.cj (bN (by intro a e h; simp only [List.mem_cons,Prod.mk.injEq,List.not_mem_nil,or_false] at h; rcases h with ⟨rfl,rfl⟩ | ⟨rfl,rfl⟩ | ⟨rfl,rfl⟩; exact Br N; exact RL N; exact Ry N)) (by kernel_rfl) (by kernel_rfl)
noncomputable def oa (N:Nat) (o4:(Int × (List (Int × (Int × Int))))) (v6:(List (Int × Int × Int × Int × Int)) × Int × Int × (List (Int × (Int × Int))) × (List UInt8) × Int):Option (((List (Int × Int × Int × Int × Int)) × Int × Int × (List (Int × (Int × Int))) × (List UInt8) × Int) ⊕ (((List (Int × Int × Int × Int × Int)) × Int × Int × (List (Int × (Int × Int))) × (List UInt8) × Int) ⊕ (Unit × Int × Int × Int × (List (Int × (Int × Int))) × (List UInt8) × Int))):=
 (bif Nat.blt (Int.toNat v6.2.2.2.2.2) (List.length v6.2.2.2.2.1) then bif (cH .int (AV.int .i32 (((bJ v6.2.2.2.2.1 (Int.toNat v6.2.2.2.2.2)).1:Nat):Int)) (ab (List.map dv v6.2.2.2.1))&&aj.fits WW (bu .int (AV.int .i32 (((bJ v6.2.2.2.2.1 (Int.toNat v6.2.2.2.2.2)).1:Nat):Int)) (AV.agg [(AV.int .i64 0),(AV.int .i64 0)]) (ab (List.map dv v6.2.2.2.1)))) then bif (cH .int (AV.int .i32 (((bJ v6.2.2.2.2.1 (Int.toNat v6.2.2.2.2.2)).1:Nat):Int)) (ab (List.map dv v6.2.2.2.1))&&aj.fits WW (bu .int (AV.int .i32 (((bJ v6.2.2.2.2.1 (Int.toNat v6.2.2.2.2.2)).1:Nat):Int)) (AV.agg [(AV.int .i64 0),(AV.int .i64 0)]) (ab (List.map dv v6.2.2.2.1)))) then (N3 N ((IntKind.wrap .i64 (v6.2.1+(IntKind.wrap .i64 (o4.1 * (d46 (bu .int (AV.int .i32 (((bJ v6.2.2.2.2.1 (Int.toNat v6.2.2.2.2.2)).1:Nat):Int)) (AV.agg [(AV.int .i64 0),(AV.int .i64 0)]) (ab (List.map dv v6.2.2.2.1)))).1)))),(IntKind.wrap .i64 (v6.2.2.1+(d46 (bu .int (AV.int .i32 (((bJ v6.2.2.2.2.1 (Int.toNat v6.2.2.2.2.2)).1:Nat):Int)) (AV.agg [(AV.int .i64 0),(AV.int .i64 0)]) (ab (List.map dv v6.2.2.2.1)))).2)))).bind fun y7=>(bif (y7 != 0) then ((((bif (allFit (aj.fits n9) (ah (ab (List.map dv v6.2.2.2.1)))&&true) then some ((),32,v6.2.1,v6.2.2.1,(List.map rK (ah (ab (List.map dv v6.2.2.2.1)))),v6.2.2.2.2.1,((((Int.toNat v6.2.2.2.2.2)+(bJ v6.2.2.2.2.1 (Int.toNat v6.2.2.2.2.2)).2):Nat):Int)) else none:Option (Unit × Int × Int × Int × (List (Int × (Int × Int))) × (List UInt8) × Int)).bind fun w8=>bif (bo (ab (List.map dv v6.2.2.2.1))&&true) then some w8 else none).bind fun u9=>some (Sum.inr u9)).bind fun Vs=>some (Sum.inr Vs)) else bif (decide ((((List.map nf v6.1)).length)=((List.map nf v6.1)).length)&&decide ((((List.map nf v6.1)).length+1) * 40≤140737488355328)) then (((bif (allFit (aj.fits DI) ((List.map nf v6.1)++[(AV.agg [(AV.int .i32 (((bJ v6.2.2.2.2.1 (Int.toNat v6.2.2.2.2.2)).1:Nat):Int)),(AV.int .i64 v6.2.1),(AV.int .i64 v6.2.2.1),(AV.int .i64 (IntKind.wrap .i64 (v6.2.1+(IntKind.wrap .i64 (o4.1 * (d46 (bu .int (AV.int .i32 (((bJ v6.2.2.2.2.1 (Int.toNat v6.2.2.2.2.2)).1:Nat):Int)) (AV.agg [(AV.int .i64 0),(AV.int .i64 0)]) (ab (List.map dv v6.2.2.2.1)))).1))))),(AV.int .i64 (IntKind.wrap .i64 (v6.2.2.1+(d46 (bu .int (AV.int .i32 (((bJ v6.2.2.2.2.1 (Int.toNat v6.2.2.2.2.2)).1:Nat):Int)) (AV.agg [(AV.int .i64 0),(AV.int .i64 0)]) (ab (List.map dv v6.2.2.2.1)))).2)))])])&&(allFit (aj.fits n9) (ah (ab (List.map dv v6.2.2.2.1)))&&true)) then some ((List.map d80 ((List.map nf v6.1)++[(AV.agg [(AV.int .i32 (((bJ v6.2.2.2.2.1 (Int.toNat v6.2.2.2.2.2)).1:Nat):Int)),(AV.int .i64 v6.2.1),(AV.int .i64 v6.2.2.1),(AV.int .i64 (IntKind.wrap .i64 (v6.2.1+(IntKind.wrap .i64 (o4.1 * (d46 (bu .int (AV.int .i32 (((bJ v6.2.2.2.2.1 (Int.toNat v6.2.2.2.2.2)).1:Nat):Int)) (AV.agg [(AV.int .i64 0),(AV.int .i64 0)]) (ab (List.map dv v6.2.2.2.1)))).1))))),(AV.int .i64 (IntKind.wrap .i64 (v6.2.2.1+(d46 (bu .int (AV.int .i32 (((bJ v6.2.2.2.2.1 (Int.toNat v6.2.2.2.2.2)).1:Nat):Int)) (AV.agg [(AV.int .i64 0),(AV.int .i64 0)]) (ab (List.map dv v6.2.2.2.1)))).2)))])])),(IntKind.wrap .i64 (v6.2.1+(IntKind.wrap .i64 (o4.1 * (d46 (bu .int (AV.int .i32 (((bJ v6.2.2.2.2.1 (Int.toNat v6.2.2.2.2.2)).1:Nat):Int)) (AV.agg [(AV.int .i64 0),(AV.int .i64 0)]) (ab (List.map dv v6.2.2.2.1)))).1)))),(IntKind.wrap .i64 (v6.2.2.1+(d46 (bu .int (AV.int .i32 (((bJ v6.2.2.2.2.1 (Int.toNat v6.2.2.2.2.2)).1:Nat):Int)) (AV.agg [(AV.int .i64 0),(AV.int .i64 0)]) (ab (List.map dv v6.2.2.2.1)))).2)),(List.map rK (ah (ab (List.map dv v6.2.2.2.1)))),v6.2.2.2.2.1,((((Int.toNat v6.2.2.2.2.2)+(bJ v6.2.2.2.2.1 (Int.toNat v6.2.2.2.2.2)).2):Nat):Int)) else none:Option ((List (Int × Int × Int × Int × Int)) × Int × Int × (List (Int × (Int × Int))) × (List UInt8) × Int)).bind fun Md=>bif (bo (ab (List.map dv v6.2.2.2.1))&&(decide (((((List.map nf v6.1)).length)+1)=(List.map nf Md.1).length)&&true)) then some Md else none).bind fun Vt=>some (Sum.inl Vt)) else none) else none else none else ((((bif (allFit (aj.fits DI) (List.map nf v6.1)&&(allFit (aj.fits n9) (ah (ab (List.map dv v6.2.2.2.1)))&&true)) then some ((List.map d80 (List.map nf v6.1)),v6.2.1,v6.2.2.1,(List.map rK (ah (ab (List.map dv v6.2.2.2.1)))),v6.2.2.2.2.1,(((Int.toNat v6.2.2.2.2.2):Nat):Int)) else none:Option ((List (Int × Int × Int × Int × Int)) × Int × Int × (List (Int × (Int × Int))) × (List UInt8) × Int)).bind fun Me=>bif (bo (ab (List.map dv v6.2.2.2.1))&&(decide ((((List.map nf v6.1)).length)=(List.map nf Me.1).length)&&true)) then some Me else none).bind fun u14=>some (Sum.inl u14)).bind fun u15=>some (Sum.inr u15)))
theorem RQ (N:Nat) (a0:Int × Int) (a1:List UInt8) (a2:Int) (a3:Bool):W6 N (a0,a1,a2,a3) =
 (W5 N ((a0.1,a0.2),a1,a2)).bind fun y1=>(bif (y1 != 0) then (bif (allFit (aj.fits DI) ([]:List AV)&&true) then some ((List.map d80 ([]:List AV)),y1) else none) else bif (cH .int (AV.int .i32 78) ([]:List (AV × AV))) then bif (cH .int (AV.int .i32 66) (bi .int (AV.int .i32 78) (AV.agg [(AV.int .i64 0),(AV.int .i64 2)]) ([]:List (AV × AV)))) then bif (cH .int (AV.int .i32 84) (bi .int (AV.int .i32 66) (AV.agg [(AV.int .i64 1),(AV.int .i64 1)]) (bi .int (AV.int .i32 78) (AV.agg [(AV.int .i64 0),(AV.int .i64 2)]) ([]:List (AV × AV))))) then (((bif (!a3) then ((bif (allFit (aj.fits n9) (ah (bi .int (AV.int .i32 84) (AV.agg [(AV.int .i64 2),(AV.int .i64 0)]) (bi .int (AV.int .i32 66) (AV.agg [(AV.int .i64 1),(AV.int .i64 1)]) (bi .int (AV.int .i32 78) (AV.agg [(AV.int .i64 0),(AV.int .i64 2)]) ([]:List (AV × AV))))))&&true) then some ((-1),(List.map rK (ah (bi .int (AV.int .i32 84) (AV.agg [(AV.int .i64 2),(AV.int .i64 0)]) (bi .int (AV.int .i32 66) (AV.agg [(AV.int .i64 1),(AV.int .i64 1)]) (bi .int (AV.int .i32 78) (AV.agg [(AV.int .i64 0),(AV.int .i64 2)]) ([]:List (AV × AV)))))))) else none:Option (Int × (List (Int × (Int × Int))))).bind fun w2=>bif (bo (bi .int (AV.int .i32 84) (AV.agg [(AV.int .i64 2),(AV.int .i64 0)]) (bi .int (AV.int .i32 66) (AV.agg [(AV.int .i64 1),(AV.int .i64 1)]) (bi .int (AV.int .i32 78) (AV.agg [(AV.int .i64 0),(AV.int .i64 2)]) ([]:List (AV × AV)))))&&true) then some w2 else none) else ((bif (allFit (aj.fits n9) (ah (bi .int (AV.int .i32 84) (AV.agg [(AV.int .i64 2),(AV.int .i64 0)]) (bi .int (AV.int .i32 66) (AV.agg [(AV.int .i64 1),(AV.int .i64 1)]) (bi .int (AV.int .i32 78) (AV.agg [(AV.int .i64 0),(AV.int .i64 2)]) ([]:List (AV × AV))))))&&true) then some (1,(List.map rK (ah (bi .int (AV.int .i32 84) (AV.agg [(AV.int .i64 2),(AV.int .i64 0)]) (bi .int (AV.int .i32 66) (AV.agg [(AV.int .i64 1),(AV.int .i64 1)]) (bi .int (AV.int .i32 78) (AV.agg [(AV.int .i64 0),(AV.int .i64 2)]) ([]:List (AV × AV)))))))) else none:Option (Int × (List (Int × (Int × Int))))).bind fun w3=>bif (bo (bi .int (AV.int .i32 84) (AV.agg [(AV.int .i64 2),(AV.int .i64 0)]) (bi .int (AV.int .i32 66) (AV.agg [(AV.int .i64 1),(AV.int .i64 1)]) (bi .int (AV.int .i32 78) (AV.agg [(AV.int .i64 0),(AV.int .i64 2)]) ([]:List (AV × AV)))))&&true) then some w3 else none)):Option ((Int × (List (Int × (Int × Int)))))).bind fun o4=>(Y8 N (a1,a2)).bind fun y5=>(((bif (allFit (aj.fits DI) ([]:List AV)&&(allFit (aj.fits n9) (ah (ab (List.map dv o4.2)))&&true)) then some ((List.map d80 ([]:List AV)),a0.1,a0.2,(List.map rK (ah (ab (List.map dv o4.2)))),y5,((0:Nat):Int)) else none:Option ((List (Int × Int × Int × Int × Int)) × Int × Int × (List (Int × (Int × Int))) × (List UInt8) × Int)).bind fun K0=>bif (bo (ab (List.map dv o4.2))&&(decide (0=(List.map nf K0.1).length)&&true)) then some K0 else none).bind fun Za=>(aZ (V:=(List (Int × Int × Int × Int × Int)) × Int × Int × (List (Int × (Int × Int))) × (List UInt8) × Int) (X:=((List (Int × Int × Int × Int × Int)) × Int × Int × (List (Int × (Int × Int))) × (List UInt8) × Int) ⊕ (Unit × Int × Int × Int × (List (Int × (Int × Int))) × (List UInt8) × Int)) (oa N o4) N Za).bind fun gV=>(Sum.elim (fun o18=>(bif (allFit (aj.fits DI) (List.map nf o18.1)&&true) then some ((List.map d80 (List.map nf o18.1)),0) else none)) (fun o19=>(bif (allFit (aj.fits DI) ([]:List AV)&&true) then some ((List.map d80 ([]:List AV)),o19.2.1) else none)) gV))) else none else none else none):=by kernel_rfl
def c8:List (Nat × dL):=[(250,.loop [(.slot 12,3,59)] ⟨(.cons (.own 0 3 (.agg (.cons (.int .i64) (.cons (.int .i64) (.cons (.int .i64) .nil))))) (.cons (.int .i64) .nil)),[12,28],[],[],[.tok 0 3 59],[]⟩ [(.ex 0,⟨(.cons (.own 0 3 (.agg (.cons (.int .i64) (.cons (.int .i64) (.cons (.int .i64) .nil))))) .nil),[12],[],[],[.tok 0 3 59],[]⟩)]),
 (4006,.join [(.norm,⟨(.cons (.own 0 3 (.agg (.cons (.int .i64) (.cons (.int .i64) (.cons (.int .i64) .nil))))) .nil),[12],[],[],[.tok 0 3 59],[]⟩)])]
noncomputable def T8 (N:Nat):(Int × Int) × (List UInt8) × Int × Bool→Option ((List (Int × Int × Int)) × Int):=(cx N [(30,e30 N)] [(8,c8)]).fn 1000 8 (.cons (.agg (.cons (.int .i64) (.cons (.int .i64) .nil))) (.cons .str (.cons (.int .i64) (.cons .bool .nil)))) (.bF (.cons (.list 3 (.agg (.cons (.int .i64) (.cons (.int .i64) (.cons (.int .i64) .nil))))) (.cons (.int .i64) .nil)))
noncomputable def e8 (N:Nat):bl:=⟨(.cons (.agg (.cons (.int .i64) (.cons (.int .i64) .nil))) (.cons .str (.cons (.int .i64) (.cons .bool .nil)))),(.bF (.cons (.list 3 (.agg (.cons (.int .i64) (.cons (.int .i64) (.cons (.int .i64) .nil))))) (.cons (.int .i64) .nil))),T8 N⟩
theorem Vu (N:Nat):av cn 8 (e8 N):=gn.cj (bN (by intro a e h; simp only [List.mem_cons,Prod.mk.injEq,List.not_mem_nil,or_false] at h; rcases h with ⟨rfl,rfl⟩; exact RN N)) (by kernel_rfl) (by kernel_rfl)
noncomputable def xB (N:Nat) (y1:(List (Int × Int × Int × Int × Int)) × Int) (v2:(List (Int × Int × Int)) × Int):Option (((List (Int × Int × Int)) × Int) ⊕ (((List (Int × Int × Int))))):=
 (bif (decide (v2.2 < ((((List.map nf y1.1)).length:Nat):Int))) then ((bif (decide ((0:Int)≤v2.2∧v2.2 < (((List.map nf y1.1)).length:Int))&&aj.fits DI (aw (List.map nf y1.1) (Int.toNat v2.2))) then (bif ((d80 (aw (List.map nf y1.1) (Int.toNat v2.2))).1 == 66) then bif (decide ((((List.map n59 v2.1)).length)=((List.map n59 v2.1)).length)&&decide ((((List.map n59 v2.1)).length+1) * 24≤140737488355328)) then ((bif (allFit (aj.fits cN) ((List.map n59 v2.1)++[(AV.agg [(AV.int .i64 (d80 (aw (List.map nf y1.1) (Int.toNat v2.2))).2.1),(AV.int .i64 (d80 (aw (List.map nf y1.1) (Int.toNat v2.2))).2.2.1),(AV.int .i64 (IntKind.wrap .i64 ((d80 (aw (List.map nf y1.1) (Int.toNat v2.2))).2.2.2.1 - (d80 (aw (List.map nf y1.1) (Int.toNat v2.2))).2.1)))])])&&true) then some (List.map d59 ((List.map n59 v2.1)++[(AV.agg [(AV.int .i64 (d80 (aw (List.map nf y1.1) (Int.toNat v2.2))).2.1),(AV.int .i64 (d80 (aw (List.map nf y1.1) (Int.toNat v2.2))).2.2.1),(AV.int .i64 (IntKind.wrap .i64 ((d80 (aw (List.map nf y1.1) (Int.toNat v2.2))).2.2.2.1 - (d80 (aw (List.map nf y1.1) (Int.toNat v2.2))).2.1)))])])) else none:Option ((List (Int × Int × Int)))).bind fun w3=>bif (decide (((((List.map n59 v2.1)).length)+1)=(List.map n59 w3).length)&&true) then some w3 else none) else none else ((bif (allFit (aj.fits cN) (List.map n59 v2.1)&&true) then some (List.map d59 (List.map n59 v2.1)) else none:Option ((List (Int × Int × Int)))).bind fun w4=>bif (decide ((((List.map n59 v2.1)).length)=(List.map n59 w4).length)&&true) then some w4 else none)) else none:Option (((List (Int × Int × Int))))).bind fun o5=>(((bif (allFit (aj.fits cN) (List.map n59 o5)&&true) then some ((List.map d59 (List.map n59 o5)),(IntKind.wrap .i64 (v2.2+1))) else none:Option ((List (Int × Int × Int)) × Int)).bind fun w6=>bif (decide ((((List.map n59 o5)).length)=(List.map n59 w6.1).length)&&true) then some w6 else none).bind fun u7=>some (Sum.inl u7))) else (((bif (allFit (aj.fits cN) (List.map n59 v2.1)&&true) then some (List.map d59 (List.map n59 v2.1)) else none:Option ((List (Int × Int × Int)))).bind fun w8=>bif (decide ((((List.map n59 v2.1)).length)=(List.map n59 w8).length)&&true) then some w8 else none).bind fun u9=>some (Sum.inr u9)))
theorem Vv (N:Nat) (a0:Int × Int) (a1:List UInt8) (a2:Int) (a3:Bool):T8 N (a0,a1,a2,a3) =
 (W6 N ((a0.1,a0.2),a1,a2,a3)).bind fun y1=>(bif (y1.2 != 0) then (bif (allFit (aj.fits cN) ([]:List AV)&&true) then some ((List.map d59 ([]:List AV)),y1.2) else none) else (((bif (allFit (aj.fits cN) ([]:List AV)&&true) then some ((List.map d59 ([]:List AV)),0) else none:Option ((List (Int × Int × Int)) × Int)).bind fun Mf=>bif (decide (0=(List.map n59 Mf.1).length)&&true) then some Mf else none).bind fun x12=>(aZ (V:=(List (Int × Int × Int)) × Int) (X:=((List (Int × Int × Int)))) (xB N y1) N x12).bind fun H8=>(bif (allFit (aj.fits cN) (List.map n59 H8)&&true) then some ((List.map d59 (List.map n59 H8)),0) else none))):=by kernel_rfl
def c65:List (Nat × dL):=[(6,.join [(.norm,⟨(.cons .bool .nil),[2],[],[],[],[]⟩)])]
noncomputable def W7 (N:Nat):Int→Option Bool:=(cx N [] [(65,c65)]).fn 1000 65 (.cons (.int .i64) .nil) .bool
noncomputable def e65 (N:Nat):bl:=⟨(.cons (.int .i64) .nil),.bool,W7 N⟩
theorem RR (N:Nat):av cn 65 (e65 N):=gn.cj (fun _ _ h=>by cases h) (by kernel_rfl) (by kernel_rfl)
theorem K1 (N:Nat) (a0:Int):W7 N a0 =
 (((bif (decide (a0 < (-100000))) then (some true) else (some (decide (a0 > 100000)))):Option Bool).bind fun o1=>some o1):=by kernel_rfl
noncomputable def Zb (N:Nat):Int × Int→Option Bool:=(cx N [] []).fn 1000 66 (.cons (.int .i64) (.cons (.int .i64) .nil)) .bool
noncomputable def e66 (N:Nat):bl:=⟨(.cons (.int .i64) (.cons (.int .i64) .nil)),.bool,Zb N⟩
theorem RS (N:Nat):av cn 66 (e66 N):=gn.cj (fun _ _ h=>by cases h) (by kernel_rfl) (by kernel_rfl)
theorem RT (N:Nat) (a0:Int) (a1:Int):Zb N (a0,a1) =
 some ((Int.tmod (IntKind.wrap .i64 (a0+a1)) 2) == 0):=by kernel_rfl
def c29:List (Nat × dL):=[(12,.join [(.norm,⟨(.cons .bool .nil),[10],[],[],[],[]⟩)])]
noncomputable def N4 (N:Nat):(Int × Int)→Option Int:=(cx N [(65,e65 N),(66,e66 N)] [(29,c29)]).fn 1000 29 (.cons (.agg (.cons (.int .i64) (.cons (.int .i64) .nil))) .nil) (.int .i64)
noncomputable def Zc (N:Nat):bl:=⟨(.cons (.agg (.cons (.int .i64) (.cons (.int .i64) .nil))) .nil),(.int .i64),N4 N⟩
theorem K3 (N:Nat):av cn 29 (Zc N):=gn.cj (bN (by intro a e h; simp only [List.mem_cons,Prod.mk.injEq,List.not_mem_nil,or_false] at h; rcases h with ⟨rfl,rfl⟩ | ⟨rfl,rfl⟩; exact RR N; exact RS N)) (by kernel_rfl) (by kernel_rfl)
theorem RU (N:Nat) (a0:Int × Int):N4 N a0 =
 (((W7 N a0.1).bind fun y1=>(bif y1 then (some true) else (W7 N a0.2).bind fun y2=>(some y2)):Option Bool).bind fun o3=>(bif o3 then some 3 else (Zb N (a0.1,a0.2)).bind fun y4=>(bif (!y4) then some 14 else some 0))):=by kernel_rfl
noncomputable def Vw (N:Nat):(Int × Int × Int)→Option ((Int × Int)):=(cx N [] []).fn 1000 70 (.cons (.agg (.cons (.int .i64) (.cons (.int .i64) (.cons (.int .i64) .nil)))) .nil) (.agg (.cons (.int .i64) (.cons (.int .i64) .nil)))
noncomputable def e70 (N:Nat):bl:=⟨(.cons (.agg (.cons (.int .i64) (.cons (.int .i64) (.cons (.int .i64) .nil)))) .nil),(.agg (.cons (.int .i64) (.cons (.int .i64) .nil))),Vw N⟩
theorem RV (N:Nat):av cn 70 (e70 N):=gn.cj (fun _ _ h=>by cases h) (by kernel_rfl) (by kernel_rfl)
theorem RW (N:Nat) (a0:Int × Int × Int):Vw N a0 =
 some (a0.1,a0.2.1):=by kernel_rfl
noncomputable def Vx (N:Nat):(Int × Int × Int)→Option ((Int × Int)):=(cx N [] []).fn 1000 71 (.cons (.agg (.cons (.int .i64) (.cons (.int .i64) (.cons (.int .i64) .nil)))) .nil) (.agg (.cons (.int .i64) (.cons (.int .i64) .nil)))
noncomputable def e71 (N:Nat):bl:=⟨(.cons (.agg (.cons (.int .i64) (.cons (.int .i64) (.cons (.int .i64) .nil)))) .nil),(.agg (.cons (.int .i64) (.cons (.int .i64) .nil))),Vx N⟩
theorem RX (N:Nat):av cn 71 (e71 N):=gn.cj (fun _ _ h=>by cases h) (by kernel_rfl) (by kernel_rfl)
theorem RY (N:Nat) (a0:Int × Int × Int):Vx N a0 =
 some ((IntKind.wrap .i64 (a0.1+a0.2.2)),(IntKind.wrap .i64 (a0.2.1+1))):=by kernel_rfl
def c31:List (Nat × dL):=[(28,.join [(.norm,⟨(.cons .bool .nil),[18],[],[],[],[]⟩)]),
 (29,.join [(.norm,⟨(.cons (.int .i64) .nil),[3],[],[],[],[]⟩)]),
 (61,.join [(.norm,⟨(.cons (.int .i64) .nil),[3],[],[],[],[]⟩)])]
noncomputable def Vy (N:Nat):(Int × Int × Int)→Option Int:=(cx N [(29,Zc N),(70,e70 N),(71,e71 N)] [(31,c31)]).fn 1000 31 (.cons (.agg (.cons (.int .i64) (.cons (.int .i64) (.cons (.int .i64) .nil)))) .nil) (.int .i64)
noncomputable def e31 (N:Nat):bl:=⟨(.cons (.agg (.cons (.int .i64) (.cons (.int .i64) (.cons (.int .i64) .nil)))) .nil),(.int .i64),Vy N⟩
theorem RZ (N:Nat):av cn 31 (e31 N):=gn.cj (bN (by intro a e h; simp only [List.mem_cons,Prod.mk.injEq,List.not_mem_nil,or_false] at h; rcases h with ⟨rfl,rfl⟩ | ⟨rfl,rfl⟩ | ⟨rfl,rfl⟩; exact K3 N; exact RV N; exact RX N)) (by kernel_rfl) (by kernel_rfl)
theorem R6 (N:Nat) (a0:Int × Int × Int):Vy N a0 =
 (Vw N (a0.1,a0.2.1,a0.2.2)).bind fun y1=>(N4 N (y1.1,y1.2)).bind fun y2=>(((bif (y2 == 0) then (bif (a0.2.2 != 1) then (some (a0.2.2 != (-1))) else (some false)) else (some false)):Option Bool).bind fun o3=>(((bif o3 then (some 13) else (some y2)):Option Int).bind fun o4=>(((bif (o4 == 0) then (Vx N (a0.1,a0.2.1,a0.2.2)).bind fun y5=>(N4 N (y5.1,y5.2)).bind fun y6=>(some y6) else (some o4)):Option Int).bind fun o7=>some o7))):=by kernel_rfl
noncomputable def Vz (N:Nat):(Int × Int × Int) × (Int × Int × Int)→Option Bool:=(cx N [] []).fn 1000 32 (.cons (.agg (.cons (.int .i64) (.cons (.int .i64) (.cons (.int .i64) .nil)))) (.cons (.agg (.cons (.int .i64) (.cons (.int .i64) (.cons (.int .i64) .nil)))) .nil)) .bool
noncomputable def e32 (N:Nat):bl:=⟨(.cons (.agg (.cons (.int .i64) (.cons (.int .i64) (.cons (.int .i64) .nil)))) (.cons (.agg (.cons (.int .i64) (.cons (.int .i64) (.cons (.int .i64) .nil)))) .nil)),.bool,Vz N⟩
theorem R7 (N:Nat):av cn 32 (e32 N):=gn.cj (fun _ _ h=>by cases h) (by kernel_rfl) (by kernel_rfl)
theorem R8 (N:Nat) (a0:Int × Int × Int) (a1:Int × Int × Int):Vz N (a0,a1) =
 (bif (a0.2.1 != a1.2.1) then some (decide (a0.2.1 < a1.2.1)) else (bif (a0.1 != a1.1) then some (decide (a0.1 < a1.1)) else some (decide (a0.2.2 < a1.2.2)))):=by kernel_rfl
def c9:List (Nat × dL):=[(58,.loop [] ⟨(.cons (.int .i64) .nil),[3],[],[],[],[]⟩ [(.ret,⟨(.cons (.int .i64) .nil),[2],[],[],[],[]⟩),(.ex 0,⟨.nil,[],[],[],[],[]⟩)]),
 (7462,.join [(.norm,⟨(.cons .bool .nil),[36],[],[],[],[]⟩)])]
noncomputable def T9 (N:Nat):(List (Int × Int × Int))→Option Int:=(cx N [(31,e31 N),(32,e32 N)] [(9,c9)]).fn 1000 9 (.cons (.list 3 (.agg (.cons (.int .i64) (.cons (.int .i64) (.cons (.int .i64) .nil))))) .nil) (.int .i64)
noncomputable def e9 (N:Nat):bl:=⟨(.cons (.list 3 (.agg (.cons (.int .i64) (.cons (.int .i64) (.cons (.int .i64) .nil))))) .nil),(.int .i64),T9 N⟩
theorem VA (N:Nat):av cn 9 (e9 N):=gn.cj (bN (by intro a e h; simp only [List.mem_cons,Prod.mk.injEq,List.not_mem_nil,or_false] at h; rcases h with ⟨rfl,rfl⟩ | ⟨rfl,rfl⟩; exact RZ N; exact R7 N)) (by kernel_rfl) (by kernel_rfl)
noncomputable def GJ (N:Nat) (a0:List (Int × Int × Int)) (v1:Int):Option (Int ⊕ (Int ⊕ Unit)):=
 (bif (decide (v1 < ((((List.map n59 a0)).length:Nat):Int))) then bif (decide ((0:Int)≤v1∧v1 < (((List.map n59 a0)).length:Int))&&aj.fits cN (aw (List.map n59 a0) (Int.toNat v1))) then (Vy N ((d59 (aw (List.map n59 a0) (Int.toNat v1))).1,(d59 (aw (List.map n59 a0) (Int.toNat v1))).2.1,(d59 (aw (List.map n59 a0) (Int.toNat v1))).2.2)).bind fun y2=>(bif (y2 != 0) then (some (Sum.inr (Sum.inl y2))) else (((bif (decide (v1 > 0)) then bif (decide ((0:Int)≤(IntKind.wrap .i64 (v1 - 1))∧(IntKind.wrap .i64 (v1 - 1)) < (((List.map n59 a0)).length:Int))&&aj.fits cN (aw (List.map n59 a0) (Int.toNat (IntKind.wrap .i64 (v1 - 1))))) then bif (decide ((0:Int)≤v1∧v1 < (((List.map n59 a0)).length:Int))&&aj.fits cN (aw (List.map n59 a0) (Int.toNat v1))) then (Vz N (((d59 (aw (List.map n59 a0) (Int.toNat (IntKind.wrap .i64 (v1 - 1))))).1,(d59 (aw (List.map n59 a0) (Int.toNat (IntKind.wrap .i64 (v1 - 1))))).2.1,(d59 (aw (List.map n59 a0) (Int.toNat (IntKind.wrap .i64 (v1 - 1))))).2.2),((d59 (aw (List.map n59 a0) (Int.toNat v1))).1,(d59 (aw (List.map n59 a0) (Int.toNat v1))).2.1,(d59 (aw (List.map n59 a0) (Int.toNat v1))).2.2))).bind fun y5=>(some (!y5)) else none else none else (some false)):Option Bool).bind fun o6=>(bif o6 then (some (Sum.inr (Sum.inl 11))) else (some (Sum.inl (IntKind.wrap .i64 (v1+1))))))) else none else (some (Sum.inr (Sum.inr ()))))
theorem VB (N:Nat) (a0:List (Int × Int × Int)):T9 N a0 =
 (bif (decide (((((List.map n59 a0)).length:Nat):Int) > 4096)) then some 5 else ((aZ (V:=Int) (X:=Int ⊕ Unit) (GJ N a0) N 0).bind fun H8=>(Sum.elim (fun BS=>some BS) (fun o13=>some 0) H8))):=by kernel_rfl
def c64:List (Nat × dL):=[(6,.join [(.norm,⟨(.cons .bool .nil),[2],[],[],[],[]⟩)])]
noncomputable def W8 (N:Nat):Int→Option Bool:=(cx N [] [(64,c64)]).fn 1000 64 (.cons (.int .u8) .nil) .bool
noncomputable def e64 (N:Nat):bl:=⟨(.cons (.int .u8) .nil),.bool,W8 N⟩
theorem R9 (N:Nat):av cn 64 (e64 N):=gn.cj (fun _ _ h=>by cases h) (by kernel_rfl) (by kernel_rfl)
theorem Sa (N:Nat) (a0:Int):W8 N a0 =
 (((bif (a0 == 78) then (some true) else (bif (a0 == 66) then (some true) else (some (a0 == 84)))):Option Bool).bind fun o1=>some o1):=by kernel_rfl
def c28:List (Nat × dL):=[(122,.loop [] ⟨(.cons (.int .i64) .nil),[3],[],[],[],[]⟩ [(.ret,⟨(.cons (.int .i64) .nil),[2],[],[],[],[]⟩),(.ex 0,⟨.nil,[],[],[],[],[]⟩)])]
noncomputable def W9 (N:Nat):(List UInt8)→Option Int:=(cx N [(64,e64 N)] [(28,c28)]).fn 1000 28 (.cons .str .nil) (.int .i64)
noncomputable def e28 (N:Nat):bl:=⟨(.cons .str .nil),(.int .i64),W9 N⟩
theorem Sb (N:Nat):av cn 28 (e28 N):=gn.cj (bN (by intro a e h; simp only [List.mem_cons,Prod.mk.injEq,List.not_mem_nil,or_false] at h; rcases h with ⟨rfl,rfl⟩; exact R9 N)) (by kernel_rfl) (by kernel_rfl)
noncomputable def rL (N:Nat) (a0:List UInt8) (v1:Int):Option (Int ⊕ (Int ⊕ Unit)):=
 (bif (decide (v1 < (((a0).length:Nat):Int))) then bif decide ((0:Int)≤v1∧v1 < ((a0).length:Int)) then (W8 N ((((a0).getD (Int.toNat v1) 0).toNat:Nat):Int)).bind fun y2=>(bif (!y2) then (some (Sum.inr (Sum.inl 1))) else (some (Sum.inl (IntKind.wrap .i64 (v1+1))))) else none else (some (Sum.inr (Sum.inr ()))))
theorem Sc (N:Nat) (a0:List UInt8):W9 N a0 =
 (bif (a0 == ([]:List UInt8)) then some 12 else (bif (decide ((((a0).length:Nat):Int) > 64)) then some 26 else ((aZ (V:=Int) (X:=Int ⊕ Unit) (rL N a0) N 0).bind fun o7=>(Sum.elim (fun o8=>some o8) (fun o9=>some 0) o7)))):=by kernel_rfl
end Go.Proofs.YtophnjjjmikmeaaGreat
