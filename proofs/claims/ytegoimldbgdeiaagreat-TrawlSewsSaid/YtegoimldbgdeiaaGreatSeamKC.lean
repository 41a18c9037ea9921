/- The chapter's examples,call by call. -/
import Derived.Test.YtegoimldbgdeiaaGreatSeamKB
import Derived.Test.YtegoimldbgdeiaaGreatTrzG
set_option linter.all false
open Option.some renaming inj→aao
namespace Go.Proofs.YtegoimldbgdeiaaGreat
open Go Go.Am
open List (map)
open Int (toNat)
open Go.IntKind (wrap)
open Go.Am.aP (fits)
set_option maxRecDepth 1000000
theorem To:fM 18446744073709551616:=Nat.le_refl _
noncomputable def RA:List (Nat × bK):=[(61,JY),(62,Iw 18446744073709551616)]
theorem gZ:∀ a e,(a,e)∈RA→aI bU a e:=fun a e h=>by
 simp only [RA,List.mem_cons,Prod.mk.injEq,List.not_mem_nil,or_false] at h;rcases h with ⟨rfl,rfl⟩|⟨rfl,rfl⟩
 ·exact IJ To
 ·exact Lt To
noncomputable def xtC:(g:FuncId)→Option (A1 bU g)
 |70=>some (Rw 18446744073709551616 (Nat.le_refl _))
 |_=>none
noncomputable def Lv:jT:={ D:=NM,Lb:=B8 RA,Eb:=fun _ _=>none,fz:=true,N:=0,xt:=xtC,gt:=gtG }
instance decI5:DecidableEq (Int × Int × Int × Int × Bool):=inferInstance
instance decPn:DecidableEq ((List UInt8) × (List (Int × Int))):=inferInstance
instance decLP:DecidableEq (List ((List UInt8) × (List (Int × Int)))):=inferInstance
instance decLS:DecidableEq (List (Int × Int × Int × Int × Bool)):=inferInstance
instance decT:DecidableEq ((List ((List UInt8) × (List (Int × Int)))) × (List (Int × Int × Int × Int × Bool))):=inferInstance
instance decTW:DecidableEq (((List ((List UInt8) × (List (Int × Int)))) × (List (Int × Int × Int × Int × Bool))) × (Int × List Int)):=inferInstance
instance decTS:DecidableEq (((List ((List UInt8) × (List (Int × Int)))) × (List (Int × Int × Int × Int × Bool))) × List (Int × Int × Bool)):=inferInstance
instance decI4:DecidableEq (Int × Int × Int × Int):=inferInstance
instance decI6:DecidableEq (Int × Int × Int × Int × Int × Int):=inferInstance
instance decC6:DecidableEq ((Int × Int × Int × Int × Int × Int) × Int):=inferInstance
instance decLLE:DecidableEq ((List (List (Int × Int))) × Int):=inferInstance
def ov {α β:Type} [DecidableEq α]:List (α × β)→α→Option β
 |[],_=>none
 |(a,b) :: l,x=>bif decide (x=a) then some b else ov l x
theorem pE {α β:Type} [DecidableEq α] {a x:α} {b y:β} (h:ov [(a,b)] x=some y):x=a∧y=b:=by
 unfold ov at h;cases hd:decide (x=a) with
 |true=>rw [hd] at h; exact ⟨of_decide_eq_true hd,(aao h).symm⟩
 |false=>rw [hd] at h; cases h
theorem vz {α β:Type} [DecidableEq α] {a a' x:α} {b b' y:β} (h:ov [(a,b),(a',b')] x=some y):(x=a∧y=b)∨(x=a'∧y=b'):=by
 unfold ov at h;cases hd:decide (x=a) with
 |true=>rw [hd] at h; exact .inl ⟨of_decide_eq_true hd,(aao h).symm⟩
 |false=>rw [hd] at h; exact .inr (pE h)
def Z2:(List ((List UInt8) × (List (Int × Int)))) × (List (Int × Int × Int × Int × Bool)):=([([80],[(10,0),(20,5),(10,0),(20,-5)]),([81],[(10,0),(20,5),(10,0),(20,-5)])],[(0,1,1,3,false),(0,3,1,1,false)])
def RB:(List (List Int)) × Int:=([[0,1,2,3],[1,0,3,2]],0)
def Tp (y:(List (List Int)) × Int):Bool:=decide (y=RB)
theorem Od {y:(List (List Int)) × Int} (h:Tp y=true):y=RB:=of_decide_eq_true h
theorem adR:bJ bU 21 (aQ.enc (.cons ko .nil) Z2) (fun r=>r=aP.enc (.bP (.cons (.list 1 bF) (.cons (.int .i64) .nil))) RB):=
 bJ.mono (dc (C:=Lv) (n:=100000) (p:=(.bP (.cons (.list 1 bF) (.cons (.int .i64) .nil)))) (ok:=Tp) (gB gZ) (by kernel_rfl) (by kernel_rfl) (by kernel_rfl)) fun r ⟨y,h1,h2⟩=>by rw [h1,Od h2]
noncomputable def E21:bK:=⟨(.cons ko .nil),(.bP (.cons (.list 1 bF) (.cons (.int .i64) .nil))),ov (α:=(List ((List UInt8) × (List (Int × Int)))) × (List (Int × Int × Int × Int × Bool))) (β:=(List (List Int)) × Int) [(Z2,RB)]⟩
theorem Wp:aI bU 21 E21:=fun x y h=>by
 obtain ⟨e1,e2⟩:=pE (α:=(List ((List UInt8) × (List (Int × Int)))) × (List (Int × Int × Int × Int × Bool))) (β:=(List (List Int)) × Int) h;subst e1; subst e2;exact adR
def Z3:(List ((List UInt8) × (List (Int × Int)))) × (List (Int × Int × Int × Int × Bool)):=([([80],[(10,0),(20,5),(10,0),(20,-5)]),([81],[(10,0),(20,5),(10,0),(20,-5)])],[(0,1,1,3,false),(0,3,1,1,false)])
def RC:(Int × Int × Int × Int × Int × Int) × Int:=((4,6,2,1,2,0),0)
def Tq (y:(Int × Int × Int × Int × Int × Int) × Int):Bool:=decide (y=RC)
theorem Oe {y:(Int × Int × Int × Int × Int × Int) × Int} (h:Tq y=true):y=RC:=of_decide_eq_true h
theorem adS:bJ bU 23 (aQ.enc (.cons ko .nil) Z3) (fun r=>r=aP.enc (.bP (.cons JD (.cons (.int .i64) .nil))) RC):=
 bJ.mono (dc (C:=Lv) (n:=100000) (p:=(.bP (.cons JD (.cons (.int .i64) .nil)))) (ok:=Tq) (gB gZ) (by kernel_rfl) (by kernel_rfl) (by kernel_rfl)) fun r ⟨y,h1,h2⟩=>by rw [h1,Oe h2]
noncomputable def E23:bK:=⟨(.cons ko .nil),(.bP (.cons JD (.cons (.int .i64) .nil))),ov (α:=(List ((List UInt8) × (List (Int × Int)))) × (List (Int × Int × Int × Int × Bool))) (β:=(Int × Int × Int × Int × Int × Int) × Int) [(Z3,RC)]⟩
theorem Wq:aI bU 23 E23:=fun x y h=>by
 obtain ⟨e1,e2⟩:=pE (α:=(List ((List UInt8) × (List (Int × Int)))) × (List (Int × Int × Int × Int × Bool))) (β:=(Int × Int × Int × Int × Int × Int) × Int) h;subst e1; subst e2;exact adS
def Z4:(List ((List UInt8) × (List (Int × Int)))) × (List (Int × Int × Int × Int × Bool)):=([([80],[(10,0),(20,5),(10,0),(20,-5)]),([81],[(10,0),(20,5),(10,0),(20,-5)])],[(0,1,1,3,false),(0,3,1,1,false)])
def RD:(List (List (Int × Int))) × Int:=([[(0,0),(1,0)],[(0,2),(1,2)]],0)
def Tr (y:(List (List (Int × Int))) × Int):Bool:=decide (y=RD)
theorem Of {y:(List (List (Int × Int))) × Int} (h:Tr y=true):y=RD:=of_decide_eq_true h
theorem adT:bJ bU 10 (aQ.enc (.cons ko .nil) Z4) (fun r=>r=aP.enc (.bP (.cons (.list 1 pz) (.cons (.int .i64) .nil))) RD):=
 bJ.mono (dc (C:=Lv) (n:=100000) (p:=(.bP (.cons (.list 1 pz) (.cons (.int .i64) .nil)))) (ok:=Tr) (gB gZ) (by kernel_rfl) (by kernel_rfl) (by kernel_rfl)) fun r ⟨y,h1,h2⟩=>by rw [h1,Of h2]
def Z5:(List ((List UInt8) × (List (Int × Int)))) × (List (Int × Int × Int × Int × Bool)):=([([80],[(10,0),(20,5),(10,0),(20,-5)]),([81],[(10,0),(20,5),(10,0),(20,-5)])],[(0,1,1,3,false),(0,3,1,1,true)])
def RE:(List (List (Int × Int))) × Int:=([[(0,0),(1,0),(0,2),(1,2)]],0)
def Ts (y:(List (List (Int × Int))) × Int):Bool:=decide (y=RE)
theorem Og {y:(List (List (Int × Int))) × Int} (h:Ts y=true):y=RE:=of_decide_eq_true h
theorem adU:bJ bU 10 (aQ.enc (.cons ko .nil) Z5) (fun r=>r=aP.enc (.bP (.cons (.list 1 pz) (.cons (.int .i64) .nil))) RE):=
 bJ.mono (dc (C:=Lv) (n:=100000) (p:=(.bP (.cons (.list 1 pz) (.cons (.int .i64) .nil)))) (ok:=Ts) (gB gZ) (by kernel_rfl) (by kernel_rfl) (by kernel_rfl)) fun r ⟨y,h1,h2⟩=>by rw [h1,Og h2]
noncomputable def E10:bK:=⟨(.cons ko .nil),(.bP (.cons (.list 1 pz) (.cons (.int .i64) .nil))),ov (α:=(List ((List UInt8) × (List (Int × Int)))) × (List (Int × Int × Int × Int × Bool))) (β:=(List (List (Int × Int))) × Int) [(Z4,RD),(Z5,RE)]⟩
theorem Wr:aI bU 10 E10:=fun x y h=>by
 rcases vz (α:=(List ((List UInt8) × (List (Int × Int)))) × (List (Int × Int × Int × Int × Bool))) (β:=(List (List (Int × Int))) × Int) h with ⟨e1,e2⟩|⟨e1,e2⟩
 ·subst e1; subst e2; exact adT
 ·subst e1; subst e2; exact adU
def Z6:(List ((List UInt8) × (List (Int × Int)))) × (List (Int × Int × Int × Int × Bool)):=([([80],[(10,0),(20,5),(10,0),(20,-5)]),([81],[(10,0),(20,5),(10,0),(20,-5)])],[(0,1,1,3,false),(0,3,1,1,false)])
def RG:(List (Int × Int)) × Int × Int:=([(0,0),(1,0)],20,0)
def Tt (y:(List (Int × Int)) × Int × Int):Bool:=decide (y=RG)
theorem Oh {y:(List (Int × Int)) × Int × Int} (h:Tt y=true):y=RG:=of_decide_eq_true h
theorem adV:bJ bU 12 (aQ.enc (.cons ko .nil) Z6) (fun r=>r=aP.enc (.bP (.cons pz (.cons (.int .i64) (.cons (.int .i64) .nil)))) RG):=
 bJ.mono (dc (C:=Lv) (n:=100000) (p:=(.bP (.cons pz (.cons (.int .i64) (.cons (.int .i64) .nil))))) (ok:=Tt) (gB gZ) (by kernel_rfl) (by kernel_rfl) (by kernel_rfl)) fun r ⟨y,h1,h2⟩=>by rw [h1,Oh h2]
noncomputable def E12:bK:=⟨(.cons ko .nil),(.bP (.cons pz (.cons (.int .i64) (.cons (.int .i64) .nil)))),ov (α:=(List ((List UInt8) × (List (Int × Int)))) × (List (Int × Int × Int × Int × Bool))) (β:=(List (Int × Int)) × Int × Int) [(Z6,RG)]⟩
theorem Ws:aI bU 12 E12:=fun x y h=>by
 obtain ⟨e1,e2⟩:=pE (α:=(List ((List UInt8) × (List (Int × Int)))) × (List (Int × Int × Int × Int × Bool))) (β:=(List (Int × Int)) × Int × Int) h;subst e1; subst e2;exact adV
end Go.Proofs.YtegoimldbgdeiaaGreat
namespace Go.Proofs.YtegoimldbgdeiaaGreat
open Go Go.Am
open List (map)
open Int (toNat)
open Go.IntKind (wrap)
open Go.Am.aP (fits)
set_option maxRecDepth 1000000
def Z7:(List ((List UInt8) × (List (Int × Int)))) × (List (Int × Int × Int × Int × Bool)):=([([80],[(10,0),(20,5),(10,0),(20,-5)]),([81],[(10,0),(20,5),(10,0),(20,-5)])],[(0,1,1,3,false),(0,3,1,1,false)])
def RH:(List (Bool × Int × Int)) × Int:=([(true,0,2)],0)
def Tu (y:(List (Bool × Int × Int)) × Int):Bool:=decide (y=RH)
theorem Oi {y:(List (Bool × Int × Int)) × Int} (h:Tu y=true):y=RH:=of_decide_eq_true h
theorem adW:bJ bU 13 (aQ.enc (.cons ko .nil) Z7) (fun r=>r=aP.enc (.bP (.cons F2 (.cons (.int .i64) .nil))) RH):=
 bJ.mono (dc (C:=Lv) (n:=100000) (p:=(.bP (.cons F2 (.cons (.int .i64) .nil)))) (ok:=Tu) (gB gZ) (by kernel_rfl) (by kernel_rfl) (by kernel_rfl)) fun r ⟨y,h1,h2⟩=>by rw [h1,Oi h2]
def Z8:(List ((List UInt8) × (List (Int × Int)))) × (List (Int × Int × Int × Int × Bool)):=([([80],[(10,0),(20,5),(10,0),(20,-5)]),([81],[(10,0),(20,5),(10,0),(20,-5)])],[(0,1,1,3,false),(0,3,1,1,true)])
def RI:(List (Bool × Int × Int)) × Int:=([(false,1,1)],0)
def Tv (y:(List (Bool × Int × Int)) × Int):Bool:=decide (y=RI)
theorem Oj {y:(List (Bool × Int × Int)) × Int} (h:Tv y=true):y=RI:=of_decide_eq_true h
theorem adX:bJ bU 13 (aQ.enc (.cons ko .nil) Z8) (fun r=>r=aP.enc (.bP (.cons F2 (.cons (.int .i64) .nil))) RI):=
 bJ.mono (dc (C:=Lv) (n:=100000) (p:=(.bP (.cons F2 (.cons (.int .i64) .nil)))) (ok:=Tv) (gB gZ) (by kernel_rfl) (by kernel_rfl) (by kernel_rfl)) fun r ⟨y,h1,h2⟩=>by rw [h1,Oj h2]
noncomputable def E13:bK:=⟨(.cons ko .nil),(.bP (.cons F2 (.cons (.int .i64) .nil))),ov (α:=(List ((List UInt8) × (List (Int × Int)))) × (List (Int × Int × Int × Int × Bool))) (β:=(List (Bool × Int × Int)) × Int) [(Z7,RH),(Z8,RI)]⟩
theorem Wt:aI bU 13 E13:=fun x y h=>by
 rcases vz (α:=(List ((List UInt8) × (List (Int × Int)))) × (List (Int × Int × Int × Int × Bool))) (β:=(List (Bool × Int × Int)) × Int) h with ⟨e1,e2⟩|⟨e1,e2⟩
 ·subst e1; subst e2; exact adW
 ·subst e1; subst e2; exact adX
def Z9:(List ((List UInt8) × (List (Int × Int)))) × (List (Int × Int × Int × Int × Bool)):=([([80],[(10,0),(20,5),(10,0),(20,-5)]),([81],[(10,0),(20,5),(10,0),(20,-5)])],[(0,1,1,3,false),(0,3,1,1,false)])
def RJ:(List Int) × Int:=([1,1],0)
def Tw (y:(List Int) × Int):Bool:=decide (y=RJ)
theorem Ol {y:(List Int) × Int} (h:Tw y=true):y=RJ:=of_decide_eq_true h
theorem adY:bJ bU 30 (aQ.enc (.cons ko .nil) Z9) (fun r=>r=aP.enc (.bP (.cons bF (.cons (.int .i64) .nil))) RJ):=
 bJ.mono (dc (C:=Lv) (n:=100000) (p:=(.bP (.cons bF (.cons (.int .i64) .nil)))) (ok:=Tw) (gB gZ) (by kernel_rfl) (by kernel_rfl) (by kernel_rfl)) fun r ⟨y,h1,h2⟩=>by rw [h1,Ol h2]
def aaa:(List ((List UInt8) × (List (Int × Int)))) × (List (Int × Int × Int × Int × Bool)):=([([80],[(10,0),(20,5),(10,0),(20,-5)]),([81],[(10,0),(20,5),(10,0),(20,-5)])],[(0,1,1,3,false),(0,3,1,1,true)])
def RK:(List Int) × Int:=([],29)
def Tx (y:(List Int) × Int):Bool:=decide (y=RK)
theorem Om {y:(List Int) × Int} (h:Tx y=true):y=RK:=of_decide_eq_true h
theorem adZ:bJ bU 30 (aQ.enc (.cons ko .nil) aaa) (fun r=>r=aP.enc (.bP (.cons bF (.cons (.int .i64) .nil))) RK):=
 bJ.mono (dc (C:=Lv) (n:=100000) (p:=(.bP (.cons bF (.cons (.int .i64) .nil)))) (ok:=Tx) (gB gZ) (by kernel_rfl) (by kernel_rfl) (by kernel_rfl)) fun r ⟨y,h1,h2⟩=>by rw [h1,Om h2]
noncomputable def E30:bK:=⟨(.cons ko .nil),(.bP (.cons bF (.cons (.int .i64) .nil))),ov (α:=(List ((List UInt8) × (List (Int × Int)))) × (List (Int × Int × Int × Int × Bool))) (β:=(List Int) × Int) [(Z9,RJ),(aaa,RK)]⟩
theorem Wu:aI bU 30 E30:=fun x y h=>by
 rcases vz (α:=(List ((List UInt8) × (List (Int × Int)))) × (List (Int × Int × Int × Int × Bool))) (β:=(List Int) × Int) h with ⟨e1,e2⟩|⟨e1,e2⟩
 ·subst e1; subst e2; exact adY
 ·subst e1; subst e2; exact adZ
def aab:((List ((List UInt8) × (List (Int × Int)))) × (List (Int × Int × Int × Int × Bool))) × (Int × List Int):=(([([80],[(10,0),(20,5),(10,0),(20,-5)]),([81],[(10,0),(20,5),(10,0),(20,-5)])],[(0,1,1,3,false),(0,3,1,1,true)]),(0,[0,1]))
def RL:Int:=0
def Ty (y:Int):Bool:=decide (y=RL)
theorem On {y:Int} (h:Ty y=true):y=RL:=of_decide_eq_true h
theorem ad0:bJ bU 33 (aQ.enc (.cons ko (.cons (.agg (.cons (.int .i64) (.cons bF .nil))) .nil)) aab) (fun r=>r=aP.enc (.int .i64) RL):=
 bJ.mono (dc (C:=Lv) (n:=100000) (p:=(.int .i64)) (ok:=Ty) (gB gZ) (by kernel_rfl) (by kernel_rfl) (by kernel_rfl)) fun r ⟨y,h1,h2⟩=>by rw [h1,On h2]
noncomputable def E33:bK:=⟨(.cons ko (.cons (.agg (.cons (.int .i64) (.cons bF .nil))) .nil)),(.int .i64),ov (α:=((List ((List UInt8) × (List (Int × Int)))) × (List (Int × Int × Int × Int × Bool))) × (Int × List Int)) (β:=Int) [(aab,RL)]⟩
theorem Wv:aI bU 33 E33:=fun x y h=>by
 obtain ⟨e1,e2⟩:=pE (α:=((List ((List UInt8) × (List (Int × Int)))) × (List (Int × Int × Int × Int × Bool))) × (Int × List Int)) (β:=Int) h;subst e1; subst e2;exact ad0
def aac:((List ((List UInt8) × (List (Int × Int)))) × (List (Int × Int × Int × Int × Bool))) × List (Int × Int × Bool):=(([([80],[(10,0),(20,5),(10,0),(20,-5)]),([81],[(10,0),(20,5),(10,0),(20,-5)])],[(0,1,1,3,false),(0,3,1,1,true)]),[(1,0,false),(0,2,true),(0,1,true)])
def RM:Int:=0
def Tz (y:Int):Bool:=decide (y=RM)
theorem Oo {y:Int} (h:Tz y=true):y=RM:=of_decide_eq_true h
theorem ad1:bJ bU 38 (aQ.enc (.cons ko (.cons (.list 3 (.agg (.cons (.int .i64) (.cons (.int .i64) (.cons .bool .nil))))) .nil)) aac) (fun r=>r=aP.enc (.int .i64) RM):=
 bJ.mono (dc (C:=Lv) (n:=100000) (p:=(.int .i64)) (ok:=Tz) (gB gZ) (by kernel_rfl) (by kernel_rfl) (by kernel_rfl)) fun r ⟨y,h1,h2⟩=>by rw [h1,Oo h2]
noncomputable def E38:bK:=⟨(.cons ko (.cons (.list 3 (.agg (.cons (.int .i64) (.cons (.int .i64) (.cons .bool .nil))))) .nil)),(.int .i64),ov (α:=((List ((List UInt8) × (List (Int × Int)))) × (List (Int × Int × Int × Int × Bool))) × List (Int × Int × Bool)) (β:=Int) [(aac,RM)]⟩
theorem Ww:aI bU 38 E38:=fun x y h=>by
 obtain ⟨e1,e2⟩:=pE (α:=((List ((List UInt8) × (List (Int × Int)))) × (List (Int × Int × Int × Int × Bool))) × List (Int × Int × Bool)) (β:=Int) h;subst e1; subst e2;exact ad1
def aad:(List ((List UInt8) × (List (Int × Int)))) × (List (Int × Int × Int × Int × Bool)):=([([80],[(10,0),(20,5),(10,0),(20,-5)]),([81],[(10,0),(20,5),(10,0),(20,-5)])],[(0,1,1,3,false),(0,3,1,1,false)])
def RN:(List (List Int)) × Int:=([[0,0,5,5],[0,0,5,5]],0)
def TA (y:(List (List Int)) × Int):Bool:=decide (y=RN)
theorem Oq {y:(List (List Int)) × Int} (h:TA y=true):y=RN:=of_decide_eq_true h
theorem ad2:bJ bU 34 (aQ.enc (.cons ko .nil) aad) (fun r=>r=aP.enc (.bP (.cons (.list 1 bF) (.cons (.int .i64) .nil))) RN):=
 bJ.mono (dc (C:=Lv) (n:=100000) (p:=(.bP (.cons (.list 1 bF) (.cons (.int .i64) .nil)))) (ok:=TA) (gB gZ) (by kernel_rfl) (by kernel_rfl) (by kernel_rfl)) fun r ⟨y,h1,h2⟩=>by rw [h1,Oq h2]
def aae:(List ((List UInt8) × (List (Int × Int)))) × (List (Int × Int × Int × Int × Bool)):=([([80],[(10,0),(20,5),(10,0),(20,-5)]),([81],[(10,0),(20,5),(10,0),(20,-5)])],[(0,1,1,3,false),(0,3,1,1,true)])
def RQ:(List (List Int)) × Int:=([],29)
def TB (y:(List (List Int)) × Int):Bool:=decide (y=RQ)
theorem Ot {y:(List (List Int)) × Int} (h:TB y=true):y=RQ:=of_decide_eq_true h
theorem ad3:bJ bU 34 (aQ.enc (.cons ko .nil) aae) (fun r=>r=aP.enc (.bP (.cons (.list 1 bF) (.cons (.int .i64) .nil))) RQ):=
 bJ.mono (dc (C:=Lv) (n:=100000) (p:=(.bP (.cons (.list 1 bF) (.cons (.int .i64) .nil)))) (ok:=TB) (gB gZ) (by kernel_rfl) (by kernel_rfl) (by kernel_rfl)) fun r ⟨y,h1,h2⟩=>by rw [h1,Ot h2]
noncomputable def E34:bK:=⟨(.cons ko .nil),(.bP (.cons (.list 1 bF) (.cons (.int .i64) .nil))),ov (α:=(List ((List UInt8) × (List (Int × Int)))) × (List (Int × Int × Int × Int × Bool))) (β:=(List (List Int)) × Int) [(aad,RN),(aae,RQ)]⟩
theorem Wx:aI bU 34 E34:=fun x y h=>by
 rcases vz (α:=(List ((List UInt8) × (List (Int × Int)))) × (List (Int × Int × Int × Int × Bool))) (β:=(List (List Int)) × Int) h with ⟨e1,e2⟩|⟨e1,e2⟩
 ·subst e1; subst e2; exact ad2
 ·subst e1; subst e2; exact ad3
end Go.Proofs.YtegoimldbgdeiaaGreat
namespace Go.Proofs.YtegoimldbgdeiaaGreat
open Go Go.Am
open List (map)
open Int (toNat)
open Go.IntKind (wrap)
open Go.Am.aP (fits)
set_option maxRecDepth 1000000
noncomputable def aaf:List (Nat × bK):=RA++[(21,E21),(23,E23),(10,E10),(12,E12),(13,E13),(30,E30),(33,E33),(38,E38),(34,E34)]
theorem RR:∀ a e,(a,e)∈aaf→aI bU a e:=fun a e h=>by
 rcases List.mem_append.1 h with h|h
 ·exact gZ a e h
 ·simp only [List.mem_cons,Prod.mk.injEq,List.not_mem_nil,or_false] at h;rcases h with ⟨rfl,rfl⟩|⟨rfl,rfl⟩|⟨rfl,rfl⟩|⟨rfl,rfl⟩|⟨rfl,rfl⟩|⟨rfl,rfl⟩|⟨rfl,rfl⟩|⟨rfl,rfl⟩|⟨rfl,rfl⟩
  ·exact Wp
  ·exact Wq
  ·exact Wr
  ·exact Ws
  ·exact Wt
  ·exact Wu
  ·exact Wv
  ·exact Ww
  ·exact Wx
noncomputable def cxD:jT:={ D:=NM,Lb:=B8 aaf,Eb:=fun _ _=>none,fz:=true,N:=0,xt:=xtC,gt:=gtG }
theorem Gk:bJ bU 8 [] (fun r=>∃ y:Bool,r=aP.enc .bool y∧y=true):=
 dc (C:=cxD) (n:=100000) (p:=.bool) (ok:=fun (y:Bool)=>y) (gB RR) (by kernel_rfl) (by kernel_rfl) (by kernel_rfl)
end Go.Proofs.YtegoimldbgdeiaaGreat
namespace Go.Proofs.YtegoimldbgdeiaaGreat
open Go Go.Am
open List (map)
open Int (toNat)
open Go.IntKind (wrap)
open Go.Am.aP (fits)
def T8 (_N:Nat):Unit→Option Bool:=fun _=>some true
def e8 (N:Nat):bK:=⟨.nil,.bool,T8 N⟩
theorem aag (N:Nat):aI bU 8 (e8 N):=fun x y h=>by
 cases h;exact bJ.mono Gk fun r ⟨y,h1,h2⟩=>by rw [h1,h2]; rfl
end Go.Proofs.YtegoimldbgdeiaaGreat
