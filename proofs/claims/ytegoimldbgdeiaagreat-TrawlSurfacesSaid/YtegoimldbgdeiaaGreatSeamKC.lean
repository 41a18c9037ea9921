/- The chapter's examples,call by call. -/
import Derived.Test.YtegoimldbgdeiaaGreatSeamKB
import Derived.Test.YtegoimldbgdeiaaGreatTrzG
set_option linter.all false
open Option.some renaming inj→aag
namespace Go.Proofs.YtegoimldbgdeiaaGreat
open Go Go.Am
open List (map)
open Int (toNat)
open Go.IntKind (wrap)
open Go.Am.aM (fits)
set_option maxRecDepth 1000000
theorem Ze:eQ 18446744073709551616:=Nat.le_refl _
noncomputable def W3:List (Nat × bH):=[(61,OI),(62,MO 18446744073709551616)]
theorem jA:∀ a e,(a,e)∈W3→aJ cm a e:=fun a e h=>by
 simp only [W3,List.mem_cons,Prod.mk.injEq,List.not_mem_nil,or_false] at h;rcases h with ⟨rfl,rfl⟩|⟨rfl,rfl⟩
 ·exact M6 Ze
 ·exact Qg Ze
noncomputable def xtC:(g:FuncId)→Option (Av cm g)
 |70=>some (WZ 18446744073709551616 (Nat.le_refl _))
 |_=>none
noncomputable def Qj:km:={ D:=SS,PX:=Fu W3,HG:=fun _ _=>none,fz:=true,N:=0,xt:=xtC,gt:=gtG }
instance decI5:DecidableEq (Int × Int × Int × Int × Bool):=inferInstance
instance decPn:DecidableEq ((List UInt8) × (List (Int × Int))):=inferInstance
instance decLP:DecidableEq (List ((List UInt8) × (List (Int × Int)))):=inferInstance
instance decLS:DecidableEq (List (Int × Int × Int × Int × Bool)):=inferInstance
instance decT:DecidableEq ((List ((List UInt8) × (List (Int × Int)))) × (List (Int × Int × Int × Int × Bool))):=inferInstance
instance decTW:DecidableEq (((List ((List UInt8) × (List (Int × Int)))) × (List (Int × Int × Int × Int × Bool))) × (Int × List Int)):=inferInstance
instance decTS:DecidableEq (((List ((List UInt8) × (List (Int × Int)))) × (List (Int × Int × Int × Int × Bool))) × List (Int × Int × Bool)):=inferInstance
instance decI4:DecidableEq (Int × Int × Int × Int):=inferInstance
instance decI6:DecidableEq (Int × Int × Int × Int × Int × Int):=inferInstance
instance decC6:DecidableEq ((Int × Int × Int × Int × Int × Int) × Int):=inferInstance
instance decLLE:DecidableEq ((List (List (Int × Int))) × Int):=inferInstance
def qy {α β:Type} [DecidableEq α]:List (α × β)→α→Option β
 |[],_=>none
 |(a,b) :: l,x=>bif decide (x=a) then some b else qy l x
theorem sf {α β:Type} [DecidableEq α] {a x:α} {b y:β} (h:qy [(a,b)] x=some y):x=a∧y=b:=by
 unfold qy at h;cases hd:decide (x=a) with
 |true=>rw [hd] at h; exact ⟨of_decide_eq_true hd,(aag h).symm⟩
 |false=>rw [hd] at h; cases h
theorem zf {α β:Type} [DecidableEq α] {a a' x:α} {b b' y:β} (h:qy [(a,b),(a',b')] x=some y):(x=a∧y=b)∨(x=a'∧y=b'):=by
 unfold qy at h;cases hd:decide (x=a) with
 |true=>rw [hd] at h; exact .inl ⟨of_decide_eq_true hd,(aag h).symm⟩
 |false=>rw [hd] at h; exact .inr (sf h)
def af6:(List ((List UInt8) × (List (Int × Int)))) × (List (Int × Int × Int × Int × Bool)):=([([80],[(10,0),(20,5),(10,0),(20,-5)]),([81],[(10,0),(20,5),(10,0),(20,-5)])],[(0,1,1,3,false),(0,3,1,1,false)])
def W4:(List (List Int)) × Int:=([[0,1,2,3],[1,0,3,2]],0)
def Zf (y:(List (List Int)) × Int):Bool:=decide (y=W4)
theorem Tn {y:(List (List Int)) × Int} (h:Zf y=true):y=W4:=of_decide_eq_true h
theorem aj8:bY cm 21 (aR.enc (.cons n8 .nil) af6) (fun r=>r=aM.enc (.bW (.cons fa (.cons (.int .i64) .nil))) W4):=
 bY.mono (dS (C:=Qj) (n:=100000) (p:=(.bW (.cons fa (.cons (.int .i64) .nil)))) (ok:=Zf) (iY jA) (by kernel_rfl) (by kernel_rfl) (by kernel_rfl)) fun r ⟨y,h1,h2⟩=>by rw [h1,Tn h2]
noncomputable def E21:bH:=⟨(.cons n8 .nil),(.bW (.cons fa (.cons (.int .i64) .nil))),qy (α:=(List ((List UInt8) × (List (Int × Int)))) × (List (Int × Int × Int × Int × Bool))) (β:=(List (List Int)) × Int) [(af6,W4)]⟩
theorem ab9:aJ cm 21 E21:=fun x y h=>by
 obtain ⟨e1,e2⟩:=sf (α:=(List ((List UInt8) × (List (Int × Int)))) × (List (Int × Int × Int × Int × Bool))) (β:=(List (List Int)) × Int) h;subst e1; subst e2;exact aj8
def af7:(List ((List UInt8) × (List (Int × Int)))) × (List (Int × Int × Int × Int × Bool)):=([([80],[(10,0),(20,5),(10,0),(20,-5)]),([81],[(10,0),(20,5),(10,0),(20,-5)])],[(0,1,1,3,false),(0,3,1,1,false)])
def W5:(Int × Int × Int × Int × Int × Int) × Int:=((4,6,2,1,2,0),0)
def Zg (y:(Int × Int × Int × Int × Int × Int) × Int):Bool:=decide (y=W5)
theorem To {y:(Int × Int × Int × Int × Int × Int) × Int} (h:Zg y=true):y=W5:=of_decide_eq_true h
theorem aj9:bY cm 23 (aR.enc (.cons n8 .nil) af7) (fun r=>r=aM.enc (.bW (.cons Of (.cons (.int .i64) .nil))) W5):=
 bY.mono (dS (C:=Qj) (n:=100000) (p:=(.bW (.cons Of (.cons (.int .i64) .nil)))) (ok:=Zg) (iY jA) (by kernel_rfl) (by kernel_rfl) (by kernel_rfl)) fun r ⟨y,h1,h2⟩=>by rw [h1,To h2]
noncomputable def E23:bH:=⟨(.cons n8 .nil),(.bW (.cons Of (.cons (.int .i64) .nil))),qy (α:=(List ((List UInt8) × (List (Int × Int)))) × (List (Int × Int × Int × Int × Bool))) (β:=(Int × Int × Int × Int × Int × Int) × Int) [(af7,W5)]⟩
theorem aca:aJ cm 23 E23:=fun x y h=>by
 obtain ⟨e1,e2⟩:=sf (α:=(List ((List UInt8) × (List (Int × Int)))) × (List (Int × Int × Int × Int × Bool))) (β:=(Int × Int × Int × Int × Int × Int) × Int) h;subst e1; subst e2;exact aj9
def af8:(List ((List UInt8) × (List (Int × Int)))) × (List (Int × Int × Int × Int × Bool)):=([([80],[(10,0),(20,5),(10,0),(20,-5)]),([81],[(10,0),(20,5),(10,0),(20,-5)])],[(0,1,1,3,false),(0,3,1,1,false)])
def W6:(List (List (Int × Int))) × Int:=([[(0,0),(1,0)],[(0,2),(1,2)]],0)
def Zh (y:(List (List (Int × Int))) × Int):Bool:=decide (y=W6)
theorem Tp {y:(List (List (Int × Int))) × Int} (h:Zh y=true):y=W6:=of_decide_eq_true h
theorem aka:bY cm 10 (aR.enc (.cons n8 .nil) af8) (fun r=>r=aM.enc (.bW (.cons (.list 1 rW) (.cons (.int .i64) .nil))) W6):=
 bY.mono (dS (C:=Qj) (n:=100000) (p:=(.bW (.cons (.list 1 rW) (.cons (.int .i64) .nil)))) (ok:=Zh) (iY jA) (by kernel_rfl) (by kernel_rfl) (by kernel_rfl)) fun r ⟨y,h1,h2⟩=>by rw [h1,Tp h2]
def af9:(List ((List UInt8) × (List (Int × Int)))) × (List (Int × Int × Int × Int × Bool)):=([([80],[(10,0),(20,5),(10,0),(20,-5)]),([81],[(10,0),(20,5),(10,0),(20,-5)])],[(0,1,1,3,false),(0,3,1,1,true)])
def W7:(List (List (Int × Int))) × Int:=([[(0,0),(1,0),(0,2),(1,2)]],0)
def Zi (y:(List (List (Int × Int))) × Int):Bool:=decide (y=W7)
theorem Tq {y:(List (List (Int × Int))) × Int} (h:Zi y=true):y=W7:=of_decide_eq_true h
theorem akb:bY cm 10 (aR.enc (.cons n8 .nil) af9) (fun r=>r=aM.enc (.bW (.cons (.list 1 rW) (.cons (.int .i64) .nil))) W7):=
 bY.mono (dS (C:=Qj) (n:=100000) (p:=(.bW (.cons (.list 1 rW) (.cons (.int .i64) .nil)))) (ok:=Zi) (iY jA) (by kernel_rfl) (by kernel_rfl) (by kernel_rfl)) fun r ⟨y,h1,h2⟩=>by rw [h1,Tq h2]
noncomputable def E10:bH:=⟨(.cons n8 .nil),(.bW (.cons (.list 1 rW) (.cons (.int .i64) .nil))),qy (α:=(List ((List UInt8) × (List (Int × Int)))) × (List (Int × Int × Int × Int × Bool))) (β:=(List (List (Int × Int))) × Int) [(af8,W6),(af9,W7)]⟩
theorem acb:aJ cm 10 E10:=fun x y h=>by
 rcases zf (α:=(List ((List UInt8) × (List (Int × Int)))) × (List (Int × Int × Int × Int × Bool))) (β:=(List (List (Int × Int))) × Int) h with ⟨e1,e2⟩|⟨e1,e2⟩
 ·subst e1; subst e2; exact aka
 ·subst e1; subst e2; exact akb
def aga:(List ((List UInt8) × (List (Int × Int)))) × (List (Int × Int × Int × Int × Bool)):=([([80],[(10,0),(20,5),(10,0),(20,-5)]),([81],[(10,0),(20,5),(10,0),(20,-5)])],[(0,1,1,3,false),(0,3,1,1,false)])
def W8:(List (Int × Int)) × Int × Int:=([(0,0),(1,0)],20,0)
def Zj (y:(List (Int × Int)) × Int × Int):Bool:=decide (y=W8)
theorem Tr {y:(List (Int × Int)) × Int × Int} (h:Zj y=true):y=W8:=of_decide_eq_true h
theorem akc:bY cm 12 (aR.enc (.cons n8 .nil) aga) (fun r=>r=aM.enc (.bW (.cons rW (.cons (.int .i64) (.cons (.int .i64) .nil)))) W8):=
 bY.mono (dS (C:=Qj) (n:=100000) (p:=(.bW (.cons rW (.cons (.int .i64) (.cons (.int .i64) .nil))))) (ok:=Zj) (iY jA) (by kernel_rfl) (by kernel_rfl) (by kernel_rfl)) fun r ⟨y,h1,h2⟩=>by rw [h1,Tr h2]
noncomputable def E12:bH:=⟨(.cons n8 .nil),(.bW (.cons rW (.cons (.int .i64) (.cons (.int .i64) .nil)))),qy (α:=(List ((List UInt8) × (List (Int × Int)))) × (List (Int × Int × Int × Int × Bool))) (β:=(List (Int × Int)) × Int × Int) [(aga,W8)]⟩
theorem acd:aJ cm 12 E12:=fun x y h=>by
 obtain ⟨e1,e2⟩:=sf (α:=(List ((List UInt8) × (List (Int × Int)))) × (List (Int × Int × Int × Int × Bool))) (β:=(List (Int × Int)) × Int × Int) h;subst e1; subst e2;exact akc
end Go.Proofs.YtegoimldbgdeiaaGreat
namespace Go.Proofs.YtegoimldbgdeiaaGreat
open Go Go.Am
open List (map)
open Int (toNat)
open Go.IntKind (wrap)
open Go.Am.aM (fits)
set_option maxRecDepth 1000000
def agb:(List ((List UInt8) × (List (Int × Int)))) × (List (Int × Int × Int × Int × Bool)):=([([80],[(10,0),(20,5),(10,0),(20,-5)]),([81],[(10,0),(20,5),(10,0),(20,-5)])],[(0,1,1,3,false),(0,3,1,1,false)])
def W9:(List (Bool × Int × Int)) × Int:=([(true,0,2)],0)
def Zk (y:(List (Bool × Int × Int)) × Int):Bool:=decide (y=W9)
theorem Ts {y:(List (Bool × Int × Int)) × Int} (h:Zk y=true):y=W9:=of_decide_eq_true h
theorem akd:bY cm 13 (aR.enc (.cons n8 .nil) agb) (fun r=>r=aM.enc (.bW (.cons JM (.cons (.int .i64) .nil))) W9):=
 bY.mono (dS (C:=Qj) (n:=100000) (p:=(.bW (.cons JM (.cons (.int .i64) .nil)))) (ok:=Zk) (iY jA) (by kernel_rfl) (by kernel_rfl) (by kernel_rfl)) fun r ⟨y,h1,h2⟩=>by rw [h1,Ts h2]
def agc:(List ((List UInt8) × (List (Int × Int)))) × (List (Int × Int × Int × Int × Bool)):=([([80],[(10,0),(20,5),(10,0),(20,-5)]),([81],[(10,0),(20,5),(10,0),(20,-5)])],[(0,1,1,3,false),(0,3,1,1,true)])
def Xa:(List (Bool × Int × Int)) × Int:=([(false,1,1)],0)
def Zl (y:(List (Bool × Int × Int)) × Int):Bool:=decide (y=Xa)
theorem Tt {y:(List (Bool × Int × Int)) × Int} (h:Zl y=true):y=Xa:=of_decide_eq_true h
theorem ake:bY cm 13 (aR.enc (.cons n8 .nil) agc) (fun r=>r=aM.enc (.bW (.cons JM (.cons (.int .i64) .nil))) Xa):=
 bY.mono (dS (C:=Qj) (n:=100000) (p:=(.bW (.cons JM (.cons (.int .i64) .nil)))) (ok:=Zl) (iY jA) (by kernel_rfl) (by kernel_rfl) (by kernel_rfl)) fun r ⟨y,h1,h2⟩=>by rw [h1,Tt h2]
noncomputable def E13:bH:=⟨(.cons n8 .nil),(.bW (.cons JM (.cons (.int .i64) .nil))),qy (α:=(List ((List UInt8) × (List (Int × Int)))) × (List (Int × Int × Int × Int × Bool))) (β:=(List (Bool × Int × Int)) × Int) [(agb,W9),(agc,Xa)]⟩
theorem ace:aJ cm 13 E13:=fun x y h=>by
 rcases zf (α:=(List ((List UInt8) × (List (Int × Int)))) × (List (Int × Int × Int × Int × Bool))) (β:=(List (Bool × Int × Int)) × Int) h with ⟨e1,e2⟩|⟨e1,e2⟩
 ·subst e1; subst e2; exact akd
 ·subst e1; subst e2; exact ake
def agd:(List ((List UInt8) × (List (Int × Int)))) × (List (Int × Int × Int × Int × Bool)):=([([80],[(10,0),(20,5),(10,0),(20,-5)]),([81],[(10,0),(20,5),(10,0),(20,-5)])],[(0,1,1,3,false),(0,3,1,1,false)])
def Xb:(List Int) × Int:=([1,1],0)
def Zm (y:(List Int) × Int):Bool:=decide (y=Xb)
theorem Tu {y:(List Int) × Int} (h:Zm y=true):y=Xb:=of_decide_eq_true h
theorem akf:bY cm 30 (aR.enc (.cons n8 .nil) agd) (fun r=>r=aM.enc (.bW (.cons bQ (.cons (.int .i64) .nil))) Xb):=
 bY.mono (dS (C:=Qj) (n:=100000) (p:=(.bW (.cons bQ (.cons (.int .i64) .nil)))) (ok:=Zm) (iY jA) (by kernel_rfl) (by kernel_rfl) (by kernel_rfl)) fun r ⟨y,h1,h2⟩=>by rw [h1,Tu h2]
def age:(List ((List UInt8) × (List (Int × Int)))) × (List (Int × Int × Int × Int × Bool)):=([([80],[(10,0),(20,5),(10,0),(20,-5)]),([81],[(10,0),(20,5),(10,0),(20,-5)])],[(0,1,1,3,false),(0,3,1,1,true)])
def Xc:(List Int) × Int:=([],29)
def Zn (y:(List Int) × Int):Bool:=decide (y=Xc)
theorem Tv {y:(List Int) × Int} (h:Zn y=true):y=Xc:=of_decide_eq_true h
theorem akg:bY cm 30 (aR.enc (.cons n8 .nil) age) (fun r=>r=aM.enc (.bW (.cons bQ (.cons (.int .i64) .nil))) Xc):=
 bY.mono (dS (C:=Qj) (n:=100000) (p:=(.bW (.cons bQ (.cons (.int .i64) .nil)))) (ok:=Zn) (iY jA) (by kernel_rfl) (by kernel_rfl) (by kernel_rfl)) fun r ⟨y,h1,h2⟩=>by rw [h1,Tv h2]
noncomputable def E30:bH:=⟨(.cons n8 .nil),(.bW (.cons bQ (.cons (.int .i64) .nil))),qy (α:=(List ((List UInt8) × (List (Int × Int)))) × (List (Int × Int × Int × Int × Bool))) (β:=(List Int) × Int) [(agd,Xb),(age,Xc)]⟩
theorem acf:aJ cm 30 E30:=fun x y h=>by
 rcases zf (α:=(List ((List UInt8) × (List (Int × Int)))) × (List (Int × Int × Int × Int × Bool))) (β:=(List Int) × Int) h with ⟨e1,e2⟩|⟨e1,e2⟩
 ·subst e1; subst e2; exact akf
 ·subst e1; subst e2; exact akg
def agf:((List ((List UInt8) × (List (Int × Int)))) × (List (Int × Int × Int × Int × Bool))) × (Int × List Int):=(([([80],[(10,0),(20,5),(10,0),(20,-5)]),([81],[(10,0),(20,5),(10,0),(20,-5)])],[(0,1,1,3,false),(0,3,1,1,true)]),(0,[0,1]))
def Xd:Int:=0
def Zo (y:Int):Bool:=decide (y=Xd)
theorem Tw {y:Int} (h:Zo y=true):y=Xd:=of_decide_eq_true h
theorem akh:bY cm 33 (aR.enc (.cons n8 (.cons (.agg (.cons (.int .i64) (.cons bQ .nil))) .nil)) agf) (fun r=>r=aM.enc (.int .i64) Xd):=
 bY.mono (dS (C:=Qj) (n:=100000) (p:=(.int .i64)) (ok:=Zo) (iY jA) (by kernel_rfl) (by kernel_rfl) (by kernel_rfl)) fun r ⟨y,h1,h2⟩=>by rw [h1,Tw h2]
noncomputable def E33:bH:=⟨(.cons n8 (.cons (.agg (.cons (.int .i64) (.cons bQ .nil))) .nil)),(.int .i64),qy (α:=((List ((List UInt8) × (List (Int × Int)))) × (List (Int × Int × Int × Int × Bool))) × (Int × List Int)) (β:=Int) [(agf,Xd)]⟩
theorem acg:aJ cm 33 E33:=fun x y h=>by
 obtain ⟨e1,e2⟩:=sf (α:=((List ((List UInt8) × (List (Int × Int)))) × (List (Int × Int × Int × Int × Bool))) × (Int × List Int)) (β:=Int) h;subst e1; subst e2;exact akh
def agh:((List ((List UInt8) × (List (Int × Int)))) × (List (Int × Int × Int × Int × Bool))) × List (Int × Int × Bool):=(([([80],[(10,0),(20,5),(10,0),(20,-5)]),([81],[(10,0),(20,5),(10,0),(20,-5)])],[(0,1,1,3,false),(0,3,1,1,true)]),[(1,0,false),(0,2,true),(0,1,true)])
def Xe:Int:=0
def Zp (y:Int):Bool:=decide (y=Xe)
theorem Tx {y:Int} (h:Zp y=true):y=Xe:=of_decide_eq_true h
theorem aki:bY cm 38 (aR.enc (.cons n8 (.cons (.list 3 (.agg (.cons (.int .i64) (.cons (.int .i64) (.cons .bool .nil))))) .nil)) agh) (fun r=>r=aM.enc (.int .i64) Xe):=
 bY.mono (dS (C:=Qj) (n:=100000) (p:=(.int .i64)) (ok:=Zp) (iY jA) (by kernel_rfl) (by kernel_rfl) (by kernel_rfl)) fun r ⟨y,h1,h2⟩=>by rw [h1,Tx h2]
noncomputable def E38:bH:=⟨(.cons n8 (.cons (.list 3 (.agg (.cons (.int .i64) (.cons (.int .i64) (.cons .bool .nil))))) .nil)),(.int .i64),qy (α:=((List ((List UInt8) × (List (Int × Int)))) × (List (Int × Int × Int × Int × Bool))) × List (Int × Int × Bool)) (β:=Int) [(agh,Xe)]⟩
theorem ach:aJ cm 38 E38:=fun x y h=>by
 obtain ⟨e1,e2⟩:=sf (α:=((List ((List UInt8) × (List (Int × Int)))) × (List (Int × Int × Int × Int × Bool))) × List (Int × Int × Bool)) (β:=Int) h;subst e1; subst e2;exact aki
def agi:(List ((List UInt8) × (List (Int × Int)))) × (List (Int × Int × Int × Int × Bool)):=([([80],[(10,0),(20,5),(10,0),(20,-5)]),([81],[(10,0),(20,5),(10,0),(20,-5)])],[(0,1,1,3,false),(0,3,1,1,false)])
def Xf:(List (List Int)) × Int:=([[0,0,5,5],[0,0,5,5]],0)
def Zq (y:(List (List Int)) × Int):Bool:=decide (y=Xf)
theorem Ty {y:(List (List Int)) × Int} (h:Zq y=true):y=Xf:=of_decide_eq_true h
theorem akj:bY cm 34 (aR.enc (.cons n8 .nil) agi) (fun r=>r=aM.enc (.bW (.cons fa (.cons (.int .i64) .nil))) Xf):=
 bY.mono (dS (C:=Qj) (n:=100000) (p:=(.bW (.cons fa (.cons (.int .i64) .nil)))) (ok:=Zq) (iY jA) (by kernel_rfl) (by kernel_rfl) (by kernel_rfl)) fun r ⟨y,h1,h2⟩=>by rw [h1,Ty h2]
def agj:(List ((List UInt8) × (List (Int × Int)))) × (List (Int × Int × Int × Int × Bool)):=([([80],[(10,0),(20,5),(10,0),(20,-5)]),([81],[(10,0),(20,5),(10,0),(20,-5)])],[(0,1,1,3,false),(0,3,1,1,true)])
def Xg:(List (List Int)) × Int:=([],29)
def Zr (y:(List (List Int)) × Int):Bool:=decide (y=Xg)
theorem Tz {y:(List (List Int)) × Int} (h:Zr y=true):y=Xg:=of_decide_eq_true h
theorem akk:bY cm 34 (aR.enc (.cons n8 .nil) agj) (fun r=>r=aM.enc (.bW (.cons fa (.cons (.int .i64) .nil))) Xg):=
 bY.mono (dS (C:=Qj) (n:=100000) (p:=(.bW (.cons fa (.cons (.int .i64) .nil)))) (ok:=Zr) (iY jA) (by kernel_rfl) (by kernel_rfl) (by kernel_rfl)) fun r ⟨y,h1,h2⟩=>by rw [h1,Tz h2]
noncomputable def E34:bH:=⟨(.cons n8 .nil),(.bW (.cons fa (.cons (.int .i64) .nil))),qy (α:=(List ((List UInt8) × (List (Int × Int)))) × (List (Int × Int × Int × Int × Bool))) (β:=(List (List Int)) × Int) [(agi,Xf),(agj,Xg)]⟩
theorem aci:aJ cm 34 E34:=fun x y h=>by
 rcases zf (α:=(List ((List UInt8) × (List (Int × Int)))) × (List (Int × Int × Int × Int × Bool))) (β:=(List (List Int)) × Int) h with ⟨e1,e2⟩|⟨e1,e2⟩
 ·subst e1; subst e2; exact akj
 ·subst e1; subst e2; exact akk
end Go.Proofs.YtegoimldbgdeiaaGreat
namespace Go.Proofs.YtegoimldbgdeiaaGreat
open Go Go.Am
open List (map)
open Int (toNat)
open Go.IntKind (wrap)
open Go.Am.aM (fits)
set_option maxRecDepth 1000000
noncomputable def agk:List (Nat × bH):=W3++[(21,E21),(23,E23),(10,E10),(12,E12),(13,E13),(30,E30),(33,E33),(38,E38),(34,E34)]
theorem Xh:∀ a e,(a,e)∈agk→aJ cm a e:=fun a e h=>by
 rcases List.mem_append.1 h with h|h
 ·exact jA a e h
 ·simp only [List.mem_cons,Prod.mk.injEq,List.not_mem_nil,or_false] at h;rcases h with ⟨rfl,rfl⟩|⟨rfl,rfl⟩|⟨rfl,rfl⟩|⟨rfl,rfl⟩|⟨rfl,rfl⟩|⟨rfl,rfl⟩|⟨rfl,rfl⟩|⟨rfl,rfl⟩|⟨rfl,rfl⟩
  ·exact ab9
  ·exact aca
  ·exact acb
  ·exact acd
  ·exact ace
  ·exact acf
  ·exact acg
  ·exact ach
  ·exact aci
noncomputable def cxD:km:={ D:=SS,PX:=Fu agk,HG:=fun _ _=>none,fz:=true,N:=0,xt:=xtC,gt:=gtG }
theorem Kb:bY cm 8 [] (fun r=>∃ y:Bool,r=aM.enc .bool y∧y=true):=
 dS (C:=cxD) (n:=100000) (p:=.bool) (ok:=fun (y:Bool)=>y) (iY Xh) (by kernel_rfl) (by kernel_rfl) (by kernel_rfl)
end Go.Proofs.YtegoimldbgdeiaaGreat
namespace Go.Proofs.YtegoimldbgdeiaaGreat
open Go Go.Am
open List (map)
open Int (toNat)
open Go.IntKind (wrap)
open Go.Am.aM (fits)
def T8 (_N:Nat):Unit→Option Bool:=fun _=>some true
def e8 (N:Nat):bH:=⟨.nil,.bool,T8 N⟩
theorem agl (N:Nat):aJ cm 8 (e8 N):=fun x y h=>by
 cases h;exact bY.mono Kb fun r ⟨y,h1,h2⟩=>by rw [h1,h2]; rfl
end Go.Proofs.YtegoimldbgdeiaaGreat
