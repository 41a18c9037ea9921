/- The chapter's examples,call by call. -/
import Derived.Test.YtegoimldbgdeiaaSeamKB
import Derived.Test.YtegoimldbgdeiaaTrwG
set_option linter.all false
open Option.some renaming inj→aal
namespace Go.Proofs.Ytegoimldbgdeiaa
open Go Go.Am
open List (map)
open Int (toNat)
open Go.IntKind (wrap)
open Go.Am.aL (fits)
set_option maxRecDepth 1000000
theorem X2:eZ 18446744073709551616:=Nat.le_refl _
noncomputable def Wa:List (Nat × bi):=[(60,NR),(58,L4 18446744073709551616)]
theorem ja:∀ a e,(a,e)∈Wa→aK ck a e:=fun a e h=>by
 simp only [Wa,List.mem_cons,Prod.mk.injEq,List.not_mem_nil,or_false] at h;rcases h with ⟨rfl,rfl⟩|⟨rfl,rfl⟩
 ·exact Mn X2
 ·exact PG X2
noncomputable def xtC:(g:FuncId)→Option (sI ck g)
 |79=>some (V5 18446744073709551616 (Nat.le_refl _))
 |_=>none
noncomputable def PJ:ke:={ D:=Sd,Pn:=EY Wa,Hm:=fun _ _=>none,fz:=true,N:=0,xt:=xtC,gt:=gtG }
instance decI5:DecidableEq (Int × Int × Int × Int × Bool):=inferInstance
instance decPn:DecidableEq ((List UInt8) × (List (Int × Int))):=inferInstance
instance decLP:DecidableEq (List ((List UInt8) × (List (Int × Int)))):=inferInstance
instance decLS:DecidableEq (List (Int × Int × Int × Int × Bool)):=inferInstance
instance decT:DecidableEq ((List ((List UInt8) × (List (Int × Int)))) × (List (Int × Int × Int × Int × Bool))):=inferInstance
instance decTW:DecidableEq (((List ((List UInt8) × (List (Int × Int)))) × (List (Int × Int × Int × Int × Bool))) × (Int × List Int)):=inferInstance
instance decTS:DecidableEq (((List ((List UInt8) × (List (Int × Int)))) × (List (Int × Int × Int × Int × Bool))) × List (Int × Int × Bool)):=inferInstance
instance decI4:DecidableEq (Int × Int × Int × Int):=inferInstance
instance decI6:DecidableEq (Int × Int × Int × Int × Int × Int):=inferInstance
instance decC6:DecidableEq ((Int × Int × Int × Int × Int × Int) × Int):=inferInstance
instance decLLE:DecidableEq ((List (List (Int × Int))) × Int):=inferInstance
def qf {α β:Type} [DecidableEq α]:List (α × β)→α→Option β
 |[],_=>none
 |(a,b) :: l,x=>bif decide (x=a) then some b else qf l x
theorem rI {α β:Type} [DecidableEq α] {a x:α} {b y:β} (h:qf [(a,b)] x=some y):x=a∧y=b:=by
 unfold qf at h;cases hd:decide (x=a) with
 |true=>rw [hd] at h; exact ⟨of_decide_eq_true hd,(aal h).symm⟩
 |false=>rw [hd] at h; cases h
theorem yA {α β:Type} [DecidableEq α] {a a' x:α} {b b' y:β} (h:qf [(a,b),(a',b')] x=some y):(x=a∧y=b)∨(x=a'∧y=b'):=by
 unfold qf at h;cases hd:decide (x=a) with
 |true=>rw [hd] at h; exact .inl ⟨of_decide_eq_true hd,(aal h).symm⟩
 |false=>rw [hd] at h; exact .inr (rI h)
def afq:(List ((List UInt8) × (List (Int × Int)))) × (List (Int × Int × Int × Int × Bool)):=([([80],[(10,0),(20,5),(10,0),(20,-5)]),([81],[(10,0),(20,5),(10,0),(20,-5)])],[(0,1,1,3,false),(0,3,1,1,false)])
def Wb:(List (List Int)) × Int:=([[0,1,2,3],[1,0,3,2]],0)
def X3 (y:(List (List Int)) × Int):Bool:=decide (y=Wb)
theorem SF {y:(List (List Int)) × Int} (h:X3 y=true):y=Wb:=of_decide_eq_true h
theorem aji:bU ck 46 (aU.enc (.cons nA .nil) afq) (fun r=>r=aL.enc (.bG (.cons e7 (.cons (.int .i64) .nil))) Wb):=
 bU.mono (dD (C:=PJ) (n:=100000) (p:=(.bG (.cons e7 (.cons (.int .i64) .nil)))) (ok:=X3) (ic ja) (by kernel_rfl) (by kernel_rfl) (by kernel_rfl)) fun r ⟨y,h1,h2⟩=>by rw [h1,SF h2]
noncomputable def E46:bi:=⟨(.cons nA .nil),(.bG (.cons e7 (.cons (.int .i64) .nil))),qf (α:=(List ((List UInt8) × (List (Int × Int)))) × (List (Int × Int × Int × Int × Bool))) (β:=(List (List Int)) × Int) [(afq,Wb)]⟩
theorem abl:aK ck 46 E46:=fun x y h=>by
 obtain ⟨e1,e2⟩:=rI (α:=(List ((List UInt8) × (List (Int × Int)))) × (List (Int × Int × Int × Int × Bool))) (β:=(List (List Int)) × Int) h;subst e1; subst e2;exact aji
def afr:(List ((List UInt8) × (List (Int × Int)))) × (List (Int × Int × Int × Int × Bool)):=([([80],[(10,0),(20,5),(10,0),(20,-5)]),([81],[(10,0),(20,5),(10,0),(20,-5)])],[(0,1,1,3,false),(0,3,1,1,false)])
def Wc:(Int × Int × Int × Int × Int × Int) × Int:=((4,6,2,1,2,0),0)
def X4 (y:(Int × Int × Int × Int × Int × Int) × Int):Bool:=decide (y=Wc)
theorem SG {y:(Int × Int × Int × Int × Int × Int) × Int} (h:X4 y=true):y=Wc:=of_decide_eq_true h
theorem ajj:bU ck 20 (aU.enc (.cons nA .nil) afr) (fun r=>r=aL.enc (.bG (.cons Np (.cons (.int .i64) .nil))) Wc):=
 bU.mono (dD (C:=PJ) (n:=100000) (p:=(.bG (.cons Np (.cons (.int .i64) .nil)))) (ok:=X4) (ic ja) (by kernel_rfl) (by kernel_rfl) (by kernel_rfl)) fun r ⟨y,h1,h2⟩=>by rw [h1,SG h2]
noncomputable def E20:bi:=⟨(.cons nA .nil),(.bG (.cons Np (.cons (.int .i64) .nil))),qf (α:=(List ((List UInt8) × (List (Int × Int)))) × (List (Int × Int × Int × Int × Bool))) (β:=(Int × Int × Int × Int × Int × Int) × Int) [(afr,Wc)]⟩
theorem abm:aK ck 20 E20:=fun x y h=>by
 obtain ⟨e1,e2⟩:=rI (α:=(List ((List UInt8) × (List (Int × Int)))) × (List (Int × Int × Int × Int × Bool))) (β:=(Int × Int × Int × Int × Int × Int) × Int) h;subst e1; subst e2;exact ajj
def afs:(List ((List UInt8) × (List (Int × Int)))) × (List (Int × Int × Int × Int × Bool)):=([([80],[(10,0),(20,5),(10,0),(20,-5)]),([81],[(10,0),(20,5),(10,0),(20,-5)])],[(0,1,1,3,false),(0,3,1,1,false)])
def Wd:(List (List (Int × Int))) × Int:=([[(0,0),(1,0)],[(0,2),(1,2)]],0)
def X5 (y:(List (List (Int × Int))) × Int):Bool:=decide (y=Wd)
theorem SH {y:(List (List (Int × Int))) × Int} (h:X5 y=true):y=Wd:=of_decide_eq_true h
theorem ajk:bU ck 19 (aU.enc (.cons nA .nil) afs) (fun r=>r=aL.enc (.bG (.cons (.list 1 td) (.cons (.int .i64) .nil))) Wd):=
 bU.mono (dD (C:=PJ) (n:=100000) (p:=(.bG (.cons (.list 1 td) (.cons (.int .i64) .nil)))) (ok:=X5) (ic ja) (by kernel_rfl) (by kernel_rfl) (by kernel_rfl)) fun r ⟨y,h1,h2⟩=>by rw [h1,SH h2]
def aft:(List ((List UInt8) × (List (Int × Int)))) × (List (Int × Int × Int × Int × Bool)):=([([80],[(10,0),(20,5),(10,0),(20,-5)]),([81],[(10,0),(20,5),(10,0),(20,-5)])],[(0,1,1,3,false),(0,3,1,1,true)])
def We:(List (List (Int × Int))) × Int:=([[(0,0),(1,0),(0,2),(1,2)]],0)
def X6 (y:(List (List (Int × Int))) × Int):Bool:=decide (y=We)
theorem SI {y:(List (List (Int × Int))) × Int} (h:X6 y=true):y=We:=of_decide_eq_true h
theorem ajl:bU ck 19 (aU.enc (.cons nA .nil) aft) (fun r=>r=aL.enc (.bG (.cons (.list 1 td) (.cons (.int .i64) .nil))) We):=
 bU.mono (dD (C:=PJ) (n:=100000) (p:=(.bG (.cons (.list 1 td) (.cons (.int .i64) .nil)))) (ok:=X6) (ic ja) (by kernel_rfl) (by kernel_rfl) (by kernel_rfl)) fun r ⟨y,h1,h2⟩=>by rw [h1,SI h2]
noncomputable def E19:bi:=⟨(.cons nA .nil),(.bG (.cons (.list 1 td) (.cons (.int .i64) .nil))),qf (α:=(List ((List UInt8) × (List (Int × Int)))) × (List (Int × Int × Int × Int × Bool))) (β:=(List (List (Int × Int))) × Int) [(afs,Wd),(aft,We)]⟩
theorem abn:aK ck 19 E19:=fun x y h=>by
 rcases yA (α:=(List ((List UInt8) × (List (Int × Int)))) × (List (Int × Int × Int × Int × Bool))) (β:=(List (List (Int × Int))) × Int) h with ⟨e1,e2⟩|⟨e1,e2⟩
 ·subst e1; subst e2; exact ajk
 ·subst e1; subst e2; exact ajl
def afu:(List ((List UInt8) × (List (Int × Int)))) × (List (Int × Int × Int × Int × Bool)):=([([80],[(10,0),(20,5),(10,0),(20,-5)]),([81],[(10,0),(20,5),(10,0),(20,-5)])],[(0,1,1,3,false),(0,3,1,1,false)])
def Wf:(List (Int × Int)) × Int × Int:=([(0,0),(1,0)],20,0)
def X7 (y:(List (Int × Int)) × Int × Int):Bool:=decide (y=Wf)
theorem SJ {y:(List (Int × Int)) × Int × Int} (h:X7 y=true):y=Wf:=of_decide_eq_true h
theorem ajm:bU ck 22 (aU.enc (.cons nA .nil) afu) (fun r=>r=aL.enc (.bG (.cons td (.cons (.int .i64) (.cons (.int .i64) .nil)))) Wf):=
 bU.mono (dD (C:=PJ) (n:=100000) (p:=(.bG (.cons td (.cons (.int .i64) (.cons (.int .i64) .nil))))) (ok:=X7) (ic ja) (by kernel_rfl) (by kernel_rfl) (by kernel_rfl)) fun r ⟨y,h1,h2⟩=>by rw [h1,SJ h2]
noncomputable def E22:bi:=⟨(.cons nA .nil),(.bG (.cons td (.cons (.int .i64) (.cons (.int .i64) .nil)))),qf (α:=(List ((List UInt8) × (List (Int × Int)))) × (List (Int × Int × Int × Int × Bool))) (β:=(List (Int × Int)) × Int × Int) [(afu,Wf)]⟩
theorem abo:aK ck 22 E22:=fun x y h=>by
 obtain ⟨e1,e2⟩:=rI (α:=(List ((List UInt8) × (List (Int × Int)))) × (List (Int × Int × Int × Int × Bool))) (β:=(List (Int × Int)) × Int × Int) h;subst e1; subst e2;exact ajm
end Go.Proofs.Ytegoimldbgdeiaa
namespace Go.Proofs.Ytegoimldbgdeiaa
open Go Go.Am
open List (map)
open Int (toNat)
open Go.IntKind (wrap)
open Go.Am.aL (fits)
set_option maxRecDepth 1000000
def afv:(List ((List UInt8) × (List (Int × Int)))) × (List (Int × Int × Int × Int × Bool)):=([([80],[(10,0),(20,5),(10,0),(20,-5)]),([81],[(10,0),(20,5),(10,0),(20,-5)])],[(0,1,1,3,false),(0,3,1,1,false)])
def Wg:(List (Bool × Int × Int)) × Int:=([(true,0,2)],0)
def X8 (y:(List (Bool × Int × Int)) × Int):Bool:=decide (y=Wg)
theorem SK {y:(List (Bool × Int × Int)) × Int} (h:X8 y=true):y=Wg:=of_decide_eq_true h
theorem ajn:bU ck 21 (aU.enc (.cons nA .nil) afv) (fun r=>r=aL.enc (.bG (.cons (.list 3 FP) (.cons (.int .i64) .nil))) Wg):=
 bU.mono (dD (C:=PJ) (n:=100000) (p:=(.bG (.cons (.list 3 FP) (.cons (.int .i64) .nil)))) (ok:=X8) (ic ja) (by kernel_rfl) (by kernel_rfl) (by kernel_rfl)) fun r ⟨y,h1,h2⟩=>by rw [h1,SK h2]
def afw:(List ((List UInt8) × (List (Int × Int)))) × (List (Int × Int × Int × Int × Bool)):=([([80],[(10,0),(20,5),(10,0),(20,-5)]),([81],[(10,0),(20,5),(10,0),(20,-5)])],[(0,1,1,3,false),(0,3,1,1,true)])
def Wh:(List (Bool × Int × Int)) × Int:=([(false,1,1)],0)
def X9 (y:(List (Bool × Int × Int)) × Int):Bool:=decide (y=Wh)
theorem SL {y:(List (Bool × Int × Int)) × Int} (h:X9 y=true):y=Wh:=of_decide_eq_true h
theorem ajo:bU ck 21 (aU.enc (.cons nA .nil) afw) (fun r=>r=aL.enc (.bG (.cons (.list 3 FP) (.cons (.int .i64) .nil))) Wh):=
 bU.mono (dD (C:=PJ) (n:=100000) (p:=(.bG (.cons (.list 3 FP) (.cons (.int .i64) .nil)))) (ok:=X9) (ic ja) (by kernel_rfl) (by kernel_rfl) (by kernel_rfl)) fun r ⟨y,h1,h2⟩=>by rw [h1,SL h2]
noncomputable def E21:bi:=⟨(.cons nA .nil),(.bG (.cons (.list 3 FP) (.cons (.int .i64) .nil))),qf (α:=(List ((List UInt8) × (List (Int × Int)))) × (List (Int × Int × Int × Int × Bool))) (β:=(List (Bool × Int × Int)) × Int) [(afv,Wg),(afw,Wh)]⟩
theorem abp:aK ck 21 E21:=fun x y h=>by
 rcases yA (α:=(List ((List UInt8) × (List (Int × Int)))) × (List (Int × Int × Int × Int × Bool))) (β:=(List (Bool × Int × Int)) × Int) h with ⟨e1,e2⟩|⟨e1,e2⟩
 ·subst e1; subst e2; exact ajn
 ·subst e1; subst e2; exact ajo
def afx:(List ((List UInt8) × (List (Int × Int)))) × (List (Int × Int × Int × Int × Bool)):=([([80],[(10,0),(20,5),(10,0),(20,-5)]),([81],[(10,0),(20,5),(10,0),(20,-5)])],[(0,1,1,3,false),(0,3,1,1,false)])
def Wi:(List Int) × Int:=([1,1],0)
def Ya (y:(List Int) × Int):Bool:=decide (y=Wi)
theorem SM {y:(List Int) × Int} (h:Ya y=true):y=Wi:=of_decide_eq_true h
theorem ajp:bU ck 25 (aU.enc (.cons nA .nil) afx) (fun r=>r=aL.enc (.bG (.cons aQ (.cons (.int .i64) .nil))) Wi):=
 bU.mono (dD (C:=PJ) (n:=100000) (p:=(.bG (.cons aQ (.cons (.int .i64) .nil)))) (ok:=Ya) (ic ja) (by kernel_rfl) (by kernel_rfl) (by kernel_rfl)) fun r ⟨y,h1,h2⟩=>by rw [h1,SM h2]
def afy:(List ((List UInt8) × (List (Int × Int)))) × (List (Int × Int × Int × Int × Bool)):=([([80],[(10,0),(20,5),(10,0),(20,-5)]),([81],[(10,0),(20,5),(10,0),(20,-5)])],[(0,1,1,3,false),(0,3,1,1,true)])
def Wj:(List Int) × Int:=([],29)
def Yb (y:(List Int) × Int):Bool:=decide (y=Wj)
theorem SN {y:(List Int) × Int} (h:Yb y=true):y=Wj:=of_decide_eq_true h
theorem ajq:bU ck 25 (aU.enc (.cons nA .nil) afy) (fun r=>r=aL.enc (.bG (.cons aQ (.cons (.int .i64) .nil))) Wj):=
 bU.mono (dD (C:=PJ) (n:=100000) (p:=(.bG (.cons aQ (.cons (.int .i64) .nil)))) (ok:=Yb) (ic ja) (by kernel_rfl) (by kernel_rfl) (by kernel_rfl)) fun r ⟨y,h1,h2⟩=>by rw [h1,SN h2]
noncomputable def E25:bi:=⟨(.cons nA .nil),(.bG (.cons aQ (.cons (.int .i64) .nil))),qf (α:=(List ((List UInt8) × (List (Int × Int)))) × (List (Int × Int × Int × Int × Bool))) (β:=(List Int) × Int) [(afx,Wi),(afy,Wj)]⟩
theorem abq:aK ck 25 E25:=fun x y h=>by
 rcases yA (α:=(List ((List UInt8) × (List (Int × Int)))) × (List (Int × Int × Int × Int × Bool))) (β:=(List Int) × Int) h with ⟨e1,e2⟩|⟨e1,e2⟩
 ·subst e1; subst e2; exact ajp
 ·subst e1; subst e2; exact ajq
def afz:((List ((List UInt8) × (List (Int × Int)))) × (List (Int × Int × Int × Int × Bool))) × (Int × List Int):=(([([80],[(10,0),(20,5),(10,0),(20,-5)]),([81],[(10,0),(20,5),(10,0),(20,-5)])],[(0,1,1,3,false),(0,3,1,1,true)]),(0,[0,1]))
def Wk:Int:=0
def Yc (y:Int):Bool:=decide (y=Wk)
theorem SO {y:Int} (h:Yc y=true):y=Wk:=of_decide_eq_true h
theorem ajr:bU ck 27 (aU.enc (.cons nA (.cons (.agg (.cons (.int .i64) (.cons aQ .nil))) .nil)) afz) (fun r=>r=aL.enc (.int .i64) Wk):=
 bU.mono (dD (C:=PJ) (n:=100000) (p:=(.int .i64)) (ok:=Yc) (ic ja) (by kernel_rfl) (by kernel_rfl) (by kernel_rfl)) fun r ⟨y,h1,h2⟩=>by rw [h1,SO h2]
noncomputable def E27:bi:=⟨(.cons nA (.cons (.agg (.cons (.int .i64) (.cons aQ .nil))) .nil)),(.int .i64),qf (α:=((List ((List UInt8) × (List (Int × Int)))) × (List (Int × Int × Int × Int × Bool))) × (Int × List Int)) (β:=Int) [(afz,Wk)]⟩
theorem abr:aK ck 27 E27:=fun x y h=>by
 obtain ⟨e1,e2⟩:=rI (α:=((List ((List UInt8) × (List (Int × Int)))) × (List (Int × Int × Int × Int × Bool))) × (Int × List Int)) (β:=Int) h;subst e1; subst e2;exact ajr
def afA:((List ((List UInt8) × (List (Int × Int)))) × (List (Int × Int × Int × Int × Bool))) × List (Int × Int × Bool):=(([([80],[(10,0),(20,5),(10,0),(20,-5)]),([81],[(10,0),(20,5),(10,0),(20,-5)])],[(0,1,1,3,false),(0,3,1,1,true)]),[(1,0,false),(0,2,true),(0,1,true)])
def Wl:Int:=0
def Yd (y:Int):Bool:=decide (y=Wl)
theorem SP {y:Int} (h:Yd y=true):y=Wl:=of_decide_eq_true h
theorem ajs:bU ck 49 (aU.enc (.cons nA (.cons (.list 3 (.agg (.cons (.int .i64) (.cons (.int .i64) (.cons .bool .nil))))) .nil)) afA) (fun r=>r=aL.enc (.int .i64) Wl):=
 bU.mono (dD (C:=PJ) (n:=100000) (p:=(.int .i64)) (ok:=Yd) (ic ja) (by kernel_rfl) (by kernel_rfl) (by kernel_rfl)) fun r ⟨y,h1,h2⟩=>by rw [h1,SP h2]
noncomputable def E49:bi:=⟨(.cons nA (.cons (.list 3 (.agg (.cons (.int .i64) (.cons (.int .i64) (.cons .bool .nil))))) .nil)),(.int .i64),qf (α:=((List ((List UInt8) × (List (Int × Int)))) × (List (Int × Int × Int × Int × Bool))) × List (Int × Int × Bool)) (β:=Int) [(afA,Wl)]⟩
theorem abt:aK ck 49 E49:=fun x y h=>by
 obtain ⟨e1,e2⟩:=rI (α:=((List ((List UInt8) × (List (Int × Int)))) × (List (Int × Int × Int × Int × Bool))) × List (Int × Int × Bool)) (β:=Int) h;subst e1; subst e2;exact ajs
def afB:(List ((List UInt8) × (List (Int × Int)))) × (List (Int × Int × Int × Int × Bool)):=([([80],[(10,0),(20,5),(10,0),(20,-5)]),([81],[(10,0),(20,5),(10,0),(20,-5)])],[(0,1,1,3,false),(0,3,1,1,false)])
def Wm:(List (List Int)) × Int:=([[0,0,5,5],[0,0,5,5]],0)
def Ye (y:(List (List Int)) × Int):Bool:=decide (y=Wm)
theorem SQ {y:(List (List Int)) × Int} (h:Ye y=true):y=Wm:=of_decide_eq_true h
theorem ajt:bU ck 41 (aU.enc (.cons nA .nil) afB) (fun r=>r=aL.enc (.bG (.cons e7 (.cons (.int .i64) .nil))) Wm):=
 bU.mono (dD (C:=PJ) (n:=100000) (p:=(.bG (.cons e7 (.cons (.int .i64) .nil)))) (ok:=Ye) (ic ja) (by kernel_rfl) (by kernel_rfl) (by kernel_rfl)) fun r ⟨y,h1,h2⟩=>by rw [h1,SQ h2]
def afC:(List ((List UInt8) × (List (Int × Int)))) × (List (Int × Int × Int × Int × Bool)):=([([80],[(10,0),(20,5),(10,0),(20,-5)]),([81],[(10,0),(20,5),(10,0),(20,-5)])],[(0,1,1,3,false),(0,3,1,1,true)])
def Wn:(List (List Int)) × Int:=([],29)
def Yf (y:(List (List Int)) × Int):Bool:=decide (y=Wn)
theorem SR {y:(List (List Int)) × Int} (h:Yf y=true):y=Wn:=of_decide_eq_true h
theorem aju:bU ck 41 (aU.enc (.cons nA .nil) afC) (fun r=>r=aL.enc (.bG (.cons e7 (.cons (.int .i64) .nil))) Wn):=
 bU.mono (dD (C:=PJ) (n:=100000) (p:=(.bG (.cons e7 (.cons (.int .i64) .nil)))) (ok:=Yf) (ic ja) (by kernel_rfl) (by kernel_rfl) (by kernel_rfl)) fun r ⟨y,h1,h2⟩=>by rw [h1,SR h2]
noncomputable def E41:bi:=⟨(.cons nA .nil),(.bG (.cons e7 (.cons (.int .i64) .nil))),qf (α:=(List ((List UInt8) × (List (Int × Int)))) × (List (Int × Int × Int × Int × Bool))) (β:=(List (List Int)) × Int) [(afB,Wm),(afC,Wn)]⟩
theorem abu:aK ck 41 E41:=fun x y h=>by
 rcases yA (α:=(List ((List UInt8) × (List (Int × Int)))) × (List (Int × Int × Int × Int × Bool))) (β:=(List (List Int)) × Int) h with ⟨e1,e2⟩|⟨e1,e2⟩
 ·subst e1; subst e2; exact ajt
 ·subst e1; subst e2; exact aju
end Go.Proofs.Ytegoimldbgdeiaa
namespace Go.Proofs.Ytegoimldbgdeiaa
open Go Go.Am
open List (map)
open Int (toNat)
open Go.IntKind (wrap)
open Go.Am.aL (fits)
set_option maxRecDepth 1000000
noncomputable def afD:List (Nat × bi):=Wa++[(46,E46),(20,E20),(19,E19),(22,E22),(21,E21),(25,E25),(27,E27),(49,E49),(41,E41)]
theorem Wo:∀ a e,(a,e)∈afD→aK ck a e:=fun a e h=>by
 rcases List.mem_append.1 h with h|h
 ·exact ja a e h
 ·simp only [List.mem_cons,Prod.mk.injEq,List.not_mem_nil,or_false] at h;rcases h with ⟨rfl,rfl⟩|⟨rfl,rfl⟩|⟨rfl,rfl⟩|⟨rfl,rfl⟩|⟨rfl,rfl⟩|⟨rfl,rfl⟩|⟨rfl,rfl⟩|⟨rfl,rfl⟩|⟨rfl,rfl⟩
  ·exact abl
  ·exact abm
  ·exact abn
  ·exact abo
  ·exact abp
  ·exact abq
  ·exact abr
  ·exact abt
  ·exact abu
noncomputable def cxD:ke:={ D:=Sd,Pn:=EY afD,Hm:=fun _ _=>none,fz:=true,N:=0,xt:=xtC,gt:=gtG }
theorem JA:bU ck 10 [] (fun r=>∃ y:Bool,r=aL.enc .bool y∧y=true):=
 dD (C:=cxD) (n:=100000) (p:=.bool) (ok:=fun (y:Bool)=>y) (ic Wo) (by kernel_rfl) (by kernel_rfl) (by kernel_rfl)
end Go.Proofs.Ytegoimldbgdeiaa
namespace Go.Proofs.Ytegoimldbgdeiaa
open Go Go.Am
open List (map)
open Int (toNat)
open Go.IntKind (wrap)
open Go.Am.aL (fits)
def T10 (_N:Nat):Unit→Option Bool:=fun _=>some true
def e10 (N:Nat):bi:=⟨.nil,.bool,T10 N⟩
theorem abv (N:Nat):aK ck 10 (e10 N):=fun x y h=>by
 cases h;exact bU.mono JA fun r ⟨y,h1,h2⟩=>by rw [h1,h2]; rfl
end Go.Proofs.Ytegoimldbgdeiaa
