/- The chapter's examples,call by call. -/
import Derived.Test.YtegoimldbgdeiaaSeamKB
import Derived.Test.YtegoimldbgdeiaaTrwG
set_option linter.all false
namespace Go.Proofs.Ytegoimldbgdeiaa
open Go Go.Am
set_option maxRecDepth 1000000
theorem LL:fA 18446744073709551616:=Nat.le_refl _
noncomputable def Kw:List (Nat × bf):=[(60,El),(58,CZ 18446744073709551616)]
theorem fB:∀ a e,(a,e)∈Kw→aD bN a e:=fun a e h=>by
 simp only [Kw,List.mem_cons,Prod.mk.injEq,List.not_mem_nil,or_false] at h
 rcases h with ⟨rfl,rfl⟩ | ⟨rfl,rfl⟩
 ·exact Di LL
 ·exact FG LL
noncomputable def Xu:(g:FuncId)→Option (vw bN g)
 | 79=>some (Kt 18446744073709551616 (Nat.le_refl _))
 | _=>none
noncomputable def FH:hJ:={ D:=Hx,Hh:=Ft Kw,CP:=fun _ _=>none,fz:=true,N:=0,xt:=Xu,gt:=Xt }
instance decI5:DecidableEq (Int × Int × Int × Int × Bool):=inferInstance
instance decPn:DecidableEq ((List UInt8) × (List (Int × Int))):=inferInstance
instance decLP:DecidableEq (List ((List UInt8) × (List (Int × Int)))):=inferInstance
instance decLS:DecidableEq (List (Int × Int × Int × Int × Bool)):=inferInstance
instance decT:DecidableEq ((List ((List UInt8) × (List (Int × Int)))) × (List (Int × Int × Int × Int × Bool))):=inferInstance
instance decTW:DecidableEq (((List ((List UInt8) × (List (Int × Int)))) × (List (Int × Int × Int × Int × Bool))) × (Int × List Int)):=inferInstance
instance decTS:DecidableEq (((List ((List UInt8) × (List (Int × Int)))) × (List (Int × Int × Int × Int × Bool))) × List (Int × Int × Bool)):=inferInstance
instance decI4:DecidableEq (Int × Int × Int × Int):=inferInstance
instance decI6:DecidableEq (Int × Int × Int × Int × Int × Int):=inferInstance
instance decC6:DecidableEq ((Int × Int × Int × Int × Int × Int) × Int):=inferInstance
instance decLLE:DecidableEq ((List (List (Int × Int))) × Int):=inferInstance
def kQ {α β:Type} [DecidableEq α]:List (α × β)→α→Option β
 | [],_=>none
 | (a,b) :: l,x=>bif decide (x=a) then some b else kQ l x
theorem lL {α β:Type} [DecidableEq α] {a x:α} {b y:β} (h:kQ [(a,b)] x=some y):x=a∧y=b:=by
 unfold kQ at h
 cases hd:decide (x=a) with
 | true=>rw [hd] at h; exact ⟨of_decide_eq_true hd,(Option.some.inj h).symm⟩
 | false=>rw [hd] at h; cases h
theorem qQ {α β:Type} [DecidableEq α] {a a' x:α} {b b' y:β} (h:kQ [(a,b),(a',b')] x=some y):(x=a∧y=b)∨(x=a'∧y=b'):=by
 unfold kQ at h
 cases hd:decide (x=a) with
 | true=>rw [hd] at h; exact .inl ⟨of_decide_eq_true hd,(Option.some.inj h).symm⟩
 | false=>rw [hd] at h; exact .inr (lL h)
def Su:(List ((List UInt8) × (List (Int × Int)))) × (List (Int × Int × Int × Int × Bool)):=([([80],[(10,0),(20,5),(10,0),(20,-5)]),([81],[(10,0),(20,5),(10,0),(20,-5)])],[(0,1,1,3,false),(0,3,1,1,false)])
def Kx:(List (List Int)) × Int:=([[0,1,2,3],[1,0,3,2]],0)
def LM (y:(List (List Int)) × Int):Bool:=decide (y=Kx)
theorem HY {y:(List (List Int)) × Int} (h:LM y=true):y=Kx:=of_decide_eq_true h
theorem VN:bk bN 46 (aH.enc (.cons (.agg (.cons (.list 2 (.agg (.cons .str (.cons (.list 2 (.agg (.cons (.int .i64) (.cons (.int .i64) .nil)))) .nil)))) (.cons (.list 5 (.agg (.cons (.int .i64) (.cons (.int .i64) (.cons (.int .i64) (.cons (.int .i64) (.cons .bool .nil))))))) .nil))) .nil) Su) (fun r=>r=ah.enc (.bh (.cons (.list 1 (.list 1 (.int .i64))) (.cons (.int .i64) .nil))) Kx):=
 bk.mono (ck (C:=FH) (n:=100000) (p:=(.bh (.cons (.list 1 (.list 1 (.int .i64))) (.cons (.int .i64) .nil)))) (ok:=LM) (bD fB) (by kernel_rfl) (by kernel_rfl) (by kernel_rfl)) fun r ⟨y,h1,h2⟩=>by rw [h1,HY h2]
noncomputable def Xv:bf:=⟨(.cons (.agg (.cons (.list 2 (.agg (.cons .str (.cons (.list 2 (.agg (.cons (.int .i64) (.cons (.int .i64) .nil)))) .nil)))) (.cons (.list 5 (.agg (.cons (.int .i64) (.cons (.int .i64) (.cons (.int .i64) (.cons (.int .i64) (.cons .bool .nil))))))) .nil))) .nil),(.bh (.cons (.list 1 (.list 1 (.int .i64))) (.cons (.int .i64) .nil))),kQ (α:=(List ((List UInt8) × (List (Int × Int)))) × (List (Int × Int × Int × Int × Bool))) (β:=(List (List Int)) × Int) [(Su,Kx)]⟩
theorem OO:aD bN 46 Xv:=fun x y h=>by
 obtain ⟨e1,e2⟩:=lL (α:=(List ((List UInt8) × (List (Int × Int)))) × (List (Int × Int × Int × Int × Bool))) (β:=(List (List Int)) × Int) h
 subst e1; subst e2
 exact VN
def Sv:(List ((List UInt8) × (List (Int × Int)))) × (List (Int × Int × Int × Int × Bool)):=([([80],[(10,0),(20,5),(10,0),(20,-5)]),([81],[(10,0),(20,5),(10,0),(20,-5)])],[(0,1,1,3,false),(0,3,1,1,false)])
def Ky:(Int × Int × Int × Int × Int × Int) × Int:=((4,6,2,1,2,0),0)
def LN (y:(Int × Int × Int × Int × Int × Int) × Int):Bool:=decide (y=Ky)
theorem HZ {y:(Int × Int × Int × Int × Int × Int) × Int} (h:LN y=true):y=Ky:=of_decide_eq_true h
theorem VO:bk bN 20 (aH.enc (.cons (.agg (.cons (.list 2 (.agg (.cons .str (.cons (.list 2 (.agg (.cons (.int .i64) (.cons (.int .i64) .nil)))) .nil)))) (.cons (.list 5 (.agg (.cons (.int .i64) (.cons (.int .i64) (.cons (.int .i64) (.cons (.int .i64) (.cons .bool .nil))))))) .nil))) .nil) Sv) (fun r=>r=ah.enc (.bh (.cons (.agg (.cons (.int .i64) (.cons (.int .i64) (.cons (.int .i64) (.cons (.int .i64) (.cons (.int .i64) (.cons (.int .i64) .nil))))))) (.cons (.int .i64) .nil))) Ky):=
 bk.mono (ck (C:=FH) (n:=100000) (p:=(.bh (.cons (.agg (.cons (.int .i64) (.cons (.int .i64) (.cons (.int .i64) (.cons (.int .i64) (.cons (.int .i64) (.cons (.int .i64) .nil))))))) (.cons (.int .i64) .nil)))) (ok:=LN) (bD fB) (by kernel_rfl) (by kernel_rfl) (by kernel_rfl)) fun r ⟨y,h1,h2⟩=>by rw [h1,HZ h2]
noncomputable def Xw:bf:=⟨(.cons (.agg (.cons (.list 2 (.agg (.cons .str (.cons (.list 2 (.agg (.cons (.int .i64) (.cons (.int .i64) .nil)))) .nil)))) (.cons (.list 5 (.agg (.cons (.int .i64) (.cons (.int .i64) (.cons (.int .i64) (.cons (.int .i64) (.cons .bool .nil))))))) .nil))) .nil),(.bh (.cons (.agg (.cons (.int .i64) (.cons (.int .i64) (.cons (.int .i64) (.cons (.int .i64) (.cons (.int .i64) (.cons (.int .i64) .nil))))))) (.cons (.int .i64) .nil))),kQ (α:=(List ((List UInt8) × (List (Int × Int)))) × (List (Int × Int × Int × Int × Bool))) (β:=(Int × Int × Int × Int × Int × Int) × Int) [(Sv,Ky)]⟩
theorem OP:aD bN 20 Xw:=fun x y h=>by
 obtain ⟨e1,e2⟩:=lL (α:=(List ((List UInt8) × (List (Int × Int)))) × (List (Int × Int × Int × Int × Bool))) (β:=(Int × Int × Int × Int × Int × Int) × Int) h
 subst e1; subst e2
 exact VO
def Sw:(List ((List UInt8) × (List (Int × Int)))) × (List (Int × Int × Int × Int × Bool)):=([([80],[(10,0),(20,5),(10,0),(20,-5)]),([81],[(10,0),(20,5),(10,0),(20,-5)])],[(0,1,1,3,false),(0,3,1,1,false)])
def Kz:(List (List (Int × Int))) × Int:=([[(0,0),(1,0)],[(0,2),(1,2)]],0)
def LO (y:(List (List (Int × Int))) × Int):Bool:=decide (y=Kz)
theorem H0 {y:(List (List (Int × Int))) × Int} (h:LO y=true):y=Kz:=of_decide_eq_true h
theorem VP:bk bN 19 (aH.enc (.cons (.agg (.cons (.list 2 (.agg (.cons .str (.cons (.list 2 (.agg (.cons (.int .i64) (.cons (.int .i64) .nil)))) .nil)))) (.cons (.list 5 (.agg (.cons (.int .i64) (.cons (.int .i64) (.cons (.int .i64) (.cons (.int .i64) (.cons .bool .nil))))))) .nil))) .nil) Sw) (fun r=>r=ah.enc (.bh (.cons (.list 1 (.list 2 (.agg (.cons (.int .i64) (.cons (.int .i64) .nil))))) (.cons (.int .i64) .nil))) Kz):=
 bk.mono (ck (C:=FH) (n:=100000) (p:=(.bh (.cons (.list 1 (.list 2 (.agg (.cons (.int .i64) (.cons (.int .i64) .nil))))) (.cons (.int .i64) .nil)))) (ok:=LO) (bD fB) (by kernel_rfl) (by kernel_rfl) (by kernel_rfl)) fun r ⟨y,h1,h2⟩=>by rw [h1,H0 h2]
def Sx:(List ((List UInt8) × (List (Int × Int)))) × (List (Int × Int × Int × Int × Bool)):=([([80],[(10,0),(20,5),(10,0),(20,-5)]),([81],[(10,0),(20,5),(10,0),(20,-5)])],[(0,1,1,3,false),(0,3,1,1,true)])
def KA:(List (List (Int × Int))) × Int:=([[(0,0),(1,0),(0,2),(1,2)]],0)
def LP (y:(List (List (Int × Int))) × Int):Bool:=decide (y=KA)
theorem H3 {y:(List (List (Int × Int))) × Int} (h:LP y=true):y=KA:=of_decide_eq_true h
theorem VQ:bk bN 19 (aH.enc (.cons (.agg (.cons (.list 2 (.agg (.cons .str (.cons (.list 2 (.agg (.cons (.int .i64) (.cons (.int .i64) .nil)))) .nil)))) (.cons (.list 5 (.agg (.cons (.int .i64) (.cons (.int .i64) (.cons (.int .i64) (.cons (.int .i64) (.cons .bool .nil))))))) .nil))) .nil) Sx) (fun r=>r=ah.enc (.bh (.cons (.list 1 (.list 2 (.agg (.cons (.int .i64) (.cons (.int .i64) .nil))))) (.cons (.int .i64) .nil))) KA):=
 bk.mono (ck (C:=FH) (n:=100000) (p:=(.bh (.cons (.list 1 (.list 2 (.agg (.cons (.int .i64) (.cons (.int .i64) .nil))))) (.cons (.int .i64) .nil)))) (ok:=LP) (bD fB) (by kernel_rfl) (by kernel_rfl) (by kernel_rfl)) fun r ⟨y,h1,h2⟩=>by rw [h1,H3 h2]
noncomputable def Xx:bf:=⟨(.cons (.agg (.cons (.list 2 (.agg (.cons .str (.cons (.list 2 (.agg (.cons (.int .i64) (.cons (.int .i64) .nil)))) .nil)))) (.cons (.list 5 (.agg (.cons (.int .i64) (.cons (.int .i64) (.cons (.int .i64) (.cons (.int .i64) (.cons .bool .nil))))))) .nil))) .nil),(.bh (.cons (.list 1 (.list 2 (.agg (.cons (.int .i64) (.cons (.int .i64) .nil))))) (.cons (.int .i64) .nil))),kQ (α:=(List ((List UInt8) × (List (Int × Int)))) × (List (Int × Int × Int × Int × Bool))) (β:=(List (List (Int × Int))) × Int) [(Sw,Kz),(Sx,KA)]⟩
theorem OQ:aD bN 19 Xx:=fun x y h=>by
 rcases qQ (α:=(List ((List UInt8) × (List (Int × Int)))) × (List (Int × Int × Int × Int × Bool))) (β:=(List (List (Int × Int))) × Int) h with ⟨e1,e2⟩ | ⟨e1,e2⟩
 ·subst e1; subst e2; exact VP
 ·subst e1; subst e2; exact VQ
def Sy:(List ((List UInt8) × (List (Int × Int)))) × (List (Int × Int × Int × Int × Bool)):=([([80],[(10,0),(20,5),(10,0),(20,-5)]),([81],[(10,0),(20,5),(10,0),(20,-5)])],[(0,1,1,3,false),(0,3,1,1,false)])
def KB:(List (Int × Int)) × Int × Int:=([(0,0),(1,0)],20,0)
def LQ (y:(List (Int × Int)) × Int × Int):Bool:=decide (y=KB)
theorem H4 {y:(List (Int × Int)) × Int × Int} (h:LQ y=true):y=KB:=of_decide_eq_true h
theorem VR:bk bN 22 (aH.enc (.cons (.agg (.cons (.list 2 (.agg (.cons .str (.cons (.list 2 (.agg (.cons (.int .i64) (.cons (.int .i64) .nil)))) .nil)))) (.cons (.list 5 (.agg (.cons (.int .i64) (.cons (.int .i64) (.cons (.int .i64) (.cons (.int .i64) (.cons .bool .nil))))))) .nil))) .nil) Sy) (fun r=>r=ah.enc (.bh (.cons (.list 2 (.agg (.cons (.int .i64) (.cons (.int .i64) .nil)))) (.cons (.int .i64) (.cons (.int .i64) .nil)))) KB):=
 bk.mono (ck (C:=FH) (n:=100000) (p:=(.bh (.cons (.list 2 (.agg (.cons (.int .i64) (.cons (.int .i64) .nil)))) (.cons (.int .i64) (.cons (.int .i64) .nil))))) (ok:=LQ) (bD fB) (by kernel_rfl) (by kernel_rfl) (by kernel_rfl)) fun r ⟨y,h1,h2⟩=>by rw [h1,H4 h2]
noncomputable def Xy:bf:=⟨(.cons (.agg (.cons (.list 2 (.agg (.cons .str (.cons (.list 2 (.agg (.cons (.int .i64) (.cons (.int .i64) .nil)))) .nil)))) (.cons (.list 5 (.agg (.cons (.int .i64) (.cons (.int .i64) (.cons (.int .i64) (.cons (.int .i64) (.cons .bool .nil))))))) .nil))) .nil),(.bh (.cons (.list 2 (.agg (.cons (.int .i64) (.cons (.int .i64) .nil)))) (.cons (.int .i64) (.cons (.int .i64) .nil)))),kQ (α:=(List ((List UInt8) × (List (Int × Int)))) × (List (Int × Int × Int × Int × Bool))) (β:=(List (Int × Int)) × Int × Int) [(Sy,KB)]⟩
theorem OR:aD bN 22 Xy:=fun x y h=>by
 obtain ⟨e1,e2⟩:=lL (α:=(List ((List UInt8) × (List (Int × Int)))) × (List (Int × Int × Int × Int × Bool))) (β:=(List (Int × Int)) × Int × Int) h
 subst e1; subst e2
 exact VR
end Go.Proofs.Ytegoimldbgdeiaa
namespace Go.Proofs.Ytegoimldbgdeiaa
open Go Go.Am
set_option maxRecDepth 1000000
def Sz:(List ((List UInt8) × (List (Int × Int)))) × (List (Int × Int × Int × Int × Bool)):=([([80],[(10,0),(20,5),(10,0),(20,-5)]),([81],[(10,0),(20,5),(10,0),(20,-5)])],[(0,1,1,3,false),(0,3,1,1,false)])
def KC:(List (Bool × Int × Int)) × Int:=([(true,0,2)],0)
def LR (y:(List (Bool × Int × Int)) × Int):Bool:=decide (y=KC)
theorem H5 {y:(List (Bool × Int × Int)) × Int} (h:LR y=true):y=KC:=of_decide_eq_true h
theorem VS:bk bN 21 (aH.enc (.cons (.agg (.cons (.list 2 (.agg (.cons .str (.cons (.list 2 (.agg (.cons (.int .i64) (.cons (.int .i64) .nil)))) .nil)))) (.cons (.list 5 (.agg (.cons (.int .i64) (.cons (.int .i64) (.cons (.int .i64) (.cons (.int .i64) (.cons .bool .nil))))))) .nil))) .nil) Sz) (fun r=>r=ah.enc (.bh (.cons (.list 3 (.agg (.cons .bool (.cons (.int .i64) (.cons (.int .i64) .nil))))) (.cons (.int .i64) .nil))) KC):=
 bk.mono (ck (C:=FH) (n:=100000) (p:=(.bh (.cons (.list 3 (.agg (.cons .bool (.cons (.int .i64) (.cons (.int .i64) .nil))))) (.cons (.int .i64) .nil)))) (ok:=LR) (bD fB) (by kernel_rfl) (by kernel_rfl) (by kernel_rfl)) fun r ⟨y,h1,h2⟩=>by rw [h1,H5 h2]
def SA:(List ((List UInt8) × (List (Int × Int)))) × (List (Int × Int × Int × Int × Bool)):=([([80],[(10,0),(20,5),(10,0),(20,-5)]),([81],[(10,0),(20,5),(10,0),(20,-5)])],[(0,1,1,3,false),(0,3,1,1,true)])
def KD:(List (Bool × Int × Int)) × Int:=([(false,1,1)],0)
def LS (y:(List (Bool × Int × Int)) × Int):Bool:=decide (y=KD)
theorem H6 {y:(List (Bool × Int × Int)) × Int} (h:LS y=true):y=KD:=of_decide_eq_true h
theorem VT:bk bN 21 (aH.enc (.cons (.agg (.cons (.list 2 (.agg (.cons .str (.cons (.list 2 (.agg (.cons (.int .i64) (.cons (.int .i64) .nil)))) .nil)))) (.cons (.list 5 (.agg (.cons (.int .i64) (.cons (.int .i64) (.cons (.int .i64) (.cons (.int .i64) (.cons .bool .nil))))))) .nil))) .nil) SA) (fun r=>r=ah.enc (.bh (.cons (.list 3 (.agg (.cons .bool (.cons (.int .i64) (.cons (.int .i64) .nil))))) (.cons (.int .i64) .nil))) KD):=
 bk.mono (ck (C:=FH) (n:=100000) (p:=(.bh (.cons (.list 3 (.agg (.cons .bool (.cons (.int .i64) (.cons (.int .i64) .nil))))) (.cons (.int .i64) .nil)))) (ok:=LS) (bD fB) (by kernel_rfl) (by kernel_rfl) (by kernel_rfl)) fun r ⟨y,h1,h2⟩=>by rw [h1,H6 h2]
noncomputable def Xz:bf:=⟨(.cons (.agg (.cons (.list 2 (.agg (.cons .str (.cons (.list 2 (.agg (.cons (.int .i64) (.cons (.int .i64) .nil)))) .nil)))) (.cons (.list 5 (.agg (.cons (.int .i64) (.cons (.int .i64) (.cons (.int .i64) (.cons (.int .i64) (.cons .bool .nil))))))) .nil))) .nil),(.bh (.cons (.list 3 (.agg (.cons .bool (.cons (.int .i64) (.cons (.int .i64) .nil))))) (.cons (.int .i64) .nil))),kQ (α:=(List ((List UInt8) × (List (Int × Int)))) × (List (Int × Int × Int × Int × Bool))) (β:=(List (Bool × Int × Int)) × Int) [(Sz,KC),(SA,KD)]⟩
theorem OS:aD bN 21 Xz:=fun x y h=>by
 rcases qQ (α:=(List ((List UInt8) × (List (Int × Int)))) × (List (Int × Int × Int × Int × Bool))) (β:=(List (Bool × Int × Int)) × Int) h with ⟨e1,e2⟩ | ⟨e1,e2⟩
 ·subst e1; subst e2; exact VS
 ·subst e1; subst e2; exact VT
def SB:(List ((List UInt8) × (List (Int × Int)))) × (List (Int × Int × Int × Int × Bool)):=([([80],[(10,0),(20,5),(10,0),(20,-5)]),([81],[(10,0),(20,5),(10,0),(20,-5)])],[(0,1,1,3,false),(0,3,1,1,false)])
def KF:(List Int) × Int:=([1,1],0)
def LU (y:(List Int) × Int):Bool:=decide (y=KF)
theorem H7 {y:(List Int) × Int} (h:LU y=true):y=KF:=of_decide_eq_true h
theorem VU:bk bN 25 (aH.enc (.cons (.agg (.cons (.list 2 (.agg (.cons .str (.cons (.list 2 (.agg (.cons (.int .i64) (.cons (.int .i64) .nil)))) .nil)))) (.cons (.list 5 (.agg (.cons (.int .i64) (.cons (.int .i64) (.cons (.int .i64) (.cons (.int .i64) (.cons .bool .nil))))))) .nil))) .nil) SB) (fun r=>r=ah.enc (.bh (.cons (.list 1 (.int .i64)) (.cons (.int .i64) .nil))) KF):=
 bk.mono (ck (C:=FH) (n:=100000) (p:=(.bh (.cons (.list 1 (.int .i64)) (.cons (.int .i64) .nil)))) (ok:=LU) (bD fB) (by kernel_rfl) (by kernel_rfl) (by kernel_rfl)) fun r ⟨y,h1,h2⟩=>by rw [h1,H7 h2]
def SC:(List ((List UInt8) × (List (Int × Int)))) × (List (Int × Int × Int × Int × Bool)):=([([80],[(10,0),(20,5),(10,0),(20,-5)]),([81],[(10,0),(20,5),(10,0),(20,-5)])],[(0,1,1,3,false),(0,3,1,1,true)])
def KG:(List Int) × Int:=([],29)
def LV (y:(List Int) × Int):Bool:=decide (y=KG)
theorem H8 {y:(List Int) × Int} (h:LV y=true):y=KG:=of_decide_eq_true h
theorem VV:bk bN 25 (aH.enc (.cons (.agg (.cons (.list 2 (.agg (.cons .str (.cons (.list 2 (.agg (.cons (.int .i64) (.cons (.int .i64) .nil)))) .nil)))) (.cons (.list 5 (.agg (.cons (.int .i64) (.cons (.int .i64) (.cons (.int .i64) (.cons (.int .i64) (.cons .bool .nil))))))) .nil))) .nil) SC) (fun r=>r=ah.enc (.bh (.cons (.list 1 (.int .i64)) (.cons (.int .i64) .nil))) KG):=
 bk.mono (ck (C:=FH) (n:=100000) (p:=(.bh (.cons (.list 1 (.int .i64)) (.cons (.int .i64) .nil)))) (ok:=LV) (bD fB) (by kernel_rfl) (by kernel_rfl) (by kernel_rfl)) fun r ⟨y,h1,h2⟩=>by rw [h1,H8 h2]
noncomputable def XA:bf:=⟨(.cons (.agg (.cons (.list 2 (.agg (.cons .str (.cons (.list 2 (.agg (.cons (.int .i64) (.cons (.int .i64) .nil)))) .nil)))) (.cons (.list 5 (.agg (.cons (.int .i64) (.cons (.int .i64) (.cons (.int .i64) (.cons (.int .i64) (.cons .bool .nil))))))) .nil))) .nil),(.bh (.cons (.list 1 (.int .i64)) (.cons (.int .i64) .nil))),kQ (α:=(List ((List UInt8) × (List (Int × Int)))) × (List (Int × Int × Int × Int × Bool))) (β:=(List Int) × Int) [(SB,KF),(SC,KG)]⟩
theorem OT:aD bN 25 XA:=fun x y h=>by
 rcases qQ (α:=(List ((List UInt8) × (List (Int × Int)))) × (List (Int × Int × Int × Int × Bool))) (β:=(List Int) × Int) h with ⟨e1,e2⟩ | ⟨e1,e2⟩
 ·subst e1; subst e2; exact VU
 ·subst e1; subst e2; exact VV
def SD:((List ((List UInt8) × (List (Int × Int)))) × (List (Int × Int × Int × Int × Bool))) × (Int × List Int):=(([([80],[(10,0),(20,5),(10,0),(20,-5)]),([81],[(10,0),(20,5),(10,0),(20,-5)])],[(0,1,1,3,false),(0,3,1,1,true)]),(0,[0,1]))
def KH:Int:=0
def LW (y:Int):Bool:=decide (y=KH)
theorem H9 {y:Int} (h:LW y=true):y=KH:=of_decide_eq_true h
theorem VW:bk bN 27 (aH.enc (.cons (.agg (.cons (.list 2 (.agg (.cons .str (.cons (.list 2 (.agg (.cons (.int .i64) (.cons (.int .i64) .nil)))) .nil)))) (.cons (.list 5 (.agg (.cons (.int .i64) (.cons (.int .i64) (.cons (.int .i64) (.cons (.int .i64) (.cons .bool .nil))))))) .nil))) (.cons (.agg (.cons (.int .i64) (.cons (.list 1 (.int .i64)) .nil))) .nil)) SD) (fun r=>r=ah.enc (.int .i64) KH):=
 bk.mono (ck (C:=FH) (n:=100000) (p:=(.int .i64)) (ok:=LW) (bD fB) (by kernel_rfl) (by kernel_rfl) (by kernel_rfl)) fun r ⟨y,h1,h2⟩=>by rw [h1,H9 h2]
noncomputable def XB:bf:=⟨(.cons (.agg (.cons (.list 2 (.agg (.cons .str (.cons (.list 2 (.agg (.cons (.int .i64) (.cons (.int .i64) .nil)))) .nil)))) (.cons (.list 5 (.agg (.cons (.int .i64) (.cons (.int .i64) (.cons (.int .i64) (.cons (.int .i64) (.cons .bool .nil))))))) .nil))) (.cons (.agg (.cons (.int .i64) (.cons (.list 1 (.int .i64)) .nil))) .nil)),(.int .i64),kQ (α:=((List ((List UInt8) × (List (Int × Int)))) × (List (Int × Int × Int × Int × Bool))) × (Int × List Int)) (β:=Int) [(SD,KH)]⟩
theorem OU:aD bN 27 XB:=fun x y h=>by
 obtain ⟨e1,e2⟩:=lL (α:=((List ((List UInt8) × (List (Int × Int)))) × (List (Int × Int × Int × Int × Bool))) × (Int × List Int)) (β:=Int) h
 subst e1; subst e2
 exact VW
def SE:((List ((List UInt8) × (List (Int × Int)))) × (List (Int × Int × Int × Int × Bool))) × List (Int × Int × Bool):=(([([80],[(10,0),(20,5),(10,0),(20,-5)]),([81],[(10,0),(20,5),(10,0),(20,-5)])],[(0,1,1,3,false),(0,3,1,1,true)]),[(1,0,false),(0,2,true),(0,1,true)])
def KI:Int:=0
def LX (y:Int):Bool:=decide (y=KI)
theorem Ia {y:Int} (h:LX y=true):y=KI:=of_decide_eq_true h
theorem VX:bk bN 49 (aH.enc (.cons (.agg (.cons (.list 2 (.agg (.cons .str (.cons (.list 2 (.agg (.cons (.int .i64) (.cons (.int .i64) .nil)))) .nil)))) (.cons (.list 5 (.agg (.cons (.int .i64) (.cons (.int .i64) (.cons (.int .i64) (.cons (.int .i64) (.cons .bool .nil))))))) .nil))) (.cons (.list 3 (.agg (.cons (.int .i64) (.cons (.int .i64) (.cons .bool .nil))))) .nil)) SE) (fun r=>r=ah.enc (.int .i64) KI):=
 bk.mono (ck (C:=FH) (n:=100000) (p:=(.int .i64)) (ok:=LX) (bD fB) (by kernel_rfl) (by kernel_rfl) (by kernel_rfl)) fun r ⟨y,h1,h2⟩=>by rw [h1,Ia h2]
noncomputable def XC:bf:=⟨(.cons (.agg (.cons (.list 2 (.agg (.cons .str (.cons (.list 2 (.agg (.cons (.int .i64) (.cons (.int .i64) .nil)))) .nil)))) (.cons (.list 5 (.agg (.cons (.int .i64) (.cons (.int .i64) (.cons (.int .i64) (.cons (.int .i64) (.cons .bool .nil))))))) .nil))) (.cons (.list 3 (.agg (.cons (.int .i64) (.cons (.int .i64) (.cons .bool .nil))))) .nil)),(.int .i64),kQ (α:=((List ((List UInt8) × (List (Int × Int)))) × (List (Int × Int × Int × Int × Bool))) × List (Int × Int × Bool)) (β:=Int) [(SE,KI)]⟩
theorem OV:aD bN 49 XC:=fun x y h=>by
 obtain ⟨e1,e2⟩:=lL (α:=((List ((List UInt8) × (List (Int × Int)))) × (List (Int × Int × Int × Int × Bool))) × List (Int × Int × Bool)) (β:=Int) h
 subst e1; subst e2
 exact VX
def SF:(List ((List UInt8) × (List (Int × Int)))) × (List (Int × Int × Int × Int × Bool)):=([([80],[(10,0),(20,5),(10,0),(20,-5)]),([81],[(10,0),(20,5),(10,0),(20,-5)])],[(0,1,1,3,false),(0,3,1,1,false)])
def KJ:(List (List Int)) × Int:=([[0,0,5,5],[0,0,5,5]],0)
def LY (y:(List (List Int)) × Int):Bool:=decide (y=KJ)
theorem Ib {y:(List (List Int)) × Int} (h:LY y=true):y=KJ:=of_decide_eq_true h
theorem VY:bk bN 41 (aH.enc (.cons (.agg (.cons (.list 2 (.agg (.cons .str (.cons (.list 2 (.agg (.cons (.int .i64) (.cons (.int .i64) .nil)))) .nil)))) (.cons (.list 5 (.agg (.cons (.int .i64) (.cons (.int .i64) (.cons (.int .i64) (.cons (.int .i64) (.cons .bool .nil))))))) .nil))) .nil) SF) (fun r=>r=ah.enc (.bh (.cons (.list 1 (.list 1 (.int .i64))) (.cons (.int .i64) .nil))) KJ):=
 bk.mono (ck (C:=FH) (n:=100000) (p:=(.bh (.cons (.list 1 (.list 1 (.int .i64))) (.cons (.int .i64) .nil)))) (ok:=LY) (bD fB) (by kernel_rfl) (by kernel_rfl) (by kernel_rfl)) fun r ⟨y,h1,h2⟩=>by rw [h1,Ib h2]
def SG:(List ((List UInt8) × (List (Int × Int)))) × (List (Int × Int × Int × Int × Bool)):=([([80],[(10,0),(20,5),(10,0),(20,-5)]),([81],[(10,0),(20,5),(10,0),(20,-5)])],[(0,1,1,3,false),(0,3,1,1,true)])
def KK:(List (List Int)) × Int:=([],29)
def LZ (y:(List (List Int)) × Int):Bool:=decide (y=KK)
theorem Ic {y:(List (List Int)) × Int} (h:LZ y=true):y=KK:=of_decide_eq_true h
theorem VZ:bk bN 41 (aH.enc (.cons (.agg (.cons (.list 2 (.agg (.cons .str (.cons (.list 2 (.agg (.cons (.int .i64) (.cons (.int .i64) .nil)))) .nil)))) (.cons (.list 5 (.agg (.cons (.int .i64) (.cons (.int .i64) (.cons (.int .i64) (.cons (.int .i64) (.cons .bool .nil))))))) .nil))) .nil) SG) (fun r=>r=ah.enc (.bh (.cons (.list 1 (.list 1 (.int .i64))) (.cons (.int .i64) .nil))) KK):=
 bk.mono (ck (C:=FH) (n:=100000) (p:=(.bh (.cons (.list 1 (.list 1 (.int .i64))) (.cons (.int .i64) .nil)))) (ok:=LZ) (bD fB) (by kernel_rfl) (by kernel_rfl) (by kernel_rfl)) fun r ⟨y,h1,h2⟩=>by rw [h1,Ic h2]
noncomputable def XD:bf:=⟨(.cons (.agg (.cons (.list 2 (.agg (.cons .str (.cons (.list 2 (.agg (.cons (.int .i64) (.cons (.int .i64) .nil)))) .nil)))) (.cons (.list 5 (.agg (.cons (.int .i64) (.cons (.int .i64) (.cons (.int .i64) (.cons (.int .i64) (.cons .bool .nil))))))) .nil))) .nil),(.bh (.cons (.list 1 (.list 1 (.int .i64))) (.cons (.int .i64) .nil))),kQ (α:=(List ((List UInt8) × (List (Int × Int)))) × (List (Int × Int × Int × Int × Bool))) (β:=(List (List Int)) × Int) [(SF,KJ),(SG,KK)]⟩
theorem OW:aD bN 41 XD:=fun x y h=>by
 rcases qQ (α:=(List ((List UInt8) × (List (Int × Int)))) × (List (Int × Int × Int × Int × Bool))) (β:=(List (List Int)) × Int) h with ⟨e1,e2⟩ | ⟨e1,e2⟩
 ·subst e1; subst e2; exact VY
 ·subst e1; subst e2; exact VZ
end Go.Proofs.Ytegoimldbgdeiaa
namespace Go.Proofs.Ytegoimldbgdeiaa
open Go Go.Am
set_option maxRecDepth 1000000
noncomputable def SH:List (Nat × bf):=Kw++[(46,Xv),(20,Xw),(19,Xx),(22,Xy),(21,Xz),(25,XA),(27,XB),(49,XC),(41,XD)]
theorem KL:∀ a e,(a,e)∈SH→aD bN a e:=fun a e h=>by
 rcases List.mem_append.1 h with h | h
 ·exact fB a e h
 ·simp only [List.mem_cons,Prod.mk.injEq,List.not_mem_nil,or_false] at h
  rcases h with ⟨rfl,rfl⟩ | ⟨rfl,rfl⟩ | ⟨rfl,rfl⟩ | ⟨rfl,rfl⟩ | ⟨rfl,rfl⟩ | ⟨rfl,rfl⟩ | ⟨rfl,rfl⟩ | ⟨rfl,rfl⟩ | ⟨rfl,rfl⟩
  ·exact OO
  ·exact OP
  ·exact OQ
  ·exact OR
  ·exact OS
  ·exact OT
  ·exact OU
  ·exact OV
  ·exact OW
noncomputable def Z7:hJ:={ D:=Hx,Hh:=Ft SH,CP:=fun _ _=>none,fz:=true,N:=0,xt:=Xu,gt:=Xt }
theorem Bh:bk bN 10 [] (fun r=>∃ y:Bool,r=ah.enc .bool y∧y=true):=
 ck (C:=Z7) (n:=100000) (p:=.bool) (ok:=fun (y:Bool)=>y) (bD KL) (by kernel_rfl) (by kernel_rfl) (by kernel_rfl)
end Go.Proofs.Ytegoimldbgdeiaa
namespace Go.Proofs.Ytegoimldbgdeiaa
open Go Go.Am
def Tv (_N:Nat):Unit→Option Bool:=fun _=>some true
def Tw (N:Nat):bf:=⟨.nil,.bool,Tv N⟩
theorem OX (N:Nat):aD bN 10 (Tw N):=fun x y h=>by
 cases h
 exact bk.mono Bh fun r ⟨y,h1,h2⟩=>by rw [h1,h2]; rfl
end Go.Proofs.Ytegoimldbgdeiaa
