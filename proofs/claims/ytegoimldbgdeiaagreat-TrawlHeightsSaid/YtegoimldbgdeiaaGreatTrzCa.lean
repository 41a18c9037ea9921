/- The chapter's examples,call by call. -/
import Derived.Test.YtegoimldbgdeiaaGreatSeamKA
set_option linter.all false
open Option.some renaming inj->aad
namespace Go.Proofs.YtegoimldbgdeiaaGreat
open Go Go.Am
open List (map)
open Int (toNat)
open Go.IntKind (wrap)
open Go.Am.aF (fits)
set_option maxRecDepth 1000000
variable {α β:Type}{y:(List (List (Int×Int)))×Int}{a x:α}{b:β}
def acZ:dC 18446744073709551616:=Nat.le_refl _
noncomputable def aam:List (Nat×bJ):=[(61,Qg),(62,N9 18446744073709551616)]
def jD:∀ a e,(a,e)∈aam->aK cd a e:=λ a e h=>by
 simp only [aam,List.mem_cons,Prod.mk.injEq,List.not_mem_nil,or_false] at h;rcases h with ⟨rfl,rfl⟩|⟨rfl,rfl⟩
 .exact Ow acZ
 .exact Sd acZ
noncomputable def xtC:(g:FuncId)->Option (ob cd g)
 |70=>some (aai 18446744073709551616 (Nat.le_refl _))
 |_=>none
noncomputable def Sg:jj:={ D:=Vp,NU:=Gg aam,Ex:=λ _ _=>none,fz:=true,N:=0,xt:=xtC,gt:=gtK }
instance decI5:DecidableEq (Int×Int×Int×Int×Bool):=inferInstance
instance decPn:DecidableEq ((List UInt8)×(List (Int×Int))):=inferInstance
instance decLP:DecidableEq (List ((List UInt8)×(List (Int×Int)))):=inferInstance
instance decLS:DecidableEq (List (Int×Int×Int×Int×Bool)):=inferInstance
instance decT:DecidableEq ((List ((List UInt8)×(List (Int×Int))))×(List (Int×Int×Int×Int×Bool))):=inferInstance
instance decTW:DecidableEq (((List ((List UInt8)×(List (Int×Int))))×(List (Int×Int×Int×Int×Bool)))×(Int×List Int)):=inferInstance
instance decTS:DecidableEq (((List ((List UInt8)×(List (Int×Int))))×(List (Int×Int×Int×Int×Bool)))×List (Int×Int×Bool)):=inferInstance
instance decI4:DecidableEq (Int×Int×Int×Int):=inferInstance
instance decI6:DecidableEq (Int×Int×Int×Int×Int×Int):=inferInstance
instance decC6:DecidableEq ((Int×Int×Int×Int×Int×Int)×Int):=inferInstance
instance decLLE:DecidableEq ((List (List (Int×Int)))×Int):=inferInstance
def qN {α β:Type} [DecidableEq α]:List (α×β)->α->Option β
 |[],_=>none
 |(a,b)::l,x=>bif decide (x=a) then some b else qN l x
def r8 [DecidableEq α] {y:β} (h:qN [(a,b)] x=some y):x=a/\y=b:=by
 unfold qN at h;cases hd:decide (x=a) with
 |true=>rw [hd] at h; exact ⟨of_decide_eq_true hd,(aad h).symm⟩
 |false=>rw [hd] at h; cases h
def zG [DecidableEq α] {a' x:α} {b' y:β} (h:qN [(a,b),(a',b')] x=some y):(x=a/\y=b)\/(x=a'/\y=b'):=by
 unfold qN at h;cases hd:decide (x=a) with
 |true=>rw [hd] at h; exact .inl ⟨of_decide_eq_true hd,(aad h).symm⟩
 |false=>rw [hd] at h; exact .inr (r8 h)
def ak8:(List ((List UInt8)×(List (Int×Int))))×(List (Int×Int×Int×Int×Bool)):=([([80],[(10,0),(20,5),(10,0),(20,-5)]),([81],[(10,0),(20,5),(10,0),(20,-5)])],[(0,1,1,3,false),(0,3,1,1,false)])
def aan:(List (List Int))×Int:=([[0,1,2,3],[1,0,3,2]],0)
def ac0 (y:(List (List Int))×Int):Bool:=decide (y=aan)
def VP {y:(List (List Int))×Int} (h:ac0 y=true):y=aan:=of_decide_eq_true h
def apV:cw cd 21 (a6.enc (.cons mm .nil) ak8) (λ r=>r=aF.enc (.cD (.cons dR (.cons (.int .i64) .nil))) aan):=
 cw.mono (dX (C:=Sg) (n:=100000) (p:=(.cD (.cons dR (.cons (.int .i64) .nil)))) (ok:=ac0) (iW jD) (by kernel_rfl) (by kernel_rfl) (by kernel_rfl)) λ r ⟨y,h1,h2⟩=>by rw [h1,VP h2]
noncomputable def E21:bJ:=⟨(.cons mm .nil),(.cD (.cons dR (.cons (.int .i64) .nil))),qN (α:=(List ((List UInt8)×(List (Int×Int))))×(List (Int×Int×Int×Int×Bool))) (β:=(List (List Int))×Int) [(ak8,aan)]⟩
def agw:aK cd 21 E21:=λ x y h=>by
 obtain ⟨e1,e2⟩:=r8 (α:=(List ((List UInt8)×(List (Int×Int))))×(List (Int×Int×Int×Int×Bool))) (β:=(List (List Int))×Int) h;subst e1; subst e2;exact apV
def ak9:(List ((List UInt8)×(List (Int×Int))))×(List (Int×Int×Int×Int×Bool)):=([([80],[(10,0),(20,5),(10,0),(20,-5)]),([81],[(10,0),(20,5),(10,0),(20,-5)])],[(0,1,1,3,false),(0,3,1,1,false)])
def aao:(Int×Int×Int×Int×Int×Int)×Int:=((4,6,2,1,2,0),0)
def ac1 (y:(Int×Int×Int×Int×Int×Int)×Int):Bool:=decide (y=aao)
def VQ {y:(Int×Int×Int×Int×Int×Int)×Int} (h:ac1 y=true):y=aao:=of_decide_eq_true h
def apW:cw cd 23 (a6.enc (.cons mm .nil) ak9) (λ r=>r=aF.enc (.cD (.cons PO (.cons (.int .i64) .nil))) aao):=
 cw.mono (dX (C:=Sg) (n:=100000) (p:=(.cD (.cons PO (.cons (.int .i64) .nil)))) (ok:=ac1) (iW jD) (by kernel_rfl) (by kernel_rfl) (by kernel_rfl)) λ r ⟨y,h1,h2⟩=>by rw [h1,VQ h2]
noncomputable def E23:bJ:=⟨(.cons mm .nil),(.cD (.cons PO (.cons (.int .i64) .nil))),qN (α:=(List ((List UInt8)×(List (Int×Int))))×(List (Int×Int×Int×Int×Bool))) (β:=(Int×Int×Int×Int×Int×Int)×Int) [(ak9,aao)]⟩
def agx:aK cd 23 E23:=λ x y h=>by
 obtain ⟨e1,e2⟩:=r8 (α:=(List ((List UInt8)×(List (Int×Int))))×(List (Int×Int×Int×Int×Bool))) (β:=(Int×Int×Int×Int×Int×Int)×Int) h;subst e1; subst e2;exact apW
def ala:(List ((List UInt8)×(List (Int×Int))))×(List (Int×Int×Int×Int×Bool)):=([([80],[(10,0),(20,5),(10,0),(20,-5)]),([81],[(10,0),(20,5),(10,0),(20,-5)])],[(0,1,1,3,false),(0,3,1,1,false)])
def aap:(List (List (Int×Int)))×Int:=([[(0,0),(1,0)],[(0,2),(1,2)]],0)
def ac2 (y:(List (List (Int×Int)))×Int):Bool:=decide (y=aap)
def VR (h:ac2 y=true):y=aap:=of_decide_eq_true h
def apX:cw cd 10 (a6.enc (.cons mm .nil) ala) (λ r=>r=aF.enc (.cD (.cons (.list 1 tZ) (.cons (.int .i64) .nil))) aap):=
 cw.mono (dX (C:=Sg) (n:=100000) (p:=(.cD (.cons (.list 1 tZ) (.cons (.int .i64) .nil)))) (ok:=ac2) (iW jD) (by kernel_rfl) (by kernel_rfl) (by kernel_rfl)) λ r ⟨y,h1,h2⟩=>by rw [h1,VR h2]
def alb:(List ((List UInt8)×(List (Int×Int))))×(List (Int×Int×Int×Int×Bool)):=([([80],[(10,0),(20,5),(10,0),(20,-5)]),([81],[(10,0),(20,5),(10,0),(20,-5)])],[(0,1,1,3,false),(0,3,1,1,true)])
def aaq:(List (List (Int×Int)))×Int:=([[(0,0),(1,0),(0,2),(1,2)]],0)
def ac3 (y:(List (List (Int×Int)))×Int):Bool:=decide (y=aaq)
def VS (h:ac3 y=true):y=aaq:=of_decide_eq_true h
def apY:cw cd 10 (a6.enc (.cons mm .nil) alb) (λ r=>r=aF.enc (.cD (.cons (.list 1 tZ) (.cons (.int .i64) .nil))) aaq):=
 cw.mono (dX (C:=Sg) (n:=100000) (p:=(.cD (.cons (.list 1 tZ) (.cons (.int .i64) .nil)))) (ok:=ac3) (iW jD) (by kernel_rfl) (by kernel_rfl) (by kernel_rfl)) λ r ⟨y,h1,h2⟩=>by rw [h1,VS h2]
noncomputable def E10:bJ:=⟨(.cons mm .nil),(.cD (.cons (.list 1 tZ) (.cons (.int .i64) .nil))),qN (α:=(List ((List UInt8)×(List (Int×Int))))×(List (Int×Int×Int×Int×Bool))) (β:=(List (List (Int×Int)))×Int) [(ala,aap),(alb,aaq)]⟩
def agy:aK cd 10 E10:=λ x y h=>by
 rcases zG (α:=(List ((List UInt8)×(List (Int×Int))))×(List (Int×Int×Int×Int×Bool))) (β:=(List (List (Int×Int)))×Int) h with ⟨e1,e2⟩|⟨e1,e2⟩
 .subst e1; subst e2; exact apX
 .subst e1; subst e2; exact apY
def alc:(List ((List UInt8)×(List (Int×Int))))×(List (Int×Int×Int×Int×Bool)):=([([80],[(10,0),(20,5),(10,0),(20,-5)]),([81],[(10,0),(20,5),(10,0),(20,-5)])],[(0,1,1,3,false),(0,3,1,1,false)])
def aar:(List (Int×Int))×Int×Int:=([(0,0),(1,0)],20,0)
def ac4 (y:(List (Int×Int))×Int×Int):Bool:=decide (y=aar)
def VT {y:(List (Int×Int))×Int×Int} (h:ac4 y=true):y=aar:=of_decide_eq_true h
def apZ:cw cd 12 (a6.enc (.cons mm .nil) alc) (λ r=>r=aF.enc (.cD (.cons tZ (.cons (.int .i64) (.cons (.int .i64) .nil)))) aar):=
 cw.mono (dX (C:=Sg) (n:=100000) (p:=(.cD (.cons tZ (.cons (.int .i64) (.cons (.int .i64) .nil))))) (ok:=ac4) (iW jD) (by kernel_rfl) (by kernel_rfl) (by kernel_rfl)) λ r ⟨y,h1,h2⟩=>by rw [h1,VT h2]
noncomputable def E12:bJ:=⟨(.cons mm .nil),(.cD (.cons tZ (.cons (.int .i64) (.cons (.int .i64) .nil)))),qN (α:=(List ((List UInt8)×(List (Int×Int))))×(List (Int×Int×Int×Int×Bool))) (β:=(List (Int×Int))×Int×Int) [(alc,aar)]⟩
def agz:aK cd 12 E12:=λ x y h=>by
 obtain ⟨e1,e2⟩:=r8 (α:=(List ((List UInt8)×(List (Int×Int))))×(List (Int×Int×Int×Int×Bool))) (β:=(List (Int×Int))×Int×Int) h;subst e1; subst e2;exact apZ
end Go.Proofs.YtegoimldbgdeiaaGreat
