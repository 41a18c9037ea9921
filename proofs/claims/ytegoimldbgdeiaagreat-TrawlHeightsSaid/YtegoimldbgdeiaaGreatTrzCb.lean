/- The chapter's examples,call by call: kinds,signs,heights. -/
import Derived.Test.YtegoimldbgdeiaaGreatTrzCa
set_option linter.all false
namespace Go.Proofs.YtegoimldbgdeiaaGreat
open Go Go.Am
open List (map)
open Int (toNat)
open Go.IntKind (wrap)
open Go.Am.aF (fits)
set_option maxRecDepth 1000000
variable {y:(List (Bool×Int×Int))×Int}
def ald:(List ((List UInt8)×(List (Int×Int))))×(List (Int×Int×Int×Int×Bool)):=([([80],[(10,0),(20,5),(10,0),(20,-5)]),([81],[(10,0),(20,5),(10,0),(20,-5)])],[(0,1,1,3,false),(0,3,1,1,false)])
def aas:(List (Bool×Int×Int))×Int:=([(true,0,2)],0)
def ac5 (y:(List (Bool×Int×Int))×Int):Bool:=decide (y=aas)
def VU (h:ac5 y=true):y=aas:=of_decide_eq_true h
def ap0:cw cd 13 (a6.enc (.cons mm .nil) ald) (λ r=>r=aF.enc (.cD (.cons K9 (.cons (.int .i64) .nil))) aas):=
 cw.mono (dX (C:=Sg) (n:=100000) (p:=(.cD (.cons K9 (.cons (.int .i64) .nil)))) (ok:=ac5) (iW jD) (by kernel_rfl) (by kernel_rfl) (by kernel_rfl)) λ r ⟨y,h1,h2⟩=>by rw [h1,VU h2]
def ale:(List ((List UInt8)×(List (Int×Int))))×(List (Int×Int×Int×Int×Bool)):=([([80],[(10,0),(20,5),(10,0),(20,-5)]),([81],[(10,0),(20,5),(10,0),(20,-5)])],[(0,1,1,3,false),(0,3,1,1,true)])
def aat:(List (Bool×Int×Int))×Int:=([(false,1,1)],0)
def ac6 (y:(List (Bool×Int×Int))×Int):Bool:=decide (y=aat)
def VV (h:ac6 y=true):y=aat:=of_decide_eq_true h
def ap1:cw cd 13 (a6.enc (.cons mm .nil) ale) (λ r=>r=aF.enc (.cD (.cons K9 (.cons (.int .i64) .nil))) aat):=
 cw.mono (dX (C:=Sg) (n:=100000) (p:=(.cD (.cons K9 (.cons (.int .i64) .nil)))) (ok:=ac6) (iW jD) (by kernel_rfl) (by kernel_rfl) (by kernel_rfl)) λ r ⟨y,h1,h2⟩=>by rw [h1,VV h2]
noncomputable def E13:bJ:=⟨(.cons mm .nil),(.cD (.cons K9 (.cons (.int .i64) .nil))),qN (α:=(List ((List UInt8)×(List (Int×Int))))×(List (Int×Int×Int×Int×Bool))) (β:=(List (Bool×Int×Int))×Int) [(ald,aas),(ale,aat)]⟩
def agA:aK cd 13 E13:=λ x y h=>by
 rcases zG (α:=(List ((List UInt8)×(List (Int×Int))))×(List (Int×Int×Int×Int×Bool))) (β:=(List (Bool×Int×Int))×Int) h with ⟨e1,e2⟩|⟨e1,e2⟩
 .subst e1; subst e2; exact ap0
 .subst e1; subst e2; exact ap1
def alf:(List ((List UInt8)×(List (Int×Int))))×(List (Int×Int×Int×Int×Bool)):=([([80],[(10,0),(20,5),(10,0),(20,-5)]),([81],[(10,0),(20,5),(10,0),(20,-5)])],[(0,1,1,3,false),(0,3,1,1,false)])
def aau:(List Int)×Int:=([1,1],0)
def ac7 (y:(List Int)×Int):Bool:=decide (y=aau)
def VW {y:(List Int)×Int} (h:ac7 y=true):y=aau:=of_decide_eq_true h
def ap2:cw cd 30 (a6.enc (.cons mm .nil) alf) (λ r=>r=aF.enc (.cD (.cons aO (.cons (.int .i64) .nil))) aau):=
 cw.mono (dX (C:=Sg) (n:=100000) (p:=(.cD (.cons aO (.cons (.int .i64) .nil)))) (ok:=ac7) (iW jD) (by kernel_rfl) (by kernel_rfl) (by kernel_rfl)) λ r ⟨y,h1,h2⟩=>by rw [h1,VW h2]
def alg:(List ((List UInt8)×(List (Int×Int))))×(List (Int×Int×Int×Int×Bool)):=([([80],[(10,0),(20,5),(10,0),(20,-5)]),([81],[(10,0),(20,5),(10,0),(20,-5)])],[(0,1,1,3,false),(0,3,1,1,true)])
def aav:(List Int)×Int:=([],29)
def ac8 (y:(List Int)×Int):Bool:=decide (y=aav)
def VX {y:(List Int)×Int} (h:ac8 y=true):y=aav:=of_decide_eq_true h
def ap3:cw cd 30 (a6.enc (.cons mm .nil) alg) (λ r=>r=aF.enc (.cD (.cons aO (.cons (.int .i64) .nil))) aav):=
 cw.mono (dX (C:=Sg) (n:=100000) (p:=(.cD (.cons aO (.cons (.int .i64) .nil)))) (ok:=ac8) (iW jD) (by kernel_rfl) (by kernel_rfl) (by kernel_rfl)) λ r ⟨y,h1,h2⟩=>by rw [h1,VX h2]
noncomputable def E30:bJ:=⟨(.cons mm .nil),(.cD (.cons aO (.cons (.int .i64) .nil))),qN (α:=(List ((List UInt8)×(List (Int×Int))))×(List (Int×Int×Int×Int×Bool))) (β:=(List Int)×Int) [(alf,aau),(alg,aav)]⟩
def agB:aK cd 30 E30:=λ x y h=>by
 rcases zG (α:=(List ((List UInt8)×(List (Int×Int))))×(List (Int×Int×Int×Int×Bool))) (β:=(List Int)×Int) h with ⟨e1,e2⟩|⟨e1,e2⟩
 .subst e1; subst e2; exact ap2
 .subst e1; subst e2; exact ap3
def alh:((List ((List UInt8)×(List (Int×Int))))×(List (Int×Int×Int×Int×Bool)))×(Int×List Int):=(([([80],[(10,0),(20,5),(10,0),(20,-5)]),([81],[(10,0),(20,5),(10,0),(20,-5)])],[(0,1,1,3,false),(0,3,1,1,true)]),(0,[0,1]))
def aaw:Int:=0
def ac9 (y:Int):Bool:=decide (y=aaw)
def VY {y:Int} (h:ac9 y=true):y=aaw:=of_decide_eq_true h
def ap4:cw cd 33 (a6.enc (.cons mm (.cons (.agg (.cons (.int .i64) (.cons aO .nil))) .nil)) alh) (λ r=>r=aF.enc (.int .i64) aaw):=
 cw.mono (dX (C:=Sg) (n:=100000) (p:=(.int .i64)) (ok:=ac9) (iW jD) (by kernel_rfl) (by kernel_rfl) (by kernel_rfl)) λ r ⟨y,h1,h2⟩=>by rw [h1,VY h2]
noncomputable def E33:bJ:=⟨(.cons mm (.cons (.agg (.cons (.int .i64) (.cons aO .nil))) .nil)),(.int .i64),qN (α:=((List ((List UInt8)×(List (Int×Int))))×(List (Int×Int×Int×Int×Bool)))×(Int×List Int)) (β:=Int) [(alh,aaw)]⟩
def agC:aK cd 33 E33:=λ x y h=>by
 obtain ⟨e1,e2⟩:=r8 (α:=((List ((List UInt8)×(List (Int×Int))))×(List (Int×Int×Int×Int×Bool)))×(Int×List Int)) (β:=Int) h;subst e1; subst e2;exact ap4
def ali:((List ((List UInt8)×(List (Int×Int))))×(List (Int×Int×Int×Int×Bool)))×List (Int×Int×Bool):=(([([80],[(10,0),(20,5),(10,0),(20,-5)]),([81],[(10,0),(20,5),(10,0),(20,-5)])],[(0,1,1,3,false),(0,3,1,1,true)]),[(1,0,false),(0,2,true),(0,1,true)])
def aax:Int:=0
def ada (y:Int):Bool:=decide (y=aax)
def VZ {y:Int} (h:ada y=true):y=aax:=of_decide_eq_true h
def ap5:cw cd 38 (a6.enc (.cons mm (.cons (.list 3 BT) .nil)) ali) (λ r=>r=aF.enc (.int .i64) aax):=
 cw.mono (dX (C:=Sg) (n:=100000) (p:=(.int .i64)) (ok:=ada) (iW jD) (by kernel_rfl) (by kernel_rfl) (by kernel_rfl)) λ r ⟨y,h1,h2⟩=>by rw [h1,VZ h2]
noncomputable def E38:bJ:=⟨(.cons mm (.cons (.list 3 BT) .nil)),(.int .i64),qN (α:=((List ((List UInt8)×(List (Int×Int))))×(List (Int×Int×Int×Int×Bool)))×List (Int×Int×Bool)) (β:=Int) [(ali,aax)]⟩
def agD:aK cd 38 E38:=λ x y h=>by
 obtain ⟨e1,e2⟩:=r8 (α:=((List ((List UInt8)×(List (Int×Int))))×(List (Int×Int×Int×Int×Bool)))×List (Int×Int×Bool)) (β:=Int) h;subst e1; subst e2;exact ap5
def alj:(List ((List UInt8)×(List (Int×Int))))×(List (Int×Int×Int×Int×Bool)):=([([80],[(10,0),(20,5),(10,0),(20,-5)]),([81],[(10,0),(20,5),(10,0),(20,-5)])],[(0,1,1,3,false),(0,3,1,1,false)])
def aay:(List (List Int))×Int:=([[0,0,5,5],[0,0,5,5]],0)
def adb (y:(List (List Int))×Int):Bool:=decide (y=aay)
def V0 {y:(List (List Int))×Int} (h:adb y=true):y=aay:=of_decide_eq_true h
def ap6:cw cd 34 (a6.enc (.cons mm .nil) alj) (λ r=>r=aF.enc (.cD (.cons dR (.cons (.int .i64) .nil))) aay):=
 cw.mono (dX (C:=Sg) (n:=100000) (p:=(.cD (.cons dR (.cons (.int .i64) .nil)))) (ok:=adb) (iW jD) (by kernel_rfl) (by kernel_rfl) (by kernel_rfl)) λ r ⟨y,h1,h2⟩=>by rw [h1,V0 h2]
def alk:(List ((List UInt8)×(List (Int×Int))))×(List (Int×Int×Int×Int×Bool)):=([([80],[(10,0),(20,5),(10,0),(20,-5)]),([81],[(10,0),(20,5),(10,0),(20,-5)])],[(0,1,1,3,false),(0,3,1,1,true)])
def aaz:(List (List Int))×Int:=([],29)
def ade (y:(List (List Int))×Int):Bool:=decide (y=aaz)
def V1 {y:(List (List Int))×Int} (h:ade y=true):y=aaz:=of_decide_eq_true h
def ap7:cw cd 34 (a6.enc (.cons mm .nil) alk) (λ r=>r=aF.enc (.cD (.cons dR (.cons (.int .i64) .nil))) aaz):=
 cw.mono (dX (C:=Sg) (n:=100000) (p:=(.cD (.cons dR (.cons (.int .i64) .nil)))) (ok:=ade) (iW jD) (by kernel_rfl) (by kernel_rfl) (by kernel_rfl)) λ r ⟨y,h1,h2⟩=>by rw [h1,V1 h2]
noncomputable def E34:bJ:=⟨(.cons mm .nil),(.cD (.cons dR (.cons (.int .i64) .nil))),qN (α:=(List ((List UInt8)×(List (Int×Int))))×(List (Int×Int×Int×Int×Bool))) (β:=(List (List Int))×Int) [(alj,aay),(alk,aaz)]⟩
def agE:aK cd 34 E34:=λ x y h=>by
 rcases zG (α:=(List ((List UInt8)×(List (Int×Int))))×(List (Int×Int×Int×Int×Bool))) (β:=(List (List Int))×Int) h with ⟨e1,e2⟩|⟨e1,e2⟩
 .subst e1; subst e2; exact ap6
 .subst e1; subst e2; exact ap7
end Go.Proofs.YtegoimldbgdeiaaGreat
