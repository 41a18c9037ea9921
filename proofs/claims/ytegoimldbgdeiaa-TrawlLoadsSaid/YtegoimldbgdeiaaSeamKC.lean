/- The chapter's examples,call by call. -/
import Derived.Test.YtegoimldbgdeiaaSeamKB
import Derived.Test.YtegoimldbgdeiaaTrwG
set_option linter.all false
namespace Go.Proofs.Ytegoimldbgdeiaa
open Go Go.Am
set_option maxRecDepth 1000000
theorem Kp:hH 18446744073709551616:=Nat.le_refl _
noncomputable def Jb:List (Nat × bV):=[(60,Dm),(58,Ca 18446744073709551616)]
theorem fw:∀ a e,(a,e)∈Jb→aM b8 a e:=fun a e h=>by
 simp only [Jb,List.mem_cons,Prod.mk.injEq,List.not_mem_nil,or_false] at h
 rcases h with ⟨rfl,rfl⟩ | ⟨rfl,rfl⟩
 ·exact Cp Kp
 ·exact ED Kp
noncomputable def UW:(g:FuncId)→Option (uW b8 g)
 | 79=>some (I8 18446744073709551616 (Nat.le_refl _))
 | _=>none
noncomputable def EE:kz:={ D:=Gk,F4:=Eo Jb,B0:=fun _ _=>none,fz:=true,N:=0,xt:=UW,gt:=UU }
instance decI5:DecidableEq (Int × Int × Int × Int × Bool):=inferInstance
instance decPn:DecidableEq ((List UInt8) × (List (Int × Int))):=inferInstance
instance decLP:DecidableEq (List ((List UInt8) × (List (Int × Int)))):=inferInstance
instance decLS:DecidableEq (List (Int × Int × Int × Int × Bool)):=inferInstance
instance decT:DecidableEq ((List ((List UInt8) × (List (Int × Int)))) × (List (Int × Int × Int × Int × Bool))):=inferInstance
instance decTW:DecidableEq (((List ((List UInt8) × (List (Int × Int)))) × (List (Int × Int × Int × Int × Bool))) × (Int × List Int)):=inferInstance
instance decTS:DecidableEq (((List ((List UInt8) × (List (Int × Int)))) × (List (Int × Int × Int × Int × Bool))) × List (Int × Int × Bool)):=inferInstance
instance decI4:DecidableEq (Int × Int × Int × Int):=inferInstance
instance decI6:DecidableEq (Int × Int × Int × Int × Int × Int):=inferInstance
instance decC6:DecidableEq ((Int × Int × Int × Int × Int × Int) × Int):=inferInstance
instance decLLE:DecidableEq ((List (List (Int × Int))) × Int):=inferInstance
def kN {α β:Type} [DecidableEq α]:List (α × β)→α→Option β
 | [],_=>none
 | (a,b) :: l,x=>bif decide (x=a) then some b else kN l x
theorem lI {α β:Type} [DecidableEq α] {a x:α} {b y:β} (h:kN [(a,b)] x=some y):x=a∧y=b:=by
 unfold kN at h
 cases hd:decide (x=a) with
 | true=>rw [hd] at h; exact ⟨of_decide_eq_true hd,(Option.some.inj h).symm⟩
 | false=>rw [hd] at h; cases h
theorem qF {α β:Type} [DecidableEq α] {a a' x:α} {b b' y:β} (h:kN [(a,b),(a',b')] x=some y):(x=a∧y=b)∨(x=a'∧y=b'):=by
 unfold kN at h
 cases hd:decide (x=a) with
 | true=>rw [hd] at h; exact .inl ⟨of_decide_eq_true hd,(Option.some.inj h).symm⟩
 | false=>rw [hd] at h; exact .inr (lI h)
def Qf:(List ((List UInt8) × (List (Int × Int)))) × (List (Int × Int × Int × Int × Bool)):=([([80],[(10,0),(20,5),(10,0),(20,-5)]),([81],[(10,0),(20,5),(10,0),(20,-5)])],[(0,1,1,3,false),(0,3,1,1,false)])
def Jc:(List (List Int)) × Int:=([[0,1,2,3],[1,0,3,2]],0)
def Kq (y:(List (List Int)) × Int):Bool:=decide (y=Jc)
theorem GQ {y:(List (List Int)) × Int} (h:Kq y=true):y=Jc:=of_decide_eq_true h
theorem Tk:bg b8 46 (aD.enc (.cons (.agg (.cons (.list 2 (.agg (.cons .str (.cons (.list 2 (.agg (.cons (.int .i64) (.cons (.int .i64) .nil)))) .nil)))) (.cons (.list 5 (.agg (.cons (.int .i64) (.cons (.int .i64) (.cons (.int .i64) (.cons (.int .i64) (.cons .bool .nil))))))) .nil))) .nil) Qf) (fun r=>r=ah.enc (.bi (.cons (.list 1 (.list 1 (.int .i64))) (.cons (.int .i64) .nil))) Jc):=
 bg.mono (bY (C:=EE) (n:=100000) (p:=(.bi (.cons (.list 1 (.list 1 (.int .i64))) (.cons (.int .i64) .nil)))) (ok:=Kq) (bR fw) (by kernel_rfl) (by kernel_rfl) (by kernel_rfl)) fun r ⟨y,h1,h2⟩=>by rw [h1,GQ h2]
noncomputable def UX:bV:=⟨(.cons (.agg (.cons (.list 2 (.agg (.cons .str (.cons (.list 2 (.agg (.cons (.int .i64) (.cons (.int .i64) .nil)))) .nil)))) (.cons (.list 5 (.agg (.cons (.int .i64) (.cons (.int .i64) (.cons (.int .i64) (.cons (.int .i64) (.cons .bool .nil))))))) .nil))) .nil),(.bi (.cons (.list 1 (.list 1 (.int .i64))) (.cons (.int .i64) .nil))),kN (α:=(List ((List UInt8) × (List (Int × Int)))) × (List (Int × Int × Int × Int × Bool))) (β:=(List (List Int)) × Int) [(Qf,Jc)]⟩
theorem M9:aM b8 46 UX:=fun x y h=>by
 obtain ⟨e1,e2⟩:=lI (α:=(List ((List UInt8) × (List (Int × Int)))) × (List (Int × Int × Int × Int × Bool))) (β:=(List (List Int)) × Int) h
 subst e1; subst e2
 exact Tk
def Qg:(List ((List UInt8) × (List (Int × Int)))) × (List (Int × Int × Int × Int × Bool)):=([([80],[(10,0),(20,5),(10,0),(20,-5)]),([81],[(10,0),(20,5),(10,0),(20,-5)])],[(0,1,1,3,false),(0,3,1,1,false)])
def Jd:(Int × Int × Int × Int × Int × Int) × Int:=((4,6,2,1,2,0),0)
def Kr (y:(Int × Int × Int × Int × Int × Int) × Int):Bool:=decide (y=Jd)
theorem GR {y:(Int × Int × Int × Int × Int × Int) × Int} (h:Kr y=true):y=Jd:=of_decide_eq_true h
theorem Tl:bg b8 20 (aD.enc (.cons (.agg (.cons (.list 2 (.agg (.cons .str (.cons (.list 2 (.agg (.cons (.int .i64) (.cons (.int .i64) .nil)))) .nil)))) (.cons (.list 5 (.agg (.cons (.int .i64) (.cons (.int .i64) (.cons (.int .i64) (.cons (.int .i64) (.cons .bool .nil))))))) .nil))) .nil) Qg) (fun r=>r=ah.enc (.bi (.cons (.agg (.cons (.int .i64) (.cons (.int .i64) (.cons (.int .i64) (.cons (.int .i64) (.cons (.int .i64) (.cons (.int .i64) .nil))))))) (.cons (.int .i64) .nil))) Jd):=
 bg.mono (bY (C:=EE) (n:=100000) (p:=(.bi (.cons (.agg (.cons (.int .i64) (.cons (.int .i64) (.cons (.int .i64) (.cons (.int .i64) (.cons (.int .i64) (.cons (.int .i64) .nil))))))) (.cons (.int .i64) .nil)))) (ok:=Kr) (bR fw) (by kernel_rfl) (by kernel_rfl) (by kernel_rfl)) fun r ⟨y,h1,h2⟩=>by rw [h1,GR h2]
noncomputable def UY:bV:=⟨(.cons (.agg (.cons (.list 2 (.agg (.cons .str (.cons (.list 2 (.agg (.cons (.int .i64) (.cons (.int .i64) .nil)))) .nil)))) (.cons (.list 5 (.agg (.cons (.int .i64) (.cons (.int .i64) (.cons (.int .i64) (.cons (.int .i64) (.cons .bool .nil))))))) .nil))) .nil),(.bi (.cons (.agg (.cons (.int .i64) (.cons (.int .i64) (.cons (.int .i64) (.cons (.int .i64) (.cons (.int .i64) (.cons (.int .i64) .nil))))))) (.cons (.int .i64) .nil))),kN (α:=(List ((List UInt8) × (List (Int × Int)))) × (List (Int × Int × Int × Int × Bool))) (β:=(Int × Int × Int × Int × Int × Int) × Int) [(Qg,Jd)]⟩
theorem Na:aM b8 20 UY:=fun x y h=>by
 obtain ⟨e1,e2⟩:=lI (α:=(List ((List UInt8) × (List (Int × Int)))) × (List (Int × Int × Int × Int × Bool))) (β:=(Int × Int × Int × Int × Int × Int) × Int) h
 subst e1; subst e2
 exact Tl
def Qh:(List ((List UInt8) × (List (Int × Int)))) × (List (Int × Int × Int × Int × Bool)):=([([80],[(10,0),(20,5),(10,0),(20,-5)]),([81],[(10,0),(20,5),(10,0),(20,-5)])],[(0,1,1,3,false),(0,3,1,1,false)])
def Je:(List (List (Int × Int))) × Int:=([[(0,0),(1,0)],[(0,2),(1,2)]],0)
def Ks (y:(List (List (Int × Int))) × Int):Bool:=decide (y=Je)
theorem GS {y:(List (List (Int × Int))) × Int} (h:Ks y=true):y=Je:=of_decide_eq_true h
theorem Tm:bg b8 19 (aD.enc (.cons (.agg (.cons (.list 2 (.agg (.cons .str (.cons (.list 2 (.agg (.cons (.int .i64) (.cons (.int .i64) .nil)))) .nil)))) (.cons (.list 5 (.agg (.cons (.int .i64) (.cons (.int .i64) (.cons (.int .i64) (.cons (.int .i64) (.cons .bool .nil))))))) .nil))) .nil) Qh) (fun r=>r=ah.enc (.bi (.cons (.list 1 (.list 2 (.agg (.cons (.int .i64) (.cons (.int .i64) .nil))))) (.cons (.int .i64) .nil))) Je):=
 bg.mono (bY (C:=EE) (n:=100000) (p:=(.bi (.cons (.list 1 (.list 2 (.agg (.cons (.int .i64) (.cons (.int .i64) .nil))))) (.cons (.int .i64) .nil)))) (ok:=Ks) (bR fw) (by kernel_rfl) (by kernel_rfl) (by kernel_rfl)) fun r ⟨y,h1,h2⟩=>by rw [h1,GS h2]
def Qi:(List ((List UInt8) × (List (Int × Int)))) × (List (Int × Int × Int × Int × Bool)):=([([80],[(10,0),(20,5),(10,0),(20,-5)]),([81],[(10,0),(20,5),(10,0),(20,-5)])],[(0,1,1,3,false),(0,3,1,1,true)])
def Jf:(List (List (Int × Int))) × Int:=([[(0,0),(1,0),(0,2),(1,2)]],0)
def Kt (y:(List (List (Int × Int))) × Int):Bool:=decide (y=Jf)
theorem GU {y:(List (List (Int × Int))) × Int} (h:Kt y=true):y=Jf:=of_decide_eq_true h
theorem Tn:bg b8 19 (aD.enc (.cons (.agg (.cons (.list 2 (.agg (.cons .str (.cons (.list 2 (.agg (.cons (.int .i64) (.cons (.int .i64) .nil)))) .nil)))) (.cons (.list 5 (.agg (.cons (.int .i64) (.cons (.int .i64) (.cons (.int .i64) (.cons (.int .i64) (.cons .bool .nil))))))) .nil))) .nil) Qi) (fun r=>r=ah.enc (.bi (.cons (.list 1 (.list 2 (.agg (.cons (.int .i64) (.cons (.int .i64) .nil))))) (.cons (.int .i64) .nil))) Jf):=
 bg.mono (bY (C:=EE) (n:=100000) (p:=(.bi (.cons (.list 1 (.list 2 (.agg (.cons (.int .i64) (.cons (.int .i64) .nil))))) (.cons (.int .i64) .nil)))) (ok:=Kt) (bR fw) (by kernel_rfl) (by kernel_rfl) (by kernel_rfl)) fun r ⟨y,h1,h2⟩=>by rw [h1,GU h2]
noncomputable def UZ:bV:=⟨(.cons (.agg (.cons (.list 2 (.agg (.cons .str (.cons (.list 2 (.agg (.cons (.int .i64) (.cons (.int .i64) .nil)))) .nil)))) (.cons (.list 5 (.agg (.cons (.int .i64) (.cons (.int .i64) (.cons (.int .i64) (.cons (.int .i64) (.cons .bool .nil))))))) .nil))) .nil),(.bi (.cons (.list 1 (.list 2 (.agg (.cons (.int .i64) (.cons (.int .i64) .nil))))) (.cons (.int .i64) .nil))),kN (α:=(List ((List UInt8) × (List (Int × Int)))) × (List (Int × Int × Int × Int × Bool))) (β:=(List (List (Int × Int))) × Int) [(Qh,Je),(Qi,Jf)]⟩
theorem Nb:aM b8 19 UZ:=fun x y h=>by
 rcases qF (α:=(List ((List UInt8) × (List (Int × Int)))) × (List (Int × Int × Int × Int × Bool))) (β:=(List (List (Int × Int))) × Int) h with ⟨e1,e2⟩ | ⟨e1,e2⟩
 ·subst e1; subst e2; exact Tm
 ·subst e1; subst e2; exact Tn
def Qj:(List ((List UInt8) × (List (Int × Int)))) × (List (Int × Int × Int × Int × Bool)):=([([80],[(10,0),(20,5),(10,0),(20,-5)]),([81],[(10,0),(20,5),(10,0),(20,-5)])],[(0,1,1,3,false),(0,3,1,1,false)])
def Jg:(List (Int × Int)) × Int × Int:=([(0,0),(1,0)],20,0)
def Ku (y:(List (Int × Int)) × Int × Int):Bool:=decide (y=Jg)
theorem GV {y:(List (Int × Int)) × Int × Int} (h:Ku y=true):y=Jg:=of_decide_eq_true h
theorem To:bg b8 22 (aD.enc (.cons (.agg (.cons (.list 2 (.agg (.cons .str (.cons (.list 2 (.agg (.cons (.int .i64) (.cons (.int .i64) .nil)))) .nil)))) (.cons (.list 5 (.agg (.cons (.int .i64) (.cons (.int .i64) (.cons (.int .i64) (.cons (.int .i64) (.cons .bool .nil))))))) .nil))) .nil) Qj) (fun r=>r=ah.enc (.bi (.cons (.list 2 (.agg (.cons (.int .i64) (.cons (.int .i64) .nil)))) (.cons (.int .i64) (.cons (.int .i64) .nil)))) Jg):=
 bg.mono (bY (C:=EE) (n:=100000) (p:=(.bi (.cons (.list 2 (.agg (.cons (.int .i64) (.cons (.int .i64) .nil)))) (.cons (.int .i64) (.cons (.int .i64) .nil))))) (ok:=Ku) (bR fw) (by kernel_rfl) (by kernel_rfl) (by kernel_rfl)) fun r ⟨y,h1,h2⟩=>by rw [h1,GV h2]
noncomputable def U0:bV:=⟨(.cons (.agg (.cons (.list 2 (.agg (.cons .str (.cons (.list 2 (.agg (.cons (.int .i64) (.cons (.int .i64) .nil)))) .nil)))) (.cons (.list 5 (.agg (.cons (.int .i64) (.cons (.int .i64) (.cons (.int .i64) (.cons (.int .i64) (.cons .bool .nil))))))) .nil))) .nil),(.bi (.cons (.list 2 (.agg (.cons (.int .i64) (.cons (.int .i64) .nil)))) (.cons (.int .i64) (.cons (.int .i64) .nil)))),kN (α:=(List ((List UInt8) × (List (Int × Int)))) × (List (Int × Int × Int × Int × Bool))) (β:=(List (Int × Int)) × Int × Int) [(Qj,Jg)]⟩
theorem Nc:aM b8 22 U0:=fun x y h=>by
 obtain ⟨e1,e2⟩:=lI (α:=(List ((List UInt8) × (List (Int × Int)))) × (List (Int × Int × Int × Int × Bool))) (β:=(List (Int × Int)) × Int × Int) h
 subst e1; subst e2
 exact To
end Go.Proofs.Ytegoimldbgdeiaa
namespace Go.Proofs.Ytegoimldbgdeiaa
open Go Go.Am
set_option maxRecDepth 1000000
def Qk:(List ((List UInt8) × (List (Int × Int)))) × (List (Int × Int × Int × Int × Bool)):=([([80],[(10,0),(20,5),(10,0),(20,-5)]),([81],[(10,0),(20,5),(10,0),(20,-5)])],[(0,1,1,3,false),(0,3,1,1,false)])
def Jh:(List (Bool × Int × Int)) × Int:=([(true,0,2)],0)
def Kv (y:(List (Bool × Int × Int)) × Int):Bool:=decide (y=Jh)
theorem GW {y:(List (Bool × Int × Int)) × Int} (h:Kv y=true):y=Jh:=of_decide_eq_true h
theorem Tp:bg b8 21 (aD.enc (.cons (.agg (.cons (.list 2 (.agg (.cons .str (.cons (.list 2 (.agg (.cons (.int .i64) (.cons (.int .i64) .nil)))) .nil)))) (.cons (.list 5 (.agg (.cons (.int .i64) (.cons (.int .i64) (.cons (.int .i64) (.cons (.int .i64) (.cons .bool .nil))))))) .nil))) .nil) Qk) (fun r=>r=ah.enc (.bi (.cons (.list 3 (.agg (.cons .bool (.cons (.int .i64) (.cons (.int .i64) .nil))))) (.cons (.int .i64) .nil))) Jh):=
 bg.mono (bY (C:=EE) (n:=100000) (p:=(.bi (.cons (.list 3 (.agg (.cons .bool (.cons (.int .i64) (.cons (.int .i64) .nil))))) (.cons (.int .i64) .nil)))) (ok:=Kv) (bR fw) (by kernel_rfl) (by kernel_rfl) (by kernel_rfl)) fun r ⟨y,h1,h2⟩=>by rw [h1,GW h2]
def Ql:(List ((List UInt8) × (List (Int × Int)))) × (List (Int × Int × Int × Int × Bool)):=([([80],[(10,0),(20,5),(10,0),(20,-5)]),([81],[(10,0),(20,5),(10,0),(20,-5)])],[(0,1,1,3,false),(0,3,1,1,true)])
def Ji:(List (Bool × Int × Int)) × Int:=([(false,1,1)],0)
def Kw (y:(List (Bool × Int × Int)) × Int):Bool:=decide (y=Ji)
theorem GX {y:(List (Bool × Int × Int)) × Int} (h:Kw y=true):y=Ji:=of_decide_eq_true h
theorem Tq:bg b8 21 (aD.enc (.cons (.agg (.cons (.list 2 (.agg (.cons .str (.cons (.list 2 (.agg (.cons (.int .i64) (.cons (.int .i64) .nil)))) .nil)))) (.cons (.list 5 (.agg (.cons (.int .i64) (.cons (.int .i64) (.cons (.int .i64) (.cons (.int .i64) (.cons .bool .nil))))))) .nil))) .nil) Ql) (fun r=>r=ah.enc (.bi (.cons (.list 3 (.agg (.cons .bool (.cons (.int .i64) (.cons (.int .i64) .nil))))) (.cons (.int .i64) .nil))) Ji):=
 bg.mono (bY (C:=EE) (n:=100000) (p:=(.bi (.cons (.list 3 (.agg (.cons .bool (.cons (.int .i64) (.cons (.int .i64) .nil))))) (.cons (.int .i64) .nil)))) (ok:=Kw) (bR fw) (by kernel_rfl) (by kernel_rfl) (by kernel_rfl)) fun r ⟨y,h1,h2⟩=>by rw [h1,GX h2]
noncomputable def U1:bV:=⟨(.cons (.agg (.cons (.list 2 (.agg (.cons .str (.cons (.list 2 (.agg (.cons (.int .i64) (.cons (.int .i64) .nil)))) .nil)))) (.cons (.list 5 (.agg (.cons (.int .i64) (.cons (.int .i64) (.cons (.int .i64) (.cons (.int .i64) (.cons .bool .nil))))))) .nil))) .nil),(.bi (.cons (.list 3 (.agg (.cons .bool (.cons (.int .i64) (.cons (.int .i64) .nil))))) (.cons (.int .i64) .nil))),kN (α:=(List ((List UInt8) × (List (Int × Int)))) × (List (Int × Int × Int × Int × Bool))) (β:=(List (Bool × Int × Int)) × Int) [(Qk,Jh),(Ql,Ji)]⟩
theorem Nd:aM b8 21 U1:=fun x y h=>by
 rcases qF (α:=(List ((List UInt8) × (List (Int × Int)))) × (List (Int × Int × Int × Int × Bool))) (β:=(List (Bool × Int × Int)) × Int) h with ⟨e1,e2⟩ | ⟨e1,e2⟩
 ·subst e1; subst e2; exact Tp
 ·subst e1; subst e2; exact Tq
def Qm:(List ((List UInt8) × (List (Int × Int)))) × (List (Int × Int × Int × Int × Bool)):=([([80],[(10,0),(20,5),(10,0),(20,-5)]),([81],[(10,0),(20,5),(10,0),(20,-5)])],[(0,1,1,3,false),(0,3,1,1,false)])
def Jj:(List Int) × Int:=([1,1],0)
def Kx (y:(List Int) × Int):Bool:=decide (y=Jj)
theorem GY {y:(List Int) × Int} (h:Kx y=true):y=Jj:=of_decide_eq_true h
theorem Tr:bg b8 25 (aD.enc (.cons (.agg (.cons (.list 2 (.agg (.cons .str (.cons (.list 2 (.agg (.cons (.int .i64) (.cons (.int .i64) .nil)))) .nil)))) (.cons (.list 5 (.agg (.cons (.int .i64) (.cons (.int .i64) (.cons (.int .i64) (.cons (.int .i64) (.cons .bool .nil))))))) .nil))) .nil) Qm) (fun r=>r=ah.enc (.bi (.cons (.list 1 (.int .i64)) (.cons (.int .i64) .nil))) Jj):=
 bg.mono (bY (C:=EE) (n:=100000) (p:=(.bi (.cons (.list 1 (.int .i64)) (.cons (.int .i64) .nil)))) (ok:=Kx) (bR fw) (by kernel_rfl) (by kernel_rfl) (by kernel_rfl)) fun r ⟨y,h1,h2⟩=>by rw [h1,GY h2]
def Qn:(List ((List UInt8) × (List (Int × Int)))) × (List (Int × Int × Int × Int × Bool)):=([([80],[(10,0),(20,5),(10,0),(20,-5)]),([81],[(10,0),(20,5),(10,0),(20,-5)])],[(0,1,1,3,false),(0,3,1,1,true)])
def Jk:(List Int) × Int:=([],29)
def Ky (y:(List Int) × Int):Bool:=decide (y=Jk)
theorem GZ {y:(List Int) × Int} (h:Ky y=true):y=Jk:=of_decide_eq_true h
theorem Ts:bg b8 25 (aD.enc (.cons (.agg (.cons (.list 2 (.agg (.cons .str (.cons (.list 2 (.agg (.cons (.int .i64) (.cons (.int .i64) .nil)))) .nil)))) (.cons (.list 5 (.agg (.cons (.int .i64) (.cons (.int .i64) (.cons (.int .i64) (.cons (.int .i64) (.cons .bool .nil))))))) .nil))) .nil) Qn) (fun r=>r=ah.enc (.bi (.cons (.list 1 (.int .i64)) (.cons (.int .i64) .nil))) Jk):=
 bg.mono (bY (C:=EE) (n:=100000) (p:=(.bi (.cons (.list 1 (.int .i64)) (.cons (.int .i64) .nil)))) (ok:=Ky) (bR fw) (by kernel_rfl) (by kernel_rfl) (by kernel_rfl)) fun r ⟨y,h1,h2⟩=>by rw [h1,GZ h2]
noncomputable def U2:bV:=⟨(.cons (.agg (.cons (.list 2 (.agg (.cons .str (.cons (.list 2 (.agg (.cons (.int .i64) (.cons (.int .i64) .nil)))) .nil)))) (.cons (.list 5 (.agg (.cons (.int .i64) (.cons (.int .i64) (.cons (.int .i64) (.cons (.int .i64) (.cons .bool .nil))))))) .nil))) .nil),(.bi (.cons (.list 1 (.int .i64)) (.cons (.int .i64) .nil))),kN (α:=(List ((List UInt8) × (List (Int × Int)))) × (List (Int × Int × Int × Int × Bool))) (β:=(List Int) × Int) [(Qm,Jj),(Qn,Jk)]⟩
theorem Nf:aM b8 25 U2:=fun x y h=>by
 rcases qF (α:=(List ((List UInt8) × (List (Int × Int)))) × (List (Int × Int × Int × Int × Bool))) (β:=(List Int) × Int) h with ⟨e1,e2⟩ | ⟨e1,e2⟩
 ·subst e1; subst e2; exact Tr
 ·subst e1; subst e2; exact Ts
def Qo:((List ((List UInt8) × (List (Int × Int)))) × (List (Int × Int × Int × Int × Bool))) × (Int × List Int):=(([([80],[(10,0),(20,5),(10,0),(20,-5)]),([81],[(10,0),(20,5),(10,0),(20,-5)])],[(0,1,1,3,false),(0,3,1,1,true)]),(0,[0,1]))
def Jl:Int:=0
def Kz (y:Int):Bool:=decide (y=Jl)
theorem G3 {y:Int} (h:Kz y=true):y=Jl:=of_decide_eq_true h
theorem Tt:bg b8 27 (aD.enc (.cons (.agg (.cons (.list 2 (.agg (.cons .str (.cons (.list 2 (.agg (.cons (.int .i64) (.cons (.int .i64) .nil)))) .nil)))) (.cons (.list 5 (.agg (.cons (.int .i64) (.cons (.int .i64) (.cons (.int .i64) (.cons (.int .i64) (.cons .bool .nil))))))) .nil))) (.cons (.agg (.cons (.int .i64) (.cons (.list 1 (.int .i64)) .nil))) .nil)) Qo) (fun r=>r=ah.enc (.int .i64) Jl):=
 bg.mono (bY (C:=EE) (n:=100000) (p:=(.int .i64)) (ok:=Kz) (bR fw) (by kernel_rfl) (by kernel_rfl) (by kernel_rfl)) fun r ⟨y,h1,h2⟩=>by rw [h1,G3 h2]
noncomputable def U3:bV:=⟨(.cons (.agg (.cons (.list 2 (.agg (.cons .str (.cons (.list 2 (.agg (.cons (.int .i64) (.cons (.int .i64) .nil)))) .nil)))) (.cons (.list 5 (.agg (.cons (.int .i64) (.cons (.int .i64) (.cons (.int .i64) (.cons (.int .i64) (.cons .bool .nil))))))) .nil))) (.cons (.agg (.cons (.int .i64) (.cons (.list 1 (.int .i64)) .nil))) .nil)),(.int .i64),kN (α:=((List ((List UInt8) × (List (Int × Int)))) × (List (Int × Int × Int × Int × Bool))) × (Int × List Int)) (β:=Int) [(Qo,Jl)]⟩
theorem Ng:aM b8 27 U3:=fun x y h=>by
 obtain ⟨e1,e2⟩:=lI (α:=((List ((List UInt8) × (List (Int × Int)))) × (List (Int × Int × Int × Int × Bool))) × (Int × List Int)) (β:=Int) h
 subst e1; subst e2
 exact Tt
def Qp:((List ((List UInt8) × (List (Int × Int)))) × (List (Int × Int × Int × Int × Bool))) × List (Int × Int × Bool):=(([([80],[(10,0),(20,5),(10,0),(20,-5)]),([81],[(10,0),(20,5),(10,0),(20,-5)])],[(0,1,1,3,false),(0,3,1,1,true)]),[(1,0,false),(0,2,true),(0,1,true)])
def Jm:Int:=0
def KA (y:Int):Bool:=decide (y=Jm)
theorem G4 {y:Int} (h:KA y=true):y=Jm:=of_decide_eq_true h
theorem Tu:bg b8 49 (aD.enc (.cons (.agg (.cons (.list 2 (.agg (.cons .str (.cons (.list 2 (.agg (.cons (.int .i64) (.cons (.int .i64) .nil)))) .nil)))) (.cons (.list 5 (.agg (.cons (.int .i64) (.cons (.int .i64) (.cons (.int .i64) (.cons (.int .i64) (.cons .bool .nil))))))) .nil))) (.cons (.list 3 (.agg (.cons (.int .i64) (.cons (.int .i64) (.cons .bool .nil))))) .nil)) Qp) (fun r=>r=ah.enc (.int .i64) Jm):=
 bg.mono (bY (C:=EE) (n:=100000) (p:=(.int .i64)) (ok:=KA) (bR fw) (by kernel_rfl) (by kernel_rfl) (by kernel_rfl)) fun r ⟨y,h1,h2⟩=>by rw [h1,G4 h2]
noncomputable def U4:bV:=⟨(.cons (.agg (.cons (.list 2 (.agg (.cons .str (.cons (.list 2 (.agg (.cons (.int .i64) (.cons (.int .i64) .nil)))) .nil)))) (.cons (.list 5 (.agg (.cons (.int .i64) (.cons (.int .i64) (.cons (.int .i64) (.cons (.int .i64) (.cons .bool .nil))))))) .nil))) (.cons (.list 3 (.agg (.cons (.int .i64) (.cons (.int .i64) (.cons .bool .nil))))) .nil)),(.int .i64),kN (α:=((List ((List UInt8) × (List (Int × Int)))) × (List (Int × Int × Int × Int × Bool))) × List (Int × Int × Bool)) (β:=Int) [(Qp,Jm)]⟩
theorem Nh:aM b8 49 U4:=fun x y h=>by
 obtain ⟨e1,e2⟩:=lI (α:=((List ((List UInt8) × (List (Int × Int)))) × (List (Int × Int × Int × Int × Bool))) × List (Int × Int × Bool)) (β:=Int) h
 subst e1; subst e2
 exact Tu
def Qq:(List ((List UInt8) × (List (Int × Int)))) × (List (Int × Int × Int × Int × Bool)):=([([80],[(10,0),(20,5),(10,0),(20,-5)]),([81],[(10,0),(20,5),(10,0),(20,-5)])],[(0,1,1,3,false),(0,3,1,1,false)])
def Jn:(List (List Int)) × Int:=([[0,0,5,5],[0,0,5,5]],0)
def KB (y:(List (List Int)) × Int):Bool:=decide (y=Jn)
theorem G5 {y:(List (List Int)) × Int} (h:KB y=true):y=Jn:=of_decide_eq_true h
theorem Tv:bg b8 41 (aD.enc (.cons (.agg (.cons (.list 2 (.agg (.cons .str (.cons (.list 2 (.agg (.cons (.int .i64) (.cons (.int .i64) .nil)))) .nil)))) (.cons (.list 5 (.agg (.cons (.int .i64) (.cons (.int .i64) (.cons (.int .i64) (.cons (.int .i64) (.cons .bool .nil))))))) .nil))) .nil) Qq) (fun r=>r=ah.enc (.bi (.cons (.list 1 (.list 1 (.int .i64))) (.cons (.int .i64) .nil))) Jn):=
 bg.mono (bY (C:=EE) (n:=100000) (p:=(.bi (.cons (.list 1 (.list 1 (.int .i64))) (.cons (.int .i64) .nil)))) (ok:=KB) (bR fw) (by kernel_rfl) (by kernel_rfl) (by kernel_rfl)) fun r ⟨y,h1,h2⟩=>by rw [h1,G5 h2]
def Qr:(List ((List UInt8) × (List (Int × Int)))) × (List (Int × Int × Int × Int × Bool)):=([([80],[(10,0),(20,5),(10,0),(20,-5)]),([81],[(10,0),(20,5),(10,0),(20,-5)])],[(0,1,1,3,false),(0,3,1,1,true)])
def Jo:(List (List Int)) × Int:=([],29)
def KC (y:(List (List Int)) × Int):Bool:=decide (y=Jo)
theorem G6 {y:(List (List Int)) × Int} (h:KC y=true):y=Jo:=of_decide_eq_true h
theorem Tw:bg b8 41 (aD.enc (.cons (.agg (.cons (.list 2 (.agg (.cons .str (.cons (.list 2 (.agg (.cons (.int .i64) (.cons (.int .i64) .nil)))) .nil)))) (.cons (.list 5 (.agg (.cons (.int .i64) (.cons (.int .i64) (.cons (.int .i64) (.cons (.int .i64) (.cons .bool .nil))))))) .nil))) .nil) Qr) (fun r=>r=ah.enc (.bi (.cons (.list 1 (.list 1 (.int .i64))) (.cons (.int .i64) .nil))) Jo):=
 bg.mono (bY (C:=EE) (n:=100000) (p:=(.bi (.cons (.list 1 (.list 1 (.int .i64))) (.cons (.int .i64) .nil)))) (ok:=KC) (bR fw) (by kernel_rfl) (by kernel_rfl) (by kernel_rfl)) fun r ⟨y,h1,h2⟩=>by rw [h1,G6 h2]
noncomputable def U5:bV:=⟨(.cons (.agg (.cons (.list 2 (.agg (.cons .str (.cons (.list 2 (.agg (.cons (.int .i64) (.cons (.int .i64) .nil)))) .nil)))) (.cons (.list 5 (.agg (.cons (.int .i64) (.cons (.int .i64) (.cons (.int .i64) (.cons (.int .i64) (.cons .bool .nil))))))) .nil))) .nil),(.bi (.cons (.list 1 (.list 1 (.int .i64))) (.cons (.int .i64) .nil))),kN (α:=(List ((List UInt8) × (List (Int × Int)))) × (List (Int × Int × Int × Int × Bool))) (β:=(List (List Int)) × Int) [(Qq,Jn),(Qr,Jo)]⟩
theorem Ni:aM b8 41 U5:=fun x y h=>by
 rcases qF (α:=(List ((List UInt8) × (List (Int × Int)))) × (List (Int × Int × Int × Int × Bool))) (β:=(List (List Int)) × Int) h with ⟨e1,e2⟩ | ⟨e1,e2⟩
 ·subst e1; subst e2; exact Tv
 ·subst e1; subst e2; exact Tw
end Go.Proofs.Ytegoimldbgdeiaa
namespace Go.Proofs.Ytegoimldbgdeiaa
open Go Go.Am
set_option maxRecDepth 1000000
noncomputable def Qs:List (Nat × bV):=Jb++[(46,UX),(20,UY),(19,UZ),(22,U0),(21,U1),(25,U2),(27,U3),(49,U4),(41,U5)]
theorem Jp:∀ a e,(a,e)∈Qs→aM b8 a e:=fun a e h=>by
 rcases List.mem_append.1 h with h | h
 ·exact fw a e h
 ·simp only [List.mem_cons,Prod.mk.injEq,List.not_mem_nil,or_false] at h
  rcases h with ⟨rfl,rfl⟩ | ⟨rfl,rfl⟩ | ⟨rfl,rfl⟩ | ⟨rfl,rfl⟩ | ⟨rfl,rfl⟩ | ⟨rfl,rfl⟩ | ⟨rfl,rfl⟩ | ⟨rfl,rfl⟩ | ⟨rfl,rfl⟩
  ·exact M9
  ·exact Na
  ·exact Nb
  ·exact Nc
  ·exact Nd
  ·exact Nf
  ·exact Ng
  ·exact Nh
  ·exact Ni
noncomputable def Xl:kz:={ D:=Gk,F4:=Eo Qs,B0:=fun _ _=>none,fz:=true,N:=0,xt:=UW,gt:=UU }
theorem Ax:bg b8 10 [] (fun r=>∃ y:Bool,r=ah.enc .bool y∧y=true):=
 bY (C:=Xl) (n:=100000) (p:=.bool) (ok:=fun (y:Bool)=>y) (bR Jp) (by kernel_rfl) (by kernel_rfl) (by kernel_rfl)
end Go.Proofs.Ytegoimldbgdeiaa
namespace Go.Proofs.Ytegoimldbgdeiaa
open Go Go.Am
def Om (_N:Nat):Unit→Option Bool:=fun _=>some true
def Tx (N:Nat):bV:=⟨.nil,.bool,Om N⟩
theorem Nj (N:Nat):aM b8 10 (Tx N):=fun x y h=>by
 cases h
 exact bg.mono Ax fun r ⟨y,h1,h2⟩=>by rw [h1,h2]; rfl
end Go.Proofs.Ytegoimldbgdeiaa
