/- The chapter's examples,call by call. -/
import Derived.Test.YtegoimldbgdeiaaSeamKB
import Derived.Test.YtegoimldbgdeiaaTrwG
set_option linter.all false
namespace Go.Proofs.Ytegoimldbgdeiaa
open Go Go.Am
set_option maxRecDepth 1000000
theorem Ks:hZ 18446744073709551616:=Nat.le_refl _
noncomputable def Jg:List (Nat × bS):=[(60,Dl),(58,Cf 18446744073709551616)]
theorem fy:∀ a e,(a,e)∈Jg→aO cj a e:=fun a e h=>by
 simp only [Jg,List.mem_cons,Prod.mk.injEq,List.not_mem_nil,or_false] at h
 rcases h with ⟨rfl,rfl⟩ | ⟨rfl,rfl⟩
 ·exact Cr Ks
 ·exact Ex Ks
noncomputable def UQ:(g:FuncId)→Option (va cj g)
 | 79=>some (Jd 18446744073709551616 (Nat.le_refl _))
 | _=>none
noncomputable def Ey:kZ:={ D:=Gj,F3:=Ek Jg,B5:=fun _ _=>none,fz:=true,N:=0,xt:=UQ,gt:=UP }
instance decI5:DecidableEq (Int × Int × Int × Int × Bool):=inferInstance
instance decPn:DecidableEq ((List UInt8) × (List (Int × Int))):=inferInstance
instance decLP:DecidableEq (List ((List UInt8) × (List (Int × Int)))):=inferInstance
instance decLS:DecidableEq (List (Int × Int × Int × Int × Bool)):=inferInstance
instance decT:DecidableEq ((List ((List UInt8) × (List (Int × Int)))) × (List (Int × Int × Int × Int × Bool))):=inferInstance
instance decTW:DecidableEq (((List ((List UInt8) × (List (Int × Int)))) × (List (Int × Int × Int × Int × Bool))) × (Int × List Int)):=inferInstance
instance decTS:DecidableEq (((List ((List UInt8) × (List (Int × Int)))) × (List (Int × Int × Int × Int × Bool))) × List (Int × Int × Bool)):=inferInstance
instance decI4:DecidableEq (Int × Int × Int × Int):=inferInstance
instance decI6:DecidableEq (Int × Int × Int × Int × Int × Int):=inferInstance
instance decC6:DecidableEq ((Int × Int × Int × Int × Int × Int) × Int):=inferInstance
instance decLLE:DecidableEq ((List (List (Int × Int))) × Int):=inferInstance
def kP {α β:Type} [DecidableEq α]:List (α × β)→α→Option β
 | [],_=>none
 | (a,b) :: l,x=>bif decide (x=a) then some b else kP l x
theorem lJ {α β:Type} [DecidableEq α] {a x:α} {b y:β} (h:kP [(a,b)] x=some y):x=a∧y=b:=by
 unfold kP at h
 cases hd:decide (x=a) with
 | true=>rw [hd] at h; exact ⟨of_decide_eq_true hd,(Option.some.inj h).symm⟩
 | false=>rw [hd] at h; cases h
theorem qF {α β:Type} [DecidableEq α] {a a' x:α} {b b' y:β} (h:kP [(a,b),(a',b')] x=some y):(x=a∧y=b)∨(x=a'∧y=b'):=by
 unfold kP at h
 cases hd:decide (x=a) with
 | true=>rw [hd] at h; exact .inl ⟨of_decide_eq_true hd,(Option.some.inj h).symm⟩
 | false=>rw [hd] at h; exact .inr (lJ h)
def P8:(List ((List UInt8) × (List (Int × Int)))) × (List (Int × Int × Int × Int × Bool)):=([([80],[(10,0),(20,5),(10,0),(20,-5)]),([81],[(10,0),(20,5),(10,0),(20,-5)])],[(0,1,1,3,false),(0,3,1,1,false)])
def Jh:(List (List Int)) × Int:=([[0,1,2,3],[1,0,3,2]],0)
def Kt (y:(List (List Int)) × Int):Bool:=decide (y=Jh)
theorem GQ {y:(List (List Int)) × Int} (h:Kt y=true):y=Jh:=of_decide_eq_true h
theorem Tk:bg cj 46 (aC.enc (.cons (.agg (.cons (.list 2 (.agg (.cons .str (.cons (.list 2 (.agg (.cons (.int .i64) (.cons (.int .i64) .nil)))) .nil)))) (.cons (.list 5 (.agg (.cons (.int .i64) (.cons (.int .i64) (.cons (.int .i64) (.cons (.int .i64) (.cons .bool .nil))))))) .nil))) .nil) P8) (fun r=>r=ah.enc (.bk (.cons (.list 1 (.list 1 (.int .i64))) (.cons (.int .i64) .nil))) Jh):=
 bg.mono (bX (C:=Ey) (n:=100000) (p:=(.bk (.cons (.list 1 (.list 1 (.int .i64))) (.cons (.int .i64) .nil)))) (ok:=Kt) (bV fy) (by kernel_rfl) (by kernel_rfl) (by kernel_rfl)) fun r ⟨y,h1,h2⟩=>by rw [h1,GQ h2]
noncomputable def UR:bS:=⟨(.cons (.agg (.cons (.list 2 (.agg (.cons .str (.cons (.list 2 (.agg (.cons (.int .i64) (.cons (.int .i64) .nil)))) .nil)))) (.cons (.list 5 (.agg (.cons (.int .i64) (.cons (.int .i64) (.cons (.int .i64) (.cons (.int .i64) (.cons .bool .nil))))))) .nil))) .nil),(.bk (.cons (.list 1 (.list 1 (.int .i64))) (.cons (.int .i64) .nil))),kP (α:=(List ((List UInt8) × (List (Int × Int)))) × (List (Int × Int × Int × Int × Bool))) (β:=(List (List Int)) × Int) [(P8,Jh)]⟩
theorem M9:aO cj 46 UR:=fun x y h=>by
 obtain ⟨e1,e2⟩:=lJ (α:=(List ((List UInt8) × (List (Int × Int)))) × (List (Int × Int × Int × Int × Bool))) (β:=(List (List Int)) × Int) h
 subst e1; subst e2
 exact Tk
def P9:(List ((List UInt8) × (List (Int × Int)))) × (List (Int × Int × Int × Int × Bool)):=([([80],[(10,0),(20,5),(10,0),(20,-5)]),([81],[(10,0),(20,5),(10,0),(20,-5)])],[(0,1,1,3,false),(0,3,1,1,false)])
def Ji:(Int × Int × Int × Int × Int × Int) × Int:=((4,6,2,1,2,0),0)
def Ku (y:(Int × Int × Int × Int × Int × Int) × Int):Bool:=decide (y=Ji)
theorem GR {y:(Int × Int × Int × Int × Int × Int) × Int} (h:Ku y=true):y=Ji:=of_decide_eq_true h
theorem Tl:bg cj 20 (aC.enc (.cons (.agg (.cons (.list 2 (.agg (.cons .str (.cons (.list 2 (.agg (.cons (.int .i64) (.cons (.int .i64) .nil)))) .nil)))) (.cons (.list 5 (.agg (.cons (.int .i64) (.cons (.int .i64) (.cons (.int .i64) (.cons (.int .i64) (.cons .bool .nil))))))) .nil))) .nil) P9) (fun r=>r=ah.enc (.bk (.cons (.agg (.cons (.int .i64) (.cons (.int .i64) (.cons (.int .i64) (.cons (.int .i64) (.cons (.int .i64) (.cons (.int .i64) .nil))))))) (.cons (.int .i64) .nil))) Ji):=
 bg.mono (bX (C:=Ey) (n:=100000) (p:=(.bk (.cons (.agg (.cons (.int .i64) (.cons (.int .i64) (.cons (.int .i64) (.cons (.int .i64) (.cons (.int .i64) (.cons (.int .i64) .nil))))))) (.cons (.int .i64) .nil)))) (ok:=Ku) (bV fy) (by kernel_rfl) (by kernel_rfl) (by kernel_rfl)) fun r ⟨y,h1,h2⟩=>by rw [h1,GR h2]
noncomputable def US:bS:=⟨(.cons (.agg (.cons (.list 2 (.agg (.cons .str (.cons (.list 2 (.agg (.cons (.int .i64) (.cons (.int .i64) .nil)))) .nil)))) (.cons (.list 5 (.agg (.cons (.int .i64) (.cons (.int .i64) (.cons (.int .i64) (.cons (.int .i64) (.cons .bool .nil))))))) .nil))) .nil),(.bk (.cons (.agg (.cons (.int .i64) (.cons (.int .i64) (.cons (.int .i64) (.cons (.int .i64) (.cons (.int .i64) (.cons (.int .i64) .nil))))))) (.cons (.int .i64) .nil))),kP (α:=(List ((List UInt8) × (List (Int × Int)))) × (List (Int × Int × Int × Int × Bool))) (β:=(Int × Int × Int × Int × Int × Int) × Int) [(P9,Ji)]⟩
theorem Na:aO cj 20 US:=fun x y h=>by
 obtain ⟨e1,e2⟩:=lJ (α:=(List ((List UInt8) × (List (Int × Int)))) × (List (Int × Int × Int × Int × Bool))) (β:=(Int × Int × Int × Int × Int × Int) × Int) h
 subst e1; subst e2
 exact Tl
def Qa:(List ((List UInt8) × (List (Int × Int)))) × (List (Int × Int × Int × Int × Bool)):=([([80],[(10,0),(20,5),(10,0),(20,-5)]),([81],[(10,0),(20,5),(10,0),(20,-5)])],[(0,1,1,3,false),(0,3,1,1,false)])
def Jj:(List (List (Int × Int))) × Int:=([[(0,0),(1,0)],[(0,2),(1,2)]],0)
def Kv (y:(List (List (Int × Int))) × Int):Bool:=decide (y=Jj)
theorem GS {y:(List (List (Int × Int))) × Int} (h:Kv y=true):y=Jj:=of_decide_eq_true h
theorem Tm:bg cj 19 (aC.enc (.cons (.agg (.cons (.list 2 (.agg (.cons .str (.cons (.list 2 (.agg (.cons (.int .i64) (.cons (.int .i64) .nil)))) .nil)))) (.cons (.list 5 (.agg (.cons (.int .i64) (.cons (.int .i64) (.cons (.int .i64) (.cons (.int .i64) (.cons .bool .nil))))))) .nil))) .nil) Qa) (fun r=>r=ah.enc (.bk (.cons (.list 1 (.list 2 (.agg (.cons (.int .i64) (.cons (.int .i64) .nil))))) (.cons (.int .i64) .nil))) Jj):=
 bg.mono (bX (C:=Ey) (n:=100000) (p:=(.bk (.cons (.list 1 (.list 2 (.agg (.cons (.int .i64) (.cons (.int .i64) .nil))))) (.cons (.int .i64) .nil)))) (ok:=Kv) (bV fy) (by kernel_rfl) (by kernel_rfl) (by kernel_rfl)) fun r ⟨y,h1,h2⟩=>by rw [h1,GS h2]
def Qb:(List ((List UInt8) × (List (Int × Int)))) × (List (Int × Int × Int × Int × Bool)):=([([80],[(10,0),(20,5),(10,0),(20,-5)]),([81],[(10,0),(20,5),(10,0),(20,-5)])],[(0,1,1,3,false),(0,3,1,1,true)])
def Jk:(List (List (Int × Int))) × Int:=([[(0,0),(1,0),(0,2),(1,2)]],0)
def Kw (y:(List (List (Int × Int))) × Int):Bool:=decide (y=Jk)
theorem GU {y:(List (List (Int × Int))) × Int} (h:Kw y=true):y=Jk:=of_decide_eq_true h
theorem Tn:bg cj 19 (aC.enc (.cons (.agg (.cons (.list 2 (.agg (.cons .str (.cons (.list 2 (.agg (.cons (.int .i64) (.cons (.int .i64) .nil)))) .nil)))) (.cons (.list 5 (.agg (.cons (.int .i64) (.cons (.int .i64) (.cons (.int .i64) (.cons (.int .i64) (.cons .bool .nil))))))) .nil))) .nil) Qb) (fun r=>r=ah.enc (.bk (.cons (.list 1 (.list 2 (.agg (.cons (.int .i64) (.cons (.int .i64) .nil))))) (.cons (.int .i64) .nil))) Jk):=
 bg.mono (bX (C:=Ey) (n:=100000) (p:=(.bk (.cons (.list 1 (.list 2 (.agg (.cons (.int .i64) (.cons (.int .i64) .nil))))) (.cons (.int .i64) .nil)))) (ok:=Kw) (bV fy) (by kernel_rfl) (by kernel_rfl) (by kernel_rfl)) fun r ⟨y,h1,h2⟩=>by rw [h1,GU h2]
noncomputable def UT:bS:=⟨(.cons (.agg (.cons (.list 2 (.agg (.cons .str (.cons (.list 2 (.agg (.cons (.int .i64) (.cons (.int .i64) .nil)))) .nil)))) (.cons (.list 5 (.agg (.cons (.int .i64) (.cons (.int .i64) (.cons (.int .i64) (.cons (.int .i64) (.cons .bool .nil))))))) .nil))) .nil),(.bk (.cons (.list 1 (.list 2 (.agg (.cons (.int .i64) (.cons (.int .i64) .nil))))) (.cons (.int .i64) .nil))),kP (α:=(List ((List UInt8) × (List (Int × Int)))) × (List (Int × Int × Int × Int × Bool))) (β:=(List (List (Int × Int))) × Int) [(Qa,Jj),(Qb,Jk)]⟩
theorem Nb:aO cj 19 UT:=fun x y h=>by
 rcases qF (α:=(List ((List UInt8) × (List (Int × Int)))) × (List (Int × Int × Int × Int × Bool))) (β:=(List (List (Int × Int))) × Int) h with ⟨e1,e2⟩ | ⟨e1,e2⟩
 ·subst e1; subst e2; exact Tm
 ·subst e1; subst e2; exact Tn
def Qd:(List ((List UInt8) × (List (Int × Int)))) × (List (Int × Int × Int × Int × Bool)):=([([80],[(10,0),(20,5),(10,0),(20,-5)]),([81],[(10,0),(20,5),(10,0),(20,-5)])],[(0,1,1,3,false),(0,3,1,1,false)])
def Jl:(List (Int × Int)) × Int × Int:=([(0,0),(1,0)],20,0)
def Kx (y:(List (Int × Int)) × Int × Int):Bool:=decide (y=Jl)
theorem GV {y:(List (Int × Int)) × Int × Int} (h:Kx y=true):y=Jl:=of_decide_eq_true h
theorem To:bg cj 22 (aC.enc (.cons (.agg (.cons (.list 2 (.agg (.cons .str (.cons (.list 2 (.agg (.cons (.int .i64) (.cons (.int .i64) .nil)))) .nil)))) (.cons (.list 5 (.agg (.cons (.int .i64) (.cons (.int .i64) (.cons (.int .i64) (.cons (.int .i64) (.cons .bool .nil))))))) .nil))) .nil) Qd) (fun r=>r=ah.enc (.bk (.cons (.list 2 (.agg (.cons (.int .i64) (.cons (.int .i64) .nil)))) (.cons (.int .i64) (.cons (.int .i64) .nil)))) Jl):=
 bg.mono (bX (C:=Ey) (n:=100000) (p:=(.bk (.cons (.list 2 (.agg (.cons (.int .i64) (.cons (.int .i64) .nil)))) (.cons (.int .i64) (.cons (.int .i64) .nil))))) (ok:=Kx) (bV fy) (by kernel_rfl) (by kernel_rfl) (by kernel_rfl)) fun r ⟨y,h1,h2⟩=>by rw [h1,GV h2]
noncomputable def UU:bS:=⟨(.cons (.agg (.cons (.list 2 (.agg (.cons .str (.cons (.list 2 (.agg (.cons (.int .i64) (.cons (.int .i64) .nil)))) .nil)))) (.cons (.list 5 (.agg (.cons (.int .i64) (.cons (.int .i64) (.cons (.int .i64) (.cons (.int .i64) (.cons .bool .nil))))))) .nil))) .nil),(.bk (.cons (.list 2 (.agg (.cons (.int .i64) (.cons (.int .i64) .nil)))) (.cons (.int .i64) (.cons (.int .i64) .nil)))),kP (α:=(List ((List UInt8) × (List (Int × Int)))) × (List (Int × Int × Int × Int × Bool))) (β:=(List (Int × Int)) × Int × Int) [(Qd,Jl)]⟩
theorem Nc:aO cj 22 UU:=fun x y h=>by
 obtain ⟨e1,e2⟩:=lJ (α:=(List ((List UInt8) × (List (Int × Int)))) × (List (Int × Int × Int × Int × Bool))) (β:=(List (Int × Int)) × Int × Int) h
 subst e1; subst e2
 exact To
end Go.Proofs.Ytegoimldbgdeiaa
namespace Go.Proofs.Ytegoimldbgdeiaa
open Go Go.Am
set_option maxRecDepth 1000000
def Qe:(List ((List UInt8) × (List (Int × Int)))) × (List (Int × Int × Int × Int × Bool)):=([([80],[(10,0),(20,5),(10,0),(20,-5)]),([81],[(10,0),(20,5),(10,0),(20,-5)])],[(0,1,1,3,false),(0,3,1,1,false)])
def Jm:(List (Bool × Int × Int)) × Int:=([(true,0,2)],0)
def Ky (y:(List (Bool × Int × Int)) × Int):Bool:=decide (y=Jm)
theorem GW {y:(List (Bool × Int × Int)) × Int} (h:Ky y=true):y=Jm:=of_decide_eq_true h
theorem Tp:bg cj 21 (aC.enc (.cons (.agg (.cons (.list 2 (.agg (.cons .str (.cons (.list 2 (.agg (.cons (.int .i64) (.cons (.int .i64) .nil)))) .nil)))) (.cons (.list 5 (.agg (.cons (.int .i64) (.cons (.int .i64) (.cons (.int .i64) (.cons (.int .i64) (.cons .bool .nil))))))) .nil))) .nil) Qe) (fun r=>r=ah.enc (.bk (.cons (.list 3 (.agg (.cons .bool (.cons (.int .i64) (.cons (.int .i64) .nil))))) (.cons (.int .i64) .nil))) Jm):=
 bg.mono (bX (C:=Ey) (n:=100000) (p:=(.bk (.cons (.list 3 (.agg (.cons .bool (.cons (.int .i64) (.cons (.int .i64) .nil))))) (.cons (.int .i64) .nil)))) (ok:=Ky) (bV fy) (by kernel_rfl) (by kernel_rfl) (by kernel_rfl)) fun r ⟨y,h1,h2⟩=>by rw [h1,GW h2]
def Qf:(List ((List UInt8) × (List (Int × Int)))) × (List (Int × Int × Int × Int × Bool)):=([([80],[(10,0),(20,5),(10,0),(20,-5)]),([81],[(10,0),(20,5),(10,0),(20,-5)])],[(0,1,1,3,false),(0,3,1,1,true)])
def Jn:(List (Bool × Int × Int)) × Int:=([(false,1,1)],0)
def Kz (y:(List (Bool × Int × Int)) × Int):Bool:=decide (y=Jn)
theorem GX {y:(List (Bool × Int × Int)) × Int} (h:Kz y=true):y=Jn:=of_decide_eq_true h
theorem Tq:bg cj 21 (aC.enc (.cons (.agg (.cons (.list 2 (.agg (.cons .str (.cons (.list 2 (.agg (.cons (.int .i64) (.cons (.int .i64) .nil)))) .nil)))) (.cons (.list 5 (.agg (.cons (.int .i64) (.cons (.int .i64) (.cons (.int .i64) (.cons (.int .i64) (.cons .bool .nil))))))) .nil))) .nil) Qf) (fun r=>r=ah.enc (.bk (.cons (.list 3 (.agg (.cons .bool (.cons (.int .i64) (.cons (.int .i64) .nil))))) (.cons (.int .i64) .nil))) Jn):=
 bg.mono (bX (C:=Ey) (n:=100000) (p:=(.bk (.cons (.list 3 (.agg (.cons .bool (.cons (.int .i64) (.cons (.int .i64) .nil))))) (.cons (.int .i64) .nil)))) (ok:=Kz) (bV fy) (by kernel_rfl) (by kernel_rfl) (by kernel_rfl)) fun r ⟨y,h1,h2⟩=>by rw [h1,GX h2]
noncomputable def UW:bS:=⟨(.cons (.agg (.cons (.list 2 (.agg (.cons .str (.cons (.list 2 (.agg (.cons (.int .i64) (.cons (.int .i64) .nil)))) .nil)))) (.cons (.list 5 (.agg (.cons (.int .i64) (.cons (.int .i64) (.cons (.int .i64) (.cons (.int .i64) (.cons .bool .nil))))))) .nil))) .nil),(.bk (.cons (.list 3 (.agg (.cons .bool (.cons (.int .i64) (.cons (.int .i64) .nil))))) (.cons (.int .i64) .nil))),kP (α:=(List ((List UInt8) × (List (Int × Int)))) × (List (Int × Int × Int × Int × Bool))) (β:=(List (Bool × Int × Int)) × Int) [(Qe,Jm),(Qf,Jn)]⟩
theorem Nd:aO cj 21 UW:=fun x y h=>by
 rcases qF (α:=(List ((List UInt8) × (List (Int × Int)))) × (List (Int × Int × Int × Int × Bool))) (β:=(List (Bool × Int × Int)) × Int) h with ⟨e1,e2⟩ | ⟨e1,e2⟩
 ·subst e1; subst e2; exact Tp
 ·subst e1; subst e2; exact Tq
def Qg:(List ((List UInt8) × (List (Int × Int)))) × (List (Int × Int × Int × Int × Bool)):=([([80],[(10,0),(20,5),(10,0),(20,-5)]),([81],[(10,0),(20,5),(10,0),(20,-5)])],[(0,1,1,3,false),(0,3,1,1,false)])
def Jo:(List Int) × Int:=([1,1],0)
def KA (y:(List Int) × Int):Bool:=decide (y=Jo)
theorem GY {y:(List Int) × Int} (h:KA y=true):y=Jo:=of_decide_eq_true h
theorem Tr:bg cj 25 (aC.enc (.cons (.agg (.cons (.list 2 (.agg (.cons .str (.cons (.list 2 (.agg (.cons (.int .i64) (.cons (.int .i64) .nil)))) .nil)))) (.cons (.list 5 (.agg (.cons (.int .i64) (.cons (.int .i64) (.cons (.int .i64) (.cons (.int .i64) (.cons .bool .nil))))))) .nil))) .nil) Qg) (fun r=>r=ah.enc (.bk (.cons (.list 1 (.int .i64)) (.cons (.int .i64) .nil))) Jo):=
 bg.mono (bX (C:=Ey) (n:=100000) (p:=(.bk (.cons (.list 1 (.int .i64)) (.cons (.int .i64) .nil)))) (ok:=KA) (bV fy) (by kernel_rfl) (by kernel_rfl) (by kernel_rfl)) fun r ⟨y,h1,h2⟩=>by rw [h1,GY h2]
def Qh:(List ((List UInt8) × (List (Int × Int)))) × (List (Int × Int × Int × Int × Bool)):=([([80],[(10,0),(20,5),(10,0),(20,-5)]),([81],[(10,0),(20,5),(10,0),(20,-5)])],[(0,1,1,3,false),(0,3,1,1,true)])
def Jp:(List Int) × Int:=([],29)
def KB (y:(List Int) × Int):Bool:=decide (y=Jp)
theorem GZ {y:(List Int) × Int} (h:KB y=true):y=Jp:=of_decide_eq_true h
theorem Ts:bg cj 25 (aC.enc (.cons (.agg (.cons (.list 2 (.agg (.cons .str (.cons (.list 2 (.agg (.cons (.int .i64) (.cons (.int .i64) .nil)))) .nil)))) (.cons (.list 5 (.agg (.cons (.int .i64) (.cons (.int .i64) (.cons (.int .i64) (.cons (.int .i64) (.cons .bool .nil))))))) .nil))) .nil) Qh) (fun r=>r=ah.enc (.bk (.cons (.list 1 (.int .i64)) (.cons (.int .i64) .nil))) Jp):=
 bg.mono (bX (C:=Ey) (n:=100000) (p:=(.bk (.cons (.list 1 (.int .i64)) (.cons (.int .i64) .nil)))) (ok:=KB) (bV fy) (by kernel_rfl) (by kernel_rfl) (by kernel_rfl)) fun r ⟨y,h1,h2⟩=>by rw [h1,GZ h2]
noncomputable def UX:bS:=⟨(.cons (.agg (.cons (.list 2 (.agg (.cons .str (.cons (.list 2 (.agg (.cons (.int .i64) (.cons (.int .i64) .nil)))) .nil)))) (.cons (.list 5 (.agg (.cons (.int .i64) (.cons (.int .i64) (.cons (.int .i64) (.cons (.int .i64) (.cons .bool .nil))))))) .nil))) .nil),(.bk (.cons (.list 1 (.int .i64)) (.cons (.int .i64) .nil))),kP (α:=(List ((List UInt8) × (List (Int × Int)))) × (List (Int × Int × Int × Int × Bool))) (β:=(List Int) × Int) [(Qg,Jo),(Qh,Jp)]⟩
theorem Nf:aO cj 25 UX:=fun x y h=>by
 rcases qF (α:=(List ((List UInt8) × (List (Int × Int)))) × (List (Int × Int × Int × Int × Bool))) (β:=(List Int) × Int) h with ⟨e1,e2⟩ | ⟨e1,e2⟩
 ·subst e1; subst e2; exact Tr
 ·subst e1; subst e2; exact Ts
def Qi:((List ((List UInt8) × (List (Int × Int)))) × (List (Int × Int × Int × Int × Bool))) × (Int × List Int):=(([([80],[(10,0),(20,5),(10,0),(20,-5)]),([81],[(10,0),(20,5),(10,0),(20,-5)])],[(0,1,1,3,false),(0,3,1,1,true)]),(0,[0,1]))
def Jq:Int:=0
def KC (y:Int):Bool:=decide (y=Jq)
theorem G3 {y:Int} (h:KC y=true):y=Jq:=of_decide_eq_true h
theorem Tt:bg cj 27 (aC.enc (.cons (.agg (.cons (.list 2 (.agg (.cons .str (.cons (.list 2 (.agg (.cons (.int .i64) (.cons (.int .i64) .nil)))) .nil)))) (.cons (.list 5 (.agg (.cons (.int .i64) (.cons (.int .i64) (.cons (.int .i64) (.cons (.int .i64) (.cons .bool .nil))))))) .nil))) (.cons (.agg (.cons (.int .i64) (.cons (.list 1 (.int .i64)) .nil))) .nil)) Qi) (fun r=>r=ah.enc (.int .i64) Jq):=
 bg.mono (bX (C:=Ey) (n:=100000) (p:=(.int .i64)) (ok:=KC) (bV fy) (by kernel_rfl) (by kernel_rfl) (by kernel_rfl)) fun r ⟨y,h1,h2⟩=>by rw [h1,G3 h2]
noncomputable def UY:bS:=⟨(.cons (.agg (.cons (.list 2 (.agg (.cons .str (.cons (.list 2 (.agg (.cons (.int .i64) (.cons (.int .i64) .nil)))) .nil)))) (.cons (.list 5 (.agg (.cons (.int .i64) (.cons (.int .i64) (.cons (.int .i64) (.cons (.int .i64) (.cons .bool .nil))))))) .nil))) (.cons (.agg (.cons (.int .i64) (.cons (.list 1 (.int .i64)) .nil))) .nil)),(.int .i64),kP (α:=((List ((List UInt8) × (List (Int × Int)))) × (List (Int × Int × Int × Int × Bool))) × (Int × List Int)) (β:=Int) [(Qi,Jq)]⟩
theorem Ng:aO cj 27 UY:=fun x y h=>by
 obtain ⟨e1,e2⟩:=lJ (α:=((List ((List UInt8) × (List (Int × Int)))) × (List (Int × Int × Int × Int × Bool))) × (Int × List Int)) (β:=Int) h
 subst e1; subst e2
 exact Tt
def Qj:((List ((List UInt8) × (List (Int × Int)))) × (List (Int × Int × Int × Int × Bool))) × List (Int × Int × Bool):=(([([80],[(10,0),(20,5),(10,0),(20,-5)]),([81],[(10,0),(20,5),(10,0),(20,-5)])],[(0,1,1,3,false),(0,3,1,1,true)]),[(1,0,false),(0,2,true),(0,1,true)])
def Jr:Int:=0
def KD (y:Int):Bool:=decide (y=Jr)
theorem G4 {y:Int} (h:KD y=true):y=Jr:=of_decide_eq_true h
theorem Tu:bg cj 49 (aC.enc (.cons (.agg (.cons (.list 2 (.agg (.cons .str (.cons (.list 2 (.agg (.cons (.int .i64) (.cons (.int .i64) .nil)))) .nil)))) (.cons (.list 5 (.agg (.cons (.int .i64) (.cons (.int .i64) (.cons (.int .i64) (.cons (.int .i64) (.cons .bool .nil))))))) .nil))) (.cons (.list 3 (.agg (.cons (.int .i64) (.cons (.int .i64) (.cons .bool .nil))))) .nil)) Qj) (fun r=>r=ah.enc (.int .i64) Jr):=
 bg.mono (bX (C:=Ey) (n:=100000) (p:=(.int .i64)) (ok:=KD) (bV fy) (by kernel_rfl) (by kernel_rfl) (by kernel_rfl)) fun r ⟨y,h1,h2⟩=>by rw [h1,G4 h2]
noncomputable def UZ:bS:=⟨(.cons (.agg (.cons (.list 2 (.agg (.cons .str (.cons (.list 2 (.agg (.cons (.int .i64) (.cons (.int .i64) .nil)))) .nil)))) (.cons (.list 5 (.agg (.cons (.int .i64) (.cons (.int .i64) (.cons (.int .i64) (.cons (.int .i64) (.cons .bool .nil))))))) .nil))) (.cons (.list 3 (.agg (.cons (.int .i64) (.cons (.int .i64) (.cons .bool .nil))))) .nil)),(.int .i64),kP (α:=((List ((List UInt8) × (List (Int × Int)))) × (List (Int × Int × Int × Int × Bool))) × List (Int × Int × Bool)) (β:=Int) [(Qj,Jr)]⟩
theorem Nh:aO cj 49 UZ:=fun x y h=>by
 obtain ⟨e1,e2⟩:=lJ (α:=((List ((List UInt8) × (List (Int × Int)))) × (List (Int × Int × Int × Int × Bool))) × List (Int × Int × Bool)) (β:=Int) h
 subst e1; subst e2
 exact Tu
def Qk:(List ((List UInt8) × (List (Int × Int)))) × (List (Int × Int × Int × Int × Bool)):=([([80],[(10,0),(20,5),(10,0),(20,-5)]),([81],[(10,0),(20,5),(10,0),(20,-5)])],[(0,1,1,3,false),(0,3,1,1,false)])
def Js:(List (List Int)) × Int:=([[0,0,5,5],[0,0,5,5]],0)
def KF (y:(List (List Int)) × Int):Bool:=decide (y=Js)
theorem G5 {y:(List (List Int)) × Int} (h:KF y=true):y=Js:=of_decide_eq_true h
theorem Tv:bg cj 41 (aC.enc (.cons (.agg (.cons (.list 2 (.agg (.cons .str (.cons (.list 2 (.agg (.cons (.int .i64) (.cons (.int .i64) .nil)))) .nil)))) (.cons (.list 5 (.agg (.cons (.int .i64) (.cons (.int .i64) (.cons (.int .i64) (.cons (.int .i64) (.cons .bool .nil))))))) .nil))) .nil) Qk) (fun r=>r=ah.enc (.bk (.cons (.list 1 (.list 1 (.int .i64))) (.cons (.int .i64) .nil))) Js):=
 bg.mono (bX (C:=Ey) (n:=100000) (p:=(.bk (.cons (.list 1 (.list 1 (.int .i64))) (.cons (.int .i64) .nil)))) (ok:=KF) (bV fy) (by kernel_rfl) (by kernel_rfl) (by kernel_rfl)) fun r ⟨y,h1,h2⟩=>by rw [h1,G5 h2]
def Ql:(List ((List UInt8) × (List (Int × Int)))) × (List (Int × Int × Int × Int × Bool)):=([([80],[(10,0),(20,5),(10,0),(20,-5)]),([81],[(10,0),(20,5),(10,0),(20,-5)])],[(0,1,1,3,false),(0,3,1,1,true)])
def Jt:(List (List Int)) × Int:=([],29)
def KG (y:(List (List Int)) × Int):Bool:=decide (y=Jt)
theorem G6 {y:(List (List Int)) × Int} (h:KG y=true):y=Jt:=of_decide_eq_true h
theorem Tw:bg cj 41 (aC.enc (.cons (.agg (.cons (.list 2 (.agg (.cons .str (.cons (.list 2 (.agg (.cons (.int .i64) (.cons (.int .i64) .nil)))) .nil)))) (.cons (.list 5 (.agg (.cons (.int .i64) (.cons (.int .i64) (.cons (.int .i64) (.cons (.int .i64) (.cons .bool .nil))))))) .nil))) .nil) Ql) (fun r=>r=ah.enc (.bk (.cons (.list 1 (.list 1 (.int .i64))) (.cons (.int .i64) .nil))) Jt):=
 bg.mono (bX (C:=Ey) (n:=100000) (p:=(.bk (.cons (.list 1 (.list 1 (.int .i64))) (.cons (.int .i64) .nil)))) (ok:=KG) (bV fy) (by kernel_rfl) (by kernel_rfl) (by kernel_rfl)) fun r ⟨y,h1,h2⟩=>by rw [h1,G6 h2]
noncomputable def U0:bS:=⟨(.cons (.agg (.cons (.list 2 (.agg (.cons .str (.cons (.list 2 (.agg (.cons (.int .i64) (.cons (.int .i64) .nil)))) .nil)))) (.cons (.list 5 (.agg (.cons (.int .i64) (.cons (.int .i64) (.cons (.int .i64) (.cons (.int .i64) (.cons .bool .nil))))))) .nil))) .nil),(.bk (.cons (.list 1 (.list 1 (.int .i64))) (.cons (.int .i64) .nil))),kP (α:=(List ((List UInt8) × (List (Int × Int)))) × (List (Int × Int × Int × Int × Bool))) (β:=(List (List Int)) × Int) [(Qk,Js),(Ql,Jt)]⟩
theorem Ni:aO cj 41 U0:=fun x y h=>by
 rcases qF (α:=(List ((List UInt8) × (List (Int × Int)))) × (List (Int × Int × Int × Int × Bool))) (β:=(List (List Int)) × Int) h with ⟨e1,e2⟩ | ⟨e1,e2⟩
 ·subst e1; subst e2; exact Tv
 ·subst e1; subst e2; exact Tw
end Go.Proofs.Ytegoimldbgdeiaa
namespace Go.Proofs.Ytegoimldbgdeiaa
open Go Go.Am
set_option maxRecDepth 1000000
noncomputable def Qm:List (Nat × bS):=Jg++[(46,UR),(20,US),(19,UT),(22,UU),(21,UW),(25,UX),(27,UY),(49,UZ),(41,U0)]
theorem Ju:∀ a e,(a,e)∈Qm→aO cj a e:=fun a e h=>by
 rcases List.mem_append.1 h with h | h
 ·exact fy a e h
 ·simp only [List.mem_cons,Prod.mk.injEq,List.not_mem_nil,or_false] at h
  rcases h with ⟨rfl,rfl⟩ | ⟨rfl,rfl⟩ | ⟨rfl,rfl⟩ | ⟨rfl,rfl⟩ | ⟨rfl,rfl⟩ | ⟨rfl,rfl⟩ | ⟨rfl,rfl⟩ | ⟨rfl,rfl⟩ | ⟨rfl,rfl⟩
  ·exact M9
  ·exact Na
  ·exact Nb
  ·exact Nc
  ·exact Nd
  ·exact Nf
  ·exact Ng
  ·exact Nh
  ·exact Ni
noncomputable def Xc:kZ:={ D:=Gj,F3:=Ek Qm,B5:=fun _ _=>none,fz:=true,N:=0,xt:=UQ,gt:=UP }
theorem AB:bg cj 10 [] (fun r=>∃ y:Bool,r=ah.enc .bool y∧y=true):=
 bX (C:=Xc) (n:=100000) (p:=.bool) (ok:=fun (y:Bool)=>y) (bV Ju) (by kernel_rfl) (by kernel_rfl) (by kernel_rfl)
end Go.Proofs.Ytegoimldbgdeiaa
namespace Go.Proofs.Ytegoimldbgdeiaa
open Go Go.Am
def Q6 (_N:Nat):Unit→Option Bool:=fun _=>some true
def Tx (N:Nat):bS:=⟨.nil,.bool,Q6 N⟩
theorem Nj (N:Nat):aO cj 10 (Tx N):=fun x y h=>by
 cases h
 exact bg.mono AB fun r ⟨y,h1,h2⟩=>by rw [h1,h2]; rfl
end Go.Proofs.Ytegoimldbgdeiaa
