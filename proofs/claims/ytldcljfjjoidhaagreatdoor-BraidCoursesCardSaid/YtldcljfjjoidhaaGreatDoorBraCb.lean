/- The chapter's examples,call by call: programs. -/
import Derived.Test.YtldcljfjjoidhaaGreatDoorBraCa
set_option linter.all false
namespace Go.Proofs.YtldcljfjjoidhaaGreatDoor
open Go Go.Am
set_option maxRecDepth 1000000
def N0:List (Int × Int × Int):=[(0,0,1),(2,0,-1),(2,0,1),(1,1,-1),(1,1,1),(3,1,-1)]
def HO:(List (Int × Int × Bool × Bool × Int)) × Int:=([(0,0,true,true,3),(3,1,false,true,3)],0)
def Jb (y:(List (Int × Int × Bool × Bool × Int)) × Int):Bool:=decide (y=HO)
theorem EA {y:(List (Int × Int × Bool × Bool × Int)) × Int} (h:Jb y=true):y=HO:=of_decide_eq_true h
theorem QR (m:Int):aN (dK m) 57 (aB.enc (.cons (.list 3 (.agg (.cons (.int .i64) (.cons (.int .i64) (.cons (.int .i64) .nil))))) .nil) N0) (fun r=>r=av.enc (.aR (.cons (.list 5 (.agg (.cons (.int .i64) (.cons (.int .i64) (.cons .bool (.cons .bool (.cons (.int .i64) .nil))))))) (.cons (.int .i64) .nil))) HO):=
 aN.mono (bX (C:=Ew m) (n:=100000) (p:=(.aR (.cons (.list 5 (.agg (.cons (.int .i64) (.cons (.int .i64) (.cons .bool (.cons .bool (.cons (.int .i64) .nil))))))) (.cons (.int .i64) .nil)))) (ok:=Jb) (bi (eO m)) (by kernel_rfl) (by kernel_rfl) (by kernel_rfl)) fun r ⟨y,h1,h2⟩=>by rw [h1,EA h2]
def N1:List (Int × Int × Int):=[(0,0,1),(2,0,-1),(2,0,1),(1,1,-1),(1,1,1)]
def HP:(List (Int × Int × Bool × Bool × Int)) × Int:=([(0,0,true,true,3),(0,2,true,false,2)],0)
def Jc (y:(List (Int × Int × Bool × Bool × Int)) × Int):Bool:=decide (y=HP)
theorem EB {y:(List (Int × Int × Bool × Bool × Int)) × Int} (h:Jc y=true):y=HP:=of_decide_eq_true h
theorem QS (m:Int):aN (dK m) 57 (aB.enc (.cons (.list 3 (.agg (.cons (.int .i64) (.cons (.int .i64) (.cons (.int .i64) .nil))))) .nil) N1) (fun r=>r=av.enc (.aR (.cons (.list 5 (.agg (.cons (.int .i64) (.cons (.int .i64) (.cons .bool (.cons .bool (.cons (.int .i64) .nil))))))) (.cons (.int .i64) .nil))) HP):=
 aN.mono (bX (C:=Ew m) (n:=100000) (p:=(.aR (.cons (.list 5 (.agg (.cons (.int .i64) (.cons (.int .i64) (.cons .bool (.cons .bool (.cons (.int .i64) .nil))))))) (.cons (.int .i64) .nil)))) (ok:=Jc) (bi (eO m)) (by kernel_rfl) (by kernel_rfl) (by kernel_rfl)) fun r ⟨y,h1,h2⟩=>by rw [h1,EB h2]
def RM:aV:=⟨(.cons (.list 3 (.agg (.cons (.int .i64) (.cons (.int .i64) (.cons (.int .i64) .nil))))) .nil),(.aR (.cons (.list 5 (.agg (.cons (.int .i64) (.cons (.int .i64) (.cons .bool (.cons .bool (.cons (.int .i64) .nil))))))) (.cons (.int .i64) .nil))),iQ (α:=List (Int × Int × Int)) (β:=(List (Int × Int × Bool × Bool × Int)) × Int) [(N0,HO),(N1,HP)]⟩
theorem KS (m:Int):ap (dK m) 57 RM:=fun x y h=>by
 rcases xM (α:=List (Int × Int × Int)) (β:=(List (Int × Int × Bool × Bool × Int)) × Int) h with ⟨e1,e2⟩ | ⟨e1,e2⟩
 ·subst e1; subst e2; exact QR m
 ·subst e1; subst e2; exact QS m
def N2:List (Int × Int × Bool × Bool × Int):=[(0,0,true,true,3),(3,1,false,true,3)]
def HQ:(List UInt8) × Int:=([97,116,32,48,32,48,32,114,105,103,104,116,32,117,112,32,51,10,97,116,32,51,32,49,32,108,101,102,116,32,117,112,32,51,10],0)
def Jd (y:(List UInt8) × Int):Bool:=decide (y=HQ)
theorem EC {y:(List UInt8) × Int} (h:Jd y=true):y=HQ:=of_decide_eq_true h
theorem QT (m:Int):aN (dK m) 29 (aB.enc (.cons (.list 5 (.agg (.cons (.int .i64) (.cons (.int .i64) (.cons .bool (.cons .bool (.cons (.int .i64) .nil))))))) .nil) N2) (fun r=>r=av.enc (.aR (.cons .str (.cons (.int .i64) .nil))) HQ):=
 aN.mono (bX (C:=Ew m) (n:=100000) (p:=(.aR (.cons .str (.cons (.int .i64) .nil)))) (ok:=Jd) (bi (eO m)) (by kernel_rfl) (by kernel_rfl) (by kernel_rfl)) fun r ⟨y,h1,h2⟩=>by rw [h1,EC h2]
def RN:aV:=⟨(.cons (.list 5 (.agg (.cons (.int .i64) (.cons (.int .i64) (.cons .bool (.cons .bool (.cons (.int .i64) .nil))))))) .nil),(.aR (.cons .str (.cons (.int .i64) .nil))),iQ (α:=List (Int × Int × Bool × Bool × Int)) (β:=(List UInt8) × Int) [(N2,HQ)]⟩
theorem KT (m:Int):ap (dK m) 29 RN:=fun x y h=>by
 obtain ⟨e1,e2⟩:=fT (α:=List (Int × Int × Bool × Bool × Int)) (β:=(List UInt8) × Int) h
 subst e1; subst e2
 exact QT m
def N3:List UInt8:=[97,116,32,48,32,48,32,114,105,103,104,116,32,117,112,32,51,10,97,116,32,51,32,49,32,108,101,102,116,32,117,112,32,51,10]
def HR:(List (Int × Int × Bool × Bool × Int)) × Int × Int:=([(0,0,true,true,3),(3,1,false,true,3)],0,0)
def Je (y:(List (Int × Int × Bool × Bool × Int)) × Int × Int):Bool:=decide (y=HR)
theorem ED {y:(List (Int × Int × Bool × Bool × Int)) × Int × Int} (h:Je y=true):y=HR:=of_decide_eq_true h
theorem QU (m:Int):aN (dK m) 30 (aB.enc (.cons .str .nil) N3) (fun r=>r=av.enc (.aR (.cons (.list 5 (.agg (.cons (.int .i64) (.cons (.int .i64) (.cons .bool (.cons .bool (.cons (.int .i64) .nil))))))) (.cons (.int .i64) (.cons (.int .i64) .nil)))) HR):=
 aN.mono (bX (C:=Ew m) (n:=100000) (p:=(.aR (.cons (.list 5 (.agg (.cons (.int .i64) (.cons (.int .i64) (.cons .bool (.cons .bool (.cons (.int .i64) .nil))))))) (.cons (.int .i64) (.cons (.int .i64) .nil))))) (ok:=Je) (bi (eO m)) (by kernel_rfl) (by kernel_rfl) (by kernel_rfl)) fun r ⟨y,h1,h2⟩=>by rw [h1,ED h2]
def RQ:aV:=⟨(.cons .str .nil),(.aR (.cons (.list 5 (.agg (.cons (.int .i64) (.cons (.int .i64) (.cons .bool (.cons .bool (.cons (.int .i64) .nil))))))) (.cons (.int .i64) (.cons (.int .i64) .nil)))),iQ (α:=List UInt8) (β:=(List (Int × Int × Bool × Bool × Int)) × Int × Int) [(N3,HR)]⟩
theorem KU (m:Int):ap (dK m) 30 RQ:=fun x y h=>by
 obtain ⟨e1,e2⟩:=fT (α:=List UInt8) (β:=(List (Int × Int × Bool × Bool × Int)) × Int × Int) h
 subst e1; subst e2
 exact QU m
def N4:List (Int × Int × Bool × Bool × Int):=[(0,0,true,true,3),(3,1,false,true,3)]
def HS:(List (Int × Int × Bool × Bool × Int)) × Int:=([(3,1,false,false,3),(0,2,true,false,3)],0)
def Jf (y:(List (Int × Int × Bool × Bool × Int)) × Int):Bool:=decide (y=HS)
theorem EE {y:(List (Int × Int × Bool × Bool × Int)) × Int} (h:Jf y=true):y=HS:=of_decide_eq_true h
theorem QV (m:Int):aN (dK m) 68 (aB.enc (.cons (.list 5 (.agg (.cons (.int .i64) (.cons (.int .i64) (.cons .bool (.cons .bool (.cons (.int .i64) .nil))))))) .nil) N4) (fun r=>r=av.enc (.aR (.cons (.list 5 (.agg (.cons (.int .i64) (.cons (.int .i64) (.cons .bool (.cons .bool (.cons (.int .i64) .nil))))))) (.cons (.int .i64) .nil))) HS):=
 aN.mono (bX (C:=Ew m) (n:=100000) (p:=(.aR (.cons (.list 5 (.agg (.cons (.int .i64) (.cons (.int .i64) (.cons .bool (.cons .bool (.cons (.int .i64) .nil))))))) (.cons (.int .i64) .nil)))) (ok:=Jf) (bi (eO m)) (by kernel_rfl) (by kernel_rfl) (by kernel_rfl)) fun r ⟨y,h1,h2⟩=>by rw [h1,EE h2]
def RR:aV:=⟨(.cons (.list 5 (.agg (.cons (.int .i64) (.cons (.int .i64) (.cons .bool (.cons .bool (.cons (.int .i64) .nil))))))) .nil),(.aR (.cons (.list 5 (.agg (.cons (.int .i64) (.cons (.int .i64) (.cons .bool (.cons .bool (.cons (.int .i64) .nil))))))) (.cons (.int .i64) .nil))),iQ (α:=List (Int × Int × Bool × Bool × Int)) (β:=(List (Int × Int × Bool × Bool × Int)) × Int) [(N4,HS)]⟩
theorem KV (m:Int):ap (dK m) 68 RR:=fun x y h=>by
 obtain ⟨e1,e2⟩:=fT (α:=List (Int × Int × Bool × Bool × Int)) (β:=(List (Int × Int × Bool × Bool × Int)) × Int) h
 subst e1; subst e2
 exact QV m
def N5:List (Int × Int × Bool × Bool × Int):=[(0,0,true,true,2),(-1,1,true,true,2)]
def HT:(List (Int × Int)) × Int:=([(-1,1)],0)
def Jg (y:(List (Int × Int)) × Int):Bool:=decide (y=HT)
theorem EF {y:(List (Int × Int)) × Int} (h:Jg y=true):y=HT:=of_decide_eq_true h
theorem QW (m:Int):aN (dK m) 43 (aB.enc (.cons (.list 5 (.agg (.cons (.int .i64) (.cons (.int .i64) (.cons .bool (.cons .bool (.cons (.int .i64) .nil))))))) .nil) N5) (fun r=>r=av.enc (.aR (.cons (.list 2 (.agg (.cons (.int .i64) (.cons (.int .i64) .nil)))) (.cons (.int .i64) .nil))) HT):=
 aN.mono (bX (C:=Ew m) (n:=100000) (p:=(.aR (.cons (.list 2 (.agg (.cons (.int .i64) (.cons (.int .i64) .nil)))) (.cons (.int .i64) .nil)))) (ok:=Jg) (bi (eO m)) (by kernel_rfl) (by kernel_rfl) (by kernel_rfl)) fun r ⟨y,h1,h2⟩=>by rw [h1,EF h2]
def RS:aV:=⟨(.cons (.list 5 (.agg (.cons (.int .i64) (.cons (.int .i64) (.cons .bool (.cons .bool (.cons (.int .i64) .nil))))))) .nil),(.aR (.cons (.list 2 (.agg (.cons (.int .i64) (.cons (.int .i64) .nil)))) (.cons (.int .i64) .nil))),iQ (α:=List (Int × Int × Bool × Bool × Int)) (β:=(List (Int × Int)) × Int) [(N5,HT)]⟩
theorem KW (m:Int):ap (dK m) 43 RS:=fun x y h=>by
 obtain ⟨e1,e2⟩:=fT (α:=List (Int × Int × Bool × Bool × Int)) (β:=(List (Int × Int)) × Int) h
 subst e1; subst e2
 exact QW m
def N6:List (Int × Int × Bool × Bool × Int):=[(0,0,true,true,3),(3,1,false,true,3)]
def HU:(List (Int × Int × Int)) × Int:=([(0,0,1),(2,0,-1),(2,0,1),(1,1,-1),(1,1,1),(3,1,-1)],0)
def Jh (y:(List (Int × Int × Int)) × Int):Bool:=decide (y=HU)
theorem EG {y:(List (Int × Int × Int)) × Int} (h:Jh y=true):y=HU:=of_decide_eq_true h
theorem QX (m:Int):aN (dK m) 39 (aB.enc (.cons (.list 5 (.agg (.cons (.int .i64) (.cons (.int .i64) (.cons .bool (.cons .bool (.cons (.int .i64) .nil))))))) .nil) N6) (fun r=>r=av.enc (.aR (.cons (.list 3 (.agg (.cons (.int .i64) (.cons (.int .i64) (.cons (.int .i64) .nil))))) (.cons (.int .i64) .nil))) HU):=
 aN.mono (bX (C:=Ew m) (n:=100000) (p:=(.aR (.cons (.list 3 (.agg (.cons (.int .i64) (.cons (.int .i64) (.cons (.int .i64) .nil))))) (.cons (.int .i64) .nil)))) (ok:=Jh) (bi (eO m)) (by kernel_rfl) (by kernel_rfl) (by kernel_rfl)) fun r ⟨y,h1,h2⟩=>by rw [h1,EG h2]
def RT:aV:=⟨(.cons (.list 5 (.agg (.cons (.int .i64) (.cons (.int .i64) (.cons .bool (.cons .bool (.cons (.int .i64) .nil))))))) .nil),(.aR (.cons (.list 3 (.agg (.cons (.int .i64) (.cons (.int .i64) (.cons (.int .i64) .nil))))) (.cons (.int .i64) .nil))),iQ (α:=List (Int × Int × Bool × Bool × Int)) (β:=(List (Int × Int × Int)) × Int) [(N6,HU)]⟩
theorem KX (m:Int):ap (dK m) 39 RT:=fun x y h=>by
 obtain ⟨e1,e2⟩:=fT (α:=List (Int × Int × Bool × Bool × Int)) (β:=(List (Int × Int × Int)) × Int) h
 subst e1; subst e2
 exact QX m
def N7:List (Int × Int × Bool × Bool × Int):=[(3,1,false,false,3),(0,2,true,false,3)]
def HV:(List Int) × Int:=([0,1],0)
def Ji (y:(List Int) × Int):Bool:=decide (y=HV)
theorem EH {y:(List Int) × Int} (h:Ji y=true):y=HV:=of_decide_eq_true h
theorem QY (m:Int):aN (dK m) 40 (aB.enc (.cons (.list 5 (.agg (.cons (.int .i64) (.cons (.int .i64) (.cons .bool (.cons .bool (.cons (.int .i64) .nil))))))) .nil) N7) (fun r=>r=av.enc (.aR (.cons (.list 1 (.int .i64)) (.cons (.int .i64) .nil))) HV):=
 aN.mono (bX (C:=Ew m) (n:=100000) (p:=(.aR (.cons (.list 1 (.int .i64)) (.cons (.int .i64) .nil)))) (ok:=Ji) (bi (eO m)) (by kernel_rfl) (by kernel_rfl) (by kernel_rfl)) fun r ⟨y,h1,h2⟩=>by rw [h1,EH h2]
def RU:aV:=⟨(.cons (.list 5 (.agg (.cons (.int .i64) (.cons (.int .i64) (.cons .bool (.cons .bool (.cons (.int .i64) .nil))))))) .nil),(.aR (.cons (.list 1 (.int .i64)) (.cons (.int .i64) .nil))),iQ (α:=List (Int × Int × Bool × Bool × Int)) (β:=(List Int) × Int) [(N7,HV)]⟩
theorem KY (m:Int):ap (dK m) 40 RU:=fun x y h=>by
 obtain ⟨e1,e2⟩:=fT (α:=List (Int × Int × Bool × Bool × Int)) (β:=(List Int) × Int) h
 subst e1; subst e2
 exact QY m
end Go.Proofs.YtldcljfjjoidhaaGreatDoor
