/- The chapter's examples,call by call: programs. -/
import Derived.Test.YtldcljfjjoidhaaGreatDoorBraCa
set_option linter.all false
namespace Go.Proofs.YtldcljfjjoidhaaGreatDoor
open Go Go.Am
set_option maxRecDepth 1000000
def TG:List (Int × Int × Int):=[(0,0,1),(2,0,-1),(2,0,1),(1,1,-1),(1,1,1),(3,1,-1)]
def L5:(List (Int × Int × Bool × Bool × Int)) × Int:=([(0,0,true,true,3),(3,1,false,true,3)],0)
def NP (y:(List (Int × Int × Bool × Bool × Int)) × Int):Bool:=decide (y=L5)
theorem H4 {y:(List (Int × Int × Bool × Bool × Int)) × Int} (h:NP y=true):y=L5:=of_decide_eq_true h
theorem W9 (m:Int):aM (eC m) 57 (aF.enc (.cons (.list 3 (.agg (.cons (.int .i64) (.cons (.int .i64) (.cons (.int .i64) .nil))))) .nil) TG) (fun r=>r=an.enc (.aX (.cons (.list 5 (.agg (.cons (.int .i64) (.cons (.int .i64) (.cons .bool (.cons .bool (.cons (.int .i64) .nil))))))) (.cons (.int .i64) .nil))) L5):=
 aM.mono (cu (C:=HY m) (n:=100000) (p:=(.aX (.cons (.list 5 (.agg (.cons (.int .i64) (.cons (.int .i64) (.cons .bool (.cons .bool (.cons (.int .i64) .nil))))))) (.cons (.int .i64) .nil)))) (ok:=NP) (aW (fL m)) (by kernel_rfl) (by kernel_rfl) (by kernel_rfl)) fun r ⟨y,h1,h2⟩=>by rw [h1,H4 h2]
def TH:List (Int × Int × Int):=[(0,0,1),(2,0,-1),(2,0,1),(1,1,-1),(1,1,1)]
def L6:(List (Int × Int × Bool × Bool × Int)) × Int:=([(0,0,true,true,3),(0,2,true,false,2)],0)
def NQ (y:(List (Int × Int × Bool × Bool × Int)) × Int):Bool:=decide (y=L6)
theorem H5 {y:(List (Int × Int × Bool × Bool × Int)) × Int} (h:NQ y=true):y=L6:=of_decide_eq_true h
theorem Xa (m:Int):aM (eC m) 57 (aF.enc (.cons (.list 3 (.agg (.cons (.int .i64) (.cons (.int .i64) (.cons (.int .i64) .nil))))) .nil) TH) (fun r=>r=an.enc (.aX (.cons (.list 5 (.agg (.cons (.int .i64) (.cons (.int .i64) (.cons .bool (.cons .bool (.cons (.int .i64) .nil))))))) (.cons (.int .i64) .nil))) L6):=
 aM.mono (cu (C:=HY m) (n:=100000) (p:=(.aX (.cons (.list 5 (.agg (.cons (.int .i64) (.cons (.int .i64) (.cons .bool (.cons .bool (.cons (.int .i64) .nil))))))) (.cons (.int .i64) .nil)))) (ok:=NQ) (aW (fL m)) (by kernel_rfl) (by kernel_rfl) (by kernel_rfl)) fun r ⟨y,h1,h2⟩=>by rw [h1,H5 h2]
def YE:aK:=⟨(.cons (.list 3 (.agg (.cons (.int .i64) (.cons (.int .i64) (.cons (.int .i64) .nil))))) .nil),(.aX (.cons (.list 5 (.agg (.cons (.int .i64) (.cons (.int .i64) (.cons .bool (.cons .bool (.cons (.int .i64) .nil))))))) (.cons (.int .i64) .nil))),j6 (α:=List (Int × Int × Int)) (β:=(List (Int × Int × Bool × Bool × Int)) × Int) [(TG,L5),(TH,L6)]⟩
theorem PO (m:Int):ao (eC m) 57 YE:=fun x y h=>by
 rcases A0 (α:=List (Int × Int × Int)) (β:=(List (Int × Int × Bool × Bool × Int)) × Int) h with ⟨e1,e2⟩ | ⟨e1,e2⟩
 ·subst e1; subst e2; exact W9 m
 ·subst e1; subst e2; exact Xa m
def TJ:List (Int × Int × Bool × Bool × Int):=[(0,0,true,true,3),(3,1,false,true,3)]
def L7:(List UInt8) × Int:=([97,116,32,48,32,48,32,114,105,103,104,116,32,117,112,32,51,10,97,116,32,51,32,49,32,108,101,102,116,32,117,112,32,51,10],0)
def NR (y:(List UInt8) × Int):Bool:=decide (y=L7)
theorem H6 {y:(List UInt8) × Int} (h:NR y=true):y=L7:=of_decide_eq_true h
theorem Xb (m:Int):aM (eC m) 29 (aF.enc (.cons (.list 5 (.agg (.cons (.int .i64) (.cons (.int .i64) (.cons .bool (.cons .bool (.cons (.int .i64) .nil))))))) .nil) TJ) (fun r=>r=an.enc (.aX (.cons .str (.cons (.int .i64) .nil))) L7):=
 aM.mono (cu (C:=HY m) (n:=100000) (p:=(.aX (.cons .str (.cons (.int .i64) .nil)))) (ok:=NR) (aW (fL m)) (by kernel_rfl) (by kernel_rfl) (by kernel_rfl)) fun r ⟨y,h1,h2⟩=>by rw [h1,H6 h2]
def YF:aK:=⟨(.cons (.list 5 (.agg (.cons (.int .i64) (.cons (.int .i64) (.cons .bool (.cons .bool (.cons (.int .i64) .nil))))))) .nil),(.aX (.cons .str (.cons (.int .i64) .nil))),j6 (α:=List (Int × Int × Bool × Bool × Int)) (β:=(List UInt8) × Int) [(TJ,L7)]⟩
theorem PP (m:Int):ao (eC m) 29 YF:=fun x y h=>by
 obtain ⟨e1,e2⟩:=ic (α:=List (Int × Int × Bool × Bool × Int)) (β:=(List UInt8) × Int) h
 subst e1; subst e2
 exact Xb m
def TL:List UInt8:=[97,116,32,48,32,48,32,114,105,103,104,116,32,117,112,32,51,10,97,116,32,51,32,49,32,108,101,102,116,32,117,112,32,51,10]
def L8:(List (Int × Int × Bool × Bool × Int)) × Int × Int:=([(0,0,true,true,3),(3,1,false,true,3)],0,0)
def NS (y:(List (Int × Int × Bool × Bool × Int)) × Int × Int):Bool:=decide (y=L8)
theorem H7 {y:(List (Int × Int × Bool × Bool × Int)) × Int × Int} (h:NS y=true):y=L8:=of_decide_eq_true h
theorem Xc (m:Int):aM (eC m) 30 (aF.enc (.cons .str .nil) TL) (fun r=>r=an.enc (.aX (.cons (.list 5 (.agg (.cons (.int .i64) (.cons (.int .i64) (.cons .bool (.cons .bool (.cons (.int .i64) .nil))))))) (.cons (.int .i64) (.cons (.int .i64) .nil)))) L8):=
 aM.mono (cu (C:=HY m) (n:=100000) (p:=(.aX (.cons (.list 5 (.agg (.cons (.int .i64) (.cons (.int .i64) (.cons .bool (.cons .bool (.cons (.int .i64) .nil))))))) (.cons (.int .i64) (.cons (.int .i64) .nil))))) (ok:=NS) (aW (fL m)) (by kernel_rfl) (by kernel_rfl) (by kernel_rfl)) fun r ⟨y,h1,h2⟩=>by rw [h1,H7 h2]
def YG:aK:=⟨(.cons .str .nil),(.aX (.cons (.list 5 (.agg (.cons (.int .i64) (.cons (.int .i64) (.cons .bool (.cons .bool (.cons (.int .i64) .nil))))))) (.cons (.int .i64) (.cons (.int .i64) .nil)))),j6 (α:=List UInt8) (β:=(List (Int × Int × Bool × Bool × Int)) × Int × Int) [(TL,L8)]⟩
theorem PQ (m:Int):ao (eC m) 30 YG:=fun x y h=>by
 obtain ⟨e1,e2⟩:=ic (α:=List UInt8) (β:=(List (Int × Int × Bool × Bool × Int)) × Int × Int) h
 subst e1; subst e2
 exact Xc m
def TM:List (Int × Int × Bool × Bool × Int):=[(0,0,true,true,3),(3,1,false,true,3)]
def L9:(List (Int × Int × Bool × Bool × Int)) × Int:=([(3,1,false,false,3),(0,2,true,false,3)],0)
def NT (y:(List (Int × Int × Bool × Bool × Int)) × Int):Bool:=decide (y=L9)
theorem H8 {y:(List (Int × Int × Bool × Bool × Int)) × Int} (h:NT y=true):y=L9:=of_decide_eq_true h
theorem Xd (m:Int):aM (eC m) 68 (aF.enc (.cons (.list 5 (.agg (.cons (.int .i64) (.cons (.int .i64) (.cons .bool (.cons .bool (.cons (.int .i64) .nil))))))) .nil) TM) (fun r=>r=an.enc (.aX (.cons (.list 5 (.agg (.cons (.int .i64) (.cons (.int .i64) (.cons .bool (.cons .bool (.cons (.int .i64) .nil))))))) (.cons (.int .i64) .nil))) L9):=
 aM.mono (cu (C:=HY m) (n:=100000) (p:=(.aX (.cons (.list 5 (.agg (.cons (.int .i64) (.cons (.int .i64) (.cons .bool (.cons .bool (.cons (.int .i64) .nil))))))) (.cons (.int .i64) .nil)))) (ok:=NT) (aW (fL m)) (by kernel_rfl) (by kernel_rfl) (by kernel_rfl)) fun r ⟨y,h1,h2⟩=>by rw [h1,H8 h2]
def YH:aK:=⟨(.cons (.list 5 (.agg (.cons (.int .i64) (.cons (.int .i64) (.cons .bool (.cons .bool (.cons (.int .i64) .nil))))))) .nil),(.aX (.cons (.list 5 (.agg (.cons (.int .i64) (.cons (.int .i64) (.cons .bool (.cons .bool (.cons (.int .i64) .nil))))))) (.cons (.int .i64) .nil))),j6 (α:=List (Int × Int × Bool × Bool × Int)) (β:=(List (Int × Int × Bool × Bool × Int)) × Int) [(TM,L9)]⟩
theorem PR (m:Int):ao (eC m) 68 YH:=fun x y h=>by
 obtain ⟨e1,e2⟩:=ic (α:=List (Int × Int × Bool × Bool × Int)) (β:=(List (Int × Int × Bool × Bool × Int)) × Int) h
 subst e1; subst e2
 exact Xd m
def TN:List (Int × Int × Bool × Bool × Int):=[(0,0,true,true,2),(-1,1,true,true,2)]
def Ma:(List (Int × Int)) × Int:=([(-1,1)],0)
def NU (y:(List (Int × Int)) × Int):Bool:=decide (y=Ma)
theorem H9 {y:(List (Int × Int)) × Int} (h:NU y=true):y=Ma:=of_decide_eq_true h
theorem Xe (m:Int):aM (eC m) 43 (aF.enc (.cons (.list 5 (.agg (.cons (.int .i64) (.cons (.int .i64) (.cons .bool (.cons .bool (.cons (.int .i64) .nil))))))) .nil) TN) (fun r=>r=an.enc (.aX (.cons (.list 2 (.agg (.cons (.int .i64) (.cons (.int .i64) .nil)))) (.cons (.int .i64) .nil))) Ma):=
 aM.mono (cu (C:=HY m) (n:=100000) (p:=(.aX (.cons (.list 2 (.agg (.cons (.int .i64) (.cons (.int .i64) .nil)))) (.cons (.int .i64) .nil)))) (ok:=NU) (aW (fL m)) (by kernel_rfl) (by kernel_rfl) (by kernel_rfl)) fun r ⟨y,h1,h2⟩=>by rw [h1,H9 h2]
def YI:aK:=⟨(.cons (.list 5 (.agg (.cons (.int .i64) (.cons (.int .i64) (.cons .bool (.cons .bool (.cons (.int .i64) .nil))))))) .nil),(.aX (.cons (.list 2 (.agg (.cons (.int .i64) (.cons (.int .i64) .nil)))) (.cons (.int .i64) .nil))),j6 (α:=List (Int × Int × Bool × Bool × Int)) (β:=(List (Int × Int)) × Int) [(TN,Ma)]⟩
theorem PS (m:Int):ao (eC m) 43 YI:=fun x y h=>by
 obtain ⟨e1,e2⟩:=ic (α:=List (Int × Int × Bool × Bool × Int)) (β:=(List (Int × Int)) × Int) h
 subst e1; subst e2
 exact Xe m
def TO:List (Int × Int × Bool × Bool × Int):=[(0,0,true,true,3),(3,1,false,true,3)]
def Mb:(List (Int × Int × Int)) × Int:=([(0,0,1),(2,0,-1),(2,0,1),(1,1,-1),(1,1,1),(3,1,-1)],0)
def NV (y:(List (Int × Int × Int)) × Int):Bool:=decide (y=Mb)
theorem Ia {y:(List (Int × Int × Int)) × Int} (h:NV y=true):y=Mb:=of_decide_eq_true h
theorem Xf (m:Int):aM (eC m) 39 (aF.enc (.cons (.list 5 (.agg (.cons (.int .i64) (.cons (.int .i64) (.cons .bool (.cons .bool (.cons (.int .i64) .nil))))))) .nil) TO) (fun r=>r=an.enc (.aX (.cons (.list 3 (.agg (.cons (.int .i64) (.cons (.int .i64) (.cons (.int .i64) .nil))))) (.cons (.int .i64) .nil))) Mb):=
 aM.mono (cu (C:=HY m) (n:=100000) (p:=(.aX (.cons (.list 3 (.agg (.cons (.int .i64) (.cons (.int .i64) (.cons (.int .i64) .nil))))) (.cons (.int .i64) .nil)))) (ok:=NV) (aW (fL m)) (by kernel_rfl) (by kernel_rfl) (by kernel_rfl)) fun r ⟨y,h1,h2⟩=>by rw [h1,Ia h2]
def YJ:aK:=⟨(.cons (.list 5 (.agg (.cons (.int .i64) (.cons (.int .i64) (.cons .bool (.cons .bool (.cons (.int .i64) .nil))))))) .nil),(.aX (.cons (.list 3 (.agg (.cons (.int .i64) (.cons (.int .i64) (.cons (.int .i64) .nil))))) (.cons (.int .i64) .nil))),j6 (α:=List (Int × Int × Bool × Bool × Int)) (β:=(List (Int × Int × Int)) × Int) [(TO,Mb)]⟩
theorem PT (m:Int):ao (eC m) 39 YJ:=fun x y h=>by
 obtain ⟨e1,e2⟩:=ic (α:=List (Int × Int × Bool × Bool × Int)) (β:=(List (Int × Int × Int)) × Int) h
 subst e1; subst e2
 exact Xf m
def TP:List (Int × Int × Bool × Bool × Int):=[(3,1,false,false,3),(0,2,true,false,3)]
def Mc:(List Int) × Int:=([0,1],0)
def NW (y:(List Int) × Int):Bool:=decide (y=Mc)
theorem Ib {y:(List Int) × Int} (h:NW y=true):y=Mc:=of_decide_eq_true h
theorem Xg (m:Int):aM (eC m) 40 (aF.enc (.cons (.list 5 (.agg (.cons (.int .i64) (.cons (.int .i64) (.cons .bool (.cons .bool (.cons (.int .i64) .nil))))))) .nil) TP) (fun r=>r=an.enc (.aX (.cons (.list 1 (.int .i64)) (.cons (.int .i64) .nil))) Mc):=
 aM.mono (cu (C:=HY m) (n:=100000) (p:=(.aX (.cons (.list 1 (.int .i64)) (.cons (.int .i64) .nil)))) (ok:=NW) (aW (fL m)) (by kernel_rfl) (by kernel_rfl) (by kernel_rfl)) fun r ⟨y,h1,h2⟩=>by rw [h1,Ib h2]
def YK:aK:=⟨(.cons (.list 5 (.agg (.cons (.int .i64) (.cons (.int .i64) (.cons .bool (.cons .bool (.cons (.int .i64) .nil))))))) .nil),(.aX (.cons (.list 1 (.int .i64)) (.cons (.int .i64) .nil))),j6 (α:=List (Int × Int × Bool × Bool × Int)) (β:=(List Int) × Int) [(TP,Mc)]⟩
theorem PU (m:Int):ao (eC m) 40 YK:=fun x y h=>by
 obtain ⟨e1,e2⟩:=ic (α:=List (Int × Int × Bool × Bool × Int)) (β:=(List Int) × Int) h
 subst e1; subst e2
 exact Xg m
end Go.Proofs.YtldcljfjjoidhaaGreatDoor
