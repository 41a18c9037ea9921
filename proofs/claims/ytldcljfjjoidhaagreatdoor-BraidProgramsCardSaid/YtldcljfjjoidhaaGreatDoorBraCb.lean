/- The chapter's examples,call by call: programs. -/
import Derived.Test.YtldcljfjjoidhaaGreatDoorBraCa
set_option linter.all false
namespace Go.Proofs.YtldcljfjjoidhaaGreatDoor
open Go Go.Am
set_option maxRecDepth 1000000
def Wt:List (Int × Int × Int):=[(0,0,1),(2,0,-1),(2,0,1),(1,1,-1),(1,1,1),(3,1,-1)]
def N1:(List (Int × Int × Bool × Bool × Int)) × Int:=([(0,0,true,true,3),(3,1,false,true,3)],0)
def Qe (y:(List (Int × Int × Bool × Bool × Int)) × Int):Bool:=decide (y=N1)
theorem JS {y:(List (Int × Int × Bool × Bool × Int)) × Int} (h:Qe y=true):y=N1:=of_decide_eq_true h
theorem Z9 (m:Int):aS (eP m) 57 (aH.enc (.cons (.list 3 (.agg (.cons (.int .i64) (.cons (.int .i64) (.cons (.int .i64) .nil))))) .nil) Wt) (fun r=>r=aj.enc (.bg (.cons (.list 5 (.agg (.cons (.int .i64) (.cons (.int .i64) (.cons .bool (.cons .bool (.cons (.int .i64) .nil))))))) (.cons (.int .i64) .nil))) N1):=
 aS.mono (cJ (C:=JO m) (n:=100000) (p:=(.bg (.cons (.list 5 (.agg (.cons (.int .i64) (.cons (.int .i64) (.cons .bool (.cons .bool (.cons (.int .i64) .nil))))))) (.cons (.int .i64) .nil)))) (ok:=Qe) (aQ (gd m)) (by kernel_rfl) (by kernel_rfl) (by kernel_rfl)) fun r ⟨y,h1,h2⟩=>by rw [h1,JS h2]
def Wu:List (Int × Int × Int):=[(0,0,1),(2,0,-1),(2,0,1),(1,1,-1),(1,1,1)]
def N2:(List (Int × Int × Bool × Bool × Int)) × Int:=([(0,0,true,true,3),(0,2,true,false,2)],0)
def Qf (y:(List (Int × Int × Bool × Bool × Int)) × Int):Bool:=decide (y=N2)
theorem JU {y:(List (Int × Int × Bool × Bool × Int)) × Int} (h:Qf y=true):y=N2:=of_decide_eq_true h
theorem aaa (m:Int):aS (eP m) 57 (aH.enc (.cons (.list 3 (.agg (.cons (.int .i64) (.cons (.int .i64) (.cons (.int .i64) .nil))))) .nil) Wu) (fun r=>r=aj.enc (.bg (.cons (.list 5 (.agg (.cons (.int .i64) (.cons (.int .i64) (.cons .bool (.cons .bool (.cons (.int .i64) .nil))))))) (.cons (.int .i64) .nil))) N2):=
 aS.mono (cJ (C:=JO m) (n:=100000) (p:=(.bg (.cons (.list 5 (.agg (.cons (.int .i64) (.cons (.int .i64) (.cons .bool (.cons .bool (.cons (.int .i64) .nil))))))) (.cons (.int .i64) .nil)))) (ok:=Qf) (aQ (gd m)) (by kernel_rfl) (by kernel_rfl) (by kernel_rfl)) fun r ⟨y,h1,h2⟩=>by rw [h1,JU h2]
def E57:aJ:=⟨(.cons (.list 3 (.agg (.cons (.int .i64) (.cons (.int .i64) (.cons (.int .i64) .nil))))) .nil),(.bg (.cons (.list 5 (.agg (.cons (.int .i64) (.cons (.int .i64) (.cons .bool (.cons .bool (.cons (.int .i64) .nil))))))) (.cons (.int .i64) .nil))),kB (α:=List (Int × Int × Int)) (β:=(List (Int × Int × Bool × Bool × Int)) × Int) [(Wt,N1),(Wu,N2)]⟩
theorem Sg (m:Int):an (eP m) 57 E57:=fun x y h=>by
 rcases BR (α:=List (Int × Int × Int)) (β:=(List (Int × Int × Bool × Bool × Int)) × Int) h with ⟨e1,e2⟩ | ⟨e1,e2⟩
 ·subst e1; subst e2; exact Z9 m
 ·subst e1; subst e2; exact aaa m
def Wv:List (Int × Int × Bool × Bool × Int):=[(0,0,true,true,3),(3,1,false,true,3)]
def N3:(List UInt8) × Int:=([97,116,32,48,32,48,32,114,105,103,104,116,32,117,112,32,51,10,97,116,32,51,32,49,32,108,101,102,116,32,117,112,32,51,10],0)
def Qg (y:(List UInt8) × Int):Bool:=decide (y=N3)
theorem JV {y:(List UInt8) × Int} (h:Qg y=true):y=N3:=of_decide_eq_true h
theorem aab (m:Int):aS (eP m) 29 (aH.enc (.cons (.list 5 (.agg (.cons (.int .i64) (.cons (.int .i64) (.cons .bool (.cons .bool (.cons (.int .i64) .nil))))))) .nil) Wv) (fun r=>r=aj.enc (.bg (.cons .str (.cons (.int .i64) .nil))) N3):=
 aS.mono (cJ (C:=JO m) (n:=100000) (p:=(.bg (.cons .str (.cons (.int .i64) .nil)))) (ok:=Qg) (aQ (gd m)) (by kernel_rfl) (by kernel_rfl) (by kernel_rfl)) fun r ⟨y,h1,h2⟩=>by rw [h1,JV h2]
def E29:aJ:=⟨(.cons (.list 5 (.agg (.cons (.int .i64) (.cons (.int .i64) (.cons .bool (.cons .bool (.cons (.int .i64) .nil))))))) .nil),(.bg (.cons .str (.cons (.int .i64) .nil))),kB (α:=List (Int × Int × Bool × Bool × Int)) (β:=(List UInt8) × Int) [(Wv,N3)]⟩
theorem Sh (m:Int):an (eP m) 29 E29:=fun x y h=>by
 obtain ⟨e1,e2⟩:=iK (α:=List (Int × Int × Bool × Bool × Int)) (β:=(List UInt8) × Int) h
 subst e1; subst e2
 exact aab m
def Ww:List UInt8:=[97,116,32,48,32,48,32,114,105,103,104,116,32,117,112,32,51,10,97,116,32,51,32,49,32,108,101,102,116,32,117,112,32,51,10]
def N4:(List (Int × Int × Bool × Bool × Int)) × Int × Int:=([(0,0,true,true,3),(3,1,false,true,3)],0,0)
def Qh (y:(List (Int × Int × Bool × Bool × Int)) × Int × Int):Bool:=decide (y=N4)
theorem JW {y:(List (Int × Int × Bool × Bool × Int)) × Int × Int} (h:Qh y=true):y=N4:=of_decide_eq_true h
theorem aac (m:Int):aS (eP m) 30 (aH.enc (.cons .str .nil) Ww) (fun r=>r=aj.enc (.bg (.cons (.list 5 (.agg (.cons (.int .i64) (.cons (.int .i64) (.cons .bool (.cons .bool (.cons (.int .i64) .nil))))))) (.cons (.int .i64) (.cons (.int .i64) .nil)))) N4):=
 aS.mono (cJ (C:=JO m) (n:=100000) (p:=(.bg (.cons (.list 5 (.agg (.cons (.int .i64) (.cons (.int .i64) (.cons .bool (.cons .bool (.cons (.int .i64) .nil))))))) (.cons (.int .i64) (.cons (.int .i64) .nil))))) (ok:=Qh) (aQ (gd m)) (by kernel_rfl) (by kernel_rfl) (by kernel_rfl)) fun r ⟨y,h1,h2⟩=>by rw [h1,JW h2]
def E30:aJ:=⟨(.cons .str .nil),(.bg (.cons (.list 5 (.agg (.cons (.int .i64) (.cons (.int .i64) (.cons .bool (.cons .bool (.cons (.int .i64) .nil))))))) (.cons (.int .i64) (.cons (.int .i64) .nil)))),kB (α:=List UInt8) (β:=(List (Int × Int × Bool × Bool × Int)) × Int × Int) [(Ww,N4)]⟩
theorem Si (m:Int):an (eP m) 30 E30:=fun x y h=>by
 obtain ⟨e1,e2⟩:=iK (α:=List UInt8) (β:=(List (Int × Int × Bool × Bool × Int)) × Int × Int) h
 subst e1; subst e2
 exact aac m
def Wx:List (Int × Int × Bool × Bool × Int):=[(0,0,true,true,3),(3,1,false,true,3)]
def N5:(List (Int × Int × Bool × Bool × Int)) × Int:=([(3,1,false,false,3),(0,2,true,false,3)],0)
def Qi (y:(List (Int × Int × Bool × Bool × Int)) × Int):Bool:=decide (y=N5)
theorem JX {y:(List (Int × Int × Bool × Bool × Int)) × Int} (h:Qi y=true):y=N5:=of_decide_eq_true h
theorem aad (m:Int):aS (eP m) 68 (aH.enc (.cons (.list 5 (.agg (.cons (.int .i64) (.cons (.int .i64) (.cons .bool (.cons .bool (.cons (.int .i64) .nil))))))) .nil) Wx) (fun r=>r=aj.enc (.bg (.cons (.list 5 (.agg (.cons (.int .i64) (.cons (.int .i64) (.cons .bool (.cons .bool (.cons (.int .i64) .nil))))))) (.cons (.int .i64) .nil))) N5):=
 aS.mono (cJ (C:=JO m) (n:=100000) (p:=(.bg (.cons (.list 5 (.agg (.cons (.int .i64) (.cons (.int .i64) (.cons .bool (.cons .bool (.cons (.int .i64) .nil))))))) (.cons (.int .i64) .nil)))) (ok:=Qi) (aQ (gd m)) (by kernel_rfl) (by kernel_rfl) (by kernel_rfl)) fun r ⟨y,h1,h2⟩=>by rw [h1,JX h2]
def E68:aJ:=⟨(.cons (.list 5 (.agg (.cons (.int .i64) (.cons (.int .i64) (.cons .bool (.cons .bool (.cons (.int .i64) .nil))))))) .nil),(.bg (.cons (.list 5 (.agg (.cons (.int .i64) (.cons (.int .i64) (.cons .bool (.cons .bool (.cons (.int .i64) .nil))))))) (.cons (.int .i64) .nil))),kB (α:=List (Int × Int × Bool × Bool × Int)) (β:=(List (Int × Int × Bool × Bool × Int)) × Int) [(Wx,N5)]⟩
theorem Sj (m:Int):an (eP m) 68 E68:=fun x y h=>by
 obtain ⟨e1,e2⟩:=iK (α:=List (Int × Int × Bool × Bool × Int)) (β:=(List (Int × Int × Bool × Bool × Int)) × Int) h
 subst e1; subst e2
 exact aad m
def Wy:List (Int × Int × Bool × Bool × Int):=[(0,0,true,true,2),(-1,1,true,true,2)]
def N6:(List (Int × Int)) × Int:=([(-1,1)],0)
def Qj (y:(List (Int × Int)) × Int):Bool:=decide (y=N6)
theorem JY {y:(List (Int × Int)) × Int} (h:Qj y=true):y=N6:=of_decide_eq_true h
theorem aae (m:Int):aS (eP m) 43 (aH.enc (.cons (.list 5 (.agg (.cons (.int .i64) (.cons (.int .i64) (.cons .bool (.cons .bool (.cons (.int .i64) .nil))))))) .nil) Wy) (fun r=>r=aj.enc (.bg (.cons (.list 2 (.agg (.cons (.int .i64) (.cons (.int .i64) .nil)))) (.cons (.int .i64) .nil))) N6):=
 aS.mono (cJ (C:=JO m) (n:=100000) (p:=(.bg (.cons (.list 2 (.agg (.cons (.int .i64) (.cons (.int .i64) .nil)))) (.cons (.int .i64) .nil)))) (ok:=Qj) (aQ (gd m)) (by kernel_rfl) (by kernel_rfl) (by kernel_rfl)) fun r ⟨y,h1,h2⟩=>by rw [h1,JY h2]
def E43:aJ:=⟨(.cons (.list 5 (.agg (.cons (.int .i64) (.cons (.int .i64) (.cons .bool (.cons .bool (.cons (.int .i64) .nil))))))) .nil),(.bg (.cons (.list 2 (.agg (.cons (.int .i64) (.cons (.int .i64) .nil)))) (.cons (.int .i64) .nil))),kB (α:=List (Int × Int × Bool × Bool × Int)) (β:=(List (Int × Int)) × Int) [(Wy,N6)]⟩
theorem Sk (m:Int):an (eP m) 43 E43:=fun x y h=>by
 obtain ⟨e1,e2⟩:=iK (α:=List (Int × Int × Bool × Bool × Int)) (β:=(List (Int × Int)) × Int) h
 subst e1; subst e2
 exact aae m
def Wz:List (Int × Int × Bool × Bool × Int):=[(0,0,true,true,3),(3,1,false,true,3)]
def N7:(List (Int × Int × Int)) × Int:=([(0,0,1),(2,0,-1),(2,0,1),(1,1,-1),(1,1,1),(3,1,-1)],0)
def Qk (y:(List (Int × Int × Int)) × Int):Bool:=decide (y=N7)
theorem JZ {y:(List (Int × Int × Int)) × Int} (h:Qk y=true):y=N7:=of_decide_eq_true h
theorem aaf (m:Int):aS (eP m) 39 (aH.enc (.cons (.list 5 (.agg (.cons (.int .i64) (.cons (.int .i64) (.cons .bool (.cons .bool (.cons (.int .i64) .nil))))))) .nil) Wz) (fun r=>r=aj.enc (.bg (.cons (.list 3 (.agg (.cons (.int .i64) (.cons (.int .i64) (.cons (.int .i64) .nil))))) (.cons (.int .i64) .nil))) N7):=
 aS.mono (cJ (C:=JO m) (n:=100000) (p:=(.bg (.cons (.list 3 (.agg (.cons (.int .i64) (.cons (.int .i64) (.cons (.int .i64) .nil))))) (.cons (.int .i64) .nil)))) (ok:=Qk) (aQ (gd m)) (by kernel_rfl) (by kernel_rfl) (by kernel_rfl)) fun r ⟨y,h1,h2⟩=>by rw [h1,JZ h2]
def E39:aJ:=⟨(.cons (.list 5 (.agg (.cons (.int .i64) (.cons (.int .i64) (.cons .bool (.cons .bool (.cons (.int .i64) .nil))))))) .nil),(.bg (.cons (.list 3 (.agg (.cons (.int .i64) (.cons (.int .i64) (.cons (.int .i64) .nil))))) (.cons (.int .i64) .nil))),kB (α:=List (Int × Int × Bool × Bool × Int)) (β:=(List (Int × Int × Int)) × Int) [(Wz,N7)]⟩
theorem Sl (m:Int):an (eP m) 39 E39:=fun x y h=>by
 obtain ⟨e1,e2⟩:=iK (α:=List (Int × Int × Bool × Bool × Int)) (β:=(List (Int × Int × Int)) × Int) h
 subst e1; subst e2
 exact aaf m
def WA:List (Int × Int × Bool × Bool × Int):=[(3,1,false,false,3),(0,2,true,false,3)]
def N8:(List Int) × Int:=([0,1],0)
def Ql (y:(List Int) × Int):Bool:=decide (y=N8)
theorem J0 {y:(List Int) × Int} (h:Ql y=true):y=N8:=of_decide_eq_true h
theorem aag (m:Int):aS (eP m) 40 (aH.enc (.cons (.list 5 (.agg (.cons (.int .i64) (.cons (.int .i64) (.cons .bool (.cons .bool (.cons (.int .i64) .nil))))))) .nil) WA) (fun r=>r=aj.enc (.bg (.cons (.list 1 (.int .i64)) (.cons (.int .i64) .nil))) N8):=
 aS.mono (cJ (C:=JO m) (n:=100000) (p:=(.bg (.cons (.list 1 (.int .i64)) (.cons (.int .i64) .nil)))) (ok:=Ql) (aQ (gd m)) (by kernel_rfl) (by kernel_rfl) (by kernel_rfl)) fun r ⟨y,h1,h2⟩=>by rw [h1,J0 h2]
def E40:aJ:=⟨(.cons (.list 5 (.agg (.cons (.int .i64) (.cons (.int .i64) (.cons .bool (.cons .bool (.cons (.int .i64) .nil))))))) .nil),(.bg (.cons (.list 1 (.int .i64)) (.cons (.int .i64) .nil))),kB (α:=List (Int × Int × Bool × Bool × Int)) (β:=(List Int) × Int) [(WA,N8)]⟩
theorem Sm (m:Int):an (eP m) 40 E40:=fun x y h=>by
 obtain ⟨e1,e2⟩:=iK (α:=List (Int × Int × Bool × Bool × Int)) (β:=(List Int) × Int) h
 subst e1; subst e2
 exact aag m
end Go.Proofs.YtldcljfjjoidhaaGreatDoor
