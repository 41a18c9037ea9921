/- The chapter's examples,call by call: programs. -/
import Derived.Test.YtldcljfjjoidhaaGreatDoorBraCa
set_option linter.all false
namespace Go.Proofs.YtldcljfjjoidhaaGreatDoor
open Go Go.Am
set_option maxRecDepth 1000000
def WQ:List (Int × Int × Int):=[(0,0,1),(2,0,-1),(2,0,1),(1,1,-1),(1,1,1),(3,1,-1)]
def Oi:(List (Int × Int × Bool × Bool × Int)) × Int:=([(0,0,true,true,3),(3,1,false,true,3)],0)
def QA (y:(List (Int × Int × Bool × Bool × Int)) × Int):Bool:=decide (y=Oi)
theorem J1 {y:(List (Int × Int × Bool × Bool × Int)) × Int} (h:QA y=true):y=Oi:=of_decide_eq_true h
theorem aau (m:Int):aR (eT m) 57 (aJ.enc (.cons (.list 3 (.agg (.cons (.int .i64) (.cons (.int .i64) (.cons (.int .i64) .nil))))) .nil) WQ) (fun r=>r=aj.enc (.bf (.cons (.list 5 (.agg (.cons (.int .i64) (.cons (.int .i64) (.cons .bool (.cons .bool (.cons (.int .i64) .nil))))))) (.cons (.int .i64) .nil))) Oi):=
 aR.mono (cL (C:=JX m) (n:=100000) (p:=(.bf (.cons (.list 5 (.agg (.cons (.int .i64) (.cons (.int .i64) (.cons .bool (.cons .bool (.cons (.int .i64) .nil))))))) (.cons (.int .i64) .nil)))) (ok:=QA) (aT (gi m)) (by kernel_rfl) (by kernel_rfl) (by kernel_rfl)) fun r ⟨y,h1,h2⟩=>by rw [h1,J1 h2]
def WR:List (Int × Int × Int):=[(0,0,1),(2,0,-1),(2,0,1),(1,1,-1),(1,1,1)]
def Oj:(List (Int × Int × Bool × Bool × Int)) × Int:=([(0,0,true,true,3),(0,2,true,false,2)],0)
def QB (y:(List (Int × Int × Bool × Bool × Int)) × Int):Bool:=decide (y=Oj)
theorem J2 {y:(List (Int × Int × Bool × Bool × Int)) × Int} (h:QB y=true):y=Oj:=of_decide_eq_true h
theorem aav (m:Int):aR (eT m) 57 (aJ.enc (.cons (.list 3 (.agg (.cons (.int .i64) (.cons (.int .i64) (.cons (.int .i64) .nil))))) .nil) WR) (fun r=>r=aj.enc (.bf (.cons (.list 5 (.agg (.cons (.int .i64) (.cons (.int .i64) (.cons .bool (.cons .bool (.cons (.int .i64) .nil))))))) (.cons (.int .i64) .nil))) Oj):=
 aR.mono (cL (C:=JX m) (n:=100000) (p:=(.bf (.cons (.list 5 (.agg (.cons (.int .i64) (.cons (.int .i64) (.cons .bool (.cons .bool (.cons (.int .i64) .nil))))))) (.cons (.int .i64) .nil)))) (ok:=QB) (aT (gi m)) (by kernel_rfl) (by kernel_rfl) (by kernel_rfl)) fun r ⟨y,h1,h2⟩=>by rw [h1,J2 h2]
def E57:aL:=⟨(.cons (.list 3 (.agg (.cons (.int .i64) (.cons (.int .i64) (.cons (.int .i64) .nil))))) .nil),(.bf (.cons (.list 5 (.agg (.cons (.int .i64) (.cons (.int .i64) (.cons .bool (.cons .bool (.cons (.int .i64) .nil))))))) (.cons (.int .i64) .nil))),kG (α:=List (Int × Int × Int)) (β:=(List (Int × Int × Bool × Bool × Int)) × Int) [(WQ,Oi),(WR,Oj)]⟩
theorem SG (m:Int):an (eT m) 57 E57:=fun x y h=>by
 rcases Ca (α:=List (Int × Int × Int)) (β:=(List (Int × Int × Bool × Bool × Int)) × Int) h with ⟨e1,e2⟩ | ⟨e1,e2⟩
 ·subst e1; subst e2; exact aau m
 ·subst e1; subst e2; exact aav m
def WS:List (Int × Int × Bool × Bool × Int):=[(0,0,true,true,3),(3,1,false,true,3)]
def Ol:(List UInt8) × Int:=([97,116,32,48,32,48,32,114,105,103,104,116,32,117,112,32,51,10,97,116,32,51,32,49,32,108,101,102,116,32,117,112,32,51,10],0)
def QC (y:(List UInt8) × Int):Bool:=decide (y=Ol)
theorem J3 {y:(List UInt8) × Int} (h:QC y=true):y=Ol:=of_decide_eq_true h
theorem aaw (m:Int):aR (eT m) 29 (aJ.enc (.cons (.list 5 (.agg (.cons (.int .i64) (.cons (.int .i64) (.cons .bool (.cons .bool (.cons (.int .i64) .nil))))))) .nil) WS) (fun r=>r=aj.enc (.bf (.cons .str (.cons (.int .i64) .nil))) Ol):=
 aR.mono (cL (C:=JX m) (n:=100000) (p:=(.bf (.cons .str (.cons (.int .i64) .nil)))) (ok:=QC) (aT (gi m)) (by kernel_rfl) (by kernel_rfl) (by kernel_rfl)) fun r ⟨y,h1,h2⟩=>by rw [h1,J3 h2]
def E29:aL:=⟨(.cons (.list 5 (.agg (.cons (.int .i64) (.cons (.int .i64) (.cons .bool (.cons .bool (.cons (.int .i64) .nil))))))) .nil),(.bf (.cons .str (.cons (.int .i64) .nil))),kG (α:=List (Int × Int × Bool × Bool × Int)) (β:=(List UInt8) × Int) [(WS,Ol)]⟩
theorem SH (m:Int):an (eT m) 29 E29:=fun x y h=>by
 obtain ⟨e1,e2⟩:=iP (α:=List (Int × Int × Bool × Bool × Int)) (β:=(List UInt8) × Int) h
 subst e1; subst e2
 exact aaw m
def WT:List UInt8:=[97,116,32,48,32,48,32,114,105,103,104,116,32,117,112,32,51,10,97,116,32,51,32,49,32,108,101,102,116,32,117,112,32,51,10]
def Om:(List (Int × Int × Bool × Bool × Int)) × Int × Int:=([(0,0,true,true,3),(3,1,false,true,3)],0,0)
def QD (y:(List (Int × Int × Bool × Bool × Int)) × Int × Int):Bool:=decide (y=Om)
theorem J4 {y:(List (Int × Int × Bool × Bool × Int)) × Int × Int} (h:QD y=true):y=Om:=of_decide_eq_true h
theorem aax (m:Int):aR (eT m) 30 (aJ.enc (.cons .str .nil) WT) (fun r=>r=aj.enc (.bf (.cons (.list 5 (.agg (.cons (.int .i64) (.cons (.int .i64) (.cons .bool (.cons .bool (.cons (.int .i64) .nil))))))) (.cons (.int .i64) (.cons (.int .i64) .nil)))) Om):=
 aR.mono (cL (C:=JX m) (n:=100000) (p:=(.bf (.cons (.list 5 (.agg (.cons (.int .i64) (.cons (.int .i64) (.cons .bool (.cons .bool (.cons (.int .i64) .nil))))))) (.cons (.int .i64) (.cons (.int .i64) .nil))))) (ok:=QD) (aT (gi m)) (by kernel_rfl) (by kernel_rfl) (by kernel_rfl)) fun r ⟨y,h1,h2⟩=>by rw [h1,J4 h2]
def E30:aL:=⟨(.cons .str .nil),(.bf (.cons (.list 5 (.agg (.cons (.int .i64) (.cons (.int .i64) (.cons .bool (.cons .bool (.cons (.int .i64) .nil))))))) (.cons (.int .i64) (.cons (.int .i64) .nil)))),kG (α:=List UInt8) (β:=(List (Int × Int × Bool × Bool × Int)) × Int × Int) [(WT,Om)]⟩
theorem SI (m:Int):an (eT m) 30 E30:=fun x y h=>by
 obtain ⟨e1,e2⟩:=iP (α:=List UInt8) (β:=(List (Int × Int × Bool × Bool × Int)) × Int × Int) h
 subst e1; subst e2
 exact aax m
def WU:List (Int × Int × Bool × Bool × Int):=[(0,0,true,true,3),(3,1,false,true,3)]
def On:(List (Int × Int × Bool × Bool × Int)) × Int:=([(3,1,false,false,3),(0,2,true,false,3)],0)
def QE (y:(List (Int × Int × Bool × Bool × Int)) × Int):Bool:=decide (y=On)
theorem J5 {y:(List (Int × Int × Bool × Bool × Int)) × Int} (h:QE y=true):y=On:=of_decide_eq_true h
theorem aay (m:Int):aR (eT m) 68 (aJ.enc (.cons (.list 5 (.agg (.cons (.int .i64) (.cons (.int .i64) (.cons .bool (.cons .bool (.cons (.int .i64) .nil))))))) .nil) WU) (fun r=>r=aj.enc (.bf (.cons (.list 5 (.agg (.cons (.int .i64) (.cons (.int .i64) (.cons .bool (.cons .bool (.cons (.int .i64) .nil))))))) (.cons (.int .i64) .nil))) On):=
 aR.mono (cL (C:=JX m) (n:=100000) (p:=(.bf (.cons (.list 5 (.agg (.cons (.int .i64) (.cons (.int .i64) (.cons .bool (.cons .bool (.cons (.int .i64) .nil))))))) (.cons (.int .i64) .nil)))) (ok:=QE) (aT (gi m)) (by kernel_rfl) (by kernel_rfl) (by kernel_rfl)) fun r ⟨y,h1,h2⟩=>by rw [h1,J5 h2]
def E68:aL:=⟨(.cons (.list 5 (.agg (.cons (.int .i64) (.cons (.int .i64) (.cons .bool (.cons .bool (.cons (.int .i64) .nil))))))) .nil),(.bf (.cons (.list 5 (.agg (.cons (.int .i64) (.cons (.int .i64) (.cons .bool (.cons .bool (.cons (.int .i64) .nil))))))) (.cons (.int .i64) .nil))),kG (α:=List (Int × Int × Bool × Bool × Int)) (β:=(List (Int × Int × Bool × Bool × Int)) × Int) [(WU,On)]⟩
theorem SJ (m:Int):an (eT m) 68 E68:=fun x y h=>by
 obtain ⟨e1,e2⟩:=iP (α:=List (Int × Int × Bool × Bool × Int)) (β:=(List (Int × Int × Bool × Bool × Int)) × Int) h
 subst e1; subst e2
 exact aay m
def WV:List (Int × Int × Bool × Bool × Int):=[(0,0,true,true,2),(-1,1,true,true,2)]
def Oo:(List (Int × Int)) × Int:=([(-1,1)],0)
def QF (y:(List (Int × Int)) × Int):Bool:=decide (y=Oo)
theorem J6 {y:(List (Int × Int)) × Int} (h:QF y=true):y=Oo:=of_decide_eq_true h
theorem aaz (m:Int):aR (eT m) 43 (aJ.enc (.cons (.list 5 (.agg (.cons (.int .i64) (.cons (.int .i64) (.cons .bool (.cons .bool (.cons (.int .i64) .nil))))))) .nil) WV) (fun r=>r=aj.enc (.bf (.cons (.list 2 (.agg (.cons (.int .i64) (.cons (.int .i64) .nil)))) (.cons (.int .i64) .nil))) Oo):=
 aR.mono (cL (C:=JX m) (n:=100000) (p:=(.bf (.cons (.list 2 (.agg (.cons (.int .i64) (.cons (.int .i64) .nil)))) (.cons (.int .i64) .nil)))) (ok:=QF) (aT (gi m)) (by kernel_rfl) (by kernel_rfl) (by kernel_rfl)) fun r ⟨y,h1,h2⟩=>by rw [h1,J6 h2]
def E43:aL:=⟨(.cons (.list 5 (.agg (.cons (.int .i64) (.cons (.int .i64) (.cons .bool (.cons .bool (.cons (.int .i64) .nil))))))) .nil),(.bf (.cons (.list 2 (.agg (.cons (.int .i64) (.cons (.int .i64) .nil)))) (.cons (.int .i64) .nil))),kG (α:=List (Int × Int × Bool × Bool × Int)) (β:=(List (Int × Int)) × Int) [(WV,Oo)]⟩
theorem SK (m:Int):an (eT m) 43 E43:=fun x y h=>by
 obtain ⟨e1,e2⟩:=iP (α:=List (Int × Int × Bool × Bool × Int)) (β:=(List (Int × Int)) × Int) h
 subst e1; subst e2
 exact aaz m
def WW:List (Int × Int × Bool × Bool × Int):=[(0,0,true,true,3),(3,1,false,true,3)]
def Oq:(List (Int × Int × Int)) × Int:=([(0,0,1),(2,0,-1),(2,0,1),(1,1,-1),(1,1,1),(3,1,-1)],0)
def QG (y:(List (Int × Int × Int)) × Int):Bool:=decide (y=Oq)
theorem J7 {y:(List (Int × Int × Int)) × Int} (h:QG y=true):y=Oq:=of_decide_eq_true h
theorem aaA (m:Int):aR (eT m) 39 (aJ.enc (.cons (.list 5 (.agg (.cons (.int .i64) (.cons (.int .i64) (.cons .bool (.cons .bool (.cons (.int .i64) .nil))))))) .nil) WW) (fun r=>r=aj.enc (.bf (.cons (.list 3 (.agg (.cons (.int .i64) (.cons (.int .i64) (.cons (.int .i64) .nil))))) (.cons (.int .i64) .nil))) Oq):=
 aR.mono (cL (C:=JX m) (n:=100000) (p:=(.bf (.cons (.list 3 (.agg (.cons (.int .i64) (.cons (.int .i64) (.cons (.int .i64) .nil))))) (.cons (.int .i64) .nil)))) (ok:=QG) (aT (gi m)) (by kernel_rfl) (by kernel_rfl) (by kernel_rfl)) fun r ⟨y,h1,h2⟩=>by rw [h1,J7 h2]
def E39:aL:=⟨(.cons (.list 5 (.agg (.cons (.int .i64) (.cons (.int .i64) (.cons .bool (.cons .bool (.cons (.int .i64) .nil))))))) .nil),(.bf (.cons (.list 3 (.agg (.cons (.int .i64) (.cons (.int .i64) (.cons (.int .i64) .nil))))) (.cons (.int .i64) .nil))),kG (α:=List (Int × Int × Bool × Bool × Int)) (β:=(List (Int × Int × Int)) × Int) [(WW,Oq)]⟩
theorem SL (m:Int):an (eT m) 39 E39:=fun x y h=>by
 obtain ⟨e1,e2⟩:=iP (α:=List (Int × Int × Bool × Bool × Int)) (β:=(List (Int × Int × Int)) × Int) h
 subst e1; subst e2
 exact aaA m
def WX:List (Int × Int × Bool × Bool × Int):=[(3,1,false,false,3),(0,2,true,false,3)]
def Ot:(List Int) × Int:=([0,1],0)
def QH (y:(List Int) × Int):Bool:=decide (y=Ot)
theorem J8 {y:(List Int) × Int} (h:QH y=true):y=Ot:=of_decide_eq_true h
theorem aaB (m:Int):aR (eT m) 40 (aJ.enc (.cons (.list 5 (.agg (.cons (.int .i64) (.cons (.int .i64) (.cons .bool (.cons .bool (.cons (.int .i64) .nil))))))) .nil) WX) (fun r=>r=aj.enc (.bf (.cons (.list 1 (.int .i64)) (.cons (.int .i64) .nil))) Ot):=
 aR.mono (cL (C:=JX m) (n:=100000) (p:=(.bf (.cons (.list 1 (.int .i64)) (.cons (.int .i64) .nil)))) (ok:=QH) (aT (gi m)) (by kernel_rfl) (by kernel_rfl) (by kernel_rfl)) fun r ⟨y,h1,h2⟩=>by rw [h1,J8 h2]
def E40:aL:=⟨(.cons (.list 5 (.agg (.cons (.int .i64) (.cons (.int .i64) (.cons .bool (.cons .bool (.cons (.int .i64) .nil))))))) .nil),(.bf (.cons (.list 1 (.int .i64)) (.cons (.int .i64) .nil))),kG (α:=List (Int × Int × Bool × Bool × Int)) (β:=(List Int) × Int) [(WX,Ot)]⟩
theorem SM (m:Int):an (eT m) 40 E40:=fun x y h=>by
 obtain ⟨e1,e2⟩:=iP (α:=List (Int × Int × Bool × Bool × Int)) (β:=(List Int) × Int) h
 subst e1; subst e2
 exact aaB m
end Go.Proofs.YtldcljfjjoidhaaGreatDoor
