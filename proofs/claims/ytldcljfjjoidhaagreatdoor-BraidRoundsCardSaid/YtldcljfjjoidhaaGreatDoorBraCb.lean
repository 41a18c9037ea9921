/- The chapter's examples,call by call: programs. -/
import Derived.Test.YtldcljfjjoidhaaGreatDoorBraCa
set_option linter.all false
namespace Go.Proofs.YtldcljfjjoidhaaGreatDoor
open Go Go.Am
open List (map)
open Int (toNat)
open Go.IntKind (wrap)
open Go.Am.aT (fits)
set_option maxRecDepth 1000000
def Y1:List XB:=[(0,0,1),(2,0,-1),(2,0,1),(1,1,-1),(1,1,1),(3,1,-1)]
def P6:eD × Int:=([(0,0,true,true,3),(3,1,false,true,3)],0)
def SE (y:eD × Int):Bool:=decide (y=P6)
theorem Ls {y:eD × Int} (h:SE y=true):y=P6:=of_decide_eq_true h
theorem acU (m:Int):aY (fC m) 57 (aP.enc (.cons (.list 3 aw) .nil) Y1) (fun r=>r=aT.enc (.bi (.cons (.list 5 (.agg (.cons (.int .i64) (.cons (.int .i64) (.cons .bool (.cons .bool (.cons (.int .i64) .nil))))))) (.cons (.int .i64) .nil))) P6):=
 aY.mono (cY (C:=Lo m) (n:=100000) (p:=(.bi (.cons (.list 5 (.agg (.cons (.int .i64) (.cons (.int .i64) (.cons .bool (.cons .bool (.cons (.int .i64) .nil))))))) (.cons (.int .i64) .nil)))) (ok:=SE) (aW (gU m)) (by kernel_rfl) (by kernel_rfl) (by kernel_rfl)) fun r ⟨y,h1,h2⟩=>by rw [h1,Ls h2]
def Y2:List XB:=[(0,0,1),(2,0,-1),(2,0,1),(1,1,-1),(1,1,1)]
def P7:eD × Int:=([(0,0,true,true,3),(0,2,true,false,2)],0)
def SF (y:eD × Int):Bool:=decide (y=P7)
theorem Lt {y:eD × Int} (h:SF y=true):y=P7:=of_decide_eq_true h
theorem acV (m:Int):aY (fC m) 57 (aP.enc (.cons (.list 3 aw) .nil) Y2) (fun r=>r=aT.enc (.bi (.cons (.list 5 (.agg (.cons (.int .i64) (.cons (.int .i64) (.cons .bool (.cons .bool (.cons (.int .i64) .nil))))))) (.cons (.int .i64) .nil))) P7):=
 aY.mono (cY (C:=Lo m) (n:=100000) (p:=(.bi (.cons (.list 5 (.agg (.cons (.int .i64) (.cons (.int .i64) (.cons .bool (.cons .bool (.cons (.int .i64) .nil))))))) (.cons (.int .i64) .nil)))) (ok:=SF) (aW (gU m)) (by kernel_rfl) (by kernel_rfl) (by kernel_rfl)) fun r ⟨y,h1,h2⟩=>by rw [h1,Lt h2]
def E57:aQ:=⟨(.cons (.list 3 aw) .nil),(.bi (.cons (.list 5 (.agg (.cons (.int .i64) (.cons (.int .i64) (.cons .bool (.cons .bool (.cons (.int .i64) .nil))))))) (.cons (.int .i64) .nil))),lu (α:=List XB) (β:=eD × Int) [(Y1,P6),(Y2,P7)]⟩
theorem UM (m:Int):ap (fC m) 57 E57:=fun x y h=>by
 rcases Di (α:=List XB) (β:=eD × Int) h with ⟨e1,e2⟩ | ⟨e1,e2⟩
 ·subst e1; subst e2; exact acU m
 ·subst e1; subst e2; exact acV m
def Y3:List XC:=[(0,0,true,true,3),(3,1,false,true,3)]
def P8:(List UInt8) × Int:=([97,116,32,48,32,48,32,114,105,103,104,116,32,117,112,32,51,10,97,116,32,51,32,49,32,108,101,102,116,32,117,112,32,51,10],0)
def SG (y:(List UInt8) × Int):Bool:=decide (y=P8)
theorem Lu {y:(List UInt8) × Int} (h:SG y=true):y=P8:=of_decide_eq_true h
theorem acW (m:Int):aY (fC m) 29 (aP.enc (.cons (.list 5 (.agg (.cons (.int .i64) (.cons (.int .i64) (.cons .bool (.cons .bool (.cons (.int .i64) .nil))))))) .nil) Y3) (fun r=>r=aT.enc (.bi (.cons .str (.cons (.int .i64) .nil))) P8):=
 aY.mono (cY (C:=Lo m) (n:=100000) (p:=(.bi (.cons .str (.cons (.int .i64) .nil)))) (ok:=SG) (aW (gU m)) (by kernel_rfl) (by kernel_rfl) (by kernel_rfl)) fun r ⟨y,h1,h2⟩=>by rw [h1,Lu h2]
def E29:aQ:=⟨(.cons (.list 5 (.agg (.cons (.int .i64) (.cons (.int .i64) (.cons .bool (.cons .bool (.cons (.int .i64) .nil))))))) .nil),(.bi (.cons .str (.cons (.int .i64) .nil))),lu (α:=List XC) (β:=(List UInt8) × Int) [(Y3,P8)]⟩
theorem UN (m:Int):ap (fC m) 29 E29:=fun x y h=>by
 obtain ⟨e1,e2⟩:=jv (α:=List XC) (β:=(List UInt8) × Int) h
 subst e1; subst e2
 exact acW m
def Y4:List UInt8:=[97,116,32,48,32,48,32,114,105,103,104,116,32,117,112,32,51,10,97,116,32,51,32,49,32,108,101,102,116,32,117,112,32,51,10]
def P9:eD × Int × Int:=([(0,0,true,true,3),(3,1,false,true,3)],0,0)
def SH (y:eD × Int × Int):Bool:=decide (y=P9)
theorem Lv {y:eD × Int × Int} (h:SH y=true):y=P9:=of_decide_eq_true h
theorem acX (m:Int):aY (fC m) 30 (aP.enc (.cons .str .nil) Y4) (fun r=>r=aT.enc (.bi (.cons (.list 5 (.agg (.cons (.int .i64) (.cons (.int .i64) (.cons .bool (.cons .bool (.cons (.int .i64) .nil))))))) (.cons (.int .i64) (.cons (.int .i64) .nil)))) P9):=
 aY.mono (cY (C:=Lo m) (n:=100000) (p:=(.bi (.cons (.list 5 (.agg (.cons (.int .i64) (.cons (.int .i64) (.cons .bool (.cons .bool (.cons (.int .i64) .nil))))))) (.cons (.int .i64) (.cons (.int .i64) .nil))))) (ok:=SH) (aW (gU m)) (by kernel_rfl) (by kernel_rfl) (by kernel_rfl)) fun r ⟨y,h1,h2⟩=>by rw [h1,Lv h2]
def E30:aQ:=⟨(.cons .str .nil),(.bi (.cons (.list 5 (.agg (.cons (.int .i64) (.cons (.int .i64) (.cons .bool (.cons .bool (.cons (.int .i64) .nil))))))) (.cons (.int .i64) (.cons (.int .i64) .nil)))),lu (α:=List UInt8) (β:=eD × Int × Int) [(Y4,P9)]⟩
theorem UO (m:Int):ap (fC m) 30 E30:=fun x y h=>by
 obtain ⟨e1,e2⟩:=jv (α:=List UInt8) (β:=eD × Int × Int) h
 subst e1; subst e2
 exact acX m
def Y5:List XC:=[(0,0,true,true,3),(3,1,false,true,3)]
def Qa:eD × Int:=([(3,1,false,false,3),(0,2,true,false,3)],0)
def SI (y:eD × Int):Bool:=decide (y=Qa)
theorem Lw {y:eD × Int} (h:SI y=true):y=Qa:=of_decide_eq_true h
theorem acY (m:Int):aY (fC m) 68 (aP.enc (.cons (.list 5 (.agg (.cons (.int .i64) (.cons (.int .i64) (.cons .bool (.cons .bool (.cons (.int .i64) .nil))))))) .nil) Y5) (fun r=>r=aT.enc (.bi (.cons (.list 5 (.agg (.cons (.int .i64) (.cons (.int .i64) (.cons .bool (.cons .bool (.cons (.int .i64) .nil))))))) (.cons (.int .i64) .nil))) Qa):=
 aY.mono (cY (C:=Lo m) (n:=100000) (p:=(.bi (.cons (.list 5 (.agg (.cons (.int .i64) (.cons (.int .i64) (.cons .bool (.cons .bool (.cons (.int .i64) .nil))))))) (.cons (.int .i64) .nil)))) (ok:=SI) (aW (gU m)) (by kernel_rfl) (by kernel_rfl) (by kernel_rfl)) fun r ⟨y,h1,h2⟩=>by rw [h1,Lw h2]
def E68:aQ:=⟨(.cons (.list 5 (.agg (.cons (.int .i64) (.cons (.int .i64) (.cons .bool (.cons .bool (.cons (.int .i64) .nil))))))) .nil),(.bi (.cons (.list 5 (.agg (.cons (.int .i64) (.cons (.int .i64) (.cons .bool (.cons .bool (.cons (.int .i64) .nil))))))) (.cons (.int .i64) .nil))),lu (α:=List XC) (β:=eD × Int) [(Y5,Qa)]⟩
theorem UP (m:Int):ap (fC m) 68 E68:=fun x y h=>by
 obtain ⟨e1,e2⟩:=jv (α:=List XC) (β:=eD × Int) h
 subst e1; subst e2
 exact acY m
def Y6:List XC:=[(0,0,true,true,2),(-1,1,true,true,2)]
def Qb:lN × Int:=([(-1,1)],0)
def SJ (y:lN × Int):Bool:=decide (y=Qb)
theorem Lx {y:lN × Int} (h:SJ y=true):y=Qb:=of_decide_eq_true h
theorem acZ (m:Int):aY (fC m) 43 (aP.enc (.cons (.list 5 (.agg (.cons (.int .i64) (.cons (.int .i64) (.cons .bool (.cons .bool (.cons (.int .i64) .nil))))))) .nil) Y6) (fun r=>r=aT.enc (.bi (.cons (.list 2 cz) (.cons (.int .i64) .nil))) Qb):=
 aY.mono (cY (C:=Lo m) (n:=100000) (p:=(.bi (.cons (.list 2 cz) (.cons (.int .i64) .nil)))) (ok:=SJ) (aW (gU m)) (by kernel_rfl) (by kernel_rfl) (by kernel_rfl)) fun r ⟨y,h1,h2⟩=>by rw [h1,Lx h2]
def E43:aQ:=⟨(.cons (.list 5 (.agg (.cons (.int .i64) (.cons (.int .i64) (.cons .bool (.cons .bool (.cons (.int .i64) .nil))))))) .nil),(.bi (.cons (.list 2 cz) (.cons (.int .i64) .nil))),lu (α:=List XC) (β:=lN × Int) [(Y6,Qb)]⟩
theorem UQ (m:Int):ap (fC m) 43 E43:=fun x y h=>by
 obtain ⟨e1,e2⟩:=jv (α:=List XC) (β:=lN × Int) h
 subst e1; subst e2
 exact acZ m
def Y7:List XC:=[(0,0,true,true,3),(3,1,false,true,3)]
def Qd:eu × Int:=([(0,0,1),(2,0,-1),(2,0,1),(1,1,-1),(1,1,1),(3,1,-1)],0)
def SK (y:eu × Int):Bool:=decide (y=Qd)
theorem Ly {y:eu × Int} (h:SK y=true):y=Qd:=of_decide_eq_true h
theorem ac0 (m:Int):aY (fC m) 39 (aP.enc (.cons (.list 5 (.agg (.cons (.int .i64) (.cons (.int .i64) (.cons .bool (.cons .bool (.cons (.int .i64) .nil))))))) .nil) Y7) (fun r=>r=aT.enc (.bi (.cons (.list 3 aw) (.cons (.int .i64) .nil))) Qd):=
 aY.mono (cY (C:=Lo m) (n:=100000) (p:=(.bi (.cons (.list 3 aw) (.cons (.int .i64) .nil)))) (ok:=SK) (aW (gU m)) (by kernel_rfl) (by kernel_rfl) (by kernel_rfl)) fun r ⟨y,h1,h2⟩=>by rw [h1,Ly h2]
def E39:aQ:=⟨(.cons (.list 5 (.agg (.cons (.int .i64) (.cons (.int .i64) (.cons .bool (.cons .bool (.cons (.int .i64) .nil))))))) .nil),(.bi (.cons (.list 3 aw) (.cons (.int .i64) .nil))),lu (α:=List XC) (β:=eu × Int) [(Y7,Qd)]⟩
theorem UR (m:Int):ap (fC m) 39 E39:=fun x y h=>by
 obtain ⟨e1,e2⟩:=jv (α:=List XC) (β:=eu × Int) h
 subst e1; subst e2
 exact ac0 m
def Y8:List XC:=[(3,1,false,false,3),(0,2,true,false,3)]
def Qe:pX × Int:=([0,1],0)
def SL (y:pX × Int):Bool:=decide (y=Qe)
theorem Lz {y:pX × Int} (h:SL y=true):y=Qe:=of_decide_eq_true h
theorem ac1 (m:Int):aY (fC m) 40 (aP.enc (.cons (.list 5 (.agg (.cons (.int .i64) (.cons (.int .i64) (.cons .bool (.cons .bool (.cons (.int .i64) .nil))))))) .nil) Y8) (fun r=>r=aT.enc (.bi (.cons (.list 1 (.int .i64)) (.cons (.int .i64) .nil))) Qe):=
 aY.mono (cY (C:=Lo m) (n:=100000) (p:=(.bi (.cons (.list 1 (.int .i64)) (.cons (.int .i64) .nil)))) (ok:=SL) (aW (gU m)) (by kernel_rfl) (by kernel_rfl) (by kernel_rfl)) fun r ⟨y,h1,h2⟩=>by rw [h1,Lz h2]
def E40:aQ:=⟨(.cons (.list 5 (.agg (.cons (.int .i64) (.cons (.int .i64) (.cons .bool (.cons .bool (.cons (.int .i64) .nil))))))) .nil),(.bi (.cons (.list 1 (.int .i64)) (.cons (.int .i64) .nil))),lu (α:=List XC) (β:=pX × Int) [(Y8,Qe)]⟩
theorem US (m:Int):ap (fC m) 40 E40:=fun x y h=>by
 obtain ⟨e1,e2⟩:=jv (α:=List XC) (β:=pX × Int) h
 subst e1; subst e2
 exact ac1 m
end Go.Proofs.YtldcljfjjoidhaaGreatDoor
