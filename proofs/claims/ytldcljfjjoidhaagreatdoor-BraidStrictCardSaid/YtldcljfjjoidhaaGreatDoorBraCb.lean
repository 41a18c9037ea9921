/- The chapter's examples,call by call: programs. -/
import Derived.Test.YtldcljfjjoidhaaGreatDoorBraCa
set_option linter.all false
namespace Go.Proofs.YtldcljfjjoidhaaGreatDoor
open Go Go.Am
open List (map)
open Int (toNat)
open Go.IntKind (wrap)
open Go.Am.aM (fits)
set_option maxRecDepth 1000000
def aan:List XB:=[(0,0,1),(2,0,-1),(2,0,1),(1,1,-1),(1,1,1),(3,1,-1)]
def RU:ey × Int:=([(0,0,true,true,3),(3,1,false,true,3)],0)
def Un (y:ey × Int):Bool:=decide (y=RU)
theorem Ng {y:ey × Int} (h:Un y=true):y=RU:=of_decide_eq_true h
theorem aed (m:Int):aR (eZ m) 57 (aJ.enc (.cons (.list 3 ba) .nil) aan) (fun r=>r=aM.enc (.bk (.cons (.list 5 (.agg (.cons (.int .i64) (.cons (.int .i64) (.cons .bool (.cons .bool (.cons (.int .i64) .nil))))))) (.cons (.int .i64) .nil))) RU):=
 aR.mono (cS (C:=Kv m) (n:=100000) (p:=(.bk (.cons (.list 5 (.agg (.cons (.int .i64) (.cons (.int .i64) (.cons .bool (.cons .bool (.cons (.int .i64) .nil))))))) (.cons (.int .i64) .nil)))) (ok:=Un) (fL (gv m)) (by kernel_rfl) (by kernel_rfl) (by kernel_rfl)) fun r ⟨y,h1,h2⟩=>by rw [h1,Ng h2]
def aao:List XB:=[(0,0,1),(2,0,-1),(2,0,1),(1,1,-1),(1,1,1)]
def RV:ey × Int:=([(0,0,true,true,3),(0,2,true,false,2)],0)
def Uo (y:ey × Int):Bool:=decide (y=RV)
theorem Nh {y:ey × Int} (h:Uo y=true):y=RV:=of_decide_eq_true h
theorem aee (m:Int):aR (eZ m) 57 (aJ.enc (.cons (.list 3 ba) .nil) aao) (fun r=>r=aM.enc (.bk (.cons (.list 5 (.agg (.cons (.int .i64) (.cons (.int .i64) (.cons .bool (.cons .bool (.cons (.int .i64) .nil))))))) (.cons (.int .i64) .nil))) RV):=
 aR.mono (cS (C:=Kv m) (n:=100000) (p:=(.bk (.cons (.list 5 (.agg (.cons (.int .i64) (.cons (.int .i64) (.cons .bool (.cons .bool (.cons (.int .i64) .nil))))))) (.cons (.int .i64) .nil)))) (ok:=Uo) (fL (gv m)) (by kernel_rfl) (by kernel_rfl) (by kernel_rfl)) fun r ⟨y,h1,h2⟩=>by rw [h1,Nh h2]
def E57:aP:=⟨(.cons (.list 3 ba) .nil),(.bk (.cons (.list 5 (.agg (.cons (.int .i64) (.cons (.int .i64) (.cons .bool (.cons .bool (.cons (.int .i64) .nil))))))) (.cons (.int .i64) .nil))),lT (α:=List XB) (β:=ey × Int) [(aan,RU),(aao,RV)]⟩
theorem Wh (m:Int):ai (eZ m) 57 E57:=fun x y h=>by
 rcases ED (α:=List XB) (β:=ey × Int) h with ⟨e1,e2⟩|⟨e1,e2⟩
 ·subst e1; subst e2; exact aed m
 ·subst e1; subst e2; exact aee m
def aap:List XC:=[(0,0,true,true,3),(3,1,false,true,3)]
def RW:(List UInt8) × Int:=([97,116,32,48,32,48,32,114,105,103,104,116,32,117,112,32,51,10,97,116,32,51,32,49,32,108,101,102,116,32,117,112,32,51,10],0)
def Up (y:(List UInt8) × Int):Bool:=decide (y=RW)
theorem Ni {y:(List UInt8) × Int} (h:Up y=true):y=RW:=of_decide_eq_true h
theorem aef (m:Int):aR (eZ m) 29 (aJ.enc (.cons (.list 5 (.agg (.cons (.int .i64) (.cons (.int .i64) (.cons .bool (.cons .bool (.cons (.int .i64) .nil))))))) .nil) aap) (fun r=>r=aM.enc (.bk (.cons .str (.cons (.int .i64) .nil))) RW):=
 aR.mono (cS (C:=Kv m) (n:=100000) (p:=(.bk (.cons .str (.cons (.int .i64) .nil)))) (ok:=Up) (fL (gv m)) (by kernel_rfl) (by kernel_rfl) (by kernel_rfl)) fun r ⟨y,h1,h2⟩=>by rw [h1,Ni h2]
def E29:aP:=⟨(.cons (.list 5 (.agg (.cons (.int .i64) (.cons (.int .i64) (.cons .bool (.cons .bool (.cons (.int .i64) .nil))))))) .nil),(.bk (.cons .str (.cons (.int .i64) .nil))),lT (α:=List XC) (β:=(List UInt8) × Int) [(aap,RW)]⟩
theorem Wi (m:Int):ai (eZ m) 29 E29:=fun x y h=>by
 obtain ⟨e1,e2⟩:=jH (α:=List XC) (β:=(List UInt8) × Int) h;subst e1; subst e2;exact aef m
def aaq:List UInt8:=[97,116,32,48,32,48,32,114,105,103,104,116,32,117,112,32,51,10,97,116,32,51,32,49,32,108,101,102,116,32,117,112,32,51,10]
def RX:ey × Int × Int:=([(0,0,true,true,3),(3,1,false,true,3)],0,0)
def Uq (y:ey × Int × Int):Bool:=decide (y=RX)
theorem Nj {y:ey × Int × Int} (h:Uq y=true):y=RX:=of_decide_eq_true h
theorem aeg (m:Int):aR (eZ m) 30 (aJ.enc (.cons .str .nil) aaq) (fun r=>r=aM.enc (.bk (.cons (.list 5 (.agg (.cons (.int .i64) (.cons (.int .i64) (.cons .bool (.cons .bool (.cons (.int .i64) .nil))))))) (.cons (.int .i64) (.cons (.int .i64) .nil)))) RX):=
 aR.mono (cS (C:=Kv m) (n:=100000) (p:=(.bk (.cons (.list 5 (.agg (.cons (.int .i64) (.cons (.int .i64) (.cons .bool (.cons .bool (.cons (.int .i64) .nil))))))) (.cons (.int .i64) (.cons (.int .i64) .nil))))) (ok:=Uq) (fL (gv m)) (by kernel_rfl) (by kernel_rfl) (by kernel_rfl)) fun r ⟨y,h1,h2⟩=>by rw [h1,Nj h2]
def E30:aP:=⟨(.cons .str .nil),(.bk (.cons (.list 5 (.agg (.cons (.int .i64) (.cons (.int .i64) (.cons .bool (.cons .bool (.cons (.int .i64) .nil))))))) (.cons (.int .i64) (.cons (.int .i64) .nil)))),lT (α:=List UInt8) (β:=ey × Int × Int) [(aaq,RX)]⟩
theorem Wj (m:Int):ai (eZ m) 30 E30:=fun x y h=>by
 obtain ⟨e1,e2⟩:=jH (α:=List UInt8) (β:=ey × Int × Int) h;subst e1; subst e2;exact aeg m
def aar:List XC:=[(0,0,true,true,3),(3,1,false,true,3)]
def RY:ey × Int:=([(3,1,false,false,3),(0,2,true,false,3)],0)
def Ur (y:ey × Int):Bool:=decide (y=RY)
theorem Nk {y:ey × Int} (h:Ur y=true):y=RY:=of_decide_eq_true h
theorem aeh (m:Int):aR (eZ m) 68 (aJ.enc (.cons (.list 5 (.agg (.cons (.int .i64) (.cons (.int .i64) (.cons .bool (.cons .bool (.cons (.int .i64) .nil))))))) .nil) aar) (fun r=>r=aM.enc (.bk (.cons (.list 5 (.agg (.cons (.int .i64) (.cons (.int .i64) (.cons .bool (.cons .bool (.cons (.int .i64) .nil))))))) (.cons (.int .i64) .nil))) RY):=
 aR.mono (cS (C:=Kv m) (n:=100000) (p:=(.bk (.cons (.list 5 (.agg (.cons (.int .i64) (.cons (.int .i64) (.cons .bool (.cons .bool (.cons (.int .i64) .nil))))))) (.cons (.int .i64) .nil)))) (ok:=Ur) (fL (gv m)) (by kernel_rfl) (by kernel_rfl) (by kernel_rfl)) fun r ⟨y,h1,h2⟩=>by rw [h1,Nk h2]
def E68:aP:=⟨(.cons (.list 5 (.agg (.cons (.int .i64) (.cons (.int .i64) (.cons .bool (.cons .bool (.cons (.int .i64) .nil))))))) .nil),(.bk (.cons (.list 5 (.agg (.cons (.int .i64) (.cons (.int .i64) (.cons .bool (.cons .bool (.cons (.int .i64) .nil))))))) (.cons (.int .i64) .nil))),lT (α:=List XC) (β:=ey × Int) [(aar,RY)]⟩
theorem Wk (m:Int):ai (eZ m) 68 E68:=fun x y h=>by
 obtain ⟨e1,e2⟩:=jH (α:=List XC) (β:=ey × Int) h;subst e1; subst e2;exact aeh m
def aas:List XC:=[(0,0,true,true,2),(-1,1,true,true,2)]
def RZ:lS × Int:=([(-1,1)],0)
def Us (y:lS × Int):Bool:=decide (y=RZ)
theorem Nl {y:lS × Int} (h:Us y=true):y=RZ:=of_decide_eq_true h
theorem aei (m:Int):aR (eZ m) 43 (aJ.enc (.cons (.list 5 (.agg (.cons (.int .i64) (.cons (.int .i64) (.cons .bool (.cons .bool (.cons (.int .i64) .nil))))))) .nil) aas) (fun r=>r=aM.enc (.bk (.cons (.list 2 da) (.cons (.int .i64) .nil))) RZ):=
 aR.mono (cS (C:=Kv m) (n:=100000) (p:=(.bk (.cons (.list 2 da) (.cons (.int .i64) .nil)))) (ok:=Us) (fL (gv m)) (by kernel_rfl) (by kernel_rfl) (by kernel_rfl)) fun r ⟨y,h1,h2⟩=>by rw [h1,Nl h2]
def E43:aP:=⟨(.cons (.list 5 (.agg (.cons (.int .i64) (.cons (.int .i64) (.cons .bool (.cons .bool (.cons (.int .i64) .nil))))))) .nil),(.bk (.cons (.list 2 da) (.cons (.int .i64) .nil))),lT (α:=List XC) (β:=lS × Int) [(aas,RZ)]⟩
theorem Wl (m:Int):ai (eZ m) 43 E43:=fun x y h=>by
 obtain ⟨e1,e2⟩:=jH (α:=List XC) (β:=lS × Int) h;subst e1; subst e2;exact aei m
def aat:List XC:=[(0,0,true,true,3),(3,1,false,true,3)]
def R4:mY × Int:=([(0,0,1),(2,0,-1),(2,0,1),(1,1,-1),(1,1,1),(3,1,-1)],0)
def Ut (y:mY × Int):Bool:=decide (y=R4)
theorem Nn {y:mY × Int} (h:Ut y=true):y=R4:=of_decide_eq_true h
theorem aej (m:Int):aR (eZ m) 39 (aJ.enc (.cons (.list 5 (.agg (.cons (.int .i64) (.cons (.int .i64) (.cons .bool (.cons .bool (.cons (.int .i64) .nil))))))) .nil) aat) (fun r=>r=aM.enc (.bk (.cons (.list 3 ba) (.cons (.int .i64) .nil))) R4):=
 aR.mono (cS (C:=Kv m) (n:=100000) (p:=(.bk (.cons (.list 3 ba) (.cons (.int .i64) .nil)))) (ok:=Ut) (fL (gv m)) (by kernel_rfl) (by kernel_rfl) (by kernel_rfl)) fun r ⟨y,h1,h2⟩=>by rw [h1,Nn h2]
def E39:aP:=⟨(.cons (.list 5 (.agg (.cons (.int .i64) (.cons (.int .i64) (.cons .bool (.cons .bool (.cons (.int .i64) .nil))))))) .nil),(.bk (.cons (.list 3 ba) (.cons (.int .i64) .nil))),lT (α:=List XC) (β:=mY × Int) [(aat,R4)]⟩
theorem Wm (m:Int):ai (eZ m) 39 E39:=fun x y h=>by
 obtain ⟨e1,e2⟩:=jH (α:=List XC) (β:=mY × Int) h;subst e1; subst e2;exact aej m
def aau:List XC:=[(3,1,false,false,3),(0,2,true,false,3)]
def R5:oQ × Int:=([0,1],0)
def Uu (y:oQ × Int):Bool:=decide (y=R5)
theorem No {y:oQ × Int} (h:Uu y=true):y=R5:=of_decide_eq_true h
theorem aek (m:Int):aR (eZ m) 40 (aJ.enc (.cons (.list 5 (.agg (.cons (.int .i64) (.cons (.int .i64) (.cons .bool (.cons .bool (.cons (.int .i64) .nil))))))) .nil) aau) (fun r=>r=aM.enc (.bk (.cons (.list 1 (.int .i64)) (.cons (.int .i64) .nil))) R5):=
 aR.mono (cS (C:=Kv m) (n:=100000) (p:=(.bk (.cons (.list 1 (.int .i64)) (.cons (.int .i64) .nil)))) (ok:=Uu) (fL (gv m)) (by kernel_rfl) (by kernel_rfl) (by kernel_rfl)) fun r ⟨y,h1,h2⟩=>by rw [h1,No h2]
def E40:aP:=⟨(.cons (.list 5 (.agg (.cons (.int .i64) (.cons (.int .i64) (.cons .bool (.cons .bool (.cons (.int .i64) .nil))))))) .nil),(.bk (.cons (.list 1 (.int .i64)) (.cons (.int .i64) .nil))),lT (α:=List XC) (β:=oQ × Int) [(aau,R5)]⟩
theorem Wn (m:Int):ai (eZ m) 40 E40:=fun x y h=>by
 obtain ⟨e1,e2⟩:=jH (α:=List XC) (β:=oQ × Int) h;subst e1; subst e2;exact aek m
end Go.Proofs.YtldcljfjjoidhaaGreatDoor
