/- The chapter's examples,call by call: programs. -/
import Derived.Test.YtldcljfjjoidhaaGreatDoorBraCa
set_option linter.all false
namespace Go.Proofs.YtldcljfjjoidhaaGreatDoor
open Go Go.Am
open List (map)
open Int (toNat)
open Go.IntKind (wrap)
open Go.Am.aO (fits)
set_option maxRecDepth 1000000
def Xt:List XB:=[(0,0,1),(2,0,-1),(2,0,1),(1,1,-1),(1,1,1),(3,1,-1)]
def PG:yz × Int:=([(0,0,true,true,3),(3,1,false,true,3)],0)
def RB (y:yz × Int):Bool:=decide (y=PG)
theorem K9 {y:yz × Int} (h:RB y=true):y=PG:=of_decide_eq_true h
theorem aa8 (m:Int):aW (fK m) 57 (aP.enc (.cons (.list 3 au) .nil) Xt) (fun r=>r=aO.enc (.bh (.cons (.list 5 (.agg (.cons (.int .i64) (.cons (.int .i64) (.cons .bool (.cons .bool (.cons (.int .i64) .nil))))))) (.cons (.int .i64) .nil))) PG):=
 aW.mono (cQ (C:=K5 m) (n:=100000) (p:=(.bh (.cons (.list 5 (.agg (.cons (.int .i64) (.cons (.int .i64) (.cons .bool (.cons .bool (.cons (.int .i64) .nil))))))) (.cons (.int .i64) .nil)))) (ok:=RB) (bn (gV m)) (by kernel_rfl) (by kernel_rfl) (by kernel_rfl)) fun r ⟨y,h1,h2⟩=>by rw [h1,K9 h2]
def Xu:List XB:=[(0,0,1),(2,0,-1),(2,0,1),(1,1,-1),(1,1,1)]
def PH:yz × Int:=([(0,0,true,true,3),(0,2,true,false,2)],0)
def RC (y:yz × Int):Bool:=decide (y=PH)
theorem La {y:yz × Int} (h:RC y=true):y=PH:=of_decide_eq_true h
theorem aa9 (m:Int):aW (fK m) 57 (aP.enc (.cons (.list 3 au) .nil) Xu) (fun r=>r=aO.enc (.bh (.cons (.list 5 (.agg (.cons (.int .i64) (.cons (.int .i64) (.cons .bool (.cons .bool (.cons (.int .i64) .nil))))))) (.cons (.int .i64) .nil))) PH):=
 aW.mono (cQ (C:=K5 m) (n:=100000) (p:=(.bh (.cons (.list 5 (.agg (.cons (.int .i64) (.cons (.int .i64) (.cons .bool (.cons .bool (.cons (.int .i64) .nil))))))) (.cons (.int .i64) .nil)))) (ok:=RC) (bn (gV m)) (by kernel_rfl) (by kernel_rfl) (by kernel_rfl)) fun r ⟨y,h1,h2⟩=>by rw [h1,La h2]
def E57:aZ:=⟨(.cons (.list 3 au) .nil),(.bh (.cons (.list 5 (.agg (.cons (.int .i64) (.cons (.int .i64) (.cons .bool (.cons .bool (.cons (.int .i64) .nil))))))) (.cons (.int .i64) .nil))),lC (α:=List XB) (β:=yz × Int) [(Xt,PG),(Xu,PH)]⟩
theorem TP (m:Int):ap (fK m) 57 E57:=fun x y h=>by
 rcases Da (α:=List XB) (β:=yz × Int) h with ⟨e1,e2⟩ | ⟨e1,e2⟩
 ·subst e1; subst e2; exact aa8 m
 ·subst e1; subst e2; exact aa9 m
def Xv:List XC:=[(0,0,true,true,3),(3,1,false,true,3)]
def PI:(List UInt8) × Int:=([97,116,32,48,32,48,32,114,105,103,104,116,32,117,112,32,51,10,97,116,32,51,32,49,32,108,101,102,116,32,117,112,32,51,10],0)
def RD (y:(List UInt8) × Int):Bool:=decide (y=PI)
theorem Lb {y:(List UInt8) × Int} (h:RD y=true):y=PI:=of_decide_eq_true h
theorem aba (m:Int):aW (fK m) 29 (aP.enc (.cons (.list 5 (.agg (.cons (.int .i64) (.cons (.int .i64) (.cons .bool (.cons .bool (.cons (.int .i64) .nil))))))) .nil) Xv) (fun r=>r=aO.enc (.bh (.cons .str (.cons (.int .i64) .nil))) PI):=
 aW.mono (cQ (C:=K5 m) (n:=100000) (p:=(.bh (.cons .str (.cons (.int .i64) .nil)))) (ok:=RD) (bn (gV m)) (by kernel_rfl) (by kernel_rfl) (by kernel_rfl)) fun r ⟨y,h1,h2⟩=>by rw [h1,Lb h2]
def E29:aZ:=⟨(.cons (.list 5 (.agg (.cons (.int .i64) (.cons (.int .i64) (.cons .bool (.cons .bool (.cons (.int .i64) .nil))))))) .nil),(.bh (.cons .str (.cons (.int .i64) .nil))),lC (α:=List XC) (β:=(List UInt8) × Int) [(Xv,PI)]⟩
theorem TQ (m:Int):ap (fK m) 29 E29:=fun x y h=>by
 obtain ⟨e1,e2⟩:=jv (α:=List XC) (β:=(List UInt8) × Int) h
 subst e1; subst e2
 exact aba m
def Xw:List UInt8:=[97,116,32,48,32,48,32,114,105,103,104,116,32,117,112,32,51,10,97,116,32,51,32,49,32,108,101,102,116,32,117,112,32,51,10]
def PJ:yz × Int × Int:=([(0,0,true,true,3),(3,1,false,true,3)],0,0)
def RE (y:yz × Int × Int):Bool:=decide (y=PJ)
theorem Lc {y:yz × Int × Int} (h:RE y=true):y=PJ:=of_decide_eq_true h
theorem abb (m:Int):aW (fK m) 30 (aP.enc (.cons .str .nil) Xw) (fun r=>r=aO.enc (.bh (.cons (.list 5 (.agg (.cons (.int .i64) (.cons (.int .i64) (.cons .bool (.cons .bool (.cons (.int .i64) .nil))))))) (.cons (.int .i64) (.cons (.int .i64) .nil)))) PJ):=
 aW.mono (cQ (C:=K5 m) (n:=100000) (p:=(.bh (.cons (.list 5 (.agg (.cons (.int .i64) (.cons (.int .i64) (.cons .bool (.cons .bool (.cons (.int .i64) .nil))))))) (.cons (.int .i64) (.cons (.int .i64) .nil))))) (ok:=RE) (bn (gV m)) (by kernel_rfl) (by kernel_rfl) (by kernel_rfl)) fun r ⟨y,h1,h2⟩=>by rw [h1,Lc h2]
def E30:aZ:=⟨(.cons .str .nil),(.bh (.cons (.list 5 (.agg (.cons (.int .i64) (.cons (.int .i64) (.cons .bool (.cons .bool (.cons (.int .i64) .nil))))))) (.cons (.int .i64) (.cons (.int .i64) .nil)))),lC (α:=List UInt8) (β:=yz × Int × Int) [(Xw,PJ)]⟩
theorem TS (m:Int):ap (fK m) 30 E30:=fun x y h=>by
 obtain ⟨e1,e2⟩:=jv (α:=List UInt8) (β:=yz × Int × Int) h
 subst e1; subst e2
 exact abb m
def Xx:List XC:=[(0,0,true,true,3),(3,1,false,true,3)]
def PK:yz × Int:=([(3,1,false,false,3),(0,2,true,false,3)],0)
def RG (y:yz × Int):Bool:=decide (y=PK)
theorem Ld {y:yz × Int} (h:RG y=true):y=PK:=of_decide_eq_true h
theorem abc (m:Int):aW (fK m) 68 (aP.enc (.cons (.list 5 (.agg (.cons (.int .i64) (.cons (.int .i64) (.cons .bool (.cons .bool (.cons (.int .i64) .nil))))))) .nil) Xx) (fun r=>r=aO.enc (.bh (.cons (.list 5 (.agg (.cons (.int .i64) (.cons (.int .i64) (.cons .bool (.cons .bool (.cons (.int .i64) .nil))))))) (.cons (.int .i64) .nil))) PK):=
 aW.mono (cQ (C:=K5 m) (n:=100000) (p:=(.bh (.cons (.list 5 (.agg (.cons (.int .i64) (.cons (.int .i64) (.cons .bool (.cons .bool (.cons (.int .i64) .nil))))))) (.cons (.int .i64) .nil)))) (ok:=RG) (bn (gV m)) (by kernel_rfl) (by kernel_rfl) (by kernel_rfl)) fun r ⟨y,h1,h2⟩=>by rw [h1,Ld h2]
def E68:aZ:=⟨(.cons (.list 5 (.agg (.cons (.int .i64) (.cons (.int .i64) (.cons .bool (.cons .bool (.cons (.int .i64) .nil))))))) .nil),(.bh (.cons (.list 5 (.agg (.cons (.int .i64) (.cons (.int .i64) (.cons .bool (.cons .bool (.cons (.int .i64) .nil))))))) (.cons (.int .i64) .nil))),lC (α:=List XC) (β:=yz × Int) [(Xx,PK)]⟩
theorem TT (m:Int):ap (fK m) 68 E68:=fun x y h=>by
 obtain ⟨e1,e2⟩:=jv (α:=List XC) (β:=yz × Int) h
 subst e1; subst e2
 exact abc m
def Xy:List XC:=[(0,0,true,true,2),(-1,1,true,true,2)]
def PL:qO × Int:=([(-1,1)],0)
def RH (y:qO × Int):Bool:=decide (y=PL)
theorem Le {y:qO × Int} (h:RH y=true):y=PL:=of_decide_eq_true h
theorem abd (m:Int):aW (fK m) 43 (aP.enc (.cons (.list 5 (.agg (.cons (.int .i64) (.cons (.int .i64) (.cons .bool (.cons .bool (.cons (.int .i64) .nil))))))) .nil) Xy) (fun r=>r=aO.enc (.bh (.cons (.list 2 fI) (.cons (.int .i64) .nil))) PL):=
 aW.mono (cQ (C:=K5 m) (n:=100000) (p:=(.bh (.cons (.list 2 fI) (.cons (.int .i64) .nil)))) (ok:=RH) (bn (gV m)) (by kernel_rfl) (by kernel_rfl) (by kernel_rfl)) fun r ⟨y,h1,h2⟩=>by rw [h1,Le h2]
def E43:aZ:=⟨(.cons (.list 5 (.agg (.cons (.int .i64) (.cons (.int .i64) (.cons .bool (.cons .bool (.cons (.int .i64) .nil))))))) .nil),(.bh (.cons (.list 2 fI) (.cons (.int .i64) .nil))),lC (α:=List XC) (β:=qO × Int) [(Xy,PL)]⟩
theorem TU (m:Int):ap (fK m) 43 E43:=fun x y h=>by
 obtain ⟨e1,e2⟩:=jv (α:=List XC) (β:=qO × Int) h
 subst e1; subst e2
 exact abd m
def Xz:List XC:=[(0,0,true,true,3),(3,1,false,true,3)]
def PM:bO × Int:=([(0,0,1),(2,0,-1),(2,0,1),(1,1,-1),(1,1,1),(3,1,-1)],0)
def RI (y:bO × Int):Bool:=decide (y=PM)
theorem Lf {y:bO × Int} (h:RI y=true):y=PM:=of_decide_eq_true h
theorem abe (m:Int):aW (fK m) 39 (aP.enc (.cons (.list 5 (.agg (.cons (.int .i64) (.cons (.int .i64) (.cons .bool (.cons .bool (.cons (.int .i64) .nil))))))) .nil) Xz) (fun r=>r=aO.enc (.bh (.cons (.list 3 au) (.cons (.int .i64) .nil))) PM):=
 aW.mono (cQ (C:=K5 m) (n:=100000) (p:=(.bh (.cons (.list 3 au) (.cons (.int .i64) .nil)))) (ok:=RI) (bn (gV m)) (by kernel_rfl) (by kernel_rfl) (by kernel_rfl)) fun r ⟨y,h1,h2⟩=>by rw [h1,Lf h2]
def E39:aZ:=⟨(.cons (.list 5 (.agg (.cons (.int .i64) (.cons (.int .i64) (.cons .bool (.cons .bool (.cons (.int .i64) .nil))))))) .nil),(.bh (.cons (.list 3 au) (.cons (.int .i64) .nil))),lC (α:=List XC) (β:=bO × Int) [(Xz,PM)]⟩
theorem TV (m:Int):ap (fK m) 39 E39:=fun x y h=>by
 obtain ⟨e1,e2⟩:=jv (α:=List XC) (β:=bO × Int) h
 subst e1; subst e2
 exact abe m
def XD:List XC:=[(3,1,false,false,3),(0,2,true,false,3)]
def PN:qP × Int:=([0,1],0)
def RJ (y:qP × Int):Bool:=decide (y=PN)
theorem Lg {y:qP × Int} (h:RJ y=true):y=PN:=of_decide_eq_true h
theorem abf (m:Int):aW (fK m) 40 (aP.enc (.cons (.list 5 (.agg (.cons (.int .i64) (.cons (.int .i64) (.cons .bool (.cons .bool (.cons (.int .i64) .nil))))))) .nil) XD) (fun r=>r=aO.enc (.bh (.cons (.list 1 (.int .i64)) (.cons (.int .i64) .nil))) PN):=
 aW.mono (cQ (C:=K5 m) (n:=100000) (p:=(.bh (.cons (.list 1 (.int .i64)) (.cons (.int .i64) .nil)))) (ok:=RJ) (bn (gV m)) (by kernel_rfl) (by kernel_rfl) (by kernel_rfl)) fun r ⟨y,h1,h2⟩=>by rw [h1,Lg h2]
def E40:aZ:=⟨(.cons (.list 5 (.agg (.cons (.int .i64) (.cons (.int .i64) (.cons .bool (.cons .bool (.cons (.int .i64) .nil))))))) .nil),(.bh (.cons (.list 1 (.int .i64)) (.cons (.int .i64) .nil))),lC (α:=List XC) (β:=qP × Int) [(XD,PN)]⟩
theorem TW (m:Int):ap (fK m) 40 E40:=fun x y h=>by
 obtain ⟨e1,e2⟩:=jv (α:=List XC) (β:=qP × Int) h
 subst e1; subst e2
 exact abf m
end Go.Proofs.YtldcljfjjoidhaaGreatDoor
