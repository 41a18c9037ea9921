/- The chapter's examples,call by call: programs. -/
import Derived.Test.YtldcljfjjoidhaaGreatDoorBraCa
set_option linter.all false
namespace Go.Proofs.YtldcljfjjoidhaaGreatDoor
open Go Go.Am
open List (map)
open Int (toNat)
open Go.IntKind (wrap)
open Go.Am.aR (fits)
set_option maxRecDepth 1000000
def Z8:List XB:=[(0,0,1),(2,0,-1),(2,0,1),(1,1,-1),(1,1,1),(3,1,-1)]
def Q8:fK × Int:=([(0,0,true,true,3),(3,1,false,true,3)],0)
def TT (y:fK × Int):Bool:=decide (y=Q8)
theorem Mo {y:fK × Int} (h:TT y=true):y=Q8:=of_decide_eq_true h
theorem aem (m:Int):a7 (gu m) 57 (aT.enc (.cons (.list 3 ay) .nil) Z8) (fun r=>r=aR.enc (.bp (.cons (.list 5 (.agg (.cons (.int .i64) (.cons (.int .i64) (.cons .bool (.cons .bool (.cons (.int .i64) .nil))))))) (.cons (.int .i64) .nil))) Q8):=
 a7.mono (dm (C:=Mk m) (n:=100000) (p:=(.bp (.cons (.list 5 (.agg (.cons (.int .i64) (.cons (.int .i64) (.cons .bool (.cons .bool (.cons (.int .i64) .nil))))))) (.cons (.int .i64) .nil)))) (ok:=TT) (aZ (iD m)) (by kernel_rfl) (by kernel_rfl) (by kernel_rfl)) fun r ⟨y,h1,h2⟩=>by rw [h1,Mo h2]
def Z9:List XB:=[(0,0,1),(2,0,-1),(2,0,1),(1,1,-1),(1,1,1)]
def Q9:fK × Int:=([(0,0,true,true,3),(0,2,true,false,2)],0)
def TU (y:fK × Int):Bool:=decide (y=Q9)
theorem Mp {y:fK × Int} (h:TU y=true):y=Q9:=of_decide_eq_true h
theorem aen (m:Int):a7 (gu m) 57 (aT.enc (.cons (.list 3 ay) .nil) Z9) (fun r=>r=aR.enc (.bp (.cons (.list 5 (.agg (.cons (.int .i64) (.cons (.int .i64) (.cons .bool (.cons .bool (.cons (.int .i64) .nil))))))) (.cons (.int .i64) .nil))) Q9):=
 a7.mono (dm (C:=Mk m) (n:=100000) (p:=(.bp (.cons (.list 5 (.agg (.cons (.int .i64) (.cons (.int .i64) (.cons .bool (.cons .bool (.cons (.int .i64) .nil))))))) (.cons (.int .i64) .nil)))) (ok:=TU) (aZ (iD m)) (by kernel_rfl) (by kernel_rfl) (by kernel_rfl)) fun r ⟨y,h1,h2⟩=>by rw [h1,Mp h2]
def E57:aS:=⟨(.cons (.list 3 ay) .nil),(.bp (.cons (.list 5 (.agg (.cons (.int .i64) (.cons (.int .i64) (.cons .bool (.cons .bool (.cons (.int .i64) .nil))))))) (.cons (.int .i64) .nil))),mr (α:=List XB) (β:=fK × Int) [(Z8,Q8),(Z9,Q9)]⟩
theorem VW (m:Int):ak (gu m) 57 E57:=fun x y h=>by
 rcases D7 (α:=List XB) (β:=fK × Int) h with ⟨e1,e2⟩ | ⟨e1,e2⟩
 ·subst e1; subst e2; exact aem m
 ·subst e1; subst e2; exact aen m
def aaa:List XC:=[(0,0,true,true,3),(3,1,false,true,3)]
def Ra:(List UInt8) × Int:=([97,116,32,48,32,48,32,114,105,103,104,116,32,117,112,32,51,10,97,116,32,51,32,49,32,108,101,102,116,32,117,112,32,51,10],0)
def TV (y:(List UInt8) × Int):Bool:=decide (y=Ra)
theorem Mq {y:(List UInt8) × Int} (h:TV y=true):y=Ra:=of_decide_eq_true h
theorem aeo (m:Int):a7 (gu m) 29 (aT.enc (.cons (.list 5 (.agg (.cons (.int .i64) (.cons (.int .i64) (.cons .bool (.cons .bool (.cons (.int .i64) .nil))))))) .nil) aaa) (fun r=>r=aR.enc (.bp (.cons .str (.cons (.int .i64) .nil))) Ra):=
 a7.mono (dm (C:=Mk m) (n:=100000) (p:=(.bp (.cons .str (.cons (.int .i64) .nil)))) (ok:=TV) (aZ (iD m)) (by kernel_rfl) (by kernel_rfl) (by kernel_rfl)) fun r ⟨y,h1,h2⟩=>by rw [h1,Mq h2]
def E29:aS:=⟨(.cons (.list 5 (.agg (.cons (.int .i64) (.cons (.int .i64) (.cons .bool (.cons .bool (.cons (.int .i64) .nil))))))) .nil),(.bp (.cons .str (.cons (.int .i64) .nil))),mr (α:=List XC) (β:=(List UInt8) × Int) [(aaa,Ra)]⟩
theorem VX (m:Int):ak (gu m) 29 E29:=fun x y h=>by
 obtain ⟨e1,e2⟩:=kb (α:=List XC) (β:=(List UInt8) × Int) h
 subst e1; subst e2
 exact aeo m
def aab:List UInt8:=[97,116,32,48,32,48,32,114,105,103,104,116,32,117,112,32,51,10,97,116,32,51,32,49,32,108,101,102,116,32,117,112,32,51,10]
def Rb:fK × Int × Int:=([(0,0,true,true,3),(3,1,false,true,3)],0,0)
def TW (y:fK × Int × Int):Bool:=decide (y=Rb)
theorem Mr {y:fK × Int × Int} (h:TW y=true):y=Rb:=of_decide_eq_true h
theorem aep (m:Int):a7 (gu m) 30 (aT.enc (.cons .str .nil) aab) (fun r=>r=aR.enc (.bp (.cons (.list 5 (.agg (.cons (.int .i64) (.cons (.int .i64) (.cons .bool (.cons .bool (.cons (.int .i64) .nil))))))) (.cons (.int .i64) (.cons (.int .i64) .nil)))) Rb):=
 a7.mono (dm (C:=Mk m) (n:=100000) (p:=(.bp (.cons (.list 5 (.agg (.cons (.int .i64) (.cons (.int .i64) (.cons .bool (.cons .bool (.cons (.int .i64) .nil))))))) (.cons (.int .i64) (.cons (.int .i64) .nil))))) (ok:=TW) (aZ (iD m)) (by kernel_rfl) (by kernel_rfl) (by kernel_rfl)) fun r ⟨y,h1,h2⟩=>by rw [h1,Mr h2]
def E30:aS:=⟨(.cons .str .nil),(.bp (.cons (.list 5 (.agg (.cons (.int .i64) (.cons (.int .i64) (.cons .bool (.cons .bool (.cons (.int .i64) .nil))))))) (.cons (.int .i64) (.cons (.int .i64) .nil)))),mr (α:=List UInt8) (β:=fK × Int × Int) [(aab,Rb)]⟩
theorem VY (m:Int):ak (gu m) 30 E30:=fun x y h=>by
 obtain ⟨e1,e2⟩:=kb (α:=List UInt8) (β:=fK × Int × Int) h
 subst e1; subst e2
 exact aep m
def aac:List XC:=[(0,0,true,true,3),(3,1,false,true,3)]
def Rc:fK × Int:=([(3,1,false,false,3),(0,2,true,false,3)],0)
def TX (y:fK × Int):Bool:=decide (y=Rc)
theorem Ms {y:fK × Int} (h:TX y=true):y=Rc:=of_decide_eq_true h
theorem aeq (m:Int):a7 (gu m) 68 (aT.enc (.cons (.list 5 (.agg (.cons (.int .i64) (.cons (.int .i64) (.cons .bool (.cons .bool (.cons (.int .i64) .nil))))))) .nil) aac) (fun r=>r=aR.enc (.bp (.cons (.list 5 (.agg (.cons (.int .i64) (.cons (.int .i64) (.cons .bool (.cons .bool (.cons (.int .i64) .nil))))))) (.cons (.int .i64) .nil))) Rc):=
 a7.mono (dm (C:=Mk m) (n:=100000) (p:=(.bp (.cons (.list 5 (.agg (.cons (.int .i64) (.cons (.int .i64) (.cons .bool (.cons .bool (.cons (.int .i64) .nil))))))) (.cons (.int .i64) .nil)))) (ok:=TX) (aZ (iD m)) (by kernel_rfl) (by kernel_rfl) (by kernel_rfl)) fun r ⟨y,h1,h2⟩=>by rw [h1,Ms h2]
def E68:aS:=⟨(.cons (.list 5 (.agg (.cons (.int .i64) (.cons (.int .i64) (.cons .bool (.cons .bool (.cons (.int .i64) .nil))))))) .nil),(.bp (.cons (.list 5 (.agg (.cons (.int .i64) (.cons (.int .i64) (.cons .bool (.cons .bool (.cons (.int .i64) .nil))))))) (.cons (.int .i64) .nil))),mr (α:=List XC) (β:=fK × Int) [(aac,Rc)]⟩
theorem VZ (m:Int):ak (gu m) 68 E68:=fun x y h=>by
 obtain ⟨e1,e2⟩:=kb (α:=List XC) (β:=fK × Int) h
 subst e1; subst e2
 exact aeq m
def aad:List XC:=[(0,0,true,true,2),(-1,1,true,true,2)]
def Re:hU × Int:=([(-1,1)],0)
def TY (y:hU × Int):Bool:=decide (y=Re)
theorem Mt {y:hU × Int} (h:TY y=true):y=Re:=of_decide_eq_true h
theorem aer (m:Int):a7 (gu m) 43 (aT.enc (.cons (.list 5 (.agg (.cons (.int .i64) (.cons (.int .i64) (.cons .bool (.cons .bool (.cons (.int .i64) .nil))))))) .nil) aad) (fun r=>r=aR.enc (.bp (.cons (.list 2 fI) (.cons (.int .i64) .nil))) Re):=
 a7.mono (dm (C:=Mk m) (n:=100000) (p:=(.bp (.cons (.list 2 fI) (.cons (.int .i64) .nil)))) (ok:=TY) (aZ (iD m)) (by kernel_rfl) (by kernel_rfl) (by kernel_rfl)) fun r ⟨y,h1,h2⟩=>by rw [h1,Mt h2]
def E43:aS:=⟨(.cons (.list 5 (.agg (.cons (.int .i64) (.cons (.int .i64) (.cons .bool (.cons .bool (.cons (.int .i64) .nil))))))) .nil),(.bp (.cons (.list 2 fI) (.cons (.int .i64) .nil))),mr (α:=List XC) (β:=hU × Int) [(aad,Re)]⟩
theorem V0 (m:Int):ak (gu m) 43 E43:=fun x y h=>by
 obtain ⟨e1,e2⟩:=kb (α:=List XC) (β:=hU × Int) h
 subst e1; subst e2
 exact aer m
def aae:List XC:=[(0,0,true,true,3),(3,1,false,true,3)]
def Rf:dY × Int:=([(0,0,1),(2,0,-1),(2,0,1),(1,1,-1),(1,1,1),(3,1,-1)],0)
def TZ (y:dY × Int):Bool:=decide (y=Rf)
theorem Mu {y:dY × Int} (h:TZ y=true):y=Rf:=of_decide_eq_true h
theorem aes (m:Int):a7 (gu m) 39 (aT.enc (.cons (.list 5 (.agg (.cons (.int .i64) (.cons (.int .i64) (.cons .bool (.cons .bool (.cons (.int .i64) .nil))))))) .nil) aae) (fun r=>r=aR.enc (.bp (.cons (.list 3 ay) (.cons (.int .i64) .nil))) Rf):=
 a7.mono (dm (C:=Mk m) (n:=100000) (p:=(.bp (.cons (.list 3 ay) (.cons (.int .i64) .nil)))) (ok:=TZ) (aZ (iD m)) (by kernel_rfl) (by kernel_rfl) (by kernel_rfl)) fun r ⟨y,h1,h2⟩=>by rw [h1,Mu h2]
def E39:aS:=⟨(.cons (.list 5 (.agg (.cons (.int .i64) (.cons (.int .i64) (.cons .bool (.cons .bool (.cons (.int .i64) .nil))))))) .nil),(.bp (.cons (.list 3 ay) (.cons (.int .i64) .nil))),mr (α:=List XC) (β:=dY × Int) [(aae,Rf)]⟩
theorem V1 (m:Int):ak (gu m) 39 E39:=fun x y h=>by
 obtain ⟨e1,e2⟩:=kb (α:=List XC) (β:=dY × Int) h
 subst e1; subst e2
 exact aes m
def aaf:List XC:=[(3,1,false,false,3),(0,2,true,false,3)]
def Rg:lW × Int:=([0,1],0)
def T0 (y:lW × Int):Bool:=decide (y=Rg)
theorem Mw {y:lW × Int} (h:T0 y=true):y=Rg:=of_decide_eq_true h
theorem aet (m:Int):a7 (gu m) 40 (aT.enc (.cons (.list 5 (.agg (.cons (.int .i64) (.cons (.int .i64) (.cons .bool (.cons .bool (.cons (.int .i64) .nil))))))) .nil) aaf) (fun r=>r=aR.enc (.bp (.cons (.list 1 (.int .i64)) (.cons (.int .i64) .nil))) Rg):=
 a7.mono (dm (C:=Mk m) (n:=100000) (p:=(.bp (.cons (.list 1 (.int .i64)) (.cons (.int .i64) .nil)))) (ok:=T0) (aZ (iD m)) (by kernel_rfl) (by kernel_rfl) (by kernel_rfl)) fun r ⟨y,h1,h2⟩=>by rw [h1,Mw h2]
def E40:aS:=⟨(.cons (.list 5 (.agg (.cons (.int .i64) (.cons (.int .i64) (.cons .bool (.cons .bool (.cons (.int .i64) .nil))))))) .nil),(.bp (.cons (.list 1 (.int .i64)) (.cons (.int .i64) .nil))),mr (α:=List XC) (β:=lW × Int) [(aaf,Rg)]⟩
theorem V2 (m:Int):ak (gu m) 40 E40:=fun x y h=>by
 obtain ⟨e1,e2⟩:=kb (α:=List XC) (β:=lW × Int) h
 subst e1; subst e2
 exact aet m
end Go.Proofs.YtldcljfjjoidhaaGreatDoor
