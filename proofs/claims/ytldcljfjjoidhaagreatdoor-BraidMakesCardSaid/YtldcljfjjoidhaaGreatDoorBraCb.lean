/- The chapter's examples,call by call: programs. -/
import Derived.Test.YtldcljfjjoidhaaGreatDoorBraCa
set_option linter.all false
namespace Go.Proofs.YtldcljfjjoidhaaGreatDoor
open Go Go.Am
open List (map)
open Int (toNat)
open Go.IntKind (wrap)
open Go.Am.aO (fits)
set_option maxRecDepth 1000000
def adO:List XB:=[(0,0,1),(2,0,-1),(2,0,1),(1,1,-1),(1,1,1),(3,1,-1)]
def UE:iO × Int:=([(0,0,true,true,3),(3,1,false,true,3)],0)
def Xn (y:iO × Int):Bool:=decide (y=UE)
theorem Pd {y:iO × Int} (h:Xn y=true):y=UE:=of_decide_eq_true h
theorem ahT (m:Int):a6 (gT m) 57 (aQ.enc (.cons (.list 3 aA) .nil) adO) (fun r=>r=aO.enc (.bu (.cons (.list 5 (.agg (.cons (.int .i64) (.cons (.int .i64) (.cons .bool (.cons .bool (.cons (.int .i64) .nil))))))) (.cons (.int .i64) .nil))) UE):=
 a6.mono (dH (C:=O9 m) (n:=100000) (p:=(.bu (.cons (.list 5 (.agg (.cons (.int .i64) (.cons (.int .i64) (.cons .bool (.cons .bool (.cons (.int .i64) .nil))))))) (.cons (.int .i64) .nil)))) (ok:=Xn) (iA (ja m)) (by kernel_rfl) (by kernel_rfl) (by kernel_rfl)) fun r ⟨y,h1,h2⟩=>by rw [h1,Pd h2]
def adP:List XB:=[(0,0,1),(2,0,-1),(2,0,1),(1,1,-1),(1,1,1)]
def UF:iO × Int:=([(0,0,true,true,3),(0,2,true,false,2)],0)
def Xo (y:iO × Int):Bool:=decide (y=UF)
theorem Pe {y:iO × Int} (h:Xo y=true):y=UF:=of_decide_eq_true h
theorem ahU (m:Int):a6 (gT m) 57 (aQ.enc (.cons (.list 3 aA) .nil) adP) (fun r=>r=aO.enc (.bu (.cons (.list 5 (.agg (.cons (.int .i64) (.cons (.int .i64) (.cons .bool (.cons .bool (.cons (.int .i64) .nil))))))) (.cons (.int .i64) .nil))) UF):=
 a6.mono (dH (C:=O9 m) (n:=100000) (p:=(.bu (.cons (.list 5 (.agg (.cons (.int .i64) (.cons (.int .i64) (.cons .bool (.cons .bool (.cons (.int .i64) .nil))))))) (.cons (.int .i64) .nil)))) (ok:=Xo) (iA (ja m)) (by kernel_rfl) (by kernel_rfl) (by kernel_rfl)) fun r ⟨y,h1,h2⟩=>by rw [h1,Pe h2]
def E57:aR:=⟨(.cons (.list 3 aA) .nil),(.bu (.cons (.list 5 (.agg (.cons (.int .i64) (.cons (.int .i64) (.cons .bool (.cons .bool (.cons (.int .i64) .nil))))))) (.cons (.int .i64) .nil))),ny (α:=List XB) (β:=iO × Int) [(adO,UE),(adP,UF)]⟩
theorem Zv (m:Int):aj (gT m) 57 E57:=fun x y h=>by
 rcases Gp (α:=List XB) (β:=iO × Int) h with ⟨e1,e2⟩|⟨e1,e2⟩
 ·subst e1; subst e2; exact ahT m
 ·subst e1; subst e2; exact ahU m
def adQ:List XC:=[(0,0,true,true,3),(3,1,false,true,3)]
def UG:(List UInt8) × Int:=([97,116,32,48,32,48,32,114,105,103,104,116,32,117,112,32,51,10,97,116,32,51,32,49,32,108,101,102,116,32,117,112,32,51,10],0)
def Xp (y:(List UInt8) × Int):Bool:=decide (y=UG)
theorem Pf {y:(List UInt8) × Int} (h:Xp y=true):y=UG:=of_decide_eq_true h
theorem ahV (m:Int):a6 (gT m) 29 (aQ.enc (.cons (.list 5 (.agg (.cons (.int .i64) (.cons (.int .i64) (.cons .bool (.cons .bool (.cons (.int .i64) .nil))))))) .nil) adQ) (fun r=>r=aO.enc (.bu (.cons .str (.cons (.int .i64) .nil))) UG):=
 a6.mono (dH (C:=O9 m) (n:=100000) (p:=(.bu (.cons .str (.cons (.int .i64) .nil)))) (ok:=Xp) (iA (ja m)) (by kernel_rfl) (by kernel_rfl) (by kernel_rfl)) fun r ⟨y,h1,h2⟩=>by rw [h1,Pf h2]
def E29:aR:=⟨(.cons (.list 5 (.agg (.cons (.int .i64) (.cons (.int .i64) (.cons .bool (.cons .bool (.cons (.int .i64) .nil))))))) .nil),(.bu (.cons .str (.cons (.int .i64) .nil))),ny (α:=List XC) (β:=(List UInt8) × Int) [(adQ,UG)]⟩
theorem Zw (m:Int):aj (gT m) 29 E29:=fun x y h=>by
 obtain ⟨e1,e2⟩:=kO (α:=List XC) (β:=(List UInt8) × Int) h;subst e1; subst e2;exact ahV m
def adR:List UInt8:=[97,116,32,48,32,48,32,114,105,103,104,116,32,117,112,32,51,10,97,116,32,51,32,49,32,108,101,102,116,32,117,112,32,51,10]
def UH:iO × Int × Int:=([(0,0,true,true,3),(3,1,false,true,3)],0,0)
def Xq (y:iO × Int × Int):Bool:=decide (y=UH)
theorem Pg {y:iO × Int × Int} (h:Xq y=true):y=UH:=of_decide_eq_true h
theorem ahW (m:Int):a6 (gT m) 30 (aQ.enc (.cons .str .nil) adR) (fun r=>r=aO.enc (.bu (.cons (.list 5 (.agg (.cons (.int .i64) (.cons (.int .i64) (.cons .bool (.cons .bool (.cons (.int .i64) .nil))))))) (.cons (.int .i64) (.cons (.int .i64) .nil)))) UH):=
 a6.mono (dH (C:=O9 m) (n:=100000) (p:=(.bu (.cons (.list 5 (.agg (.cons (.int .i64) (.cons (.int .i64) (.cons .bool (.cons .bool (.cons (.int .i64) .nil))))))) (.cons (.int .i64) (.cons (.int .i64) .nil))))) (ok:=Xq) (iA (ja m)) (by kernel_rfl) (by kernel_rfl) (by kernel_rfl)) fun r ⟨y,h1,h2⟩=>by rw [h1,Pg h2]
def E30:aR:=⟨(.cons .str .nil),(.bu (.cons (.list 5 (.agg (.cons (.int .i64) (.cons (.int .i64) (.cons .bool (.cons .bool (.cons (.int .i64) .nil))))))) (.cons (.int .i64) (.cons (.int .i64) .nil)))),ny (α:=List UInt8) (β:=iO × Int × Int) [(adR,UH)]⟩
theorem Zx (m:Int):aj (gT m) 30 E30:=fun x y h=>by
 obtain ⟨e1,e2⟩:=kO (α:=List UInt8) (β:=iO × Int × Int) h;subst e1; subst e2;exact ahW m
def adS:List XC:=[(0,0,true,true,3),(3,1,false,true,3)]
def UI:iO × Int:=([(3,1,false,false,3),(0,2,true,false,3)],0)
def Xr (y:iO × Int):Bool:=decide (y=UI)
theorem Ph {y:iO × Int} (h:Xr y=true):y=UI:=of_decide_eq_true h
theorem ahX (m:Int):a6 (gT m) 68 (aQ.enc (.cons (.list 5 (.agg (.cons (.int .i64) (.cons (.int .i64) (.cons .bool (.cons .bool (.cons (.int .i64) .nil))))))) .nil) adS) (fun r=>r=aO.enc (.bu (.cons (.list 5 (.agg (.cons (.int .i64) (.cons (.int .i64) (.cons .bool (.cons .bool (.cons (.int .i64) .nil))))))) (.cons (.int .i64) .nil))) UI):=
 a6.mono (dH (C:=O9 m) (n:=100000) (p:=(.bu (.cons (.list 5 (.agg (.cons (.int .i64) (.cons (.int .i64) (.cons .bool (.cons .bool (.cons (.int .i64) .nil))))))) (.cons (.int .i64) .nil)))) (ok:=Xr) (iA (ja m)) (by kernel_rfl) (by kernel_rfl) (by kernel_rfl)) fun r ⟨y,h1,h2⟩=>by rw [h1,Ph h2]
def E68:aR:=⟨(.cons (.list 5 (.agg (.cons (.int .i64) (.cons (.int .i64) (.cons .bool (.cons .bool (.cons (.int .i64) .nil))))))) .nil),(.bu (.cons (.list 5 (.agg (.cons (.int .i64) (.cons (.int .i64) (.cons .bool (.cons .bool (.cons (.int .i64) .nil))))))) (.cons (.int .i64) .nil))),ny (α:=List XC) (β:=iO × Int) [(adS,UI)]⟩
theorem Zy (m:Int):aj (gT m) 68 E68:=fun x y h=>by
 obtain ⟨e1,e2⟩:=kO (α:=List XC) (β:=iO × Int) h;subst e1; subst e2;exact ahX m
def adT:List XC:=[(0,0,true,true,2),(-1,1,true,true,2)]
def UJ:iK × Int:=([(-1,1)],0)
def Xs (y:iK × Int):Bool:=decide (y=UJ)
theorem Pj {y:iK × Int} (h:Xs y=true):y=UJ:=of_decide_eq_true h
theorem ahY (m:Int):a6 (gT m) 43 (aQ.enc (.cons (.list 5 (.agg (.cons (.int .i64) (.cons (.int .i64) (.cons .bool (.cons .bool (.cons (.int .i64) .nil))))))) .nil) adT) (fun r=>r=aO.enc (.bu (.cons (.list 2 gk) (.cons (.int .i64) .nil))) UJ):=
 a6.mono (dH (C:=O9 m) (n:=100000) (p:=(.bu (.cons (.list 2 gk) (.cons (.int .i64) .nil)))) (ok:=Xs) (iA (ja m)) (by kernel_rfl) (by kernel_rfl) (by kernel_rfl)) fun r ⟨y,h1,h2⟩=>by rw [h1,Pj h2]
def E43:aR:=⟨(.cons (.list 5 (.agg (.cons (.int .i64) (.cons (.int .i64) (.cons .bool (.cons .bool (.cons (.int .i64) .nil))))))) .nil),(.bu (.cons (.list 2 gk) (.cons (.int .i64) .nil))),ny (α:=List XC) (β:=iK × Int) [(adT,UJ)]⟩
theorem Zz (m:Int):aj (gT m) 43 E43:=fun x y h=>by
 obtain ⟨e1,e2⟩:=kO (α:=List XC) (β:=iK × Int) h;subst e1; subst e2;exact ahY m
def adU:List XC:=[(0,0,true,true,3),(3,1,false,true,3)]
def UK:cI × Int:=([(0,0,1),(2,0,-1),(2,0,1),(1,1,-1),(1,1,1),(3,1,-1)],0)
def Xt (y:cI × Int):Bool:=decide (y=UK)
theorem Pk {y:cI × Int} (h:Xt y=true):y=UK:=of_decide_eq_true h
theorem ahZ (m:Int):a6 (gT m) 39 (aQ.enc (.cons (.list 5 (.agg (.cons (.int .i64) (.cons (.int .i64) (.cons .bool (.cons .bool (.cons (.int .i64) .nil))))))) .nil) adU) (fun r=>r=aO.enc (.bu (.cons (.list 3 aA) (.cons (.int .i64) .nil))) UK):=
 a6.mono (dH (C:=O9 m) (n:=100000) (p:=(.bu (.cons (.list 3 aA) (.cons (.int .i64) .nil)))) (ok:=Xt) (iA (ja m)) (by kernel_rfl) (by kernel_rfl) (by kernel_rfl)) fun r ⟨y,h1,h2⟩=>by rw [h1,Pk h2]
def E39:aR:=⟨(.cons (.list 5 (.agg (.cons (.int .i64) (.cons (.int .i64) (.cons .bool (.cons .bool (.cons (.int .i64) .nil))))))) .nil),(.bu (.cons (.list 3 aA) (.cons (.int .i64) .nil))),ny (α:=List XC) (β:=cI × Int) [(adU,UK)]⟩
theorem ZA (m:Int):aj (gT m) 39 E39:=fun x y h=>by
 obtain ⟨e1,e2⟩:=kO (α:=List XC) (β:=cI × Int) h;subst e1; subst e2;exact ahZ m
def adV:List XC:=[(3,1,false,false,3),(0,2,true,false,3)]
def UL:kM × Int:=([0,1],0)
def Xu (y:kM × Int):Bool:=decide (y=UL)
theorem Pl {y:kM × Int} (h:Xu y=true):y=UL:=of_decide_eq_true h
theorem ah0 (m:Int):a6 (gT m) 40 (aQ.enc (.cons (.list 5 (.agg (.cons (.int .i64) (.cons (.int .i64) (.cons .bool (.cons .bool (.cons (.int .i64) .nil))))))) .nil) adV) (fun r=>r=aO.enc (.bu (.cons (.list 1 (.int .i64)) (.cons (.int .i64) .nil))) UL):=
 a6.mono (dH (C:=O9 m) (n:=100000) (p:=(.bu (.cons (.list 1 (.int .i64)) (.cons (.int .i64) .nil)))) (ok:=Xu) (iA (ja m)) (by kernel_rfl) (by kernel_rfl) (by kernel_rfl)) fun r ⟨y,h1,h2⟩=>by rw [h1,Pl h2]
def E40:aR:=⟨(.cons (.list 5 (.agg (.cons (.int .i64) (.cons (.int .i64) (.cons .bool (.cons .bool (.cons (.int .i64) .nil))))))) .nil),(.bu (.cons (.list 1 (.int .i64)) (.cons (.int .i64) .nil))),ny (α:=List XC) (β:=kM × Int) [(adV,UL)]⟩
theorem ZB (m:Int):aj (gT m) 40 E40:=fun x y h=>by
 obtain ⟨e1,e2⟩:=kO (α:=List XC) (β:=kM × Int) h;subst e1; subst e2;exact ah0 m
end Go.Proofs.YtldcljfjjoidhaaGreatDoor
