/- The chapter's examples,call by call: programs. -/
import Derived.Test.YtldcljfjjoidhaaGreatDoorBraCa
set_option linter.all false
namespace Go.Proofs.YtldcljfjjoidhaaGreatDoor
open Go Go.Am
open List (map)
open Int (toNat)
open Go.IntKind (wrap)
open Go.Am.aP (fits)
set_option maxRecDepth 1000000
def abj:List XB:=[(0,0,1),(2,0,-1),(2,0,1),(1,1,-1),(1,1,1),(3,1,-1)]
def Si:dQ × Int:=([(0,0,true,true,3),(3,1,false,true,3)],0)
def U0 (y:dQ × Int):Bool:=decide (y=Si)
theorem ND {y:dQ × Int} (h:U0 y=true):y=Si:=of_decide_eq_true h
theorem afr (m:Int):aU (e8 m) 57 (aM.enc (.cons (.list 3 aV) .nil) abj) (fun r=>r=aP.enc (.bq (.cons (.list 5 (.agg (.cons (.int .i64) (.cons (.int .i64) (.cons .bool (.cons .bool (.cons (.int .i64) .nil))))))) (.cons (.int .i64) .nil))) Si):=
 aU.mono (cY (C:=KR m) (n:=100000) (p:=(.bq (.cons (.list 5 (.agg (.cons (.int .i64) (.cons (.int .i64) (.cons .bool (.cons .bool (.cons (.int .i64) .nil))))))) (.cons (.int .i64) .nil)))) (ok:=U0) (fJ (gr m)) (by kernel_rfl) (by kernel_rfl) (by kernel_rfl)) fun r ⟨y,h1,h2⟩=>by rw [h1,ND h2]
def abk:List XB:=[(0,0,1),(2,0,-1),(2,0,1),(1,1,-1),(1,1,1)]
def Sj:dQ × Int:=([(0,0,true,true,3),(0,2,true,false,2)],0)
def U1 (y:dQ × Int):Bool:=decide (y=Sj)
theorem NE {y:dQ × Int} (h:U1 y=true):y=Sj:=of_decide_eq_true h
theorem afs (m:Int):aU (e8 m) 57 (aM.enc (.cons (.list 3 aV) .nil) abk) (fun r=>r=aP.enc (.bq (.cons (.list 5 (.agg (.cons (.int .i64) (.cons (.int .i64) (.cons .bool (.cons .bool (.cons (.int .i64) .nil))))))) (.cons (.int .i64) .nil))) Sj):=
 aU.mono (cY (C:=KR m) (n:=100000) (p:=(.bq (.cons (.list 5 (.agg (.cons (.int .i64) (.cons (.int .i64) (.cons .bool (.cons .bool (.cons (.int .i64) .nil))))))) (.cons (.int .i64) .nil)))) (ok:=U1) (fJ (gr m)) (by kernel_rfl) (by kernel_rfl) (by kernel_rfl)) fun r ⟨y,h1,h2⟩=>by rw [h1,NE h2]
def E57:aD:=⟨(.cons (.list 3 aV) .nil),(.bq (.cons (.list 5 (.agg (.cons (.int .i64) (.cons (.int .i64) (.cons .bool (.cons .bool (.cons (.int .i64) .nil))))))) (.cons (.int .i64) .nil))),mc (α:=List XB) (β:=dQ × Int) [(abj,Si),(abk,Sj)]⟩
theorem W0 (m:Int):ai (e8 m) 57 E57:=fun x y h=>by
 rcases ER (α:=List XB) (β:=dQ × Int) h with ⟨e1,e2⟩|⟨e1,e2⟩
 ·subst e1; subst e2; exact afr m
 ·subst e1; subst e2; exact afs m
def abl:List XC:=[(0,0,true,true,3),(3,1,false,true,3)]
def Sk:(List UInt8) × Int:=([97,116,32,48,32,48,32,114,105,103,104,116,32,117,112,32,51,10,97,116,32,51,32,49,32,108,101,102,116,32,117,112,32,51,10],0)
def U2 (y:(List UInt8) × Int):Bool:=decide (y=Sk)
theorem NF {y:(List UInt8) × Int} (h:U2 y=true):y=Sk:=of_decide_eq_true h
theorem aft (m:Int):aU (e8 m) 29 (aM.enc (.cons (.list 5 (.agg (.cons (.int .i64) (.cons (.int .i64) (.cons .bool (.cons .bool (.cons (.int .i64) .nil))))))) .nil) abl) (fun r=>r=aP.enc (.bq (.cons .str (.cons (.int .i64) .nil))) Sk):=
 aU.mono (cY (C:=KR m) (n:=100000) (p:=(.bq (.cons .str (.cons (.int .i64) .nil)))) (ok:=U2) (fJ (gr m)) (by kernel_rfl) (by kernel_rfl) (by kernel_rfl)) fun r ⟨y,h1,h2⟩=>by rw [h1,NF h2]
def E29:aD:=⟨(.cons (.list 5 (.agg (.cons (.int .i64) (.cons (.int .i64) (.cons .bool (.cons .bool (.cons (.int .i64) .nil))))))) .nil),(.bq (.cons .str (.cons (.int .i64) .nil))),mc (α:=List XC) (β:=(List UInt8) × Int) [(abl,Sk)]⟩
theorem W1 (m:Int):ai (e8 m) 29 E29:=fun x y h=>by
 obtain ⟨e1,e2⟩:=jK (α:=List XC) (β:=(List UInt8) × Int) h;subst e1; subst e2;exact aft m
def abm:List UInt8:=[97,116,32,48,32,48,32,114,105,103,104,116,32,117,112,32,51,10,97,116,32,51,32,49,32,108,101,102,116,32,117,112,32,51,10]
def Sl:dQ × Int × Int:=([(0,0,true,true,3),(3,1,false,true,3)],0,0)
def U3 (y:dQ × Int × Int):Bool:=decide (y=Sl)
theorem NG {y:dQ × Int × Int} (h:U3 y=true):y=Sl:=of_decide_eq_true h
theorem afu (m:Int):aU (e8 m) 30 (aM.enc (.cons .str .nil) abm) (fun r=>r=aP.enc (.bq (.cons (.list 5 (.agg (.cons (.int .i64) (.cons (.int .i64) (.cons .bool (.cons .bool (.cons (.int .i64) .nil))))))) (.cons (.int .i64) (.cons (.int .i64) .nil)))) Sl):=
 aU.mono (cY (C:=KR m) (n:=100000) (p:=(.bq (.cons (.list 5 (.agg (.cons (.int .i64) (.cons (.int .i64) (.cons .bool (.cons .bool (.cons (.int .i64) .nil))))))) (.cons (.int .i64) (.cons (.int .i64) .nil))))) (ok:=U3) (fJ (gr m)) (by kernel_rfl) (by kernel_rfl) (by kernel_rfl)) fun r ⟨y,h1,h2⟩=>by rw [h1,NG h2]
def E30:aD:=⟨(.cons .str .nil),(.bq (.cons (.list 5 (.agg (.cons (.int .i64) (.cons (.int .i64) (.cons .bool (.cons .bool (.cons (.int .i64) .nil))))))) (.cons (.int .i64) (.cons (.int .i64) .nil)))),mc (α:=List UInt8) (β:=dQ × Int × Int) [(abm,Sl)]⟩
theorem W2 (m:Int):ai (e8 m) 30 E30:=fun x y h=>by
 obtain ⟨e1,e2⟩:=jK (α:=List UInt8) (β:=dQ × Int × Int) h;subst e1; subst e2;exact afu m
def abn:List XC:=[(0,0,true,true,3),(3,1,false,true,3)]
def Sm:dQ × Int:=([(3,1,false,false,3),(0,2,true,false,3)],0)
def U4 (y:dQ × Int):Bool:=decide (y=Sm)
theorem NH {y:dQ × Int} (h:U4 y=true):y=Sm:=of_decide_eq_true h
theorem afv (m:Int):aU (e8 m) 68 (aM.enc (.cons (.list 5 (.agg (.cons (.int .i64) (.cons (.int .i64) (.cons .bool (.cons .bool (.cons (.int .i64) .nil))))))) .nil) abn) (fun r=>r=aP.enc (.bq (.cons (.list 5 (.agg (.cons (.int .i64) (.cons (.int .i64) (.cons .bool (.cons .bool (.cons (.int .i64) .nil))))))) (.cons (.int .i64) .nil))) Sm):=
 aU.mono (cY (C:=KR m) (n:=100000) (p:=(.bq (.cons (.list 5 (.agg (.cons (.int .i64) (.cons (.int .i64) (.cons .bool (.cons .bool (.cons (.int .i64) .nil))))))) (.cons (.int .i64) .nil)))) (ok:=U4) (fJ (gr m)) (by kernel_rfl) (by kernel_rfl) (by kernel_rfl)) fun r ⟨y,h1,h2⟩=>by rw [h1,NH h2]
def E68:aD:=⟨(.cons (.list 5 (.agg (.cons (.int .i64) (.cons (.int .i64) (.cons .bool (.cons .bool (.cons (.int .i64) .nil))))))) .nil),(.bq (.cons (.list 5 (.agg (.cons (.int .i64) (.cons (.int .i64) (.cons .bool (.cons .bool (.cons (.int .i64) .nil))))))) (.cons (.int .i64) .nil))),mc (α:=List XC) (β:=dQ × Int) [(abn,Sm)]⟩
theorem W3 (m:Int):ai (e8 m) 68 E68:=fun x y h=>by
 obtain ⟨e1,e2⟩:=jK (α:=List XC) (β:=dQ × Int) h;subst e1; subst e2;exact afv m
def abo:List XC:=[(0,0,true,true,2),(-1,1,true,true,2)]
def Sn:lZ × Int:=([(-1,1)],0)
def U5 (y:lZ × Int):Bool:=decide (y=Sn)
theorem NI {y:lZ × Int} (h:U5 y=true):y=Sn:=of_decide_eq_true h
theorem afw (m:Int):aU (e8 m) 43 (aM.enc (.cons (.list 5 (.agg (.cons (.int .i64) (.cons (.int .i64) (.cons .bool (.cons .bool (.cons (.int .i64) .nil))))))) .nil) abo) (fun r=>r=aP.enc (.bq (.cons (.list 2 cZ) (.cons (.int .i64) .nil))) Sn):=
 aU.mono (cY (C:=KR m) (n:=100000) (p:=(.bq (.cons (.list 2 cZ) (.cons (.int .i64) .nil)))) (ok:=U5) (fJ (gr m)) (by kernel_rfl) (by kernel_rfl) (by kernel_rfl)) fun r ⟨y,h1,h2⟩=>by rw [h1,NI h2]
def E43:aD:=⟨(.cons (.list 5 (.agg (.cons (.int .i64) (.cons (.int .i64) (.cons .bool (.cons .bool (.cons (.int .i64) .nil))))))) .nil),(.bq (.cons (.list 2 cZ) (.cons (.int .i64) .nil))),mc (α:=List XC) (β:=lZ × Int) [(abo,Sn)]⟩
theorem W4 (m:Int):ai (e8 m) 43 E43:=fun x y h=>by
 obtain ⟨e1,e2⟩:=jK (α:=List XC) (β:=lZ × Int) h;subst e1; subst e2;exact afw m
def abp:List XC:=[(0,0,true,true,3),(3,1,false,true,3)]
def Sp:j4 × Int:=([(0,0,1),(2,0,-1),(2,0,1),(1,1,-1),(1,1,1),(3,1,-1)],0)
def U6 (y:j4 × Int):Bool:=decide (y=Sp)
theorem NJ {y:j4 × Int} (h:U6 y=true):y=Sp:=of_decide_eq_true h
theorem afx (m:Int):aU (e8 m) 39 (aM.enc (.cons (.list 5 (.agg (.cons (.int .i64) (.cons (.int .i64) (.cons .bool (.cons .bool (.cons (.int .i64) .nil))))))) .nil) abp) (fun r=>r=aP.enc (.bq (.cons (.list 3 aV) (.cons (.int .i64) .nil))) Sp):=
 aU.mono (cY (C:=KR m) (n:=100000) (p:=(.bq (.cons (.list 3 aV) (.cons (.int .i64) .nil)))) (ok:=U6) (fJ (gr m)) (by kernel_rfl) (by kernel_rfl) (by kernel_rfl)) fun r ⟨y,h1,h2⟩=>by rw [h1,NJ h2]
def E39:aD:=⟨(.cons (.list 5 (.agg (.cons (.int .i64) (.cons (.int .i64) (.cons .bool (.cons .bool (.cons (.int .i64) .nil))))))) .nil),(.bq (.cons (.list 3 aV) (.cons (.int .i64) .nil))),mc (α:=List XC) (β:=j4 × Int) [(abp,Sp)]⟩
theorem W5 (m:Int):ai (e8 m) 39 E39:=fun x y h=>by
 obtain ⟨e1,e2⟩:=jK (α:=List XC) (β:=j4 × Int) h;subst e1; subst e2;exact afx m
def abq:List XC:=[(3,1,false,false,3),(0,2,true,false,3)]
def Sq:ma × Int:=([0,1],0)
def U7 (y:ma × Int):Bool:=decide (y=Sq)
theorem NK {y:ma × Int} (h:U7 y=true):y=Sq:=of_decide_eq_true h
theorem afy (m:Int):aU (e8 m) 40 (aM.enc (.cons (.list 5 (.agg (.cons (.int .i64) (.cons (.int .i64) (.cons .bool (.cons .bool (.cons (.int .i64) .nil))))))) .nil) abq) (fun r=>r=aP.enc (.bq (.cons (.list 1 (.int .i64)) (.cons (.int .i64) .nil))) Sq):=
 aU.mono (cY (C:=KR m) (n:=100000) (p:=(.bq (.cons (.list 1 (.int .i64)) (.cons (.int .i64) .nil)))) (ok:=U7) (fJ (gr m)) (by kernel_rfl) (by kernel_rfl) (by kernel_rfl)) fun r ⟨y,h1,h2⟩=>by rw [h1,NK h2]
def E40:aD:=⟨(.cons (.list 5 (.agg (.cons (.int .i64) (.cons (.int .i64) (.cons .bool (.cons .bool (.cons (.int .i64) .nil))))))) .nil),(.bq (.cons (.list 1 (.int .i64)) (.cons (.int .i64) .nil))),mc (α:=List XC) (β:=ma × Int) [(abq,Sq)]⟩
theorem W6 (m:Int):ai (e8 m) 40 E40:=fun x y h=>by
 obtain ⟨e1,e2⟩:=jK (α:=List XC) (β:=ma × Int) h;subst e1; subst e2;exact afy m
end Go.Proofs.YtldcljfjjoidhaaGreatDoor
