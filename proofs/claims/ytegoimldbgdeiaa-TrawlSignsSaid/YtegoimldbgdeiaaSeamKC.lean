/- The chapter's examples,call by call. -/
import Derived.Test.YtegoimldbgdeiaaSeamKB
import Derived.Test.YtegoimldbgdeiaaTrwG
set_option linter.all false
namespace Go.Proofs.Ytegoimldbgdeiaa
open Go Go.Am
open List (map)
open Int (toNat)
open Go.IntKind (wrap)
open Go.Am.aM (fits)
set_option maxRecDepth 1000000
theorem Rc:ey 18446744073709551616:=Nat.le_refl _
noncomputable def PP:List (Nat × bf):=[(60,It),(58,GZ 18446744073709551616)]
theorem gy:∀ a e,(a,e)∈PP→aE bJ a e:=fun a e h=>by
 simp only [PP,List.mem_cons,Prod.mk.injEq,List.not_mem_nil,or_false] at h;rcases h with ⟨rfl,rfl⟩|⟨rfl,rfl⟩
 ·exact Hg Rc
 ·exact JY Rc
noncomputable def xtC:(g:FuncId)→Option (qx bJ g)
 |79=>some (PL 18446744073709551616 (Nat.le_refl _))
 |_=>none
noncomputable def J1:iN:={ D:=Mg,JE:=AR PP,CU:=fun _ _=>none,fz:=true,N:=0,xt:=xtC,gt:=gtG }
instance decI5:DecidableEq (Int × Int × Int × Int × Bool):=inferInstance
instance decPn:DecidableEq ((List UInt8) × (List (Int × Int))):=inferInstance
instance decLP:DecidableEq (List ((List UInt8) × (List (Int × Int)))):=inferInstance
instance decLS:DecidableEq (List (Int × Int × Int × Int × Bool)):=inferInstance
instance decT:DecidableEq ((List ((List UInt8) × (List (Int × Int)))) × (List (Int × Int × Int × Int × Bool))):=inferInstance
instance decTW:DecidableEq (((List ((List UInt8) × (List (Int × Int)))) × (List (Int × Int × Int × Int × Bool))) × (Int × List Int)):=inferInstance
instance decTS:DecidableEq (((List ((List UInt8) × (List (Int × Int)))) × (List (Int × Int × Int × Int × Bool))) × List (Int × Int × Bool)):=inferInstance
instance decI4:DecidableEq (Int × Int × Int × Int):=inferInstance
instance decI6:DecidableEq (Int × Int × Int × Int × Int × Int):=inferInstance
instance decC6:DecidableEq ((Int × Int × Int × Int × Int × Int) × Int):=inferInstance
instance decLLE:DecidableEq ((List (List (Int × Int))) × Int):=inferInstance
def mV {α β:Type} [DecidableEq α]:List (α × β)→α→Option β
 |[],_=>none
 |(a,b) :: l,x=>bif decide (x=a) then some b else mV l x
theorem od {α β:Type} [DecidableEq α] {a x:α} {b y:β} (h:mV [(a,b)] x=some y):x=a∧y=b:=by
 unfold mV at h;cases hd:decide (x=a) with
 |true=>rw [hd] at h; exact ⟨of_decide_eq_true hd,(Option.some.inj h).symm⟩
 |false=>rw [hd] at h; cases h
theorem uj {α β:Type} [DecidableEq α] {a a' x:α} {b b' y:β} (h:mV [(a,b),(a',b')] x=some y):(x=a∧y=b)∨(x=a'∧y=b'):=by
 unfold mV at h;cases hd:decide (x=a) with
 |true=>rw [hd] at h; exact .inl ⟨of_decide_eq_true hd,(Option.some.inj h).symm⟩
 |false=>rw [hd] at h; exact .inr (od h)
def YT:(List ((List UInt8) × (List (Int × Int)))) × (List (Int × Int × Int × Int × Bool)):=([([80],[(10,0),(20,5),(10,0),(20,-5)]),([81],[(10,0),(20,5),(10,0),(20,-5)])],[(0,1,1,3,false),(0,3,1,1,false)])
def PQ:(List (List Int)) × Int:=([[0,1,2,3],[1,0,3,2]],0)
def Re (y:(List (List Int)) × Int):Bool:=decide (y=PQ)
theorem MM {y:(List (List Int)) × Int} (h:Re y=true):y=PQ:=of_decide_eq_true h
theorem acn:bE bJ 46 (aK.enc (.cons (.agg (.cons (.list 2 (.agg (.cons .str (.cons (.list 2 (.agg (.cons (.int .i64) (.cons (.int .i64) .nil)))) .nil)))) (.cons (.list 5 (.agg (.cons (.int .i64) (.cons (.int .i64) (.cons (.int .i64) (.cons (.int .i64) (.cons .bool .nil))))))) .nil))) .nil) YT) (fun r=>r=aM.enc (.bD (.cons (.list 1 (.list 1 (.int .i64))) (.cons (.int .i64) .nil))) PQ):=
 bE.mono (cE (C:=J1) (n:=100000) (p:=(.bD (.cons (.list 1 (.list 1 (.int .i64))) (.cons (.int .i64) .nil)))) (ok:=Re) (fP gy) (by kernel_rfl) (by kernel_rfl) (by kernel_rfl)) fun r ⟨y,h1,h2⟩=>by rw [h1,MM h2]
noncomputable def E46:bf:=⟨(.cons (.agg (.cons (.list 2 (.agg (.cons .str (.cons (.list 2 (.agg (.cons (.int .i64) (.cons (.int .i64) .nil)))) .nil)))) (.cons (.list 5 (.agg (.cons (.int .i64) (.cons (.int .i64) (.cons (.int .i64) (.cons (.int .i64) (.cons .bool .nil))))))) .nil))) .nil),(.bD (.cons (.list 1 (.list 1 (.int .i64))) (.cons (.int .i64) .nil))),mV (α:=(List ((List UInt8) × (List (Int × Int)))) × (List (Int × Int × Int × Int × Bool))) (β:=(List (List Int)) × Int) [(YT,PQ)]⟩
theorem UH:aE bJ 46 E46:=fun x y h=>by
 obtain ⟨e1,e2⟩:=od (α:=(List ((List UInt8) × (List (Int × Int)))) × (List (Int × Int × Int × Int × Bool))) (β:=(List (List Int)) × Int) h;subst e1; subst e2;exact acn
def YU:(List ((List UInt8) × (List (Int × Int)))) × (List (Int × Int × Int × Int × Bool)):=([([80],[(10,0),(20,5),(10,0),(20,-5)]),([81],[(10,0),(20,5),(10,0),(20,-5)])],[(0,1,1,3,false),(0,3,1,1,false)])
def PR:(Int × Int × Int × Int × Int × Int) × Int:=((4,6,2,1,2,0),0)
def Rf (y:(Int × Int × Int × Int × Int × Int) × Int):Bool:=decide (y=PR)
theorem MN {y:(Int × Int × Int × Int × Int × Int) × Int} (h:Rf y=true):y=PR:=of_decide_eq_true h
theorem aco:bE bJ 20 (aK.enc (.cons (.agg (.cons (.list 2 (.agg (.cons .str (.cons (.list 2 (.agg (.cons (.int .i64) (.cons (.int .i64) .nil)))) .nil)))) (.cons (.list 5 (.agg (.cons (.int .i64) (.cons (.int .i64) (.cons (.int .i64) (.cons (.int .i64) (.cons .bool .nil))))))) .nil))) .nil) YU) (fun r=>r=aM.enc (.bD (.cons (.agg (.cons (.int .i64) (.cons (.int .i64) (.cons (.int .i64) (.cons (.int .i64) (.cons (.int .i64) (.cons (.int .i64) .nil))))))) (.cons (.int .i64) .nil))) PR):=
 bE.mono (cE (C:=J1) (n:=100000) (p:=(.bD (.cons (.agg (.cons (.int .i64) (.cons (.int .i64) (.cons (.int .i64) (.cons (.int .i64) (.cons (.int .i64) (.cons (.int .i64) .nil))))))) (.cons (.int .i64) .nil)))) (ok:=Rf) (fP gy) (by kernel_rfl) (by kernel_rfl) (by kernel_rfl)) fun r ⟨y,h1,h2⟩=>by rw [h1,MN h2]
noncomputable def E20:bf:=⟨(.cons (.agg (.cons (.list 2 (.agg (.cons .str (.cons (.list 2 (.agg (.cons (.int .i64) (.cons (.int .i64) .nil)))) .nil)))) (.cons (.list 5 (.agg (.cons (.int .i64) (.cons (.int .i64) (.cons (.int .i64) (.cons (.int .i64) (.cons .bool .nil))))))) .nil))) .nil),(.bD (.cons (.agg (.cons (.int .i64) (.cons (.int .i64) (.cons (.int .i64) (.cons (.int .i64) (.cons (.int .i64) (.cons (.int .i64) .nil))))))) (.cons (.int .i64) .nil))),mV (α:=(List ((List UInt8) × (List (Int × Int)))) × (List (Int × Int × Int × Int × Bool))) (β:=(Int × Int × Int × Int × Int × Int) × Int) [(YU,PR)]⟩
theorem UI:aE bJ 20 E20:=fun x y h=>by
 obtain ⟨e1,e2⟩:=od (α:=(List ((List UInt8) × (List (Int × Int)))) × (List (Int × Int × Int × Int × Bool))) (β:=(Int × Int × Int × Int × Int × Int) × Int) h;subst e1; subst e2;exact aco
def YV:(List ((List UInt8) × (List (Int × Int)))) × (List (Int × Int × Int × Int × Bool)):=([([80],[(10,0),(20,5),(10,0),(20,-5)]),([81],[(10,0),(20,5),(10,0),(20,-5)])],[(0,1,1,3,false),(0,3,1,1,false)])
def PS:(List (List (Int × Int))) × Int:=([[(0,0),(1,0)],[(0,2),(1,2)]],0)
def Rg (y:(List (List (Int × Int))) × Int):Bool:=decide (y=PS)
theorem MO {y:(List (List (Int × Int))) × Int} (h:Rg y=true):y=PS:=of_decide_eq_true h
theorem acp:bE bJ 19 (aK.enc (.cons (.agg (.cons (.list 2 (.agg (.cons .str (.cons (.list 2 (.agg (.cons (.int .i64) (.cons (.int .i64) .nil)))) .nil)))) (.cons (.list 5 (.agg (.cons (.int .i64) (.cons (.int .i64) (.cons (.int .i64) (.cons (.int .i64) (.cons .bool .nil))))))) .nil))) .nil) YV) (fun r=>r=aM.enc (.bD (.cons (.list 1 (.list 2 (.agg (.cons (.int .i64) (.cons (.int .i64) .nil))))) (.cons (.int .i64) .nil))) PS):=
 bE.mono (cE (C:=J1) (n:=100000) (p:=(.bD (.cons (.list 1 (.list 2 (.agg (.cons (.int .i64) (.cons (.int .i64) .nil))))) (.cons (.int .i64) .nil)))) (ok:=Rg) (fP gy) (by kernel_rfl) (by kernel_rfl) (by kernel_rfl)) fun r ⟨y,h1,h2⟩=>by rw [h1,MO h2]
def YW:(List ((List UInt8) × (List (Int × Int)))) × (List (Int × Int × Int × Int × Bool)):=([([80],[(10,0),(20,5),(10,0),(20,-5)]),([81],[(10,0),(20,5),(10,0),(20,-5)])],[(0,1,1,3,false),(0,3,1,1,true)])
def PT:(List (List (Int × Int))) × Int:=([[(0,0),(1,0),(0,2),(1,2)]],0)
def Rh (y:(List (List (Int × Int))) × Int):Bool:=decide (y=PT)
theorem MP {y:(List (List (Int × Int))) × Int} (h:Rh y=true):y=PT:=of_decide_eq_true h
theorem acq:bE bJ 19 (aK.enc (.cons (.agg (.cons (.list 2 (.agg (.cons .str (.cons (.list 2 (.agg (.cons (.int .i64) (.cons (.int .i64) .nil)))) .nil)))) (.cons (.list 5 (.agg (.cons (.int .i64) (.cons (.int .i64) (.cons (.int .i64) (.cons (.int .i64) (.cons .bool .nil))))))) .nil))) .nil) YW) (fun r=>r=aM.enc (.bD (.cons (.list 1 (.list 2 (.agg (.cons (.int .i64) (.cons (.int .i64) .nil))))) (.cons (.int .i64) .nil))) PT):=
 bE.mono (cE (C:=J1) (n:=100000) (p:=(.bD (.cons (.list 1 (.list 2 (.agg (.cons (.int .i64) (.cons (.int .i64) .nil))))) (.cons (.int .i64) .nil)))) (ok:=Rh) (fP gy) (by kernel_rfl) (by kernel_rfl) (by kernel_rfl)) fun r ⟨y,h1,h2⟩=>by rw [h1,MP h2]
noncomputable def E19:bf:=⟨(.cons (.agg (.cons (.list 2 (.agg (.cons .str (.cons (.list 2 (.agg (.cons (.int .i64) (.cons (.int .i64) .nil)))) .nil)))) (.cons (.list 5 (.agg (.cons (.int .i64) (.cons (.int .i64) (.cons (.int .i64) (.cons (.int .i64) (.cons .bool .nil))))))) .nil))) .nil),(.bD (.cons (.list 1 (.list 2 (.agg (.cons (.int .i64) (.cons (.int .i64) .nil))))) (.cons (.int .i64) .nil))),mV (α:=(List ((List UInt8) × (List (Int × Int)))) × (List (Int × Int × Int × Int × Bool))) (β:=(List (List (Int × Int))) × Int) [(YV,PS),(YW,PT)]⟩
theorem UJ:aE bJ 19 E19:=fun x y h=>by
 rcases uj (α:=(List ((List UInt8) × (List (Int × Int)))) × (List (Int × Int × Int × Int × Bool))) (β:=(List (List (Int × Int))) × Int) h with ⟨e1,e2⟩|⟨e1,e2⟩
 ·subst e1; subst e2; exact acp
 ·subst e1; subst e2; exact acq
def YX:(List ((List UInt8) × (List (Int × Int)))) × (List (Int × Int × Int × Int × Bool)):=([([80],[(10,0),(20,5),(10,0),(20,-5)]),([81],[(10,0),(20,5),(10,0),(20,-5)])],[(0,1,1,3,false),(0,3,1,1,false)])
def PU:(List (Int × Int)) × Int × Int:=([(0,0),(1,0)],20,0)
def Ri (y:(List (Int × Int)) × Int × Int):Bool:=decide (y=PU)
theorem MQ {y:(List (Int × Int)) × Int × Int} (h:Ri y=true):y=PU:=of_decide_eq_true h
theorem acr:bE bJ 22 (aK.enc (.cons (.agg (.cons (.list 2 (.agg (.cons .str (.cons (.list 2 (.agg (.cons (.int .i64) (.cons (.int .i64) .nil)))) .nil)))) (.cons (.list 5 (.agg (.cons (.int .i64) (.cons (.int .i64) (.cons (.int .i64) (.cons (.int .i64) (.cons .bool .nil))))))) .nil))) .nil) YX) (fun r=>r=aM.enc (.bD (.cons (.list 2 (.agg (.cons (.int .i64) (.cons (.int .i64) .nil)))) (.cons (.int .i64) (.cons (.int .i64) .nil)))) PU):=
 bE.mono (cE (C:=J1) (n:=100000) (p:=(.bD (.cons (.list 2 (.agg (.cons (.int .i64) (.cons (.int .i64) .nil)))) (.cons (.int .i64) (.cons (.int .i64) .nil))))) (ok:=Ri) (fP gy) (by kernel_rfl) (by kernel_rfl) (by kernel_rfl)) fun r ⟨y,h1,h2⟩=>by rw [h1,MQ h2]
noncomputable def E22:bf:=⟨(.cons (.agg (.cons (.list 2 (.agg (.cons .str (.cons (.list 2 (.agg (.cons (.int .i64) (.cons (.int .i64) .nil)))) .nil)))) (.cons (.list 5 (.agg (.cons (.int .i64) (.cons (.int .i64) (.cons (.int .i64) (.cons (.int .i64) (.cons .bool .nil))))))) .nil))) .nil),(.bD (.cons (.list 2 (.agg (.cons (.int .i64) (.cons (.int .i64) .nil)))) (.cons (.int .i64) (.cons (.int .i64) .nil)))),mV (α:=(List ((List UInt8) × (List (Int × Int)))) × (List (Int × Int × Int × Int × Bool))) (β:=(List (Int × Int)) × Int × Int) [(YX,PU)]⟩
theorem UK:aE bJ 22 E22:=fun x y h=>by
 obtain ⟨e1,e2⟩:=od (α:=(List ((List UInt8) × (List (Int × Int)))) × (List (Int × Int × Int × Int × Bool))) (β:=(List (Int × Int)) × Int × Int) h;subst e1; subst e2;exact acr
end Go.Proofs.Ytegoimldbgdeiaa
namespace Go.Proofs.Ytegoimldbgdeiaa
open Go Go.Am
open List (map)
open Int (toNat)
open Go.IntKind (wrap)
open Go.Am.aM (fits)
set_option maxRecDepth 1000000
def YY:(List ((List UInt8) × (List (Int × Int)))) × (List (Int × Int × Int × Int × Bool)):=([([80],[(10,0),(20,5),(10,0),(20,-5)]),([81],[(10,0),(20,5),(10,0),(20,-5)])],[(0,1,1,3,false),(0,3,1,1,false)])
def PV:(List (Bool × Int × Int)) × Int:=([(true,0,2)],0)
def Rj (y:(List (Bool × Int × Int)) × Int):Bool:=decide (y=PV)
theorem MR {y:(List (Bool × Int × Int)) × Int} (h:Rj y=true):y=PV:=of_decide_eq_true h
theorem acs:bE bJ 21 (aK.enc (.cons (.agg (.cons (.list 2 (.agg (.cons .str (.cons (.list 2 (.agg (.cons (.int .i64) (.cons (.int .i64) .nil)))) .nil)))) (.cons (.list 5 (.agg (.cons (.int .i64) (.cons (.int .i64) (.cons (.int .i64) (.cons (.int .i64) (.cons .bool .nil))))))) .nil))) .nil) YY) (fun r=>r=aM.enc (.bD (.cons (.list 3 (.agg (.cons .bool (.cons (.int .i64) (.cons (.int .i64) .nil))))) (.cons (.int .i64) .nil))) PV):=
 bE.mono (cE (C:=J1) (n:=100000) (p:=(.bD (.cons (.list 3 (.agg (.cons .bool (.cons (.int .i64) (.cons (.int .i64) .nil))))) (.cons (.int .i64) .nil)))) (ok:=Rj) (fP gy) (by kernel_rfl) (by kernel_rfl) (by kernel_rfl)) fun r ⟨y,h1,h2⟩=>by rw [h1,MR h2]
def YZ:(List ((List UInt8) × (List (Int × Int)))) × (List (Int × Int × Int × Int × Bool)):=([([80],[(10,0),(20,5),(10,0),(20,-5)]),([81],[(10,0),(20,5),(10,0),(20,-5)])],[(0,1,1,3,false),(0,3,1,1,true)])
def PW:(List (Bool × Int × Int)) × Int:=([(false,1,1)],0)
def Rk (y:(List (Bool × Int × Int)) × Int):Bool:=decide (y=PW)
theorem MS {y:(List (Bool × Int × Int)) × Int} (h:Rk y=true):y=PW:=of_decide_eq_true h
theorem acu:bE bJ 21 (aK.enc (.cons (.agg (.cons (.list 2 (.agg (.cons .str (.cons (.list 2 (.agg (.cons (.int .i64) (.cons (.int .i64) .nil)))) .nil)))) (.cons (.list 5 (.agg (.cons (.int .i64) (.cons (.int .i64) (.cons (.int .i64) (.cons (.int .i64) (.cons .bool .nil))))))) .nil))) .nil) YZ) (fun r=>r=aM.enc (.bD (.cons (.list 3 (.agg (.cons .bool (.cons (.int .i64) (.cons (.int .i64) .nil))))) (.cons (.int .i64) .nil))) PW):=
 bE.mono (cE (C:=J1) (n:=100000) (p:=(.bD (.cons (.list 3 (.agg (.cons .bool (.cons (.int .i64) (.cons (.int .i64) .nil))))) (.cons (.int .i64) .nil)))) (ok:=Rk) (fP gy) (by kernel_rfl) (by kernel_rfl) (by kernel_rfl)) fun r ⟨y,h1,h2⟩=>by rw [h1,MS h2]
noncomputable def E21:bf:=⟨(.cons (.agg (.cons (.list 2 (.agg (.cons .str (.cons (.list 2 (.agg (.cons (.int .i64) (.cons (.int .i64) .nil)))) .nil)))) (.cons (.list 5 (.agg (.cons (.int .i64) (.cons (.int .i64) (.cons (.int .i64) (.cons (.int .i64) (.cons .bool .nil))))))) .nil))) .nil),(.bD (.cons (.list 3 (.agg (.cons .bool (.cons (.int .i64) (.cons (.int .i64) .nil))))) (.cons (.int .i64) .nil))),mV (α:=(List ((List UInt8) × (List (Int × Int)))) × (List (Int × Int × Int × Int × Bool))) (β:=(List (Bool × Int × Int)) × Int) [(YY,PV),(YZ,PW)]⟩
theorem UL:aE bJ 21 E21:=fun x y h=>by
 rcases uj (α:=(List ((List UInt8) × (List (Int × Int)))) × (List (Int × Int × Int × Int × Bool))) (β:=(List (Bool × Int × Int)) × Int) h with ⟨e1,e2⟩|⟨e1,e2⟩
 ·subst e1; subst e2; exact acs
 ·subst e1; subst e2; exact acu
def Y0:(List ((List UInt8) × (List (Int × Int)))) × (List (Int × Int × Int × Int × Bool)):=([([80],[(10,0),(20,5),(10,0),(20,-5)]),([81],[(10,0),(20,5),(10,0),(20,-5)])],[(0,1,1,3,false),(0,3,1,1,false)])
def PX:(List Int) × Int:=([1,1],0)
def Rl (y:(List Int) × Int):Bool:=decide (y=PX)
theorem MT {y:(List Int) × Int} (h:Rl y=true):y=PX:=of_decide_eq_true h
theorem acv:bE bJ 25 (aK.enc (.cons (.agg (.cons (.list 2 (.agg (.cons .str (.cons (.list 2 (.agg (.cons (.int .i64) (.cons (.int .i64) .nil)))) .nil)))) (.cons (.list 5 (.agg (.cons (.int .i64) (.cons (.int .i64) (.cons (.int .i64) (.cons (.int .i64) (.cons .bool .nil))))))) .nil))) .nil) Y0) (fun r=>r=aM.enc (.bD (.cons (.list 1 (.int .i64)) (.cons (.int .i64) .nil))) PX):=
 bE.mono (cE (C:=J1) (n:=100000) (p:=(.bD (.cons (.list 1 (.int .i64)) (.cons (.int .i64) .nil)))) (ok:=Rl) (fP gy) (by kernel_rfl) (by kernel_rfl) (by kernel_rfl)) fun r ⟨y,h1,h2⟩=>by rw [h1,MT h2]
def Y1:(List ((List UInt8) × (List (Int × Int)))) × (List (Int × Int × Int × Int × Bool)):=([([80],[(10,0),(20,5),(10,0),(20,-5)]),([81],[(10,0),(20,5),(10,0),(20,-5)])],[(0,1,1,3,false),(0,3,1,1,true)])
def PY:(List Int) × Int:=([],29)
def Rm (y:(List Int) × Int):Bool:=decide (y=PY)
theorem MU {y:(List Int) × Int} (h:Rm y=true):y=PY:=of_decide_eq_true h
theorem acw:bE bJ 25 (aK.enc (.cons (.agg (.cons (.list 2 (.agg (.cons .str (.cons (.list 2 (.agg (.cons (.int .i64) (.cons (.int .i64) .nil)))) .nil)))) (.cons (.list 5 (.agg (.cons (.int .i64) (.cons (.int .i64) (.cons (.int .i64) (.cons (.int .i64) (.cons .bool .nil))))))) .nil))) .nil) Y1) (fun r=>r=aM.enc (.bD (.cons (.list 1 (.int .i64)) (.cons (.int .i64) .nil))) PY):=
 bE.mono (cE (C:=J1) (n:=100000) (p:=(.bD (.cons (.list 1 (.int .i64)) (.cons (.int .i64) .nil)))) (ok:=Rm) (fP gy) (by kernel_rfl) (by kernel_rfl) (by kernel_rfl)) fun r ⟨y,h1,h2⟩=>by rw [h1,MU h2]
noncomputable def E25:bf:=⟨(.cons (.agg (.cons (.list 2 (.agg (.cons .str (.cons (.list 2 (.agg (.cons (.int .i64) (.cons (.int .i64) .nil)))) .nil)))) (.cons (.list 5 (.agg (.cons (.int .i64) (.cons (.int .i64) (.cons (.int .i64) (.cons (.int .i64) (.cons .bool .nil))))))) .nil))) .nil),(.bD (.cons (.list 1 (.int .i64)) (.cons (.int .i64) .nil))),mV (α:=(List ((List UInt8) × (List (Int × Int)))) × (List (Int × Int × Int × Int × Bool))) (β:=(List Int) × Int) [(Y0,PX),(Y1,PY)]⟩
theorem UM:aE bJ 25 E25:=fun x y h=>by
 rcases uj (α:=(List ((List UInt8) × (List (Int × Int)))) × (List (Int × Int × Int × Int × Bool))) (β:=(List Int) × Int) h with ⟨e1,e2⟩|⟨e1,e2⟩
 ·subst e1; subst e2; exact acv
 ·subst e1; subst e2; exact acw
def Y2:((List ((List UInt8) × (List (Int × Int)))) × (List (Int × Int × Int × Int × Bool))) × (Int × List Int):=(([([80],[(10,0),(20,5),(10,0),(20,-5)]),([81],[(10,0),(20,5),(10,0),(20,-5)])],[(0,1,1,3,false),(0,3,1,1,true)]),(0,[0,1]))
def PZ:Int:=0
def Rn (y:Int):Bool:=decide (y=PZ)
theorem MV {y:Int} (h:Rn y=true):y=PZ:=of_decide_eq_true h
theorem acx:bE bJ 27 (aK.enc (.cons (.agg (.cons (.list 2 (.agg (.cons .str (.cons (.list 2 (.agg (.cons (.int .i64) (.cons (.int .i64) .nil)))) .nil)))) (.cons (.list 5 (.agg (.cons (.int .i64) (.cons (.int .i64) (.cons (.int .i64) (.cons (.int .i64) (.cons .bool .nil))))))) .nil))) (.cons (.agg (.cons (.int .i64) (.cons (.list 1 (.int .i64)) .nil))) .nil)) Y2) (fun r=>r=aM.enc (.int .i64) PZ):=
 bE.mono (cE (C:=J1) (n:=100000) (p:=(.int .i64)) (ok:=Rn) (fP gy) (by kernel_rfl) (by kernel_rfl) (by kernel_rfl)) fun r ⟨y,h1,h2⟩=>by rw [h1,MV h2]
noncomputable def E27:bf:=⟨(.cons (.agg (.cons (.list 2 (.agg (.cons .str (.cons (.list 2 (.agg (.cons (.int .i64) (.cons (.int .i64) .nil)))) .nil)))) (.cons (.list 5 (.agg (.cons (.int .i64) (.cons (.int .i64) (.cons (.int .i64) (.cons (.int .i64) (.cons .bool .nil))))))) .nil))) (.cons (.agg (.cons (.int .i64) (.cons (.list 1 (.int .i64)) .nil))) .nil)),(.int .i64),mV (α:=((List ((List UInt8) × (List (Int × Int)))) × (List (Int × Int × Int × Int × Bool))) × (Int × List Int)) (β:=Int) [(Y2,PZ)]⟩
theorem UN:aE bJ 27 E27:=fun x y h=>by
 obtain ⟨e1,e2⟩:=od (α:=((List ((List UInt8) × (List (Int × Int)))) × (List (Int × Int × Int × Int × Bool))) × (Int × List Int)) (β:=Int) h;subst e1; subst e2;exact acx
def Y3:((List ((List UInt8) × (List (Int × Int)))) × (List (Int × Int × Int × Int × Bool))) × List (Int × Int × Bool):=(([([80],[(10,0),(20,5),(10,0),(20,-5)]),([81],[(10,0),(20,5),(10,0),(20,-5)])],[(0,1,1,3,false),(0,3,1,1,true)]),[(1,0,false),(0,2,true),(0,1,true)])
def P0:Int:=0
def Ro (y:Int):Bool:=decide (y=P0)
theorem MW {y:Int} (h:Ro y=true):y=P0:=of_decide_eq_true h
theorem acy:bE bJ 49 (aK.enc (.cons (.agg (.cons (.list 2 (.agg (.cons .str (.cons (.list 2 (.agg (.cons (.int .i64) (.cons (.int .i64) .nil)))) .nil)))) (.cons (.list 5 (.agg (.cons (.int .i64) (.cons (.int .i64) (.cons (.int .i64) (.cons (.int .i64) (.cons .bool .nil))))))) .nil))) (.cons (.list 3 (.agg (.cons (.int .i64) (.cons (.int .i64) (.cons .bool .nil))))) .nil)) Y3) (fun r=>r=aM.enc (.int .i64) P0):=
 bE.mono (cE (C:=J1) (n:=100000) (p:=(.int .i64)) (ok:=Ro) (fP gy) (by kernel_rfl) (by kernel_rfl) (by kernel_rfl)) fun r ⟨y,h1,h2⟩=>by rw [h1,MW h2]
noncomputable def E49:bf:=⟨(.cons (.agg (.cons (.list 2 (.agg (.cons .str (.cons (.list 2 (.agg (.cons (.int .i64) (.cons (.int .i64) .nil)))) .nil)))) (.cons (.list 5 (.agg (.cons (.int .i64) (.cons (.int .i64) (.cons (.int .i64) (.cons (.int .i64) (.cons .bool .nil))))))) .nil))) (.cons (.list 3 (.agg (.cons (.int .i64) (.cons (.int .i64) (.cons .bool .nil))))) .nil)),(.int .i64),mV (α:=((List ((List UInt8) × (List (Int × Int)))) × (List (Int × Int × Int × Int × Bool))) × List (Int × Int × Bool)) (β:=Int) [(Y3,P0)]⟩
theorem UO:aE bJ 49 E49:=fun x y h=>by
 obtain ⟨e1,e2⟩:=od (α:=((List ((List UInt8) × (List (Int × Int)))) × (List (Int × Int × Int × Int × Bool))) × List (Int × Int × Bool)) (β:=Int) h;subst e1; subst e2;exact acy
def Y4:(List ((List UInt8) × (List (Int × Int)))) × (List (Int × Int × Int × Int × Bool)):=([([80],[(10,0),(20,5),(10,0),(20,-5)]),([81],[(10,0),(20,5),(10,0),(20,-5)])],[(0,1,1,3,false),(0,3,1,1,false)])
def P1:(List (List Int)) × Int:=([[0,0,5,5],[0,0,5,5]],0)
def Rp (y:(List (List Int)) × Int):Bool:=decide (y=P1)
theorem MX {y:(List (List Int)) × Int} (h:Rp y=true):y=P1:=of_decide_eq_true h
theorem acz:bE bJ 41 (aK.enc (.cons (.agg (.cons (.list 2 (.agg (.cons .str (.cons (.list 2 (.agg (.cons (.int .i64) (.cons (.int .i64) .nil)))) .nil)))) (.cons (.list 5 (.agg (.cons (.int .i64) (.cons (.int .i64) (.cons (.int .i64) (.cons (.int .i64) (.cons .bool .nil))))))) .nil))) .nil) Y4) (fun r=>r=aM.enc (.bD (.cons (.list 1 (.list 1 (.int .i64))) (.cons (.int .i64) .nil))) P1):=
 bE.mono (cE (C:=J1) (n:=100000) (p:=(.bD (.cons (.list 1 (.list 1 (.int .i64))) (.cons (.int .i64) .nil)))) (ok:=Rp) (fP gy) (by kernel_rfl) (by kernel_rfl) (by kernel_rfl)) fun r ⟨y,h1,h2⟩=>by rw [h1,MX h2]
def Y5:(List ((List UInt8) × (List (Int × Int)))) × (List (Int × Int × Int × Int × Bool)):=([([80],[(10,0),(20,5),(10,0),(20,-5)]),([81],[(10,0),(20,5),(10,0),(20,-5)])],[(0,1,1,3,false),(0,3,1,1,true)])
def P2:(List (List Int)) × Int:=([],29)
def Rq (y:(List (List Int)) × Int):Bool:=decide (y=P2)
theorem MY {y:(List (List Int)) × Int} (h:Rq y=true):y=P2:=of_decide_eq_true h
theorem acA:bE bJ 41 (aK.enc (.cons (.agg (.cons (.list 2 (.agg (.cons .str (.cons (.list 2 (.agg (.cons (.int .i64) (.cons (.int .i64) .nil)))) .nil)))) (.cons (.list 5 (.agg (.cons (.int .i64) (.cons (.int .i64) (.cons (.int .i64) (.cons (.int .i64) (.cons .bool .nil))))))) .nil))) .nil) Y5) (fun r=>r=aM.enc (.bD (.cons (.list 1 (.list 1 (.int .i64))) (.cons (.int .i64) .nil))) P2):=
 bE.mono (cE (C:=J1) (n:=100000) (p:=(.bD (.cons (.list 1 (.list 1 (.int .i64))) (.cons (.int .i64) .nil)))) (ok:=Rq) (fP gy) (by kernel_rfl) (by kernel_rfl) (by kernel_rfl)) fun r ⟨y,h1,h2⟩=>by rw [h1,MY h2]
noncomputable def E41:bf:=⟨(.cons (.agg (.cons (.list 2 (.agg (.cons .str (.cons (.list 2 (.agg (.cons (.int .i64) (.cons (.int .i64) .nil)))) .nil)))) (.cons (.list 5 (.agg (.cons (.int .i64) (.cons (.int .i64) (.cons (.int .i64) (.cons (.int .i64) (.cons .bool .nil))))))) .nil))) .nil),(.bD (.cons (.list 1 (.list 1 (.int .i64))) (.cons (.int .i64) .nil))),mV (α:=(List ((List UInt8) × (List (Int × Int)))) × (List (Int × Int × Int × Int × Bool))) (β:=(List (List Int)) × Int) [(Y4,P1),(Y5,P2)]⟩
theorem UP:aE bJ 41 E41:=fun x y h=>by
 rcases uj (α:=(List ((List UInt8) × (List (Int × Int)))) × (List (Int × Int × Int × Int × Bool))) (β:=(List (List Int)) × Int) h with ⟨e1,e2⟩|⟨e1,e2⟩
 ·subst e1; subst e2; exact acz
 ·subst e1; subst e2; exact acA
end Go.Proofs.Ytegoimldbgdeiaa
namespace Go.Proofs.Ytegoimldbgdeiaa
open Go Go.Am
open List (map)
open Int (toNat)
open Go.IntKind (wrap)
open Go.Am.aM (fits)
set_option maxRecDepth 1000000
noncomputable def Y6:List (Nat × bf):=PP++[(46,E46),(20,E20),(19,E19),(22,E22),(21,E21),(25,E25),(27,E27),(49,E49),(41,E41)]
theorem P3:∀ a e,(a,e)∈Y6→aE bJ a e:=fun a e h=>by
 rcases List.mem_append.1 h with h|h
 ·exact gy a e h
 ·simp only [List.mem_cons,Prod.mk.injEq,List.not_mem_nil,or_false] at h;rcases h with ⟨rfl,rfl⟩|⟨rfl,rfl⟩|⟨rfl,rfl⟩|⟨rfl,rfl⟩|⟨rfl,rfl⟩|⟨rfl,rfl⟩|⟨rfl,rfl⟩|⟨rfl,rfl⟩|⟨rfl,rfl⟩
  ·exact UH
  ·exact UI
  ·exact UJ
  ·exact UK
  ·exact UL
  ·exact UM
  ·exact UN
  ·exact UO
  ·exact UP
noncomputable def cxD:iN:={ D:=Mg,JE:=AR Y6,CU:=fun _ _=>none,fz:=true,N:=0,xt:=xtC,gt:=gtG }
theorem EO:bE bJ 10 [] (fun r=>∃ y:Bool,r=aM.enc .bool y∧y=true):=
 cE (C:=cxD) (n:=100000) (p:=.bool) (ok:=fun (y:Bool)=>y) (fP P3) (by kernel_rfl) (by kernel_rfl) (by kernel_rfl)
end Go.Proofs.Ytegoimldbgdeiaa
namespace Go.Proofs.Ytegoimldbgdeiaa
open Go Go.Am
open List (map)
open Int (toNat)
open Go.IntKind (wrap)
open Go.Am.aM (fits)
def Z0 (_N:Nat):Unit→Option Bool:=fun _=>some true
def Z1 (N:Nat):bf:=⟨.nil,.bool,Z0 N⟩
theorem UQ (N:Nat):aE bJ 10 (Z1 N):=fun x y h=>by
 cases h;exact bE.mono EO fun r ⟨y,h1,h2⟩=>by rw [h1,h2]; rfl
end Go.Proofs.Ytegoimldbgdeiaa
