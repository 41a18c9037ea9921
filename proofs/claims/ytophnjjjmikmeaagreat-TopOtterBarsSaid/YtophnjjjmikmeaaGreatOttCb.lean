/- The chapter's examples,call by call: the sheet. -/
import Derived.Test.YtophnjjjmikmeaaGreatOttCa
set_option linter.all false
namespace Go.Proofs.YtophnjjjmikmeaaGreat
open Go Go.Am
set_option maxRecDepth 1000000
def VF:(Int × Int) × Int × Int:=((-2,-2),4,12)
def Bt:(List (Int × Int × Int)) × Int:=([(-2,-2,1),(0,-2,-1),(0,-2,1),(2,-2,-1),(2,-2,1),(4,-2,-1),(4,-2,1),(6,-2,-1),(-1,-1,-1),(-1,-1,1),(1,-1,-1),(1,-1,1),(3,-1,-1),(3,-1,1),(5,-1,-1),(5,-1,1),(-2,0,1),(0,0,-1),(0,0,1),(2,0,-1),(2,0,1),(4,0,-1),(4,0,1),(6,0,-1),(-1,1,-1),(-1,1,1),(1,1,-1),(1,1,1),(3,1,-1),(3,1,1),(5,1,-1),(5,1,1),(-2,2,1),(0,2,-1),(0,2,1),(2,2,-1),(2,2,1),(4,2,-1),(4,2,1),(6,2,-1),(-1,3,-1),(-1,3,1),(1,3,-1),(1,3,1),(3,3,-1),(3,3,1),(5,3,-1),(5,3,1),(-2,4,1),(0,4,-1),(0,4,1),(2,4,-1),(2,4,1),(4,4,-1),(4,4,1),(6,4,-1),(-1,5,-1),(-1,5,1),(1,5,-1),(1,5,1),(3,5,-1),(3,5,1),(5,5,-1),(5,5,1),(-2,6,1),(0,6,-1),(0,6,1),(2,6,-1),(2,6,1),(4,6,-1),(4,6,1),(6,6,-1),(-1,7,-1),(-1,7,1),(1,7,-1),(1,7,1),(3,7,-1),(3,7,1),(5,7,-1),(5,7,1),(-2,8,1),(0,8,-1),(0,8,1),(2,8,-1),(2,8,1),(4,8,-1),(4,8,1),(6,8,-1),(-1,9,-1),(-1,9,1),(1,9,-1),(1,9,1),(3,9,-1),(3,9,1),(5,9,-1),(5,9,1)],0)
def PD (y:(List (Int × Int × Int)) × Int):Bool:=decide (y=Bt)
theorem K5 {y:(List (Int × Int × Int)) × Int} (h:PD y=true):y=Bt:=of_decide_eq_true h
theorem Zf:bz env 17 (aK.enc (.cons (.agg (.cons (.int .i64) (.cons (.int .i64) .nil))) (.cons (.int .i64) (.cons (.int .i64) .nil))) VF) (fun r=>r=aj.enc (.bF (.cons (.list 3 (.agg (.cons (.int .i64) (.cons (.int .i64) (.cons (.int .i64) .nil))))) (.cons (.int .i64) .nil))) Bt):=
 bz.mono (jh (C:=Zd) (n:=100000) (p:=(.bF (.cons (.list 3 (.agg (.cons (.int .i64) (.cons (.int .i64) (.cons (.int .i64) .nil))))) (.cons (.int .i64) .nil)))) (ok:=PD) (bN Bn) (by kernel_rfl) (by kernel_rfl) (by kernel_rfl)) fun r ⟨y,h1,h2⟩=>by rw [h1,K5 h2]
def E17:bl:=⟨(.cons (.agg (.cons (.int .i64) (.cons (.int .i64) .nil))) (.cons (.int .i64) (.cons (.int .i64) .nil))),(.bF (.cons (.list 3 (.agg (.cons (.int .i64) (.cons (.int .i64) (.cons (.int .i64) .nil))))) (.cons (.int .i64) .nil))),ub (α:=(Int × Int) × Int × Int) (β:=(List (Int × Int × Int)) × Int) [(VF,Bt)]⟩
theorem Se:av env 17 E17:=fun x y h=>by
 obtain ⟨e1,e2⟩:=ob (α:=(Int × Int) × Int × Int) (β:=(List (Int × Int × Int)) × Int) h
 subst e1; subst e2
 exact Zf
end Go.Proofs.YtophnjjjmikmeaaGreat
