/- The chapter's examples,call by call: the sheet. -/
import Derived.Test.YtophnjjjmikmeaaGreatOttCa
set_option linter.all false
namespace Go.Proofs.YtophnjjjmikmeaaGreat
open Go Go.Am
set_option maxRecDepth 1000000
def Ss:(Int × Int) × Int × Int:=((-2,-2),4,12)
def zV:(List (Int × Int × Int)) × Int:=([(-2,-2,1),(0,-2,-1),(0,-2,1),(2,-2,-1),(2,-2,1),(4,-2,-1),(4,-2,1),(6,-2,-1),(-1,-1,-1),(-1,-1,1),(1,-1,-1),(1,-1,1),(3,-1,-1),(3,-1,1),(5,-1,-1),(5,-1,1),(-2,0,1),(0,0,-1),(0,0,1),(2,0,-1),(2,0,1),(4,0,-1),(4,0,1),(6,0,-1),(-1,1,-1),(-1,1,1),(1,1,-1),(1,1,1),(3,1,-1),(3,1,1),(5,1,-1),(5,1,1),(-2,2,1),(0,2,-1),(0,2,1),(2,2,-1),(2,2,1),(4,2,-1),(4,2,1),(6,2,-1),(-1,3,-1),(-1,3,1),(1,3,-1),(1,3,1),(3,3,-1),(3,3,1),(5,3,-1),(5,3,1),(-2,4,1),(0,4,-1),(0,4,1),(2,4,-1),(2,4,1),(4,4,-1),(4,4,1),(6,4,-1),(-1,5,-1),(-1,5,1),(1,5,-1),(1,5,1),(3,5,-1),(3,5,1),(5,5,-1),(5,5,1),(-2,6,1),(0,6,-1),(0,6,1),(2,6,-1),(2,6,1),(4,6,-1),(4,6,1),(6,6,-1),(-1,7,-1),(-1,7,1),(1,7,-1),(1,7,1),(3,7,-1),(3,7,1),(5,7,-1),(5,7,1),(-2,8,1),(0,8,-1),(0,8,1),(2,8,-1),(2,8,1),(4,8,-1),(4,8,1),(6,8,-1),(-1,9,-1),(-1,9,1),(1,9,-1),(1,9,1),(3,9,-1),(3,9,1),(5,9,-1),(5,9,1)],0)
def ME (y:(List (Int × Int × Int)) × Int):Bool:=decide (y=zV)
theorem Iz {y:(List (Int × Int × Int)) × Int} (h:ME y=true):y=zV:=of_decide_eq_true h
theorem VQ:bP env 17 (aG.enc (.cons (.agg (.cons (.int .i64) (.cons (.int .i64) .nil))) (.cons (.int .i64) (.cons (.int .i64) .nil))) Ss) (fun r=>r=aq.enc (.bt (.cons (.list 3 (.agg (.cons (.int .i64) (.cons (.int .i64) (.cons (.int .i64) .nil))))) (.cons (.int .i64) .nil))) zV):=
 bP.mono (il (C:=VO) (n:=100000) (p:=(.bt (.cons (.list 3 (.agg (.cons (.int .i64) (.cons (.int .i64) (.cons (.int .i64) .nil))))) (.cons (.int .i64) .nil)))) (ok:=ME) (bD zQ) (by kernel_rfl) (by kernel_rfl) (by kernel_rfl)) fun r ⟨y,h1,h2⟩=>by rw [h1,Iz h2]
def TH:a8:=⟨(.cons (.agg (.cons (.int .i64) (.cons (.int .i64) .nil))) (.cons (.int .i64) (.cons (.int .i64) .nil))),(.bt (.cons (.list 3 (.agg (.cons (.int .i64) (.cons (.int .i64) (.cons (.int .i64) .nil))))) (.cons (.int .i64) .nil))),sS (α:=(Int × Int) × Int × Int) (β:=(List (Int × Int × Int)) × Int) [(Ss,zV)]⟩
theorem O0:ax env 17 TH:=fun x y h=>by
 obtain ⟨e1,e2⟩:=nl (α:=(Int × Int) × Int × Int) (β:=(List (Int × Int × Int)) × Int) h
 subst e1; subst e2
 exact VQ
end Go.Proofs.YtophnjjjmikmeaaGreat
