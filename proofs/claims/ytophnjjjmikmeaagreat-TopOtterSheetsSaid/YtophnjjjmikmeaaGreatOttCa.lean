/- The chapter's examples,call by call: bars and counts. -/
import Derived.Test.YtophnjjjmikmeaaGreatOttL
set_option linter.all false
namespace Go.Proofs.YtophnjjjmikmeaaGreat
open Go Go.Am
set_option maxRecDepth 1000000
noncomputable def VO:fP:={ D:=La,HI:=Dv Ol,Bt:=fun _ _=>none,fz:=true,N:=0 }
def sS {α β:Type} [DecidableEq α]:List (α × β)→α→Option β
 | [],_=>none
 | (a,b) :: l,x=>bif decide (x=a) then some b else sS l x
theorem nl {α β:Type} [DecidableEq α] {a x:α} {b y:β} (h:sS [(a,b)] x=some y):x=a∧y=b:=by
 unfold sS at h
 cases hd:decide (x=a) with
 | true=>rw [hd] at h; exact ⟨of_decide_eq_true hd,(Option.some.inj h).symm⟩
 | false=>rw [hd] at h; cases h
def Xr:(Int × Int) × (List UInt8) × Int × Bool:=((0,0),[78,66,66],2,true)
def TG:(List (Int × Int × Int)) × Int:=([(0,2,1),(1,3,1),(2,6,1),(3,7,1)],0)
def Sp (y:(List (Int × Int × Int)) × Int):Bool:=decide (y=TG)
theorem Lg {y:(List (Int × Int × Int)) × Int} (h:Sp y=true):y=TG:=of_decide_eq_true h
theorem Zj:bP env 8 (aG.enc (.cons (.agg (.cons (.int .i64) (.cons (.int .i64) .nil))) (.cons .str (.cons (.int .i64) (.cons .bool .nil)))) Xr) (fun r=>r=aq.enc (.bt (.cons (.list 3 (.agg (.cons (.int .i64) (.cons (.int .i64) (.cons (.int .i64) .nil))))) (.cons (.int .i64) .nil))) TG):=
 bP.mono (il (C:=VO) (n:=100000) (p:=(.bt (.cons (.list 3 (.agg (.cons (.int .i64) (.cons (.int .i64) (.cons (.int .i64) .nil))))) (.cons (.int .i64) .nil)))) (ok:=Sp) (bD zQ) (by kernel_rfl) (by kernel_rfl) (by kernel_rfl)) fun r ⟨y,h1,h2⟩=>by rw [h1,Lg h2]
def E8:a8:=⟨(.cons (.agg (.cons (.int .i64) (.cons (.int .i64) .nil))) (.cons .str (.cons (.int .i64) (.cons .bool .nil)))),(.bt (.cons (.list 3 (.agg (.cons (.int .i64) (.cons (.int .i64) (.cons (.int .i64) .nil))))) (.cons (.int .i64) .nil))),sS (α:=(Int × Int) × (List UInt8) × Int × Bool) (β:=(List (Int × Int × Int)) × Int) [(Xr,TG)]⟩
theorem Sq:ax env 8 E8:=fun x y h=>by
 obtain ⟨e1,e2⟩:=nl (α:=(Int × Int) × (List UInt8) × Int × Bool) (β:=(List (Int × Int × Int)) × Int) h
 subst e1; subst e2
 exact Zj
def Sr:List (Int × Int × Int):=[(0,2,1),(1,3,1),(2,6,1),(3,7,1)]
def Lh:(Int × Int × Int × Int × Int) × Int:=((6,4,0,2,0),0)
def MD (y:(Int × Int × Int × Int × Int) × Int):Bool:=decide (y=Lh)
theorem Iy {y:(Int × Int × Int × Int × Int) × Int} (h:MD y=true):y=Lh:=of_decide_eq_true h
theorem VP:bP env 11 (aG.enc (.cons (.list 3 (.agg (.cons (.int .i64) (.cons (.int .i64) (.cons (.int .i64) .nil))))) .nil) Sr) (fun r=>r=aq.enc (.bt (.cons (.agg (.cons (.int .i64) (.cons (.int .i64) (.cons (.int .i64) (.cons (.int .i64) (.cons (.int .i64) .nil)))))) (.cons (.int .i64) .nil))) Lh):=
 bP.mono (il (C:=VO) (n:=100000) (p:=(.bt (.cons (.agg (.cons (.int .i64) (.cons (.int .i64) (.cons (.int .i64) (.cons (.int .i64) (.cons (.int .i64) .nil)))))) (.cons (.int .i64) .nil)))) (ok:=MD) (bD zQ) (by kernel_rfl) (by kernel_rfl) (by kernel_rfl)) fun r ⟨y,h1,h2⟩=>by rw [h1,Iy h2]
def Xs:a8:=⟨(.cons (.list 3 (.agg (.cons (.int .i64) (.cons (.int .i64) (.cons (.int .i64) .nil))))) .nil),(.bt (.cons (.agg (.cons (.int .i64) (.cons (.int .i64) (.cons (.int .i64) (.cons (.int .i64) (.cons (.int .i64) .nil)))))) (.cons (.int .i64) .nil))),sS (α:=List (Int × Int × Int)) (β:=(Int × Int × Int × Int × Int) × Int) [(Sr,Lh)]⟩
theorem OZ:ax env 11 Xs:=fun x y h=>by
 obtain ⟨e1,e2⟩:=nl (α:=List (Int × Int × Int)) (β:=(Int × Int × Int × Int × Int) × Int) h
 subst e1; subst e2
 exact VP
end Go.Proofs.YtophnjjjmikmeaaGreat
