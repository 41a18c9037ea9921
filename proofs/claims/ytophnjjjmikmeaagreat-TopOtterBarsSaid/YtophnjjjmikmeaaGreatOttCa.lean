/- The chapter's examples,call by call: bars and counts. -/
import Derived.Test.YtophnjjjmikmeaaGreatOttL
set_option linter.all false
namespace Go.Proofs.YtophnjjjmikmeaaGreat
open Go Go.Am
set_option maxRecDepth 1000000
noncomputable def Zd:gn:={ D:=NZ,DH:=C4 Rs,sO:=fun _ _=>none,fz:=true,N:=0 }
def ub {α β:Type} [DecidableEq α]:List (α × β)→α→Option β
 | [],_=>none
 | (a,b) :: l,x=>bif decide (x=a) then some b else ub l x
theorem ob {α β:Type} [DecidableEq α] {a x:α} {b y:β} (h:ub [(a,b)] x=some y):x=a∧y=b:=by
 unfold ub at h
 cases hd:decide (x=a) with
 | true=>rw [hd] at h; exact ⟨of_decide_eq_true hd,(Option.some.inj h).symm⟩
 | false=>rw [hd] at h; cases h
def x8a:(Int × Int) × (List UInt8) × Int × Bool:=((0,0),[78,66,66],2,true)
def Xa:(List (Int × Int × Int)) × Int:=([(0,2,1),(1,3,1),(2,6,1),(3,7,1)],0)
def VC (y:(List (Int × Int × Int)) × Int):Bool:=decide (y=Xa)
theorem N5 {y:(List (Int × Int × Int)) × Int} (h:VC y=true):y=Xa:=of_decide_eq_true h
theorem m8a:bz env 8 (aK.enc (.cons (.agg (.cons (.int .i64) (.cons (.int .i64) .nil))) (.cons .str (.cons (.int .i64) (.cons .bool .nil)))) x8a) (fun r=>r=aj.enc (.bF (.cons (.list 3 (.agg (.cons (.int .i64) (.cons (.int .i64) (.cons (.int .i64) .nil))))) (.cons (.int .i64) .nil))) Xa):=
 bz.mono (jh (C:=Zd) (n:=100000) (p:=(.bF (.cons (.list 3 (.agg (.cons (.int .i64) (.cons (.int .i64) (.cons (.int .i64) .nil))))) (.cons (.int .i64) .nil)))) (ok:=VC) (bN Bn) (by kernel_rfl) (by kernel_rfl) (by kernel_rfl)) fun r ⟨y,h1,h2⟩=>by rw [h1,N5 h2]
def E8:bl:=⟨(.cons (.agg (.cons (.int .i64) (.cons (.int .i64) .nil))) (.cons .str (.cons (.int .i64) (.cons .bool .nil)))),(.bF (.cons (.list 3 (.agg (.cons (.int .i64) (.cons (.int .i64) (.cons (.int .i64) .nil))))) (.cons (.int .i64) .nil))),ub (α:=(Int × Int) × (List UInt8) × Int × Bool) (β:=(List (Int × Int × Int)) × Int) [(x8a,Xa)]⟩
theorem VD:av env 8 E8:=fun x y h=>by
 obtain ⟨e1,e2⟩:=ob (α:=(Int × Int) × (List UInt8) × Int × Bool) (β:=(List (Int × Int × Int)) × Int) h
 subst e1; subst e2
 exact m8a
def VE:List (Int × Int × Int):=[(0,2,1),(1,3,1),(2,6,1),(3,7,1)]
def N6:(Int × Int × Int × Int × Int) × Int:=((6,4,0,2,0),0)
def PC (y:(Int × Int × Int × Int × Int) × Int):Bool:=decide (y=N6)
theorem K4 {y:(Int × Int × Int × Int × Int) × Int} (h:PC y=true):y=N6:=of_decide_eq_true h
theorem Ze:bz env 11 (aK.enc (.cons (.list 3 (.agg (.cons (.int .i64) (.cons (.int .i64) (.cons (.int .i64) .nil))))) .nil) VE) (fun r=>r=aj.enc (.bF (.cons (.agg (.cons (.int .i64) (.cons (.int .i64) (.cons (.int .i64) (.cons (.int .i64) (.cons (.int .i64) .nil)))))) (.cons (.int .i64) .nil))) N6):=
 bz.mono (jh (C:=Zd) (n:=100000) (p:=(.bF (.cons (.agg (.cons (.int .i64) (.cons (.int .i64) (.cons (.int .i64) (.cons (.int .i64) (.cons (.int .i64) .nil)))))) (.cons (.int .i64) .nil)))) (ok:=PC) (bN Bn) (by kernel_rfl) (by kernel_rfl) (by kernel_rfl)) fun r ⟨y,h1,h2⟩=>by rw [h1,K4 h2]
def E11:bl:=⟨(.cons (.list 3 (.agg (.cons (.int .i64) (.cons (.int .i64) (.cons (.int .i64) .nil))))) .nil),(.bF (.cons (.agg (.cons (.int .i64) (.cons (.int .i64) (.cons (.int .i64) (.cons (.int .i64) (.cons (.int .i64) .nil)))))) (.cons (.int .i64) .nil))),ub (α:=List (Int × Int × Int)) (β:=(Int × Int × Int × Int × Int) × Int) [(VE,N6)]⟩
theorem Sd:av env 11 E11:=fun x y h=>by
 obtain ⟨e1,e2⟩:=ob (α:=List (Int × Int × Int)) (β:=(Int × Int × Int × Int × Int) × Int) h
 subst e1; subst e2
 exact Ze
end Go.Proofs.YtophnjjjmikmeaaGreat
