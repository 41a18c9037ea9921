/- The chapter's examples,call by call: ends and uses. -/
import Derived.Test.YtldcljfjjoidhaaGreatDoorBraLp
set_option linter.all false
namespace Go.Proofs.YtldcljfjjoidhaaGreatDoor
open Go Go.Am
open List (map)
open Int (toNat)
open Go.IntKind (wrap)
open Go.Am.aT (fits)
set_option maxRecDepth 1000000
noncomputable def P2:List (Nat × aQ):=[(95,La),(98,Uz),(142,Fe),(84,SA 18446744073709551616)]
theorem gU (m:Int):∀ a e,(a,e)∈P2→ap (fC m) a e:=fun a e h=>by
 simp only [P2,List.mem_cons,Prod.mk.injEq,List.not_mem_nil,or_false] at h
 rcases h with ⟨rfl,rfl⟩ | ⟨rfl,rfl⟩ | ⟨rfl,rfl⟩ | ⟨rfl,rfl⟩
 ·exact acm m
 ·exact L98 m
 ·exact acn m
 ·exact ap.toM (P1 (Nat.le_refl _))
noncomputable def Lo (m:Int):eE:={ D:=Sq m,yx:=CZ P2,oO:=fun _ _=>none,fz:=true,N:=0,gt:=gtE m }
instance decC5:DecidableEq XC:=inferInstance
instance decCL:DecidableEq eD:=inferInstance
instance decI4:DecidableEq (Int × Int × Int × Int):=inferInstance
instance decI3:DecidableEq XB:=inferInstance
def lu {α β:Type} [DecidableEq α]:List (α × β)→α→Option β
 | [],_=>none
 | (a,b) :: l,x=>bif decide (x=a) then some b else lu l x
theorem jv {α β:Type} [DecidableEq α] {a x:α} {b y:β} (h:lu [(a,b)] x=some y):x=a∧y=b:=by
 unfold lu at h
 cases hd:decide (x=a) with
 | true=>rw [hd] at h; exact ⟨of_decide_eq_true hd,(Option.some.inj h).symm⟩
 | false=>rw [hd] at h; cases h
theorem Di {α β:Type} [DecidableEq α] {a a' x:α} {b b' y:β} (h:lu [(a,b),(a',b')] x=some y):(x=a∧y=b)∨(x=a'∧y=b'):=by
 unfold lu at h
 cases hd:decide (x=a) with
 | true=>rw [hd] at h; exact .inl ⟨of_decide_eq_true hd,(Option.some.inj h).symm⟩
 | false=>rw [hd] at h; exact .inr (jv h)
def YY:List XB:=[(0,0,1),(2,0,-1),(2,0,1),(1,1,-1),(1,1,1),(3,1,-1)]
def P3:Int × Int:=(1,0)
def SB (y:Int × Int):Bool:=decide (y=P3)
theorem Lp {y:Int × Int} (h:SB y=true):y=P3:=of_decide_eq_true h
theorem acR (m:Int):aY (fC m) 18 (aP.enc (.cons (.list 3 aw) .nil) YY) (fun r=>r=aT.enc (.bi (.cons (.int .i64) (.cons (.int .i64) .nil))) P3):=
 aY.mono (cY (C:=Lo m) (n:=100000) (p:=(.bi (.cons (.int .i64) (.cons (.int .i64) .nil)))) (ok:=SB) (aW (gU m)) (by kernel_rfl) (by kernel_rfl) (by kernel_rfl)) fun r ⟨y,h1,h2⟩=>by rw [h1,Lp h2]
def YZ:List XB:=[(0,0,1),(2,0,-1),(2,0,1),(1,1,-1),(1,1,1)]
def P4:Int × Int:=(2,0)
def SC (y:Int × Int):Bool:=decide (y=P4)
theorem Lq {y:Int × Int} (h:SC y=true):y=P4:=of_decide_eq_true h
theorem acS (m:Int):aY (fC m) 18 (aP.enc (.cons (.list 3 aw) .nil) YZ) (fun r=>r=aT.enc (.bi (.cons (.int .i64) (.cons (.int .i64) .nil))) P4):=
 aY.mono (cY (C:=Lo m) (n:=100000) (p:=(.bi (.cons (.int .i64) (.cons (.int .i64) .nil)))) (ok:=SC) (aW (gU m)) (by kernel_rfl) (by kernel_rfl) (by kernel_rfl)) fun r ⟨y,h1,h2⟩=>by rw [h1,Lq h2]
def E18:aQ:=⟨(.cons (.list 3 aw) .nil),(.bi (.cons (.int .i64) (.cons (.int .i64) .nil))),lu (α:=List XB) (β:=Int × Int) [(YY,P3),(YZ,P4)]⟩
theorem UK (m:Int):ap (fC m) 18 E18:=fun x y h=>by
 rcases Di (α:=List XB) (β:=Int × Int) h with ⟨e1,e2⟩ | ⟨e1,e2⟩
 ·subst e1; subst e2; exact acR m
 ·subst e1; subst e2; exact acS m
def Y0:eD × Int × Int:=([(0,0,true,true,3),(3,1,false,true,3)],50,4)
def P5:(Int × Int × Int × Int) × Int:=((6,6,1,324),0)
def SD (y:(Int × Int × Int × Int) × Int):Bool:=decide (y=P5)
theorem Lr {y:(Int × Int × Int × Int) × Int} (h:SD y=true):y=P5:=of_decide_eq_true h
theorem acT (m:Int):aY (fC m) 27 (aP.enc (.cons (.list 5 (.agg (.cons (.int .i64) (.cons (.int .i64) (.cons .bool (.cons .bool (.cons (.int .i64) .nil))))))) (.cons (.int .i64) (.cons (.int .i64) .nil))) Y0) (fun r=>r=aT.enc (.bi (.cons (.agg (.cons (.int .i64) (.cons (.int .i64) (.cons (.int .i64) (.cons (.int .i64) .nil))))) (.cons (.int .i64) .nil))) P5):=
 aY.mono (cY (C:=Lo m) (n:=100000) (p:=(.bi (.cons (.agg (.cons (.int .i64) (.cons (.int .i64) (.cons (.int .i64) (.cons (.int .i64) .nil))))) (.cons (.int .i64) .nil)))) (ok:=SD) (aW (gU m)) (by kernel_rfl) (by kernel_rfl) (by kernel_rfl)) fun r ⟨y,h1,h2⟩=>by rw [h1,Lr h2]
def E27:aQ:=⟨(.cons (.list 5 (.agg (.cons (.int .i64) (.cons (.int .i64) (.cons .bool (.cons .bool (.cons (.int .i64) .nil))))))) (.cons (.int .i64) (.cons (.int .i64) .nil))),(.bi (.cons (.agg (.cons (.int .i64) (.cons (.int .i64) (.cons (.int .i64) (.cons (.int .i64) .nil))))) (.cons (.int .i64) .nil))),lu (α:=eD × Int × Int) (β:=(Int × Int × Int × Int) × Int) [(Y0,P5)]⟩
theorem UL (m:Int):ap (fC m) 27 E27:=fun x y h=>by
 obtain ⟨e1,e2⟩:=jv (α:=eD × Int × Int) (β:=(Int × Int × Int × Int) × Int) h
 subst e1; subst e2
 exact acT m
end Go.Proofs.YtldcljfjjoidhaaGreatDoor
