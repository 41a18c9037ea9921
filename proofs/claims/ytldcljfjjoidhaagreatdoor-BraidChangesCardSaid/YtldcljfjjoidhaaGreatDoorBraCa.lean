/- The chapter's examples,call by call: ends and uses. -/
import Derived.Test.YtldcljfjjoidhaaGreatDoorBraLp
set_option linter.all false
namespace Go.Proofs.YtldcljfjjoidhaaGreatDoor
open Go Go.Am
set_option maxRecDepth 1000000
noncomputable def LZ:List (Nat × aK):=[(95,HL),(98,PA),(142,CG),(84,NL 18446744073709551616)]
theorem fL (m:Int):∀ a e,(a,e)∈LZ→ao (eC m) a e:=fun a e h=>by
 simp only [LZ,List.mem_cons,Prod.mk.injEq,List.not_mem_nil,or_false] at h
 rcases h with ⟨rfl,rfl⟩ | ⟨rfl,rfl⟩ | ⟨rfl,rfl⟩ | ⟨rfl,rfl⟩
 ·exact Wv m
 ·exact L98 m
 ·exact Ww m
 ·exact ao.toM (LY (Nat.le_refl _))
noncomputable def HY (m:Int):eR:={ D:=NF m,xd:=AG LZ,oJ:=fun _ _=>none,fz:=true,N:=0,gt:=Yz m }
instance decC5:DecidableEq (Int × Int × Bool × Bool × Int):=inferInstance
instance decCL:DecidableEq (List (Int × Int × Bool × Bool × Int)):=inferInstance
instance decI4:DecidableEq (Int × Int × Int × Int):=inferInstance
instance decI3:DecidableEq (Int × Int × Int):=inferInstance
def j6 {α β:Type} [DecidableEq α]:List (α × β)→α→Option β
 | [],_=>none
 | (a,b) :: l,x=>bif decide (x=a) then some b else j6 l x
theorem ic {α β:Type} [DecidableEq α] {a x:α} {b y:β} (h:j6 [(a,b)] x=some y):x=a∧y=b:=by
 unfold j6 at h
 cases hd:decide (x=a) with
 | true=>rw [hd] at h; exact ⟨of_decide_eq_true hd,(Option.some.inj h).symm⟩
 | false=>rw [hd] at h; cases h
theorem A0 {α β:Type} [DecidableEq α] {a a' x:α} {b b' y:β} (h:j6 [(a,b),(a',b')] x=some y):(x=a∧y=b)∨(x=a'∧y=b'):=by
 unfold j6 at h
 cases hd:decide (x=a) with
 | true=>rw [hd] at h; exact .inl ⟨of_decide_eq_true hd,(Option.some.inj h).symm⟩
 | false=>rw [hd] at h; exact .inr (ic h)
def TD:List (Int × Int × Int):=[(0,0,1),(2,0,-1),(2,0,1),(1,1,-1),(1,1,1),(3,1,-1)]
def L0:Int × Int:=(1,0)
def NM (y:Int × Int):Bool:=decide (y=L0)
theorem HZ {y:Int × Int} (h:NM y=true):y=L0:=of_decide_eq_true h
theorem W6 (m:Int):aM (eC m) 18 (aF.enc (.cons (.list 3 (.agg (.cons (.int .i64) (.cons (.int .i64) (.cons (.int .i64) .nil))))) .nil) TD) (fun r=>r=an.enc (.aX (.cons (.int .i64) (.cons (.int .i64) .nil))) L0):=
 aM.mono (cu (C:=HY m) (n:=100000) (p:=(.aX (.cons (.int .i64) (.cons (.int .i64) .nil)))) (ok:=NM) (aW (fL m)) (by kernel_rfl) (by kernel_rfl) (by kernel_rfl)) fun r ⟨y,h1,h2⟩=>by rw [h1,HZ h2]
def TE:List (Int × Int × Int):=[(0,0,1),(2,0,-1),(2,0,1),(1,1,-1),(1,1,1)]
def L3:Int × Int:=(2,0)
def NN (y:Int × Int):Bool:=decide (y=L3)
theorem H0 {y:Int × Int} (h:NN y=true):y=L3:=of_decide_eq_true h
theorem W7 (m:Int):aM (eC m) 18 (aF.enc (.cons (.list 3 (.agg (.cons (.int .i64) (.cons (.int .i64) (.cons (.int .i64) .nil))))) .nil) TE) (fun r=>r=an.enc (.aX (.cons (.int .i64) (.cons (.int .i64) .nil))) L3):=
 aM.mono (cu (C:=HY m) (n:=100000) (p:=(.aX (.cons (.int .i64) (.cons (.int .i64) .nil)))) (ok:=NN) (aW (fL m)) (by kernel_rfl) (by kernel_rfl) (by kernel_rfl)) fun r ⟨y,h1,h2⟩=>by rw [h1,H0 h2]
def YC:aK:=⟨(.cons (.list 3 (.agg (.cons (.int .i64) (.cons (.int .i64) (.cons (.int .i64) .nil))))) .nil),(.aX (.cons (.int .i64) (.cons (.int .i64) .nil))),j6 (α:=List (Int × Int × Int)) (β:=Int × Int) [(TD,L0),(TE,L3)]⟩
theorem PM (m:Int):ao (eC m) 18 YC:=fun x y h=>by
 rcases A0 (α:=List (Int × Int × Int)) (β:=Int × Int) h with ⟨e1,e2⟩ | ⟨e1,e2⟩
 ·subst e1; subst e2; exact W6 m
 ·subst e1; subst e2; exact W7 m
def TF:(List (Int × Int × Bool × Bool × Int)) × Int × Int:=([(0,0,true,true,3),(3,1,false,true,3)],50,4)
def L4:(Int × Int × Int × Int) × Int:=((6,6,1,324),0)
def NO (y:(Int × Int × Int × Int) × Int):Bool:=decide (y=L4)
theorem H3 {y:(Int × Int × Int × Int) × Int} (h:NO y=true):y=L4:=of_decide_eq_true h
theorem W8 (m:Int):aM (eC m) 27 (aF.enc (.cons (.list 5 (.agg (.cons (.int .i64) (.cons (.int .i64) (.cons .bool (.cons .bool (.cons (.int .i64) .nil))))))) (.cons (.int .i64) (.cons (.int .i64) .nil))) TF) (fun r=>r=an.enc (.aX (.cons (.agg (.cons (.int .i64) (.cons (.int .i64) (.cons (.int .i64) (.cons (.int .i64) .nil))))) (.cons (.int .i64) .nil))) L4):=
 aM.mono (cu (C:=HY m) (n:=100000) (p:=(.aX (.cons (.agg (.cons (.int .i64) (.cons (.int .i64) (.cons (.int .i64) (.cons (.int .i64) .nil))))) (.cons (.int .i64) .nil)))) (ok:=NO) (aW (fL m)) (by kernel_rfl) (by kernel_rfl) (by kernel_rfl)) fun r ⟨y,h1,h2⟩=>by rw [h1,H3 h2]
def YD:aK:=⟨(.cons (.list 5 (.agg (.cons (.int .i64) (.cons (.int .i64) (.cons .bool (.cons .bool (.cons (.int .i64) .nil))))))) (.cons (.int .i64) (.cons (.int .i64) .nil))),(.aX (.cons (.agg (.cons (.int .i64) (.cons (.int .i64) (.cons (.int .i64) (.cons (.int .i64) .nil))))) (.cons (.int .i64) .nil))),j6 (α:=(List (Int × Int × Bool × Bool × Int)) × Int × Int) (β:=(Int × Int × Int × Int) × Int) [(TF,L4)]⟩
theorem PN (m:Int):ao (eC m) 27 YD:=fun x y h=>by
 obtain ⟨e1,e2⟩:=ic (α:=(List (Int × Int × Bool × Bool × Int)) × Int × Int) (β:=(Int × Int × Int × Int) × Int) h
 subst e1; subst e2
 exact W8 m
end Go.Proofs.YtldcljfjjoidhaaGreatDoor
