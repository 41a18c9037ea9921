/- The chapter's examples,call by call: ends and uses. -/
import Derived.Test.YtldcljfjjoidhaaGreatDoorBraLp
set_option linter.all false
open Option.some renaming inj→aad
namespace Go.Proofs.YtldcljfjjoidhaaGreatDoor
open Go Go.Am
open List (map)
open Int (toNat)
open Go.IntKind (wrap)
open Go.Am.aO (fits)
set_option maxRecDepth 1000000
noncomputable def UA:List (Nat × aR):=[(95,OV),(98,Ze),(142,IN),(84,Xj 18446744073709551616)]
theorem ja (m:Int):∀ a e,(a,e)∈UA→aj (gT m) a e:=fun a e h=>by
 simp only [UA,List.mem_cons,Prod.mk.injEq,List.not_mem_nil,or_false] at h;rcases h with ⟨rfl,rfl⟩|⟨rfl,rfl⟩|⟨rfl,rfl⟩|⟨rfl,rfl⟩
 ·exact aht m
 ·exact L98 m
 ·exact ahu m
 ·exact aj.toM (Uz (Nat.le_refl _))
noncomputable def O9 (m:Int):fU:={ D:=Xd m,Bx:=xY UA,qU:=fun _ _=>none,fz:=true,N:=0,gt:=gtE m }
instance decC5:DecidableEq XC:=inferInstance
instance decCL:DecidableEq iO:=inferInstance
instance decI4:DecidableEq (Int × Int × Int × Int):=inferInstance
instance decI3:DecidableEq XB:=inferInstance
def ny {α β:Type} [DecidableEq α]:List (α × β)→α→Option β
 |[],_=>none
 |(a,b) :: l,x=>bif decide (x=a) then some b else ny l x
theorem kO {α β:Type} [DecidableEq α] {a x:α} {b y:β} (h:ny [(a,b)] x=some y):x=a∧y=b:=by
 unfold ny at h;cases hd:decide (x=a) with
 |true=>rw [hd] at h; exact ⟨of_decide_eq_true hd,(aad h).symm⟩
 |false=>rw [hd] at h; cases h
theorem Gp {α β:Type} [DecidableEq α] {a a' x:α} {b b' y:β} (h:ny [(a,b),(a',b')] x=some y):(x=a∧y=b)∨(x=a'∧y=b'):=by
 unfold ny at h;cases hd:decide (x=a) with
 |true=>rw [hd] at h; exact .inl ⟨of_decide_eq_true hd,(aad h).symm⟩
 |false=>rw [hd] at h; exact .inr (kO h)
def adL:List XB:=[(0,0,1),(2,0,-1),(2,0,1),(1,1,-1),(1,1,1),(3,1,-1)]
def UB:Int × Int:=(1,0)
def Xk (y:Int × Int):Bool:=decide (y=UB)
theorem Pa {y:Int × Int} (h:Xk y=true):y=UB:=of_decide_eq_true h
theorem ahQ (m:Int):a6 (gT m) 18 (aQ.enc (.cons (.list 3 aA) .nil) adL) (fun r=>r=aO.enc (.bu (.cons (.int .i64) (.cons (.int .i64) .nil))) UB):=
 a6.mono (dH (C:=O9 m) (n:=100000) (p:=(.bu (.cons (.int .i64) (.cons (.int .i64) .nil)))) (ok:=Xk) (iA (ja m)) (by kernel_rfl) (by kernel_rfl) (by kernel_rfl)) fun r ⟨y,h1,h2⟩=>by rw [h1,Pa h2]
def adM:List XB:=[(0,0,1),(2,0,-1),(2,0,1),(1,1,-1),(1,1,1)]
def UC:Int × Int:=(2,0)
def Xl (y:Int × Int):Bool:=decide (y=UC)
theorem Pb {y:Int × Int} (h:Xl y=true):y=UC:=of_decide_eq_true h
theorem ahR (m:Int):a6 (gT m) 18 (aQ.enc (.cons (.list 3 aA) .nil) adM) (fun r=>r=aO.enc (.bu (.cons (.int .i64) (.cons (.int .i64) .nil))) UC):=
 a6.mono (dH (C:=O9 m) (n:=100000) (p:=(.bu (.cons (.int .i64) (.cons (.int .i64) .nil)))) (ok:=Xl) (iA (ja m)) (by kernel_rfl) (by kernel_rfl) (by kernel_rfl)) fun r ⟨y,h1,h2⟩=>by rw [h1,Pb h2]
def E18:aR:=⟨(.cons (.list 3 aA) .nil),(.bu (.cons (.int .i64) (.cons (.int .i64) .nil))),ny (α:=List XB) (β:=Int × Int) [(adL,UB),(adM,UC)]⟩
theorem Zt (m:Int):aj (gT m) 18 E18:=fun x y h=>by
 rcases Gp (α:=List XB) (β:=Int × Int) h with ⟨e1,e2⟩|⟨e1,e2⟩
 ·subst e1; subst e2; exact ahQ m
 ·subst e1; subst e2; exact ahR m
def adN:iO × Int × Int:=([(0,0,true,true,3),(3,1,false,true,3)],50,4)
def UD:(Int × Int × Int × Int) × Int:=((6,6,1,324),0)
def Xm (y:(Int × Int × Int × Int) × Int):Bool:=decide (y=UD)
theorem Pc {y:(Int × Int × Int × Int) × Int} (h:Xm y=true):y=UD:=of_decide_eq_true h
theorem ahS (m:Int):a6 (gT m) 27 (aQ.enc (.cons (.list 5 (.agg (.cons (.int .i64) (.cons (.int .i64) (.cons .bool (.cons .bool (.cons (.int .i64) .nil))))))) (.cons (.int .i64) (.cons (.int .i64) .nil))) adN) (fun r=>r=aO.enc (.bu (.cons (.agg (.cons (.int .i64) (.cons (.int .i64) (.cons (.int .i64) (.cons (.int .i64) .nil))))) (.cons (.int .i64) .nil))) UD):=
 a6.mono (dH (C:=O9 m) (n:=100000) (p:=(.bu (.cons (.agg (.cons (.int .i64) (.cons (.int .i64) (.cons (.int .i64) (.cons (.int .i64) .nil))))) (.cons (.int .i64) .nil)))) (ok:=Xm) (iA (ja m)) (by kernel_rfl) (by kernel_rfl) (by kernel_rfl)) fun r ⟨y,h1,h2⟩=>by rw [h1,Pc h2]
def E27:aR:=⟨(.cons (.list 5 (.agg (.cons (.int .i64) (.cons (.int .i64) (.cons .bool (.cons .bool (.cons (.int .i64) .nil))))))) (.cons (.int .i64) (.cons (.int .i64) .nil))),(.bu (.cons (.agg (.cons (.int .i64) (.cons (.int .i64) (.cons (.int .i64) (.cons (.int .i64) .nil))))) (.cons (.int .i64) .nil))),ny (α:=iO × Int × Int) (β:=(Int × Int × Int × Int) × Int) [(adN,UD)]⟩
theorem Zu (m:Int):aj (gT m) 27 E27:=fun x y h=>by
 obtain ⟨e1,e2⟩:=kO (α:=iO × Int × Int) (β:=(Int × Int × Int × Int) × Int) h;subst e1; subst e2;exact ahS m
end Go.Proofs.YtldcljfjjoidhaaGreatDoor
