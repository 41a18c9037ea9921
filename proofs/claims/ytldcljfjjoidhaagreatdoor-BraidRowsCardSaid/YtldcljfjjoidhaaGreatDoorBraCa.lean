/- The chapter's examples,call by call: ends and uses. -/
import Derived.Test.YtldcljfjjoidhaaGreatDoorBraLp
set_option linter.all false
namespace Go.Proofs.YtldcljfjjoidhaaGreatDoor
open Go Go.Am
open List (map)
open Int (toNat)
open Go.IntKind (wrap)
open Go.Am.aO (fits)
set_option maxRecDepth 1000000
noncomputable def PC:List (Nat × aZ):=[(95,KP),(98,TC),(142,E2),(84,Rx 18446744073709551616)]
theorem gV (m:Int):∀ a e,(a,e)∈PC→ap (fK m) a e:=fun a e h=>by
 simp only [PC,List.mem_cons,Prod.mk.injEq,List.not_mem_nil,or_false] at h
 rcases h with ⟨rfl,rfl⟩ | ⟨rfl,rfl⟩ | ⟨rfl,rfl⟩ | ⟨rfl,rfl⟩
 ·exact aaM m
 ·exact L98 m
 ·exact aaN m
 ·exact ap.toM (PB (Nat.le_refl _))
noncomputable def K5 (m:Int):gv:={ D:=Ro m,yy:=CR PC,oD:=fun _ _=>none,fz:=true,N:=0,gt:=gtE m }
instance decC5:DecidableEq XC:=inferInstance
instance decCL:DecidableEq yz:=inferInstance
instance decI4:DecidableEq (Int × Int × Int × Int):=inferInstance
instance decI3:DecidableEq XB:=inferInstance
def lC {α β:Type} [DecidableEq α]:List (α × β)→α→Option β
 | [],_=>none
 | (a,b) :: l,x=>bif decide (x=a) then some b else lC l x
theorem jv {α β:Type} [DecidableEq α] {a x:α} {b y:β} (h:lC [(a,b)] x=some y):x=a∧y=b:=by
 unfold lC at h
 cases hd:decide (x=a) with
 | true=>rw [hd] at h; exact ⟨of_decide_eq_true hd,(Option.some.inj h).symm⟩
 | false=>rw [hd] at h; cases h
theorem Da {α β:Type} [DecidableEq α] {a a' x:α} {b b' y:β} (h:lC [(a,b),(a',b')] x=some y):(x=a∧y=b)∨(x=a'∧y=b'):=by
 unfold lC at h
 cases hd:decide (x=a) with
 | true=>rw [hd] at h; exact .inl ⟨of_decide_eq_true hd,(Option.some.inj h).symm⟩
 | false=>rw [hd] at h; exact .inr (jv h)
def Xq:List XB:=[(0,0,1),(2,0,-1),(2,0,1),(1,1,-1),(1,1,1),(3,1,-1)]
def PD:Int × Int:=(1,0)
def Ry (y:Int × Int):Bool:=decide (y=PD)
theorem K6 {y:Int × Int} (h:Ry y=true):y=PD:=of_decide_eq_true h
theorem aa5 (m:Int):aW (fK m) 18 (aP.enc (.cons (.list 3 au) .nil) Xq) (fun r=>r=aO.enc (.bh (.cons (.int .i64) (.cons (.int .i64) .nil))) PD):=
 aW.mono (cQ (C:=K5 m) (n:=100000) (p:=(.bh (.cons (.int .i64) (.cons (.int .i64) .nil)))) (ok:=Ry) (bn (gV m)) (by kernel_rfl) (by kernel_rfl) (by kernel_rfl)) fun r ⟨y,h1,h2⟩=>by rw [h1,K6 h2]
def Xr:List XB:=[(0,0,1),(2,0,-1),(2,0,1),(1,1,-1),(1,1,1)]
def PE:Int × Int:=(2,0)
def Rz (y:Int × Int):Bool:=decide (y=PE)
theorem K7 {y:Int × Int} (h:Rz y=true):y=PE:=of_decide_eq_true h
theorem aa6 (m:Int):aW (fK m) 18 (aP.enc (.cons (.list 3 au) .nil) Xr) (fun r=>r=aO.enc (.bh (.cons (.int .i64) (.cons (.int .i64) .nil))) PE):=
 aW.mono (cQ (C:=K5 m) (n:=100000) (p:=(.bh (.cons (.int .i64) (.cons (.int .i64) .nil)))) (ok:=Rz) (bn (gV m)) (by kernel_rfl) (by kernel_rfl) (by kernel_rfl)) fun r ⟨y,h1,h2⟩=>by rw [h1,K7 h2]
def E18:aZ:=⟨(.cons (.list 3 au) .nil),(.bh (.cons (.int .i64) (.cons (.int .i64) .nil))),lC (α:=List XB) (β:=Int × Int) [(Xq,PD),(Xr,PE)]⟩
theorem TN (m:Int):ap (fK m) 18 E18:=fun x y h=>by
 rcases Da (α:=List XB) (β:=Int × Int) h with ⟨e1,e2⟩ | ⟨e1,e2⟩
 ·subst e1; subst e2; exact aa5 m
 ·subst e1; subst e2; exact aa6 m
def Xs:yz × Int × Int:=([(0,0,true,true,3),(3,1,false,true,3)],50,4)
def PF:(Int × Int × Int × Int) × Int:=((6,6,1,324),0)
def RA (y:(Int × Int × Int × Int) × Int):Bool:=decide (y=PF)
theorem K8 {y:(Int × Int × Int × Int) × Int} (h:RA y=true):y=PF:=of_decide_eq_true h
theorem aa7 (m:Int):aW (fK m) 27 (aP.enc (.cons (.list 5 (.agg (.cons (.int .i64) (.cons (.int .i64) (.cons .bool (.cons .bool (.cons (.int .i64) .nil))))))) (.cons (.int .i64) (.cons (.int .i64) .nil))) Xs) (fun r=>r=aO.enc (.bh (.cons (.agg (.cons (.int .i64) (.cons (.int .i64) (.cons (.int .i64) (.cons (.int .i64) .nil))))) (.cons (.int .i64) .nil))) PF):=
 aW.mono (cQ (C:=K5 m) (n:=100000) (p:=(.bh (.cons (.agg (.cons (.int .i64) (.cons (.int .i64) (.cons (.int .i64) (.cons (.int .i64) .nil))))) (.cons (.int .i64) .nil)))) (ok:=RA) (bn (gV m)) (by kernel_rfl) (by kernel_rfl) (by kernel_rfl)) fun r ⟨y,h1,h2⟩=>by rw [h1,K8 h2]
def E27:aZ:=⟨(.cons (.list 5 (.agg (.cons (.int .i64) (.cons (.int .i64) (.cons .bool (.cons .bool (.cons (.int .i64) .nil))))))) (.cons (.int .i64) (.cons (.int .i64) .nil))),(.bh (.cons (.agg (.cons (.int .i64) (.cons (.int .i64) (.cons (.int .i64) (.cons (.int .i64) .nil))))) (.cons (.int .i64) .nil))),lC (α:=yz × Int × Int) (β:=(Int × Int × Int × Int) × Int) [(Xs,PF)]⟩
theorem TO (m:Int):ap (fK m) 27 E27:=fun x y h=>by
 obtain ⟨e1,e2⟩:=jv (α:=yz × Int × Int) (β:=(Int × Int × Int × Int) × Int) h
 subst e1; subst e2
 exact aa7 m
end Go.Proofs.YtldcljfjjoidhaaGreatDoor
