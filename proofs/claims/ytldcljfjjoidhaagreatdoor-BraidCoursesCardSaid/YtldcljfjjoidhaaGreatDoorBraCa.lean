/- The chapter's examples,call by call: ends and uses. -/
import Derived.Test.YtldcljfjjoidhaaGreatDoorBraLp
set_option linter.all false
namespace Go.Proofs.YtldcljfjjoidhaaGreatDoor
open Go Go.Am
set_option maxRecDepth 1000000
noncomputable def HK:List (Nat × aV):=[(95,Ek),(98,KG),(142,zF),(84,I7 18446744073709551616)]
theorem eO (m:Int):∀ a e,(a,e)∈HK→ap (dK m) a e:=fun a e h=>by
 simp only [HK,List.mem_cons,Prod.mk.injEq,List.not_mem_nil,or_false] at h
 rcases h with ⟨rfl,rfl⟩ | ⟨rfl,rfl⟩ | ⟨rfl,rfl⟩ | ⟨rfl,rfl⟩
 ·exact Qr m
 ·exact Tm m
 ·exact Qs m
 ·exact ap.T6 (HJ (Nat.le_refl _))
noncomputable def Ew (m:Int):gD:={ D:=I0 m,zv:=zB HK,tA:=fun _ _=>none,fz:=true,N:=0,gt:=RH m }
instance decC5:DecidableEq (Int × Int × Bool × Bool × Int):=inferInstance
instance decCL:DecidableEq (List (Int × Int × Bool × Bool × Int)):=inferInstance
instance decI4:DecidableEq (Int × Int × Int × Int):=inferInstance
instance decI3:DecidableEq (Int × Int × Int):=inferInstance
def iQ {α β:Type} [DecidableEq α]:List (α × β)→α→Option β
 | [],_=>none
 | (a,b) :: l,x=>bif decide (x=a) then some b else iQ l x
theorem fT {α β:Type} [DecidableEq α] {a x:α} {b y:β} (h:iQ [(a,b)] x=some y):x=a∧y=b:=by
 unfold iQ at h
 cases hd:decide (x=a) with
 | true=>rw [hd] at h; exact ⟨of_decide_eq_true hd,(Option.some.inj h).symm⟩
 | false=>rw [hd] at h; cases h
theorem xM {α β:Type} [DecidableEq α] {a a' x:α} {b b' y:β} (h:iQ [(a,b),(a',b')] x=some y):(x=a∧y=b)∨(x=a'∧y=b'):=by
 unfold iQ at h
 cases hd:decide (x=a) with
 | true=>rw [hd] at h; exact .inl ⟨of_decide_eq_true hd,(Option.some.inj h).symm⟩
 | false=>rw [hd] at h; exact .inr (fT h)
def NX:List (Int × Int × Int):=[(0,0,1),(2,0,-1),(2,0,1),(1,1,-1),(1,1,1),(3,1,-1)]
def HL:Int × Int:=(1,0)
def I8 (y:Int × Int):Bool:=decide (y=HL)
theorem Ex {y:Int × Int} (h:I8 y=true):y=HL:=of_decide_eq_true h
theorem QO (m:Int):aN (dK m) 18 (aB.enc (.cons (.list 3 (.agg (.cons (.int .i64) (.cons (.int .i64) (.cons (.int .i64) .nil))))) .nil) NX) (fun r=>r=av.enc (.aR (.cons (.int .i64) (.cons (.int .i64) .nil))) HL):=
 aN.mono (bX (C:=Ew m) (n:=100000) (p:=(.aR (.cons (.int .i64) (.cons (.int .i64) .nil)))) (ok:=I8) (bi (eO m)) (by kernel_rfl) (by kernel_rfl) (by kernel_rfl)) fun r ⟨y,h1,h2⟩=>by rw [h1,Ex h2]
def NY:List (Int × Int × Int):=[(0,0,1),(2,0,-1),(2,0,1),(1,1,-1),(1,1,1)]
def HM:Int × Int:=(2,0)
def I9 (y:Int × Int):Bool:=decide (y=HM)
theorem Ey {y:Int × Int} (h:I9 y=true):y=HM:=of_decide_eq_true h
theorem QP (m:Int):aN (dK m) 18 (aB.enc (.cons (.list 3 (.agg (.cons (.int .i64) (.cons (.int .i64) (.cons (.int .i64) .nil))))) .nil) NY) (fun r=>r=av.enc (.aR (.cons (.int .i64) (.cons (.int .i64) .nil))) HM):=
 aN.mono (bX (C:=Ew m) (n:=100000) (p:=(.aR (.cons (.int .i64) (.cons (.int .i64) .nil)))) (ok:=I9) (bi (eO m)) (by kernel_rfl) (by kernel_rfl) (by kernel_rfl)) fun r ⟨y,h1,h2⟩=>by rw [h1,Ey h2]
def RK:aV:=⟨(.cons (.list 3 (.agg (.cons (.int .i64) (.cons (.int .i64) (.cons (.int .i64) .nil))))) .nil),(.aR (.cons (.int .i64) (.cons (.int .i64) .nil))),iQ (α:=List (Int × Int × Int)) (β:=Int × Int) [(NX,HL),(NY,HM)]⟩
theorem KQ (m:Int):ap (dK m) 18 RK:=fun x y h=>by
 rcases xM (α:=List (Int × Int × Int)) (β:=Int × Int) h with ⟨e1,e2⟩ | ⟨e1,e2⟩
 ·subst e1; subst e2; exact QO m
 ·subst e1; subst e2; exact QP m
def NZ:(List (Int × Int × Bool × Bool × Int)) × Int × Int:=([(0,0,true,true,3),(3,1,false,true,3)],50,4)
def HN:(Int × Int × Int × Int) × Int:=((6,6,1,324),0)
def Ja (y:(Int × Int × Int × Int) × Int):Bool:=decide (y=HN)
theorem Ez {y:(Int × Int × Int × Int) × Int} (h:Ja y=true):y=HN:=of_decide_eq_true h
theorem QQ (m:Int):aN (dK m) 27 (aB.enc (.cons (.list 5 (.agg (.cons (.int .i64) (.cons (.int .i64) (.cons .bool (.cons .bool (.cons (.int .i64) .nil))))))) (.cons (.int .i64) (.cons (.int .i64) .nil))) NZ) (fun r=>r=av.enc (.aR (.cons (.agg (.cons (.int .i64) (.cons (.int .i64) (.cons (.int .i64) (.cons (.int .i64) .nil))))) (.cons (.int .i64) .nil))) HN):=
 aN.mono (bX (C:=Ew m) (n:=100000) (p:=(.aR (.cons (.agg (.cons (.int .i64) (.cons (.int .i64) (.cons (.int .i64) (.cons (.int .i64) .nil))))) (.cons (.int .i64) .nil)))) (ok:=Ja) (bi (eO m)) (by kernel_rfl) (by kernel_rfl) (by kernel_rfl)) fun r ⟨y,h1,h2⟩=>by rw [h1,Ez h2]
def RL:aV:=⟨(.cons (.list 5 (.agg (.cons (.int .i64) (.cons (.int .i64) (.cons .bool (.cons .bool (.cons (.int .i64) .nil))))))) (.cons (.int .i64) (.cons (.int .i64) .nil))),(.aR (.cons (.agg (.cons (.int .i64) (.cons (.int .i64) (.cons (.int .i64) (.cons (.int .i64) .nil))))) (.cons (.int .i64) .nil))),iQ (α:=(List (Int × Int × Bool × Bool × Int)) × Int × Int) (β:=(Int × Int × Int × Int) × Int) [(NZ,HN)]⟩
theorem KR (m:Int):ap (dK m) 27 RL:=fun x y h=>by
 obtain ⟨e1,e2⟩:=fT (α:=(List (Int × Int × Bool × Bool × Int)) × Int × Int) (β:=(Int × Int × Int × Int) × Int) h
 subst e1; subst e2
 exact QQ m
end Go.Proofs.YtldcljfjjoidhaaGreatDoor
