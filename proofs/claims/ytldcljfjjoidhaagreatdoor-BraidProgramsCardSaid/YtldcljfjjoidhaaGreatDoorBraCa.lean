/- The chapter's examples,call by call: ends and uses. -/
import Derived.Test.YtldcljfjjoidhaaGreatDoorBraLp
set_option linter.all false
namespace Go.Proofs.YtldcljfjjoidhaaGreatDoor
open Go Go.Am
set_option maxRecDepth 1000000
noncomputable def NX:List (Nat × aJ):=[(95,Jz),(98,RZ),(142,DF),(84,P9 18446744073709551616)]
theorem gd (m:Int):∀ a e,(a,e)∈NX→an (eP m) a e:=fun a e h=>by
 simp only [NX,List.mem_cons,Prod.mk.injEq,List.not_mem_nil,or_false] at h
 rcases h with ⟨rfl,rfl⟩ | ⟨rfl,rfl⟩ | ⟨rfl,rfl⟩ | ⟨rfl,rfl⟩
 ·exact ZG m
 ·exact L98 m
 ·exact ZH m
 ·exact an.toM (NW (Nat.le_refl _))
noncomputable def JO (m:Int):ea:={ D:=P3 m,yo:=Bw NX,pH:=fun _ _=>none,fz:=true,N:=0,gt:=gtE m }
instance decC5:DecidableEq (Int × Int × Bool × Bool × Int):=inferInstance
instance decCL:DecidableEq (List (Int × Int × Bool × Bool × Int)):=inferInstance
instance decI4:DecidableEq (Int × Int × Int × Int):=inferInstance
instance decI3:DecidableEq (Int × Int × Int):=inferInstance
def kB {α β:Type} [DecidableEq α]:List (α × β)→α→Option β
 | [],_=>none
 | (a,b) :: l,x=>bif decide (x=a) then some b else kB l x
theorem iK {α β:Type} [DecidableEq α] {a x:α} {b y:β} (h:kB [(a,b)] x=some y):x=a∧y=b:=by
 unfold kB at h
 cases hd:decide (x=a) with
 | true=>rw [hd] at h; exact ⟨of_decide_eq_true hd,(Option.some.inj h).symm⟩
 | false=>rw [hd] at h; cases h
theorem BR {α β:Type} [DecidableEq α] {a a' x:α} {b b' y:β} (h:kB [(a,b),(a',b')] x=some y):(x=a∧y=b)∨(x=a'∧y=b'):=by
 unfold kB at h
 cases hd:decide (x=a) with
 | true=>rw [hd] at h; exact .inl ⟨of_decide_eq_true hd,(Option.some.inj h).symm⟩
 | false=>rw [hd] at h; exact .inr (iK h)
def Wq:List (Int × Int × Int):=[(0,0,1),(2,0,-1),(2,0,1),(1,1,-1),(1,1,1),(3,1,-1)]
def NY:Int × Int:=(1,0)
def Qa (y:Int × Int):Bool:=decide (y=NY)
theorem JP {y:Int × Int} (h:Qa y=true):y=NY:=of_decide_eq_true h
theorem Z6 (m:Int):aS (eP m) 18 (aH.enc (.cons (.list 3 (.agg (.cons (.int .i64) (.cons (.int .i64) (.cons (.int .i64) .nil))))) .nil) Wq) (fun r=>r=aj.enc (.bg (.cons (.int .i64) (.cons (.int .i64) .nil))) NY):=
 aS.mono (cJ (C:=JO m) (n:=100000) (p:=(.bg (.cons (.int .i64) (.cons (.int .i64) .nil)))) (ok:=Qa) (aQ (gd m)) (by kernel_rfl) (by kernel_rfl) (by kernel_rfl)) fun r ⟨y,h1,h2⟩=>by rw [h1,JP h2]
def Wr:List (Int × Int × Int):=[(0,0,1),(2,0,-1),(2,0,1),(1,1,-1),(1,1,1)]
def NZ:Int × Int:=(2,0)
def Qb (y:Int × Int):Bool:=decide (y=NZ)
theorem JQ {y:Int × Int} (h:Qb y=true):y=NZ:=of_decide_eq_true h
theorem Z7 (m:Int):aS (eP m) 18 (aH.enc (.cons (.list 3 (.agg (.cons (.int .i64) (.cons (.int .i64) (.cons (.int .i64) .nil))))) .nil) Wr) (fun r=>r=aj.enc (.bg (.cons (.int .i64) (.cons (.int .i64) .nil))) NZ):=
 aS.mono (cJ (C:=JO m) (n:=100000) (p:=(.bg (.cons (.int .i64) (.cons (.int .i64) .nil)))) (ok:=Qb) (aQ (gd m)) (by kernel_rfl) (by kernel_rfl) (by kernel_rfl)) fun r ⟨y,h1,h2⟩=>by rw [h1,JQ h2]
def E18:aJ:=⟨(.cons (.list 3 (.agg (.cons (.int .i64) (.cons (.int .i64) (.cons (.int .i64) .nil))))) .nil),(.bg (.cons (.int .i64) (.cons (.int .i64) .nil))),kB (α:=List (Int × Int × Int)) (β:=Int × Int) [(Wq,NY),(Wr,NZ)]⟩
theorem Se (m:Int):an (eP m) 18 E18:=fun x y h=>by
 rcases BR (α:=List (Int × Int × Int)) (β:=Int × Int) h with ⟨e1,e2⟩ | ⟨e1,e2⟩
 ·subst e1; subst e2; exact Z6 m
 ·subst e1; subst e2; exact Z7 m
def Ws:(List (Int × Int × Bool × Bool × Int)) × Int × Int:=([(0,0,true,true,3),(3,1,false,true,3)],50,4)
def N0:(Int × Int × Int × Int) × Int:=((6,6,1,324),0)
def Qd (y:(Int × Int × Int × Int) × Int):Bool:=decide (y=N0)
theorem JR {y:(Int × Int × Int × Int) × Int} (h:Qd y=true):y=N0:=of_decide_eq_true h
theorem Z8 (m:Int):aS (eP m) 27 (aH.enc (.cons (.list 5 (.agg (.cons (.int .i64) (.cons (.int .i64) (.cons .bool (.cons .bool (.cons (.int .i64) .nil))))))) (.cons (.int .i64) (.cons (.int .i64) .nil))) Ws) (fun r=>r=aj.enc (.bg (.cons (.agg (.cons (.int .i64) (.cons (.int .i64) (.cons (.int .i64) (.cons (.int .i64) .nil))))) (.cons (.int .i64) .nil))) N0):=
 aS.mono (cJ (C:=JO m) (n:=100000) (p:=(.bg (.cons (.agg (.cons (.int .i64) (.cons (.int .i64) (.cons (.int .i64) (.cons (.int .i64) .nil))))) (.cons (.int .i64) .nil)))) (ok:=Qd) (aQ (gd m)) (by kernel_rfl) (by kernel_rfl) (by kernel_rfl)) fun r ⟨y,h1,h2⟩=>by rw [h1,JR h2]
def E27:aJ:=⟨(.cons (.list 5 (.agg (.cons (.int .i64) (.cons (.int .i64) (.cons .bool (.cons .bool (.cons (.int .i64) .nil))))))) (.cons (.int .i64) (.cons (.int .i64) .nil))),(.bg (.cons (.agg (.cons (.int .i64) (.cons (.int .i64) (.cons (.int .i64) (.cons (.int .i64) .nil))))) (.cons (.int .i64) .nil))),kB (α:=(List (Int × Int × Bool × Bool × Int)) × Int × Int) (β:=(Int × Int × Int × Int) × Int) [(Ws,N0)]⟩
theorem Sf (m:Int):an (eP m) 27 E27:=fun x y h=>by
 obtain ⟨e1,e2⟩:=iK (α:=(List (Int × Int × Bool × Bool × Int)) × Int × Int) (β:=(Int × Int × Int × Int) × Int) h
 subst e1; subst e2
 exact Z8 m
end Go.Proofs.YtldcljfjjoidhaaGreatDoor
