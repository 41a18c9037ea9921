/- The chapter's examples,call by call: ends and uses. -/
import Derived.Test.YtldcljfjjoidhaaGreatDoorBraLp
set_option linter.all false
namespace Go.Proofs.YtldcljfjjoidhaaGreatDoor
open Go Go.Am
open List (map)
open Int (toNat)
open Go.IntKind (wrap)
open Go.Am.aR (fits)
set_option maxRecDepth 1000000
noncomputable def Q4:List (Nat × aS):=[(95,L7),(98,VG),(142,Ge),(84,TO 18446744073709551616)]
theorem iD (m:Int):∀ a e,(a,e)∈Q4→ak (gu m) a e:=fun a e h=>by
 simp only [Q4,List.mem_cons,Prod.mk.injEq,List.not_mem_nil,or_false] at h
 rcases h with ⟨rfl,rfl⟩ | ⟨rfl,rfl⟩ | ⟨rfl,rfl⟩ | ⟨rfl,rfl⟩
 ·exact adQ m
 ·exact L98 m
 ·exact adR m
 ·exact ak.toM (Q3 (Nat.le_refl _))
noncomputable def Mk (m:Int):fw:={ D:=TE m,zS:=DL Q4,pP:=fun _ _=>none,fz:=true,N:=0,gt:=gtE m }
instance decC5:DecidableEq XC:=inferInstance
instance decCL:DecidableEq fK:=inferInstance
instance decI4:DecidableEq (Int × Int × Int × Int):=inferInstance
instance decI3:DecidableEq XB:=inferInstance
def mr {α β:Type} [DecidableEq α]:List (α × β)→α→Option β
 | [],_=>none
 | (a,b) :: l,x=>bif decide (x=a) then some b else mr l x
theorem kb {α β:Type} [DecidableEq α] {a x:α} {b y:β} (h:mr [(a,b)] x=some y):x=a∧y=b:=by
 unfold mr at h
 cases hd:decide (x=a) with
 | true=>rw [hd] at h; exact ⟨of_decide_eq_true hd,(Option.some.inj h).symm⟩
 | false=>rw [hd] at h; cases h
theorem D7 {α β:Type} [DecidableEq α] {a a' x:α} {b b' y:β} (h:mr [(a,b),(a',b')] x=some y):(x=a∧y=b)∨(x=a'∧y=b'):=by
 unfold mr at h
 cases hd:decide (x=a) with
 | true=>rw [hd] at h; exact .inl ⟨of_decide_eq_true hd,(Option.some.inj h).symm⟩
 | false=>rw [hd] at h; exact .inr (kb h)
def Z5:List XB:=[(0,0,1),(2,0,-1),(2,0,1),(1,1,-1),(1,1,1),(3,1,-1)]
def Q5:Int × Int:=(1,0)
def TP (y:Int × Int):Bool:=decide (y=Q5)
theorem Ml {y:Int × Int} (h:TP y=true):y=Q5:=of_decide_eq_true h
theorem aej (m:Int):a7 (gu m) 18 (aT.enc (.cons (.list 3 ay) .nil) Z5) (fun r=>r=aR.enc (.bp (.cons (.int .i64) (.cons (.int .i64) .nil))) Q5):=
 a7.mono (dm (C:=Mk m) (n:=100000) (p:=(.bp (.cons (.int .i64) (.cons (.int .i64) .nil)))) (ok:=TP) (aZ (iD m)) (by kernel_rfl) (by kernel_rfl) (by kernel_rfl)) fun r ⟨y,h1,h2⟩=>by rw [h1,Ml h2]
def Z6:List XB:=[(0,0,1),(2,0,-1),(2,0,1),(1,1,-1),(1,1,1)]
def Q6:Int × Int:=(2,0)
def TQ (y:Int × Int):Bool:=decide (y=Q6)
theorem Mm {y:Int × Int} (h:TQ y=true):y=Q6:=of_decide_eq_true h
theorem aek (m:Int):a7 (gu m) 18 (aT.enc (.cons (.list 3 ay) .nil) Z6) (fun r=>r=aR.enc (.bp (.cons (.int .i64) (.cons (.int .i64) .nil))) Q6):=
 a7.mono (dm (C:=Mk m) (n:=100000) (p:=(.bp (.cons (.int .i64) (.cons (.int .i64) .nil)))) (ok:=TQ) (aZ (iD m)) (by kernel_rfl) (by kernel_rfl) (by kernel_rfl)) fun r ⟨y,h1,h2⟩=>by rw [h1,Mm h2]
def E18:aS:=⟨(.cons (.list 3 ay) .nil),(.bp (.cons (.int .i64) (.cons (.int .i64) .nil))),mr (α:=List XB) (β:=Int × Int) [(Z5,Q5),(Z6,Q6)]⟩
theorem VU (m:Int):ak (gu m) 18 E18:=fun x y h=>by
 rcases D7 (α:=List XB) (β:=Int × Int) h with ⟨e1,e2⟩ | ⟨e1,e2⟩
 ·subst e1; subst e2; exact aej m
 ·subst e1; subst e2; exact aek m
def Z7:fK × Int × Int:=([(0,0,true,true,3),(3,1,false,true,3)],50,4)
def Q7:(Int × Int × Int × Int) × Int:=((6,6,1,324),0)
def TS (y:(Int × Int × Int × Int) × Int):Bool:=decide (y=Q7)
theorem Mn {y:(Int × Int × Int × Int) × Int} (h:TS y=true):y=Q7:=of_decide_eq_true h
theorem ael (m:Int):a7 (gu m) 27 (aT.enc (.cons (.list 5 (.agg (.cons (.int .i64) (.cons (.int .i64) (.cons .bool (.cons .bool (.cons (.int .i64) .nil))))))) (.cons (.int .i64) (.cons (.int .i64) .nil))) Z7) (fun r=>r=aR.enc (.bp (.cons (.agg (.cons (.int .i64) (.cons (.int .i64) (.cons (.int .i64) (.cons (.int .i64) .nil))))) (.cons (.int .i64) .nil))) Q7):=
 a7.mono (dm (C:=Mk m) (n:=100000) (p:=(.bp (.cons (.agg (.cons (.int .i64) (.cons (.int .i64) (.cons (.int .i64) (.cons (.int .i64) .nil))))) (.cons (.int .i64) .nil)))) (ok:=TS) (aZ (iD m)) (by kernel_rfl) (by kernel_rfl) (by kernel_rfl)) fun r ⟨y,h1,h2⟩=>by rw [h1,Mn h2]
def E27:aS:=⟨(.cons (.list 5 (.agg (.cons (.int .i64) (.cons (.int .i64) (.cons .bool (.cons .bool (.cons (.int .i64) .nil))))))) (.cons (.int .i64) (.cons (.int .i64) .nil))),(.bp (.cons (.agg (.cons (.int .i64) (.cons (.int .i64) (.cons (.int .i64) (.cons (.int .i64) .nil))))) (.cons (.int .i64) .nil))),mr (α:=fK × Int × Int) (β:=(Int × Int × Int × Int) × Int) [(Z7,Q7)]⟩
theorem VV (m:Int):ak (gu m) 27 E27:=fun x y h=>by
 obtain ⟨e1,e2⟩:=kb (α:=fK × Int × Int) (β:=(Int × Int × Int × Int) × Int) h
 subst e1; subst e2
 exact ael m
end Go.Proofs.YtldcljfjjoidhaaGreatDoor
