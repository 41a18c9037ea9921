/- The chapter's examples,call by call: ends and uses. -/
import Derived.Test.YtldcljfjjoidhaaGreatDoorBraLp
set_option linter.all false
open Option.some renaming inj→aab
namespace Go.Proofs.YtldcljfjjoidhaaGreatDoor
open Go Go.Am
open List (map)
open Int (toNat)
open Go.IntKind (wrap)
open Go.Am.aP (fits)
set_option maxRecDepth 1000000
noncomputable def Se:List (Nat × aD):=[(95,G8),(98,RI),(142,CO),(84,UW 18446744073709551616)]
theorem gr (m:Int):∀ a e,(a,e)∈Se→ai (e8 m) a e:=fun a e h=>by
 simp only [Se,List.mem_cons,Prod.mk.injEq,List.not_mem_nil,or_false] at h;rcases h with ⟨rfl,rfl⟩|⟨rfl,rfl⟩|⟨rfl,rfl⟩|⟨rfl,rfl⟩
 ·exact aaN m
 ·exact L98 m
 ·exact aaO m
 ·exact ai.toM (Sd (Nat.le_refl _))
noncomputable def KR (m:Int):eB:={ D:=UP m,xe:=wI Se,oo:=fun _ _=>none,fz:=true,N:=0,gt:=gtE m }
instance decC5:DecidableEq XC:=inferInstance
instance decCL:DecidableEq dQ:=inferInstance
instance decI4:DecidableEq (Int × Int × Int × Int):=inferInstance
instance decI3:DecidableEq XB:=inferInstance
def mc {α β:Type} [DecidableEq α]:List (α × β)→α→Option β
 |[],_=>none
 |(a,b) :: l,x=>bif decide (x=a) then some b else mc l x
theorem jK {α β:Type} [DecidableEq α] {a x:α} {b y:β} (h:mc [(a,b)] x=some y):x=a∧y=b:=by
 unfold mc at h;cases hd:decide (x=a) with
 |true=>rw [hd] at h; exact ⟨of_decide_eq_true hd,(aab h).symm⟩
 |false=>rw [hd] at h; cases h
theorem ER {α β:Type} [DecidableEq α] {a a' x:α} {b b' y:β} (h:mc [(a,b),(a',b')] x=some y):(x=a∧y=b)∨(x=a'∧y=b'):=by
 unfold mc at h;cases hd:decide (x=a) with
 |true=>rw [hd] at h; exact .inl ⟨of_decide_eq_true hd,(aab h).symm⟩
 |false=>rw [hd] at h; exact .inr (jK h)
def abg:List XB:=[(0,0,1),(2,0,-1),(2,0,1),(1,1,-1),(1,1,1),(3,1,-1)]
def Sf:Int × Int:=(1,0)
def UX (y:Int × Int):Bool:=decide (y=Sf)
theorem Nz {y:Int × Int} (h:UX y=true):y=Sf:=of_decide_eq_true h
theorem afo (m:Int):aU (e8 m) 18 (aM.enc (.cons (.list 3 aV) .nil) abg) (fun r=>r=aP.enc (.bq (.cons (.int .i64) (.cons (.int .i64) .nil))) Sf):=
 aU.mono (cY (C:=KR m) (n:=100000) (p:=(.bq (.cons (.int .i64) (.cons (.int .i64) .nil)))) (ok:=UX) (fJ (gr m)) (by kernel_rfl) (by kernel_rfl) (by kernel_rfl)) fun r ⟨y,h1,h2⟩=>by rw [h1,Nz h2]
def abh:List XB:=[(0,0,1),(2,0,-1),(2,0,1),(1,1,-1),(1,1,1)]
def Sg:Int × Int:=(2,0)
def UY (y:Int × Int):Bool:=decide (y=Sg)
theorem NA {y:Int × Int} (h:UY y=true):y=Sg:=of_decide_eq_true h
theorem afp (m:Int):aU (e8 m) 18 (aM.enc (.cons (.list 3 aV) .nil) abh) (fun r=>r=aP.enc (.bq (.cons (.int .i64) (.cons (.int .i64) .nil))) Sg):=
 aU.mono (cY (C:=KR m) (n:=100000) (p:=(.bq (.cons (.int .i64) (.cons (.int .i64) .nil)))) (ok:=UY) (fJ (gr m)) (by kernel_rfl) (by kernel_rfl) (by kernel_rfl)) fun r ⟨y,h1,h2⟩=>by rw [h1,NA h2]
def E18:aD:=⟨(.cons (.list 3 aV) .nil),(.bq (.cons (.int .i64) (.cons (.int .i64) .nil))),mc (α:=List XB) (β:=Int × Int) [(abg,Sf),(abh,Sg)]⟩
theorem WY (m:Int):ai (e8 m) 18 E18:=fun x y h=>by
 rcases ER (α:=List XB) (β:=Int × Int) h with ⟨e1,e2⟩|⟨e1,e2⟩
 ·subst e1; subst e2; exact afo m
 ·subst e1; subst e2; exact afp m
def abi:dQ × Int × Int:=([(0,0,true,true,3),(3,1,false,true,3)],50,4)
def Sh:(Int × Int × Int × Int) × Int:=((6,6,1,324),0)
def UZ (y:(Int × Int × Int × Int) × Int):Bool:=decide (y=Sh)
theorem NB {y:(Int × Int × Int × Int) × Int} (h:UZ y=true):y=Sh:=of_decide_eq_true h
theorem afq (m:Int):aU (e8 m) 27 (aM.enc (.cons (.list 5 (.agg (.cons (.int .i64) (.cons (.int .i64) (.cons .bool (.cons .bool (.cons (.int .i64) .nil))))))) (.cons (.int .i64) (.cons (.int .i64) .nil))) abi) (fun r=>r=aP.enc (.bq (.cons (.agg (.cons (.int .i64) (.cons (.int .i64) (.cons (.int .i64) (.cons (.int .i64) .nil))))) (.cons (.int .i64) .nil))) Sh):=
 aU.mono (cY (C:=KR m) (n:=100000) (p:=(.bq (.cons (.agg (.cons (.int .i64) (.cons (.int .i64) (.cons (.int .i64) (.cons (.int .i64) .nil))))) (.cons (.int .i64) .nil)))) (ok:=UZ) (fJ (gr m)) (by kernel_rfl) (by kernel_rfl) (by kernel_rfl)) fun r ⟨y,h1,h2⟩=>by rw [h1,NB h2]
def E27:aD:=⟨(.cons (.list 5 (.agg (.cons (.int .i64) (.cons (.int .i64) (.cons .bool (.cons .bool (.cons (.int .i64) .nil))))))) (.cons (.int .i64) (.cons (.int .i64) .nil))),(.bq (.cons (.agg (.cons (.int .i64) (.cons (.int .i64) (.cons (.int .i64) (.cons (.int .i64) .nil))))) (.cons (.int .i64) .nil))),mc (α:=dQ × Int × Int) (β:=(Int × Int × Int × Int) × Int) [(abi,Sh)]⟩
theorem WZ (m:Int):ai (e8 m) 27 E27:=fun x y h=>by
 obtain ⟨e1,e2⟩:=jK (α:=dQ × Int × Int) (β:=(Int × Int × Int × Int) × Int) h;subst e1; subst e2;exact afq m
end Go.Proofs.YtldcljfjjoidhaaGreatDoor
