/- The chapter's examples,call by call: ends and uses. -/
import Derived.Test.YtldcljfjjoidhaaGreatDoorBraLp
set_option linter.all false
open Option.some renaming inj→aaa
namespace Go.Proofs.YtldcljfjjoidhaaGreatDoor
open Go Go.Am
open List (map)
open Int (toNat)
open Go.IntKind (wrap)
open Go.Am.aM (fits)
set_option maxRecDepth 1000000
noncomputable def RQ:List (Nat × aP):=[(95,GK),(98,Rn),(142,CE),(84,Uj 18446744073709551616)]
theorem gv (m:Int):∀ a e,(a,e)∈RQ→ai (eZ m) a e:=fun a e h=>by
 simp only [RQ,List.mem_cons,Prod.mk.injEq,List.not_mem_nil,or_false] at h;rcases h with ⟨rfl,rfl⟩|⟨rfl,rfl⟩|⟨rfl,rfl⟩|⟨rfl,rfl⟩
 ·exact ZO m
 ·exact L98 m
 ·exact ZP m
 ·exact ai.toM (RN (Nat.le_refl _))
noncomputable def Kv (m:Int):fj:={ D:=Ud m,wP:=wv RQ,n9:=fun _ _=>none,fz:=true,N:=0,gt:=gtE m }
instance decC5:DecidableEq XC:=inferInstance
instance decCL:DecidableEq ey:=inferInstance
instance decI4:DecidableEq (Int × Int × Int × Int):=inferInstance
instance decI3:DecidableEq XB:=inferInstance
def lT {α β:Type} [DecidableEq α]:List (α × β)→α→Option β
 |[],_=>none
 |(a,b) :: l,x=>bif decide (x=a) then some b else lT l x
theorem jH {α β:Type} [DecidableEq α] {a x:α} {b y:β} (h:lT [(a,b)] x=some y):x=a∧y=b:=by
 unfold lT at h;cases hd:decide (x=a) with
 |true=>rw [hd] at h; exact ⟨of_decide_eq_true hd,(aaa h).symm⟩
 |false=>rw [hd] at h; cases h
theorem ED {α β:Type} [DecidableEq α] {a a' x:α} {b b' y:β} (h:lT [(a,b),(a',b')] x=some y):(x=a∧y=b)∨(x=a'∧y=b'):=by
 unfold lT at h;cases hd:decide (x=a) with
 |true=>rw [hd] at h; exact .inl ⟨of_decide_eq_true hd,(aaa h).symm⟩
 |false=>rw [hd] at h; exact .inr (jH h)
def aak:List XB:=[(0,0,1),(2,0,-1),(2,0,1),(1,1,-1),(1,1,1),(3,1,-1)]
def RR:Int × Int:=(1,0)
def Uk (y:Int × Int):Bool:=decide (y=RR)
theorem Nc {y:Int × Int} (h:Uk y=true):y=RR:=of_decide_eq_true h
theorem aea (m:Int):aR (eZ m) 18 (aJ.enc (.cons (.list 3 ba) .nil) aak) (fun r=>r=aM.enc (.bk (.cons (.int .i64) (.cons (.int .i64) .nil))) RR):=
 aR.mono (cS (C:=Kv m) (n:=100000) (p:=(.bk (.cons (.int .i64) (.cons (.int .i64) .nil)))) (ok:=Uk) (fL (gv m)) (by kernel_rfl) (by kernel_rfl) (by kernel_rfl)) fun r ⟨y,h1,h2⟩=>by rw [h1,Nc h2]
def aal:List XB:=[(0,0,1),(2,0,-1),(2,0,1),(1,1,-1),(1,1,1)]
def RS:Int × Int:=(2,0)
def Ul (y:Int × Int):Bool:=decide (y=RS)
theorem Nd {y:Int × Int} (h:Ul y=true):y=RS:=of_decide_eq_true h
theorem aeb (m:Int):aR (eZ m) 18 (aJ.enc (.cons (.list 3 ba) .nil) aal) (fun r=>r=aM.enc (.bk (.cons (.int .i64) (.cons (.int .i64) .nil))) RS):=
 aR.mono (cS (C:=Kv m) (n:=100000) (p:=(.bk (.cons (.int .i64) (.cons (.int .i64) .nil)))) (ok:=Ul) (fL (gv m)) (by kernel_rfl) (by kernel_rfl) (by kernel_rfl)) fun r ⟨y,h1,h2⟩=>by rw [h1,Nd h2]
def E18:aP:=⟨(.cons (.list 3 ba) .nil),(.bk (.cons (.int .i64) (.cons (.int .i64) .nil))),lT (α:=List XB) (β:=Int × Int) [(aak,RR),(aal,RS)]⟩
theorem Wf (m:Int):ai (eZ m) 18 E18:=fun x y h=>by
 rcases ED (α:=List XB) (β:=Int × Int) h with ⟨e1,e2⟩|⟨e1,e2⟩
 ·subst e1; subst e2; exact aea m
 ·subst e1; subst e2; exact aeb m
def aam:ey × Int × Int:=([(0,0,true,true,3),(3,1,false,true,3)],50,4)
def RT:(Int × Int × Int × Int) × Int:=((6,6,1,324),0)
def Um (y:(Int × Int × Int × Int) × Int):Bool:=decide (y=RT)
theorem Nf {y:(Int × Int × Int × Int) × Int} (h:Um y=true):y=RT:=of_decide_eq_true h
theorem aec (m:Int):aR (eZ m) 27 (aJ.enc (.cons (.list 5 (.agg (.cons (.int .i64) (.cons (.int .i64) (.cons .bool (.cons .bool (.cons (.int .i64) .nil))))))) (.cons (.int .i64) (.cons (.int .i64) .nil))) aam) (fun r=>r=aM.enc (.bk (.cons (.agg (.cons (.int .i64) (.cons (.int .i64) (.cons (.int .i64) (.cons (.int .i64) .nil))))) (.cons (.int .i64) .nil))) RT):=
 aR.mono (cS (C:=Kv m) (n:=100000) (p:=(.bk (.cons (.agg (.cons (.int .i64) (.cons (.int .i64) (.cons (.int .i64) (.cons (.int .i64) .nil))))) (.cons (.int .i64) .nil)))) (ok:=Um) (fL (gv m)) (by kernel_rfl) (by kernel_rfl) (by kernel_rfl)) fun r ⟨y,h1,h2⟩=>by rw [h1,Nf h2]
def E27:aP:=⟨(.cons (.list 5 (.agg (.cons (.int .i64) (.cons (.int .i64) (.cons .bool (.cons .bool (.cons (.int .i64) .nil))))))) (.cons (.int .i64) (.cons (.int .i64) .nil))),(.bk (.cons (.agg (.cons (.int .i64) (.cons (.int .i64) (.cons (.int .i64) (.cons (.int .i64) .nil))))) (.cons (.int .i64) .nil))),lT (α:=ey × Int × Int) (β:=(Int × Int × Int × Int) × Int) [(aam,RT)]⟩
theorem Wg (m:Int):ai (eZ m) 27 E27:=fun x y h=>by
 obtain ⟨e1,e2⟩:=jH (α:=ey × Int × Int) (β:=(Int × Int × Int × Int) × Int) h;subst e1; subst e2;exact aec m
end Go.Proofs.YtldcljfjjoidhaaGreatDoor
