/- The chapter's examples,call by call: ends and uses. -/
import Derived.Test.YtldcljfjjoidhaaGreatDoorBraLp
set_option linter.all false
namespace Go.Proofs.YtldcljfjjoidhaaGreatDoor
open Go Go.Am
set_option maxRecDepth 1000000
noncomputable def Oe:List (Nat × aL):=[(95,JI),(98,Sr),(142,DS),(84,Qw 18446744073709551616)]
theorem gi (m:Int):∀ a e,(a,e)∈Oe→an (eT m) a e:=fun a e h=>by
 simp only [Oe,List.mem_cons,Prod.mk.injEq,List.not_mem_nil,or_false] at h
 rcases h with ⟨rfl,rfl⟩ | ⟨rfl,rfl⟩ | ⟨rfl,rfl⟩ | ⟨rfl,rfl⟩
 ·exact ZX m
 ·exact L98 m
 ·exact ZY m
 ·exact an.toM (Od (Nat.le_refl _))
noncomputable def JX (m:Int):ej:={ D:=Qp m,yH:=BP Oe,pL:=fun _ _=>none,fz:=true,N:=0,gt:=gtE m }
instance decC5:DecidableEq (Int × Int × Bool × Bool × Int):=inferInstance
instance decCL:DecidableEq (List (Int × Int × Bool × Bool × Int)):=inferInstance
instance decI4:DecidableEq (Int × Int × Int × Int):=inferInstance
instance decI3:DecidableEq (Int × Int × Int):=inferInstance
def kG {α β:Type} [DecidableEq α]:List (α × β)→α→Option β
 | [],_=>none
 | (a,b) :: l,x=>bif decide (x=a) then some b else kG l x
theorem iP {α β:Type} [DecidableEq α] {a x:α} {b y:β} (h:kG [(a,b)] x=some y):x=a∧y=b:=by
 unfold kG at h
 cases hd:decide (x=a) with
 | true=>rw [hd] at h; exact ⟨of_decide_eq_true hd,(Option.some.inj h).symm⟩
 | false=>rw [hd] at h; cases h
theorem Ca {α β:Type} [DecidableEq α] {a a' x:α} {b b' y:β} (h:kG [(a,b),(a',b')] x=some y):(x=a∧y=b)∨(x=a'∧y=b'):=by
 unfold kG at h
 cases hd:decide (x=a) with
 | true=>rw [hd] at h; exact .inl ⟨of_decide_eq_true hd,(Option.some.inj h).symm⟩
 | false=>rw [hd] at h; exact .inr (iP h)
def WM:List (Int × Int × Int):=[(0,0,1),(2,0,-1),(2,0,1),(1,1,-1),(1,1,1),(3,1,-1)]
def Of:Int × Int:=(1,0)
def Qx (y:Int × Int):Bool:=decide (y=Of)
theorem JY {y:Int × Int} (h:Qx y=true):y=Of:=of_decide_eq_true h
theorem aar (m:Int):aR (eT m) 18 (aJ.enc (.cons (.list 3 (.agg (.cons (.int .i64) (.cons (.int .i64) (.cons (.int .i64) .nil))))) .nil) WM) (fun r=>r=aj.enc (.bf (.cons (.int .i64) (.cons (.int .i64) .nil))) Of):=
 aR.mono (cL (C:=JX m) (n:=100000) (p:=(.bf (.cons (.int .i64) (.cons (.int .i64) .nil)))) (ok:=Qx) (aT (gi m)) (by kernel_rfl) (by kernel_rfl) (by kernel_rfl)) fun r ⟨y,h1,h2⟩=>by rw [h1,JY h2]
def WN:List (Int × Int × Int):=[(0,0,1),(2,0,-1),(2,0,1),(1,1,-1),(1,1,1)]
def Og:Int × Int:=(2,0)
def Qy (y:Int × Int):Bool:=decide (y=Og)
theorem JZ {y:Int × Int} (h:Qy y=true):y=Og:=of_decide_eq_true h
theorem aas (m:Int):aR (eT m) 18 (aJ.enc (.cons (.list 3 (.agg (.cons (.int .i64) (.cons (.int .i64) (.cons (.int .i64) .nil))))) .nil) WN) (fun r=>r=aj.enc (.bf (.cons (.int .i64) (.cons (.int .i64) .nil))) Og):=
 aR.mono (cL (C:=JX m) (n:=100000) (p:=(.bf (.cons (.int .i64) (.cons (.int .i64) .nil)))) (ok:=Qy) (aT (gi m)) (by kernel_rfl) (by kernel_rfl) (by kernel_rfl)) fun r ⟨y,h1,h2⟩=>by rw [h1,JZ h2]
def E18:aL:=⟨(.cons (.list 3 (.agg (.cons (.int .i64) (.cons (.int .i64) (.cons (.int .i64) .nil))))) .nil),(.bf (.cons (.int .i64) (.cons (.int .i64) .nil))),kG (α:=List (Int × Int × Int)) (β:=Int × Int) [(WM,Of),(WN,Og)]⟩
theorem SE (m:Int):an (eT m) 18 E18:=fun x y h=>by
 rcases Ca (α:=List (Int × Int × Int)) (β:=Int × Int) h with ⟨e1,e2⟩ | ⟨e1,e2⟩
 ·subst e1; subst e2; exact aar m
 ·subst e1; subst e2; exact aas m
def WO:(List (Int × Int × Bool × Bool × Int)) × Int × Int:=([(0,0,true,true,3),(3,1,false,true,3)],50,4)
def Oh:(Int × Int × Int × Int) × Int:=((6,6,1,324),0)
def Qz (y:(Int × Int × Int × Int) × Int):Bool:=decide (y=Oh)
theorem J0 {y:(Int × Int × Int × Int) × Int} (h:Qz y=true):y=Oh:=of_decide_eq_true h
theorem aat (m:Int):aR (eT m) 27 (aJ.enc (.cons (.list 5 (.agg (.cons (.int .i64) (.cons (.int .i64) (.cons .bool (.cons .bool (.cons (.int .i64) .nil))))))) (.cons (.int .i64) (.cons (.int .i64) .nil))) WO) (fun r=>r=aj.enc (.bf (.cons (.agg (.cons (.int .i64) (.cons (.int .i64) (.cons (.int .i64) (.cons (.int .i64) .nil))))) (.cons (.int .i64) .nil))) Oh):=
 aR.mono (cL (C:=JX m) (n:=100000) (p:=(.bf (.cons (.agg (.cons (.int .i64) (.cons (.int .i64) (.cons (.int .i64) (.cons (.int .i64) .nil))))) (.cons (.int .i64) .nil)))) (ok:=Qz) (aT (gi m)) (by kernel_rfl) (by kernel_rfl) (by kernel_rfl)) fun r ⟨y,h1,h2⟩=>by rw [h1,J0 h2]
def E27:aL:=⟨(.cons (.list 5 (.agg (.cons (.int .i64) (.cons (.int .i64) (.cons .bool (.cons .bool (.cons (.int .i64) .nil))))))) (.cons (.int .i64) (.cons (.int .i64) .nil))),(.bf (.cons (.agg (.cons (.int .i64) (.cons (.int .i64) (.cons (.int .i64) (.cons (.int .i64) .nil))))) (.cons (.int .i64) .nil))),kG (α:=(List (Int × Int × Bool × Bool × Int)) × Int × Int) (β:=(Int × Int × Int × Int) × Int) [(WO,Oh)]⟩
theorem SF (m:Int):an (eT m) 27 E27:=fun x y h=>by
 obtain ⟨e1,e2⟩:=iP (α:=(List (Int × Int × Bool × Bool × Int)) × Int × Int) (β:=(Int × Int × Int × Int) × Int) h
 subst e1; subst e2
 exact aat m
end Go.Proofs.YtldcljfjjoidhaaGreatDoor
