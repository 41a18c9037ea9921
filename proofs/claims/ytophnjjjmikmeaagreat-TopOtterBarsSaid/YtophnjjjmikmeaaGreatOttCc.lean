/- The chapter's examples,call by call: a bar of the sheet. -/
import Derived.Test.YtophnjjjmikmeaaGreatOttCb
import Derived.Test.YtophnjjjmikmeaaGreatOttPk
set_option linter.all false
namespace Go.Proofs.YtophnjjjmikmeaaGreat
open Go Go.Am
set_option maxRecDepth 1000000
def z33:Int:=0
theorem Oi (N:Nat) (l:List (Int × Int × Int)) (h:Mg N l=some z33):bz env 33 (aK.enc (.cons (.list 3 (.agg (.cons (.int .i64) (.cons (.int .i64) (.cons (.int .i64) .nil))))) .nil) l) (fun r=>r=aj.enc (.int .i64) z33):=
 bz.env (E:=cn) rfl rfl (xC N l z33 h)
theorem VP:ng Bt.1=z33:=by kernel_rfl
theorem Zl:bz env 33 (aK.enc (.cons (.list 3 (.agg (.cons (.int .i64) (.cons (.int .i64) (.cons (.int .i64) .nil))))) .nil) Bt.1) (fun r=>r=aj.enc (.int .i64) z33):=
 Oi 18446744073709551616 Bt.1 (by rw [rQ (Nat.le_refl _),VP])
def E33:bl:=⟨(.cons (.list 3 (.agg (.cons (.int .i64) (.cons (.int .i64) (.cons (.int .i64) .nil))))) .nil),.int .i64,ub (α:=List (Int × Int × Int)) (β:=Int) [(Bt.1,z33)]⟩
theorem Sx:av env 33 E33:=fun x y h=>by
 obtain ⟨e1,e2⟩:=ob (α:=List (Int × Int × Int)) (β:=Int) h
 subst e1; subst e2
 exact Zl
noncomputable def Sy:List (Nat × bl):=[(33,E33)]
theorem Oj:∀ a e,(a,e)∈Sy→av env a e:=fun a e h=>by
 simp only [Sy,List.mem_cons,Prod.mk.injEq,List.not_mem_nil,or_false] at h
 obtain ⟨rfl,rfl⟩:=h
 exact Sx
noncomputable def cxD:gn:={ D:=NZ,DH:=C4 Sy,sO:=fun _ _=>none,fz:=true,N:=0 }
def VQ:(List (Int × Int × Int)) × Int × Int × Int:=(Bt.1,(1,3,1))
def Ol:Bool × Int:=(true,0)
def PF (y:Bool × Int):Bool:=decide (y=Ol)
theorem Lh {y:Bool × Int} (h:PF y=true):y=Ol:=of_decide_eq_true h
theorem Zm:bz env 22 (aK.enc (.cons (.list 3 (.agg (.cons (.int .i64) (.cons (.int .i64) (.cons (.int .i64) .nil))))) (.cons (.agg (.cons (.int .i64) (.cons (.int .i64) (.cons (.int .i64) .nil)))) .nil)) VQ) (fun r=>r=aj.enc (.bF (.cons .bool (.cons (.int .i64) .nil))) Ol):=
 bz.mono (jh (C:=cxD) (n:=100000) (p:=(.bF (.cons .bool (.cons (.int .i64) .nil)))) (ok:=PF) (bN Oj) (by kernel_rfl) (by kernel_rfl) (by kernel_rfl)) fun r ⟨y,h1,h2⟩=>by rw [h1,Lh h2]
def E22:bl:=⟨(.cons (.list 3 (.agg (.cons (.int .i64) (.cons (.int .i64) (.cons (.int .i64) .nil))))) (.cons (.agg (.cons (.int .i64) (.cons (.int .i64) (.cons (.int .i64) .nil)))) .nil)),(.bF (.cons .bool (.cons (.int .i64) .nil))),ub (α:=(List (Int × Int × Int)) × Int × Int × Int) (β:=Bool × Int) [(VQ,Ol)]⟩
theorem Sz:av env 22 E22:=fun x y h=>by
 obtain ⟨e1,e2⟩:=ob (α:=(List (Int × Int × Int)) × Int × Int × Int) (β:=Bool × Int) h
 subst e1; subst e2
 exact Zm
end Go.Proofs.YtophnjjjmikmeaaGreat
