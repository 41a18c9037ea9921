/- The chapter's examples,call by call: a bar of the sheet. -/
import Derived.Test.YtophnjjjmikmeaaGreatOttCb
import Derived.Test.YtophnjjjmikmeaaGreatOttPk
set_option linter.all false
namespace Go.Proofs.YtophnjjjmikmeaaGreat
open Go Go.Am
set_option maxRecDepth 1000000
def z33:Int:=0
theorem Ls (N:Nat) (l:List (Int × Int × Int)) (h:Js N l=some z33):bP env 33 (aG.enc (.cons (.list 3 (.agg (.cons (.int .i64) (.cons (.int .i64) (.cons (.int .i64) .nil))))) .nil) l) (fun r=>r=aq.enc (.int .i64) z33):=
 bP.env (E:=cE) rfl rfl (wh N l z33 h)
theorem SE:ky zV.1=z33:=by kernel_rfl
theorem VT:bP env 33 (aG.enc (.cons (.list 3 (.agg (.cons (.int .i64) (.cons (.int .i64) (.cons (.int .i64) .nil))))) .nil) zV.1) (fun r=>r=aq.enc (.int .i64) z33):=
 Ls 18446744073709551616 zV.1 (by rw [qH (Nat.le_refl _),SE])
def Xw:a8:=⟨(.cons (.list 3 (.agg (.cons (.int .i64) (.cons (.int .i64) (.cons (.int .i64) .nil))))) .nil),.int .i64,sS (α:=List (Int × Int × Int)) (β:=Int) [(zV.1,z33)]⟩
theorem Ph:ax env 33 Xw:=fun x y h=>by
 obtain ⟨e1,e2⟩:=nl (α:=List (Int × Int × Int)) (β:=Int) h
 subst e1; subst e2
 exact VT
noncomputable def Pj:List (Nat × a8):=[(33,Xw)]
theorem Lt:∀ a e,(a,e)∈Pj→ax env a e:=fun a e h=>by
 simp only [Pj,List.mem_cons,Prod.mk.injEq,List.not_mem_nil,or_false] at h
 obtain ⟨rfl,rfl⟩:=h
 exact Ph
noncomputable def Zr:fP:={ D:=La,HI:=Dv Pj,Bt:=fun _ _=>none,fz:=true,N:=0 }
def SF:(List (Int × Int × Int)) × Int × Int × Int:=(zV.1,(1,3,1))
def Lu:Bool × Int:=(true,0)
def MG (y:Bool × Int):Bool:=decide (y=Lu)
theorem IP {y:Bool × Int} (h:MG y=true):y=Lu:=of_decide_eq_true h
theorem VU:bP env 22 (aG.enc (.cons (.list 3 (.agg (.cons (.int .i64) (.cons (.int .i64) (.cons (.int .i64) .nil))))) (.cons (.agg (.cons (.int .i64) (.cons (.int .i64) (.cons (.int .i64) .nil)))) .nil)) SF) (fun r=>r=aq.enc (.bt (.cons .bool (.cons (.int .i64) .nil))) Lu):=
 bP.mono (il (C:=Zr) (n:=100000) (p:=(.bt (.cons .bool (.cons (.int .i64) .nil)))) (ok:=MG) (bD Lt) (by kernel_rfl) (by kernel_rfl) (by kernel_rfl)) fun r ⟨y,h1,h2⟩=>by rw [h1,IP h2]
def Xx:a8:=⟨(.cons (.list 3 (.agg (.cons (.int .i64) (.cons (.int .i64) (.cons (.int .i64) .nil))))) (.cons (.agg (.cons (.int .i64) (.cons (.int .i64) (.cons (.int .i64) .nil)))) .nil)),(.bt (.cons .bool (.cons (.int .i64) .nil))),sS (α:=(List (Int × Int × Int)) × Int × Int × Int) (β:=Bool × Int) [(SF,Lu)]⟩
theorem Pk:ax env 22 Xx:=fun x y h=>by
 obtain ⟨e1,e2⟩:=nl (α:=(List (Int × Int × Int)) × Int × Int × Int) (β:=Bool × Int) h
 subst e1; subst e2
 exact VU
end Go.Proofs.YtophnjjjmikmeaaGreat
