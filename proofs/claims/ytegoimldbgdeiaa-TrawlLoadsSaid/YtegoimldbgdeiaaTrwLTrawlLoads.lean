/- the sums of loads and the least numbers of floats that balance them agree with the reference,or their errors. -/
import Derived.Test.YtegoimldbgdeiaaTrwF
import Derived.Test.YtegoimldbgdeiaaSeamKE
set_option linter.all false
namespace Go.Proofs.Ytegoimldbgdeiaa
open Go Go.Am Go.ChangeShapes Go.WideShapes Go.RowKit
set_option maxRecDepth 100000
theorem qH (os:Os) (started:os.Started) (H:Type) (enc:TypeId × Value→H) :
  ReturnsInHanded {} Try.checked os 3 .any (Rows.trawlLoadsSpec.pre6 enc Try.prog Try.f3 [] false)
   (Rows.trawlLoadsSpec.post enc Try.prog Try.f3 false true false false):=by
 refine returnsInHanded_of_change (C:=Try.checked) own started (by kernel_rfl) Try.func3
  (witness6 (ChangeSpec.witness_at (enc:=enc) (C:=Try.checked) (os:=os) (X:=fun _ _=>True) false (Nn os) #[.slice none 0 0,.agg #[.int .i64 0,.int .i64 0]] 8 rfl (by kernel_rfl) (by kernel_rfl) (by kernel_rfl) (by kernel_rfl) (by kernel_rfl) trivial)) ?_
 intro W base args ds gs before QB hW _ _
 have Ij:∀ (j:Nat) t v,Try.f3.params[j]?=some t→args[j]?=some v→Value.okWide Try.prog W .any base t v:=QB
 refine Es (E:=b8) (f:=3) (fn:=Try.f3) (n:=8) (tb:=4) (ps:=[.list 3 (.agg (.cons .str (.cons (.int .i64) (.cons (.int .i64) .nil)))),.agg (.cons (.int .i64) (.cons (.int .i64) .nil))]) ?_ (by kernel_rfl) Ij hW (Nl W) rfl ?_ (by kernel_rfl) Nk laidOut (readable (by kernel_rfl))
 ·intro x hx
  exact Qx 18446744073709551616 x true (Jx (Nat.le_refl _) x.1 x.2)
 ·intro ds h
  have hp:Try.f3.params.toList.length=2:=by kernel_rfl
  rw [hp] at h
  match ds,h with
  | [d1,d2],_=>rfl
theorem vT:(Rows.trawlLoadsRow.inPlace == Try.prog.inPlace 3)=true:=by kernel_rfl
theorem vU:(Rows.trawlLoadsRow.unfollowed == Try.prog.unfollowed 3)=true:=by kernel_rfl
theorem vV:(Rows.trawlLoadsRow.recurses == Try.prog.recurses 3)=true:=by kernel_rfl
theorem vW:(Rows.trawlLoadsRow.named == Try.prog.varsNamed 3)=true:=by kernel_rfl
theorem vX:(Rows.trawlLoadsRow.lifted == Try.prog.liftsFinal)=true:=Eq.trans (show (Rows.trawlLoadsRow.lifted == Try.prog.liftsFinal)=(Rows.trawlLoadsRow.lifted == Try.prog.liftsFinal) from rfl) Nr
theorem vY:(Rows.trawlLoadsRow.plainKeys == Try.prog.plainKeys)=true:=Eq.trans (show (Rows.trawlLoadsRow.plainKeys == Try.prog.plainKeys)=(Rows.trawlLoadsRow.plainKeys == Try.prog.plainKeys) from rfl) No
theorem rH:joinedFacts Try.prog 3 Try.f3 Rows.trawlLoadsSpec Rows.trawlLoadsRow=true:=by
 unfold joinedFacts
 rw [vT,vU,vV,vW,vX,vY,Qt,Np,Nq,Ns,Nt,laidOut]
 kernel_rfl
theorem trawlLoads_holds:Rows.TrawlLoadsSaid:=
 OpenClaim.holds_of_wide 3 Try.f3 rfl rfl rfl rfl rfl rfl rfl ⟨rfl,rfl,rfl,rfl,rfl⟩ rfl rfl rfl rfl rfl (by kernel_rfl) Try.func3 rH
  (of_decide_eq_true (by kernel_rfl)) (by unfold Func.isWrapper; rw [if_neg (of_decide_eq_false (by kernel_rfl))]; exact ⟨rfl,rfl⟩)
  (fun os started H enc _=>qH os started H enc)
end Go.Proofs.Ytegoimldbgdeiaa
