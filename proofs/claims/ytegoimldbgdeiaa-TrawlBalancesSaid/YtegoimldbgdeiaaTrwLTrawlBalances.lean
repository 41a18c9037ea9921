/- The floats make the moment 0 and the pull at least 0; with one less on each side the pull would be below 0,or there are not so many; loads in the opposite order have the same sums; with all arms on the other side the floats change places; and where no numbers balance the loads,the moment is not divisible (at most 8 loads). -/
import Derived.Test.YtegoimldbgdeiaaTrwF
import Derived.Test.YtegoimldbgdeiaaSeamKE
set_option linter.all false
namespace Go.Proofs.Ytegoimldbgdeiaa
open Go Go.Am Go.ChangeShapes Go.WideShapes Go.RowKit
set_option maxRecDepth 100000
theorem nU (os:Os) (started:os.Started) (H:Type) (enc:TypeId × Value→H) :
  ReturnsInHanded {} Try.checked os 4 .any (Rows.trawlBalancesSpec.pre6 enc Try.prog Try.f4 [] false)
   (Rows.trawlBalancesSpec.post enc Try.prog Try.f4 false true false false):=by
 refine returnsInHanded_of_change (C:=Try.checked) own started (by kernel_rfl) Try.func4
  (witness6 (ChangeSpec.witness_at (enc:=enc) (C:=Try.checked) (os:=os) (X:=fun _ _=>True) false (Nn os) #[.slice none 0 0,.agg #[.int .i64 0,.int .i64 0]] 8 rfl (by kernel_rfl) (by kernel_rfl) (by kernel_rfl) (by kernel_rfl) (by kernel_rfl) trivial)) ?_
 intro W base args ds gs before Qu hW _ _
 have Ir:∀ (j:Nat) t v,Try.f4.params[j]?=some t→args[j]?=some v→Value.okWide Try.prog W .any base t v:=Qu
 refine En (E:=cj) (f:=4) (fn:=Try.f4) (n:=8) (tb:=4) (ps:=[.list 3 (.agg (.cons .str (.cons (.int .i64) (.cons (.int .i64) .nil)))),.agg (.cons (.int .i64) (.cons (.int .i64) .nil))]) ?_ (by kernel_rfl) Ir hW (Nl W) rfl ?_ (by kernel_rfl) Nk laidOut (readable (by kernel_rfl))
 ·intro x hx
  exact Qq 18446744073709551616 x true (JC (Nat.le_refl _) x.1 x.2)
 ·intro ds h
  have hp:Try.f4.params.toList.length=2:=by kernel_rfl
  rw [hp] at h
  match ds,h with
  | [d1,d2],_=>rfl
theorem rI:(Rows.trawlBalancesRow.inPlace == Try.prog.inPlace 4)=true:=by kernel_rfl
theorem rJ:(Rows.trawlBalancesRow.unfollowed == Try.prog.unfollowed 4)=true:=by kernel_rfl
theorem rK:(Rows.trawlBalancesRow.recurses == Try.prog.recurses 4)=true:=by kernel_rfl
theorem rL:(Rows.trawlBalancesRow.named == Try.prog.varsNamed 4)=true:=by kernel_rfl
theorem rM:(Rows.trawlBalancesRow.lifted == Try.prog.liftsFinal)=true:=Eq.trans (show (Rows.trawlBalancesRow.lifted == Try.prog.liftsFinal)=(Rows.trawlLoadsRow.lifted == Try.prog.liftsFinal) from rfl) Nr
theorem rN:(Rows.trawlBalancesRow.plainKeys == Try.prog.plainKeys)=true:=Eq.trans (show (Rows.trawlBalancesRow.plainKeys == Try.prog.plainKeys)=(Rows.trawlLoadsRow.plainKeys == Try.prog.plainKeys) from rfl) No
theorem oA:joinedFacts Try.prog 4 Try.f4 Rows.trawlBalancesSpec Rows.trawlBalancesRow=true:=by
 unfold joinedFacts
 rw [rI,rJ,rK,rL,rM,rN,Qn,Np,Nq,Ns,Nt,laidOut]
 kernel_rfl
theorem trawlBalances_holds:Rows.TrawlBalancesSaid:=
 OpenClaim.holds_of_wide 4 Try.f4 rfl rfl rfl rfl rfl rfl rfl ⟨rfl,rfl,rfl,rfl,rfl⟩ rfl rfl rfl rfl rfl (by kernel_rfl) Try.func4 oA
  (of_decide_eq_true (by kernel_rfl)) (by unfold Func.isWrapper; rw [if_neg (of_decide_eq_false (by kernel_rfl))]; exact ⟨rfl,rfl⟩)
  (fun os started H enc _=>nU os started H enc)
end Go.Proofs.Ytegoimldbgdeiaa
