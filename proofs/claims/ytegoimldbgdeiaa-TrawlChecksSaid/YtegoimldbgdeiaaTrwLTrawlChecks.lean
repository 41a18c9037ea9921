/- CheckTrawl,Free and Mate return the results or the errors of the reference (at most 4 panels and 12 seams,or too many). -/
import Derived.Test.YtegoimldbgdeiaaTrwF
import Derived.Test.YtegoimldbgdeiaaSeamKE
set_option linter.all false
namespace Go.Proofs.Ytegoimldbgdeiaa
open Go Go.Am Go.ChangeShapes Go.WideShapes Go.RowKit
set_option maxRecDepth 100000
theorem pJ (os:Os) (started:os.Started) (H:Type) (enc:TypeId × Value→H) :
  ReturnsInHanded {} Try.checked os 7 .any (Rows.trawlChecksSpec.pre6 enc Try.prog Try.f7 [] false)
   (Rows.trawlChecksSpec.post enc Try.prog Try.f7 false true false false):=by
 refine returnsInHanded_of_change (C:=Try.checked) own started (by kernel_rfl) Try.func7
  (witness6 (ChangeSpec.witness_at (enc:=enc) (C:=Try.checked) (os:=os) (X:=fun _ _=>True) false (O0 os) #[.agg #[.slice none 0 0,.slice none 0 0],.agg #[.int .i64 0,.int .i64 0]] 8 rfl (by kernel_rfl) (by kernel_rfl) (by kernel_rfl) (by kernel_rfl) (by kernel_rfl) trivial)) ?_
 intro W base args ds gs before SQ hW _ _
 have JD:∀ (j:Nat) t v,Try.f7.params[j]?=some t→args[j]?=some v→Value.okWide Try.prog W .any base t v:=SQ
 refine Fw (E:=bN) (f:=7) (fn:=Try.f7) (n:=8) (tb:=4) (ps:=[.agg (.cons (.list 2 (.agg (.cons .str (.cons (.list 2 (.agg (.cons (.int .i64) (.cons (.int .i64) .nil)))) .nil)))) (.cons (.list 5 (.agg (.cons (.int .i64) (.cons (.int .i64) (.cons (.int .i64) (.cons (.int .i64) (.cons .bool .nil))))))) .nil)),.agg (.cons (.int .i64) (.cons (.int .i64) .nil))]) ?_ (by kernel_rfl) JD hW (OZ W) rfl ?_ (by kernel_rfl) OY laidOut (readable (by kernel_rfl))
 ·intro x hx
  exact SO 18446744073709551616 x true (KT (Nat.le_refl _) x.1 x.2)
 ·intro ds h
  have hp:Try.f7.params.toList.length=2:=by kernel_rfl
  rw [hp] at h
  match ds,h with
  | [d1,d2],_=>rfl
theorem wy:(Rows.trawlChecksRow.inPlace == Try.prog.inPlace 7)=true:=by kernel_rfl
theorem wz:(Rows.trawlChecksRow.unfollowed == Try.prog.unfollowed 7)=true:=by kernel_rfl
theorem wA:(Rows.trawlChecksRow.recurses == Try.prog.recurses 7)=true:=by kernel_rfl
theorem wB:(Rows.trawlChecksRow.named == Try.prog.varsNamed 7)=true:=by kernel_rfl
theorem wC:(Rows.trawlChecksRow.lifted == Try.prog.liftsFinal)=true:=Eq.trans (show (Rows.trawlChecksRow.lifted == Try.prog.liftsFinal)=(Rows.trawlLoadsRow.lifted == Try.prog.liftsFinal) from rfl) O4
theorem wD:(Rows.trawlChecksRow.plainKeys == Try.prog.plainKeys)=true:=Eq.trans (show (Rows.trawlChecksRow.plainKeys == Try.prog.plainKeys)=(Rows.trawlLoadsRow.plainKeys == Try.prog.plainKeys) from rfl) O1
theorem q9:joinedFacts Try.prog 7 Try.f7 Rows.trawlChecksSpec Rows.trawlChecksRow=true:=by
 unfold joinedFacts
 rw [wy,wz,wA,wB,wC,wD,SI,O2,O3,O5,O6,laidOut]
 kernel_rfl
theorem trawlChecks_holds:Rows.TrawlChecksSaid:=
 OpenClaim.holds_of_wide 7 Try.f7 rfl rfl rfl rfl rfl rfl rfl ⟨rfl,rfl,rfl,rfl,rfl⟩ rfl rfl rfl rfl rfl (by kernel_rfl) Try.func7 q9
  (of_decide_eq_true (by kernel_rfl)) (by unfold Func.isWrapper; rw [if_neg (of_decide_eq_false (by kernel_rfl))]; exact ⟨rfl,rfl⟩)
  (fun os started H enc _=>pJ os started H enc)
end Go.Proofs.Ytegoimldbgdeiaa
