/- Signs,Twist and CheckTwist: the signs that the reference finds,or a way round that turns. -/
import Derived.Test.YtegoimldbgdeiaaTrwF
import Derived.Test.YtegoimldbgdeiaaTrwSl
set_option linter.all false
namespace Go.Proofs.Ytegoimldbgdeiaa
open Go Go.Am Go.ChangeShapes Go.WideShapes Go.RowKit
open List (map)
open Int (toNat)
open Go.IntKind (wrap)
open Go.Am.aM (fits)
set_option maxRecDepth 100000
theorem uH (os:Os) (started:os.Started) (H:Type) (enc:TypeId × Value→H) :
  ReturnsInHanded {} Try.checked os 6 .any (Rows.trawlSignsSpec.pre6 enc Try.prog Try.f6 [] false)
   (Rows.trawlSignsSpec.post enc Try.prog Try.f6 false true false false):=by
 refine returnsInHanded_of_change (C:=Try.checked) own started (by kernel_rfl) Try.func6
  (witness6 (ChangeSpec.witness_at (enc:=enc) (C:=Try.checked) (os:=os) (X:=fun _ _=>True) false (UT os) #[.agg #[.slice none 0 0,.slice none 0 0],.agg #[.int .i64 0,.slice none 0 0]] 8 rfl (by kernel_rfl) (by kernel_rfl) (by kernel_rfl) (by kernel_rfl) (by kernel_rfl) trivial)) ?_
 intro W base args ds gs before Zq hW _ _;have OO:∀ (j:Nat) t v,Try.f6.params[j]?=some t→args[j]?=some v→Value.okWide Try.prog W .any base t v:=Zq;refine JN (E:=bJ) (f:=6) (fn:=Try.f6) (n:=8) (tb:=4) (ps:=[.agg (.cons (.list 2 (.agg (.cons .str (.cons (.list 2 (.agg (.cons (.int .i64) (.cons (.int .i64) .nil)))) .nil)))) (.cons (.list 5 (.agg (.cons (.int .i64) (.cons (.int .i64) (.cons (.int .i64) (.cons (.int .i64) (.cons .bool .nil))))))) .nil)),.agg (.cons (.int .i64) (.cons (.list 1 (.int .i64)) .nil))]) ?_ (by kernel_rfl) OO hW (US W) rfl ?_ (by kernel_rfl) UR laidOut (readable (by kernel_rfl))
 ·intro x hx;exact Zm 18446744073709551616 x true (Qt (Nat.le_refl _) x.1 x.2)
 ·intro ds h;have hp:Try.f6.params.toList.length=2:=by kernel_rfl
  rw [hp] at h
  match ds,h with
  |[d1,d2],_=>rfl
theorem AW:(Rows.trawlSignsRow.inPlace == Try.prog.inPlace 6)=true:=by kernel_rfl
theorem AX:(Rows.trawlSignsRow.unfollowed == Try.prog.unfollowed 6)=true:=by kernel_rfl
theorem AY:(Rows.trawlSignsRow.recurses == Try.prog.recurses 6)=true:=by kernel_rfl
theorem AZ:(Rows.trawlSignsRow.named == Try.prog.varsNamed 6)=true:=by kernel_rfl
theorem A0:(Rows.trawlSignsRow.lifted == Try.prog.liftsFinal)=true:=Eq.trans (show (Rows.trawlSignsRow.lifted == Try.prog.liftsFinal)=(Rows.trawlLoadsRow.lifted == Try.prog.liftsFinal) from rfl) UY
theorem A3:(Rows.trawlSignsRow.plainKeys == Try.prog.plainKeys)=true:=Eq.trans (show (Rows.trawlSignsRow.plainKeys == Try.prog.plainKeys)=(Rows.trawlLoadsRow.plainKeys == Try.prog.plainKeys) from rfl) UU
theorem vz:joinedFacts Try.prog 6 Try.f6 Rows.trawlSignsSpec Rows.trawlSignsRow=true:=by
 unfold joinedFacts;rw [AW,AX,AY,AZ,A0,A3,Y7,UW,UX,UZ,U0,laidOut]
 kernel_rfl
theorem trawlSigns_holds:Rows.TrawlSignsSaid:=
 OpenClaim.holds_of_wide 6 Try.f6 rfl rfl rfl rfl rfl rfl rfl ⟨rfl,rfl,rfl,rfl,rfl⟩ rfl rfl rfl rfl rfl (by kernel_rfl) Try.func6 vz
  (of_decide_eq_true (by kernel_rfl)) (by unfold Func.isWrapper; rw [if_neg (of_decide_eq_false (by kernel_rfl))]; exact ⟨rfl,rfl⟩)
  (fun os started H enc _=>uH os started H enc)
end Go.Proofs.Ytegoimldbgdeiaa
