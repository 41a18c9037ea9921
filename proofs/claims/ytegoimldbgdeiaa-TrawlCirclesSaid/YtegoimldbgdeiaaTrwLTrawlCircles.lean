/- Circles: each free side is in one opening,the kinds have no handles below 0,and their numbers of Euler add up. -/
import Derived.Test.YtegoimldbgdeiaaTrwF
import Derived.Test.YtegoimldbgdeiaaSeamKI
set_option linter.all false
namespace Go.Proofs.Ytegoimldbgdeiaa
open Go Go.Am Go.ChangeShapes Go.WideShapes Go.RowKit
open List (map)
open Int (toNat)
open Go.IntKind (wrap)
open Go.Am.aL (fits)
set_option maxRecDepth 100000
theorem vF (os:Os) (started:os.Started) (H:Type) (enc:TypeId × Value→H) :
  ReturnsInHanded {} Try.checked os 5 .any (Rows.trawlCirclesSpec.pre6 enc Try.prog Try.f5 [] false)
   (Rows.trawlCirclesSpec.post enc Try.prog Try.f5 false true false false):=by
 refine returnsInHanded_of_change (C:=Try.checked) own started (by kernel_rfl) Try.func5
  (witness6 (ChangeSpec.witness_at (enc:=enc) (C:=Try.checked) (os:=os) (X:=fun _ _=>True) false (aby os) #[.agg #[.slice none 0 0,.slice none 0 0]] 8 rfl (by kernel_rfl) (by kernel_rfl) (by kernel_rfl) (by kernel_rfl) (by kernel_rfl) trivial)) ?_
 intro W base args ds gs before agi hW _ _;have Ve:∀ (j:Nat) t v,Try.f5.params[j]?=some t→args[j]?=some v→Value.okWide Try.prog W .any base t v:=agi;refine Pw (E:=ck) (f:=5) (fn:=Try.f5) (n:=8) (tb:=4) (ps:=[.agg (.cons (.list 2 (.agg (.cons .str (.cons td .nil)))) (.cons (.list 5 RX) .nil))]) ?_ (by kernel_rfl) Ve hW (abx W) rfl ?_ (by kernel_rfl) abw laidOut (readable (by kernel_rfl))
 ·intro x hx;exact agc 18446744073709551616 x true (Xe (Nat.le_refl _) x)
 ·intro ds h;have hp:Try.f5.params.toList.length=1:=by kernel_rfl
  rw [hp] at h
  match ds,h with
  |[d1],_=>rfl
theorem Bs:(Rows.trawlCirclesRow.inPlace == Try.prog.inPlace 5)=true:=by kernel_rfl
theorem Bt:(Rows.trawlCirclesRow.unfollowed == Try.prog.unfollowed 5)=true:=by kernel_rfl
theorem Bu:(Rows.trawlCirclesRow.recurses == Try.prog.recurses 5)=true:=by kernel_rfl
theorem Bv:(Rows.trawlCirclesRow.named == Try.prog.varsNamed 5)=true:=by kernel_rfl
theorem Bw:(Rows.trawlCirclesRow.lifted == Try.prog.liftsFinal)=true:=Eq.trans (show (Rows.trawlCirclesRow.lifted == Try.prog.liftsFinal)=(Rows.trawlLoadsRow.lifted == Try.prog.liftsFinal) from rfl) abC
theorem Bx:(Rows.trawlCirclesRow.plainKeys == Try.prog.plainKeys)=true:=Eq.trans (show (Rows.trawlCirclesRow.plainKeys == Try.prog.plainKeys)=(Rows.trawlLoadsRow.plainKeys == Try.prog.plainKeys) from rfl) abz
theorem wZ:joinedFacts Try.prog 5 Try.f5 Rows.trawlCirclesSpec Rows.trawlCirclesRow=true:=by
 unfold joinedFacts;rw [Bs,Bt,Bu,Bv,Bw,Bx,afF,abA,abB,abD,abE,laidOut]
 kernel_rfl
theorem trawlCircles_holds:Rows.TrawlCirclesSaid:=
 OpenClaim.holds_of_wide 5 Try.f5 rfl rfl rfl rfl rfl rfl rfl ⟨rfl,rfl,rfl,rfl,rfl⟩ rfl rfl rfl rfl rfl (by kernel_rfl) Try.func5 wZ
  (of_decide_eq_true (by kernel_rfl)) (by unfold Func.isWrapper; rw [if_neg (of_decide_eq_false (by kernel_rfl))]; exact ⟨rfl,rfl⟩)
  (fun os started H enc _=>vF os started H enc)
end Go.Proofs.Ytegoimldbgdeiaa
