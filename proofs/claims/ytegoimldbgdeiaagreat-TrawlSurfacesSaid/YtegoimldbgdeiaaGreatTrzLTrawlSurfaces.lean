/- Corners,Pieces and Count return the results or the errors of the reference. -/
import Derived.Test.YtegoimldbgdeiaaGreatTrzF
import Derived.Test.YtegoimldbgdeiaaGreatSeamKH
set_option linter.all false
namespace Go.Proofs.YtegoimldbgdeiaaGreat
open Go Go.Am Go.ChangeShapes Go.WideShapes Go.RowKit
open List (map)
open Int (toNat)
open Go.IntKind (wrap)
open Go.Am.aM (fits)
set_option maxRecDepth 100000
theorem vr (os:Os) (started:os.Started) (H:Type) (enc:TypeId × Value→H) :
  ReturnsInHanded {} Tryz.checked os 4 .any (Rows.trawlSurfacesSpec.pre6 enc Tryz.prog Tryz.f4 [] false)
   (Rows.trawlSurfacesSpec.post enc Tryz.prog Tryz.f4 false true false false):=by
 refine returnsInHanded_of_change (C:=Tryz.checked) own started (by kernel_rfl) Tryz.func4
  (witness6 (ChangeSpec.witness_at (enc:=enc) (C:=Tryz.checked) (os:=os) (X:=fun _ _=>True) false (acm os) #[.agg #[.slice none 0 0,.slice none 0 0]] 8 rfl (by kernel_rfl) (by kernel_rfl) (by kernel_rfl) (by kernel_rfl) (by kernel_rfl) trivial)) ?_
 intro W base args ds gs before ag8 hW _ _;have VN:∀ (j:Nat) t v,Tryz.f4.params[j]?=some t→args[j]?=some v→Value.okWide Tryz.prog W .any base t v:=ag8;refine P6 (E:=cm) (f:=4) (fn:=Tryz.f4) (n:=8) (tb:=4) (ps:=[.agg (.cons (.list 2 (.agg (.cons .str (.cons rW .nil)))) (.cons (.list 5 SJ) .nil))]) ?_ (by kernel_rfl) VN hW (ack W) rfl ?_ (by kernel_rfl) acj laidOut (readable (by kernel_rfl))
 ·intro x hx;exact ag3 18446744073709551616 x true (Yj (Nat.le_refl _) x)
 ·intro ds h;have hp:Tryz.f4.params.toList.length=1:=by kernel_rfl
  rw [hp] at h
  match ds,h with
  |[d1],_=>rfl
theorem AR:(Rows.trawlSurfacesRow.inPlace == Tryz.prog.inPlace 4)=true:=by kernel_rfl
theorem AS:(Rows.trawlSurfacesRow.unfollowed == Tryz.prog.unfollowed 4)=true:=by kernel_rfl
theorem AT:(Rows.trawlSurfacesRow.recurses == Tryz.prog.recurses 4)=true:=by kernel_rfl
theorem AU:(Rows.trawlSurfacesRow.named == Tryz.prog.varsNamed 4)=true:=by kernel_rfl
theorem AW:(Rows.trawlSurfacesRow.lifted == Tryz.prog.liftsFinal)=true:=Eq.trans (show (Rows.trawlSurfacesRow.lifted == Tryz.prog.liftsFinal)=(Rows.trawlOpeningsRow.lifted == Tryz.prog.liftsFinal) from rfl) acq
theorem AX:(Rows.trawlSurfacesRow.plainKeys == Tryz.prog.plainKeys)=true:=Eq.trans (show (Rows.trawlSurfacesRow.plainKeys == Tryz.prog.plainKeys)=(Rows.trawlOpeningsRow.plainKeys == Tryz.prog.plainKeys) from rfl) acn
theorem wu:joinedFacts Tryz.prog 4 Tryz.f4 Rows.trawlSurfacesSpec Rows.trawlSurfacesRow=true:=by
 unfold joinedFacts;rw [AR,AS,AT,AU,AW,AX,agm,aco,acp,acr,acs,laidOut]
 kernel_rfl
theorem trawlSurfaces_holds:Rows.TrawlSurfacesSaid:=
 OpenClaim.holds_of_wide 4 Tryz.f4 rfl rfl rfl rfl rfl rfl rfl ⟨rfl,rfl,rfl,rfl,rfl⟩ rfl rfl rfl rfl rfl (by kernel_rfl) Tryz.func4 wu
  (of_decide_eq_true (by kernel_rfl)) (by unfold Func.isWrapper; rw [if_neg (of_decide_eq_false (by kernel_rfl))]; exact ⟨rfl,rfl⟩)
  (fun os started H enc _=>vr os started H enc)
end Go.Proofs.YtegoimldbgdeiaaGreat
