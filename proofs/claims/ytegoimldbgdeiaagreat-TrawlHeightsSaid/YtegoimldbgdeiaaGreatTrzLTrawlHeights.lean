/- Heights,Between and CheckClash return the results or the errors of the reference; what Clash returns proves that there are no heights. -/
import Derived.Test.YtegoimldbgdeiaaGreatSeamKB
import Derived.Test.YtegoimldbgdeiaaGreatSeamKC
set_option linter.all false
namespace Go.Proofs.YtegoimldbgdeiaaGreat
open Go Go.Am Go.ChangeShapes Go.WideShapes Go.RowKit
open List (map)
open Int (toNat)
open Go.IntKind (wrap)
open Go.Am.aF (fits)
set_option maxRecDepth 100000
def xY {F:((List ((List UInt8)×(List (Int×Int))))×(List (Int×Int×Int×Int×Bool)))×((List (Int×Int×Bool))×Int×Int×Int×Int)->Option Bool} (hF:aK cd 6 ⟨(.cons mm (.cons U8 .nil)),.bool,F⟩) (x:((List ((List UInt8)×(List (Int×Int))))×(List (Int×Int×Int×Int×Bool)))×((List (Int×Int×Bool))×Int×Int×Int×Int)) (h:F x=some true):cw cd 6 (a6.enc (.cons mm (.cons U8 .nil)) x) (λ r=>r=.bool true):=hF x true h
def xZ {N:Nat} (x:((List ((List UInt8)×(List (Int×Int))))×(List (Int×Int×Int×Int×Bool)))×((List (Int×Int×Bool))×Int×Int×Int×Int)) (h:T6 N x=some true):cw cd 6 (a6.enc (.cons mm (.cons U8 .nil)) x) (λ r=>r=.bool true):=
 xY (F:=T6 N) (amt N) x h
theorem wH (os:Os) (started:os.Started) (H:Type) (enc:TypeId×Value->H) :
  ReturnsInHanded {} Tryz.checked os 6 .any (Rows.trawlHeightsSpec.pre6 enc Tryz.prog Tryz.f6 [] false)
   (Rows.trawlHeightsSpec.post enc Tryz.prog Tryz.f6 false true false false):=by
 refine returnsInHanded_of_change (C:=Tryz.checked) own started (by kernel_rfl) Tryz.func6
  (witness6 (ChangeSpec.witness_at (enc:=enc) (C:=Tryz.checked) (os:=os) (X:=λ _ _=>True) false (agH os) #[.agg #[.slice none 0 0,.slice none 0 0],.agg #[.slice none 0 0,.int .i64 0,.int .i64 0,.int .i64 0,.int .i64 0]] 8 rfl (by kernel_rfl) (by kernel_rfl) (by kernel_rfl) (by kernel_rfl) (by kernel_rfl) trivial)) ?_
 intro W base args ds gs before amu hW _ _;have YN:∀ (j:Nat) t v,Tryz.f6.params[j]?=some t->args[j]?=some v->Value.okWide Tryz.prog W .any base t v:=amu;refine RR (E:=cd) (f:=6) (fn:=Tryz.f6) (n:=8) (tb:=4) (ps:=[.agg (.cons (.list 2 (.agg (.cons .str (.cons tZ .nil)))) (.cons (.list 5 U9) .nil)),.agg (.cons (.list 3 BT) (.cons (.int .i64) (.cons (.int .i64) (.cons (.int .i64) (.cons (.int .i64) .nil)))))]) ?_ (by kernel_rfl) YN hW (agG W) rfl ?_ (by kernel_rfl) agF laidOut (readable (by kernel_rfl))
 .intro x hx;exact xZ (N:=18446744073709551616) x (ab0 (Nat.le_refl _) x.1 x.2)
 .intro ds h;have hp:Tryz.f6.params.toList.length=2:=by kernel_rfl
  rw [hp] at h
  match ds,h with
  |[d1,d2],_=>rfl
def CB:(Rows.trawlHeightsRow.inPlace == Tryz.prog.inPlace 6)=true:=by kernel_rfl
def CC:(Rows.trawlHeightsRow.unfollowed == Tryz.prog.unfollowed 6)=true:=by kernel_rfl
def CD:(Rows.trawlHeightsRow.recurses == Tryz.prog.recurses 6)=true:=by kernel_rfl
def CE:(Rows.trawlHeightsRow.named == Tryz.prog.varsNamed 6)=true:=by kernel_rfl
def CF:(Rows.trawlHeightsRow.lifted == Tryz.prog.liftsFinal)=true:=Eq.trans (show (Rows.trawlHeightsRow.lifted == Tryz.prog.liftsFinal)=(Rows.trawlOpeningsRow.lifted == Tryz.prog.liftsFinal) from rfl) agL
def CG:(Rows.trawlHeightsRow.plainKeys == Tryz.prog.plainKeys)=true:=Eq.trans (show (Rows.trawlHeightsRow.plainKeys == Tryz.prog.plainKeys)=(Rows.trawlOpeningsRow.plainKeys == Tryz.prog.plainKeys) from rfl) agI
def yd:joinedFacts Tryz.prog 6 Tryz.f6 Rows.trawlHeightsSpec Rows.trawlHeightsRow=true:=by
 unfold joinedFacts;rw [CB,CC,CD,CE,CF,CG,alo,agJ,agK,agM,agN,laidOut]
 kernel_rfl
theorem trawlHeights_holds:Rows.TrawlHeightsSaid:=
 OpenClaim.holds_of_wide 6 Tryz.f6 rfl rfl rfl rfl rfl rfl rfl ⟨rfl,rfl,rfl,rfl,rfl⟩ rfl rfl rfl rfl rfl (by kernel_rfl) Tryz.func6 yd
  (of_decide_eq_true (by kernel_rfl)) (by unfold Func.isWrapper; rw [if_neg (of_decide_eq_false (by kernel_rfl))]; exact ⟨rfl,rfl⟩)
  (λ os started H enc _=>wH os started H enc)
end Go.Proofs.YtegoimldbgdeiaaGreat
