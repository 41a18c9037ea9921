/- For every knot,edging and number,TopOtterBars returns true. -/
import Derived.Test.YtophnjjjmikmeaaGreatOttF
import Derived.Test.YtophnjjjmikmeaaGreatOttQm
set_option linter.all false
namespace Go.Proofs.YtophnjjjmikmeaaGreat
open Go Go.Am Go.ChangeShapes Go.WideShapes Go.RowKit
set_option maxRecDepth 100000
theorem qb {F:(Int × Int) × (List UInt8 × Int) × Int→Option Bool} (hF:av cn 3 ⟨(.cons (.agg (.cons (.int .i64) (.cons (.int .i64) .nil))) (.cons (.agg (.cons .str (.cons (.int .i64) .nil))) (.cons (.int .i8) .nil))),.bool,F⟩) (x:(Int × Int) × (List UInt8 × Int) × Int) (h:F x=some true):bz cn 3 (aK.enc (.cons (.agg (.cons (.int .i64) (.cons (.int .i64) .nil))) (.cons (.agg (.cons .str (.cons (.int .i64) .nil))) (.cons (.int .i8) .nil))) x) (fun r=>r=.bool true):=hF x true h
theorem qc {N:Nat} (x:(Int × Int) × (List UInt8 × Int) × Int) (h:T3 N x=some true):bz cn 3 (aK.enc (.cons (.agg (.cons (.int .i64) (.cons (.int .i64) .nil))) (.cons (.agg (.cons .str (.cons (.int .i64) .nil))) (.cons (.int .i8) .nil))) x) (fun r=>r=.bool true):=
 qb (F:=T3 N) (Wo N) x h
theorem oP (os:Os) (started:os.Started) (H:Type) (enc:TypeId × Value→H) :
  ReturnsInHanded {} Tryz.checked os 3 .any (Rows.topOtterBarsSpec.pre6 enc Tryz.prog Tryz.f3 [] false)
   (Rows.topOtterBarsSpec.post enc Tryz.prog Tryz.f3 false true false false):=by
 refine returnsInHanded_of_change (C:=Tryz.checked) own started (by kernel_rfl) Tryz.func3
  (witness6 (ChangeSpec.witness_at (enc:=enc) (C:=Tryz.checked) (os:=os) (X:=fun _ _=>True) false (SD os) #[.agg #[.int .i64 0,.int .i64 0],.agg #[.string ⟨#[]⟩,.int .i64 0],.int .i8 0] 8 rfl (by kernel_rfl) (by kernel_rfl) (by kernel_rfl) (by kernel_rfl) (by kernel_rfl) trivial)) ?_
 intro W base args ds gs before Wq hW _ _
 have C9:∀ (j:Nat) t v,Tryz.f3.params[j]?=some t→args[j]?=some v→Value.okWide Tryz.prog W .any base t v:=Wq
 refine Im (E:=cn) (f:=3) (fn:=Tryz.f3) (n:=8) (tb:=4) (ps:=[.agg (.cons (.int .i64) (.cons (.int .i64) .nil)),.agg (.cons .str (.cons (.int .i64) .nil)),.int .i8]) ?_ (by kernel_rfl) C9 hW (SC W) rfl ?_ (by kernel_rfl) SB laidOut (readable (by kernel_rfl))
 ·intro x hx
  exact qc (N:=18446744073709551616) x (OW (Nat.le_refl _) x.1 x.2.1.1 x.2.1.2 x.2.2 (i8b hx.2.2))
 ·intro ds h
  have hp:Tryz.f3.params.toList.length=3:=by kernel_rfl
  rw [hp] at h
  match ds,h with
  | [d1,d2,d3],_=>rfl
theorem uF:(Rows.topOtterBarsRow.inPlace == Tryz.prog.inPlace 3)=true:=by kernel_rfl
theorem uG:(Rows.topOtterBarsRow.unfollowed == Tryz.prog.unfollowed 3)=true:=by kernel_rfl
theorem uH:(Rows.topOtterBarsRow.recurses == Tryz.prog.recurses 3)=true:=by kernel_rfl
theorem uI:(Rows.topOtterBarsRow.named == Tryz.prog.varsNamed 3)=true:=by kernel_rfl
theorem uJ:(Rows.topOtterBarsRow.lifted == Tryz.prog.liftsFinal)=true:=Eq.trans (show (Rows.topOtterBarsRow.lifted == Tryz.prog.liftsFinal)=(Rows.topOtterSlopesRow.lifted == Tryz.prog.liftsFinal) from rfl) SH
theorem uK:(Rows.topOtterBarsRow.plainKeys == Tryz.prog.plainKeys)=true:=Eq.trans (show (Rows.topOtterBarsRow.plainKeys == Tryz.prog.plainKeys)=(Rows.topOtterSlopesRow.plainKeys == Tryz.prog.plainKeys) from rfl) SE
theorem qd:joinedFacts Tryz.prog 3 Tryz.f3 Rows.topOtterBarsSpec Rows.topOtterBarsRow=true:=by
 unfold joinedFacts
 rw [uF,uG,uH,uI,uJ,uK,VS,SF,SG,SI,SJ,laidOut]
 kernel_rfl
theorem topOtterBars_holds:Rows.TopOtterBarsSaid:=
 OpenClaim.holds_of_wide 3 Tryz.f3 rfl rfl rfl rfl rfl rfl rfl ⟨rfl,rfl,rfl,rfl,rfl⟩ rfl rfl rfl rfl rfl (by kernel_rfl) Tryz.func3 qd
  (of_decide_eq_true (by kernel_rfl)) (by unfold Func.isWrapper; rw [if_neg (of_decide_eq_false (by kernel_rfl))]; exact ⟨rfl,rfl⟩)
  (fun os started H enc _=>oP os started H enc)
end Go.Proofs.YtophnjjjmikmeaaGreat
