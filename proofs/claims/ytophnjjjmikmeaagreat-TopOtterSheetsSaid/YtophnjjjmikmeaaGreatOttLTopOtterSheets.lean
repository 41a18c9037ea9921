/- For every knot and edging,TopOtterSheets returns true. -/
import Derived.Test.YtophnjjjmikmeaaGreatOttF
import Derived.Test.YtophnjjjmikmeaaGreatOttYg
set_option linter.all false
namespace Go.Proofs.YtophnjjjmikmeaaGreat
open Go Go.Am Go.ChangeShapes Go.WideShapes Go.RowKit
set_option maxRecDepth 100000
theorem nt {F:(Int × Int) × (List UInt8 × Int)→Option Bool} (hF:ax cE 4 ⟨(.cons (.agg (.cons (.int .i64) (.cons (.int .i64) .nil))) (.cons (.agg (.cons .str (.cons (.int .i64) .nil))) .nil)),.bool,F⟩) (x:(Int × Int) × (List UInt8 × Int)) (h:F x=some true):bP cE 4 (aG.enc (.cons (.agg (.cons (.int .i64) (.cons (.int .i64) .nil))) (.cons (.agg (.cons .str (.cons (.int .i64) .nil))) .nil)) x) (fun r=>r=.bool true):=hF x true h
theorem nu {N:Nat} (x:(Int × Int) × (List UInt8 × Int)) (h:T4 N x=some true):bP cE 4 (aG.enc (.cons (.agg (.cons (.int .i64) (.cons (.int .i64) .nil))) (.cons (.agg (.cons .str (.cons (.int .i64) .nil))) .nil)) x) (fun r=>r=.bool true):=
 nt (F:=T4 N) (SS N) x h
theorem mf (os:Os) (started:os.Started) (H:Type) (enc:TypeId × Value→H) :
  ReturnsInHanded {} Tryz.checked os 4 .any (Rows.topOtterSheetsSpec.pre6 enc Tryz.prog Tryz.f4 [] false)
   (Rows.topOtterSheetsSpec.post enc Tryz.prog Tryz.f4 false true false false):=by
 refine returnsInHanded_of_change (C:=Tryz.checked) own started (by kernel_rfl) Tryz.func4
  (witness6 (ChangeSpec.witness_at (enc:=enc) (C:=Tryz.checked) (os:=os) (X:=fun _ _=>True) false (Po os) #[.agg #[.int .i64 0,.int .i64 0],.agg #[.string ⟨#[]⟩,.int .i64 0]] 8 rfl (by kernel_rfl) (by kernel_rfl) (by kernel_rfl) (by kernel_rfl) (by kernel_rfl) trivial)) ?_
 intro W base args ds gs before S0 hW _ _
 have Kp:∀ (j:Nat) t v,Tryz.f4.params[j]?=some t→args[j]?=some v→Value.okWide Tryz.prog W .any base t v:=S0
 refine FM (E:=cE) (f:=4) (fn:=Tryz.f4) (n:=8) (tb:=4) (ps:=[.agg (.cons (.int .i64) (.cons (.int .i64) .nil)),.agg (.cons .str (.cons (.int .i64) .nil))]) ?_ (by kernel_rfl) Kp hW (Pn W) rfl ?_ (by kernel_rfl) Pm laidOut (readable (by kernel_rfl))
 ·intro x hx
  exact nu (N:=18446744073709551616) x (LU (Nat.le_refl _) x.1 x.2.1 x.2.2)
 ·intro ds h
  have hp:Tryz.f4.params.toList.length=2:=by kernel_rfl
  rw [hp] at h
  match ds,h with
  | [d1,d2],_=>rfl
theorem qM:(Rows.topOtterSheetsRow.inPlace == Tryz.prog.inPlace 4)=true:=by kernel_rfl
theorem qN:(Rows.topOtterSheetsRow.unfollowed == Tryz.prog.unfollowed 4)=true:=by kernel_rfl
theorem qO:(Rows.topOtterSheetsRow.recurses == Tryz.prog.recurses 4)=true:=by kernel_rfl
theorem qP:(Rows.topOtterSheetsRow.named == Tryz.prog.varsNamed 4)=true:=by kernel_rfl
theorem qQ:(Rows.topOtterSheetsRow.lifted == Tryz.prog.liftsFinal)=true:=Eq.trans (show (Rows.topOtterSheetsRow.lifted == Tryz.prog.liftsFinal)=(Rows.topOtterSlopesRow.lifted == Tryz.prog.liftsFinal) from rfl) Ps
theorem qR:(Rows.topOtterSheetsRow.plainKeys == Tryz.prog.plainKeys)=true:=Eq.trans (show (Rows.topOtterSheetsRow.plainKeys == Tryz.prog.plainKeys)=(Rows.topOtterSlopesRow.plainKeys == Tryz.prog.plainKeys) from rfl) Pp
theorem nw:joinedFacts Tryz.prog 4 Tryz.f4 Rows.topOtterSheetsSpec Rows.topOtterSheetsRow=true:=by
 unfold joinedFacts
 rw [qM,qN,qO,qP,qQ,qR,SH,Pq,Pr,Pt,Pu,laidOut]
 kernel_rfl
theorem topOtterSheets_holds:Rows.TopOtterSheetsSaid:=
 OpenClaim.holds_of_wide 4 Tryz.f4 rfl rfl rfl rfl rfl rfl rfl ⟨rfl,rfl,rfl,rfl,rfl⟩ rfl rfl rfl rfl rfl (by kernel_rfl) Tryz.func4 nw
  (of_decide_eq_true (by kernel_rfl)) (by unfold Func.isWrapper; rw [if_neg (of_decide_eq_false (by kernel_rfl))]; exact ⟨rfl,rfl⟩)
  (fun os started H enc _=>mf os started H enc)
end Go.Proofs.YtophnjjjmikmeaaGreat
