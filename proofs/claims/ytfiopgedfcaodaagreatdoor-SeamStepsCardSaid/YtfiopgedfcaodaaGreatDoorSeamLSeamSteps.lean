/- sewing join by join: what is sewn passes its check,its degrees and numbers agree,and each join makes one class less or none (the listed variables as the program and its library lay them). -/
import Derived.Test.YtfiopgedfcaodaaGreatDoorSeamF
import Derived.Test.YtfiopgedfcaodaaGreatDoorSeamKC
set_option linter.all false
namespace Go.Proofs.YtfiopgedfcaodaaGreatDoor
open Go Go.Am Go.ChangeShapes Go.WideShapes Go.RowKit
set_option maxRecDepth 100000
theorem seamSteps_calls {F:(List (List (Int × Int × Int))) × (List (Int × Int × Int × Int × Int × Int))→Option Bool} (hF:EntryOk envS 10 ⟨(.cons (.list 1 (.list 3 (.agg (.cons (.int .i64) (.cons (.int .i64) (.cons (.int .i64) .nil)))))) (.cons (.list 6 (.agg (.cons (.int .i64) (.cons (.int .i64) (.cons (.int .i64) (.cons (.int .i64) (.cons (.int .i64) (.cons (.int .i64) .nil)))))))) .nil)),.bool,F⟩) (x:(List (List (Int × Int × Int))) × (List (Int × Int × Int × Int × Int × Int))) (h:F x=some true):PCalls envS 10 (Pats.enc (.cons (.list 1 (.list 3 (.agg (.cons (.int .i64) (.cons (.int .i64) (.cons (.int .i64) .nil)))))) (.cons (.list 6 (.agg (.cons (.int .i64) (.cons (.int .i64) (.cons (.int .i64) (.cons (.int .i64) (.cons (.int .i64) (.cons (.int .i64) .nil)))))))) .nil)) x) (fun r=>r=.bool true):=hF x true h
theorem seamSteps_entry {N:Nat} (x:(List (List (Int × Int × Int))) × (List (Int × Int × Int × Int × Int × Int))) (h:T10 N x=some true):PCalls envS 10 (Pats.enc (.cons (.list 1 (.list 3 (.agg (.cons (.int .i64) (.cons (.int .i64) (.cons (.int .i64) .nil)))))) (.cons (.list 6 (.agg (.cons (.int .i64) (.cons (.int .i64) (.cons (.int .i64) (.cons (.int .i64) (.cons (.int .i64) (.cons (.int .i64) .nil)))))))) .nil)) x) (fun r=>r=.bool true):=
 seamSteps_calls (F:=T10 N) (T10_ok N) x h
theorem seamSteps_lifted (os:Os) (started:os.Started) (H:Type) (enc:TypeId × Value→H) :
  ReturnsInHanded {} Tryz.checked os 10 .any (fun w args=>(Rows.seamStepsSpec.pre enc Tryz.prog Tryz.f10 [] false w args∧laidMetH Tryz.prog laidL w)∧sizedMet enc Tryz.prog Tryz.f10 (OpenSpec.ofChange Rows.seamStepsSpec) false w args)
   (Rows.seamStepsSpec.post enc Tryz.prog Tryz.f10 false true false false):=by
 refine returnsInHanded_of_change_and (C:=Tryz.checked) (X:=fun w _=>laidMetH Tryz.prog laidL w) (fun _ _ _ hh h=>h.of_heap hh) own started (by kernel_rfl) Tryz.func10
  (ChangeSpec.witness_at (enc:=enc) (C:=Tryz.checked) (os:=os) (X:=fun w _=>laidMetH Tryz.prog laidL w) false (laidWorld os) #[.slice none 0 0,.slice none 0 0] 8 rfl (by kernel_rfl) (by kernel_rfl) (by kernel_rfl) (by kernel_rfl) (by kernel_rfl) (laidWorld_met os _)) ?_
 intro W base args ds gs before hval0 hW _ _ hL _
 have hval:∀ (j:Nat) t v,Tryz.f10.params[j]?=some t→args[j]?=some v→Value.okWide Tryz.prog W .any base t v:=hval0
 refine law_calls (E:=envS) (f:=10) (fn:=Tryz.f10) (n:=8) (tb:=4) (ps:=[.list 1 (.list 3 (.agg (.cons (.int .i64) (.cons (.int .i64) (.cons (.int .i64) .nil))))),.list 6 (.agg (.cons (.int .i64) (.cons (.int .i64) (.cons (.int .i64) (.cons (.int .i64) (.cons (.int .i64) (.cons (.int .i64) .nil)))))))]) ?_ (by kernel_rfl) hval hW (glob_of_laid hL) rfl ?_ (by kernel_rfl) under4 laidOut (readable (by kernel_rfl))
 ·intro x hx
  exact seamSteps_entry (N:=18446744073709551616) x (T10_true (Nat.le_refl _) x.1 x.2)
 ·intro ds h
  have hp:Tryz.f10.params.toList.length=2:=by kernel_rfl
  rw [hp] at h
  match ds,h with
  | [d1,d2],_=>rfl
theorem seamSteps_j1:(Rows.seamStepsRow.inPlace == Tryz.prog.inPlace 10)=true:=by kernel_rfl
theorem seamSteps_j2:(Rows.seamStepsRow.unfollowed == Tryz.prog.unfollowed 10)=true:=by kernel_rfl
theorem seamSteps_j3:(Rows.seamStepsRow.recurses == Tryz.prog.recurses 10)=true:=by kernel_rfl
theorem seamSteps_j4:(Rows.seamStepsRow.named == Tryz.prog.varsNamed 10)=true:=by kernel_rfl
theorem seamSteps_j5:(Rows.seamStepsRow.lifted == Tryz.prog.liftsFinal)=true:=Eq.trans (show (Rows.seamStepsRow.lifted == Tryz.prog.liftsFinal)=(Rows.seamJoinsRow.lifted == Tryz.prog.liftsFinal) from rfl) jLifts
theorem seamSteps_j6:(Rows.seamStepsRow.plainKeys == Tryz.prog.plainKeys)=true:=Eq.trans (show (Rows.seamStepsRow.plainKeys == Tryz.prog.plainKeys)=(Rows.seamJoinsRow.plainKeys == Tryz.prog.plainKeys) from rfl) jPlain
theorem seamSteps_facts:joinedFacts Tryz.prog 10 Tryz.f10 Rows.seamStepsSpec Rows.seamStepsRow=true:=by
 unfold joinedFacts
 rw [seamSteps_j1,seamSteps_j2,seamSteps_j3,seamSteps_j4,seamSteps_j5,seamSteps_j6,jMaps,jHeard,jEnter,jStops,jKnobs,laidOut]
 kernel_rfl
theorem seamSteps_holds:Rows.SeamStepsSaid:=
 OpenClaim.holds_of_wide 10 Tryz.f10 rfl rfl rfl rfl rfl rfl rfl ⟨rfl,rfl,rfl,rfl,rfl⟩ rfl rfl rfl rfl rfl (by kernel_rfl) Tryz.func10 seamSteps_facts
  (of_decide_eq_true (by kernel_rfl)) (by unfold Func.isWrapper; rw [if_neg (of_decide_eq_false (by kernel_rfl))]; exact ⟨rfl,rfl⟩)
  (fun os started H enc _=>seamSteps_lifted os started H enc)
theorem seamSteps_card:Rows.SeamStepsCardSaid:=
 Claim7.holds_tied_plain_at .later [] [.data, .data, .data, .widerDeep] true (true, "22d1f53af195ce4a65371a8e296f4f56373d419fbce4718ff79501aa217ed00d") false
  seamSteps_holds (fun _ h=>by cases h) (by kernel_rfl) (fun _ h=>by cases h) seamSteps_row_tie rfl ⟨rfl,rfl⟩ (by kernel_rfl) rfl
  (fun f fn hf hfn=>by
   obtain rfl:f=10:=Option.some.inj ((show Tryz.prog.funcNamed Rows.seamStepsRow.func=some 10 by kernel_rfl).symm.trans hf) |>.symm
   obtain rfl:fn=Tryz.f10:=(Option.some.inj (Tryz.func10.symm.trans hfn)).symm
   exact ⟨by kernel_rfl,noStand (by kernel_rfl)⟩)
  (by kernel_rfl)
end Go.Proofs.YtfiopgedfcaodaaGreatDoor
