/- what is sewn from pieces and joins,its classes and its bars,agrees with the reference (the listed variables as the program and its library lay them). -/
import Derived.Test.YtfiopgedfcaodaaGreatDoorSeamF
import Derived.Test.YtfiopgedfcaodaaGreatDoorSeamRf
set_option linter.all false
namespace Go.Proofs.YtfiopgedfcaodaaGreatDoor
open Go Go.Am Go.ChangeShapes Go.WideShapes Go.RowKit
set_option maxRecDepth 100000
theorem seamSews_calls {F:(List (List (Int × Int × Int))) × (List (Int × Int × Int × Int × Int × Int)) → Option Bool} (hF:EntryOk envS 6 ⟨(.cons (.list 1 (.list 3 (.agg (.cons (.int .i64) (.cons (.int .i64) (.cons (.int .i64) .nil)))))) (.cons (.list 6 (.agg (.cons (.int .i64) (.cons (.int .i64) (.cons (.int .i64) (.cons (.int .i64) (.cons (.int .i64) (.cons (.int .i64) .nil)))))))) .nil)),.bool,F⟩) (x:(List (List (Int × Int × Int))) × (List (Int × Int × Int × Int × Int × Int))) (h:F x = some true):PCalls envS 6 (Pats.enc (.cons (.list 1 (.list 3 (.agg (.cons (.int .i64) (.cons (.int .i64) (.cons (.int .i64) .nil)))))) (.cons (.list 6 (.agg (.cons (.int .i64) (.cons (.int .i64) (.cons (.int .i64) (.cons (.int .i64) (.cons (.int .i64) (.cons (.int .i64) .nil)))))))) .nil)) x) (fun r=>r = .bool true):=hF x true h
theorem seamSews_entry {N:Nat} (x:(List (List (Int × Int × Int))) × (List (Int × Int × Int × Int × Int × Int))) (h:T6 N x = some true):PCalls envS 6 (Pats.enc (.cons (.list 1 (.list 3 (.agg (.cons (.int .i64) (.cons (.int .i64) (.cons (.int .i64) .nil)))))) (.cons (.list 6 (.agg (.cons (.int .i64) (.cons (.int .i64) (.cons (.int .i64) (.cons (.int .i64) (.cons (.int .i64) (.cons (.int .i64) .nil)))))))) .nil)) x) (fun r=>r = .bool true):=
 seamSews_calls (F:=T6 N) (T6_ok N) x h
theorem seamSews_lifted (os:Os) (started:os.Started) (H:Type) (enc:TypeId × Value → H) :
  ReturnsInHanded {} Tryz.checked os 6 .any (fun w args=>(Rows.seamSewsSpec.pre enc Tryz.prog Tryz.f6 [] false w args ∧ laidMetH Tryz.prog laidL w) ∧ sizedMet enc Tryz.prog Tryz.f6 (OpenSpec.ofChange Rows.seamSewsSpec) false w args)
   (Rows.seamSewsSpec.post enc Tryz.prog Tryz.f6 false true false false):=by
 refine returnsInHanded_of_change_and (C:=Tryz.checked) (X:=fun w _=>laidMetH Tryz.prog laidL w) (fun _ _ _ hh h=>h.of_heap hh) own started (by kernel_rfl) Tryz.func6
  (ChangeSpec.witness_at (enc:=enc) (C:=Tryz.checked) (os:=os) (X:=fun w _=>laidMetH Tryz.prog laidL w) false (laidWorld os) #[.slice none 0 0,.slice none 0 0] 8 rfl (by kernel_rfl) (by kernel_rfl) (by kernel_rfl) (by kernel_rfl) (by kernel_rfl) (laidWorld_met os _)) ?_
 intro W base args ds gs before hval0 hW _ _ hL _
 have hval:∀ (j:Nat) t v,Tryz.f6.params[j]? = some t → args[j]? = some v → Value.okWide Tryz.prog W .any base t v:=hval0
 refine law_calls (E:=envS) (f:=6) (fn:=Tryz.f6) (n:=8) (tb:=4) (ps:=[.list 1 (.list 3 (.agg (.cons (.int .i64) (.cons (.int .i64) (.cons (.int .i64) .nil))))),.list 6 (.agg (.cons (.int .i64) (.cons (.int .i64) (.cons (.int .i64) (.cons (.int .i64) (.cons (.int .i64) (.cons (.int .i64) .nil)))))))]) ?_ (by kernel_rfl) hval hW (glob_of_laid hL) rfl ?_ (by kernel_rfl) under4 laidOut (readable (by kernel_rfl))
 ·intro x hx
  exact seamSews_entry (N:=18446744073709551616) x (T6_true (Nat.le_refl _) x.1 x.2)
 ·intro ds h
  have hp:Tryz.f6.params.toList.length = 2:=by kernel_rfl
  rw [hp] at h
  match ds,h with
  | [d1,d2],_=>rfl
theorem seamSews_j1:(Rows.seamSewsRow.inPlace == Tryz.prog.inPlace 6) = true:=by kernel_rfl
theorem seamSews_j2:(Rows.seamSewsRow.unfollowed == Tryz.prog.unfollowed 6) = true:=by kernel_rfl
theorem seamSews_j3:(Rows.seamSewsRow.recurses == Tryz.prog.recurses 6) = true:=by kernel_rfl
theorem seamSews_j4:(Rows.seamSewsRow.named == Tryz.prog.varsNamed 6) = true:=by kernel_rfl
theorem seamSews_j5:(Rows.seamSewsRow.lifted == Tryz.prog.liftsFinal) = true:=Eq.trans (show (Rows.seamSewsRow.lifted == Tryz.prog.liftsFinal) = (Rows.seamJoinsRow.lifted == Tryz.prog.liftsFinal) from rfl) jLifts
theorem seamSews_j6:(Rows.seamSewsRow.plainKeys == Tryz.prog.plainKeys) = true:=Eq.trans (show (Rows.seamSewsRow.plainKeys == Tryz.prog.plainKeys) = (Rows.seamJoinsRow.plainKeys == Tryz.prog.plainKeys) from rfl) jPlain
theorem seamSews_facts:joinedFacts Tryz.prog 6 Tryz.f6 Rows.seamSewsSpec Rows.seamSewsRow = true:=by
 unfold joinedFacts
 rw [seamSews_j1,seamSews_j2,seamSews_j3,seamSews_j4,seamSews_j5,seamSews_j6,jMaps,jHeard,jEnter,jStops,jKnobs,laidOut]
 kernel_rfl
theorem seamSews_holds:Rows.SeamSewsSaid:=
 OpenClaim.holds_of_wide 6 Tryz.f6 rfl rfl rfl rfl rfl rfl rfl ⟨rfl,rfl,rfl,rfl,rfl⟩ rfl rfl rfl rfl rfl (by kernel_rfl) Tryz.func6 seamSews_facts
  (of_decide_eq_true (by kernel_rfl)) (by unfold Func.isWrapper; rw [if_neg (of_decide_eq_false (by kernel_rfl))]; exact ⟨rfl,rfl⟩)
  (fun os started H enc _=>seamSews_lifted os started H enc)
theorem seamSews_card:Rows.SeamSewsCardSaid:=
 Claim7.holds_tied_plain_at .later [] [.data, .data, .data, .widerDeep] true (true, "22d1f53af195ce4a65371a8e296f4f56373d419fbce4718ff79501aa217ed00d") false
  seamSews_holds (fun _ h=>by cases h) (by kernel_rfl) (fun _ h=>by cases h) seamSews_row_tie rfl ⟨rfl,rfl⟩ (by kernel_rfl) rfl
  (fun f fn hf hfn=>by
   obtain rfl:f = 6:=Option.some.inj ((show Tryz.prog.funcNamed Rows.seamSewsRow.func = some 6 by kernel_rfl).symm.trans hf) |>.symm
   obtain rfl:fn = Tryz.f6:=(Option.some.inj (Tryz.func6.symm.trans hfn)).symm
   exact ⟨by kernel_rfl,noStand (by kernel_rfl)⟩)
  (by kernel_rfl)
end Go.Proofs.YtfiopgedfcaodaaGreatDoor
