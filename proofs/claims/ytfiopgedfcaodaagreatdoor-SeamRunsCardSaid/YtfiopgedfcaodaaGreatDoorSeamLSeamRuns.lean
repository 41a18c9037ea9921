/- the runs of pairs, pairs out of runs, and even runs agree with the reference (the listed variables as the program and its library lay them). -/
import Derived.Test.YtfiopgedfcaodaaGreatDoorSeamF
import Derived.Test.YtfiopgedfcaodaaGreatDoorSeamPv
set_option linter.all false
namespace Go.Proofs.YtfiopgedfcaodaaGreatDoor
open Go Go.Am Go.ChangeShapes Go.WideShapes Go.RowKit
set_option maxRecDepth 100000

theorem seamRuns_calls {F : (Int × Int × (List (Int × Int))) × (List (Int)) → Option Bool} (hF : EntryOk envS 12 ⟨(.cons (.agg (.cons (.int .i64) (.cons (.int .i64) (.cons (.list 2 (.agg (.cons (.int .i64) (.cons (.int .i64) .nil)))) .nil)))) (.cons (.list 1 (.int .i64)) .nil)), .bool, F⟩) (x : (Int × Int × (List (Int × Int))) × (List (Int))) (h : F x = some true) : PCalls envS 12 (Pats.enc (.cons (.agg (.cons (.int .i64) (.cons (.int .i64) (.cons (.list 2 (.agg (.cons (.int .i64) (.cons (.int .i64) .nil)))) .nil)))) (.cons (.list 1 (.int .i64)) .nil)) x) (fun r => r = .bool true) := hF x true h
theorem seamRuns_entry {N : Nat} (x : (Int × Int × (List (Int × Int))) × (List (Int))) (h : T12 N x = some true) : PCalls envS 12 (Pats.enc (.cons (.agg (.cons (.int .i64) (.cons (.int .i64) (.cons (.list 2 (.agg (.cons (.int .i64) (.cons (.int .i64) .nil)))) .nil)))) (.cons (.list 1 (.int .i64)) .nil)) x) (fun r => r = .bool true) :=
  seamRuns_calls (F := T12 N) (T12_ok N) x h

theorem seamRuns_lifted (os : Os) (started : os.Started) (H : Type) (enc : TypeId × Value → H) :
    ReturnsInHanded {} Tryz.checked os 12 .any (fun w args => (Rows.seamRunsSpec.pre enc Tryz.prog Tryz.f12 [] false w args ∧ laidMetH Tryz.prog laidL w) ∧ sizedMet enc Tryz.prog Tryz.f12 (OpenSpec.ofChange Rows.seamRunsSpec) false w args)
      (Rows.seamRunsSpec.post enc Tryz.prog Tryz.f12 false true false false) := by
  refine returnsInHanded_of_change_and (C := Tryz.checked) (X := fun w _ => laidMetH Tryz.prog laidL w) (fun _ _ _ hh h => h.of_heap hh) own started (by kernel_rfl) Tryz.func12
    (ChangeSpec.witness_at (enc := enc) (C := Tryz.checked) (os := os) (X := fun w _ => laidMetH Tryz.prog laidL w) false (laidWorld os) #[.agg #[.int .i64 0, .int .i64 0, .slice none 0 0], .slice none 0 0] 8 rfl (by kernel_rfl) (by kernel_rfl) (by kernel_rfl) (by kernel_rfl) (by kernel_rfl) (laidWorld_met os _)) ?_
  intro W base args ds gs before hval0 hW _ _ hL _
  have hval : ∀ (j : Nat) t v, Tryz.f12.params[j]? = some t → args[j]? = some v → Value.okWide Tryz.prog W .any base t v := hval0
  refine law_calls (E := envS) (f := 12) (fn := Tryz.f12) (n := 8) (tb := 4) (ps := [.agg (.cons (.int .i64) (.cons (.int .i64) (.cons (.list 2 (.agg (.cons (.int .i64) (.cons (.int .i64) .nil)))) .nil))), .list 1 (.int .i64)]) ?_ (by kernel_rfl) hval hW (glob_of_laid hL) rfl ?_ (by kernel_rfl) under4 laidOut (readable (by kernel_rfl))
  · intro x hx
    exact seamRuns_entry (N := 18446744073709551616) x (T12_true (Nat.le_refl _) x.1.1 x.1.2.1 x.1.2.2 x.2)
  · intro ds h
    have hp : Tryz.f12.params.toList.length = 2 := by kernel_rfl
    rw [hp] at h
    match ds, h with
    | [d1, d2], _ => rfl

theorem seamRuns_j1 : (Rows.seamRunsRow.inPlace == Tryz.prog.inPlace 12) = true := by kernel_rfl
theorem seamRuns_j2 : (Rows.seamRunsRow.unfollowed == Tryz.prog.unfollowed 12) = true := by kernel_rfl
theorem seamRuns_j3 : (Rows.seamRunsRow.recurses == Tryz.prog.recurses 12) = true := by kernel_rfl
theorem seamRuns_j4 : (Rows.seamRunsRow.named == Tryz.prog.varsNamed 12) = true := by kernel_rfl
theorem seamRuns_j5 : (Rows.seamRunsRow.lifted == Tryz.prog.liftsFinal) = true := Eq.trans (show (Rows.seamRunsRow.lifted == Tryz.prog.liftsFinal) = (Rows.seamJoinsRow.lifted == Tryz.prog.liftsFinal) from rfl) jLifts
theorem seamRuns_j6 : (Rows.seamRunsRow.plainKeys == Tryz.prog.plainKeys) = true := Eq.trans (show (Rows.seamRunsRow.plainKeys == Tryz.prog.plainKeys) = (Rows.seamJoinsRow.plainKeys == Tryz.prog.plainKeys) from rfl) jPlain
theorem seamRuns_facts : joinedFacts Tryz.prog 12 Tryz.f12 Rows.seamRunsSpec Rows.seamRunsRow = true := by
  unfold joinedFacts
  rw [seamRuns_j1, seamRuns_j2, seamRuns_j3, seamRuns_j4, seamRuns_j5, seamRuns_j6, jMaps, jHeard, jEnter, jStops, jKnobs, laidOut]
  kernel_rfl

theorem seamRuns_holds : Rows.SeamRunsSaid :=
  OpenClaim.holds_of_wide 12 Tryz.f12 rfl rfl rfl rfl rfl rfl rfl ⟨rfl, rfl, rfl, rfl, rfl⟩ rfl rfl rfl rfl rfl (by kernel_rfl) Tryz.func12 seamRuns_facts
    (of_decide_eq_true (by kernel_rfl)) (by unfold Func.isWrapper; rw [if_neg (of_decide_eq_false (by kernel_rfl))]; exact ⟨rfl, rfl⟩)
    (fun os started H enc _ => seamRuns_lifted os started H enc)

theorem seamRuns_card : Rows.SeamRunsCardSaid :=
  Claim7.holds_tied_plain_at .later [] [.data, .data, .data, .widerDeep] true (true, "22d1f53af195ce4a65371a8e296f4f56373d419fbce4718ff79501aa217ed00d") false
    seamRuns_holds (fun _ h => by cases h) (by kernel_rfl) (fun _ h => by cases h) seamRuns_row_tie rfl ⟨rfl, rfl⟩ (by kernel_rfl) rfl
    (fun f fn hf hfn => by
      obtain rfl : f = 12 := Option.some.inj ((show Tryz.prog.funcNamed Rows.seamRunsRow.func = some 12 by kernel_rfl).symm.trans hf) |>.symm
      obtain rfl : fn = Tryz.f12 := (Option.some.inj (Tryz.func12.symm.trans hfn)).symm
      exact ⟨by kernel_rfl, noStand (by kernel_rfl)⟩)
    (by kernel_rfl)
end Go.Proofs.YtfiopgedfcaodaaGreatDoor
