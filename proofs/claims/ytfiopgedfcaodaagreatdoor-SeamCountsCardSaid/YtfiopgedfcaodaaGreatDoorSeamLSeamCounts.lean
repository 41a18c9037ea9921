/- the class of a place, the degrees and the numbers of what is sewn agree with the reference (the listed variables as the program and its library lay them). -/
import Derived.Test.YtfiopgedfcaodaaGreatDoorSeamF
import Derived.Test.YtfiopgedfcaodaaGreatDoorSeamPg
set_option linter.all false
namespace Go.Proofs.YtfiopgedfcaodaaGreatDoor
open Go Go.Am Go.ChangeShapes Go.WideShapes Go.RowKit
set_option maxRecDepth 100000

theorem seamCounts_calls {F : ((List (List (Int × Int × Int))) × (List (Int × Int))) × (Int × Int × Int) → Option Bool} (hF : EntryOk envS 7 ⟨(.cons (.agg (.cons (.list 1 (.list 3 (.agg (.cons (.int .i64) (.cons (.int .i64) (.cons (.int .i64) .nil)))))) (.cons (.list 2 (.agg (.cons (.int .i64) (.cons (.int .i64) .nil)))) .nil))) (.cons (.agg (.cons (.int .i64) (.cons (.int .i64) (.cons (.int .i64) .nil)))) .nil)), .bool, F⟩) (x : ((List (List (Int × Int × Int))) × (List (Int × Int))) × (Int × Int × Int)) (h : F x = some true) : PCalls envS 7 (Pats.enc (.cons (.agg (.cons (.list 1 (.list 3 (.agg (.cons (.int .i64) (.cons (.int .i64) (.cons (.int .i64) .nil)))))) (.cons (.list 2 (.agg (.cons (.int .i64) (.cons (.int .i64) .nil)))) .nil))) (.cons (.agg (.cons (.int .i64) (.cons (.int .i64) (.cons (.int .i64) .nil)))) .nil)) x) (fun r => r = .bool true) := hF x true h
theorem seamCounts_entry {N : Nat} (x : ((List (List (Int × Int × Int))) × (List (Int × Int))) × (Int × Int × Int)) (h : T7 N x = some true) : PCalls envS 7 (Pats.enc (.cons (.agg (.cons (.list 1 (.list 3 (.agg (.cons (.int .i64) (.cons (.int .i64) (.cons (.int .i64) .nil)))))) (.cons (.list 2 (.agg (.cons (.int .i64) (.cons (.int .i64) .nil)))) .nil))) (.cons (.agg (.cons (.int .i64) (.cons (.int .i64) (.cons (.int .i64) .nil)))) .nil)) x) (fun r => r = .bool true) :=
  seamCounts_calls (F := T7 N) (T7_ok N) x h

theorem seamCounts_lifted (os : Os) (started : os.Started) (H : Type) (enc : TypeId × Value → H) :
    ReturnsInHanded {} Tryz.checked os 7 .any (fun w args => (Rows.seamCountsSpec.pre enc Tryz.prog Tryz.f7 [] false w args ∧ laidMetH Tryz.prog laidL w) ∧ sizedMet enc Tryz.prog Tryz.f7 (OpenSpec.ofChange Rows.seamCountsSpec) false w args)
      (Rows.seamCountsSpec.post enc Tryz.prog Tryz.f7 false true false false) := by
  refine returnsInHanded_of_change_and (C := Tryz.checked) (X := fun w _ => laidMetH Tryz.prog laidL w) (fun _ _ _ hh h => h.of_heap hh) own started (by kernel_rfl) Tryz.func7
    (ChangeSpec.witness_at (enc := enc) (C := Tryz.checked) (os := os) (X := fun w _ => laidMetH Tryz.prog laidL w) false (laidWorld os) #[.agg #[.slice none 0 0, .slice none 0 0], .agg #[.int .i64 0, .int .i64 0, .int .i64 0]] 8 rfl (by kernel_rfl) (by kernel_rfl) (by kernel_rfl) (by kernel_rfl) (by kernel_rfl) (laidWorld_met os _)) ?_
  intro W base args ds gs before hval0 hW _ _ hL _
  have hval : ∀ (j : Nat) t v, Tryz.f7.params[j]? = some t → args[j]? = some v → Value.okWide Tryz.prog W .any base t v := hval0
  refine law_calls (E := envS) (f := 7) (fn := Tryz.f7) (n := 8) (tb := 4) (ps := [.agg (.cons (.list 1 (.list 3 (.agg (.cons (.int .i64) (.cons (.int .i64) (.cons (.int .i64) .nil)))))) (.cons (.list 2 (.agg (.cons (.int .i64) (.cons (.int .i64) .nil)))) .nil)), .agg (.cons (.int .i64) (.cons (.int .i64) (.cons (.int .i64) .nil)))]) ?_ (by kernel_rfl) hval hW (glob_of_laid hL) rfl ?_ (by kernel_rfl) under4 laidOut (readable (by kernel_rfl))
  · intro x hx
    exact seamCounts_entry (N := 18446744073709551616) x (T7_true (Nat.le_refl _) x.1.1 x.1.2 x.2)
  · intro ds h
    have hp : Tryz.f7.params.toList.length = 2 := by kernel_rfl
    rw [hp] at h
    match ds, h with
    | [d1, d2], _ => rfl

theorem seamCounts_j1 : (Rows.seamCountsRow.inPlace == Tryz.prog.inPlace 7) = true := by kernel_rfl
theorem seamCounts_j2 : (Rows.seamCountsRow.unfollowed == Tryz.prog.unfollowed 7) = true := by kernel_rfl
theorem seamCounts_j3 : (Rows.seamCountsRow.recurses == Tryz.prog.recurses 7) = true := by kernel_rfl
theorem seamCounts_j4 : (Rows.seamCountsRow.named == Tryz.prog.varsNamed 7) = true := by kernel_rfl
theorem seamCounts_j5 : (Rows.seamCountsRow.lifted == Tryz.prog.liftsFinal) = true := Eq.trans (show (Rows.seamCountsRow.lifted == Tryz.prog.liftsFinal) = (Rows.seamJoinsRow.lifted == Tryz.prog.liftsFinal) from rfl) jLifts
theorem seamCounts_j6 : (Rows.seamCountsRow.plainKeys == Tryz.prog.plainKeys) = true := Eq.trans (show (Rows.seamCountsRow.plainKeys == Tryz.prog.plainKeys) = (Rows.seamJoinsRow.plainKeys == Tryz.prog.plainKeys) from rfl) jPlain
theorem seamCounts_facts : joinedFacts Tryz.prog 7 Tryz.f7 Rows.seamCountsSpec Rows.seamCountsRow = true := by
  unfold joinedFacts
  rw [seamCounts_j1, seamCounts_j2, seamCounts_j3, seamCounts_j4, seamCounts_j5, seamCounts_j6, jMaps, jHeard, jEnter, jStops, jKnobs, laidOut]
  kernel_rfl

theorem seamCounts_holds : Rows.SeamCountsSaid :=
  OpenClaim.holds_of_wide 7 Tryz.f7 rfl rfl rfl rfl rfl rfl rfl ⟨rfl, rfl, rfl, rfl, rfl⟩ rfl rfl rfl rfl rfl (by kernel_rfl) Tryz.func7 seamCounts_facts
    (of_decide_eq_true (by kernel_rfl)) (by unfold Func.isWrapper; rw [if_neg (of_decide_eq_false (by kernel_rfl))]; exact ⟨rfl, rfl⟩)
    (fun os started H enc _ => seamCounts_lifted os started H enc)

theorem seamCounts_card : Rows.SeamCountsCardSaid :=
  Claim7.holds_tied_plain_at .later [] [.data, .data, .data, .widerDeep] true (true, "22d1f53af195ce4a65371a8e296f4f56373d419fbce4718ff79501aa217ed00d") false
    seamCounts_holds (fun _ h => by cases h) (by kernel_rfl) (fun _ h => by cases h) seamCounts_row_tie rfl ⟨rfl, rfl⟩ (by kernel_rfl) rfl
    (fun f fn hf hfn => by
      obtain rfl : f = 7 := Option.some.inj ((show Tryz.prog.funcNamed Rows.seamCountsRow.func = some 7 by kernel_rfl).symm.trans hf) |>.symm
      obtain rfl : fn = Tryz.f7 := (Option.some.inj (Tryz.func7.symm.trans hfn)).symm
      exact ⟨by kernel_rfl, noStand (by kernel_rfl)⟩)
    (by kernel_rfl)
end Go.Proofs.YtfiopgedfcaodaaGreatDoor
