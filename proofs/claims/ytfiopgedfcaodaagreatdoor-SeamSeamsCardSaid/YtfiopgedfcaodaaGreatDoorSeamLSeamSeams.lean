/- a seam between two edges: the joins agree with the reference (the listed variables as the program and its library lay them). -/
import Derived.Test.YtfiopgedfcaodaaGreatDoorSeamF
import Derived.Test.YtfiopgedfcaodaaGreatDoorSeamPs
set_option linter.all false
namespace Go.Proofs.YtfiopgedfcaodaaGreatDoor
open Go Go.Am Go.ChangeShapes Go.WideShapes Go.RowKit
set_option maxRecDepth 100000

theorem seamSeams_calls {F : (Int × Int) × (List (Int × Int)) × (List (Int × Int)) → Option Bool} (hF : EntryOk envS 13 ⟨(.cons (.agg (.cons (.int .i64) (.cons (.int .i64) .nil))) (.cons (.list 2 (.agg (.cons (.int .i64) (.cons (.int .i64) .nil)))) (.cons (.list 2 (.agg (.cons (.int .i64) (.cons (.int .i64) .nil)))) .nil))), .bool, F⟩) (x : (Int × Int) × (List (Int × Int)) × (List (Int × Int))) (h : F x = some true) : PCalls envS 13 (Pats.enc (.cons (.agg (.cons (.int .i64) (.cons (.int .i64) .nil))) (.cons (.list 2 (.agg (.cons (.int .i64) (.cons (.int .i64) .nil)))) (.cons (.list 2 (.agg (.cons (.int .i64) (.cons (.int .i64) .nil)))) .nil))) x) (fun r => r = .bool true) := hF x true h
theorem seamSeams_entry {N : Nat} (x : (Int × Int) × (List (Int × Int)) × (List (Int × Int))) (h : T13 N x = some true) : PCalls envS 13 (Pats.enc (.cons (.agg (.cons (.int .i64) (.cons (.int .i64) .nil))) (.cons (.list 2 (.agg (.cons (.int .i64) (.cons (.int .i64) .nil)))) (.cons (.list 2 (.agg (.cons (.int .i64) (.cons (.int .i64) .nil)))) .nil))) x) (fun r => r = .bool true) :=
  seamSeams_calls (F := T13 N) (T13_ok N) x h

theorem seamSeams_lifted (os : Os) (started : os.Started) (H : Type) (enc : TypeId × Value → H) :
    ReturnsInHanded {} Tryz.checked os 13 .any (fun w args => (Rows.seamSeamsSpec.pre enc Tryz.prog Tryz.f13 [] false w args ∧ laidMetH Tryz.prog laidL w) ∧ sizedMet enc Tryz.prog Tryz.f13 (OpenSpec.ofChange Rows.seamSeamsSpec) false w args)
      (Rows.seamSeamsSpec.post enc Tryz.prog Tryz.f13 false true false false) := by
  refine returnsInHanded_of_change_and (C := Tryz.checked) (X := fun w _ => laidMetH Tryz.prog laidL w) (fun _ _ _ hh h => h.of_heap hh) own started (by kernel_rfl) Tryz.func13
    (ChangeSpec.witness_at (enc := enc) (C := Tryz.checked) (os := os) (X := fun w _ => laidMetH Tryz.prog laidL w) false (laidWorld os) #[.agg #[.int .i64 0, .int .i64 0], .slice none 0 0, .slice none 0 0] 8 rfl (by kernel_rfl) (by kernel_rfl) (by kernel_rfl) (by kernel_rfl) (by kernel_rfl) (laidWorld_met os _)) ?_
  intro W base args ds gs before hval0 hW _ _ hL _
  have hval : ∀ (j : Nat) t v, Tryz.f13.params[j]? = some t → args[j]? = some v → Value.okWide Tryz.prog W .any base t v := hval0
  refine law_calls (E := envS) (f := 13) (fn := Tryz.f13) (n := 8) (tb := 4) (ps := [.agg (.cons (.int .i64) (.cons (.int .i64) .nil)), .list 2 (.agg (.cons (.int .i64) (.cons (.int .i64) .nil))), .list 2 (.agg (.cons (.int .i64) (.cons (.int .i64) .nil)))]) ?_ (by kernel_rfl) hval hW (glob_of_laid hL) rfl ?_ (by kernel_rfl) under4 laidOut (readable (by kernel_rfl))
  · intro x hx
    exact seamSeams_entry (N := 18446744073709551616) x (T13_true (Nat.le_refl _) x.1 x.2.1 x.2.2)
  · intro ds h
    have hp : Tryz.f13.params.toList.length = 3 := by kernel_rfl
    rw [hp] at h
    match ds, h with
    | [d1, d2, d3], _ => rfl

theorem seamSeams_j1 : (Rows.seamSeamsRow.inPlace == Tryz.prog.inPlace 13) = true := by kernel_rfl
theorem seamSeams_j2 : (Rows.seamSeamsRow.unfollowed == Tryz.prog.unfollowed 13) = true := by kernel_rfl
theorem seamSeams_j3 : (Rows.seamSeamsRow.recurses == Tryz.prog.recurses 13) = true := by kernel_rfl
theorem seamSeams_j4 : (Rows.seamSeamsRow.named == Tryz.prog.varsNamed 13) = true := by kernel_rfl
theorem seamSeams_j5 : (Rows.seamSeamsRow.lifted == Tryz.prog.liftsFinal) = true := Eq.trans (show (Rows.seamSeamsRow.lifted == Tryz.prog.liftsFinal) = (Rows.seamJoinsRow.lifted == Tryz.prog.liftsFinal) from rfl) jLifts
theorem seamSeams_j6 : (Rows.seamSeamsRow.plainKeys == Tryz.prog.plainKeys) = true := Eq.trans (show (Rows.seamSeamsRow.plainKeys == Tryz.prog.plainKeys) = (Rows.seamJoinsRow.plainKeys == Tryz.prog.plainKeys) from rfl) jPlain
theorem seamSeams_facts : joinedFacts Tryz.prog 13 Tryz.f13 Rows.seamSeamsSpec Rows.seamSeamsRow = true := by
  unfold joinedFacts
  rw [seamSeams_j1, seamSeams_j2, seamSeams_j3, seamSeams_j4, seamSeams_j5, seamSeams_j6, jMaps, jHeard, jEnter, jStops, jKnobs, laidOut]
  kernel_rfl

theorem seamSeams_holds : Rows.SeamSeamsSaid :=
  OpenClaim.holds_of_wide 13 Tryz.f13 rfl rfl rfl rfl rfl rfl rfl ⟨rfl, rfl, rfl, rfl, rfl⟩ rfl rfl rfl rfl rfl (by kernel_rfl) Tryz.func13 seamSeams_facts
    (of_decide_eq_true (by kernel_rfl)) (by unfold Func.isWrapper; rw [if_neg (of_decide_eq_false (by kernel_rfl))]; exact ⟨rfl, rfl⟩)
    (fun os started H enc _ => seamSeams_lifted os started H enc)

theorem seamSeams_card : Rows.SeamSeamsCardSaid :=
  Claim7.holds_tied_plain_at .later [] [.data, .data, .data, .widerDeep] true (true, "22d1f53af195ce4a65371a8e296f4f56373d419fbce4718ff79501aa217ed00d") false
    seamSeams_holds (fun _ h => by cases h) (by kernel_rfl) (fun _ h => by cases h) seamSeams_row_tie rfl ⟨rfl, rfl⟩ (by kernel_rfl) rfl
    (fun f fn hf hfn => by
      obtain rfl : f = 13 := Option.some.inj ((show Tryz.prog.funcNamed Rows.seamSeamsRow.func = some 13 by kernel_rfl).symm.trans hf) |>.symm
      obtain rfl : fn = Tryz.f13 := (Option.some.inj (Tryz.func13.symm.trans hfn)).symm
      exact ⟨by kernel_rfl, noStand (by kernel_rfl)⟩)
    (by kernel_rfl)
end Go.Proofs.YtfiopgedfcaodaaGreatDoor
