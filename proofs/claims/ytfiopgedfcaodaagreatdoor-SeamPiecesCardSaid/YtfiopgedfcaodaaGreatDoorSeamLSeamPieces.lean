/- pieces and their joins are checked, and the loose and the common knots agree with the reference (the listed variables as the program and its library lay them). -/
import Derived.Test.YtfiopgedfcaodaaGreatDoorSeamF
import Derived.Test.YtfiopgedfcaodaaGreatDoorSeamPz
set_option linter.all false
namespace Go.Proofs.YtfiopgedfcaodaaGreatDoor
open Go Go.Am Go.ChangeShapes Go.WideShapes Go.RowKit
set_option maxRecDepth 100000
theorem seamPieces_calls {F : (List (List (Int × Int × Int))) × (List (Int × Int × Int × Int × Int × Int)) × (Int × Int) → Option Bool} (hF : EntryOk envS 5 ⟨(.cons (.list 1 (.list 3 (.agg (.cons (.int .i64) (.cons (.int .i64) (.cons (.int .i64) .nil)))))) (.cons (.list 6 (.agg (.cons (.int .i64) (.cons (.int .i64) (.cons (.int .i64) (.cons (.int .i64) (.cons (.int .i64) (.cons (.int .i64) .nil)))))))) (.cons (.agg (.cons (.int .i64) (.cons (.int .i64) .nil))) .nil))), .bool, F⟩) (x : (List (List (Int × Int × Int))) × (List (Int × Int × Int × Int × Int × Int)) × (Int × Int)) (h : F x = some true) : PCalls envS 5 (Pats.enc (.cons (.list 1 (.list 3 (.agg (.cons (.int .i64) (.cons (.int .i64) (.cons (.int .i64) .nil)))))) (.cons (.list 6 (.agg (.cons (.int .i64) (.cons (.int .i64) (.cons (.int .i64) (.cons (.int .i64) (.cons (.int .i64) (.cons (.int .i64) .nil)))))))) (.cons (.agg (.cons (.int .i64) (.cons (.int .i64) .nil))) .nil))) x) (fun r => r = .bool true) := hF x true h
theorem seamPieces_entry {N : Nat} (x : (List (List (Int × Int × Int))) × (List (Int × Int × Int × Int × Int × Int)) × (Int × Int)) (h : T5 N x = some true) : PCalls envS 5 (Pats.enc (.cons (.list 1 (.list 3 (.agg (.cons (.int .i64) (.cons (.int .i64) (.cons (.int .i64) .nil)))))) (.cons (.list 6 (.agg (.cons (.int .i64) (.cons (.int .i64) (.cons (.int .i64) (.cons (.int .i64) (.cons (.int .i64) (.cons (.int .i64) .nil)))))))) (.cons (.agg (.cons (.int .i64) (.cons (.int .i64) .nil))) .nil))) x) (fun r => r = .bool true) :=
  seamPieces_calls (F := T5 N) (T5_ok N) x h
theorem seamPieces_lifted (os : Os) (started : os.Started) (H : Type) (enc : TypeId × Value → H) :
    ReturnsInHanded {} Tryz.checked os 5 .any (fun w args => (Rows.seamPiecesSpec.pre enc Tryz.prog Tryz.f5 [] false w args ∧ laidMetH Tryz.prog laidL w) ∧ sizedMet enc Tryz.prog Tryz.f5 (OpenSpec.ofChange Rows.seamPiecesSpec) false w args)
      (Rows.seamPiecesSpec.post enc Tryz.prog Tryz.f5 false true false false) := by
  refine returnsInHanded_of_change_and (C := Tryz.checked) (X := fun w _ => laidMetH Tryz.prog laidL w) (fun _ _ _ hh h => h.of_heap hh) own started (by kernel_rfl) Tryz.func5
    (ChangeSpec.witness_at (enc := enc) (C := Tryz.checked) (os := os) (X := fun w _ => laidMetH Tryz.prog laidL w) false (laidWorld os) #[.slice none 0 0, .slice none 0 0, .agg #[.int .i64 0, .int .i64 0]] 8 rfl (by kernel_rfl) (by kernel_rfl) (by kernel_rfl) (by kernel_rfl) (by kernel_rfl) (laidWorld_met os _)) ?_
  intro W base args ds gs before hval0 hW _ _ hL _
  have hval : ∀ (j : Nat) t v, Tryz.f5.params[j]? = some t → args[j]? = some v → Value.okWide Tryz.prog W .any base t v := hval0
  refine law_calls (E := envS) (f := 5) (fn := Tryz.f5) (n := 8) (tb := 4) (ps := [.list 1 (.list 3 (.agg (.cons (.int .i64) (.cons (.int .i64) (.cons (.int .i64) .nil))))), .list 6 (.agg (.cons (.int .i64) (.cons (.int .i64) (.cons (.int .i64) (.cons (.int .i64) (.cons (.int .i64) (.cons (.int .i64) .nil))))))), .agg (.cons (.int .i64) (.cons (.int .i64) .nil))]) ?_ (by kernel_rfl) hval hW (glob_of_laid hL) rfl ?_ (by kernel_rfl) under4 laidOut (readable (by kernel_rfl))
  · intro x hx
    exact seamPieces_entry (N := 18446744073709551616) x (T5_true (Nat.le_refl _) x.1 x.2.1 x.2.2)
  · intro ds h
    have hp : Tryz.f5.params.toList.length = 3 := by kernel_rfl
    rw [hp] at h
    match ds, h with
    | [d1, d2, d3], _ => rfl
theorem seamPieces_j1 : (Rows.seamPiecesRow.inPlace == Tryz.prog.inPlace 5) = true := by kernel_rfl
theorem seamPieces_j2 : (Rows.seamPiecesRow.unfollowed == Tryz.prog.unfollowed 5) = true := by kernel_rfl
theorem seamPieces_j3 : (Rows.seamPiecesRow.recurses == Tryz.prog.recurses 5) = true := by kernel_rfl
theorem seamPieces_j4 : (Rows.seamPiecesRow.named == Tryz.prog.varsNamed 5) = true := by kernel_rfl
theorem seamPieces_j5 : (Rows.seamPiecesRow.lifted == Tryz.prog.liftsFinal) = true := Eq.trans (show (Rows.seamPiecesRow.lifted == Tryz.prog.liftsFinal) = (Rows.seamJoinsRow.lifted == Tryz.prog.liftsFinal) from rfl) jLifts
theorem seamPieces_j6 : (Rows.seamPiecesRow.plainKeys == Tryz.prog.plainKeys) = true := Eq.trans (show (Rows.seamPiecesRow.plainKeys == Tryz.prog.plainKeys) = (Rows.seamJoinsRow.plainKeys == Tryz.prog.plainKeys) from rfl) jPlain
theorem seamPieces_facts : joinedFacts Tryz.prog 5 Tryz.f5 Rows.seamPiecesSpec Rows.seamPiecesRow = true := by
  unfold joinedFacts
  rw [seamPieces_j1, seamPieces_j2, seamPieces_j3, seamPieces_j4, seamPieces_j5, seamPieces_j6, jMaps, jHeard, jEnter, jStops, jKnobs, laidOut]
  kernel_rfl
theorem seamPieces_holds : Rows.SeamPiecesSaid :=
  OpenClaim.holds_of_wide 5 Tryz.f5 rfl rfl rfl rfl rfl rfl rfl ⟨rfl, rfl, rfl, rfl, rfl⟩ rfl rfl rfl rfl rfl (by kernel_rfl) Tryz.func5 seamPieces_facts
    (of_decide_eq_true (by kernel_rfl)) (by unfold Func.isWrapper; rw [if_neg (of_decide_eq_false (by kernel_rfl))]; exact ⟨rfl, rfl⟩)
    (fun os started H enc _ => seamPieces_lifted os started H enc)
theorem seamPieces_card : Rows.SeamPiecesCardSaid :=
  Claim7.holds_tied_plain_at .later [] [.data, .data, .data, .widerDeep] true (true, "22d1f53af195ce4a65371a8e296f4f56373d419fbce4718ff79501aa217ed00d") false
    seamPieces_holds (fun _ h => by cases h) (by kernel_rfl) (fun _ h => by cases h) seamPieces_row_tie rfl ⟨rfl, rfl⟩ (by kernel_rfl) rfl
    (fun f fn hf hfn => by
      obtain rfl : f = 5 := Option.some.inj ((show Tryz.prog.funcNamed Rows.seamPiecesRow.func = some 5 by kernel_rfl).symm.trans hf) |>.symm
      obtain rfl : fn = Tryz.f5 := (Option.some.inj (Tryz.func5.symm.trans hfn)).symm
      exact ⟨by kernel_rfl, noStand (by kernel_rfl)⟩)
    (by kernel_rfl)
end Go.Proofs.YtfiopgedfcaodaaGreatDoor
