/- the edge of a piece: the checks and the moved edge agree with the reference (the listed variables as the program and its library lay them). -/
import Derived.Test.YtfiopgedfcaodaaGreatDoorSeamF
import Derived.Test.YtfiopgedfcaodaaGreatDoorSeamPe
set_option linter.all false
namespace Go.Proofs.YtfiopgedfcaodaaGreatDoor
open Go Go.Am Go.ChangeShapes Go.WideShapes Go.RowKit
set_option maxRecDepth 100000

theorem seamEdges_calls {F : (List (Int × Int)) × Int × Int → Option Bool} (hF : EntryOk envS 11 ⟨(.cons (.list 2 (.agg (.cons (.int .i64) (.cons (.int .i64) .nil)))) (.cons (.int .i64) (.cons (.int .i64) .nil))), .bool, F⟩) (x : (List (Int × Int)) × Int × Int) (h : F x = some true) : PCalls envS 11 (Pats.enc (.cons (.list 2 (.agg (.cons (.int .i64) (.cons (.int .i64) .nil)))) (.cons (.int .i64) (.cons (.int .i64) .nil))) x) (fun r => r = .bool true) := hF x true h
theorem seamEdges_entry {N : Nat} (x : (List (Int × Int)) × Int × Int) (h : T11 N x = some true) : PCalls envS 11 (Pats.enc (.cons (.list 2 (.agg (.cons (.int .i64) (.cons (.int .i64) .nil)))) (.cons (.int .i64) (.cons (.int .i64) .nil))) x) (fun r => r = .bool true) :=
  seamEdges_calls (F := T11 N) (T11_ok N) x h

theorem seamEdges_lifted (os : Os) (started : os.Started) (H : Type) (enc : TypeId × Value → H) :
    ReturnsInHanded {} Tryz.checked os 11 .any (fun w args => (Rows.seamEdgesSpec.pre enc Tryz.prog Tryz.f11 [] false w args ∧ laidMetH Tryz.prog laidL w) ∧ sizedMet enc Tryz.prog Tryz.f11 (OpenSpec.ofChange Rows.seamEdgesSpec) false w args)
      (Rows.seamEdgesSpec.post enc Tryz.prog Tryz.f11 false true false false) := by
  refine returnsInHanded_of_change_and (C := Tryz.checked) (X := fun w _ => laidMetH Tryz.prog laidL w) (fun _ _ _ hh h => h.of_heap hh) own started (by kernel_rfl) Tryz.func11
    (ChangeSpec.witness_at (enc := enc) (C := Tryz.checked) (os := os) (X := fun w _ => laidMetH Tryz.prog laidL w) false (laidWorld os) #[.slice none 0 0, .int .i64 0, .int .i64 0] 8 rfl (by kernel_rfl) (by kernel_rfl) (by kernel_rfl) (by kernel_rfl) (by kernel_rfl) (laidWorld_met os _)) ?_
  intro W base args ds gs before hval0 hW _ _ hL _
  have hval : ∀ (j : Nat) t v, Tryz.f11.params[j]? = some t → args[j]? = some v → Value.okWide Tryz.prog W .any base t v := hval0
  refine law_calls (E := envS) (f := 11) (fn := Tryz.f11) (n := 8) (tb := 4) (ps := [.list 2 (.agg (.cons (.int .i64) (.cons (.int .i64) .nil))), .int .i64, .int .i64]) ?_ (by kernel_rfl) hval hW (glob_of_laid hL) rfl ?_ (by kernel_rfl) under4 laidOut (readable (by kernel_rfl))
  · intro x hx
    exact seamEdges_entry (N := 18446744073709551616) x (T11_true (Nat.le_refl _) x.1 x.2.1 x.2.2)
  · intro ds h
    have hp : Tryz.f11.params.toList.length = 3 := by kernel_rfl
    rw [hp] at h
    match ds, h with
    | [d1, d2, d3], _ => rfl

theorem seamEdges_j1 : (Rows.seamEdgesRow.inPlace == Tryz.prog.inPlace 11) = true := by kernel_rfl
theorem seamEdges_j2 : (Rows.seamEdgesRow.unfollowed == Tryz.prog.unfollowed 11) = true := by kernel_rfl
theorem seamEdges_j3 : (Rows.seamEdgesRow.recurses == Tryz.prog.recurses 11) = true := by kernel_rfl
theorem seamEdges_j4 : (Rows.seamEdgesRow.named == Tryz.prog.varsNamed 11) = true := by kernel_rfl
theorem seamEdges_j5 : (Rows.seamEdgesRow.lifted == Tryz.prog.liftsFinal) = true := Eq.trans (show (Rows.seamEdgesRow.lifted == Tryz.prog.liftsFinal) = (Rows.seamJoinsRow.lifted == Tryz.prog.liftsFinal) from rfl) jLifts
theorem seamEdges_j6 : (Rows.seamEdgesRow.plainKeys == Tryz.prog.plainKeys) = true := Eq.trans (show (Rows.seamEdgesRow.plainKeys == Tryz.prog.plainKeys) = (Rows.seamJoinsRow.plainKeys == Tryz.prog.plainKeys) from rfl) jPlain
theorem seamEdges_facts : joinedFacts Tryz.prog 11 Tryz.f11 Rows.seamEdgesSpec Rows.seamEdgesRow = true := by
  unfold joinedFacts
  rw [seamEdges_j1, seamEdges_j2, seamEdges_j3, seamEdges_j4, seamEdges_j5, seamEdges_j6, jMaps, jHeard, jEnter, jStops, jKnobs, laidOut]
  kernel_rfl

theorem seamEdges_holds : Rows.SeamEdgesSaid :=
  OpenClaim.holds_of_wide 11 Tryz.f11 rfl rfl rfl rfl rfl rfl rfl ⟨rfl, rfl, rfl, rfl, rfl⟩ rfl rfl rfl rfl rfl (by kernel_rfl) Tryz.func11 seamEdges_facts
    (of_decide_eq_true (by kernel_rfl)) (by unfold Func.isWrapper; rw [if_neg (of_decide_eq_false (by kernel_rfl))]; exact ⟨rfl, rfl⟩)
    (fun os started H enc _ => seamEdges_lifted os started H enc)

theorem seamEdges_card : Rows.SeamEdgesCardSaid :=
  Claim7.holds_tied_plain_at .later [] [.data, .data, .data, .widerDeep] true (true, "22d1f53af195ce4a65371a8e296f4f56373d419fbce4718ff79501aa217ed00d") false
    seamEdges_holds (fun _ h => by cases h) (by kernel_rfl) (fun _ h => by cases h) seamEdges_row_tie rfl ⟨rfl, rfl⟩ (by kernel_rfl) rfl
    (fun f fn hf hfn => by
      obtain rfl : f = 11 := Option.some.inj ((show Tryz.prog.funcNamed Rows.seamEdgesRow.func = some 11 by kernel_rfl).symm.trans hf) |>.symm
      obtain rfl : fn = Tryz.f11 := (Option.some.inj (Tryz.func11.symm.trans hfn)).symm
      exact ⟨by kernel_rfl, noStand (by kernel_rfl)⟩)
    (by kernel_rfl)
end Go.Proofs.YtfiopgedfcaodaaGreatDoor
