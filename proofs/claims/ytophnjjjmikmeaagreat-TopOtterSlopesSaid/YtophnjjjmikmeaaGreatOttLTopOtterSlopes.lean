/- For every two numbers and number of times, TopOtterSlopes returns true. -/
import Derived.Test.YtophnjjjmikmeaaGreatOttF
import Derived.Test.YtophnjjjmikmeaaGreatOttSl
set_option linter.all false
namespace Go.Proofs.YtophnjjjmikmeaaGreat
open Go Go.Am Go.ChangeShapes Go.WideShapes Go.RowKit
set_option maxRecDepth 100000
theorem mu {F : Int × Int × Int → Option Bool} (hF : au cr 5 ⟨(.cons (.int .u8) (.cons (.int .u8) (.cons (.int .u8) .nil))), .bool, F⟩) (x : Int × Int × Int) (h : F x = some true) : bK cr 5 (aF.enc (.cons (.int .u8) (.cons (.int .u8) (.cons (.int .u8) .nil))) x) (fun r => r = .bool true) := hF x true h
theorem mw {N : Nat} (x : Int × Int × Int) (h : T5 N x = some true) : bK cr 5 (aF.enc (.cons (.int .u8) (.cons (.int .u8) (.cons (.int .u8) .nil))) x) (fun r => r = .bool true) :=
  mu (F := T5 N) (QD N) x h
theorem lr (os : Os) (started : os.Started) (H : Type) (enc : TypeId × Value → H) :
    ReturnsInHanded {} Tryz.checked os 5 .any (Rows.topOtterSlopesSpec.pre6 enc Tryz.prog Tryz.f5 [] false)
      (Rows.topOtterSlopesSpec.post enc Tryz.prog Tryz.f5 false true false false) := by
  refine returnsInHanded_of_change (C := Tryz.checked) own started (by kernel_rfl) Tryz.func5
    (witness6 (ChangeSpec.witness_at (enc := enc) (C := Tryz.checked) (os := os) (X := fun _ _ => True) false (NT os) #[.int .u8 0, .int .u8 0, .int .u8 0] 8 rfl (by kernel_rfl) (by kernel_rfl) (by kernel_rfl) (by kernel_rfl) (by kernel_rfl) trivial)) ?_
  intro W base args ds gs before QG hW _ _
  have IJ : ∀ (j : Nat) t v, Tryz.f5.params[j]? = some t → args[j]? = some v → Value.okWide Tryz.prog W .any base t v := QG
  refine En (E := cr) (f := 5) (fn := Tryz.f5) (n := 8) (tb := 4) (ps := [.int .u8, .int .u8, .int .u8]) ?_ (by kernel_rfl) IJ hW (NS W) rfl ?_ (by kernel_rfl) NR laidOut (readable (by kernel_rfl))
  · intro x hx
    exact mw (N := 18446744073709551616) x (JW (Nat.le_refl _) x.1 x.2.1 x.2.2 (TG hx.1) (TG hx.2.1) (TG hx.2.2))
  · intro ds h
    have hp : Tryz.f5.params.toList.length = 3 := by kernel_rfl
    rw [hp] at h
    match ds, h with
    | [d1, d2, d3], _ => rfl
theorem pH : (Rows.topOtterSlopesRow.inPlace == Tryz.prog.inPlace 5) = true := by kernel_rfl
theorem pI : (Rows.topOtterSlopesRow.unfollowed == Tryz.prog.unfollowed 5) = true := by kernel_rfl
theorem pJ : (Rows.topOtterSlopesRow.recurses == Tryz.prog.recurses 5) = true := by kernel_rfl
theorem pK : (Rows.topOtterSlopesRow.named == Tryz.prog.varsNamed 5) = true := by kernel_rfl
theorem pL : (Rows.topOtterSlopesRow.lifted == Tryz.prog.liftsFinal) = true := Eq.trans (show (Rows.topOtterSlopesRow.lifted == Tryz.prog.liftsFinal) = (Rows.topOtterSlopesRow.lifted == Tryz.prog.liftsFinal) from rfl) NX
theorem pM : (Rows.topOtterSlopesRow.plainKeys == Tryz.prog.plainKeys) = true := Eq.trans (show (Rows.topOtterSlopesRow.plainKeys == Tryz.prog.plainKeys) = (Rows.topOtterSlopesRow.plainKeys == Tryz.prog.plainKeys) from rfl) NU
theorem my : joinedFacts Tryz.prog 5 Tryz.f5 Rows.topOtterSlopesSpec Rows.topOtterSlopesRow = true := by
  unfold joinedFacts
  rw [pH, pI, pJ, pK, pL, pM, QC, NV, NW, NY, NZ, laidOut]
  kernel_rfl
theorem topOtterSlopes_holds : Rows.TopOtterSlopesSaid :=
  OpenClaim.holds_of_wide 5 Tryz.f5 rfl rfl rfl rfl rfl rfl rfl ⟨rfl, rfl, rfl, rfl, rfl⟩ rfl rfl rfl rfl rfl (by kernel_rfl) Tryz.func5 my
    (of_decide_eq_true (by kernel_rfl)) (by unfold Func.isWrapper; rw [if_neg (of_decide_eq_false (by kernel_rfl))]; exact ⟨rfl, rfl⟩)
    (fun os started H enc _ => lr os started H enc)
end Go.Proofs.YtophnjjjmikmeaaGreat
