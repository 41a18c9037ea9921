/- For every table of twines, all lines and every two numbers: HangSums returns true and leaves its input as it was (the variable tens as the program lays it). -/
import Derived.Test.YtpngggdfbbdfaaaDoorHangF
import Derived.Test.YtpngggdfbbdfaaaDoorHangPr
set_option linter.all false
namespace Go.Proofs.YtpngggdfbbdfaaaDoor
open Go Go.Am Go.ChangeShapes Go.WideShapes Go.RowKit
set_option maxRecDepth 100000

theorem hangSums_lifted (os : Os) (started : os.Started) (H : Type) (enc : TypeId × Value → H) :
    ReturnsInHanded {} Tryd.checked os 13 .any (fun w args => (Rows.hangSumsSpec.pre enc Tryd.prog Tryd.f13 [] false w args ∧ laidMetH Tryd.prog laidL w) ∧ sizedMet enc Tryd.prog Tryd.f13 (OpenSpec.ofChange Rows.hangSumsSpec) false w args)
      (Rows.hangSumsSpec.post enc Tryd.prog Tryd.f13 false true false false) := by
  refine returnsInHanded_of_change_and (C := Tryd.checked) (X := fun w _ => laidMetH Tryd.prog laidL w) (fun _ _ _ hh h => h.of_heap hh) own started (by kernel_rfl) Tryd.func13
    (ChangeSpec.witness_at (enc := enc) (C := Tryd.checked) (os := os) (X := fun w _ => laidMetH Tryd.prog laidL w) false (laidWorld os) #[.slice none 0 0, .slice none 0 0, .agg #[.int .u8 0, .int .u8 0]] 8 rfl (by kernel_rfl) (by kernel_rfl) (by kernel_rfl) (by kernel_rfl) (by kernel_rfl) (laidWorld_met os _)) ?_
  intro W base args ds gs before hval0 hW _ _ hL _
  have hval : ∀ (j : Nat) t v, Tryd.f13.params[j]? = some t → args[j]? = some v → Value.okWide Tryd.prog W .any base t v := hval0
  refine law_calls (E := envS) (f := 13) (fn := Tryd.f13) (n := 8) (tb := 4) (ps := [.list 3 (.agg (.cons .str (.cons (.int .i64) (.cons (.int .i64) .nil)))), .list 4 (.agg (.cons (.int .i64) (.cons (.int .i64) (.cons (.int .i64) (.cons .str .nil))))), .agg (.cons (.int .u8) (.cons (.int .u8) .nil))]) ?_ (by kernel_rfl) hval hW (glob_of_laid hL) rfl ?_ (by kernel_rfl) under4 laidOut (readable (by kernel_rfl))
  · intro x hx
    exact T13_ok 18446744073709551616 x true (T13_true (Nat.le_refl _) x.1 hx.1.1 x.2.1 hx.2.1.1 x.2.2 hx.2.2.1 hx.2.2.2)
  · intro ds h
    have hp : Tryd.f13.params.toList.length = 3 := by kernel_rfl
    rw [hp] at h
    match ds, h with
    | [d1, d2, d3], _ => rfl

theorem hangSums_holds : Rows.HangSumsSaid :=
  OpenClaim.holds_of_wide 13 Tryd.f13 rfl rfl rfl rfl rfl rfl rfl ⟨rfl, rfl, rfl, rfl, rfl⟩ rfl rfl rfl rfl rfl (by kernel_rfl) Tryd.func13 (by kernel_rfl)
    (of_decide_eq_true (by kernel_rfl)) (by unfold Func.isWrapper; rw [if_neg (of_decide_eq_false (by kernel_rfl))]; exact ⟨rfl, rfl⟩)
    (fun os started H enc _ => hangSums_lifted os started H enc)

theorem hangSums_card : Rows.HangSumsCardSaid :=
  Claim7.holds_tied_plain_at .later [] [.data] true (true, "bb9c8a1f3b87a99a73053614bf73ec5a74d01f458fba8a9eee33de806b476934") false
    hangSums_holds (fun _ h => by cases h) (by kernel_rfl) (fun _ h => by cases h) hangSums_row_tie rfl ⟨rfl, rfl⟩ (by kernel_rfl) rfl
    (fun f fn hf hfn => by
      obtain rfl : f = 13 := Option.some.inj ((show Tryd.prog.funcNamed Rows.hangSumsRow.func = some 13 by kernel_rfl).symm.trans hf) |>.symm
      obtain rfl : fn = Tryd.f13 := (Option.some.inj (Tryd.func13.symm.trans hfn)).symm
      exact ⟨by kernel_rfl, noStand (by kernel_rfl)⟩)
    (by kernel_rfl)
end Go.Proofs.YtpngggdfbbdfaaaDoor
