/- a spread of two letters has as many of each as said, is balanced, and so are its rotations; the abstract machine gives each step, and the integer parts of the shares show that windows differ by at most one (the listed variables as the program and its library lay them). -/
import Derived.Test.YtbfappllfpngdaaGreatDoorTapF
import Derived.Test.YtbfappllfpngdaaGreatDoorTapPx
set_option linter.all false
namespace Go.Proofs.YtbfappllfpngdaaGreatDoor
open Go Go.Am Go.ChangeShapes Go.WideShapes Go.RowKit
set_option maxRecDepth 100000

theorem entry_calls {F : Int × Int × Int → Option Bool} (hF : EntryOk envS 8 ⟨(Pats.cons (.int .u8) (.cons (.int .u8) (.cons (.int .u8) .nil))), .bool, F⟩) (x : Int × Int × Int) (h : F x = some true) : PCalls envS 8 ((Pats.cons (.int .u8) (.cons (.int .u8) (.cons (.int .u8) .nil))).enc x) (fun r => r = .bool true) := hF x true h
theorem taperEven_entry {N : Nat} (x : Int × Int × Int) (h : T8 N x = some true) : PCalls envS 8 ((Pats.cons (.int .u8) (.cons (.int .u8) (.cons (.int .u8) .nil))).enc x) (fun r => r = .bool true) :=
  entry_calls (F := T8 N) (T8_ok N) x h

theorem taperEven_lifted (os : Os) (started : os.Started) (H : Type) (enc : TypeId × Value → H) :
    ReturnsInHanded {} Tryz.checked os 8 .any (fun w args => (Rows.taperEvenSpec.pre enc Tryz.prog Tryz.f8 [] false w args ∧ laidMetH Tryz.prog laidL w) ∧ sizedMet enc Tryz.prog Tryz.f8 (OpenSpec.ofChange Rows.taperEvenSpec) false w args)
      (Rows.taperEvenSpec.post enc Tryz.prog Tryz.f8 false true false false) := by
  refine returnsInHanded_of_change_and (C := Tryz.checked) (X := fun w _ => laidMetH Tryz.prog laidL w) (fun _ _ _ hh h => h.of_heap hh) own started (by kernel_rfl) Tryz.func8
    (ChangeSpec.witness_at (enc := enc) (C := Tryz.checked) (os := os) (X := fun w _ => laidMetH Tryz.prog laidL w) false (laidWorld os) #[.int .u8 0, .int .u8 0, .int .u8 0] 8 rfl (by kernel_rfl) (by kernel_rfl) (by kernel_rfl) (by kernel_rfl) (by kernel_rfl) (laidWorld_met os _)) ?_
  intro W base args ds gs before hval0 hW _ _ hL _
  have hval : ∀ (j : Nat) t v, Tryz.f8.params[j]? = some t → args[j]? = some v → Value.okWide Tryz.prog W .any base t v := hval0
  refine law_calls (E := envS) (f := 8) (fn := Tryz.f8) (n := 8) (tb := 4) (ps := [.int .u8, .int .u8, .int .u8]) ?_ (by kernel_rfl) hval hW (glob_of_laid hL) rfl ?_ (by kernel_rfl) under4 laidOut (readable (by kernel_rfl))
  · intro x hx
    exact taperEven_entry (N := 18446744073709551616) x (TaperEven_true (Nat.le_refl _) x.1 x.2.1 x.2.2 hx.1 hx.2.1 hx.2.2)
  · intro ds h
    have hp : Tryz.f8.params.toList.length = 3 := by kernel_rfl
    rw [hp] at h
    match ds, h with
    | [d1, d2, d3], _ => rfl

theorem taperEven_holds : Rows.TaperEvenSaid :=
  OpenClaim.holds_of_wide 8 Tryz.f8 rfl rfl rfl rfl rfl rfl rfl ⟨rfl, rfl, rfl, rfl, rfl⟩ rfl rfl rfl rfl rfl (by kernel_rfl) Tryz.func8 (by kernel_rfl)
    (of_decide_eq_true (by kernel_rfl)) (by unfold Func.isWrapper; rw [if_neg (of_decide_eq_false (by kernel_rfl))]; exact ⟨rfl, rfl⟩)
    (fun os started H enc _ => taperEven_lifted os started H enc)

theorem taperEven_card : Rows.TaperEvenCardSaid :=
  Claim7.holds_tied_plain_at .later [] [.data, .data, .data, .data, .pinned] true (true, "88f30bb4a559f747272922c26906717374cefb8f53d5d8bf893a0e2041f8d511") false
    taperEven_holds (fun _ h => by cases h) (by kernel_rfl) (fun _ h => by cases h) taperEven_row_tie rfl ⟨rfl, rfl⟩ (by kernel_rfl) rfl
    (fun f fn hf hfn => by
      obtain rfl : f = 8 := Option.some.inj ((show Tryz.prog.funcNamed Rows.taperEvenRow.func = some 8 by kernel_rfl).symm.trans hf) |>.symm
      obtain rfl : fn = Tryz.f8 := (Option.some.inj (Tryz.func8.symm.trans hfn)).symm
      exact ⟨by kernel_rfl, noStand (by kernel_rfl)⟩)
    (by kernel_rfl)
end Go.Proofs.YtbfappllfpngdaaGreatDoor
