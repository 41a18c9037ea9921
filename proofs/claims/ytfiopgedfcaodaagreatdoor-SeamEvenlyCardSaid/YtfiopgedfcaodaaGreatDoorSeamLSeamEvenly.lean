/- the even join joins, its runs are even, and so are runs that begin elsewhere in the ring (the listed variables as the program and its library lay them). -/
import Derived.Test.YtfiopgedfcaodaaGreatDoorSeamF
import Derived.Test.YtfiopgedfcaodaaGreatDoorSeamQb
set_option linter.all false
namespace Go.Proofs.YtfiopgedfcaodaaGreatDoor
open Go Go.Am Go.ChangeShapes Go.WideShapes Go.RowKit
set_option maxRecDepth 100000

theorem seamEvenly_calls {F : Int × Int × (List (Int)) → Option Bool} (hF : EntryOk envS 8 ⟨(.cons (.int .u8) (.cons (.int .u8) (.cons (.list 1 (.int .i64)) .nil))), .bool, F⟩) (x : Int × Int × (List (Int))) (h : F x = some true) : PCalls envS 8 (Pats.enc (.cons (.int .u8) (.cons (.int .u8) (.cons (.list 1 (.int .i64)) .nil))) x) (fun r => r = .bool true) := hF x true h
theorem seamEvenly_entry {N : Nat} (x : Int × Int × (List (Int))) (h : T8 N x = some true) : PCalls envS 8 (Pats.enc (.cons (.int .u8) (.cons (.int .u8) (.cons (.list 1 (.int .i64)) .nil))) x) (fun r => r = .bool true) :=
  seamEvenly_calls (F := T8 N) (T8_ok N) x h

theorem seamEvenly_lifted (os : Os) (started : os.Started) (H : Type) (enc : TypeId × Value → H) :
    ReturnsInHanded {} Tryz.checked os 8 .any (fun w args => (Rows.seamEvenlySpec.pre enc Tryz.prog Tryz.f8 [] false w args ∧ laidMetH Tryz.prog laidL w) ∧ sizedMet enc Tryz.prog Tryz.f8 (OpenSpec.ofChange Rows.seamEvenlySpec) false w args)
      (Rows.seamEvenlySpec.post enc Tryz.prog Tryz.f8 false true false false) := by
  refine returnsInHanded_of_change_and (C := Tryz.checked) (X := fun w _ => laidMetH Tryz.prog laidL w) (fun _ _ _ hh h => h.of_heap hh) own started (by kernel_rfl) Tryz.func8
    (ChangeSpec.witness_at (enc := enc) (C := Tryz.checked) (os := os) (X := fun w _ => laidMetH Tryz.prog laidL w) false (laidWorld os) #[.int .u8 0, .int .u8 0, .slice none 0 0] 8 rfl (by kernel_rfl) (by kernel_rfl) (by kernel_rfl) (by kernel_rfl) (by kernel_rfl) (laidWorld_met os _)) ?_
  intro W base args ds gs before hval0 hW _ _ hL _
  have hval : ∀ (j : Nat) t v, Tryz.f8.params[j]? = some t → args[j]? = some v → Value.okWide Tryz.prog W .any base t v := hval0
  refine law_calls (E := envS) (f := 8) (fn := Tryz.f8) (n := 8) (tb := 4) (ps := [.int .u8, .int .u8, .list 1 (.int .i64)]) ?_ (by kernel_rfl) hval hW (glob_of_laid hL) rfl ?_ (by kernel_rfl) under4 laidOut (readable (by kernel_rfl))
  · intro x hx
    exact seamEvenly_entry (N := 18446744073709551616) x (T8_true (Nat.le_refl _) x.1 x.2.1 (u8b hx.1) (u8b hx.2.1) x.2.2)
  · intro ds h
    have hp : Tryz.f8.params.toList.length = 3 := by kernel_rfl
    rw [hp] at h
    match ds, h with
    | [d1, d2, d3], _ => rfl

theorem seamEvenly_j1 : (Rows.seamEvenlyRow.inPlace == Tryz.prog.inPlace 8) = true := by kernel_rfl
theorem seamEvenly_j2 : (Rows.seamEvenlyRow.unfollowed == Tryz.prog.unfollowed 8) = true := by kernel_rfl
theorem seamEvenly_j3 : (Rows.seamEvenlyRow.recurses == Tryz.prog.recurses 8) = true := by kernel_rfl
theorem seamEvenly_j4 : (Rows.seamEvenlyRow.named == Tryz.prog.varsNamed 8) = true := by kernel_rfl
theorem seamEvenly_j5 : (Rows.seamEvenlyRow.lifted == Tryz.prog.liftsFinal) = true := Eq.trans (show (Rows.seamEvenlyRow.lifted == Tryz.prog.liftsFinal) = (Rows.seamJoinsRow.lifted == Tryz.prog.liftsFinal) from rfl) jLifts
theorem seamEvenly_j6 : (Rows.seamEvenlyRow.plainKeys == Tryz.prog.plainKeys) = true := Eq.trans (show (Rows.seamEvenlyRow.plainKeys == Tryz.prog.plainKeys) = (Rows.seamJoinsRow.plainKeys == Tryz.prog.plainKeys) from rfl) jPlain
theorem seamEvenly_facts : joinedFacts Tryz.prog 8 Tryz.f8 Rows.seamEvenlySpec Rows.seamEvenlyRow = true := by
  unfold joinedFacts
  rw [seamEvenly_j1, seamEvenly_j2, seamEvenly_j3, seamEvenly_j4, seamEvenly_j5, seamEvenly_j6, jMaps, jHeard, jEnter, jStops, jKnobs, laidOut]
  kernel_rfl

theorem seamEvenly_holds : Rows.SeamEvenlySaid :=
  OpenClaim.holds_of_wide 8 Tryz.f8 rfl rfl rfl rfl rfl rfl rfl ⟨rfl, rfl, rfl, rfl, rfl⟩ rfl rfl rfl rfl rfl (by kernel_rfl) Tryz.func8 seamEvenly_facts
    (of_decide_eq_true (by kernel_rfl)) (by unfold Func.isWrapper; rw [if_neg (of_decide_eq_false (by kernel_rfl))]; exact ⟨rfl, rfl⟩)
    (fun os started H enc _ => seamEvenly_lifted os started H enc)

theorem seamEvenly_card : Rows.SeamEvenlyCardSaid :=
  Claim7.holds_tied_plain_at .later [] [.data, .data, .data, .widerDeep] true (true, "22d1f53af195ce4a65371a8e296f4f56373d419fbce4718ff79501aa217ed00d") false
    seamEvenly_holds (fun _ h => by cases h) (by kernel_rfl) (fun _ h => by cases h) seamEvenly_row_tie rfl ⟨rfl, rfl⟩ (by kernel_rfl) rfl
    (fun f fn hf hfn => by
      obtain rfl : f = 8 := Option.some.inj ((show Tryz.prog.funcNamed Rows.seamEvenlyRow.func = some 8 by kernel_rfl).symm.trans hf) |>.symm
      obtain rfl : fn = Tryz.f8 := (Option.some.inj (Tryz.func8.symm.trans hfn)).symm
      exact ⟨by kernel_rfl, noStand (by kernel_rfl)⟩)
    (by kernel_rfl)
end Go.Proofs.YtfiopgedfcaodaaGreatDoor
