/- For every ratio and every square: HangChecks returns true and leaves its input as it was (the variable tens as the program lays it). -/
import Derived.Test.YtpngggdfbbdfaaaDoorHangP
import Derived.Test.YtpngggdfbbdfaaaDoorAmZf
import Derived.Test.YtpngggdfbbdfaaaDoorRows
import Derived.Test.YtpngggdfbbdfaaaDoorCards
import Derived.Test.YtpngggdfbbdfaaaDoorTie
import Derived.ChangeSame
import Derived.ChangeVars
import Derived.JoinedOf
import Derived.RowKit
import Derived.RowKitTokens
import Derived.LaidLaws
import Derived.LaidHandle
import Derived.Stop.Joined
import Derived.SevenTiedAt
set_option linter.all false
namespace Go.Proofs.YtpngggdfbbdfaaaDoor
open Go Go.Am Go.ChangeShapes Go.WideShapes Go.RowKit
set_option maxRecDepth 100000

theorem own : ownKnob Tryd.prog.godebug = none := by kernel_rfl
theorem laidOut : laidOutB Tryd.prog = true := by kernel_rfl
theorem under4 : Tryd.prog.underlying 4 = some .bool := by kernel_rfl

abbrev laidL : List (String × DataW Unit) := Rows.hangChecksRow.laid

/-- A world whose variable holds its numbers. -/
noncomputable def laidWorld (os : Os) : World :=
  let w0 := World.holding Tryd.prog os ⟨#[], #[], []⟩
  { w0 with heap := w0.heap.modify 0 fun
      | .cells _ t frozen => .cells #[.int .i64 1, .int .i64 10, .int .i64 100] t frozen
      | o => o }
theorem laidWorld_met (os : Os) (args : Array Value) : laidMetH Tryd.prog laidL ((laidWorld os).forCall (fun _ _ => 0) ⟨#[], args, []⟩).memory :=
  laidMetH_of_parts (laidMet_of_run (ps := MemPlace.row ⟨0, 0, none⟩ 3) 8 (by kernel_rfl) (by kernel_rfl) (by kernel_rfl)) (by kernel_rfl)

theorem glob_of_laid {W : World} (h : laidMetH Tryd.prog laidL W) (g : Nat) (cs : List AV) (hg : envS.glob g = some cs) : RelC (allR W) W g 0 cs := by
  obtain ⟨ps, h1, _⟩ : laidMet Tryd.prog laidL W := h
  have hg' : globF g = some cs := hg
  have h0 : g = 0 ∧ cs = [.int .i64 1, .int .i64 10, .int .i64 100] := by
    cases g with
    | zero =>
      refine ⟨rfl, ?_⟩
      have : globF 0 = some [.int .i64 1, .int .i64 10, .int .i64 100] := by kernel_rfl
      exact Option.some.inj (hg'.symm.trans this)
    | succ g => cases hg'
  obtain ⟨rfl, rfl⟩ := h0
  exact laid_ints (P := Tryd.prog) (xs := [1, 10, 100]) (k := .i64) (e := 3) (t := 136) h1 (by kernel_rfl) (by kernel_rfl) (by kernel_rfl) (by kernel_rfl) (by kernel_rfl) (by kernel_rfl) (by decide)

theorem checks_lifted (os : Os) (started : os.Started) (H : Type) (enc : TypeId × Value → H) :
    ReturnsInHanded {} Tryd.checked os 3 .any (fun w args => (Rows.hangChecksSpec.pre enc Tryd.prog Tryd.f3 [] false w args ∧ laidMetH Tryd.prog laidL w) ∧ sizedMet enc Tryd.prog Tryd.f3 (OpenSpec.ofChange Rows.hangChecksSpec) false w args)
      (Rows.hangChecksSpec.post enc Tryd.prog Tryd.f3 false true false false) := by
  refine returnsInHanded_of_change_and (C := Tryd.checked) (X := fun w _ => laidMetH Tryd.prog laidL w) (fun _ _ _ hh h => h.of_heap hh) own started (by kernel_rfl) Tryd.func3
    (ChangeSpec.witness_at (enc := enc) (C := Tryd.checked) (os := os) (X := fun w _ => laidMetH Tryd.prog laidL w) false (laidWorld os) #[.agg #[.int .i64 0, .int .i64 0], .agg #[.int .i64 0, .int .i64 0]] 8 rfl (by kernel_rfl) (by kernel_rfl) (by kernel_rfl) (by kernel_rfl) (by kernel_rfl) (laidWorld_met os _)) ?_
  intro W base args ds gs before hval0 hW _ _ hL _
  have hval : ∀ (j : Nat) t v, Tryd.f3.params[j]? = some t → args[j]? = some v → Value.okWide Tryd.prog W .any base t v := hval0
  refine law_calls (E := envS) (f := 3) (fn := Tryd.f3) (n := 8) (tb := 4) (ps := [.agg (.cons (.int .i64) (.cons (.int .i64) .nil)), .agg (.cons (.int .i64) (.cons (.int .i64) .nil))]) ?_ (by kernel_rfl) hval hW (glob_of_laid hL) rfl ?_ (by kernel_rfl) under4 laidOut ?_
  · intro x _
    exact T3_ok 18446744073709551616 x true (T3_true (Nat.le_refl _) x.1 x.2)
  · intro ds h
    have hp : Tryd.f3.params.toList.length = 2 := by kernel_rfl
    rw [hp] at h
    match ds, h with
    | [d1, d2], _ => rfl
  · have : Tryd.f3.params.toList.all (fun t => Tryd.prog.readableRec t && Nat.blt t Tryd.prog.types.size) = true := by kernel_rfl
    intro t ht
    have := List.all_eq_true.1 this t ht
    rw [Bool.and_eq_true] at this
    exact ⟨this.1, Nat.le_of_ble_eq_true this.2⟩

theorem hangChecks_holds : Rows.HangChecksSaid :=
  OpenClaim.holds_of_wide 3 Tryd.f3 rfl rfl rfl rfl rfl rfl rfl ⟨rfl, rfl, rfl, rfl, rfl⟩ rfl rfl rfl rfl rfl (by kernel_rfl) Tryd.func3 (by kernel_rfl)
    (of_decide_eq_true (by kernel_rfl)) (by unfold Func.isWrapper; rw [if_neg (of_decide_eq_false (by kernel_rfl))]; exact ⟨rfl, rfl⟩)
    (fun os started H enc _ => checks_lifted os started H enc)

theorem noStand {fn : Func} (h : (fn.params.toList.all fun t => !(Tryd.prog.wantsStandIn t)) = true) (j : Nat) (t : TypeId) (ht : fn.params[j]? = some t) : Tryd.prog.wantsStandIn t = false := by
  have := List.all_eq_true.1 h t (Array.mem_toList_iff.2 (Array.mem_of_getElem? ht))
  simpa using this

theorem hangChecks_card : Rows.HangChecksCardSaid :=
  Claim7.holds_tied_plain_at .later [] [.data] true (true, "bb9c8a1f3b87a99a73053614bf73ec5a74d01f458fba8a9eee33de806b476934") false
    hangChecks_holds (fun _ h => by cases h) (by kernel_rfl) (fun _ h => by cases h) hangChecks_row_tie rfl ⟨rfl, rfl⟩ (by kernel_rfl) rfl
    (fun f fn hf hfn => by
      obtain rfl : f = 3 := Option.some.inj ((show Tryd.prog.funcNamed Rows.hangChecksRow.func = some 3 by kernel_rfl).symm.trans hf) |>.symm
      obtain rfl : fn = Tryd.f3 := (Option.some.inj (Tryd.func3.symm.trans hfn)).symm
      exact ⟨by kernel_rfl, noStand (by kernel_rfl)⟩)
    (by kernel_rfl)
end Go.Proofs.YtpngggdfbbdfaaaDoor
