/- The laws' frame: the listed variable, the world of the witness. -/
import Derived.Test.YtpngggdfbbdfaaaDoorHangT
import Derived.Test.YtpngggdfbbdfaaaDoorAmKH
import Derived.Test.YtpngggdfbbdfaaaDoorRows
import Derived.Test.YtpngggdfbbdfaaaDoorCards
import Derived.Test.YtpngggdfbbdfaaaDoorTie
import Derived.ChangeSame
import Derived.ChangeVars
import Derived.JoinedOf
import Derived.RowKit
import Derived.RowKitTokens
import Derived.LaidLaws
import Derived.LaidHandle
import Derived.Stop.Joined
import Derived.SevenTiedAt
set_option linter.all false
namespace Go.Proofs.YtpngggdfbbdfaaaDoor
open Go Go.Am Go.ChangeShapes Go.WideShapes Go.RowKit
set_option maxRecDepth 100000

theorem own : ownKnob Tryd.prog.godebug = none := by kernel_rfl
theorem laidOut : laidOutB Tryd.prog = true := by kernel_rfl
theorem under4 : Tryd.prog.underlying 4 = some .bool := by kernel_rfl

abbrev laidL : List (String × DataW Unit) := Rows.hangChecksRow.laid

/-- A world whose variable holds its numbers. -/
noncomputable def laidWorld (os : Os) : World :=
  let w0 := World.holding Tryd.prog os ⟨#[], #[], []⟩
  { w0 with heap := w0.heap.modify 0 fun
      | .cells _ t frozen => .cells #[.int .i64 1, .int .i64 10, .int .i64 100] t frozen
      | o => o }
theorem laidWorld_met (os : Os) (args : Array Value) : laidMetH Tryd.prog laidL ((laidWorld os).forCall (fun _ _ => 0) ⟨#[], args, []⟩).memory :=
  laidMetH_of_parts (laidMet_of_run (ps := MemPlace.row ⟨0, 0, none⟩ 3) 8 (by kernel_rfl) (by kernel_rfl) (by kernel_rfl)) (by kernel_rfl)

theorem glob_of_laid {W : World} (h : laidMetH Tryd.prog laidL W) (g : Nat) (cs : List AV) (hg : envS.glob g = some cs) : RelC (allR W) W g 0 cs := by
  obtain ⟨ps, h1, _⟩ : laidMet Tryd.prog laidL W := h
  have hg' : globF g = some cs := hg
  have h0 : g = 0 ∧ cs = [.int .i64 1, .int .i64 10, .int .i64 100] := by
    cases g with
    | zero =>
      refine ⟨rfl, ?_⟩
      have : globF 0 = some [.int .i64 1, .int .i64 10, .int .i64 100] := by kernel_rfl
      exact Option.some.inj (hg'.symm.trans this)
    | succ g => cases hg'
  obtain ⟨rfl, rfl⟩ := h0
  exact laid_ints (P := Tryd.prog) (xs := [1, 10, 100]) (k := .i64) (e := 3) (t := 136) h1 (by kernel_rfl) (by kernel_rfl) (by kernel_rfl) (by kernel_rfl) (by kernel_rfl) (by kernel_rfl) (by decide)

theorem noStand {fn : Func} (h : (fn.params.toList.all fun t => !(Tryd.prog.wantsStandIn t)) = true) (j : Nat) (t : TypeId) (ht : fn.params[j]? = some t) : Tryd.prog.wantsStandIn t = false := by
  have := List.all_eq_true.1 h t (Array.mem_toList_iff.2 (Array.mem_of_getElem? ht))
  simpa using this

theorem readable {fn : Func} (h : (fn.params.toList.all fun t => Tryd.prog.readableRec t && Nat.blt t Tryd.prog.types.size) = true) : ∀ t ∈ fn.params.toList, Tryd.prog.readableRec t = true ∧ t < Tryd.prog.types.size := fun t ht => by
  have := List.all_eq_true.1 h t ht
  rw [Bool.and_eq_true] at this
  exact ⟨this.1, Nat.le_of_ble_eq_true this.2⟩
end Go.Proofs.YtpngggdfbbdfaaaDoor
