/- The chapter's examples, call by call: a bar of the sheet. -/
import Derived.Test.YtophnjjjmikmeaaGreatOttCb
import Derived.Test.YtophnjjjmikmeaaGreatOttPk
set_option linter.all false
namespace Go.Proofs.YtophnjjjmikmeaaGreat
open Go Go.Am
set_option maxRecDepth 1000000
def Oz : Int := 0
theorem JO (N : Nat) (l : List (Int × Int × Int)) (h : Rv N l = some Oz) : bK env 33 (aF.enc (.cons (.list 3 (.agg (.cons (.int .i64) (.cons (.int .i64) (.cons (.int .i64) .nil))))) .nil) l) (fun r => r = aB.enc (.int .i64) Oz) :=
  bK.env (E := cr) rfl rfl (NA N l Oz h)
theorem Qz : Ck yt.1 = Oz := by kernel_rfl
theorem TE : bK env 33 (aF.enc (.cons (.list 3 (.agg (.cons (.int .i64) (.cons (.int .i64) (.cons (.int .i64) .nil))))) .nil) yt.1) (fun r => r = aB.enc (.int .i64) Oz) :=
  JO 18446744073709551616 yt.1 (by rw [JN (Nat.le_refl _), Qz])
def Vj : a8 := ⟨(.cons (.list 3 (.agg (.cons (.int .i64) (.cons (.int .i64) (.cons (.int .i64) .nil))))) .nil), .int .i64, rI (α := List (Int × Int × Int)) (β := Int) [(yt.1, Oz)]⟩
theorem NN : au env 33 Vj := fun x y h => by
  obtain ⟨e1, e2⟩ := mr (α := List (Int × Int × Int)) (β := Int) h
  subst e1; subst e2
  exact TE
noncomputable def NO : List (Nat × a8) := [(33, Vj)]
theorem JP : ∀ a e, (a, e) ∈ NO → au env a e := fun a e h => by
  simp only [NO, List.mem_cons, Prod.mk.injEq, List.not_mem_nil, or_false] at h
  obtain ⟨rfl, rfl⟩ := h
  exact NN
noncomputable def W4 : fF := { D := Js, F9 := B7 NO, zX := fun _ _ => none, fz := true, N := 0 }
def QA : (List (Int × Int × Int)) × Int × Int × Int := (yt.1, (1, 3, 1))
def JQ : Bool × Int := (true, 0)
def Kz (y : Bool × Int) : Bool := decide (y = JQ)
theorem Ht {y : Bool × Int} (h : Kz y = true) : y = JQ := of_decide_eq_true h
theorem TF : bK env 22 (aF.enc (.cons (.list 3 (.agg (.cons (.int .i64) (.cons (.int .i64) (.cons (.int .i64) .nil))))) (.cons (.agg (.cons (.int .i64) (.cons (.int .i64) (.cons (.int .i64) .nil)))) .nil)) QA) (fun r => r = aB.enc (.bC (.cons .bool (.cons (.int .i64) .nil))) JQ) :=
  bK.mono (gP (C := W4) (n := 100000) (p := (.bC (.cons .bool (.cons (.int .i64) .nil)))) (ok := Kz) (bt JP) (by kernel_rfl) (by kernel_rfl) (by kernel_rfl)) fun r ⟨y, h1, h2⟩ => by rw [h1, Ht h2]
def Vk : a8 := ⟨(.cons (.list 3 (.agg (.cons (.int .i64) (.cons (.int .i64) (.cons (.int .i64) .nil))))) (.cons (.agg (.cons (.int .i64) (.cons (.int .i64) (.cons (.int .i64) .nil)))) .nil)), (.bC (.cons .bool (.cons (.int .i64) .nil))), rI (α := (List (Int × Int × Int)) × Int × Int × Int) (β := Bool × Int) [(QA, JQ)]⟩
theorem NP : au env 22 Vk := fun x y h => by
  obtain ⟨e1, e2⟩ := mr (α := (List (Int × Int × Int)) × Int × Int × Int) (β := Bool × Int) h
  subst e1; subst e2
  exact TF
end Go.Proofs.YtophnjjjmikmeaaGreat
