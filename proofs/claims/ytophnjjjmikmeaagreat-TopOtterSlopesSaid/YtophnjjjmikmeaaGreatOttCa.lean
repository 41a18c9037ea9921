/- The chapter's examples, call by call: bars and counts. -/
import Derived.Test.YtophnjjjmikmeaaGreatOttL
set_option linter.all false
namespace Go.Proofs.YtophnjjjmikmeaaGreat
open Go Go.Am
set_option maxRecDepth 1000000
noncomputable def Ty : fF := { D := Js, F9 := B7 Mj, zX := fun _ _ => none, fz := true, N := 0 }
def rI {α β : Type} [DecidableEq α] : List (α × β) → α → Option β
  | [], _ => none
  | (a, b) :: l, x => bif decide (x = a) then some b else rI l x
theorem mr {α β : Type} [DecidableEq α] {a x : α} {b y : β} (h : rI [(a, b)] x = some y) : x = a ∧ y = b := by
  unfold rI at h
  cases hd : decide (x = a) with
  | true => rw [hd] at h; exact ⟨of_decide_eq_true hd, (Option.some.inj h).symm⟩
  | false => rw [hd] at h; cases h
def Vb : (Int × Int) × (List UInt8) × Int × Bool := ((0, 0), [78, 66, 66], 2, true)
def Rs : (List (Int × Int × Int)) × Int := ([(0, 2, 1), (1, 3, 1), (2, 6, 1), (3, 7, 1)], 0)
def Qn (y : (List (Int × Int × Int)) × Int) : Bool := decide (y = Rs)
theorem Jv {y : (List (Int × Int × Int)) × Int} (h : Qn y = true) : y = Rs := of_decide_eq_true h
theorem WS : bK env 8 (aF.enc (.cons (.agg (.cons (.int .i64) (.cons (.int .i64) .nil))) (.cons .str (.cons (.int .i64) (.cons .bool .nil)))) Vb) (fun r => r = aB.enc (.bC (.cons (.list 3 (.agg (.cons (.int .i64) (.cons (.int .i64) (.cons (.int .i64) .nil))))) (.cons (.int .i64) .nil))) Rs) :=
  bK.mono (gP (C := Ty) (n := 100000) (p := (.bC (.cons (.list 3 (.agg (.cons (.int .i64) (.cons (.int .i64) (.cons (.int .i64) .nil))))) (.cons (.int .i64) .nil)))) (ok := Qn) (bt yl) (by kernel_rfl) (by kernel_rfl) (by kernel_rfl)) fun r ⟨y, h1, h2⟩ => by rw [h1, Jv h2]
def E8 : a8 := ⟨(.cons (.agg (.cons (.int .i64) (.cons (.int .i64) .nil))) (.cons .str (.cons (.int .i64) (.cons .bool .nil)))), (.bC (.cons (.list 3 (.agg (.cons (.int .i64) (.cons (.int .i64) (.cons (.int .i64) .nil))))) (.cons (.int .i64) .nil))), rI (α := (Int × Int) × (List UInt8) × Int × Bool) (β := (List (Int × Int × Int)) × Int) [(Vb, Rs)]⟩
theorem Qo : au env 8 E8 := fun x y h => by
  obtain ⟨e1, e2⟩ := mr (α := (Int × Int) × (List UInt8) × Int × Bool) (β := (List (Int × Int × Int)) × Int) h
  subst e1; subst e2
  exact WS
def Qp : List (Int × Int × Int) := [(0, 2, 1), (1, 3, 1), (2, 6, 1), (3, 7, 1)]
def Jw : (Int × Int × Int × Int × Int) × Int := ((6, 4, 0, 2, 0), 0)
def Kw (y : (Int × Int × Int × Int × Int) × Int) : Bool := decide (y = Jw)
theorem G8 {y : (Int × Int × Int × Int × Int) × Int} (h : Kw y = true) : y = Jw := of_decide_eq_true h
theorem Tz : bK env 11 (aF.enc (.cons (.list 3 (.agg (.cons (.int .i64) (.cons (.int .i64) (.cons (.int .i64) .nil))))) .nil) Qp) (fun r => r = aB.enc (.bC (.cons (.agg (.cons (.int .i64) (.cons (.int .i64) (.cons (.int .i64) (.cons (.int .i64) (.cons (.int .i64) .nil)))))) (.cons (.int .i64) .nil))) Jw) :=
  bK.mono (gP (C := Ty) (n := 100000) (p := (.bC (.cons (.agg (.cons (.int .i64) (.cons (.int .i64) (.cons (.int .i64) (.cons (.int .i64) (.cons (.int .i64) .nil)))))) (.cons (.int .i64) .nil)))) (ok := Kw) (bt yl) (by kernel_rfl) (by kernel_rfl) (by kernel_rfl)) fun r ⟨y, h1, h2⟩ => by rw [h1, G8 h2]
def Vc : a8 := ⟨(.cons (.list 3 (.agg (.cons (.int .i64) (.cons (.int .i64) (.cons (.int .i64) .nil))))) .nil), (.bC (.cons (.agg (.cons (.int .i64) (.cons (.int .i64) (.cons (.int .i64) (.cons (.int .i64) (.cons (.int .i64) .nil)))))) (.cons (.int .i64) .nil))), rI (α := List (Int × Int × Int)) (β := (Int × Int × Int × Int × Int) × Int) [(Qp, Jw)]⟩
theorem No : au env 11 Vc := fun x y h => by
  obtain ⟨e1, e2⟩ := mr (α := List (Int × Int × Int)) (β := (Int × Int × Int × Int × Int) × Int) h
  subst e1; subst e2
  exact Tz
end Go.Proofs.YtophnjjjmikmeaaGreat
