/- The abstract machine: lists of leaves; rounds. -/
import Derived.Test.YtpngggdfbbdfaaaDoorAmZf
set_option linter.all false
namespace Go.Am
open Go

theorem allFit_append (f : AV → Bool) (a b : List AV) : allFit f (a ++ b) = (allFit f a && allFit f b) := by
  induction a with
  | nil => rfl
  | cons x l ih => simp [allFit, ih, Bool.and_assoc]
theorem allFit_one (f : AV → Bool) (a : AV) : allFit f [a] = f a := by simp [allFit]
theorem allFit_nil (f : AV → Bool) : allFit f [] = true := rfl
theorem allFit_encs {p : Pat} (hp : p.plain = true) (l : List p.T) : allFit p.fits (List.map p.enc l) = true := by
  induction l with
  | nil => rfl
  | cons x l ih => simp [allFit, ih, (p.fits_enc x hp).1]
theorem map_decs {p : Pat} (hp : p.plain = true) (l : List p.T) : List.map p.decD (List.map p.enc l) = l := by
  induction l with
  | nil => rfl
  | cons x l ih => simp [ih, (p.fits_enc x hp).2]
theorem nthD_get {α : Type} (g : α → AV) (xs : List α) (k : Nat) (h : k < xs.length) : nthD (xs.map g) k = g xs[k] := by
  unfold nthD
  rw [nth_eq, List.getElem?_map, List.getElem?_eq_getElem h]
  rfl

theorem loopR_next {V X : Type} (rd : V → Option (V ⊕ X)) (n : Nat) (v : V) : loopR rd (n + 1) v = (rd v).bind fun o => Sum.elim (fun v' => loopR rd n v') (fun x => some x) o := rfl

/-- A loop whose rounds keep an invariant and come nearer to the end. -/
theorem loopR_inv {V X : Type} {rd : V → Option (V ⊕ X)} {Inv : V → Prop} {m : V → Nat} {Post : X → Prop}
    (h : ∀ v, Inv v → (∃ v', rd v = some (.inl v') ∧ Inv v' ∧ m v' < m v) ∨ ∃ x, rd v = some (.inr x) ∧ Post x) :
    ∀ (n : Nat) (v : V), Inv v → m v < n → ∃ x, loopR rd n v = some x ∧ Post x
  | 0, _, _, hm => absurd hm (Nat.not_lt_zero _)
  | n + 1, v, hi, hm => by
    rw [loopR_next]
    rcases h v hi with ⟨v', h1, h2, h3⟩ | ⟨x, h1, h2⟩
    · rw [h1]
      exact loopR_inv h n v' h2 (by omega)
    · rw [h1]
      exact ⟨x, rfl, h2⟩

/-- Two loops whose states go together. -/
theorem loopR_pair {V V' X X' : Type} {rd : V → Option (V ⊕ X)} {rd' : V' → Option (V' ⊕ X')} {Inv : V → V' → Prop} {m : V → Nat} {Post : X → X' → Prop}
    (h : ∀ v u, Inv v u → (∃ v' u', rd v = some (.inl v') ∧ rd' u = some (.inl u') ∧ Inv v' u' ∧ m v' < m v) ∨ ∃ x y, rd v = some (.inr x) ∧ rd' u = some (.inr y) ∧ Post x y) :
    ∀ (n : Nat) (v : V) (u : V'), Inv v u → m v < n → ∃ x y, loopR rd n v = some x ∧ loopR rd' n u = some y ∧ Post x y
  | 0, _, _, _, hm => absurd hm (Nat.not_lt_zero _)
  | n + 1, v, u, hi, hm => by
    rw [loopR_next, loopR_next]
    rcases h v u hi with ⟨v', u', h1, h1', h2, h3⟩ | ⟨x, y, h1, h1', h2⟩
    · rw [h1, h1']
      exact loopR_pair h n v' u' h2 (by omega)
    · rw [h1, h1']
      exact ⟨x, y, rfl, rfl, h2⟩
end Go.Am
