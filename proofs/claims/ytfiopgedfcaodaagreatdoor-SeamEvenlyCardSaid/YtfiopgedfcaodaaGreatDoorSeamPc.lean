/- Plain laws: what is sewn, its classes, degrees and counts. -/
import Derived.Test.YtfiopgedfcaodaaGreatDoorSeamTc
import Derived.Test.YtfiopgedfcaodaaGreatDoorSeamPs
import Derived.Test.YtfiopgedfcaodaaGreatDoorSeamPv
import Derived.Test.YtfiopgedfcaodaaGreatDoorAmKK
set_option linter.all false
namespace Go.Proofs.YtfiopgedfcaodaaGreatDoor
open Go Go.Am
set_option maxRecDepth 100000

abbrev P3 := Int × Int × Int
/-- The first place where something holds. -/
theorem find_gen {V X : Type} {rd : V → Option (V ⊕ X)} (m : Nat) (E : Nat → V) (b : Nat → Bool) (y : Nat → X) (x : X)
    (h : ∀ k, k < m → rd (E k) = some (if b k then .inr (y k) else .inl (E (k + 1)))) (h0 : rd (E m) = some (.inr x)) (n : Nat) (hn : m < n) :
    loopR rd n (E 0) = some (match (List.range m).find? b with | some j => y j | none => x) := by
  have key := loopR_fold (rd := rd) (S := Unit) (Y := Nat) (List.range m) (fun _ k => E k) (fun _ i => if b i then .inr i else .inl ()) (fun _ => x) y (fun _ _ => True)
    (fun s k hk _ => by
      have hk : k < m := by simpa using hk
      refine ⟨?_, fun _ _ => trivial⟩
      rw [List.getElem_range, h k hk]
      cases b k <;> rfl) (fun _ _ => by rw [List.length_range]; exact h0) n () 0 (Nat.zero_le _) (by simpa using hn) trivial
  rw [List.drop_zero] at key
  refine key.trans (congrArg some ?_)
  clear key h h0 hn
  generalize List.range m = l
  induction l with
  | nil => rfl
  | cons a l ih =>
    simp only [foldI, List.find?_cons]
    cases b a with
    | true => rfl
    | false => simp only [Bool.false_eq_true, if_false, Sum.elim_inl]; exact ih
/-! ### The error of what is sewn -/
section
variable {N : Nat} (hN : Big N) (C : List (List P3)) (B : List (Int × Int)) (hC : C.length ≤ 10000) (hB : B.length ≤ 10000) (hc : ∀ c ∈ C, c.length ≤ 10000)
include hN hC hB hc
/-! ### The same by the reference -/
end
end Go.Proofs.YtfiopgedfcaodaaGreatDoor
