/- The abstract machine: the objects that a pattern names. -/
import Derived.Test.YtpngggdfbbdfaaaDoorAmYa
set_option linter.all false
namespace Go.Am
open Go

mutual
/-- Whether the objects that a pattern names have numbers below n. -/
def Pat.under (n : Nat) : Pat → Bool
  | .agg ps => ps.under n
  | .tup ps => ps.under n
  | .own id _ _ => Nat.blt id n
  | .cst v => v.under n
  | _ => true
def Pats.under (n : Nat) : Pats → Bool
  | .nil => true
  | .cons p ps => p.under n && ps.under n
end

mutual
theorem Pat.enc_under {n : Nat} : ∀ (p : Pat) (x : p.T), p.under n = true → (p.enc x).under n = true
  | .int k, x, _ => by simp [Pat.enc, AV.under]
  | .bool, x, _ => by simp [Pat.enc, AV.under]
  | .str, x, _ => by simp [Pat.enc, AV.under]
  | .agg ps, x, h => by
    simp only [Pat.enc, AV.under]
    exact ps.enc_under x h
  | .tup ps, x, h => by
    simp only [Pat.enc, AV.under]
    exact ps.enc_under x h
  | .list sz p, x, _ => by simp [Pat.enc, AV.under]
  | .own id sz p, x, h => by
    simp only [Pat.enc, AV.under]
    exact h
  | .cst v, x, h => by
    simp only [Pat.enc]
    exact h
theorem Pats.enc_under {n : Nat} : ∀ (ps : Pats) (x : ps.T), ps.under n = true → underL n (ps.enc x) = true
  | .nil, x, _ => rfl
  | .cons p .nil, x, h => by
    simp only [Pats.under, Bool.and_true] at h
    simp only [Pats.enc, underL, Bool.and_true]
    exact p.enc_under _ h
  | .cons p (.cons q ps), x, h => by
    rw [Pats.under, Bool.and_eq_true] at h
    simp only [Pats.enc, underL, Bool.and_eq_true]
    exact ⟨p.enc_under _ h.1, (Pats.cons q ps).enc_under _ h.2⟩
end

end Go.Am
