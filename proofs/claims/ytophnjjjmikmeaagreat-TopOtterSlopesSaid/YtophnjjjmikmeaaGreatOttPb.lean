/- Plain laws: words. -/
import Derived.Test.YtophnjjjmikmeaaGreatOttP
set_option linter.all false
namespace Go.Proofs.YtophnjjjmikmeaaGreat
open Go Go.Am
set_option maxRecDepth 100000
theorem Et (x : Int) : aB.fits uQ (AV.int .i64 x) = true := rfl
theorem Eu (x : Int) : d30 (AV.int .i64 x) = x := rfl
def yw (c : Int) : Bool := c == 78 || (c == 66 || c == 84)
def ss (b : UInt8) : Bool := yw (b.toNat : Int)
theorem Qv (N : Nat) (c : Int) : Rb N c = some (yw c) := by
  rw [MA]; unfold yw; cases c == 78 <;> cases c == 66 <;> rfl
theorem Qw (N : Nat) (c : Int) : Rq N c = some (yw c) := by
  rw [Nk]; unfold yw; cases c == 78 <;> cases c == 66 <;> rfl
def cN (w : List UInt8) : Int := if w = [] then 12 else if w.length > 64 then 26 else if w.all ss then 0 else 1
theorem kW {w : List UInt8} (h : cN w = 0) : w ≠ [] ∧ w.length ≤ 64 ∧ w.all ss = true := by
  unfold cN at h
  split at h
  · cases h
  · split at h
    · cases h
    · split at h
      · rename_i h1 h2 h3; exact ⟨h1, by omega, h3⟩
      · cases h
theorem Ev {α : Type} (p : α → Bool) (l : List α) : foldI (fun (_ : Unit) a => if p a then (.inl () : Unit ⊕ Unit) else .inr ()) () l = if l.all p then .inl () else .inr () := by
  induction l with
  | nil => rfl
  | cons a l ih =>
    simp only [foldI, List.all_cons]
    by_cases h : p a = true
    · simp [h, ih]
    · simp [h, Bool.cond_eq_ite]
theorem Hb {N : Nat} (hN : kp N) (w : List UInt8) : Rr N w = some (cN w) := by
  rw [Nn]
  unfold cN
  by_cases h0 : w = []
  · simp [h0]
  · have Qx : (w == ([] : List UInt8)) = false := by simpa using h0
    by_cases h1 : w.length > 64
    · have : (w.length : Int) > 64 := by omega
      simp [h0, Qx, h1, this]
    · have jn : ¬ (w.length : Int) > 64 := by omega
      simp only [Qx, jn, h0, h1, decide_false, cond_false, if_false]
      have key := jg (rd := pA N w) w (fun (_ : Unit) k => (k : Int)) (fun _ (c : UInt8) => if ss c then (.inl () : Unit ⊕ Unit) else .inr ()) (fun _ => .inr ()) (fun _ => .inl 1) (fun _ _ => True)
        (fun _ k hk _ => by
          refine ⟨?_, fun _ _ => trivial⟩
          have e1 : w.getD k 0 = w[k] := by simp [hk]
          simp only [pA, Int.toNat_natCast, fh hk, dP hk, cond_true, e1, Qw, Option.bind_some, jh (by omega : k < 9223372036854775807)]
          change (bif !ss w[k] then _ else _) = _
          cases ss w[k] <;> rfl)
        (fun _ _ => by simp only [pA, fX, cond_false]) N () 0 (Nat.zero_le _) (by unfold kp at hN; omega) trivial
      have Cf : bQ (V := Int) (X := Int ⊕ Unit) (pA N w) N 0 = _ := key
      rw [Cf, List.drop_zero, Ev]
      cases w.all ss <;> rfl
theorem wO {c : Int} (h : 128 ≤ c) : yw c = false := by
  unfold yw
  have h1 : (c == 78) = false := by simp; omega
  have h2 : (c == 66) = false := by simp; omega
  have h3 : (c == 84) = false := by simp; omega
  rw [h1, h2, h3]; rfl
theorem rJ (w : List UInt8) (k : Nat) (hk : k < w.length) : yw ((aZ w k).1 : Int) = ss w[k] ∧ (ss w[k] = true → aZ w k = (w[k].toNat, 1)) := by
  obtain ⟨h1, h2⟩ := IL w k hk
  by_cases h : w[k].toNat < 128
  · rw [h1 h]; exact ⟨rfl, fun _ => rfl⟩
  · have e1 := wO (c := ((aZ w k).1 : Int)) (by have := h2 (by omega); omega)
    have e2 : ss w[k] = false := wO (c := (w[k].toNat : Int)) (by omega)
    rw [e1, e2]
    exact ⟨rfl, fun h => by cases h⟩
theorem uX {a b : Nat} (h : a < b) : Nat.blt a b = true := Nat.ble_eq_true_of_le h
theorem qz {a b : Nat} (h : ¬ a < b) : Nat.blt a b = false := by
  cases hb : Nat.blt a b with
  | false => rfl
  | true => exact absurd (Nat.le_of_ble_eq_true hb) h
theorem Ai {N : Nat} (hN : kp N) (w : List UInt8) : P4 N w = some (cN w) := by
  rw [MB]
  simp only [kr, Option.bind_some, allFit, Et, Eu, List.map_cons, List.map_nil, Bool.and_self, cond_true, qy hN _ (show [_, _].length ≤ 9223372036854775806 by simp), aP]
  unfold cN
  by_cases h0 : w = []
  · simp [h0]
  · have Qx : (w == ([] : List UInt8)) = false := by simpa using h0
    by_cases h1 : w.length > 64
    · have : (w.length : Int) > 64 := by omega
      simp [h0, Qx, h1, this]
    · have jn : ¬ (w.length : Int) > 64 := by omega
      simp only [Qx, jn, h0, h1, decide_false, cond_false, if_false, Bool.false_eq_true, if_true, bne_self_eq_false]
      have gen : ∀ n k, k ≤ w.length → w.length < n + k → ∃ o, bQ (uT N) n (w, (k : Int)) = some o ∧ Sum.elim (fun _ => (0 : Int)) (fun o => o.1) o = if (w.drop k).all ss then 0 else 1 := by
        intro n
        induction n with
        | zero => intro k h1 h2; omega
        | succ n ih =>
          intro k hk hn
          rw [je]
          by_cases bR : k < w.length
          · obtain ⟨r1, r2⟩ := rJ w k bR
            simp only [uT, Int.toNat_natCast, uX bR, cond_true, Qv, Option.bind_some, r1, List.drop_eq_getElem_cons bR, List.all_cons]
            cases hl : ss w[k] with
            | true =>
              rw [r2 hl]
              simp only [Bool.not_true, cond_false, Option.bind_some, Sum.elim_inl, Bool.true_and]
              exact ih (k + 1) (by omega) (by omega)
            | false => exact ⟨_, rfl, by simp⟩
          · have : k = w.length := by omega
            subst this
            simp only [uT, Int.toNat_natCast, qz (Nat.lt_irrefl _), cond_false, Option.bind_some, Sum.elim_inr]
            exact ⟨_, rfl, by simp⟩
      obtain ⟨o, h2, h3⟩ := gen N 0 (Nat.zero_le _) (by unfold kp at hN; omega)
      have Pm : bQ (V := (List UInt8) × Int) (X := ((List UInt8) × Int) ⊕ (Int × (List UInt8) × Int)) (uT N) N (w, ((0 : Nat) : Int)) = some o := h2
      rw [Pm, Option.bind_some]
      rw [List.drop_zero] at h3
      rcases o with o | o
      · simpa using h3
      · simpa using h3
theorem Hc {n lo hi : Int} (h : pt n lo hi = 0) : lo ≤ n ∧ n ≤ hi := by
  unfold pt at h
  split at h
  · cases h
  · omega
section
variable {N : Nat} (hN : kp N) (a : List UInt8) (m : Int) (b : List UInt8) (n : Int)
include hN
end
end Go.Proofs.YtophnjjjmikmeaaGreat
