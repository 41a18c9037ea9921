/- Plain laws: what is nearest; TaperFarey. -/
import Derived.Test.YtbfappllfpngdaaGreatDoorTapPs
set_option linter.all false
namespace Go.Proofs.YtbfappllfpngdaaGreatDoor
open Go Go.Am
set_option maxRecDepth 100000

/-! ### Neighbours prove -/

theorem neigh_succ (s : P2) (k : Nat) : neigh s (k + 1) = (partsK k).foldl (refS s) (neigh s k) := by
  unfold neigh
  rw [List.range_succ, List.foldl_append]
  rfl
theorem goA_ok (s : P2) : ∀ (f k : Nat), goA s f k (neigh s k) = true → ∀ j, k < j → j ≤ k + f → provesB s (j : Int) (neigh s j).1 (neigh s j).2 = true
  | 0, k, _, j, h1, h2 => by omega
  | f + 1, k, h, j, h1, h2 => by
    unfold goA at h
    rw [← neigh_succ, Bool.and_eq_true] at h
    by_cases e : j = k + 1
    · subst e
      have := h.1
      rw [show ((k + 1 : Nat) : Int) = (k : Int) + 1 by simp]
      exact this
    · exact goA_ok s f (k + 1) h.2 j (by omega) (by omega)
theorem proves_all {a d : Nat} (ha : a < 41) (hd : d < 40) (hg : low1 ((a : Int), (d : Int) + 1) = true) {n : Nat} (h1 : 1 ≤ n) (h2 : n ≤ 12) :
    provesB (shr ((a : Int), (d : Int) + 1)) (n : Int) (neigh (shr ((a : Int), (d : Int) + 1)) n).1 (neigh (shr ((a : Int), (d : Int) + 1)) n).2 = true := by
  have h := allA_true
  unfold allA at h
  have h3 := List.all_eq_true.1 (List.all_eq_true.1 h a (List.mem_range.2 ha)) d (List.mem_range.2 hd)
  rw [hg] at h3
  simp only [Bool.not_true, Bool.false_or] at h3
  exact goA_ok _ 12 0 h3 n (by omega) (by omega)

/-! ### The nearest part is the nearest -/

def leN (r p q : P2) : Prop := absI (distI r p) * (rateI r q).2 ≤ absI (distI r q) * (rateI r p).2
theorem abs_nn (x : Int) : 0 ≤ absI x := by unfold absI; split <;> omega
theorem leN_trans {r p b q : P2} (hp : PartOk p) (hq : PartOk q) (hb : PartOk b) (hy : (rateI r b).2 ≠ 0) (h1 : leN r p b) (h2 : leN r b q) : leN r p q := by
  unfold leN at *
  obtain ⟨p1, p2, p3, p4⟩ := rate_ok r hp
  obtain ⟨q1, q2, q3, q4⟩ := rate_ok r hq
  obtain ⟨b1, b2, b3, b4⟩ := rate_ok r hb
  have a1 := Int.mul_le_mul_of_nonneg_right h1 q3
  have a2 := Int.mul_le_mul_of_nonneg_right h2 p3
  generalize absI (distI r p) = x at *
  generalize absI (distI r q) = z at *
  generalize absI (distI r b) = y at *
  generalize (rateI r p).2 = u at *
  generalize (rateI r q).2 = v at *
  generalize (rateI r b).2 = w at *
  have e1 : x * w * v = x * v * w := by rw [Int.mul_assoc, Int.mul_comm w, ← Int.mul_assoc]
  have e2 : y * u * v = y * v * u := by rw [Int.mul_assoc, Int.mul_comm u, ← Int.mul_assoc]
  have e3 : z * w * u = z * u * w := by rw [Int.mul_assoc, Int.mul_comm w, ← Int.mul_assoc]
  have : x * v * w ≤ z * u * w := by omega
  exact Int.le_of_mul_le_mul_right this (by omega)

structure InvM (r : P2) (Q : List P2) (st : P2 × Bool) : Prop where
  a : st.2 = true → PartOk st.1 ∧ (rateI r st.1).2 ≠ 0 ∧ st.1 ∈ Q
  b : ∀ q ∈ Q, PartOk q ∧ ((rateI r q).2 ≠ 0 → st.2 = true ∧ leN r st.1 q)

theorem leN_refl (r p : P2) : leN r p p := Int.le_refl _

theorem nearS_inv {r p : P2} {Q : List P2} {st : P2 × Bool} (hp : PartOk p) (h : InvM r Q st) : InvM r (p :: Q) (nearS r st p) := by
  unfold nearS
  by_cases h0 : (rateI r p).2 = 0
  · rw [if_pos h0]
    refine ⟨fun e => ?_, fun q hq => ?_⟩
    · obtain ⟨x, y, z⟩ := h.a e
      exact ⟨x, y, List.mem_cons_of_mem _ z⟩
    · rcases List.mem_cons.1 hq with rfl | hq
      · exact ⟨hp, fun e => absurd h0 e⟩
      · exact h.b q hq
  · rw [if_neg h0]
    by_cases hf : st.2 = false
    · rw [if_pos hf]
      refine ⟨fun _ => ⟨hp, h0, by simp⟩, fun q hq => ?_⟩
      rcases List.mem_cons.1 hq with rfl | hq
      · exact ⟨hp, fun _ => ⟨rfl, leN_refl _ _⟩⟩
      · refine ⟨(h.b q hq).1, fun e => ?_⟩
        have := ((h.b q hq).2 e).1
        rw [hf] at this
        cases this
    · rw [if_neg hf]
      have ht : st.2 = true := by cases h2 : st.2 with | true => rfl | false => exact absurd h2 hf
      obtain ⟨x, y, z⟩ := h.a ht
      by_cases hc : condB r p st.1 = true
      · rw [if_pos hc]
        have hl : leN r p st.1 := by
          unfold condB at hc
          unfold leN
          simp only [Bool.or_eq_true, Bool.and_eq_true, decide_eq_true_eq] at hc
          rcases hc with hc | hc
          · omega
          · have := hc.1; omega
        refine ⟨fun _ => ⟨hp, h0, by simp⟩, fun q hq => ?_⟩
        rcases List.mem_cons.1 hq with rfl | hq
        · exact ⟨hp, fun _ => ⟨rfl, leN_refl _ _⟩⟩
        · exact ⟨(h.b q hq).1, fun e => ⟨rfl, leN_trans hp (h.b q hq).1 x y hl ((h.b q hq).2 e).2⟩⟩
      · rw [if_neg hc]
        have hl : leN r st.1 p := by
          unfold condB at hc
          unfold leN
          simp only [Bool.or_eq_true, Bool.and_eq_true, decide_eq_true_eq, not_or] at hc
          omega
        refine ⟨fun e => ⟨x, y, List.mem_cons_of_mem _ z⟩, fun q hq => ?_⟩
        rcases List.mem_cons.1 hq with rfl | hq
        · exact ⟨hp, fun _ => ⟨ht, hl⟩⟩
        · exact h.b q hq

theorem near_fold {r : P2} : ∀ (l Q : List P2) (st : P2 × Bool), (∀ p ∈ l, PartOk p) → InvM r Q st → ∃ Q', InvM r Q' (l.foldl (nearS r) st) ∧ ∀ q, q ∈ Q' ↔ q ∈ l ∨ q ∈ Q
  | [], Q, st, _, h => ⟨Q, h, fun q => by simp⟩
  | p :: l, Q, st, hl, h => by
    obtain ⟨Q', h1, h2⟩ := near_fold l (p :: Q) (nearS r st p) (fun q hq => hl q (by simp [hq])) (nearS_inv (hl p (by simp)) h)
    refine ⟨Q', h1, fun q => ?_⟩
    rw [h2, List.mem_cons, List.mem_cons]
    constructor
    · rintro (h | h | h)
      · exact .inl (.inr h)
      · exact .inl (.inl h)
      · exact .inr h
    · rintro ((h | h) | h)
      · exact .inr (.inl h)
      · exact .inl h
      · exact .inr (.inr h)

theorem near_min (r : P2) : ∀ (n : Nat), n ≤ 64 → ∃ Q, InvM r Q (nearP r n) ∧ ∀ q, q ∈ Q ↔ (PartOk q ∧ q.2 ≤ n)
  | 0, _ => ⟨[], ⟨(fun e => by cases e), fun q hq => by simp at hq⟩, fun q => ⟨fun h => by simp at h, fun h => by have := h.1.2.2.1; omega⟩⟩
  | n + 1, hn => by
    obtain ⟨Q, h1, h2⟩ := near_min r n (by omega)
    have e : nearP r (n + 1) = (partsK n).foldl (nearS r) (nearP r n) := by
      unfold nearP
      rw [List.range_succ, List.foldl_append]
      rfl
    obtain ⟨Q', k1, k2⟩ := near_fold (partsK n) Q (nearP r n) (partsK_ok (by omega)) h1
    rw [← e] at k1
    refine ⟨Q', k1, fun q => ?_⟩
    rw [k2, h2]
    constructor
    · rintro (h | h)
      · have hp := partsK_ok (by omega : n < 64) q h
        refine ⟨hp, ?_⟩
        obtain ⟨b, _, rfl⟩ := List.mem_map.1 h
        simp
      · exact ⟨h.1, by omega⟩
    · rintro ⟨hp, hq⟩
      obtain ⟨p1, p2, p3, p4⟩ := hp
      by_cases hl : q.2 = ((n + 1 : Nat) : Int)
      · left
        refine List.mem_map.2 ⟨q.1.toNat, List.mem_range.2 (by omega), ?_⟩
        refine Prod.ext ?_ ?_
        · simp only; omega
        · simp only; omega
      · right
        exact ⟨⟨p1, p2, p3, p4⟩, by omega⟩

/-- The nearest part of at most n letters. -/
theorem near_best {r : P2} {n : Nat} (h1 : 1 ≤ n) (h2 : n ≤ 64) : (nearP r n).2 = true ∧ PartOk (nearP r n).1 ∧ (nearP r n).1.2 ≤ n ∧ (rateI r (nearP r n).1).2 ≠ 0 ∧ ∀ q, PartOk q → q.2 ≤ n → (rateI r q).2 ≠ 0 → leN r (nearP r n).1 q := by
  obtain ⟨Q, k1, k2⟩ := near_min r n h2
  have hone : PartOk ((1, 1) : P2) := ⟨by decide, by decide, by decide, by decide⟩
  have hr1 : (rateI r (1, 1)).2 ≠ 0 := by unfold rateI; split <;> simp
  have hm : ((1, 1) : P2) ∈ Q := (k2 _).2 ⟨hone, by simp only; omega⟩
  have hf := ((k1.b _ hm).2 hr1).1
  obtain ⟨x, y, z⟩ := k1.a hf
  exact ⟨hf, x, ((k2 _).1 z).2, y, fun q hq hqn hy => ((k1.b q ((k2 q).2 ⟨hq, hqn⟩)).2 hy).2⟩

/-! ### Shares and distances -/

theorem shr_eqs {r : P2} (h : chkR r = 0) : ∃ g : Int, 0 < g ∧ g * (shr r).1 = 2 * (if r.2 < r.1 then r.2 else r.1) ∧ g * (shr r).2 = r.1 + r.2 ∧ Int.gcd (shr r).1 (shr r).2 = 1 := by
  obtain ⟨k1, k2, k3, k4, k5⟩ := chkR_ok h
  have hg := gcd_pos (a := 2 * (if r.2 < r.1 then r.2 else r.1)) (b := r.1 + r.2) (.inr (by omega))
  refine ⟨(Int.gcd (2 * (if r.2 < r.1 then r.2 else r.1)) (r.1 + r.2) : Int), hg, ?_, ?_, ?_⟩
  · unfold shr low
    exact Int.mul_ediv_cancel' (Int.gcd_dvd_left ..)
  · unfold shr low
    exact Int.mul_ediv_cancel' (Int.gcd_dvd_right ..)
  · unfold shr low
    exact Int.gcd_ediv_gcd_ediv_gcd (by omega)

theorem dist_zero {r p : P2} (h : chkR r = 0) : distI r p = 0 ↔ p.1 * (shr r).2 = (shr r).1 * p.2 := by
  obtain ⟨g, hg, e1, e2, _⟩ := shr_eqs h
  generalize shr r = s at *
  have key : distI r p = g * (p.1 * s.2 - s.1 * p.2) ∨ distI r p = -(g * (p.1 * s.2 - s.1 * p.2)) := by
    have x1 : g * (p.1 * s.2) = p.1 * (r.1 + r.2) := by rw [← e2, ← Int.mul_assoc, ← Int.mul_assoc, Int.mul_comm g]
    have x2 : g * (s.1 * p.2) = 2 * (if r.2 < r.1 then r.2 else r.1) * p.2 := by rw [← e1, Int.mul_assoc]
    unfold distI rateI
    rw [Int.mul_sub, x1, x2]
    by_cases hs : r.1 > r.2
    · right
      have hs' : r.2 < r.1 := hs
      rw [if_pos hs, if_pos hs']
      simp only
      rw [Int.sub_mul, Int.mul_add, Int.mul_assoc 2, Int.mul_assoc 2, Int.mul_comm p.2 r.2, Int.mul_comm r.1 p.1]
      omega
    · left
      have hs' : ¬ r.2 < r.1 := hs
      rw [if_neg hs, if_neg hs']
      simp only
      rw [Int.mul_sub, Int.mul_add, Int.mul_assoc 2, ← Int.mul_assoc r.1 2, Int.mul_comm r.1 2, Int.mul_assoc 2, Int.mul_comm r.1 p.1]
      omega
  constructor
  · intro hd
    have : g * (p.1 * s.2 - s.1 * p.2) = 0 := by omega
    rcases Int.mul_eq_zero.1 this with h | h
    · omega
    · omega
  · intro hd
    have : g * (p.1 * s.2 - s.1 * p.2) = 0 := by rw [hd, Int.sub_self, Int.mul_zero]
    omega

/-- No part with fewer letters has the rate. -/
theorem dist_small {r p : P2} (h : chkR r = 0) (hp : PartOk p) (hd : distI r p = 0) : (shr r).2 ≤ p.2 := by
  obtain ⟨g, hg, e1, e2, hc⟩ := shr_eqs h
  have hs := shr_sh h
  rw [dist_zero h] at hd
  generalize shr r = s at *
  obtain ⟨p1, p2, p3, p4⟩ := hp
  obtain ⟨s1, s2, s3, s4⟩ := hs
  obtain ⟨pa, pb⟩ := p
  obtain ⟨sa, sb⟩ := s
  simp only at *
  obtain ⟨a, rfl⟩ := Int.eq_ofNat_of_zero_le p1
  obtain ⟨b, rfl⟩ := Int.eq_ofNat_of_zero_le (show 0 ≤ pb by omega)
  obtain ⟨c, rfl⟩ := Int.eq_ofNat_of_zero_le s1
  obtain ⟨d, rfl⟩ := Int.eq_ofNat_of_zero_le (show 0 ≤ sb by omega)
  have gc : Nat.Coprime c d := hc
  have h' : a * d = c * b := by
    have h2 : ((a * d : Nat) : Int) = ((c * b : Nat) : Int) := by rw [Int.natCast_mul, Int.natCast_mul]; exact hd
    omega
  have d1 : d ∣ b := (Nat.Coprime.symm gc).dvd_of_dvd_mul_left (by rw [← h']; exact Nat.dvd_mul_left ..)
  have := Nat.le_of_dvd (by omega) d1
  omega
theorem dist_share {r : P2} (h : chkR r = 0) : distI r (shr r) = 0 := (dist_zero h).2 rfl

theorem abs_zero {x : Int} : absI x = 0 ↔ x = 0 := by unfold absI; split <;> omega

/-- With as many letters as the share has, the share is the nearest part. -/
theorem near_share {r : P2} (h : chkR r = 0) (hs : (shr r).2 ≤ 64) : nearP r (shr r).2.toNat = (shr r, true) ∧ (rateI r (shr r)).2 ≠ 0 := by
  have sh := shr_sh h
  have hp : PartOk (shr r) := ⟨sh.1, sh.2.1, sh.2.2.1, hs⟩
  have h3 := sh.2.2.1
  have hy : (rateI r (shr r)).2 ≠ 0 := by
    intro e
    obtain ⟨e1, e2⟩ := (rate_zero r hp).1 e
    obtain ⟨g, hg, g1, g2, _⟩ := shr_eqs h
    rw [e1, Int.mul_zero, if_pos (by omega)] at g1
    have := (chkR_ok h).2.2.1
    omega
  obtain ⟨b1, b2, b3, b4, b5⟩ := near_best (r := r) (n := (shr r).2.toNat) (by omega) (by omega)
  have hl := b5 _ hp (by omega) hy
  unfold leN at hl
  have hz : absI (distI r (shr r)) = 0 := abs_zero.2 (dist_share h)
  rw [hz, Int.zero_mul] at hl
  have rp := rate_ok r hp
  have h0 : absI (distI r (nearP r (shr r).2.toNat).1) = 0 := by
    rcases Int.lt_or_le 0 (absI (distI r (nearP r (shr r).2.toNat).1)) with hlt | hle
    · have := Int.mul_pos hlt (show 0 < (rateI r (shr r)).2 by omega)
      omega
    · have := abs_nn (distI r (nearP r (shr r).2.toNat).1)
      omega
  have hd := abs_zero.1 h0
  have hs2 := dist_small h b2 hd
  have e2 : (nearP r (shr r).2.toNat).1.2 = (shr r).2 := by omega
  have hx := (dist_zero h).1 hd
  rw [e2] at hx
  have e1 : (nearP r (shr r).2.toNat).1.1 = (shr r).1 := Int.eq_of_mul_eq_mul_right (by omega) hx
  exact ⟨Prod.ext (Prod.ext e1 e2) b1, hy⟩
end Go.Proofs.YtbfappllfpngdaaGreatDoor
