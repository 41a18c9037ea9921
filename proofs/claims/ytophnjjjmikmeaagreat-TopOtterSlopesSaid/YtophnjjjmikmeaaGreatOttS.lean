/- Plain law: spread words walked along the line of their ratio. -/
import Derived.Test.YtophnjjjmikmeaaGreatOttPk
set_option linter.all false
namespace Go.Proofs.YtophnjjjmikmeaaGreat
open Go Go.Am
def pQ (m n : Int) (o : UInt8) (i : Nat) : UInt8 := if pk m n i then 66 else o
def vj (m n : Int) (i : Nat) : Int := (i : Int) * m / (m + n)
def kn (m n : Int) (o : UInt8) (i : Nat) : Int × Int := if o = 84 then (2 * i - vj m n i, vj m n i) else (vj m n i, 2 * i - vj m n i)
theorem ms (m n : Int) (o : UInt8) : jj [66] m [o] n = (List.range (m + n).toNat).map (pQ m n o) := by
  unfold jj dV
  generalize List.range (m + n).toNat = l
  induction l with
  | nil => rfl
  | cons a l ih =>
    rw [List.map_cons, List.flatten_cons, ih, List.map_cons]
    unfold pQ
    split <;> simp
section
variable {m n : Int} (hm : 0 ≤ m) (hn : 0 ≤ n) (hs : 0 < m + n)
include hm hn hs
theorem Hu (i : Nat) : vj m n (i + 1) = vj m n i + if pk m n i then 1 else 0 := by
  have e : ((i + 1 : Nat) : Int) * m = (i : Int) * m + m := by rw [Int.natCast_add, Int.add_mul]; simp
  have e' : ((i : Int) + 1) * m = (i : Int) * m + m := by rw [Int.add_mul]; simp
  unfold vj pk
  rw [e, e']
  generalize (i : Int) * m = x
  have d1 := Int.emod_add_mul_ediv x (m + n)
  have d2 := Int.emod_add_mul_ediv (x + m) (m + n)
  have p1 := Int.emod_nonneg x (show m + n ≠ 0 by omega)
  have p2 := Int.emod_lt_of_pos x hs
  have q1 := Int.emod_nonneg (x + m) (show m + n ≠ 0 by omega)
  have q2 := Int.emod_lt_of_pos (x + m) hs
  generalize x % (m + n) = r1 at *
  generalize (x + m) % (m + n) = r2 at *
  generalize x / (m + n) = a at *
  generalize (x + m) / (m + n) = b at *
  have h1 : (m + n) * (b - a) = m + r1 - r2 := by rw [Int.mul_sub]; omega
  have h2 : 0 ≤ b - a := by
    by_cases h : b - a < 0
    · have : (m + n) * (b - a) ≤ (m + n) * (-1) := Int.mul_le_mul_of_nonneg_left (by omega) (by omega)
      omega
    · omega
  have h3 : b - a < 2 := by
    by_cases h : 2 ≤ b - a
    · have : (m + n) * 2 ≤ (m + n) * (b - a) := Int.mul_le_mul_of_nonneg_left h (by omega)
      omega
    · omega
  by_cases h : b > a <;> simp [h] <;> omega
theorem N1 (i : Nat) : pk m n (i + (m + n).toNat) = pk m n i := by
  have e : (((i + (m + n).toNat : Nat) : Int)) = (i : Int) + (m + n) := by omega
  unfold pk
  rw [e, show ((i : Int) + (m + n) + 1) * m = ((i : Int) + 1) * m + m * (m + n) by rw [show (i : Int) + (m + n) + 1 = ((i : Int) + 1) + (m + n) by omega, Int.add_mul, Int.mul_comm (m + n) m],
    show ((i : Int) + (m + n)) * m = (i : Int) * m + m * (m + n) by rw [Int.add_mul, Int.mul_comm (m + n) m],
    Int.add_mul_ediv_right _ _ (by omega), Int.add_mul_ediv_right _ _ (by omega)]
  by_cases h : ((i : Int) + 1) * m / (m + n) > (i : Int) * m / (m + n)
  · have h' : ((i : Int) + 1) * m / (m + n) + m > (i : Int) * m / (m + n) + m := by omega
    simp [h]
  · simp [h]
theorem Hv (o : UInt8) (k : Nat) : ga (jj [66] m [o] n) k = (List.range (k * (m + n).toNat)).map (pQ m n o) := by
  rw [ms]
  induction k with
  | zero => simp [ga]
  | succ k ih =>
    show (List.range (m + n).toNat).map (pQ m n o) ++ ga _ k = _
    rw [ih, Nat.succ_mul, Nat.add_comm, List.range_add, List.map_append, List.map_map]
    congr 1
    apply List.map_congr_left
    intro i _
    show pQ m n o i = pQ m n o ((m + n).toNat + i)
    unfold pQ
    rw [Nat.add_comm, N1 hm hn hs]
theorem De {o : UInt8} (ho : o = 78 ∨ o = 84) (i : Nat) : mv true (kn m n o i) (pQ m n o i) = kn m n o (i + 1) := by
  have c := Hu hm hn hs i
  unfold kn
  rw [c]
  generalize vj m n i = x
  unfold pQ mv
  have e1 : dg 66 = (1, 1) := rfl
  have e2 : dg 78 = (0, 2) := rfl
  have e3 : dg 84 = (2, 0) := rfl
  rcases ho with rfl | rfl
  · cases pk m n i <;> simp [e1, e2] <;> omega
  · cases pk m n i <;> simp [e1, e3] <;> omega
theorem An {o : UInt8} (ho : o = 78 ∨ o = 84) : ∀ (k i : Nat), cP true (kn m n o i) ((List.range' i k).map (pQ m n o)) = (List.range' i k).map fun j => yx true (kn m n o j) (pQ m n o j)
  | 0, _ => rfl
  | k + 1, i => by
    rw [List.range'_succ, List.map_cons, List.map_cons]
    show yx true _ _ :: cP true (mv true _ _) _ = _
    rw [De hm hn hs ho, An ho k (i + 1)]
omit hn hs in
theorem yz (o : UInt8) : kn m n o 0 = (0, 0) := by unfold kn vj; simp
end
structure Fits (a b m n : Int) (o : UInt8) : Prop where
  ha : 0 ≤ a
  hb : 1 ≤ b
  hc : (Int.gcd a b : Int) = 1
  hm : 0 ≤ m
  hn : 0 ≤ n
  hs : 0 < m + n
  ho : o = if a > b then 84 else 78
  hr : m * (a + b) = 2 * (if b < a then b else a) * (m + n)
  hl : m + n ≤ a + b
theorem Hw {a b : Int} (ha : 0 ≤ a) (hb : 1 ≤ b) (hc : (Int.gcd a b : Int) = 1) :
    Fits a b (low (2 * (if b < a then b else a)) (a + b)).1 ((low (2 * (if b < a then b else a)) (a + b)).2 - (low (2 * (if b < a then b else a)) (a + b)).1) (if a > b then 84 else 78) := by
  have h0 : 0 ≤ 2 * (if b < a then b else a) ∧ 2 * (if b < a then b else a) ≤ a + b := by split <;> omega
  generalize hx : 2 * (if b < a then b else a) = x at h0
  have d1 : (Int.gcd x (a + b) : Int) ∣ x := Int.gcd_dvd_left ..
  have d2 : (Int.gcd x (a + b) : Int) ∣ a + b := Int.gcd_dvd_right ..
  have gp : 0 < (Int.gcd x (a + b) : Int) := by
    have := Int.gcd_pos_of_ne_zero_right x (show a + b ≠ 0 by omega)
    omega
  unfold low
  simp only
  generalize (Int.gcd x (a + b) : Int) = g at *
  obtain ⟨u, rfl⟩ := d1
  obtain ⟨v, hv⟩ := d2
  have gl : g ≠ 0 := by omega
  rw [hv, Int.mul_ediv_cancel_left _ gl, Int.mul_ediv_cancel_left _ gl]
  have u0 : 0 ≤ u := by
    rcases Int.lt_or_le u 0 with h | h
    · have := Int.mul_neg_of_pos_of_neg gp h; omega
    · exact h
  have uv : u ≤ v := by
    rcases Int.lt_or_le v u with h | h
    · have := Int.mul_lt_mul_of_pos_left h gp; omega
    · exact h
  have v0 : 0 < v := by
    rcases Int.lt_or_le 0 v with h | h
    · exact h
    · have := Int.mul_nonpos_of_nonneg_of_nonpos (show 0 ≤ g by omega) h
      omega
  refine ⟨ha, hb, hc, u0, by omega, by omega, rfl, ?_, ?_⟩
  · rw [hx, hv, show u + (v - u) = v by omega, Int.mul_comm g u, Int.mul_assoc]
  · rw [show u + (v - u) = v by omega, hv]
    have := Int.mul_le_mul_of_nonneg_right (show 1 ≤ g by omega) (show 0 ≤ v by omega)
    omega
section
variable {a b m n : Int} {o : UInt8} (h : Fits a b m n o)
include h
theorem N2 (i : Nat) : (a ≤ b → (kn m n o i).1 * b - a * (kn m n o i).2 ≤ 0 ∧ -a - b < (kn m n o i).1 * b - a * (kn m n o i).2) ∧
    (b < a → 0 ≤ (kn m n o i).1 * b - a * (kn m n o i).2 ∧ (kn m n o i).1 * b - a * (kn m n o i).2 < a + b) ∧
    (i % (m + n).toNat = 0 → (kn m n o i).1 * b - a * (kn m n o i).2 = 0) := by
  obtain ⟨ha, hb, hc, hm, hn, hs, ho, hr, hl⟩ := h
  -- the fraction that is cut off
  have d1 := Int.emod_add_mul_ediv ((i : Int) * m) (m + n)
  have p1 := Int.emod_nonneg ((i : Int) * m) (show m + n ≠ 0 by omega)
  have p2 := Int.emod_lt_of_pos ((i : Int) * m) hs
  have z : i % (m + n).toNat = 0 → ((i : Int) * m) % (m + n) = 0 := by
    intro hz
    obtain ⟨q, hq⟩ := Nat.dvd_of_mod_eq_zero hz
    have : (i : Int) * m = (m + n) * ((q : Int) * m) := by
      rw [show (i : Int) = (m + n) * (q : Int) by rw [hq, Int.natCast_mul, Int.toNat_of_nonneg (by omega)], Int.mul_assoc]
    rw [this]
    exact Int.mul_emod_right ..
  have W6 : vj m n i = (i : Int) * m / (m + n) := rfl
  rw [← W6] at d1
  have main : ∀ F : Int, (m + n) * F = -((a + b) * ((i : Int) * m % (m + n))) → (F ≤ 0 ∧ -a - b < F) ∧ (i % (m + n).toNat = 0 → F = 0) := by
    intro F hF
    have ab : 0 < a + b := by omega
    have r0 : 0 ≤ (a + b) * ((i : Int) * m % (m + n)) := Int.mul_nonneg (by omega) p1
    have r1 : (a + b) * ((i : Int) * m % (m + n)) < (a + b) * (m + n) := Int.mul_lt_mul_of_pos_left p2 ab
    refine ⟨⟨?_, ?_⟩, fun hz => ?_⟩
    · rcases Int.lt_or_le 0 F with hf | hf
      · have := Int.mul_pos hs hf; omega
      · exact hf
    · rcases Int.lt_or_le (-a - b) F with hf | hf
      · exact hf
      · have q := Int.mul_le_mul_of_nonneg_left hf (show 0 ≤ m + n by omega)
        have e : (m + n) * (-a - b) = -((a + b) * (m + n)) := by rw [show -a - b = -(a + b) by omega, Int.mul_neg, Int.mul_comm]
        omega
    · rw [z hz, Int.mul_zero] at hF
      have : (m + n) * F = 0 := by omega
      rcases Int.mul_eq_zero.1 this with h | h
      · omega
      · exact h
  have am : ∀ x y : Int, (a + b) * x = a * x + b * x := fun x y => Int.add_mul ..
  have key : (a + b) * ((m + n) * vj m n i) - (a + b) * ((i : Int) * m) = -((a + b) * ((i : Int) * m % (m + n))) := by
    have : (m + n) * vj m n i = (i : Int) * m - (i : Int) * m % (m + n) := by omega
    rw [this, Int.mul_sub]
    omega
  have TH : (a + b) * ((i : Int) * m) = (m + n) * (2 * (if b < a then b else a) * (i : Int)) := by
    rw [show (a + b) * ((i : Int) * m) = (m * (a + b)) * (i : Int) by rw [Int.mul_comm (i : Int) m, ← Int.mul_assoc, Int.mul_comm (a + b) m], hr, Int.mul_comm _ (m + n), Int.mul_assoc]
  have TJ : (m + n) * ((a + b) * vj m n i - 2 * (if b < a then b else a) * (i : Int)) = -((a + b) * ((i : Int) * m % (m + n))) := by
    rw [Int.mul_sub, ← TH, ← key]
    congr 1
    rw [← Int.mul_assoc, ← Int.mul_assoc, Int.mul_comm (m + n)]
  obtain ⟨⟨f1, f2⟩, f3⟩ := main _ TJ
  by_cases Hx : a > b
  · have HN : b < a := Hx
    rw [if_pos HN] at f1 f2 f3
    have kb : o = 84 := by rw [ho, if_pos Hx]
    have e : (kn m n o i).1 * b - a * (kn m n o i).2 = -((a + b) * vj m n i - 2 * b * (i : Int)) := by
      unfold kn
      rw [if_pos kb]
      simp only
      rw [Int.sub_mul, Int.add_mul, Int.mul_comm (vj m n i) b, Int.mul_right_comm 2 (i : Int) b]
      omega
    rw [e]
    exact ⟨fun h => by omega, fun _ => ⟨by omega, by omega⟩, fun hz => by have := f3 hz; omega⟩
  · have HN : ¬ b < a := by omega
    rw [if_neg HN] at f1 f2 f3
    have kb : o ≠ 84 := by rw [ho, if_neg Hx]; decide
    have e : (kn m n o i).1 * b - a * (kn m n o i).2 = (a + b) * vj m n i - 2 * a * (i : Int) := by
      unfold kn
      rw [if_neg kb]
      simp only
      rw [Int.mul_sub, Int.add_mul, Int.mul_comm (vj m n i) b, Int.mul_left_comm a 2 (i : Int), Int.mul_assoc]
      omega
    rw [e]
    exact ⟨fun _ => ⟨by omega, by omega⟩, fun h => absurd h HN, f3⟩
theorem N3 : low (kn m n o (m + n).toNat).1 (kn m n o (m + n).toNat).2 = (a, b) ∧ (kn m n o (m + n).toNat).2 ≠ 0 := by
  obtain ⟨ha, hb, hc, hm, hn, hs, ho, hr, hl⟩ := h
  have c : vj m n (m + n).toNat = m := by
    unfold vj
    rw [Int.toNat_of_nonneg (by omega), Int.mul_ediv_cancel_left _ (by omega)]
  have tn : ((m + n).toNat : Int) = m + n := Int.toNat_of_nonneg (by omega)
  -- x / y = a / b with both above
  have main : ∀ x y : Int, 0 ≤ x → 0 ≤ y → x * b = a * y → 0 < x + y → low x y = (a, b) ∧ y ≠ 0 := by
    intro x y hx hy Vl hp
    have W7 : a ∣ x := by
      have d : a ∣ x * b := ⟨y, Vl⟩
      have kX : Int.gcd a b = 1 := by omega
      have d' : a.natAbs ∣ x.natAbs * b.natAbs := by rw [← Int.natAbs_mul]; exact Int.natAbs_dvd_natAbs.2 d
      exact Int.natAbs_dvd_natAbs.1 (Nat.Coprime.dvd_of_dvd_mul_right kX d')
    by_cases Vm : a = 0
    · subst Vm
      have Lm : b = 1 := by
        have : Int.gcd 0 b = b.natAbs := Int.gcd_zero_left ..
        omega
      subst Lm
      have SZ : x = 0 := by omega
      subst SZ
      have Vn : y ≠ 0 := by omega
      refine ⟨?_, Vn⟩
      unfold low
      have : (Int.gcd 0 y : Int) = y := by rw [Int.gcd_zero_left]; omega
      rw [this]
      simp [Int.ediv_self Vn]
    · obtain ⟨k, rfl⟩ := W7
      have ey : y = b * k := by
        have : a * (k * b) = a * y := by rw [← Int.mul_assoc]; exact Vl
        have := Int.eq_of_mul_eq_mul_left Vm this
        rw [← this, Int.mul_comm]
      subst ey
      have hk : 0 < k := by
        rcases Int.lt_or_le 0 k with h | h
        · exact h
        · have q1 := Int.mul_nonpos_of_nonneg_of_nonpos (show 0 ≤ a by omega) h
          have q2 := Int.mul_nonpos_of_nonneg_of_nonpos (show 0 ≤ b by omega) h
          omega
      have hg : (Int.gcd (a * k) (b * k) : Int) = k := by
        rw [Int.gcd_mul_right]
        have kX : Int.gcd a b = 1 := by omega
        rw [kX]
        omega
      refine ⟨?_, ?_⟩
      · unfold low
        rw [hg, Int.mul_ediv_cancel _ (by omega), Int.mul_ediv_cancel _ (by omega)]
      · intro e
        rcases Int.mul_eq_zero.1 e with h | h <;> omega
  by_cases Hx : a > b
  · have HN : b < a := Hx
    have kb : o = 84 := by rw [ho, if_pos Hx]
    rw [if_pos HN] at hr
    unfold kn
    rw [if_pos kb, c, tn]
    refine main _ _ (by simp only; omega) hm ?_ (by simp only; omega)
    simp only
    rw [Int.sub_mul, Int.mul_comm a m]
    rw [Int.mul_add] at hr
    have : 2 * b * (m + n) = 2 * (m + n) * b := by rw [Int.mul_right_comm]
    omega
  · have HN : ¬ b < a := by omega
    have kb : o ≠ 84 := by rw [ho, if_neg Hx]; decide
    rw [if_neg HN] at hr
    unfold kn
    rw [if_neg kb, c, tn]
    refine main _ _ hm (by simp only; omega) ?_ (by simp only; omega)
    simp only
    rw [Int.mul_sub, Int.mul_comm a m]
    rw [Int.mul_add] at hr
    have : 2 * a * (m + n) = a * (2 * (m + n)) := by rw [Int.mul_comm 2 a, Int.mul_assoc]
    omega
end
end Go.Proofs.YtophnjjjmikmeaaGreat
