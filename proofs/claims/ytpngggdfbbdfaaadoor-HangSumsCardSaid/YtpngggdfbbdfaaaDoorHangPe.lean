/- Plain laws: spreads. -/
import Derived.Test.YtpngggdfbbdfaaaDoorHangPd
set_option linter.all false
namespace Go.Proofs.YtpngggdfbbdfaaaDoor
open Go Go.Am
set_option maxRecDepth 100000

/-- The meshes of one tieQ. -/
def tieQ (m n i : Int) : Int := (i + 1) * m / n - i * m / n
def tiesTo (m n : Int) (k : Nat) : List Int := (List.range k).map fun (j : Nat) => tieQ m n (j : Int)

theorem tiesTo_succ (m n : Int) (k : Nat) : tiesTo m n (k + 1) = tiesTo m n k ++ [tieQ m n k] := by
  simp [tiesTo, List.range_succ]
theorem tiesTo_length (m n : Int) (k : Nat) : (tiesTo m n k).length = k := by simp [tiesTo]

theorem ties_loop {N : Nat} (hN : Big N) {m n : Int} (hm : 1 ≤ m ∧ m ≤ 300) (hn : 1 ≤ n ∧ n ≤ m) :
    loopR (V := (List Int) × Int) (X := ((List Int))) (R42x122 N m n) N ([], 0) = some (tiesTo m n n.toNat) := by
  obtain ⟨x, h1, h2⟩ := loopR_inv (rd := R42x122 N m n) (Inv := fun v => ∃ k : Nat, (k : Int) ≤ n ∧ v = (tiesTo m n k, (k : Int))) (m := fun v => (n - v.2).toNat) (Post := fun x => x = tiesTo m n n.toNat)
    (fun v ⟨k, hk, hv⟩ => by
      subst hv
      unfold R42x122
      by_cases hkn : (k : Int) < n
      · left
        have z : decide (n = 0) = false := by simp; omega
        have a0 : 0 ≤ (k : Int) * m := Int.mul_nonneg (by omega) (by omega)
        have a1 : (k : Int) * m ≤ 300 * 300 := Int.mul_le_mul (by omega) (by omega) (by omega) (by omega)
        have a2 : 0 ≤ ((k : Int) + 1) * m := Int.mul_nonneg (by omega) (by omega)
        have a3 : ((k : Int) + 1) * m ≤ 300 * 300 := Int.mul_le_mul (by omega) (by omega) (by omega) (by omega)
        have w1 : IntKind.wrap .i64 ((k : Int) + 1) = (k : Int) + 1 := w64 (by omega)
        have w2 : IntKind.wrap .i64 (((k : Int) + 1) * m) = ((k : Int) + 1) * m := w64 (by omega)
        have w3 : IntKind.wrap .i64 ((k : Int) * m) = (k : Int) * m := w64 (by omega)
        have w4 := div_in a2 (by omega) (by omega : 0 < n)
        have w5 := div_in a0 (by omega) (by omega : 0 < n)
        have b1 := Int.ediv_le_self n a2
        have b2 := Int.ediv_nonneg a2 (by omega : 0 ≤ n)
        have b3 := Int.ediv_le_self n a0
        have b4 := Int.ediv_nonneg a0 (by omega : 0 ≤ n)
        have w6 : IntKind.wrap .i64 (((k : Int) + 1) * m / n - (k : Int) * m / n) = tieQ m n k := w64 (by omega)
        refine ⟨(tiesTo m n (k + 1), ((k + 1 : Nat) : Int)), ?_, ⟨k + 1, by omega, rfl⟩, by simp only; omega⟩
        simp only [hkn, z, w1, w2, w3, w4, w5, w6, decide_true, cond_true, Bool.not_false, List.length_map, tiesTo_length, Bool.true_and]
        have e1 : (List.map n3 (tiesTo m n k) ++ [AV.int .i64 (tieQ m n k)]) = List.map n3 (tiesTo m n (k + 1)) := by rw [tiesTo_succ, List.map_append]; rfl
        have e2 : decide ((k + 1) * 8 ≤ 140737488355328) = true := by simp; omega
        rw [e1]
        simp only [e2, fa3, md3, Bool.and_true, cond_true, Option.bind_some, tiesTo_length, decide_true]
        simp
      · right
        have : n.toNat = k := by omega
        refine ⟨tiesTo m n k, ?_, by rw [this]⟩
        simp only [hkn, decide_false, cond_false, fa3, md3, Bool.and_true, cond_true, Option.bind_some, decide_true]) N ([], 0) ⟨0, by omega, rfl⟩ (big_lt hN (by simp only; omega))
  rw [h1, h2]

theorem T42_val {N : Nat} (hN : Big N) {m n : Int} (hm : 1 ≤ m ∧ m ≤ 300) (hn : 1 ≤ n ∧ n ≤ m) : T42 N (m, n) = some (tiesTo m n n.toNat, 0) := by
  rw [T42_eq, T78_rng, T73_rng, rng_zero.2 hm, rng_zero.2 hn]
  simp only [Option.bind_some, two, Bool.and_true]
  rw [T72_first hN _ (by simp)]
  have e0 : firstNZ [0, 0] = 0 := rfl
  simp only [Option.bind_some, e0, bne_self_eq_false, cond_false, allFit_nil, List.map_nil, cond_true, List.length_nil, decide_true]
  rw [ties_loop hN hm hn]
  simp only [Option.bind_some, fa3, md3, cond_true]

/-- The sums of the first ties. -/
def sumsTo (m n : Int) (k : Nat) : List Int := (List.range (k + 1)).map fun (j : Nat) => (j : Int) * m / n
theorem sumsTo_succ (m n : Int) (k : Nat) : sumsTo m n (k + 1) = sumsTo m n k ++ [((k + 1 : Nat) : Int) * m / n] := by
  unfold sumsTo
  rw [List.range_succ, List.map_append]
  rfl
theorem sumsTo_length (m n : Int) (k : Nat) : (sumsTo m n k).length = k + 1 := by simp [sumsTo]

theorem at_ties (m n : Int) {k c : Nat} (h : k < c) : nthD (List.map n3 (tiesTo m n c)) k = n3 (tieQ m n k) := by
  rw [nthD_map n3 _ k (by rw [tiesTo_length]; exact h)]
  simp [tiesTo]
theorem at_sums (m n : Int) {k c : Nat} (h : k ≤ c) : nthD (List.map n3 (sumsTo m n c)) k = n3 ((k : Int) * m / n) := by
  rw [nthD_map n3 _ k (by rw [sumsTo_length]; omega)]
  simp [sumsTo]

theorem mul_up {m n k : Int} (hm : 1 ≤ m ∧ m ≤ 60) (hk : 0 ≤ k) (hkn : k ≤ n) (hn : 1 ≤ n ∧ n ≤ m) : 0 ≤ k * m / n ∧ k * m / n ≤ m := by
  have a0 : 0 ≤ k * m := Int.mul_nonneg hk (by omega)
  refine ⟨Int.ediv_nonneg a0 (by omega), ?_⟩
  have : k * m ≤ m * n := by
    rw [Int.mul_comm m n]
    exact Int.mul_le_mul_of_nonneg_right hkn (by omega)
  have := Int.ediv_le_ediv (c := n) (by omega) this
  rwa [Int.mul_ediv_cancel _ (by omega)] at this

theorem tie_in {m n k : Int} (hm : 1 ≤ m ∧ m ≤ 60) (hk : 0 ≤ k) (hkn : k < n) (hn : 1 ≤ n ∧ n ≤ m) : 1 ≤ tieQ m n k ∧ tieQ m n k ≤ m := by
  have h1 := mul_up hm hk (by omega) hn
  have h2 := mul_up (k := k + 1) hm (by omega) (by omega) hn
  unfold tieQ
  refine ⟨?_, by omega⟩
  have e : (k + 1) * m = k * m + m := by rw [Int.add_mul]; omega
  have h3 : k * m / n + 1 ≤ (k + 1) * m / n := by
    rw [e]
    have : k * m / n + 1 = (k * m + n) / n := by rw [Int.add_ediv_of_dvd_right (Int.dvd_refl n), Int.ediv_self (by omega)]
    rw [this]
    exact Int.ediv_le_ediv (by omega) (by omega)
  omega

theorem window {m n i k : Int} (hn : 1 ≤ n) : k * m / n ≤ (i + k) * m / n - i * m / n ∧ (i + k) * m / n - i * m / n ≤ k * m / n + 1 := by
  have e : (i + k) * m = i * m + k * m := Int.add_mul ..
  rw [e]
  generalize i * m = a
  generalize k * m = b
  have h1 := Int.mul_ediv_self_le (x := a) (k := n) (by omega)
  have h2 := Int.lt_mul_ediv_self_add (x := a) (k := n) (by omega)
  have h3 := Int.mul_ediv_self_le (x := b) (k := n) (by omega)
  have h4 := Int.lt_mul_ediv_self_add (x := b) (k := n) (by omega)
  have g1 : a / n + b / n ≤ (a + b) / n := by
    apply Int.le_ediv_of_mul_le (by omega)
    have : (a / n + b / n) * n = n * (a / n) + n * (b / n) := by rw [Int.add_mul, Int.mul_comm, Int.mul_comm (b / n)]
    omega
  have g2 : (a + b) / n < a / n + b / n + 2 := by
    apply Int.ediv_lt_of_lt_mul (by omega)
    have : (a / n + b / n + 2) * n = n * (a / n) + n * (b / n) + 2 * n := by rw [Int.add_mul, Int.add_mul, Int.mul_comm, Int.mul_comm (b / n)]
    omega
  omega

section spreads
variable {N : Nat} (hN : Big N) {m n a0 a1 : Int} (hm : 1 ≤ m ∧ m ≤ 60) (hn : 1 ≤ n ∧ n ≤ m)
  (hM : IntKind.wrap .i64 (1 + (Int.tmod (IntKind.wrap .i64 a0) 60)) = m) (hNN : IntKind.wrap .i64 (1 + (Int.tmod (IntKind.wrap .i64 a1) m)) = n)
include hN hm hn hM

theorem spread1 (e : Int) : loopR (V := (List Int) × Int) (X := Bool ⊕ ((List Int))) (R12x2042 N a0 (tiesTo m n n.toNat, e)) N ([0], 0) = some (.inr (sumsTo m n n.toNat)) := by
  obtain ⟨x, h1, h2⟩ := loopR_inv (rd := R12x2042 N a0 (tiesTo m n n.toNat, e)) (Inv := fun v => ∃ k : Nat, (k : Int) ≤ n ∧ v = (sumsTo m n k, (k : Int))) (m := fun v => (n - v.2).toNat) (Post := fun x => x = .inr (sumsTo m n n.toNat))
    (fun v ⟨k, hk, hv⟩ => by
      subst hv
      unfold R12x2042
      have hlen : ((n.toNat : Nat) : Int) = n := by omega
      simp only [hM, List.length_map, tiesTo_length, hlen, Int.toNat_natCast]
      by_cases hkn : (k : Int) < n
      · left
        have t := tie_in hm (by omega : 0 ≤ (k : Int)) hkn hn
        have u1 := mul_up hm (by omega : 0 ≤ (k : Int)) (by omega) hn
        have u2 := mul_up (k := (k : Int) + 1) hm (by omega) (by omega) hn
        have z0 : decide ((k : Int) < n) = true := by simpa using hkn
        have z1 : decide (0 ≤ (k : Int) ∧ (k : Int) < n) = true := by simp; omega
        have z2 : decide (tieQ m n k < 1) = false := by simp; omega
        have z3 : decide (tieQ m n k > m) = false := by simp; omega
        have w1 : IntKind.wrap .i64 (((k + 1 : Nat) : Int) - 1) = (k : Int) := by rw [w64 (by omega)]; omega
        have z4 : decide (0 ≤ (k : Int) ∧ (k : Int) < ((k + 1 : Nat) : Int)) = true := by simp; omega
        have w2 : IntKind.wrap .i64 ((k : Int) * m / n + tieQ m n k) = ((k + 1 : Nat) : Int) * m / n := by
          unfold tieQ at *
          rw [w64 (by omega)]
          simp
          omega
        have w3 : IntKind.wrap .i64 ((k : Int) + 1) = ((k + 1 : Nat) : Int) := by rw [w64 (by omega)]; simp
        have e1 : (List.map n3 (sumsTo m n k) ++ [AV.int .i64 (((k + 1 : Nat) : Int) * m / n)]) = List.map n3 (sumsTo m n (k + 1)) := by rw [sumsTo_succ, List.map_append]; rfl
        have e2 : decide ((k + 1 + 1) * 8 ≤ 140737488355328) = true := by simp; omega
        refine ⟨(sumsTo m n (k + 1), ((k + 1 : Nat) : Int)), ?_, ⟨k + 1, by omega, rfl⟩, by simp only; omega⟩
        have hk' : k < n.toNat := by omega
        simp only [z0, decide_true, cond_true, z1, at_ties m n hk', fn3, dn3, Bool.and_self, z2, cond_false, fa3, md3, Bool.and_true, Option.bind_some, z3, sumsTo_length, w1, z4, Int.toNat_natCast, at_sums m n (Nat.le_refl k), w2, w3, e1, e2]
      · right
        have : n.toNat = k := by omega
        refine ⟨.inr (sumsTo m n k), ?_, by rw [this]⟩
        simp only [hkn, decide_false, cond_false, fa3, md3, Bool.and_true, cond_true, Option.bind_some, decide_true]) N ([0], 0) ⟨0, by omega, by simp [sumsTo]⟩ (big_lt hN (by simp only; omega))
  rw [h1, h2]

omit hn hM in
theorem spread2 (e : Int) (l : List Int) : loopR (V := (List Int) × Int) (X := (Bool × (List Int)) ⊕ ((List Int))) (R12x4090 N (tiesTo m m m.toNat, e)) N (l, 0) = some (.inr l) := by
  obtain ⟨x, h1, h2⟩ := loopR_inv (rd := R12x4090 N (tiesTo m m m.toNat, e)) (Inv := fun v => ∃ k : Nat, (k : Int) ≤ m ∧ v = (l, (k : Int))) (m := fun v => (m - v.2).toNat) (Post := fun x => x = .inr l)
    (fun v ⟨k, hk, hv⟩ => by
      subst hv
      unfold R12x4090
      have hlen : ((m.toNat : Nat) : Int) = m := by omega
      simp only [List.length_map, tiesTo_length, hlen, Int.toNat_natCast]
      by_cases hkn : (k : Int) < m
      · left
        have z0 : decide ((k : Int) < m) = true := by simpa using hkn
        have z1 : decide (0 ≤ (k : Int) ∧ (k : Int) < m) = true := by simp; omega
        have t : tieQ m m k = 1 := by
          unfold tieQ
          rw [Int.mul_ediv_cancel _ (by omega), Int.mul_ediv_cancel _ (by omega)]
          omega
        have w3 : IntKind.wrap .i64 ((k : Int) + 1) = ((k + 1 : Nat) : Int) := by rw [w64 (by omega)]; simp
        have hk' : k < m.toNat := by omega
        refine ⟨(l, ((k + 1 : Nat) : Int)), ?_, ⟨k + 1, by omega, rfl⟩, by simp only; omega⟩
        simp only [z0, decide_true, cond_true, z1, at_ties m m hk', fn3, dn3, Bool.and_self, t, bne_self_eq_false, cond_false, fa3, md3, Bool.and_true, Option.bind_some, w3]
      · right
        refine ⟨.inr l, ?_, rfl⟩
        simp only [hkn, decide_false, cond_false, fa3, md3, Bool.and_true, cond_true, Option.bind_some, decide_true]) N (l, 0) ⟨0, by omega, rfl⟩ (big_lt hN (by simp only; omega))
  rw [h1, h2]

include hNN

theorem spread3 (k : Int) (hk : 1 ≤ k ∧ k ≤ n) : ∃ x y : Int, k * m / n ≤ x ∧ y ≤ k * m / n + 1 ∧ x ≤ m ∧ 0 ≤ y ∧ loopR (V := (List Int) × Int × Int × Int) (X := ((List Int) × Int × Int)) (R12x2095690 N a0 a1 (sumsTo m n n.toNat, k)) N (sumsTo m n n.toNat, m, 0, 0) = some (sumsTo m n n.toNat, x, y) := by
  have q := mul_up hm (by omega : 0 ≤ k) hk.2 hn
  obtain ⟨x, h1, u, v, h2, h3, h4, h5, rfl⟩ := loopR_inv (rd := R12x2095690 N a0 a1 (sumsTo m n n.toNat, k)) (Inv := fun v => ∃ i : Nat, ∃ a b : Int, (i : Int) + k ≤ n + 1 ∧ k * m / n ≤ a ∧ b ≤ k * m / n + 1 ∧ a ≤ m ∧ 0 ≤ b ∧ v = (sumsTo m n n.toNat, a, b, (i : Int))) (m := fun v => (n + 1 - v.2.2.2).toNat) (Post := fun x => ∃ u v : Int, k * m / n ≤ u ∧ v ≤ k * m / n + 1 ∧ u ≤ m ∧ 0 ≤ v ∧ x = (sumsTo m n n.toNat, u, v))
    (fun v ⟨i, a, b, hi, ha, hb, ham, hb0, hv⟩ => by
      subst hv
      unfold R12x2095690
      have hlen : ((n.toNat + 1 : Nat) : Int) = n + 1 := by omega
      have w0 : IntKind.wrap .i64 ((i : Int) + k) = (i : Int) + k := w64 (by omega)
      simp only [hM, hNN, List.length_map, sumsTo_length, hlen, w0]
      by_cases hin : (i : Int) + k ≤ n
      · left
        have z0 : decide ((i : Int) + k ≤ n) = true := by simpa using hin
        have z1 : decide (0 ≤ (i : Int) + k ∧ (i : Int) + k < n + 1) = true := by simp; omega
        have z2 : decide (0 ≤ (i : Int) ∧ (i : Int) < n + 1) = true := by simp; omega
        have e1 : ((i : Int) + k).toNat = i + k.toNat := by omega
        have c1 : i + k.toNat ≤ n.toNat := by omega
        have c2 : i ≤ n.toNat := by omega
        have e2 : ((i + k.toNat : Nat) : Int) = (i : Int) + k := by omega
        have wi := window (m := m) (i := (i : Int)) (k := k) hn.1
        have u1 := mul_up (k := (i : Int) + k) hm (by omega) hin hn
        have u2 := mul_up (k := (i : Int)) hm (by omega) (by omega) hn
        have w1 : IntKind.wrap .i64 (((i : Int) + k) * m / n - (i : Int) * m / n) = ((i : Int) + k) * m / n - (i : Int) * m / n := w64 (by omega)
        have w2 : IntKind.wrap .i64 ((i : Int) + 1) = ((i + 1 : Nat) : Int) := by rw [w64 (by omega)]; simp
        refine ⟨(sumsTo m n n.toNat, (if ((i : Int) + k) * m / n - (i : Int) * m / n < a then ((i : Int) + k) * m / n - (i : Int) * m / n else a), (if ((i : Int) + k) * m / n - (i : Int) * m / n > b then ((i : Int) + k) * m / n - (i : Int) * m / n else b), ((i + 1 : Nat) : Int)), ?_, ⟨i + 1, _, _, by omega, ?_, ?_, ?_, ?_, rfl⟩, by simp only; omega⟩
        · simp only [z0, z1, z2, e1, Int.toNat_natCast, at_sums m n c1, at_sums m n c2, e2, fn3, dn3, Bool.and_self, cond_true, w1, w2, fa3, md3, Bool.and_true, Option.bind_some, sumsTo_length, decide_true]
        · split <;> omega
        · split <;> omega
        · split <;> omega
        · split <;> omega
      · right
        refine ⟨(sumsTo m n n.toNat, a, b), ?_, a, b, ha, hb, ham, hb0, rfl⟩
        simp only [hin, decide_false, cond_false, fa3, md3, Bool.and_true, cond_true, Option.bind_some, sumsTo_length, decide_true]) N (sumsTo m n n.toNat, m, 0, 0) ⟨0, m, 0, by omega, q.2, by omega, by omega, by omega, rfl⟩ (big_lt hN (by simp only; omega))
  exact ⟨u, v, h2, h3, h4, h5, h1⟩

theorem spread4 : loopR (V := (List Int) × Int) (X := (Bool × (List Int)) ⊕ ((List Int))) (R12x8186 N a0 a1) N (sumsTo m n n.toNat, 1) = some (.inr (sumsTo m n n.toNat)) := by
  obtain ⟨x, h1, h2⟩ := loopR_inv (rd := R12x8186 N a0 a1) (Inv := fun v => ∃ k : Nat, 1 ≤ k ∧ (k : Int) ≤ n + 1 ∧ v = (sumsTo m n n.toNat, (k : Int))) (m := fun v => (n + 1 - v.2).toNat) (Post := fun x => x = .inr (sumsTo m n n.toNat))
    (fun v ⟨k, hk1, hk, hv⟩ => by
      subst hv
      unfold R12x8186
      simp only [hM, hNN, List.length_map]
      by_cases hkn : (k : Int) ≤ n
      · left
        have z0 : decide ((k : Int) ≤ n) = true := by simpa using hkn
        obtain ⟨x, y, g1, g2, g3, g4, g5⟩ := spread3 hN hm hn hM hNN (k : Int) ⟨by omega, hkn⟩
        have q := mul_up hm (by omega : 0 ≤ (k : Int)) hkn hn
        have w1 : IntKind.wrap .i64 (y - x) = y - x := w64 (by omega)
        have z1 : decide (y - x > 1) = false := by simp; omega
        have w2 : IntKind.wrap .i64 ((k : Int) + 1) = ((k + 1 : Nat) : Int) := by rw [w64 (by omega)]; simp
        refine ⟨(sumsTo m n n.toNat, ((k + 1 : Nat) : Int)), ?_, ⟨k + 1, by omega, by omega, rfl⟩, by simp only; omega⟩
        simp only [z0, cond_true, fa3, md3, Bool.and_true, Option.bind_some, decide_true, g5, w1, z1, cond_false, w2]
      · right
        refine ⟨.inr (sumsTo m n n.toNat), ?_, rfl⟩
        simp only [hkn, decide_false, cond_false, fa3, md3, Bool.and_true, cond_true, Option.bind_some, decide_true]) N (sumsTo m n n.toNat, 1) ⟨1, by omega, by omega, rfl⟩ (big_lt hN (by simp only; omega))
  rw [h1, h2]
end spreads

theorem T12_true {N : Nat} (hN : Big N) {a0 a1 : Int} (h0 : 0 ≤ a0 ∧ a0 ≤ 255) (h1 : 0 ≤ a1 ∧ a1 ≤ 255) : T12 N (a0, a1) = some true := by
  have h22 : T22 N () = some true := rfl
  have w0 : IntKind.wrap .i64 a0 = a0 := w64 (by omega)
  have w1 : IntKind.wrap .i64 a1 = a1 := w64 (by omega)
  have t0 : a0.tmod 60 = a0 % 60 := Int.tmod_eq_emod_of_nonneg (by omega)
  obtain ⟨m, hM, hm⟩ : ∃ m, IntKind.wrap .i64 (1 + (Int.tmod (IntKind.wrap .i64 a0) 60)) = m ∧ 1 ≤ m ∧ m ≤ 60 := by
    refine ⟨1 + a0 % 60, ?_, by omega, by omega⟩
    rw [w0, t0]
    exact w64 (by omega)
  have t1 : a1.tmod m = a1 % m := Int.tmod_eq_emod_of_nonneg (by omega)
  have t2 := Int.emod_nonneg a1 (by omega : m ≠ 0)
  have t3 := Int.emod_lt_of_pos a1 (by omega : 0 < m)
  obtain ⟨n, hNN, hn⟩ : ∃ n, IntKind.wrap .i64 (1 + (Int.tmod (IntKind.wrap .i64 a1) m)) = n ∧ 1 ≤ n ∧ n ≤ m := by
    refine ⟨1 + a1 % m, ?_, by omega, by omega⟩
    rw [w1, t1]
    exact w64 (by omega)
  have hl1 : ((n.toNat : Nat) : Int) = n := by omega
  have hl2 : ((m.toNat : Nat) : Int) = m := by omega
  have z0 : decide (m = 0) = false := by simp; omega
  have e1 : allFit (Pat.fits p26) [(AV.int .i64 0)] = true := rfl
  have e2 : List.map d26 [(AV.int .i64 0)] = [0] := rfl
  have s1 : loopR (V := (List Int) × Int) (X := Bool ⊕ ((List Int))) (R12x2042 N a0 (tiesTo m n n.toNat, 0)) N ([0], 0) = some (.inr (sumsTo m n n.toNat)) := spread1 hN hm hn hM 0
  have s2 := spread2 hN hm 0 (sumsTo m n n.toNat)
  have s4 := spread4 hN hm hn hM hNN
  have z1 : decide (0 ≤ n ∧ n < ((n.toNat + 1 : Nat) : Int)) = true := by simp; omega
  have z2 : n * m / n = m := by rw [Int.mul_comm]; exact Int.mul_ediv_cancel _ (by omega)
  rw [T12_eq]
  simp only [hM, hNN, z0, Bool.not_false, cond_true, T42_val hN (by omega : 1 ≤ m ∧ m ≤ 300) hn, T42_val hN (by omega : 1 ≤ m ∧ m ≤ 300) (by omega : 1 ≤ m ∧ m ≤ m), Option.bind_some, bne_self_eq_false, cond_false, List.length_map, tiesTo_length, hl1, hl2, e1, e2, Bool.and_true, List.length_cons, List.length_nil, Nat.zero_add, decide_true, s1, Sum.elim_inr, fa3, md3, s2, s4, sumsTo_length, z1, at_sums m n (Nat.le_refl n.toNat), z2, fn3, dn3, beq_self_eq_true, h22]
end Go.Proofs.YtpngggdfbbdfaaaDoor
