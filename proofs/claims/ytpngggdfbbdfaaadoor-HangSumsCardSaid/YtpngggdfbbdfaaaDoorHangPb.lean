/- Plain laws: sizes and weights. -/
import Derived.Test.YtpngggdfbbdfaaaDoorHangP
set_option linter.all false
namespace Go.Proofs.YtpngggdfbbdfaaaDoor
open Go Go.Am

theorem bne0 {x : Int} (h : ¬ x = 0) : (x != 0) = true := by simpa using h
theorem beq0 {x : Int} (h : ¬ x = 0) : (x == 0) = false := by simpa using h

theorem T27_rng (N : Nat) (n lo hi : Int) : T27 N (n, lo, hi) = some (rng n lo hi) := by
  rw [T27_eq]
  unfold rng
  by_cases h1 : n < lo
  · simp [h1]
  · by_cases h2 : n > hi <;> simp [h1, h2]

theorem first_loop' (N : Nat) (l : List Int) (hl : l.length ≤ 9223372036854775807) : ∀ (n : Nat) (k : Nat), l.length < n + k → k ≤ l.length →
    ∃ o, loopR (R26x26 N l) n (k : Int) = some o ∧ Sum.elim (fun x => x) (fun _ => 0) o = firstNZ (l.drop k)
  | 0, k, h, hk => by omega
  | n + 1, k, h, hk => by
    rw [loopR_succ]
    by_cases hlt : k < l.length
    · have hd := nthD_map n26 l k hlt
      have e : R26x26 N l k = if l[k] = 0 then some (.inl ((k + 1 : Nat) : Int)) else some (.inr (.inl l[k])) := by
        have e1 : d26 (nthD (List.map n26 l) k) = l[k] := by rw [hd]; rfl
        have e2 : Pat.fits p26 (nthD (List.map n26 l) k) = true := by rw [hd]; rfl
        have e3 : IntKind.wrap .i64 ((k : Int) + 1) = ((k + 1 : Nat) : Int) := by rw [w64 (by omega)]; simp
        have e4 : decide ((k : Int) < (l.length : Int)) = true := by simpa using hlt
        have e5 : decide (0 ≤ (k : Int) ∧ (k : Int) < (l.length : Int)) = true := by simp; omega
        simp only [R26x26, List.length_map, Int.toNat_natCast, e1, e2, e3, e4, e5, Bool.and_self, cond_true]
        by_cases hz : l[k] = 0
        · simp [hz]
        · simp [hz, Bool.cond_eq_ite]
      rw [e, List.drop_eq_getElem_cons hlt]
      by_cases hz : l[k] = 0
      · simp only [hz, if_true, Option.bind_some, Sum.elim_inl, firstNZ]
        exact first_loop' N l hl n (k + 1) (by omega) (by omega)
      · simp only [hz, if_false, Option.bind_some, Sum.elim_inr, firstNZ]
        exact ⟨_, rfl, rfl⟩
    · have e : R26x26 N l k = some (.inr (.inr ())) := by
        have e4 : decide ((k : Int) < (l.length : Int)) = false := by simp; omega
        simp only [R26x26, List.length_map, e4, cond_false]
      rw [e, List.drop_eq_nil_of_le (by omega)]
      exact ⟨_, rfl, rfl⟩

theorem T26_first {N : Nat} (hN : Big N) (l : List Int) (hl : l.length ≤ 9223372036854775807) : T26 N l = some (firstNZ l) := by
  obtain ⟨o, h1, h2⟩ := first_loop' N l hl N 0 (by unfold Big at hN; omega) (Nat.zero_le _)
  rw [T26_eq]
  have h1' : loopR (R26x26 N l) N 0 = some o := h1
  rw [h1', Option.bind_some]
  rw [List.drop_zero] at h2
  rcases o with o | o
  · simpa using h2
  · simpa using h2

theorem four (x y z u : Int) : ((bif (allFit (Pat.fits p26) [(AV.int .i64 x), (AV.int .i64 y), (AV.int .i64 z), (AV.int .i64 u)]) then some (List.map d26 [(AV.int .i64 x), (AV.int .i64 y), (AV.int .i64 z), (AV.int .i64 u)]) else none : Option ((List Int)))) = some [x, y, z, u] := rfl

theorem firstNZ_nest (x y z : Int) : firstNZ [x, firstNZ [y, z]] = firstNZ [x, y, z] := by
  by_cases h1 : x = 0 <;> by_cases h2 : y = 0 <;> by_cases h3 : z = 0 <;> simp [firstNZ, h1, h2, h3]

theorem firstNZ3 {x y z : Int} : firstNZ [x, y, z] = 0 ↔ x = 0 ∧ y = 0 ∧ z = 0 := by
  by_cases h1 : x = 0 <;> by_cases h2 : y = 0 <;> by_cases h3 : z = 0 <;> simp [firstNZ, h1, h2, h3]

theorem firstNZ4 (x y z u : Int) : firstNZ [x, y, z, u] = if firstNZ [x, y, z] = 0 then u else firstNZ [x, y, z] := by
  by_cases h1 : x = 0 <;> by_cases h2 : y = 0 <;> by_cases h3 : z = 0 <;> by_cases h4 : u = 0 <;> simp [firstNZ, h1, h2, h3, h4]

theorem firstNZ2 (x y : Int) : firstNZ [x, y] = if x = 0 then y else x := by
  by_cases h1 : x = 0 <;> by_cases h2 : y = 0 <;> simp [firstNZ, h1, h2]

theorem rng_zero {n lo hi : Int} : rng n lo hi = 0 ↔ lo ≤ n ∧ n ≤ hi := by
  unfold rng
  by_cases h : n < lo ∨ n > hi
  · rw [if_pos h]
    constructor
    · intro h; omega
    · intro h; omega
  · rw [if_neg h]
    constructor
    · intro h; omega
    · intro h; rfl

theorem T77_rng (N : Nat) (n : Int) : T77 N n = some (rng n 1 100) := by rw [T77_eq, T73_rng]; rfl
theorem T78_rng (N : Nat) (n : Int) : T78 N n = some (rng n 1 300) := by rw [T78_eq, T73_rng]; rfl
theorem T94_rng (N : Nat) (n : Int) : T94 N n = some (rng n 0 100) := by rw [T94_eq, T73_rng]; rfl

section low'
variable {N : Nat} (hN : Big N) {a b : Int} (ha : 0 ≤ a) (ha' : a ≤ 9223372036854775807) (hb : 0 < b) (hb' : b ≤ 9223372036854775807)
include hN ha ha' hb hb'
theorem T79_low : T79 N (a, b) = some (low a b) := by
  have hg := gcd_pos (a := a) (b := b) (.inr hb)
  have hz : ¬ (Int.gcd a b : Int) = 0 := by omega
  rw [T79_eq, T66_gcd hN ha (by omega) hb']
  simp only [Option.bind_some, hz, decide_false, Bool.not_false, cond_true, div_in ha ha' hg, div_in (by omega : 0 ≤ b) hb' hg]
  rfl
end low'

section sizes
variable {N : Nat} (hN : Big N)
include hN

theorem T28_first (b m : Int) : T28 N (b, m) = some (firstNZ [rng b 1 100, rng m 1 300]) := by
  rw [T28_eq]
  simp only [T27_rng, Option.bind_some, Bool.and_true, two]
  rw [T26_first hN _ (by simp)]
  rfl

/-- What hangs at a rope. -/
def hangs (r b m : Int) : (Int × Int) × Int :=
  if firstNZ [rng r 1 60000, rng b 1 100, rng m 1 300] ≠ 0 then ((0, 0), firstNZ [rng r 1 60000, rng b 1 100, rng m 1 300])
  else if r > 2 * b * m then ((0, 0), 23) else if (low r (2 * b * m)).2 > 30 then ((0, 0), 4) else (low r (2 * b * m), 0)

omit hN in
theorem bm {b m : Int} (h2 : rng b 1 100 = 0) (h3 : rng m 1 300 = 0) : 1 ≤ b ∧ 1 ≤ m ∧ IntKind.wrap .i64 (2 * b) = 2 * b ∧ IntKind.wrap .i64 (2 * b * m) = 2 * b * m ∧ 0 < 2 * b * m ∧ 2 * b * m ≤ 60000 := by
  have h2 := rng_zero.1 h2
  have h3 := rng_zero.1 h3
  have i1 : 0 < 2 * b * m := Int.mul_pos (by omega) (by omega)
  have i2 : 2 * b * m ≤ 200 * 300 := Int.mul_le_mul (by omega) (by omega) (by omega) (by omega)
  exact ⟨by omega, by omega, w64 (by omega), w64 (by omega), i1, by omega⟩

theorem T29_val (r : Int) {b m : Int} (h1 : rng r 1 60000 = 0) (h2 : rng b 1 100 = 0) (h3 : rng m 1 300 = 0) : T29 N (r, b, m) = some (hangs r b m) := by
  obtain ⟨i1, i2, w1, w2, i3, i4⟩ := bm h2 h3
  have h1' := rng_zero.1 h1
  rw [T29_eq]
  have e : ¬ firstNZ [rng r 1 60000, rng b 1 100, rng m 1 300] ≠ 0 := by simp [firstNZ3, h1, h2, h3]
  unfold hangs
  rw [if_neg e]
  simp only [w1, w2]
  rw [T79_low hN (by omega) (by omega) i3 (by omega)]
  by_cases h4 : r > 2 * b * m
  · simp [h4]
  · by_cases h5 : (low r (2 * b * m)).2 > 30 <;> simp [h4, h5]

theorem T23_val (r b m : Int) : T23 N (r, b, m) = some (hangs r b m) := by
  rw [T23_eq]
  simp only [T73_rng, T77_rng, T78_rng, T74_when, Option.bind_some, Bool.and_true, four]
  rw [T72_first hN _ (by simp)]
  simp only [Option.bind_some, firstNZ4]
  unfold hangs
  by_cases h : firstNZ [rng r 1 60000, rng b 1 100, rng m 1 300] = 0
  · obtain ⟨h1, h2, h3⟩ := firstNZ3.1 h
    obtain ⟨i1, i2, w1, w2, i3, i4⟩ := bm h2 h3
    have h1' := rng_zero.1 h1
    simp only [w1, w2, h, ne_eq, not_true_eq_false, if_false]
    rw [T75_low hN (by omega) (by omega) i3 (by omega)]
    by_cases h4 : r > 2 * b * m
    · simp [h4]
    · by_cases h5 : (low r (2 * b * m)).2 > 30 <;> simp [h4, h5]
  · simp [h, bne0 h]

def sizeErr (n d b m : Int) : Int := firstNZ [chk n d, rng b 1 100, rng m 1 300]

theorem T24_val (n d b m : Int) : T24 N ((n, d), b, m) = some (if sizeErr n d b m = 0 then (low (2 * b * m * n) d, 0) else ((0, 0), sizeErr n d b m)) := by
  rw [T24_eq]
  simp only [T19_chk hN, T77_rng, T78_rng, Option.bind_some, Bool.and_true, three]
  rw [T72_first hN _ (by simp)]
  simp only [Option.bind_some]
  unfold sizeErr
  by_cases h : firstNZ [chk n d, rng b 1 100, rng m 1 300] = 0
  · obtain ⟨h1, h2, h3⟩ := firstNZ3.1 h
    obtain ⟨i1, i2, i3⟩ := chk_zero h1
    have h2' := rng_zero.1 h2
    have h3' := rng_zero.1 h3
    obtain ⟨_, _, w1, w2, i4, i5⟩ := bm h2 h3
    have e : 2 * m * b = 2 * b * m := by rw [Int.mul_right_comm]
    have i6 : 2 * b * m * n ≤ 60000 * 30 := Int.mul_le_mul i5 (by omega) (by omega) (by omega)
    have i7 : 0 ≤ 2 * b * m * n := Int.mul_nonneg (by omega) (by omega)
    have w3 : IntKind.wrap .i64 (2 * m) = 2 * m := w64 (by omega)
    have w4 : IntKind.wrap .i64 (2 * b * m * n) = 2 * b * m * n := w64 (by omega)
    simp only [w3, e, w2, w4, h]
    rw [T75_low hN i7 (by omega) (by omega) (by omega)]
    simp
  · simp [h, bne0 h]

theorem T30_val {n d b m : Int} (h : sizeErr n d b m = 0) : T30 N ((n, d), b, m) = some (low (2 * b * m * n) d) := by
  obtain ⟨h1, h2, h3⟩ := firstNZ3.1 h
  obtain ⟨i1, i2, i3⟩ := chk_zero h1
  obtain ⟨_, _, w1, w2, i4, i5⟩ := bm h2 h3
  have i6 : 2 * b * m * n ≤ 60000 * 30 := Int.mul_le_mul i5 (by omega) (by omega) (by omega)
  have i7 : 0 ≤ 2 * b * m * n := Int.mul_nonneg (by omega) (by omega)
  have w4 : IntKind.wrap .i64 (2 * b * m * n) = 2 * b * m * n := w64 (by omega)
  rw [T30_eq]
  simp only [w1, w2, w4]
  rw [T79_low hN i7 (by omega) (by omega) (by omega)]
  rfl

theorem T25_val (n d b m : Int) : T25 N ((n, d), b, m) = some (if sizeErr n d b m = 0 then (low (2 * b * m * (2 * b * m) * (d * d - n * n)) (d * d), 0) else ((0, 0), sizeErr n d b m)) := by
  rw [T25_eq]
  simp only [T19_chk hN, T77_rng, T78_rng, Option.bind_some, Bool.and_true, three]
  rw [T72_first hN _ (by simp)]
  simp only [Option.bind_some]
  unfold sizeErr
  by_cases h : firstNZ [chk n d, rng b 1 100, rng m 1 300] = 0
  · obtain ⟨h1, h2, h3⟩ := firstNZ3.1 h
    obtain ⟨i1, i2, i3⟩ := chk_zero h1
    obtain ⟨e1, e2, e3, e4, e5, e6, j1, j2, j3, j4, j5, j6, j7, j8⟩ := numbers i1 i2 i3
    have h2' := rng_zero.1 h2
    have h3' := rng_zero.1 h3
    obtain ⟨_, _, w1, w2, i4, i5⟩ := bm h2 h3
    have e : 2 * m * b = 2 * b * m := by rw [Int.mul_right_comm]
    have i6 : 2 * b * m * (2 * b * m) ≤ 60000 * 60000 := Int.mul_le_mul i5 i5 (by omega) (by omega)
    have i7 : 0 ≤ 2 * b * m * (2 * b * m) := Int.mul_nonneg (by omega) (by omega)
    have i8 : 2 * b * m * (2 * b * m) * (d * d - n * n) ≤ 3600000000 * 900 := Int.mul_le_mul i6 j4 j1 (by omega)
    have i9 : 0 ≤ 2 * b * m * (2 * b * m) * (d * d - n * n) := Int.mul_nonneg i7 j1
    have w3 : IntKind.wrap .i64 (2 * m) = 2 * m := w64 (by omega)
    have w4 : IntKind.wrap .i64 (2 * b * m * (2 * b * m)) = 2 * b * m * (2 * b * m) := w64 (by omega)
    have w5 : IntKind.wrap .i64 (2 * b * m * (2 * b * m) * (d * d - n * n)) = 2 * b * m * (2 * b * m) * (d * d - n * n) := w64 (by omega)
    simp only [w3, e, w2, w4, e1, e2, e3, w5, h]
    rw [T69_low hN i9 (by omega) j2 (by omega)]
    simp
  · simp [h, bne0 h]

theorem T31_val {n d b m : Int} (h : sizeErr n d b m = 0) : T31 N ((n, d), b, m) = some (low (2 * b * m * (2 * b * m) * (d * d - n * n)) (d * d)) := by
  obtain ⟨h1, h2, h3⟩ := firstNZ3.1 h
  obtain ⟨i1, i2, i3⟩ := chk_zero h1
  obtain ⟨e1, e2, e3, e4, e5, e6, j1, j2, j3, j4, j5, j6, j7, j8⟩ := numbers i1 i2 i3
  obtain ⟨_, _, w1, w2, i4, i5⟩ := bm h2 h3
  have i6 : 2 * b * m * (2 * b * m) ≤ 60000 * 60000 := Int.mul_le_mul i5 i5 (by omega) (by omega)
  have i7 : 0 ≤ 2 * b * m * (2 * b * m) := Int.mul_nonneg (by omega) (by omega)
  have i8 : 2 * b * m * (2 * b * m) * (d * d - n * n) ≤ 3600000000 * 900 := Int.mul_le_mul i6 j4 j1 (by omega)
  have i9 : 0 ≤ 2 * b * m * (2 * b * m) * (d * d - n * n) := Int.mul_nonneg i7 j1
  have w4 : IntKind.wrap .i64 (2 * b * m * (2 * b * m)) = 2 * b * m * (2 * b * m) := w64 (by omega)
  have w5 : IntKind.wrap .i64 (2 * b * m * (2 * b * m) * (d * d - n * n)) = 2 * b * m * (2 * b * m) * (d * d - n * n) := w64 (by omega)
  rw [T31_eq]
  simp only [w1, w2, w4, e1, e2, e3, w5]
  rw [T71_low hN i9 (by omega) j2 (by omega)]
  rfl

theorem T4_true (a : Int × Int × Int × Int × Int) : T4 N a = some true := by
  obtain ⟨n, d, r, b, m⟩ := a
  have h22 : T22 N () = some true := rfl
  rw [T4_eq]
  simp only [T23_val hN, T24_val hN, T25_val hN, T16_chk hN, T28_first hN, T27_rng, Option.bind_some, Bool.and_true, beq_self_eq_true, cond_true, two, h22]
  rw [T26_first hN _ (by simp), T26_first hN _ (by simp)]
  simp only [Option.bind_some, firstNZ_nest]
  have e1 : firstNZ [chk n d, rng b 1 100, rng m 1 300] = sizeErr n d b m := rfl
  rw [e1]
  have f1 : ((bif (firstNZ [rng r 1 60000, rng b 1 100, rng m 1 300] == 0) then (T29 N (r, b, m)).bind fun y12 => (some (y12.2, y12.1.1, y12.1.2)) else (some (firstNZ [rng r 1 60000, rng b 1 100, rng m 1 300], 0, 0))) : Option ((Int × Int × Int))) =
      some ((hangs r b m).2, (hangs r b m).1.1, (hangs r b m).1.2) := by
    by_cases h : firstNZ [rng r 1 60000, rng b 1 100, rng m 1 300] = 0
    · obtain ⟨h1, h2, h3⟩ := firstNZ3.1 h
      rw [T29_val hN r h1 h2 h3, h]
      rfl
    · have : (firstNZ [rng r 1 60000, rng b 1 100, rng m 1 300] == 0) = false := by simpa using h
      rw [this]
      unfold hangs
      rw [if_pos h]
      rfl
  rw [f1]
  by_cases h : sizeErr n d b m = 0
  · simp only [T30_val hN h, T31_val hN h, h]
    simp
  · have : (sizeErr n d b m == 0) = false := by simpa using h
    simp [this, h]
end sizes

section weights
variable {N : Nat} (hN : Big N)
include hN

def lineErr (b k m : Int) : Int := firstNZ [rng b 0 100000, rng k 0 100000, rng m 1 100]

theorem T93_val (b k m : Int) : T93 N (b, k, m) = some (lineErr b k m) := by
  rw [T93_eq]
  simp only [T73_rng, T77_rng, Option.bind_some, Bool.and_true, three]
  rw [T72_first hN _ (by simp)]
  rfl

/-- The length of a line, or its error. -/
def lineLen (b k m a : Int) : Int × Int := if firstNZ [lineErr b k m, rng a 0 100] = 0 then (IntKind.wrap .i64 (IntKind.wrap .i64 (b * m) + IntKind.wrap .i64 (k * a)), 0) else (0, firstNZ [lineErr b k m, rng a 0 100])

theorem T55_val (b k m a : Int) : T55 N (b, k, m, a) = some (lineLen b k m a) := by
  rw [T55_eq]
  simp only [T93_val hN, T94_rng, Option.bind_some, Bool.and_true, two]
  rw [T72_first hN _ (by simp)]
  simp only [Option.bind_some]
  unfold lineLen
  by_cases h : firstNZ [lineErr b k m, rng a 0 100] = 0
  · simp [h]
  · simp [h, bne0 h]

def weightErr (l t : Int) : Int := firstNZ [rng l 0 999999999, rng t 1 100000]
def weightOf (l t : Int) : Int := IntKind.wrap .i64 (Int.tdiv (IntKind.wrap .i64 (l * t)) 1000)
def weights (l t : Int) : Int × Int := if weightErr l t = 0 then if weightOf l t > 999999999 then (0, 4) else (weightOf l t, 0) else (0, weightErr l t)

theorem T56_val (l t : Int) : T56 N (l, t) = some (weights l t) := by
  rw [T56_eq]
  simp only [T73_rng, Option.bind_some, Bool.and_true, two, T95_eq]
  rw [T72_first hN _ (by simp)]
  simp only [Option.bind_some]
  have e : firstNZ [rng l 0 999999999, rng t 1 100000] = weightErr l t := rfl
  have e' : IntKind.wrap .i64 (Int.tdiv (IntKind.wrap .i64 (l * t)) 1000) = weightOf l t := rfl
  rw [e, e']
  unfold weights
  by_cases h : weightErr l t = 0
  · by_cases h2 : weightOf l t > 999999999 <;> simp [h, h2]
  · simp [h, bne0 h]

theorem T57_val (b k m a : Int) : T57 N (b, k, m, a) = some (firstNZ [lineErr b k m, rng a 0 100]) := by
  rw [T57_eq]
  simp only [T27_rng, Option.bind_some, Bool.and_true, four]
  rw [T26_first hN _ (by simp)]
  simp only [Option.bind_some, firstNZ4]
  rw [firstNZ2]
  rfl

theorem T8_true (a : Int × Int × Int × Int) (l t : Int) : T8 N (a, l, t) = some true := by
  obtain ⟨b, k, m, x⟩ := a
  have h22 : T22 N () = some true := rfl
  rw [T8_eq]
  simp only [T55_val hN, T56_val hN, T57_val hN, T27_rng, Option.bind_some, Bool.and_true, two, h22, T58_eq, T59_eq]
  rw [T26_first hN _ (by simp)]
  have e : firstNZ [rng l 0 999999999, rng t 1 100000] = weightErr l t := rfl
  have e' : IntKind.wrap .i64 (Int.tdiv (IntKind.wrap .i64 (l * t)) 1000) = weightOf l t := rfl
  simp only [Option.bind_some, e, e']
  unfold lineLen weights
  have a1 : ∀ y : Int, ∀ z : Int, ((bif (y == 0) then some z else some 0 : Option Int)) = some (if y = 0 then z else 0) := fun y z => by
    by_cases h : y = 0
    · simp [h]
    · simp [h, beq0 h]
  rw [a1, Option.bind_some]
  by_cases h1 : firstNZ [lineErr b k m, rng x 0 100] = 0 <;> by_cases h2 : weightErr l t = 0
  · by_cases h3 : weightOf l t > 999999999 <;> simp [h1, h2, h3]
  · simp [h1, h2, beq0 h2]
  · by_cases h3 : weightOf l t > 999999999 <;> simp [h1, h2, h3]
  · simp [h1, h2, beq0 h2]
end weights
end Go.Proofs.YtpngggdfbbdfaaaDoor
