/- Plain laws about what the functions compute. -/
import Derived.Test.YtpngggdfbbdfaaaDoorHangT
import Derived.IntWalk
set_option linter.all false
namespace Go.Proofs.YtpngggdfbbdfaaaDoor
open Go Go.Am

theorem w64 {x : Int} (h : -9223372036854775808 ≤ x ∧ x ≤ 9223372036854775807) : IntKind.wrap .i64 x = x := IntWalk.i64_in x (by omega)

/-- Enough rounds for every loop. -/
def Big (N : Nat) : Prop := 18446744073709551616 ≤ N

theorem loopR_succ {V X : Type} (rd : V → Option (V ⊕ X)) (n : Nat) (v : V) : loopR rd (n + 1) v = (rd v).bind fun o => Sum.elim (fun v' => loopR rd n v') (fun x => some x) o := rfl

theorem nthD_map {α : Type} (g : α → AV) (xs : List α) (k : Nat) (h : k < xs.length) : nthD (xs.map g) k = g xs[k] := by
  unfold nthD
  rw [nth_eq, List.getElem?_map, List.getElem?_eq_getElem h]
  rfl

theorem gcd_step {a b : Int} (ha : 0 ≤ a) (hb : 0 < b) : (Int.gcd b (a.tmod b) : Int) = Int.gcd a b := by
  rw [Int.tmod_eq_emod_of_nonneg ha]
  obtain ⟨m, rfl⟩ := Int.eq_ofNat_of_zero_le ha
  obtain ⟨n, rfl⟩ := Int.eq_ofNat_of_zero_le (Int.le_of_lt hb)
  rw [← Int.natCast_emod]
  simp only [Int.gcd, Int.natAbs_natCast]
  rw [Nat.gcd_comm, ← Nat.gcd_rec, Nat.gcd_comm]

theorem gcd_zero {a : Int} (ha : 0 ≤ a) : (Int.gcd a 0 : Int) = a := by simp; omega

theorem divisor_loop (N : Nat) : ∀ (n : Nat) (a b : Int), 0 ≤ a → 0 ≤ b → b.toNat < n → loopR (R112x12 N) n (a, b) = some (Int.gcd a b : Int)
  | 0, _, _, _, _, h => absurd h (Nat.not_lt_zero _)
  | n + 1, a, b, ha, hb, h => by
    rw [loopR_succ]
    by_cases hz : b = 0
    · subst hz
      have e : R112x12 N (a, 0) = some (.inr a) := by simp [R112x12]
      rw [e, gcd_zero ha]
      rfl
    · have hb' : 0 < b := by omega
      have e : R112x12 N (a, b) = some (.inl (b, a.tmod b)) := by simp [R112x12, hz, Bool.cond_eq_ite]
      rw [e]
      simp only [Option.bind_some, Sum.elim_inl]
      have h1 := Int.tmod_nonneg b ha
      have h2 := Int.tmod_lt_of_pos a hb'
      rw [divisor_loop N n b (a.tmod b) hb h1 (by omega), gcd_step ha hb']

theorem T112_gcd {N : Nat} (hN : Big N) {a b : Int} (ha : 0 ≤ a) (hb : 0 ≤ b) (hb' : b ≤ 9223372036854775807) : T112 N (a, b) = some (Int.gcd a b : Int) := by
  rw [T112_eq, divisor_loop N N a b ha hb (by unfold Big at hN; omega)]
  rfl

theorem T66r_gcd (N : Nat) : ∀ (n : Nat) (a b : Int), 0 ≤ a → 0 ≤ b → b.toNat < n → T66r N n (a, b) = some (Int.gcd a b : Int)
  | 0, _, _, _, _, h => absurd h (Nat.not_lt_zero _)
  | n + 1, a, b, ha, hb, h => by
    rw [T66r_eq]
    by_cases hz : b = 0
    · subst hz
      rw [gcd_zero ha]
      rfl
    · have hb' : 0 < b := by omega
      have h1 := Int.tmod_nonneg b ha
      have h2 := Int.tmod_lt_of_pos a hb'
      rw [T66r_gcd N n b (a.tmod b) hb h1 (by omega), gcd_step ha hb']
      simp [hz, Bool.cond_eq_ite]

theorem T66_gcd {N : Nat} (hN : Big N) {a b : Int} (ha : 0 ≤ a) (hb : 0 ≤ b) (hb' : b ≤ 9223372036854775807) : T66 N (a, b) = some (Int.gcd a b : Int) :=
  T66r_gcd N N a b ha hb (by unfold Big at hN; omega)

/-- Lowest terms. -/
def low (a b : Int) : Int × Int := (a / (Int.gcd a b : Int), b / (Int.gcd a b : Int))

theorem gcd_pos {a b : Int} (h : 0 < a ∨ 0 < b) : 0 < (Int.gcd a b : Int) := by
  have : 0 < Int.gcd a b := Int.gcd_pos_iff.2 (by omega)
  omega

theorem div_in {a g : Int} (ha : 0 ≤ a) (ha' : a ≤ 9223372036854775807) (hg : 0 < g) : IntKind.wrap .i64 (a.tdiv g) = a / g := by
  rw [Int.tdiv_eq_ediv_of_nonneg ha]
  have h1 : 0 ≤ a / g := Int.ediv_nonneg ha (by omega)
  have h2 : a / g ≤ a := Int.ediv_le_self g ha
  exact w64 (by omega)

section low
variable {N : Nat} (hN : Big N) {a b : Int} (ha : 0 ≤ a) (ha' : a ≤ 9223372036854775807) (hb : 0 < b) (hb' : b ≤ 9223372036854775807)
include hN ha ha' hb hb'

theorem T104_low : T104 N (a, b) = some (low a b) := by
  have hg := gcd_pos (a := a) (b := b) (.inr hb)
  have hz : ¬ (Int.gcd a b : Int) = 0 := by omega
  rw [T104_eq, T112_gcd hN ha (by omega) hb']
  simp only [Option.bind_some, hz, decide_false, Bool.not_false, cond_true, div_in ha ha' hg, div_in (by omega : 0 ≤ b) hb' hg]
  rfl
theorem T75_low : T75 N (a, b) = some (low a b) := by rw [T75_eq, T104_low hN ha ha' hb hb']; rfl
theorem T69_low : T69 N (a, b) = some (low a b) := by rw [T69_eq, T104_low hN ha ha' hb hb']; rfl
theorem T71_low : T71 N (a, b) = some (low a b) := by
  have hg := gcd_pos (a := a) (b := b) (.inr hb)
  have hz : ¬ (Int.gcd a b : Int) = 0 := by omega
  rw [T71_eq, T66_gcd hN ha (by omega) hb']
  simp only [Option.bind_some, hz, decide_false, Bool.not_false, cond_true, div_in ha ha' hg, div_in (by omega : 0 ≤ b) hb' hg]
  rfl
end low

theorem T74_when (N : Nat) (b : Bool) (e : Int) : T74 N (b, e) = some (if b then e else 0) := by rw [T74_eq]; cases b <;> rfl

/-- The error of a number that is out of a range. -/
def rng (n lo hi : Int) : Int := if n < lo ∨ n > hi then 3 else 0

theorem T73_rng (N : Nat) (n lo hi : Int) : T73 N (n, lo, hi) = some (rng n lo hi) := by
  rw [T73_eq, T74_when, T74_when]
  unfold rng
  by_cases h1 : n < lo
  · simp [h1]
  · by_cases h2 : n > hi <;> simp [h1, h2]

/-- The first number that is not 0. -/
def firstNZ : List Int → Int
  | [] => 0
  | x :: l => if x = 0 then firstNZ l else x

theorem first_loop (N : Nat) (l : List Int) (hl : l.length ≤ 9223372036854775807) : ∀ (n : Nat) (k : Nat), l.length < n + k → k ≤ l.length →
    ∃ o, loopR (R72x26 N l) n (k : Int) = some o ∧ Sum.elim (fun x => x) (fun _ => 0) o = firstNZ (l.drop k)
  | 0, k, h, hk => by omega
  | n + 1, k, h, hk => by
    rw [loopR_succ]
    by_cases hlt : k < l.length
    · have hd := nthD_map n26 l k hlt
      have e : R72x26 N l k = if l[k] = 0 then some (.inl ((k + 1 : Nat) : Int)) else some (.inr (.inl l[k])) := by
        have e1 : d26 (nthD (List.map n26 l) k) = l[k] := by rw [hd]; rfl
        have e2 : Pat.fits p26 (nthD (List.map n26 l) k) = true := by rw [hd]; rfl
        have e3 : IntKind.wrap .i64 ((k : Int) + 1) = ((k + 1 : Nat) : Int) := by rw [w64 (by omega)]; simp
        have e4 : decide ((k : Int) < (l.length : Int)) = true := by simpa using hlt
        have e5 : decide (0 ≤ (k : Int) ∧ (k : Int) < (l.length : Int)) = true := by simp; omega
        simp only [R72x26, List.length_map, Int.toNat_natCast, e1, e2, e3, e4, e5, Bool.and_self, cond_true]
        by_cases hz : l[k] = 0
        · simp [hz]
        · simp [hz, Bool.cond_eq_ite]
      rw [e, List.drop_eq_getElem_cons hlt]
      by_cases hz : l[k] = 0
      · simp only [hz, if_true, Option.bind_some, Sum.elim_inl, firstNZ]
        exact first_loop N l hl n (k + 1) (by omega) (by omega)
      · simp only [hz, if_false, Option.bind_some, Sum.elim_inr, firstNZ]
        exact ⟨_, rfl, rfl⟩
    · have e : R72x26 N l k = some (.inr (.inr ())) := by
        have e4 : decide ((k : Int) < (l.length : Int)) = false := by simp; omega
        simp only [R72x26, List.length_map, e4, cond_false]
      rw [e, List.drop_eq_nil_of_le (by omega)]
      exact ⟨_, rfl, rfl⟩

theorem T72_first {N : Nat} (hN : Big N) (l : List Int) (hl : l.length ≤ 9223372036854775807) : T72 N l = some (firstNZ l) := by
  obtain ⟨o, h1, h2⟩ := first_loop N l hl N 0 (by unfold Big at hN; omega) (Nat.zero_le _)
  rw [T72_eq]
  have h1' : loopR (R72x26 N l) N 0 = some o := h1
  rw [h1', Option.bind_some]
  rw [List.drop_zero] at h2
  rcases o with o | o
  · simpa using h2
  · simpa using h2

theorem low_eq {a b : Int} (ha : 0 ≤ a) (hb : 0 < b) : ((low a b).1 = a ∧ (low a b).2 = b) ↔ (Int.gcd a b : Int) = 1 := by
  have hg := gcd_pos (a := a) (b := b) (.inr hb)
  unfold low
  constructor
  · intro ⟨_, h⟩
    simp only at h
    generalize (Int.gcd a b : Int) = g at *
    by_cases h1 : g = 1
    · exact h1
    · have h2 : b / g < b := Int.ediv_lt_self_of_pos_of_ne_one hb (by omega)
      omega
  · intro h
    rw [h]
    simp

/-- A ratio's error. -/
def chk (n d : Int) : Int := if n < 1 ∨ n > 30 ∨ d < 1 ∨ d > 30 then 3 else if n > d then 11 else if (Int.gcd n d : Int) = 1 then 0 else 1

def chk' (n d : Int) : Int := if n < 0 ∨ n > 4000000000000 ∨ d < 1 ∨ d > 810000 then 3 else if (Int.gcd n d : Int) = 1 then 0 else 1

theorem three (x y z : Int) : ((bif (allFit (Pat.fits p26) [(AV.int .i64 x), (AV.int .i64 y), (AV.int .i64 z)]) then some (List.map d26 [(AV.int .i64 x), (AV.int .i64 y), (AV.int .i64 z)]) else none : Option ((List Int)))) = some [x, y, z] := rfl
theorem two (x y : Int) : ((bif (allFit (Pat.fits p26) [(AV.int .i64 x), (AV.int .i64 y)]) then some (List.map d26 [(AV.int .i64 x), (AV.int .i64 y)]) else none : Option ((List Int)))) = some [x, y] := rfl

section chk
variable {N : Nat} (hN : Big N) (n d : Int)
include hN

theorem T16_chk : T16 N (n, d) = some (chk n d) := by
  rw [T16_eq]
  unfold chk
  by_cases h : n < 1 ∨ n > 30 ∨ d < 1 ∨ d > 30
  · rw [if_pos h]
    have e : (bif (decide (n < 1)) then (some true) else (bif (decide (n > 30)) then (some true) else (bif (decide (d < 1)) then (some true) else (some (decide (d > 30))))) : Option Bool) = some true := by
      simp only [Bool.cond_eq_ite]
      by_cases h1 : n < 1 <;> by_cases h2 : n > 30 <;> by_cases h3 : d < 1 <;> simp [h1, h2, h3] <;> omega
    simp only [e]
    rfl
  · rw [if_neg h]
    have h1 : ¬ n < 1 := by omega
    have h2 : ¬ n > 30 := by omega
    have h3 : ¬ d < 1 := by omega
    have h4 : ¬ d > 30 := by omega
    simp only [h1, h2, h3, h4, decide_false, cond_false, Option.bind_some]
    rw [T66_gcd hN (by omega) (by omega) (by omega)]
    by_cases h5 : n > d
    · simp [h5]
    · by_cases h6 : (Int.gcd n d : Int) = 1 <;> simp [h5, h6, Bool.cond_eq_ite]

theorem T21_chk : T21 N (n, d) = some (chk' n d) := by
  rw [T21_eq]
  unfold chk'
  by_cases h : n < 0 ∨ n > 4000000000000 ∨ d < 1 ∨ d > 810000
  · rw [if_pos h]
    have e : (bif (decide (n < 0)) then (some true) else (bif (decide (n > 4000000000000)) then (some true) else (bif (decide (d < 1)) then (some true) else (some (decide (d > 810000))))) : Option Bool) = some true := by
      simp only [Bool.cond_eq_ite]
      by_cases h1 : n < 0 <;> by_cases h2 : n > 4000000000000 <;> by_cases h3 : d < 1 <;> simp [h1, h2, h3] <;> omega
    simp only [e]
    rfl
  · rw [if_neg h]
    have h1 : ¬ n < 0 := by omega
    have h2 : ¬ n > 4000000000000 := by omega
    have h3 : ¬ d < 1 := by omega
    have h4 : ¬ d > 810000 := by omega
    simp only [h1, h2, h3, h4, decide_false, cond_false, Option.bind_some]
    rw [T66_gcd hN (by omega) (by omega) (by omega)]
    by_cases h6 : (Int.gcd n d : Int) = 1 <;> simp [h6, Bool.cond_eq_ite]

theorem T19_chk : T19 N (n, d) = some (chk n d) := by
  rw [T19_eq]
  simp only [T73_rng, T74_when, Option.bind_some, beq_self_eq_true, Bool.and_true, cond_true, three]
  rw [T72_first hN _ (by simp)]
  simp only [Option.bind_some]
  unfold chk
  by_cases h : n < 1 ∨ n > 30 ∨ d < 1 ∨ d > 30
  · rw [if_pos h]
    have e : firstNZ [rng n 1 30, rng d 1 30, if decide (n > d) = true then 11 else 0] = 3 := by
      unfold rng
      by_cases h1 : n < 1 ∨ n > 30
      · simp [h1, firstNZ]
      · have h2 : d < 1 ∨ d > 30 := by omega
        simp [h1, h2, firstNZ]
    rw [e]
    rfl
  · rw [if_neg h]
    have h1 : ¬ (n < 1 ∨ n > 30) := by omega
    have h2 : ¬ (d < 1 ∨ d > 30) := by omega
    have e : firstNZ [rng n 1 30, rng d 1 30, if decide (n > d) = true then 11 else 0] = if n > d then 11 else 0 := by
      unfold rng
      by_cases h3 : n > d <;> simp [h1, h2, h3, firstNZ]
    rw [e, T75_low hN (by omega) (by omega) (by omega) (by omega)]
    by_cases h3 : n > d
    · simp [h3]
    · have := low_eq (a := n) (b := d) (by omega) (by omega)
      by_cases h4 : (Int.gcd n d : Int) = 1
      · obtain ⟨e1, e2⟩ := this.2 h4
        simp [h3, h4, e1, e2]
      · have h5 : ¬ ((low n d).1 = n ∧ (low n d).2 = d) := fun h => h4 (this.1 h)
        simp [h3, h4]
        exact fun h7 h8 => h5 ⟨h7, h8⟩

theorem T20_chk : T20 N (n, d) = some (chk' n d) := by
  rw [T20_eq]
  simp only [T73_rng, T74_when, Option.bind_some, beq_self_eq_true, Bool.and_true, cond_true, two]
  rw [T72_first hN _ (by simp)]
  simp only [Option.bind_some]
  unfold chk'
  by_cases h : n < 0 ∨ n > 4000000000000 ∨ d < 1 ∨ d > 810000
  · rw [if_pos h]
    have e : firstNZ [rng n 0 4000000000000, rng d 1 810000] = 3 := by
      unfold rng
      by_cases h1 : n < 0 ∨ n > 4000000000000
      · simp [h1, firstNZ]
      · have h2 : d < 1 ∨ d > 810000 := by omega
        simp [h1, h2, firstNZ]
    rw [e]
    rfl
  · rw [if_neg h]
    have h1 : ¬ (n < 0 ∨ n > 4000000000000) := by omega
    have h2 : ¬ (d < 1 ∨ d > 810000) := by omega
    have e : firstNZ [rng n 0 4000000000000, rng d 1 810000] = 0 := by
      unfold rng
      simp [h1, h2, firstNZ]
    rw [e, T69_low hN (by omega) (by omega) (by omega) (by omega)]
    have := low_eq (a := n) (b := d) (by omega) (by omega)
    by_cases h4 : (Int.gcd n d : Int) = 1
    · obtain ⟨e1, e2⟩ := this.2 h4
      simp [h4, e1, e2]
    · have h5 : ¬ ((low n d).1 = n ∧ (low n d).2 = d) := fun h => h4 (this.1 h)
      simp [h4]
      exact fun h7 h8 => h5 ⟨h7, h8⟩
end chk

section valid
variable {N : Nat} (hN : Big N) {n d : Int} (hn : 1 ≤ n) (hd : n ≤ d) (hd' : d ≤ 30)
include hN hn hd hd'

omit hN in
theorem numbers : IntKind.wrap .i64 (d * d) = d * d ∧ IntKind.wrap .i64 (n * n) = n * n ∧ IntKind.wrap .i64 (d * d - n * n) = d * d - n * n ∧
    IntKind.wrap .i64 (4 * (n * n)) = 4 * (n * n) ∧ IntKind.wrap .i64 (4 * (n * n) * (d * d - n * n)) = 4 * (n * n) * (d * d - n * n) ∧ IntKind.wrap .i64 (d * d * (d * d)) = d * d * (d * d) ∧
    0 ≤ d * d - n * n ∧ 0 < d * d ∧ d * d ≤ 900 ∧ d * d - n * n ≤ 900 ∧ 0 ≤ 4 * (n * n) * (d * d - n * n) ∧ 4 * (n * n) * (d * d - n * n) ≤ 3240000 ∧ 0 < d * d * (d * d) ∧ d * d * (d * d) ≤ 810000 := by
  have h1 : 0 < d * d := Int.mul_pos (by omega) (by omega)
  have h2 : d * d ≤ 30 * 30 := Int.mul_le_mul hd' hd' (by omega) (by omega)
  have h3 : n * n ≤ d * d := Int.mul_le_mul hd hd (by omega) (by omega)
  have h4 : 0 < n * n := Int.mul_pos (by omega) (by omega)
  generalize d * d = D at *
  generalize n * n = M at *
  have h5 : 0 ≤ 4 * M * (D - M) := Int.mul_nonneg (by omega) (by omega)
  have h6 : 4 * M * (D - M) ≤ 3600 * 900 := Int.mul_le_mul (by omega) (by omega) (by omega) (by omega)
  have h7 : 0 < D * D := Int.mul_pos (by omega) (by omega)
  have h8 : D * D ≤ 900 * 900 := Int.mul_le_mul (by omega) (by omega) (by omega) (by omega)
  exact ⟨w64 (by omega), w64 (by omega), w64 (by omega), w64 (by omega), w64 (by omega), w64 (by omega), by omega, by omega, by omega, by omega, by omega, by omega, by omega, by omega⟩

theorem T17_val : T17 N (n, d) = some (low (d * d - n * n) (d * d)) := by
  obtain ⟨e1, e2, e3, e4, e5, e6, i1, i2, i3, i4, i5, i6, i7, i8⟩ := numbers hn hd hd'
  rw [T17_eq]
  simp only [e1, e2, e3]
  rw [T71_low hN (by omega) (by omega) (by omega) (by omega)]
  rfl
theorem T18_val : T18 N (n, d) = some (low (4 * (n * n) * (d * d - n * n)) (d * d * (d * d))) := by
  obtain ⟨e1, e2, e3, e4, e5, e6, i1, i2, i3, i4, i5, i6, i7, i8⟩ := numbers hn hd hd'
  rw [T18_eq]
  simp only [e1, e2, e3, e4, e5, e6]
  rw [T71_low hN (by omega) (by omega) (by omega) (by omega)]
  rfl
theorem T14_val (h : chk n d = 0) : T14 N (n, d) = some (low (d * d - n * n) (d * d), 0) := by
  obtain ⟨e1, e2, e3, e4, e5, e6, i1, i2, i3, i4, i5, i6, i7, i8⟩ := numbers hn hd hd'
  rw [T14_eq, T19_chk hN, h]
  simp only [e1, e2, e3]
  rw [T69_low hN (by omega) (by omega) (by omega) (by omega)]
  rfl
theorem T15_val (h : chk n d = 0) : T15 N (n, d) = some (low (4 * (n * n) * (d * d - n * n)) (d * d * (d * d)), 0) := by
  obtain ⟨e1, e2, e3, e4, e5, e6, i1, i2, i3, i4, i5, i6, i7, i8⟩ := numbers hn hd hd'
  rw [T15_eq, T19_chk hN, h]
  simp only [Option.bind_some, T70_eq, e1, e2, e3, e4, e5, e6]
  rw [T69_low hN (by omega) (by omega) (by omega) (by omega)]
  rfl
end valid

theorem chk_zero {n d : Int} (h : chk n d = 0) : 1 ≤ n ∧ n ≤ d ∧ d ≤ 30 := by
  unfold chk at h
  by_cases h1 : n < 1 ∨ n > 30 ∨ d < 1 ∨ d > 30
  · rw [if_pos h1] at h
    omega
  · rw [if_neg h1] at h
    by_cases h2 : n > d
    · rw [if_pos h2] at h
      omega
    · omega

theorem T3_true {N : Nat} (hN : Big N) (a b : Int × Int) : T3 N (a, b) = some true := by
  obtain ⟨n, d⟩ := a
  obtain ⟨x, y⟩ := b
  rw [T3_eq]
  have h22 : T22 N () = some true := rfl
  simp only [T16_chk hN, T19_chk hN, T20_chk hN, T21_chk hN, Option.bind_some, h22]
  by_cases h : chk n d = 0
  · obtain ⟨h1, h2, h3⟩ := chk_zero h
    rw [T14_val hN h1 h2 h3 h, T15_val hN h1 h2 h3 h, T17_val hN h1 h2 h3, T18_val hN h1 h2 h3]
    simp [h]
  · have g1 : (chk n d == 0) = false := by simpa using h
    have g2 : (chk n d != 0) = true := by simpa using h
    have e14 : T14 N (n, d) = some ((0, 0), chk n d) := by
      rw [T14_eq, T19_chk hN]
      simp [g2]
    have e15 : T15 N (n, d) = some ((0, 0), chk n d) := by
      rw [T15_eq, T19_chk hN]
      simp [g2]
    rw [e14, e15]
    simp [g1]

end Go.Proofs.YtpngggdfbbdfaaaDoor
