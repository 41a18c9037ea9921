/- Plain laws: roots. -/
import Derived.Test.YtpngggdfbbdfaaaDoorHangPb
set_option linter.all false
namespace Go.Proofs.YtpngggdfbbdfaaaDoor
open Go Go.Am

theorem loopR_spec {V X : Type} {rd : V → Option (V ⊕ X)} {Inv : V → Prop} {m : V → Nat} {Post : X → Prop}
    (h : ∀ v, Inv v → (∃ v', rd v = some (.inl v') ∧ Inv v' ∧ m v' < m v) ∨ ∃ x, rd v = some (.inr x) ∧ Post x) :
    ∀ (n : Nat) (v : V), Inv v → m v < n → ∃ x, loopR rd n v = some x ∧ Post x
  | 0, _, _, hm => absurd hm (Nat.not_lt_zero _)
  | n + 1, v, hi, hm => by
    rw [loopR_succ]
    rcases h v hi with ⟨v', h1, h2, h3⟩ | ⟨x, h1, h2⟩
    · rw [h1]
      exact loopR_spec h n v' h2 (by omega)
    · rw [h1]
      exact ⟨x, rfl, h2⟩

/-- Two loops that go in step. -/
theorem loopR_two {V X : Type} {rd rd' : V → Option (V ⊕ X)} {Inv : V → Prop} {m : V → Nat} {Post : X → Prop}
    (h : ∀ v, Inv v → (∃ v', rd v = some (.inl v') ∧ rd' v = some (.inl v') ∧ Inv v' ∧ m v' < m v) ∨ ∃ x, rd v = some (.inr x) ∧ rd' v = some (.inr x) ∧ Post x) :
    ∀ (n : Nat) (v : V), Inv v → m v < n → ∃ x, loopR rd n v = some x ∧ loopR rd' n v = some x ∧ Post x
  | 0, _, _, hm => absurd hm (Nat.not_lt_zero _)
  | n + 1, v, hi, hm => by
    rw [loopR_succ, loopR_succ]
    rcases h v hi with ⟨v', h1, h1', h2, h3⟩ | ⟨x, h1, h1', h2⟩
    · rw [h1, h1']
      exact loopR_two h n v' h2 (by omega)
    · rw [h1, h1']
      exact ⟨x, rfl, rfl, h2⟩

theorem big_lt {N : Nat} (hN : Big N) {k : Nat} (h : k < 18446744073709551616) : k < N := by unfold Big at hN; omega

/-- The root's integer part. -/
def IsRoot (x r : Int) : Prop := 0 ≤ r ∧ r * r ≤ x ∧ x < (r + 1) * (r + 1)

theorem sq_le {a b : Int} (ha : 0 ≤ a) (h : a ≤ b) : a * a ≤ b * b := Int.mul_le_mul h h ha (by omega)

theorem IsRoot.unique {x r s : Int} (h : IsRoot x r) (k : IsRoot x s) : r = s := by
  obtain ⟨h1, h2, h3⟩ := h
  obtain ⟨k1, k2, k3⟩ := k
  by_cases h4 : r < s
  · have := sq_le (a := r + 1) (b := s) (by omega) (by omega)
    omega
  · by_cases h5 : s < r
    · have := sq_le (a := s + 1) (b := r) (by omega) (by omega)
      omega
    · omega

theorem half_in {a b : Int} (ha : 0 ≤ a) (hb : b ≤ 2147483648) (h : a < b) (h1 : ¬ b - a = 1) :
    IntKind.wrap .i64 (a + b) = a + b ∧ IntKind.wrap .i64 ((a + b).tdiv 2) = (a + b) / 2 ∧ a < (a + b) / 2 ∧ (a + b) / 2 < b ∧ IntKind.wrap .i64 ((a + b) / 2 * ((a + b) / 2)) = (a + b) / 2 * ((a + b) / 2) := by
  have e := Int.tdiv_eq_ediv_of_nonneg (a := a + b) (b := 2) (by omega)
  have h2 : 0 ≤ (a + b) / 2 * ((a + b) / 2) := Int.mul_nonneg (by omega) (by omega)
  have h3 : (a + b) / 2 * ((a + b) / 2) ≤ 2147483648 * 2147483648 := Int.mul_le_mul (by omega) (by omega) (by omega) (by omega)
  refine ⟨w64 (by omega), ?_, by omega, by omega, w64 (by omega)⟩
  rw [e]
  exact w64 (by omega)

theorem T81_root {N : Nat} (hN : Big N) {x : Int} (hx : 0 ≤ x) (hx' : x < 2147483648 * 2147483648) : ∃ r, T81 N x = some r ∧ IsRoot x r := by
  have := loopR_spec (rd := R81x108 N x) (Inv := fun v => 0 ≤ v.1 ∧ v.1 < v.2 ∧ v.2 ≤ 2147483648 ∧ v.1 * v.1 ≤ x ∧ x < v.2 * v.2) (m := fun v => (v.2 - v.1).toNat) (Post := IsRoot x)
    (fun ⟨a, b⟩ ⟨h1, h2, h3, h4, h5⟩ => by
      have w : IntKind.wrap .i64 (b - a) = b - a := w64 (by simp only at *; omega)
      simp only at *
      unfold R81x108
      simp only [w]
      by_cases h6 : b - a = 1
      · right
        refine ⟨a, by simp [h6], h1, h4, ?_⟩
        have : b = a + 1 := by omega
        rwa [← this]
      · left
        obtain ⟨w1, w2, w3, w4, w5⟩ := half_in h1 h3 h2 h6
        have h6' : (b - a == 1) = false := by simpa using h6
        simp only [w1, w2, w5, h6', cond_false]
        by_cases h7 : (a + b) / 2 * ((a + b) / 2) ≤ x
        · exact ⟨((a + b) / 2, b), by simp [h7], ⟨by simp only; omega, w4, h3, h7, h5⟩, by simp only; omega⟩
        · exact ⟨(a, (a + b) / 2), by simp [h7], ⟨h1, w3, by simp only; omega, h4, by simp only; omega⟩, by simp only; omega⟩) N (0, 2147483648) ⟨by omega, by omega, by omega, by omega, by omega⟩ (big_lt hN (by simp only; omega))
  obtain ⟨r, h1, h2⟩ := this
  refine ⟨r, ?_, h2⟩
  rw [T81_eq, h1]
  rfl

/-- 1, 10, 100. -/
def p10 (k : Int) : Int := if k = 0 then 1 else if k = 1 then 10 else 100

theorem p10_loop {N : Nat} (hN : Big N) {k : Int} (h : 0 ≤ k ∧ k ≤ 2) : loopR (R36x58 N k) N (1, 0) = some (p10 k) := by
  obtain ⟨x, h1, h2⟩ := loopR_spec (rd := R36x58 N k) (Inv := fun v => v = (1, 0) ∨ (v = (10, 1) ∧ 1 ≤ k) ∨ (v = (100, 2) ∧ 2 ≤ k)) (m := fun v => (2 - v.2).toNat) (Post := fun x => x = p10 k)
    (fun v hv => by
      rcases hv with rfl | ⟨rfl, hk⟩ | ⟨rfl, hk⟩
      · by_cases h0 : k = 0
        · right; exact ⟨1, by simp [R36x58, h0], by simp [p10, h0]⟩
        · left
          have : 0 < k := by omega
          exact ⟨(10, 1), by simp [R36x58, this]; decide, .inr (.inl ⟨rfl, by omega⟩), by simp⟩
      · by_cases h0 : k = 1
        · right; exact ⟨10, by simp [R36x58, h0], by simp [p10, h0]⟩
        · left
          have : 1 < k := by omega
          exact ⟨(100, 2), by simp [R36x58, this]; decide, .inr (.inr ⟨rfl, by omega⟩), by simp⟩
      · have h0 : k = 2 := by omega
        right; exact ⟨100, by simp [R36x58, h0], by simp [p10, h0]⟩) N (1, 0) (.inl rfl) (big_lt hN (by simp))
  rw [h1, h2]

theorem p10_range (k : Int) : 1 ≤ p10 k ∧ p10 k ≤ 100 := by
  unfold p10
  by_cases h1 : k = 0
  · simp [h1]
  · by_cases h2 : k = 1 <;> simp [h1, h2]

theorem tens_at {k : Int} (h : 0 ≤ k ∧ k ≤ 2) : nthD [(AV.int .i64 1), (AV.int .i64 10), (AV.int .i64 100)] (Int.toNat k) = AV.int .i64 (p10 k) := by
  rcases (by omega : k = 0 ∨ k = 1 ∨ k = 2) with rfl | rfl | rfl <;> rfl

section root
variable {N : Nat} (hN : Big N) {n d k : Int} (h : chk' n d = 0) (hk : 0 ≤ k ∧ k ≤ 2)
include h

omit h in
theorem chk'_zero {n d : Int} (h : chk' n d = 0) : 0 ≤ n ∧ n ≤ 4000000000000 ∧ 1 ≤ d ∧ d ≤ 810000 := by
  unfold chk' at h
  by_cases h1 : n < 0 ∨ n > 4000000000000 ∨ d < 1 ∨ d > 810000
  · rw [if_pos h1] at h
    omega
  · omega

theorem root_num : IntKind.wrap .i64 (n * p10 k) = n * p10 k ∧ IntKind.wrap .i64 (n * p10 k * p10 k) = n * p10 k * p10 k ∧ IntKind.wrap .i64 ((n * p10 k * p10 k).tdiv d) = n * p10 k * p10 k / d ∧
    0 ≤ n * p10 k * p10 k / d ∧ n * p10 k * p10 k / d ≤ 40000000000000000 := by
  obtain ⟨i1, i2, i3, i4⟩ := chk'_zero h
  obtain ⟨j1, j2⟩ := p10_range k
  have a1 : 0 ≤ n * p10 k := Int.mul_nonneg i1 (by omega)
  have a2 : n * p10 k ≤ 4000000000000 * 100 := Int.mul_le_mul i2 j2 (by omega) (by omega)
  have a3 : 0 ≤ n * p10 k * p10 k := Int.mul_nonneg a1 (by omega)
  have a4 : n * p10 k * p10 k ≤ 400000000000000 * 100 := Int.mul_le_mul (by omega) j2 (by omega) (by omega)
  have a5 := Int.ediv_le_self d a3
  have a6 : 0 ≤ n * p10 k * p10 k / d := Int.ediv_nonneg a3 (by omega)
  refine ⟨w64 (by omega), w64 (by omega), div_in a3 (by omega) (by omega), a6, by omega⟩

include hN hk

theorem T33_val : ∃ r, IsRoot (n * p10 k * p10 k / d) r ∧ T33 N ((n, d), k) = some (low r (p10 k), 0) := by
  obtain ⟨i1, i2, i3, i4⟩ := chk'_zero h
  obtain ⟨j1, j2⟩ := p10_range k
  obtain ⟨w1, w2, w3, b1, b2⟩ := root_num (k := k) h
  obtain ⟨r, h1, h2⟩ := T81_root hN (x := n * p10 k * p10 k / d) b1 (by omega)
  refine ⟨r, h2, ?_⟩
  have hr : r ≤ 2147483648 := by
    obtain ⟨c1, c2, c3⟩ := h2
    by_cases c : r ≤ 2147483648
    · exact c
    · have := sq_le (a := 2147483648) (b := r) (by omega) (by omega)
      omega
  have e1 : rng k 0 2 = 0 := rng_zero.2 hk
  have e2 : decide (0 ≤ k ∧ k < (3 : Int)) = true := by simp; omega
  have e3 : Pat.fits p26 (AV.int .i64 (p10 k)) = true := rfl
  have e4 : d26 (AV.int .i64 (p10 k)) = p10 k := rfl
  have e5 : decide (d = 0) = false := by simp; omega
  rw [T33_eq]
  simp only [T20_chk hN, T73_rng, Option.bind_some, Bool.and_true, two, h, e1]
  rw [T72_first hN _ (by simp)]
  simp only [Option.bind_some, firstNZ, if_true, tens_at hk, e2, e3, e4, e5, w1, w2, w3, h1]
  rw [T75_low hN h2.1 (by omega) (by omega) (by omega)]
  rfl

theorem T36_val : ∃ r, IsRoot (n * p10 k * p10 k / d) r ∧ T36 N ((n, d), k) = some (low r (p10 k)) := by
  obtain ⟨i1, i2, i3, i4⟩ := chk'_zero h
  obtain ⟨j1, j2⟩ := p10_range k
  obtain ⟨w1, w2, w3, b1, b2⟩ := root_num (k := k) h
  have e5 : decide (d = 0) = false := by simp; omega
  have := loopR_spec (rd := R36x124 N (n, d) (p10 k)) (Inv := fun v => 0 ≤ v.1 ∧ v.1 < v.2 ∧ v.2 ≤ 1000000000 ∧ v.1 * v.1 ≤ n * p10 k * p10 k / d ∧ n * p10 k * p10 k / d < v.2 * v.2) (m := fun v => (v.2 - v.1).toNat) (Post := IsRoot (n * p10 k * p10 k / d))
    (fun ⟨a, b⟩ ⟨h1, h2, h3, h4, h5⟩ => by
      have w : IntKind.wrap .i64 (b - a) = b - a := w64 (by simp only at *; omega)
      simp only at *
      unfold R36x124
      simp only [w, w1, w2, w3, e5]
      by_cases h6 : b - a = 1
      · right
        refine ⟨a, by simp [h6], h1, h4, ?_⟩
        have : b = a + 1 := by omega
        rwa [← this]
      · left
        obtain ⟨w1, w2, w3, w4, w5⟩ := half_in h1 (by omega) h2 h6
        have h6' : decide (b - a > 1) = true := by simp; omega
        simp only [w1, w2, w5, h6', cond_true, Bool.not_false]
        by_cases h7 : (a + b) / 2 * ((a + b) / 2) ≤ n * p10 k * p10 k / d
        · exact ⟨((a + b) / 2, b), by simp [h7], ⟨by simp only; omega, w4, h3, h7, h5⟩, by simp only; omega⟩
        · exact ⟨(a, (a + b) / 2), by simp [h7], ⟨h1, w3, by simp only; omega, h4, by simp only; omega⟩, by simp only; omega⟩) N (0, 1000000000) ⟨by omega, by omega, by omega, by simp only; omega, by simp only; omega⟩ (big_lt hN (by simp only; omega))
  obtain ⟨r, h1, h2⟩ := this
  refine ⟨r, h2, ?_⟩
  have hr : r ≤ 2147483648 := by
    obtain ⟨c1, c2, c3⟩ := h2
    by_cases c : r ≤ 2147483648
    · exact c
    · have := sq_le (a := 2147483648) (b := r) (by omega) (by omega)
      omega
  rw [T36_eq, p10_loop hN hk]
  simp only [Option.bind_some, h1]
  rw [T79_low hN h2.1 (by omega) (by omega) (by omega)]
  rfl
end root

/-- The sign of a comparison. -/
def cmpI (a b : Int) : Int := if a < b then -1 else if a > b then 1 else 0

theorem T105_cmp (N : Nat) (a b : Int) : T105 N (a, b) = some (cmpI a b) := by
  rw [T105_eq]
  unfold cmpI
  simp only [T113_eq, Option.bind_some, bne_self_eq_false, cond_false]
  by_cases h1 : a < b
  · simp [h1]
  · by_cases h2 : a > b <;> simp [h1, h2]

theorem T80_cmp (N : Nat) (a b : Int × Int) : T80 N (a, b) = some (cmpI (IntKind.wrap .i64 (a.1 * b.2)) (IntKind.wrap .i64 (b.1 * a.2))) := by
  rw [T80_eq, T105_cmp]
  rfl

theorem T35_cmp (N : Nat) (a b : Int × Int) : T35 N (a, b) = some (cmpI (IntKind.wrap .i64 (a.1 * b.2)) (IntKind.wrap .i64 (b.1 * a.2))) := by
  rw [T35_eq]
  unfold cmpI
  by_cases h1 : IntKind.wrap .i64 (a.1 * b.2) < IntKind.wrap .i64 (b.1 * a.2)
  · simp [h1]
  · by_cases h2 : IntKind.wrap .i64 (a.1 * b.2) > IntKind.wrap .i64 (b.1 * a.2) <;> simp [h1, h2]

theorem cmpI_swap (a b : Int) : decide (cmpI b a > 0) = decide (cmpI a b < 0) ∧ (cmpI b a == 0) = (cmpI a b == 0) := by
  unfold cmpI
  by_cases h1 : a < b
  · have : ¬ b < a := by omega
    simp [h1, this]
  · by_cases h2 : b < a
    · simp [h1, h2]
    · simp [h1, h2]

section fullest
variable {N : Nat} (hN : Big N)
include hN

theorem T70_val {n d : Int} (hn : 1 ≤ n) (hd : n ≤ d) (hd' : d ≤ 30) : T70 N (n, d) = some (low (4 * (n * n) * (d * d - n * n)) (d * d * (d * d))) := by
  obtain ⟨e1, e2, e3, e4, e5, e6, i1, i2, i3, i4, i5, i6, i7, i8⟩ := numbers hn hd hd'
  rw [T70_eq]
  simp only [e1, e2, e3, e4, e5, e6]
  rw [T69_low hN (by omega) (by omega) (by omega) (by omega)]
  rfl

/-- One ratio more. -/
theorem fuller (v : Int × Int × Int) (hv : 1 ≤ v.1 ∧ v.1 ≤ 30) (u : Int × Int × Int) (hu : 1 ≤ u.1 ∧ 1 ≤ u.2.1 ∧ u.2.1 ≤ u.2.2 ∧ u.2.2 ≤ 30) :
    (∃ u', R34x7826 N v u = some (.inl u') ∧ R37x3730 N v u = some (.inl u') ∧ (1 ≤ u'.1 ∧ 1 ≤ u'.2.1 ∧ u'.2.1 ≤ u'.2.2 ∧ u'.2.2 ≤ 30) ∧ (31 - u'.1).toNat < (31 - u.1).toNat) ∨
    ∃ x : Int × Int, R34x7826 N v u = some (.inr x) ∧ R37x3730 N v u = some (.inr x) ∧ (1 ≤ x.1 ∧ x.1 ≤ x.2 ∧ x.2 ≤ 30) := by
  obtain ⟨d, vn, vd⟩ := v
  obtain ⟨i, n, m⟩ := u
  obtain ⟨h1, h2, h3, h4⟩ := hu
  obtain ⟨g1, g2⟩ := hv
  simp only at h1 h2 h3 h4 g1 g2
  unfold R34x7826 R37x3730
  simp only
  by_cases hi : i ≤ d
  · left
    have w : IntKind.wrap .i64 (i + 1) = i + 1 := w64 (by omega)
    have hg := gcd_pos (a := i) (b := d) (.inl (by omega))
    have hc : chk i d = if (Int.gcd i d : Int) = 1 then 0 else 1 := by
      unfold chk
      rw [if_neg (by omega), if_neg (by omega)]
    simp only [hi, decide_true, cond_true, T19_chk hN, T66_gcd hN (by omega : 0 ≤ i) (by omega : 0 ≤ d) (by omega), Option.bind_some, hc, w]
    by_cases hg1 : (Int.gcd i d : Int) = 1
    · simp only [hg1, if_true, T70_val hN h2 h3 h4, T70_val hN h1 hi g2, T18_val hN h1 hi g2, T18_val hN h2 h3 h4, T80_cmp, T35_cmp, Option.bind_some, bne_self_eq_false, cond_false, beq_self_eq_true, Bool.and_self, cond_true]
      obtain ⟨s1, s2⟩ := cmpI_swap (IntKind.wrap .i64 ((low (4 * (n * n) * (m * m - n * n)) (m * m * (m * m))).1 * (low (4 * (i * i) * (d * d - i * i)) (d * d * (d * d))).2)) (IntKind.wrap .i64 ((low (4 * (i * i) * (d * d - i * i)) (d * d * (d * d))).1 * (low (4 * (n * n) * (m * m - n * n)) (m * m * (m * m))).2))
      rw [s1, s2]
      generalize cmpI _ _ = c
      have : ∃ b : Bool, ((bif (decide (c < 0)) then (some true) else (bif (c == 0) then (some (decide ((IntKind.wrap .i64 (i * m)) < (IntKind.wrap .i64 (n * d))))) else (some false))) : Option Bool) = some b := by
        by_cases c1 : c < 0
        · exact ⟨true, by simp [c1]⟩
        · by_cases c2 : c = 0
          · exact ⟨_, by simp only [c2]; rfl⟩
          · exact ⟨false, by simp [c1, beq0 c2]⟩
      obtain ⟨b, hb⟩ := this
      rw [hb]
      cases b with
      | true => exact ⟨(i + 1, i, d), rfl, rfl, ⟨by simp only; omega, h1, hi, g2⟩, by simp only; omega⟩
      | false => exact ⟨(i + 1, n, m), rfl, rfl, ⟨by simp only; omega, h2, h3, h4⟩, by simp only; omega⟩
    · have hg2 : ((Int.gcd i d : Int) != 1) = true := by simpa using hg1
      simp only [hg1, hg2, if_false]
      exact ⟨(i + 1, n, m), rfl, rfl, ⟨by simp only; omega, h2, h3, h4⟩, by simp only; omega⟩
  · right
    exact ⟨(n, m), by simp [hi], by simp [hi], h2, h3, h4⟩

theorem T34_T37 {f : Int} (hf : f ≤ 30) : ∃ x : Int × Int, loopR (V := Int × Int × Int) (X := (Int × Int)) (R34x122 N f) N (1, 1, 1) = some x ∧ loopR (V := Int × Int × Int) (X := (Int × Int)) (R37x58 N f) N (1, 1, 1) = some x := by
  obtain ⟨x, h1, h2, _⟩ := loopR_two (rd := R34x122 N f) (rd' := R37x58 N f) (Inv := fun v => 1 ≤ v.1 ∧ 1 ≤ v.2.1 ∧ v.2.1 ≤ v.2.2 ∧ v.2.2 ≤ 30) (m := fun v => (31 - v.1).toNat) (Post := fun _ => True)
    (fun v hv => by
      obtain ⟨h1, h2, h3, h4⟩ := hv
      unfold R34x122 R37x58
      by_cases hi : v.1 ≤ f
      · left
        have w : IntKind.wrap .i64 (v.1 + 1) = v.1 + 1 := w64 (by omega)
        obtain ⟨x, e1, e2, e3, e4, e5⟩ := loopR_two (rd := R34x7826 N v) (rd' := R37x3730 N v) (Inv := fun u => 1 ≤ u.1 ∧ 1 ≤ u.2.1 ∧ u.2.1 ≤ u.2.2 ∧ u.2.2 ≤ 30) (m := fun u => (31 - u.1).toNat) (Post := fun x : Int × Int => 1 ≤ x.1 ∧ x.1 ≤ x.2 ∧ x.2 ≤ 30)
          (fuller hN v ⟨h1, by omega⟩) N (1, v.2.1, v.2.2) ⟨by simp only; omega, h2, h3, h4⟩ (big_lt hN (by simp only; omega))
        refine ⟨(v.1 + 1, x.1, x.2), ?_, ?_, ⟨by simp only; omega, e3, e4, e5⟩, by simp only; omega⟩
        · simp only [hi, decide_true, cond_true, e1, Option.bind_some, w]
        · simp only [hi, decide_true, cond_true, e2, Option.bind_some, w]
      · right
        exact ⟨(v.2.1, v.2.2), by simp [hi], by simp [hi], trivial⟩) N (1, 1, 1) ⟨by simp only; omega, by simp only; omega, by simp only; omega, by simp only; omega⟩ (big_lt hN (by simp only; omega))
  exact ⟨x, h1, h2⟩

theorem T32_val (a b : Int × Int) : T32 N (a, b) = some (if firstNZ [chk' a.1 a.2, chk' b.1 b.2] = 0 then cmpI (IntKind.wrap .i64 (a.1 * b.2)) (IntKind.wrap .i64 (b.1 * a.2)) else 0, firstNZ [chk' a.1 a.2, chk' b.1 b.2]) := by
  rw [T32_eq]
  simp only [T20_chk hN, Option.bind_some, Bool.and_true, two, beq_self_eq_true, cond_true, T80_cmp]
  rw [T72_first hN _ (by simp)]
  simp only [Option.bind_some]
  by_cases h : firstNZ [chk' a.1 a.2, chk' b.1 b.2] = 0
  · simp [h]
  · simp [h, bne0 h]

omit hN in
theorem firstNZ2z {x y : Int} : firstNZ [x, y] = 0 ↔ x = 0 ∧ y = 0 := by
  by_cases h1 : x = 0 <;> by_cases h2 : y = 0 <;> simp [firstNZ, h1, h2]

theorem T5_true (a b c : Int × Int) : T5 N (a, b, c) = some true := by
  obtain ⟨n, d⟩ := a
  obtain ⟨k, f⟩ := c
  have h22 : T22 N () = some true := rfl
  rw [T5_eq]
  simp only [T32_val hN, T21_chk hN, T27_rng, T35_cmp, Option.bind_some, Bool.and_true, two, beq_self_eq_true, cond_true, h22]
  rw [T26_first hN _ (by simp), T26_first hN _ (by simp)]
  simp only [Option.bind_some]
  generalize cmpI _ _ = q
  have a1 : ∀ y : Int, ∀ z : Int, ((bif (y == 0) then some z else some 0 : Option Int)) = some (if y = 0 then z else 0) := fun y z => by
    by_cases h : y = 0
    · simp [h]
    · simp [h, beq0 h]
  rw [a1]
  have b1 : ∃ r : Int × Int, T33 N ((n, d), k) = some (r, firstNZ [chk' n d, rng k 0 2]) ∧ ((bif (firstNZ [chk' n d, rng k 0 2] == 0) then (T36 N ((n, d), k)).bind fun y15 => (some (y15.1, y15.2)) else (some (0, 0))) : Option ((Int × Int))) = some r := by
    by_cases h : firstNZ [chk' n d, rng k 0 2] = 0
    · obtain ⟨h1, h2⟩ := firstNZ2z.1 h
      obtain ⟨r, e1, e2⟩ := T33_val hN h1 (rng_zero.1 h2)
      obtain ⟨r', e3, e4⟩ := T36_val hN h1 (rng_zero.1 h2)
      obtain rfl := e1.unique e3
      exact ⟨low r (p10 k), by rw [e2, h], by rw [h, e4]; rfl⟩
    · refine ⟨(0, 0), ?_, by simp [beq0 h]⟩
      rw [T33_eq]
      simp only [T20_chk hN, T73_rng, Option.bind_some, Bool.and_true, two]
      rw [T72_first hN _ (by simp)]
      simp only [Option.bind_some, bne0 h, cond_true]
  obtain ⟨r, b2, b3⟩ := b1
  have c1 : ∃ r : Int × Int, T34 N f = some (r, rng f 1 30) ∧ ((bif (rng f 1 30 == 0) then (T37 N f).bind fun y17 => (some (y17.1, y17.2)) else (some (0, 0))) : Option ((Int × Int))) = some r := by
    by_cases h : rng f 1 30 = 0
    · obtain ⟨x, e1, e2⟩ := T34_T37 hN (rng_zero.1 h).2
      refine ⟨x, ?_, ?_⟩
      · rw [T34_eq, T73_rng]
        simp only [Option.bind_some, h, e1]
        rfl
      · rw [h, T37_eq, e2]
        rfl
    · refine ⟨(0, 0), ?_, by simp [beq0 h]⟩
      rw [T34_eq, T73_rng]
      simp only [Option.bind_some, bne0 h, cond_true]
  obtain ⟨r', c2, c3⟩ := c1
  rw [b2, c2]
  simp only [Option.bind_some, b3, c3]
  simp
end fullest
end Go.Proofs.YtpngggdfbbdfaaaDoor
