/- Plain laws: floors. -/
import Derived.Test.YtpngggdfbbdfaaaDoorHangPc
set_option linter.all false
namespace Go.Proofs.YtpngggdfbbdfaaaDoor
open Go Go.Am
set_option maxRecDepth 100000

theorem root_le {n d k r : Int} (h : chk' n d = 0) (hr : IsRoot (n * p10 k * p10 k / d) r) : r ≤ 3000000 * p10 k ∧ r ≤ 300000000 := by
  obtain ⟨i1, i2, i3, i4⟩ := chk'_zero h
  obtain ⟨j1, j2⟩ := p10_range k
  obtain ⟨c1, c2, c3⟩ := hr
  have a1 : 0 ≤ n * p10 k * p10 k := Int.mul_nonneg (Int.mul_nonneg i1 (by omega)) (by omega)
  have a2 := Int.ediv_le_self d a1
  have a3 : n * p10 k * p10 k ≤ (3000000 * p10 k) * (3000000 * p10 k) := by
    have b1 : 0 ≤ p10 k * p10 k := Int.mul_nonneg (by omega) (by omega)
    have b2 : n * (p10 k * p10 k) ≤ 9000000000000 * (p10 k * p10 k) := Int.mul_le_mul_of_nonneg_right (by omega) b1
    have b3 : (3000000 * p10 k) * (3000000 * p10 k) = 9000000000000 * (p10 k * p10 k) := by
      have : (3000000 * p10 k) * (3000000 * p10 k) = (3000000 * 3000000) * (p10 k * p10 k) := by ac_rfl
      omega
    rw [b3, Int.mul_assoc]
    exact b2
  have : r ≤ 3000000 * p10 k := by
    by_cases c : r ≤ 3000000 * p10 k
    · exact c
    · have b1 := sq_le (a := 3000000 * p10 k + 1) (b := r) (by omega) (by omega)
      have b2 : (3000000 * p10 k + 1) * (3000000 * p10 k + 1) = (3000000 * p10 k) * (3000000 * p10 k) + 6000000 * p10 k + 1 := by
        rw [Int.add_mul, Int.mul_add]
        omega
      omega
  exact ⟨this, by omega⟩

/-- What lowest terms of a root are. -/
theorem low_facts {r t : Int} (hr : 0 ≤ r) (hr' : r ≤ 300000000) (ht : 1 ≤ t) (ht' : t ≤ 100) :
    ∃ a b, low r t = (a, b) ∧ 1 ≤ b ∧ t.tmod b = 0 ∧ 0 ≤ a ∧ a ≤ r ∧ (Int.gcd a b : Int) = 1 ∧ b ≤ 100 ∧ IntKind.wrap .i64 (a * IntKind.wrap .i64 (t.tdiv b)) = r := by
  have hg := gcd_pos (a := r) (b := t) (.inr (by omega))
  have d1 : (Int.gcd r t : Int) ∣ r := Int.gcd_dvd_left ..
  have d2 : (Int.gcd r t : Int) ∣ t := Int.gcd_dvd_right ..
  have hgc : Int.gcd (r / (Int.gcd r t : Int)) (t / (Int.gcd r t : Int)) = 1 := Int.gcd_ediv_gcd_ediv_gcd (by omega)
  refine ⟨r / (Int.gcd r t : Int), t / (Int.gcd r t : Int), rfl, ?_⟩
  generalize (Int.gcd r t : Int) = g at *
  obtain ⟨a, rfl⟩ := d1
  obtain ⟨b, rfl⟩ := d2
  rw [Int.mul_ediv_cancel_left _ (by omega), Int.mul_ediv_cancel_left _ (by omega)] at *
  have hb : 1 ≤ b := by
    by_cases c : 1 ≤ b
    · exact c
    · have : g * b ≤ 0 := Int.mul_nonpos_of_nonneg_of_nonpos (by omega) (by omega)
      omega
  have ha : 0 ≤ a := by
    by_cases c : 0 ≤ a
    · exact c
    · have := Int.mul_neg_of_pos_of_neg hg (by omega : a < 0)
      omega
  have hag : a ≤ g * a := by
    have := Int.mul_le_mul_of_nonneg_right (by omega : 1 ≤ g) ha
    omega
  have hbg : b ≤ g * b := by
    have := Int.mul_le_mul_of_nonneg_right (by omega : 1 ≤ g) (by omega : 0 ≤ b)
    omega
  have hgb : g ≤ g * b := by
    have := Int.mul_le_mul_of_nonneg_left hb (by omega : 0 ≤ g)
    omega
  have e : (g * b).tdiv b = g := Int.mul_tdiv_cancel _ (by omega)
  refine ⟨hb, Int.mul_tmod_left _ _, ha, hag, by rw [hgc]; rfl, by omega, ?_⟩
  rw [e, w64 (x := g) (by omega), Int.mul_comm a g]
  exact w64 (by omega)

theorem next_root {n d t b r : Int} (hn : 0 ≤ n) (hd : 1 ≤ d) (ht : 0 ≤ t) (hb : IsRoot (n * t * t / d) b) (hr : IsRoot (n * (10 * t) * (10 * t) / d) r) : 10 * b ≤ r ∧ r < 10 * (b + 1) := by
  obtain ⟨b1, b2, b3⟩ := hb
  obtain ⟨r1, r2, r3⟩ := hr
  have e : n * (10 * t) * (10 * t) = 100 * (n * t * t) := by
    rw [Int.mul_left_comm n 10 t, Int.mul_assoc 10, Int.mul_left_comm (n * t) 10 t]
    omega
  rw [e] at r2 r3
  generalize n * t * t = x at *
  have k1 : d * (x / d) ≤ x := Int.mul_ediv_self_le (by omega)
  have k2 : x < d * (x / d + 1) := by
    have := Int.lt_mul_ediv_self_add (x := x) (k := d) (by omega)
    rw [Int.mul_add]
    omega
  constructor
  · by_cases c : 10 * b ≤ r
    · exact c
    · have s1 := sq_le (a := r + 1) (b := 10 * b) (by omega) (by omega)
      have s2 : (10 * b) * (10 * b) = 100 * (b * b) := by
        have : (10 * b) * (10 * b) = (10 * 10) * (b * b) := by ac_rfl
        omega
      have s3 : 100 * (x / d) ≤ 100 * x / d := by
        apply Int.le_ediv_of_mul_le (by omega)
        have : 100 * (x / d) * d = 100 * (d * (x / d)) := by rw [Int.mul_assoc, Int.mul_comm d]
        omega
      omega
  · by_cases c : r < 10 * (b + 1)
    · exact c
    · have s1 := sq_le (a := 10 * (b + 1)) (b := r) (by omega) (by omega)
      have s2 : (10 * (b + 1)) * (10 * (b + 1)) = 100 * ((b + 1) * (b + 1)) := by
        have : (10 * (b + 1)) * (10 * (b + 1)) = (10 * 10) * ((b + 1) * (b + 1)) := by ac_rfl
        omega
      have s3 : 100 * x / d < 100 * (x / d + 1) := by
        apply Int.ediv_lt_of_lt_mul (by omega)
        have : 100 * (x / d + 1) * d = 100 * (d * (x / d + 1)) := by rw [Int.mul_assoc, Int.mul_comm d]
        omega
      omega

theorem root_mono {x y r s : Int} (h : x ≤ y) (hr : IsRoot x r) (hs : IsRoot y s) : r ≤ s := by
  obtain ⟨r1, r2, r3⟩ := hr
  obtain ⟨s1, s2, s3⟩ := hs
  by_cases c : r ≤ s
  · exact c
  · have := sq_le (a := s + 1) (b := r) (by omega) (by omega)
    omega

theorem div_mono {n d n' d' t : Int} (hd : 1 ≤ d) (hd' : 1 ≤ d') (ht : 0 ≤ t) (hn : 0 ≤ n) (h : n * d' ≤ n' * d) : n * t * t / d ≤ n' * t * t / d' := by
  apply Int.le_ediv_of_mul_le (by omega)
  have h0 : 0 ≤ t * t := Int.mul_nonneg ht ht
  have hx : 0 ≤ n * t * t := Int.mul_nonneg (Int.mul_nonneg hn ht) ht
  have k1 : n * t * t / d * d ≤ n * t * t := Int.ediv_mul_le _ (by omega)
  have k2 : n * t * t / d * d * d' ≤ n * t * t * d' := Int.mul_le_mul_of_nonneg_right k1 (by omega)
  have k3 : n * t * t * d' = n * d' * (t * t) := by ac_rfl
  have k4 : n * d' * (t * t) ≤ n' * d * (t * t) := Int.mul_le_mul_of_nonneg_right h h0
  have k5 : n' * d * (t * t) = n' * t * t * d := by ac_rfl
  have k6 : n * t * t / d * d' * d ≤ n' * t * t * d := by
    rw [Int.mul_right_comm]
    omega
  exact Int.le_of_mul_le_mul_right k6 (by omega)

section floors
variable {N : Nat} (hN : Big N) {n d n' d' : Int} (h : chk' n d = 0) (h' : chk' n' d' = 0)
include hN h h'

theorem floor_round {b k : Int} (hk : 0 ≤ k ∧ k ≤ 2) (hb : k = 0 ∨ IsRoot (n * p10 (k - 1) * p10 (k - 1) / d) b) : ∃ r, IsRoot (n * p10 k * p10 k / d) r ∧ R10x122 N (n, d) (n', d') (b, k) = some (.inl (r, k + 1)) := by
  obtain ⟨r, hr, e1⟩ := T33_val hN h hk
  obtain ⟨s, hs, e2⟩ := T33_val hN h' hk
  obtain ⟨i1, i2, i3, i4⟩ := chk'_zero h
  obtain ⟨i1', i2', i3', i4'⟩ := chk'_zero h'
  obtain ⟨j1, j2⟩ := p10_range k
  obtain ⟨w1, w2, w3, x1, x2⟩ := root_num (k := k) h
  obtain ⟨m1, m2⟩ := root_le h hr
  obtain ⟨m1', m2'⟩ := root_le h' hs
  obtain ⟨a, q, hl, f1, f2, f3, f4, f5, f6, f7⟩ := low_facts hr.1 m2 j1 j2
  obtain ⟨a', q', hl', f1', f2', f3', f4', f5', f6', f7'⟩ := low_facts hs.1 m2' j1 j2
  have e3 : T32 N ((n, d), (n', d')) = some (cmpI (n * d') (n' * d), 0) := by
    have b1 : 0 ≤ n * d' := Int.mul_nonneg i1 (by omega)
    have b2 : n * d' ≤ 4000000000000 * 810000 := Int.mul_le_mul i2 i4' (by omega) (by omega)
    have b3 : 0 ≤ n' * d := Int.mul_nonneg i1' (by omega)
    have b4 : n' * d ≤ 4000000000000 * 810000 := Int.mul_le_mul i2' i4 (by omega) (by omega)
    rw [T32_val hN]
    simp only [h, h', firstNZ, if_true, w64 (x := n * d') (by omega), w64 (x := n' * d) (by omega)]
  refine ⟨r, hr, ?_⟩
  have e4 : Pat.fits p26 (AV.int .i64 (p10 k)) = true := rfl
  have e5 : d26 (AV.int .i64 (p10 k)) = p10 k := rfl
  have e6 : decide (0 ≤ k ∧ k < (([(AV.int .i64 1), (AV.int .i64 10), (AV.int .i64 100)] : List AV).length : Int)) = true := by simp; omega
  have e7 : decide (k < 3) = true := by simp; omega
  have e8 : T66 N (a, q) = some 1 := by rw [T66_gcd hN f3 (by omega) (by omega), f5]
  have w4 : IntKind.wrap .i64 (3000000 * p10 k) = 3000000 * p10 k := w64 (by omega)
  have w5 : IntKind.wrap .i64 (r + 1) = r + 1 := w64 (by have := hr.1; omega)
  have rr : r * r ≤ 300000000 * 300000000 := Int.mul_le_mul m2 m2 hr.1 (by omega)
  have rr0 : 0 ≤ r * r := Int.mul_nonneg hr.1 hr.1
  have w6 : IntKind.wrap .i64 (r * r) = r * r := w64 (by omega)
  have rr1 : (r + 1) * (r + 1) = r * r + 2 * r + 1 := by rw [Int.add_mul, Int.mul_add]; omega
  have w7 : IntKind.wrap .i64 ((r + 1) * (r + 1)) = (r + 1) * (r + 1) := w64 (by have := hr.1; omega)
  have w8 : IntKind.wrap .i64 (k + 1) = k + 1 := w64 (by omega)
  have z1 : decide (q < 1) = false := by simp; omega
  have z2 : decide (q = 0) = false := by simp; omega
  have z1' : decide (q' < 1) = false := by simp; omega
  have z2' : decide (q' = 0) = false := by simp; omega
  have z3 : decide (a < 0) = false := by simp; omega
  have z3' : decide (a' < 0) = false := by simp; omega
  have z4 : decide (a > 3000000 * p10 k) = false := by simp; omega
  have z4' : decide (a' > 3000000 * p10 k) = false := by simp; omega
  have z5 : decide (d = 0) = false := by simp; omega
  have z6 : decide (r * r > n * p10 k * p10 k / d) = false := by have := hr.2.1; simp; omega
  have z7 : decide ((r + 1) * (r + 1) ≤ n * p10 k * p10 k / d) = false := by have := hr.2.2; simp; omega
  have z8 : (IntKind.wrap .i64 (IntKind.wrap .i64 (0 + 0) + 0) != 0) = false := rfl
  have y1 : cmpI (n * d') (n' * d) < 0 → r ≤ s := fun hc => root_mono (div_mono i3 i3' (by omega) i1 (by unfold cmpI at hc; split at hc <;> omega)) hr hs
  have y2 : cmpI (n * d') (n' * d) > 0 → s ≤ r := fun hc => root_mono (div_mono i3' i3 (by omega) i1' (by unfold cmpI at hc; split at hc <;> (try split at hc) <;> omega)) hs hr
  have y3 : cmpI (n * d') (n' * d) = 0 → r = s := fun hc => by
    have hq : n * d' = n' * d := by unfold cmpI at hc; split at hc <;> (try split at hc) <;> omega
    have g1 := root_mono (div_mono (t := p10 k) i3 i3' (by omega) i1 (Int.le_of_eq hq)) hr hs
    have g2 := root_mono (div_mono (t := p10 k) i3' i3 (by omega) i1' (Int.le_of_eq hq.symm)) hs hr
    omega
  have y4 : k > 0 → 10 * b ≤ r ∧ r < 10 * (b + 1) ∧ 0 ≤ b ∧ b ≤ 300000000 := fun hk0 => by
    rcases hb with hb | hb
    · omega
    · have t10 : p10 k = 10 * p10 (k - 1) := by
        rcases (by omega : k = 1 ∨ k = 2) with rfl | rfl <;> rfl
      have hr2 := hr
      rw [t10] at hr2
      have := next_root i1 i3 (by have := (p10_range (k - 1)).1; omega) hb hr2
      exact ⟨this.1, this.2, hb.1, (root_le h hb).2⟩
  have c01 : r > 0 ∨ r = 0 := by have := hr.1; omega
  unfold R10x122
  simp only [e1, e2, e3, e7, e6, tens_at hk, e4, e5, hl, hl', Option.bind_some, cond_true, Bool.and_self, z8, cond_false, z1, z2, z1', z2', f2, f2', bne_self_eq_false, Bool.not_false, w4, z3, z3', z4, z4', e8, f7, f7', w1, w2, w3, w5, w6, w7, w8, z5, z6, z7]
  generalize cmpI (n * d') (n' * d) = c at *
  have q1 : ((bif decide (r > 0) then some false else some false) : Option Bool) = some false := by cases decide (r > 0) <;> rfl
  have q2 : ((bif decide (r < IntKind.wrap .i64 (10 * b)) then (bif decide (k > 0) then some true else (bif decide (k > 0) then some (decide (r ≥ IntKind.wrap .i64 (10 * IntKind.wrap .i64 (b + 1)))) else some false)) else
      (bif decide (k > 0) then some (decide (r ≥ IntKind.wrap .i64 (10 * IntKind.wrap .i64 (b + 1)))) else some false)) : Option Bool) = some false := by
    by_cases hk0 : k > 0
    · obtain ⟨g1, g2, g3, g4⟩ := y4 hk0
      have o1 : ¬ r < 10 * b := by omega
      have o2 : ¬ 10 * (b + 1) ≤ r := by omega
      rw [w64 (x := 10 * b) (by omega), w64 (x := b + 1) (by omega), w64 (x := 10 * (b + 1)) (by omega)]
      simp [hk0, o1, o2]
    · simp only [hk0, decide_false, cond_false]
      cases decide (r < IntKind.wrap .i64 (10 * b)) <;> rfl
  simp only [q1, q2, Option.bind_some, cond_false]
  rcases (by omega : c < 0 ∨ c = 0 ∨ c > 0) with hc | hc | hc
  · have o1 : decide (c < 0) = true := by simpa using hc
    have o2 : decide (c > 0) = false := by simp; omega
    have o3 : (c == 0) = false := beq0 (by omega)
    have o4 : decide (r > s) = false := by have := y1 hc; simp; omega
    simp only [o1, o2, o3, o4, cond_true, cond_false, Option.bind_some]
  · have o1 : decide (c < 0) = false := by simp; omega
    have o2 : decide (c > 0) = false := by simp; omega
    have o3 : (c == 0) = true := by simpa using hc
    have o4 : (r != s) = false := by simpa using y3 hc
    simp only [o1, o2, o3, o4, cond_true, cond_false, Option.bind_some]
  · have o1 : decide (c < 0) = false := by simp; omega
    have o2 : decide (c > 0) = true := by simpa using hc
    have o3 : (c == 0) = false := beq0 (by omega)
    have o4 : decide (r < s) = false := by have := y2 hc; simp; omega
    simp only [o1, o2, o3, o4, cond_true, cond_false, Option.bind_some]

theorem floor_loop : ∃ x : Unit, loopR (V := Int × Int) (X := Bool ⊕ Unit) (R10x122 N (n, d) (n', d')) N (0, 0) = some (.inr x) := by
  obtain ⟨x, h1, u, h2⟩ := loopR_spec (rd := R10x122 N (n, d) (n', d')) (Inv := fun v => 0 ≤ v.2 ∧ v.2 ≤ 3 ∧ (v.2 = 0 ∨ IsRoot (n * p10 (v.2 - 1) * p10 (v.2 - 1) / d) v.1)) (m := fun v => (3 - v.2).toNat) (Post := fun x => ∃ u : Unit, x = .inr u)
    (fun ⟨b, k⟩ ⟨g1, g2, g3⟩ => by
      simp only at g1 g2 g3
      by_cases hk : k < 3
      · left
        obtain ⟨r, hr, e⟩ := floor_round hN h h' (b := b) (k := k) ⟨g1, by omega⟩ g3
        refine ⟨(r, k + 1), e, ⟨by simp only; omega, by simp only; omega, .inr ?_⟩, by simp only; omega⟩
        simpa using hr
      · right
        exact ⟨.inr (), by simp [R10x122, hk], (), rfl⟩) N (0, 0) ⟨by simp only; omega, by simp only; omega, .inl rfl⟩ (big_lt hN (by simp only; omega))
  exact ⟨u, by rw [h1, h2]⟩
end floors

theorem T10_true {N : Nat} (hN : Big N) (a b : Int × Int) : T10 N (a, b) = some true := by
  obtain ⟨n, d⟩ := a
  obtain ⟨n', d'⟩ := b
  have h22 : T22 N () = some true := rfl
  rw [T10_eq]
  simp only [T21_chk hN, Option.bind_some, h22]
  by_cases h : chk' n d = 0
  · by_cases h' : chk' n' d' = 0
    · obtain ⟨x, e⟩ := floor_loop hN h h'
      have e0 : (bif chk' n d != 0 then some true else some (chk' n' d' != 0) : Option Bool) = some false := by simp [h, h']
      rw [e0]
      simp only [Option.bind_some, cond_false, e, Sum.elim_inr]
    · have e0 : (bif chk' n d != 0 then some true else some (chk' n' d' != 0) : Option Bool) = some true := by simp [h, h']
      rw [e0]
      rfl
  · rw [bne0 h]
    rfl
end Go.Proofs.YtpngggdfbbdfaaaDoor
