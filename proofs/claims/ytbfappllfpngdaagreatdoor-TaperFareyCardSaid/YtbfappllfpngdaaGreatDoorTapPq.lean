/- Plain laws: nearest words; TaperNearest. -/
import Derived.Test.YtbfappllfpngdaaGreatDoorTapPo
set_option linter.all false
namespace Go.Proofs.YtbfappllfpngdaaGreatDoor
open Go Go.Am
set_option maxRecDepth 100000

/-! ### The proofs of neighbours -/

def fitsP (p : P2) (n : Int) : Bool := decide (p.2 ≥ 1) && (decide (p.2 ≤ n) && (decide (p.1 ≥ 0) && (decide (p.1 ≤ p.2) && low1 p)))
theorem fitsP_ok {p : P2} {n : Int} (hn : n ≤ 64) (h : fitsP p n = true) : PartOk p := by
  unfold fitsP at h
  simp only [Bool.and_eq_true, decide_eq_true_eq] at h
  exact ⟨by omega, by omega, by omega, by omega⟩

section
variable {N : Nat} (hN : Big N)
include hN

theorem T108_fits {p : P2} {n : Int} (hn : n ≤ 64) : T108 N (p, n) = some (fitsP p n) := by
  rw [T108_eq]
  unfold fitsP
  by_cases h1 : p.2 ≥ 1
  · by_cases h2 : p.2 ≤ n
    · by_cases h3 : p.1 ≥ 0
      · by_cases h4 : p.1 ≤ p.2
        · simp only [h1, h2, h3, h4, decide_true, cond_true, Bool.true_and, T128_gcd hN (a := p.1) (b := p.2) (by omega) (by omega) (by omega), Option.bind_some]
          rfl
        · simp [h1, h2, h3, h4]
      · simp [h1, h2, h3]
    · simp [h1, h2]
  · simp [h1]
theorem T116_fits {p : P2} {n : Int} (hn : n ≤ 64) : T116 N (p, n) = some (fitsP p n) := by
  rw [T116_eq]
  unfold fitsP
  by_cases h1 : p.2 ≥ 1
  · by_cases h2 : p.2 ≤ n
    · by_cases h3 : p.1 ≥ 0
      · by_cases h4 : p.1 ≤ p.2
        · simp only [h1, h2, h3, h4, decide_true, cond_true, Bool.true_and, T62_gcd hN (a := p.1) (b := p.2) (by omega) (by omega) (by omega), Option.bind_some]
          rfl
        · simp [h1, h2, h3, h4]
      · simp [h1, h2, h3]
    · simp [h1, h2]
  · simp [h1]
end

/-- Whether two parts prove that there is no nearer one. -/
def provesB (s : P2) (n : Int) (a b : P2) : Bool :=
  fitsP a n && (fitsP b n && (!(decide (sideI a s > 0)) && (!(decide (sideI b s < 0)) && (decide (a = b) || (decide (b.1 * a.2 - a.1 * b.2 = 1) && decide (a.2 + b.2 > n))))))

theorem shr_sh {r : P2} (h : chkR r = 0) : ShOk (shr r) := by
  obtain ⟨h1, h2, h3⟩ := shr_ok r h
  refine ⟨h1, h2, h3, ?_⟩
  obtain ⟨k1, k2, k3, k4, k5⟩ := chkR_ok h
  unfold shr low
  have := Int.ediv_le_self (b := (Int.gcd (2 * (if r.2 < r.1 then r.2 else r.1)) (r.1 + r.2) : Int)) (show 0 ≤ r.1 + r.2 by omega)
  simp only
  omega

def nearErr (r : P2) (n : Int) : Int := firstNZ [chkR r, rng n 1 64]
theorem nearErr_ok {r : P2} {n : Int} (h : nearErr r n = 0) : chkR r = 0 ∧ 1 ≤ n ∧ n ≤ 64 := by
  have hz := firstNZ_zero.1 h
  simp only [List.mem_cons, List.not_mem_nil, or_false, forall_eq_or_imp, forall_eq] at hz
  exact ⟨hz.1, rng_ok hz.2⟩

theorem pair_eq (a b : P2) : ((a.1 == b.1) && ((a.2 == b.2) && true)) = decide (a = b) := by
  by_cases h1 : a.1 = b.1
  · by_cases h2 : a.2 = b.2
    · have : a = b := Prod.ext h1 h2
      simp [h1, h2, this]
    · have : ¬ a = b := fun e => h2 (by rw [e])
      simp [h1, h2, this]
  · have : ¬ a = b := fun e => h1 (by rw [e])
    simp [h1, this]

section
variable {N : Nat} (hN : Big N)
include hN

theorem T60_proves {r : P2} {n : Int} (a b : P2) (hr : chkR r = 0) (hn : n ≤ 64) : T60 N (r, n, a.1, a.2, b.1, b.2) = some (provesB (shr r) n a b) := by
  have hs := shr_sh hr
  have f1 : T116 N ((a.1, a.2), n) = some (fitsP a n) := T116_fits hN hn
  have f2 : T116 N ((b.1, b.2), n) = some (fitsP b n) := T116_fits hN hn
  have t31 : T31 N (r.1, r.2) = some (shr r) := T31_shr hN r hr
  rw [T60_eq]
  simp only [f1, f2, t31, Option.bind_some, beq_self_eq_true, Bool.and_self, cond_true]
  unfold provesB
  cases fa : fitsP a n with
  | false => simp
  | true =>
    have ha := fitsP_ok hn fa
    cases fb : fitsP b n with
    | false => simp
    | true =>
      have hb := fitsP_ok hn fb
      obtain ⟨b1, b2⟩ := pp_bound ha hb
      obtain ⟨a1, a2, a3, a4⟩ := ha
      obtain ⟨q1, q2, q3, q4⟩ := hb
      have t1 : T113 N ((a.1, a.2), ((shr r).1, (shr r).2)) = some (sideI a (shr r)) := T113_side N (p := a) ⟨a1, a2, a3, a4⟩ hs
      have t2 : T113 N ((b.1, b.2), ((shr r).1, (shr r).2)) = some (sideI b (shr r)) := T113_side N (p := b) ⟨q1, q2, q3, q4⟩ hs
      simp only [Bool.not_true, cond_false, t1, t2, Option.bind_some, Bool.true_and]
      by_cases c1 : sideI a (shr r) > 0
      · simp [c1]
      · by_cases c2 : sideI b (shr r) < 0
        · simp [c1, c2]
        · simp only [c1, c2, decide_false, cond_false, Option.bind_some, Bool.not_false, Bool.true_and]
          rw [pair_eq a b, w64 (x := b.1 * a.2) (by omega), w64 (x := a.1 * b.2) (by omega), w64 (x := b.1 * a.2 - a.1 * b.2) (by omega), w64 (x := a.2 + b.2) (by omega)]
          by_cases e : a = b
          · simp [e]
          · by_cases d : b.1 * a.2 - a.1 * b.2 = 1 <;> simp [e, d, Bool.cond_eq_ite]

theorem T56_proves {r : P2} {n : Int} (a b : P2) : T56 N (r, n, a.1, a.2, b.1, b.2) = some (if nearErr r n = 0 then (if provesB (shr r) n a b = true then 0 else 21) else nearErr r n) := by
  have t90 : T90 N (r.1, r.2) = some (chkR r) := T90_chk hN r
  rw [T56_eq, T106_eq]
  simp only [t90, T101_rng, Option.bind_some, allFit, fi23, di23, List.map_cons, List.map_nil, Bool.and_self, cond_true, T75_first hN _ (show [_, _].length ≤ 9223372036854775806 by simp)]
  by_cases h : nearErr r n = 0
  · obtain ⟨hr, h1, h2⟩ := nearErr_ok h
    have h' : firstNZ [chkR r, rng n 1 64] = 0 := h
    have hs := shr_sh hr
    have t91 : T91 N (r.1, r.2) = some (shr r) := T91_shr hN r hr
    have f1 : T108 N ((a.1, a.2), n) = some (fitsP a n) := T108_fits hN h2
    have f2 : T108 N ((b.1, b.2), n) = some (fitsP b n) := T108_fits hN h2
    simp only [h, h', bne_self_eq_false, cond_false, if_true, t91, Option.bind_some, beq_self_eq_true, Bool.and_self, cond_true, eqC_self, f1, f2]
    unfold provesB
    cases fa : fitsP a n with
    | false => simp
    | true =>
      have ha := fitsP_ok h2 fa
      cases fb : fitsP b n with
      | false => simp
      | true =>
        have hb := fitsP_ok h2 fb
        obtain ⟨b1, b2⟩ := pp_bound ha hb
        obtain ⟨a1, a2, a3, a4⟩ := ha
        obtain ⟨q1, q2, q3, q4⟩ := hb
        have t1 : T109 N ((a.1, a.2), ((shr r).1, (shr r).2)) = some (sideI a (shr r)) := T109_side N (p := a) ⟨a1, a2, a3, a4⟩ hs
        have t2 : T109 N ((b.1, b.2), ((shr r).1, (shr r).2)) = some (sideI b (shr r)) := T109_side N (p := b) ⟨q1, q2, q3, q4⟩ hs
        simp only [Bool.not_true, cond_false, t1, t2, Option.bind_some, Bool.true_and]
        by_cases c1 : sideI a (shr r) > 0
        · simp [c1]
        · by_cases c2 : sideI b (shr r) < 0
          · simp [c1, c2]
          · simp only [c1, c2, decide_false, cond_false, Option.bind_some, Bool.not_false, Bool.true_and]
            rw [pair_eq a b, w64 (x := b.1 * a.2) (by omega), w64 (x := a.1 * b.2) (by omega), w64 (x := b.1 * a.2 - a.1 * b.2) (by omega), w64 (x := a.2 + b.2) (by omega)]
            simp only [T76_when]
            by_cases e : a = b
            · simp [e]
            · by_cases d : b.1 * a.2 - a.1 * b.2 = 1
              · by_cases g : a.2 + b.2 ≤ n
                · have g' : ¬ a.2 + b.2 > n := by omega
                  simp [e, d, g, g']
                · have g' : a.2 + b.2 > n := by omega
                  simp [e, d, g, g']
              · simp [e, d, Bool.cond_eq_ite]
  · have h' : ¬ firstNZ [chkR r, rng n 1 64] = 0 := h
    simp only [h, bne0 h', cond_true, if_false]
    rfl

theorem T55_neigh {r : P2} {n : Int} : T55 N (r, n) = some (if nearErr r n = 0 then (((neigh (shr r) n.toNat).1.1, (neigh (shr r) n.toNat).1.2, (neigh (shr r) n.toNat).2.1, (neigh (shr r) n.toNat).2.2), 0) else ((0, 0, 0, 0), nearErr r n)) := by
  have t90 : T90 N (r.1, r.2) = some (chkR r) := T90_chk hN r
  rw [T55_eq, T106_eq]
  simp only [t90, T101_rng, Option.bind_some, allFit, fi23, di23, List.map_cons, List.map_nil, Bool.and_self, cond_true, T75_first hN _ (show [_, _].length ≤ 9223372036854775806 by simp)]
  by_cases h : nearErr r n = 0
  · obtain ⟨hr, h1, h2⟩ := nearErr_ok h
    have h' : firstNZ [chkR r, rng n 1 64] = 0 := h
    have hs := shr_sh hr
    have t91 : T91 N (r.1, r.2) = some (shr r) := T91_shr hN r hr
    obtain ⟨m, rfl⟩ : ∃ m : Nat, n = (m : Int) := ⟨n.toNat, by omega⟩
    have t107 : T107 N (((shr r).1, (shr r).2), (m : Int)) = _ := T107_neigh hN hs m (by omega)
    simp only [h, h', bne_self_eq_false, cond_false, if_true, t91, Option.bind_some, t107, Int.toNat_natCast]
  · have h' : ¬ firstNZ [chkR r, rng n 1 64] = 0 := h
    simp only [h, bne0 h', cond_true, if_false]
    rfl

theorem T58_neigh {r : P2} {n : Nat} (hr : chkR r = 0) (hn : n ≤ 64) : T58 N (r, (n : Int)) = some ((neigh (shr r) n).1.1, (neigh (shr r) n).1.2, (neigh (shr r) n).2.1, (neigh (shr r) n).2.2) := by
  have hs := shr_sh hr
  have t31 : T31 N (r.1, r.2) = some (shr r) := T31_shr hN r hr
  rw [T58_eq, t31]
  simp only [Option.bind_some, T58_loop hN hs n hn]
end

/-! ### The word of a part -/

theorem vec_single (x : UInt8) : vec [x] = stepI x := by
  unfold vec
  simp [addV]
theorem addP_zero (a : P2) : addP (0, 0) a = a := by unfold addP; simp

section mix
variable (x y : UInt8) {m s : Int} (hm : 0 ≤ m) (hms : m ≤ s) (hs : 0 < s)
include hm hms hs

/-- How often the first letter is taken. -/
theorem take_next_floor (k : Nat) : ((k : Int) + 1) * m / s = (k : Int) * m / s + (if pk m (s - m) k = true then 1 else 0) := by
  unfold pk
  rw [show m + (s - m) = s by omega]
  have e : ((k : Int) + 1) * m = (k : Int) * m + m := by rw [Int.add_mul, Int.one_mul]
  have h1 : (k : Int) * m / s ≤ ((k : Int) + 1) * m / s := Int.ediv_le_ediv hs (by omega)
  have h2 : ((k : Int) + 1) * m / s ≤ (k : Int) * m / s + 1 := by
    have h3 : ((k : Int) * m + s) / s = (k : Int) * m / s + 1 := by
      rw [Int.add_ediv_of_dvd_right (Int.dvd_refl s), Int.ediv_self (by omega)]
    rw [← h3]
    exact Int.ediv_le_ediv hs (by omega)
  by_cases h : ((k : Int) + 1) * m / s > (k : Int) * m / s
  · rw [if_pos (decide_eq_true h)]; omega
  · rw [if_neg (by simpa using h)]; omega

theorem parts_vec (k : Nat) : ((partsL [x] m [y] (s - m) k).flatten).length = k ∧ vec ((partsL [x] m [y] (s - m) k).flatten) = ((k : Int) * m / s * (stepI x).1 + ((k : Int) - (k : Int) * m / s) * (stepI y).1, (k : Int) * m / s * (stepI x).2 + ((k : Int) - (k : Int) * m / s) * (stepI y).2) := by
  induction k with
  | zero => exact ⟨rfl, by simp [partsL, vec]⟩
  | succ k ih =>
    obtain ⟨h1, h2⟩ := ih
    rw [partsL_succ, List.flatten_append, vec_append, h2]
    have hf := take_next_floor hm hms hs k
    have hc : (((k + 1 : Nat) : Int)) = (k : Int) + 1 := by simp
    rw [hc, hf]
    generalize (k : Int) * m / s = c
    cases hp : pk m (s - m) k with
    | true =>
      refine ⟨by simp [h1], ?_⟩
      simp only [if_true, List.flatten_cons, List.flatten_nil, List.append_nil, vec_single]
      refine Prod.ext ?_ ?_
      · show c * (stepI x).1 + ((k : Int) - c) * (stepI y).1 + (stepI x).1 = (c + 1) * (stepI x).1 + ((k : Int) + 1 - (c + 1)) * (stepI y).1
        rw [Int.add_mul, Int.one_mul, show (k : Int) + 1 - (c + 1) = (k : Int) - c by omega]; omega
      · show c * (stepI x).2 + ((k : Int) - c) * (stepI y).2 + (stepI x).2 = (c + 1) * (stepI x).2 + ((k : Int) + 1 - (c + 1)) * (stepI y).2
        rw [Int.add_mul, Int.one_mul, show (k : Int) + 1 - (c + 1) = (k : Int) - c by omega]; omega
    | false =>
      refine ⟨by simp [h1], ?_⟩
      simp only [Bool.false_eq_true, if_false, List.flatten_cons, List.flatten_nil, List.append_nil, vec_single, Int.add_zero]
      refine Prod.ext ?_ ?_
      · show c * (stepI x).1 + ((k : Int) - c) * (stepI y).1 + (stepI y).1 = c * (stepI x).1 + ((k : Int) + 1 - c) * (stepI y).1
        rw [show (k : Int) + 1 - c = (k : Int) - c + 1 by omega, Int.add_mul, Int.one_mul]; omega
      · show c * (stepI x).2 + ((k : Int) - c) * (stepI y).2 + (stepI y).2 = c * (stepI x).2 + ((k : Int) + 1 - c) * (stepI y).2
        rw [show (k : Int) + 1 - c = (k : Int) - c + 1 by omega, Int.add_mul, Int.one_mul]; omega
end mix

/-- The rate of a part's word. -/
def rateI (r p : P2) : P2 := if r.1 > r.2 then (2 * p.2 - p.1, p.1) else (p.1, 2 * p.2 - p.1)

theorem word_vec (r : P2) {p : P2} (hp : PartOk p) : vec (wordS r p) = rateI r p ∧ ((wordS r p).length : Int) = p.2 := by
  obtain ⟨h1, h2, h3, h4⟩ := hp
  unfold wordS rateI mixS
  rw [show p.1 + (p.2 - p.1) = p.2 by omega]
  have hk : ((p.2.toNat : Nat) : Int) = p.2 := by omega
  have hc : p.2 * p.1 / p.2 = p.1 := Int.mul_ediv_cancel_left _ (by omega)
  by_cases hr : r.1 > r.2
  · rw [if_pos hr, if_pos hr]
    obtain ⟨a, b⟩ := parts_vec 66 84 h1 h2 (by omega) p.2.toNat
    rw [hk, hc] at b
    refine ⟨?_, by rw [a]; exact hk⟩
    rw [b]
    have e1 : stepI 66 = (1, 1) := rfl
    have e2 : stepI 84 = (2, 0) := rfl
    rw [e1, e2]
    refine Prod.ext ?_ ?_ <;> simp only <;> omega
  · rw [if_neg hr, if_neg hr]
    obtain ⟨a, b⟩ := parts_vec 66 78 h1 h2 (by omega) p.2.toNat
    rw [hk, hc] at b
    refine ⟨?_, by rw [a]; exact hk⟩
    rw [b]
    have e1 : stepI 66 = (1, 1) := rfl
    have e2 : stepI 78 = (0, 2) := rfl
    rw [e1, e2]
    refine Prod.ext ?_ ?_ <;> simp only <;> omega
end Go.Proofs.YtbfappllfpngdaaGreatDoor
