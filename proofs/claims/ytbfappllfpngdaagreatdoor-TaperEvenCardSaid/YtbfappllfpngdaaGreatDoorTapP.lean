/- Plain laws: shares of bars. -/
import Derived.Test.YtbfappllfpngdaaGreatDoorTapT
import Derived.Test.YtbfappllfpngdaaGreatDoorAmKI
set_option linter.all false
namespace Go.Proofs.YtbfappllfpngdaaGreatDoor
open Go Go.Am
set_option maxRecDepth 100000

theorem T128_gcd {N : Nat} (hN : Big N) {a b : Int} (ha : 0 ≤ a) (hb : 0 ≤ b) (hb' : b ≤ 9223372036854775807) : T128 N (a, b) = some (Int.gcd a b : Int) := by
  rw [T128_eq, gcd_loop (fun a => rfl) (fun a b h => by simp [R128x12, h, Bool.cond_eq_ite]) N a b ha hb (by unfold Big at hN; omega)]
  rfl
theorem T62_gcd {N : Nat} (hN : Big N) {a b : Int} (ha : 0 ≤ a) (hb : 0 ≤ b) (hb' : b ≤ 9223372036854775807) : T62 N (a, b) = some (Int.gcd a b : Int) := by
  rw [T62_eq, gcd_loop (fun a => rfl) (fun a b h => by simp [R62x12, h, Bool.cond_eq_ite]) N a b ha hb (by unfold Big at hN; omega)]
  rfl

section low
variable {N : Nat} (hN : Big N) {a b : Int} (ha : 0 ≤ a) (ha' : a ≤ 9223372036854775807) (hb : 0 < b) (hb' : b ≤ 9223372036854775807)
include hN ha ha' hb hb'
theorem T118_low : T118 N (a, b) = some (low a b) := by
  have hg := gcd_pos (a := a) (b := b) (.inr hb)
  have hz : ¬ (Int.gcd a b : Int) = 0 := by omega
  rw [T118_eq, T128_gcd hN ha (by omega) hb']
  simp only [Option.bind_some, hz, decide_false, Bool.not_false, cond_true, div_in ha ha' hg, div_in (by omega : 0 ≤ b) hb' hg]
  rfl
theorem T94_low : T94 N (a, b) = some (low a b) := by
  have hg := gcd_pos (a := a) (b := b) (.inr hb)
  have hz : ¬ (Int.gcd a b : Int) = 0 := by omega
  rw [T94_eq, T62_gcd hN ha (by omega) hb']
  simp only [Option.bind_some, hz, decide_false, Bool.not_false, cond_true, div_in ha ha' hg, div_in (by omega : 0 ≤ b) hb' hg]
  rfl
end low

theorem T76_when (N : Nat) (b : Bool) (e : Int) : T76 N (b, e) = some (if b then e else 0) := by rw [T76_eq]; cases b <;> rfl
theorem T101_rng (N : Nat) (n lo hi : Int) : T101 N (n, lo, hi) = some (rng n lo hi) := by
  rw [T101_eq, T76_when, T76_when]
  unfold rng
  by_cases h1 : n < lo
  · simp [h1]
  · by_cases h2 : n > hi <;> simp [h1, h2]

theorem T75_first {N : Nat} (hN : Big N) (l : List Int) (hl : l.length ≤ 9223372036854775806) : T75 N l = some (firstNZ l) := by
  obtain ⟨o, h1, h2⟩ := first_loop (rd := R75x26 N l) l (fun k hk => by
    have hd := nthD_map n23 l k hk
    have e1 : d23 (nthD (List.map n23 l) k) = l[k] := by rw [hd]; rfl
    have e2 : Pat.fits p23 (nthD (List.map n23 l) k) = true := by rw [hd]; rfl
    simp only [R75x26, List.length_map, Int.toNat_natCast, e1, e2, w_succ (show k < 9223372036854775807 by omega), lt_range hk, in_range hk, Bool.and_self, cond_true]
    by_cases hz : l[k] = 0
    · simp [hz]
    · simp [hz, Bool.cond_eq_ite]) (by simp only [R75x26, List.length_map, ge_range, cond_false]) N (by unfold Big at hN; omega)
  rw [T75_eq, h1, Option.bind_some]
  rcases o with o | o
  · simpa using h2
  · simpa using h2

theorem two (x y : Int) : ((bif (allFit (Pat.fits p23) [(AV.int .i64 x), (AV.int .i64 y)] && true) then some (List.map d23 [(AV.int .i64 x), (AV.int .i64 y)]) else none : Option ((List Int)))) = some [x, y] := rfl

/-- A ratio's error. -/
def chkR (r : Int × Int) : Int := if r.1 < 0 ∨ r.1 > 999999999 ∨ r.2 < 1 ∨ r.2 > 999999999 then 3 else if (Int.gcd r.1 r.2 : Int) = 1 then 0 else 1

theorem chkR_ok {r : Int × Int} (h : chkR r = 0) : 0 ≤ r.1 ∧ r.1 ≤ 999999999 ∧ 1 ≤ r.2 ∧ r.2 ≤ 999999999 ∧ (Int.gcd r.1 r.2 : Int) = 1 := by
  unfold chkR at h
  split at h
  · cases h
  · split at h
    · rename_i h1 h2; exact ⟨by omega, by omega, by omega, by omega, h2⟩
    · cases h

section chk
variable {N : Nat} (hN : Big N) (r : Int × Int)
include hN

theorem T90_chk : T90 N r = some (chkR r) := by
  rw [T90_eq]
  simp only [T101_rng, T76_when, Option.bind_some, beq_self_eq_true, Bool.and_true, cond_true]
  have h2 := two (rng r.1 0 999999999) (rng r.2 1 999999999)
  simp only [Bool.and_true] at h2
  rw [h2, Option.bind_some, T75_first hN _ (by simp)]
  simp only [Option.bind_some]
  unfold chkR
  by_cases h : r.1 < 0 ∨ r.1 > 999999999 ∨ r.2 < 1 ∨ r.2 > 999999999
  · rw [if_pos h]
    have e : firstNZ [rng r.1 0 999999999, rng r.2 1 999999999] = 3 := by
      unfold rng
      by_cases h1 : r.1 < 0 ∨ r.1 > 999999999
      · simp [h1, firstNZ]
      · have h2 : r.2 < 1 ∨ r.2 > 999999999 := by omega
        simp [h1, h2, firstNZ]
    rw [e]
    rfl
  · rw [if_neg h]
    have e : firstNZ [rng r.1 0 999999999, rng r.2 1 999999999] = 0 := by
      unfold rng
      have h1 : ¬ (r.1 < 0 ∨ r.1 > 999999999) := by omega
      have h2 : ¬ (r.2 < 1 ∨ r.2 > 999999999) := by omega
      simp [h1, h2, firstNZ]
    rw [e, T128_gcd hN (by omega) (by omega) (by omega)]
    by_cases h5 : (Int.gcd r.1 r.2 : Int) = 1
    · simp [h5]
    · have h6 : ((Int.gcd r.1 r.2 : Int) != 1) = true := by simpa using h5
      simp [h5, h6]

theorem T30_chk : T30 N r = some (chkR r) := by
  rw [T30_eq]
  unfold chkR
  by_cases h : r.1 < 0 ∨ r.1 > 999999999 ∨ r.2 < 1 ∨ r.2 > 999999999
  · rw [if_pos h]
    have e : (bif (decide (r.1 < 0)) then (some true) else (bif (decide (r.1 > 999999999)) then (some true) else (bif (decide (r.2 < 1)) then (some true) else (some (decide (r.2 > 999999999))))) : Option Bool) = some true := by
      simp only [Bool.cond_eq_ite]
      by_cases h1 : r.1 < 0 <;> by_cases h2 : r.1 > 999999999 <;> by_cases h3 : r.2 < 1 <;> simp [h1, h2, h3] <;> omega
    simp only [e]
    rfl
  · rw [if_neg h]
    have h1 : ¬ r.1 < 0 := by omega
    have h2 : ¬ r.1 > 999999999 := by omega
    have h3 : ¬ r.2 < 1 := by omega
    have h4 : ¬ r.2 > 999999999 := by omega
    simp only [h1, h2, h3, h4, decide_false, cond_false, Option.bind_some]
    rw [T62_gcd hN (by omega) (by omega) (by omega)]
    by_cases h5 : (Int.gcd r.1 r.2 : Int) = 1
    · simp [h5]
    · have h6 : ((Int.gcd r.1 r.2 : Int) != 1) = true := by simpa using h5
      simp [h5, h6]

/-- The share of a valid ratio. -/
def shr (r : Int × Int) : Int × Int := low (2 * (if r.2 < r.1 then r.2 else r.1)) (r.1 + r.2)

omit hN in
theorem shr_ok (h : chkR r = 0) : 0 ≤ (shr r).1 ∧ (shr r).1 ≤ (shr r).2 ∧ 1 ≤ (shr r).2 := by
  obtain ⟨h1, h2, h3, h4, h5⟩ := chkR_ok h
  have hm : 0 ≤ 2 * (if r.2 < r.1 then r.2 else r.1) ∧ 2 * (if r.2 < r.1 then r.2 else r.1) ≤ r.1 + r.2 := by split <;> omega
  unfold shr low
  generalize 2 * (if r.2 < r.1 then r.2 else r.1) = a at hm
  have hg := gcd_pos (a := a) (b := r.1 + r.2) (.inr (by omega))
  have hd : (Int.gcd a (r.1 + r.2) : Int) ∣ r.1 + r.2 := Int.gcd_dvd_right ..
  refine ⟨Int.ediv_nonneg hm.1 (by omega), Int.ediv_le_ediv hg hm.2, ?_⟩
  have := Int.le_of_dvd (by omega : 0 < r.1 + r.2) hd
  exact Int.le_ediv_of_mul_le hg (by omega)

theorem T91_shr (h : chkR r = 0) : T91 N r = some (shr r) := by
  obtain ⟨h1, h2, h3, h4, h5⟩ := chkR_ok h
  have hm : 0 ≤ 2 * (if r.2 < r.1 then r.2 else r.1) ∧ 2 * (if r.2 < r.1 then r.2 else r.1) ≤ r.1 + r.2 := by split <;> omega
  rw [T91_eq, w64 (by omega), w64 (by omega), T118_low hN hm.1 (by omega) (by omega) (by omega)]
  rfl

theorem T31_shr (h : chkR r = 0) : T31 N r = some (shr r) := by
  obtain ⟨h1, h2, h3, h4, h5⟩ := chkR_ok h
  rw [T31_eq, T93_eq]
  simp only [Option.bind_some]
  by_cases hs : r.1 > r.2
  · simp only [hs, decide_true, cond_true]
    rw [w64 (by omega), w64 (by omega), T94_low hN (by omega) (by omega) (by omega) (by omega)]
    have : r.2 < r.1 := hs
    simp [shr, this]
  · simp only [hs, decide_false, cond_false]
    rw [w64 (by omega), w64 (by omega), T94_low hN (by omega) (by omega) (by omega) (by omega)]
    have : ¬ r.2 < r.1 := hs
    simp [shr, this]
end chk

/-! ### Spreads -/

/-- Whether the first word stands at a place. -/
def pk (m n : Int) (i : Nat) : Bool := decide (((i : Int) + 1) * m / (m + n) > (i : Int) * m / (m + n))
def partsL (a : List UInt8) (m : Int) (b : List UInt8) (n : Int) (k : Nat) : List (List UInt8) := (List.range k).map fun i => if pk m n i then a else b
def mixS (a : List UInt8) (m : Int) (b : List UInt8) (n : Int) : List UInt8 := (partsL a m b n (m + n).toNat).flatten

theorem partsL_succ (a : List UInt8) (m : Int) (b : List UInt8) (n : Int) (k : Nat) : partsL a m b n (k + 1) = partsL a m b n k ++ [if pk m n k then a else b] := by
  unfold partsL
  rw [List.range_succ, List.map_append]
  rfl
theorem partsL_length (a : List UInt8) (m : Int) (b : List UInt8) (n : Int) (k : Nat) : (partsL a m b n k).length = k := by simp [partsL]

theorem joinL_flatten : ∀ l : List (List UInt8), joinL l [] = l.flatten
  | [] => rfl
  | [a] => by simp [joinL]
  | a :: b :: l => by
    have := joinL_flatten (b :: l)
    show a ++ [] ++ joinL (b :: l) [] = _
    rw [this]
    simp

theorem flatten_le {B : Nat} : ∀ {l : List (List UInt8)}, (∀ x ∈ l, x.length ≤ B) → l.flatten.length ≤ l.length * B
  | [], _ => by simp
  | a :: l, h => by
    have h1 := h a (by simp)
    have h2 := flatten_le (l := l) (fun x hx => h x (by simp [hx]))
    rw [List.flatten_cons, List.length_append, List.length_cons, Nat.succ_mul]
    omega

theorem partsL_le {a b : List UInt8} {B : Nat} (ha : a.length ≤ B) (hb : b.length ≤ B) (m n : Int) (k : Nat) : (partsL a m b n k).flatten.length ≤ k * B := by
  have := flatten_le (B := B) (l := partsL a m b n k) (fun x hx => by
    unfold partsL at hx
    obtain ⟨i, _, rfl⟩ := List.mem_map.1 hx
    split <;> assumption)
  rwa [partsL_length] at this

section mix
variable {N : Nat} (hN : Big N) {a b : List UInt8} {m n : Int} (hm : 0 ≤ m) (hn : 0 ≤ n) (hs : m + n ≤ 100000) (ha : a.length ≤ 100000) (hb : b.length ≤ 100000)

theorem pk_eq {m n : Int} (hm : 0 ≤ m) (hn : 0 ≤ n) (hs : m + n ≤ 100000) {k : Nat} (hk : (k : Int) < m + n) :
    decide ((IntKind.wrap .i64 (Int.tdiv (IntKind.wrap .i64 (((k + 1 : Nat) : Int) * m)) (m + n))) > (IntKind.wrap .i64 (Int.tdiv (IntKind.wrap .i64 ((k : Int) * m)) (m + n)))) = pk m n k := by
  have h0 : 0 ≤ (k : Int) * m := Int.mul_nonneg (by omega) hm
  have h1 : ((k : Int) + 1) * m ≤ 100000 * 100000 := by
    refine Int.le_trans (Int.mul_le_mul_of_nonneg_right (by omega : (k : Int) + 1 ≤ 100000) hm) (Int.mul_le_mul_of_nonneg_left (by omega) (by omega))
  have h2 : ((k : Int) + 1) * m = (k : Int) * m + m := by rw [Int.add_mul, Int.one_mul]
  rw [show ((k + 1 : Nat) : Int) = (k : Int) + 1 by simp, w64 (x := ((k : Int) + 1) * m) (by omega), w64 (x := (k : Int) * m) (by omega)]
  rw [div_in (by omega) (by omega) (by omega), div_in (by omega) (by omega) (by omega)]
  rfl

include hN hm hn hs ha hb

theorem T86_mix : T86 N (a, m, b, n) = some (mixS a m b n) := by
  have hw : IntKind.wrap .i64 (m + n) = m + n := w64 (by omega)
  rw [T86_eq]
  have e0 : ((bif (allFit (Pat.fits p9) ([] : List AV) && true) then some ((List.map d9 ([] : List AV)), 0) else none : Option ((List (List UInt8)) × Int)).bind fun w9 => bif (decide (0 = (List.map n9 w9.1).length) && true) then some w9 else none) = some (([] : List (List UInt8)), (0 : Int)) := rfl
  rw [e0, Option.bind_some]
  have key := loopR_count (rd := R86x122 N a m b n) (m + n).toNat (fun k => (partsL a m b n k, (k : Int))) (partsL a m b n (m + n).toNat) (fun k hk => by
    have hk' : (k : Int) < m + n := by omega
    have hz : ¬ m + n = 0 := by omega
    have hl : (partsL a m b n k).length = k := partsL_length ..
    have e1 : (k + 1) * 16 ≤ 140737488355328 := by omega
    have app : ∀ x : List UInt8, List.map n9 (partsL a m b n k) ++ [AV.str x] = List.map n9 (partsL a m b n k ++ [x]) := fun x => by simp [n9, Pat.enc]
    simp only [R86x122, hw, hk', decide_true, cond_true, hz, decide_false, Bool.not_false, pk_eq hm hn hs hk', List.length_map, hl, e1, Bool.and_self, app, fa9, md9, Option.bind_some, List.length_append, List.length_cons, List.length_nil, Bool.and_true, partsL_succ, w_succ (show k < 9223372036854775807 by omega)]
    cases pk m n k <;> rfl) (by
    have hk : ¬ ((m + n).toNat : Int) < m + n := by omega
    simp only [R86x122, hw, hk, decide_false, cond_false, partsL_length, List.length_map, fa9, md9, Bool.and_true, cond_true, Option.bind_some, decide_true]) N 0 (Nat.zero_le _) (by unfold Big at hN; omega)
  have key' : loopR (R86x122 N a m b n) N (([] : List (List UInt8)), (0 : Int)) = some (partsL a m b n (m + n).toNat) := key
  rw [key', Option.bind_some]
  simp only [fa9, md9, Bool.and_true, cond_true, Option.bind_some]
  have hf := partsL_le ha hb m n (m + n).toNat
  have hf2 : (m + n).toNat * 100000 ≤ 100000 * 100000 := Nat.mul_le_mul_right _ (by omega)
  have e3 : (partsL a m b n (m + n).toNat).length ≤ 140737488355328 := by rw [partsL_length]; omega
  have e4 : (partsL a m b n (m + n).toNat).flatten.length ≤ 140737488355328 := by omega
  simp only [T127, joinT, e3, e4, decide_true, Bool.and_self, cond_true, Option.bind_some, joinL_flatten]
  rfl

theorem T27_mix : T27 N (a, m, b, n) = some (mixS a m b n) := by
  have hw : IntKind.wrap .i64 (m + n) = m + n := w64 (by omega)
  rw [T27_eq]
  have key := loopR_count (rd := R27x58 N a m b n) (m + n).toNat (fun k => ((partsL a m b n k).flatten, (k : Int))) (mixS a m b n) (fun k hk => by
    have hk' : (k : Int) < m + n := by omega
    have hz : ¬ m + n = 0 := by omega
    have hf := partsL_le ha hb m n k
    have hf2 : k * 100000 ≤ 100000 * 100000 := Nat.mul_le_mul_right _ (by omega)
    have e1 : (partsL a m b n k).flatten.length + a.length ≤ 9223372036854775807 := by omega
    have e2 : (partsL a m b n k).flatten.length + b.length ≤ 9223372036854775807 := by omega
    simp only [R27x58, hw, hk', decide_true, cond_true, hz, decide_false, Bool.not_false, pk_eq hm hn hs hk', e1, e2, partsL_succ, w_succ (show k < 9223372036854775807 by omega)]
    cases pk m n k <;> simp) (by
    have hk : ¬ ((m + n).toNat : Int) < m + n := by omega
    simp only [R27x58, hw, hk, decide_false, cond_false]
    rfl) N 0 (Nat.zero_le _) (by unfold Big at hN; omega)
  have key' : loopR (R27x58 N a m b n) N (([] : List UInt8), (0 : Int)) = some (mixS a m b n) := key
  rw [key']
  rfl
end mix

/-- The word of a part. -/
def wordS (r p : Int × Int) : List UInt8 := mixS [66] p.1 (if r.1 > r.2 then [84] else [78]) (p.2 - p.1)

section word
variable {N : Nat} (hN : Big N) (r p : Int × Int) (h1 : 0 ≤ p.1) (h2 : p.1 ≤ p.2) (h3 : p.2 ≤ 1000)
include hN h1 h2 h3
theorem T92_word : T92 N (p, r) = some (wordS r p) := by
  rw [T92_eq]
  by_cases h : r.1 > r.2
  · simp only [h, decide_true, cond_true, Option.bind_some]
    rw [w64 (by omega), T86_mix hN h1 (by omega) (by omega) (by simp) (by simp)]
    simp [wordS, h]
  · simp only [h, decide_false, cond_false, Option.bind_some]
    rw [w64 (by omega), T86_mix hN h1 (by omega) (by omega) (by simp) (by simp)]
    simp [wordS, h]
theorem T32_word : T32 N (r, p) = some (wordS r p) := by
  rw [T32_eq, T93_eq]
  simp only [Option.bind_some]
  by_cases h : r.1 > r.2
  · simp only [h, decide_true, cond_true]
    rw [w64 (by omega), T27_mix hN h1 (by omega) (by omega) (by simp) (by simp)]
    simp [wordS, h]
  · simp only [h, decide_false, cond_false]
    rw [w64 (by omega), T27_mix hN h1 (by omega) (by omega) (by simp) (by simp)]
    simp [wordS, h]
end word

theorem TaperShares_true {N : Nat} (hN : Big N) (r : Int × Int) : T5 N r = some true := by
  rw [T5_eq, T28_eq, T29_eq]
  simp only [T15, Option.bind_some, Bool.not_true, cond_false, T90_chk hN, T30_chk hN]
  by_cases hc : chkR r = 0
  · obtain ⟨s1, s2, s3⟩ := shr_ok r hc
    simp only [hc, bne_self_eq_false, cond_false, beq_self_eq_true, cond_true, T91_shr hN r hc, T31_shr hN r hc, Option.bind_some]
    by_cases h64 : (shr r).2 > 64
    · simp only [h64, decide_true, cond_true, Option.bind_some]
      by_cases hL : (shr r).2 > 999999999
      · have hmx : (if (shr r).2 > (shr r).1 then (shr r).2 else (shr r).1) > 999999999 := by split <;> omega
        simp only [hmx, hL, decide_true, cond_true, Option.bind_some]
        by_cases hb : (shr r).1 > 999999999 <;> simp [hb, T33_eq, T22_eq]
      · have hmx : ¬ (if (shr r).2 > (shr r).1 then (shr r).2 else (shr r).1) > 999999999 := by split <;> omega
        have hb : ¬ (shr r).1 > 999999999 := by omega
        simp [hmx, hL, hb, T33_eq, T22_eq]
    · have hL : ¬ (shr r).2 > 999999999 := by omega
      have hb : ¬ (shr r).1 > 999999999 := by omega
      have hmx : ¬ (if (shr r).2 > (shr r).1 then (shr r).2 else (shr r).1) > 999999999 := by split <;> omega
      simp [h64, hmx, hL, hb, T92_word hN r (shr r) s1 s2 (by omega), T32_word hN r (shr r) s1 s2 (by omega), T33_eq, T22_eq]
  · have h1 : (chkR r != 0) = true := by simpa using hc
    have h2 : (chkR r == 0) = false := by simpa using hc
    simp [h1, h2, T33_eq, T22_eq]
end Go.Proofs.YtbfappllfpngdaaGreatDoor
