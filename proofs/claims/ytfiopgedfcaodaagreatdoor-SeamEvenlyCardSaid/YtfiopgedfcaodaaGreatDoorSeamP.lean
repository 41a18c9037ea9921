/- Plain laws: joins of meshes. -/
import Derived.Test.YtfiopgedfcaodaaGreatDoorSeamT
import Derived.Test.YtfiopgedfcaodaaGreatDoorAmKK
set_option linter.all false
namespace Go.Proofs.YtfiopgedfcaodaaGreatDoor
open Go Go.Am
set_option maxRecDepth 100000

theorem T91_when (N : Nat) (b : Bool) (e : Int) : T91 N (b, e) = some (if b then e else 0) := by rw [T91_eq]; cases b <;> rfl
theorem T93_rng (N : Nat) (n lo hi : Int) : T93 N (n, lo, hi) = some (rng n lo hi) := by
  rw [T93_eq, T91_when, T91_when]
  unfold rng
  by_cases h1 : n < lo
  · simp [h1]
  · by_cases h2 : n > hi <;> simp [h1, h2]
theorem T90_first {N : Nat} (hN : Big N) (l : List Int) (hl : l.length ≤ 9223372036854775806) : T90 N l = some (firstNZ l) := by
  obtain ⟨o, h1, h2⟩ := first_loop (rd := R90x26 N l) l (fun k hk => by
    have hd := nthD_map n24 l k hk
    have e1 : d24 (nthD (List.map n24 l) k) = l[k] := by rw [hd]; rfl
    have e2 : Pat.fits p24 (nthD (List.map n24 l) k) = true := by rw [hd]; rfl
    simp only [R90x26, List.length_map, Int.toNat_natCast, e1, e2, w_succ (show k < 9223372036854775807 by omega), lt_range hk, in_range hk, Bool.and_self, cond_true]
    by_cases hz : l[k] = 0
    · simp [hz]
    · simp [hz, Bool.cond_eq_ite]) (by simp only [R90x26, List.length_map, ge_range, cond_false]) N (by unfold Big at hN; omega)
  rw [T90_eq, h1, Option.bind_some]
  rcases o with o | o
  · simpa using h2
  · simpa using h2
theorem two24 (x y : Int) : ((bif (allFit (Pat.fits p24) [(AV.int .i64 x), (AV.int .i64 y)] && true) then some (List.map d24 [(AV.int .i64 x), (AV.int .i64 y)]) else none : Option ((List Int)))) = some [x, y] := rfl
theorem three24 (x y z : Int) : ((bif (allFit (Pat.fits p24) [(AV.int .i64 x), (AV.int .i64 y), (AV.int .i64 z)] && true) then some (List.map d24 [(AV.int .i64 x), (AV.int .i64 y), (AV.int .i64 z)]) else none : Option ((List Int)))) = some [x, y, z] := rfl
/-- The error of numbers of meshes. -/
def chkM (m n : Int) : Int := firstNZ [rng m 1 256, rng n 1 256]
theorem chkM_ok {m n : Int} (h : chkM m n = 0) : 1 ≤ m ∧ m ≤ 256 ∧ 1 ≤ n ∧ n ≤ 256 := by
  have := firstNZ_zero.1 h
  have h1 := this (rng m 1 256) (by simp)
  have h2 := this (rng n 1 256) (by simp)
  unfold rng at h1 h2
  split at h1
  · cases h1
  · split at h2
    · cases h2
    · omega
theorem T86_chk {N : Nat} (hN : Big N) (m n : Int) : T86 N (m, n) = some (chkM m n) := by
  rw [T86_eq, T93_rng, T93_rng]
  simp only [Option.bind_some]
  rw [two24, Option.bind_some, T90_first hN _ (by simp)]
  rfl
/-- Whether a pair follows another one. -/
def fol (m n : Int) (a b : Int × Int) : Bool :=
  (IntKind.wrap .i64 (b.1 - a.1) == 1 || (IntKind.wrap .i64 (b.1 - a.1) == 0 && decide (m < n))) && (IntKind.wrap .i64 (b.2 - a.2) == 1 || (IntKind.wrap .i64 (b.2 - a.2) == 0 && decide (n < m)))
theorem T92_fol (N : Nat) (m n : Int) (a b : Int × Int) : T92 N (m, n, a, b) = some (fol m n a b) := by
  rw [T92_eq]
  unfold fol
  generalize IntKind.wrap .i64 (b.1 - a.1) = x
  generalize IntKind.wrap .i64 (b.2 - a.2) = y
  cases (x == 1) <;> cases (x == 0) <;> cases (y == 1) <;> cases (y == 0) <;> by_cases h : m < n <;> simp [h]
/-- The longer edge. -/
def lng (m n : Int) : Int := if n > m then n else m
/-- The even join's pairs. -/
def jnA (m n : Int) (k : Nat) : Int × Int := ((k : Int) * m / lng m n, (k : Int) * n / lng m n)
def jns (m n : Int) : List (Int × Int) := (List.range (lng m n).toNat).map (jnA m n)

theorem snoc46 (l : List (Int × Int)) (a b : Int) : List.map n46 l ++ [AV.agg [AV.int .i64 a, AV.int .i64 b]] = List.map n46 (l ++ [(a, b)]) := by
  rw [List.map_append]; rfl
section joins
variable {m n : Int} (hm : 1 ≤ m) (hm' : m ≤ 256) (hn : 1 ≤ n) (hn' : n ≤ 256)
include hm hm' hn hn'
theorem lng_in : 1 ≤ lng m n ∧ lng m n ≤ 256 := by unfold lng; split <;> omega
theorem jn_div {k : Nat} (hk : (k : Int) < lng m n) : IntKind.wrap .i64 (Int.tdiv (IntKind.wrap .i64 ((k : Int) * m)) (lng m n)) = (k : Int) * m / lng m n ∧ IntKind.wrap .i64 (Int.tdiv (IntKind.wrap .i64 ((k : Int) * n)) (lng m n)) = (k : Int) * n / lng m n := by
  have hl := lng_in hm hm' hn hn'
  have b1 : 0 ≤ (k : Int) * m := Int.mul_nonneg (by omega) (by omega)
  have b2 : (k : Int) * m ≤ 256 * 256 := Int.mul_le_mul (by omega) hm' (by omega) (by omega)
  have b3 : 0 ≤ (k : Int) * n := Int.mul_nonneg (by omega) (by omega)
  have b4 : (k : Int) * n ≤ 256 * 256 := Int.mul_le_mul (by omega) hn' (by omega) (by omega)
  rw [w64 (x := (k : Int) * m) (by omega), w64 (x := (k : Int) * n) (by omega)]
  exact ⟨div_in b1 (by omega) (by omega), div_in b3 (by omega) (by omega)⟩

theorem T17_jns {N : Nat} (hN : Big N) (hc : chkM m n = 0) : T17 N (m, n) = some (jns m n, 0) := by
  have hl := lng_in hm hm' hn hn'
  have hz : ¬ lng m n = 0 := by omega
  rw [T17_eq, T86_chk hN, Option.bind_some, hc]
  have key := loopR_count (rd := R17x158x14 N m n) (lng m n).toNat (fun k => ((k : Int), m, n, (List.range k).map (jnA m n))) (m, n, jns m n) (fun k hk => by
    have hk' : (k : Int) < lng m n := by omega
    have hb : (k + 1) * 16 ≤ 140737488355328 := by omega
    obtain ⟨e1, e2⟩ := jn_div hm hm' hn hn' hk'
    have hlg : (if n > m then n else m) = lng m n := rfl
    simp only [R17x158x14, hlg, hk', hz, decide_true, decide_false, Bool.not_false, cond_true, e1, e2, snoc46, fa46, md46, List.length_map, List.length_range, List.length_append, List.length_singleton, hb, Bool.and_true, Option.bind_some, w_succ (show k < 9223372036854775807 by omega)]
    rw [List.range_succ, List.map_append]
    rfl) (by
    have hk' : ¬ (((lng m n).toNat : Nat) : Int) < lng m n := by omega
    have hlg : (if n > m then n else m) = lng m n := rfl
    simp only [R17x158x14, hlg, hk', decide_false, cond_false, fa46, md46, List.length_map, decide_true, Bool.and_true, cond_true, Option.bind_some]
    rfl)
  have := key N 0 (Nat.zero_le _) (by unfold Big at hN; omega)
  simp only [List.range_zero, List.map_nil] at this
  show ((loopR (R17x158x14 N m n) N (0, m, n, [])).bind fun o8 => _) = _
  rw [show ((0 : Int), m, n, ([] : List (Int × Int))) = (((0 : Nat) : Int), m, n, []) from rfl, this, Option.bind_some]
  simp only [fa46, md46, cond_true, Bool.and_true]

end joins

section take
variable {m n : Int} (hm : 1 ≤ m) (hm' : m ≤ 256) (hn : 1 ≤ n) (hn' : n ≤ 256)
include hm hm' hn hn'
end take

/-! ### Pairs -/

/-- A pair's error. -/
def errJ (m n : Int) (l : List (Int × Int)) (k : Nat) : Int :=
  let p := l.getD k (0, 0)
  if p.1 < 0 ∨ p.1 > m - 1 ∨ p.2 < 0 ∨ p.2 > n - 1 then 3
  else if (if k = 0 then !(p == (0, 0)) else !(fol m n (l.getD (k - 1) (0, 0)) p)) then 11 else 0
/-- The error of pairs. -/
def chkJ (m n : Int) (l : List (Int × Int)) : Int :=
  if chkM m n ≠ 0 then chkM m n
  else if (l.length : Int) ≠ lng m n then 2
  else if firstNZ ((List.range l.length).map (errJ m n l)) ≠ 0 then firstNZ ((List.range l.length).map (errJ m n l))
  else if l.getD (l.length - 1) (0, 0) == (m - 1, n - 1) then 0 else 15

theorem at46 (l : List (Int × Int)) {k : Nat} (hk : k < l.length) : d46 (nthD (List.map n46 l) k) = l.getD k (0, 0) ∧ Pat.fits p46 (nthD (List.map n46 l) k) = true := by
  rw [nthD_map n46 l k hk, dn46, fn46]
  simp [hk]
theorem pair_beq (p : Int × Int) (a b : Int) : (p == (a, b)) = (p.1 == a && (p.2 == b && true)) := by
  rw [Bool.and_true]; rfl

theorem errs_get (m n : Int) (l : List (Int × Int)) {k : Nat} (hk : k < l.length) : ((List.range l.length).map (errJ m n l))[k]'(by simpa using hk) = errJ m n l k := by simp

section chk
variable {N : Nat} (hN : Big N) {m n : Int} (l : List (Int × Int)) (hl : l.length ≤ 1000000)
include hN hl
theorem T19_chk : T19 N (m, n, l) = some (chkJ m n l) := by
  rw [T19_eq, T86_chk hN, T91_when]
  simp only [Option.bind_some, List.length_map]
  rw [two24, Option.bind_some, T90_first hN _ (by simp), Option.bind_some]
  unfold chkJ
  have hlg : (if n > m then n else m) = lng m n := rfl
  rw [hlg]
  by_cases h0 : chkM m n = 0
  · obtain ⟨hm, hm', hn, hn'⟩ := chkM_ok h0
    have hl' := lng_in hm hm' hn hn'
    simp only [h0, ne_eq, not_true_eq_false, if_false]
    by_cases h1 : (l.length : Int) = lng m n
    · have e1 : firstNZ [(0 : Int), if ((l.length : Int) != lng m n) = true then 2 else 0] = 0 := by simp [firstNZ, h1]
      rw [e1]
      simp only [bne_self_eq_false, cond_false, h1, not_true_eq_false, if_false]
      rw [← h1]
      have hlen : 0 < l.length := by omega
      have hm1 : IntKind.wrap .i64 (m - 1) = m - 1 := w64 (by omega)
      have hn1 : IntKind.wrap .i64 (n - 1) = n - 1 := w64 (by omega)
      have hlast : IntKind.wrap .i64 ((l.length : Int) - 1) = ((l.length - 1 : Nat) : Int) := by rw [w64 (by omega)]; omega
      have q1 := first_loop2 (rd := R19x58 N m n l) ((List.range l.length).map (errJ m n l)) (fun k hk => by
        have hk : k < l.length := by simpa using hk
        rw [errs_get m n l hk]
        obtain ⟨a1, a2⟩ := at46 l hk
        simp only [R19x58, List.length_map, Int.toNat_natCast, a1, a2, lt_range hk, in_range hk, Bool.and_self, cond_true, beq_self_eq_true, T93_rng, T91_when, hm1, hn1, Option.bind_some, w_succ (show k < 9223372036854775807 by omega)]
        have late : ((bif (decide ((k : Int) > 0)) then bif (decide ((0 : Int) ≤ (IntKind.wrap .i64 ((k : Int) - 1)) ∧ (IntKind.wrap .i64 ((k : Int) - 1)) < (l.length : Int)) && Pat.fits p46 (nthD (List.map n46 l) (Int.toNat (IntKind.wrap .i64 ((k : Int) - 1))))) then (T92 N (m, n, ((d46 (nthD (List.map n46 l) (Int.toNat (IntKind.wrap .i64 ((k : Int) - 1))))).1, (d46 (nthD (List.map n46 l) (Int.toNat (IntKind.wrap .i64 ((k : Int) - 1))))).2), ((l.getD k (0, 0)).1, (l.getD k (0, 0)).2))).bind fun y6 => (some (!y6)) else none else (some (!((l.getD k (0, 0)).1 == 0 && ((l.getD k (0, 0)).2 == 0 && true)))) : Option Bool)) = some (if k = 0 then !(l.getD k (0, 0) == (0, 0)) else !(fol m n (l.getD (k - 1) (0, 0)) (l.getD k (0, 0)))) := by
          by_cases hk0 : k = 0
          · subst hk0
            simp [pair_beq]
          · have hk1 : k - 1 < l.length := by omega
            have hw : IntKind.wrap .i64 ((k : Int) - 1) = ((k - 1 : Nat) : Int) := by rw [w64 (by omega)]; omega
            obtain ⟨b1, b2⟩ := at46 l hk1
            have hgt : decide ((k : Int) > 0) = true := by simp; omega
            simp only [hw, hgt, Int.toNat_natCast, b1, b2, in_range hk1, Bool.and_self, cond_true, T92_fol, Option.bind_some, hk0, if_false]
        simp only [Bool.and_true] at late ⊢
        rw [late]
        simp only [Option.bind_some]
        have h3 := three24 (rng (l.getD k (0, 0)).1 0 (m - 1)) (rng (l.getD k (0, 0)).2 0 (n - 1)) (if (if k = 0 then !(l.getD k (0, 0) == (0, 0)) else !(fol m n (l.getD (k - 1) (0, 0)) (l.getD k (0, 0)))) = true then 11 else 0)
        simp only [Bool.and_true] at h3
        rw [h3, Option.bind_some, T90_first hN _ (by simp), Option.bind_some]
        have e : firstNZ [rng (l.getD k (0, 0)).1 0 (m - 1), rng (l.getD k (0, 0)).2 0 (n - 1), if (if k = 0 then !(l.getD k (0, 0) == (0, 0)) else !(fol m n (l.getD (k - 1) (0, 0)) (l.getD k (0, 0)))) = true then 11 else 0] = errJ m n l k := by
          unfold errJ rng
          simp only [firstNZ]
          generalize (if k = 0 then !(l.getD k (0, 0) == (0, 0)) else !(fol m n (l.getD (k - 1) (0, 0)) (l.getD k (0, 0)))) = b
          generalize l.getD k (0, 0) = p
          by_cases c1 : p.1 < 0 ∨ p.1 > m - 1
          · have c2 : p.1 < 0 ∨ p.1 > m - 1 ∨ p.2 < 0 ∨ p.2 > n - 1 := by omega
            simp [c1, c2]
          · by_cases c3 : p.2 < 0 ∨ p.2 > n - 1
            · have c2 : p.1 < 0 ∨ p.1 > m - 1 ∨ p.2 < 0 ∨ p.2 > n - 1 := by omega
              simp [c1, c3, c2]
            · have c2 : ¬ (p.1 < 0 ∨ p.1 > m - 1 ∨ p.2 < 0 ∨ p.2 > n - 1) := by omega
              cases b <;> simp [c1, c3, c2]
        rw [e]
        by_cases hz : errJ m n l k = 0
        · simp [hz]
        · simp [hz, Bool.cond_eq_ite]) (by simp only [R19x58, List.length_map, List.length_range, ge_range, cond_false]) N (by unfold Big at hN; simp; omega)
      rw [q1, Option.bind_some]
      obtain ⟨b1, b2⟩ := at46 l (k := l.length - 1) (by omega)
      by_cases hf : firstNZ ((List.range l.length).map (errJ m n l)) = 0
      · simp only [hf, if_true, Sum.elim_inr, not_true_eq_false, if_false]
        rw [hlast, Int.toNat_natCast, b1, b2, in_range (show l.length - 1 < l.length by omega)]
        simp only [Bool.and_self, cond_true, T91_when, Option.bind_some, hm1, hn1, pair_beq]
        cases ((l.getD (l.length - 1) (0, 0)).1 == m - 1 && ((l.getD (l.length - 1) (0, 0)).2 == n - 1 && true)) <;> rfl
      · simp only [hf, if_false, Sum.elim_inl, not_false_eq_true, if_true]
    · have e1 : firstNZ [(0 : Int), if ((l.length : Int) != lng m n) = true then 2 else 0] = 2 := by
        have : ((l.length : Int) != lng m n) = true := by simpa using h1
        simp [firstNZ, h1]
      rw [e1, if_pos h1]
      rfl
  · have e1 : firstNZ [chkM m n, if ((l.length : Int) != lng m n) = true then 2 else 0] = chkM m n := by simp [firstNZ, h0]
    rw [e1, if_pos h0]
    have hb : (chkM m n != 0) = true := by simpa using h0
    rw [hb]
    rfl

end chk

theorem T20_same (N : Nat) (l : List (Int × Int)) (hl : l.length ≤ 1000000) : T20 N l = some l := by
  rw [T20_eq]
  cases l with
  | nil => rfl
  | cons p l =>
    have h1 : List.isEmpty (List.map n46 (p :: l)) = false := rfl
    have h2 : decide ((0 + List.length (List.map n46 (p :: l))) * 16 ≤ 140737488355328) = true := by
      rw [List.length_map]
      exact decide_eq_true (by omega)
    simp only [h1, h2, cond_false, cond_true, List.nil_append, fa46, md46, Bool.and_true, Option.bind_some]

end Go.Proofs.YtfiopgedfcaodaaGreatDoor
