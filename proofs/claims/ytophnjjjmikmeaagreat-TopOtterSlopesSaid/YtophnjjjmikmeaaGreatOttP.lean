/- Plain laws: shares of bars and spread words (Exact). -/
import Derived.Test.YtophnjjjmikmeaaGreatOttT
set_option linter.all false
namespace Go.Proofs.YtophnjjjmikmeaaGreat
open Go Go.Am
set_option maxRecDepth 100000
theorem C7 {N : Nat} (hN : kp N) {a b : Int} (ha : 0 ≤ a) (hb : 0 ≤ b) (gE : b ≤ 9223372036854775807) : Qh N (a, b) = some (Int.gcd a b : Int) := by
  rw [MX, uO (fun a => rfl) (fun a b h => by simp [G5, h, Bool.cond_eq_ite]) N a b ha hb (by unfold kp at hN; omega)]
  rfl
theorem JA {N : Nat} (hN : kp N) {a b : Int} (ha : 0 ≤ a) (hb : 0 ≤ b) (gE : b ≤ 9223372036854775807) : Rf N (a, b) = some (Int.gcd a b : Int) := by
  rw [MV, uO (fun a => rfl) (fun a b h => by simp [GZ, h, Bool.cond_eq_ite]) N a b ha hb (by unfold kp at hN; omega)]
  rfl
section low
variable {N : Nat} (hN : kp N) {a b : Int} (ha : 0 ≤ a) (Q8 : a ≤ 9223372036854775807) (hb : 0 < b) (gE : b ≤ 9223372036854775807)
include hN ha Q8 hb gE
theorem C8 : Qi N (a, b) = some (low a b) := by
  have hg := yk (a := a) (b := b) (.inr hb)
  have hz : ¬ (Int.gcd a b : Int) = 0 := by omega
  rw [M0, C7 hN ha (by omega) gE]
  simp only [Option.bind_some, hz, decide_false, Bool.not_false, cond_true, qx ha Q8 hg, qx (by omega : 0 ≤ b) gE hg]
  rfl
theorem JB : Rg N (a, b) = some (low a b) := by
  have hg := yk (a := a) (b := b) (.inr hb)
  have hz : ¬ (Int.gcd a b : Int) = 0 := by omega
  rw [MW, JA hN ha (by omega) gE]
  simp only [Option.bind_some, hz, decide_false, Bool.not_false, cond_true, qx ha Q8 hg, qx (by omega : 0 ≤ b) gE hg]
  rfl
end low
theorem kr (N : Nat) (b : Bool) (e : Int) : HQ N (b, e) = some (if b then e else 0) := by rw [My]; cases b <;> rfl
theorem C9 (N : Nat) (n lo hi : Int) : Ox N (n, lo, hi) = some (pt n lo hi) := by
  rw [MC, kr, kr]
  unfold pt
  by_cases h1 : n < lo
  · simp [h1]
  · by_cases h2 : n > hi <;> simp [h1, h2]
theorem qy {N : Nat} (hN : kp N) (l : List Int) (hl : l.length ≤ 9223372036854775806) : Ov N l = some (aP l) := by
  obtain ⟨o, h1, h2⟩ := nS (rd := yq N l) l (fun k hk => by
    have hd := jf Au l k hk
    have e1 : d30 (aY (List.map Au l) k) = l[k] := by rw [hd]; rfl
    have e2 : aB.fits uQ (aY (List.map Au l) k) = true := by rw [hd]; rfl
    simp only [yq, List.length_map, Int.toNat_natCast, e1, e2, jh (show k < 9223372036854775807 by omega), fh hk, dP hk, Bool.and_self, cond_true]
    by_cases hz : l[k] = 0
    · simp [hz]
    · simp [hz, Bool.cond_eq_ite]) (by simp only [yq, List.length_map, fX, cond_false]) N (by unfold kp at hN; omega)
  rw [Mx, h1, Option.bind_some]
  rcases o with o | o
  · simpa using h2
  · simpa using h2
theorem two (x y : Int) : ((bif (allFit (aB.fits uQ) [(AV.int .i64 x), (AV.int .i64 y)] && true) then some (List.map d30 [(AV.int .i64 x), (AV.int .i64 y)]) else none : Option ((List Int)))) = some [x, y] := rfl
def Af (r : Int × Int) : Int := if r.1 < 0 ∨ r.1 > 999999999 ∨ r.2 < 1 ∨ r.2 > 999999999 then 3 else if (Int.gcd r.1 r.2 : Int) = 1 then 0 else 1
theorem Da {r : Int × Int} (h : Af r = 0) : 0 ≤ r.1 ∧ r.1 ≤ 999999999 ∧ 1 ≤ r.2 ∧ r.2 ≤ 999999999 ∧ (Int.gcd r.1 r.2 : Int) = 1 := by
  unfold Af at h
  split at h
  · cases h
  · split at h
    · rename_i h1 h2; exact ⟨by omega, by omega, by omega, by omega, h2⟩
    · cases h
section BC
variable {N : Nat} (hN : kp N) (r : Int × Int)
include hN
theorem JC : Rh N r = some (Af r) := by
  rw [MZ]
  simp only [C9, kr, Option.bind_some, beq_self_eq_true, Bool.and_true, cond_true]
  have h2 := two (pt r.1 0 999999999) (pt r.2 1 999999999)
  simp only [Bool.and_true] at h2
  rw [h2, Option.bind_some, qy hN _ (by simp)]
  simp only [Option.bind_some]
  unfold Af
  by_cases h : r.1 < 0 ∨ r.1 > 999999999 ∨ r.2 < 1 ∨ r.2 > 999999999
  · rw [if_pos h]
    have e : aP [pt r.1 0 999999999, pt r.2 1 999999999] = 3 := by
      unfold pt
      by_cases h1 : r.1 < 0 ∨ r.1 > 999999999
      · simp [h1, aP]
      · have h2 : r.2 < 1 ∨ r.2 > 999999999 := by omega
        simp [h1, h2, aP]
    rw [e]
    rfl
  · rw [if_neg h]
    have e : aP [pt r.1 0 999999999, pt r.2 1 999999999] = 0 := by
      unfold pt
      have h1 : ¬ (r.1 < 0 ∨ r.1 > 999999999) := by omega
      have h2 : ¬ (r.2 < 1 ∨ r.2 > 999999999) := by omega
      simp [h1, h2, aP]
    rw [e, C7 hN (by omega) (by omega) (by omega)]
    by_cases h5 : (Int.gcd r.1 r.2 : Int) = 1
    · simp [h5]
    · have h6 : ((Int.gcd r.1 r.2 : Int) != 1) = true := by simpa using h5
      simp [h5, h6]
def shr (r : Int × Int) : Int × Int := low (2 * (if r.2 < r.1 then r.2 else r.1)) (r.1 + r.2)
omit hN in
theorem ND (h : Af r = 0) : 0 ≤ (shr r).1 ∧ (shr r).1 ≤ (shr r).2 ∧ 1 ≤ (shr r).2 := by
  obtain ⟨h1, h2, h3, h4, h5⟩ := Da h
  have hm : 0 ≤ 2 * (if r.2 < r.1 then r.2 else r.1) ∧ 2 * (if r.2 < r.1 then r.2 else r.1) ≤ r.1 + r.2 := by split <;> omega
  unfold shr low
  generalize 2 * (if r.2 < r.1 then r.2 else r.1) = a at hm
  have hg := yk (a := a) (b := r.1 + r.2) (.inr (by omega))
  have hd : (Int.gcd a (r.1 + r.2) : Int) ∣ r.1 + r.2 := Int.gcd_dvd_right ..
  refine ⟨Int.ediv_nonneg hm.1 (by omega), Int.ediv_le_ediv hg hm.2, ?_⟩
  have := Int.le_of_dvd (by omega : 0 < r.1 + r.2) hd
  exact Int.le_ediv_of_mul_le hg (by omega)
theorem JD (h : Af r = 0) : Ri N r = some (shr r) := by
  obtain ⟨h1, h2, h3, h4, h5⟩ := Da h
  have hm : 0 ≤ 2 * (if r.2 < r.1 then r.2 else r.1) ∧ 2 * (if r.2 < r.1 then r.2 else r.1) ≤ r.1 + r.2 := by split <;> omega
  rw [M2, mm (by omega), mm (by omega), C8 hN hm.1 (by omega) (by omega) (by omega)]
  rfl
end BC
def pk (m n : Int) (i : Nat) : Bool := decide (((i : Int) + 1) * m / (m + n) > (i : Int) * m / (m + n))
def dV (a : List UInt8) (m : Int) (b : List UInt8) (n : Int) (k : Nat) : List (List UInt8) := (List.range k).map fun i => if pk m n i then a else b
def jj (a : List UInt8) (m : Int) (b : List UInt8) (n : Int) : List UInt8 := (dV a m b n (m + n).toNat).flatten
theorem Ag (a : List UInt8) (m : Int) (b : List UInt8) (n : Int) (k : Nat) : dV a m b n (k + 1) = dV a m b n k ++ [if pk m n k then a else b] := by
  unfold dV
  rw [List.range_succ, List.map_append]
  rfl
theorem gA (a : List UInt8) (m : Int) (b : List UInt8) (n : Int) (k : Nat) : (dV a m b n k).length = k := by simp [dV]
theorem nm : ∀ l : List (List UInt8), lh l [] = l.flatten
  | [] => rfl
  | [a] => by simp [lh]
  | a :: b :: l => by
    have := nm (b :: l)
    show a ++ [] ++ lh (b :: l) [] = _
    rw [this]
    simp
theorem uW {B : Nat} : ∀ {l : List (List UInt8)}, (∀ x ∈ l, x.length ≤ B) → l.flatten.length ≤ l.length * B
  | [], _ => by simp
  | a :: l, h => by
    have h1 := h a (by simp)
    have h2 := uW (l := l) (fun x hx => h x (by simp [hx]))
    rw [List.flatten_cons, List.length_append, List.length_cons, Nat.succ_mul]
    omega
theorem Es {a b : List UInt8} {B : Nat} (ha : a.length ≤ B) (hb : b.length ≤ B) (m n : Int) (k : Nat) : (dV a m b n k).flatten.length ≤ k * B := by
  have := uW (B := B) (l := dV a m b n k) (fun x hx => by
    unfold dV at hx
    obtain ⟨i, _, rfl⟩ := List.mem_map.1 hx
    split <;> assumption)
  rwa [gA] at this
section mix
variable {N : Nat} (hN : kp N) {a b : List UInt8} {m n : Int} (hm : 0 ≤ m) (hn : 0 ≤ n) (hs : m + n ≤ 100000) (ha : a.length ≤ 100000) (hb : b.length ≤ 100000)
theorem Qu {m n : Int} (hm : 0 ≤ m) (hn : 0 ≤ n) (hs : m + n ≤ 100000) {k : Nat} (hk : (k : Int) < m + n) :
    decide ((IntKind.wrap .i64 (Int.tdiv (IntKind.wrap .i64 (((k + 1 : Nat) : Int) * m)) (m + n))) > (IntKind.wrap .i64 (Int.tdiv (IntKind.wrap .i64 ((k : Int) * m)) (m + n)))) = pk m n k := by
  have h0 : 0 ≤ (k : Int) * m := Int.mul_nonneg (by omega) hm
  have h1 : ((k : Int) + 1) * m ≤ 100000 * 100000 := by
    refine Int.le_trans (Int.mul_le_mul_of_nonneg_right (by omega : (k : Int) + 1 ≤ 100000) hm) (Int.mul_le_mul_of_nonneg_left (by omega) (by omega))
  have h2 : ((k : Int) + 1) * m = (k : Int) * m + m := by rw [Int.add_mul, Int.one_mul]
  rw [show ((k + 1 : Nat) : Int) = (k : Int) + 1 by simp, mm (x := ((k : Int) + 1) * m) (by omega), mm (x := (k : Int) * m) (by omega)]
  rw [qx (by omega) (by omega) (by omega), qx (by omega) (by omega) (by omega)]
  rfl
include hN hm hn hs ha hb
theorem Db : Rj N (a, m, b, n) = some (jj a m b n) := by
  have hw : IntKind.wrap .i64 (m + n) = m + n := mm (by omega)
  rw [M4]
  have e0 : ((bif (allFit (aB.fits p9) ([] : List AV) && true) then some ((List.map d9 ([] : List AV)), 0) else none : Option ((List (List UInt8)) × Int)).bind fun w9 => bif (decide (0 = (List.map n9 w9.1).length) && true) then some w9 else none) = some (([] : List (List UInt8)), (0 : Int)) := rfl
  rw [e0, Option.bind_some]
  have key := mn (rd := px N a m b n) (m + n).toNat (fun k => (dV a m b n k, (k : Int))) (dV a m b n (m + n).toNat) (fun k hk => by
    have eD : (k : Int) < m + n := by omega
    have hz : ¬ m + n = 0 := by omega
    have hl : (dV a m b n k).length = k := gA ..
    have e1 : (k + 1) * 16 ≤ 140737488355328 := by omega
    have WZ : ∀ x : List UInt8, List.map n9 (dV a m b n k) ++ [AV.str x] = List.map n9 (dV a m b n k ++ [x]) := fun x => by simp [n9, aB.enc]
    simp only [px, hw, eD, decide_true, cond_true, hz, decide_false, Bool.not_false, Qu hm hn hs eD, List.length_map, hl, e1, Bool.and_self, WZ, Tc, Td, Option.bind_some, List.length_append, List.length_cons, List.length_nil, Bool.and_true, Ag, jh (show k < 9223372036854775807 by omega)]
    cases pk m n k <;> rfl) (by
    have hk : ¬ ((m + n).toNat : Int) < m + n := by omega
    simp only [px, hw, hk, decide_false, cond_false, gA, List.length_map, Tc, Td, Bool.and_true, cond_true, Option.bind_some, decide_true]) N 0 (Nat.zero_le _) (by unfold kp at hN; omega)
  have Cf : bQ (px N a m b n) N (([] : List (List UInt8)), (0 : Int)) = some (dV a m b n (m + n).toNat) := key
  rw [Cf, Option.bind_some]
  simp only [Tc, Td, Bool.and_true, cond_true, Option.bind_some]
  have hf := Es ha hb m n (m + n).toNat
  have OQ : (m + n).toNat * 100000 ≤ 100000 * 100000 := Nat.mul_le_mul_right _ (by omega)
  have e3 : (dV a m b n (m + n).toNat).length ≤ 140737488355328 := by rw [gA]; omega
  have e4 : (dV a m b n (m + n).toNat).flatten.length ≤ 140737488355328 := by omega
  simp only [Mr, Gm, e3, e4, decide_true, Bool.and_self, cond_true, Option.bind_some, nm]
  rfl
end mix
def Ah (r p : Int × Int) : List UInt8 := jj [66] p.1 (if r.1 > r.2 then [84] else [78]) (p.2 - p.1)
section word
variable {N : Nat} (hN : kp N) (r p : Int × Int) (h1 : 0 ≤ p.1) (h2 : p.1 ≤ p.2) (h3 : p.2 ≤ 1000)
include hN h1 h2 h3
theorem Ha : Rk N (p, r) = some (Ah r p) := by
  rw [M6]
  by_cases h : r.1 > r.2
  · simp only [h, decide_true, cond_true, Option.bind_some]
    rw [mm (by omega), Db hN h1 (by omega) (by omega) (by simp) (by simp)]
    simp [Ah, h]
  · simp only [h, decide_false, cond_false, Option.bind_some]
    rw [mm (by omega), Db hN h1 (by omega) (by omega) (by simp) (by simp)]
    simp [Ah, h]
end word
end Go.Proofs.YtophnjjjmikmeaaGreat
