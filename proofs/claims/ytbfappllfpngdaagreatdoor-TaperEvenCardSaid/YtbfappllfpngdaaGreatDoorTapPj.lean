/- Plain laws: rotations and powers. -/
import Derived.Test.YtbfappllfpngdaaGreatDoorTapPf
set_option linter.all false
namespace Go.Proofs.YtbfappllfpngdaaGreatDoor
open Go Go.Am
set_option maxRecDepth 100000

/-- A word whose first k letters are moved to its end. -/
def rot (w : List UInt8) (k : Nat) : List UInt8 := w.drop k ++ w.take k
theorem rot_length (w : List UInt8) {k : Nat} (h : k ≤ w.length) : (rot w k).length = w.length := by
  unfold rot
  rw [List.length_append, List.length_drop, List.length_take]
  omega

theorem cells_rep (n : Nat) : cellsL (List.replicate n (AV.int .u8 0)) = List.replicate n (AV.int .u8 0) := by
  induction n with
  | zero => rfl
  | succ n ih =>
    rw [List.replicate_succ]
    show (AV.int IntKind.u8 0).cells ++ cellsL (List.replicate n (AV.int .u8 0)) = _
    rw [ih]
    rfl

theorem fit_byteA (l : List UInt8) : allFit (Pat.fits (.int .u8)) (List.map byteA l) = true := by
  induction l with
  | nil => rfl
  | cons b l ih => show (Pat.fits (.int .u8) (byteA b) && allFit (Pat.fits (.int .u8)) (List.map byteA l)) = true; rw [ih]; rfl

theorem splice_nil {α : Type} (l : List α) (n : Nat) : splice l n [] = l := by cases l <;> cases n <;> rfl
theorem splice_zero {α : Type} : ∀ {ys xs zs : List α}, xs.length = ys.length → splice (xs ++ zs) 0 ys = ys ++ zs
  | [], xs, zs, h => by
    have : xs = [] := List.eq_nil_of_length_eq_zero h
    subst this
    exact splice_nil _ _
  | y :: ys, [], zs, h => by cases h
  | y :: ys, x :: xs, zs, h => by
    show y :: splice (xs ++ zs) 0 ys = y :: (ys ++ zs)
    rw [splice_zero (by simpa using h)]
theorem splice_skip {α : Type} : ∀ (ps rest ys : List α), splice (ps ++ rest) ps.length ys = ps ++ splice rest 0 ys
  | [], rest, ys => rfl
  | p :: ps, rest, [] => by rw [splice_nil, splice_nil]
  | p :: ps, rest, y :: ys => by
    show p :: splice (ps ++ rest) ps.length (y :: ys) = p :: (ps ++ splice rest 0 (y :: ys))
    rw [splice_skip ps rest (y :: ys)]

theorem T102_rot (N : Nat) (w : List UInt8) (k : Nat) (hk : k ≤ w.length) (hw : w.length ≤ 1000) : T102 N (w, (k : Int)) = some (rot w k) := by
  rw [T102_eq]
  have i1 : decide ((0 : Int) ≤ ((w.length : Nat) : Int) ∧ ((w.length : Nat) : Int) ≤ ((w.length : Nat) : Int) ∧ ((w.length : Nat) : Int) ≤ 140737488355328 ∧ ((w.length : Nat) : Int) * 1 ≤ 140737488355328) = true := by simp only [decide_eq_true_eq]; omega
  have i2 : decide ((0 : Int) ≤ (k : Int) ∧ (k : Int) ≤ ((w.length : Nat) : Int)) = true := by simp only [decide_eq_true_eq]; omega
  have e1 : subA k w.length w = w.drop k := by unfold subA; rw [List.take_length]
  have e2 : subA 0 k w = w.take k := by unfold subA; rw [List.drop_zero]
  have e3 : IntKind.wrap .i64 (((w.length : Nat) : Int) - (k : Int)) = ((w.length - k : Nat) : Int) := by rw [w64 (by omega)]; omega
  have i3 : decide ((0 : Int) ≤ ((w.length - k : Nat) : Int) ∧ ((w.length - k : Nat) : Int) ≤ ((w.length : Nat) : Int)) = true := by simp only [decide_eq_true_eq]; omega
  simp only [i1, i2, cond_true, Int.toNat_natCast, e1, e2, e3, i3, Bool.and_self, cells_rep]
  have l1 : (w.drop k).length = w.length - k := List.length_drop ..
  have l2 : (w.take k).length = k := by rw [List.length_take]; omega
  have t1 : (w.drop k).take (Nat.min (w.drop k).length w.length) = w.drop k := by
    apply List.take_of_length_le
    rw [l1]; show _ ≤ min _ _; omega
  have t2 : (w.take k).take (Nat.min (w.take k).length (w.length - (w.length - k))) = w.take k := by
    apply List.take_of_length_le
    rw [l2]; show _ ≤ min _ _; omega
  have b1 : Nat.ble (0 + (w.drop k).length) (List.replicate w.length (AV.int .u8 0)).length = true := by
    rw [l1, List.length_replicate]; exact Nat.ble_eq_true_of_le (by omega)
  have s1 : splice (List.replicate w.length (AV.int .u8 0)) 0 (List.map byteA (w.drop k)) = List.map byteA (w.drop k) ++ List.replicate k (AV.int .u8 0) := by
    rw [show List.replicate w.length (AV.int .u8 0) = List.replicate (w.length - k) (AV.int .u8 0) ++ List.replicate k (AV.int .u8 0) by rw [List.replicate_append_replicate]; congr 1; omega]
    exact splice_zero (by rw [List.length_replicate, List.length_map, l1])
  have s2 : splice (List.map byteA (w.drop k) ++ List.replicate k (AV.int .u8 0)) (bif Nat.beq w.length (w.length - k) then 0 else 0 + (w.length - k) * 1) (List.map byteA (w.take k)) = List.map byteA (rot w k) := by
    unfold rot
    rw [List.map_append]
    by_cases h : k = 0
    · subst h
      simp [splice_nil]
    · have hb : Nat.beq w.length (w.length - k) = false := by
        cases hb : Nat.beq w.length (w.length - k) with
        | false => rfl
        | true => have := Nat.eq_of_beq_eq_true hb; omega
      rw [hb, cond_false, Nat.zero_add, Nat.mul_one]
      have e : w.length - k = (List.map byteA (w.drop k)).length := by rw [List.length_map, l1]
      rw [e, splice_skip]
      have := splice_zero (xs := List.replicate k (AV.int .u8 0)) (zs := []) (ys := List.map byteA (w.take k)) (by rw [List.length_replicate, List.length_map, l2])
      rw [List.append_nil, List.append_nil] at this
      rw [this]
  have lr : (List.map byteA (rot w k)).length = w.length := by rw [List.length_map, rot_length w hk]
  have l3 : (List.map byteA (w.drop k) ++ List.replicate k (AV.int .u8 0)).length = w.length := by rw [List.length_append, List.length_map, l1, List.length_replicate]; omega
  have b2 : Nat.ble ((bif Nat.beq w.length (w.length - k) then 0 else 0 + (w.length - k) * 1) + (w.take k).length) (List.map byteA (w.drop k) ++ List.replicate k (AV.int .u8 0)).length = true := by
    rw [l3, l2]
    apply Nat.ble_eq_true_of_le
    cases hb : Nat.beq w.length (w.length - k) with
    | true => rw [cond_true]; omega
    | false => rw [cond_false]; omega
  have b3 : Nat.ble (0 + w.length) (List.map byteA (rot w k)).length = true := by rw [lr]; exact Nat.ble_eq_true_of_le (by omega)
  have e9 : subA 0 (0 + w.length) (List.map byteA (rot w k)) = List.map byteA (rot w k) := by
    unfold subA
    rw [List.drop_zero, Nat.zero_add]
    exact List.take_of_length_le (by omega)
  simp only [t1, t2, b1, s1, s2, b2, b3, e9, fit_byteA, cond_true, Bool.and_self, bytesD_byteA]

theorem tmod_nat (a b : Nat) : Int.tmod (a : Int) (b : Int) = ((a % b : Nat) : Int) := by
  rw [Int.tmod_eq_emod_of_nonneg (by omega), Int.natCast_emod]

section
variable {N : Nat} (hN : Big N) (w : List UInt8)
include hN

def rotErr (w : List UInt8) (n : Int) : Int := firstNZ [wordErr w, rng n 0 999999999]
omit hN in
theorem rotErr_ok {w : List UInt8} {n : Int} (h : rotErr w n = 0) : wordErr w = 0 ∧ 0 ≤ n ∧ n ≤ 999999999 := by
  have hz := firstNZ_zero.1 h
  simp only [List.mem_cons, List.not_mem_nil, or_false, forall_eq_or_imp, forall_eq] at hz
  exact ⟨hz.1, rng_ok hz.2⟩

theorem T45_rot (n : Int) : T45 N (w, n) = some (textOf (rotErr w n) (rot w (n.toNat % w.length))) := by
  rw [T45_eq]
  simp only [T21_word hN, T101_rng, Option.bind_some, allFit, fi23, di23, List.map_cons, List.map_nil, Bool.and_self, cond_true, T75_first hN _ (show [_, _].length ≤ 9223372036854775806 by simp)]
  unfold textOf
  by_cases h : firstNZ [wordErr w, rng n 0 999999999] = 0
  · obtain ⟨z1, z2⟩ := rotErr_ok h
    obtain ⟨w1, w2, w3⟩ := wordErr_ok z1
    have hpos : 0 < w.length := by cases w; exact absurd rfl w1; simp
    obtain ⟨m, rfl⟩ : ∃ m : Nat, n = (m : Int) := ⟨n.toNat, by omega⟩
    have hz : ¬ ((w.length : Nat) : Int) = 0 := by omega
    have hlt : m % w.length < w.length := Nat.mod_lt _ hpos
    have h' : rotErr w m = 0 := h
    simp only [h, h', bne_self_eq_false, cond_false, hz, decide_false, Bool.not_false, cond_true, tmod_nat, T102_rot N w (m % w.length) (by omega) (by omega), Option.bind_some, if_true, Int.toNat_natCast]
  · have h' : ¬ rotErr w n = 0 := h
    simp only [h', bne0 h, cond_true, if_false]
    rfl

omit hN in
theorem T54_rot (n : Nat) (hw : w.length ≤ 1000) (hpos : 0 < w.length) : T54 N (w, (n : Int)) = some (rot w (n % w.length)) := by
  rw [T54_eq]
  have hz : ¬ ((w.length : Nat) : Int) = 0 := by omega
  have hlt : n % w.length < w.length := Nat.mod_lt _ hpos
  simp only [hz, decide_false, Bool.not_false, cond_true, tmod_nat]
  generalize n % w.length = k at hlt
  have i1 : decide ((0 : Int) ≤ (k : Int) ∧ (k : Int) ≤ ((w.length : Nat) : Int)) = true := by simp only [decide_eq_true_eq]; omega
  have e1 : subA k w.length w = w.drop k := by unfold subA; rw [List.take_length]
  have e2 : subA 0 k w = w.take k := by unfold subA; rw [List.drop_zero]
  have i3 : decide ((w.drop k).length + (w.take k).length ≤ 9223372036854775807) = true := by simp only [decide_eq_true_eq, List.length_drop, List.length_take]; omega
  simp only [i1, cond_true, Bool.and_self, Int.toNat_natCast, e1, e2, i3]
  rfl

theorem T53_pow (n : Nat) (hn : w.length * n ≤ 1000) (hn' : n ≤ 1000) : T53 N (w, (n : Int)) = some (repT w n) := by
  rw [T53_eq]
  have key := loopR_count (rd := R53x58 N w n) n (fun k => (repT w k, (k : Int))) (repT w n) (fun k hk => by
    have e1 : decide ((k : Int) < (n : Int)) = true := by simpa using hk
    have hl : (repT w k).length + w.length ≤ 1000 := by
      rw [repT_length, ← Nat.succ_mul]
      refine Nat.le_trans (Nat.mul_le_mul_right _ (show k.succ ≤ n by omega)) ?_
      rw [Nat.mul_comm]; exact hn
    have e2 : decide ((repT w k).length + w.length ≤ 9223372036854775807) = true := by simp only [decide_eq_true_eq]; omega
    simp only [R53x58, e1, cond_true, e2, repT_succ, w_succ (show k < 9223372036854775807 by omega)]) (by
    have e1 : decide ((n : Int) < (n : Int)) = false := by simp
    simp only [R53x58, e1, cond_false]) N 0 (Nat.zero_le _) (by unfold Big at hN; omega)
  have key' : loopR (V := (List UInt8) × Int) (X := ((List UInt8))) (R53x58 N w n) N (([] : List UInt8), 0) = some (repT w n) := key
  rw [key']
  rfl

def powErr (w : List UInt8) (n : Int) : Int := firstNZ [wordErr w, rng n 1 64, if (w.length : Int) * (if 64 < n then 64 else n) > 64 then 26 else 0]
omit hN in
theorem powErr_ok {w : List UInt8} {n : Int} (h : powErr w n = 0) : wordErr w = 0 ∧ 1 ≤ n ∧ n ≤ 64 ∧ w.length * n.toNat ≤ 64 := by
  have hz := firstNZ_zero.1 h
  simp only [List.mem_cons, List.not_mem_nil, or_false, forall_eq_or_imp, forall_eq] at hz
  obtain ⟨z1, z2, z3⟩ := hz
  have r := rng_ok z2
  rw [if_neg (by omega : ¬ 64 < n)] at z3
  split at z3
  · cases z3
  · rename_i h4
    rw [mul_len (by omega)] at h4
    exact ⟨z1, r.1, r.2, by omega⟩

theorem T47_pow (n : Int) (hn : -9223372036854775808 ≤ n) : T47 N (w, n) = some (textOf (powErr w n) (repT w n.toNat)) := by
  rw [T47_eq]
  simp only [T21_word hN, T101_rng, T76_when, Option.bind_some, allFit, fi23, di23, List.map_cons, List.map_nil, Bool.and_self, cond_true, T75_first hN _ (show [_, _, _].length ≤ 9223372036854775806 by simp)]
  have hrep : powErr w n = firstNZ [wordErr w, rng n 1 64, if (IntKind.wrap .i64 (((w.length : Nat) : Int) * (if 64 < n then 64 else n))) > 64 then 26 else 0] := by
    unfold powErr
    by_cases z1 : wordErr w = 0
    · by_cases z2 : rng n 1 64 = 0
      · have r := rng_ok z2
        have w2 := (wordErr_ok z1).2.1
        rw [if_neg (by omega : ¬ 64 < n)]
        have hm : (w.length : Int) * n ≤ 64 * 64 := Int.le_trans (Int.mul_le_mul_of_nonneg_right (by omega) (by omega)) (Int.mul_le_mul_of_nonneg_left r.2 (by omega))
        have hm0 : 0 ≤ (w.length : Int) * n := Int.mul_nonneg (by omega) (by omega)
        rw [w64 (x := (w.length : Int) * n) (by omega)]
      · simp [firstNZ, z1, z2]
    · simp [firstNZ, z1]
  have e : (if decide (IntKind.wrap .i64 (((w.length : Nat) : Int) * (if 64 < n then 64 else n)) > 64) = true then (26 : Int) else 0) = if (IntKind.wrap .i64 (((w.length : Nat) : Int) * (if 64 < n then 64 else n))) > 64 then 26 else 0 := by simp
  rw [e, ← hrep]
  unfold textOf
  by_cases h : powErr w n = 0
  · obtain ⟨z1, z2, z3, z4⟩ := powErr_ok h
    obtain ⟨m, rfl⟩ : ∃ m : Nat, n = (m : Int) := ⟨n.toNat, by omega⟩
    rw [Int.toNat_natCast] at z4
    have e6 : T104 N (w, (m : Int)) = some (repT w m) := by
      show repeatT (w, (m : Int)) = _
      have q1 : decide ((0 : Int) ≤ (m : Int)) = true := by simp
      have q2 : decide ((m : Int) ≤ 9223372036854775807) = true := by simp only [decide_eq_true_eq]; omega
      have q3 : decide (w.length * m ≤ 140737488355328) = true := by simp only [decide_eq_true_eq]; omega
      simp only [repeatT, q1, q2, Int.toNat_natCast, q3, Bool.and_self, cond_true]
    simp only [h, bne_self_eq_false, cond_false, e6, Option.bind_some, if_true, Int.toNat_natCast]
  · simp only [h, bne0 h, cond_true, if_false]
end
end Go.Proofs.YtbfappllfpngdaaGreatDoor
