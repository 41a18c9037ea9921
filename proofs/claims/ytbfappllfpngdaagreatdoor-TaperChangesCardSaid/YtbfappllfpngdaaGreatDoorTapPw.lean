/- Plain laws: roots and least rotations of the reference; TaperChanges. -/
import Derived.Test.YtbfappllfpngdaaGreatDoorTapPn
import Derived.Test.YtbfappllfpngdaaGreatDoorTapPv
set_option linter.all false
namespace Go.Proofs.YtbfappllfpngdaaGreatDoor
open Go Go.Am
set_option maxRecDepth 100000

/-- A word is the power of its first letters just if a shift by them leaves it as it is. -/
theorem pow_fix {w : List UInt8} {n : Nat} (h1 : 1 ≤ n) (h2 : n ≤ w.length) (hd : w.length % n = 0) : repT (w.take n) (w.length / n) = w ↔ Fix w n := by
  have hv : (w.take n).length = n := by rw [List.length_take]; omega
  have hq : w.length / n * n = w.length := by
    have := Nat.div_add_mod w.length n
    rw [hd, Nat.add_zero, Nat.mul_comm] at this
    exact this
  have hm : ∀ i, i % w.length % n = i % n := fun i => Nat.mod_mod_of_dvd i (Nat.dvd_of_mod_eq_zero hd)
  have hpos : 0 < w.length := by omega
  constructor
  · intro h
    have hf : ∀ i, fw w i = (w.take n).getD (i % n) 0 := by
      intro i
      have hlt : i % w.length < w.length := Nat.mod_lt _ hpos
      have := rep_at (w.take n) (w.length / n) (i % w.length) (by rw [h]; exact hlt)
      rw [h, hv, hm] at this
      exact this
    intro i
    rw [hf, hf, Nat.add_mod_right]
  · intro h
    have hl : (repT (w.take n) (w.length / n)).length = w.length := by rw [repT_length, hv, hq]
    apply ext_getD hl
    intro i hi
    rw [rep_at _ _ i hi, hv]
    rw [hl] at hi
    have hlt : i % n < n := Nat.mod_lt _ (by omega)
    have e1 : (w.take n).getD (i % n) 0 = fw w (i % n) := by
      unfold fw
      rw [Nat.mod_eq_of_lt (show i % n < w.length by omega), List.getD_eq_getElem?_getD, List.getD_eq_getElem?_getD, List.getElem?_take, if_pos hlt]
    have e2 : fw w (i % n) = fw w i := by
      have := fix_mul h (i / n) (i % n)
      rw [← this, Nat.mul_comm, Nat.add_comm, Nat.div_add_mod]
    rw [e1, e2]
    unfold fw
    rw [Nat.mod_eq_of_lt hi]

theorem per_eq {w : List UInt8} (hw : w ≠ []) {n : Nat} (h1 : 1 ≤ n) (hf : Fix w n) (hl : ∀ j, 1 ≤ j → j < n → ¬ Fix w j) : per w = n := by
  obtain ⟨a1, a2, a3, a4⟩ := per_ok hw
  rcases Nat.lt_trichotomy (per w) n with h | h | h
  · exact absurd a1 (hl _ a2 h)
  · exact h
  · exact absurd hf (a4 _ h1 h)

section
variable {N : Nat} (hN : Big N) (w : List UInt8)
include hN

theorem T50_loop (hne : w ≠ []) (hw : w.length ≤ 64) : ∀ (f n fuel : Nat), 1 ≤ n → n + f = w.length → f < fuel → (∀ j, 1 ≤ j → j < n → ¬ Fix w j) →
    (loopR (V := Int) (X := ((List UInt8) × Int) ⊕ Unit) (R50x26 N w) fuel (n : Int)).bind (fun o8 => (Sum.elim (fun o9 => some (o9.1, o9.2)) (fun _ => some (w, 1)) o8)) = some (root w, ((expo w : Nat) : Int)) := by
  intro f
  induction f with
  | zero =>
    intro n fuel h1 h2 h3 h4
    obtain ⟨m, rfl⟩ : ∃ m, fuel = m + 1 := ⟨fuel - 1, by omega⟩
    have hn : n = w.length := by omega
    subst hn
    have hp := per_eq hne h1 (fix_len w) h4
    have e1 : root w = w := by unfold root; rw [hp, List.take_length]
    have e2 : expo w = 1 := by unfold expo; rw [hp]; exact Nat.div_self (by omega)
    rw [loopR_succ, e1, e2]
    simp only [R50x26, ge_range, cond_false]
    rfl
  | succ f ih =>
    intro n fuel h1 h2 h3 h4
    obtain ⟨m, rfl⟩ : ∃ m, fuel = m + 1 := ⟨fuel - 1, by omega⟩
    have hlt : n < w.length := by omega
    have hz : ¬ ((n : Nat) : Int) = 0 := by omega
    have b1 : decide ((0 : Int) ≤ (n : Int) ∧ (n : Int) ≤ (w.length : Int)) = true := by rw [decide_eq_true_eq]; omega
    have e1 : subA 0 n w = w.take n := by unfold subA; rw [List.drop_zero]
    have e2 : IntKind.wrap .i64 (Int.tdiv ((w.length : Nat) : Int) ((n : Nat) : Int)) = ((w.length / n : Nat) : Int) := by
      rw [Int.tdiv_eq_ediv_of_nonneg (by omega), ← Int.natCast_ediv]
      have : w.length / n ≤ w.length := Nat.div_le_self _ _
      generalize w.length / n = q at this ⊢
      exact w64 (by omega)
    have hv : (w.take n).length = n := by rw [List.length_take]; omega
    have e3 : T53 N (w.take n, ((w.length / n : Nat) : Int)) = some (repT (w.take n) (w.length / n)) := by
      apply T53_pow hN
      · rw [hv]; have := Nat.mul_div_le w.length n; omega
      · have : w.length / n ≤ w.length := Nat.div_le_self _ _
        omega
    have next : ¬ Fix w n → (loopR (V := Int) (X := ((List UInt8) × Int) ⊕ Unit) (R50x26 N w) m ((n + 1 : Nat) : Int)).bind (fun o8 => (Sum.elim (fun o9 => some (o9.1, o9.2)) (fun _ => some (w, 1)) o8)) = some (root w, ((expo w : Nat) : Int)) := fun hf =>
      ih (n + 1) m (by omega) (by omega) (by omega) (fun j j1 j2 => by
        by_cases e : j = n
        · subst e; exact hf
        · exact h4 j j1 (by omega))
    rw [loopR_succ]
    by_cases hd : w.length % n = 0
    · have d0 : ((((w.length % n : Nat) : Int)) == 0) = true := by rw [hd]; rfl
      by_cases hr : repT (w.take n) (w.length / n) = w
      · have hp := per_eq hne h1 ((pow_fix h1 (by omega) hd).1 hr) h4
        have r1 : root w = w.take n := by unfold root; rw [hp]
        have r2 : expo w = w.length / n := by unfold expo; rw [hp]
        have d1 : (repT (w.take n) (w.length / n) == w) = true := by rw [hr]; exact beq_self_eq_true _
        simp only [R50x26, lt_range hlt, cond_true, hz, decide_false, Bool.not_false, tmod_nat, d0, b1, Bool.and_true, Int.toNat_natCast, e1, e2, e3, Option.bind_some, d1, r1, r2]
        rfl
      · have d1 : (repT (w.take n) (w.length / n) == w) = false := by simpa using hr
        simp only [R50x26, lt_range hlt, cond_true, hz, decide_false, Bool.not_false, tmod_nat, d0, b1, Bool.and_true, Int.toNat_natCast, e1, e2, e3, Option.bind_some, d1, cond_false, w_succ (show n < 9223372036854775807 by omega), Sum.elim_inl]
        exact next fun hf => hr ((pow_fix h1 (by omega) hd).2 hf)
    · have d0 : ((((w.length % n : Nat) : Int)) == 0) = false := beq0 (by omega)
      simp only [R50x26, lt_range hlt, cond_true, hz, decide_false, Bool.not_false, tmod_nat, d0, cond_false, Option.bind_some, w_succ (show n < 9223372036854775807 by omega), Sum.elim_inl]
      exact next fun hf => hd (by
        have := per_dvd hne
        rw [per_eq hne h1 hf h4] at this
        exact this)

theorem T50_root (hne : w ≠ []) (hw : w.length ≤ 64) : T50 N w = some (root w, ((expo w : Nat) : Int)) := by
  have hpos : 0 < w.length := by cases w; exact absurd rfl hne; simp
  rw [T50_eq]
  exact T50_loop hN w hne hw (w.length - 1) 1 N (by omega) (by omega) (by unfold Big at hN; omega) (fun j j1 j2 => by omega)

theorem T51_least (hne : w ≠ []) (hw : w.length ≤ 64) : T51 N w = some (least w) := by
  have hpos : 0 < w.length := by cases w; exact absurd rfl hne; simp
  rw [T51_eq]
  have key := loopR_foldl (rd := R51x58 N w) (List.range w.length) (fun (b : List UInt8) k => (b, (k : Int))) (fun b k => mnS b (rotN w k)) (fun b => b) (fun _ _ => True)
    (fun b k hk _ => by
      refine ⟨?_, trivial⟩
      rw [List.length_range] at hk
      have e : (List.range w.length)[k]'(by rw [List.length_range]; exact hk) = k := List.getElem_range _
      have e2 : rot w (k % w.length) = rotN w k := rfl
      have e3 : (bif Op.bytesLess (rotN w k) b then some (rotN w k) else some b) = some (mnS b (rotN w k)) := by
        rw [bytesLess_eq]
        unfold mnS
        by_cases h : b ≤ rotN w k
        · rw [if_pos h, decide_eq_false (List.not_lt.2 h)]; rfl
        · rw [if_neg h, decide_eq_true (List.not_le.1 h)]; rfl
      rw [e]
      simp only [R51x58, lt_range hk, cond_true, T54_rot w k (by omega) hpos, Option.bind_some, w_succ (show k < 9223372036854775807 by omega), e2, e3])
    (fun b _ => by
      rw [List.length_range]
      simp only [R51x58, ge_range, cond_false]) N w 1 (by rw [List.length_range]; omega) (by rw [List.length_range]; unfold Big at hN; omega) trivial
  have key' : loopR (V := (List UInt8) × Int) (X := ((List UInt8))) (R51x58 N w) N (w, 1) = some (((List.range w.length).drop 1).foldl (fun b k => mnS b (rotN w k)) w) := key
  have e : ((List.range w.length).drop 1).foldl (fun b k => mnS b (rotN w k)) w = least w := by
    unfold least
    obtain ⟨m, hm⟩ : ∃ m, w.length = m + 1 := ⟨w.length - 1, by omega⟩
    rw [hm, List.range_succ_eq_map, List.foldl_cons]
    have : mnS w (rotN w 0) = w := by rw [rotN_zero]; unfold mnS; split <;> rfl
    rw [this]
    rfl
  rw [key', e]
  rfl
end

theorem TaperChanges_true {N : Nat} (hN : Big N) (w : List UInt8) (n : Int) (hn : -9223372036854775808 ≤ n) : T10 N (w, n) = some true := by
  rw [T10_eq, T47_pow hN w n hn, T45_rot hN w n, T48_root hN, T49_least hN, T44_bal hN, T18_word hN]
  simp only [T15, Option.bind_some, Bool.not_true, cond_false]
  by_cases hg : (w.length : Int) > 70
  · simp only [hg, decide_true, cond_true]
  simp only [hg, decide_false, cond_false]
  have t1 := T22_text N (powErr w n) (repT w n.toNat)
  have t2 := T22_text N (rotErr w n) (rot w (n.toNat % w.length))
  have t3 := T22_text N (wordErr w) (least w)
  by_cases h : wordErr w = 0
  · obtain ⟨h1, h2, h3⟩ := wordErr_ok h
    have hpos : 0 < w.length := by cases w; exact absurd rfl h1; simp
    have p1 : (((bif (decide (n < 1)) then (some true) else (some (decide (n > 64)))) : Option Bool).bind fun o13 => (bif o13 then (some (3, ([] : List UInt8))) else (bif (decide ((IntKind.wrap .i64 (n * ((w.length : Nat) : Int))) > 64)) then (some (26, ([] : List UInt8))) else (T53 N (w, n)).bind fun y14 => (some ((0 : Int), y14))))) = some (powErr w n, if powErr w n = 0 then repT w n.toNat else []) := by
      unfold powErr
      rw [h]
      by_cases c1 : n < 1
      · have r : rng n 1 64 = 3 := by unfold rng; rw [if_pos (by omega)]
        simp [c1, r, firstNZ]
      by_cases c2 : n > 64
      · have r : rng n 1 64 = 3 := by unfold rng; rw [if_pos (by omega)]
        simp [c1, c2, r, firstNZ]
      have r : rng n 1 64 = 0 := by unfold rng; rw [if_neg (by omega)]
      obtain ⟨m, rfl⟩ : ∃ m : Nat, n = (m : Int) := ⟨n.toNat, by omega⟩
      have hm : (m : Int) * ((w.length : Nat) : Int) = ((w.length * m : Nat) : Int) := by rw [Nat.mul_comm, Int.natCast_mul]
      have hm' : ((w.length : Nat) : Int) * (m : Int) = ((w.length * m : Nat) : Int) := by rw [Int.natCast_mul]
      have hb : w.length * m ≤ 64 * 64 := Nat.mul_le_mul h2 (by omega)
      rw [if_neg (show ¬ (64 : Int) < (m : Int) by omega), hm, hm', w64 (by omega), r]
      by_cases c3 : ((w.length * m : Nat) : Int) > 64
      · simp only [c1, c2, c3, decide_true, decide_false, cond_true, cond_false, Option.bind_some, if_true]
        rfl
      · rw [T53_pow hN w m (by omega) (by omega)]
        simp only [c1, c2, c3, decide_false, cond_false, Option.bind_some, if_false, Int.toNat_natCast]
        rfl
    have p2 : ∀ (e : Int) (s : List UInt8), (((bif (decide (n < 0)) then (some true) else (some (decide (n > 999999999)))) : Option Bool).bind fun o16 => (bif o16 then (some (e, (3 : Int), s, ([] : List UInt8), root w, least w, ((expo w : Nat) : Int), balB w)) else (T54 N (w, n)).bind fun y17 => (some (e, 0, s, y17, root w, least w, ((expo w : Nat) : Int), balB w)))) = some (e, rotErr w n, s, if rotErr w n = 0 then rot w (n.toNat % w.length) else [], root w, least w, ((expo w : Nat) : Int), balB w) := by
      intro e s
      unfold rotErr
      rw [h]
      by_cases c1 : n < 0
      · have r : rng n 0 999999999 = 3 := by unfold rng; rw [if_pos (by omega)]
        simp [c1, r, firstNZ]
      by_cases c2 : n > 999999999
      · have r : rng n 0 999999999 = 3 := by unfold rng; rw [if_pos (by omega)]
        simp [c1, c2, r, firstNZ]
      have r : rng n 0 999999999 = 0 := by unfold rng; rw [if_neg (by omega)]
      obtain ⟨m, rfl⟩ : ∃ m : Nat, n = (m : Int) := ⟨n.toNat, by omega⟩
      rw [r, T54_rot w m (by omega) hpos]
      simp only [c1, c2, decide_false, cond_false, Option.bind_some, Int.toNat_natCast]
      rfl
    rw [h] at t3
    simp only [h, beq_self_eq_true, cond_true, T50_root hN w h1 h2, T51_least hN w h1 h2, T52_bal hN w (by omega) hpos, Option.bind_some, p1, p2, if_true, t1, t2]
    rw [if_pos rfl] at t3
    rw [t3]
    rfl
  · have z1 : powErr w n = wordErr w := by unfold powErr firstNZ; simp [h]
    have z2 : rotErr w n = wordErr w := by unfold rotErr firstNZ; simp [h]
    rw [z1, if_neg h] at t1
    rw [z2, if_neg h] at t2
    rw [if_neg h] at t3
    simp only [beq0 h, cond_false, Option.bind_some, z1, z2, t1, t2, t3, if_neg h, cond_true, beq_self_eq_true]
end Go.Proofs.YtbfappllfpngdaaGreatDoor
