/- Plain laws: TaperReturns. -/
import Derived.Test.YtbfappllfpngdaaGreatDoorTapPk
set_option linter.all false
namespace Go.Proofs.YtbfappllfpngdaaGreatDoor
open Go Go.Am
set_option maxRecDepth 100000

theorem nth_last (out : Bool) (l : List UInt8) (p : Int × Int) (n : Nat) (hn : l.length = n) : nthD (List.map n54 (knotsL out p l)) n = n54 (lastK out p l) := by
  subst hn
  rw [nthD_map n54 _ l.length (by rw [knotsL_length]; omega), knots_last]

theorem edge_from {at0 p : Int × Int} {w w' : List UInt8} {t : Int} (h : edgeErr at0 w t = 0) (hp : knotErr p = 0) (hw : wordErr w' = 0) (hl : w'.length = w.length) : edgeErr p w' t = 0 := by
  have hz := firstNZ_zero.1 h
  simp only [List.mem_cons, List.not_mem_nil, or_false, forall_eq_or_imp, forall_eq] at hz
  obtain ⟨z1, z2, z3, z4⟩ := hz
  refine firstNZ_zero.2 ?_
  simp only [List.mem_cons, List.not_mem_nil, or_false, forall_eq_or_imp, forall_eq]
  exact ⟨hp, hw, z3, by rw [hl]; exact z4⟩

theorem knotErr_zero {at0 : Int × Int} {w : List UInt8} {t : Int} (h : edgeErr at0 w t = 0) : knotErr at0 = 0 := firstNZ_zero.1 h _ (by simp)

theorem chain7 (b1 b2 b3 b4 b5 b6 b7 : Bool) : (bif b1 then some true else bif b2 then some true else bif b3 then some true else bif b4 then some true else bif b5 then some true else bif b6 then some true else some b7 : Option Bool) = some (b1 || (b2 || (b3 || (b4 || (b5 || (b6 || b7)))))) := by
  cases b1 <;> cases b2 <;> cases b3 <;> cases b4 <;> cases b5 <;> cases b6 <;> rfl

theorem TaperReturns_true {N : Nat} (hN : Big N) (at0 : Int × Int) (x : List UInt8 × Int × Bool) (turn : Int) (hturn : 0 ≤ turn ∧ turn ≤ 255) : T9 N (at0, x, turn) = some true := by
  obtain ⟨w, tm, o⟩ := x
  rw [T9_eq]
  simp only [T15, Option.bind_some, Bool.not_true, cond_false, T37_err hN, chain7]
  by_cases hgd : w.length ≤ 10 ∧ 1 ≤ tm ∧ tm ≤ 6 ∧ walkErr at0 w tm o = 0 ∧ -1000 ≤ at0.1 ∧ at0.1 ≤ 1000 ∧ at0.2 ≤ 1000
  · obtain ⟨h1, h2, h3, h4, h5, h6, h7⟩ := hgd
    have b1 : decide (((w.length : Nat) : Int) > 10) = false := by rw [decide_eq_false_iff_not]; omega
    have b2 : decide (tm < 1) = false := by rw [decide_eq_false_iff_not]; omega
    have b3 : decide (tm > 6) = false := by rw [decide_eq_false_iff_not]; omega
    have b5 : decide (at0.1 < -1000) = false := by rw [decide_eq_false_iff_not]; omega
    have b6 : decide (at0.1 > 1000) = false := by rw [decide_eq_false_iff_not]; omega
    have b7 : decide (at0.2 > 1000) = false := by rw [decide_eq_false_iff_not]; omega
    have he : edgeErr at0 w tm = 0 := by unfold walkErr at h4; by_cases h : edgeErr at0 w tm = 0; exact h; rw [if_neg h] at h4; exact absurd h4 h
    have ok := edgeErr_ok he
    obtain ⟨k1, k2, k3, k4, k5⟩ := ok.hk
    have hwe : wordErr w = 0 := by
      have hz := firstNZ_zero.1 he
      exact hz _ (by simp)
    have hpos : 0 < w.length := by have := ok.hw.1; cases w; exact absurd rfl this; simp
    have we1 : walkErr at0 w tm true = 0 := walk_small true he (by omega) (by omega) (by omega)
    have we2 : walkErr at0 w tm false = 0 := walk_small false he (by omega) (by omega) (by omega)
    simp only [b1, b2, b3, b5, b6, b7, h4, bne_self_eq_false, Bool.or_self, cond_false, T34_walk hN, T35_walk hN, T36_walk hN, T46_vec hN, we1, we2, hwe, if_true, Option.bind_some]
    obtain ⟨t, rfl⟩ : ∃ t : Nat, tm = (t : Int) := ⟨tm.toNat, by omega⟩
    simp only [Int.toNat_natCast]
    have hlt : w.length * t ≤ 60 := Nat.le_trans (Nat.mul_le_mul_left _ (show t ≤ 6 by omega)) (by omega)
    have hwt : IntKind.wrap .i64 (((w.length : Nat) : Int) * (t : Int)) = ((w.length * t : Nat) : Int) := by rw [w64 (by rw [← Int.natCast_mul]; omega), Int.natCast_mul]
    have hwt1 : IntKind.wrap .i64 (((w.length * t : Nat) : Int) + 1) = ((w.length * t + 1 : Nat) : Int) := w_succ (by omega)
    have hL : (repT w t).length = w.length * t := by rw [repT_length, Nat.mul_comm]
    have hK : (knotsL true at0 (repT w t)).length = w.length * t + 1 := by rw [knotsL_length, hL]
    have hM : (knotsL false at0 (repT w t)).length = w.length * t + 1 := by rw [knotsL_length, hL]
    have hBM := both_length (stepsL true at0 (repT w t))
    rw [stepsL_length, hL] at hBM
    have hbm : IntKind.wrap .i64 (((barsL (stepsL true at0 (repT w t))).length : Int) + ((meshesL (stepsL true at0 (repT w t))).length : Int)) = ((w.length * t : Nat) : Int) := by rw [w64 (by omega)]; omega
    have hv := vec_ok w
    have hvb : (vec w).1 ≤ 20 ∧ (vec w).2 ≤ 20 := by omega
    have p1 : 0 ≤ (t : Int) * (vec w).1 ∧ (t : Int) * (vec w).1 ≤ 120 := ⟨Int.mul_nonneg (by omega) hv.1, Int.le_trans (Int.mul_le_mul_of_nonneg_left hvb.1 (by omega)) (by omega)⟩
    have p2 : 0 ≤ (t : Int) * (vec w).2 ∧ (t : Int) * (vec w).2 ≤ 120 := ⟨Int.mul_nonneg (by omega) hv.2.1, Int.le_trans (Int.mul_le_mul_of_nonneg_left hvb.2 (by omega)) (by omega)⟩
    have psum : ((t : Int) * (vec w).1 + (t : Int) * (vec w).2) % 2 = 0 := by
      rw [← Int.mul_add, hv.2.2, show (t : Int) * (2 * (w.length : Int)) = 2 * ((t : Int) * (w.length : Int)) by rw [← Int.mul_assoc, Int.mul_comm (t : Int) 2, Int.mul_assoc]]
      omega
    have hlast : lastK true at0 (repT w t) = (at0.1 + (t : Int) * (vec w).1, at0.2 + (t : Int) * (vec w).2) := by rw [lastK_vec, vec_rep]; rfl
    have n0 : nthD (List.map n54 (knotsL true at0 (repT w t))) (Int.toNat 0) = n54 at0 := rfl
    have nL := nth_last true (repT w t) at0 (w.length * t) hL
    rw [hlast] at nL
    have r0 : decide ((0 : Int) ≤ 0 ∧ 0 < ((w.length * t + 1 : Nat) : Int)) = true := by simp; omega
    have rL : decide ((0 : Int) ≤ ((w.length * t : Nat) : Int) ∧ ((w.length * t : Nat) : Int) < ((w.length * t + 1 : Nat) : Int)) = true := in_range (by omega)
    have c1 : IntKind.wrap .i64 (at0.1 + IntKind.wrap .i64 ((t : Int) * (vec w).1)) = at0.1 + (t : Int) * (vec w).1 := by rw [w64 (x := (t : Int) * (vec w).1) (by omega), w64 (by omega)]
    have c2 : IntKind.wrap .i64 (at0.2 + IntKind.wrap .i64 ((t : Int) * (vec w).2)) = at0.2 + (t : Int) * (vec w).2 := by rw [w64 (x := (t : Int) * (vec w).2) (by omega), w64 (by omega)]
    simp only [hwt, hwt1, List.length_map, hK, hM, hbm, bne_self_eq_false, cond_false, r0, rL, n0, nL, Int.toNat_natCast, fn54, dn54, Bool.and_self, cond_true, beq_self_eq_true, Bool.not_true, c1, c2, Option.bind_some, R9_loop hN at0 w t o 0 0 0 0 ok h1 (by omega) h5 h6 h7, Sum.elim_inr]
    -- back inwards
    have kl : knotErr (at0.1 + (t : Int) * (vec w).1, at0.2 + (t : Int) * (vec w).2) = 0 := by
      unfold knotErr
      rw [if_neg (by simp only; omega), if_pos (by simp only; omega)]
    have el := edge_from he kl hwe rfl
    have we3 : walkErr (at0.1 + (t : Int) * (vec w).1, at0.2 + (t : Int) * (vec w).2) w t false = 0 := walk_small false el (by simp only; omega) (by simp only; omega) (by simp only; omega)
    have hB : (knotsL false (at0.1 + (t : Int) * (vec w).1, at0.2 + (t : Int) * (vec w).2) (repT w t)).length = w.length * t + 1 := by rw [knotsL_length, hL]
    have nB := nth_last false (repT w t) (at0.1 + (t : Int) * (vec w).1, at0.2 + (t : Int) * (vec w).2) (w.length * t) hL
    have hlast2 : lastK false (at0.1 + (t : Int) * (vec w).1, at0.2 + (t : Int) * (vec w).2) (repT w t) = (at0.1, at0.2 + 2 * ((t : Int) * (vec w).2)) := by
      rw [lastK_vec, vec_rep]
      refine Prod.ext ?_ ?_ <;> simp only [Bool.false_eq_true, if_false] <;> omega
    rw [hlast2] at nB
    have c3 : IntKind.wrap .i64 (at0.2 + IntKind.wrap .i64 (IntKind.wrap .i64 (2 * (t : Int)) * (vec w).2)) = at0.2 + 2 * ((t : Int) * (vec w).2) := by
      rw [w64 (x := 2 * (t : Int)) (by omega), Int.mul_assoc, w64 (x := 2 * ((t : Int) * (vec w).2)) (by omega), w64 (by omega)]
    -- another order
    have hw : IntKind.wrap .i64 turn = turn := w64 (by omega)
    have re : rotErr w turn = 0 := by
      refine firstNZ_zero.2 ?_
      simp only [List.mem_cons, List.not_mem_nil, or_false, forall_eq_or_imp, forall_eq]
      exact ⟨hwe, by unfold rng; rw [if_neg (by omega)]⟩
    have hk : turn.toNat % w.length ≤ w.length := Nat.le_of_lt (Nat.mod_lt _ hpos)
    have t45 : T45 N (w, turn) = some (rot w (turn.toNat % w.length), 0) := by rw [T45_rot hN, re]; rfl
    generalize turn.toNat % w.length = k at hk t45
    have hrl := rot_length w hk
    have er := edge_from he (p := at0) (knotErr_zero he) (wordErr_rot hwe hk) hrl
    have we4 : walkErr at0 (rot w k) t true = 0 := walk_small true er (by omega) (by omega) (by omega)
    have hL2 : (repT (rot w k) t).length = w.length * t := by rw [repT_length, hrl, Nat.mul_comm]
    have hO : (knotsL true at0 (repT (rot w k) t)).length = w.length * t + 1 := by rw [knotsL_length, hL2]
    have nO := nth_last true (repT (rot w k) t) at0 (w.length * t) hL2
    have hlast3 : lastK true at0 (repT (rot w k) t) = (at0.1 + (t : Int) * (vec w).1, at0.2 + (t : Int) * (vec w).2) := by rw [lastK_vec, vec_rep, vec_rot]; rfl
    rw [hlast3] at nO
    simp only [we3, hw, t45, we4, if_true, Option.bind_some, Int.toNat_natCast, beq_self_eq_true, cond_true, hB, hO, rL, nB, nO, fn54, dn54, Bool.and_self, c3]
  · have hall : (decide (((w.length : Nat) : Int) > 10) || (decide (tm < 1) || (decide (tm > 6) || ((walkErr at0 w tm o != 0) || (decide (at0.1 < -1000) || (decide (at0.1 > 1000) || decide (at0.2 > 1000))))))) = true := by
      refine (Bool.not_eq_false _).mp fun hf => ?_
      simp only [Bool.or_eq_false_iff, decide_eq_false_iff_not, bne_eq_false_iff_eq] at hf
      exact hgd ⟨by omega, by omega, by omega, hf.2.2.2.1, by omega, by omega, by omega⟩
    simp only [hall, cond_true]
end Go.Proofs.YtbfappllfpngdaaGreatDoor
