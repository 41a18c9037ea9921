/- Plain laws: loose places by the program. -/
import Derived.Test.YtfiopgedfcaodaaGreatDoorSeamPq
set_option linter.all false
namespace Go.Proofs.YtfiopgedfcaodaaGreatDoor
open Go Go.Am Go.Sort
set_option maxRecDepth 100000
theorem set94 (s : List P3) (i : Nat) (a b c : Int) : setN (List.map n94 s) i (AV.agg [AV.int .i64 a, AV.int .i64 b, AV.int .i64 c]) = List.map n94 (s.set i (a, b, c)) := by
  rw [setN_eq]
  show (List.map n94 s).set i (n94 (a, b, c)) = _
  rw [List.map_set]
theorem cl94 (l : List P3) : closedL (List.map n94 l) = true := closedL_map (fun _ => rfl) l
theorem tied_snoc (J : List Six) (j : Six) (p : P3) : tied (J ++ [j]) p = (tied J p || (decide (jA j = p) || decide (jB j = p))) := by
  unfold tied
  rw [List.any_append, List.any_cons, List.any_nil, Bool.or_false]
section
variable {N : Nat} (hN : Big N)
include hN
theorem R33_map (J : List Six) (hJ : J.length ≤ 1024) : ∃ x, loopR (R33x122 N J) N (0, [], ()) = some x ∧ ∃ m : List (P3 × Bool), x = (m, ()) ∧ ∀ p, (getM p m).getD false = tied J p := by
  refine loopR_cnt (rd := R33x122 N J) (S := List (P3 × Bool)) J.length (fun m k => ((k : Int), m, ())) (fun m k => ∀ p, (getM p m).getD false = tied (J.take k) p) _ ?_ ?_ N [] 0 (Nat.zero_le _) (by unfold Big at hN; omega) (fun p => by simp [getM, tied])
  · intro m k hk hP
    have hd := nthD_map n127 J k hk
    have a1 : d127 (nthD (List.map n127 J) k) = J[k] := by rw [hd, dn127]
    have a2 : Pat.fits p127 (nthD (List.map n127 J) k) = true := by rw [hd, fn127]
    have et : J.take (k + 1) = J.take k ++ [J[k]] := by rw [List.take_succ, List.getElem?_eq_getElem hk]; rfl
    have k1 := mk177 (jA J[k]) m
    have p1 := mp177 (jA J[k]) m
    have k2 := mk177 (jB J[k]) (putM (jA J[k]) true m)
    have p2 := mp177 (jB J[k]) (putM (jA J[k]) true m)
    refine ⟨putM (jB J[k]) true (putM (jA J[k]) true m), ?_, fun p => ?_⟩
    · unfold jA jB at *
      simp only at k1 p1 k2 p2
      simp only [R33x122, List.length_map, Int.toNat_natCast, a1, a2, lt_range hk, in_range hk, Bool.and_self, Bool.and_true, cond_true, k1, p1, k2, p2, beq_self_eq_true, mc177, ax177, faM177, mdM177, Option.bind_some, w_succ (show k < 9223372036854775807 by omega)]
    · rw [getM_put, getM_put, et, tied_snoc, ← hP]
      by_cases h2 : p = jB J[k]
      · rw [if_pos h2, decide_eq_true h2.symm]; simp
      · by_cases h1 : p = jA J[k]
        · rw [if_neg h2, if_pos h1, decide_eq_true h1.symm]; simp
        · rw [if_neg h2, if_neg h1, decide_eq_false (fun c => h1 c.symm), decide_eq_false (fun c => h2 c.symm)]; simp
  · intro m hP
    refine ⟨(m, ()), ?_, m, rfl, fun p => by rw [hP, List.take_length]⟩
    simp only [R33x122, List.length_map, ge_range, cond_false, mc177, ax177, faM177, mdM177, Bool.and_self, Bool.and_true, cond_true, Option.bind_some]
theorem R33_in (K : List (Int × Int)) (e : Int) (m : List (P3 × Bool)) (s : List P3) (i : Int) (hK : K.length ≤ 8192) : loopR (R33x164x58 N (K, e)) N ([], 0, m, (), s, i) = some (K.map fun k => (i, k.1, k.2), m, (), s, i) := by
  have key := loopR_foldl (rd := R33x164x58 N (K, e)) K (fun acc k => (acc, (k : Int), m, (), s, i)) (fun acc k => acc ++ [(i, k.1, k.2)]) (fun acc => (acc, m, (), s, i)) (fun acc k => acc.length = k) (fun acc k hk hs => by
    obtain ⟨a1, a2⟩ := at87k K hk
    have hb : decide ((acc.length + 1) * 24 ≤ 140737488355328) = true := decide_eq_true (by omega)
    have hl : (acc ++ [(i, K[k].1, K[k].2)]).length = acc.length + 1 := by simp
    refine ⟨?_, by rw [hl, hs]⟩
    simp only [R33x164x58, List.length_map, Int.toNat_natCast, a1, a2, lt_range hk, in_range hk, Bool.and_self, Bool.and_true, cond_true, decide_true, hb, snoc94, fa94, md94, mc177, ax177, faM177, mdM177, Option.bind_some, hl, w_succ (show k < 9223372036854775807 by omega)]) (fun acc _ => by
    simp only [R33x164x58, List.length_map, ge_range, cond_false, fa94, md94, mc177, ax177, faM177, mdM177, Bool.and_self, Bool.and_true, cond_true, Option.bind_some, decide_true]) N [] 0 (Nat.zero_le _) (by unfold Big at hN; omega) rfl
  have key' : loopR (R33x164x58 N (K, e)) N ([], 0, m, (), s, i) = _ := key
  rw [key', List.drop_zero, foldl_snocg, List.nil_append]
theorem R33_places (C : List (List P3)) (hC : ∀ l ∈ C, chkN l = 0) (hl : C.length ≤ 16) (m : List (P3 × Bool)) : loopR (R33x109x58 N C) N ((), 0, m, (), []) = some ((), m, (), plcs C) := by
  have key := loopR_foldl (rd := R33x109x58 N C) (List.range C.length) (fun s k => ((), (k : Int), m, (), s)) (fun s i => s ++ plc C i) (fun s => ((), m, (), s)) (fun s k => s.length ≤ 8192 * k) (fun s k hk hs => by
    have hk : k < C.length := by simpa using hk
    rw [List.getElem_range]
    obtain ⟨a1, a2⟩ := at115 C hk
    have hn := hC _ (List.getElem_mem hk)
    have e : C.getD k [] = C[k] := by simp [hk]
    have hkl := knots_len hn
    have q := T163_knots hN C[k]
    rw [if_pos hn] at q
    have hpl := plc_len hC k
    have hb : decide ((s.length + (plc C k).length) * 24 ≤ 140737488355328) = true := decide_eq_true (by omega)
    have hi := R33_in hN (knotsL C[k]) 0 m s (k : Int) hkl
    have he : (knotsL C[k]).map (fun x => ((k : Int), x.1, x.2)) = plc C k := by unfold plc; rw [e]
    rw [he] at hi
    have z : ∀ a b : List P3, List.map n94 a ++ List.map n94 b = List.map n94 (a ++ b) := fun a b => by rw [List.map_append]
    have zn : allFit (Pat.fits p94) ([] : List AV) = true := rfl
    have hla : (s ++ plc C k).length = s.length + (plc C k).length := List.length_append
    refine ⟨?_, by rw [hla]; omega⟩
    simp only [R33x109x58, List.length_map, Int.toNat_natCast, a1, a2, lt_range hk, in_range hk, Bool.and_self, Bool.and_true, cond_true, fa120, md120, q, Option.bind_some, zn, mc177, ax177, faM177, mdM177, fa94, md94, List.map_nil, List.length_nil, decide_true, hi, hb, z, hla, Nat.beq_refl, w_succ (show k < 9223372036854775807 by omega)]) (fun s _ => by
    rw [List.length_range]
    simp only [R33x109x58, List.length_map, ge_range, cond_false, Nat.beq_refl, fa94, md94, mc177, ax177, faM177, mdM177, Bool.and_self, Bool.and_true, cond_true, Option.bind_some]) N [] 0 (Nat.zero_le _) (by unfold Big at hN; simp; omega) (Nat.zero_le _)
  have key' : loopR (R33x109x58 N C) N ((), 0, m, (), []) = _ := key
  rw [key', List.drop_zero, flatMap_foldl, List.nil_append]
  rfl
section
variable (J : List Six) (S : List P3) (m : List (P3 × Bool)) (hS : S.length ≤ 1000000) (hm : ∀ p, (getM p m).getD false = tied J p)
include hS hm
theorem R33_first : loopR (R33x162x26 N ((), m, (), S)) N (0, m, (), S) = some (match (List.range S.length).find? fun k => tied J (S.getD k (0, 0, 0)) with | some k => .inl ((k : Int), m, (), S) | none => .inr (m, (), S)) := by
  have q := find_gen (rd := R33x162x26 N ((), m, (), S)) S.length (fun k => ((k : Int), m, (), S)) (fun k => tied J (S.getD k (0, 0, 0))) (fun k => .inl ((k : Int), m, (), S)) (.inr (m, (), S)) (fun k hk => by
    obtain ⟨a1, a2⟩ := at94 S hk
    have e : S.getD k (0, 0, 0) = S[k] := by simp [hk]
    have hd : decide (k < S.length) = true := decide_eq_true hk
    have k1 := mk177 S[k] m
    have g1 := mg177 S[k] m
    rw [hm] at g1
    rw [e]
    simp only [R33x162x26, List.length_map, Int.toNat_natCast, Nat.zero_add, a1, a2, lt_range hk, in_range hk, hd, decide_true, Bool.and_self, Bool.and_true, cond_true, k1, g1, fn4, dn4, mc177, ax177, faM177, mdM177, fa94, md94, Option.bind_some, w_succ (show k < 9223372036854775807 by omega)]
    cases tied J S[k] <;> rfl) (by
    simp only [R33x162x26, List.length_map, ge_range, cond_false, mc177, ax177, faM177, mdM177, fa94, md94, Bool.and_self, Bool.and_true, cond_true, Option.bind_some]) N (by unfold Big at hN; omega)
  exact q
theorem R33_del (i : Nat) (hi : i < S.length) (hu : (S.take (i + 1)).filter (fun p => !tied J p) = S.take i) : ∃ x, loopR (R33x108x122 N ((), m, (), S)) N ((i : Int), ((i + 1 : Nat) : Int), m, (), S) = some x ∧ ∃ (t : Nat) (c : List P3), x = ((t : Int), m, (), c) ∧ c.length = S.length ∧ t ≤ S.length ∧ c.take t = S.filter fun p => !tied J p := by
  refine loopR_cnt (rd := R33x108x122 N ((), m, (), S)) (S := Nat × List P3) (S.length - i - 1) (fun s k => ((s.1 : Int), ((i + 1 + k : Nat) : Int), m, (), s.2))
    (fun s k => s.1 ≤ i + k ∧ s.2.length = S.length ∧ s.2.take s.1 = (S.take (i + 1 + k)).filter (fun p => !tied J p) ∧ ∀ u, i + 1 + k ≤ u → s.2[u]? = S[u]?) _ ?_ ?_ N (i, S) 0 (Nat.zero_le _) (by unfold Big at hN; omega) ⟨by omega, rfl, hu.symm, fun _ _ => rfl⟩
  · rintro ⟨t, c⟩ k hk ⟨i1, i2, i3, i4⟩
    simp only at i1 i2 i3 i4
    have hj : i + 1 + k < c.length := by omega
    have hjs : i + 1 + k < S.length := by omega
    have e1 : c[i + 1 + k] = S[i + 1 + k] := by
      have := i4 (i + 1 + k) (Nat.le_refl _)
      rw [List.getElem?_eq_getElem hj, List.getElem?_eq_getElem hjs] at this
      exact Option.some.inj this
    obtain ⟨a1, a2⟩ := at94 c hj
    rw [e1] at a1
    have et : S.take (i + 1 + (k + 1)) = S.take (i + 1 + k) ++ [S[i + 1 + k]] := by rw [show i + 1 + (k + 1) = i + 1 + k + 1 by omega, List.take_succ, List.getElem?_eq_getElem hjs]; rfl
    have hd : decide (i + 1 + k < S.length) = true := decide_eq_true hjs
    have hrt : decide ((0 : Int) ≤ (t : Int) ∧ (t : Int) < (S.length : Int)) = true := decide_eq_true (by omega)
    have hdt : decide (t < S.length) = true := decide_eq_true (by omega)
    have k1 := mk177 S[i + 1 + k] m
    have g1 := mg177 S[i + 1 + k] m
    rw [hm] at g1
    have hw : IntKind.wrap .i64 (((i + 1 + k : Nat) : Int) + 1) = ((i + 1 + (k + 1) : Nat) : Int) := by rw [w64 (by omega)]; omega
    by_cases h : tied J S[i + 1 + k] = true
    · rw [h] at g1
      refine ⟨(t, c), ?_, by simp only; omega, i2, ?_, fun u hu => i4 u (by omega)⟩
      · simp only [R33x108x122, List.length_map, Int.toNat_natCast, Nat.zero_add, i2, a1, a2, lt_range hjs, in_range hjs, hd, decide_true, Bool.and_self, Bool.and_true, cond_true, k1, g1, fn4, dn4, Bool.not_true, cond_false, mc177, ax177, faM177, mdM177, fa94, md94, Option.bind_some, hw]
      · rw [et, List.filter_append, ← i3]
        simp [h]
    · have h : tied J S[i + 1 + k] = false := by simpa using h
      rw [h] at g1
      refine ⟨(t + 1, c.set t S[i + 1 + k]), ?_, by simp only; omega, by simp only [List.length_set]; exact i2, ?_, fun u hu => ?_⟩
      · simp only [R33x108x122, List.length_map, Int.toNat_natCast, Nat.zero_add, i2, a1, a2, lt_range hjs, in_range hjs, hd, hrt, hdt, decide_true, Bool.and_self, Bool.and_true, cond_true, k1, g1, fn4, dn4, Bool.not_false, mc177, ax177, faM177, mdM177, set94, fa94, md94, Option.bind_some, hw, w_succ (show t < 9223372036854775807 by omega)]
      · rw [et, List.filter_append, ← i3]
        simp only
        rw [List.take_succ, List.take_set_of_le (Nat.le_refl _), List.getElem?_set_self (by omega)]
        simp [h]
      · simp only
        rw [List.getElem?_set_ne (by omega)]
        exact i4 u (by omega)
  · rintro ⟨t, c⟩ ⟨i1, i2, i3, i4⟩
    simp only at i1 i2 i3 i4
    have hge : decide (((i + 1 + (S.length - i - 1) : Nat) : Int) < (S.length : Int)) = false := decide_eq_false (by omega)
    refine ⟨((t : Int), m, (), c), ?_, t, c, rfl, i2, by omega, ?_⟩
    · simp only [R33x108x122, List.length_map, hge, cond_false, mc177, ax177, faM177, mdM177, fa94, md94, Bool.and_self, Bool.and_true, cond_true, Option.bind_some]
    · rw [i3, List.take_of_length_le (by omega)]
end
end
end Go.Proofs.YtfiopgedfcaodaaGreatDoor
