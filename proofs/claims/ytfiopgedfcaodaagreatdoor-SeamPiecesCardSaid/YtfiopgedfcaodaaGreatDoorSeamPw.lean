/- Plain laws: loose places, program and reference. -/
import Derived.Test.YtfiopgedfcaodaaGreatDoorSeamPu
set_option linter.all false
namespace Go.Proofs.YtfiopgedfcaodaaGreatDoor
open Go Go.Am Go.Sort
set_option maxRecDepth 100000
theorem chkQ_ok {C : List (List P3)} {J : List Six} (h : chkQ C J = 0) : chkP C = 0 ∧ J.length ≤ 1024 := by
  unfold chkQ at h
  split at h
  · rename_i h0; exact absurd h h0
  · rename_i h0
    split at h
    · cases h
    · exact ⟨Decidable.not_not.1 h0, by omega⟩
theorem splice_rep (c : List P3) (n t : Nat) (hc : c.length = n) (ht : t ≤ n) :
    (splice (List.map n94 c) t (List.replicate (n - t) (AV.agg [AV.int .i64 0, AV.int .i64 0, AV.int .i64 0]))).length = n ∧ List.take t (splice (List.map n94 c) t (List.replicate (n - t) (AV.agg [AV.int .i64 0, AV.int .i64 0, AV.int .i64 0]))) = List.map n94 (c.take t) ∧ closedL (splice (List.map n94 c) t (List.replicate (n - t) (AV.agg [AV.int .i64 0, AV.int .i64 0, AV.int .i64 0]))) = true := by
  obtain ⟨z1, z2⟩ := splice_take (List.map n94 c) t (List.replicate (n - t) (AV.agg [AV.int .i64 0, AV.int .i64 0, AV.int .i64 0])) (by rw [List.length_replicate, List.length_map]; omega)
  refine ⟨by rw [z1, List.length_map, hc], by rw [z2, List.map_take], splice_cl _ _ _ (cl94 c) ?_⟩
  have : ∀ n, closedL (List.replicate n (AV.agg [AV.int .i64 0, AV.int .i64 0, AV.int .i64 0])) = true := by
    intro n
    induction n with
    | zero => rfl
    | succ n ih => rw [List.replicate_succ, closedL, ih]; rfl
  exact this _
section
variable {N : Nat} (hN : Big N)
include hN
theorem T33_loose (C : List (List P3)) (J : List Six) : T33 N (C, J) = some (if chkQ C J = 0 then (looseF C J, 0) else ([], chkQ C J)) := by
  rw [T33_eq]
  simp only [fa115, md115, fa127, md127, Bool.and_true, Bool.and_self, cond_true, Option.bind_some, T42_chk hN C J]
  by_cases h0 : chkQ C J = 0
  · obtain ⟨hp, hJ⟩ := chkQ_ok h0
    obtain ⟨c1, c2⟩ := chkP_ok hp
    obtain ⟨x, r, m, rfl, hm⟩ := R33_map hN J hJ
    have hpl := plcs_len c2 c1
    have n0 : mcells ([] : List (AV × AV)) = [] := rfl
    have x0 : allX ([] : List (AV × AV)) = true := rfl
    have f0 : allFit (Pat.fits pM177) [] = true := rfl
    have f1 : allFit (Pat.fits p94) [] = true := rfl
    have nb : Nat.beq 0 0 = true := rfl
    have hf := R33_first hN J (plcs C) m (by omega) hm
    have hpc := R33_places hN C c2 c1 m
    unfold looseF
    generalize plcs C = S at *
    rw [h0, if_pos rfl]
    simp only [bne_self_eq_false, cond_false, n0, x0, f0, f1, nb, List.map_nil, List.length_nil, Bool.and_self, cond_true, Option.bind_some, r, hpc, mc177, ax177, faM177, mdM177, fa94, md94, hf]
    cases hq : (List.range S.length).find? fun k => tied J (S.getD k (0, 0, 0)) with
    | none =>
      rw [List.find?_eq_none] at hq
      have hall : S.filter (fun p => !tied J p) = S := by
        rw [List.filter_eq_self]
        intro p hp
        obtain ⟨k, hk, rfl⟩ := List.getElem_of_mem hp
        have := hq k (List.mem_range.2 hk)
        have e : S.getD k (0, 0, 0) = S[k] := by simp [hk]
        rw [e] at this
        simpa using this
      have ht : List.take S.length (List.map n94 S) = List.map n94 S := List.take_of_length_le (by rw [List.length_map]; exact Nat.le_refl _)
      simp only [Sum.elim_inr, mc177, ax177, faM177, mdM177, fa94, md94, Bool.and_self, cond_true, Option.bind_some, beq_self_eq_true, List.length_map, decide_true, Nat.le_refl, cl94, ht, hall]
    | some i =>
      have hi := List.mem_range.1 (List.mem_of_find?_eq_some hq)
      have hti := List.find?_some hq
      have ei : S.getD i (0, 0, 0) = S[i] := by simp [hi]
      rw [ei] at hti
      obtain ⟨_, i', hi', hii, hbef⟩ := List.find?_eq_some_iff_getElem.1 hq
      rw [List.getElem_range] at hii
      subst hii
      have hu : (S.take (i' + 1)).filter (fun p => !tied J p) = S.take i' := by
        have et : S.take (i' + 1) = S.take i' ++ [S[i']] := by rw [List.take_succ, List.getElem?_eq_getElem hi]; rfl
        rw [et, List.filter_append]
        have h1 : (S.take i').filter (fun p => !tied J p) = S.take i' := by
          rw [List.filter_eq_self]
          intro p hp
          obtain ⟨k, hk, rfl⟩ := List.mem_take_iff_getElem.1 hp
          have hk1 : k < i' := by omega
          have := hbef k hk1
          rw [List.getElem_range] at this
          have e : S.getD k (0, 0, 0) = S[k] := by simp [show k < S.length by omega]
          rw [e] at this
          exact this
        rw [h1]
        simp [hti]
      obtain ⟨x, rd, t, c, rfl, d1, d2, d3⟩ := R33_del hN J S m (by omega) hm i' hi hu
      obtain ⟨z1, z2, z3⟩ := splice_rep c S.length t d1 d2
      have hne : ((i' : Int) == -1) = false := beq_false_of_ne (by omega)
      have hws : IntKind.wrap .i64 ((i' : Int) + 1) = ((i' + 1 : Nat) : Int) := w_succ (by omega)
      have hr1 : decide ((0 : Int) ≤ (t : Int) ∧ (t : Int) ≤ (S.length : Int)) = true := decide_eq_true (by omega)
      have hs : decide (t + (S.length - t) ≤ S.length) = true := decide_eq_true (by omega)
      have ht : decide (t ≤ S.length) = true := decide_eq_true d2
      simp only [Sum.elim_inl, mc177, ax177, faM177, mdM177, fa94, md94, Bool.and_self, cond_true, Option.bind_some, hne, cond_false, hws, rd, List.length_map, hr1, d1, decide_true, Nat.zero_add, Int.toNat_natCast, hs, z1, ht, z2, z3, d3]
  · have hb : (chkQ C J != 0) = true := bne_iff_ne.2 h0
    rw [hb, if_neg h0]
    rfl
end
end Go.Proofs.YtfiopgedfcaodaaGreatDoor
