/- Plain laws: the law of pieces. -/
import Derived.Test.YtfiopgedfcaodaaGreatDoorSeamPy
set_option linter.all false
namespace Go.Proofs.YtfiopgedfcaodaaGreatDoor
open Go Go.Am Go.Sort
set_option maxRecDepth 100000
theorem comF_len {C : List (List P3)} (hC : ∀ l ∈ C, chkN l = 0) (a b : Nat) : (comF C a b).length ≤ 8192 := by
  unfold comF
  rw [List.length_map]
  have h1 := List.length_filter_le (fun k => decide (k ∈ knotsL (C.getD b []))) (knotsL (C.getD a []))
  have h2 : (knotsL (C.getD a [])).length ≤ 8192 := by
    by_cases h : a < C.length
    · have e : C.getD a [] = C[a] := by simp [h]
      rw [e]; exact knots_len (hC _ (List.getElem_mem h))
    · have e : C.getD a [] = [] := by simp [h]
      rw [e]; exact knots_len rfl
  omega
theorem full_fit : ∀ s : List (List P3), allFit (Pat.fits p115) (List.map n115 s ++ [AV.list .full 3 []]) = true
  | [] => rfl
  | x :: s => by
    show (Pat.fits p115 (n115 x) && allFit (Pat.fits p115) (List.map n115 s ++ [AV.list .full 3 []])) = true
    rw [full_fit s, fn115]; rfl
theorem full_dec (s : List (List P3)) : List.map d115 (List.map n115 s ++ [AV.list .full 3 []]) = s ++ [[]] := by
  rw [List.map_append, md115]; rfl
theorem snoc115 (s : List (List P3)) (l : List P3) : List.map n115 s ++ [AV.list .opn 3 (List.map n120 l)] = List.map n115 (s ++ [l]) := by
  rw [List.map_append]; rfl
def short (l : List P3) : Bool := if l.length ≤ 12 then true else if l.length > 4096 then decide (l.length ≤ 4098) else false
section
variable {N : Nat} (hN : Big N)
include hN
theorem T34_same (C : List (List P3)) (hC : C.length ≤ 100) (hl : ∀ l ∈ C, l.length ≤ 4098) : T34 N C = some C := by
  rw [T34_eq]
  have key := loopR_foldl (rd := R34x58 N C) C (fun s k => (s, (k : Int))) (fun s l => s ++ [l]) (fun s => s) (fun s k => s.length = k) (fun s k hk hs => by
    obtain ⟨a1, a2⟩ := at115 C hk
    have hb : decide ((s.length + 1) * 24 ≤ 140737488355328) = true := decide_eq_true (by omega)
    have hla : (s ++ [C[k]]).length = s.length + 1 := by simp
    have hlk := hl _ (List.getElem_mem hk)
    refine ⟨?_, by rw [hla, hs]⟩
    by_cases h0 : C[k] = []
    · rw [h0] at a1 hla ⊢
      simp only [R34x58, List.length_map, Int.toNat_natCast, a1, a2, lt_range hk, in_range hk, Bool.and_self, Bool.and_true, cond_true, List.map_nil, List.isEmpty_nil, decide_true, hb, full_fit, full_dec, Option.bind_some, hla, fa115, md115, w_succ (show k < 9223372036854775807 by omega)]
    · have hne : List.isEmpty (List.map n120 C[k]) = false := by
        cases hd : C[k] with
        | nil => exact absurd hd h0
        | cons x y => rfl
      have hb2 : decide ((0 + C[k].length) * 24 ≤ 140737488355328) = true := decide_eq_true (by omega)
      simp only [R34x58, List.length_map, Int.toNat_natCast, a1, a2, lt_range hk, in_range hk, Bool.and_self, Bool.and_true, cond_true, cond_false, hne, hb2, decide_true, hb, List.nil_append, snoc115, fa115, md115, Option.bind_some, hla, w_succ (show k < 9223372036854775807 by omega)]) (fun s _ => by
    simp only [R34x58, List.length_map, ge_range, cond_false, fa115, md115, Bool.and_true, cond_true, Option.bind_some, decide_true]) N [] 0 (Nat.zero_le _) (by unfold Big at hN; omega) rfl
  have key' : loopR (R34x58 N C) N ([], 0) = _ := key
  have z : ((bif (allFit (Pat.fits p115) ([] : List AV) && true) then some ((List.map d115 ([] : List AV)), 0) else none : Option ((List (List (Int × Int × Int))) × Int)).bind fun w9 => bif (decide (0 = (List.map n115 w9.1).length) && true) then some w9 else none) = some ([], 0) := rfl
  rw [z, Option.bind_some, key', List.drop_zero, foldl_snoc, List.nil_append, Option.bind_some, fa115, md115]
  rfl
theorem T35_same (J : List Six) (hJ : J.length ≤ 1000000) : T35 N J = some J := by
  rw [T35_eq]
  have key := loopR_foldl (rd := R35x58 N J) J (fun s k => (s, (k : Int))) (fun s p => s ++ [p]) (fun s => s) (fun s k => s.length = k) (fun s k hk hs => by
    obtain ⟨a1, a2⟩ := at129 J hk
    have hb : decide ((s.length + 1) * 48 ≤ 140737488355328) = true := decide_eq_true (by omega)
    have hla : (s ++ [J[k]]).length = s.length + 1 := by simp
    have hsn : List.map n127 s ++ [AV.agg [AV.int .i64 J[k].1, AV.int .i64 J[k].2.1, AV.int .i64 J[k].2.2.1, AV.int .i64 J[k].2.2.2.1, AV.int .i64 J[k].2.2.2.2.1, AV.int .i64 J[k].2.2.2.2.2]] = List.map n127 (s ++ [J[k]]) := by rw [List.map_append]; rfl
    refine ⟨?_, by rw [hla, hs]⟩
    simp only [R35x58, List.length_map, Int.toNat_natCast, a1, a2, lt_range hk, in_range hk, Bool.and_self, Bool.and_true, cond_true, decide_true, hb, hsn, fa127, md127, Option.bind_some, hla, w_succ (show k < 9223372036854775807 by omega)]) (fun s _ => by
    simp only [R35x58, List.length_map, ge_range, cond_false, fa127, md127, Bool.and_true, cond_true, Option.bind_some, decide_true]) N [] 0 (Nat.zero_le _) (by unfold Big at hN; omega) rfl
  have key' : loopR (R35x58 N J) N ([], 0) = _ := key
  have z : ((bif (allFit (Pat.fits p127) ([] : List AV) && true) then some ((List.map d127 ([] : List AV)), 0) else none : Option ((List (Int × Int × Int × Int × Int × Int)) × Int)).bind fun w6 => bif (decide (0 = (List.map n127 w6.1).length) && true) then some w6 else none) = some ([], 0) := rfl
  rw [z, Option.bind_some, key', List.drop_zero, foldl_snoc, List.nil_append, Option.bind_some, fa127, md127]
  rfl
omit hN in
theorem T107_short (l : List P3) : T107 N (l, 12) = some (short l) := by
  rw [T107_eq]
  simp only [List.length_map]
  unfold short
  by_cases h1 : l.length ≤ 12
  · have h1' : (l.length : Int) ≤ 12 := by omega
    simp [h1, h1']
  · have h1' : ¬ (l.length : Int) ≤ 12 := by omega
    by_cases h2 : l.length > 4096
    · have h2' : (l.length : Int) > 4096 := by omega
      have e : decide ((l.length : Int) ≤ 4098) = decide (l.length ≤ 4098) := by rw [decide_eq_decide]; omega
      rw [decide_eq_false h1', decide_eq_true h2', if_neg h1, if_pos h2, e]
      rfl
    · have h2' : ¬ (l.length : Int) > 4096 := by omega
      rw [decide_eq_false h1', decide_eq_false h2', if_neg h1, if_neg h2]
      rfl
theorem T32_short (C : List (List P3)) : ∃ b, T32 N C = some b ∧ (b = true → C.length ≤ 17 ∧ ∀ l ∈ C, l.length ≤ 4098) := by
  rw [T32_eq]
  simp only [List.length_map]
  by_cases h : (C.length : Int) > 4 ∧ (C.length : Int) ≠ 17
  · have hb : ((C.length : Int) != 17) = true := bne_iff_ne.2 h.2
    refine ⟨false, ?_, fun c => by cases c⟩
    simp only [h.1, decide_true, cond_true, hb, Option.bind_some]
  · have h0 : ((bif decide ((C.length : Int) > 4) then some ((C.length : Int) != 17) else some false) : Option Bool) = some false := by
      by_cases h4 : (C.length : Int) > 4
      · have h17 : (C.length : Int) = 17 := by omega
        simp [h17]
      · simp [h4]
    have hC : C.length ≤ 17 := by omega
    have q := find_gen (rd := R32x58 N C) C.length (fun k => (k : Int)) (fun k => !short (C.getD k [])) (fun _ => .inl false) (.inr ()) (fun k hk => by
      obtain ⟨a1, a2⟩ := at115 C hk
      have e : C.getD k [] = C[k] := by simp [hk]
      rw [e]
      simp only [R32x58, List.length_map, Int.toNat_natCast, a1, a2, lt_range hk, in_range hk, Bool.and_self, Bool.and_true, cond_true, fa120, md120, T107_short C[k], Option.bind_some, w_succ (show k < 9223372036854775807 by omega)]
      cases short C[k] <;> rfl) (by simp only [R32x58, List.length_map, ge_range, cond_false]) N (by unfold Big at hN; omega)
    have q' : loopR (R32x58 N C) N 0 = _ := q
    simp only [h0, Option.bind_some, cond_false, q']
    cases hf : (List.range C.length).find? fun k => !short (C.getD k []) with
    | some k => exact ⟨false, rfl, fun c => by cases c⟩
    | none =>
      refine ⟨true, rfl, fun _ => ⟨hC, fun l hl => ?_⟩⟩
      obtain ⟨k, hk, rfl⟩ := List.getElem_of_mem hl
      rw [List.find?_eq_none] at hf
      have := hf k (List.mem_range.2 hk)
      have e : C.getD k [] = C[k] := by simp [hk]
      rw [e] at this
      have hs : short C[k] = true := by simpa using this
      unfold short at hs
      split at hs
      · omega
      · split at hs
        · exact of_decide_eq_true hs
        · cases hs
theorem T5_true (C : List (List P3)) (J : List Six) (t : Int × Int) : T5 N (C, J, t) = some true := by
  obtain ⟨b, q32, hb⟩ := T32_short hN C
  have T16_eq : ∀ u, T16 N u = some true := fun _ => rfl
  rw [T5_eq]
  by_cases hgo : b = false ∨ ((J.length : Int) > 12 ∧ (J.length : Int) ≠ 1025)
  · have h1 : ((bif !b then some true else bif decide ((J.length : Int) > 12) then some ((J.length : Int) != 1025) else some false) : Option Bool) = some true := by
      rcases hgo with h | ⟨h, h'⟩
      · rw [h]; rfl
      · have h2 : ((J.length : Int) != 1025) = true := bne_iff_ne.2 h'
        rw [decide_eq_true h, h2]
        cases b <;> rfl
    simp only [fa115, md115, Bool.and_true, cond_true, Option.bind_some, q32, List.length_map, h1, T16_eq]
  · have hbt : b = true := by cases b with
      | true => rfl
      | false => exact absurd (.inl rfl) hgo
    have hJ : J.length ≤ 1025 := by
      by_cases c : (J.length : Int) > 12
      · have : (J.length : Int) = 1025 := by
          by_cases c2 : (J.length : Int) = 1025
          · exact c2
          · exact absurd (.inr ⟨c, c2⟩) hgo
        omega
      · omega
    obtain ⟨hC, hl⟩ := hb hbt
    have h1 : ((bif !b then some true else bif decide ((J.length : Int) > 12) then some ((J.length : Int) != 1025) else some false) : Option Bool) = some false := by
      rw [hbt]
      by_cases c : (J.length : Int) > 12
      · have : (J.length : Int) = 1025 := by
          by_cases c2 : (J.length : Int) = 1025
          · exact c2
          · exact absurd (.inr ⟨c, c2⟩) hgo
        rw [this]; rfl
      · rw [decide_eq_false c]; rfl
    have q34 := T34_same hN C (by omega) hl
    have q35 := T35_same hN J (by omega)
    have q33 := T33_loose hN C J
    have q36 := T36_com hN C t.1 t.2
    have hA : ∃ u, ((bif chkQ C J == 0 then (T39 N (C, J)).bind fun y19 => some y19 else (bif allFit (Pat.fits p89) [] then some (List.map d89 []) else none : Option (List P3)).bind fun w22 => some w22) : Option (List P3)) = some u ∧ (if chkQ C J = 0 then (looseF C J, (0 : Int)) else ([], chkQ C J)) = (u, chkQ C J) ∧ u.length ≤ 1000000 := by
      by_cases h : chkQ C J = 0
      · obtain ⟨hp, hJ4⟩ := chkQ_ok h
        obtain ⟨c1, c2⟩ := chkP_ok hp
        refine ⟨looseF C J, ?_, by rw [if_pos h, h], ?_⟩
        · rw [h, T39_loose hN C J c2 c1 hJ4]; rfl
        · have h3 := plcs_len c2 c1
          have h4 := List.length_filter_le (fun p => !tied J p) (plcs C)
          unfold looseF
          omega
      · refine ⟨[], ?_, by rw [if_neg h], by simp⟩
        rw [show (chkQ C J == 0) = false from beq_false_of_ne h]; rfl
    have hR : ∃ u : List Six × Int, ((bif chkP C == 0 then (T40 N (C, t.1, t.2)).bind fun y24 => some (y24.2, y24.1) else (bif allFit (Pat.fits p129) [] then some (chkP C, List.map d129 []) else none : Option (Int × List Six)).bind fun w27 => some w27) : Option (Int × List Six)) = some (u.2, u.1) ∧ (if chkP C = 0 then comR C t.1 t.2 else ([], chkP C)) = u ∧ u.1.length ≤ 1000000 := by
      by_cases h : chkP C = 0
      · obtain ⟨c1, c2⟩ := chkP_ok h
        refine ⟨comR C t.1 t.2, ?_, by rw [if_pos h], ?_⟩
        · rw [h, T40_com hN C t.1 t.2 h]; rfl
        · unfold comR
          split
          · simp
          · split
            · simp
            · have := comF_len c2 t.1.toNat t.2.toNat
              simp only
              omega
      · refine ⟨([], chkP C), ?_, by rw [if_neg h], by simp⟩
        rw [show (chkP C == 0) = false from beq_false_of_ne h]; rfl
    obtain ⟨u, a1, a2, a3⟩ := hA
    obtain ⟨w, r1, r2, r3⟩ := hR
    rw [a2] at q33
    rw [r2] at q36
    have q44 := T44_same hN u a3
    have q43 := T43_same hN u a3
    have q46 := T46_same hN w.1 r3
    have q45 := T45_same hN w.1 r3
    simp only [fa115, md115, fa129, md129, fa127, md127, Bool.and_true, Bool.and_self, cond_true, Option.bind_some, q32, List.length_map, h1, cond_false, q34, q35, q33, beq_self_eq_true, q36, T37_chk hN C, T38_chk hN C J, fa89, md89, a1, r1, T41_chk hN C, T42_chk hN C J, fa94, md94, q44, q43, q46, q45, T16_eq]
end
end Go.Proofs.YtfiopgedfcaodaaGreatDoor
