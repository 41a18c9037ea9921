/- Plain laws: the law of classes, degrees and counts. -/
import Derived.Test.YtfiopgedfcaodaaGreatDoorSeamPd
set_option linter.all false
namespace Go.Proofs.YtfiopgedfcaodaaGreatDoor
open Go Go.Am
set_option maxRecDepth 100000

theorem stP_len {s s' : List P3} {c : List P3} (h : foldI stP s c = .inl s') : s'.length ≤ s.length + c.length := by
  have := foldI_inl (st := stP) (P := fun s' k => s'.length ≤ s.length + k) (l := c) (s := s) (s' := s') (k := 0) (fun s1 a s2 k _ hk h => by
    unfold stP at h
    split at h
    · injection h with h; subst h; simp; omega
    · cases h) (by simp) h
  simpa using this

section
variable {N : Nat} (hN : Big N) (C : List (List P3)) (B : List (Int × Int)) (hC : C.length ≤ 10000) (hB : B.length ≤ 10000) (hc : ∀ c ∈ C, c.length ≤ 10000)
include hN hC hB hc
theorem R56_out : loopR (R56x122 N (C, B)) N ([], 0) = some (Sum.elim (fun _ => .inr ()) (fun y => .inl y.1) (foldI stC [] C)) := by
  have key := loopR_fold (rd := R56x122 N (C, B)) C (fun s k => (s, (k : Int))) stC (fun _ => .inr ()) (fun y => .inl y.1) (fun s k => s.length ≤ 10000 * k) (fun s k hk hs => by
    obtain ⟨a1, a2⟩ := at63 C hk
    have hck := hc _ (List.getElem_mem hk)
    refine ⟨?_, fun s' h => ?_⟩
    · have hi := R56_in hN C B hC hB hc k hk s s (by omega)
      simp only [R56x122, List.length_map, Int.toNat_natCast, a1, a2, lt_range hk, in_range hk, Bool.and_self, Bool.and_true, cond_true, fa89, md89, decide_true, Option.bind_some, hi, w_succ (show k < 9223372036854775807 by omega)]
      unfold stC
      by_cases hz : C[k].length = 0
      · simp only [hz, if_true, Sum.map_inr]
        rfl
      · have hb : ((C[k].length : Int) == 0) = false := beq_false_of_ne (by omega)
        simp only [hb, cond_false, hz, if_false]
        cases foldI stP s C[k] <;> simp only [Sum.elim_inl, Sum.elim_inr, Sum.map_inl, Sum.map_inr, fa89, md89, decide_true, cond_true, Option.bind_some]
    · unfold stC at h
      split at h
      · cases h
      · have := stP_len h
        omega) (fun s hs => by
    simp only [R56x122, List.length_map, ge_range, cond_false]) N [] 0 (Nat.zero_le _) (by unfold Big at hN; omega) (by simp)
  rw [List.drop_zero] at key
  exact key
theorem R56_bars : loopR (R56x250 N (C, B)) N 0 = some (if firstNZ (B.map (errB C.length)) = 0 then .inr () else .inl (firstNZ (B.map (errB C.length)))) := by
  refine first_loop2 (rd := R56x250 N (C, B)) (B.map (errB C.length)) (fun k hk => ?_) (by
    rw [List.length_map]
    simp only [R56x250, List.length_map, ge_range, cond_false]) N (by unfold Big at hN; rw [List.length_map]; omega)
  have hk : k < B.length := by simpa using hk
  obtain ⟨a1, a2⟩ := at46g B hk
  rw [List.getElem_map]
  simp only [R56x250, List.length_map, Int.toNat_natCast, a1, a2, lt_range hk, in_range hk, Bool.and_self, cond_true, w_succ (show k < 9223372036854775807 by omega)]
  unfold errB rng
  simp only [firstNZ]
  generalize B[k] = b
  by_cases c1 : b.1 < 0
  · simp [c1]
  · by_cases c2 : b.1 ≥ (C.length : Int)
    · have d2 : b.1 > (C.length : Int) - 1 := by omega
      simp [c1, c2, d2]
    · have d2 : ¬ b.1 > (C.length : Int) - 1 := by omega
      by_cases c3 : b.2 < 0
      · simp [c1, c2, c3, d2]
      · by_cases c4 : b.2 ≥ (C.length : Int)
        · have d4 : b.2 > (C.length : Int) - 1 := by omega
          simp [c1, c2, c3, c4, d2, d4]
        · have d4 : ¬ b.2 > (C.length : Int) - 1 := by omega
          by_cases c5 : b.1 > b.2 <;> simp [c1, c2, c3, c4, c5, d2, d4]
theorem T56_chk : T56 N (C, B) = some (chkS C B) := by
  rw [T56_eq]
  unfold chkS
  by_cases h0 : C.length > 8192 ∨ B.length > 8192
  · rw [if_pos h0]
    have : ((bif (decide ((C.length : Int) > 8192)) then (some true) else (some (decide ((B.length : Int) > 8192)))) : Option Bool) = some true := by
      by_cases h1 : (C.length : Int) > 8192
      · simp [h1]
      · have h2 : (B.length : Int) > 8192 := by omega
        simp [h2]
    simp only [List.length_map, this, Option.bind_some, cond_true]
  · rw [if_neg h0]
    have : ((bif (decide ((C.length : Int) > 8192)) then (some true) else (some (decide ((B.length : Int) > 8192)))) : Option Bool) = some false := by
      have h1 : ¬ (C.length : Int) > 8192 := by omega
      have h2 : ¬ (B.length : Int) > 8192 := by omega
      simp [h1, h2]
    simp only [List.length_map, this, Option.bind_some, cond_false]
    have z : ((bif allFit (Pat.fits p89) ([] : List AV) && true then some (List.map d89 ([] : List AV), 0) else none : Option ((List P3) × Int)).bind fun w36 => bif decide (0 = w36.1.length) && true then some w36 else none) = some ([], 0) := rfl
    rw [z, Option.bind_some, R56_out hN C B hC hB hc, Option.bind_some]
    cases foldI stC [] C with
    | inr e => rfl
    | inl s =>
      simp only [Sum.elim_inl, Sum.elim_inr, R56_bars hN C B hC hB hc, Option.bind_some]
      by_cases hz : firstNZ (B.map (errB C.length)) = 0
      · simp only [hz, if_true, Sum.elim_inr]
      · simp only [hz, if_false, Sum.elim_inl]

/-! ### The class of a place -/
/-- The class of a place, and the error. -/
def clsF (C : List (List P3)) (p : P3) : Int × Int := match (List.range C.length).find? fun i => decide (p ∈ C.getD i []) with | some i => ((i : Int), 0) | none => (0, 7)
theorem in52 (k : Nat) (hk : k < C.length) (p : P3) : loopR (R52x172x26 N (C, B) ((k : Int), p)) N (0, p) = some (match (List.range C[k].length).find? fun j => decide (C[k].getD j (0, 0, 0) = p) with | some j => .inl ((j : Int), p) | none => .inr p) := by
  obtain ⟨a1, a2⟩ := at53 C hk
  have hcl := hc _ (List.getElem_mem hk)
  have q := find_gen (rd := R52x172x26 N (C, B) ((k : Int), p)) C[k].length (fun j => ((j : Int), p)) (fun j => decide (C[k].getD j (0, 0, 0) = p)) (fun j => .inl ((j : Int), p)) (.inr p) (fun j hj => by
    obtain ⟨b1, b2⟩ := at94 C[k] hj
    have e : C[k].getD j (0, 0, 0) = C[k][j] := by simp [hj]
    have e2 := eq_three p C[k][j]
    simp only [R52x172x26, List.length_map, Int.toNat_natCast, a1, b1, b2, lt_range hj, in_range hj, Bool.and_self, cond_true, e, e2, w_succ (show j < 9223372036854775807 by omega)]
    by_cases h : p = C[k][j]
    · simp [h]
    · have h' : ¬ C[k][j] = p := fun x => h x.symm
      simp [h, h']) (by simp only [R52x172x26, List.length_map, Int.toNat_natCast, a1, ge_range, cond_false]) N (by unfold Big at hN; omega)
  exact q
theorem out52 (p : P3) : loopR (R52x131x26 N (C, B)) N (0, p) = some (match (List.range C.length).find? fun i => decide (p ∈ C.getD i []) with | some i => .inl ((i : Int), p) | none => .inr p) := by
  have q := find_gen (rd := R52x131x26 N (C, B)) C.length (fun i => ((i : Int), p)) (fun i => decide (p ∈ C.getD i [])) (fun i => .inl ((i : Int), p)) (.inr p) (fun k hk => by
    obtain ⟨a1, a2⟩ := at53 C hk
    have e : C.getD k [] = C[k] := by simp [hk]
    have hi := in52 hN C B hC hB hc k hk p
    have ha := find_any C[k] (fun x => decide (x = p)) (0, 0, 0)
    have he : C[k].any (fun x => decide (x = p)) = decide (p ∈ C[k]) := by rw [Bool.eq_iff_iff, List.any_eq_true]; simp
    rw [he] at ha
    have hi' : loopR (R52x172x26 N (C, B) ((k : Int), p)) N (0, p.1, p.2.1, p.2.2) = _ := hi
    simp only [R52x131x26, List.length_map, Int.toNat_natCast, a2, lt_range hk, in_range hk, Bool.and_self, cond_true, e, hi', Option.bind_some, w_succ (show k < 9223372036854775807 by omega)]
    rw [← ha]
    cases (List.range C[k].length).find? fun j => decide (C[k].getD j (0, 0, 0) = p) with
    | none => rfl
    | some j => simp) (by simp only [R52x131x26, List.length_map, ge_range, cond_false]) N (by unfold Big at hN; omega)
  exact q
theorem T52_cls (p : P3) : T52 N ((C, B), p) = some (if firstNZ [chkS C B, rng p.1 0 15, knotErr (p.2.1, p.2.2)] = 0 then clsF C p else (0, firstNZ [chkS C B, rng p.1 0 15, knotErr (p.2.1, p.2.2)])) := by
  rw [T52_eq]
  have h128 := T128_chk hN C B hC hB hc
  have h52 : loopR (R52x131x26 N (C, B)) N (0, p.1, p.2.1, p.2.2) = _ := out52 hN C B hC hB hc p
  simp only [fa53, md53, fa46, md46, Bool.and_self, cond_true, Option.bind_some, h128, beq_self_eq_true, T129_rng, T130_knot hN, three24, h52]
  rw [T90_first hN _ (by simp), Option.bind_some]
  generalize firstNZ [chkS C B, rng p.1 0 15, knotErr (p.2.1, p.2.2)] = e
  by_cases he : e = 0
  · subst he
    simp only [bne_self_eq_false, cond_false, if_true, Option.bind_some]
    unfold clsF
    cases (List.range C.length).find? fun i => decide (p ∈ C.getD i []) with
    | none => simp [T91_when]
    | some i =>
      have h1 : ¬ ((i : Int) < 0) := by omega
      simp only [Sum.elim_inl, Option.bind_some, T91_when, h1, decide_false, Bool.false_eq_true, if_false]
      by_cases h2 : (i : Int) > 0
      · rw [if_pos h2]
      · have : (i : Int) = 0 := by omega
        rw [if_neg h2, this]
  · simp only [bne0 he, cond_true, if_neg he]
theorem T57_cls (p : P3) : T57 N ((C, B), p) = some (if firstNZ [rng p.1 0 15, knotErr (p.2.1, p.2.2)] = 0 then clsF C p else (0, firstNZ [rng p.1 0 15, knotErr (p.2.1, p.2.2)])) := by
  rw [T57_eq]
  have q := find_gen (rd := R57x122 N (C, B) p) C.length (fun i => (i : Int)) (fun i => decide (p ∈ C.getD i [])) (fun i => .inl ((i : Int), 0)) (.inr ()) (fun k hk => by
    obtain ⟨a1, a2⟩ := at63 C hk
    have hck := hc _ (List.getElem_mem hk)
    have e : C.getD k [] = C[k] := by simp [hk]
    have h126 : T126 N (C[k], p.1, p.2.1, p.2.2) = _ := T126_at hN C[k] p (by omega)
    simp only [R57x122, List.length_map, Int.toNat_natCast, a1, a2, lt_range hk, in_range hk, Bool.and_self, cond_true, e, fa89, md89, Option.bind_some, h126, atI_ge, w_succ (show k < 9223372036854775807 by omega)]
    by_cases h : p ∈ C[k] <;> simp [h]) (by simp only [R57x122, List.length_map, ge_range, cond_false]) N (by unfold Big at hN; omega)
  have q' : loopR (R57x122 N (C, B) p) N 0 = _ := q
  simp only [beq_self_eq_true, Bool.and_self, cond_true, T80_rng, T134_knot, Option.bind_some, two3', q']
  rw [T28_first hN _ (by simp), Option.bind_some]
  generalize firstNZ [rng p.1 0 15, knotErr (p.2.1, p.2.2)] = e
  by_cases he : e = 0
  · subst he
    simp only [bne_self_eq_false, cond_false, if_true, Option.bind_some]
    unfold clsF
    cases (List.range C.length).find? fun i => decide (p ∈ C.getD i []) <;> rfl
  · simp only [bne0 he, cond_true, if_neg he]

theorem T54_deg : T54 N (C, B) = some (if chkS C B = 0 then (deg C.length B, 0) else ([], chkS C B)) := by
  rw [T54_eq]
  simp only [fa53, md53, fa46, md46, Bool.and_self, cond_true, Option.bind_some, T128_chk hN C B hC hB hc]
  by_cases h : chkS C B = 0
  · obtain ⟨h1, h2, h3⟩ := chkS_ok h
    have hd : decide ((0 : Int) ≤ (C.length : Int) ∧ (C.length : Int) ≤ (C.length : Int) ∧ (C.length : Int) ≤ 140737488355328 ∧ (C.length : Int) * 8 ≤ 140737488355328) = true := decide_eq_true (by omega)
    simp only [h, bne_self_eq_false, cond_false, List.length_map, hd, cond_true, Int.toNat_natCast, rep3, fa3, md3, Bool.and_self, Option.bind_some, R54_loop hN C B h1 h2 h3, deg_len, decide_true, cl3, if_true]
  · rw [bne0 h, if_neg h]
    rfl
theorem T55_cnt : T55 N (C, B) = some (if chkS C B = 0 then (cntS C B, 0) else ((0, 0, 0, 0), chkS C B)) := by
  rw [T55_eq]
  simp only [fa53, md53, fa46, md46, Bool.and_self, cond_true, Option.bind_some, T128_chk hN C B hC hB hc]
  by_cases h : chkS C B = 0
  · obtain ⟨h1, h2, h3⟩ := chkS_ok h
    have z : ((bif (Nat.beq 0 (([] : List AV)).length && Nat.beq 0 (([] : List AV)).length) && (allFit (Pat.fits p3) ([] : List AV) && true) then some ((), 0, (List.map d3 ([] : List AV))) else none : Option (Unit × Int × (List Int))).bind fun w8 => some w8) = some ((), 0, []) := rfl
    simp only [Bool.and_self] at z
    obtain ⟨u, r1, hu⟩ := bars_loop hN C B h1 h2 h3 ((), uL C.length id) (by simp) B.length 0 N id (by omega) (by unfold Big at hN; omega) (UF.id _)
    obtain ⟨u2, r2⟩ := count_loop hN h1 (f := lab (edg B)) ((), uL C.length id) (by simp) (C.length : Int) (B.length : Int) 0 C.length 0 N u (by omega) (by unfold Big at hN; omega) hu
    have r1' : loopR (R55x122 N (C, B) ((), uL C.length id)) N (0, uL C.length id) = _ := r1
    have r2' : loopR (R55x506 N ((), uL C.length id)) N (0, (C.length : Int), (B.length : Int), 0, 0, uL C.length u) = _ := r2
    have ha : loopR (R55x122x58 N (C, B)) N ((), 0, []) = _ := apart_loop hN (C, B) h1
    simp only [h, bne_self_eq_false, cond_false, if_true]
    rw [z]
    simp only [Option.bind_some, ha, fa3, md3, Bool.and_self, cond_true, r1', List.length_map, r2']
    rfl
  · rw [bne0 h, if_neg h]
    rfl
end

/-! ### Copies and sizes -/
theorem snoc94 (l : List P3) (p : P3) : List.map n94 l ++ [AV.agg [AV.int .i64 p.1, AV.int .i64 p.2.1, AV.int .i64 p.2.2]] = List.map n94 (l ++ [p]) := by rw [List.map_append]; rfl
theorem snoc53 (C : List (List P3)) (c : List P3) : List.map n53 C ++ [AV.list .opn 3 (List.map n94 c)] = List.map n53 (C ++ [c]) := by rw [List.map_append]; rfl
theorem take_snoc {α : Type} (l : List α) {k : Nat} (hk : k < l.length) : l.take k ++ [l[k]] = l.take (k + 1) := by
  rw [List.take_add_one, List.getElem?_eq_getElem hk]; rfl

section
variable {N : Nat} (hN : Big N) (C : List (List P3)) (B : List (Int × Int)) (hC : C.length ≤ 10000) (hB : B.length ≤ 10000) (hc : ∀ c ∈ C, c.length ≤ 10000)
include hN hC hB hc
theorem R53_in (k : Nat) (hk : k < C.length) (C' : List (List P3)) : loopR (R53x59802 N (C, B) ((k : Int), C', B)) N ([], 0) = some C[k] := by
  obtain ⟨a1, a2⟩ := at63 C hk
  have hcl := hc _ (List.getElem_mem hk)
  have key := loopR_count (rd := R53x59802 N (C, B) ((k : Int), C', B)) C[k].length (fun j => (C[k].take j, (j : Int))) C[k] (fun j hj => by
    obtain ⟨b1, b2⟩ := at89 C[k] hj
    have hl : (C[k].take j).length = j := by simp; omega
    have hb : (j + 1) * 24 ≤ 140737488355328 := by omega
    simp only [R53x59802, List.length_map, Int.toNat_natCast, a1, b1, b2, lt_range hj, in_range hj, Bool.and_self, Bool.and_true, cond_true, hl, decide_true, hb, snoc94, take_snoc C[k] hj, fa94, md94, Option.bind_some, List.length_append, List.length_singleton, w_succ (show j < 9223372036854775807 by omega)]
    have hl2 : (C[k].take (j + 1)).length = j + 1 := by simp; omega
    simp only [hl2, decide_true, Bool.and_self, cond_true, Option.bind_some]) (by
    have hl : C[k].take C[k].length = C[k] := List.take_length
    simp only [R53x59802, List.length_map, Int.toNat_natCast, a1, hl, ge_range, cond_false, fa94, md94, Bool.and_self, Bool.and_true, decide_true, cond_true, Option.bind_some]) N 0 (Nat.zero_le _) (by unfold Big at hN; omega)
  simpa using key
theorem T53_same : T53 N (C, B) = some (C, B) := by
  rw [T53_eq]
  have hB0 : ((bif List.isEmpty (List.map n46 B) then ((bif (allFit (Pat.fits p46) [] && true) then some ((), (List.map d46 [])) else none : Option (Unit × (List (Int × Int)))).bind fun w1 => some w1) else bif decide ((0 + List.length (List.map n46 B)) * 16 ≤ 140737488355328) then ((bif (allFit (Pat.fits p46) ([] ++ (List.map n46 B)) && true) then some ((), (List.map d46 ([] ++ (List.map n46 B)))) else none : Option (Unit × (List (Int × Int)))).bind fun w2 => some w2) else none) : Option ((Unit × (List (Int × Int))))) = some ((), B) := by
    cases B with
    | nil => rfl
    | cons b B =>
      have h1 : List.isEmpty (List.map n46 (b :: B)) = false := rfl
      have h2 : decide ((0 + List.length (List.map n46 (b :: B))) * 16 ≤ 140737488355328) = true := by rw [List.length_map]; exact decide_eq_true (by omega)
      simp only [h1, h2, cond_false, cond_true, List.nil_append, fa46, md46, Bool.and_self, Option.bind_some]
  have key := loopR_count (rd := R53x58 N (C, B)) C.length (fun k => ((k : Int), C.take k, B)) (C, B) (fun k hk => by
    obtain ⟨a1, a2⟩ := at63 C hk
    have hl : (C.take k).length = k := by simp; omega
    have hb : (k + 1) * 24 ≤ 140737488355328 := by omega
    have hi := R53_in hN C B hC hB hc k hk (C.take k)
    have z : ((bif allFit (Pat.fits p94) ([] : List AV) && true then some (List.map d94 ([] : List AV), 0) else none : Option ((List P3) × Int)).bind fun w10 => bif (decide (0 = w10.1.length) && true) then some w10 else none) = some ([], 0) := rfl
    simp only [Bool.and_true] at z
    simp only [R53x58, List.length_map, Int.toNat_natCast, a2, lt_range hk, in_range hk, Bool.and_self, Bool.and_true, Bool.true_and, cond_true, decide_true]
    rw [z]
    simp only [Option.bind_some, hi, hl, hb, decide_true, Bool.and_self, cond_true, snoc53, take_snoc C hk, fa53, md53, fa46, md46, w_succ (show k < 9223372036854775807 by omega)]
    have hl2 : (C.take (k + 1)).length = k + 1 := by simp; omega
    simp only [hl2, decide_true, Bool.and_self, cond_true, Option.bind_some]) (by
    have hl : C.take C.length = C := List.take_length
    simp only [R53x58, List.length_map, hl, ge_range, cond_false, fa53, md53, fa46, md46, Bool.and_self, Bool.and_true, decide_true, cond_true, Option.bind_some]) N 0 (Nat.zero_le _) (by unfold Big at hN; omega)
  have key' : loopR (R53x58 N (C, B)) N (0, [], B) = some (C, B) := by simpa using key
  rw [hB0]
  have z : ((bif (allFit (Pat.fits p53) ([] : List AV) && (allFit (Pat.fits p46) (List.map n46 B) && true)) then some (0, (List.map d53 ([] : List AV)), (List.map d46 (List.map n46 B))) else none : Option (Int × (List (List P3)) × (List (Int × Int)))).bind fun w17 => bif (decide (0 = (List.map n53 w17.2.1).length) && true) then some w17 else none) = some (0, [], B) := by
    simp only [fa46, md46, Bool.and_self]
    rfl
  simp only [Option.bind_some]
  rw [z]
  simp only [Option.bind_some, key', fa53, md53, fa46, md46, Bool.and_self, cond_true]
end

theorem T51_short {N : Nat} (hN : Big N) (C : List (List P3)) (B : List (Int × Int)) : ∃ b, T51 N (C, B) = some b ∧ (b = true → C.length ≤ 8193 ∧ B.length ≤ 8193 ∧ ∀ c ∈ C, c.length ≤ 6) := by
  rw [T51_eq]
  by_cases h1 : ((C.length : Int) > 16 ∧ (C.length : Int) ≠ 8193) ∨ ((B.length : Int) > 24 ∧ (B.length : Int) ≠ 8193)
  · refine ⟨false, ?_, fun h => by cases h⟩
    have hb : ((bif (decide ((C.length : Int) > 16)) then (bif ((C.length : Int) != 8193) then (some true) else (bif (decide ((B.length : Int) > 24)) then (some ((B.length : Int) != 8193)) else (some false))) else (bif (decide ((B.length : Int) > 24)) then (some ((B.length : Int) != 8193)) else (some false))) : Option Bool) = some true := by
      rcases h1 with ⟨c1, c2⟩ | ⟨c1, c2⟩
      · simp [c1, bne_iff_ne.2 c2]
      · have e := bne_iff_ne.2 c2
        simp only [c1, decide_true, cond_true, e]
        cases decide ((C.length : Int) > 16) <;> cases ((C.length : Int) != 8193) <;> rfl
    simp only [List.length_map, hb, Option.bind_some, cond_true]
  · have hb : ((bif (decide ((C.length : Int) > 16)) then (bif ((C.length : Int) != 8193) then (some true) else (bif (decide ((B.length : Int) > 24)) then (some ((B.length : Int) != 8193)) else (some false))) else (bif (decide ((B.length : Int) > 24)) then (some ((B.length : Int) != 8193)) else (some false))) : Option Bool) = some false := by
      by_cases c1 : (C.length : Int) > 16
      · have c2 : (C.length : Int) = 8193 := by omega
        by_cases c3 : (B.length : Int) > 24
        · have c4 : (B.length : Int) = 8193 := by omega
          simp [c2, c4]
        · simp [c2, c3]
      · by_cases c3 : (B.length : Int) > 24
        · have c4 : (B.length : Int) = 8193 := by omega
          simp [c1, c4]
        · simp [c1, c3]
    have hCl : C.length ≤ 8193 := by omega
    have hBl : B.length ≤ 8193 := by omega
    have q := find_gen (rd := R51x58 N (C, B)) (X := Bool ⊕ Unit) C.length (fun i => (i : Int)) (fun i => decide ((C.getD i []).length > 6)) (fun _ => .inl false) (.inr ()) (fun k hk => by
      obtain ⟨a1, a2⟩ := at63 C hk
      have e : C.getD k [] = C[k] := by simp [hk]
      simp only [R51x58, List.length_map, Int.toNat_natCast, a1, a2, lt_range hk, in_range hk, Bool.and_self, cond_true, e, w_succ (show k < 9223372036854775807 by omega)]
      by_cases h : C[k].length > 6
      · have h' : ((C[k].length : Nat) : Int) > 6 := by omega
        simp [h, h']
      · have h' : ¬ ((C[k].length : Nat) : Int) > 6 := by omega
        simp only [h, h', decide_false, cond_false, Bool.false_eq_true, if_false]) (by simp only [R51x58, List.length_map, ge_range, cond_false]) N (by unfold Big at hN; omega)
    have q' : loopR (R51x58 N (C, B)) N 0 = _ := q
    simp only [List.length_map, hb, Option.bind_some, cond_false, q']
    cases hf : (List.range C.length).find? fun i => decide ((C.getD i []).length > 6) with
    | some i => exact ⟨false, rfl, fun h => by cases h⟩
    | none =>
      refine ⟨true, rfl, fun _ => ⟨hCl, hBl, fun c hcm => ?_⟩⟩
      obtain ⟨k, hk, rfl⟩ := List.getElem_of_mem hcm
      have := List.find?_eq_none.1 hf k (List.mem_range.2 hk)
      have e : C.getD k [] = C[k] := by simp [hk]
      rw [e] at this
      simpa using this

theorem first_three (a b c : Int) : firstNZ [a, b, c] = if a = 0 then firstNZ [b, c] else a := by
  simp [firstNZ]

theorem sl63 (l : List (List P3)) : sameL (List.map n63 l) (List.map n63 l) = true := by
  have h3 : ∀ l : List P3, sameL (List.map n89 l) (List.map n89 l) = true := fun l => by
    induction l with
    | nil => rfl
    | cons x l ih =>
      rw [List.map_cons]
      show (sameA (n89 x) (n89 x) && sameL (List.map n89 l) (List.map n89 l)) = true
      rw [ih]
      show ((same0 (.int .i64 x.1) (.int .i64 x.1) && (same0 (.int .i64 x.2.1) (.int .i64 x.2.1) && (same0 (.int .i64 x.2.2) (.int .i64 x.2.2) && true))) && true) = true
      simp [same0]
  induction l with
  | nil => rfl
  | cons x l ih =>
    rw [List.map_cons]
    show (sameA (n63 x) (n63 x) && sameL (List.map n63 l) (List.map n63 l)) = true
    rw [ih]
    show ((Nat.beq 3 3 && sameL (List.map n89 x) (List.map n89 x)) && true) = true
    rw [h3]; rfl

theorem T7_true {N : Nat} (hN : Big N) (C : List (List P3)) (B : List (Int × Int)) (p : P3) : T7 N ((C, B), p) = some true := by
  rw [T7_eq]
  obtain ⟨b, hb, hs⟩ := T51_short hN C B
  simp only [fa63, md63, fa46, md46, Bool.and_self, cond_true, Option.bind_some, hb]
  cases b with
  | false => rfl
  | true =>
    obtain ⟨h1, h2, h3⟩ := hs rfl
    have hC : C.length ≤ 10000 := by omega
    have hB : B.length ≤ 10000 := by omega
    have hc : ∀ c ∈ C, c.length ≤ 10000 := fun c hcm => by have := h3 c hcm; omega
    have e52 : T52 N ((C, B), p.1, p.2.1, p.2.2) = _ := T52_cls hN C B hC hB hc p
    have e57 : T57 N ((C, B), p.1, p.2.1, p.2.2) = _ := T57_cls hN C B hC hB hc p
    simp only [Bool.not_true, cond_false, T53_same hN C B hC hB hc, Option.bind_some, beq_self_eq_true, Bool.and_self, cond_true, fa53, md53, fa46, md46, e52, T54_deg hN C B hC hB hc, T55_cnt hN C B hC hB hc, T56_chk hN C B hC hB hc, sl63, sl46]
    by_cases h : chkS C B = 0
    · obtain ⟨k1, k2, k3⟩ := chkS_ok h
      have h60 := T60_same hN (deg C.length B) (by rw [deg_len]; omega)
      simp only [h, beq_self_eq_true, cond_true, e57, Option.bind_some, T58_deg hN C B k1 k2 k3, T59_cnt hN C B k1 k2 k3, fa3, md3, Bool.and_self, if_true]
      rw [first_three, if_pos rfl]
      generalize firstNZ [rng p.1 0 15, knotErr (p.2.1, p.2.2)] = e
      by_cases he : e = 0
      · simp only [he, if_true, beq_self_eq_true, cond_true, h60, Option.bind_some, Bool.and_self]
        rfl
      · simp only [he, if_false, beq_self_eq_true, cond_true, h60, Option.bind_some, Bool.and_self]
        rfl
    · have h60 := T60_same hN [] (by simp)
      have hn : ∀ x y, firstNZ [chkS C B, x, y] = chkS C B := fun x y => by rw [first_three, if_neg h]
      simp only [beq0 h, cond_false, hn, if_neg h]
      have z : ((bif allFit (Pat.fits p3) ([] : List AV) && true then some (chkS C B, (0 : Int), List.map d3 ([] : List AV), (0 : Int), (0 : Int), (0 : Int), (0 : Int)) else none : Option (Int × Int × (List Int) × Int × Int × Int × Int)).bind fun w25 => some w25) = some (chkS C B, 0, [], 0, 0, 0, 0) := rfl
      rw [z]
      simp only [Option.bind_some, beq_self_eq_true, cond_true, fa3, md3, Bool.and_self, h60]
      rfl
end Go.Proofs.YtfiopgedfcaodaaGreatDoor
