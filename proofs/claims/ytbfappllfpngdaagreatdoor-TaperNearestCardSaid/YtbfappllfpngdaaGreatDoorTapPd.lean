/- Plain laws: strings parsed by the program and by the reference; TaperWords. -/
import Derived.Test.YtbfappllfpngdaaGreatDoorTapPc
set_option linter.all false
namespace Go.Proofs.YtbfappllfpngdaaGreatDoor
open Go Go.Am
set_option maxRecDepth 100000

theorem runT_two (d e : UInt8) (r : List UInt8) : runT (d :: e :: r) = (if isD d = true ∧ (d.toNat : Int) ≠ 48 then if isD e = true then (match r with | c :: _ => if isL c = true then (10 * ((d.toNat : Int) - 48) + ((e.toNat : Int) - 48), (c.toNat : Int), 3) else (0, 0, 0) | [] => (0, 0, 0)) else if isL e = true then ((d.toNat : Int) - 48, (e.toNat : Int), 2) else (0, 0, 0) else (0, 0, 0) : Int × Int × Int) := rfl

/-- What a run is. -/
theorem runT_cases (l : List UInt8) : runT l = (0, 0, 0) ∨ ∃ (cnt : Nat) (c : UInt8) (sz : Nat), runT l = ((cnt : Int), (c.toNat : Int), (sz : Int)) ∧ cnt ≤ 99 ∧ isL c = true ∧ (sz = 2 ∨ sz = 3) ∧ sz ≤ l.length := by
  match l with
  | [] => exact .inl rfl
  | [_] => exact .inl rfl
  | d :: e :: r =>
    rw [runT_two]
    by_cases hd : isD d = true ∧ (d.toNat : Int) ≠ 48
    · have v1 := isD_val hd.1
      rw [if_pos hd]
      by_cases he : isD e = true
      · have v2 := isD_val he
        rw [if_pos he]
        match r with
        | [] => exact .inl rfl
        | c :: r' =>
          by_cases hc : isL c = true
          · refine .inr ⟨10 * (d.toNat - 48) + (e.toNat - 48), c, 3, ?_, by omega, hc, .inr rfl, by simp⟩
            simp only [hc, if_true]
            congr 1
            omega
          · left; simp [hc]
      · rw [if_neg he]
        by_cases hc : isL e = true
        · refine .inr ⟨d.toNat - 48, e, 2, ?_, by omega, hc, .inl rfl, by simp⟩
          rw [if_pos hc]
          congr 1
          omega
        · left; rw [if_neg hc]
    · left; rw [if_neg hd]

/-- One run more. -/
def stepS (s out : List UInt8) (k : Nat) : ((List UInt8) × Int) ⊕ (((List UInt8) × Int × Int) ⊕ ((List UInt8))) :=
  if (runT (s.drop k)).2.2 = 0 then .inr (.inl ([], (k : Int), 25))
  else if (out.length : Int) + (runT (s.drop k)).1 > 64 then .inr (.inl ([], (k : Int), 26))
  else .inl (out ++ List.replicate (runT (s.drop k)).1.toNat (UInt8.ofNat (runT (s.drop k)).2.1.toNat), (k : Int) + (runT (s.drop k)).2.2)

theorem T78_rep {N : Nat} (hN : Big N) (c : Int) (n : Nat) (hn : n ≤ 99) : T78 N (c, (n : Int)) = some (List.replicate n c) := by
  rw [T78_eq]
  have e0 : (((bif (allFit (Pat.fits p21) ([] : List AV) && true) then some ((List.map d21 ([] : List AV)), 0) else none : Option ((List Int) × Int)).bind fun w6 => bif (decide (0 = (List.map n21 w6.1).length) && true) then some w6 else none)) = some (([] : List Int), (0 : Int)) := rfl
  rw [e0, Option.bind_some]
  have key := loopR_count (rd := R78x58 N c n) n (fun k => (List.replicate k c, (k : Int))) (List.replicate n c) (fun k hk => by
    have e1 : decide ((k : Int) < (n : Int)) = true := by simpa using hk
    have e2 : decide ((k + 1) * 4 ≤ 140737488355328) = true := by simp only [decide_eq_true_eq]; omega
    have e3 : List.map n21 (List.replicate k c) ++ [AV.int .i32 c] = List.map n21 (List.replicate (k + 1) c) := by simp [List.replicate_succ', n21, Pat.enc]
    simp only [R78x58, e1, cond_true, List.length_map, List.length_replicate, decide_true, Bool.true_and, e2, e3, fa21, md21, Bool.and_true, Option.bind_some, w_succ (show k < 9223372036854775807 by omega)]) (by
    have e1 : decide ((n : Int) < (n : Int)) = false := by simp
    simp only [R78x58, e1, cond_false, List.length_map, List.length_replicate, decide_true, fa21, md21, Bool.and_true, cond_true, Option.bind_some]) N 0 (Nat.zero_le _) (by unfold Big at hN; omega)
  have key' : loopR (V := (List Int) × Int) (X := ((List Int))) (R78x58 N c n) N (([] : List Int), (0 : Int)) = some (List.replicate n c) := key
  rw [key']
  simp only [Option.bind_some, fa21, md21, cond_true]

theorem isL_three {c : UInt8} (h : isL c = true) : c = 78 ∨ c = 66 ∨ c = 84 := by
  unfold isL isLI at h
  simp only [Bool.or_eq_true, beq_iff_eq] at h
  rcases h with h | h | h
  · exact .inl (UInt8.toNat_inj.1 (by simpa using (show c.toNat = 78 by omega)))
  · exact .inr (.inl (UInt8.toNat_inj.1 (by simpa using (show c.toNat = 66 by omega))))
  · exact .inr (.inr (UInt8.toNat_inj.1 (by simpa using (show c.toNat = 84 by omega))))

theorem runes_rep {c : UInt8} (h : isL c = true) (n : Nat) : runesD (List.map n21 (List.replicate n (c.toNat : Int))) = List.replicate n c := by
  induction n with
  | zero => rfl
  | succ n ih =>
    have e : (Utf8.encode ((AV.int IntKind.i32 (c.toNat : Int)).intD)).data.toList = [c] := by
      rcases isL_three h with rfl | rfl | rfl <;> decide
    rw [List.replicate_succ, List.map_cons, List.replicate_succ]
    have h2 : ∀ (a : AV) (l : List AV), runesD (a :: l) = (Utf8.encode a.intD).data.toList ++ runesD l := fun a l => List.flatMap_cons
    rw [h2, ih, show n21 (c.toNat : Int) = AV.int .i32 (c.toNat : Int) from rfl, e]
    rfl

theorem R17_step {N : Nat} (hN : Big N) (s out : List UInt8) (k : Nat) (hk : k < s.length) (hs : s.length ≤ 4096) (ho : out.length ≤ 64) : R17x122 N s (out, (k : Int)) = some (stepS s out k) := by
  have e1 : subA k s.length s = s.drop k := by unfold subA; rw [List.take_length]
  have e2 : decide ((0 : Int) ≤ (k : Int) ∧ (k : Int) ≤ (((s.length : Nat) : Int))) = true := by simp; omega
  unfold stepS
  simp only [R17x122, lt_range hk, cond_true, e2, Int.toNat_natCast, e1, T77_run hN, Option.bind_some, T76_when, allFit, fi23, di23, List.map_cons, List.map_nil, Bool.and_self, T75_first hN _ (show [_, _].length ≤ 9223372036854775806 by simp), firstNZ]
  rcases runT_cases (s.drop k) with h | ⟨cnt, c, sz, h, h1, h2, h3, h4⟩
  · rw [h]; simp
  · rw [h]
    have z : ((sz : Int) == 0) = false := by rcases h3 with rfl | rfl <;> rfl
    have z' : ¬ (sz : Int) = 0 := by omega
    have hw : IntKind.wrap .i64 ((out.length : Int) + (cnt : Int)) = (out.length : Int) + (cnt : Int) := w64 (by omega)
    simp only [z, z', hw, if_false, Bool.false_eq_true, if_true]
    by_cases h5 : (out.length : Int) + (cnt : Int) > 64
    · simp [h5]
    · have e5 : decide (out.length + (List.replicate cnt c).length ≤ 9223372036854775807) = true := by simp only [decide_eq_true_eq, List.length_replicate]; omega
      have e6 : allFit (Pat.fits (.int .i32)) (List.map n21 (List.replicate cnt (c.toNat : Int))) = true := fa21 _
      have e7 : IntKind.wrap .i64 ((k : Int) + (sz : Int)) = (k : Int) + (sz : Int) := w64 (by omega)
      simp only [h5, decide_false, Bool.false_eq_true, if_false, if_true, bne_self_eq_false, cond_false, T78_rep hN _ cnt h1, Option.bind_some, e6, cond_true, runes_rep h2, e5, e7, Int.toNat_natCast, UInt8.ofNat_toNat]

/-! ### The reference -/

theorem R81_step (N : Nat) (a : List UInt8) (k : Nat) (hk : k < a.length) (hk' : k ≤ 10) (acc : Int) (ha : 0 ≤ acc ∧ acc ≤ 99) (hd : isD (a.getD k 0) = true) :
    R81x122 N a (acc, (k : Int)) = some (.inl (10 * acc + (((a.getD k 0).toNat : Int) - 48), ((k + 1 : Nat) : Int))) := by
  have hv := isD_val hd
  have h1 : ¬ ((a.getD k 0).toNat : Int) < 48 := by omega
  have h2 : ¬ ((a.getD k 0).toNat : Int) > 57 := by omega
  have w1 : IntKind.wrap .u8 (((a.getD k 0).toNat : Int) - 48) = ((a.getD k 0).toNat : Int) - 48 := IntWalk.u8_in _ (by omega)
  simp only [R81x122, lt_range hk, in_range hk, cond_true, Int.toNat_natCast, h1, h2, decide_false, cond_false, Option.bind_some, w1]
  rw [w64 (x := ((a.getD k 0).toNat : Int) - 48) (by omega), w64 (x := 10 * acc) (by omega), w64 (by omega), w_succ (by omega)]
theorem R81_end (N : Nat) (a : List UInt8) (acc : Int) : R81x122 N a (acc, (a.length : Int)) = some (.inr (.inr acc)) := by
  simp only [R81x122, ge_range, cond_false]

theorem T81_one {N : Nat} (hN : Big N) {d : UInt8} (hd : isD d = true) : T81 N [d] = some ((d.toNat : Int) - 48) := by
  obtain ⟨n, rfl⟩ : ∃ n, N = n + 4 := ⟨N - 4, by unfold Big at hN; omega⟩
  rw [T81_eq]
  have e0 : (((bif (((([d] : List UInt8).length : Nat) : Int) == 0) then (some true) else (bif (decide (((([d] : List UInt8).length : Nat) : Int) > 9)) then (some true) else (bif (decide (((([d] : List UInt8).length : Nat) : Int) > 1)) then bif decide ((0 : Int) ≤ 0 ∧ 0 < (([d] : List UInt8).length : Int)) then (some (((([d].getD (Int.toNat 0) 0).toNat : Nat) : Int) == 48)) else none else (some false)))) : Option Bool)) = some false := rfl
  rw [e0, Option.bind_some, cond_false]
  have s0 := R81_step (n + 4) [d] 0 (by simp) (by omega) 0 (by omega) hd
  have s1 := R81_end (n + 4) [d] (10 * 0 + (((([d] : List UInt8).getD 0 0).toNat : Int) - 48))
  rw [show (([d] : List UInt8).length : Int) = ((0 + 1 : Nat) : Int) from rfl] at s1
  rw [show ((0 : Nat) : Int) = 0 from rfl] at s0
  rw [loopR_succ, s0]
  simp only [Option.bind_some, Sum.elim_inl]
  rw [loopR_succ, s1]
  simp

theorem T81_two {N : Nat} (hN : Big N) {d e : UInt8} (hd : isD d = true) (hd' : (d.toNat : Int) ≠ 48) (he : isD e = true) : T81 N [d, e] = some (10 * ((d.toNat : Int) - 48) + ((e.toNat : Int) - 48)) := by
  obtain ⟨n, rfl⟩ : ∃ n, N = n + 4 := ⟨N - 4, by unfold Big at hN; omega⟩
  have hv := isD_val hd
  rw [T81_eq]
  have e0 : (((bif (((([d, e] : List UInt8).length : Nat) : Int) == 0) then (some true) else (bif (decide (((([d, e] : List UInt8).length : Nat) : Int) > 9)) then (some true) else (bif (decide (((([d, e] : List UInt8).length : Nat) : Int) > 1)) then bif decide ((0 : Int) ≤ 0 ∧ 0 < (([d, e] : List UInt8).length : Int)) then (some (((([d, e].getD (Int.toNat 0) 0).toNat : Nat) : Int) == 48)) else none else (some false)))) : Option Bool)) = some ((d.toNat : Int) == 48) := rfl
  rw [e0, Option.bind_some, beq_false_of_ne hd', cond_false]
  have s0 := R81_step (n + 4) [d, e] 0 (by simp) (by omega) 0 (by omega) hd
  have s1 := R81_step (n + 4) [d, e] 1 (by simp) (by omega) (10 * 0 + ((d.toNat : Int) - 48)) (by omega) he
  have s2 := R81_end (n + 4) [d, e] (10 * (10 * 0 + ((d.toNat : Int) - 48)) + ((e.toNat : Int) - 48))
  rw [show (([d, e] : List UInt8).length : Int) = ((1 + 1 : Nat) : Int) from rfl] at s2
  rw [show ((0 : Nat) : Int) = 0 from rfl] at s0
  rw [loopR_succ, s0]
  simp only [Option.bind_some, Sum.elim_inl]
  rw [show (([d, e] : List UInt8).getD 0 0) = d from rfl, show ((0 + 1 : Nat) : Int) = ((1 : Nat) : Int) from rfl]
  rw [loopR_succ, s1]
  simp only [Option.bind_some, Sum.elim_inl]
  rw [show (([d, e] : List UInt8).getD 1 0) = e from rfl]
  rw [loopR_succ, s2]
  simp

theorem drop_getD (s : List UInt8) (k j : Nat) : s.getD (k + j) 0 = (s.drop k).getD j 0 := by
  simp [List.getD_eq_getElem?_getD, List.getElem?_drop]

/-- The digits at the start, at most two. -/
def dn : List UInt8 → Nat
  | d :: e :: _ => if isD d = true then (if isD e = true then 2 else 1) else 0
  | [d] => if isD d = true then 1 else 0
  | [] => 0

theorem digits_loop {N : Nat} (hN : Big N) (s out : List UInt8) (k : Nat) (hk : k < s.length) (hs : s.length ≤ 4096) :
    loopR (V := Int) (X := Int) (R19x16020 N s (out, (k : Int))) N (k : Int) = some ((k + dn (s.drop k) : Nat) : Int) := by
  have hl : s.length = k + (s.drop k).length := by rw [List.length_drop]; omega
  have st : ∀ j : Nat, j ≤ 2 → R19x16020 N s (out, (k : Int)) ((k + j : Nat) : Int) = some (if j < (s.drop k).length ∧ j < 2 ∧ isD ((s.drop k).getD j 0) = true then .inl ((k + (j + 1) : Nat) : Int) else .inr ((k + j : Nat) : Int)) := by
    intro j hj
    have w2 : IntKind.wrap .i64 ((k : Int) + 2) = (k : Int) + 2 := w64 (by omega)
    simp only [R19x16020, w2, Int.toNat_natCast, drop_getD, T80_d]
    by_cases h1 : j < (s.drop k).length
    · have h1' : k + j < s.length := by omega
      simp only [lt_range h1', in_range h1', cond_true]
      by_cases h2 : j < 2
      · have h2' : ((k + j : Nat) : Int) < (k : Int) + 2 := by omega
        simp only [h2', decide_true, cond_true, h1, h2, true_and, Option.bind_some]
        change (bif isD ((s.drop k).getD j 0) then _ else _) = _
        cases isD ((s.drop k).getD j 0) with
        | true => simp only [cond_true, if_true]; rw [w_succ (by omega)]; rfl
        | false => simp
      · have h2' : ¬ ((k + j : Nat) : Int) < (k : Int) + 2 := by omega
        simp only [h2', decide_false, cond_false, Option.bind_some, h2, false_and, and_false, if_false]
    · have h1' : ¬ ((k + j : Nat) : Int) < (s.length : Int) := by omega
      simp only [h1', h1, decide_false, cond_false, Option.bind_some, false_and, if_false]
  obtain ⟨n, hn⟩ : ∃ n, N = n + 3 := ⟨N - 3, by unfold Big at hN; omega⟩
  have s0 := st 0 (by omega); have s1 := st 1 (by omega); have s2 := st 2 (by omega)
  rw [Nat.add_zero] at s0
  generalize R19x16020 N s (out, (k : Int)) = rd at s0 s1 s2
  rw [hn]
  clear st
  revert s0 s1 s2 hl
  generalize s.drop k = l
  intro hl s0 s1 s2
  have i2 : ¬ (2 < l.length ∧ 2 < 2 ∧ isD (l.getD 2 0) = true) := by omega
  rw [if_neg i2] at s2
  match l with
  | [] => rw [loopR_succ, s0]; simp [dn]
  | [d] =>
    by_cases hd : isD d = true
    · have i0 : 0 < [d].length ∧ 0 < 2 ∧ isD ([d].getD 0 0) = true := ⟨by simp, by omega, hd⟩
      have i1 : ¬ (1 < [d].length ∧ 1 < 2 ∧ isD ([d].getD 1 0) = true) := by simp
      rw [if_pos i0] at s0; rw [if_neg i1] at s1
      rw [loopR_succ, s0]; simp only [Option.bind_some, Sum.elim_inl]
      rw [loopR_succ, s1]; simp [dn, hd]
    · have i0 : ¬ (0 < [d].length ∧ 0 < 2 ∧ isD ([d].getD 0 0) = true) := fun h => hd h.2.2
      rw [if_neg i0] at s0
      rw [loopR_succ, s0]; simp [dn, hd]
  | d :: e :: r =>
    by_cases hd : isD d = true
    · have i0 : 0 < (d :: e :: r).length ∧ 0 < 2 ∧ isD ((d :: e :: r).getD 0 0) = true := ⟨by simp, by omega, hd⟩
      rw [if_pos i0] at s0
      rw [loopR_succ, s0]; simp only [Option.bind_some, Sum.elim_inl]
      by_cases he : isD e = true
      · have i1 : 1 < (d :: e :: r).length ∧ 1 < 2 ∧ isD ((d :: e :: r).getD 1 0) = true := ⟨by simp, by omega, he⟩
        rw [if_pos i1] at s1
        rw [loopR_succ, s1]; simp only [Option.bind_some, Sum.elim_inl]
        rw [loopR_succ, s2]; simp [dn, hd, he]
      · have i1 : ¬ (1 < (d :: e :: r).length ∧ 1 < 2 ∧ isD ((d :: e :: r).getD 1 0) = true) := fun h => he h.2.2
        rw [if_neg i1] at s1
        rw [loopR_succ, s1]; simp [dn, hd, he]
    · have i0 : ¬ (0 < (d :: e :: r).length ∧ 0 < 2 ∧ isD ((d :: e :: r).getD 0 0) = true) := fun h => hd h.2.2
      rw [if_neg i0] at s0
      rw [loopR_succ, s0]; simp [dn, hd]

theorem sub_drop (s : List UInt8) (k j : Nat) : subA k (k + j) s = (s.drop k).take j := by
  unfold subA
  rw [List.drop_take, show k + j - k = j by omega]

theorem append_loop {N : Nat} (hN : Big N) (s out : List UInt8) (q n : Nat) (c : UInt8) (hq : q < s.length) (hs : s.length ≤ 4096) (hc : s.getD q 0 = c) (hn : n ≤ 99) (ho : out.length ≤ 64) :
    loopR (V := (List UInt8) × Int) (X := ((List UInt8))) (R19x512762 N s (q : Int) (n : Int)) N (out, 0) = some (out ++ List.replicate n c) := by
  have e1 : subA q (q + 1) s = [c] := by
    rw [sub_drop, List.drop_eq_getElem_cons hq]
    rw [getD_at hq] at hc
    rw [hc]
    rfl
  have e2 : decide ((0 : Int) ≤ ((q + 1 : Nat) : Int) ∧ ((q + 1 : Nat) : Int) ≤ (s.length : Int)) = true := by simp; omega
  have e3 : decide ((0 : Int) ≤ (q : Int) ∧ (q : Int) ≤ ((q + 1 : Nat) : Int)) = true := by simp; omega
  have key := loopR_count (rd := R19x512762 N s q n) n (fun k => (out ++ List.replicate k c, (k : Int))) (out ++ List.replicate n c) (fun k hk => by
    have e4 : decide ((k : Int) < (n : Int)) = true := by simpa using hk
    have e5 : decide ((out ++ List.replicate k c).length + [c].length ≤ 9223372036854775807) = true := by simp only [decide_eq_true_eq, List.length_append, List.length_replicate, List.length_cons, List.length_nil]; omega
    simp only [R19x512762, e4, cond_true, w_succ (show q < 9223372036854775807 by omega), e2, e3, Bool.and_self, Int.toNat_natCast, e1, e5, w_succ (show k < 9223372036854775807 by omega)]
    rw [List.append_assoc, List.replicate_succ']) (by
    have e4 : decide ((n : Int) < (n : Int)) = false := by simp
    simp only [R19x512762, e4, cond_false]) N 0 (Nat.zero_le _) (by unfold Big at hN; omega)
  have h0 : (out ++ List.replicate 0 c, ((0 : Nat) : Int)) = (out, 0) := by simp
  rw [h0] at key
  exact key

theorem R19_step {N : Nat} (hN : Big N) (s out : List UInt8) (k : Nat) (hk : k < s.length) (hs : s.length ≤ 4096) (ho : out.length ≤ 64) : R19x250 N s (out, (k : Int)) = some (stepS s out k) := by
  have hl : s.length = k + (s.drop k).length := by rw [List.length_drop]; omega
  have g0 : s.getD k 0 = (s.drop k).getD 0 0 := drop_getD s k 0
  have g1 : s.getD (k + 1) 0 = (s.drop k).getD 1 0 := drop_getD s k 1
  have g2 : s.getD (k + 2) 0 = (s.drop k).getD 2 0 := drop_getD s k 2
  have b1 := sub_drop s k 1
  have b2 := sub_drop s k 2
  unfold stepS
  simp only [R19x250, lt_range hk, in_range hk, cond_true, digits_loop hN s out k hk hs, Option.bind_some, Int.toNat_natCast, T79_l]
  have app := fun q n c hq hc hn => append_loop hN s out q n c hq hs hc hn ho
  generalize hL : s.drop k = l at *
  have ek : ((k : Int) == (k : Int)) = true := by simp
  match l, hL with
  | [], _ => simp at hl; omega
  | [d], hL =>
    have r0 : runT [d] = (0, 0, 0) := rfl
    by_cases hd : isD d = true
    · have e1 : dn [d] = 1 := by simp [dn, hd]
      have e2 : (((k + 1 : Nat) : Int) == (k : Int)) = false := by simp; omega
      have e3 : (((k + 1 : Nat) : Int) == (s.length : Int)) = true := by simp at hl; simp; omega
      simp only [e1, e2, e3, cond_false, cond_true, r0, if_true]
      cases ((((s.getD k 0).toNat : Nat) : Int) == 48) <;> rfl
    · have e1 : dn [d] = 0 := by simp [dn, hd]
      simp only [e1, Nat.add_zero, ek, cond_true, Option.bind_some, r0, if_true]
  | d :: e :: r, hL =>
    have gd : s.getD k 0 = d := g0
    have ge : s.getD (k + 1) 0 = e := g1
    simp only [List.length_cons] at hl
    by_cases hd : isD d = true
    · have hv := isD_val hd
      by_cases h48 : (d.toNat : Int) = 48
      · have r0 : runT (d :: e :: r) = (0, 0, 0) := by rw [runT_two, if_neg (fun h => h.2 h48)]
        have e4 : (((d.toNat : Nat) : Int) == 48) = true := by simpa using h48
        have e1 : 1 ≤ dn (d :: e :: r) := by simp only [dn, hd, if_true]; split <;> omega
        have e2 : (((k + dn (d :: e :: r) : Nat) : Int) == (k : Int)) = false := by simp; omega
        simp only [gd, e2, cond_false, e4, cond_true, Option.bind_some, r0, if_true]
      · have e4 : (((d.toNat : Nat) : Int) == 48) = false := by simpa using h48
        by_cases he : isD e = true
        · have hv2 := isD_val he
          have e1 : dn (d :: e :: r) = 2 := by simp [dn, hd, he]
          have e2 : (((k + 2 : Nat) : Int) == (k : Int)) = false := by simp; omega
          match r, hL with
          | [], _ =>
            have r0 : runT [d, e] = (0, 0, 0) := by simp [runT, hd, h48, he]
            have e3 : (((k + 2 : Nat) : Int) == (s.length : Int)) = true := by simp at hl; simp; omega
            simp only [gd, e1, e2, e3, e4, cond_false, cond_true, Option.bind_some, r0, if_true]
          | c :: r', hL =>
            simp only [List.length_cons] at hl
            have gc : s.getD (k + 2) 0 = c := g2
            have e3 : (((k + 2 : Nat) : Int) == (s.length : Int)) = false := by simp; omega
            have hk2 : k + 2 < s.length := by omega
            simp only [gd, gc, e1, e2, e3, e4, cond_false, in_range hk2, cond_true, Option.bind_some]
            change (bif !isL c then _ else _) = _
            by_cases hc : isL c = true
            · have r0 : runT (d :: e :: c :: r') = (((10 * (d.toNat - 48) + (e.toNat - 48) : Nat) : Int), (c.toNat : Int), 3) := by
                simp only [runT, hd, he, hc, h48, ne_eq, not_false_eq_true, and_self, if_true]
                congr 1
                omega
              have t81 := T81_two hN hd h48 he
              have ev : 10 * ((d.toNat : Int) - 48) + ((e.toNat : Int) - 48) = ((10 * (d.toNat - 48) + (e.toNat - 48) : Nat) : Int) := by omega
              rw [ev] at t81
              have hcnt : 10 * (d.toNat - 48) + (e.toNat - 48) ≤ 99 := by omega
              generalize hcn : 10 * (d.toNat - 48) + (e.toNat - 48) = cnt at *
              have b2' : subA k (k + 2) s = [d, e] := b2
              have i1 : decide ((0 : Int) ≤ ((k + 2 : Nat) : Int) ∧ ((k + 2 : Nat) : Int) ≤ (s.length : Int)) = true := by simp; omega
              have i2 : decide ((0 : Int) ≤ (k : Int) ∧ (k : Int) ≤ ((k + 2 : Nat) : Int)) = true := by simp; omega
              have hw : IntKind.wrap .i64 ((out.length : Int) + (cnt : Int)) = (out.length : Int) + (cnt : Int) := w64 (by omega)
              simp only [hc, Bool.not_true, cond_false, i1, i2, Bool.and_self, cond_true, b2', t81, Option.bind_some, hw, r0, show ¬ ((3 : Int) = 0) by omega, if_false]
              by_cases h5 : (out.length : Int) + (cnt : Int) > 64
              · simp [h5]
              · simp only [h5, decide_false, cond_false, if_false, app (k + 2) cnt c hk2 gc hcnt, Option.bind_some, w_succ (show k + 2 < 9223372036854775807 by omega), Int.toNat_natCast, UInt8.ofNat_toNat]
                rfl
            · have hc' : isL c = false := by simpa using hc
              have r0 : runT (d :: e :: c :: r') = (0, 0, 0) := by simp [runT, hd, h48, he, hc']
              simp only [hc', Bool.not_false, cond_true, r0, if_true]
        · have e1 : dn (d :: e :: r) = 1 := by simp [dn, hd, he]
          have e2 : (((k + 1 : Nat) : Int) == (k : Int)) = false := by simp; omega
          have e3 : (((k + 1 : Nat) : Int) == (s.length : Int)) = false := by simp; omega
          have hk2 : k + 1 < s.length := by omega
          simp only [gd, ge, e1, e2, e3, e4, cond_false, in_range hk2, cond_true, Option.bind_some]
          change (bif !isL e then _ else _) = _
          by_cases hc : isL e = true
          · have r0 : runT (d :: e :: r) = (((d.toNat - 48 : Nat) : Int), (e.toNat : Int), 2) := by
              simp only [runT, hd, he, hc, h48, ne_eq, not_false_eq_true, and_self, if_true, if_false, Bool.false_eq_true]
              congr 1
              omega
            have t81 := T81_one hN hd
            have ev : (d.toNat : Int) - 48 = ((d.toNat - 48 : Nat) : Int) := by omega
            rw [ev] at t81
            have hcnt : d.toNat - 48 ≤ 99 := by omega
            generalize hcn : d.toNat - 48 = cnt at *
            have b1' : subA k (k + 1) s = [d] := b1
            have i1 : decide ((0 : Int) ≤ ((k + 1 : Nat) : Int) ∧ ((k + 1 : Nat) : Int) ≤ (s.length : Int)) = true := by simp; omega
            have i2 : decide ((0 : Int) ≤ (k : Int) ∧ (k : Int) ≤ ((k + 1 : Nat) : Int)) = true := by simp; omega
            have hw : IntKind.wrap .i64 ((out.length : Int) + (cnt : Int)) = (out.length : Int) + (cnt : Int) := w64 (by omega)
            simp only [hc, Bool.not_true, cond_false, i1, i2, Bool.and_self, cond_true, b1', t81, Option.bind_some, hw, r0, show ¬ ((2 : Int) = 0) by omega, if_false]
            by_cases h5 : (out.length : Int) + (cnt : Int) > 64
            · simp [h5]
            · simp only [h5, decide_false, cond_false, if_false, app (k + 1) cnt e hk2 ge hcnt, Option.bind_some, w_succ (show k + 1 < 9223372036854775807 by omega), Int.toNat_natCast, UInt8.ofNat_toNat]
              rfl
          · have hc' : isL e = false := by simpa using hc
            have r0 : runT (d :: e :: r) = (0, 0, 0) := by simp [runT, hd, h48, he, hc']
            simp only [hc', Bool.not_false, cond_true, r0, if_true]
    · have e1 : dn (d :: e :: r) = 0 := by simp [dn, hd]
      have r0 : runT (d :: e :: r) = (0, 0, 0) := by rw [runT_two, if_neg (fun h => hd h.1)]
      simp only [e1, Nat.add_zero, ek, cond_true, Option.bind_some, r0, if_true]

theorem parse_loops {N : Nat} (hN : Big N) (s : List UInt8) (hs : s.length ≤ 4096) : ∀ (fuel k : Nat) (out : List UInt8), s.length < fuel + k → k ≤ s.length → out.length ≤ 64 →
    ∃ o, loopR (R17x122 N s) fuel (out, (k : Int)) = some o ∧ loopR (R19x250 N s) fuel (out, (k : Int)) = some o := by
  intro fuel
  induction fuel with
  | zero => intro k out h1 h2; omega
  | succ fuel ih =>
    intro k out h1 h2 ho
    rw [loopR_succ, loopR_succ]
    by_cases hk : k < s.length
    · rw [R17_step hN s out k hk hs ho, R19_step hN s out k hk hs ho]
      simp only [Option.bind_some]
      unfold stepS
      rcases runT_cases (s.drop k) with h | ⟨cnt, c, sz, h, q1, q2, q3, q4⟩
      · rw [h, if_pos rfl]
        exact ⟨_, rfl, rfl⟩
      · rw [h]
        rw [List.length_drop] at q4
        rw [if_neg (by simp only; omega)]
        by_cases h5 : (out.length : Int) + (cnt : Int) > 64
        · rw [if_pos h5]
          exact ⟨_, rfl, rfl⟩
        · rw [if_neg h5]
          simp only [Sum.elim_inl]
          have e : (k : Int) + (sz : Int) = ((k + sz : Nat) : Int) := by simp
          rw [e]
          exact ih (k + sz) _ (by omega) (by omega) (by simp only [List.length_append, List.length_replicate, Int.toNat_natCast]; omega)
    · have : k = s.length := by omega
      subst this
      have e1 : R17x122 N s (out, (s.length : Int)) = some (.inr (.inr out)) := by simp only [R17x122, ge_range, cond_false]
      have e2 : R19x250 N s (out, (s.length : Int)) = some (.inr (.inr out)) := by simp only [R19x250, ge_range, cond_false]
      rw [e1, e2]
      exact ⟨_, rfl, rfl⟩

theorem parse_same {N : Nat} (hN : Big N) (s : List UInt8) : ∃ r, T17 N s = some r ∧ T19 N s = some r := by
  rw [T17_eq, T19_eq]
  simp only [T76_when, Option.bind_some, allFit, fi23, di23, List.map_cons, List.map_nil, Bool.and_self, cond_true, T75_first hN _ (show [_, _].length ≤ 9223372036854775806 by simp), firstNZ]
  by_cases h0 : s = []
  · exact ⟨([], 0, 12), by simp [h0], by simp [h0]⟩
  · have h0' : (s == ([] : List UInt8)) = false := by simpa using h0
    by_cases h1 : (s.length : Int) > 4096
    · exact ⟨([], 0, 26), by simp [h0', h1], by simp [h0', h1]⟩
    · simp only [h0', h1, decide_false, cond_false, Bool.false_eq_true, if_false, if_true, bne_self_eq_false]
      obtain ⟨o, k1, k2⟩ := parse_loops hN s (by omega) N 0 [] (by unfold Big at hN; omega) (Nat.zero_le _) (by simp)
      have k1' : loopR (V := (List UInt8) × Int) (X := ((List UInt8) × Int × Int) ⊕ ((List UInt8))) (R17x122 N s) N (([] : List UInt8), 0) = some o := k1
      have k2' : loopR (V := (List UInt8) × Int) (X := ((List UInt8) × Int × Int) ⊕ ((List UInt8))) (R19x250 N s) N (([] : List UInt8), 0) = some o := k2
      rw [k1', k2']
      rcases o with o | o
      · exact ⟨_, rfl, rfl⟩
      · exact ⟨_, rfl, rfl⟩

theorem TaperWords_true {N : Nat} (hN : Big N) (w s : List UInt8) : T3 N (w, s) = some true := by
  rw [T3_eq]
  generalize hg : ((T15 N ()).bind fun y1 => (bif (!y1) then (some true) else (bif (decide ((((w).length : Nat) : Int) > 140)) then (some true) else (some (decide ((((s).length : Nat) : Int) > 140))))) : Option Bool) = g
  have hgs : ∃ c, g = some c := by
    rw [← hg]
    simp only [T15, Option.bind_some, Bool.not_true, cond_false]
    generalize decide ((w.length : Int) > 140) = b1
    cases b1 <;> exact ⟨_, rfl⟩
  obtain ⟨c, rfl⟩ := hgs
  cases c with
  | true => rfl
  | false =>
    obtain ⟨r, r1, r2⟩ := parse_same hN s
    simp only [Option.bind_some, cond_false, T16_print hN, r1, r2, T18_word hN, T21_word hN, beq_self_eq_true, cond_true]
    have q1 : ((bif wordErr w == 0 then (T20 N w).bind fun y8 => some y8 else some [] : Option (List UInt8))) = some (if wordErr w = 0 then refP w 0 else []) := by
      by_cases h : wordErr w = 0
      · rw [T20_ref hN w (wordErr_ok h).2.1]
        simp [h]
      · simp [h, Bool.cond_eq_ite]
    simp only [q1, Option.bind_some, T22_text, cond_true]
end Go.Proofs.YtbfappllfpngdaaGreatDoor
