/- Plain laws: the law of sums of bills. -/
import Derived.Test.YtpngggdfbbdfaaaDoorHangPq
set_option linter.all false
namespace Go.Proofs.YtpngggdfbbdfaaaDoor
open Go Go.Am
set_option maxRecDepth 100000

section sums
variable {N : Nat} (hN : Big N)
include hN

theorem rev119 (l : List Ln) (hl : l.length ≤ 1000000) : loopR (V := (List (Int × Int × Int × (List UInt8))) × Int) (X := ((List (Int × Int × Int × (List UInt8))))) (R13x1018 N l) N ([], 0) = some l.reverse := by
  have key := loopR_foldl (rd := R13x1018 N l) l (fun (s : List Ln) k => (s, (k : Int))) (fun s x => x :: s) (fun s => s) (fun s k => s.length = k)
    (fun s k hk hs => by
      subst hs
      refine ⟨?_, by simp⟩
      unfold R13x1018
      have e0 : [(AV.agg [(AV.int .i64 l[s.length].1), (AV.int .i64 l[s.length].2.1), (AV.int .i64 l[s.length].2.2.1), (AV.str l[s.length].2.2.2)])] = List.map n119 [l[s.length]] := rfl
      have e1 : [(AV.agg [(AV.int .i64 l[s.length].1), (AV.int .i64 l[s.length].2.1), (AV.int .i64 l[s.length].2.2.1), (AV.str l[s.length].2.2.2)])] ++ List.map n119 s = List.map n119 (l[s.length] :: s) := rfl
      have e2 : decide ((1 + s.length) * 40 ≤ 140737488355328) = true := by simp; omega
      simp only [List.length_map, Int.toNat_natCast, lt_range hk, in_range hk, nthD_map n119 l s.length hk, fn119, dn119, Bool.and_self, cond_true, w_succ (by omega : s.length < 9223372036854775807), e1, e2]
      simp only [e0, fa119, md119, Bool.and_true, cond_true, Option.bind_some]
      cases s with
      | nil => rfl
      | cons x s => simp only [List.map_cons, List.isEmpty_cons, cond_false, Option.bind_some])
    (fun s hs => by
      unfold R13x1018
      simp only [List.length_map, ge_range, cond_false, fa119, md119, Bool.and_true, cond_true, Option.bind_some]) N [] 0 (Nat.zero_le _) (by unfold Big at hN; omega) rfl
  have e : ∀ (l a : List Ln), l.foldl (fun s x => x :: s) a = l.reverse ++ a := by
    intro l
    induction l with
    | nil => intro a; rfl
    | cons x l ih => intro a; rw [List.foldl_cons, ih]; simp
  rw [List.drop_zero, e, List.append_nil] at key
  exact key

theorem rev121 (l : List Tw) (hl : l.length ≤ 1000000) : loopR (V := (List ((List UInt8) × Int × Int)) × Int) (X := ((List ((List UInt8) × Int × Int)))) (R13x4090 N l) N ([], 0) = some l.reverse := by
  have key := loopR_foldl (rd := R13x4090 N l) l (fun (s : List Tw) k => (s, (k : Int))) (fun s x => x :: s) (fun s => s) (fun s k => s.length = k)
    (fun s k hk hs => by
      subst hs
      refine ⟨?_, by simp⟩
      unfold R13x4090
      have e0 : [(AV.agg [(AV.str l[s.length].1), (AV.int .i64 l[s.length].2.1), (AV.int .i64 l[s.length].2.2)])] = List.map n121 [l[s.length]] := rfl
      have e1 : [(AV.agg [(AV.str l[s.length].1), (AV.int .i64 l[s.length].2.1), (AV.int .i64 l[s.length].2.2)])] ++ List.map n121 s = List.map n121 (l[s.length] :: s) := rfl
      have e2 : decide ((1 + s.length) * 32 ≤ 140737488355328) = true := by simp; omega
      simp only [List.length_map, Int.toNat_natCast, lt_range hk, in_range hk, nthD_map n121 l s.length hk, fn121, dn121, Bool.and_self, cond_true, w_succ (by omega : s.length < 9223372036854775807), e1, e2]
      simp only [e0, fa121, md121, Bool.and_true, cond_true, Option.bind_some]
      cases s with
      | nil => rfl
      | cons x s => simp only [List.map_cons, List.isEmpty_cons, cond_false, Option.bind_some])
    (fun s hs => by
      unfold R13x4090
      simp only [List.length_map, ge_range, cond_false, fa121, md121, Bool.and_true, cond_true, Option.bind_some]) N [] 0 (Nat.zero_le _) (by unfold Big at hN; omega) rfl
  have e : ∀ (l a : List Tw), l.foldl (fun s x => x :: s) a = l.reverse ++ a := by
    intro l
    induction l with
    | nil => intro a; rfl
    | cons x l ih => intro a; rw [List.foldl_cons, ih]; simp
  rw [List.drop_zero, e, List.append_nil] at key
  exact key

variable {table : List Tw} {l : List Ln} {a : Int} {a2 : Int × Int} (hA : Int.tmod (IntKind.wrap .i64 a2.1) 101 = a) (ha : 0 ≤ a ∧ a ≤ 100) (ht : GoodT table) (hl : l.length ≤ 8) (hy : ∀ y ∈ l, OkL y)
include hA ha ht hl hy

theorem sum_inner (i : Nat) (hi : i < table.length) : loopR (V := Int × Int) (X := Bool ⊕ Int) (R13x536865178 N table l a2 (i : Int)) N (0, 0) = some (.inr (lenOf a l table[i].1)) := by
  have key := loopR_foldl (rd := R13x536865178 N table l a2 (i : Int)) l (fun (n : Int) k => (n, (k : Int))) (addL a table[i].1) (fun n => .inr n) (fun _ _ => True)
    (fun n k hk _ => by
      refine ⟨?_, trivial⟩
      have ho := hy l[k] (List.getElem_mem hk)
      obtain ⟨r, v1, v2⟩ := raw_val ha ho
      have e55 : T55 N (l[k].1, l[k].2.1, l[k].2.2.1, a) = some (rawL a l[k], 0) := by
        rw [T55_val hN]
        unfold lineLen
        have : firstNZ [lineErr l[k].1 l[k].2.1 l[k].2.2.1, rng a 0 100] = 0 := firstNZ2z.2 ⟨ho, rng_zero.2 ha⟩
        rw [if_pos this]
        rfl
      have z1 : decide (rawL a l[k] < 0) = false := by simp; omega
      have z2 : decide (rawL a l[k] > 30000000) = false := by simp; omega
      unfold R13x536865178 addL
      simp only [List.length_map, Int.toNat_natCast, lt_range hk, in_range hk, nthD_map n119 l k hk, nthD_map n121 table i hi, fn119, dn119, dn121, Bool.and_self, cond_true, w_succ (by omega : k < 9223372036854775807), hA, e55, Option.bind_some, bne_self_eq_false, cond_false, z1, z2]
      cases l[k].2.2.2 == table[i].1 <;> rfl)
    (fun n _ => by
      unfold R13x536865178
      simp only [List.length_map, ge_range, cond_false]) N 0 0 (Nat.zero_le _) (by unfold Big at hN; omega) trivial
  exact key

theorem sum_outer (hb : table.any (fun t => big3 (smOf a l t)) = false) (k : Nat) (hk : k ≤ l.length) :
    loopR (V := Int) (X := Bool ⊕ Unit) (R13x524282 N table l a2 (table.map (smOf a l), 0) (table.map (smOf a l.reverse), 0) (table.reverse.map (smOf a l), 0) (table.map (smOf a (l.take k)), 0) (table.map (smOf a (l.drop k)), 0)) N 0 = some (.inr ()) := by
  obtain ⟨g1, g2, g3⟩ := ht
  have key := loopR_foldl (rd := R13x524282 N table l a2 (table.map (smOf a l), 0) (table.map (smOf a l.reverse), 0) (table.reverse.map (smOf a l), 0) (table.map (smOf a (l.take k)), 0) (table.map (smOf a (l.drop k)), 0)) table (fun (_ : Unit) i => (i : Int)) (fun _ _ => ()) (fun _ => .inr ()) (fun _ _ => True)
    (fun _ i hi _ => by
      refine ⟨?_, trivial⟩
      have ok := g2 table[i] (List.getElem_mem hi)
      have nb : big3 (smOf a l table[i]) = false := by
        have := List.any_eq_false.1 hb table[i] (List.getElem_mem hi)
        simpa using this
      have L := lenOf_sum ha table[i].1 hy (by omega)
      have Lr := lenOf_sum ha table[i].1 (l := l.reverse) (fun y h => hy y (by simpa using h)) (by rw [List.length_reverse]; omega)
      rw [sumV_rev, ← L] at Lr
      have La := lenOf_sum ha table[i].1 (l := l.take k) (fun y h => hy y (List.mem_of_mem_take h)) (by rw [List.length_take]; omega)
      have Lb := lenOf_sum ha table[i].1 (l := l.drop k) (fun y h => hy y (List.mem_of_mem_drop h)) (by rw [List.length_drop]; omega)
      have Lab : lenOf a (l.take k) table[i].1 + lenOf a (l.drop k) table[i].1 = lenOf a l table[i].1 := by
        rw [La, Lb, L, ← sumV_append, List.take_append_drop]
      have Lin := sumV_in ha table[i].1 hy
      rw [← L] at Lin
      have hi1 : i < (table.map (smOf a l)).length := by rw [List.length_map]; exact hi
      have hi2 : i < (table.map (smOf a l.reverse)).length := by rw [List.length_map]; exact hi
      have hi3 : table.length - 1 - i < (table.reverse.map (smOf a l)).length := by rw [List.length_map, List.length_reverse]; omega
      have hi4 : i < (table.map (smOf a (l.take k))).length := by rw [List.length_map]; exact hi
      have hi5 : i < (table.map (smOf a (l.drop k))).length := by rw [List.length_map]; exact hi
      have w0 : IntKind.wrap .i64 (((table.length : Nat) : Int) - 1) = (((table.length - 1 : Nat) : Nat) : Int) := by rw [w64 (by omega)]; omega
      have w1 : IntKind.wrap .i64 ((((table.length - 1 : Nat) : Nat) : Int) - (i : Int)) = ((table.length - 1 - i : Nat) : Int) := by rw [w64 (by omega)]; omega
      have r3 : table.length - 1 - i < table.length := by omega
      have hrev : table.reverse[table.length - 1 - i]'(by rw [List.length_reverse]; exact r3) = table[i] := by
        rw [List.getElem_reverse]
        congr 1
        omega
      have e56 : T56 N (lenOf a l table[i].1, table[i].2.1) = some ((smOf a l table[i]).2.1, 0) := by
        rw [T56_val hN]
        unfold weights
        have hbig := nb
        unfold big3 smOf sumsOf at hbig
        simp only [Bool.or_eq_false_iff, decide_eq_false_iff_not] at hbig
        have we : weightErr (lenOf a l table[i].1) table[i].2.1 = 0 := by
          unfold weightErr
          exact firstNZ2z.2 ⟨rng_zero.2 (by omega), ok.2.1⟩
        rw [if_pos we]
        unfold weightOf
        rw [if_neg hbig.2.1]
        rfl
      have hsm : smOf a l.reverse table[i] = smOf a l table[i] := by unfold smOf; rw [Lr]
      have wab : IntKind.wrap .i64 (lenOf a (l.take k) table[i].1 + lenOf a (l.drop k) table[i].1) = lenOf a l table[i].1 := by rw [Lab, w64 (by omega)]
      have f1 : ∀ x : List Ln, (smOf a x table[i]).1 = lenOf a x table[i].1 := fun _ => rfl
      have f3 : (smOf a l table[i]).2.2 = IntKind.wrap .i64 (lenOf a l table[i].1 * table[i].2.2) := rfl
      unfold R13x524282
      simp only [List.length_map, List.length_reverse, Int.toNat_natCast, lt_range hi, in_range hi, nthD_map n121 table i hi, fn121, dn121, Bool.and_self, cond_true, w_succ (by omega : i < 9223372036854775807), sum_inner hN hA ha ⟨g1, g2, g3⟩ hl hy i hi, Option.bind_some, Sum.elim_inr, e56, bne_self_eq_false, cond_false, nthD_map n106 _ i hi1, nthD_map n106 _ i hi2, nthD_map n106 _ i hi4, nthD_map n106 _ i hi5, fn106, dn106, List.getElem_map, f1, f3, hsm, beq_self_eq_true, Bool.not_true, w0, w1, in_range r3, nthD_map n106 _ _ hi3, hrev, wab])
    (fun _ _ => by
      unfold R13x524282
      simp only [List.length_map, ge_range, cond_false]) N () 0 (Nat.zero_le _) (by unfold Big at hN; omega) trivial
  exact key
end sums

theorem T13_true {N : Nat} (hN : Big N) (table : List Tw) (ht0 : table.length ≤ 9223372036854775807) (l : List Ln) (hl0 : l.length ≤ 9223372036854775807) (x : Int × Int) (hx1 : 0 ≤ x.1 ∧ x.1 ≤ 255) (hx2 : 0 ≤ x.2 ∧ x.2 ≤ 255) : T13 N (table, l, x) = some true := by
  have h22 : T22 N () = some true := rfl
  rw [T13_eq]
  simp only [fa121, md121, fa119, md119, Bool.and_true, Bool.and_self, cond_true, Option.bind_some, T49_short hN table ht0, T60_short hN l hl0, h22, T52_val hN table ht0, T63_val hN table l ht0 hl0, List.length_map]
  cases hs1 : shortT table with
  | false => rfl
  | true =>
  cases hs2 : shortL l with
  | false => rfl
  | true =>
  by_cases hl8 : l.length > 8
  · have : decide (((l.length : Nat) : Int) > 8) = true := by simp; omega
    simp only [this, Bool.not_true, cond_false, cond_true, Option.bind_some]
  have z8 : decide (((l.length : Nat) : Int) > 8) = false := by simp; omega
  by_cases h1 : ¬ cTw table = 0
  · simp only [z8, Bool.not_true, cond_false, bne0 h1, cond_true, Option.bind_some]
  have h1 := Decidable.not_not.1 h1
  by_cases h2 : ¬ cLn table l = 0
  · simp only [z8, h1, Bool.not_true, cond_false, bne_self_eq_false, bne0 h2, cond_true, Option.bind_some]
  have h2 := Decidable.not_not.1 h2
  have hg := cTw_good.1 h1
  have hlines := (cLn_zero (by omega)).1 h2
  have hy : ∀ y ∈ l, OkL y := fun y h => (hlines y h).1
  have ht1 : table.length ≤ 1000000 := by have := hg.1; omega
  have hl1 : l.length ≤ 1000000 := by omega
  obtain ⟨a, hA, ha⟩ : ∃ a, Int.tmod (IntKind.wrap .i64 x.1) 101 = a ∧ 0 ≤ a ∧ a ≤ 100 := by
    refine ⟨x.1 % 101, ?_, by omega, by omega⟩
    rw [w64 (by omega), Int.tmod_eq_emod_of_nonneg hx1.1]
  have w1 : IntKind.wrap .i64 (((l.length : Nat) : Int) + 1) = ((l.length + 1 : Nat) : Int) := w_succ (by omega)
  obtain ⟨k, hK, hk⟩ : ∃ k : Nat, Int.tmod (IntKind.wrap .i64 x.2) ((l.length + 1 : Nat) : Int) = (k : Int) ∧ k ≤ l.length := by
    refine ⟨(x.2 % ((l.length + 1 : Nat) : Int)).toNat, ?_, ?_⟩
    · rw [w64 (by omega), Int.tmod_eq_emod_of_nonneg hx2.1]
      have := Int.emod_nonneg x.2 (by omega : ((l.length + 1 : Nat) : Int) ≠ 0)
      omega
    · have := Int.emod_lt_of_pos x.2 (by omega : (0 : Int) < ((l.length + 1 : Nat) : Int))
      have := Int.emod_nonneg x.2 (by omega : ((l.length + 1 : Nat) : Int) ≠ 0)
      omega
  have zl : decide (((l.length + 1 : Nat) : Int) = 0) = false := decide_eq_false (by omega)
  have zk : decide ((0 : Int) ≤ (k : Int) ∧ (k : Int) ≤ ((l.length : Nat) : Int)) = true := decide_eq_true (by omega)
  -- the errors of all bills
  have rA := rng_zero.2 ha
  have be : ∀ (t : List Tw) (l' : List Ln), GoodT t → l'.length ≤ 64 → (∀ y ∈ l', y ∈ l) → (∀ u ∈ table, u ∈ t) → billErr t l' a = 0 := by
    intro t l' hgt hlen hsub htab
    unfold billErr
    refine firstNZ3.2 ⟨cTw_good.2 hgt, (cLn_zero hlen).2 fun y h => ?_, rA⟩
    obtain ⟨q1, u, hu, q2⟩ := hlines y (hsub y h)
    exact ⟨q1, u, htab u hu, q2⟩
  have b1 := be table l hg (by omega) (fun _ h => h) (fun _ h => h)
  have b2 := be table l.reverse hg (by rw [List.length_reverse]; omega) (fun y h => by simpa using h) (fun _ h => h)
  have b3 := be table.reverse l (good_rev hg) (by omega) (fun _ h => h) (fun u h => by simpa using h)
  have b4 := be table (l.take k) hg (by rw [List.length_take]; omega) (fun y h => List.mem_of_mem_take h) (fun _ h => h)
  have b5 := be table (l.drop k) hg (by rw [List.length_drop]; omega) (fun y h => List.mem_of_mem_drop h) (fun _ h => h)
  have subB : subA k l.length (List.map n119 l) = List.map n119 (l.drop k) := by
    unfold subA
    rw [List.take_of_length_le (by rw [List.length_map]; exact Nat.le_refl _), List.map_drop]
  have tl : (l.take k).length ≤ 1000000 := by rw [List.length_take]; omega
  have dl : (l.drop k).length ≤ 1000000 := by rw [List.length_drop]; omega
  have rl : l.reverse.length ≤ 1000000 := by rw [List.length_reverse]; omega
  have rt : table.reverse.length ≤ 1000000 := by rw [List.length_reverse]; omega
  simp only [z8, h1, h2, Bool.not_true, cond_false, bne_self_eq_false, Option.bind_some, w1, zl, Bool.not_false, cond_true, T51_id hN table ht1, T62_id hN l hl1, fa132, md132, fa133, md133, Bool.and_self, hA, T61_val hN table l a ht1 hl1, b1, if_true]
  cases hb : table.any (fun t => big3 (smOf a l t)) with
  | true =>
    have : billOf a table l = ([], 4) := by unfold billOf; rw [hb]; rfl
    rw [this]
    rfl
  | false =>
    have hnb : ∀ t ∈ table, big3 (smOf a l t) = false := fun t h => by
      have := List.any_eq_false.1 hb t h
      simpa using this
    have L := fun (name : List UInt8) => lenOf_sum ha name hy (by omega)
    have mono : ∀ l' : List Ln, l'.length ≤ 64 → (∀ y ∈ l', y ∈ l) → (∀ name, sumV a name l' ≤ sumV a name l) → ∀ t ∈ table, big3 (smOf a l' t) = false := by
      intro l' hlen hsub hle t h
      have hy' : ∀ y ∈ l', OkL y := fun y hh => hy y (hsub y hh)
      have e1 := lenOf_sum ha t.1 hy' hlen
      have e2 := sumV_in ha t.1 hy'
      have e3 := sumV_in ha t.1 hy
      have := hnb t h
      unfold smOf at this ⊢
      rw [e1]
      rw [L t.1] at this
      exact big_mono (hg.2.1 t h) e2.1 (hle t.1) (by omega) this
    have noany : ∀ (t : List Tw) (l' : List Ln), (∀ u ∈ t, big3 (smOf a l' u) = false) → billOf a t l' = (t.map (smOf a l'), 0) := by
      intro t l' h
      unfold billOf
      have : t.any (fun t => big3 (smOf a l' t)) = false := List.any_eq_false.2 fun u hu => by rw [h u hu]; simp
      rw [this]
      rfl
    have o1 := noany table l hnb
    have o2 := noany table l.reverse (mono l.reverse (by rw [List.length_reverse]; omega) (fun y h => by simpa using h) (fun name => by rw [sumV_rev]; omega))
    have o3 := noany table.reverse l (fun u h => hnb u (by simpa using h))
    have split : ∀ name, sumV a name l = sumV a name (l.take k) + sumV a name (l.drop k) := fun name => by rw [← sumV_append, List.take_append_drop]
    have pa := fun name => (sumV_in ha name (l := l.take k) fun y h => hy y (List.mem_of_mem_take h)).1
    have pb := fun name => (sumV_in ha name (l := l.drop k) fun y h => hy y (List.mem_of_mem_drop h)).1
    have o4 := noany table (l.take k) (mono (l.take k) (by rw [List.length_take]; omega) (fun y h => List.mem_of_mem_take h) (fun name => by have := split name; have := pb name; omega))
    have o5 := noany table (l.drop k) (mono (l.drop k) (by rw [List.length_drop]; omega) (fun y h => List.mem_of_mem_drop h) (fun name => by have := split name; have := pa name; omega))
    have w00 : IntKind.wrap .i64 (0 + 0) = 0 := rfl
    have sub119 : subA 0 k (List.map n119 l) = List.map n119 (l.take k) := by simp [subA, List.map_take]
    simp only [o1, bne_self_eq_false, cond_false, allFit_nil, List.map_nil, cond_true, Option.bind_some, rev119 hN l hl1, rev121 hN table ht1, fa119, md119, fa121, md121, T62_id hN l.reverse rl, T51_id hN table.reverse rt, fa132, md132, fa133, md133, Bool.and_self, T61_val hN table l.reverse a ht1 rl, T61_val hN table.reverse l a rt hl1, b2, b3, if_true, o2, o3, hK, zk, Int.toNat_natCast, sub119, subB, T62_id hN (l.take k) tl, T62_id hN (l.drop k) dl, T61_val hN table (l.take k) a ht1 tl, T61_val hN table (l.drop k) a ht1 dl, b4, b5, o4, o5, w00, List.length_map, List.length_reverse, sum_outer hN hA ha hg (by omega) hy hb k hk, Sum.elim_inr, h22]
end Go.Proofs.YtpngggdfbbdfaaaDoor
