/- Plain laws: the reference's bill; the law of bills. -/
import Derived.Test.YtpngggdfbbdfaaaDoorHangPn
set_option linter.all false
namespace Go.Proofs.YtpngggdfbbdfaaaDoor
open Go Go.Am
set_option maxRecDepth 100000

section bill
variable {N : Nat} (hN : Big N)
include hN

theorem T64_inner (table : List Tw) (l : List Ln) (a : Int) (hl : l.length ≤ 1000000) (i : Nat) (hi : i < table.length) (out x0 : List (Int × Int × Int)) :
    loopR (V := (List (Int × Int × Int)) × Int × Int × Int × Int) (X := ((List (Int × Int × Int)) × Int × Int × Int)) (R64x14922 N table l a (x0, (i : Int))) N (out, 0, 0, 0, 0) = some (out, lenOf a l table[i].1, 0, 0) := by
  have key := loopR_foldl (rd := R64x14922 N table l a (x0, (i : Int))) l (fun (n : Int) k => (out, (k : Int), n, 0, 0)) (addL a table[i].1) (fun n => (out, n, 0, 0)) (fun _ _ => True)
    (fun n k hk _ => by
      refine ⟨?_, trivial⟩
      unfold R64x14922 addL rawL
      simp only [List.length_map, Int.toNat_natCast, lt_range hk, in_range hk, in_range hi, nthD_map n119 l k hk, nthD_map n121 table i hi, fn119, dn119, fn121, dn121, Bool.and_self, cond_true, w_succ (by omega : k < 9223372036854775807), T58_eq, Option.bind_some, beq_self_eq_true, Bool.and_true, fa107, md107, decide_true]
      cases l[k].2.2.2 == table[i].1 <;> simp)
    (fun n _ => by
      unfold R64x14922
      simp only [List.length_map, ge_range, cond_false, fa107, md107, Bool.and_true, cond_true, Option.bind_some, decide_true]) N 0 0 (Nat.zero_le _) (by unfold Big at hN; omega) trivial
  exact key

theorem T64_val (table : List Tw) (l : List Ln) (a : Int) (ht : table.length ≤ 1000000) (hl : l.length ≤ 1000000) : T64 N (table, l, a) = some (billOf a table l) := by
  rw [T64_eq]
  have key := loopR_fold (rd := R64x58 N table l a) table (fun (out : List (Int × Int × Int)) k => (out, (k : Int))) (fun out t => if big3 (smOf a l t) then (.inr () : List (Int × Int × Int) ⊕ Unit) else .inl (out ++ [smOf a l t])) (fun out => .inr out) (fun _ => .inl ([], 4)) (fun out k => out.length = k)
    (fun out k hk hP => by
      subst hP
      refine ⟨?_, fun s' h' => ?_⟩
      · unfold R64x58
        have e1 : (List.map n107 out ++ [(AV.agg [(AV.int .i64 (lenOf a l table[out.length].1)), (AV.int .i64 (IntKind.wrap .i64 (Int.tdiv (IntKind.wrap .i64 (lenOf a l table[out.length].1 * table[out.length].2.1)) 1000))), (AV.int .i64 (IntKind.wrap .i64 (lenOf a l table[out.length].1 * table[out.length].2.2)))])]) = List.map n107 (out ++ [smOf a l table[out.length]]) := by rw [List.map_append]; rfl
        have e2 : decide ((out.length + 1) * 24 ≤ 140737488355328) = true := by simp; omega
        simp only [List.length_map, Int.toNat_natCast, lt_range hk, in_range hk, nthD_map n121 table out.length hk, fn121, dn121, Bool.and_self, cond_true, fa107, md107, Bool.and_true, decide_true, Option.bind_some, T64_inner hN table l a hl out.length hk out out, w_succ (by omega : out.length < 9223372036854775807), allFit_nil, List.map_nil]
        rw [show big3 (smOf a l table[out.length]) = (decide (lenOf a l table[out.length].1 > 999999999) || (decide (IntKind.wrap .i64 (Int.tdiv (IntKind.wrap .i64 (lenOf a l table[out.length].1 * table[out.length].2.1)) 1000) > 999999999) || decide (IntKind.wrap .i64 (lenOf a l table[out.length].1 * table[out.length].2.2) > 999999999))) from rfl]
        cases decide (lenOf a l table[out.length].1 > 999999999) with
        | true => simp
        | false =>
          cases decide (IntKind.wrap .i64 (Int.tdiv (IntKind.wrap .i64 (lenOf a l table[out.length].1 * table[out.length].2.1)) 1000) > 999999999) with
          | true => simp
          | false =>
            cases decide (IntKind.wrap .i64 (lenOf a l table[out.length].1 * table[out.length].2.2) > 999999999) with
            | true => simp
            | false => simp only [cond_false, cond_true, Option.bind_some, decide_true, Bool.and_true, Bool.and_self, Bool.or_self, Bool.false_eq_true, if_false, e1, e2, fa107, md107, Sum.map_inl, List.length_append, List.length_cons, List.length_nil, Nat.zero_add]
      · split at h'
        · cases h'
        · cases h'; simp)
    (fun out hP => by
      unfold R64x58
      simp only [List.length_map, ge_range, cond_false, fa107, md107, Bool.and_true, cond_true, Option.bind_some, decide_true]) N [] 0 (Nat.zero_le _) (by unfold Big at hN; omega) rfl
  have key' : loopR (V := (List (Int × Int × Int)) × Int) (X := ((List (Int × Int × Int)) × Int) ⊕ ((List (Int × Int × Int)))) (R64x58 N table l a) N ([], 0) = _ := key
  simp only [allFit_nil, List.map_nil, Bool.and_true, cond_true, Option.bind_some, List.length_nil, decide_true, key', List.drop_zero, any_fold (smOf a l)]
  unfold billOf
  cases table.any (fun t => big3 (smOf a l t)) with
  | true => rfl
  | false => simp only [Bool.false_eq_true, if_false, Sum.elim_inr, Sum.elim_inl, List.nil_append, fa107, md107, cond_true]

theorem copy_loop (r : List (Int × Int × Int)) (e : Int) (hr : r.length ≤ 1000000) : loopR (V := (List (Int × Int × Int)) × Int) (X := ((List (Int × Int × Int)))) (R9x4090 N (r, e)) N ([], 0) = some r := by
  have key := loopR_foldl (rd := R9x4090 N (r, e)) r (fun (s : List (Int × Int × Int)) k => (s, (k : Int))) (fun s x => s ++ [x]) (fun s => s) (fun s k => s.length = k)
    (fun s k hk hs => by
      subst hs
      refine ⟨?_, by simp⟩
      unfold R9x4090
      have e1 : (List.map n107 s ++ [(AV.agg [(AV.int .i64 r[s.length].1), (AV.int .i64 r[s.length].2.1), (AV.int .i64 r[s.length].2.2)])]) = List.map n107 (s ++ [r[s.length]]) := by rw [List.map_append]; rfl
      have e2 : decide ((s.length + 1) * 24 ≤ 140737488355328) = true := by simp; omega
      simp only [List.length_map, Int.toNat_natCast, lt_range hk, in_range hk, nthD_map n106 r s.length hk, fn106, dn106, Bool.and_self, cond_true, w_succ (by omega : s.length < 9223372036854775807), decide_true, e1, e2, fa107, md107, Bool.and_true, Option.bind_some, List.length_append, List.length_cons, List.length_nil, Nat.zero_add])
    (fun s hs => by
      unfold R9x4090
      simp only [List.length_map, ge_range, cond_false, fa107, md107, Bool.and_true, cond_true, Option.bind_some, decide_true]) N [] 0 (Nat.zero_le _) (by unfold Big at hN; omega) rfl
  rw [List.drop_zero, foldl_snoc] at key
  exact key

omit hN in
theorem bill_len (a : Int) (table : List Tw) (l : List Ln) : (billOf a table l).1.length ≤ table.length := by
  unfold billOf
  split
  · simp
  · simp

theorem T9_true (table : List Tw) (ht : table.length ≤ 9223372036854775807) (l : List Ln) (hl : l.length ≤ 9223372036854775807) (a : Int) : T9 N (table, l, a) = some true := by
  have h22 : T22 N () = some true := rfl
  have two3 : ∀ x y : Int, ((bif (allFit (Pat.fits p3) [(AV.int .i64 x), (AV.int .i64 y)]) then some (List.map d3 [(AV.int .i64 x), (AV.int .i64 y)]) else none : Option ((List Int)))) = some [x, y] := fun _ _ => rfl
  rw [T9_eq]
  simp only [fa121, md121, fa119, md119, Bool.and_true, Bool.and_self, cond_true, Option.bind_some, T49_short hN table ht, T60_short hN l hl, h22]
  cases hs1 : shortT table with
  | false => rfl
  | true =>
  cases hs2 : shortL l with
  | false => rfl
  | true =>
    have ht1 : table.length ≤ 1000000 := by
      unfold shortT at hs1
      rw [Bool.and_eq_true] at hs1
      have := of_decide_eq_true hs1.1
      omega
    have hl1 : l.length ≤ 1000000 := by
      unfold shortL at hs2
      rw [Bool.and_eq_true] at hs2
      have := of_decide_eq_true hs2.1
      omega
    have hb : ∀ r : List (Int × Int × Int) × Int, (if billErr table l a = 0 then billOf a table l else ([], billErr table l a)) = r → r.1.length ≤ 1000000 := by
      intro r hr
      subst hr
      split
      · have := bill_len a table l; omega
      · simp
    simp only [Bool.not_true, cond_false, Option.bind_some, T51_id hN table ht1, T62_id hN l hl1, fa132, md132, fa133, md133, Bool.and_self, cond_true, T61_val hN table l a ht1 hl1, T52_val hN table ht, T63_val hN table l ht hl, T27_rng, two3]
    have want : (((bif (cTw table == 0) then (T26 N [cLn table l, rng a 0 100]).bind fun y18 => (some y18) else (some (cTw table))) : Option Int)) = some (billErr table l a) := by
      rw [T26_first hN _ (by simp)]
      unfold billErr
      by_cases h : cTw table = 0
      · simp only [h, beq_self_eq_true, cond_true, Option.bind_some]
        simp [firstNZ]
      · rw [beq0 h]
        simp [firstNZ, h]
    rw [want]
    simp only [Option.bind_some]
    by_cases h : billErr table l a = 0
    · have hlen := hb _ rfl
      rw [if_pos h] at hlen
      have hc := copy_loop hN (billOf a table l).1 (billOf a table l).2 hlen
      simp only [h, beq_self_eq_true, cond_true, T64_val hN table l a ht1 hl1, Option.bind_some, fa107, md107, allFit_nil, List.map_nil, List.length_nil, decide_true, if_true, hc, Bool.and_self, T65_same hN (billOf a table l).1 (by omega), h22]
    · have hc := copy_loop hN [] (billErr table l a) (by simp)
      simp only [beq0 h, cond_false, cond_true, Option.bind_some, fa107, md107, allFit_nil, List.map_nil, List.length_nil, decide_true, h, if_false, hc, Bool.and_self, T65_same hN [] (by simp), beq_self_eq_true, h22]
end bill
end Go.Proofs.YtpngggdfbbdfaaaDoor
