/- Plain laws: seams between edges. -/
import Derived.Test.YtfiopgedfcaodaaGreatDoorSeamTs
import Derived.Test.YtfiopgedfcaodaaGreatDoorSeamPe
set_option linter.all false
namespace Go.Proofs.YtfiopgedfcaodaaGreatDoor
open Go Go.Am
set_option maxRecDepth 100000

abbrev Six := Int × Int × Int × Int × Int × Int
theorem sl46 (l : List (Int × Int)) : sameL (List.map n46 l) (List.map n46 l) = true := by
  induction l with
  | nil => rfl
  | cons s l ih =>
    rw [List.map_cons, sameL, ih]
    rw [show sameA (n46 s) (n46 s) = ((true && s.1 == s.1) && ((true && s.2 == s.2) && true)) from rfl]
    simp
theorem snoc127 (l : List Six) (a b c d e f : Int) : List.map n127 l ++ [AV.agg [AV.int .i64 a, AV.int .i64 b, AV.int .i64 c, AV.int .i64 d, AV.int .i64 e, AV.int .i64 f]] = List.map n127 (l ++ [(a, b, c, d, e, f)]) := by
  rw [List.map_append]; rfl
theorem snoc129 (l : List Six) (a b c d e f : Int) : List.map n129 l ++ [AV.agg [AV.int .i64 a, AV.int .i64 b, AV.int .i64 c, AV.int .i64 d, AV.int .i64 e, AV.int .i64 f]] = List.map n129 (l ++ [(a, b, c, d, e, f)]) := by
  rw [List.map_append]; rfl
theorem T129_rng (N : Nat) (x : Int) : T129 N x = some (rng x 0 15) := by rw [T129_eq, T93_rng]; rfl
theorem T80_rng (N : Nat) (x : Int) : T80 N x = some (rng x 0 15) := by rw [T80_eq, T94_rng]; rfl

theorem T46_same {N : Nat} (hN : Big N) (l : List Six) (hl : l.length ≤ 1000000) : T46 N l = some l := by
  rw [T46_eq]
  have key := loopR_count (rd := R46x58 N l) l.length (fun k => (l.take k, (k : Int))) l (fun k hk => by
    have hb : (k + 1) * 48 ≤ 140737488355328 := by omega
    simp only [R46x58, List.length_map, Int.toNat_natCast, nthD_map n127 l k hk, fn127, dn127, lt_range hk, in_range hk, Bool.and_self, cond_true, snoc129, fa129, md129, List.length_take, List.length_append, List.length_singleton, Nat.min_eq_left (Nat.le_of_lt hk), hb, decide_true, Bool.and_true, Option.bind_some, w_succ (show k < 9223372036854775807 by omega)]
    rw [show l.take k ++ [(l[k].1, l[k].2.1, l[k].2.2.1, l[k].2.2.2.1, l[k].2.2.2.2.1, l[k].2.2.2.2.2)] = l.take (k + 1) from by rw [List.take_succ, List.getElem?_eq_getElem hk]; rfl]) (by
    simp only [R46x58, List.length_map, ge_range, cond_false, fa129, md129, decide_true, Bool.and_true, cond_true, Option.bind_some, List.take_length])
  have h1 := key N 0 (Nat.zero_le _) (by unfold Big at hN; omega)
  have z : ((bif (allFit (Pat.fits p129) ([] : List AV) && true) then some ((List.map d129 ([] : List AV)), 0) else none : Option ((List Six) × Int))) = some (l.take 0, ((0 : Nat) : Int)) := rfl
  rw [z]
  simp only [Option.bind_some]
  rw [show (decide (0 = (List.map n129 (l.take 0)).length) && true) = true from rfl, cond_true, Option.bind_some, h1]
  simp only [Option.bind_some, fa129, md129, cond_true]

theorem T45_same {N : Nat} (hN : Big N) (l : List Six) (hl : l.length ≤ 1000000) : T45 N (l, l) = some true := by
  rw [T45_eq]
  simp only [bne_self_eq_false, cond_false, List.length_map]
  have key := loopR_count (rd := R45x58 N l l) l.length (fun k => (k : Int)) (.inr ()) (fun k hk => by
    simp only [R45x58, List.length_map, Int.toNat_natCast, nthD_map n129 l k hk, fn129, dn129, lt_range hk, in_range hk, Bool.and_self, cond_true, beq_self_eq_true, Bool.not_true, cond_false, w_succ (show k < 9223372036854775807 by omega)]) (by
    simp only [R45x58, List.length_map, ge_range, cond_false]) N 0 (Nat.zero_le _) (by unfold Big at hN; omega)
  have key' : loopR (R45x58 N l l) N 0 = some (.inr ()) := key
  rw [key', Option.bind_some]
  rfl

section seam
variable {N : Nat} (hN : Big N) (a b : Int) (e1 e2 : List (Int × Int))

/-- The longer one. -/
def lgN (e1 e2 : List (Int × Int)) : Nat := max e1.length e2.length
theorem lgN_eq : ((lgN e1 e2 : Nat) : Int) = lng (e1.length : Int) (e2.length : Int) := by unfold lgN lng; split <;> omega
def kA (k : Nat) : Int × Int := e1.getD (k * e1.length / lgN e1 e2) (0, 0)
def kB (k : Nat) : Int × Int := e2.getD (k * e2.length / lgN e1 e2) (0, 0)
def six (k : Nat) : Six := (a, (kA e1 e2 k).1, (kA e1 e2 k).2, b, (kB e1 e2 k).1, (kB e1 e2 k).2)
def samek (k : Nat) : Bool := (a == b) && ((((kA e1 e2 k).1 == (kB e1 e2 k).1) && (((kA e1 e2 k).2 == (kB e1 e2 k).2) && true)) && true)
def stS (s : List Six) (k : Nat) : List Six ⊕ List Six := if samek a b e1 e2 k then .inr s else .inl (s ++ [six a b e1 e2 k])
/-- The joins of a seam. -/
def seamR : List Six × Int := match foldI (stS a b e1 e2) [] (List.range (lgN e1 e2)) with
  | .inl s => (s, 0)
  | .inr _ => ([], 9)

variable (h1 : 1 ≤ e1.length) (h1' : e1.length ≤ 256) (h2 : 1 ≤ e2.length) (h2' : e2.length ≤ 256)
include h1 h1' h2 h2'
theorem lg_pos : 1 ≤ lgN e1 e2 ∧ lgN e1 e2 ≤ 256 := by unfold lgN; omega
theorem ixs {k : Nat} (hk : k < lgN e1 e2) : IntKind.wrap .i64 (Int.tdiv (IntKind.wrap .i64 ((k : Int) * (e1.length : Int))) (lng (e1.length : Int) (e2.length : Int))) = ((k * e1.length / lgN e1 e2 : Nat) : Int) ∧ IntKind.wrap .i64 (Int.tdiv (IntKind.wrap .i64 ((k : Int) * (e2.length : Int))) (lng (e1.length : Int) (e2.length : Int))) = ((k * e2.length / lgN e1 e2 : Nat) : Int) := by
  have := jn_div (m := (e1.length : Int)) (n := (e2.length : Int)) (by omega) (by omega) (by omega) (by omega) (k := k) (by rw [← lgN_eq]; omega)
  rw [this.1, this.2, ← lgN_eq]
  exact ⟨by push_cast; rfl, by push_cast; rfl⟩
theorem ix1 {k : Nat} (hk : k < lgN e1 e2) : k * e1.length / lgN e1 e2 < e1.length := Nat.div_lt_of_lt_mul (by rw [Nat.mul_comm (lgN e1 e2)]; rw [Nat.mul_comm k]; exact Nat.mul_lt_mul_of_pos_left hk (by omega))
theorem ix2 {k : Nat} (hk : k < lgN e1 e2) : k * e2.length / lgN e1 e2 < e2.length := Nat.div_lt_of_lt_mul (by rw [Nat.mul_comm (lgN e1 e2)]; rw [Nat.mul_comm k]; exact Nat.mul_lt_mul_of_pos_left hk (by omega))

include hN
theorem R79_loop : loopR (R79x158x14 N e1 e2) N (0, a, e1, b, e2, [], 0, [], (e1.length : Int), (e2.length : Int)) =
    some (Sum.elim (fun s => .inr (a, e1, b, e2, [], 0, s, (e1.length : Int), (e2.length : Int))) (fun s => .inl (a, e1, b, e2, [], 9, s, (e1.length : Int), (e2.length : Int))) (foldI (stS a b e1 e2) [] (List.range (lgN e1 e2)))) := by
  have hp := lg_pos e1 e2 h1 h1' h2 h2'
  have hz : ¬ lng (e1.length : Int) (e2.length : Int) = 0 := by rw [← lgN_eq]; omega
  have hlg : (if (e2.length : Int) > (e1.length : Int) then (e2.length : Int) else (e1.length : Int)) = lng (e1.length : Int) (e2.length : Int) := rfl
  have key := loopR_fold (rd := R79x158x14 N e1 e2) (S := List Six) (Y := List Six) (List.range (lgN e1 e2)) (fun s k => ((k : Int), a, e1, b, e2, [], 0, s, (e1.length : Int), (e2.length : Int))) (stS a b e1 e2)
    (fun s => .inr (a, e1, b, e2, [], 0, s, (e1.length : Int), (e2.length : Int))) (fun s => .inl (a, e1, b, e2, [], 9, s, (e1.length : Int), (e2.length : Int))) (fun s k => s.length ≤ k) (fun s k hk hs => by
      have hk : k < lgN e1 e2 := by simpa using hk
      rw [List.getElem_range]
      obtain ⟨i1, i2⟩ := ixs e1 e2 h1 h1' h2 h2' hk
      have j1 := ix1 e1 e2 h1 h1' h2 h2' hk
      have j2 := ix2 e1 e2 h1 h1' h2 h2' hk
      obtain ⟨u1, u2⟩ := at87 e1 j1
      obtain ⟨v1, v2⟩ := at87 e2 j2
      have hb : (s.length + 1) * 48 ≤ 140737488355328 := by omega
      have hlt : decide ((k : Int) < lng (e1.length : Int) (e2.length : Int)) = true := by rw [← lgN_eq]; exact lt_range hk
      refine ⟨?_, fun s' h => ?_⟩
      · simp only [R79x158x14, List.length_map, hlg, hlt, hz, decide_false, Bool.not_false, cond_true, i1, i2, Int.toNat_natCast, u1, u2, v1, v2, in_range j1, in_range j2, beq_self_eq_true, sl87, Bool.and_self, Bool.and_true, fa87, md87, fa127, md127, Option.bind_some, w_succ (show k < 9223372036854775807 by omega)]
        show ((bif ((a == b) && (((kA e1 e2 k).1 == (kB e1 e2 k).1) && ((kA e1 e2 k).2 == (kB e1 e2 k).2))) then _ else _) : Option _) = _
        have hs2 : samek a b e1 e2 k = ((a == b) && (((kA e1 e2 k).1 == (kB e1 e2 k).1) && ((kA e1 e2 k).2 == (kB e1 e2 k).2))) := by unfold samek; simp only [Bool.and_true]
        unfold stS
        rw [← hs2]
        cases samek a b e1 e2 k with
        | true =>
          simp only [allFit, Bool.and_self, List.map_nil, cond_true, decide_true, Option.bind_some, if_true, Sum.map_inr]
        | false =>
          simp only [cond_false, snoc127, fa127, md127, List.length_append, List.length_singleton, List.length_map, hb, decide_true, Bool.and_true, cond_true, Option.bind_some, Bool.false_eq_true, if_false, Sum.map_inl]
          rfl
      · unfold stS at h
        split at h
        · cases h
        · injection h with h; rw [← h]; simp; omega) (fun s hs => by
      have hge : decide (((List.range (lgN e1 e2)).length : Int) < lng (e1.length : Int) (e2.length : Int)) = false := by rw [← lgN_eq, List.length_range]; exact ge_range _
      simp only [R79x158x14, List.length_map, hlg, hge, cond_false, fa87, md87, fa127, md127, decide_true, Bool.and_true, cond_true, Option.bind_some]) N [] 0 (Nat.zero_le _) (by unfold Big at hN; simp; omega) (Nat.zero_le _)
  rw [List.drop_zero] at key
  exact key
theorem R81_loop : loopR (R81x122 N a e1 b e2 (jns (e1.length : Int) (e2.length : Int))) N ([], 0) =
    some (Sum.elim (fun s => .inr s) (fun _ => .inl ([], 9)) (foldI (stS a b e1 e2) [] (List.range (lgN e1 e2)))) := by
  have hp := lg_pos e1 e2 h1 h1' h2 h2'
  have hjl : (jns (e1.length : Int) (e2.length : Int)).length = lgN e1 e2 := by unfold jns; rw [← lgN_eq]; simp
  have key := loopR_fold (rd := R81x122 N a e1 b e2 (jns (e1.length : Int) (e2.length : Int))) (S := List Six) (Y := List Six) (List.range (lgN e1 e2)) (fun s k => (s, (k : Int))) (stS a b e1 e2)
    (fun s => .inr s) (fun _ => .inl ([], 9)) (fun s k => s.length ≤ k) (fun s k hk hs => by
      have hk : k < lgN e1 e2 := by simpa using hk
      rw [List.getElem_range]
      have hkj : k < (jns (e1.length : Int) (e2.length : Int)).length := by rw [hjl]; exact hk
      have ej : (jns (e1.length : Int) (e2.length : Int)).getD k (0, 0) = (((k * e1.length / lgN e1 e2 : Nat) : Int), ((k * e2.length / lgN e1 e2 : Nat) : Int)) := by
        have hk2 : k < (lng (e1.length : Int) (e2.length : Int)).toNat := by rw [← lgN_eq]; simpa using hk
        unfold jns
        rw [List.getD_eq_getElem?_getD, List.getElem?_map, List.getElem?_range hk2, Option.map_some, Option.getD_some]
        unfold jnA
        rw [← lgN_eq]
        push_cast
        rfl
      have j1 := ix1 e1 e2 h1 h1' h2 h2' hk
      have j2 := ix2 e1 e2 h1 h1' h2 h2' hk
      obtain ⟨u1, u2⟩ := at87 e1 j1
      obtain ⟨v1, v2⟩ := at87 e2 j2
      obtain ⟨w1, w2⟩ := at46 (jns (e1.length : Int) (e2.length : Int)) hkj
      have hb : (s.length + 1) * 48 ≤ 140737488355328 := by omega
      refine ⟨?_, fun s' h => ?_⟩
      · simp only [R81x122, List.length_map, lt_range hkj, in_range hkj, Int.toNat_natCast, w1, w2, ej, u1, u2, v1, v2, in_range j1, in_range j2, beq_self_eq_true, sl87, sl46, Bool.and_self, Bool.and_true, cond_true, fa129, md129, Option.bind_some, w_succ (show k < 9223372036854775807 by omega)]
        show ((bif ((a == b) && (((kA e1 e2 k).1 == (kB e1 e2 k).1) && ((kA e1 e2 k).2 == (kB e1 e2 k).2))) then _ else _) : Option _) = _
        have hs2 : samek a b e1 e2 k = ((a == b) && (((kA e1 e2 k).1 == (kB e1 e2 k).1) && ((kA e1 e2 k).2 == (kB e1 e2 k).2))) := by unfold samek; simp only [Bool.and_true]
        unfold stS
        rw [← hs2]
        cases samek a b e1 e2 k with
        | true =>
          simp only [allFit, Bool.and_self, List.map_nil, cond_true, decide_true, Option.bind_some, if_true, Sum.map_inr]
        | false =>
          simp only [cond_false, snoc129, fa129, md129, List.length_append, List.length_singleton, List.length_map, hb, decide_true, Bool.and_true, cond_true, Option.bind_some, Bool.false_eq_true, if_false, Sum.map_inl]
          rfl
      · unfold stS at h
        split at h
        · cases h
        · injection h with h; rw [← h]; simp; omega) (fun s hs => by
      have hge : decide (((List.range (lgN e1 e2)).length : Int) < ((jns (e1.length : Int) (e2.length : Int)).length : Int)) = false := by rw [hjl, List.length_range]; exact ge_range _
      simp only [R81x122, List.length_map, hge, cond_false, fa129, md129, decide_true, Bool.and_true, cond_true, Option.bind_some]) N [] 0 (Nat.zero_le _) (by unfold Big at hN; simp; omega) (Nat.zero_le _)
  rw [List.drop_zero] at key
  exact key

theorem T81_seam : T81 N (a, e1, b, e2) = some (seamR a b e1 e2) := by
  rw [T81_eq]
  simp only [List.length_map]
  rw [T22_jns (m := (e1.length : Int)) (n := (e2.length : Int)) (by omega) (by omega) (by omega) (by omega) hN, Option.bind_some]
  have z : ((bif (allFit (Pat.fits p129) ([] : List AV) && true) then some ((List.map d129 ([] : List AV)), 0) else none : Option ((List Six) × Int))) = some ([], 0) := rfl
  rw [z]
  simp only [Option.bind_some, List.map_nil, List.length_nil, decide_true, Bool.and_self, cond_true, R81_loop hN a b e1 e2 h1 h1' h2 h2', fa129, md129, Bool.and_true]
  unfold seamR
  cases foldI (stS a b e1 e2) [] (List.range (lgN e1 e2)) <;> rfl

theorem T79_seam (c1 : T72 N e1 = some 0) (c2 : T72 N e2 = some 0) (ra : rng a 0 15 = 0) (rb : rng b 0 15 = 0) : T79 N (a, e1, b, e2) = some (seamR a b e1 e2) := by
  rw [T79_eq, T129_rng, T129_rng, ra, rb]
  simp only [Option.bind_some, sl87, beq_self_eq_true, Bool.and_self, Bool.and_true, cond_true, fa87, md87, c1, c2]
  have f4 : ((bif (allFit (Pat.fits p24) [(AV.int .i64 0), (AV.int .i64 0), (AV.int .i64 0), (AV.int .i64 0)]) then some (List.map d24 [(AV.int .i64 0), (AV.int .i64 0), (AV.int .i64 0), (AV.int .i64 0)]) else none : Option ((List Int)))) = some [0, 0, 0, 0] := rfl
  rw [f4, Option.bind_some, T90_first hN _ (by simp), Option.bind_some]
  rw [show (firstNZ [0, 0, 0, 0] != 0) = false from rfl, cond_false]
  simp only [allFit, List.map_nil, Bool.and_self, cond_true, Option.bind_some, List.length_nil, List.length_map, decide_true, R79_loop hN a b e1 e2 h1 h1' h2 h2']
  unfold seamR
  cases foldI (stS a b e1 e2) [] (List.range (lgN e1 e2)) with
  | inl s => simp only [Sum.elim_inl, Sum.elim_inr, fa87, md87, fa127, md127, Bool.and_self, cond_true, Option.bind_some, List.map_nil, allFit]
  | inr s => simp only [Sum.elim_inl, Sum.elim_inr, fa87, md87, fa127, md127, Bool.and_self, cond_true, Option.bind_some, List.map_nil, allFit]
end seam

theorem chkE_len {l : List (Int × Int)} (h : chkE l = 0) : 1 ≤ l.length ∧ l.length ≤ 256 := by
  unfold chkE at h
  split at h
  · cases h
  · split at h
    · cases h
    · omega
theorem four24 (x y z w : Int) : ((bif (allFit (Pat.fits p24) [(AV.int .i64 x), (AV.int .i64 y), (AV.int .i64 z), (AV.int .i64 w)]) then some (List.map d24 [(AV.int .i64 x), (AV.int .i64 y), (AV.int .i64 z), (AV.int .i64 w)]) else none : Option ((List Int)))) = some [x, y, z, w] := rfl
theorem four3 (x y z w : Int) : ((bif (allFit (Pat.fits p3) [(AV.int .i64 x), (AV.int .i64 y), (AV.int .i64 z), (AV.int .i64 w)]) then some (List.map d3 [(AV.int .i64 x), (AV.int .i64 y), (AV.int .i64 z), (AV.int .i64 w)]) else none : Option ((List Int)))) = some [x, y, z, w] := rfl

theorem T13_true {N : Nat} (hN : Big N) (p : Int × Int) (e1 e2 : List (Int × Int)) : T13 N (p, e1, e2) = some true := by
  rw [T13_eq]
  by_cases hw : ((e1.length : Int) > 12 ∧ (e1.length : Int) ≠ 257) ∨ ((e2.length : Int) > 12 ∧ (e2.length : Int) ≠ 257)
  · have h1 : ((bif (decide ((e1.length : Int) > 12)) then (bif ((e1.length : Int) != 257) then (some true) else (bif (decide ((e2.length : Int) > 12)) then (some ((e2.length : Int) != 257)) else (some false))) else (bif (decide ((e2.length : Int) > 12)) then (some ((e2.length : Int) != 257)) else (some false))) : Option Bool) = some true := by
      rcases hw with ⟨q1, q2⟩ | ⟨q1, q2⟩
      · have q2' : ((e1.length : Int) != 257) = true := bne_iff_ne.2 q2
        simp only [q1, q2', decide_true, cond_true]
      · have q2' : ((e2.length : Int) != 257) = true := bne_iff_ne.2 q2
        simp only [q1, q2', decide_true, cond_true]
        cases decide ((e1.length : Int) > 12) <;> cases ((e1.length : Int) != 257) <;> rfl
    simp only [List.length_map, h1, cond_true, Option.bind_some]
    rfl
  · have h1 : ((bif (decide ((e1.length : Int) > 12)) then (bif ((e1.length : Int) != 257) then (some true) else (bif (decide ((e2.length : Int) > 12)) then (some ((e2.length : Int) != 257)) else (some false))) else (bif (decide ((e2.length : Int) > 12)) then (some ((e2.length : Int) != 257)) else (some false))) : Option Bool) = some false := by
      by_cases q1 : (e1.length : Int) > 12
      · have q2 : (e1.length : Int) = 257 := by omega
        by_cases q3 : (e2.length : Int) > 12
        · have q4 : (e2.length : Int) = 257 := by omega
          simp [q2, q4]
        · simp [q2, q3]
      · by_cases q3 : (e2.length : Int) > 12
        · have q4 : (e2.length : Int) = 257 := by omega
          simp [q1, q4]
        · simp [q1, q3]
    have hl1 : e1.length ≤ 1000000 := by omega
    have hl2 : e2.length ≤ 1000000 := by omega
    simp only [List.length_map, h1, Option.bind_some, cond_false, fa87, md87, Bool.and_true, cond_true, beq_self_eq_true, Bool.and_self, T70_same N e1 hl1, T70_same N e2 hl2, T80_rng, T71_chk hN e1 hl1, T71_chk hN e2 hl2, four3, T28_first hN _ (show [_, _, _, _].length ≤ 9223372036854775806 by simp)]
    by_cases h0 : firstNZ [rng p.1 0 15, chkE e1, rng p.2 0 15, chkE e2] = 0
    · have hz := firstNZ_zero.1 h0
      have ra := hz _ (show rng p.1 0 15 ∈ [rng p.1 0 15, chkE e1, rng p.2 0 15, chkE e2] by simp)
      have rb := hz _ (show rng p.2 0 15 ∈ [rng p.1 0 15, chkE e1, rng p.2 0 15, chkE e2] by simp)
      have c1 := hz _ (show chkE e1 ∈ [rng p.1 0 15, chkE e1, rng p.2 0 15, chkE e2] by simp)
      have c2 := hz _ (show chkE e2 ∈ [rng p.1 0 15, chkE e1, rng p.2 0 15, chkE e2] by simp)
      obtain ⟨k1, k1'⟩ := chkE_len c1
      obtain ⟨k2, k2'⟩ := chkE_len c2
      have hs : (seamR p.1 p.2 e1 e2).1.length ≤ 1000000 := by
        have gen : ∀ (m : List Nat) (s s' : List Six), foldI (stS p.1 p.2 e1 e2) s m = .inl s' → s'.length ≤ s.length + m.length := fun m => by
          induction m with
          | nil => intro s s' h; cases h; simp
          | cons k m ih =>
            intro s s' h
            unfold foldI at h
            unfold stS at h
            by_cases hk : samek p.1 p.2 e1 e2 k = true
            · simp only [hk, if_true, Sum.elim_inr] at h; cases h
            · simp only [hk, if_false, Sum.elim_inl] at h
              have := ih _ _ h
              simp at this ⊢; omega
        unfold seamR
        cases hf : foldI (stS p.1 p.2 e1 e2) [] (List.range (lgN e1 e2)) with
        | inl s =>
          have := gen _ _ _ hf
          have hp := lg_pos e1 e2 k1 k1' k2 k2'
          simp at this ⊢; omega
        | inr s => simp
      have e79 := T79_seam hN p.1 p.2 e1 e2 k1 k1' k2 k2' (by rw [T72_chk hN e1 hl1, c1]) (by rw [T72_chk hN e2 hl2, c2]) ra rb
      have e81 := T81_seam hN p.1 p.2 e1 e2 k1 k1' k2 k2'
      simp only [h0, e79, e81, Option.bind_some, beq_self_eq_true, cond_true, fa127, md127, fa129, md129, Bool.and_self, T46_same hN _ hs, T45_same hN _ hs]
      rfl
    · have hb : (firstNZ [rng p.1 0 15, chkE e1, rng p.2 0 15, chkE e2] == 0) = false := beq_false_of_ne h0
      have e79 : T79 N (p.1, e1, p.2, e2) = some ([], firstNZ [rng p.1 0 15, chkE e1, rng p.2 0 15, chkE e2]) := by
        rw [T79_eq, T129_rng, T129_rng]
        simp only [Option.bind_some, sl87, beq_self_eq_true, Bool.and_self, Bool.and_true, cond_true, fa87, md87, T72_chk hN e1 hl1, T72_chk hN e2 hl2, four24, T90_first hN _ (show [_, _, _, _].length ≤ 9223372036854775806 by simp)]
        rw [show (firstNZ [rng p.1 0 15, chkE e1, rng p.2 0 15, chkE e2] != 0) = true from bne_iff_ne.2 h0]
        rfl
      have h46 := T46_same hN [] (by simp)
      have h45 := T45_same hN [] (by simp)
      simp only [e79, hb, cond_false, Option.bind_some, allFit, List.map_nil, Bool.and_self, cond_true, h46, h45, beq_self_eq_true]
      rfl
end Go.Proofs.YtfiopgedfcaodaaGreatDoor
