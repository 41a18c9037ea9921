/- Plain laws: common knots, program: the search in the places. -/
import Derived.Test.YtfiopgedfcaodaaGreatDoorSeamPw
import Derived.Test.YtfiopgedfcaodaaGreatDoorAmKK
set_option linter.all false
namespace Go.Proofs.YtfiopgedfcaodaaGreatDoor
open Go Go.Am Go.Sort
set_option maxRecDepth 100000
def ltP (a b : P3) : Prop := a.1 < b.1 ∨ a.1 = b.1 ∧ (a.2.2 < b.2.2 ∨ a.2.2 = b.2.2 ∧ a.2.1 < b.2.1)
def cmpQ (a b : P3) : Int := firstNZ [cmp3 a.1 b.1, cmp3 a.2.2 b.2.2, cmp3 a.2.1 b.2.1]
theorem cmp3_lt (a b : Int) : (cmp3 a b < 0 ↔ a < b) ∧ (cmp3 a b = 0 ↔ a = b) := by
  unfold cmp3
  split
  · constructor <;> constructor <;> intro <;> omega
  · split
    · constructor <;> constructor <;> intro <;> omega
    · constructor <;> constructor <;> intro <;> omega
theorem cmpQ_lt (a b : P3) : (cmpQ a b < 0 ↔ ltP a b) ∧ (cmpQ a b = 0 ↔ a = b) := by
  obtain ⟨h1, h2⟩ := cmp3_lt a.1 b.1
  obtain ⟨h3, h4⟩ := cmp3_lt a.2.2 b.2.2
  obtain ⟨h5, h6⟩ := cmp3_lt a.2.1 b.2.1
  unfold cmpQ ltP
  simp only [firstNZ]
  have he : a = b ↔ a.1 = b.1 ∧ a.2.1 = b.2.1 ∧ a.2.2 = b.2.2 := ⟨fun h => by subst h; exact ⟨rfl, rfl, rfl⟩, fun ⟨e1, e2, e3⟩ => Prod.ext e1 (Prod.ext e2 e3)⟩
  rw [he]
  by_cases c1 : cmp3 a.1 b.1 = 0
  · rw [if_pos c1]
    have := h2.1 c1
    by_cases c2 : cmp3 a.2.2 b.2.2 = 0
    · rw [if_pos c2]
      have := h4.1 c2
      by_cases c3 : cmp3 a.2.1 b.2.1 = 0
      · rw [if_pos c3]
        have := h6.1 c3
        constructor <;> constructor <;> intro <;> omega
      · rw [if_neg c3]
        constructor <;> constructor <;> intro <;> omega
    · rw [if_neg c2]
      constructor <;> constructor <;> intro <;> omega
  · rw [if_neg c1]
    constructor <;> constructor <;> intro <;> omega
theorem ltP_trans {a b c : P3} (h1 : ltP a b) (h2 : ltP b c) : ltP a c := by unfold ltP at *; omega
theorem plcs_sorted (C : List (List P3)) : (plcs C).Pairwise ltP := by
  unfold plcs
  rw [List.pairwise_flatMap]
  constructor
  · intro i _
    unfold plc
    rw [List.pairwise_map]
    refine ((insL_spec swoK totK (0, 0) (flatK2 (C.getD i []))).1).imp fun {x y} h => ?_
    have h := of_decide_eq_true ((cfK_lt x y).symm.trans h)
    exact .inr ⟨rfl, h⟩
  · refine List.pairwise_lt_range.imp fun {i j} h x hx y hy => ?_
    unfold plc at hx hy
    obtain ⟨k1, _, rfl⟩ := List.mem_map.1 hx
    obtain ⟨k2, _, rfl⟩ := List.mem_map.1 hy
    unfold ltP
    simp only
    omega
theorem mid_eq {lo hi : Nat} (h1 : lo ≤ 1000000) (h2 : hi ≤ 1000000) : IntKind.wrap .i64 (Int.fdiv (IntKind.wrap .u64 (IntKind.wrap .i64 ((lo : Int) + (hi : Int)))) (2 ^ (min (Int.toNat 1) 64))) = (((lo + hi) / 2 : Nat) : Int) := by
  rw [w64 (x := (lo : Int) + (hi : Int)) (by omega)]
  have hu : IntKind.wrap .u64 ((lo : Int) + (hi : Int)) = (lo : Int) + (hi : Int) := IntWalk.u64_in _ (by omega)
  have hp : (2 : Int) ^ (min (Int.toNat 1) 64) = 2 := rfl
  rw [hu, hp, Int.fdiv_eq_ediv_of_nonneg _ (by omega), w64 (by omega)]
  omega
section
variable {N : Nat} (hN : Big N)
include hN
theorem T112_cmp (a b : P3) : T112 N (a, b) = some (cmpQ a b) := by
  rw [T112_eq]
  simp only [T161_c3, Option.bind_some, beq_self_eq_true, Bool.and_self, cond_true]
  have h3 : ∀ x y z : Int, ((bif allFit (Pat.fits p3) [AV.int .i64 x, AV.int .i64 y, AV.int .i64 z] && true then some (List.map d3 [AV.int .i64 x, AV.int .i64 y, AV.int .i64 z]) else none : Option (List Int))) = some [x, y, z] := fun x y z => rfl
  rw [h3]
  simp only [Option.bind_some]
  rw [T166_first hN _ (by simp)]
  rfl
section
variable (S : List P3) (hS : S.length ≤ 131072) (hs : S.Pairwise ltP)
include hS hs
theorem R36_find (a2 : Int) (acc : List Six) (k : Nat) (hk : k < S.length) : ∃ x, loopR (R36x111x60 N a2 ((), S) (acc, (k : Int), S)) N (0, (S.length : Int), S) = some x ∧ ∃ lo : Nat, x = ((lo : Int), S) ∧ lo ≤ S.length ∧ (∀ i (h : i < S.length), i < lo → ltP S[i] (a2, S[k].2)) ∧ (∀ i (h : i < S.length), lo ≤ i → ¬ ltP S[i] (a2, S[k].2)) := by
  obtain ⟨b1, b2⟩ := at94 S hk
  have hp := List.pairwise_iff_getElem.1 hs
  refine loopR_inv (rd := R36x111x60 N a2 ((), S) (acc, (k : Int), S)) (Inv := fun v => ∃ lo hi : Nat, v = ((lo : Int), (hi : Int), S) ∧ lo ≤ hi ∧ hi ≤ S.length ∧ (∀ i (h : i < S.length), i < lo → ltP S[i] (a2, S[k].2)) ∧ (∀ i (h : i < S.length), hi ≤ i → ¬ ltP S[i] (a2, S[k].2))) (m := fun v => (v.2.1 - v.1).toNat) ?_ N _ ⟨0, S.length, rfl, Nat.zero_le _, Nat.le_refl _, fun i h h2 => by omega, fun i h h2 => by omega⟩ (by unfold Big at hN; simp; omega)
  rintro _ ⟨lo, hi, rfl, i1, i2, i3, i4⟩
  by_cases hlt : lo < hi
  · left
    have hm := mid_eq (lo := lo) (hi := hi) (by omega) (by omega)
    have hml : (lo + hi) / 2 < S.length := by omega
    obtain ⟨a1, a3⟩ := at94 S hml
    have hd : decide ((lo + hi) / 2 < S.length) = true := decide_eq_true hml
    have q := T112_cmp hN S[(lo + hi) / 2] (a2, S[k].2)
    have q' : T112 N ((S[(lo + hi) / 2].1, S[(lo + hi) / 2].2.1, S[(lo + hi) / 2].2.2), (a2, S[k].2.1, S[k].2.2)) = _ := q
    have hc := (cmpQ_lt S[(lo + hi) / 2] (a2, S[k].2)).1
    by_cases h : cmpQ S[(lo + hi) / 2] (a2, S[k].2) < 0
    · refine ⟨((((lo + hi) / 2 + 1 : Nat) : Int), (hi : Int), S), ?_, ⟨(lo + hi) / 2 + 1, hi, rfl, by omega, i2, fun i hi2 h2 => ?_, i4⟩, ?_⟩
      · simp only [R36x111x60, List.length_map, hm, Int.toNat_natCast, Nat.zero_add, a1, a3, b1, lt_range hlt, in_range hml, hd, decide_true, Bool.and_self, Bool.and_true, cond_true, q', h, Option.bind_some, fa94, md94, w_succ (show (lo + hi) / 2 < 9223372036854775807 by omega)]
      · have hl := hc.1 h
        by_cases e : i = (lo + hi) / 2
        · subst e; exact hl
        · exact ltP_trans (hp i ((lo + hi) / 2) hi2 hml (by omega)) hl
      · simp only; omega
    · refine ⟨((lo : Int), (((lo + hi) / 2 : Nat) : Int), S), ?_, ⟨lo, (lo + hi) / 2, rfl, by omega, by omega, i3, fun i hi2 h2 hl => ?_⟩, ?_⟩
      · simp only [R36x111x60, List.length_map, hm, Int.toNat_natCast, Nat.zero_add, a1, a3, b1, lt_range hlt, in_range hml, hd, decide_true, Bool.and_self, Bool.and_true, cond_true, q', h, decide_false, cond_false, Option.bind_some, fa94, md94]
      · by_cases e : i = (lo + hi) / 2
        · subst e; exact h (hc.2 hl)
        · exact h (hc.2 (ltP_trans (hp ((lo + hi) / 2) i hml hi2 (by omega)) hl))
      · simp only; omega
  · right
    obtain rfl : lo = hi := by omega
    refine ⟨((lo : Int), S), ?_, lo, rfl, i2, i3, i4⟩
    simp only [R36x111x60, List.length_map, ge_range, cond_false, fa94, md94, decide_true, Bool.and_self, Bool.and_true, cond_true, Option.bind_some]
def comm (S : List P3) (a1 a2 : Int) (p : P3) : Bool := decide ((a2, p.2) ∈ S) && (p.1 == a1)
theorem R36_all (a1 a2 : Int) : loopR (R36x506 N a1 a2 ((), S)) N ([], 0, S) = some ((S.filter (comm S a1 a2)).map (fun p => (p.1, p.2.1, p.2.2, a2, p.2.1, p.2.2)), S) := by
  have hp := List.pairwise_iff_getElem.1 hs
  have key := loopR_foldl (rd := R36x506 N a1 a2 ((), S)) S (fun acc k => (acc, (k : Int), S)) (fun acc p => if comm S a1 a2 p then acc ++ [(p.1, p.2.1, p.2.2, a2, p.2.1, p.2.2)] else acc) (fun acc => (acc, S)) (fun acc k => acc.length ≤ k) (fun acc k hk hacc => by
    obtain ⟨b1, b2⟩ := at94 S hk
    have hd : decide (k < S.length) = true := decide_eq_true hk
    obtain ⟨x, r, lo, rfl, l1, l2, l3⟩ := R36_find hN S hS hs a2 acc k hk
    have hfound : ((bif decide ((lo : Int) < (S.length : Int)) then bif decide ((0 : Int) ≤ (lo : Int) ∧ (lo : Int) < (S.length : Int)) then bif (true && decide (lo < S.length)) && Pat.fits p94 (nthD (List.map n94 S) lo) then (T112 N (((d94 (nthD (List.map n94 S) lo)).1, (d94 (nthD (List.map n94 S) lo)).2.1, (d94 (nthD (List.map n94 S) lo)).2.2), (a2, S[k].2.1, S[k].2.2))).bind fun y => some ((lo : Int), (y == 0), S) else none else none else some ((lo : Int), false, S)) : Option (Int × Bool × List P3)) = some ((lo : Int), decide ((a2, S[k].2) ∈ S), S) := by
      by_cases hl : lo < S.length
      · obtain ⟨a1', a3⟩ := at94 S hl
        have q' : T112 N ((S[lo].1, S[lo].2.1, S[lo].2.2), (a2, S[k].2.1, S[k].2.2)) = _ := T112_cmp hN S[lo] (a2, S[k].2)
        have h1 : decide (lo < S.length) = true := decide_eq_true hl
        simp only [lt_range hl, in_range hl, h1, a1', a3, Bool.and_self, cond_true, q', Option.bind_some]
        congr 3
        rw [Bool.eq_iff_iff, beq_iff_eq, decide_eq_true_iff, (cmpQ_lt _ _).2]
        constructor
        · intro e; rw [← e]; exact List.getElem_mem hl
        · intro hm
          obtain ⟨j, hj, hje⟩ := List.getElem_of_mem hm
          have hirr : ∀ z : P3, ¬ ltP z z := fun z hz => by unfold ltP at hz; omega
          have h2 : lo ≤ j := by
            by_cases c : lo ≤ j
            · exact c
            · have := l2 j hj (by omega)
              rw [hje] at this
              exact absurd this (hirr _)
          by_cases e : lo = j
          · subst e; exact hje
          · have := hp lo j hl hj (by omega)
            rw [hje] at this
            exact absurd this (l3 lo hl (Nat.le_refl _))
      · have h1 : decide ((lo : Int) < (S.length : Int)) = false := decide_eq_false (by omega)
        have hm : ¬ (a2, S[k].2) ∈ S := fun hm => by
          obtain ⟨j, hj, hje⟩ := List.getElem_of_mem hm
          have hirr : ∀ z : P3, ¬ ltP z z := fun z hz => by unfold ltP at hz; omega
          have := l2 j hj (by omega)
          rw [hje] at this
          exact hirr _ this
        rw [h1, decide_eq_false hm]
        rfl
    have hb : decide ((acc.length + 1) * 48 ≤ 140737488355328) = true := decide_eq_true (by omega)
    have hla : (acc ++ [(S[k].1, S[k].2.1, S[k].2.2, a2, S[k].2.1, S[k].2.2)]).length = acc.length + 1 := by simp
    have hsn : List.map n127 acc ++ [AV.agg [AV.int .i64 S[k].1, AV.int .i64 S[k].2.1, AV.int .i64 S[k].2.2, AV.int .i64 a2, AV.int .i64 S[k].2.1, AV.int .i64 S[k].2.2]] = List.map n127 (acc ++ [(S[k].1, S[k].2.1, S[k].2.2, a2, S[k].2.1, S[k].2.2)]) := by rw [List.map_append]; rfl
    refine ⟨?_, by split <;> (try rw [hla]) <;> omega⟩
    simp only [R36x506, List.length_map, Int.toNat_natCast, Nat.zero_add, b1, b2, lt_range hk, in_range hk, hd, decide_true, Bool.and_true, Bool.and_self, cond_true, fa94, md94, Option.bind_some, r]
    rw [hfound]
    unfold comm
    by_cases h1 : (a2, S[k].2) ∈ S
    · rw [decide_eq_true h1]
      by_cases h2 : S[k].1 = a1
      · have h2b : (S[k].1 == a1) = true := beq_iff_eq.2 h2
        simp only [Option.bind_some, cond_true, h2b, fa127, md127, fa94, md94, Bool.and_self, decide_true, hb, hsn, hla, if_true, w_succ (show k < 9223372036854775807 by omega)]
      · have h2b : (S[k].1 == a1) = false := beq_false_of_ne h2
        simp only [Option.bind_some, cond_true, cond_false, h2b, fa127, md127, fa94, md94, Bool.and_self, decide_true, Bool.and_false, Bool.false_eq_true, if_false, w_succ (show k < 9223372036854775807 by omega)]
    · rw [decide_eq_false h1]
      simp only [Option.bind_some, cond_true, cond_false, fa127, md127, fa94, md94, Bool.and_self, decide_true, Bool.false_and, Bool.false_eq_true, if_false, w_succ (show k < 9223372036854775807 by omega)]) (fun acc _ => by
    simp only [R36x506, List.length_map, ge_range, cond_false, fa127, md127, fa94, md94, decide_true, Bool.and_self, Bool.and_true, cond_true, Option.bind_some]) N [] 0 (Nat.zero_le _) (by unfold Big at hN; omega) (Nat.zero_le _)
  have key' : loopR (R36x506 N a1 a2 ((), S)) N ([], 0, S) = _ := key
  rw [key', List.drop_zero]
  congr 2
  have gen : ∀ (l : List P3) (s : List Six), l.foldl (fun acc p => if comm S a1 a2 p then acc ++ [(p.1, p.2.1, p.2.2, a2, p.2.1, p.2.2)] else acc) s = s ++ (l.filter (comm S a1 a2)).map (fun p => (p.1, p.2.1, p.2.2, a2, p.2.1, p.2.2)) := by
    intro l
    induction l with
    | nil => intro s; simp
    | cons p l ih =>
      intro s
      rw [List.foldl_cons, ih, List.filter_cons]
      cases comm S a1 a2 p <;> simp
  rw [gen, List.nil_append]
end
end
end Go.Proofs.YtfiopgedfcaodaaGreatDoor
