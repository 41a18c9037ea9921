/- Plain laws: words that are balanced. -/
import Derived.Test.YtbfappllfpngdaaGreatDoorTapPj
set_option linter.all false
namespace Go.Proofs.YtbfappllfpngdaaGreatDoor
open Go Go.Am
set_option maxRecDepth 100000

/-! ### The least and the greatest of some numbers -/

def extS (f : Nat → Int) (s : Int × Int) (i : Nat) : Int × Int := (if f i < s.1 then f i else s.1, if f i > s.2 then f i else s.2)
def ext (f : Nat → Int) (n : Nat) : Int × Int := (List.range n).foldl (extS f) (f 0, f 0)
theorem ext_start (f : Nat → Int) {n : Nat} (hn : 0 < n) {a b : Int} (ha : f 0 ≤ a) (hb : b ≤ f 0) : (List.range n).foldl (extS f) (a, b) = ext f n := by
  obtain ⟨m, rfl⟩ : ∃ m, n = m + 1 := ⟨n - 1, by omega⟩
  unfold ext
  rw [List.range_succ_eq_map, List.foldl_cons, List.foldl_cons]
  congr 1
  unfold extS
  apply Prod.ext
  · show (if f 0 < a then f 0 else a) = (if f 0 < f 0 then f 0 else f 0)
    split <;> split <;> omega
  · show (if f 0 > b then f 0 else b) = (if f 0 > f 0 then f 0 else f 0)
    split <;> split <;> omega
theorem ext_range (f : Nat → Int) {B : Int} (hf : ∀ i, 0 ≤ f i ∧ f i ≤ B) : ∀ (l : List Nat) (s : Int × Int), (0 ≤ s.1 ∧ s.1 ≤ B ∧ 0 ≤ s.2 ∧ s.2 ≤ B) → 0 ≤ (l.foldl (extS f) s).1 ∧ (l.foldl (extS f) s).1 ≤ B ∧ 0 ≤ (l.foldl (extS f) s).2 ∧ (l.foldl (extS f) s).2 ≤ B
  | [], s, h => h
  | i :: l, s, h => by
    rw [List.foldl_cons]
    apply ext_range f hf l
    have := hf i
    unfold extS
    refine ⟨?_, ?_, ?_, ?_⟩ <;> (dsimp only; split <;> omega)

/-! ### Windows -/

/-- How often a letter lies in the k letters from place i, in the word that is written twice. -/
def cntW (w : List UInt8) (c : UInt8) (k i : Nat) : Int := (((subA i (i + k) (w ++ w)).count c : Nat) : Int)
theorem cntW_le (w : List UInt8) (c : UInt8) (k i : Nat) : 0 ≤ cntW w c k i ∧ cntW w c k i ≤ k := by
  unfold cntW
  have h1 : (subA i (i + k) (w ++ w)).count c ≤ (subA i (i + k) (w ++ w)).length := List.count_le_length
  have h2 : (subA i (i + k) (w ++ w)).length ≤ k := by
    unfold subA
    rw [List.length_drop, List.length_take]
    omega
  omega
def exW (w : List UInt8) (c : UInt8) (k : Nat) : Int × Int := ext (cntW w c k) w.length
def unevenW (w : List UInt8) (c : UInt8) (k : Nat) : Bool := decide ((exW w c k).2 - (exW w c k).1 > 1)
theorem exW_range (w : List UInt8) (c : UInt8) (k : Nat) : 0 ≤ (exW w c k).1 ∧ (exW w c k).1 ≤ k ∧ 0 ≤ (exW w c k).2 ∧ (exW w c k).2 ≤ k :=
  ext_range _ (fun i => cntW_le w c k i) _ _ (by have := cntW_le w c k 0; dsimp only; omega)
def evenK (w : List UInt8) (k : Nat) : Bool := !unevenW w 78 k && (!unevenW w 66 k && !unevenW w 84 k)
def balFrom (w : List UInt8) : Nat → Nat → Bool
  | 0, _ => true
  | f + 1, k => if evenK w k = true then balFrom w f (k + 1) else false
def balB (w : List UInt8) : Bool := balFrom w (w.length - 1) 1

section
variable {N : Nat} (hN : Big N) (w : List UInt8) (hw : w.length ≤ 70) (hpos : 0 < w.length) (q : Int) (k : Nat) (hk : k ≤ w.length)

theorem T100_one (N : Nat) (s : List UInt8) (c : UInt8) : T100 N (s, [c]) = some ((s.count c : Nat) : Int) := rfl

include hw hk in
theorem win_ok {i : Nat} (hi : i < w.length) : IntKind.wrap .i64 ((i : Int) + (k : Int)) = ((i + k : Nat) : Int)
    ∧ (decide ((0 : Int) ≤ ((i + k : Nat) : Int) ∧ ((i + k : Nat) : Int) ≤ ((w ++ w).length : Int)) = true)
    ∧ (decide ((0 : Int) ≤ (i : Int) ∧ (i : Int) ≤ ((i + k : Nat) : Int)) = true) := by
  refine ⟨by rw [w64 (by omega)]; omega, ?_, ?_⟩
  · rw [decide_eq_true_eq, List.length_append]; omega
  · rw [decide_eq_true_eq]; omega

include hN hw hk in
theorem R44_win (c : UInt8) : loopR (V := Int × Int × Int × (List UInt8) × Int × Int × (List UInt8)) (X := (Int × Int × (List UInt8) × Int × Int × (List UInt8))) (R44x16028474 N w) N (cntW w c k 0, cntW w c k 0, 0, w ++ w, q, (k : Int), [c]) = some ((exW w c k).1, (exW w c k).2, w ++ w, q, (k : Int), [c]) := by
  have key := loopR_foldl (rd := R44x16028474 N w) (List.range w.length) (fun (s : Int × Int) i => (s.1, s.2, (i : Int), w ++ w, q, (k : Int), [c])) (extS (cntW w c k)) (fun s => (s.1, s.2, w ++ w, q, (k : Int), [c])) (fun _ _ => True)
    (fun s i hi _ => by
      refine ⟨?_, trivial⟩
      rw [List.length_range] at hi
      have e : (List.range w.length)[i]'(by rw [List.length_range]; exact hi) = i := List.getElem_range _
      obtain ⟨w1, w2, w3⟩ := win_ok w hw k hk hi
      rw [e]
      simp only [R44x16028474, lt_range hi, cond_true, w1, w2, Int.toNat_natCast, w3, Bool.and_self, T100_one, Option.bind_some, w_succ (show i < 9223372036854775807 by omega)]
      rfl)
    (fun s _ => by
      rw [List.length_range]
      simp only [R44x16028474, ge_range, cond_false]) N (cntW w c k 0, cntW w c k 0) 0 (Nat.zero_le _) (by rw [List.length_range]; unfold Big at hN; omega) trivial
  rw [List.drop_zero] at key
  exact key

include hN hw hk in
theorem R44b_win (c : UInt8) : loopR (V := Int × Int × Int × (List UInt8) × Int × (List UInt8)) (X := (Int × Int × (List UInt8) × Int × (List UInt8))) (R44x16028474b N w) N (cntW w c k 0, cntW w c k 0, 0, w ++ w, (k : Int), [c]) = some ((exW w c k).1, (exW w c k).2, w ++ w, (k : Int), [c]) := by
  have key := loopR_foldl (rd := R44x16028474b N w) (List.range w.length) (fun (s : Int × Int) i => (s.1, s.2, (i : Int), w ++ w, (k : Int), [c])) (extS (cntW w c k)) (fun s => (s.1, s.2, w ++ w, (k : Int), [c])) (fun _ _ => True)
    (fun s i hi _ => by
      refine ⟨?_, trivial⟩
      rw [List.length_range] at hi
      have e : (List.range w.length)[i]'(by rw [List.length_range]; exact hi) = i := List.getElem_range _
      obtain ⟨w1, w2, w3⟩ := win_ok w hw k hk hi
      rw [e]
      simp only [R44x16028474b, lt_range hi, cond_true, w1, w2, Int.toNat_natCast, w3, Bool.and_self, T100_one, Option.bind_some, w_succ (show i < 9223372036854775807 by omega)]
      rfl)
    (fun s _ => by
      rw [List.length_range]
      simp only [R44x16028474b, ge_range, cond_false]) N (cntW w c k 0, cntW w c k 0) 0 (Nat.zero_le _) (by rw [List.length_range]; unfold Big at hN; omega) trivial
  rw [List.drop_zero] at key
  exact key

include hw hk in
theorem uneven_wrap (c : UInt8) : decide (IntKind.wrap .i64 ((exW w c k).2 - (exW w c k).1) > 1) = unevenW w c k := by
  obtain ⟨a, b, d, e⟩ := exW_range w c k
  rw [w64 (by omega)]
  rfl

theorem fs9' (x : List UInt8) : Pat.fits p9 (AV.str x) = true := rfl
theorem cnt0 (c : UInt8) : (((subA 0 k (w ++ w)).count c : Nat) : Int) = cntW w c k 0 := by unfold cntW; rw [Nat.zero_add]

include hN hw hk hpos in
theorem R44_letter (j : Nat) (c : UInt8) (hj : j < 3) (hc : nthD [(AV.str ([78] : List UInt8)), (AV.str ([66] : List UInt8)), (AV.str ([84] : List UInt8))] j = AV.str [c]) :
    R44x7826 N w ((j : Int), w ++ w, q, (k : Int)) = some (if unevenW w c k = true then .inr (.inl (false, 0, w ++ w, q, (k : Int))) else .inl (((j + 1 : Nat) : Int), w ++ w, q, (k : Int))) := by
  obtain ⟨w1, w2, w3⟩ := win_ok w hw k hk hpos
  have h3 : decide ((j : Int) < 3) = true := by rw [decide_eq_true_eq]; omega
  have h4 : decide ((0 : Int) ≤ (j : Int) ∧ (j : Int) < (([(AV.str ([78] : List UInt8)), (AV.str ([66] : List UInt8)), (AV.str ([84] : List UInt8))]).length : Int)) = true := by
    rw [decide_eq_true_eq]; show 0 ≤ (j : Int) ∧ (j : Int) < 3; omega
  have e1 : IntKind.wrap .i64 (0 + (k : Int)) = (k : Int) := by rw [w64 (by omega)]; omega
  have e2 : decide ((0 : Int) ≤ (k : Int) ∧ (k : Int) ≤ ((w ++ w).length : Int)) = true := by rw [decide_eq_true_eq, List.length_append]; omega
  have e3 : decide ((0 : Int) ≤ 0 ∧ (0 : Int) ≤ ((k : Nat) : Int)) = true := by rw [decide_eq_true_eq]; omega
  simp only [R44x7826, h3, h4, hc, fs9', Bool.and_self, cond_true, e1, e2, Int.toNat_natCast, e3, Int.toNat_zero, ds9, T100_one, Option.bind_some, cnt0, R44_win hN w hw q k hk c, uneven_wrap w hw k hk, w_succ (show j < 9223372036854775807 by omega)]
  cases unevenW w c k <;> rfl

include hN hw hk hpos in
theorem R44b_letter (j : Nat) (c : UInt8) (hj : j < 3) (hc : nthD [(AV.str ([78] : List UInt8)), (AV.str ([66] : List UInt8)), (AV.str ([84] : List UInt8))] j = AV.str [c]) :
    R44x7826b N w ((j : Int), w ++ w, (k : Int)) = some (if unevenW w c k = true then .inr (.inl (false, 0, w ++ w, (k : Int))) else .inl (((j + 1 : Nat) : Int), w ++ w, (k : Int))) := by
  obtain ⟨w1, w2, w3⟩ := win_ok w hw k hk hpos
  have h3 : decide ((j : Int) < 3) = true := by rw [decide_eq_true_eq]; omega
  have h4 : decide ((0 : Int) ≤ (j : Int) ∧ (j : Int) < (([(AV.str ([78] : List UInt8)), (AV.str ([66] : List UInt8)), (AV.str ([84] : List UInt8))]).length : Int)) = true := by
    rw [decide_eq_true_eq]; show 0 ≤ (j : Int) ∧ (j : Int) < 3; omega
  have e1 : IntKind.wrap .i64 (0 + (k : Int)) = (k : Int) := by rw [w64 (by omega)]; omega
  have e2 : decide ((0 : Int) ≤ (k : Int) ∧ (k : Int) ≤ ((w ++ w).length : Int)) = true := by rw [decide_eq_true_eq, List.length_append]; omega
  have e3 : decide ((0 : Int) ≤ 0 ∧ (0 : Int) ≤ ((k : Nat) : Int)) = true := by rw [decide_eq_true_eq]; omega
  simp only [R44x7826b, h3, h4, hc, fs9', Bool.and_self, cond_true, e1, e2, Int.toNat_natCast, e3, Int.toNat_zero, ds9, T100_one, Option.bind_some, cnt0, R44b_win hN w hw k hk c, uneven_wrap w hw k hk, w_succ (show j < 9223372036854775807 by omega)]
  cases unevenW w c k <;> rfl

include hN hw hk hpos in
theorem R44_letters (n : Nat) (hn : 4 ≤ n) : loopR (V := Int × (List UInt8) × Int × Int) (X := (Bool × Int × (List UInt8) × Int × Int) ⊕ ((List UInt8) × Int × Int)) (R44x7826 N w) n (0, w ++ w, q, (k : Int)) = some (if evenK w k = true then .inr (w ++ w, q, (k : Int)) else .inl (false, 0, w ++ w, q, (k : Int))) := by
  obtain ⟨m, rfl⟩ : ∃ m, n = m + 4 := ⟨n - 4, by omega⟩
  have s0 := R44_letter hN w hw hpos q k hk 0 78 (by omega) rfl
  have s1 := R44_letter hN w hw hpos q k hk 1 66 (by omega) rfl
  have s2 := R44_letter hN w hw hpos q k hk 2 84 (by omega) rfl
  have s3 : R44x7826 N w (((2 + 1 : Nat) : Int), w ++ w, q, (k : Int)) = some (.inr (.inr (w ++ w, q, (k : Int)))) := rfl
  unfold evenK
  rw [loopR_succ]
  refine (congrArg (fun o => Option.bind o _) s0).trans ?_
  cases unevenW w 78 k
  · simp only [Bool.false_eq_true, if_false, Option.bind_some, Sum.elim_inl, Bool.not_false, Bool.true_and]
    rw [loopR_succ, s1]
    cases unevenW w 66 k
    · simp only [Bool.false_eq_true, if_false, Option.bind_some, Sum.elim_inl, Bool.not_false, Bool.true_and]
      rw [loopR_succ, s2]
      cases unevenW w 84 k
      · simp only [Bool.false_eq_true, if_false, Option.bind_some, Sum.elim_inl, Bool.not_false]
        rw [loopR_succ, s3]
        rfl
      · rfl
    · rfl
  · rfl

include hN hw hk hpos in
theorem R44b_letters (n : Nat) (hn : 4 ≤ n) : loopR (V := Int × (List UInt8) × Int) (X := (Bool × Int × (List UInt8) × Int) ⊕ ((List UInt8) × Int)) (R44x7826b N w) n (0, w ++ w, (k : Int)) = some (if evenK w k = true then .inr (w ++ w, (k : Int)) else .inl (false, 0, w ++ w, (k : Int))) := by
  obtain ⟨m, rfl⟩ : ∃ m, n = m + 4 := ⟨n - 4, by omega⟩
  have s0 := R44b_letter hN w hw hpos k hk 0 78 (by omega) rfl
  have s1 := R44b_letter hN w hw hpos k hk 1 66 (by omega) rfl
  have s2 := R44b_letter hN w hw hpos k hk 2 84 (by omega) rfl
  have s3 : R44x7826b N w (((2 + 1 : Nat) : Int), w ++ w, (k : Int)) = some (.inr (.inr (w ++ w, (k : Int)))) := rfl
  unfold evenK
  rw [loopR_succ]
  refine (congrArg (fun o => Option.bind o _) s0).trans ?_
  cases unevenW w 78 k
  · simp only [Bool.false_eq_true, if_false, Option.bind_some, Sum.elim_inl, Bool.not_false, Bool.true_and]
    rw [loopR_succ, s1]
    cases unevenW w 66 k
    · simp only [Bool.false_eq_true, if_false, Option.bind_some, Sum.elim_inl, Bool.not_false, Bool.true_and]
      rw [loopR_succ, s2]
      cases unevenW w 84 k
      · simp only [Bool.false_eq_true, if_false, Option.bind_some, Sum.elim_inl, Bool.not_false]
        rw [loopR_succ, s3]
        rfl
      · rfl
    · rfl
  · rfl
end

section
variable {N : Nat} (hN : Big N) (w : List UInt8) (hw : w.length ≤ 70) (hpos : 0 < w.length)
include hN hw hpos

theorem R44_outer (q : Int) : ∀ (f k n : Nat), k + 1 + f = w.length → f + 1 ≤ n → loopR (V := Int × (List UInt8) × Int) (X := ((List UInt8) × Int) ⊕ (Bool × Int × (List UInt8) × Int)) (R44x122 N w) n ((k : Int), w ++ w, q) = some (if balFrom w f (k + 1) = true then .inl (w ++ w, q) else .inr (false, 0, w ++ w, q)) := by
  intro f
  induction f with
  | zero =>
    intro k n h1 h2
    obtain ⟨m, rfl⟩ : ∃ m, n = m + 1 := ⟨n - 1, by omega⟩
    have e : decide (((k + 1 : Nat) : Int) < ((w.length : Nat) : Int)) = false := by rw [decide_eq_false_iff_not]; omega
    rw [loopR_succ]
    simp only [R44x122, w_succ (show k < 9223372036854775807 by omega), e, cond_false, balFrom]
    rfl
  | succ f ih =>
    intro k n h1 h2
    obtain ⟨m, rfl⟩ : ∃ m, n = m + 1 := ⟨n - 1, by omega⟩
    have e : decide (((k + 1 : Nat) : Int) < ((w.length : Nat) : Int)) = true := by rw [decide_eq_true_eq]; omega
    rw [loopR_succ]
    simp only [R44x122, w_succ (show k < 9223372036854775807 by omega), e, cond_true, R44_letters hN w hw hpos q (k + 1) (by omega) N (by unfold Big at hN; omega), Option.bind_some, balFrom]
    by_cases he : evenK w (k + 1) = true
    · simp only [he, if_true]
      exact ih (k + 1) m (by omega) (by omega)
    · simp only [he, if_false]
      rfl
end

theorem T44_bal {N : Nat} (hN : Big N) (w : List UInt8) : T44 N w = some (if wordErr w = 0 then (balB w, 0) else (false, wordErr w)) := by
  rw [T44_eq, T21_word hN]
  simp only [Option.bind_some]
  by_cases h : wordErr w = 0
  · obtain ⟨h1, h2, h3⟩ := wordErr_ok h
    have hpos : 0 < w.length := by cases w; exact absurd rfl h1; simp
    have e0 : decide (w.length + w.length ≤ 9223372036854775807) = true := by rw [decide_eq_true_eq]; omega
    simp only [h, bne_self_eq_false, cond_false, e0, cond_true, if_true]
    by_cases hl : w.length = 1
    · have e1 : decide ((1 : Int) < ((w.length : Nat) : Int)) = false := by rw [decide_eq_false_iff_not]; omega
      have e2 : balB w = true := by unfold balB; rw [hl]; rfl
      simp only [e1, cond_false, e2]
      rfl
    · have e1 : decide ((1 : Int) < ((w.length : Nat) : Int)) = true := by rw [decide_eq_true_eq]; omega
      obtain ⟨f, hf⟩ : ∃ f, w.length = f + 2 := ⟨w.length - 2, by omega⟩
      have r1 := R44b_letters hN w (by omega) hpos 1 (by omega) N (by unfold Big at hN; omega)
      have r2 := R44_outer hN w (by omega) hpos 1 f 1 N (by omega) (by unfold Big at hN; omega)
      have r1' : loopR (V := Int × (List UInt8) × Int) (X := (Bool × Int × (List UInt8) × Int) ⊕ ((List UInt8) × Int)) (R44x7826b N w) N (0, w ++ w, 1) = some (if evenK w 1 = true then .inr (w ++ w, 1) else .inl (false, 0, w ++ w, 1)) := r1
      have r2' : loopR (V := Int × (List UInt8) × Int) (X := ((List UInt8) × Int) ⊕ (Bool × Int × (List UInt8) × Int)) (R44x122 N w) N (1, w ++ w, 1) = some (if balFrom w f 2 = true then .inl (w ++ w, 1) else .inr (false, 0, w ++ w, 1)) := r2
      simp only [e1, cond_true, r1', Option.bind_some]
      unfold balB
      rw [hf]
      show _ = some (balFrom w (f + 1) 1, 0)
      unfold balFrom
      cases evenK w 1
      · rfl
      · simp only [if_true, Sum.elim_inr, Option.bind_some, Sum.elim_inl]
        rw [r2']
        cases balFrom w f 2 <;> rfl
  · simp only [h, bne0 h, cond_true, if_false]

/-! ### The reference -/

section
variable {N : Nat} (hN : Big N)
include hN
theorem T105_count (s : List UInt8) (c : UInt8) (hs : s.length ≤ 1000) : T105 N (s, ((c.toNat : Nat) : Int)) = some ((s.count c : Nat) : Int) := by
  rw [T105_eq]
  have key := loopR_foldl (rd := R105x58 N s ((c.toNat : Nat) : Int)) s (fun (n : Nat) i => ((n : Int), (i : Int))) (fun n x => if x = c then n + 1 else n) (fun n => (n : Int)) (fun n i => n ≤ i)
    (fun n i hi hP => by
      refine ⟨?_, by split <;> omega⟩
      have b : decide ((0 : Int) ≤ (i : Int) ∧ (i : Int) < (s.length : Int)) = true := by rw [decide_eq_true_eq]; omega
      have g : s.getD i 0 = s[i] := by rw [List.getD_eq_getElem?_getD, List.getElem?_eq_getElem hi]; rfl
      simp only [R105x58, lt_range hi, cond_true, b, Int.toNat_natCast, g]
      by_cases e : s[i] = c
      · have e' : (((s[i].toNat : Nat) : Int) == ((c.toNat : Nat) : Int)) = true := by rw [e]; simp
        have i1 : (if s[i] = c then n + 1 else n) = n + 1 := if_pos e
        simp only [e', cond_true, Option.bind_some, i1, w_succ (show n < 9223372036854775807 by omega), w_succ (show i < 9223372036854775807 by omega)]
      · have e' : (((s[i].toNat : Nat) : Int) == ((c.toNat : Nat) : Int)) = false := by
          rw [beq_eq_false_iff_ne]
          intro h
          exact e (UInt8.toNat_inj.1 (by omega))
        have i1 : (if s[i] = c then n + 1 else n) = n := if_neg e
        simp only [e', cond_false, Option.bind_some, i1, w_succ (show i < 9223372036854775807 by omega)])
    (fun n hP => by simp only [R105x58, ge_range, cond_false]) N 0 0 (Nat.zero_le _) (by unfold Big at hN; omega) (Nat.le_refl _)
  rw [List.drop_zero] at key
  have hc : ∀ (l : List UInt8) (n : Nat), l.foldl (fun n x => if x = c then n + 1 else n) n = n + l.count c := by
    intro l
    induction l with
    | nil => intro n; rfl
    | cons x l ih =>
      intro n
      rw [List.foldl_cons, ih, List.count_cons]
      by_cases e : x = c
      · simp [e]; omega
      · simp [e]
  rw [hc, Nat.zero_add] at key
  have key' : loopR (V := Int × Int) (X := Int) (R105x58 N s ((c.toNat : Nat) : Int)) N (0, 0) = some ((s.count c : Nat) : Int) := key
  rw [key']
  rfl
end

section
variable {N : Nat} (hN : Big N) (w : List UInt8) (hw : w.length ≤ 70) (hpos : 0 < w.length)
include hN hw hpos

theorem R52_win (k : Nat) (hk : k ≤ w.length) (j : Nat) (c : UInt8) (hj : j < 3) (hc : ([78, 66, 84] : List UInt8).getD j 0 = c) : loopR (V := Int × Int × Int) (X := (Int × Int)) (R52x2003530 N w (k : Int) (j : Int)) N ((k : Int), 0, 0) = some (exW w c k) := by
  have key := loopR_foldl (rd := R52x2003530 N w (k : Int) (j : Int)) (List.range w.length) (fun (s : Int × Int) i => (s.1, s.2, (i : Int))) (extS (cntW w c k)) (fun s => s) (fun _ _ => True)
    (fun s i hi _ => by
      refine ⟨?_, trivial⟩
      rw [List.length_range] at hi
      have e : (List.range w.length)[i]'(by rw [List.length_range]; exact hi) = i := List.getElem_range _
      obtain ⟨w1, w2, w3⟩ := win_ok w hw k hk hi
      have b : decide ((0 : Int) ≤ (j : Int) ∧ (j : Int) < (([78, 66, 84] : List UInt8).length : Int)) = true := by rw [decide_eq_true_eq]; show 0 ≤ (j : Int) ∧ (j : Int) < 3; omega
      have hl : (subA i (i + k) (w ++ w)).length ≤ 1000 := by unfold subA; rw [List.length_drop, List.length_take, List.length_append]; omega
      rw [e]
      simp only [R52x2003530, lt_range hi, cond_true, w1, w2, Int.toNat_natCast, w3, Bool.and_self, b, hc, T105_count hN _ c hl, Option.bind_some, w_succ (show i < 9223372036854775807 by omega)]
      rfl)
    (fun s _ => by
      rw [List.length_range]
      simp only [R52x2003530, ge_range, cond_false]) N ((k : Int), 0) 0 (Nat.zero_le _) (by rw [List.length_range]; unfold Big at hN; omega) trivial
  rw [List.drop_zero, ext_start _ hpos (cntW_le w c k 0).2 (cntW_le w c k 0).1] at key
  exact key

theorem R52_letter (k : Nat) (hk : k ≤ w.length) (j : Nat) (c : UInt8) (hj : j < 3) (hc : ([78, 66, 84] : List UInt8).getD j 0 = c) : R52x7826 N w (k : Int) (j : Int) = some (if unevenW w c k = true then .inr (.inl false) else .inl ((j + 1 : Nat) : Int)) := by
  have h3 : decide ((j : Int) < (((([78, 66, 84] : List UInt8)).length : Nat) : Int)) = true := by rw [decide_eq_true_eq]; show (j : Int) < 3; omega
  simp only [R52x7826, h3, cond_true, R52_win hN w hw hpos k hk j c hj hc, Option.bind_some, uneven_wrap w hw k hk, w_succ (show j < 9223372036854775807 by omega)]
  cases unevenW w c k <;> rfl

theorem R52_letters (k : Nat) (hk : k ≤ w.length) (n : Nat) (hn : 4 ≤ n) : loopR (V := Int) (X := Bool ⊕ Unit) (R52x7826 N w (k : Int)) n 0 = some (if evenK w k = true then .inr () else .inl false) := by
  obtain ⟨m, rfl⟩ : ∃ m, n = m + 4 := ⟨n - 4, by omega⟩
  have s0 := R52_letter hN w hw hpos k hk 0 78 (by omega) rfl
  have s1 := R52_letter hN w hw hpos k hk 1 66 (by omega) rfl
  have s2 := R52_letter hN w hw hpos k hk 2 84 (by omega) rfl
  have s3 : R52x7826 N w (k : Int) ((2 + 1 : Nat) : Int) = some (.inr (.inr ())) := rfl
  unfold evenK
  rw [loopR_succ]
  refine (congrArg (fun o => Option.bind o _) s0).trans ?_
  cases unevenW w 78 k
  · simp only [Bool.false_eq_true, if_false, Option.bind_some, Sum.elim_inl, Bool.not_false, Bool.true_and]
    rw [loopR_succ, s1]
    cases unevenW w 66 k
    · simp only [Bool.false_eq_true, if_false, Option.bind_some, Sum.elim_inl, Bool.not_false, Bool.true_and]
      rw [loopR_succ, s2]
      cases unevenW w 84 k
      · simp only [Bool.false_eq_true, if_false, Option.bind_some, Sum.elim_inl, Bool.not_false]
        rw [loopR_succ, s3]
        rfl
      · rfl
    · rfl
  · rfl

theorem R52_outer : ∀ (f k n : Nat), k + f = w.length → f + 1 ≤ n → loopR (V := Int) (X := Bool ⊕ Unit) (R52x122 N w) n (k : Int) = some (if balFrom w f k = true then .inr () else .inl false) := by
  intro f
  induction f with
  | zero =>
    intro k n h1 h2
    obtain ⟨m, rfl⟩ : ∃ m, n = m + 1 := ⟨n - 1, by omega⟩
    have e : decide ((k : Int) < ((w.length : Nat) : Int)) = false := by rw [decide_eq_false_iff_not]; omega
    rw [loopR_succ]
    simp only [R52x122, e, cond_false, balFrom]
    rfl
  | succ f ih =>
    intro k n h1 h2
    obtain ⟨m, rfl⟩ : ∃ m, n = m + 1 := ⟨n - 1, by omega⟩
    have e : decide ((k : Int) < ((w.length : Nat) : Int)) = true := by rw [decide_eq_true_eq]; omega
    rw [loopR_succ]
    simp only [R52x122, w_succ (show k < 9223372036854775807 by omega), e, cond_true, R52_letters hN w hw hpos k (by omega) N (by unfold Big at hN; omega), Option.bind_some, balFrom]
    by_cases he : evenK w k = true
    · simp only [he, if_true]
      exact ih (k + 1) m (by omega) (by omega)
    · simp only [he, if_false]
      rfl

theorem T52_bal : T52 N w = some (balB w) := by
  rw [T52_eq]
  have e0 : decide (w.length + w.length ≤ 9223372036854775807) = true := by rw [decide_eq_true_eq]; omega
  have r := R52_outer hN w hw hpos (w.length - 1) 1 N (by omega) (by unfold Big at hN; omega)
  have r' : loopR (V := Int) (X := Bool ⊕ Unit) (R52x122 N w) N 1 = some (if balB w = true then .inr () else .inl false) := r
  simp only [e0, cond_true, r', Option.bind_some]
  cases balB w <;> rfl
end
end Go.Proofs.YtbfappllfpngdaaGreatDoor
