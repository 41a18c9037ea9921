/- Plain laws: vectors and rates. -/
import Derived.Test.YtbfappllfpngdaaGreatDoorTapPc
set_option linter.all false
namespace Go.Proofs.YtbfappllfpngdaaGreatDoor
open Go Go.Am
set_option maxRecDepth 100000

def stepI (b : UInt8) : Int × Int := if b = 78 then (0, 2) else if b = 66 then (1, 1) else (2, 0)
def addV (a : Int × Int) (b : UInt8) : Int × Int := (a.1 + (stepI b).1, a.2 + (stepI b).2)
/-- The vector of a word. -/
def vec (w : List UInt8) : Int × Int := w.foldl addV (0, 0)

theorem toNat_eq (b x : UInt8) : (((b.toNat : Nat) : Int) == ((x.toNat : Nat) : Int)) = decide (b = x) := by
  by_cases h : b = x
  · subst h; simp
  · have h2 : (b.toNat : Int) ≠ (x.toNat : Int) := fun e => h (UInt8.toNat_inj.1 (by omega))
    simp [h, h2]

theorem T98_step (N : Nat) (b : UInt8) : T98 N (b.toNat : Int) = some (stepI b) := by
  rw [T98_eq]
  have h1 : (((b.toNat : Nat) : Int) == 78) = decide (b = 78) := toNat_eq b 78
  have h2 : (((b.toNat : Nat) : Int) == 66) = decide (b = 66) := toNat_eq b 66
  rw [h1, h2]
  unfold stepI
  by_cases e1 : b = 78
  · simp [e1]
  · by_cases e2 : b = 66 <;> simp [e1, e2]

theorem stepI_ok (b : UInt8) : 0 ≤ (stepI b).1 ∧ 0 ≤ (stepI b).2 ∧ (stepI b).1 + (stepI b).2 = 2 := by
  unfold stepI
  split
  · simp
  · split <;> simp

theorem vec_fold (w : List UInt8) : ∀ a : Int × Int, 0 ≤ a.1 → 0 ≤ a.2 → 0 ≤ (w.foldl addV a).1 ∧ 0 ≤ (w.foldl addV a).2 ∧ (w.foldl addV a).1 + (w.foldl addV a).2 = a.1 + a.2 + 2 * w.length := by
  induction w with
  | nil => intro a h1 h2; simp [h1, h2]
  | cons b w ih =>
    intro a h1 h2
    obtain ⟨s1, s2, s3⟩ := stepI_ok b
    obtain ⟨q1, q2, q3⟩ := ih (addV a b) (by unfold addV; simp only; omega) (by unfold addV; simp only; omega)
    refine ⟨q1, q2, ?_⟩
    rw [List.foldl_cons, q3, List.length_cons]
    unfold addV
    simp only
    omega
theorem vec_ok (w : List UInt8) : 0 ≤ (vec w).1 ∧ 0 ≤ (vec w).2 ∧ (vec w).1 + (vec w).2 = 2 * w.length := by
  have := vec_fold w (0, 0) (by simp) (by simp)
  unfold vec
  simpa using this

/-- What holds of a sum after k letters. -/
def VOk (a : Int × Int) (k : Nat) : Prop := 0 ≤ a.1 ∧ 0 ≤ a.2 ∧ a.1 + a.2 = 2 * k
theorem VOk.add {a : Int × Int} {k : Nat} (h : VOk a k) (b : UInt8) : VOk (addV a b) (k + 1) := by
  obtain ⟨h1, h2, h3⟩ := h
  obtain ⟨s1, s2, s3⟩ := stepI_ok b
  unfold VOk addV
  simp only
  refine ⟨by omega, by omega, by omega⟩

theorem T63_vec {N : Nat} (hN : Big N) (w : List UInt8) (hw : w.length ≤ 1000000) : T63 N w = some (vec w) := by
  rw [T63_eq]
  have key := loopR_foldl (rd := R63x58 N w) w (fun (a : Int × Int) k => ((k : Int), a.1, a.2)) addV (fun a => (a.1, a.2)) VOk
    (fun a k hk hP => by
      refine ⟨?_, hP.add _⟩
      obtain ⟨h1, h2, h3⟩ := hP
      obtain ⟨s1, s2, s3⟩ := stepI_ok w[k]
      simp only [R63x58, lt_range hk, in_range hk, cond_true, Int.toNat_natCast, getD_at hk, T98_step, Option.bind_some, w_succ (show k < 9223372036854775807 by omega)]
      rw [w64 (x := a.1 + (stepI w[k]).1) (by omega), w64 (x := a.2 + (stepI w[k]).2) (by omega)]
      rfl)
    (fun a _ => by simp only [R63x58, ge_range, cond_false]) N (0, 0) 0 (Nat.zero_le _) (by unfold Big at hN; omega) ⟨by simp, by simp, by simp⟩
  have key' : loopR (V := Int × Int × Int) (X := (Int × Int)) (R63x58 N w) N (0, 0, 0) = some ((vec w).1, (vec w).2) := key
  rw [key']
  rfl

/-- The steps, as the map has them. -/
def stepsM : List (Int × (Int × Int)) := [(78, (0, 2)), (66, (1, 1)), (84, (2, 0))]

theorem stepsM_get {c : UInt8} (h : isL c = true) : (mkeys .int (AV.int .i32 (c.toNat : Int)) (entriesL (List.map nM174 stepsM)) && Pat.fits p79 (mgetD .int (AV.int .i32 (c.toNat : Int)) (AV.agg [(AV.int .i64 0), (AV.int .i64 0)]) (entriesL (List.map nM174 stepsM)))) = true ∧
    d79 (mgetD .int (AV.int .i32 (c.toNat : Int)) (AV.agg [(AV.int .i64 0), (AV.int .i64 0)]) (entriesL (List.map nM174 stepsM))) = stepI c := by
  rcases isL_three h with rfl | rfl | rfl <;> exact ⟨rfl, rfl⟩

theorem stepsM_ok : (allFit (Pat.fits pM174) (mcells (entriesL (List.map nM174 stepsM))) && true) = true ∧ List.map dM174 (mcells (entriesL (List.map nM174 stepsM))) = stepsM ∧ (allX (entriesL (List.map nM174 stepsM)) && true) = true := ⟨rfl, rfl, rfl⟩

theorem T103_vec {N : Nat} (hN : Big N) (w : List UInt8) (hw : w.length ≤ 1000000) (hl : w.all isL = true) : T103 N w = some (vec w) := by
  rw [T103_eq]
  have e1 : mkeys .int (AV.int .i32 78) ([] : List (AV × AV)) = true := rfl
  have e2 : mkeys .int (AV.int .i32 66) (mputT .int (AV.int .i32 78) (AV.agg [(AV.int .i64 0), (AV.int .i64 2)]) ([] : List (AV × AV))) = true := rfl
  have e3 : mkeys .int (AV.int .i32 84) (mputT .int (AV.int .i32 66) (AV.agg [(AV.int .i64 1), (AV.int .i64 1)]) (mputT .int (AV.int .i32 78) (AV.agg [(AV.int .i64 0), (AV.int .i64 2)]) ([] : List (AV × AV)))) = true := rfl
  rw [e1, e2, e3]
  simp only [cond_true]
  have e4 : (((bif (allFit (Pat.fits pM174) (mcells (mputT .int (AV.int .i32 84) (AV.agg [(AV.int .i64 2), (AV.int .i64 0)]) (mputT .int (AV.int .i32 66) (AV.agg [(AV.int .i64 1), (AV.int .i64 1)]) (mputT .int (AV.int .i32 78) (AV.agg [(AV.int .i64 0), (AV.int .i64 2)]) ([] : List (AV × AV)))))) && true) then some (0, 0, (List.map dM174 (mcells (mputT .int (AV.int .i32 84) (AV.agg [(AV.int .i64 2), (AV.int .i64 0)]) (mputT .int (AV.int .i32 66) (AV.agg [(AV.int .i64 1), (AV.int .i64 1)]) (mputT .int (AV.int .i32 78) (AV.agg [(AV.int .i64 0), (AV.int .i64 2)]) ([] : List (AV × AV))))))), w, ((0 : Nat) : Int)) else none : Option (Int × Int × (List (Int × (Int × Int))) × (List UInt8) × Int)).bind fun w6 => bif (allX (mputT .int (AV.int .i32 84) (AV.agg [(AV.int .i64 2), (AV.int .i64 0)]) (mputT .int (AV.int .i32 66) (AV.agg [(AV.int .i64 1), (AV.int .i64 1)]) (mputT .int (AV.int .i32 78) (AV.agg [(AV.int .i64 0), (AV.int .i64 2)]) ([] : List (AV × AV))))) && true) then some w6 else none)) = some (0, 0, stepsM, w, ((0 : Nat) : Int)) := rfl
  rw [e4, Option.bind_some]
  obtain ⟨m1, m2, m3⟩ := stepsM_ok
  have key := loopR_foldl (rd := R103x122 N) w (fun (a : Int × Int) k => (a.1, a.2, stepsM, w, (k : Int))) addV (fun a => (a.1, a.2, stepsM, w, (w.length : Int))) VOk
    (fun a k hk hP => by
      refine ⟨?_, hP.add _⟩
      obtain ⟨h1, h2, h3⟩ := hP
      obtain ⟨s1, s2, s3⟩ := stepI_ok w[k]
      have hc : isL w[k] = true := List.all_eq_true.1 hl _ (List.getElem_mem hk)
      obtain ⟨g1, g2⟩ := stepsM_get hc
      obtain ⟨_, _, r3⟩ := rune_kind w k hk
      have r := r3 (.inl hc)
      simp only [R103x122, Int.toNat_natCast, blt_true hk, cond_true, r, g1, g2, m1, m2, m3, Option.bind_some]
      rw [w64 (x := a.1 + (stepI w[k]).1) (by omega), w64 (x := a.2 + (stepI w[k]).2) (by omega)]
      rfl)
    (fun a _ => by simp only [R103x122, Int.toNat_natCast, blt_false (Nat.lt_irrefl _), cond_false, m1, m2, m3, cond_true, Option.bind_some]) N (0, 0) 0 (Nat.zero_le _) (by unfold Big at hN; omega) ⟨by simp, by simp, by simp⟩
  have key' : loopR (V := Int × Int × (List (Int × (Int × Int))) × (List UInt8) × Int) (X := (Int × Int × (List (Int × (Int × Int))) × (List UInt8) × Int)) (R103x122 N) N (0, 0, stepsM, w, ((0 : Nat) : Int)) = some ((vec w).1, (vec w).2, stepsM, w, (w.length : Int)) := key
  rw [key']
  rfl

/-- The sign. -/
def sgn (x : Int) : Int := if x < 0 then -1 else if x > 0 then 1 else 0
theorem T119_sgn (N : Nat) (x : Int) : T119 N x = some (sgn x) := by
  rw [T119_eq]
  congr 1
  unfold sgn
  by_cases h1 : x < 0
  · have : x < 1 := by omega
    have h3 : ¬ x > -1 := by omega
    simp [h1, this, h3]
  · by_cases h2 : x > 0
    · have : ¬ x < 1 := by omega
      simp [h1, h2, this]
    · have : x = 0 := by omega
      subst this; rfl

def flatErr (w : List UInt8) : Int := if (vec w).2 = 0 then 6 else 0
theorem T117_flat {N : Nat} (hN : Big N) {w : List UInt8} (h : wordErr w = 0) : T117 N w = some (flatErr w) := by
  obtain ⟨h1, h2, h3⟩ := wordErr_ok h
  rw [T117_eq, T103_vec hN w (by omega) h3]
  simp only [Option.bind_some, T76_when]
  unfold flatErr
  by_cases h : (vec w).2 = 0 <;> simp [h]

def cross (a b : List UInt8) : Int := (vec a).1 * (vec b).2 - (vec b).1 * (vec a).2

theorem prod_bound {x y : Int} {m : Nat} (hx : 0 ≤ x ∧ x ≤ 2 * m) (hy : 0 ≤ y ∧ y ≤ 2 * m) (hm : m ≤ 1000) : 0 ≤ x * y ∧ x * y ≤ 4000000 := by
  refine ⟨Int.mul_nonneg hx.1 hy.1, ?_⟩
  refine Int.le_trans (Int.mul_le_mul_of_nonneg_right (show x ≤ 2000 by omega) hy.1) ?_
  omega

section
variable {N : Nat} (hN : Big N)
include hN
theorem T66_cmp (a b : List UInt8) : T66 N (a, b) = some (if firstNZ [wordErr a, wordErr b] = 0 then (if firstNZ [flatErr a, flatErr b] = 0 then (sgn (cross a b), 0) else (0, firstNZ [flatErr a, flatErr b])) else (0, firstNZ [wordErr a, wordErr b])) := by
  rw [T66_eq]
  simp only [T21_word hN, Option.bind_some, allFit, fi23, di23, List.map_cons, List.map_nil, Bool.and_self, cond_true, T75_first hN _ (show [_, _].length ≤ 9223372036854775806 by simp)]
  by_cases h : firstNZ [wordErr a, wordErr b] = 0
  · have hz := firstNZ_zero.1 h
    simp only [List.mem_cons, List.not_mem_nil, or_false, forall_eq_or_imp, forall_eq] at hz
    obtain ⟨z1, z2⟩ := hz
    obtain ⟨a1, a2, a3⟩ := wordErr_ok z1
    obtain ⟨b1, b2, b3⟩ := wordErr_ok z2
    have va := vec_ok a; have vb := vec_ok b
    simp only [h, bne_self_eq_false, cond_false, if_true, T117_flat hN z1, T117_flat hN z2, Option.bind_some, T103_vec hN a (by omega) a3, T103_vec hN b (by omega) b3]
    by_cases h2 : firstNZ [flatErr a, flatErr b] = 0
    · have p1 := prod_bound (x := (vec a).1) (y := (vec b).2) (m := 64) (by omega) (by omega) (by omega)
      have p2 := prod_bound (x := (vec b).1) (y := (vec a).2) (m := 64) (by omega) (by omega) (by omega)
      rw [w64 (x := (vec a).1 * (vec b).2) (by omega), w64 (x := (vec b).1 * (vec a).2) (by omega), w64 (by omega)]
      simp only [h2, bne_self_eq_false, cond_false, if_true, T119_sgn, Option.bind_some]
      rfl
    · simp [h2, bne0 h2]
  · simp [h, bne0 h]

theorem T65_rate (w : List UInt8) : T65 N w = some (if wordErr w = 0 then (if flatErr w = 0 then (low (vec w).1 (vec w).2, 0) else ((0, 0), flatErr w)) else ((0, 0), wordErr w)) := by
  rw [T65_eq, T21_word hN]
  simp only [Option.bind_some]
  by_cases h : wordErr w = 0
  · obtain ⟨h1, h2, h3⟩ := wordErr_ok h
    have v := vec_ok w
    simp only [h, bne_self_eq_false, cond_false, if_true, T117_flat hN h, Option.bind_some, T103_vec hN w (by omega) h3]
    by_cases h4 : flatErr w = 0
    · have h5 : (vec w).2 ≠ 0 := by intro e; unfold flatErr at h4; rw [if_pos e] at h4; cases h4
      simp only [h4, bne_self_eq_false, cond_false, if_true, T118_low hN v.1 (by omega) (show 0 < (vec w).2 by omega) (by omega), Option.bind_some]
    · simp [h4, bne0 h4]
  · simp [h, bne0 h]

theorem T46_vec (w : List UInt8) : T46 N w = some (if wordErr w = 0 then (vec w, 0) else ((0, 0), wordErr w)) := by
  rw [T46_eq, T21_word hN]
  simp only [Option.bind_some]
  by_cases h : wordErr w = 0
  · obtain ⟨h1, h2, h3⟩ := wordErr_ok h
    simp only [h, bne_self_eq_false, cond_false, if_true, Option.bind_some, T103_vec hN w (by omega) h3]
  · simp [h, bne0 h]

theorem T68_rate {w : List UInt8} (h : w.length ≤ 1000) : T68 N w = some (if flatErr w = 0 then (low (vec w).1 (vec w).2, true) else ((0, 0), false)) := by
  have v := vec_ok w
  rw [T68_eq, T63_vec hN w (by omega)]
  simp only [Option.bind_some]
  by_cases h4 : (vec w).2 = 0
  · simp [h4, flatErr]
  · simp only [beq0 h4, cond_false, T94_low hN v.1 (by omega) (show 0 < (vec w).2 by omega) (by omega), Option.bind_some]
    simp [h4, flatErr]

theorem T69_cmp {a b : List UInt8} (ha : a.length ≤ 1000) (hb : b.length ≤ 1000) : T69 N (a, b) = some (sgn (cross a b)) := by
  have va := vec_ok a; have vb := vec_ok b
  have p1 := prod_bound (x := (vec a).1) (y := (vec b).2) (m := 1000) (by omega) (by omega) (by omega)
  have p2 := prod_bound (x := (vec b).1) (y := (vec a).2) (m := 1000) (by omega) (by omega) (by omega)
  rw [T69_eq, T63_vec hN a (by omega), T63_vec hN b (by omega)]
  simp only [Option.bind_some]
  rw [w64 (x := (vec a).1 * (vec b).2) (by omega), w64 (x := (vec b).1 * (vec a).2) (by omega)]
  unfold sgn cross
  generalize (vec a).1 * (vec b).2 = x
  generalize (vec b).1 * (vec a).2 = y
  by_cases h1 : x < y
  · have : x - y < 0 := by omega
    simp [h1, this]
  · by_cases h2 : x > y
    · have h3 : ¬ x - y < 0 := by omega
      have h4 : x - y > 0 := by omega
      simp [h1, h2, h3, h4]
    · have h3 : ¬ x - y < 0 := by omega
      have h4 : ¬ x - y > 0 := by omega
      simp [h1, h2, h3, h4]

theorem TaperRates_true (a b : List UInt8) : T14 N (a, b) = some true := by
  rw [T14_eq]
  generalize hg : ((T15 N ()).bind fun y1 => (bif (!y1) then (some true) else (bif (decide ((((a).length : Nat) : Int) > 140)) then (some true) else (some (decide ((((b).length : Nat) : Int) > 140))))) : Option Bool) = g
  have hgs : ∃ c, g = some c := by
    rw [← hg]
    simp only [T15, Option.bind_some, Bool.not_true, cond_false]
    generalize decide ((a.length : Int) > 140) = b1
    cases b1 <;> exact ⟨_, rfl⟩
  obtain ⟨c, rfl⟩ := hgs
  cases c with
  | true => rfl
  | false =>
    simp only [Option.bind_some, cond_false, T46_vec hN, T65_rate hN, T66_cmp hN, T18_word hN, allFit, fi3, di3, List.map_cons, List.map_nil, Bool.and_self, cond_true, T67_first hN _ (show [_, _].length ≤ 9223372036854775806 by simp)]
    by_cases ha : wordErr a = 0
    · have la := (wordErr_ok ha).2.1
      have fa : flatErr a = 0 ∨ flatErr a = 6 := by unfold flatErr; split <;> simp
      have e1 : firstNZ [0, wordErr b] = wordErr b := by simp [firstNZ]; intro h; exact h.symm
      simp only [ha, e1, beq_self_eq_true, cond_true, if_true, T63_vec hN a (by omega), T68_rate hN (w := a) (by omega), Option.bind_some]
      by_cases hb : wordErr b = 0
      · have lb := (wordErr_ok hb).2.1
        have fb : flatErr b = 0 ∨ flatErr b = 6 := by unfold flatErr; split <;> simp
        simp only [hb, beq_self_eq_true, cond_true, if_true, T68_rate hN (w := b) (by omega), T69_cmp hN (a := a) (b := b) (by omega) (by omega), Option.bind_some]
        rcases fa with fa | fa <;> rcases fb with fb | fb <;> simp [fa, fb, T33_eq, T70_eq, firstNZ, Bool.cond_eq_ite]
      · rcases fa with fa | fa <;> simp [fa, hb, T33_eq, T70_eq, Bool.cond_eq_ite]
    · have e1 : firstNZ [wordErr a, wordErr b] = wordErr a := by simp [firstNZ, ha]
      simp [ha, e1, T33_eq, T70_eq, Bool.cond_eq_ite]
end
def addP (a b : Int × Int) : Int × Int := (a.1 + b.1, a.2 + b.2)
theorem foldl_addV : ∀ (l : List UInt8) (a : Int × Int), l.foldl addV a = addP a (vec l)
  | [], a => by simp [vec, addP]
  | c :: l, a => by
    have h1 := foldl_addV l (addV a c)
    have h2 := foldl_addV l (addV (0, 0) c)
    have hv : vec (c :: l) = l.foldl addV (addV (0, 0) c) := rfl
    rw [List.foldl_cons, h1, hv, h2]
    simp only [addP, addV]
    refine Prod.ext ?_ ?_ <;> simp only <;> omega
theorem vec_append (a b : List UInt8) : vec (a ++ b) = addP (vec a) (vec b) := by
  unfold vec
  rw [List.foldl_append, foldl_addV b]
  rfl
end Go.Proofs.YtbfappllfpngdaaGreatDoor
