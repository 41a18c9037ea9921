/- Plain laws: sums of bills. -/
import Derived.Test.YtpngggdfbbdfaaaDoorHangPo
set_option linter.all false
namespace Go.Proofs.YtpngggdfbbdfaaaDoor
open Go Go.Am
set_option maxRecDepth 100000

/-! ### Tables -/

theorem idx_mem (name : List UInt8) : ∀ (l : List Tw) (k : Nat), (idxFrom name k l ≥ 0) ↔ ∃ t ∈ l, t.1 = name
  | [], k => by simp [idxFrom]
  | t :: l, k => by
    simp only [idxFrom]
    by_cases h : (t.1 == name) = true
    · have e : t.1 = name := by simpa using h
      rw [if_pos h]
      exact ⟨fun _ => ⟨t, by simp, e⟩, fun _ => by omega⟩
    · have e : ¬ t.1 = name := by simpa using h
      rw [if_neg h, idx_mem name l (k + 1)]
      constructor
      · rintro ⟨u, hu, hn⟩
        exact ⟨u, by simp [hu], hn⟩
      · rintro ⟨u, hu, hn⟩
        rcases List.mem_cons.1 hu with rfl | hu
        · exact absurd hn e
        · exact ⟨u, hu, hn⟩

def okT (t : Tw) : Prop := isName t.1 = true ∧ rng t.2.1 1 100000 = 0 ∧ rng t.2.2 1 100 = 0
def GoodT (l : List Tw) : Prop := l.length ≤ 32 ∧ (∀ t ∈ l, okT t) ∧ l.Pairwise (fun t u => t.1 ≠ u.1)

theorem twErr_zero {before : List Tw} {t : Tw} : twErr before t = 0 ↔ okT t ∧ ∀ u ∈ before, u.1 ≠ t.1 := by
  unfold twErr okT
  by_cases hn : isName t.1 = true
  · rw [if_pos hn]
    by_cases hi : idxFrom t.1 0 before ≥ 0
    · rw [if_pos hi]
      obtain ⟨u, hu, e⟩ := (idx_mem t.1 before 0).1 hi
      constructor
      · intro h; omega
      · rintro ⟨_, h⟩; exact absurd e (h u hu)
    · rw [if_neg hi, firstNZ2z]
      have hno : ∀ u ∈ before, u.1 ≠ t.1 := fun u hu e => hi ((idx_mem t.1 before 0).2 ⟨u, hu, e⟩)
      exact ⟨fun h => ⟨⟨hn, h⟩, hno⟩, fun h => h.1.2⟩
  · rw [if_neg hn]
    constructor
    · intro h; omega
    · rintro ⟨⟨h, _⟩, _⟩; exact absurd h hn

theorem scan_good (l : List Tw) : ∀ (l' : List Tw) (k : Nat), l = l.take k ++ l' → k ≤ l.length → (Sum.elim (fun _ => (0 : Int)) (fun e => e) (foldI (twSt l) k l') = 0 ↔ (∀ t ∈ l', okT t ∧ ∀ u ∈ l.take k, u.1 ≠ t.1) ∧ l'.Pairwise (fun t u => t.1 ≠ u.1))
  | [], k, _, _ => by simp [foldI]
  | t :: l', k, he, hk => by
    have hlt : k < l.length := by
      have := congrArg List.length he
      rw [List.length_append, List.length_take] at this
      simp at this
      omega
    have hget : l[k] = t := by
      have h2 : l[k]? = some t := by
        rw [he, List.getElem?_append_right (by rw [List.length_take]; omega), List.length_take, show k - min k l.length = 0 by omega]
        rfl
      exact (List.getElem?_eq_some_iff.1 h2).2
    have htake : l.take (k + 1) = l.take k ++ [t] := by rw [← List.take_append_getElem hlt, hget]
    have he' : l = l.take (k + 1) ++ l' := by rw [htake, List.append_assoc]; exact he
    have ih := scan_good l l' (k + 1) he' hlt
    simp only [foldI, twSt]
    by_cases hz : twErr (l.take k) t = 0
    · rw [if_pos hz, Sum.elim_inl, ih, htake]
      obtain ⟨z1, z2⟩ := twErr_zero.1 hz
      simp only [List.mem_append, List.mem_singleton, List.mem_cons, List.pairwise_cons]
      constructor
      · rintro ⟨h1, h2⟩
        refine ⟨?_, fun u hu => (h1 u hu).2 t (.inr (.inl rfl)), h2⟩
        rintro u (rfl | hu)
        · exact ⟨z1, z2⟩
        · exact ⟨(h1 u hu).1, fun v hv => (h1 u hu).2 v (.inl hv)⟩
      · rintro ⟨h1, h2, h3⟩
        refine ⟨fun u hu => ⟨(h1 u (.inr hu)).1, ?_⟩, h3⟩
        rintro v (hv | hv | hv)
        · exact (h1 u (.inr hu)).2 v hv
        · subst hv; exact h2 u hu
        · simp at hv
    · rw [if_neg hz, Sum.elim_inr]
      constructor
      · intro h; exact absurd h hz
      · rintro ⟨h1, _⟩; exact absurd (twErr_zero.2 (h1 t (by simp))) hz

theorem cTw_good {l : List Tw} : cTw l = 0 ↔ GoodT l := by
  unfold cTw GoodT
  by_cases h : l.length > 32
  · rw [if_pos h]
    constructor
    · intro h; omega
    · rintro ⟨h1, _⟩; omega
  · rw [if_neg h, scan_good l l 0 (by simp) (Nat.zero_le _)]
    simp only [List.take_zero, List.not_mem_nil, false_implies, implies_true, and_true]
    exact ⟨fun ⟨a, b⟩ => ⟨by omega, a, b⟩, fun ⟨_, a, b⟩ => ⟨a, b⟩⟩

theorem good_rev {l : List Tw} (h : GoodT l) : GoodT l.reverse := by
  obtain ⟨h1, h2, h3⟩ := h
  exact ⟨by simpa using h1, fun t ht => h2 t (by simpa using ht), List.pairwise_reverse.2 (h3.imp fun h => h.symm)⟩

theorem cLn_zero {table : List Tw} {l : List Ln} (hl : l.length ≤ 64) : cLn table l = 0 ↔ ∀ y ∈ l, lineErr y.1 y.2.1 y.2.2.1 = 0 ∧ ∃ t ∈ table, t.1 = y.2.2.2 := by
  unfold cLn
  rw [if_neg (by omega), firstNZ_zero]
  have key : ∀ y : Ln, lnErr table y = 0 ↔ lineErr y.1 y.2.1 y.2.2.1 = 0 ∧ ∃ t ∈ table, t.1 = y.2.2.2 := by
    intro y
    unfold lnErr
    rw [firstNZ2z, ← idx_mem y.2.2.2 table 0]
    by_cases h : idxFrom y.2.2.2 0 table ≥ 0
    · simp [h]
    · simp [h]
  constructor
  · intro h y hy
    exact (key y).1 (h _ (List.mem_map_of_mem hy))
  · intro h x hx
    obtain ⟨y, hy, rfl⟩ := List.mem_map.1 hx
    exact (key y).2 (h y hy)

/-! ### Sums -/

def valL (a : Int) (y : Ln) : Int := y.1 * y.2.2.1 + y.2.1 * a
def sumV (a : Int) (name : List UInt8) (l : List Ln) : Int := (l.map fun y => if y.2.2.2 == name then valL a y else 0).sum
def OkL (y : Ln) : Prop := lineErr y.1 y.2.1 y.2.2.1 = 0

theorem raw_val {a : Int} (ha : 0 ≤ a ∧ a ≤ 100) {y : Ln} (hy : OkL y) : rawL a y = valL a y ∧ 0 ≤ valL a y ∧ valL a y ≤ 20000000 := by
  unfold OkL lineErr at hy
  obtain ⟨h1, h2, h3⟩ := firstNZ3.1 hy
  have h1 := rng_zero.1 h1
  have h2 := rng_zero.1 h2
  have h3 := rng_zero.1 h3
  have a0 : 0 ≤ y.1 * y.2.2.1 := Int.mul_nonneg (by omega) (by omega)
  have a1 : y.1 * y.2.2.1 ≤ 100000 * 100 := Int.mul_le_mul (by omega) (by omega) (by omega) (by omega)
  have b0 : 0 ≤ y.2.1 * a := Int.mul_nonneg (by omega) (by omega)
  have b1 : y.2.1 * a ≤ 100000 * 100 := Int.mul_le_mul (by omega) (by omega) (by omega) (by omega)
  unfold rawL valL
  rw [w64 (by omega : -9223372036854775808 ≤ y.1 * y.2.2.1 ∧ y.1 * y.2.2.1 ≤ 9223372036854775807), w64 (by omega : -9223372036854775808 ≤ y.2.1 * a ∧ y.2.1 * a ≤ 9223372036854775807), w64 (by omega)]
  exact ⟨rfl, by omega, by omega⟩

theorem sumV_in {a : Int} (ha : 0 ≤ a ∧ a ≤ 100) (name : List UInt8) : ∀ {l : List Ln}, (∀ y ∈ l, OkL y) → 0 ≤ sumV a name l ∧ sumV a name l ≤ l.length * 20000000
  | [], _ => by simp [sumV]
  | y :: l, h => by
    obtain ⟨_, v1, v2⟩ := raw_val ha (h y (by simp))
    have ih := sumV_in ha name (l := l) fun y hy => h y (by simp [hy])
    unfold sumV at *
    simp only [List.map_cons, List.sum_cons, List.length_cons]
    split <;> omega

theorem fold_sumV {a : Int} (ha : 0 ≤ a ∧ a ≤ 100) (name : List UInt8) : ∀ (l : List Ln) (acc : Int), (∀ y ∈ l, OkL y) → 0 ≤ acc → acc + l.length * 20000000 ≤ 9000000000000000000 → l.foldl (addL a name) acc = acc + sumV a name l
  | [], acc, _, _, _ => by simp [sumV]
  | y :: l, acc, h, h0, h1 => by
    obtain ⟨r, v1, v2⟩ := raw_val ha (h y (by simp))
    simp only [List.length_cons] at h1
    have e : addL a name acc y = acc + (if y.2.2.2 == name then valL a y else 0) := by
      unfold addL
      split
      · rw [r, w64 (by omega)]
      · omega
    rw [List.foldl_cons, e, fold_sumV ha name l _ (fun y hy => h y (by simp [hy])) (by split <;> omega) (by split <;> omega)]
    unfold sumV
    simp only [List.map_cons, List.sum_cons]
    omega

theorem lenOf_sum {a : Int} (ha : 0 ≤ a ∧ a ≤ 100) (name : List UInt8) {l : List Ln} (h : ∀ y ∈ l, OkL y) (hl : l.length ≤ 64) : lenOf a l name = sumV a name l := by
  unfold lenOf
  rw [fold_sumV ha name l 0 h (by omega) (by omega), Int.zero_add]

theorem sumV_append (a : Int) (name : List UInt8) (x y : List Ln) : sumV a name (x ++ y) = sumV a name x + sumV a name y := by
  unfold sumV
  rw [List.map_append, List.sum_append]

theorem sumV_rev (a : Int) (name : List UInt8) (l : List Ln) : sumV a name l.reverse = sumV a name l := by
  induction l with
  | nil => rfl
  | cons y l ih =>
    rw [List.reverse_cons, sumV_append, ih]
    unfold sumV
    simp only [List.map_cons, List.map_nil, List.sum_cons, List.sum_nil]
    omega

/-- Less is not larger. -/
theorem big_mono {n m : Int} {t : Tw} (ht : okT t) (hn : 0 ≤ n) (hnm : n ≤ m) (hm : m ≤ 1280000000) (h : big3 (sumsOf m t) = false) : big3 (sumsOf n t) = false := by
  obtain ⟨_, h1, h2⟩ := ht
  have h1 := rng_zero.1 h1
  have h2 := rng_zero.1 h2
  have a0 : 0 ≤ n * t.2.1 := Int.mul_nonneg hn (by omega)
  have a1 : n * t.2.1 ≤ m * t.2.1 := Int.mul_le_mul_of_nonneg_right hnm (by omega)
  have a2 : m * t.2.1 ≤ 1280000000 * 100000 := Int.mul_le_mul hm (by omega) (by omega) (by omega)
  have b0 : 0 ≤ n * t.2.2 := Int.mul_nonneg hn (by omega)
  have b1 : n * t.2.2 ≤ m * t.2.2 := Int.mul_le_mul_of_nonneg_right hnm (by omega)
  have b2 : m * t.2.2 ≤ 1280000000 * 100 := Int.mul_le_mul hm (by omega) (by omega) (by omega)
  unfold big3 sumsOf at *
  simp only [Bool.or_eq_false_iff, decide_eq_false_iff_not] at h ⊢
  rw [w64 (by omega : -9223372036854775808 ≤ m * t.2.1 ∧ m * t.2.1 ≤ 9223372036854775807), div_in (by omega) (by omega) (by omega), w64 (by omega : -9223372036854775808 ≤ m * t.2.2 ∧ m * t.2.2 ≤ 9223372036854775807)] at h
  rw [w64 (by omega : -9223372036854775808 ≤ n * t.2.1 ∧ n * t.2.1 ≤ 9223372036854775807), div_in (by omega) (by omega) (by omega), w64 (by omega : -9223372036854775808 ≤ n * t.2.2 ∧ n * t.2.2 ≤ 9223372036854775807)]
  have := Int.ediv_le_ediv (c := 1000) (by omega) a1
  omega
end Go.Proofs.YtpngggdfbbdfaaaDoor
