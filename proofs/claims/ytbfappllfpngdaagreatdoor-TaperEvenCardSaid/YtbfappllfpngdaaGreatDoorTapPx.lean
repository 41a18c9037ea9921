/- Plain laws: spreads are balanced; TaperEven. -/
import Derived.Test.YtbfappllfpngdaaGreatDoorTapPv
set_option linter.all false
namespace Go.Proofs.YtbfappllfpngdaaGreatDoor
open Go Go.Am
set_option maxRecDepth 100000

/-! ### The integer parts of shares -/

def flo (m s : Int) (i : Nat) : Int := (i : Int) * m / s

section
variable {m s : Int} (hm : 0 ≤ m) (hms : m ≤ s) (hs : 0 < s)
include hm hms hs

theorem flo_step (i : Nat) : flo m s (i + 1) = flo m s i + (if pk m (s - m) i = true then 1 else 0) := by
  unfold pk flo
  rw [show m + (s - m) = s by omega, show ((i + 1 : Nat) : Int) = (i : Int) + 1 by simp]
  have e : ((i : Int) + 1) * m = (i : Int) * m + m := by rw [Int.add_mul, Int.one_mul]
  have h1 : (i : Int) * m / s ≤ ((i : Int) + 1) * m / s := Int.ediv_le_ediv hs (by omega)
  have h2 : ((i : Int) + 1) * m / s ≤ (i : Int) * m / s + 1 := by
    have h3 : ((i : Int) * m + s) / s = (i : Int) * m / s + 1 := by
      rw [Int.add_ediv_of_dvd_right (Int.dvd_refl s), Int.ediv_self (by omega)]
    rw [← h3]
    exact Int.ediv_le_ediv hs (by omega)
  by_cases h : ((i : Int) + 1) * m / s > (i : Int) * m / s
  · rw [if_pos (decide_eq_true h)]; omega
  · rw [if_neg (by simpa using h)]; omega

omit hm hms in
theorem flo_add (i k : Nat) : flo m s k ≤ flo m s (i + k) - flo m s i ∧ flo m s (i + k) - flo m s i ≤ flo m s k + 1 := by
  unfold flo
  rw [show ((i + k : Nat) : Int) * m = (i : Int) * m + (k : Int) * m by rw [Int.natCast_add, Int.add_mul]]
  generalize (i : Int) * m = a
  generalize (k : Int) * m = b
  have a1 := Int.mul_ediv_add_emod a s
  have b1 := Int.mul_ediv_add_emod b s
  have c1 := Int.mul_ediv_add_emod (a + b) s
  have a2 := Int.emod_nonneg a (show s ≠ 0 by omega)
  have b2 := Int.emod_nonneg b (show s ≠ 0 by omega)
  have c2 := Int.emod_nonneg (a + b) (show s ≠ 0 by omega)
  have a3 := Int.emod_lt_of_pos a hs
  have b3 := Int.emod_lt_of_pos b hs
  have c3 := Int.emod_lt_of_pos (a + b) hs
  generalize a / s = A at *
  generalize b / s = B at *
  generalize (a + b) / s = C at *
  have e : s * (C - A - B) = s * C - s * A - s * B := by rw [Int.mul_sub, Int.mul_sub]
  have h1 : -1 < C - A - B := by
    apply Int.lt_of_mul_lt_mul_left (a := s) _ (by omega)
    rw [e, Int.mul_neg, Int.mul_one]; omega
  have h2 : C - A - B < 2 := by
    apply Int.lt_of_mul_lt_mul_left (a := s) _ (by omega)
    rw [e]; omega
  omega

omit hm hms in
theorem flo_per {s' : Nat} (hs' : (s' : Int) = s) (i : Nat) : flo m s (i + s') = flo m s i + m := by
  unfold flo
  rw [show ((i + s' : Nat) : Int) * m = (i : Int) * m + s * m by rw [Int.natCast_add, Int.add_mul, hs'], Int.add_mul_ediv_left _ _ (by omega)]
end

/-! ### The letters of a spread, without an end -/

/-- The letter at a place. -/
def letS (m n : Int) (i : Nat) : UInt8 := if pk m n i = true then 66 else 78
/-- The spread, from a place on. -/
def spW (m n t : Nat) : List UInt8 := (List.range' t (m + n)).map (letS m n)

theorem parts_map (x y : UInt8) (m n : Int) (k : Nat) : (partsL [x] m [y] n k).flatten = (List.range k).map fun i => if pk m n i = true then x else y := by
  unfold partsL
  induction List.range k with
  | nil => rfl
  | cons i l ih =>
    rw [List.map_cons, List.map_cons, List.flatten_cons, ih]
    cases pk m n i <;> rfl

theorem mix_spW (m n : Nat) : mixS [66] (m : Int) [78] (n : Int) = spW m n 0 := by
  unfold mixS spW
  rw [parts_map, List.range_eq_range', show ((m : Int) + (n : Int)).toNat = m + n by omega]
  rfl

section
variable (m n : Nat) (hp : 0 < m + n)

theorem spW_length (t : Nat) : (spW m n t).length = m + n := by unfold spW; rw [List.length_map, List.length_range']

include hp
theorem pk_step (i : Nat) : flo m ((m + n : Nat) : Int) (i + 1) = flo m ((m + n : Nat) : Int) i + (if pk m n i = true then 1 else 0) := by
  have := flo_step (m := (m : Int)) (s := ((m + n : Nat) : Int)) (by omega) (by omega) (by omega) i
  rw [show ((m + n : Nat) : Int) - (m : Int) = (n : Int) by omega] at this
  exact this
theorem pk_per (i : Nat) : pk (m : Int) (n : Int) (i + (m + n)) = pk m n i := by
  have h1 := pk_step m n hp i
  have h2 := pk_step m n hp (i + (m + n))
  have p1 := flo_per (m := (m : Int)) (s := ((m + n : Nat) : Int)) (by omega) rfl i
  have p2 := flo_per (m := (m : Int)) (s := ((m + n : Nat) : Int)) (by omega) rfl (i + 1)
  rw [show i + (m + n) + 1 = i + 1 + (m + n) by omega, p1, p2, h1] at h2
  cases h3 : pk (m : Int) (n : Int) (i + (m + n)) <;> cases h4 : pk (m : Int) (n : Int) i <;> rw [h3, h4] at h2 <;> simp at h2 ⊢ <;> omega
theorem let_per (i : Nat) : letS m n (i + (m + n)) = letS m n i := by unfold letS; rw [pk_per m n hp]
theorem map_per : ∀ k t : Nat, (List.range' (t + (m + n)) k).map (letS m n) = (List.range' t k).map (letS m n)
  | 0, t => rfl
  | k + 1, t => by
    rw [List.range'_succ, List.range'_succ, List.map_cons, List.map_cons, let_per m n hp, show t + (m + n) + 1 = t + 1 + (m + n) by omega, map_per k (t + 1)]

theorem spW_twice (t : Nat) : spW m n t ++ spW m n t = (List.range' t (m + n + (m + n))).map (letS m n) := by
  rw [← List.range'_append_1, List.map_append, map_per m n hp]
  rfl

theorem spW_rot (k : Nat) (hk : k ≤ m + n) : rot (spW m n 0) k = spW m n k := by
  have e : spW m n 0 = (List.range' 0 k).map (letS m n) ++ (List.range' k (m + n - k)).map (letS m n) := by
    rw [← List.map_append]
    unfold spW
    congr 1
    have := List.range'_append_1 (s := 0) (m := k) (n := m + n - k)
    rw [Nat.zero_add] at this
    rw [this]
    congr 1
    omega
  have l : ((List.range' 0 k).map (letS m n)).length = k := by rw [List.length_map, List.length_range']
  unfold rot
  rw [e, List.drop_left' l, List.take_left' l]
  have h := map_per m n hp k 0
  rw [← h, ← List.map_append]
  unfold spW
  congr 1
  have := List.range'_append_1 (s := k) (m := m + n - k) (n := k)
  rw [show k + (m + n - k) = 0 + (m + n) by omega, show m + n - k + k = m + n by omega] at this
  exact this

/-- A window. -/
theorem spW_win (t i k : Nat) (h : i + k ≤ m + n + (m + n)) : subA i (i + k) (spW m n t ++ spW m n t) = (List.range' (t + i) k).map (letS m n) := by
  rw [spW_twice m n hp]
  have e : (List.range' t (m + n + (m + n))).map (letS m n) = ((List.range' t i).map (letS m n) ++ (List.range' (t + i) k).map (letS m n)) ++ (List.range' (t + i + k) (m + n + (m + n) - i - k)).map (letS m n) := by
    rw [← List.map_append, ← List.map_append]
    congr 1
    rw [List.range'_append_1, show t + i + k = t + (i + k) by omega, List.range'_append_1]
    congr 1
    omega
  unfold subA
  rw [e, List.take_left' (by rw [List.length_append, List.length_map, List.length_map, List.length_range', List.length_range']), List.drop_left' (by rw [List.length_map, List.length_range'])]

theorem count_B : ∀ k j : Nat, ((((List.range' j k).map (letS m n)).count 66 : Nat) : Int) = flo m ((m + n : Nat) : Int) (j + k) - flo m ((m + n : Nat) : Int) j
  | 0, j => by simp
  | k + 1, j => by
    rw [List.range'_succ, List.map_cons, List.count_cons]
    have ih := count_B k (j + 1)
    have st := pk_step m n hp j
    rw [show j + 1 + k = j + (k + 1) by omega, st] at ih
    rw [Int.natCast_add, ih]
    unfold letS
    cases pk (m : Int) (n : Int) j
    · simp
    · simp; omega
omit hp in
theorem count_N : ∀ k j : Nat, ((List.range' j k).map (letS m n)).count 66 + ((List.range' j k).map (letS m n)).count 78 = k
  | 0, j => by simp
  | k + 1, j => by
    rw [List.range'_succ, List.map_cons, List.count_cons, List.count_cons]
    have ih := count_N k (j + 1)
    have : ((letS (m : Int) (n : Int) j == 66) = true ∧ (letS (m : Int) (n : Int) j == 78) = false) ∨ ((letS (m : Int) (n : Int) j == 66) = false ∧ (letS (m : Int) (n : Int) j == 78) = true) := by
      unfold letS
      cases pk (m : Int) (n : Int) j
      · exact .inr ⟨rfl, rfl⟩
      · exact .inl ⟨rfl, rfl⟩
    rcases this with ⟨a, b⟩ | ⟨a, b⟩ <;> rw [a, b] <;> simp <;> omega
omit hp in
theorem count_T : ∀ k j : Nat, ((List.range' j k).map (letS m n)).count 84 = 0
  | 0, j => by simp
  | k + 1, j => by
    rw [List.range'_succ, List.map_cons, List.count_cons, count_T k (j + 1)]
    have : (letS (m : Int) (n : Int) j == 84) = false := by
      unfold letS
      cases pk (m : Int) (n : Int) j <;> rfl
    rw [this]
    rfl

omit hp in
theorem ext_near (f : Nat → Int) {A B : Int} : ∀ (l : List Nat), (∀ i ∈ l, A ≤ f i ∧ f i ≤ B) → ∀ s : Int × Int, (A ≤ s.1 ∧ s.1 ≤ B ∧ A ≤ s.2 ∧ s.2 ≤ B) → A ≤ (l.foldl (extS f) s).1 ∧ (l.foldl (extS f) s).1 ≤ B ∧ A ≤ (l.foldl (extS f) s).2 ∧ (l.foldl (extS f) s).2 ≤ B
  | [], _, s, h => h
  | i :: l, hf, s, h => by
    rw [List.foldl_cons]
    apply ext_near f l (fun j hj => hf j (List.mem_cons_of_mem _ hj))
    have := hf i List.mem_cons_self
    unfold extS
    refine ⟨?_, ?_, ?_, ?_⟩ <;> (dsimp only; split <;> omega)

omit hp in
theorem even_of (w : List UInt8) (c : UInt8) (k : Nat) (A : Int) (h0 : 0 < w.length) (h : ∀ i, i < w.length → A ≤ cntW w c k i ∧ cntW w c k i ≤ A + 1) : unevenW w c k = false := by
  have := ext_near (cntW w c k) (A := A) (B := A + 1) (List.range w.length) (fun i hi => h i (List.mem_range.1 hi)) (cntW w c k 0, cntW w c k 0) (by have := h 0 h0; dsimp only; omega)
  unfold unevenW exW ext
  rw [decide_eq_false_iff_not]
  omega

theorem spW_even (t k : Nat) (hk : k ≤ m + n) : evenK (spW m n t) k = true := by
  have hl := spW_length m n t
  have b : ∀ i, i < (spW m n t).length → flo m ((m + n : Nat) : Int) k ≤ cntW (spW m n t) 66 k i ∧ cntW (spW m n t) 66 k i ≤ flo m ((m + n : Nat) : Int) k + 1 := by
    intro i hi
    unfold cntW
    rw [spW_win m n hp t i k (by omega), count_B m n hp]
    exact flo_add (by omega) (t + i) k
  have u1 : unevenW (spW m n t) 66 k = false := even_of _ 66 k _ (by omega) b
  have u2 : unevenW (spW m n t) 78 k = false := even_of _ 78 k ((k : Int) - (flo m ((m + n : Nat) : Int) k + 1)) (by omega) (fun i hi => by
    have h1 := b i hi
    unfold cntW at h1 ⊢
    rw [spW_win m n hp t i k (by omega)] at h1 ⊢
    have := count_N m n k (t + i)
    omega)
  have u3 : unevenW (spW m n t) 84 k = false := even_of _ 84 k 0 (by omega) (fun i hi => by
    unfold cntW
    rw [spW_win m n hp t i k (by omega), count_T]
    simp)
  unfold evenK
  rw [u1, u2, u3]
  rfl

omit hp in
theorem bal_of (w : List UInt8) : ∀ f k : Nat, (∀ j, k ≤ j → j < k + f → evenK w j = true) → balFrom w f k = true
  | 0, k, _ => rfl
  | f + 1, k, h => by
    unfold balFrom
    rw [if_pos (h k (by omega) (by omega))]
    exact bal_of w f (k + 1) (fun j j1 j2 => h j (by omega) (by omega))

theorem spW_bal (t : Nat) : balB (spW m n t) = true := by
  have hl := spW_length m n t
  exact bal_of _ _ _ (fun j j1 j2 => spW_even m n hp t j (by omega))

omit hp in
theorem spW_letter (t : Nat) : (spW m n t).all isL = true := by
  unfold spW
  rw [List.all_map]
  apply List.all_eq_true.2
  intro i _
  show isL (letS (m : Int) (n : Int) i) = true
  unfold letS
  cases pk (m : Int) (n : Int) i <;> rfl

theorem spW_word (t : Nat) (h : m + n ≤ 64) : wordErr (spW m n t) = 0 := by
  have hl := spW_length m n t
  unfold wordErr
  rw [if_neg (by intro e; rw [e] at hl; simp at hl; omega), if_neg (by omega), if_pos (spW_letter m n t)]
end

/-! ### The spread with both letters exchanged -/

theorem flip_all : ((List.range 13).all fun m => (List.range 13).all fun n => (List.range (m + n)).all fun i => pk (n : Int) (m : Int) (m + n - 1 - i) == !pk (m : Int) (n : Int) i) = true := by kernel_rfl

theorem flip_pk {m n i : Nat} (hm : m < 13) (hn : n < 13) (hi : i < m + n) : pk (n : Int) (m : Int) (m + n - 1 - i) = !pk (m : Int) (n : Int) i := by
  have h1 := List.all_eq_true.1 flip_all m (List.mem_range.2 hm)
  have h2 := List.all_eq_true.1 h1 n (List.mem_range.2 hn)
  have h3 := List.all_eq_true.1 h2 i (List.mem_range.2 hi)
  exact eq_of_beq h3

/-- The spread with both letters exchanged. -/
def spX (m n : Nat) : List UInt8 := (List.range (m + n)).map fun i => if pk (n : Int) (m : Int) i = true then 78 else 66
theorem mix_spX (m n : Nat) : mixS [78] (n : Int) [66] (m : Int) = spX m n := by
  unfold mixS spX
  rw [parts_map, show ((n : Int) + (m : Int)).toNat = m + n by omega]
theorem spX_length (m n : Nat) : (spX m n).length = m + n := by unfold spX; rw [List.length_map, List.length_range]
theorem spX_at {m n i : Nat} (hm : m < 13) (hn : n < 13) (hi : i < m + n) : (spX m n).getD (m + n - 1 - i) 0 = letS m n i := by
  unfold spX
  rw [List.getD_eq_getElem?_getD, List.getElem?_map, List.getElem?_range (by omega)]
  show (if pk (n : Int) (m : Int) (m + n - 1 - i) = true then (78 : UInt8) else 66) = _
  rw [flip_pk hm hn hi]
  unfold letS
  cases pk (m : Int) (n : Int) i <;> rfl
theorem spW_at {m n i : Nat} (hi : i < m + n) : (spW m n 0).getD i 0 = letS m n i := by
  unfold spW
  rw [← List.range_eq_range', List.getD_eq_getElem?_getD, List.getElem?_map, List.getElem?_range hi]
  rfl

theorem BBBNN_not : balB [66, 66, 66, 78, 78] = false := by kernel_rfl

theorem spread_ok {a b : List UInt8} {m n : Int} (ha : letterErr a = 0) (hb : letterErr b = 0) (hab : a ≠ b) (hm : 0 ≤ m ∧ m ≤ 12) (hn : 0 ≤ n ∧ n ≤ 12) (hp : m + n ≠ 0) : spreadErr a m b n = 0 := by
  have z : firstNZ [letterErr a, rng m 0 64, letterErr b, rng n 0 64, (if a = b then 9 else 0)] = 0 := by
    apply firstNZ_zero.2
    simp only [List.mem_cons, List.not_mem_nil, or_false, forall_eq_or_imp, forall_eq]
    exact ⟨ha, by unfold rng; rw [if_neg (by omega)], hb, by unfold rng; rw [if_neg (by omega)], if_neg hab⟩
  unfold spreadErr
  rw [if_pos z]
  unfold lenErr
  rw [if_neg hp, if_neg (by omega)]

theorem R8_loop {N : Nat} (hN : Big N) (a0 a1 : Int) (m n : Nat) (q1 q2 : Int) (hm : m < 13) (hn : n < 13) (hp : 0 < m + n) (ea : Int.tmod (IntKind.wrap .i64 a0) 13 = (m : Int)) (eb : Int.tmod (IntKind.wrap .i64 a1) 13 = (n : Int)) :
    loopR (V := Int × Int) (X := Bool ⊕ Unit) (R8x4090 N a0 a1 (spW m n 0, q1) (spX m n, q2)) N (0, 0) = some (.inr ()) := by
  have ew : IntKind.wrap .i64 ((m : Int) + (n : Int)) = ((m + n : Nat) : Int) := by rw [w64 (by omega)]; omega
  have hz : ¬ ((m + n : Nat) : Int) = 0 := by omega
  have hl := spW_length m n 0
  have hl' := spX_length m n
  have f0 : flo m ((m + n : Nat) : Int) 0 = 0 := by unfold flo; simp
  have fb : ∀ i : Nat, i ≤ m + n → 0 ≤ flo m ((m + n : Nat) : Int) i ∧ flo m ((m + n : Nat) : Int) i ≤ i := by
    intro i
    induction i with
    | zero => intro _; rw [f0]; omega
    | succ i ih =>
      intro h
      have := ih (by omega)
      rw [pk_step m n hp i]
      split <;> omega
  have key := loopR_count (rd := R8x4090 N a0 a1 (spW m n 0, q1) (spX m n, q2)) (m + n) (fun i => (flo m ((m + n : Nat) : Int) i, (i : Int))) (.inr ()) (fun i hi => by
    have b1 : decide ((i : Int) < (((m + n : Nat) : Nat) : Int)) = true := lt_range hi
    have b2 : decide ((0 : Int) ≤ (i : Int) ∧ (i : Int) < ((m + n : Nat) : Int)) = true := by rw [decide_eq_true_eq]; omega
    have st := pk_step m n hp i
    have hfi := fb i (by omega)
    have w1 : IntKind.wrap .i64 (IntKind.wrap .i64 (((m + n : Nat) : Int) - 1) - (i : Int)) = ((m + n - 1 - i : Nat) : Int) := by
      rw [w64 (x := ((m + n : Nat) : Int) - 1) (by omega), w64 (by omega)]; omega
    have b3 : decide ((0 : Int) ≤ ((m + n - 1 - i : Nat) : Int) ∧ ((m + n - 1 - i : Nat) : Int) < ((m + n : Nat) : Int)) = true := by rw [decide_eq_true_eq]; omega
    have hmul : ((i + 1 : Nat) : Int) * (m : Int) = (((i + 1) * m : Nat) : Int) := by rw [Int.natCast_mul]
    have hmb : (i + 1) * m ≤ 26 * 13 := Nat.mul_le_mul (by omega) (by omega)
    have w2 : IntKind.wrap .i64 (Int.tdiv (IntKind.wrap .i64 (((i + 1 : Nat) : Int) * (m : Int))) ((m + n : Nat) : Int)) = flo m ((m + n : Nat) : Int) (i + 1) := by
      have := fb (i + 1) (by omega)
      rw [w64 (x := ((i + 1 : Nat) : Int) * (m : Int)) (by omega), Int.tdiv_eq_ediv_of_nonneg (by omega)]
      show IntKind.wrap .i64 (flo m ((m + n : Nat) : Int) (i + 1)) = _
      exact w64 (by omega)
    have wi : IntKind.wrap .i64 ((i : Int) + 1) = ((i + 1 : Nat) : Int) := w_succ (by omega)
    have g1 := spW_at (m := m) (n := n) hi
    have g2 := spX_at hm hn hi
    have d0 : (!decide (((m + n : Nat) : Int) = 0)) = true := by simp only [hz, decide_false, Bool.not_false]
    cases hpk : pk (m : Int) (n : Int) i
    · have hL : letS (m : Int) (n : Int) i = 78 := by unfold letS; rw [hpk]; rfl
      rw [hL] at g1 g2
      have t1 : ((((78 : UInt8).toNat : Nat) : Int) == 66) = false := rfl
      have t2 : ((((78 : UInt8).toNat : Nat) : Int) != 66) = true := rfl
      have t3 : ((((78 : UInt8).toNat : Nat) : Int) != 78) = false := rfl
      rw [hpk] at st
      have st' : flo m ((m + n : Nat) : Int) (i + 1) = flo m ((m + n : Nat) : Int) i := by simpa using st
      simp only [R8x4090, hl, hl', b1, b2, cond_true, cond_false, Int.toNat_natCast, g1, g2, t1, t2, t3, Option.bind_some, ea, eb, ew, d0, wi, w1, w2, b3, st', bne_self_eq_false]
    · have hL : letS (m : Int) (n : Int) i = 66 := by unfold letS; rw [hpk]; rfl
      rw [hL] at g1 g2
      have t1 : ((((66 : UInt8).toNat : Nat) : Int) == 66) = true := rfl
      have t2 : ((((66 : UInt8).toNat : Nat) : Int) != 66) = false := rfl
      rw [hpk] at st
      have st' : flo m ((m + n : Nat) : Int) (i + 1) = flo m ((m + n : Nat) : Int) i + 1 := by simpa using st
      have w3 : IntKind.wrap .i64 (flo m ((m + n : Nat) : Int) i + 1) = flo m ((m + n : Nat) : Int) i + 1 := w64 (by omega)
      simp only [R8x4090, hl, hl', b1, b2, cond_true, cond_false, Int.toNat_natCast, g1, g2, t1, t2, Option.bind_some, ea, eb, ew, d0, wi, w1, w2, w3, b3, st', bne_self_eq_false]) (by
    simp only [R8x4090, hl, ge_range, cond_false]) N 0 (Nat.zero_le _) (by unfold Big at hN; omega)
  rw [f0] at key
  exact key

theorem TaperEven_true {N : Nat} (hN : Big N) (a0 a1 a2 : Int) (h0 : 0 ≤ a0 ∧ a0 ≤ 255) (h1 : 0 ≤ a1 ∧ a1 ≤ 255) (h2 : 0 ≤ a2 ∧ a2 ≤ 255) : T8 N (a0, a1, a2) = some true := by
  rw [T8_eq]
  obtain ⟨a, rfl⟩ : ∃ a : Nat, a0 = (a : Int) := ⟨a0.toNat, by omega⟩
  obtain ⟨b, rfl⟩ : ∃ b : Nat, a1 = (b : Int) := ⟨a1.toNat, by omega⟩
  obtain ⟨t, rfl⟩ : ∃ t : Nat, a2 = (t : Int) := ⟨a2.toNat, by omega⟩
  have ea : Int.tmod (IntKind.wrap .i64 (a : Int)) 13 = ((a % 13 : Nat) : Int) := by rw [w64 (by omega)]; exact tmod_nat a 13
  have eb : Int.tmod (IntKind.wrap .i64 (b : Int)) 13 = ((b % 13 : Nat) : Int) := by rw [w64 (by omega)]; exact tmod_nat b 13
  have hm : a % 13 < 13 := Nat.mod_lt _ (by omega)
  have hn : b % 13 < 13 := Nat.mod_lt _ (by omega)
  have loop := fun hp q1 q2 => R8_loop hN (a : Int) (b : Int) (a % 13) (b % 13) q1 q2 hm hn hp ea eb
  rw [ea, eb]
  generalize a % 13 = m at *
  generalize b % 13 = n at *
  have ew : IntKind.wrap .i64 ((m : Int) + (n : Int)) = ((m + n : Nat) : Int) := by rw [w64 (by omega)]; omega
  simp only [T15, Option.bind_some, Bool.not_true, cond_false, ew]
  by_cases hz : m + n = 0
  · simp only [hz, Int.natCast_zero, beq_self_eq_true, cond_true]
  have hp : 0 < m + n := by omega
  have z : ((((m + n : Nat) : Int)) == 0) = false := beq0 (by omega)
  have s1 : spreadErr [66] (m : Int) [78] (n : Int) = 0 := spread_ok rfl rfl (by decide) (by omega) (by omega) (by omega)
  have s2 : spreadErr [78] (n : Int) [66] (m : Int) = 0 := spread_ok rfl rfl (by decide) (by omega) (by omega) (by omega)
  have t23a : T23 N ([66], (m : Int), [78], (n : Int)) = some (spW m n 0, 0) := by rw [T23_spread hN, s1, mix_spW]; rfl
  have t23b : T23 N ([78], (n : Int), [66], (m : Int)) = some (spX m n, 0) := by rw [T23_spread hN, s2, mix_spX]; rfl
  have t44a : T44 N (spW m n 0) = some (true, 0) := by rw [T44_bal hN, spW_word m n hp 0 (by omega), spW_bal m n hp]; rfl
  have t44c : T44 N [66, 66, 66, 78, 78] = some (false, 0) := by rw [T44_bal hN, BBBNN_not]; rfl
  have wt : IntKind.wrap .i64 (t : Int) = (t : Int) := w64 (by omega)
  have t45 : T45 N (spW m n 0, (t : Int)) = some (spW m n (t % (m + n)), 0) := by
    have re : rotErr (spW m n 0) (t : Int) = 0 := by
      refine firstNZ_zero.2 ?_
      simp only [List.mem_cons, List.not_mem_nil, or_false, forall_eq_or_imp, forall_eq]
      exact ⟨spW_word m n hp 0 (by omega), by unfold rng; rw [if_neg (by omega)]⟩
    rw [T45_rot hN, re, Int.toNat_natCast, spW_length, spW_rot m n hp _ (Nat.le_of_lt (Nat.mod_lt _ hp))]
    rfl
  have t44b : T44 N (spW m n (t % (m + n))) = some (true, 0) := by rw [T44_bal hN, spW_word m n hp _ (by omega), spW_bal m n hp]; rfl
  simp only [z, cond_false, cond_true, t23a, t23b, t44a, t44c, Option.bind_some, bne_self_eq_false, Bool.not_true, spW_length, spX_length, loop hp, Sum.elim_inr, wt, t45, t44b, beq_self_eq_true, Bool.not_false]
end Go.Proofs.YtbfappllfpngdaaGreatDoor
