/- Plain law: the word that Exact returns stays near the line of its ratio. -/
import Derived.Test.YtophnjjjmikmeaaGreatOttS
import Derived.Test.YtophnjjjmikmeaaGreatOttTl
set_option linter.all false
namespace Go.Proofs.YtophnjjjmikmeaaGreat
open Go Go.Am
set_option maxRecDepth 100000
theorem N4 {x y : Int} (hx : 0 ≤ x) (hy : 1 ≤ y) : 0 ≤ (low x y).1 ∧ (low x y).1 ≤ x ∧ 1 ≤ (low x y).2 ∧ (low x y).2 ≤ y ∧ (Int.gcd (low x y).1 (low x y).2 : Int) = 1 := by
  have gp : 0 < Int.gcd x y := Int.gcd_pos_of_ne_zero_right x (by omega)
  have Xb : 0 < (Int.gcd x y : Int) := by omega
  have d2 : (Int.gcd x y : Int) ∣ y := Int.gcd_dvd_right ..
  have hle := Int.le_of_dvd (by omega) d2
  have e := Int.gcd_ediv_gcd_ediv_gcd gp
  unfold low
  simp only
  refine ⟨Int.ediv_nonneg hx (by omega), Int.ediv_le_self _ hx, Int.le_ediv_of_mul_le Xb (by omega), Int.ediv_le_self _ (by omega), by omega⟩
section
variable {a b m n : Int} {o : UInt8} (h : Fits a b m n o)
include h
theorem JS (i : Nat) : ss (pQ m n o i) = true := by
  unfold pQ
  split
  · rfl
  · rw [h.ho]; split <;> rfl
theorem Fits.o' : o = 78 ∨ o = 84 := by rw [h.ho]; split <;> simp
theorem Df : cN (jj [66] m [o] n) = if m + n > 64 then 26 else 0 := by
  have := h.hs
  rw [ms]
  unfold cN
  rw [if_neg (by intro e; have := congrArg List.length e; simp at this; omega)]
  rw [List.length_map, List.length_range]
  by_cases h1 : m + n > 64
  · rw [if_pos (by omega), if_pos h1]
  · rw [if_neg (by omega), if_neg h1, if_pos]
    rw [List.all_eq_true]
    intro x hx
    obtain ⟨i, _, rfl⟩ := List.mem_map.1 hx
    exact JS h i
theorem Dg : ∀ (k i : Nat), ((List.range' i k).map (pQ m n o)).foldl pC (kn m n o i) = kn m n o (i + k)
  | 0, _ => rfl
  | k + 1, i => by
    rw [List.range'_succ, List.map_cons, List.foldl_cons]
    have e : pC (kn m n o i) (pQ m n o i) = kn m n o (i + 1) := De h.hm h.hn h.hs h.o' i
    rw [e, Dg k (i + 1), Nat.add_assoc, Nat.add_comm 1 k]
theorem Hy : vec (jj [66] m [o] n) = kn m n o (m + n).toNat := by
  rw [ms]
  unfold vec
  have := Dg h (m + n).toNat 0
  rw [yz h.hm, Nat.zero_add, ← List.range_eq_range'] at this
  exact this
theorem N5 (i : Nat) : (kn m n o i).1 + (kn m n o i).2 = 2 * i := by unfold kn; split <;> simp only <;> omega
theorem N6 (i : Nat) : 0 ≤ vj m n i ∧ vj m n i ≤ i := by
  have h1 := h.hm; have h2 := h.hn; have h3 := h.hs
  unfold vj
  refine ⟨Int.ediv_nonneg (Int.mul_nonneg (by omega) h1) (by omega), ?_⟩
  have e := Int.mul_le_mul_of_nonneg_left (show m ≤ m + n by omega) (show (0 : Int) ≤ (i : Int) by omega)
  have := Int.ediv_le_ediv h3 e
  rwa [Int.mul_ediv_cancel _ (by omega)] at this
theorem Hz (i : Nat) : 0 ≤ (kn m n o i).1 ∧ (kn m n o i).1 ≤ 2 * i ∧ 0 ≤ (kn m n o i).2 ∧ (kn m n o i).2 ≤ 2 * i := by
  have c := N6 h i
  unfold kn
  split <;> simp only <;> omega
theorem KA (i : Nat) : (kn m n o i).2 ≤ (kn m n o (i + 1)).2 ∧ (pQ m n o i = 66 → (kn m n o (i + 1)) = ((kn m n o i).1 + 1, (kn m n o i).2 + 1)) := by
  have e := De h.hm h.hn h.hs h.o' i
  rw [← e]
  have s := jk (pQ m n o i)
  refine ⟨?_, fun hl => ?_⟩
  · unfold mv; simp only; omega
  · rw [hl]; rfl
theorem Dh (i : Nat) : ∀ k, (kn m n o i).2 ≤ (kn m n o (i + k)).2
  | 0 => Int.le_refl _
  | k + 1 => Int.le_trans (Dh i k) (KA h (i + k)).1
theorem Di (k : Nat) : cP true (0, 0) (ga (jj [66] m [o] n) k) = (List.range (k * (m + n).toNat)).map fun j => yx true (kn m n o j) (pQ m n o j) := by
  rw [Hv h.hm h.hn h.hs, List.range_eq_range', ← An h.hm h.hn h.hs h.o' _ 0, yz h.hm]
theorem Dj (k : Nat) : va true (0, 0) (ga (jj [66] m [o] n) k) = (List.range (k * (m + n).toNat + 1)).map (kn m n o) := by
  unfold va
  rw [Di h, List.range_succ_eq_map, List.map_cons, yz h.hm, List.map_map, List.map_map]
  congr 1
  apply List.map_congr_left
  intro j _
  exact De h.hm h.hn h.hs h.o' j
theorem HA (l : List Nat) (acc : List vh) : (l.map fun j => yx true (kn m n o j) (pQ m n o j)).foldl yy acc = acc ++ (l.filter fun j => pQ m n o j == 66).map fun j => ((kn m n o j).1, (kn m n o j).2, 1) := by
  induction l generalizing acc with
  | nil => simp
  | cons j l ih =>
    rw [List.map_cons, List.foldl_cons, ih]
    by_cases hj : pQ m n o j = 66
    · have e : yy acc (yx true (kn m n o j) (pQ m n o j)) = acc ++ [((kn m n o j).1, (kn m n o j).2, 1)] := by
        rw [hj]
        show (if (66 : Int) = 66 then _ else _) = _
        rw [if_pos rfl]
        have : (mv true (kn m n o j) 66).1 - (kn m n o j).1 = 1 := by
          show (kn m n o j).1 + 1 - (kn m n o j).1 = 1
          omega
        show acc ++ [((kn m n o j).1, (kn m n o j).2, (mv true (kn m n o j) 66).1 - (kn m n o j).1)] = _
        rw [this]
      rw [e, List.filter_cons, if_pos (by simpa using hj)]
      simp
    · have e : yy acc (yx true (kn m n o j) (pQ m n o j)) = acc := by
        unfold yy
        rw [if_neg]
        intro hc
        apply hj
        apply UInt8.toNat_inj.1
        have : ((pQ m n o j).toNat : Int) = 66 := hc
        have Xu : (66 : UInt8).toNat = 66 := rfl
        omega
      rw [e, List.filter_cons, if_neg (by simpa using hj)]
theorem ED (K : Nat) (hK : K ≤ 4096) : Ck ((((List.range K).filter fun j => pQ m n o j == 66)).map fun j => (((kn m n o j).1, (kn m n o j).2, 1) : vh)) = 0 := by
  generalize hF : (List.range K).filter (fun j => pQ m n o j == 66) = F
  have hlen : F.length ≤ K := by rw [← hF]; have := List.length_filter_le (fun j => pQ m n o j == 66) (List.range K); rwa [List.length_range] at this
  have sR : ∀ j ∈ F, j < K ∧ pQ m n o j = 66 := by
    intro j hj
    rw [← hF, List.mem_filter] at hj
    exact ⟨List.mem_range.1 hj.1, by simpa using hj.2⟩
  have hp : F.Pairwise (· < ·) := by rw [← hF]; exact List.Pairwise.filter _ List.pairwise_lt_range
  have ck : ∀ j ∈ F, pE ((kn m n o j).1, (kn m n o j).2, 1) = 0 := by
    intro j hj
    obtain ⟨j1, j2⟩ := sR j hj
    have s := N5 h j
    have b := Hz h j
    have e1 : aV (vi ((kn m n o j).1, (kn m n o j).2, 1)) = 0 := by
      unfold aV vi
      simp only
      rw [if_neg (by omega), if_pos (by omega)]
    have e2 : aV (Av ((kn m n o j).1, (kn m n o j).2, 1)) = 0 := by
      unfold aV Av
      simp only
      rw [mm (by omega), mm (by omega), if_neg (by omega), if_pos (by omega)]
    unfold pE
    rw [if_neg (by rw [e1]; simp), if_neg (by simp), e2]
  unfold Ck
  rw [List.length_map, if_neg (by omega), kV]
  intro x hx
  obtain ⟨k, hk, rfl⟩ := List.mem_map.1 hx
  have hk := List.mem_range.1 hk
  have g : ∀ i (hi : i < F.length), (F.map fun j => (((kn m n o j).1, (kn m n o j).2, 1) : vh)).getD i (0, 0, 0) = ((kn m n o F[i]).1, (kn m n o F[i]).2, 1) := by
    intro i hi
    simp [hi]
  unfold EC
  rw [g k hk, if_neg (by rw [ck _ (List.getElem_mem hk)]; simp)]
  by_cases h0 : 0 < k
  · rw [g (k - 1) (by omega), if_neg]
    rintro ⟨_, hl⟩
    have lt : F[k - 1]'(by omega) < F[k] := List.pairwise_iff_getElem.1 hp (k - 1) k (by omega) hk (by omega)
    obtain ⟨_, q2⟩ := sR _ (List.getElem_mem (show k - 1 < F.length by omega))
    have u := (KA h (F[k - 1]'(by omega))).2 q2
    have mo := Dh h (F[k - 1]'(by omega) + 1) (F[k] - (F[k - 1]'(by omega) + 1))
    rw [show F[k - 1]'(by omega) + 1 + (F[k] - (F[k - 1]'(by omega) + 1)) = F[k] by omega, u] at mo
    simp only at mo
    unfold less at hl
    simp only at hl
    rw [if_pos (by omega)] at hl
    have := of_decide_eq_false hl
    omega
  · rw [if_neg (by omega)]
end
section
variable {N : Nat} (hN : kp N)
include hN
theorem tm {x k : Int} (hx : 0 ≤ x) (qI : x ≤ 255) (hk : 1 ≤ k) : Int.tmod (IntKind.wrap .i64 x) k = x % k ∧ 0 ≤ x % k ∧ x % k < k := by
  rw [mm (by omega), Int.tmod_eq_emod_of_nonneg hx]
  exact ⟨rfl, Int.emod_nonneg _ (by omega), Int.emod_lt_of_pos _ (by omega)⟩
theorem JU {a b m n : Int} {o : UInt8} (h : Fits a b m n o) (ha : a ≤ 30) (hb : b ≤ 30) (hL : m + n ≤ 64) (K : Nat) (hK : K ≤ 300) (w : List UInt8) (hw : w.length = (m + n).toNat) (e1 e2 : Int) :
    bQ (V := Int) (X := Bool ⊕ Unit) (pF N (a, b) (w, e1) ((List.range K).map (kn m n o), e2)) N 0 = some (.inr ()) := by
  refine mn (rd := pF N (a, b) (w, e1) ((List.range K).map (kn m n o), e2)) K (fun k => (k : Int)) (.inr ()) (fun k hk => ?_) ?_ N 0 (Nat.zero_le _) (by unfold kp at hN; omega)
  · have hlen : ((List.range K).map (kn m n o)).length = K := by simp
    have eD : k < ((List.range K).map (kn m n o)).length := by omega
    have eg : ((List.range K).map (kn m n o))[k] = kn m n o k := by simp
    have bn := Hz h k
    obtain ⟨f1, f2, f3⟩ := N2 h k
    have h1 := h.ha; have h2 := h.hb; have h3 := h.hs
    have p1 : 0 ≤ (kn m n o k).1 * b := Int.mul_nonneg bn.1 (by omega)
    have p2 : 0 ≤ a * (kn m n o k).2 := Int.mul_nonneg h1 bn.2.2.1
    have p3 : (kn m n o k).1 * b ≤ 600 * 30 := Int.le_trans (Int.mul_le_mul_of_nonneg_right (show (kn m n o k).1 ≤ 600 by omega) (by omega)) (Int.mul_le_mul_of_nonneg_left hb (by omega))
    have p4 : a * (kn m n o k).2 ≤ 30 * 600 := Int.le_trans (Int.mul_le_mul_of_nonneg_right ha bn.2.2.1) (Int.mul_le_mul_of_nonneg_left (show (kn m n o k).2 ≤ 600 by omega) (by omega))
    have hF : IntKind.wrap .i64 (IntKind.wrap .i64 ((kn m n o k).1 * b) - IntKind.wrap .i64 (a * (kn m n o k).2)) = (kn m n o k).1 * b - a * (kn m n o k).2 := by
      rw [mm (x := (kn m n o k).1 * b) (by omega), mm (x := a * (kn m n o k).2) (by omega), mm (by omega)]
    have AN : IntKind.wrap .i64 (IntKind.wrap .i64 (0 - a) - b) = -a - b := by rw [mm (x := 0 - a) (by omega), mm (by omega)]; omega
    have Q5 : IntKind.wrap .i64 (a + b) = a + b := mm (by omega)
    have hz : decide ((w.length : Int) = 0) = false := by simp only [decide_eq_false_iff_not]; omega
    have hm : (Int.tmod (k : Int) (w.length : Int) == 0) = decide (k % (m + n).toNat = 0) := by
      rw [Int.tmod_eq_emod_of_nonneg (by omega), hw]
      by_cases hq : k % (m + n).toNat = 0
      · have : (k : Int) % ((m + n).toNat : Int) = 0 := by omega
        rw [decide_eq_true hq]
        exact beq_iff_eq.2 this
      · have : (k : Int) % ((m + n).toNat : Int) ≠ 0 := by omega
        rw [decide_eq_false hq]
        exact beq_eq_false_iff_ne.2 this
    simp only [pF, List.length_map, List.length_range, Int.toNat_natCast, fh hk, dP hk, jf iE _ k eD, eg, Te, Tf, Bool.and_self, cond_true, hF, AN, Q5, hz, Bool.not_false, hm, jh (show k < 9223372036854775807 by omega)]
    generalize (kn m n o k).1 * b - a * (kn m n o k).2 = F at f1 f2 f3
    by_cases Hx : a ≤ b
    · obtain ⟨g1, g2⟩ := f1 Hx
      have d1 : ¬ F > 0 := by omega
      have d2 : ¬ F ≤ -a - b := by omega
      have d3 : ¬ a > b := by omega
      simp only [Hx, d1, d2, d3, decide_true, decide_false, cond_true, cond_false]
      by_cases hq : k % (m + n).toNat = 0
      · simp [hq, f3 hq]
      · simp [hq]
    · obtain ⟨g1, g2⟩ := f2 (by omega)
      have d1 : ¬ F < 0 := by omega
      have d2 : ¬ F ≥ a + b := by omega
      have d3 : a > b := by omega
      simp only [Hx, d1, d2, d3, decide_true, decide_false, cond_true, cond_false]
      by_cases hq : k % (m + n).toNat = 0
      · simp [hq, f3 hq]
      · simp [hq]
  · simp only [pF, List.length_map, List.length_range, fX, cond_false]
theorem JV {a b m n : Int} {o : UInt8} (h : Fits a b m n o) (hL : m + n ≤ 64) (t : Nat) (ht : 1 ≤ t) (oB : t ≤ 3) : walkErr (0, 0) (jj [66] m [o] n) (t : Int) true = 0 := by
  have h3 := h.hs
  have wl : (jj [66] m [o] n).length = (m + n).toNat := by rw [ms]; simp
  have hm : (m + n).toNat * t ≤ 64 * 3 := Nat.mul_le_mul (by omega) oB
  have ee : dY (0, 0) (jj [66] m [o] n) (t : Int) = 0 := by
    unfold dY
    rw [Df h, if_neg (by omega), wl]
    have e1 : aV (0, 0) = 0 := rfl
    have e2 : pt (t : Int) 1 256 = 0 := by unfold pt; rw [if_neg (by omega)]
    have e3 : ¬ ((m + n).toNat : Int) * (t : Int) > 256 := by
      have : (((m + n).toNat * t : Nat) : Int) = ((m + n).toNat : Int) * (t : Int) := Int.natCast_mul ..
      omega
    rw [e1, e2, if_neg e3]
    rfl
  unfold walkErr
  rw [if_pos ee, Int.toNat_natCast, Dj h, if_neg]
  rw [Bool.not_eq_true, List.any_eq_false]
  intro x hx
  obtain ⟨j, hj, rfl⟩ := List.mem_map.1 hx
  have hj := List.mem_range.1 hj
  have b := Hz h j
  rw [Nat.mul_comm] at hj
  unfold Ci
  have c1 : ¬ (kn m n o j).1 < -100000 := by omega
  have c2 : ¬ (kn m n o j).1 > 100000 := by omega
  have c3 : ¬ (kn m n o j).2 > 100000 := by omega
  simp [c1, c2, c3]
theorem JW (a0 a1 a2 : Int) (h0 : 0 ≤ a0 ∧ a0 ≤ 255) (h1 : 0 ≤ a1 ∧ a1 ≤ 255) (h2 : 0 ≤ a2 ∧ a2 ≤ 255) : T5 N (a0, a1, a2) = some true := by
  obtain ⟨x1, x2, x3⟩ := tm hN (k := 31) h0.1 h0.2 (by omega)
  obtain ⟨y1, y2, y3⟩ := tm hN (k := 30) h1.1 h1.2 (by omega)
  obtain ⟨z1, z2, z3⟩ := tm hN (k := 3) h2.1 h2.2 (by omega)
  have ey : IntKind.wrap .i64 (1 + a1 % 30) = 1 + a1 % 30 := mm (by omega)
  have ez : IntKind.wrap .i64 (1 + a2 % 3) = 1 + a2 % 3 := mm (by omega)
  rw [QE, x1, y1, z1, ey, ez, JB hN x2 (by omega) (by omega) (by omega)]
  generalize a0 % 31 = x at *
  have hd : 1 ≤ 1 + a1 % 30 ∧ 1 + a1 % 30 ≤ 30 := by omega
  generalize 1 + a1 % 30 = y at hd
  obtain ⟨t, ht⟩ : ∃ t : Nat, 1 + a2 % 3 = (t : Int) := ⟨(1 + a2 % 3).toNat, by omega⟩
  rw [ht]
  have TL : 1 ≤ t ∧ t ≤ 3 := by omega
  obtain ⟨c1, c2, c3, c4, c5⟩ := N4 x2 hd.1
  generalize low x y = r at c1 c2 c3 c4 c5
  obtain ⟨a, b⟩ := r
  simp only at c1 c2 c3 c4 c5
  have hc : Af (a, b) = 0 := by
    unfold Af
    simp only
    rw [if_neg (by omega), if_pos c5]
  have F := Hw c1 c3 c5
  have hs : shr (a, b) = low (2 * (if b < a then b else a)) (a + b) := rfl
  rw [← hs] at F
  obtain ⟨s1, s2, s3⟩ := ND (a, b) hc
  have hl := F.hl
  have N7 : (shr (a, b)).1 + ((shr (a, b)).2 - (shr (a, b)).1) = (shr (a, b)).2 := by omega
  have ew : Ah (a, b) (shr (a, b)) = jj [66] (shr (a, b)).1 [if a > b then 84 else 78] ((shr (a, b)).2 - (shr (a, b)).1) := by
    unfold Ah
    congr 1
    split <;> rfl
  have Rm : Rl N (a, b) = some (jj [66] (shr (a, b)).1 [if a > b then 84 else 78] ((shr (a, b)).2 - (shr (a, b)).1), 0) := by
    rw [M8, JC hN, hc]
    simp only [Option.bind_some, bne_self_eq_false, cond_false]
    rw [JD hN (a, b) hc]
    have : ¬ (shr (a, b)).2 > 64 := by omega
    simp only [Option.bind_some, this, decide_false, cond_false]
    rw [Ha hN (a, b) (shr (a, b)) s1 s2 (by omega), ew]
    rfl
  simp only [Option.bind_some, Rm]
  rw [N7] at hl
  generalize (shr (a, b)).2 - (shr (a, b)).1 = n at F N7
  generalize (shr (a, b)).1 = m at F N7 s1 s2
  generalize ho : (if a > b then (84 : UInt8) else 78) = o at F
  have hL : m + n ≤ 64 := by omega
  have we : cN (jj [66] m [o] n) = 0 := by rw [Df F, if_neg (by omega)]
  obtain ⟨k1, k2⟩ := N3 F
  have fe : jG (jj [66] m [o] n) = 0 := by unfold jG; rw [Hy F, if_neg k2]
  have Qk := Hf hN (jj [66] m [o] n)
  rw [if_pos we, if_pos fe, Hy F, k1] at Qk
  have wk := JV hN F hL t TL.1 TL.2
  have Ql := Ho hN (0, 0) (jj [66] m [o] n) (t : Int) true
  rw [if_pos wk, Int.toNat_natCast, Dj F] at Ql
  have e8 := JI hN (0, 0) (jj [66] m [o] n) (t : Int) true
  have QF := HA F (List.range (t * (m + n).toNat)) []
  rw [List.nil_append] at QF
  rw [if_pos wk, Int.toNat_natCast, Di F] at e8
  unfold Hk at e8
  rw [QF] at e8
  have wl : (jj [66] m [o] n).length = (m + n).toNat := by rw [ms]; simp
  have hm : t * (m + n).toNat ≤ 3 * 64 := Nat.mul_le_mul TL.2 (by omega)
  have e9 := ED F (t * (m + n).toNat) (by omega)
  have Qm := Hb hN (jj [66] m [o] n)
  rw [we] at Qm
  have lp := JU hN F (by omega) (by omega) hL (t * (m + n).toNat + 1) (by omega) (jj [66] m [o] n) wl 0 0
  have TM : ((((List.range (t * (m + n).toNat + 1)).map (kn m n o)).length : Int) != IntKind.wrap .i64 (IntKind.wrap .i64 (((jj [66] m [o] n).length : Int) * (t : Int)) + 1)) = false := by
    have : (((m + n).toNat * t : Nat) : Int) = ((m + n).toNat : Int) * (t : Int) := Int.natCast_mul ..
    rw [Nat.mul_comm] at hm
    rw [wl, List.length_map, List.length_range, mm (x := ((m + n).toNat : Int) * (t : Int)) (by omega), mm (by omega), Nat.mul_comm t]
    simp
  simp only [Qk, Ql, e8, Qm, Option.bind_some, show ((0 : Int) == 26) = false from rfl, cond_false, bne_self_eq_false, beq_self_eq_true, Bool.and_self, Bool.not_true, List.length_map iE, TM, Ep, Er, cond_true, NL hN, e9, lp, Sum.elim_inr, T7]
end
end Go.Proofs.YtophnjjjmikmeaaGreat
