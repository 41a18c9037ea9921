/- Plain laws: marks as sums. -/
import Derived.Test.YtpngggdfbbdfaaaDoorHangPg
set_option linter.all false
namespace Go.Proofs.YtpngggdfbbdfaaaDoor
open Go Go.Am
set_option maxRecDepth 100000

/-- The widths of all meshes. -/
def us (bar : Int) : List Sec → List Int
  | [] => []
  | s :: l => List.replicate s.1.toNat (unit bar s) ++ us bar l
def lw (x : Int) : Int × Int := low x 2329089562800
def ps : Int → List Int → List Int
  | _, [] => []
  | a, u :: l => (a + u) :: ps (a + u) l
def okM (x : Int) : Bool := !bigR (lw x)

theorem us_append (bar : Int) (a b : List Sec) : us bar (a ++ b) = us bar a ++ us bar b := by
  induction a with
  | nil => rfl
  | cons s a ih => simp [us, ih]
theorem ps_append (a : Int) (x y : List Int) : ps a (x ++ y) = ps a x ++ ps (a + x.sum) y := by
  induction x generalizing a with
  | nil => simp [ps]
  | cons u x ih => simp [ps, ih, Int.add_assoc]
theorem ps_len (a : Int) (x : List Int) : (ps a x).length = x.length := by
  induction x generalizing a with
  | nil => rfl
  | cons u x ih => simp [ps, ih]
theorem ps_get (x : List Int) : ∀ (a : Int) (j : Nat), j ≤ x.length → (a :: ps a x)[j]? = some (a + (x.take j).sum) := by
  induction x with
  | nil => intro a j hj; have : j = 0 := by simpa using hj
           subst this; simp [ps]
  | cons u x ih =>
    intro a j hj
    cases j with
    | zero => simp
    | succ j =>
      have := ih (a + u) j (by simpa using hj)
      simp only [ps, List.getElem?_cons_succ, List.take_succ_cons, List.sum_cons]
      rw [this, Int.add_assoc]

theorem fold_us {S Y : Type} (st : S → Int → S ⊕ Y) (bar : Int) : ∀ (l : List Sec) (v : S), foldI (fun v s => foldI (fun v (_ : Unit) => st v (unit bar s)) v (List.replicate s.1.toNat ())) v l = foldI st v (us bar l) := by
  have rep : ∀ (n : Nat) (u : Int) (v : S) (r : List Int), foldI st v (List.replicate n u ++ r) = Sum.elim (fun v => foldI st v r) (fun y => .inr y) (foldI (fun v (_ : Unit) => st v u) v (List.replicate n ())) := by
    intro n u
    induction n with
    | zero => intro v r; rfl
    | succ n ih =>
      intro v r
      simp only [List.replicate_succ, List.cons_append, foldI]
      cases st v u with
      | inl w => simp only [Sum.elim_inl]; exact ih w r
      | inr y => rfl
  intro l
  induction l with
  | nil => intro v; rfl
  | cons s l ih =>
    intro v
    simp only [foldI, us, rep]
    congr 1
    funext v
    exact ih v

theorem fold_mark : ∀ (x : List Int) (a : Int) (acc : List (Int × Int)), ((ps a x).all okM = true → foldI (fun v u => markS u v) (a, acc) x = .inl (a + x.sum, acc ++ (ps a x).map lw)) ∧ ((ps a x).all okM = false → ∃ y, foldI (fun v u => markS u v) (a, acc) x = .inr y)
  | [], a, acc => by simp [ps, foldI]
  | u :: x, a, acc => by
    obtain ⟨h1, h2⟩ := fold_mark x (a + u) (acc ++ [lw (a + u)])
    simp only [ps, List.all_cons, foldI]
    unfold okM at *
    by_cases hb : bigR (lw (a + u)) = true
    · refine ⟨fun h => by simp [hb] at h, fun _ => ⟨acc, ?_⟩⟩
      unfold markS
      simp only
      rw [if_pos (show bigR (low (a + u) 2329089562800) = true from hb)]
      rfl
    · have hb' : bigR (lw (a + u)) = false := by simpa using hb
      have e : markS u (a, acc) = .inl (a + u, acc ++ [lw (a + u)]) := by
        unfold markS
        simp only
        rw [if_neg (show ¬ bigR (low (a + u) 2329089562800) = true from hb)]
        rfl
      rw [e]
      simp only [Sum.elim_inl, hb', Bool.not_false, Bool.true_and]
      refine ⟨fun h => ?_, fun h => h2 h⟩
      rw [h1 h]
      simp [Int.add_assoc]

def allOk (bar : Int) (l : List Sec) : Bool := (ps 0 (us bar l)).all okM
def msOf (bar : Int) (l : List Sec) : List (Int × Int) := (0 :: ps 0 (us bar l)).map lw

theorem lw0 : lw 0 = (0, 1) := rfl

theorem marksOf_eq (bar : Int) (l : List Sec) : marksOf bar l = if allOk bar l then (msOf bar l, 0) else ([], 4) := by
  unfold marksOf
  have e : foldI (markSec bar) (0, [(0, 1)]) l = foldI (fun v u => markS u v) (0, [(0, 1)]) (us bar l) := fold_us (fun v u => markS u v) bar l (0, [(0, 1)])
  rw [e]
  obtain ⟨h1, h2⟩ := fold_mark (us bar l) 0 [(0, 1)]
  unfold allOk
  by_cases h : (ps 0 (us bar l)).all okM = true
  · rw [h1 h, if_pos h]
    rfl
  · obtain ⟨y, hy⟩ := h2 (by simpa using h)
    rw [hy, if_neg h]
    rfl

theorem total_us (bar : Int) : ∀ (l : List Sec) (a : Int), (∀ s ∈ l, 0 ≤ s.1) → l.foldl (fun a s => a + s.1 * unit bar s) a = a + (us bar l).sum
  | [], a, _ => by simp [us]
  | s :: l, a, h => by
    have h0 := h s (by simp)
    have hm : ((s.1.toNat : Nat) : Int) = s.1 := by omega
    have rs : ∀ (n : Nat) (u : Int), (List.replicate n u).sum = n * u := by
      intro n u
      induction n with
      | zero => simp
      | succ n ih => rw [List.replicate_succ, List.sum_cons, ih, show (((n + 1 : Nat) : Int)) = (n : Int) + 1 by simp, Int.add_mul]; omega
    rw [List.foldl_cons, total_us bar l _ (fun s hs => h s (by simp [hs]))]
    simp only [us, List.sum_append, rs, hm]
    omega

/-- A whole number of parts, in lowest terms. -/
theorem lw_facts {x : Int} (hx : 0 ≤ x) (hx' : x ≤ 838472242608000000) : 0 ≤ (lw x).1 ∧ 0 < (lw x).2 ∧ (lw x).2 ≤ 2329089562800 ∧ Int.tmod 2329089562800 (lw x).2 = 0 ∧ (lw x).1 * (Int.tdiv 2329089562800 (lw x).2) = x ∧ (lw x).1 ≤ 2000000 * (lw x).2 ∧ 0 ≤ Int.tdiv 2329089562800 (lw x).2 ∧ Int.tdiv 2329089562800 (lw x).2 ≤ 2329089562800 := by
  unfold lw low
  have hg := gcd_pos (a := x) (b := 2329089562800) (.inr (by omega))
  have d1 : (Int.gcd x 2329089562800 : Int) ∣ x := Int.gcd_dvd_left ..
  have d2 : (Int.gcd x 2329089562800 : Int) ∣ 2329089562800 := Int.gcd_dvd_right ..
  generalize (Int.gcd x 2329089562800 : Int) = g at *
  obtain ⟨p, rfl⟩ := d1
  obtain ⟨q, hq⟩ := d2
  have e1 : g * p / g = p := Int.mul_ediv_cancel_left _ (by omega)
  have e2 : (2329089562800 : Int) / g = q := by rw [hq]; exact Int.mul_ediv_cancel_left _ (by omega)
  have hp : 0 ≤ p := by
    by_cases h : 0 ≤ p
    · exact h
    · have := Int.mul_neg_of_pos_of_neg hg (by omega : p < 0); omega
  have hq0 : 0 < q := by
    by_cases h : 0 < q
    · exact h
    · have := Int.mul_nonpos_of_nonneg_of_nonpos (by omega : 0 ≤ g) (by omega : q ≤ 0); omega
  simp only [e1, e2]
  have e3 : Int.tmod 2329089562800 q = 0 := by rw [hq]; exact Int.mul_tmod_left g q
  have e4 : Int.tdiv 2329089562800 q = g := by rw [hq]; exact Int.mul_tdiv_cancel g (by omega)
  have hq1 : q ≤ 2329089562800 := by
    have : 1 * q ≤ g * q := Int.mul_le_mul_of_nonneg_right (by omega) (by omega)
    omega
  have hg1 : g ≤ 2329089562800 := by
    have : g * 1 ≤ g * q := Int.mul_le_mul_of_nonneg_left (by omega) (by omega)
    omega
  refine ⟨hp, hq0, hq1, e3, by rw [e4, Int.mul_comm], ?_, by rw [e4]; omega, by rw [e4]; exact hg1⟩
  -- p ≤ 2000000 q
  have h1 : g * p ≤ g * (2000000 * q) := by
    have : g * (2000000 * q) = 2000000 * (g * q) := by rw [Int.mul_left_comm]
    rw [this, ← hq]
    omega
  exact Int.le_of_mul_le_mul_left h1 hg

/-- The width of one mesh. -/
theorem width_facts {bar n d m : Int} (hb : 1 ≤ bar ∧ bar ≤ 100) (hn : 1 ≤ n) (hnd : n ≤ d) (hd : d ≤ 30) (hm : 1 ≤ m ∧ m ≤ 12) :
    0 ≤ (low (2 * bar * m * n) d).1 ∧ (low (2 * bar * m * n) d).1 ≤ 72000 ∧ 0 < (low (2 * bar * m * n) d).2 ∧ (low (2 * bar * m * n) d).2 ≤ 30 ∧ lw (2 * bar * m * n * (2329089562800 / d)) = low (2 * bar * m * n) d := by
  have b0 : 0 ≤ 2 * bar * m := Int.mul_nonneg (by omega) (by omega)
  have b1 : 2 * bar * m ≤ 200 * 12 := Int.mul_le_mul (by omega) (by omega) (by omega) (by omega)
  have c0 : 0 ≤ 2 * bar * m * n := Int.mul_nonneg b0 (by omega)
  have c1 : 2 * bar * m * n ≤ 200 * 12 * 30 := Int.mul_le_mul b1 (by omega) (by omega) (by omega)
  have hdv : d ∣ 2329089562800 := by
    have : d = 1 ∨ d = 2 ∨ d = 3 ∨ d = 4 ∨ d = 5 ∨ d = 6 ∨ d = 7 ∨ d = 8 ∨ d = 9 ∨ d = 10 ∨ d = 11 ∨ d = 12 ∨ d = 13 ∨ d = 14 ∨ d = 15 ∨ d = 16 ∨ d = 17 ∨ d = 18 ∨ d = 19 ∨ d = 20 ∨ d = 21 ∨ d = 22 ∨ d = 23 ∨ d = 24 ∨ d = 25 ∨ d = 26 ∨ d = 27 ∨ d = 28 ∨ d = 29 ∨ d = 30 := by omega
    rcases this with rfl | rfl | rfl | rfl | rfl | rfl | rfl | rfl | rfl | rfl | rfl | rfl | rfl | rfl | rfl | rfl | rfl | rfl | rfl | rfl | rfl | rfl | rfl | rfl | rfl | rfl | rfl | rfl | rfl | rfl <;> decide
  generalize 2 * bar * m * n = x at *
  have hg := gcd_pos (a := x) (b := d) (.inr (by omega))
  have f1 : 0 ≤ x / (Int.gcd x d : Int) := Int.ediv_nonneg c0 (by omega)
  have f2 : x / (Int.gcd x d : Int) ≤ x := Int.ediv_le_self _ c0
  have f3 : (Int.gcd x d : Int) ∣ d := Int.gcd_dvd_right ..
  have f4 : d / (Int.gcd x d : Int) ≤ d := Int.ediv_le_self _ (by omega)
  have f5 : 0 < d / (Int.gcd x d : Int) := Int.ediv_pos_of_pos_of_dvd (by omega) (by omega) f3
  refine ⟨f1, by show x / _ ≤ _; omega, f5, by show d / _ ≤ _; omega, ?_⟩
  obtain ⟨q, hq⟩ := hdv
  have e1 : (2329089562800 : Int) / d = q := by rw [hq]; exact Int.mul_ediv_cancel_left _ (by omega)
  have hq0 : 0 < q := by
    by_cases h : 0 < q
    · exact h
    · have := Int.mul_nonpos_of_nonneg_of_nonpos (by omega : 0 ≤ d) (by omega : q ≤ 0); omega
  rw [e1]
  unfold lw low
  have eg : (Int.gcd (x * q) 2329089562800 : Int) = Int.gcd x d * q := by
    rw [hq, Int.gcd_mul_right, Int.natCast_mul, Int.natAbs_of_nonneg (by omega)]
  rw [eg, hq]
  rw [Int.mul_ediv_mul_of_pos_left x _ hq0, Int.mul_ediv_mul_of_pos_left d _ hq0]
end Go.Proofs.YtpngggdfbbdfaaaDoor
