/- Plain laws: edges, third part; TaperWalks. -/
import Derived.Test.YtbfappllfpngdaaGreatDoorTapPg
set_option linter.all false
namespace Go.Proofs.YtbfappllfpngdaaGreatDoor
open Go Go.Am
set_option maxRecDepth 100000

/-- The bar of a step, if it has one. -/
def barF (a : List (Int × Int × Int)) (s : St5) : List (Int × Int × Int) := if s.1 = 66 then a ++ [(s.2.1, s.2.2.1, s.2.2.2.1 - s.2.1)] else a
/-- The mesh of a step, if it has one. -/
def meshF (a : List (Int × Int)) (s : St5) : List (Int × Int) := if s.1 = 66 then a else a ++ [((s.2.1 + s.2.2.2.1).tdiv 2, (s.2.2.1 + s.2.2.2.2).tdiv 2)]
def barsL (l : List St5) : List (Int × Int × Int) := l.foldl barF []
def meshesL (l : List St5) : List (Int × Int) := l.foldl meshF []

theorem barF_len (a : List (Int × Int × Int)) (s : St5) : (barF a s).length ≤ a.length + 1 := by unfold barF; split <;> simp
theorem meshF_len (a : List (Int × Int)) (s : St5) : (meshF a s).length ≤ a.length + 1 := by unfold meshF; split <;> simp

/-- What a good step is in numbers. -/
theorem Good.nums {out : Bool} {s : St5} (h : Good out s) : (s.1 = 66 ↔ s.2.2.2.2 - s.2.2.1 = 1) ∧ -120000 ≤ s.2.1 ∧ s.2.1 ≤ 120000 ∧ -120000 ≤ s.2.2.1 ∧ s.2.2.1 ≤ 120000 ∧ -120000 ≤ s.2.2.2.1 ∧ s.2.2.2.1 ≤ 120000 ∧ -120000 ≤ s.2.2.2.2 ∧ s.2.2.2.2 ≤ 120000 ∧
    (s.1 ≠ 66 → (∃ e : Int, s.2.2.2.1 = s.2.1 + 2 * e) ∧ ∃ e : Int, s.2.2.2.2 = s.2.2.1 + 2 * e) := by
  obtain ⟨p, c, rfl, hc, h1, h2, h3, h4⟩ := h
  have t78 : (78 : UInt8).toNat = 78 := rfl
  have t66 : (66 : UInt8).toNat = 66 := rfl
  have t84 : (84 : UInt8).toNat = 84 := rfl
  rcases isL_three hc with rfl | rfl | rfl
  · have e : stepI 78 = (0, 2) := rfl
    cases out <;> simp only [st5, mv, e, Bool.false_eq_true, if_false, if_true, t78] <;> refine ⟨by omega, by omega, by omega, by omega, by omega, by omega, by omega, by omega, by omega, fun _ => ⟨⟨0, by omega⟩, ⟨1, by omega⟩⟩⟩
  · have e : stepI 66 = (1, 1) := rfl
    cases out <;> simp only [st5, mv, e, Bool.false_eq_true, if_false, if_true, t66] <;> refine ⟨by omega, by omega, by omega, by omega, by omega, by omega, by omega, by omega, by omega, fun h => absurd rfl h⟩
  · have e : stepI 84 = (2, 0) := rfl
    cases out
    · simp only [st5, mv, e, Bool.false_eq_true, if_false, t84]
      refine ⟨by omega, by omega, by omega, by omega, by omega, by omega, by omega, by omega, by omega, fun _ => ⟨⟨-1, by omega⟩, ⟨0, by omega⟩⟩⟩
    · simp only [st5, mv, e, if_true, t84]
      refine ⟨by omega, by omega, by omega, by omega, by omega, by omega, by omega, by omega, by omega, fun _ => ⟨⟨1, by omega⟩, ⟨0, by omega⟩⟩⟩

theorem tdiv_two (a e : Int) : a + Int.tdiv (2 * e) 2 = Int.tdiv (a + (a + 2 * e)) 2 := by
  rw [show a + (a + 2 * e) = 2 * (a + e) by omega, Int.mul_tdiv_cancel_left _ (by omega), Int.mul_tdiv_cancel_left _ (by omega)]

/-- Knots and steps. -/
theorem knots_at (out : Bool) : ∀ (l : List UInt8) (p : Int × Int) (k : Nat) (hk : k < (stepsL out p l).length), (knotsL out p l)[k]'(by rw [knotsL_length]; rw [stepsL_length] at hk; omega) = frK (stepsL out p l)[k]
  | [], _, k, hk => by simp [stepsL] at hk
  | c :: l, p, 0, _ => rfl
  | c :: l, p, k + 1, hk => by
    have h2 : k < (stepsL out (mv out p c) l).length := by simp only [stepsL, List.length_cons] at hk; omega
    have := knots_at out l (mv out p c) k h2
    exact this
theorem knots_next (out : Bool) (l : List UInt8) (p : Int × Int) (k : Nat) (hk : k < (stepsL out p l).length) : (knotsL out p l)[k + 1]'(by rw [knotsL_length]; rw [stepsL_length] at hk; omega) = toK (stepsL out p l)[k] := by
  simp [knotsL]

theorem n83_snoc (l : List (Int × Int × Int)) (a b c : Int) : List.map n83 l ++ [AV.agg [AV.int .i64 a, AV.int .i64 b, AV.int .i64 c]] = List.map n83 (l ++ [(a, b, c)]) := by simp [n83, Pat.enc, Pats.enc]
theorem n79_snoc (l : List (Int × Int)) (a b : Int) : List.map n79 l ++ [AV.agg [AV.int .i64 a, AV.int .i64 b]] = List.map n79 (l ++ [(a, b)]) := by simp [n79, Pat.enc, Pats.enc]
theorem n54_snoc2 (l : List (Int × Int)) (a b : Int) : List.map n54 l ++ [AV.agg [AV.int .i64 a, AV.int .i64 b]] = List.map n54 (l ++ [(a, b)]) := by simp [n54, Pat.enc, Pats.enc]

section
variable {N : Nat} (hN : Big N)
include hN

theorem T34_loop (at0 : Int × Int) (l : List St5) (hl : l.length ≤ 1000) : loopR (V := (List (Int × Int)) × Int) (X := ((List (Int × Int)))) (R34x250 N (l, 0)) N ([at0], 0) = some (at0 :: l.map toK) := by
  have key := loopR_foldl (rd := R34x250 N (l, 0)) l (fun (a : List (Int × Int)) k => (a, (k : Int))) (fun a s => a ++ [toK s]) (fun a => a) (fun a k => a.length = k + 1)
    (fun a k hk hP => by
      refine ⟨?_, by simp [hP]⟩
      have e1 : decide ((a.length + 1) * 16 ≤ 140737488355328) = true := by simp only [decide_eq_true_eq]; omega
      have e2 := n54_snoc2 a (l[k]).2.2.2.1 (l[k]).2.2.2.2
      simp only [R34x250, List.length_map, lt_range hk, in_range hk, Int.toNat_natCast, nthD_map n143 l k hk, fn143, dn143, Bool.and_self, cond_true, decide_true, e1, e2, fa54, md54, Bool.and_true, Option.bind_some, List.length_append, List.length_cons, List.length_nil, w_succ (show k < 9223372036854775807 by omega)]
      rfl)
    (fun a _ => by simp only [R34x250, List.length_map, ge_range, cond_false, fa54, md54, decide_true, Bool.and_true, cond_true, Option.bind_some]) N [at0] 0 (Nat.zero_le _) (by unfold Big at hN; omega) rfl
  rw [List.drop_zero] at key
  have f : ∀ (l : List St5) (a : List (Int × Int)), l.foldl (fun a s => a ++ [toK s]) a = a ++ l.map toK := by
    intro l
    induction l with
    | nil => intro a; simp
    | cons s l ih => intro a; simp [ih]
  rw [f] at key
  exact key

theorem T35_loop (out : Bool) (l : List St5) (hl : l.length ≤ 1000) (hg : ∀ s ∈ l, Good out s) : loopR (V := (List (Int × Int × Int)) × Int) (X := ((List (Int × Int × Int)))) (R35x250 N (l, 0)) N ([], 0) = some (barsL l) := by
  have key := loopR_foldl (rd := R35x250 N (l, 0)) l (fun (a : List (Int × Int × Int)) k => (a, (k : Int))) barF (fun a => a) (fun a k => a.length ≤ k)
    (fun a k hk hP => by
      refine ⟨?_, by have := barF_len a l[k]; omega⟩
      obtain ⟨g1, g2, g3, g4, g5, g6, g7, g8, g9, g10⟩ := (hg l[k] (List.getElem_mem hk)).nums
      have e1 : decide ((a.length + 1) * 24 ≤ 140737488355328) = true := by simp only [decide_eq_true_eq]; omega
      have e3 : IntKind.wrap .i64 ((l[k]).2.2.2.1 - (l[k]).2.1) = (l[k]).2.2.2.1 - (l[k]).2.1 := w64 (by omega)
      have e2 := n83_snoc a (l[k]).2.1 (l[k]).2.2.1 ((l[k]).2.2.2.1 - (l[k]).2.1)
      unfold barF
      simp only [R35x250, List.length_map, lt_range hk, in_range hk, Int.toNat_natCast, nthD_map n143 l k hk, fn143, dn143, Bool.and_self, cond_true, decide_true, Bool.true_and, e1, e2, e3, fa83, md83, Bool.and_true, Option.bind_some, w_succ (show k < 9223372036854775807 by omega)]
      by_cases h : (l[k]).1 = 66
      · simp only [h, beq_self_eq_true, cond_true, if_true, fa83, md83, Option.bind_some, List.length_append, List.length_cons, List.length_nil, decide_true, List.length_map]
      · have hb : ((l[k]).1 == 66) = false := by simpa using h
        simp only [h, hb, cond_false, if_false, fa83, md83, Option.bind_some, decide_true, cond_true, List.length_map])
    (fun a _ => by simp only [R35x250, List.length_map, ge_range, cond_false, fa83, md83, decide_true, Bool.and_true, cond_true, Option.bind_some]) N [] 0 (Nat.zero_le _) (by unfold Big at hN; omega) (Nat.le_refl _)
  exact key

theorem T36_loop (out : Bool) (l : List St5) (hl : l.length ≤ 1000) (hg : ∀ s ∈ l, Good out s) : loopR (V := (List (Int × Int)) × Int) (X := ((List (Int × Int)))) (R36x506 N (l, 0)) N ([], 0) = some (meshesL l) := by
  have key := loopR_foldl (rd := R36x506 N (l, 0)) l (fun (a : List (Int × Int)) k => (a, (k : Int))) meshF (fun a => a) (fun a k => a.length ≤ k)
    (fun a k hk hP => by
      refine ⟨?_, by have := meshF_len a l[k]; omega⟩
      obtain ⟨g1, g2, g3, g4, g5, g6, g7, g8, g9, g10⟩ := (hg l[k] (List.getElem_mem hk)).nums
      have e1 : decide ((a.length + 1) * 16 ≤ 140737488355328) = true := by simp only [decide_eq_true_eq]; omega
      unfold meshF
      simp only [R36x506, List.length_map, lt_range hk, in_range hk, Int.toNat_natCast, nthD_map n143 l k hk, fn143, dn143, Bool.and_self, cond_true, decide_true, Bool.true_and, Bool.and_true, beq_self_eq_true, w_succ (show k < 9223372036854775807 by omega)]
      by_cases h : (l[k]).1 = 66
      · have hb : ((l[k]).1 != 66) = false := by simpa using h
        simp only [h, hb, bne_self_eq_false, cond_false, if_true, fa79, md79, Option.bind_some, decide_true, cond_true, List.length_map, Bool.and_true]
      · have hb : ((l[k]).1 != 66) = true := by simpa using h
        obtain ⟨⟨d, hd⟩, ⟨e, he⟩⟩ := g10 h
        have m1 : T96 N ((l[k]).2.1, (l[k]).2.2.2.1) = some (((l[k]).2.1 + (l[k]).2.2.2.1).tdiv 2) := by
          rw [T96_eq, hd, show (l[k]).2.1 + 2 * d - (l[k]).2.1 = 2 * d by omega, w64 (x := 2 * d) (by omega), Int.mul_tdiv_cancel_left _ (by omega), w64 (x := d) (by omega), w64 (by omega)]
          rw [show (l[k]).2.1 + ((l[k]).2.1 + 2 * d) = 2 * ((l[k]).2.1 + d) by omega, Int.mul_tdiv_cancel_left _ (by omega)]
        have m2 : T96 N ((l[k]).2.2.1, (l[k]).2.2.2.2) = some (((l[k]).2.2.1 + (l[k]).2.2.2.2).tdiv 2) := by
          rw [T96_eq, he, show (l[k]).2.2.1 + 2 * e - (l[k]).2.2.1 = 2 * e by omega, w64 (x := 2 * e) (by omega), Int.mul_tdiv_cancel_left _ (by omega), w64 (x := e) (by omega), w64 (by omega)]
          rw [show (l[k]).2.2.1 + ((l[k]).2.2.1 + 2 * e) = 2 * ((l[k]).2.2.1 + e) by omega, Int.mul_tdiv_cancel_left _ (by omega)]
        simp only [h, hb, cond_true, if_false, m1, m2, Option.bind_some, e1, n79_snoc, fa79, md79, decide_true, List.length_map, List.length_append, List.length_cons, List.length_nil, Bool.and_true])
    (fun a _ => by simp only [R36x506, List.length_map, ge_range, cond_false, fa79, md79, decide_true, Bool.and_true, cond_true, Option.bind_some]) N [] 0 (Nat.zero_le _) (by unfold Big at hN; omega) (Nat.le_refl _)
  exact key

variable (at0 : Int × Int) (L : List UInt8) (out : Bool)

theorem T41_loop (hl : L.length ≤ 1000) (hg : ∀ s ∈ stepsL out at0 L, Good out s) : loopR (V := (List (Int × Int × Int)) × Int) (X := ((List (Int × Int × Int)))) (R41x122 N (knotsL out at0 L)) N ([], 0) = some (barsL (stepsL out at0 L)) := by
  have hsl : (stepsL out at0 L).length = L.length := stepsL_length ..
  have hkl : (knotsL out at0 L).length = L.length + 1 := knotsL_length ..
  have key := loopR_foldl (rd := R41x122 N (knotsL out at0 L)) (stepsL out at0 L) (fun (a : List (Int × Int × Int)) k => (a, (k : Int))) barF (fun a => a) (fun a k => a.length ≤ k)
    (fun a k hk hP => by
      refine ⟨?_, by have := barF_len a (stepsL out at0 L)[k]; omega⟩
      obtain ⟨g1, g2, g3, g4, g5, g6, g7, g8, g9, g10⟩ := (hg _ (List.getElem_mem hk)).nums
      have hk1 : k < (knotsL out at0 L).length := by omega
      have hk2 : k + 1 < (knotsL out at0 L).length := by omega
      have a1 : (knotsL out at0 L)[k] = frK (stepsL out at0 L)[k] := knots_at out L at0 k hk
      have a2 : (knotsL out at0 L)[k + 1] = toK (stepsL out at0 L)[k] := knots_next out L at0 k hk
      have n1 := nthD_map n54 (knotsL out at0 L) k hk1
      have n2 := nthD_map n54 (knotsL out at0 L) (k + 1) hk2
      rw [a1] at n1; rw [a2] at n2
      unfold barF
      generalize (stepsL out at0 L)[k] = s at *
      have e1 : decide ((a.length + 1) * 24 ≤ 140737488355328) = true := by simp only [decide_eq_true_eq]; omega
      have e3 : IntKind.wrap .i64 ((toK s).1 - (frK s).1) = s.2.2.2.1 - s.2.1 := w64 (by simp only [toK, frK]; omega)
      have e4 : IntKind.wrap .i64 ((toK s).2 - (frK s).2) = s.2.2.2.2 - s.2.2.1 := w64 (by simp only [toK, frK]; omega)
      have e2 := n83_snoc a (frK s).1 (frK s).2 (s.2.2.2.1 - s.2.1)
      simp only [R41x122, List.length_map, w_succ (show k < 9223372036854775807 by omega), lt_range hk2, in_range hk2, in_range hk1, Int.toNat_natCast, n1, n2, fn54, dn54, Bool.and_self, cond_true, e3, e4]
      by_cases h : s.1 = 66
      · have hb : (s.2.2.2.2 - s.2.2.1 == 1) = true := by simpa using g1.1 h
        simp only [h, hb, cond_true, if_true, e1, e2, fa83, md83, Option.bind_some, List.length_append, List.length_cons, List.length_nil, decide_true, List.length_map, Bool.and_self, Bool.and_true]
        rfl
      · have hb : (s.2.2.2.2 - s.2.2.1 == 1) = false := by
          have : ¬ s.2.2.2.2 - s.2.2.1 = 1 := fun e => h (g1.2 e)
          simpa using this
        simp only [h, hb, cond_false, if_false, fa83, md83, Option.bind_some, decide_true, cond_true, List.length_map, Bool.and_true])
    (fun a _ => by
      have hx : ¬ (((stepsL out at0 L).length + 1 : Nat) : Int) < ((knotsL out at0 L).length : Int) := by omega
      simp only [R41x122, List.length_map, w_succ (show (stepsL out at0 L).length < 9223372036854775807 by omega), hx, decide_false, cond_false, fa83, md83, decide_true, Bool.and_true, cond_true, Option.bind_some]) N [] 0 (Nat.zero_le _) (by unfold Big at hN; omega) (Nat.le_refl _)
  exact key

theorem T43_loop (hl : L.length ≤ 1000) (hg : ∀ s ∈ stepsL out at0 L, Good out s) : loopR (V := (List (Int × Int)) × Int) (X := ((List (Int × Int)))) (R43x122 N (knotsL out at0 L)) N ([], 0) = some (meshesL (stepsL out at0 L)) := by
  have hsl : (stepsL out at0 L).length = L.length := stepsL_length ..
  have hkl : (knotsL out at0 L).length = L.length + 1 := knotsL_length ..
  have key := loopR_foldl (rd := R43x122 N (knotsL out at0 L)) (stepsL out at0 L) (fun (a : List (Int × Int)) k => (a, (k : Int))) meshF (fun a => a) (fun a k => a.length ≤ k)
    (fun a k hk hP => by
      refine ⟨?_, by have := meshF_len a (stepsL out at0 L)[k]; omega⟩
      obtain ⟨g1, g2, g3, g4, g5, g6, g7, g8, g9, g10⟩ := (hg _ (List.getElem_mem hk)).nums
      have hk1 : k < (knotsL out at0 L).length := by omega
      have hk2 : k + 1 < (knotsL out at0 L).length := by omega
      have a1 : (knotsL out at0 L)[k] = frK (stepsL out at0 L)[k] := knots_at out L at0 k hk
      have a2 : (knotsL out at0 L)[k + 1] = toK (stepsL out at0 L)[k] := knots_next out L at0 k hk
      have n1 := nthD_map n54 (knotsL out at0 L) k hk1
      have n2 := nthD_map n54 (knotsL out at0 L) (k + 1) hk2
      rw [a1] at n1; rw [a2] at n2
      unfold meshF
      generalize (stepsL out at0 L)[k] = s at *
      have e1 : decide ((a.length + 1) * 16 ≤ 140737488355328) = true := by simp only [decide_eq_true_eq]; omega
      have e4 : IntKind.wrap .i64 ((toK s).2 - (frK s).2) = s.2.2.2.2 - s.2.2.1 := w64 (by simp only [toK, frK]; omega)
      simp only [R43x122, List.length_map, w_succ (show k < 9223372036854775807 by omega), lt_range hk2, in_range hk2, in_range hk1, Int.toNat_natCast, n1, n2, fn54, dn54, Bool.and_self, cond_true, e4]
      by_cases h : s.1 = 66
      · have hb : (s.2.2.2.2 - s.2.2.1 != 1) = false := by simpa using g1.1 h
        simp only [h, hb, cond_false, if_true, fa79, md79, Option.bind_some, decide_true, cond_true, List.length_map, Bool.and_true]
      · have hb : (s.2.2.2.2 - s.2.2.1 != 1) = true := by
          have : ¬ s.2.2.2.2 - s.2.2.1 = 1 := fun e => h (g1.2 e)
          simpa using this
        obtain ⟨⟨d, hd⟩, ⟨e, he⟩⟩ := g10 h
        have m1 : IntKind.wrap .i64 (Int.tdiv (IntKind.wrap .i64 ((frK s).1 + (toK s).1)) 2) = (s.2.1 + s.2.2.2.1).tdiv 2 := by
          simp only [toK, frK]
          rw [w64 (x := s.2.1 + s.2.2.2.1) (by omega), hd, show s.2.1 + (s.2.1 + 2 * d) = 2 * (s.2.1 + d) by omega, Int.mul_tdiv_cancel_left _ (by omega), w64 (by omega)]
        have m2 : IntKind.wrap .i64 (Int.tdiv (IntKind.wrap .i64 ((frK s).2 + (toK s).2)) 2) = (s.2.2.1 + s.2.2.2.2).tdiv 2 := by
          simp only [toK, frK]
          rw [w64 (x := s.2.2.1 + s.2.2.2.2) (by omega), he, show s.2.2.1 + (s.2.2.1 + 2 * e) = 2 * (s.2.2.1 + e) by omega, Int.mul_tdiv_cancel_left _ (by omega), w64 (by omega)]
        simp only [h, hb, cond_true, if_false, m1, m2, Option.bind_some, e1, n79_snoc, fa79, md79, decide_true, List.length_map, List.length_append, List.length_cons, List.length_nil, Bool.and_self, Bool.and_true])
    (fun a _ => by
      have hx : ¬ (((stepsL out at0 L).length + 1 : Nat) : Int) < ((knotsL out at0 L).length : Int) := by omega
      simp only [R43x122, List.length_map, w_succ (show (stepsL out at0 L).length < 9223372036854775807 by omega), hx, decide_false, cond_false, fa79, md79, decide_true, Bool.and_true, cond_true, Option.bind_some]) N [] 0 (Nat.zero_le _) (by unfold Big at hN; omega) (Nat.le_refl _)
  exact key

/-! ### Lists are equal to themselves -/

theorem T38_self (l : List (Int × Int)) (hl : l.length ≤ 1000) : T38 N (l, l) = some true := by
  rw [T38_eq]
  have key := loopR_count (rd := R38x58 N l l) l.length (fun k => (k : Int)) (.inr ()) (fun k hk => by
    simp only [R38x58, List.length_map, lt_range hk, in_range hk, Int.toNat_natCast, nthD_map n54 l k hk, fn54, dn54, Bool.and_self, cond_true, beq_self_eq_true, Bool.not_true, cond_false, w_succ (show k < 9223372036854775807 by omega)]) (by simp only [R38x58, List.length_map, ge_range, cond_false]) N 0 (Nat.zero_le _) (by unfold Big at hN; omega)
  have key' : loopR (V := Int) (X := Bool ⊕ Unit) (R38x58 N l l) N 0 = some (.inr ()) := key
  rw [key']
  simp
theorem T40_self (l : List (Int × Int × Int)) (hl : l.length ≤ 1000) : T40 N (l, l) = some true := by
  rw [T40_eq]
  have key := loopR_count (rd := R40x58 N l l) l.length (fun k => (k : Int)) (.inr ()) (fun k hk => by
    simp only [R40x58, List.length_map, lt_range hk, in_range hk, Int.toNat_natCast, nthD_map n83 l k hk, fn83, dn83, Bool.and_self, cond_true, beq_self_eq_true, Bool.not_true, cond_false, w_succ (show k < 9223372036854775807 by omega)]) (by simp only [R40x58, List.length_map, ge_range, cond_false]) N 0 (Nat.zero_le _) (by unfold Big at hN; omega)
  have key' : loopR (V := Int) (X := Bool ⊕ Unit) (R40x58 N l l) N 0 = some (.inr ()) := key
  rw [key']
  simp
theorem T42_self (l : List (Int × Int)) (hl : l.length ≤ 1000) : T42 N (l, l) = some true := by
  rw [T42_eq]
  have key := loopR_count (rd := R42x58 N l l) l.length (fun k => (k : Int)) (.inr ()) (fun k hk => by
    simp only [R42x58, List.length_map, lt_range hk, in_range hk, Int.toNat_natCast, nthD_map n79 l k hk, fn79, dn79, Bool.and_self, cond_true, beq_self_eq_true, Bool.not_true, cond_false, w_succ (show k < 9223372036854775807 by omega)]) (by simp only [R42x58, List.length_map, ge_range, cond_false]) N 0 (Nat.zero_le _) (by unfold Big at hN; omega)
  have key' : loopR (V := Int) (X := Bool ⊕ Unit) (R42x58 N l l) N 0 = some (.inr ()) := key
  rw [key']
  simp
end

theorem fold_len {α β : Type} (f : List β → α → List β) (hf : ∀ a s, (f a s).length ≤ a.length + 1) : ∀ (l : List α) (a : List β), (l.foldl f a).length ≤ a.length + l.length
  | [], a => by simp
  | s :: l, a => by
    have h1 := fold_len f hf l (f a s)
    have h2 := hf a s
    simp only [List.foldl_cons, List.length_cons]
    omega

section
variable {N : Nat} (hN : Big N) (at0 : Int × Int) (w : List UInt8) (times : Int) (out : Bool)
include hN

theorem T34_walk : T34 N (at0, w, times, out) = some (if walkErr at0 w times out = 0 then (knotsL out at0 (repT w times.toNat), 0) else ([], walkErr at0 w times out)) := by
  rw [T34_eq, T95_steps hN]
  simp only [Option.bind_some]
  by_cases h : walkErr at0 w times out = 0
  · have ok : EdgeOk at0 w times := edgeErr_ok (by unfold walkErr at h; by_cases h2 : edgeErr at0 w times = 0; exact h2; rw [if_neg h2] at h; exact absurd h h2)
    simp only [h, if_true, bne_self_eq_false, cond_false]
    have e0 : (((bif (allFit (Pat.fits p54) [(AV.agg [(AV.int .i64 at0.1), (AV.int .i64 at0.2)])] && true) then some ((List.map d54 [(AV.agg [(AV.int .i64 at0.1), (AV.int .i64 at0.2)])]), 0) else none : Option ((List (Int × Int)) × Int)).bind fun w7 => bif (decide (1 = (List.map n54 w7.1).length) && true) then some w7 else none)) = some ([at0], 0) := rfl
    rw [e0, Option.bind_some, T34_loop hN at0 _ (by rw [stepsL_length, repT_length, Nat.mul_comm]; have := ok.hl; omega)]
    simp only [Option.bind_some, fa54, md54, Bool.and_self, cond_true]
    rfl
  · simp only [h, if_false, bne0 h, cond_true]
    rfl

theorem good_walk (ok : EdgeOk at0 w times) : ∀ s ∈ stepsL out at0 (repT w times.toNat), Good out s :=
  good_steps ⟨ok.hk.1, ok.hk.2.1, ok.hk.2.2.1, ok.hk.2.2.2.1⟩ out _ at0 0 (Near.zero at0) (by rw [repT_length, Nat.mul_comm]; have := ok.hl; omega) (fun c hc => List.all_eq_true.1 ok.hw.2.2 c (repT_mem hc))

theorem T35_walk : T35 N (at0, w, times, out) = some (if walkErr at0 w times out = 0 then (barsL (stepsL out at0 (repT w times.toNat)), 0) else ([], walkErr at0 w times out)) := by
  rw [T35_eq, T95_steps hN]
  simp only [Option.bind_some]
  by_cases h : walkErr at0 w times out = 0
  · have ok : EdgeOk at0 w times := edgeErr_ok (by unfold walkErr at h; by_cases h2 : edgeErr at0 w times = 0; exact h2; rw [if_neg h2] at h; exact absurd h h2)
    simp only [h, if_true, bne_self_eq_false, cond_false]
    have e0 : (((bif (allFit (Pat.fits p83) ([] : List AV) && true) then some ((List.map d83 ([] : List AV)), 0) else none : Option ((List (Int × Int × Int)) × Int)).bind fun w10 => bif (decide (0 = (List.map n83 w10.1).length) && true) then some w10 else none)) = some ([], 0) := rfl
    rw [e0, Option.bind_some, T35_loop hN out _ (by rw [stepsL_length, repT_length, Nat.mul_comm]; have := ok.hl; omega) (good_walk hN at0 w times out ok)]
    simp only [Option.bind_some, fa83, md83, Bool.and_self, cond_true]
  · simp only [h, if_false, bne0 h, cond_true]
    rfl

theorem T36_walk : T36 N (at0, w, times, out) = some (if walkErr at0 w times out = 0 then (meshesL (stepsL out at0 (repT w times.toNat)), 0) else ([], walkErr at0 w times out)) := by
  rw [T36_eq, T95_steps hN]
  simp only [Option.bind_some]
  by_cases h : walkErr at0 w times out = 0
  · have ok : EdgeOk at0 w times := edgeErr_ok (by unfold walkErr at h; by_cases h2 : edgeErr at0 w times = 0; exact h2; rw [if_neg h2] at h; exact absurd h h2)
    simp only [h, if_true, bne_self_eq_false, cond_false]
    have e0 : (((bif (allFit (Pat.fits p79) ([] : List AV) && true) then some ((List.map d79 ([] : List AV)), 0) else none : Option ((List (Int × Int)) × Int)).bind fun w12 => bif (decide (0 = (List.map n79 w12.1).length) && true) then some w12 else none)) = some ([], 0) := rfl
    rw [e0, Option.bind_some, T36_loop hN out _ (by rw [stepsL_length, repT_length, Nat.mul_comm]; have := ok.hl; omega) (good_walk hN at0 w times out ok)]
    simp only [Option.bind_some, fa79, md79, Bool.and_self, cond_true]
  · simp only [h, if_false, bne0 h, cond_true]
    rfl

theorem T41_bars (ok : EdgeOk at0 w times) : T41 N (at0, w, times, out) = some (barsL (stepsL out at0 (repT w times.toNat))) := by
  obtain ⟨n, rfl⟩ : ∃ n : Nat, times = (n : Int) := ⟨times.toNat, by have := ok.ht; omega⟩
  have hl := ok.hl; have ht := ok.ht
  have g := good_walk hN at0 w n out ok
  rw [Int.toNat_natCast] at hl g ⊢
  rw [T41_eq, T39_knots hN at0 ⟨ok.hk.1, ok.hk.2.1, ok.hk.2.2.1, ok.hk.2.2.2.1⟩ w out n hl (by omega)]
  simp only [Option.bind_some]
  have e0 : (((bif (allFit (Pat.fits p83) ([] : List AV) && true) then some ((List.map d83 ([] : List AV)), 0) else none : Option ((List (Int × Int × Int)) × Int)).bind fun w10 => bif (decide (0 = (List.map n83 w10.1).length) && true) then some w10 else none)) = some ([], 0) := rfl
  rw [e0, Option.bind_some, T41_loop hN at0 (repT w n) out (by rw [repT_length, Nat.mul_comm]; omega) g]
  simp only [Option.bind_some, fa83, md83, cond_true]

theorem T43_meshes (ok : EdgeOk at0 w times) : T43 N (at0, w, times, out) = some (meshesL (stepsL out at0 (repT w times.toNat))) := by
  obtain ⟨n, rfl⟩ : ∃ n : Nat, times = (n : Int) := ⟨times.toNat, by have := ok.ht; omega⟩
  have hl := ok.hl; have ht := ok.ht
  have g := good_walk hN at0 w n out ok
  rw [Int.toNat_natCast] at hl g ⊢
  rw [T43_eq, T39_knots hN at0 ⟨ok.hk.1, ok.hk.2.1, ok.hk.2.2.1, ok.hk.2.2.2.1⟩ w out n hl (by omega)]
  simp only [Option.bind_some]
  have e0 : (((bif (allFit (Pat.fits p79) ([] : List AV) && true) then some ((List.map d79 ([] : List AV)), 0) else none : Option ((List (Int × Int)) × Int)).bind fun w10 => bif (decide (0 = (List.map n79 w10.1).length) && true) then some w10 else none)) = some ([], 0) := rfl
  rw [e0, Option.bind_some, T43_loop hN at0 (repT w n) out (by rw [repT_length, Nat.mul_comm]; omega) g]
  simp only [Option.bind_some, fa79, md79, cond_true]

end

theorem TaperWalks_true {N : Nat} (hN : Big N) (at0 : Int × Int) (x : List UInt8 × Int × Bool) : T6 N (at0, x) = some true := by
  rw [T6_eq]
  generalize hg : ((T15 N ()).bind fun y1 => (bif (!y1) then (some true) else (some (decide ((((x.1).length : Nat) : Int) > 70)))) : Option Bool) = g
  have hgs : ∃ c, g = some c := by
    rw [← hg]
    simp only [T15, Option.bind_some, Bool.not_true, cond_false]
    exact ⟨_, rfl⟩
  obtain ⟨c, rfl⟩ := hgs
  cases c with
  | true => rfl
  | false =>
    simp only [Option.bind_some, cond_false, T34_walk hN, T35_walk hN, T36_walk hN, T37_err hN]
    by_cases h : walkErr at0 x.1 x.2.1 x.2.2 = 0
    · have ok : EdgeOk at0 x.1 x.2.1 := edgeErr_ok (by unfold walkErr at h; by_cases h2 : edgeErr at0 x.1 x.2.1 = 0; exact h2; rw [if_neg h2] at h; exact absurd h h2)
      have hl := ok.hl; have ht := ok.ht
      have t39 := T39_knots hN at0 ⟨ok.hk.1, ok.hk.2.1, ok.hk.2.2.1, ok.hk.2.2.2.1⟩ x.1 x.2.2 x.2.1.toNat hl (by omega)
      rw [Int.toNat_of_nonneg (by omega)] at t39
      have hn : (repT x.1 x.2.1.toNat).length ≤ 256 := by rw [repT_length, Nat.mul_comm]; exact hl
      have l1 : (knotsL x.2.2 at0 (repT x.1 x.2.1.toNat)).length ≤ 1000 := by rw [knotsL_length]; omega
      have l2 : (barsL (stepsL x.2.2 at0 (repT x.1 x.2.1.toNat))).length ≤ 1000 := by
        have := fold_len barF barF_len (stepsL x.2.2 at0 (repT x.1 x.2.1.toNat)) []
        rw [stepsL_length] at this
        unfold barsL
        simp only [List.length_nil] at this
        omega
      have l3 : (meshesL (stepsL x.2.2 at0 (repT x.1 x.2.1.toNat))).length ≤ 1000 := by
        have := fold_len meshF meshF_len (stepsL x.2.2 at0 (repT x.1 x.2.1.toNat)) []
        rw [stepsL_length] at this
        unfold meshesL
        simp only [List.length_nil] at this
        omega
      simp only [h, if_true, bne_self_eq_false, cond_false, beq_self_eq_true, cond_true, t39, T41_bars hN at0 x.1 x.2.1 x.2.2 ok, T43_meshes hN at0 x.1 x.2.1 x.2.2 ok, Option.bind_some, fa54, md54, fa83, md83, fa79, md79, Bool.and_self, T38_self hN _ l1, T40_self hN _ l2, T42_self hN _ l3]
    · simp only [h, if_false, bne0 h, cond_true, beq_self_eq_true, List.map_nil, List.length_nil]
      rfl
end Go.Proofs.YtbfappllfpngdaaGreatDoor
