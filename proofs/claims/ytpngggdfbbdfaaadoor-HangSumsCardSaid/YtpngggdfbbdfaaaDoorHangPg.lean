/- Plain laws: ropes, their lengths and marks. -/
import Derived.Test.YtpngggdfbbdfaaaDoorHangPf
set_option linter.all false
namespace Go.Proofs.YtpngggdfbbdfaaaDoor
open Go Go.Am
set_option maxRecDepth 100000

/-- The width of a mesh of a section, in parts of the common denominator. -/
def unit (bar : Int) (s : Sec) : Int := 2 * bar * s.2.1 * (2329089562800 / s.2.2)
def OkS (s : Sec) : Prop := 1 ≤ s.1 ∧ s.1 ≤ 12 ∧ 1 ≤ s.2.1 ∧ s.2.1 ≤ s.2.2 ∧ s.2.2 ≤ 30

section unit
variable {bar : Int} {s : Sec} (hb : 1 ≤ bar ∧ bar ≤ 100) (hs : OkS s)
include hb hs

theorem unit_facts : IntKind.wrap .i64 (2 * bar) = 2 * bar ∧ IntKind.wrap .i64 (2 * bar * s.2.1) = 2 * bar * s.2.1 ∧ IntKind.wrap .i64 (Int.tdiv 2329089562800 s.2.2) = 2329089562800 / s.2.2 ∧
    IntKind.wrap .i64 (2 * bar * s.2.1 * (2329089562800 / s.2.2)) = unit bar s ∧ 0 ≤ unit bar s ∧ unit bar s ≤ 13974537376800000 ∧ (decide (s.2.2 = 0)) = false ∧
    IntKind.wrap .i64 (2 * bar * s.1) = 2 * bar * s.1 ∧ IntKind.wrap .i64 (2 * bar * s.1 * s.2.1) = 2 * bar * s.1 * s.2.1 ∧ IntKind.wrap .i64 (2 * bar * s.1 * s.2.1 * (2329089562800 / s.2.2)) = s.1 * unit bar s ∧ 0 ≤ s.1 * unit bar s ∧ s.1 * unit bar s ≤ 167694448521600000 := by
  obtain ⟨h1, h2, h3, h4, h5⟩ := hs
  have d0 : 0 ≤ 2329089562800 / s.2.2 := Int.ediv_nonneg (by omega) (by omega)
  have d1 : 2329089562800 / s.2.2 ≤ 2329089562800 := Int.ediv_le_self _ (by omega)
  have a0 : 0 ≤ 2 * bar * s.2.1 := Int.mul_nonneg (by omega) (by omega)
  have a1 : 2 * bar * s.2.1 ≤ 200 * 30 := Int.mul_le_mul (by omega) (by omega) (by omega) (by omega)
  have u0 : 0 ≤ 2 * bar * s.2.1 * (2329089562800 / s.2.2) := Int.mul_nonneg a0 d0
  have u1 : 2 * bar * s.2.1 * (2329089562800 / s.2.2) ≤ 200 * 30 * 2329089562800 := Int.mul_le_mul a1 d1 d0 (by omega)
  have b0 : 0 ≤ 2 * bar * s.1 := Int.mul_nonneg (by omega) (by omega)
  have b1 : 2 * bar * s.1 ≤ 200 * 12 := Int.mul_le_mul (by omega) (by omega) (by omega) (by omega)
  have c0 : 0 ≤ 2 * bar * s.1 * s.2.1 := Int.mul_nonneg b0 (by omega)
  have c1 : 2 * bar * s.1 * s.2.1 ≤ 200 * 12 * 30 := Int.mul_le_mul b1 (by omega) (by omega) (by omega)
  have e0 : 0 ≤ s.1 * unit bar s := Int.mul_nonneg (by omega) u0
  have e1 : s.1 * unit bar s ≤ 12 * (200 * 30 * 2329089562800) := Int.mul_le_mul h2 u1 u0 (by omega)
  have e2 : 2 * bar * s.1 * s.2.1 * (2329089562800 / s.2.2) = s.1 * unit bar s := by
    unfold unit
    rw [Int.mul_right_comm (2 * bar) s.1 s.2.1, Int.mul_comm (2 * bar * s.2.1) s.1, Int.mul_assoc]
  refine ⟨w64 (by omega), w64 (by omega), div_in (by omega) (by omega) (by omega), w64 (by omega), u0, by unfold unit; omega, by simp; omega, w64 (by omega), w64 (by omega), ?_, e0, by omega⟩
  rw [e2]
  exact w64 (by omega)
end unit

def total (bar : Int) (l : List Sec) : Int := l.foldl (fun a s => a + s.1 * unit bar s) 0
/-- A mark that is too large. -/
def bigR (r : Int × Int) : Bool := decide (r.1 > 999999999) || decide (r.2 > 999999999)
def ropeOf (bar : Int) (l : List Sec) : (Int × Int) × Int := if bigR (low (total bar l) 2329089562800) then ((0, 0), 4) else (low (total bar l) 2329089562800, 0)

theorem T84_val (N : Nat) (r : Int × Int) : T84 N r = some (if bigR r then 4 else 0) := by
  rw [T84_eq]
  unfold bigR
  by_cases h : r.1 > 999999999
  · simp [h, T74_when]
  · by_cases h2 : r.2 > 999999999 <;> simp [h, h2, T74_when]

theorem total_in {bar : Int} (hb : 1 ≤ bar ∧ bar ≤ 100) : ∀ {l : List Sec} {a : Int} {n : Nat}, (∀ s ∈ l, OkS s) → 0 ≤ a ∧ a ≤ n * 167694448521600000 → 0 ≤ l.foldl (fun a s => a + s.1 * unit bar s) a ∧ l.foldl (fun a s => a + s.1 * unit bar s) a ≤ (n + l.length : Nat) * 167694448521600000
  | [], a, n, _, h => by simpa using h
  | s :: l, a, n, hl, h => by
    obtain ⟨_, _, _, _, _, _, _, _, _, _, e0, e1⟩ := unit_facts hb (hl s (by simp))
    have := total_in hb (l := l) (a := a + s.1 * unit bar s) (n := n + 1) (fun s hs => hl s (by simp [hs])) ⟨by omega, by omega⟩
    rw [List.foldl_cons, show n + (s :: l).length = n + 1 + l.length by simp; omega]
    exact this

section rope
variable {N : Nat} (hN : Big N) {bar : Int} (hb : 1 ≤ bar ∧ bar ≤ 100) {l : List Sec} (hl : l.length ≤ 5) (hs : ∀ s ∈ l, OkS s)
include hN hb hl hs

theorem rope_low : low (total bar l) 2329089562800 = low (total bar l) 2329089562800 ∧ T75 N (total bar l, 2329089562800) = some (low (total bar l) 2329089562800) ∧ T79 N (total bar l, 2329089562800) = some (low (total bar l) 2329089562800) := by
  obtain ⟨h1, h2⟩ := total_in hb (l := l) (a := 0) (n := 0) hs ⟨by omega, by omega⟩
  have h1 : 0 ≤ total bar l := h1
  have h2 : total bar l ≤ (0 + l.length : Nat) * 167694448521600000 := h2
  exact ⟨rfl, T75_low hN h1 (by omega) (by omega) (by omega), T79_low hN h1 (by omega) (by omega) (by omega)⟩

theorem T44_val : T44 N (l, bar) = some (ropeOf bar l) := by
  rw [T44_eq]
  have key := loopR_foldl (rd := R44x58 N l bar) l (fun (s : Int) k => (s, (k : Int))) (fun a s => a + s.1 * unit bar s) (fun s => s) (fun s k => 0 ≤ s ∧ s ≤ k * 167694448521600000)
    (fun a k hk hP => by
      obtain ⟨f1, f2, f3, f4, f5, f6, f7, f8, f9, f10, f11, f12⟩ := unit_facts hb (hs l[k] (List.getElem_mem hk))
      refine ⟨?_, by constructor <;> omega⟩
      unfold R44x58
      simp only [List.length_map, Int.toNat_natCast, lt_range hk, in_range hk, nthD_map n112 l k hk, fn112, dn112, Bool.and_self, cond_true, w_succ (by omega : k < 9223372036854775807), f1, f3, f7, f8, f9, f10, Bool.not_false]
      rw [w64 (by omega)])
    (fun s _ => by
      unfold R44x58
      simp only [List.length_map, ge_range, cond_false]) N 0 0 (Nat.zero_le _) (by unfold Big at hN; omega) (by simp)
  have key' : loopR (V := Int × Int) (X := Int) (R44x58 N l bar) N (0, 0) = some (total bar l) := key
  simp only [key', Option.bind_some, (rope_low hN hb hl hs).2.2]
  unfold ropeOf bigR
  generalize low (total bar l) 2329089562800 = r
  by_cases h : r.1 > 999999999
  · simp [h]
  · by_cases h2 : r.2 > 999999999 <;> simp [h, h2]

theorem rope_inner (k0 : Nat) (hk0 : k0 < l.length) (a x0 x2 : Int) (x3 : List Sec) (x4 : Int) (ha : 0 ≤ a ∧ a ≤ 5 * 167694448521600000) : loopR (V := Int × Int × Int × (List (Int × Int × Int)) × Int) (X := (Int × Int × (List (Int × Int × Int)) × Int)) (R39x108x7782 N l (x0, (k0 : Int), x2, x3, x4)) N (a, 0, a, l, bar) = some (a + l[k0].1 * unit bar l[k0], a + l[k0].1 * unit bar l[k0], l, bar) := by
  have ho := hs l[k0] (List.getElem_mem hk0)
  obtain ⟨f1, f2, f3, f4, f5, f6, f7, f8, f9, f10, f11, f12⟩ := unit_facts hb ho
  obtain ⟨x, h1, h2⟩ := loopR_inv (rd := R39x108x7782 N l (x0, (k0 : Int), x2, x3, x4)) (Inv := fun v => ∃ k : Nat, (k : Int) ≤ l[k0].1 ∧ v = (a + k * unit bar l[k0], (k : Int), a + k * unit bar l[k0], l, bar)) (m := fun v => (l[k0].1 - v.2.1).toNat) (Post := fun x => x = (a + l[k0].1 * unit bar l[k0], a + l[k0].1 * unit bar l[k0], l, bar))
    (fun v ⟨k, hk, hv⟩ => by
      subst hv
      unfold R39x108x7782
      simp only [Int.toNat_natCast, nthD_map n131 l k0 hk0, dn131]
      by_cases hlt : (k : Int) < l[k0].1
      · left
        have w2 : IntKind.wrap .i64 ((k : Int) + 1) = ((k + 1 : Nat) : Int) := by rw [w64 (by have := ho.2.1; omega)]; simp
        have m0 : (k : Int) * unit bar l[k0] ≤ 12 * 13974537376800000 := Int.mul_le_mul (by have := ho.2.1; omega) f6 f5 (by omega)
        have m1 : 0 ≤ (k : Int) * unit bar l[k0] := Int.mul_nonneg (by omega) f5
        have m2 : a + (k : Int) * unit bar l[k0] + unit bar l[k0] = a + ((k + 1 : Nat) : Int) * unit bar l[k0] := by
          rw [show (((k + 1 : Nat) : Int)) = (k : Int) + 1 by simp, Int.add_mul]; omega
        refine ⟨(a + ((k + 1 : Nat) : Int) * unit bar l[k0], ((k + 1 : Nat) : Int), a + ((k + 1 : Nat) : Int) * unit bar l[k0], l, bar), ?_, ⟨k + 1, by omega, rfl⟩, by simp only; omega⟩
        simp only [hlt, decide_true, cond_true, f1, f2, f3, f4, f7, Bool.not_false, fa131, md131, Bool.and_true, Option.bind_some, w2, m2, w64 (show -9223372036854775808 ≤ a + ((k + 1 : Nat) : Int) * unit bar l[k0] ∧ a + ((k + 1 : Nat) : Int) * unit bar l[k0] ≤ 9223372036854775807 by omega)]
      · right
        have : (k : Int) = l[k0].1 := by omega
        refine ⟨_, ?_, rfl⟩
        simp only [hlt, decide_false, cond_false, fa131, md131, Bool.and_true, cond_true, Option.bind_some]
        rw [this]) N (a, 0, a, l, bar) ⟨0, by have := ho.1; omega, by simp⟩ (big_lt hN (by have := ho.2.1; simp only; omega))
  rw [h1, h2]

theorem rope_outer : loopR (V := Int × Int × Int × (List (Int × Int × Int)) × Int) (X := (Int × (List (Int × Int × Int)) × Int)) (R39x108x30 N l) N (0, 0, 0, l, bar) = some (total bar l, l, bar) := by
  have key := loopR_foldl (rd := R39x108x30 N l) l (fun (s : Int) k => (s, (k : Int), s, l, bar)) (fun a s => a + s.1 * unit bar s) (fun s => (s, l, bar)) (fun s k => 0 ≤ s ∧ s ≤ k * 167694448521600000)
    (fun a k hk hP => by
      obtain ⟨f1, f2, f3, f4, f5, f6, f7, f8, f9, f10, f11, f12⟩ := unit_facts hb (hs l[k] (List.getElem_mem hk))
      refine ⟨?_, by constructor <;> omega⟩
      unfold R39x108x30
      simp only [List.length_map, Int.toNat_natCast, lt_range hk, in_range hk, nthD_map n131 l k hk, fn131, Bool.and_self, cond_true, fa131, md131, Bool.and_true, Option.bind_some, rope_inner hN hb hl hs k hk a a a l bar ⟨by omega, by omega⟩, w_succ (by omega : k < 9223372036854775807)])
    (fun s _ => by
      unfold R39x108x30
      simp only [List.length_map, ge_range, cond_false, fa131, md131, Bool.and_true, cond_true, Option.bind_some]) N 0 0 (Nat.zero_le _) (by unfold Big at hN; omega) (by simp)
  exact key

theorem T39_val (hc : csec l = 0) : T39 N (l, bar) = some (ropeOf bar l) := by
  rw [T39_eq]
  simp only [fa131, md131, Bool.and_true, cond_true, Option.bind_some, T82_val hN l (by omega), hc, T77_rng, rng_zero.2 hb, two]
  rw [T72_first hN _ (by simp)]
  have e0 : firstNZ [0, 0] = 0 := rfl
  simp only [Option.bind_some, e0, bne_self_eq_false, cond_false, rope_outer hN hb hl hs, (rope_low hN hb hl hs).2.1, T84_val]
  unfold ropeOf
  by_cases h : bigR (low (total bar l) 2329089562800) = true
  · simp [h]
  · have : bigR (low (total bar l) 2329089562800) = false := by simpa using h
    simp [this]
end rope

theorem T39_err {N : Nat} (hN : Big N) (bar : Int) (l : List Sec) (hl : l.length ≤ 1000000) (h : firstNZ [csec l, rng bar 1 100] ≠ 0) : T39 N (l, bar) = some ((0, 0), firstNZ [csec l, rng bar 1 100]) := by
  rw [T39_eq]
  simp only [fa131, md131, Bool.and_true, cond_true, Option.bind_some, T82_val hN l (by omega), T77_rng, two]
  rw [T72_first hN _ (by simp)]
  simp only [Option.bind_some, bne0 h, cond_true]

/-! ### Marks -/

/-- One mark more. -/
def markS (u : Int) (v : Int × List (Int × Int)) : (Int × List (Int × Int)) ⊕ List (Int × Int) :=
  if bigR (low (v.1 + u) 2329089562800) then .inr v.2 else .inl (v.1 + u, v.2 ++ [low (v.1 + u) 2329089562800])
def markSec (bar : Int) (v : Int × List (Int × Int)) (s : Sec) : (Int × List (Int × Int)) ⊕ List (Int × Int) := foldI (fun v (_ : Unit) => markS (unit bar s) v) v (List.replicate s.1.toNat ())
def marksOf (bar : Int) (l : List Sec) : List (Int × Int) × Int := Sum.elim (fun v => (v.2, 0)) (fun _ => ([], 4)) (foldI (markSec bar) (0, [(0, 1)]) l)

section marks
variable {N : Nat} (hN : Big N) {bar : Int} (hb : 1 ≤ bar ∧ bar ≤ 100) {l : List Sec} (hl : l.length ≤ 5) (hs : ∀ s ∈ l, OkS s)

theorem markS_inl {u : Int} {v v' : Int × List (Int × Int)} (h : markS u v = .inl v') : v'.1 = v.1 + u ∧ v'.2.length = v.2.length + 1 := by
  unfold markS at h
  split at h
  · cases h
  · cases h; simp

theorem fold_marks {u : Int} : ∀ (n : Nat) {v v' : Int × List (Int × Int)}, foldI (fun v (_ : Unit) => markS u v) v (List.replicate n ()) = .inl v' → v'.1 = v.1 + n * u ∧ v'.2.length = v.2.length + n
  | 0, v, v', h => by simp only [List.replicate_zero, foldI] at h; cases h; simp
  | n + 1, v, v', h => by
    simp only [List.replicate_succ, foldI] at h
    cases hm : markS u v with
    | inl v1 =>
      rw [hm] at h
      obtain ⟨h1, h2⟩ := fold_marks n h
      obtain ⟨h3, h4⟩ := markS_inl hm
      refine ⟨?_, by omega⟩
      rw [h1, h3, show (((n + 1 : Nat) : Int)) = (n : Int) + 1 by simp, Int.add_mul]
      omega
    | inr y => rw [hm] at h; cases h

include hN hb hl hs

theorem mark_low {k0 : Nat} (hk0 : k0 < l.length) {a : Int} {k : Nat} (ha : 0 ≤ a ∧ a ≤ 5 * 167694448521600000) (hk : (k : Int) ≤ 12) : 0 ≤ a + k * unit bar l[k0] + unit bar l[k0] ∧ IntKind.wrap .i64 (a + k * unit bar l[k0] + unit bar l[k0]) = a + k * unit bar l[k0] + unit bar l[k0] ∧
    T75 N (a + k * unit bar l[k0] + unit bar l[k0], 2329089562800) = some (low (a + k * unit bar l[k0] + unit bar l[k0]) 2329089562800) ∧ T79 N (a + k * unit bar l[k0] + unit bar l[k0], 2329089562800) = some (low (a + k * unit bar l[k0] + unit bar l[k0]) 2329089562800) := by
  obtain ⟨f1, f2, f3, f4, f5, f6, f7, f8, f9, f10, f11, f12⟩ := unit_facts hb (hs l[k0] (List.getElem_mem hk0))
  have m0 : (k : Int) * unit bar l[k0] ≤ 12 * 13974537376800000 := Int.mul_le_mul (by omega) f6 f5 (by omega)
  have m1 : 0 ≤ (k : Int) * unit bar l[k0] := Int.mul_nonneg (by omega) f5
  exact ⟨by omega, w64 (by omega), T75_low hN (by omega) (by omega) (by omega) (by omega), T79_low hN (by omega) (by omega) (by omega) (by omega)⟩

theorem marks45_inner (k0 : Nat) (hk0 : k0 < l.length) (v : Int × List (Int × Int)) (x0 : List (Int × Int)) (x1 : Int) (hv : 0 ≤ v.1 ∧ v.1 ≤ 5 * 167694448521600000) (hv2 : v.2.length ≤ 100) :
    loopR (V := (List (Int × Int)) × Int × Int) (X := ((List (Int × Int)) × Int) ⊕ ((List (Int × Int)) × Int)) (R45x7826 N l bar (x0, x1, (k0 : Int))) N (v.2, v.1, 0) = some (Sum.elim (fun w => .inr (w.2, w.1)) (fun _ => .inl ([], 4)) (markSec bar v l[k0])) := by
  have ho := hs l[k0] (List.getElem_mem hk0)
  obtain ⟨f1, f2, f3, f4, f5, f6, f7, f8, f9, f10, f11, f12⟩ := unit_facts hb ho
  have hm : ((l[k0].1.toNat : Nat) : Int) = l[k0].1 := by have := ho.1; omega
  have key := loopR_fold (rd := R45x7826 N l bar (x0, x1, (k0 : Int))) (List.replicate l[k0].1.toNat ()) (fun (w : Int × List (Int × Int)) k => (w.2, w.1, (k : Int))) (fun w (_ : Unit) => markS (unit bar l[k0]) w) (fun w => .inr (w.2, w.1)) (fun _ => .inl ([], 4))
    (fun w k => w.1 = v.1 + k * unit bar l[k0] ∧ w.2.length = v.2.length + k)
    (fun w k hk hP => by
      rw [List.length_replicate] at hk
      refine ⟨?_, fun s' h' => ?_⟩
      · have h12 := ho.2.1
        obtain ⟨p1, p2, p3, p4⟩ := mark_low hN hb hl hs hk0 hv (k := k) (by omega)
        rw [← hP.1] at p1 p2 p3 p4
        unfold R45x7826
        have z0 : decide ((k : Int) < l[k0].1) = true := by simp; omega
        have e1 : (List.map n23 w.2 ++ [(AV.agg [(AV.int .i64 (low (w.1 + unit bar l[k0]) 2329089562800).1), (AV.int .i64 (low (w.1 + unit bar l[k0]) 2329089562800).2)])]) = List.map n23 (w.2 ++ [low (w.1 + unit bar l[k0]) 2329089562800]) := by rw [List.map_append]; rfl
        have e2 : decide ((w.2.length + 1) * 16 ≤ 140737488355328) = true := by simp; omega
        simp only [List.length_map, Int.toNat_natCast, in_range hk0, nthD_map n112 l k0 hk0, fn112, dn112, Bool.and_self, cond_true, z0, f7, Bool.not_false, f1, f2, f3, f4, p2, p4, Option.bind_some, e1, fa23, md23, Bool.and_true, decide_true, e2, List.length_append, List.length_cons, List.length_nil, Nat.zero_add, w_succ (by omega : k < 9223372036854775807), allFit_nil, List.map_nil]
        unfold markS bigR
        by_cases h1 : (low (w.1 + unit bar l[k0]) 2329089562800).1 > 999999999
        · simp [h1]
        · by_cases h2 : (low (w.1 + unit bar l[k0]) 2329089562800).2 > 999999999
          · simp [h1, h2]
          · have e2' : decide ((w.2.length + 1) * 16 ≤ 140737488355328) = true := e2
            simp only [h1, h2, decide_false, cond_false, cond_true, Option.bind_some, e1, fa23, md23, e2', Bool.or_self, Bool.false_eq_true, if_false, Sum.map_inl, decide_true, List.length_append, List.length_cons, List.length_nil, Nat.zero_add, Bool.and_true, Bool.and_self]
      · obtain ⟨q1, q2⟩ := markS_inl h'
        refine ⟨?_, by omega⟩
        rw [q1, hP.1, show (((k + 1 : Nat) : Int)) = (k : Int) + 1 by simp, Int.add_mul]
        omega)
    (fun w hP => by
      rw [List.length_replicate]
      unfold R45x7826
      have z0 : decide ((l[k0].1.toNat : Int) < l[k0].1) = false := by rw [hm]; simp
      simp only [List.length_map, Int.toNat_natCast, in_range hk0, nthD_map n112 l k0 hk0, fn112, dn112, Bool.and_self, cond_true, z0, cond_false, fa23, md23, Bool.and_true, Option.bind_some, decide_true]) N v 0 (Nat.zero_le _) (by rw [List.length_replicate]; have := ho.2.1; unfold Big at hN; omega) (by simp)
  exact key

theorem markSec_P {k0 : Nat} (hk0 : k0 < l.length) {v v' : Int × List (Int × Int)} {k : Nat} (hv : 0 ≤ v.1 ∧ v.1 ≤ k * 167694448521600000 ∧ v.2.length ≤ 1 + 12 * k) (h : markSec bar v l[k0] = .inl v') : 0 ≤ v'.1 ∧ v'.1 ≤ (k + 1 : Nat) * 167694448521600000 ∧ v'.2.length ≤ 1 + 12 * (k + 1) := by
  have ho := hs l[k0] (List.getElem_mem hk0)
  obtain ⟨f1, f2, f3, f4, f5, f6, f7, f8, f9, f10, f11, f12⟩ := unit_facts hb ho
  obtain ⟨h1, h2⟩ := fold_marks _ h
  have hm : ((l[k0].1.toNat : Nat) : Int) = l[k0].1 := by have := ho.1; omega
  have := ho.2.1
  rw [hm] at h1
  exact ⟨by omega, by omega, by omega⟩

theorem T45_val : T45 N (l, bar) = some (marksOf bar l) := by
  have e1 : allFit (Pat.fits p23) [(AV.agg [(AV.int .i64 0), (AV.int .i64 1)])] = true := rfl
  have e2 : (List.map d23 [(AV.agg [(AV.int .i64 0), (AV.int .i64 1)])]) = [(0, 1)] := rfl
  rw [T45_eq]
  have key := loopR_fold (rd := R45x122 N l bar) l (fun (v : Int × List (Int × Int)) k => (v.2, v.1, (k : Int))) (markSec bar) (fun v => .inr v.2) (fun _ => .inl ([], 4))
    (fun v k => 0 ≤ v.1 ∧ v.1 ≤ k * 167694448521600000 ∧ v.2.length ≤ 1 + 12 * k)
    (fun v k hk hP => by
      refine ⟨?_, fun s' h' => markSec_P hN hb hl hs hk hP h'⟩
      unfold R45x122
      simp only [List.length_map, lt_range hk, cond_true, fa23, md23, Bool.and_true, Option.bind_some, decide_true, marks45_inner hN hb hl hs k hk v v.2 v.1 ⟨hP.1, by omega⟩ (by omega), w_succ (by omega : k < 9223372036854775807)]
      cases markSec bar v l[k] with
      | inl w => simp only [Sum.elim_inl, Sum.elim_inr, fa23, md23, cond_true, Option.bind_some, decide_true, Sum.map_inl]
      | inr y => rfl)
    (fun v _ => by
      unfold R45x122
      simp only [List.length_map, ge_range, cond_false, fa23, md23, Bool.and_true, cond_true, Option.bind_some, decide_true]) N (0, [(0, 1)]) 0 (Nat.zero_le _) (by unfold Big at hN; omega) (by simp)
  have key' : loopR (V := (List (Int × Int)) × Int × Int) (X := ((List (Int × Int)) × Int) ⊕ ((List (Int × Int)))) (R45x122 N l bar) N ([(0, 1)], 0, 0) = _ := key
  simp only [e1, e2, Bool.and_true, cond_true, Option.bind_some, List.map_cons, List.map_nil, List.length_cons, List.length_nil, Nat.zero_add, decide_true, key', List.drop_zero]
  unfold marksOf
  cases foldI (markSec bar) (0, [(0, 1)]) l with
  | inl w => simp only [Sum.elim_inl, Sum.elim_inr, fa23, md23, cond_true]
  | inr y => rfl

theorem marks41_inner (k0 : Nat) (hk0 : k0 < l.length) (v : Int × List (Int × Int)) (x0 : Int) (x2 x4 : List (Int × Int)) (x3 : Int) (x5 : List Sec) (x6 : Int) (hv : 0 ≤ v.1 ∧ v.1 ≤ 5 * 167694448521600000) (hv2 : v.2.length ≤ 100) :
    loopR (V := Int × Int × (List (Int × Int)) × Int × (List (Int × Int)) × (List (Int × Int × Int)) × Int) (X := ((List (Int × Int)) × Int × (List (Int × Int)) × (List (Int × Int × Int)) × Int) ⊕ (Int × (List (Int × Int)) × Int × (List (Int × Int)) × (List (Int × Int × Int)) × Int)) (R41x108x7782 N l (x0, (k0 : Int), x2, x3, x4, x5, x6)) N (v.1, 0, [], 0, v.2, l, bar) =
      some (Sum.elim (fun w => .inr (w.1, [], 0, w.2, l, bar)) (fun y => .inl ([], 4, y, l, bar)) (markSec bar v l[k0])) := by
  have ho := hs l[k0] (List.getElem_mem hk0)
  obtain ⟨f1, f2, f3, f4, f5, f6, f7, f8, f9, f10, f11, f12⟩ := unit_facts hb ho
  have hm : ((l[k0].1.toNat : Nat) : Int) = l[k0].1 := by have := ho.1; omega
  have key := loopR_fold (rd := R41x108x7782 N l (x0, (k0 : Int), x2, x3, x4, x5, x6)) (List.replicate l[k0].1.toNat ()) (fun (w : Int × List (Int × Int)) k => (w.1, (k : Int), [], 0, w.2, l, bar)) (fun w (_ : Unit) => markS (unit bar l[k0]) w) (fun w => .inr (w.1, [], 0, w.2, l, bar)) (fun y => .inl ([], 4, y, l, bar))
    (fun w k => w.1 = v.1 + k * unit bar l[k0] ∧ w.2.length = v.2.length + k)
    (fun w k hk hP => by
      rw [List.length_replicate] at hk
      refine ⟨?_, fun s' h' => ?_⟩
      · have h12 := ho.2.1
        obtain ⟨p1, p2, p3, p4⟩ := mark_low hN hb hl hs hk0 hv (k := k) (by omega)
        rw [← hP.1] at p1 p2 p3 p4
        unfold R41x108x7782
        have z0 : decide ((k : Int) < l[k0].1) = true := by simp; omega
        have e1 : (List.map n23 w.2 ++ [(AV.agg [(AV.int .i64 (low (w.1 + unit bar l[k0]) 2329089562800).1), (AV.int .i64 (low (w.1 + unit bar l[k0]) 2329089562800).2)])]) = List.map n23 (w.2 ++ [low (w.1 + unit bar l[k0]) 2329089562800]) := by rw [List.map_append]; rfl
        have e2 : decide ((w.2.length + 1) * 16 ≤ 140737488355328) = true := by simp; omega
        simp only [List.length_map, Int.toNat_natCast, nthD_map n131 l k0 hk0, dn131, cond_true, z0, f7, Bool.not_false, f1, f2, f3, f4, p2, p3, Option.bind_some, T84_val]
        unfold markS
        by_cases h1 : bigR (low (w.1 + unit bar l[k0]) 2329089562800) = true
        · simp only [h1, if_true, show ((4 : Int) != 0) = true by decide, cond_true, allFit_nil, List.map_nil, fa23, md23, fa131, md131, Bool.and_true, Option.bind_some, decide_true, Sum.map_inr]
        · simp only [h1, if_false, show ((0 : Int) != 0) = false by decide, cond_false, cond_true, allFit_nil, List.map_nil, e1, e2, fa23, md23, fa131, md131, Bool.and_true, Bool.and_self, Option.bind_some, decide_true, Sum.map_inl, List.length_append, List.length_cons, List.length_nil, Nat.zero_add, w_succ (by omega : k < 9223372036854775807)]
          simp
      · obtain ⟨q1, q2⟩ := markS_inl h'
        refine ⟨?_, by omega⟩
        rw [q1, hP.1, show (((k + 1 : Nat) : Int)) = (k : Int) + 1 by simp, Int.add_mul]
        omega)
    (fun w hP => by
      rw [List.length_replicate]
      unfold R41x108x7782
      have z0 : decide ((l[k0].1.toNat : Int) < l[k0].1) = false := by rw [hm]; simp
      simp only [List.length_map, Int.toNat_natCast, nthD_map n131 l k0 hk0, dn131, z0, cond_false, cond_true, allFit_nil, List.map_nil, fa23, md23, fa131, md131, Bool.and_true, Option.bind_some, decide_true]) N v 0 (Nat.zero_le _) (by rw [List.length_replicate]; have := ho.2.1; unfold Big at hN; omega) (by simp)
  exact key

theorem marks41_outer : loopR (V := Int × Int × (List (Int × Int)) × Int × (List (Int × Int)) × (List (Int × Int × Int)) × Int) (X := ((List (Int × Int)) × Int × (List (Int × Int)) × (List (Int × Int × Int)) × Int) ⊕ ((List (Int × Int)) × Int × (List (Int × Int)) × (List (Int × Int × Int)) × Int)) (R41x108x30 N l) N (0, 0, [], 0, [(0, 1)], l, bar) =
    some (Sum.elim (fun v => .inr ([], 0, v.2, l, bar)) (fun y => .inl ([], 4, y, l, bar)) (foldI (markSec bar) (0, [(0, 1)]) l)) := by
  have key := loopR_fold (rd := R41x108x30 N l) l (fun (v : Int × List (Int × Int)) k => (v.1, (k : Int), [], 0, v.2, l, bar)) (markSec bar) (fun v => .inr ([], 0, v.2, l, bar)) (fun y => .inl ([], 4, y, l, bar))
    (fun v k => 0 ≤ v.1 ∧ v.1 ≤ k * 167694448521600000 ∧ v.2.length ≤ 1 + 12 * k)
    (fun v k hk hP => by
      refine ⟨?_, fun s' h' => markSec_P hN hb hl hs hk hP h'⟩
      unfold R41x108x30
      simp only [List.length_map, Int.toNat_natCast, lt_range hk, in_range hk, nthD_map n131 l k hk, fn131, cond_true, allFit_nil, List.map_nil, fa23, md23, fa131, md131, Bool.and_true, Option.bind_some, decide_true, marks41_inner hN hb hl hs k hk v v.1 [] v.2 0 l bar ⟨hP.1, by omega⟩ (by omega), w_succ (by omega : k < 9223372036854775807)]
      cases markSec bar v l[k] with
      | inl w => simp only [Sum.elim_inl, Sum.elim_inr, fa23, md23, fa131, md131, allFit_nil, List.map_nil, Bool.and_true, cond_true, Option.bind_some, decide_true, Sum.map_inl]
      | inr y => simp only [Sum.elim_inl, Sum.elim_inr, fa23, md23, fa131, md131, allFit_nil, List.map_nil, Bool.and_true, cond_true, Option.bind_some, decide_true, Sum.map_inr])
    (fun v _ => by
      unfold R41x108x30
      simp only [List.length_map, ge_range, cond_false, allFit_nil, List.map_nil, fa23, md23, fa131, md131, Bool.and_true, cond_true, Option.bind_some, decide_true]) N (0, [(0, 1)]) 0 (Nat.zero_le _) (by unfold Big at hN; omega) (by simp)
  exact key

omit hN hb hl hs in
theorem cells_len (X : List (Int × Int)) : (cellsL (List.map n23 X)).length = X.length * 2 := by
  induction X with
  | nil => rfl
  | cons x X ih =>
    rw [List.map_cons, cellsL, List.length_append, ih]
    show 2 + _ = _
    simp; omega
omit hN hb hl hs in
theorem rep_len (n : Nat) : (cellsL (List.replicate n (AV.agg [(AV.int .i64 0), (AV.int .i64 0)]))).length = n * 2 := by
  induction n with
  | zero => rfl
  | succ n ih =>
    rw [List.replicate_succ, cellsL, List.length_append, ih]
    show 2 + _ = _
    omega
omit hN hb hl hs in
theorem elems_cells : ∀ (X : List (Int × Int)), elemsT true 2 X.length (cellsL (List.map n23 X)) = List.map n23 X
  | [] => rfl
  | x :: X => by
    have ih := elems_cells X
    show mkD true _ :: elemsT true 2 X.length _ = _
    rw [List.map_cons]
    congr 1

omit hN hb hl hs in
theorem copied (X : List (Int × Int)) : splice (cellsL (List.replicate X.length (AV.agg [(AV.int .i64 0), (AV.int .i64 0)]))) 0 (cellsL (List.map n23 X)) = cellsL (List.map n23 X) := by
  have h1 := rep_len X.length
  have h2 := cells_len X
  rw [splice_eq _ _ _ (by omega)]
  simp only [List.take_zero, List.nil_append, Nat.zero_add, h2, ← h1, List.drop_length, List.append_nil]

theorem T41_val (hc : csec l = 0) : T41 N (l, bar) = some (marksOf bar l) := by
  rw [T41_eq]
  have t75 : T75 N (0, 2329089562800) = some (0, 1) := by rw [T75_low hN (by omega) (by omega) (by omega) (by omega)]; rfl
  have t84 : T84 N (0, 1) = some 0 := by rw [T84_val]; rfl
  have e0 : firstNZ [0, 0] = 0 := rfl
  have e1 : allFit (Pat.fits p23) (([] : List AV) ++ [(AV.agg [(AV.int .i64 0), (AV.int .i64 1)])]) = true := rfl
  have e2 : (List.map d23 (([] : List AV) ++ [(AV.agg [(AV.int .i64 0), (AV.int .i64 1)])])) = [(0, 1)] := rfl
  simp only [fa131, md131, Bool.and_true, cond_true, Option.bind_some, T82_val hN l (by omega), hc, T77_rng, rng_zero.2 hb, two]
  rw [T72_first hN _ (by simp)]
  simp only [Option.bind_some, e0, bne_self_eq_false, cond_false, t75, t84, allFit_nil, List.map_nil, e1, e2, fa131, md131, Bool.and_true, cond_true, List.map_cons, List.length_cons, List.length_nil, Nat.zero_add, decide_true, marks41_outer hN hb hl hs]
  unfold marksOf
  have hlen : ∀ v, foldI (markSec bar) (0, [(0, 1)]) l = .inl v → v.2.length ≤ 61 := fun v hv => by
    have := foldI_inl (st := markSec bar) (P := fun v k => v.2.length ≤ 1 + 12 * k) (l := l) (k := 0) (fun s a s' k ha hP hst => by
      obtain ⟨_, h2⟩ := fold_marks _ hst
      have := (hs a ha).2.1
      omega) (by simp) hv
    simp only [Nat.zero_add] at this
    omega
  cases hf : foldI (markSec bar) (0, [(0, 1)]) l with
  | inr y => simp only [Sum.elim_inl, Sum.elim_inr, fa23, md23, fa131, md131, allFit_nil, List.map_nil, Bool.and_true, cond_true, Option.bind_some, decide_true]
  | inl v =>
    have hv := hlen v hf
    have e3 : decide ((0 : Int) ≤ ((v.2.length : Nat) : Int) ∧ ((v.2.length : Nat) : Int) ≤ ((v.2.length : Nat) : Int) ∧ ((v.2.length : Nat) : Int) ≤ 140737488355328 ∧ ((v.2.length : Nat) : Int) * 16 ≤ 140737488355328) = true := by simp; omega
    have e4 : List.take (Nat.min v.2.length v.2.length) (List.map n23 v.2) = List.map n23 v.2 := by
      rw [show Nat.min v.2.length v.2.length = v.2.length from Nat.min_self _]
      exact List.take_of_length_le (by rw [List.length_map]; exact Nat.le_refl _)
    have e5 : Nat.ble ((cellsL (List.map n23 v.2)).length) (cellsL (List.replicate v.2.length (AV.agg [(AV.int .i64 0), (AV.int .i64 0)]))).length = true := by
      rw [cells_len, rep_len]; simp
    have e6 : Nat.beq (cellsL (List.map n23 v.2)).length (v.2.length * 2) = true := by rw [cells_len]; simp
    have e7 : allFit (fun e => Pat.fits p23 e && AV.notTup e && (true || AV.one e)) (List.map n23 v.2) = true := by
      generalize v.2 = X
      induction X with
      | nil => rfl
      | cons x X ih => simp only [List.map_cons, allFit, ih, Bool.and_true]; rfl
    have e8 : List.map (fun e => Pat.enc p23 (Pat.decD p23 e)) (List.map n23 v.2) = List.map n23 v.2 := by
      rw [List.map_map]
      rfl
    simp only [Sum.elim_inl, Sum.elim_inr, fa23, md23, fa131, md131, allFit_nil, List.map_nil, Bool.and_true, cond_true, Option.bind_some, decide_true, List.length_map, Int.toNat_natCast, e3, e4, e5, copied, e6, elems_cells, e7, e8, Bool.and_self]
end marks

theorem T41_err {N : Nat} (hN : Big N) (bar : Int) (l : List Sec) (hl : l.length ≤ 1000000) (h : firstNZ [csec l, rng bar 1 100] ≠ 0) : T41 N (l, bar) = some ([], firstNZ [csec l, rng bar 1 100]) := by
  rw [T41_eq]
  simp only [fa131, md131, Bool.and_true, cond_true, Option.bind_some, T82_val hN l (by omega), T77_rng, two]
  rw [T72_first hN _ (by simp)]
  simp only [Option.bind_some, bne0 h, cond_true, allFit_nil, List.map_nil, Bool.and_true]

/-! ### Ties, and lists that are the same -/

theorem ties46_loop {N : Nat} (hN : Big N) {m n : Int} (hm : 1 ≤ m ∧ m ≤ 300) (hn : 1 ≤ n ∧ n ≤ m) :
    loopR (V := (List Int) × Int) (X := ((List Int))) (R46x58 N m n) N ([], 0) = some (tiesTo m n n.toNat) := by
  obtain ⟨x, h1, h2⟩ := loopR_inv (rd := R46x58 N m n) (Inv := fun v => ∃ k : Nat, (k : Int) ≤ n ∧ v = (tiesTo m n k, (k : Int))) (m := fun v => (n - v.2).toNat) (Post := fun x => x = tiesTo m n n.toNat)
    (fun v ⟨k, hk, hv⟩ => by
      subst hv
      unfold R46x58
      by_cases hkn : (k : Int) < n
      · left
        have z : decide (n = 0) = false := by simp; omega
        have a0 : 0 ≤ (k : Int) * m := Int.mul_nonneg (by omega) (by omega)
        have a1 : (k : Int) * m ≤ 300 * 300 := Int.mul_le_mul (by omega) (by omega) (by omega) (by omega)
        have a2 : 0 ≤ ((k : Int) + 1) * m := Int.mul_nonneg (by omega) (by omega)
        have a3 : ((k : Int) + 1) * m ≤ 300 * 300 := Int.mul_le_mul (by omega) (by omega) (by omega) (by omega)
        have w1 : IntKind.wrap .i64 ((k : Int) + 1) = (k : Int) + 1 := w64 (by omega)
        have w2 : IntKind.wrap .i64 (((k : Int) + 1) * m) = ((k : Int) + 1) * m := w64 (by omega)
        have w3 : IntKind.wrap .i64 ((k : Int) * m) = (k : Int) * m := w64 (by omega)
        have w4 := div_in a2 (by omega) (by omega : 0 < n)
        have w5 := div_in a0 (by omega) (by omega : 0 < n)
        have b1 := Int.ediv_le_self n a2
        have b2 := Int.ediv_nonneg a2 (by omega : 0 ≤ n)
        have b3 := Int.ediv_le_self n a0
        have b4 := Int.ediv_nonneg a0 (by omega : 0 ≤ n)
        have w6 : IntKind.wrap .i64 (((k : Int) + 1) * m / n - (k : Int) * m / n) = tieQ m n k := w64 (by omega)
        refine ⟨(tiesTo m n (k + 1), ((k + 1 : Nat) : Int)), ?_, ⟨k + 1, by omega, rfl⟩, by simp only; omega⟩
        simp only [hkn, z, w1, w2, w3, w4, w5, w6, decide_true, cond_true, Bool.not_false, List.length_map, tiesTo_length, Bool.true_and]
        have e1 : (List.map n3 (tiesTo m n k) ++ [AV.int .i64 (tieQ m n k)]) = List.map n3 (tiesTo m n (k + 1)) := by rw [tiesTo_succ, List.map_append]; rfl
        have e2 : decide ((k + 1) * 8 ≤ 140737488355328) = true := by simp; omega
        rw [e1]
        simp only [e2, fa3, md3, Bool.and_true, cond_true, Option.bind_some, tiesTo_length, decide_true]
        simp
      · right
        have : n.toNat = k := by omega
        refine ⟨tiesTo m n k, ?_, by rw [this]⟩
        simp only [hkn, decide_false, cond_false, fa3, md3, Bool.and_true, cond_true, Option.bind_some, decide_true]) N ([], 0) ⟨0, by omega, rfl⟩ (big_lt hN (by simp only; omega))
  rw [h1, h2]

theorem T46_val {N : Nat} (hN : Big N) {m n : Int} (hm : 1 ≤ m ∧ m ≤ 300) (hn : 1 ≤ n ∧ n ≤ m) : T46 N (m, n) = some (tiesTo m n n.toNat) := by
  rw [T46_eq]
  simp only [allFit_nil, List.map_nil, Bool.and_true, cond_true, Option.bind_some, List.length_nil, decide_true]
  rw [ties46_loop hN hm hn]
  simp only [Option.bind_some, fa3, md3, cond_true]

theorem T42_err {N : Nat} (hN : Big N) {m n : Int} (h : firstNZ [rng m 1 300, rng n 1 m] ≠ 0) : T42 N (m, n) = some ([], firstNZ [rng m 1 300, rng n 1 m]) := by
  rw [T42_eq, T78_rng, T73_rng]
  simp only [Option.bind_some, two, Bool.and_true]
  rw [T72_first hN _ (by simp)]
  simp only [Option.bind_some, bne0 h, cond_true, allFit_nil, List.map_nil, Bool.and_true]

theorem T47_same {N : Nat} (hN : Big N) (l : List (Int × Int)) (hl : l.length ≤ 9223372036854775807) : T47 N (l, l) = some true := by
  rw [T47_eq]
  have key := loopR_foldl (rd := R47x58 N l l) l (fun (_ : Unit) k => (k : Int)) (fun _ _ => ()) (fun _ => .inr ()) (fun _ _ => True)
    (fun s k hk _ => by
      refine ⟨?_, trivial⟩
      unfold R47x58
      simp only [List.length_map, Int.toNat_natCast, lt_range hk, in_range hk, nthD_map n23 l k hk, fn23, dn23, Bool.and_self, cond_true, beq_self_eq_true, Bool.not_true, cond_false, w_succ (by omega : k < 9223372036854775807)])
    (fun s _ => by
      unfold R47x58
      simp only [List.length_map, ge_range, cond_false]) N () 0 (Nat.zero_le _) (by unfold Big at hN; omega) trivial
  have key' : loopR (V := Int) (X := Bool ⊕ Unit) (R47x58 N l l) N 0 = some (.inr ()) := key
  simp only [bne_self_eq_false, cond_false, key', Option.bind_some, Sum.elim_inr]

theorem T48_same {N : Nat} (hN : Big N) (l : List Int) (hl : l.length ≤ 9223372036854775807) : T48 N (l, l) = some true := by
  rw [T48_eq]
  have key := loopR_foldl (rd := R48x58 N l l) l (fun (_ : Unit) k => (k : Int)) (fun _ _ => ()) (fun _ => .inr ()) (fun _ _ => True)
    (fun s k hk _ => by
      refine ⟨?_, trivial⟩
      unfold R48x58
      simp only [List.length_map, Int.toNat_natCast, lt_range hk, in_range hk, nthD_map n3 l k hk, fn3, dn3, Bool.and_self, cond_true, bne_self_eq_false, cond_false, w_succ (by omega : k < 9223372036854775807)])
    (fun s _ => by
      unfold R48x58
      simp only [List.length_map, ge_range, cond_false]) N () 0 (Nat.zero_le _) (by unfold Big at hN; omega) trivial
  have key' : loopR (V := Int) (X := Bool ⊕ Unit) (R48x58 N l l) N 0 = some (.inr ()) := key
  simp only [bne_self_eq_false, cond_false, key', Option.bind_some, Sum.elim_inr]

theorem csec1_zero {s : Sec} (h : csec1 s = 0) : 1 ≤ s.1 ∧ s.1 ≤ 300 ∧ 1 ≤ s.2.1 ∧ s.2.1 ≤ s.2.2 ∧ s.2.2 ≤ 30 := by
  obtain ⟨h1, h2⟩ := firstNZ2z.1 h
  have := rng_zero.1 h1
  have := chk_zero h2
  omega

theorem short_ok {l : List Sec} (h1 : shortS l = true) (h2 : csec l = 0) : 1 ≤ l.length ∧ l.length ≤ 5 ∧ ∀ s ∈ l, OkS s := by
  unfold shortS at h1
  unfold csec at h2
  rw [Bool.and_eq_true] at h1
  have h3 := of_decide_eq_true h1.1
  by_cases h0 : l.length = 0
  · rw [if_pos h0] at h2; omega
  · rw [if_neg h0] at h2
    by_cases h4 : l.length > 32
    · rw [if_pos h4] at h2; omega
    · rw [if_neg h4] at h2
      refine ⟨by omega, by omega, fun s hs => ?_⟩
      have h5 := List.all_eq_true.1 h1.2 s hs
      have h6 := csec1_zero (firstNZ_zero.1 h2 _ (List.mem_map_of_mem hs))
      have : s.1 ≤ 12 := by
        by_cases h7 : s.1 ≤ 12
        · exact h7
        · have e1 : decide (s.1 > 12) = true := by simp; omega
          have e2 : decide (s.1 ≤ 300) = true := by simp; omega
          rw [e1, e2] at h5
          cases h5
      exact ⟨h6.1, this, h6.2.2.1, h6.2.2.2.1, h6.2.2.2.2⟩

theorem marks_len {bar : Int} {l : List Sec} (hl : l.length ≤ 5) (hs : ∀ s ∈ l, OkS s) : (marksOf bar l).1.length ≤ 61 := by
  unfold marksOf
  cases hv : foldI (markSec bar) (0, [(0, 1)]) l with
  | inl v =>
    have := foldI_inl (st := markSec bar) (P := fun v k => v.2.length ≤ 1 + 12 * k) (l := l) (k := 0) (fun s a s' k ha hP hst => by
      obtain ⟨_, h2⟩ := fold_marks _ hst
      have := (hs a ha).2.1
      omega) (by simp) hv
    simp only [Nat.zero_add] at this
    simp only [Sum.elim_inl]
    omega
  | inr y => simp

theorem T6_true {N : Nat} (hN : Big N) (l : List Sec) (hl : l.length ≤ 9223372036854775807) (bar : Int) (n : Int × Int) : T6 N (l, bar, n) = some true := by
  have h22 : T22 N () = some true := rfl
  have two3 : ∀ x y : Int, ((bif (allFit (Pat.fits p3) [(AV.int .i64 x), (AV.int .i64 y)]) then some (List.map d3 [(AV.int .i64 x), (AV.int .i64 y)]) else none : Option ((List Int)))) = some [x, y] := fun _ _ => rfl
  rw [T6_eq]
  simp only [fa112, md112, Bool.and_true, cond_true, Option.bind_some, T38_short hN l (by omega), h22]
  cases hsh : shortS l with
  | false => rfl
  | true =>
    have hl : l.length ≤ 1000000 := by
      unfold shortS at hsh
      rw [Bool.and_eq_true] at hsh
      have := of_decide_eq_true hsh.1
      omega
    simp only [Bool.not_true, cond_false, T40_id hN l hl, Option.bind_some, fa131, md131, cond_true, T43_val hN l (by omega), T27_rng, two3]
    rw [T26_first hN _ (by simp)]
    simp only [Option.bind_some]
    -- the ties
    have ties : ∃ t e, T42 N (n.1, n.2) = some (t, e) ∧ t.length ≤ 300 ∧ (((bif (rng n.1 1 300 == 0) then (some (rng n.2 1 n.1)) else (some (rng n.1 1 300))) : Option Int)) = some e ∧
        (((bif (e == 0) then (T46 N (n.1, n.2)).bind fun y28 => (some y28) else some []) : Option (((List Int))))) = some t := by
      by_cases h1 : rng n.1 1 300 = 0
      · have hm := rng_zero.1 h1
        by_cases h2 : rng n.2 1 n.1 = 0
        · have hn := rng_zero.1 h2
          refine ⟨tiesTo n.1 n.2 n.2.toNat, 0, T42_val hN hm hn, by rw [tiesTo_length]; omega, by simp [h1, h2], ?_⟩
          rw [T46_val hN hm hn]
          rfl
        · have h3 : firstNZ [rng n.1 1 300, rng n.2 1 n.1] = rng n.2 1 n.1 := by rw [firstNZ2, if_pos h1]
          refine ⟨[], rng n.2 1 n.1, ?_, by simp, by simp [h1], by rw [beq0 h2]; rfl⟩
          rw [T42_err hN (by rw [h3]; exact h2), h3]
      · have h3 : firstNZ [rng n.1 1 300, rng n.2 1 n.1] = rng n.1 1 300 := by rw [firstNZ2, if_neg h1]
        refine ⟨[], rng n.1 1 300, ?_, by simp, by rw [beq0 h1]; rfl, by rw [beq0 h1]; rfl⟩
        rw [T42_err hN (by rw [h3]; exact h1), h3]
    obtain ⟨t, e, t1, t2, t3, t4⟩ := ties
    have t4' : ((bif (e == 0) then (T46 N (n.1, n.2)).bind fun y28 => ((some y28 : Option (List Int)).bind fun w29 => some w29) else ((some [] : Option (List Int)).bind fun w30 => some w30)) : Option (((List Int)))) = some t := by
      rw [← t4]
      cases (e == 0) <;> rfl
    simp only [t1, t3, Option.bind_some, fa3, md3, cond_true, allFit_nil, List.map_nil] 
    by_cases h1 : firstNZ [csec l, rng bar 1 100] = 0
    · obtain ⟨c1, c2⟩ := firstNZ2z.1 h1
      have hb := rng_zero.1 c2
      obtain ⟨o1, o2, o3⟩ := short_ok hsh c1
      simp only [h1, beq_self_eq_true, cond_true, T39_val hN hb o2 o3 c1, T41_val hN hb o2 o3 c1, T44_val hN hb o2 o3, T45_val hN hb o2 o3, Option.bind_some, fa23, md23]
      have t5 : ((bif (e == 0) then (T46 N (n.1, n.2)).bind fun y28 => some y28 else some [] : Option (List Int))) = some t := t4
      rw [t5]
      simp only [Option.bind_some, beq_self_eq_true, Bool.and_self, cond_true, Bool.and_true, fa3, md3, fa23, md23, T47_same hN _ (by have := marks_len (bar := bar) o2 o3; omega : (marksOf bar l).1.length ≤ 9223372036854775807), T48_same hN t (by omega)]
    · have h1' : (firstNZ [csec l, rng bar 1 100] == 0) = false := beq0 h1
      simp only [h1', cond_false, T39_err hN bar l hl h1, T41_err hN bar l hl h1, Option.bind_some, fa23, md23]
      have t5 : ((bif (e == 0) then (T46 N (n.1, n.2)).bind fun y28 => some y28 else some [] : Option (List Int))) = some t := t4
      rw [t5]
      have t47 := T47_same hN [] (by simp)
      simp only [Option.bind_some, beq_self_eq_true, Bool.and_self, cond_true, Bool.and_true, fa3, md3, fa23, md23, allFit_nil, List.map_nil, t47, T48_same hN t (by omega)]
end Go.Proofs.YtpngggdfbbdfaaaDoor
