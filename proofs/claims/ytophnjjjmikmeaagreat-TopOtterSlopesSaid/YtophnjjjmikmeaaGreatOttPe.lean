/- Plain laws: vectors and rates. -/
import Derived.Test.YtophnjjjmikmeaaGreatOttPb
set_option linter.all false
namespace Go.Proofs.YtophnjjjmikmeaaGreat
open Go Go.Am
set_option maxRecDepth 100000
theorem wP (s : List UInt8) (k : Nat) (hk : k < s.length) : True ∧ True ∧ ((ss s[k] = true ∨ False) → aZ s k = (s[k].toNat, 1)) := ⟨trivial, trivial, fun h => (rJ s k hk).2 (h.resolve_right id)⟩
theorem wQ {c : UInt8} (h : ss c = true) : c = 78 ∨ c = 66 ∨ c = 84 := by
  unfold ss yw at h
  simp only [Bool.or_eq_true, beq_iff_eq] at h
  rcases h with h | h | h
  · exact .inl (UInt8.toNat_inj.1 (by simpa using (show c.toNat = 78 by omega)))
  · exact .inr (.inl (UInt8.toNat_inj.1 (by simpa using (show c.toNat = 66 by omega))))
  · exact .inr (.inr (UInt8.toNat_inj.1 (by simpa using (show c.toNat = 84 by omega))))
def dg (b : UInt8) : Int × Int := if b = 78 then (0, 2) else if b = 66 then (1, 1) else (2, 0)
def pC (a : Int × Int) (b : UInt8) : Int × Int := (a.1 + (dg b).1, a.2 + (dg b).2)
def vec (w : List UInt8) : Int × Int := w.foldl pC (0, 0)
theorem jk (b : UInt8) : 0 ≤ (dg b).1 ∧ 0 ≤ (dg b).2 ∧ (dg b).1 + (dg b).2 = 2 := by
  unfold dg
  split
  · simp
  · split <;> simp
theorem Hd (w : List UInt8) : ∀ a : Int × Int, 0 ≤ a.1 → 0 ≤ a.2 → 0 ≤ (w.foldl pC a).1 ∧ 0 ≤ (w.foldl pC a).2 ∧ (w.foldl pC a).1 + (w.foldl pC a).2 = a.1 + a.2 + 2 * w.length := by
  induction w with
  | nil => intro a h1 h2; simp [h1, h2]
  | cons b w ih =>
    intro a h1 h2
    obtain ⟨s1, s2, s3⟩ := jk b
    obtain ⟨q1, q2, q3⟩ := ih (pC a b) (by unfold pC; simp only; omega) (by unfold pC; simp only; omega)
    refine ⟨q1, q2, ?_⟩
    rw [List.foldl_cons, q3, List.length_cons]
    unfold pC
    simp only
    omega
theorem NE (w : List UInt8) : 0 ≤ (vec w).1 ∧ 0 ≤ (vec w).2 ∧ (vec w).1 + (vec w).2 = 2 * w.length := by
  have := Hd w (0, 0) (by simp) (by simp)
  unfold vec
  simpa using this
def Qy (a : Int × Int) (k : Nat) : Prop := 0 ≤ a.1 ∧ 0 ≤ a.2 ∧ a.1 + a.2 = 2 * k
theorem Qy.add {a : Int × Int} {k : Nat} (h : Qy a k) (b : UInt8) : Qy (pC a b) (k + 1) := by
  obtain ⟨h1, h2, h3⟩ := h
  obtain ⟨s1, s2, s3⟩ := jk b
  unfold Qy pC
  simp only
  refine ⟨by omega, by omega, by omega⟩
def cH : List (Int × (Int × Int)) := [(78, (0, 2)), (66, (1, 1)), (84, (2, 0))]
theorem uY {c : UInt8} (h : ss c = true) : (cQ .int (AV.int .i32 (c.toNat : Int)) (ax (List.map bX cH)) && aB.fits Ot (cg .int (AV.int .i32 (c.toNat : Int)) (AV.agg [(AV.int .i64 0), (AV.int .i64 0)]) (ax (List.map bX cH)))) = true ∧
    d46 (cg .int (AV.int .i32 (c.toNat : Int)) (AV.agg [(AV.int .i64 0), (AV.int .i64 0)]) (ax (List.map bX cH))) = dg c := by
  rcases wQ h with rfl | rfl | rfl <;> exact ⟨rfl, rfl⟩
theorem wR : (allFit (aB.fits ji) (bp (ax (List.map bX cH))) && true) = true ∧ List.map kq (bp (ax (List.map bX cH))) = cH ∧ (mT (ax (List.map bX cH)) && true) = true := ⟨rfl, rfl, rfl⟩
theorem Dc {N : Nat} (hN : kp N) (w : List UInt8) (hw : w.length ≤ 1000000) (hl : w.all ss = true) : Qj N w = some (vec w) := by
  rw [Nb]
  have e1 : cQ .int (AV.int .i32 78) ([] : List (AV × AV)) = true := rfl
  have e2 : cQ .int (AV.int .i32 66) (a6 .int (AV.int .i32 78) (AV.agg [(AV.int .i64 0), (AV.int .i64 2)]) ([] : List (AV × AV))) = true := rfl
  have e3 : cQ .int (AV.int .i32 84) (a6 .int (AV.int .i32 66) (AV.agg [(AV.int .i64 1), (AV.int .i64 1)]) (a6 .int (AV.int .i32 78) (AV.agg [(AV.int .i64 0), (AV.int .i64 2)]) ([] : List (AV × AV)))) = true := rfl
  rw [e1, e2, e3]
  simp only [cond_true]
  have e4 : (((bif (allFit (aB.fits ji) (bp (a6 .int (AV.int .i32 84) (AV.agg [(AV.int .i64 2), (AV.int .i64 0)]) (a6 .int (AV.int .i32 66) (AV.agg [(AV.int .i64 1), (AV.int .i64 1)]) (a6 .int (AV.int .i32 78) (AV.agg [(AV.int .i64 0), (AV.int .i64 2)]) ([] : List (AV × AV)))))) && true) then some (0, 0, (List.map kq (bp (a6 .int (AV.int .i32 84) (AV.agg [(AV.int .i64 2), (AV.int .i64 0)]) (a6 .int (AV.int .i32 66) (AV.agg [(AV.int .i64 1), (AV.int .i64 1)]) (a6 .int (AV.int .i32 78) (AV.agg [(AV.int .i64 0), (AV.int .i64 2)]) ([] : List (AV × AV))))))), w, ((0 : Nat) : Int)) else none : Option (Int × Int × (List (Int × (Int × Int))) × (List UInt8) × Int)).bind fun w6 => bif (mT (a6 .int (AV.int .i32 84) (AV.agg [(AV.int .i64 2), (AV.int .i64 0)]) (a6 .int (AV.int .i32 66) (AV.agg [(AV.int .i64 1), (AV.int .i64 1)]) (a6 .int (AV.int .i32 78) (AV.agg [(AV.int .i64 0), (AV.int .i64 2)]) ([] : List (AV × AV))))) && true) then some w6 else none)) = some (0, 0, cH, w, ((0 : Nat) : Int)) := rfl
  rw [e4, Option.bind_some]
  obtain ⟨m1, m2, m3⟩ := wR
  have key := jE (rd := py N) w (fun (a : Int × Int) k => (a.1, a.2, cH, w, (k : Int))) pC (fun a => (a.1, a.2, cH, w, (w.length : Int))) Qy
    (fun a k hk hP => by
      refine ⟨?_, hP.add _⟩
      obtain ⟨h1, h2, h3⟩ := hP
      obtain ⟨s1, s2, s3⟩ := jk w[k]
      have hc : ss w[k] = true := List.all_eq_true.1 hl _ (List.getElem_mem hk)
      obtain ⟨g1, g2⟩ := uY hc
      obtain ⟨_, _, r3⟩ := wP w k hk
      have r := r3 (.inl hc)
      simp only [py, Int.toNat_natCast, uX hk, cond_true, r, g1, g2, m1, m2, m3, Option.bind_some]
      rw [mm (x := a.1 + (dg w[k]).1) (by omega), mm (x := a.2 + (dg w[k]).2) (by omega)]
      rfl)
    (fun a _ => by simp only [py, Int.toNat_natCast, qz (Nat.lt_irrefl _), cond_false, m1, m2, m3, cond_true, Option.bind_some]) N (0, 0) 0 (Nat.zero_le _) (by unfold kp at hN; omega) ⟨by simp, by simp, by simp⟩
  have Cf : bQ (V := Int × Int × (List (Int × (Int × Int))) × (List UInt8) × Int) (X := (Int × Int × (List (Int × (Int × Int))) × (List UInt8) × Int)) (py N) N (0, 0, cH, w, ((0 : Nat) : Int)) = some ((vec w).1, (vec w).2, cH, w, (w.length : Int)) := key
  rw [Cf]
  rfl
def jG (w : List UInt8) : Int := if (vec w).2 = 0 then 6 else 0
theorem He {N : Nat} (hN : kp N) {w : List UInt8} (h : cN w = 0) : Rn N w = some (jG w) := by
  obtain ⟨h1, h2, h3⟩ := kW h
  rw [Nd, Dc hN w (by omega) h3]
  simp only [Option.bind_some, kr]
  unfold jG
  by_cases h : (vec w).2 = 0 <;> simp [h]
section
variable {N : Nat} (hN : kp N)
include hN
theorem Hf (w : List UInt8) : Ro N w = some (if cN w = 0 then (if jG w = 0 then (low (vec w).1 (vec w).2, 0) else ((0, 0), jG w)) else ((0, 0), cN w)) := by
  rw [Ng, Ai hN]
  simp only [Option.bind_some]
  by_cases h : cN w = 0
  · obtain ⟨h1, h2, h3⟩ := kW h
    have v := NE w
    simp only [h, bne_self_eq_false, cond_false, if_true, He hN h, Option.bind_some, Dc hN w (by omega) h3]
    by_cases h4 : jG w = 0
    · have h5 : (vec w).2 ≠ 0 := by intro e; unfold jG at h4; rw [if_pos e] at h4; cases h4
      simp only [h4, bne_self_eq_false, cond_false, if_true, C8 hN v.1 (by omega) (show 0 < (vec w).2 by omega) (by omega), Option.bind_some]
    · simp [h4, Cb h4]
  · simp [h, Cb h]
end
end Go.Proofs.YtophnjjjmikmeaaGreat
