/- Plain laws: knots and bars of walks. -/
import Derived.Test.YtophnjjjmikmeaaGreatOttPf
set_option linter.all false
namespace Go.Proofs.YtophnjjjmikmeaaGreat
open Go Go.Am
set_option maxRecDepth 100000
def yy (a : List (Int × Int × Int)) (s : yI) : List (Int × Int × Int) := if s.1 = 66 then a ++ [(s.2.1, s.2.2.1, s.2.2.2.1 - s.2.1)] else a
def Hk (l : List yI) : List (Int × Int × Int) := l.foldl yy []
theorem Hl (a : List (Int × Int × Int)) (s : yI) : (yy a s).length ≤ a.length + 1 := by unfold yy; split <;> simp
theorem Good.TD {out : Bool} {s : yI} (h : Good out s) : (s.1 = 66 ↔ s.2.2.2.2 - s.2.2.1 = 1) ∧ -120000 ≤ s.2.1 ∧ s.2.1 ≤ 120000 ∧ -120000 ≤ s.2.2.1 ∧ s.2.2.1 ≤ 120000 ∧ -120000 ≤ s.2.2.2.1 ∧ s.2.2.2.1 ≤ 120000 ∧ -120000 ≤ s.2.2.2.2 ∧ s.2.2.2.2 ≤ 120000 ∧
    (s.1 ≠ 66 → (∃ e : Int, s.2.2.2.1 = s.2.1 + 2 * e) ∧ ∃ e : Int, s.2.2.2.2 = s.2.2.1 + 2 * e) := by
  obtain ⟨p, c, rfl, hc, h1, h2, h3, h4⟩ := h
  have t78 : (78 : UInt8).toNat = 78 := rfl
  have t66 : (66 : UInt8).toNat = 66 := rfl
  have t84 : (84 : UInt8).toNat = 84 := rfl
  rcases wQ hc with rfl | rfl | rfl
  · have e : dg 78 = (0, 2) := rfl
    cases out <;> simp only [yx, mv, e, Bool.false_eq_true, if_false, if_true, t78] <;> refine ⟨by omega, by omega, by omega, by omega, by omega, by omega, by omega, by omega, by omega, fun _ => ⟨⟨0, by omega⟩, ⟨1, by omega⟩⟩⟩
  · have e : dg 66 = (1, 1) := rfl
    cases out <;> simp only [yx, mv, e, Bool.false_eq_true, if_false, if_true, t66] <;> refine ⟨by omega, by omega, by omega, by omega, by omega, by omega, by omega, by omega, by omega, fun h => absurd rfl h⟩
  · have e : dg 84 = (2, 0) := rfl
    cases out
    · simp only [yx, mv, e, Bool.false_eq_true, if_false, t84]
      refine ⟨by omega, by omega, by omega, by omega, by omega, by omega, by omega, by omega, by omega, fun _ => ⟨⟨-1, by omega⟩, ⟨0, by omega⟩⟩⟩
    · simp only [yx, mv, e, if_true, t84]
      refine ⟨by omega, by omega, by omega, by omega, by omega, by omega, by omega, by omega, by omega, fun _ => ⟨⟨1, by omega⟩, ⟨0, by omega⟩⟩⟩
theorem Hm (l : List (Int × Int × Int)) (a b c : Int) : List.map eW l ++ [AV.agg [AV.int .i64 a, AV.int .i64 b, AV.int .i64 c]] = List.map eW (l ++ [(a, b, c)]) := by simp [eW, aB.enc, aF.enc]
theorem Ew (l : List (Int × Int)) (a b : Int) : List.map iE l ++ [AV.agg [AV.int .i64 a, AV.int .i64 b]] = List.map iE (l ++ [(a, b)]) := by simp [iE, aB.enc, aF.enc]
section
variable {N : Nat} (hN : kp N)
include hN
theorem Hn (dh : Int × Int) (l : List yI) (hl : l.length ≤ 1000) : bQ (V := (List (Int × Int)) × Int) (X := ((List (Int × Int)))) (pz N (l, 0)) N ([dh], 0) = some (dh :: l.map JE) := by
  have key := jE (rd := pz N (l, 0)) l (fun (a : List (Int × Int)) k => (a, (k : Int))) (fun a s => a ++ [JE s]) (fun a => a) (fun a k => a.length = k + 1)
    (fun a k hk hP => by
      refine ⟨?_, by simp [hP]⟩
      have e1 : decide ((a.length + 1) * 16 ≤ 140737488355328) = true := by simp only [decide_eq_true_eq]; omega
      have e2 := Ew a (l[k]).2.2.2.1 (l[k]).2.2.2.2
      simp only [pz, List.length_map, fh hk, dP hk, Int.toNat_natCast, jf jq l k hk, PX, PY, Bool.and_self, cond_true, decide_true, e1, e2, Mk, Ml, Bool.and_true, Option.bind_some, List.length_append, List.length_cons, List.length_nil, jh (show k < 9223372036854775807 by omega)]
      rfl)
    (fun a _ => by simp only [pz, List.length_map, fX, cond_false, Mk, Ml, decide_true, Bool.and_true, cond_true, Option.bind_some]) N [dh] 0 (Nat.zero_le _) (by unfold kp at hN; omega) rfl
  rw [List.drop_zero] at key
  have f : ∀ (l : List yI) (a : List (Int × Int)), l.foldl (fun a s => a ++ [JE s]) a = a ++ l.map JE := by
    intro l
    induction l with
    | nil => intro a; simp
    | cons s l ih => intro a; simp [ih]
  rw [f] at key
  exact key
theorem JH (out : Bool) (l : List yI) (hl : l.length ≤ 1000) (hg : ∀ s ∈ l, Good out s) : bQ (V := (List (Int × Int × Int)) × Int) (X := ((List (Int × Int × Int)))) (uU N (l, 0)) N ([], 0) = some (Hk l) := by
  have key := jE (rd := uU N (l, 0)) l (fun (a : List (Int × Int × Int)) k => (a, (k : Int))) yy (fun a => a) (fun a k => a.length ≤ k)
    (fun a k hk hP => by
      refine ⟨?_, by have := Hl a l[k]; omega⟩
      obtain ⟨g1, g2, g3, g4, g5, g6, g7, g8, g9, g10⟩ := (hg l[k] (List.getElem_mem hk)).TD
      have e1 : decide ((a.length + 1) * 24 ≤ 140737488355328) = true := by simp only [decide_eq_true_eq]; omega
      have e3 : IntKind.wrap .i64 ((l[k]).2.2.2.1 - (l[k]).2.1) = (l[k]).2.2.2.1 - (l[k]).2.1 := mm (by omega)
      have e2 := Hm a (l[k]).2.1 (l[k]).2.2.1 ((l[k]).2.2.2.1 - (l[k]).2.1)
      unfold yy
      simp only [uU, List.length_map, fh hk, dP hk, Int.toNat_natCast, jf jq l k hk, PX, PY, Bool.and_self, cond_true, decide_true, Bool.true_and, e1, e2, e3, Ep, Er, Bool.and_true, Option.bind_some, jh (show k < 9223372036854775807 by omega)]
      by_cases h : (l[k]).1 = 66
      · simp only [h, beq_self_eq_true, cond_true, if_true, Ep, Er, Option.bind_some, List.length_append, List.length_cons, List.length_nil, decide_true, List.length_map]
      · have hb : ((l[k]).1 == 66) = false := by simpa using h
        simp only [h, hb, cond_false, if_false, Ep, Er, Option.bind_some, decide_true, cond_true, List.length_map])
    (fun a _ => by simp only [uU, List.length_map, fX, cond_false, Ep, Er, decide_true, Bool.and_true, cond_true, Option.bind_some]) N [] 0 (Nat.zero_le _) (by unfold kp at hN; omega) (Nat.le_refl _)
  exact key
variable (dh : Int × Int) (L : List UInt8) (out : Bool)
end
section
variable {N : Nat} (hN : kp N) (dh : Int × Int) (w : List UInt8) (times : Int) (out : Bool)
include hN
theorem Ho : Rp N (dh, w, times, out) = some (if walkErr dh w times out = 0 then (va out dh (ga w times.toNat), 0) else ([], walkErr dh w times out)) := by
  rw [Ni, wS hN]
  simp only [Option.bind_some]
  by_cases h : walkErr dh w times out = 0
  · have ok : vb dh w times := nU (by unfold walkErr at h; by_cases h2 : dY dh w times = 0; exact h2; rw [if_neg h2] at h; exact absurd h h2)
    simp only [h, if_true, bne_self_eq_false, cond_false]
    have e0 : (((bif (allFit (aB.fits Cc) [(AV.agg [(AV.int .i64 dh.1), (AV.int .i64 dh.2)])] && true) then some ((List.map d23 [(AV.agg [(AV.int .i64 dh.1), (AV.int .i64 dh.2)])]), 0) else none : Option ((List (Int × Int)) × Int)).bind fun w7 => bif (decide (1 = (List.map iE w7.1).length) && true) then some w7 else none)) = some ([dh], 0) := rfl
    rw [e0, Option.bind_some, Hn hN dh _ (by rw [jU, gQ, Nat.mul_comm]; have := ok.hl; omega)]
    simp only [Option.bind_some, Mk, Ml, Bool.and_self, cond_true]
    rfl
  · simp only [h, if_false, Cb h, cond_true]
    rfl
theorem Ex (ok : vb dh w times) : ∀ s ∈ cP out dh (ga w times.toNat), Good out s :=
  vc ⟨ok.hk.1, ok.hk.2.1, ok.hk.2.2.1, ok.hk.2.2.2.1⟩ out _ dh 0 (vH.zero dh) (by rw [gQ, Nat.mul_comm]; have := ok.hl; omega) (fun c hc => List.all_eq_true.1 ok.hw.2.2 c (pD hc))
theorem JI : T8 N (dh, w, times, out) = some (if walkErr dh w times out = 0 then (Hk (cP out dh (ga w times.toNat)), 0) else ([], walkErr dh w times out)) := by
  rw [P8, wS hN]
  simp only [Option.bind_some]
  by_cases h : walkErr dh w times out = 0
  · have ok : vb dh w times := nU (by unfold walkErr at h; by_cases h2 : dY dh w times = 0; exact h2; rw [if_neg h2] at h; exact absurd h h2)
    simp only [h, if_true, bne_self_eq_false, cond_false]
    have e0 : (((bif (allFit (aB.fits uR) ([] : List AV) && true) then some ((List.map d59 ([] : List AV)), 0) else none : Option ((List (Int × Int × Int)) × Int)).bind fun P9 => bif (decide (0 = (List.map eW P9.1).length) && true) then some P9 else none)) = some ([], 0) := rfl
    rw [e0, Option.bind_some, JH hN out _ (by rw [jU, gQ, Nat.mul_comm]; have := ok.hl; omega) (Ex hN dh w times out ok)]
    simp only [Option.bind_some, Ep, Er, Bool.and_self, cond_true]
  · simp only [h, if_false, Cb h, cond_true]
    rfl
end
end Go.Proofs.YtophnjjjmikmeaaGreat
