/- Plain laws: knots, steps and walks. -/
import Derived.Test.YtophnjjjmikmeaaGreatOttPe
set_option linter.all false
namespace Go.Proofs.YtophnjjjmikmeaaGreat
open Go Go.Am
set_option maxRecDepth 100000
theorem Cg (n : Nat) (h : n < 18446744073709551616) : (BitVec.ofInt 64 (IntKind.wrap .i64 (n : Int))).toNat = n := by
  rw [BitVec.toNat_ofInt, IntKind.wrap_i64]
  omega
theorem TC (a b : Nat) : (a ^^^ b) % 2 = (a + b) % 2 := by
  have h := Nat.xor_mod_two_pow (a := a) (b := b) (n := 1)
  rw [Nat.pow_one] at h
  rw [h]
  rcases Nat.mod_two_eq_zero_or_one a with ha | ha <;> rcases Nat.mod_two_eq_zero_or_one b with hb | hb <;> rw [ha, hb] <;> simp <;> omega
theorem NF (x y : Int) : (Dm .i64 (Dn .i64 x y) 1 != 0) = decide ((x + y) % 2 ≠ 0) := by
  have h1 : (BitVec.ofInt 64 x ^^^ BitVec.ofInt 64 y).toNat < 18446744073709551616 := (BitVec.ofInt 64 x ^^^ BitVec.ofInt 64 y).isLt
  have h2 : (BitVec.ofInt 64 1).toNat = 1 := by decide
  have h3 : Dm .i64 (Dn .i64 x y) 1 = IntKind.wrap .i64 ((((BitVec.ofInt 64 x ^^^ BitVec.ofInt 64 y).toNat % 2 : Nat)) : Int) := by
    show IntKind.wrap .i64 (((BitVec.ofInt 64 (IntKind.wrap .i64 (((BitVec.ofInt 64 x ^^^ BitVec.ofInt 64 y).toNat : Nat) : Int)) &&& BitVec.ofInt 64 1).toNat : Nat) : Int) = _
    rw [BitVec.toNat_and, Cg _ h1, h2, Nat.and_one_is_mod]
  rw [h3, mm (by omega), BitVec.toNat_xor, TC, BitVec.toNat_ofInt, BitVec.toNat_ofInt]
  have e : ((((x % ((2 ^ 64 : Nat) : Int)).toNat + (y % ((2 ^ 64 : Nat) : Int)).toNat) % 2 : Nat) : Int) = (x + y) % 2 := by omega
  rw [e]
  by_cases h : (x + y) % 2 = 0 <;> simp [h]
def aV (p : Int × Int) : Int := if p.1 < -100000 ∨ p.1 > 100000 ∨ p.2 < -100000 ∨ p.2 > 100000 then 3 else if (p.1 + p.2) % 2 = 0 then 0 else 14
theorem Ch {p : Int × Int} (h : aV p = 0) : -100000 ≤ p.1 ∧ p.1 ≤ 100000 ∧ -100000 ≤ p.2 ∧ p.2 ≤ 100000 ∧ (p.1 + p.2) % 2 = 0 := by
  unfold aV at h
  split at h
  · cases h
  · split at h
    · rename_i h1 h2; exact ⟨by omega, by omega, by omega, by omega, h2⟩
    · cases h
theorem Dd (N : Nat) (n lo hi : Int) : P3 N (n, lo, hi) = some (pt n lo hi) := by
  rw [Mt, yp, yp]
  unfold pt
  by_cases h1 : n < lo
  · simp [h1]
  · by_cases h2 : n > hi <;> simp [h1, h2]
theorem fH {N : Nat} (hN : kp N) (l : List Int) (hl : l.length ≤ 9223372036854775806) : EM N l = some (aP l) := by
  obtain ⟨o, h1, h2⟩ := nS (rd := yn N l) l (fun k hk => by
    simp only [yn, List.length_map, Int.toNat_natCast, jf Au l k hk, Tg, Th, jh (show k < 9223372036854775807 by omega), fh hk, dP hk, Bool.and_self, cond_true]
    by_cases hz : l[k] = 0
    · simp [hz]
    · simp [hz, Bool.cond_eq_ite]) (by simp only [yn, List.length_map, fX, cond_false]) N (by unfold kp at hN; omega)
  rw [Mp, h1, Option.bind_some]
  rcases o with o | o
  · simpa using h2
  · simpa using h2
theorem uZ {N : Nat} (hN : kp N) (p : Int × Int) : Mu N p = some (aV p) := by
  rw [Mw, GU]
  simp only [Dd, Option.bind_some, beq_self_eq_true, Bool.and_self, cond_true, allFit, Et, Eu, List.map_cons, List.map_nil, fH hN _ (show [_, _].length ≤ 9223372036854775806 by simp), NF, yp]
  unfold aV pt
  by_cases h1 : p.1 < -100000 ∨ p.1 > 100000
  · have h : p.1 < -100000 ∨ p.1 > 100000 ∨ p.2 < -100000 ∨ p.2 > 100000 := by omega
    rw [if_pos h, if_pos h1]
    cases decide ((p.1 + p.2) % 2 ≠ 0) <;> simp [aP, allFit, Et, Eu, fH hN _ (show [_, _].length ≤ 9223372036854775806 by simp)]
  · rw [if_neg h1]
    by_cases h2 : p.2 < -100000 ∨ p.2 > 100000
    · have h : p.1 < -100000 ∨ p.1 > 100000 ∨ p.2 < -100000 ∨ p.2 > 100000 := by omega
      rw [if_pos h, if_pos h2]
      cases decide ((p.1 + p.2) % 2 ≠ 0) <;> simp [aP, allFit, Et, Eu, fH hN _ (show [_, _].length ≤ 9223372036854775806 by simp)]
    · have h : ¬ (p.1 < -100000 ∨ p.1 > 100000 ∨ p.2 < -100000 ∨ p.2 > 100000) := by omega
      rw [if_neg h, if_neg h2]
      by_cases h3 : (p.1 + p.2) % 2 = 0 <;> simp [h3, aP, allFit, Et, Eu, fH hN _ (show [_, _].length ≤ 9223372036854775806 by simp)]
theorem Aj (N : Nat) (p : Int × Int) : MJ N p = some (aV p) := by
  rw [ML, GY, GY, MI]
  unfold aV
  by_cases h : p.1 < -100000 ∨ p.1 > 100000 ∨ p.2 < -100000 ∨ p.2 > 100000
  · rw [if_pos h]
    by_cases h1 : p.1 < -100000 <;> by_cases h2 : p.1 > 100000 <;> by_cases h3 : p.2 < -100000 <;> by_cases h4 : p.2 > 100000 <;> simp [h1, h2, h3, h4] <;> omega
  · rw [if_neg h]
    have h1 : ¬ p.1 < -100000 := by omega
    have h2 : ¬ p.1 > 100000 := by omega
    have h3 : ¬ p.2 < -100000 := by omega
    have h4 : ¬ p.2 > 100000 := by omega
    rw [mm (x := p.1 + p.2) (by omega)]
    have e : ((Int.tmod (p.1 + p.2) 2) == 0) = decide ((p.1 + p.2) % 2 = 0) := by
      by_cases h5 : (p.1 + p.2) % 2 = 0
      · have : Int.tmod (p.1 + p.2) 2 = 0 := Int.tmod_eq_zero_of_dvd (Int.dvd_of_emod_eq_zero h5)
        simp [h5, this]
      · have : Int.tmod (p.1 + p.2) 2 ≠ 0 := fun e => h5 (Int.emod_eq_zero_of_dvd (Int.dvd_of_tmod_eq_zero e))
        simp [h5, this]
    rw [e]
    by_cases h5 : (p.1 + p.2) % 2 = 0 <;> simp [h1, h2, h3, h4, h5]
def mv (out : Bool) (p : Int × Int) (c : UInt8) : Int × Int := (p.1 + (if out then (dg c).1 else -(dg c).1), p.2 + (dg c).2)
abbrev yI := Int × Int × Int × Int × Int
def yx (out : Bool) (p : Int × Int) (c : UInt8) : yI := ((c.toNat : Int), p.1, p.2, (mv out p c).1, (mv out p c).2)
def cP (out : Bool) : Int × Int → List UInt8 → List yI
  | _, [] => []
  | p, c :: l => yx out p c :: cP out (mv out p c) l
def Hg (out : Bool) (p : Int × Int) (l : List UInt8) : Int × Int := l.foldl (mv out) p
def JE (s : yI) : Int × Int := (s.2.2.2.1, s.2.2.2.2)
def va (out : Bool) (p : Int × Int) (l : List UInt8) : List (Int × Int) := p :: (cP out p l).map JE
theorem jU (out : Bool) : ∀ (l : List UInt8) (p : Int × Int), (cP out p l).length = l.length
  | [], _ => rfl
  | c :: l, p => by simp [cP, jU out l]
theorem gQ (w : List UInt8) : ∀ n : Nat, (ga w n).length = n * w.length
  | 0 => by simp [ga]
  | n + 1 => by
    show (w ++ ga w n).length = _
    rw [List.length_append, gQ w n, Nat.succ_mul]
    omega
theorem pD {w : List UInt8} : ∀ {n : Nat} {c : UInt8}, c ∈ ga w n → c ∈ w
  | 0, c, h => by simp [ga] at h
  | n + 1, c, h => by
    rcases List.mem_append.1 (show c ∈ w ++ ga w n from h) with h | h
    · exact h
    · exact pD h
def vH (p0 p : Int × Int) (m : Nat) : Prop := p0.1 - 2 * m ≤ p.1 ∧ p.1 ≤ p0.1 + 2 * m ∧ p0.2 ≤ p.2 ∧ p.2 ≤ p0.2 + 2 * m
theorem vH.mv {p0 p : Int × Int} {m : Nat} (h : vH p0 p m) (out : Bool) (c : UInt8) : vH p0 (mv out p c) (m + 1) := by
  obtain ⟨h1, h2, h3, h4⟩ := h
  obtain ⟨s1, s2, s3⟩ := jk c
  cases out <;> simp only [vH, YtophnjjjmikmeaaGreat.mv, Bool.false_eq_true, if_false, if_true] <;> omega
theorem vH.zero (p : Int × Int) : vH p p 0 := ⟨by omega, by omega, by omega, by omega⟩
section walk
variable {N : Nat} (hN : kp N) (dh : Int × Int) (ld : -100000 ≤ dh.1 ∧ dh.1 ≤ 100000 ∧ -100000 ≤ dh.2 ∧ dh.2 ≤ 100000) (w : List UInt8) (out : Bool)
include hN ld
end walk
def Ci (p : Int × Int) : Bool := decide (p.1 < -100000) || (decide (p.1 > 100000) || decide (p.2 > 100000))
def dY (dh : Int × Int) (w : List UInt8) (times : Int) : Int := aP [aV dh, cN w, pt times 1 256, if (w.length : Int) * times > 256 then 26 else 0]
def walkErr (dh : Int × Int) (w : List UInt8) (times : Int) (out : Bool) : Int := if dY dh w times = 0 then (if (va out dh (ga w times.toNat)).any Ci then 32 else 0) else dY dh w times
theorem Cj (dh : Int × Int) (w : List UInt8) (times : Int) : dY dh w times = if aP [aV dh, cN w, pt times 1 256] = 0 then (if (w.length : Int) * times > 256 then 26 else 0) else aP [aV dh, cN w, pt times 1 256] := by
  unfold dY
  rw [show [aV dh, cN w, pt times 1 256, if (w.length : Int) * times > 256 then (26 : Int) else 0] = [aV dh, cN w, pt times 1 256] ++ [if (w.length : Int) * times > 256 then (26 : Int) else 0] from rfl, uP]
  by_cases h : aP [aV dh, cN w, pt times 1 256] = 0
  · rw [if_pos h, if_pos h]
    by_cases h2 : (w.length : Int) * times > 256 <;> simp [h2, aP]
  · rw [if_neg h, if_neg h]
structure vb (dh : Int × Int) (w : List UInt8) (times : Int) : Prop where
  hk : -100000 ≤ dh.1 ∧ dh.1 ≤ 100000 ∧ -100000 ≤ dh.2 ∧ dh.2 ≤ 100000 ∧ (dh.1 + dh.2) % 2 = 0
  hw : w ≠ [] ∧ w.length ≤ 64 ∧ w.all ss = true
  ht : 1 ≤ times ∧ times ≤ 256
  hl : w.length * times.toNat ≤ 256
theorem JF {n : Nat} {t : Int} (h : 0 ≤ t) : (n : Int) * t = ((n * t.toNat : Nat) : Int) := by
  rw [Int.natCast_mul, Int.toNat_of_nonneg h]
theorem nU {dh : Int × Int} {w : List UInt8} {times : Int} (h : dY dh w times = 0) : vb dh w times := by
  have hz := kV.1 h
  simp only [List.mem_cons, List.not_mem_nil, or_false, forall_eq_or_imp, forall_eq] at hz
  obtain ⟨z1, z2, z3, z4⟩ := hz
  have r := Hc z3
  refine ⟨Ch z1, kW z2, r, ?_⟩
  split at z4
  · cases z4
  · rename_i h4
    rw [JF (by omega)] at h4
    omega
def NG (s : yI) : Bool := aV (JE s) == 0
def Good (out : Bool) (s : yI) : Prop := ∃ p c, s = yx out p c ∧ ss c = true ∧ -110000 ≤ p.1 ∧ p.1 ≤ 110000 ∧ -110000 ≤ p.2 ∧ p.2 ≤ 110000
theorem vc {p0 : Int × Int} (h0 : -100000 ≤ p0.1 ∧ p0.1 ≤ 100000 ∧ -100000 ≤ p0.2 ∧ p0.2 ≤ 100000) (out : Bool) : ∀ (l : List UInt8) (p : Int × Int) (m : Nat), vH p0 p m → m + l.length ≤ 1000 → (∀ c ∈ l, ss c = true) → ∀ s ∈ cP out p l, Good out s
  | [], p, m, _, _, _, s, hs => by simp [cP] at hs
  | c :: l, p, m, hn, hm, hl, s, hs => by
    simp only [cP, List.mem_cons] at hs
    rcases hs with rfl | hs
    · obtain ⟨n1, n2, n3, n4⟩ := hn
      simp only [List.length_cons] at hm
      exact ⟨p, c, rfl, hl c (by simp), by omega, by omega, by omega, by omega⟩
    · exact vc h0 out l (mv out p c) (m + 1) (hn.mv out c) (by simp only [List.length_cons] at hm; omega) (fun x hx => hl x (by simp [hx])) s hs
theorem Hh (out : Bool) : ∀ (l : List UInt8) (p : Int × Int), (p.1 + p.2) % 2 = 0 → -100000 ≤ p.2 → (∀ c ∈ l, ss c = true) → (cP out p l).all NG = !((cP out p l).map JE).any Ci
  | [], p, _, _, _ => rfl
  | c :: l, p, h1, h2, hl => by
    have hs : (dg c).1 + (dg c).2 = 2 ∧ 0 ≤ (dg c).1 ∧ 0 ≤ (dg c).2 := by have := jk c; omega
    have m1 : ((mv out p c).1 + (mv out p c).2) % 2 = 0 := by cases out <;> simp only [mv, Bool.false_eq_true, if_false, if_true] <;> omega
    have m2 : -100000 ≤ (mv out p c).2 := by simp only [mv]; omega
    have ih := Hh out l (mv out p c) m1 m2 (fun x hx => hl x (by simp [hx]))
    simp only [cP, List.all_cons, List.map_cons, List.any_cons, ih, Bool.not_or]
    congr 1
    have e : JE (yx out p c) = mv out p c := rfl
    simp only [NG, e]
    generalize mv out p c = q at m1 m2
    unfold aV Ci
    by_cases b1 : q.1 < -100000
    · simp [b1]
    · by_cases b2 : q.1 > 100000
      · simp [b2]
      · by_cases b3 : q.2 > 100000
        · simp [b3]
        · have b4 : ¬ q.2 < -100000 := by omega
          simp [b1, b2, b3, b4, m1]
def Ky (out : Bool) (s : List yI × (Int × Int)) (c : UInt8) : (List yI × (Int × Int)) ⊕ (Int × Int × Nat) :=
  if aV (mv out s.2 c) = 0 then .inl (s.1 ++ [yx out s.2 c], mv out s.2 c) else .inr (s.2.1, s.2.2, s.1.length + 1)
theorem Ak (out : Bool) : ∀ (l : List UInt8) (a : List yI) (p : Int × Int),
    ((cP out p l).all NG = true → foldI (Ky out) (a, p) l = .inl (a ++ cP out p l, Hg out p l)) ∧ ((cP out p l).all NG = false → ∃ y, foldI (Ky out) (a, p) l = .inr y)
  | [], a, p => ⟨fun _ => by simp [foldI, cP, Hg], fun h => by simp [cP] at h⟩
  | c :: l, a, p => by
    obtain ⟨i1, i2⟩ := Ak out l (a ++ [yx out p c]) (mv out p c)
    have e : NG (yx out p c) = (aV (mv out p c) == 0) := rfl
    simp only [cP, List.all_cons, e, foldI]
    by_cases hk : aV (mv out p c) = 0
    · simp only [Ky, hk, if_true, Sum.elim_inl, beq_self_eq_true, Bool.true_and]
      refine ⟨fun h => ?_, i2⟩
      have := i1 h
      rw [show foldI (Ky out) (a ++ [yx out p c], mv out p c) l = _ from this]
      simp [Hg]
    · simp only [Ky, hk, if_false, Sum.elim_inr]
      refine ⟨fun h => ?_, fun _ => ⟨_, rfl⟩⟩
      simp [hk] at h
theorem JG {dh : Int × Int} {w : List UInt8} {times : Int} {out : Bool} (h : vb dh w times) : walkErr dh w times out = if dY dh w times = 0 then (if (cP out dh (ga w times.toNat)).all NG = true then 0 else 32) else dY dh w times := by
  unfold walkErr
  obtain ⟨k1, k2, k3, k4, k5⟩ := h.hk
  have hb : Ci dh = false := by
    unfold Ci
    have b1 : ¬ dh.1 < -100000 := by omega
    have b2 : ¬ dh.1 > 100000 := by omega
    have b3 : ¬ dh.2 > 100000 := by omega
    simp [b1, b2, b3]
  have := Hh out (ga w times.toNat) dh k5 k3 (fun c hc => List.all_eq_true.1 h.hw.2.2 c (pD hc))
  rw [this]
  simp only [va, List.any_cons, hb, Bool.false_or]
  cases ((cP out dh (ga w times.toNat)).map JE).any Ci <;> simp
section
variable {N : Nat} (hN : kp N) (dh : Int × Int) (w : List UInt8) (times : Int) (out : Bool)
include hN
theorem Hi : Rd N (dh, w, times) = some (dY dh w times) := by
  rw [ME]
  simp only [uZ hN, Ai hN, C9, Option.bind_some, allFit, Et, Eu, List.map_cons, List.map_nil, Bool.and_self, cond_true, qy hN _ (show [_, _, _].length ≤ 9223372036854775806 by simp), kr]
  rw [Cj]
  by_cases h : aP [aV dh, cN w, pt times 1 256] = 0
  · have hz := kV.1 h
    simp only [List.mem_cons, List.not_mem_nil, or_false, forall_eq_or_imp, forall_eq] at hz
    obtain ⟨z1, z2, z3⟩ := hz
    have r := Hc z3
    have hw := kW z2
    have hm : (w.length : Int) * times ≤ 64 * 256 := Int.le_trans (Int.mul_le_mul_of_nonneg_right (by omega) (by omega)) (Int.mul_le_mul_of_nonneg_left r.2 (by omega))
    have TW : 0 ≤ (w.length : Int) * times := Int.mul_nonneg (by omega) (by omega)
    simp only [h, bne_self_eq_false, cond_false, if_true]
    rw [mm (x := (w.length : Int) * times) (by omega)]
    by_cases h2 : (w.length : Int) * times > 256 <;> simp [h2]
  · simp [h, Cb h]
omit hN in
theorem Hj (l : List yI) (s : yI) : List.map jq l ++ [AV.agg [AV.int .i32 s.1, AV.int .i64 s.2.1, AV.int .i64 s.2.2.1, AV.int .i64 s.2.2.2.1, AV.int .i64 s.2.2.2.2]] = List.map jq (l ++ [s]) := by simp [jq, aB.enc, aF.enc]
theorem wS : P5 N (dh, w, times, out) = some (if walkErr dh w times out = 0 then (cP out dh (ga w times.toNat), 0) else ([], walkErr dh w times out)) := by
  rw [MF, Hi hN]
  simp only [Option.bind_some]
  by_cases h : dY dh w times = 0
  · have ok := nU h
    obtain ⟨k1, k2, k3, k4, k5⟩ := ok.hk
    obtain ⟨w1, w2, w3⟩ := ok.hw
    have bR := ok.hl
    rw [JG ok]
    obtain ⟨n, rfl⟩ : ∃ n : Nat, times = (n : Int) := ⟨times.toNat, by have := ok.ht; omega⟩
    have ht := ok.ht
    rw [Int.toNat_natCast] at bR ⊢
    simp only [h, bne_self_eq_false, cond_false, if_true]
    have e1 : cQ .int (AV.int .i32 78) ([] : List (AV × AV)) = true := rfl
    have e2 : cQ .int (AV.int .i32 66) (a6 .int (AV.int .i32 78) (AV.agg [(AV.int .i64 0), (AV.int .i64 2)]) ([] : List (AV × AV))) = true := rfl
    have e3 : cQ .int (AV.int .i32 84) (a6 .int (AV.int .i32 66) (AV.agg [(AV.int .i64 1), (AV.int .i64 1)]) (a6 .int (AV.int .i32 78) (AV.agg [(AV.int .i64 0), (AV.int .i64 2)]) ([] : List (AV × AV)))) = true := rfl
    rw [e1, e2, e3]
    simp only [cond_true]
    have e4 : ∀ (sd : Int), (((bif (allFit (aB.fits ji) (bp (a6 .int (AV.int .i32 84) (AV.agg [(AV.int .i64 2), (AV.int .i64 0)]) (a6 .int (AV.int .i32 66) (AV.agg [(AV.int .i64 1), (AV.int .i64 1)]) (a6 .int (AV.int .i32 78) (AV.agg [(AV.int .i64 0), (AV.int .i64 2)]) ([] : List (AV × AV)))))) && true) then some (sd, (List.map kq (bp (a6 .int (AV.int .i32 84) (AV.agg [(AV.int .i64 2), (AV.int .i64 0)]) (a6 .int (AV.int .i32 66) (AV.agg [(AV.int .i64 1), (AV.int .i64 1)]) (a6 .int (AV.int .i32 78) (AV.agg [(AV.int .i64 0), (AV.int .i64 2)]) ([] : List (AV × AV)))))))) else none : Option (Int × (List (Int × (Int × Int))))).bind fun w2 => bif (mT (a6 .int (AV.int .i32 84) (AV.agg [(AV.int .i64 2), (AV.int .i64 0)]) (a6 .int (AV.int .i32 66) (AV.agg [(AV.int .i64 1), (AV.int .i64 1)]) (a6 .int (AV.int .i32 78) (AV.agg [(AV.int .i64 0), (AV.int .i64 2)]) ([] : List (AV × AV))))) && true) then some w2 else none)) = some (sd, cH) := fun _ => rfl
    simp only [e4]
    have e5 : ((bif !out then some (-1, cH) else some (1, cH) : Option (Int × (List (Int × (Int × Int)))))) = some ((if out then 1 else -1 : Int), cH) := by cases out <;> rfl
    rw [e5]
    simp only [Option.bind_some]
    have W0 : (ga w n).length ≤ 256 := by rw [gQ, Nat.mul_comm]; exact bR
    have e6 : Tm N (w, (n : Int)) = some (ga w n) := by
      show sr (w, (n : Int)) = _
      have q1 : decide ((0 : Int) ≤ (n : Int)) = true := by simp
      have q2 : decide ((n : Int) ≤ 9223372036854775807) = true := by simp only [decide_eq_true_eq]; omega
      have q3 : decide (w.length * n ≤ 140737488355328) = true := by simp only [decide_eq_true_eq]; omega
      simp only [sr, q1, q2, Int.toNat_natCast, q3, Bool.and_self, cond_true]
    obtain ⟨m1, m2, m3⟩ := wR
    simp only [e6, Option.bind_some]
    generalize hL : ga w n = L at W0
    have W1 : ∀ c ∈ L, ss c = true := fun c hc => List.all_eq_true.1 w3 c (pD (by rw [hL]; exact hc))
    rw [Bool.and_true] at m1 m3
    have e7 : ((bif (allFit (aB.fits Ae) ([] : List AV) && (allFit (aB.fits ji) (bp (ax (List.map bX cH))) && true)) then some ((List.map d80 ([] : List AV)), dh.1, dh.2, (List.map kq (bp (ax (List.map bX cH)))), L, ((0 : Nat) : Int)) else none : Option ((List (Int × Int × Int × Int × Int)) × Int × Int × (List (Int × (Int × Int))) × (List UInt8) × Int)).bind fun P6 => bif (mT (ax (List.map bX cH)) && (decide (0 = (List.map jq P6.1).length) && true)) then some P6 else none) = some ([], dh.1, dh.2, cH, L, ((0 : Nat) : Int)) := rfl
    rw [e7, Option.bind_some]
    have key := jg (rd := mq N ((if out then 1 else -1 : Int), cH)) L (fun (s : List yI × (Int × Int)) k => (s.1, s.2.1, s.2.2, cH, L, (k : Int))) (Ky out)
      (fun s => .inl (s.1, s.2.1, s.2.2, cH, L, (L.length : Int))) (fun y => .inr ((), 32, y.1, y.2.1, cH, L, (y.2.2 : Int)))
      (fun s k => s.1.length = k ∧ vH dh s.2 k)
      (fun s k hk hP => by
        obtain ⟨hl, hn⟩ := hP
        have hc : ss L[k] = true := W1 _ (List.getElem_mem hk)
        refine ⟨?_, fun s' EE => ?_⟩
        · have Ib := hn.mv out L[k]
          obtain ⟨n1, n2, n3, n4⟩ := hn
          obtain ⟨q1, q2, q3, q4⟩ := Ib
          obtain ⟨s1, s2, s3⟩ := jk L[k]
          obtain ⟨g1, g2⟩ := uY hc
          obtain ⟨_, _, r3⟩ := wP L k hk
          have r := r3 (.inl hc)
          have a1 : IntKind.wrap .i64 (s.2.1 + IntKind.wrap .i64 ((if out then 1 else -1 : Int) * (dg L[k]).1)) = (mv out s.2 L[k]).1 := by
            have : (if out then 1 else -1 : Int) * (dg L[k]).1 = if out then (dg L[k]).1 else -(dg L[k]).1 := by cases out <;> simp
            rw [this, mm (x := if out then (dg L[k]).1 else -(dg L[k]).1) (by split <;> omega)]
            exact mm (by simp only [mv] at q1 q2; omega)
          have a2 : IntKind.wrap .i64 (s.2.2 + (dg L[k]).2) = (mv out s.2 L[k]).2 := mm (by simp only [mv] at q3 q4; omega)
          have e8 : decide ((s.1.length + 1) * 40 ≤ 140737488355328) = true := by simp only [decide_eq_true_eq]; omega
          have e9 := Hj s.1 (yx out s.2 L[k])
          simp only [mq, Int.toNat_natCast, uX hk, cond_true, r, g1, g2, a1, a2, uZ hN, Option.bind_some, Ky]
          by_cases yD : aV (mv out s.2 L[k]) = 0
          · have W2 : List.map jq s.1 ++ [AV.agg [AV.int .i32 (((L[k].toNat : Nat) : Int)), AV.int .i64 s.2.1, AV.int .i64 s.2.2, AV.int .i64 (mv out s.2 L[k]).1, AV.int .i64 (mv out s.2 L[k]).2]] = List.map jq (s.1 ++ [yx out s.2 L[k]]) := e9
            simp only [yD, bne_self_eq_false, cond_false, if_true, W2, Mm, Mn, m1, m2, m3, List.length_map, decide_true, Bool.true_and, Bool.and_true, e8, cond_true, Option.bind_some, List.length_append, List.length_cons, List.length_nil, Sum.map_inl]
          · simp only [yD, Cb yD, cond_true, if_false, m1, m2, m3, allFit, Bool.true_and, Bool.and_true, Option.bind_some, Sum.map_inr, hl, List.map_nil]
        · unfold Ky at EE
          split at EE
          · cases EE
            exact ⟨by simp [hl], hn.mv out _⟩
          · cases EE)
      (fun s _ => by
        simp only [mq, Int.toNat_natCast, qz (Nat.lt_irrefl _), cond_false, Mm, Mn, m1, m2, m3, List.length_map, decide_true, Bool.and_true, cond_true, Option.bind_some])
      N ([], dh) 0 (Nat.zero_le _) (by unfold kp at hN; omega) ⟨rfl, vH.zero dh⟩
    rw [List.drop_zero] at key
    have Cf : bQ (V := (List (Int × Int × Int × Int × Int)) × Int × Int × (List (Int × (Int × Int))) × (List UInt8) × Int) (X := ((List (Int × Int × Int × Int × Int)) × Int × Int × (List (Int × (Int × Int))) × (List UInt8) × Int) ⊕ (Unit × Int × Int × Int × (List (Int × (Int × Int))) × (List UInt8) × Int)) (mq N ((if out then 1 else -1 : Int), cH)) N ([], dh.1, dh.2, cH, L, ((0 : Nat) : Int)) = _ := key
    rw [Cf]
    obtain ⟨f1, f2⟩ := Ak out L [] dh
    cases lS : (cP out dh L).all NG with
    | true =>
      rw [f1 lS]
      simp only [Sum.elim_inl, Option.bind_some, Mm, Mn, Bool.and_self, cond_true, if_true, List.nil_append]
    | false =>
      obtain ⟨y, hy⟩ := f2 lS
      rw [hy]
      simp only [Sum.elim_inr, Option.bind_some, Bool.false_eq_true, if_false]
      rfl
  · have hw : walkErr dh w times out = dY dh w times := by unfold walkErr; rw [if_neg h]
    rw [hw]
    simp only [Cb h, cond_true, h, if_false]
    rfl
end
end Go.Proofs.YtophnjjjmikmeaaGreat
