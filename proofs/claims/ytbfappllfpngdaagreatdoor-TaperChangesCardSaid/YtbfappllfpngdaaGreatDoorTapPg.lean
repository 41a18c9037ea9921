/- Plain laws: edges, second part; TaperWalks. -/
import Derived.Test.YtbfappllfpngdaaGreatDoorTapPf
set_option linter.all false
namespace Go.Proofs.YtbfappllfpngdaaGreatDoor
open Go Go.Am
set_option maxRecDepth 100000

/-! ### Steps one by one -/

def okS (s : St5) : Bool := knotErr (toK s) == 0
/-- A step of a letter. -/
def Good (out : Bool) (s : St5) : Prop := ∃ p c, s = st5 out p c ∧ isL c = true ∧ -110000 ≤ p.1 ∧ p.1 ≤ 110000 ∧ -110000 ≤ p.2 ∧ p.2 ≤ 110000

theorem good_steps {p0 : Int × Int} (h0 : -100000 ≤ p0.1 ∧ p0.1 ≤ 100000 ∧ -100000 ≤ p0.2 ∧ p0.2 ≤ 100000) (out : Bool) : ∀ (l : List UInt8) (p : Int × Int) (m : Nat), Near p0 p m → m + l.length ≤ 1000 → (∀ c ∈ l, isL c = true) → ∀ s ∈ stepsL out p l, Good out s
  | [], p, m, _, _, _, s, hs => by simp [stepsL] at hs
  | c :: l, p, m, hn, hm, hl, s, hs => by
    simp only [stepsL, List.mem_cons] at hs
    rcases hs with rfl | hs
    · obtain ⟨n1, n2, n3, n4⟩ := hn
      simp only [List.length_cons] at hm
      exact ⟨p, c, rfl, hl c (by simp), by omega, by omega, by omega, by omega⟩
    · exact good_steps h0 out l (mv out p c) (m + 1) (hn.mv out c) (by simp only [List.length_cons] at hm; omega) (fun x hx => hl x (by simp [hx])) s hs

theorem bad_ok (out : Bool) : ∀ (l : List UInt8) (p : Int × Int), (p.1 + p.2) % 2 = 0 → -100000 ≤ p.2 → (∀ c ∈ l, isL c = true) → (stepsL out p l).all okS = !((stepsL out p l).map toK).any badK
  | [], p, _, _, _ => rfl
  | c :: l, p, h1, h2, hl => by
    have hs : (stepI c).1 + (stepI c).2 = 2 ∧ 0 ≤ (stepI c).1 ∧ 0 ≤ (stepI c).2 := by have := stepI_ok c; omega
    have m1 : ((mv out p c).1 + (mv out p c).2) % 2 = 0 := by cases out <;> simp only [mv, Bool.false_eq_true, if_false, if_true] <;> omega
    have m2 : -100000 ≤ (mv out p c).2 := by simp only [mv]; omega
    have ih := bad_ok out l (mv out p c) m1 m2 (fun x hx => hl x (by simp [hx]))
    simp only [stepsL, List.all_cons, List.map_cons, List.any_cons, ih, Bool.not_or]
    congr 1
    have e : toK (st5 out p c) = mv out p c := rfl
    simp only [okS, e]
    generalize mv out p c = q at m1 m2
    unfold knotErr badK
    by_cases b1 : q.1 < -100000
    · simp [b1]
    · by_cases b2 : q.1 > 100000
      · simp [b2]
      · by_cases b3 : q.2 > 100000
        · simp [b3]
        · have b4 : ¬ q.2 < -100000 := by omega
          simp [b1, b2, b3, b4, m1]

/-- The program's steps: it ends at the first knot beyond the places. -/
def stp (out : Bool) (s : List St5 × (Int × Int)) (c : UInt8) : (List St5 × (Int × Int)) ⊕ (Int × Int × Nat) :=
  if knotErr (mv out s.2 c) = 0 then .inl (s.1 ++ [st5 out s.2 c], mv out s.2 c) else .inr (s.2.1, s.2.2, s.1.length + 1)

theorem fold_stp (out : Bool) : ∀ (l : List UInt8) (a : List St5) (p : Int × Int),
    ((stepsL out p l).all okS = true → foldI (stp out) (a, p) l = .inl (a ++ stepsL out p l, lastK out p l)) ∧ ((stepsL out p l).all okS = false → ∃ y, foldI (stp out) (a, p) l = .inr y)
  | [], a, p => ⟨fun _ => by simp [foldI, stepsL, lastK], fun h => by simp [stepsL] at h⟩
  | c :: l, a, p => by
    obtain ⟨i1, i2⟩ := fold_stp out l (a ++ [st5 out p c]) (mv out p c)
    have e : okS (st5 out p c) = (knotErr (mv out p c) == 0) := rfl
    simp only [stepsL, List.all_cons, e, foldI]
    by_cases hk : knotErr (mv out p c) = 0
    · simp only [stp, hk, if_true, Sum.elim_inl, beq_self_eq_true, Bool.true_and]
      refine ⟨fun h => ?_, i2⟩
      have := i1 h
      rw [show foldI (stp out) (a ++ [st5 out p c], mv out p c) l = _ from this]
      simp [lastK]
    · simp only [stp, hk, if_false, Sum.elim_inr]
      refine ⟨fun h => ?_, fun _ => ⟨_, rfl⟩⟩
      simp [hk] at h

theorem walk_eq {at0 : Int × Int} {w : List UInt8} {times : Int} {out : Bool} (h : EdgeOk at0 w times) : walkErr at0 w times out = if edgeErr at0 w times = 0 then (if (stepsL out at0 (repT w times.toNat)).all okS = true then 0 else 32) else edgeErr at0 w times := by
  unfold walkErr
  obtain ⟨k1, k2, k3, k4, k5⟩ := h.hk
  have hb : badK at0 = false := by
    unfold badK
    have b1 : ¬ at0.1 < -100000 := by omega
    have b2 : ¬ at0.1 > 100000 := by omega
    have b3 : ¬ at0.2 > 100000 := by omega
    simp [b1, b2, b3]
  have := bad_ok out (repT w times.toNat) at0 k5 k3 (fun c hc => List.all_eq_true.1 h.hw.2.2 c (repT_mem hc))
  rw [this]
  simp only [knotsL, List.any_cons, hb, Bool.false_or]
  cases ((stepsL out at0 (repT w times.toNat)).map toK).any badK <;> simp

section
variable {N : Nat} (hN : Big N) (at0 : Int × Int) (w : List UInt8) (times : Int) (out : Bool)
include hN

theorem T129_edge : T129 N (at0, w, times) = some (edgeErr at0 w times) := by
  rw [T129_eq]
  simp only [T131_knot hN, T21_word hN, T101_rng, Option.bind_some, allFit, fi23, di23, List.map_cons, List.map_nil, Bool.and_self, cond_true, T75_first hN _ (show [_, _, _].length ≤ 9223372036854775806 by simp), T76_when]
  rw [edge_split]
  by_cases h : firstNZ [knotErr at0, wordErr w, rng times 1 256] = 0
  · have hz := firstNZ_zero.1 h
    simp only [List.mem_cons, List.not_mem_nil, or_false, forall_eq_or_imp, forall_eq] at hz
    obtain ⟨z1, z2, z3⟩ := hz
    have r := rng_ok z3
    have hw := wordErr_ok z2
    have hm : (w.length : Int) * times ≤ 64 * 256 := Int.le_trans (Int.mul_le_mul_of_nonneg_right (by omega) (by omega)) (Int.mul_le_mul_of_nonneg_left r.2 (by omega))
    have hm0 : 0 ≤ (w.length : Int) * times := Int.mul_nonneg (by omega) (by omega)
    simp only [h, bne_self_eq_false, cond_false, if_true]
    rw [w64 (x := (w.length : Int) * times) (by omega)]
    by_cases h2 : (w.length : Int) * times > 256 <;> simp [h2]
  · simp [h, bne0 h]

omit hN in
theorem n143_snoc (l : List St5) (s : St5) : List.map n143 l ++ [AV.agg [AV.int .i32 s.1, AV.int .i64 s.2.1, AV.int .i64 s.2.2.1, AV.int .i64 s.2.2.2.1, AV.int .i64 s.2.2.2.2]] = List.map n143 (l ++ [s]) := by simp [n143, Pat.enc, Pats.enc]

theorem T95_steps : T95 N (at0, w, times, out) = some (if walkErr at0 w times out = 0 then (stepsL out at0 (repT w times.toNat), 0) else ([], walkErr at0 w times out)) := by
  rw [T95_eq, T129_edge hN]
  simp only [Option.bind_some]
  by_cases h : edgeErr at0 w times = 0
  · have ok := edgeErr_ok h
    obtain ⟨k1, k2, k3, k4, k5⟩ := ok.hk
    obtain ⟨w1, w2, w3⟩ := ok.hw
    have hlt := ok.hl
    rw [walk_eq ok]
    obtain ⟨n, rfl⟩ : ∃ n : Nat, times = (n : Int) := ⟨times.toNat, by have := ok.ht; omega⟩
    have ht := ok.ht
    rw [Int.toNat_natCast] at hlt ⊢
    simp only [h, bne_self_eq_false, cond_false, if_true]
    have e1 : mkeys .int (AV.int .i32 78) ([] : List (AV × AV)) = true := rfl
    have e2 : mkeys .int (AV.int .i32 66) (mputT .int (AV.int .i32 78) (AV.agg [(AV.int .i64 0), (AV.int .i64 2)]) ([] : List (AV × AV))) = true := rfl
    have e3 : mkeys .int (AV.int .i32 84) (mputT .int (AV.int .i32 66) (AV.agg [(AV.int .i64 1), (AV.int .i64 1)]) (mputT .int (AV.int .i32 78) (AV.agg [(AV.int .i64 0), (AV.int .i64 2)]) ([] : List (AV × AV)))) = true := rfl
    rw [e1, e2, e3]
    simp only [cond_true]
    have e4 : ∀ (sd : Int), (((bif (allFit (Pat.fits pM174) (mcells (mputT .int (AV.int .i32 84) (AV.agg [(AV.int .i64 2), (AV.int .i64 0)]) (mputT .int (AV.int .i32 66) (AV.agg [(AV.int .i64 1), (AV.int .i64 1)]) (mputT .int (AV.int .i32 78) (AV.agg [(AV.int .i64 0), (AV.int .i64 2)]) ([] : List (AV × AV)))))) && true) then some (sd, (List.map dM174 (mcells (mputT .int (AV.int .i32 84) (AV.agg [(AV.int .i64 2), (AV.int .i64 0)]) (mputT .int (AV.int .i32 66) (AV.agg [(AV.int .i64 1), (AV.int .i64 1)]) (mputT .int (AV.int .i32 78) (AV.agg [(AV.int .i64 0), (AV.int .i64 2)]) ([] : List (AV × AV)))))))) else none : Option (Int × (List (Int × (Int × Int))))).bind fun w2 => bif (allX (mputT .int (AV.int .i32 84) (AV.agg [(AV.int .i64 2), (AV.int .i64 0)]) (mputT .int (AV.int .i32 66) (AV.agg [(AV.int .i64 1), (AV.int .i64 1)]) (mputT .int (AV.int .i32 78) (AV.agg [(AV.int .i64 0), (AV.int .i64 2)]) ([] : List (AV × AV))))) && true) then some w2 else none)) = some (sd, stepsM) := fun _ => rfl
    simp only [e4]
    have e5 : ((bif !out then some (-1, stepsM) else some (1, stepsM) : Option (Int × (List (Int × (Int × Int)))))) = some ((if out then 1 else -1 : Int), stepsM) := by cases out <;> rfl
    rw [e5]
    simp only [Option.bind_some]
    have hrl : (repT w n).length ≤ 256 := by rw [repT_length, Nat.mul_comm]; exact hlt
    have e6 : T104 N (w, (n : Int)) = some (repT w n) := by
      show repeatT (w, (n : Int)) = _
      have q1 : decide ((0 : Int) ≤ (n : Int)) = true := by simp
      have q2 : decide ((n : Int) ≤ 9223372036854775807) = true := by simp only [decide_eq_true_eq]; omega
      have q3 : decide (w.length * n ≤ 140737488355328) = true := by simp only [decide_eq_true_eq]; omega
      simp only [repeatT, q1, q2, Int.toNat_natCast, q3, Bool.and_self, cond_true]
    obtain ⟨m1, m2, m3⟩ := stepsM_ok
    simp only [e6, Option.bind_some]
    generalize hL : repT w n = L at hrl
    have hLl : ∀ c ∈ L, isL c = true := fun c hc => List.all_eq_true.1 w3 c (repT_mem (by rw [hL]; exact hc))
    rw [Bool.and_true] at m1 m3
    have e7 : ((bif (allFit (Pat.fits p143) ([] : List AV) && (allFit (Pat.fits pM174) (mcells (entriesL (List.map nM174 stepsM))) && true)) then some ((List.map d143 ([] : List AV)), at0.1, at0.2, (List.map dM174 (mcells (entriesL (List.map nM174 stepsM)))), L, ((0 : Nat) : Int)) else none : Option ((List (Int × Int × Int × Int × Int)) × Int × Int × (List (Int × (Int × Int))) × (List UInt8) × Int)).bind fun w16 => bif (allX (entriesL (List.map nM174 stepsM)) && (decide (0 = (List.map n143 w16.1).length) && true)) then some w16 else none) = some ([], at0.1, at0.2, stepsM, L, ((0 : Nat) : Int)) := rfl
    rw [e7, Option.bind_some]
    have key := loopR_fold (rd := R95x1018 N ((if out then 1 else -1 : Int), stepsM)) L (fun (s : List St5 × (Int × Int)) k => (s.1, s.2.1, s.2.2, stepsM, L, (k : Int))) (stp out)
      (fun s => .inl (s.1, s.2.1, s.2.2, stepsM, L, (L.length : Int))) (fun y => .inr ([], 32, y.1, y.2.1, stepsM, L, (y.2.2 : Int)))
      (fun s k => s.1.length = k ∧ Near at0 s.2 k)
      (fun s k hk hP => by
        obtain ⟨hl, hn⟩ := hP
        have hc : isL L[k] = true := hLl _ (List.getElem_mem hk)
        refine ⟨?_, fun s' hs' => ?_⟩
        · have hn' := hn.mv out L[k]
          obtain ⟨n1, n2, n3, n4⟩ := hn
          obtain ⟨q1, q2, q3, q4⟩ := hn'
          obtain ⟨s1, s2, s3⟩ := stepI_ok L[k]
          obtain ⟨g1, g2⟩ := stepsM_get hc
          obtain ⟨_, _, r3⟩ := rune_kind L k hk
          have r := r3 (.inl hc)
          have a1 : IntKind.wrap .i64 (s.2.1 + IntKind.wrap .i64 ((if out then 1 else -1 : Int) * (stepI L[k]).1)) = (mv out s.2 L[k]).1 := by
            have : (if out then 1 else -1 : Int) * (stepI L[k]).1 = if out then (stepI L[k]).1 else -(stepI L[k]).1 := by cases out <;> simp
            rw [this, w64 (x := if out then (stepI L[k]).1 else -(stepI L[k]).1) (by split <;> omega)]
            exact w64 (by simp only [mv] at q1 q2; omega)
          have a2 : IntKind.wrap .i64 (s.2.2 + (stepI L[k]).2) = (mv out s.2 L[k]).2 := w64 (by simp only [mv] at q3 q4; omega)
          have e8 : decide ((s.1.length + 1) * 40 ≤ 140737488355328) = true := by simp only [decide_eq_true_eq]; omega
          have e9 := n143_snoc s.1 (st5 out s.2 L[k])
          simp only [R95x1018, Int.toNat_natCast, blt_true hk, cond_true, r, g1, g2, a1, a2, T131_knot hN, Option.bind_some, stp]
          by_cases hk0 : knotErr (mv out s.2 L[k]) = 0
          · have e10 : List.map n143 s.1 ++ [AV.agg [AV.int .i32 (((L[k].toNat : Nat) : Int)), AV.int .i64 s.2.1, AV.int .i64 s.2.2, AV.int .i64 (mv out s.2 L[k]).1, AV.int .i64 (mv out s.2 L[k]).2]] = List.map n143 (s.1 ++ [st5 out s.2 L[k]]) := e9
            simp only [hk0, bne_self_eq_false, cond_false, if_true, e10, fa143, md143, m1, m2, m3, List.length_map, decide_true, Bool.true_and, Bool.and_true, e8, cond_true, Option.bind_some, List.length_append, List.length_cons, List.length_nil, Sum.map_inl]
          · simp only [hk0, bne0 hk0, cond_true, if_false, m1, m2, m3, allFit, Bool.true_and, Bool.and_true, Option.bind_some, Sum.map_inr, hl, List.map_nil]
        · unfold stp at hs'
          split at hs'
          · cases hs'
            exact ⟨by simp [hl], hn.mv out _⟩
          · cases hs')
      (fun s _ => by
        simp only [R95x1018, Int.toNat_natCast, blt_false (Nat.lt_irrefl _), cond_false, fa143, md143, m1, m2, m3, List.length_map, decide_true, Bool.and_true, cond_true, Option.bind_some])
      N ([], at0) 0 (Nat.zero_le _) (by unfold Big at hN; omega) ⟨rfl, Near.zero at0⟩
    rw [List.drop_zero] at key
    have key' : loopR (V := (List (Int × Int × Int × Int × Int)) × Int × Int × (List (Int × (Int × Int))) × (List UInt8) × Int) (X := ((List (Int × Int × Int × Int × Int)) × Int × Int × (List (Int × (Int × Int))) × (List UInt8) × Int) ⊕ ((List (Int × Int × Int × Int × Int)) × Int × Int × Int × (List (Int × (Int × Int))) × (List UInt8) × Int)) (R95x1018 N ((if out then 1 else -1 : Int), stepsM)) N ([], at0.1, at0.2, stepsM, L, ((0 : Nat) : Int)) = _ := key
    rw [key']
    obtain ⟨f1, f2⟩ := fold_stp out L [] at0
    cases hall : (stepsL out at0 L).all okS with
    | true =>
      rw [f1 hall]
      simp only [Sum.elim_inl, Option.bind_some, fa143, md143, Bool.and_self, cond_true, if_true, List.nil_append]
    | false =>
      obtain ⟨y, hy⟩ := f2 hall
      rw [hy]
      simp only [Sum.elim_inr, Option.bind_some, Bool.false_eq_true, if_false]
      rfl
  · have hw : walkErr at0 w times out = edgeErr at0 w times := by unfold walkErr; rw [if_neg h]
    rw [hw]
    simp only [bne0 h, cond_true, h, if_false]
    rfl
end
end Go.Proofs.YtbfappllfpngdaaGreatDoor
