/- Plain laws: words printed and parsed. -/
import Derived.Test.YtbfappllfpngdaaGreatDoorTapPb
set_option linter.all false
namespace Go.Proofs.YtbfappllfpngdaaGreatDoor
open Go Go.Am
set_option maxRecDepth 100000

/-! ### Digits -/

theorem T82r_one (N m : Nat) {n : Int} (h0 : 0 ≤ n) (h9 : n < 10) : T82r N (m + 1) n = some [UInt8.ofNat (48 + n.toNat)] := by
  rw [T82r_eq]
  have h : n = 0 ∨ n = 1 ∨ n = 2 ∨ n = 3 ∨ n = 4 ∨ n = 5 ∨ n = 6 ∨ n = 7 ∨ n = 8 ∨ n = 9 := by omega
  rcases h with h | h | h | h | h | h | h | h | h | h <;> subst h <;> rfl

theorem T82_dig {N : Nat} (hN : Big N) {n : Int} (h0 : 0 ≤ n) (h9 : n < 100) : T82 N n = some (dig2 n) := by
  obtain ⟨m, rfl⟩ : ∃ m, N = m + 2 := ⟨N - 2, by unfold Big at hN; omega⟩
  show T82r (m + 2) (m + 2) n = _
  by_cases h : n < 10
  · rw [T82r_one (m + 2) (m + 1) h0 h]
    simp [dig2, h]
  · rw [T82r_eq]
    have h1 : ¬ n < -9 := by omega
    have h2 : ¬ n < 0 := by omega
    rw [div_in (a := n) (g := 10) h0 (by omega) (by omega), Int.tmod_eq_emod_of_nonneg h0]
    have h3 : 0 ≤ n / 10 ∧ n / 10 < 10 := by omega
    have h4 : 0 ≤ n % 10 ∧ n % 10 < 10 := by omega
    simp only [h, h1, h2, decide_false, cond_false, T82r_one (m + 2) m h3.1 h3.2, T82r_one (m + 2) m h4.1 h4.2, Option.bind_some]
    have e1 : (n / 10).toNat = n.toNat / 10 := by omega
    have e2 : (n % 10).toNat = n.toNat % 10 := by omega
    simp [dig2, h, e1, e2]

theorem dig2_len (n : Int) : (dig2 n).length ≤ 2 := by unfold dig2; cases decide (n < 10) <;> simp

/-! ### The string of a word -/

/-- The rest of a word, of which n letters of the first run are read. -/
def refP : List UInt8 → Nat → List UInt8
  | [], _ => []
  | [c], n => dig2 ((n + 1 : Nat) : Int) ++ [c]
  | c :: d :: l, n => if d ≠ c then dig2 ((n + 1 : Nat) : Int) ++ [c] ++ refP (d :: l) 0 else refP (d :: l) (n + 1)

theorem refP_run (c : UInt8) : ∀ (l : List UInt8) (n : Nat), refP (c :: l) n = dig2 ((n + 1 + (l.takeWhile (· == c)).length : Nat) : Int) ++ [c] ++ refP (l.dropWhile (· == c)) 0
  | [], n => by simp [refP]
  | d :: l, n => by
    by_cases h : d = c
    · subst h
      have := refP_run d l (n + 1)
      simp only [refP, ne_eq, not_true_eq_false, if_false, this, List.takeWhile_cons, List.dropWhile_cons, beq_self_eq_true, if_true, List.length_cons]
      rw [show n + 1 + 1 + (List.takeWhile (fun x => x == d) l).length = n + 1 + ((List.takeWhile (fun x => x == d) l).length + 1) by omega]
    · have hb : (d == c) = false := by simpa using h
      simp [refP, h, hb, List.takeWhile_cons, List.dropWhile_cons]

theorem refP_len : ∀ (l : List UInt8) (n : Nat), (refP l n).length ≤ 3 * l.length
  | [], _ => by simp [refP]
  | [c], n => by have := dig2_len ((n + 1 : Nat) : Int); simp [refP]; simp at this; omega
  | c :: d :: l, n => by
    have h1 := dig2_len ((n + 1 : Nat) : Int)
    have h2 := refP_len (d :: l) 0
    have h3 := refP_len (d :: l) (n + 1)
    simp only [refP]
    split
    · simp only [List.length_append, List.length_cons, List.length_nil] at *
      omega
    · simp only [List.length_cons] at *
      omega

theorem refP_ne {l : List UInt8} (h : l ≠ []) (n : Nat) : refP l n ≠ [] := by
  cases l with
  | nil => exact absurd rfl h
  | cons c l => rw [refP_run]; simp

theorem getD_at {l : List UInt8} {k : Nat} (h : k < l.length) : l.getD k 0 = l[k] := by simp [h]

theorem T20_ref {N : Nat} (hN : Big N) (w : List UInt8) (hw : w.length ≤ 64) : T20 N w = some (refP w 0) := by
  rw [T20_eq]
  have gen : ∀ (fuel k n : Nat) (out : List UInt8), k ≤ w.length → w.length < fuel + k → n ≤ k → out.length ≤ 3 * k →
      loopR (R20x122 N w) fuel (out, (n : Int), (k : Int)) = some (out ++ refP (w.drop k) n) := by
    intro fuel
    induction fuel with
    | zero => intro k n out h1 h2; omega
    | succ fuel ih =>
      intro k n out hk hf hn ho
      rw [loopR_succ]
      by_cases hlt : k < w.length
      · have hd := dig2_len ((n + 1 : Nat) : Int)
        have e1 : w.getD k 0 = w[k] := getD_at hlt
        have hs1 : subA k (k + 1) w = [w[k]] := by
          unfold subA
          rw [List.drop_take, show k + 1 - k = 1 by omega, List.drop_eq_getElem_cons hlt]
          rfl
        have e5 : decide ((0 : Int) ≤ ((k + 1 : Nat) : Int) ∧ ((k + 1 : Nat) : Int) ≤ (w.length : Int)) = true := by simp; omega
        have e6 : decide ((0 : Int) ≤ (k : Int) ∧ (k : Int) ≤ ((k + 1 : Nat) : Int)) = true := by simp; omega
        simp only [R20x122, lt_range hlt, in_range hlt, cond_true, w_succ (show k < 9223372036854775807 by omega), w_succ (show n < 9223372036854775807 by omega), Int.toNat_natCast, e1]
        have t82 := T82_dig hN (n := ((n + 1 : Nat) : Int)) (by omega) (by omega)
        by_cases hlast : k + 1 = w.length
        · have b1 : (((k + 1 : Nat) : Int) == (w.length : Int)) = true := by simp; omega
          have e2 : w.drop k = [w[k]] := by rw [List.drop_eq_getElem_cons hlt, List.drop_eq_nil_of_le (by omega)]
          have e7 : decide (out.length + (dig2 ((n + 1 : Nat) : Int)).length ≤ 9223372036854775807) = true := by simp only [decide_eq_true_eq]; omega
          have e8 : decide ((out ++ dig2 ((n + 1 : Nat) : Int)).length + [w[k]].length ≤ 9223372036854775807) = true := by simp only [decide_eq_true_eq, List.length_append, List.length_cons, List.length_nil]; omega
          simp only [b1, cond_true, Option.bind_some, e5, e6, Bool.and_self, t82, e7, hs1, e8, Sum.elim_inl]
          have := ih (k + 1) 0 (out ++ dig2 ((n + 1 : Nat) : Int) ++ [w[k]]) (by omega) (by omega) (by omega) (by simp only [List.length_append, List.length_cons, List.length_nil]; omega)
          rw [show ((0 : Nat) : Int) = 0 from rfl] at this
          rw [this, e2, List.drop_eq_nil_of_le (by omega)]
          simp [refP]
        · have hlt2 : k + 1 < w.length := by omega
          have b1 : (((k + 1 : Nat) : Int) == (w.length : Int)) = false := by simp; omega
          have e2 : w.drop k = w[k] :: w[k + 1] :: w.drop (k + 2) := by rw [List.drop_eq_getElem_cons hlt, List.drop_eq_getElem_cons hlt2]
          have e3 : w.getD (k + 1) 0 = w[k + 1] := getD_at hlt2
          simp only [b1, cond_false, in_range hlt2, cond_true, e3]
          have hb : (((w[k + 1].toNat : Nat) : Int) != ((w[k].toNat : Nat) : Int)) = decide (w[k + 1] ≠ w[k]) := by
            by_cases h : w[k + 1] = w[k]
            · simp [h]
            · have h2 : ((w[k + 1].toNat : Nat) : Int) ≠ ((w[k].toNat : Nat) : Int) := fun e => h (UInt8.toNat_inj.1 (by omega))
              simp [h, h2]
          simp only [Option.bind_some, hb]
          by_cases h : w[k + 1] = w[k]
          · simp only [h, ne_eq, not_true_eq_false, decide_false, cond_false, Option.bind_some, Sum.elim_inl]
            have := ih (k + 1) (n + 1) out (by omega) (by omega) (by omega) (by omega)
            rw [this, e2, List.drop_eq_getElem_cons hlt2]
            simp [refP, h]
          · have e7 : decide (out.length + (dig2 ((n + 1 : Nat) : Int)).length ≤ 9223372036854775807) = true := by simp only [decide_eq_true_eq]; omega
            have e8 : decide ((out ++ dig2 ((n + 1 : Nat) : Int)).length + [w[k]].length ≤ 9223372036854775807) = true := by simp only [decide_eq_true_eq, List.length_append, List.length_cons, List.length_nil]; omega
            simp only [h, ne_eq, not_false_eq_true, decide_true, cond_true, Option.bind_some, e5, e6, Bool.and_self, t82, e7, hs1, e8, Sum.elim_inl]
            have := ih (k + 1) 0 (out ++ dig2 ((n + 1 : Nat) : Int) ++ [w[k]]) (by omega) (by omega) (by omega) (by simp only [List.length_append, List.length_cons, List.length_nil]; omega)
            rw [show ((0 : Nat) : Int) = 0 from rfl] at this
            rw [this, e2, List.drop_eq_getElem_cons hlt2]
            simp [refP, h]
      · have : k = w.length := by omega
        subst this
        simp only [R20x122, ge_range, cond_false, Option.bind_some, Sum.elim_inr]
        rw [List.drop_eq_nil_of_le (Nat.le_refl _)]
        simp [refP]
  have := gen N 0 0 [] (Nat.zero_le _) (by unfold Big at hN; omega) (Nat.le_refl _) (by simp)
  have key : loopR (V := (List UInt8) × Int × Int) (X := ((List UInt8))) (R20x122 N w) N (([] : List UInt8), 0, 0) = some (refP w 0) := this
  rw [key]
  rfl

/-- Bytes as numbers. -/
def toI (l : List UInt8) : List Int := l.map fun b => (b.toNat : Int)
theorem toI_append (a b : List UInt8) : toI (a ++ b) = toI a ++ toI b := by simp [toI]
theorem n5_toI (l : List UInt8) : List.map n5 (toI l) = List.map byteA l := by unfold toI; rw [List.map_map]; rfl
theorem bytesD_byteA (l : List UInt8) : bytesD (List.map byteA l) = l := by
  unfold bytesD
  rw [List.map_map]
  have : ((fun a : AV => UInt8.ofNat a.intD.toNat) ∘ byteA) = id := by
    funext b
    show UInt8.ofNat ((b.toNat : Int)).toNat = b
    rw [Int.toNat_natCast, UInt8.ofNat_toNat]
  rw [this, List.map_id]
theorem byteOk_byteA (l : List UInt8) : byteOk (List.map byteA l) = true := by
  induction l with
  | nil => rfl
  | cons b l ih =>
    have h : b.toNat < 256 := b.toNat_lt
    simp only [List.map_cons, byteOk, ih, Bool.and_true, byteA]
    simp
    omega

theorem tok0 (f : Bool) : ccOk 0 (bif f then AV.ptr 0 0 else AV.nilp) = true := by cases f <;> rfl
theorem tok1 (f : Bool) : (sameA (bif f then AV.ptr 0 0 else AV.nilp) AV.nilp || sameA (bif f then AV.ptr 0 0 else AV.nilp) (AV.ptr 0 0)) = true := by cases f <;> rfl

theorem isL_low {c : UInt8} (h : isL c = true) : c.toNat < 128 := by
  by_cases hc : c.toNat < 128
  · exact hc
  · have : isL c = false := isLI_high (c := (c.toNat : Int)) (by omega)
    rw [this] at h; cases h

theorem T16_loop {N : Nat} : ∀ (fuel : Nat) (w : List UInt8) (fl : Bool) (out : List UInt8), w.length < fuel → w.length ≤ 64 → w.all isL = true → out.length + 3 * w.length ≤ 192 →
    ∃ b, loopR (R16x124 N) fuel (w, fl, toI out) = some (b, toI (out ++ refP w 0)) := by
  intro fuel
  induction fuel with
  | zero => intro w fl out h; omega
  | succ fuel ih =>
    intro w fl out hf hw hl ho
    rw [loopR_succ]
    cases w with
    | nil =>
      have e0 : (([] : List UInt8) == []) = true := rfl
      simp only [R16x124, e0, Bool.not_true, cond_false, fa5, md5, Bool.and_true, tok1, cond_true, Option.bind_some, decide_true, Sum.elim_inr]
      refine ⟨sameA (bif fl then AV.ptr 0 0 else AV.nilp) (AV.ptr 0 0), ?_⟩
      simp [refP]
    | cons c l =>
      have hc : isL c = true := by simp only [List.all_cons, Bool.and_eq_true] at hl; exact hl.1
      have hl' : l.all isL = true := by simp only [List.all_cons, Bool.and_eq_true] at hl; exact hl.2
      have e0 : ((c :: l : List UInt8) == []) = false := rfl
      have e1 : decide ((0 : Int) ≤ 1 ∧ 1 ≤ (((c :: l : List UInt8)).length : Int)) = true := by simp; omega
      have e2 : subA 0 (Int.toNat 1) (c :: l) = [c] := rfl
      have e3 : T72 N (c :: l, [c]) = some (l.dropWhile (· == c)) := by
        show trimLeftT (c :: l, [c]) = _
        simp only [trimLeftT, blt_true (isL_low hc), cond_true, List.dropWhile_cons, beq_self_eq_true, if_true]
      have hlen : l.length = (l.takeWhile (· == c)).length + (l.dropWhile (· == c)).length := by
        rw [← List.length_append, List.takeWhile_append_dropWhile]
      simp only [List.length_cons] at hw hf ho
      have e4 : T73 N (IntKind.wrap .i64 (((((c :: l : List UInt8)).length : Nat) : Int) - (((l.dropWhile (· == c)).length : Nat) : Int))) = some (dig2 ((0 + 1 + (l.takeWhile (· == c)).length : Nat) : Int)) := by
        rw [List.length_cons, w64 (by omega), show (((l.length + 1 : Nat) : Int) - ((l.dropWhile (· == c)).length : Nat)) = ((0 + 1 + (l.takeWhile (· == c)).length : Nat) : Int) by omega]
        show itoaT _ = _
        have h1 : decide ((0 : Int) ≤ ((0 + 1 + (l.takeWhile (· == c)).length : Nat) : Int)) = true := by simp only [decide_eq_true_eq]; omega
        have h2 : decide (((0 + 1 + (l.takeWhile (· == c)).length : Nat) : Int) < 100) = true := by simp only [decide_eq_true_eq]; omega
        unfold itoaT
        rw [h1, h2]
        rfl
      have hd := dig2_len ((0 + 1 + (l.takeWhile (· == c)).length : Nat) : Int)
      generalize hdg : dig2 ((0 + 1 + (l.takeWhile (· == c)).length : Nat) : Int) = dg at e4 hd
      have e5 : decide (dg.length + [c].length ≤ 9223372036854775807) = true := by simp only [decide_eq_true_eq, List.length_cons, List.length_nil]; omega
      have e6 : decide (((List.map n5 (toI out)).length + (List.map byteA (dg ++ [c])).length) * 1 ≤ 140737488355328) = true := by
        simp only [decide_eq_true_eq, List.length_map, toI, List.length_append, List.length_cons, List.length_nil]; omega
      have e7 : List.map n5 (toI out) ++ List.map byteA (dg ++ [c]) = List.map n5 (toI (out ++ (dg ++ [c]))) := by rw [toI_append out, ← n5_toI (dg ++ [c]), ← List.map_append]
      have e8 : ((List.map n5 (toI out)).length + (List.map byteA (dg ++ [c])).length) = (List.map n5 (toI (out ++ (dg ++ [c])))).length := by rw [← e7, List.length_append]
      have e9 : decide ((List.map n5 (toI (out ++ (dg ++ [c])))).length * 1 ≤ 140737488355328) = true := by rw [← e8]; exact e6
      simp only [R16x124, e0, Bool.not_false, cond_true, e1, Bool.and_true, e2, e3, Option.bind_some, e4, e5, tok0, decide_true, Bool.true_and, e6, e7, fa5, md5, e8, e9, Bool.and_self, Sum.elim_inl]
      obtain ⟨b, hb⟩ := ih (l.dropWhile (· == c)) true (out ++ (dg ++ [c])) (by omega) (by omega) (List.all_eq_true.2 fun x hx => List.all_eq_true.1 hl' x ((List.dropWhile_sublist _).subset hx)) (by simp only [List.length_append, List.length_cons, List.length_nil]; omega)
      refine ⟨b, ?_⟩
      rw [hb, refP_run, hdg, List.append_assoc out]

theorem T16_print {N : Nat} (hN : Big N) (w : List UInt8) : T16 N w = some (textOf (wordErr w) (refP w 0)) := by
  rw [T16_eq, T21_word hN]
  simp only [Option.bind_some]
  unfold textOf
  by_cases h : wordErr w = 0
  · obtain ⟨h1, h2, h3⟩ := wordErr_ok h
    simp only [h, bne_self_eq_false, cond_false, if_true]
    have e0 : (((bif (allFit (Pat.fits p5) ([] : List AV) && true) then some (w, false, (List.map d5 ([] : List AV))) else none : Option ((List UInt8) × Bool × (List Int))).bind fun w9 => bif (decide (0 = (List.map n5 w9.2.2).length) && true) then some w9 else none)) = some (w, false, toI []) := rfl
    rw [e0, Option.bind_some]
    obtain ⟨b, hb⟩ := T16_loop (N := N) N w false [] (by unfold Big at hN; omega) h2 h3 (by simp; omega)
    rw [hb, Option.bind_some]
    have h4 : (!List.isEmpty (List.map byteA (refP w 0))) = true := by
      have := refP_ne h1 0
      cases hr : refP w 0 with
      | nil => exact absurd hr this
      | cons a l => rfl
    simp only [n5_toI, List.nil_append, h4, decide_true, Bool.and_self, byteOk_byteA, cond_true, bytesD_byteA]
  · simp [h, bne0 h]

/-! ### Strings parsed -/

def isDI (c : Int) : Bool := decide (c ≥ 48) && decide (c ≤ 57)
def isD (b : UInt8) : Bool := isDI (b.toNat : Int)
theorem T80_d (N : Nat) (c : Int) : T80 N c = some (isDI c) := by
  rw [T80_eq]; unfold isDI; cases decide (c ≥ 48) <;> rfl
theorem isDI_high {c : Int} (h : 128 ≤ c) : isDI c = false := by
  unfold isDI
  have : decide (c ≤ 57) = false := by simp; omega
  rw [this, Bool.and_false]
theorem isD_low {c : UInt8} (h : isD c = true) : c.toNat < 128 := by
  by_cases hc : c.toNat < 128
  · exact hc
  · have : isD c = false := isDI_high (c := (c.toNat : Int)) (by omega)
    rw [this] at h; cases h
theorem isD_val {c : UInt8} (h : isD c = true) : 48 ≤ (c.toNat : Int) ∧ (c.toNat : Int) ≤ 57 := by
  unfold isD isDI at h
  simp only [Bool.and_eq_true, decide_eq_true_eq] at h
  exact ⟨h.1, h.2⟩
theorem isL_notD {c : UInt8} (h : isD c = true) : isL c = false := by
  have := isD_val h
  unfold isL isLI
  have h1 : ((c.toNat : Int) == 78) = false := by simp; omega
  have h2 : ((c.toNat : Int) == 66) = false := by simp; omega
  have h3 : ((c.toNat : Int) == 84) = false := by simp; omega
  rw [h1, h2, h3]; rfl

/-- The rune's kind is the byte's. -/
theorem rune_kind (s : List UInt8) (k : Nat) (hk : k < s.length) : isLI ((decodeA s k).1 : Int) = isL s[k] ∧ isDI ((decodeA s k).1 : Int) = isD s[k] ∧ ((isL s[k] = true ∨ isD s[k] = true) → decodeA s k = (s[k].toNat, 1)) := by
  obtain ⟨h1, h2⟩ := rune_at s k hk
  by_cases h : s[k].toNat < 128
  · rw [h1 h]; exact ⟨rfl, rfl, fun _ => rfl⟩
  · have hr := h2 (by omega)
    rw [isLI_high (c := ((decodeA s k).1 : Int)) (by omega), isDI_high (c := ((decodeA s k).1 : Int)) (by omega)]
    refine ⟨(isLI_high (c := (s[k].toNat : Int)) (by omega)).symm, (isDI_high (c := (s[k].toNat : Int)) (by omega)).symm, fun hc => ?_⟩
    rcases hc with hc | hc
    · exact absurd (isL_low hc) h
    · exact absurd (isD_low hc) h

/-- The first run of a string: its count, its letter, how many bytes. -/
def runT : List UInt8 → Int × Int × Int
  | d :: e :: r => if isD d = true ∧ (d.toNat : Int) ≠ 48 then
      if isD e = true then (match r with
        | c :: _ => if isL c = true then (10 * ((d.toNat : Int) - 48) + ((e.toNat : Int) - 48), (c.toNat : Int), 3) else (0, 0, 0)
        | [] => (0, 0, 0))
      else if isL e = true then ((d.toNat : Int) - 48, (e.toNat : Int), 2) else (0, 0, 0)
    else (0, 0, 0)
  | _ => (0, 0, 0)

/-- One rune. -/
theorem R77_at (N : Nat) (s : List UInt8) (k : Nat) (hk : k < s.length) (hk' : k ≤ 2) (cnt : Int) (hc : 0 ≤ cnt ∧ cnt ≤ 99) : ∃ q : Int, R77x26 N (cnt, s, (k : Int)) =
    some (if isD s[k] = true ∧ k < 2 ∧ (0 < k ∨ (s[k].toNat : Int) ≠ 48) then .inl (10 * cnt + ((s[k].toNat : Int) - 48), s, ((k + 1 : Nat) : Int))
      else if 0 < k ∧ isL s[k] = true then .inr (.inr (cnt, (s[k].toNat : Int), ((k + 1 : Nat) : Int), s, q)) else .inr (.inr (0, 0, 0, s, q))) := by
  obtain ⟨r1, r2, r3⟩ := rune_kind s k hk
  refine ⟨((k + (decodeA s k).2 : Nat) : Int), ?_⟩
  simp only [R77x26, Int.toNat_natCast, blt_true hk, cond_true, T83_l, r1]
  have hd : ∀ (x : Int), ((bif (decide ((((decodeA s k).1 : Nat) : Int) ≥ 48)) then (some ((decide ((((decodeA s k).1 : Nat) : Int) ≤ 57)), s, x)) else (some (false, s, x)) : Option (Bool × (List UInt8) × Int))) = some (isD s[k], s, x) := by
    intro x
    rw [← r2]
    unfold isDI
    cases decide ((((decodeA s k).1 : Nat) : Int) ≥ 48) <;> rfl
  simp only [hd, Option.bind_some]
  cases hD : isD s[k] with
  | true =>
    rw [r3 (.inr hD)]
    have hv := isD_val hD
    have hL := isL_notD hD
    simp only [cond_true, Int.toNat_natCast, hL]
    have w1 : IntKind.wrap .i32 ((s[k].toNat : Int) - 48) = (s[k].toNat : Int) - 48 := IntWalk.i32_in _ (by omega)
    rw [w1, w64 (x := (s[k].toNat : Int) - 48) (by omega), w64 (x := 10 * cnt) (by omega), w64 (by omega)]
    have k2 : decide (((k : Nat) : Int) < 2) = decide (k < 2) := decide_eq_decide.2 (by omega)
    have k3 : decide (((k : Nat) : Int) > 0) = decide (0 < k) := decide_eq_decide.2 (by omega)
    rw [k2, k3]
    by_cases h2 : k < 2
    · by_cases h3 : 0 < k
      · simp [h2, h3]; try omega
      · by_cases h4 : (s[k].toNat : Int) = 48
        · simp [h2, h3, h4]; try omega
        · have h5 : ((s[k].toNat : Int) != 48) = true := by simpa using h4
          simp only [h2, h3, h4, decide_true, decide_false, cond_true, cond_false, Option.bind_some, h5, ne_eq, not_false_eq_true, or_true, and_self, if_true, Int.toNat_natCast]
    · simp [h2]; try omega
  | false =>
    simp only [cond_false, Option.bind_some, Int.toNat_natCast, Bool.false_eq_true, false_and, if_false]
    have k3 : decide (((k : Nat) : Int) > 0) = decide (0 < k) := decide_eq_decide.2 (by omega)
    rw [k3]
    by_cases h3 : 0 < k
    · cases hL : isL s[k] with
      | true =>
        rw [r3 (.inl hL)]
        simp [h3, w_succ (show k < 9223372036854775807 by omega)]; try omega
      | false => (simp [h3]; try omega)
    · simp [h3]; try omega

theorem R77_end (N : Nat) (s : List UInt8) (cnt : Int) : R77x26 N (cnt, s, (s.length : Int)) = some (.inr (.inl (s, (s.length : Int)))) := by
  simp only [R77x26, Int.toNat_natCast, blt_false (Nat.lt_irrefl _), cond_false]

theorem T77_run {N : Nat} (hN : Big N) (s : List UInt8) : T77 N s = some (runT s) := by
  obtain ⟨n, rfl⟩ : ∃ n, N = n + 4 := ⟨N - 4, by unfold Big at hN; omega⟩
  rw [T77_eq]
  generalize hM : n + 4 = M
  have fin : ∀ (o : ((List UInt8) × Int) ⊕ (Int × Int × Int × (List UInt8) × Int)) (r : Int × Int × Int), Sum.elim (fun _ => ((0, 0, 0) : Int × Int × Int)) (fun o => (o.1, o.2.1, o.2.2.1)) o = r → ((some o).bind fun o12 => (Sum.elim (fun o13 => some ((0, 0, 0) : Int × Int × Int)) (fun o14 => some (o14.1, o14.2.1, o14.2.2.1)) o12)) = some r := by
    intro o r h
    rcases o with o | o
    · exact congrArg some h
    · exact congrArg some h
  have st0 : (((0 : Nat) : Int)) = 0 := rfl
  cases s with
  | nil =>
    have := R77_end M [] 0
    rw [show loopR (V := Int × (List UInt8) × Int) (X := ((List UInt8) × Int) ⊕ (Int × Int × Int × (List UInt8) × Int)) (R77x26 M) M (0, [], ((0 : Nat) : Int)) = some (.inl ([], ((0 : Nat) : Int))) by
      rw [← hM, loopR_succ, hM]
      have := R77_end M [] 0
      rw [show (([] : List UInt8).length : Int) = ((0 : Nat) : Int) from rfl] at this
      rw [this]; rfl]
    rfl
  | cons d r =>
    obtain ⟨q0, h0⟩ := R77_at M (d :: r) 0 (by simp) (by omega) 0 (by omega)
    simp only [List.getElem_cons_zero, Nat.lt_irrefl, false_or, false_and, if_false, show (0 < 2) = True by simp, true_and, Nat.zero_add] at h0
    by_cases hd : isD d = true ∧ (d.toNat : Int) ≠ 48
    · rw [if_pos hd] at h0
      have hv := isD_val hd.1
      cases r with
      | nil =>
        have h1 := R77_end M [d] (10 * 0 + ((d.toNat : Int) - 48))
        rw [show (([d] : List UInt8).length : Int) = ((1 : Nat) : Int) from rfl] at h1
        rw [show loopR (V := Int × (List UInt8) × Int) (X := ((List UInt8) × Int) ⊕ (Int × Int × Int × (List UInt8) × Int)) (R77x26 M) M (0, [d], ((0 : Nat) : Int)) = some (.inl ([d], ((1 : Nat) : Int))) by
          rw [← hM, loopR_succ, hM, h0]; simp only [Option.bind_some, Sum.elim_inl]
          rw [loopR_succ, h1]; rfl]
        rfl
      | cons e r =>
        obtain ⟨q1, h1⟩ := R77_at M (d :: e :: r) 1 (by simp) (by omega) (10 * 0 + ((d.toNat : Int) - 48)) (by omega)
        simp only [List.getElem_cons_succ, List.getElem_cons_zero, show (1 < 2) = True by simp, show (0 < 1) = True by simp, true_or, and_true, true_and, Nat.reduceAdd] at h1
        simp only [runT, hd, if_true, ne_eq, not_false_eq_true, and_self]
        by_cases he : isD e = true
        · rw [if_pos he] at h1
          have hv2 := isD_val he
          cases r with
          | nil =>
            have h2 := R77_end M [d, e] (10 * (10 * 0 + ((d.toNat : Int) - 48)) + ((e.toNat : Int) - 48))
            rw [show (([d, e] : List UInt8).length : Int) = ((2 : Nat) : Int) from rfl] at h2
            rw [show loopR (V := Int × (List UInt8) × Int) (X := ((List UInt8) × Int) ⊕ (Int × Int × Int × (List UInt8) × Int)) (R77x26 M) M (0, [d, e], ((0 : Nat) : Int)) = some (.inl ([d, e], ((2 : Nat) : Int))) by
              rw [← hM, loopR_succ, hM, h0]; simp only [Option.bind_some, Sum.elim_inl]
              rw [loopR_succ, h1]; simp only [Option.bind_some, Sum.elim_inl]
              rw [loopR_succ, h2]; rfl]
            simp [he]
          | cons c r =>
            obtain ⟨q2, h2⟩ := R77_at M (d :: e :: c :: r) 2 (by simp) (by omega) (10 * (10 * 0 + ((d.toNat : Int) - 48)) + ((e.toNat : Int) - 48)) (by omega)
            simp only [List.getElem_cons_succ, List.getElem_cons_zero, show (2 < 2) = False by simp, false_and, and_false, if_false, show (0 < 2) = True by simp, true_and, Nat.reduceAdd] at h2
            rw [show loopR (V := Int × (List UInt8) × Int) (X := ((List UInt8) × Int) ⊕ (Int × Int × Int × (List UInt8) × Int)) (R77x26 M) M (0, d :: e :: c :: r, ((0 : Nat) : Int)) = ((R77x26 M (10 * (10 * 0 + ((d.toNat : Int) - 48)) + ((e.toNat : Int) - 48), d :: e :: c :: r, ((2 : Nat) : Int))).bind fun o => Sum.elim (fun v' => loopR (R77x26 M) (n + 1) v') (fun x => some x) o) by
              rw [← hM, loopR_succ, hM, h0]; simp only [Option.bind_some, Sum.elim_inl]
              rw [loopR_succ, h1]; simp only [Option.bind_some, Sum.elim_inl]
              rw [loopR_succ]]
            rw [h2]
            by_cases hc : isL c = true
            · simp [he, hc]
            · simp [he, hc]
        · rw [if_neg he] at h1
          rw [show loopR (V := Int × (List UInt8) × Int) (X := ((List UInt8) × Int) ⊕ (Int × Int × Int × (List UInt8) × Int)) (R77x26 M) M (0, d :: e :: r, ((0 : Nat) : Int)) = ((R77x26 M (10 * 0 + ((d.toNat : Int) - 48), d :: e :: r, ((1 : Nat) : Int))).bind fun o => Sum.elim (fun v' => loopR (R77x26 M) (n + 2) v') (fun x => some x) o) by
            rw [← hM, loopR_succ, hM, h0]; simp only [Option.bind_some, Sum.elim_inl]
            rw [loopR_succ]]
          rw [h1]
          by_cases hc : isL e = true
          · simp [he, hc]
          · simp [he, hc]
    · rw [if_neg hd] at h0
      rw [show loopR (V := Int × (List UInt8) × Int) (X := ((List UInt8) × Int) ⊕ (Int × Int × Int × (List UInt8) × Int)) (R77x26 M) M (0, d :: r, ((0 : Nat) : Int)) = some (.inr (0, 0, 0, d :: r, q0)) by
        rw [← hM, loopR_succ, hM, h0]; rfl]
      cases r with
      | nil => rfl
      | cons e r => simp only [runT, hd, if_false, Option.bind_some, Sum.elim_inr]
theorem isL_three {c : UInt8} (h : isL c = true) : c = 78 ∨ c = 66 ∨ c = 84 := by
  unfold isL isLI at h
  simp only [Bool.or_eq_true, beq_iff_eq] at h
  rcases h with h | h | h
  · exact .inl (UInt8.toNat_inj.1 (by simpa using (show c.toNat = 78 by omega)))
  · exact .inr (.inl (UInt8.toNat_inj.1 (by simpa using (show c.toNat = 66 by omega))))
  · exact .inr (.inr (UInt8.toNat_inj.1 (by simpa using (show c.toNat = 84 by omega))))

end Go.Proofs.YtbfappllfpngdaaGreatDoor
