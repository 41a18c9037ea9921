/- Plain laws: what is printed is parsed; TaperBack. -/
import Derived.Test.YtbfappllfpngdaaGreatDoorTapPd
import Derived.Test.YtbfappllfpngdaaGreatDoorTapTb
set_option linter.all false
namespace Go.Proofs.YtbfappllfpngdaaGreatDoor
open Go Go.Am
set_option maxRecDepth 100000

abbrev Runs := List (Nat × UInt8)
/-- The string of runs, and their word. -/
def encR : Runs → List UInt8
  | [] => []
  | (n, c) :: r => dig2 (n : Int) ++ c :: encR r
def decR : Runs → List UInt8
  | [] => []
  | (n, c) :: r => List.replicate n c ++ decR r
/-- The runs of a word, of whose first n letters are counted already. -/
def runsN : List UInt8 → Nat → Runs
  | [], _ => []
  | [c], n => [(n + 1, c)]
  | c :: d :: l, n => if d ≠ c then (n + 1, c) :: runsN (d :: l) 0 else runsN (d :: l) (n + 1)

theorem encR_append (r q : Runs) : encR (r ++ q) = encR r ++ encR q := by
  induction r with
  | nil => rfl
  | cons x r ih => obtain ⟨n, c⟩ := x; simp [encR, ih]
theorem decR_append (r q : Runs) : decR (r ++ q) = decR r ++ decR q := by
  induction r with
  | nil => rfl
  | cons x r ih => obtain ⟨n, c⟩ := x; simp [decR, ih]

theorem refP_enc : ∀ (l : List UInt8) (n : Nat), refP l n = encR (runsN l n)
  | [], _ => rfl
  | [c], n => rfl
  | c :: d :: l, n => by
    simp only [refP, runsN]
    split
    · rw [refP_enc (d :: l) 0]; simp [encR]
    · rw [refP_enc (d :: l) (n + 1)]

theorem decR_runs : ∀ (c : UInt8) (l : List UInt8) (n : Nat), decR (runsN (c :: l) n) = List.replicate n c ++ c :: l
  | c, [], n => by simp [runsN, decR, List.replicate_succ']
  | c, d :: l, n => by
    simp only [runsN]
    split
    · rw [decR, decR_runs d l 0]; simp [List.replicate_succ']
    · rename_i h
      have h : d = c := by simpa using h
      subst h
      rw [decR_runs d l (n + 1)]
      simp [List.replicate_succ']
theorem decR_word (w : List UInt8) : decR (runsN w 0) = w := by
  cases w with
  | nil => rfl
  | cons c l => rw [decR_runs]; rfl

/-- Runs that can be parsed. -/
def OkR (r : Runs) : Prop := ∀ x ∈ r, 1 ≤ x.1 ∧ x.1 ≤ 64 ∧ isL x.2 = true

theorem runs_ok : ∀ (l : List UInt8) (n : Nat), l.all isL = true → n + l.length ≤ 64 → OkR (runsN l n)
  | [], _, _, _ => fun x hx => by simp [runsN] at hx
  | [c], n, hl, hn => fun x hx => by
    simp only [runsN, List.mem_singleton] at hx
    subst hx
    simp only [List.all_cons, List.all_nil, Bool.and_true, List.length_cons, List.length_nil] at hl hn
    exact ⟨by simp, by simp only; omega, hl⟩
  | c :: d :: l, n, hl, hn => by
    have hl' : (d :: l).all isL = true := by simp only [List.all_cons, Bool.and_eq_true] at hl ⊢; exact hl.2
    have hc : isL c = true := by simp only [List.all_cons, Bool.and_eq_true] at hl; exact hl.1
    simp only [List.length_cons] at hn
    simp only [runsN]
    split
    · intro x hx
      rcases List.mem_cons.1 hx with rfl | hx
      · exact ⟨by simp, by simp only; omega, hc⟩
      · exact runs_ok (d :: l) 0 hl' (by simp only [List.length_cons]; omega) x hx
    · exact runs_ok (d :: l) (n + 1) hl' (by simp only [List.length_cons]; omega)

theorem isD_ofNat {n : Nat} (h : n ≤ 9) : isD (UInt8.ofNat (48 + n)) = true ∧ ((UInt8.ofNat (48 + n)).toNat : Int) = 48 + n := by
  have e : (UInt8.ofNat (48 + n)).toNat = 48 + n := by rw [UInt8.toNat_ofNat']; omega
  refine ⟨?_, by rw [e]; simp⟩
  unfold isD isDI
  rw [e]
  simp
  omega
theorem isL_noD {c : UInt8} (h : isL c = true) : isD c = false := by
  cases hd : isD c with
  | false => rfl
  | true => rw [isL_notD hd] at h; cases h

theorem runT_enc {n : Nat} {c : UInt8} (h1 : 1 ≤ n) (h2 : n ≤ 64) (hc : isL c = true) (r : List UInt8) : runT (dig2 (n : Int) ++ c :: r) = ((n : Int), (c.toNat : Int), (((dig2 (n : Int)).length + 1 : Nat) : Int)) := by
  have hd := isL_noD hc
  by_cases h : n < 10
  · have e : dig2 (n : Int) = [UInt8.ofNat (48 + n)] := by
      have : decide ((n : Int) < 10) = true := by simp only [decide_eq_true_eq]; omega
      unfold dig2
      rw [this]
      simp
    obtain ⟨q1, q2⟩ := isD_ofNat (n := n) (by omega)
    rw [e]
    show runT (UInt8.ofNat (48 + n) :: c :: r) = _
    rw [runT_two, if_pos ⟨q1, by rw [q2]; omega⟩, hd, if_neg (by simp), if_pos hc, q2]
    refine Prod.ext ?_ rfl
    simp only
    omega
  · have e : dig2 (n : Int) = [UInt8.ofNat (48 + n / 10), UInt8.ofNat (48 + n % 10)] := by
      have : decide ((n : Int) < 10) = false := by simp; omega
      unfold dig2
      rw [this]
      simp
    obtain ⟨q1, q2⟩ := isD_ofNat (n := n / 10) (by omega)
    obtain ⟨q3, q4⟩ := isD_ofNat (n := n % 10) (by omega)
    rw [e]
    show runT (UInt8.ofNat (48 + n / 10) :: UInt8.ofNat (48 + n % 10) :: c :: r) = _
    rw [runT_two, if_pos ⟨q1, by rw [q2]; omega⟩, if_pos q3]
    simp only [hc, if_true, q2, q4, List.length_cons, List.length_nil]
    refine Prod.ext ?_ rfl
    simp only
    omega

theorem encR_len : ∀ (r : Runs), (encR r).length ≤ 3 * r.length
  | [] => by simp [encR]
  | (n, c) :: r => by
    have h1 := encR_len r
    have h2 := dig2_len (n : Int)
    simp only [encR, List.length_append, List.length_cons]
    omega
theorem decR_len : ∀ {r : Runs}, OkR r → r.length ≤ (decR r).length
  | [], _ => by simp
  | (n, c) :: r, h => by
    have h1 := decR_len (r := r) fun x hx => h x (by simp [hx])
    have h2 := (h (n, c) (by simp)).1
    simp only [decR, List.length_append, List.length_replicate, List.length_cons]
    omega

section
variable {N : Nat} (hN : Big N)
include hN

theorem parse_enc : ∀ (r : Runs) (fuel k : Nat) (s out : List UInt8), s.drop k = encR r → k ≤ s.length → s.length < fuel + k → s.length ≤ 4096 → OkR r → out.length + (decR r).length ≤ 64 →
    loopR (R17x122 N s) fuel (out, (k : Int)) = some (.inr (out ++ decR r))
  | [], fuel, k, s, out, hs, hk, hf, _, _, _ => by
    have hl : k = s.length := by
      have := congrArg List.length hs
      simp [encR] at this
      omega
    subst hl
    obtain ⟨m, rfl⟩ : ∃ m, fuel = m + 1 := ⟨fuel - 1, by omega⟩
    rw [loopR_succ]
    have e1 : R17x122 N s (out, (s.length : Int)) = some (.inr (.inr out)) := by simp only [R17x122, ge_range, cond_false]
    rw [e1]
    simp [decR]
  | (n, c) :: r, fuel, k, s, out, hs, hk, hf, h4, hr, ho => by
    obtain ⟨q1, q2, q3⟩ := hr (n, c) (by simp)
    simp only at q1 q2 q3
    have hlen : s.length - k = (dig2 (n : Int)).length + 1 + (encR r).length := by
      have := congrArg List.length hs
      simp only [encR, List.length_append, List.length_cons, List.length_drop] at this
      omega
    have hk' : k < s.length := by omega
    obtain ⟨m, rfl⟩ : ∃ m, fuel = m + 1 := ⟨fuel - 1, by omega⟩
    simp only [decR, List.length_append, List.length_replicate] at ho
    rw [loopR_succ, R17_step hN s out k hk' h4 (by omega)]
    unfold stepS
    rw [hs, encR, runT_enc q1 q2 q3]
    simp only
    rw [if_neg (by omega), if_neg (by omega)]
    simp only [Option.bind_some, Sum.elim_inl, Int.toNat_natCast, UInt8.ofNat_toNat]
    have e : (k : Int) + (((dig2 (n : Int)).length + 1 : Nat) : Int) = ((k + ((dig2 (n : Int)).length + 1) : Nat) : Int) := by simp
    rw [e]
    have hd : s.drop (k + ((dig2 (n : Int)).length + 1)) = encR r := by
      rw [← List.drop_drop, hs, encR, show dig2 (n : Int) ++ c :: encR r = (dig2 (n : Int) ++ [c]) ++ encR r by simp]
      rw [List.drop_left' (by simp)]
    rw [parse_enc r m _ s _ hd (by omega) (by omega) h4 (fun x hx => hr x (by simp [hx])) (by simp only [List.length_append, List.length_replicate]; omega)]
    simp [decR]

theorem T17_enc (r : Runs) (hne : r ≠ []) (hr : OkR r) (hl : (decR r).length ≤ 64) : T17 N (encR r) = some (decR r, 0, 0) := by
  have h1 := encR_len r
  have h2 := decR_len hr
  have h0 : encR r ≠ [] := by
    cases r with
    | nil => exact absurd rfl hne
    | cons x r => obtain ⟨n, c⟩ := x; simp [encR]
  have h0' : (encR r == ([] : List UInt8)) = false := by simpa using h0
  have h3 : ¬ ((encR r).length : Int) > 4096 := by omega
  rw [T17_eq]
  simp only [T76_when, Option.bind_some, allFit, fi23, di23, List.map_cons, List.map_nil, Bool.and_self, cond_true, T75_first hN _ (show [_, _].length ≤ 9223372036854775806 by simp), firstNZ, h0', h3, decide_false, Bool.false_eq_true, if_false, if_true, bne_self_eq_false, cond_false]
  have key : loopR (V := (List UInt8) × Int) (X := ((List UInt8) × Int × Int) ⊕ ((List UInt8))) (R17x122 N (encR r)) N (([] : List UInt8), 0) = some (.inr ([] ++ decR r)) :=
    parse_enc hN r N 0 (encR r) [] rfl (Nat.zero_le _) (by unfold Big at hN; omega) (by omega) hr (by simpa using hl)
  rw [key]
  simp
end

/-! ### Counting -/

/-- How many letters differ from the one before. -/
def changes : List UInt8 → Nat
  | c :: d :: l => (if d ≠ c then 1 else 0) + changes (d :: l)
  | _ => 0
theorem changes_le : ∀ l : List UInt8, changes l ≤ l.length
  | [] => by simp [changes]
  | [_] => by simp [changes]
  | c :: d :: l => by
    have := changes_le (d :: l)
    simp only [changes, List.length_cons] at *
    split <;> omega
theorem runs_length : ∀ (c : UInt8) (l : List UInt8) (n : Nat), (runsN (c :: l) n).length = 1 + changes (c :: l)
  | c, [], n => by simp [runsN, changes]
  | c, d :: l, n => by
    simp only [runsN, changes]
    split
    · rw [List.length_cons, runs_length d l 0]; omega
    · rw [runs_length d l (n + 1)]; omega

theorem letters_enc : ∀ {r : Runs}, OkR r → (encR r).countP isL = r.length
  | [], _ => rfl
  | (n, c) :: r, h => by
    obtain ⟨q1, q2, q3⟩ := h (n, c) (by simp)
    have ih := letters_enc (r := r) fun x hx => h x (by simp [hx])
    have hd : (dig2 (n : Int)).countP isL = 0 := by
      rw [List.countP_eq_zero]
      intro x hx
      unfold dig2 at hx
      cases hb : decide ((n : Int) < 10) with
      | true =>
        rw [hb] at hx
        simp only [cond_true, List.mem_singleton, Int.toNat_natCast] at hx
        subst hx
        have : n ≤ 9 := by simp only [decide_eq_true_eq] at hb; omega
        rw [isL_notD (isD_ofNat this).1]
        simp
      | false =>
        rw [hb] at hx
        simp only [cond_false, List.mem_cons, List.not_mem_nil, or_false, Int.toNat_natCast] at hx
        rcases hx with rfl | rfl
        · rw [isL_notD (isD_ofNat (n := n / 10) (by omega)).1]; simp
        · rw [isL_notD (isD_ofNat (n := n % 10) (by omega)).1]; simp
    rw [encR, List.countP_append, List.countP_cons, hd, ih, q3]
    simp

/-- Digits of sums. -/
theorem dig2_length (n : Nat) : (dig2 (n : Int)).length = if n < 10 then 1 else 2 := by
  unfold dig2
  by_cases h : n < 10
  · have : decide ((n : Int) < 10) = true := by simp only [decide_eq_true_eq]; omega
    rw [this, if_pos h]; rfl
  · have : decide ((n : Int) < 10) = false := by simp; omega
    rw [this, if_neg h]; rfl

/-- A string of a word is not longer than those of its parts. -/
theorem len_cut : ∀ (u v : List UInt8) (n : Nat), (refP (u ++ v) n).length ≤ (refP u n).length + (refP v (if u = [] then n else 0)).length
  | [], v, n => by simp [refP]
  | [c], [], n => by simp
  | [c], d :: v, n => by
    have e : refP ([c] ++ d :: v) n = if d ≠ c then dig2 ((n + 1 : Nat) : Int) ++ [c] ++ refP (d :: v) 0 else refP (d :: v) (n + 1) := rfl
    have e1 : refP [c] n = dig2 ((n + 1 : Nat) : Int) ++ [c] := rfl
    rw [e, e1, show (if [c] = ([] : List UInt8) then n else 0) = 0 from if_neg (by simp)]
    split
    · simp only [List.length_append]; omega
    · rw [refP_run d v (n + 1), refP_run d v 0]
      simp only [List.length_append, List.length_cons, List.length_nil, dig2_length]
      split <;> split <;> split <;> omega
  | c :: d :: u, v, n => by
    have e : refP (c :: d :: u ++ v) n = if d ≠ c then dig2 ((n + 1 : Nat) : Int) ++ [c] ++ refP (d :: (u ++ v)) 0 else refP (d :: (u ++ v)) (n + 1) := rfl
    have e1 : refP (c :: d :: u) n = if d ≠ c then dig2 ((n + 1 : Nat) : Int) ++ [c] ++ refP (d :: u) 0 else refP (d :: u) (n + 1) := rfl
    rw [e, e1, show (if c :: d :: u = ([] : List UInt8) then n else 0) = 0 from if_neg (by simp)]
    have i0 := len_cut (d :: u) v 0
    have i1 := len_cut (d :: u) v (n + 1)
    rw [if_neg (by simp)] at i0 i1
    simp only [List.cons_append] at i0 i1
    split
    · simp only [List.length_append]; omega
    · exact i1

section
variable {N : Nat} (hN : Big N)
include hN

theorem R7_runs (w : List UInt8) (hw : w.length ≤ 64) : ∀ (fuel k : Nat) (cnt : Nat), k < w.length → w.length < fuel + k → cnt ≤ k + 1 →
    loopR (R7x1018 N w) fuel ((cnt : Int), ((k + 1 : Nat) : Int)) = some ((cnt + changes (w.drop k) : Nat) : Int) := by
  intro fuel
  induction fuel with
  | zero => intro k cnt h1 h2; omega
  | succ fuel ih =>
    intro k cnt hk hf hc
    rw [loopR_succ]
    by_cases hlt : k + 1 < w.length
    · have e2 : w.drop k = w[k] :: w[k + 1] :: w.drop (k + 2) := by rw [List.drop_eq_getElem_cons hk, List.drop_eq_getElem_cons hlt]
      have e3 : w.getD (k + 1) 0 = w[k + 1] := getD_at hlt
      have e4 : w.getD k 0 = w[k] := getD_at hk
      have e5 : IntKind.wrap .i64 (((k + 1 : Nat) : Int) - 1) = (k : Int) := by rw [w64 (by omega)]; omega
      have hb : (((w[k + 1].toNat : Nat) : Int) != ((w[k].toNat : Nat) : Int)) = decide (w[k + 1] ≠ w[k]) := by
        by_cases h : w[k + 1] = w[k]
        · simp [h]
        · have h2 : ((w[k + 1].toNat : Nat) : Int) ≠ ((w[k].toNat : Nat) : Int) := fun e => h (UInt8.toNat_inj.1 (by omega))
          simp [h, h2]
      simp only [R7x1018, lt_range hlt, in_range hlt, in_range hk, cond_true, e5, Int.toNat_natCast, e3, e4, hb, w_succ (show k + 1 < 9223372036854775807 by omega), w_succ (show cnt < 9223372036854775807 by omega)]
      rw [e2]
      by_cases h : w[k + 1] = w[k]
      · simp only [h, ne_eq, not_true_eq_false, decide_false, cond_false, Option.bind_some, Sum.elim_inl]
        rw [ih (k + 1) cnt hlt (by omega) (by omega), List.drop_eq_getElem_cons hlt]
        simp [changes, h]
      · simp only [h, ne_eq, not_false_eq_true, decide_true, cond_true, Option.bind_some, Sum.elim_inl]
        rw [ih (k + 1) (cnt + 1) hlt (by omega) (by omega), show w.drop (k + 1) = w[k + 1] :: w.drop (k + 2) from List.drop_eq_getElem_cons hlt]
        have hh : w[k + 1] ≠ w[k] := h
        simp only [changes, hh, ne_eq, not_false_eq_true, if_true]
        congr 2
        omega
    · have hx : ¬ ((k + 1 : Nat) : Int) < (w.length : Int) := by omega
      have e2 : w.drop k = [w[k]] := by rw [List.drop_eq_getElem_cons hk, List.drop_eq_nil_of_le (by omega)]
      simp only [R7x1018, hx, decide_false, cond_false, Option.bind_some, Sum.elim_inr, e2, changes, Nat.add_zero]

theorem R7_letters (s : List UInt8) (q : Int) (hs : s.length ≤ 1000) : loopR (V := Int × Int) (X := Int) (R7x2042 N (s, q)) N (0, 0) = some ((s.countP isL : Nat) : Int) := by
  have key := loopR_foldl (rd := R7x2042 N (s, q)) s (fun (c : Nat) k => ((c : Int), (k : Int))) (fun c b => if isL b then c + 1 else c) (fun c => (c : Int)) (fun c k => c ≤ k)
    (fun c k hk hP => by
      refine ⟨?_, by split <;> omega⟩
      simp only [R7x2042, lt_range hk, in_range hk, cond_true, Int.toNat_natCast, getD_at hk, w_succ (show k < 9223372036854775807 by omega)]
      have e : (bif ((s[k].toNat : Nat) : Int) == 78 then some true else bif ((s[k].toNat : Nat) : Int) == 66 then some true else some (((s[k].toNat : Nat) : Int) == 84) : Option Bool) = some (isL s[k]) := by
        unfold isL isLI
        cases ((s[k].toNat : Nat) : Int) == 78 <;> cases ((s[k].toNat : Nat) : Int) == 66 <;> rfl
      rw [e]
      cases isL s[k]
      · simp only [Option.bind_some, cond_false, Bool.false_eq_true, if_false]
      · simp only [Option.bind_some, cond_true, if_true]; rw [w_succ (by omega)])
    (fun c _ => by simp only [R7x2042, ge_range, cond_false]) N 0 0 (Nat.zero_le _) (by unfold Big at hN; omega) (Nat.le_refl _)
  rw [List.drop_zero] at key
  have f : ∀ (l : List UInt8) (c : Nat), l.foldl (fun c b => if isL b then c + 1 else c) c = c + l.countP isL := by
    intro l
    induction l with
    | nil => intro c; simp
    | cons b l ih =>
      intro c
      rw [List.foldl_cons, ih, List.countP_cons]
      by_cases h : isL b = true
      · rw [if_pos h, if_pos h]; omega
      · rw [if_neg h, if_neg h]; omega
  rw [f] at key
  have e0 : ((0 : Nat) : Int) = 0 := rfl
  simp only [e0, Nat.zero_add] at key
  exact key

theorem TaperBack_true (w : List UInt8) (cut : Int) (hc : 0 ≤ cut ∧ cut ≤ 255) : T7 N (w, cut) = some true := by
  rw [T7_eq, T18_word hN]
  simp only [T15, Option.bind_some, Bool.not_true, cond_false]
  by_cases h : wordErr w = 0
  · obtain ⟨h1, h2, h3⟩ := wordErr_ok h
    have hr := runs_ok w 0 h3 (by omega)
    have hne : runsN w 0 ≠ [] := by
      cases w with
      | nil => exact absurd rfl h1
      | cons c l => intro e; have := runs_length c l 0; rw [e] at this; simp at this; omega
    have hd := decR_word w
    have p1 : T16 N w = some (encR (runsN w 0), 0) := by rw [T16_print hN, h, refP_enc]; rfl
    have p2 : T17 N (encR (runsN w 0)) = some (w, 0, 0) := by rw [T17_enc hN _ hne hr (by rw [hd]; exact h2), hd]
    have hel : (encR (runsN w 0)).length ≤ 192 := by rw [← refP_enc]; have := refP_len w 0; omega
    have hpos : 0 < w.length := by cases w; exact absurd rfl h1; simp
    have k1 : loopR (V := Int × Int) (X := Int) (R7x1018 N w) N (1, 1) = some ((1 + changes w : Nat) : Int) := by
      have := R7_runs hN w h2 N 0 1 hpos (by unfold Big at hN; omega) (by omega)
      rw [List.drop_zero] at this
      exact this
    have hrl : (runsN w 0).length = 1 + changes w := by
      cases w with
      | nil => exact absurd rfl h1
      | cons c l => exact runs_length c l 0
    have k2 := R7_letters hN (encR (runsN w 0)) 0 (by omega)
    rw [letters_enc hr, hrl] at k2
    simp only [h, bne_self_eq_false, cond_false, p1, p2, Option.bind_some, beq_self_eq_true, Bool.not_true, k1, k2]
    have hz : ¬ ((w.length : Nat) : Int) = 0 := by omega
    have hw : IntKind.wrap .i64 cut = cut := w64 (by omega)
    simp only [hz, decide_false, Bool.not_false, cond_true, hw]
    have hm : Int.tmod cut (w.length : Int) = ((cut.toNat % w.length : Nat) : Int) := by
      rw [Int.tmod_eq_emod_of_nonneg hc.1, Int.natCast_emod, Int.toNat_of_nonneg hc.1]
    rw [hm]
    have hlt : cut.toNat % w.length < w.length := Nat.mod_lt _ hpos
    generalize cut.toNat % w.length = k at hlt
    by_cases hk : k = 0
    · subst hk; rfl
    · have hk' : ((k : Int) == 0) = false := by simpa using hk
      have i1 : decide ((0 : Int) ≤ (k : Int) ∧ (k : Int) ≤ (w.length : Int)) = true := by simp; omega
      have s1 : subA 0 k w = w.take k := by unfold subA; rw [List.drop_zero]
      have s2 : subA k w.length w = w.drop k := by unfold subA; rw [List.take_length]
      have a1 : (w.take k).all isL = true := List.all_eq_true.2 fun x hx => List.all_eq_true.1 h3 x (List.mem_of_mem_take hx)
      have a2 : (w.drop k).all isL = true := List.all_eq_true.2 fun x hx => List.all_eq_true.1 h3 x (List.mem_of_mem_drop hx)
      have l1 : (w.take k).length = k := by rw [List.length_take]; omega
      have l2 : (w.drop k).length = w.length - k := List.length_drop ..
      have z1 : w.take k ≠ [] := by intro e; rw [e] at l1; simp at l1; omega
      have z2 : w.drop k ≠ [] := by intro e; rw [e] at l2; simp at l2; omega
      have we1 : wordErr (w.take k) = 0 := by unfold wordErr; rw [if_neg z1, if_neg (by omega), if_pos a1]
      have we2 : wordErr (w.drop k) = 0 := by unfold wordErr; rw [if_neg z2, if_neg (by omega), if_pos a2]
      have q1 : T16 N (w.take k) = some (encR (runsN (w.take k) 0), 0) := by rw [T16_print hN, we1, refP_enc]; rfl
      have q2 : T16 N (w.drop k) = some (encR (runsN (w.drop k) 0), 0) := by rw [T16_print hN, we2, refP_enc]; rfl
      have r1 := runs_ok (w.take k) 0 a1 (by omega)
      have r2 := runs_ok (w.drop k) 0 a2 (by omega)
      have dd : decR (runsN (w.take k) 0 ++ runsN (w.drop k) 0) = w := by rw [decR_append, decR_word, decR_word, List.take_append_drop]
      have q3 : T17 N (encR (runsN (w.take k) 0) ++ encR (runsN (w.drop k) 0)) = some (w, 0, 0) := by
        rw [← encR_append, T17_enc hN _ ?_ (fun x hx => (List.mem_append.1 hx).elim (r1 x) (r2 x)) (by rw [dd]; exact h2), dd]
        intro e
        have : (decR (runsN (w.take k) 0 ++ runsN (w.drop k) 0)).length = 0 := by rw [e]; rfl
        rw [dd] at this
        omega
      have hcut := len_cut (w.take k) (w.drop k) 0
      rw [List.take_append_drop, refP_enc, refP_enc, show (if w.take k = [] then 0 else 0) = 0 by simp, refP_enc] at hcut
      have b1 : (encR (runsN (w.take k) 0)).length ≤ 192 := by rw [← refP_enc]; have := refP_len (w.take k) 0; omega
      have b2 : (encR (runsN (w.drop k) 0)).length ≤ 192 := by rw [← refP_enc]; have := refP_len (w.drop k) 0; omega
      have i3 : decide ((encR (runsN (w.take k) 0)).length + (encR (runsN (w.drop k) 0)).length ≤ 9223372036854775807) = true := by simp only [decide_eq_true_eq]; omega
      simp only [hk', cond_false, i1, Bool.and_self, cond_true, Int.toNat_natCast, s1, s2, q1, q2, q3, Option.bind_some, i3, beq_self_eq_true]
      rw [w64 (by omega)]
      have : decide (((encR (runsN w 0)).length : Int) ≤ ((encR (runsN (w.take k) 0)).length : Int) + ((encR (runsN (w.drop k) 0)).length : Int)) = true := by simp only [decide_eq_true_eq]; omega
      rw [this]
  · simp [h, bne0 h]
end
end Go.Proofs.YtbfappllfpngdaaGreatDoor
