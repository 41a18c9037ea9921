/- Plain laws: TaperFarey. -/
import Derived.Test.YtbfappllfpngdaaGreatDoorTapPt
set_option linter.all false
namespace Go.Proofs.YtbfappllfpngdaaGreatDoor
open Go Go.Am
set_option maxRecDepth 100000

/-- The other letter. -/
def oth (r : P2) : UInt8 := if r.1 > r.2 then 84 else 78

theorem word_mem (r p : P2) : ∀ c ∈ wordS r p, c = 66 ∨ c = oth r := by
  intro c hc
  unfold wordS mixS at hc
  obtain ⟨l, hl, hcl⟩ := List.mem_flatten.1 hc
  unfold partsL at hl
  obtain ⟨i, _, rfl⟩ := List.mem_map.1 hl
  split at hcl
  · left; simpa using hcl
  · right
    unfold oth
    split at hcl
    · rename_i h; rw [if_pos h]; simpa using hcl
    · rename_i h; rw [if_neg h]; simpa using hcl

theorem wordErr_word (r : P2) {p : P2} (hp : PartOk p) : wordErr (wordS r p) = 0 := by
  obtain ⟨_, hl⟩ := word_vec r hp
  obtain ⟨p1, p2, p3, p4⟩ := hp
  have hne : wordS r p ≠ [] := by intro e; rw [e] at hl; simp at hl; omega
  unfold wordErr
  rw [if_neg hne, if_neg (by omega), if_pos]
  refine List.all_eq_true.2 fun c hc => ?_
  rcases word_mem r p c hc with rfl | rfl
  · rfl
  · unfold oth; split <;> rfl

theorem vec_cons (c : UInt8) (l : List UInt8) : vec (c :: l) = addP (stepI c) (vec l) := by
  have := vec_append [c] l
  rw [vec_single] at this
  exact this
theorem count_bars (r : P2) : ∀ w : List UInt8, (∀ c ∈ w, c = 66 ∨ c = oth r) → ((w.countP (· == 66) : Nat) : Int) = if r.1 > r.2 then (vec w).2 else (vec w).1
  | [], _ => by simp [vec]
  | c :: l, h => by
    have ih := count_bars r l fun x hx => h x (by simp [hx])
    rw [vec_cons, List.countP_cons]
    have e66 : stepI 66 = (1, 1) := rfl
    have e84 : stepI 84 = (2, 0) := rfl
    have e78 : stepI 78 = (0, 2) := rfl
    unfold addP
    by_cases hs : r.1 > r.2
    · rw [if_pos hs] at ih ⊢
      have ho : oth r = 84 := by unfold oth; rw [if_pos hs]
      rcases h c (by simp) with rfl | hc
      · simp only [e66, beq_self_eq_true, if_true]; omega
      · rw [hc, ho, e84]
        have : ((84 : UInt8) == 66) = false := rfl
        simp only [this, Bool.false_eq_true, if_false]; omega
    · rw [if_neg hs] at ih ⊢
      have ho : oth r = 78 := by unfold oth; rw [if_neg hs]
      rcases h c (by simp) with rfl | hc
      · simp only [e66, beq_self_eq_true, if_true]; omega
      · rw [hc, ho, e78]
        have : ((78 : UInt8) == 66) = false := rfl
        simp only [this, Bool.false_eq_true, if_false]; omega
theorem word_bars (r : P2) {p : P2} (hp : PartOk p) : (((wordS r p).countP (· == 66) : Nat) : Int) = p.1 := by
  rw [count_bars r _ (word_mem r p), (word_vec r hp).1]
  unfold rateI
  split <;> rfl

section
variable {N : Nat} (hN : Big N)
include hN

theorem R13_count (r : P2) (w : List UInt8) (q : Int) (hw : w.length ≤ 1000) (hm : ∀ c ∈ w, c = 66 ∨ c = oth r) :
    loopR (V := Int × Int) (X := Bool ⊕ Int) (R13x16378 N (w, q) (((oth r).toNat : Nat) : Int)) N (0, 0) = some (.inr ((w.countP (· == 66) : Nat) : Int)) := by
  have key := loopR_foldl (rd := R13x16378 N (w, q) (((oth r).toNat : Nat) : Int)) w (fun (c : Nat) k => ((c : Int), (k : Int))) (fun c b => if (b == 66) = true then c + 1 else c) (fun c => (.inr (c : Int) : Bool ⊕ Int)) (fun c k => c ≤ k)
    (fun c k hk hP => by
      refine ⟨?_, by split <;> omega⟩
      simp only [R13x16378, lt_range hk, in_range hk, cond_true, Int.toNat_natCast, getD_at hk, w_succ (show k < 9223372036854775807 by omega)]
      have h66 : (((w[k].toNat : Nat) : Int) == 66) = (w[k] == 66) := toNat_eq w[k] 66
      have hoo : (((w[k].toNat : Nat) : Int) != (((oth r).toNat : Nat) : Int)) = !(decide (w[k] = oth r)) := by
        rw [← toNat_eq]; rfl
      rw [h66, hoo]
      rcases hm _ (List.getElem_mem hk) with e | e
      · rw [e]
        simp only [beq_self_eq_true, cond_true, Option.bind_some, Sum.elim_inl, if_true]
        rw [w_succ (by omega)]
      · by_cases h6 : (w[k] == 66) = true
        · simp only [h6, cond_true, Option.bind_some, Sum.elim_inl, if_true]
          rw [w_succ (by omega)]
        · have h6' : (w[k] == 66) = false := by simpa using h6
          have hd : decide (w[k] = oth r) = true := decide_eq_true e
          simp only [h6', cond_false, hd, Bool.not_true, Option.bind_some, Sum.elim_inl, Bool.false_eq_true, if_false])
    (fun c _ => by simp only [R13x16378, ge_range, cond_false]) N 0 0 (Nat.zero_le _) (by unfold Big at hN; omega) (Nat.le_refl _)
  rw [List.drop_zero] at key
  have f : ∀ (l : List UInt8) (c : Nat), l.foldl (fun c b => if (b == 66) = true then c + 1 else c) c = c + l.countP (· == 66) := by
    intro l
    induction l with
    | nil => intro c; simp
    | cons b l ih =>
      intro c
      rw [List.foldl_cons, ih, List.countP_cons]
      by_cases h : (b == 66) = true
      · rw [if_pos h, if_pos h]; omega
      · rw [if_neg h, if_neg h]; omega
  rw [f, Nat.zero_add] at key
  exact key

/-- A part's rate as the law reckons it. -/
theorem rateE (r : P2) {b z : Nat} (hz : z ≤ 1000) (hb : b ≤ z) : (bif ((((oth r).toNat : Nat) : Int) == 84) then (some (IntKind.wrap .i64 ((b : Int) + IntKind.wrap .i64 (2 * IntKind.wrap .i64 ((z : Int) - (b : Int)))), (b : Int))) else (some ((b : Int), IntKind.wrap .i64 ((b : Int) + IntKind.wrap .i64 (2 * IntKind.wrap .i64 ((z : Int) - (b : Int)))))) : Option (Int × Int)) = some (rateI r ((b : Int), (z : Int))) := by
  have h84 : ((((oth r).toNat : Nat) : Int) == 84) = decide (r.1 > r.2) := by
    unfold oth
    by_cases h : r.1 > r.2
    · rw [if_pos h, decide_eq_true h]; rfl
    · rw [if_neg h, decide_eq_false h]; rfl
  rw [h84, w64 (x := (z : Int) - (b : Int)) (by omega), w64 (x := 2 * ((z : Int) - (b : Int))) (by omega), w64 (by omega)]
  unfold rateI
  by_cases h : r.1 > r.2
  · simp only [h, decide_true, cond_true, if_true]
    congr 2
    omega
  · simp only [h, decide_false, cond_false, if_false]
    congr 2
    omega

/-- The distance as the law reckons it. -/
theorem T64_near {r p q : P2} (hr : ROk r) (hp : PartOk p) (hq : PartOk q) : T64 N (r, rateI r q, rateI r p) = some (decide (absI (distI r q) * (rateI r p).2 < absI (distI r p) * (rateI r q).2)) := by
  have f1 := far_ok hr hp hq
  have f2 := far_ok hr hq hp
  rw [T64_eq, distE hr hp, distE hr hq, negE hr hp, negE hr hq]
  have a1 : (if -distI r q > distI r q then -distI r q else distI r q) = absI (distI r q) := rfl
  have a2 : (if -distI r p > distI r p then -distI r p else distI r p) = absI (distI r p) := rfl
  rw [a1, a2, w64 (x := absI (distI r q) * (rateI r p).2) (by omega), w64 (x := absI (distI r p) * (rateI r q).2) (by omega)]

structure Given (a0 a1 : Int) (A D : Nat) : Prop where
  a : Int.tmod (IntKind.wrap .i64 a0) 41 = (A : Int)
  d : IntKind.wrap .i64 (1 + Int.tmod (IntKind.wrap .i64 a1) 40) = (D : Int) + 1
  ha : A < 41
  hd : D < 40

variable {a0 a1 : Int} {A D : Nat} (G : Given a0 a1 A D) (hc : chkR ((A : Int), (D : Int) + 1) = 0)
include G hc

theorem R13_near (a2 : Int) (n : Nat) (hn : IntKind.wrap .i64 (1 + Int.tmod (IntKind.wrap .i64 a2) 12) = (n : Int)) (h1 : 1 ≤ n) (h2 : n ≤ 64) (q : Int) :
    loopR (V := Int) (X := Bool ⊕ Unit) (R13x65530 N a0 a1 a2 (wordS ((A : Int), (D : Int) + 1) (nearP ((A : Int), (D : Int) + 1) n).1, q) (((oth ((A : Int), (D : Int) + 1)).toNat : Nat) : Int)) N 1 = some (.inr ()) := by
  have hr := chkR_r hc
  obtain ⟨ga, gd, hA, hD⟩ := G
  obtain ⟨b1, b2, b3, b4, b5⟩ := near_best (r := ((A : Int), (D : Int) + 1)) h1 h2
  generalize hrr : (((A : Int), (D : Int) + 1) : P2) = r at *
  have hr1 : (A : Int) = r.1 := by rw [← hrr]
  have hr2 : (D : Int) + 1 = r.2 := by rw [← hrr]
  rw [hr1] at ga
  rw [hr2] at gd
  have hv := (word_vec r b2).1
  have hvl := (word_vec r b2).2
  generalize (nearP r n).1 = p at *
  have t63 : T63 N (wordS r p) = some (rateI r p) := by rw [T63_vec hN _ (by have := b2.2.2.2; omega), hv]
  have inner : ∀ z : Nat, 1 ≤ z → z ≤ n → loopR (V := Int) (X := Bool ⊕ Unit) (R13x4193938 N a0 a1 (wordS r p, q) (((oth r).toNat : Nat) : Int) (z : Int)) N 0 = some (.inr ()) := by
    intro z z1 z2
    have key := loopR_count (rd := R13x4193938 N a0 a1 (wordS r p, q) (((oth r).toNat : Nat) : Int) (z : Int)) (z + 1) (fun k => (k : Int)) (.inr ()) (fun b hb => by
      have hle : decide ((b : Int) ≤ (z : Int)) = true := by simp only [decide_eq_true_eq]; omega
      have hq : PartOk ((b : Int), (z : Int)) := ⟨by simp, by simp only; omega, by simp only; omega, by simp only; omega⟩
      have re := rateE (N := N) hN r (b := b) (z := z) (by omega) (by omega)
      have t64 : T64 N ((r.1, r.2), ((rateI r ((b : Int), (z : Int))).1, (rateI r ((b : Int), (z : Int))).2), ((rateI r p).1, (rateI r p).2)) = _ := T64_near hN hr b2 hq
      simp only [R13x4193938, hle, cond_true, re, Option.bind_some, t63, ga, gd, beq_self_eq_true, Bool.and_self, t64, w_succ (show b < 9223372036854775807 by omega)]
      have ro := rate_ok r hq
      by_cases hy : (rateI r ((b : Int), (z : Int))).2 > 0
      · have hl := b5 _ hq (by simp only; omega) (by omega)
        unfold leN at hl
        have hneg : ¬ absI (distI r ((b : Int), (z : Int))) * (rateI r p).2 < absI (distI r p) * (rateI r ((b : Int), (z : Int))).2 := by omega
        simp only [hy, decide_true, cond_true, hneg, decide_false, Option.bind_some, cond_false]
      · simp only [hy, decide_false, cond_false, Option.bind_some]) (by
      have hle : ¬ ((z + 1 : Nat) : Int) ≤ (z : Int) := by omega
      simp only [R13x4193938, hle, decide_false, cond_false]) N 0 (Nat.zero_le _) (by unfold Big at hN; omega)
    exact key
  have key := loopR_count (rd := R13x65530 N a0 a1 a2 (wordS r p, q) (((oth r).toNat : Nat) : Int)) n (fun k => ((k + 1 : Nat) : Int)) (.inr ()) (fun k hk => by
    have hle : decide (((k + 1 : Nat) : Int) ≤ (n : Int)) = true := by simp only [decide_eq_true_eq]; omega
    have i := inner (k + 1) (by omega) (by omega)
    simp only [R13x65530, hn, hle, cond_true, i, Option.bind_some, Sum.elim_inr, w_succ (show k + 1 < 9223372036854775807 by omega)]) (by
    have hle : ¬ ((n + 1 : Nat) : Int) ≤ (n : Int) := by omega
    simp only [R13x65530, hn, hle, decide_false, cond_false]) N 0 (Nat.zero_le _) (by unfold Big at hN; omega)
  exact key

theorem R13_small (q : Int) (hs : (shr ((A : Int), (D : Int) + 1)).2 ≤ 64) :
    loopR (V := Int) (X := Bool ⊕ Unit) (R13x2097146 N a0 a1 (((oth ((A : Int), (D : Int) + 1)).toNat : Nat) : Int) (wordS ((A : Int), (D : Int) + 1) (shr ((A : Int), (D : Int) + 1)), q)) N 1 = some (.inr ()) := by
  have hr := chkR_r hc
  obtain ⟨ga, gd, hA, hD⟩ := G
  have sh := shr_sh hc
  have hds := fun (p : P2) (hp : PartOk p) => dist_small (p := p) hc hp
  generalize hrr : (((A : Int), (D : Int) + 1) : P2) = r at *
  have hr1 : (A : Int) = r.1 := by rw [← hrr]
  have hr2 : (D : Int) + 1 = r.2 := by rw [← hrr]
  rw [hr1] at ga
  rw [hr2] at gd
  have hp : PartOk (shr r) := ⟨sh.1, sh.2.1, sh.2.2.1, hs⟩
  have hl := (word_vec r hp).2
  have h3 := sh.2.2.1
  obtain ⟨m, hm⟩ : ∃ m : Nat, (shr r).2 = ((m + 1 : Nat) : Int) := ⟨(shr r).2.toNat - 1, by omega⟩
  have inner : ∀ z : Nat, 1 ≤ z → (z : Int) < (shr r).2 → loopR (V := Int) (X := Bool ⊕ Unit) (R13x134217362 N a0 a1 (((oth r).toNat : Nat) : Int) (z : Int)) N 0 = some (.inr ()) := by
    intro z z1 z2
    have key := loopR_count (rd := R13x134217362 N a0 a1 (((oth r).toNat : Nat) : Int) (z : Int)) (z + 1) (fun k => (k : Int)) (.inr ()) (fun b hb => by
      have hle : decide ((b : Int) ≤ (z : Int)) = true := by simp only [decide_eq_true_eq]; omega
      have hq : PartOk ((b : Int), (z : Int)) := ⟨by simp, by simp only; omega, by simp only; omega, by simp only; omega⟩
      have re := rateE (N := N) hN r (b := b) (z := z) (by omega) (by omega)
      obtain ⟨d1, d2⟩ := dist_ok hr hq
      have hne : ((rateI r ((b : Int), (z : Int))).1 * r.2 == r.1 * (rateI r ((b : Int), (z : Int))).2) = false := by
        have : ¬ (rateI r ((b : Int), (z : Int))).1 * r.2 = r.1 * (rateI r ((b : Int), (z : Int))).2 := by
          intro e
          have hz : distI r ((b : Int), (z : Int)) = 0 := by unfold distI; omega
          have := hds _ hq hz
          simp only at this
          omega
        simpa using this
      simp only [R13x134217362, hle, cond_true, re, Option.bind_some, ga, gd, w_succ (show b < 9223372036854775807 by omega)]
      rw [w64 (x := (rateI r ((b : Int), (z : Int))).1 * r.2) (by omega), w64 (x := r.1 * (rateI r ((b : Int), (z : Int))).2) (by omega), hne]
      by_cases hy : (rateI r ((b : Int), (z : Int))).2 > 0
      · simp only [hy, decide_true, cond_true, Option.bind_some, cond_false]
      · simp only [hy, decide_false, cond_false, Option.bind_some]) (by
      have hle : ¬ ((z + 1 : Nat) : Int) ≤ (z : Int) := by omega
      simp only [R13x134217362, hle, decide_false, cond_false]) N 0 (Nat.zero_le _) (by unfold Big at hN; omega)
    exact key
  have key := loopR_count (rd := R13x2097146 N a0 a1 (((oth r).toNat : Nat) : Int) (wordS r (shr r), q)) m (fun k => ((k + 1 : Nat) : Int)) (.inr ()) (fun k hk => by
    have hle : decide (((k + 1 : Nat) : Int) < (((wordS r (shr r)).length : Nat) : Int)) = true := by simp only [decide_eq_true_eq]; omega
    have i := inner (k + 1) (by omega) (by omega)
    simp only [R13x2097146, hle, cond_true, i, Option.bind_some, Sum.elim_inr, w_succ (show k + 1 < 9223372036854775807 by omega)]) (by
    have hle : ¬ ((m + 1 : Nat) : Int) < (((wordS r (shr r)).length : Nat) : Int) := by omega
    simp only [R13x2097146, hle, decide_false, cond_false]) N 0 (Nat.zero_le _) (by unfold Big at hN; omega)
  exact key
end

theorem TaperFarey_true {N : Nat} (hN : Big N) (a0 a1 a2 : Int) (h0 : 0 ≤ a0 ∧ a0 ≤ 255) (h1 : 0 ≤ a1 ∧ a1 ≤ 255) (h2 : 0 ≤ a2 ∧ a2 ≤ 255) : T13 N (a0, a1, a2) = some true := by
  have w0 : IntKind.wrap .i64 a0 = a0 := w64 (by omega)
  have w1 : IntKind.wrap .i64 a1 = a1 := w64 (by omega)
  have w2 : IntKind.wrap .i64 a2 = a2 := w64 (by omega)
  have eA : Int.tmod (IntKind.wrap .i64 a0) 41 = ((a0.toNat % 41 : Nat) : Int) := by rw [w0, Int.tmod_eq_emod_of_nonneg h0.1]; omega
  have eD : IntKind.wrap .i64 (1 + Int.tmod (IntKind.wrap .i64 a1) 40) = ((a1.toNat % 40 : Nat) : Int) + 1 := by rw [w1, Int.tmod_eq_emod_of_nonneg h1.1, w64 (by omega)]; omega
  have eN : IntKind.wrap .i64 (1 + Int.tmod (IntKind.wrap .i64 a2) 12) = ((a2.toNat % 12 + 1 : Nat) : Int) := by rw [w2, Int.tmod_eq_emod_of_nonneg h2.1, w64 (by omega)]; omega
  have hA : a0.toNat % 41 < 41 := Nat.mod_lt _ (by omega)
  have hD : a1.toNat % 40 < 40 := Nat.mod_lt _ (by omega)
  have hn1 : 1 ≤ a2.toNat % 12 + 1 := by omega
  have hn2 : a2.toNat % 12 + 1 ≤ 12 := by omega
  generalize a0.toNat % 41 = A at *
  generalize a1.toNat % 40 = D at *
  generalize a2.toNat % 12 + 1 = n at *
  have G : Given a0 a1 A D := ⟨eA, eD, hA, hD⟩
  rw [T13_eq]
  simp only [eA, eD, eN, T15, Option.bind_some, Bool.not_true, cond_false, T62_gcd hN (a := (A : Int)) (b := (D : Int) + 1) (by omega) (by omega) (by omega)]
  by_cases hg : (Int.gcd (A : Int) ((D : Int) + 1) : Int) = 1
  · have hlow : low1 ((A : Int), (D : Int) + 1) = true := decide_eq_true hg
    have hc : chkR ((A : Int), (D : Int) + 1) = 0 := by
      unfold chkR
      rw [if_neg (by simp only; omega), if_pos hg]
    have hgb : ((Int.gcd (A : Int) ((D : Int) + 1) : Int) != 1) = false := by simpa using hg
    have hpr := proves_all hA hD hlow hn1 hn2
    have near := near_best (r := ((A : Int), (D : Int) + 1)) hn1 (show n ≤ 64 by omega)
    have loop1 := R13_near hN G hc a2 n eN hn1 (by omega) 0
    have hsm := R13_small hN G hc 0
    have hns := near_share hc
    have ne0 : nearErr ((A : Int), (D : Int) + 1) (n : Int) = 0 := by
      refine firstNZ_zero.2 ?_
      simp only [List.mem_cons, List.not_mem_nil, or_false, forall_eq_or_imp, forall_eq]
      exact ⟨hc, by unfold rng; rw [if_neg (by omega)]⟩
    have t55 : T55 N (((A : Int), (D : Int) + 1), (n : Int)) = _ := T55_neigh hN
    have t57 : T57 N (((A : Int), (D : Int) + 1), (n : Int)) = _ := T57_near hN
    have t57s : T57 N (((A : Int), (D : Int) + 1), (shr ((A : Int), (D : Int) + 1)).2) = _ := T57_near hN
    have t56 := fun (a b : P2) => T56_proves hN (r := ((A : Int), (D : Int) + 1)) (n := (n : Int)) a b
    have t60 := fun (a b : P2) => T60_proves hN (r := ((A : Int), (D : Int) + 1)) (n := (n : Int)) a b hc (by omega)
    have t29 := T29_eq N ((A : Int), (D : Int) + 1)
    have t90 : T90 N ((A : Int), (D : Int) + 1) = _ := T90_chk hN ((A : Int), (D : Int) + 1)
    have t91 : T91 N ((A : Int), (D : Int) + 1) = _ := T91_shr hN ((A : Int), (D : Int) + 1) hc
    have ho : (bif decide ((A : Int) > (D : Int) + 1) then some 84 else some 78 : Option Int) = some (((oth ((A : Int), (D : Int) + 1)).toNat : Nat) : Int) := by
      unfold oth
      by_cases h : (A : Int) > (D : Int) + 1
      · rw [decide_eq_true h, if_pos h]; rfl
      · rw [decide_eq_false h, if_neg h]; rfl
    have sh := shr_sh hc
    simp only [hgb, cond_false, t55, t57, ne0, if_true, Option.bind_some, Int.toNat_natCast, ho]
    simp only [t90] at t29
    generalize hrr : (((A : Int), (D : Int) + 1) : P2) = r at *
    have hr1 : (A : Int) = r.1 := by rw [← hrr]
    have hr2 : (D : Int) + 1 = r.2 := by rw [← hrr]
    obtain ⟨b1, b2, b3, b4, b5⟩ := near
    have hw : wdS r (nearP r n) = wordS r (nearP r n).1 := by unfold wdS; rw [b1]; rfl
    have htx : textOf 0 (wdS r (nearP r n)) = (wordS r (nearP r n).1, 0) := by rw [hw]; rfl
    have t56' : T56 N (r, (n : Int), ((neigh (shr r) n).1.1, (neigh (shr r) n).1.2, (neigh (shr r) n).2.1, (neigh (shr r) n).2.2)) = some 0 := by
      have := t56 (neigh (shr r) n).1 (neigh (shr r) n).2
      rw [if_pos ne0, if_pos hpr] at this
      exact this
    have t60' : T60 N (r, (n : Int), ((neigh (shr r) n).1.1, (neigh (shr r) n).1.2, (neigh (shr r) n).2.1, (neigh (shr r) n).2.2)) = some true := by
      have := t60 (neigh (shr r) n).1 (neigh (shr r) n).2
      rw [hpr] at this
      exact this
    have hwl := (word_vec r b2).2
    have hwv := (word_vec r b2).1
    have hwe := wordErr_word r b2
    have hlen : ¬ (((wordS r (nearP r n).1).length : Nat) : Int) > (n : Int) := by omega
    have hcnt := R13_count hN r (wordS r (nearP r n).1) 0 (by have := b2.2.2.2; omega) (word_mem r _)
    rw [word_bars r b2] at hcnt
    have t32 : T32 N (r, ((nearP r n).1.1, (nearP r n).1.2)) = some (wordS r (nearP r n).1) := T32_word hN r (nearP r n).1 b2.1 b2.2.1 (by have := b2.2.2.2; omega)
    have t63 : T63 N (wordS r (nearP r n).1) = some (rateI r (nearP r n).1) := by rw [T63_vec hN _ (by have := b2.2.2.2; omega), hwv]
    have hy0 : ((rateI r (nearP r n).1).2 == 0) = false := by simpa using b4
    simp only [htx, bne_self_eq_false, cond_false, t56', Option.bind_some, T61_eq, hr1, hr2, beq_self_eq_true, Bool.and_self, cond_true, t60', Bool.not_true, T18_word hN, hwe, hlen, decide_false, hcnt, Sum.elim_inr, hwl, t32, t63, hy0, loop1]
    have hlen' : ¬ (nearP r n).1.2 > (n : Int) := by omega
    simp only [hlen', decide_false, cond_false]
    have t90' : T90 N (r.1, r.2) = some 0 := by rw [← hc]; exact T90_chk hN r
    have t91' : T91 N (r.1, r.2) = some (shr r) := T91_shr hN r hc
    by_cases hs : (shr r).2 > 64
    · have e29 : T29 N r = some (([] : List UInt8), 26) := by
        rw [T29_eq, t90', Option.bind_some]
        simp only [bne_self_eq_false, cond_false, t91', Option.bind_some, hs, decide_true, cond_true]
      rw [e29]
      rfl
    · have hp : PartOk (shr r) := ⟨sh.1, sh.2.1, sh.2.2.1, by omega⟩
      have t92 : T92 N (((shr r).1, (shr r).2), (r.1, r.2)) = some (wordS r (shr r)) := T92_word hN r (shr r) hp.1 hp.2.1 (by omega)
      have e29 : T29 N r = some (wordS r (shr r), 0) := by
        rw [T29_eq, t90', Option.bind_some]
        simp only [bne_self_eq_false, cond_false, t91', Option.bind_some, hs, decide_false, t92]
      rw [e29]
      have hvs := (word_vec r hp).1
      have hls := (word_vec r hp).2
      have t63s : T63 N (wordS r (shr r)) = some (rateI r (shr r)) := by rw [T63_vec hN _ (by omega), hvs]
      have hwes := wordErr_word r hp
      have hr := chkR_r hc
      obtain ⟨d1, d2⟩ := dist_ok hr hp
      have hd := dist_share hc
      unfold distI at hd
      have hrate : (IntKind.wrap .i64 ((rateI r (shr r)).1 * r.2) != IntKind.wrap .i64 (r.1 * (rateI r (shr r)).2)) = false := by
        rw [w64 (x := (rateI r (shr r)).1 * r.2) (by omega), w64 (x := r.1 * (rateI r (shr r)).2) (by omega)]
        have : (rateI r (shr r)).1 * r.2 = r.1 * (rateI r (shr r)).2 := by omega
        rw [this]
        simp
      obtain ⟨hn', _⟩ := hns (by omega)
      have nes : nearErr r (shr r).2 = 0 := by
        refine firstNZ_zero.2 ?_
        simp only [List.mem_cons, List.not_mem_nil, or_false, forall_eq_or_imp, forall_eq]
        exact ⟨hc, by have := hp.2.2.1; unfold rng; rw [if_neg (by omega)]⟩
      have t57s' : T57 N (r, (((wordS r (shr r)).length : Nat) : Int)) = some (wordS r (shr r), 0) := by
        rw [hls, t57s, nes, hn']
        rfl
      simp only [Option.bind_some, bne_self_eq_false, cond_false, t63s, hwes, hrate, hsm (by omega), Sum.elim_inr, t57s', beq_self_eq_true, cond_true]
  · have hgb : ((Int.gcd (A : Int) ((D : Int) + 1) : Int) != 1) = true := by simpa using hg
    simp only [hgb, cond_true]
end Go.Proofs.YtbfappllfpngdaaGreatDoor
