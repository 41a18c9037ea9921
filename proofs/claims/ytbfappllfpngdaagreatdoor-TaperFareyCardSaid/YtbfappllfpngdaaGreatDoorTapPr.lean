/- Plain laws: the nearest word; TaperNearest. -/
import Derived.Test.YtbfappllfpngdaaGreatDoorTapPq
set_option linter.all false
namespace Go.Proofs.YtbfappllfpngdaaGreatDoor
open Go Go.Am
set_option maxRecDepth 100000

theorem beqI (a b : Int) : (a == b) = decide (a = b) := rfl

def absI (x : Int) : Int := if -x > x then -x else x
def distI (r p : P2) : Int := (rateI r p).1 * r.2 - r.1 * (rateI r p).2
/-- Whether a part is nearer than another one. -/
def condB (r p q : P2) : Bool :=
  decide (absI (distI r p) * (rateI r q).2 < absI (distI r q) * (rateI r p).2) ||
    (decide (absI (distI r p) * (rateI r q).2 = absI (distI r q) * (rateI r p).2) && (decide (p.2 = q.2) && decide ((rateI r p).1 * (rateI r q).2 < (rateI r q).1 * (rateI r p).2)))
def nearS (r : P2) (st : P2 × Bool) (p : P2) : P2 × Bool :=
  if (rateI r p).2 = 0 then st else if st.2 = false then (p, true) else if condB r p st.1 = true then (p, true) else st
/-- The nearest part. -/
def nearP (r : P2) (n : Nat) : P2 × Bool := (List.range n).foldl (fun st k => (partsK k).foldl (nearS r) st) ((0, 0), false)

def ROk (r : P2) : Prop := 0 ≤ r.1 ∧ r.1 ≤ 999999999 ∧ 1 ≤ r.2 ∧ r.2 ≤ 999999999
theorem chkR_r {r : P2} (h : chkR r = 0) : ROk r := by
  obtain ⟨a, b, c, d, _⟩ := chkR_ok h
  exact ⟨a, b, c, d⟩

theorem rate_ok (r : P2) {p : P2} (hp : PartOk p) : 0 ≤ (rateI r p).1 ∧ (rateI r p).1 ≤ 128 ∧ 0 ≤ (rateI r p).2 ∧ (rateI r p).2 ≤ 128 := by
  obtain ⟨h1, h2, h3, h4⟩ := hp
  unfold rateI
  split <;> simp only <;> omega
theorem rate_zero (r : P2) {p : P2} (hp : PartOk p) : (rateI r p).2 = 0 ↔ (p.1 = 0 ∧ r.1 > r.2) := by
  obtain ⟨h1, h2, h3, h4⟩ := hp
  unfold rateI
  split
  · rename_i h; simp only; constructor
    · intro e; exact ⟨e, h⟩
    · intro e; exact e.1
  · rename_i h; simp only; constructor
    · intro e; omega
    · intro e; exact absurd e.2 h
theorem dist_ok {r p : P2} (hr : ROk r) (hp : PartOk p) : (0 ≤ (rateI r p).1 * r.2 ∧ (rateI r p).1 * r.2 ≤ 128 * 999999999) ∧ (0 ≤ r.1 * (rateI r p).2 ∧ r.1 * (rateI r p).2 ≤ 999999999 * 128) := by
  obtain ⟨a, b, c, d⟩ := rate_ok r hp
  obtain ⟨r1, r2, r3, r4⟩ := hr
  exact ⟨mul_bound a b (by omega) r4, mul_bound r1 r2 c d⟩
theorem abs_ok {x a : Int} (h1 : -a ≤ x) (h2 : x ≤ a) : 0 ≤ absI x ∧ absI x ≤ a := by
  unfold absI
  split <;> omega
theorem far_ok {r p q : P2} (hr : ROk r) (hp : PartOk p) (hq : PartOk q) : 0 ≤ absI (distI r p) * (rateI r q).2 ∧ absI (distI r p) * (rateI r q).2 ≤ 127999999872 * 128 := by
  obtain ⟨b1, b2⟩ := dist_ok hr hp
  obtain ⟨a, b, c, d⟩ := rate_ok r hq
  have := abs_ok (x := distI r p) (a := 127999999872) (by unfold distI; omega) (by unfold distI; omega)
  exact mul_bound this.1 this.2 c d
theorem cross_ok (r : P2) {p q : P2} (hp : PartOk p) (hq : PartOk q) : 0 ≤ (rateI r p).1 * (rateI r q).2 ∧ (rateI r p).1 * (rateI r q).2 ≤ 128 * 128 := by
  obtain ⟨a, b, c, d⟩ := rate_ok r hp
  obtain ⟨a', b', c', d'⟩ := rate_ok r hq
  exact mul_bound a b c' d'

theorem T111_rate (N : Nat) {r p : P2} (hp : PartOk p) : T111 N (p, r) = some (rateI r p) := by
  obtain ⟨h1, h2, h3, h4⟩ := hp
  rw [T111_eq, w64 (x := 2 * p.2) (by omega), w64 (x := 2 * p.2 - p.1) (by omega)]
  unfold rateI
  by_cases h : r.1 > r.2 <;> simp [h]

/-- The distance as the program reckons it. -/
theorem distE {r p : P2} (hr : ROk r) (hp : PartOk p) : IntKind.wrap .i64 (IntKind.wrap .i64 ((rateI r p).1 * r.2) - IntKind.wrap .i64 (r.1 * (rateI r p).2)) = distI r p := by
  obtain ⟨b1, b2⟩ := dist_ok hr hp
  rw [w64 (x := (rateI r p).1 * r.2) (by omega), w64 (x := r.1 * (rateI r p).2) (by omega), w64 (by omega)]
  rfl
theorem negE {r p : P2} (hr : ROk r) (hp : PartOk p) : IntKind.wrap .i64 (0 - distI r p) = -distI r p := by
  obtain ⟨b1, b2⟩ := dist_ok hr hp
  have : -127999999872 ≤ distI r p ∧ distI r p ≤ 127999999872 := by unfold distI; omega
  rw [w64 (by omega)]
  omega
theorem far_neg (x : Int) : (if x < 0 then -x else x) = absI x := by
  unfold absI
  by_cases h : x < 0
  · rw [if_pos h, if_pos (by omega)]
  · rw [if_neg h, if_neg (by omega)]

def NOk (st : P2 × Bool) : Prop := st.2 = true → PartOk st.1
theorem nearS_ok {r p : P2} {st : P2 × Bool} (hp : PartOk p) (h : NOk st) : NOk (nearS r st p) := by
  unfold nearS
  split
  · exact h
  · split
    · exact fun _ => hp
    · split
      · exact fun _ => hp
      · exact h
theorem nearL_ok {r : P2} : ∀ (l : List P2) (st : P2 × Bool), (∀ p ∈ l, PartOk p) → NOk st → NOk (l.foldl (nearS r) st)
  | [], st, _, h => h
  | p :: l, st, hl, h => nearL_ok l _ (fun q hq => hl q (by simp [hq])) (nearS_ok (hl p (by simp)) h)
theorem nearP_ok (r : P2) {n : Nat} (hn : n ≤ 64) : NOk (nearP r n) := by
  unfold nearP
  have : ∀ (l : List Nat) (st : P2 × Bool), (∀ k ∈ l, k < 64) → NOk st → NOk (l.foldl (fun st k => (partsK k).foldl (nearS r) st) st) := by
    intro l
    induction l with
    | nil => intro st _ h; exact h
    | cons k l ih => intro st hl h; exact ih _ (fun j hj => hl j (by simp [hj])) (nearL_ok _ _ (partsK_ok (hl k (by simp))) h)
  exact this _ _ (fun k hk => by rw [List.mem_range] at hk; omega) (fun h => by cases h)

section
variable {N : Nat} (hN : Big N) {r : P2} (hr : ROk r)
include hN hr

abbrev Eight := Int × Int × Int × Unit × Int × Int × Bool × Int

theorem R57_inner (n : Int) (k : Nat) (hk : k < 64) (st : P2 × Bool) (h : NOk st) (v5 : Eight) (hv : v5.1 = ((k + 1 : Nat) : Int)) :
    loopR (V := Eight) (X := Int × Int × Unit × Int × Int × Bool × Int) (R57x142x402 N v5) N (0, r.1, r.2, (), st.1.1, st.1.2, st.2, n) = some (r.1, r.2, (), ((partsK k).foldl (nearS r) st).1.1, ((partsK k).foldl (nearS r) st).1.2, ((partsK k).foldl (nearS r) st).2, n) := by
  have key := loopR_foldl (rd := R57x142x402 N v5) (partsK k) (fun (st : P2 × Bool) b => ((b : Int), r.1, r.2, (), st.1.1, st.1.2, st.2, n)) (nearS r) (fun st => (r.1, r.2, (), st.1.1, st.1.2, st.2, n)) (fun st _ => NOk st)
    (fun st b hb hP => by
      have hp := partsK_ok hk _ (List.getElem_mem hb)
      refine ⟨?_, nearS_ok hp hP⟩
      rw [partsK_get] at hp ⊢
      rw [partsK_length] at hb
      have hw1 : IntKind.wrap .i64 (((k + 1 : Nat) : Int) + 1) = ((k + 1 + 1 : Nat) : Int) := w_succ (by omega)
      have hle : decide ((b : Int) < ((k + 1 + 1 : Nat) : Int)) = true := by simp only [decide_eq_true_eq]; omega
      have hbw := w_succ (show b < 9223372036854775807 by omega)
      generalize ((k + 1 + 1 : Nat) : Int) = L1 at *
      generalize ((b + 1 : Nat) : Int) = B1 at *
      generalize ((k + 1 : Nat) : Int) = L at *
      have t1 : T111 N (((b : Int), L), (r.1, r.2)) = some (rateI r ((b : Int), L)) := T111_rate N hp
      simp only [R57x142x402, hv, hw1, hle, cond_true, t1, Option.bind_some, hbw]
      unfold nearS
      by_cases h0 : (rateI r ((b : Int), L)).2 = 0
      · simp only [h0, beq_self_eq_true, cond_true, if_true, Option.bind_some]
      · have h0' : ((rateI r ((b : Int), L)).2 == 0) = false := by simpa using h0
        simp only [h0, h0', cond_false, if_false]
        cases hf : st.2 with
        | false => simp only [Bool.not_false, cond_true, if_true, Option.bind_some]
        | true =>
          have hq := hP hf
          have t2 : T111 N ((st.1.1, st.1.2), (r.1, r.2)) = some (rateI r st.1) := T111_rate N hq
          have f1 := far_ok hr hp hq
          have f2 := far_ok hr hq hp
          have c1 := cross_ok r hp hq
          have c2 := cross_ok r hq hp
          simp only [Bool.not_true, cond_false, t2, Option.bind_some, distE hr hp, distE hr hq, negE hr hp, negE hr hq]
          have a1 : (if -distI r ((b : Int), L) > distI r ((b : Int), L) then -distI r ((b : Int), L) else distI r ((b : Int), L)) = absI (distI r ((b : Int), L)) := rfl
          have a2 : (if -distI r st.1 > distI r st.1 then -distI r st.1 else distI r st.1) = absI (distI r st.1) := rfl
          rw [a1, a2]
          simp only [w64 (x := absI (distI r ((b : Int), L)) * (rateI r st.1).2) (by omega), w64 (x := absI (distI r st.1) * (rateI r ((b : Int), L)).2) (by omega), w64 (x := (rateI r ((b : Int), L)).1 * (rateI r st.1).2) (by omega), w64 (x := (rateI r st.1).1 * (rateI r ((b : Int), L)).2) (by omega)]
          have hcB : condB r ((b : Int), L) st.1 = (decide (absI (distI r ((b : Int), L)) * (rateI r st.1).2 < absI (distI r st.1) * (rateI r ((b : Int), L)).2) || (decide (absI (distI r ((b : Int), L)) * (rateI r st.1).2 = absI (distI r st.1) * (rateI r ((b : Int), L)).2) && (decide (L = st.1.2) && decide ((rateI r ((b : Int), L)).1 * (rateI r st.1).2 < (rateI r st.1).1 * (rateI r ((b : Int), L)).2)))) := rfl
          rw [hcB]
          generalize absI (distI r ((b : Int), L)) * (rateI r st.1).2 = A
          generalize absI (distI r st.1) * (rateI r ((b : Int), L)).2 = B
          rw [beqI L st.1.2, beqI A B]
          generalize decide ((rateI r ((b : Int), L)).1 * (rateI r st.1).2 < (rateI r st.1).1 * (rateI r ((b : Int), L)).2) = bC
          generalize decide (L = st.1.2) = bL
          generalize decide (A = B) = bE
          generalize decide (A < B) = bA
          cases bC <;> cases bL <;> cases bE <;> cases bA <;> simp [hf])
    (fun st _ => by
      have hw1 : IntKind.wrap .i64 (((k + 1 : Nat) : Int) + 1) = ((k + 1 + 1 : Nat) : Int) := w_succ (by omega)
      have hle : ¬ (((partsK k).length : Nat) : Int) < ((k + 1 + 1 : Nat) : Int) := by rw [partsK_length]; omega
      simp only [R57x142x402, hv, hw1, hle, decide_false, cond_false]) N st 0 (Nat.zero_le _) (by rw [partsK_length]; unfold Big at hN; omega) h
  rw [List.drop_zero] at key
  exact key

theorem R57_loop (n : Nat) (hn : n ≤ 64) : loopR (V := Eight) (X := Int × Int × Unit × Int × Int × Bool × Int) (R57x142x6 N) N (1, r.1, r.2, (), 0, 0, false, (n : Int)) = some (r.1, r.2, (), (nearP r n).1.1, (nearP r n).1.2, (nearP r n).2, (n : Int)) := by
  have key := loopR_foldl (rd := R57x142x6 N) (List.range n) (fun (st : P2 × Bool) k => (((k + 1 : Nat) : Int), r.1, r.2, (), st.1.1, st.1.2, st.2, (n : Int))) (fun st k => (partsK k).foldl (nearS r) st) (fun st => (r.1, r.2, (), st.1.1, st.1.2, st.2, (n : Int))) (fun st _ => NOk st)
    (fun st k hk hP => by
      rw [List.length_range] at hk
      have e : (List.range n)[k]'(by rw [List.length_range]; exact hk) = k := List.getElem_range _
      rw [e]
      refine ⟨?_, nearL_ok _ _ (partsK_ok (by omega)) hP⟩
      have hle : decide (((k + 1 : Nat) : Int) ≤ (n : Int)) = true := by simp only [decide_eq_true_eq]; omega
      have inner := R57_inner hN hr (n : Int) k (by omega) st hP (((k + 1 : Nat) : Int), r.1, r.2, (), st.1.1, st.1.2, st.2, (n : Int)) rfl
      simp only [R57x142x6, hle, cond_true, inner, Option.bind_some, w_succ (show k + 1 < 9223372036854775807 by omega)])
    (fun st _ => by
      have hle : ¬ (((List.range n).length + 1 : Nat) : Int) ≤ (n : Int) := by rw [List.length_range]; omega
      simp only [R57x142x6, hle, decide_false, cond_false]) N ((0, 0), false) 0 (Nat.zero_le _) (by rw [List.length_range]; unfold Big at hN; omega) (fun h => by cases h)
  rw [List.drop_zero] at key
  exact key

/-- The word of what is found. -/
def wdS (r : P2) (st : P2 × Bool) : List UInt8 := if st.2 = true then wordS r st.1 else []

theorem T115_near {p q : P2} (hp : PartOk p) (hq : PartOk q) : T115 N (r, wordS r p, wordS r q) = some (if absI (distI r p) * (rateI r q).2 < absI (distI r q) * (rateI r p).2 then -1 else if absI (distI r p) * (rateI r q).2 > absI (distI r q) * (rateI r p).2 then 1 else 0) := by
  obtain ⟨v1, l1⟩ := word_vec r hp
  obtain ⟨v2, l2⟩ := word_vec r hq
  have hp' := hp.2.2.2; have hq' := hq.2.2.2
  have f1 := far_ok hr hp hq
  have f2 := far_ok hr hq hp
  rw [T115_eq, T63_vec hN _ (by omega), T63_vec hN _ (by omega), v1, v2]
  simp only [Option.bind_some, distE hr hp, distE hr hq, negE hr hp, negE hr hq]
  have q1 : (bif decide (distI r p < 0) then some (-distI r p) else some (distI r p) : Option Int) = some (absI (distI r p)) := by
    rw [← far_neg]; by_cases h : distI r p < 0 <;> simp [h]
  have q2 : (bif decide (distI r q < 0) then some (-distI r q) else some (distI r q) : Option Int) = some (absI (distI r q)) := by
    rw [← far_neg]; by_cases h : distI r q < 0 <;> simp [h]
  rw [q1, q2]
  simp only [Option.bind_some]
  rw [w64 (x := absI (distI r p) * (rateI r q).2) (by omega), w64 (x := absI (distI r q) * (rateI r p).2) (by omega)]
  generalize absI (distI r p) * (rateI r q).2 = A
  generalize absI (distI r q) * (rateI r p).2 = B
  by_cases h1 : A < B
  · simp [h1]
  · by_cases h2 : A > B <;> simp [h1, h2]

theorem T69_less {p q : P2} (hp : PartOk p) (hq : PartOk q) : ∃ c, T69 N (wordS r p, wordS r q) = some c ∧ decide (c < 0) = decide ((rateI r p).1 * (rateI r q).2 < (rateI r q).1 * (rateI r p).2) := by
  obtain ⟨v1, l1⟩ := word_vec r hp
  obtain ⟨v2, l2⟩ := word_vec r hq
  have hp' := hp.2.2.2; have hq' := hq.2.2.2
  refine ⟨_, T69_cmp hN (by omega) (by omega), ?_⟩
  unfold cross
  rw [v1, v2]
  apply decide_eq_decide.2
  rw [sgn_neg]
  omega

theorem R59_inner (k : Nat) (hk : k < 64) (st : P2 × Bool) (h : NOk st) (v1 : (List UInt8) × Int) (hv : v1.2 = ((k + 1 : Nat) : Int)) :
    loopR (V := (List UInt8) × Int) (X := ((List UInt8))) (R59x3730 N r v1) N (wdS r st, 0) = some (wdS r ((partsK k).foldl (nearS r) st)) := by
  have key := loopR_foldl (rd := R59x3730 N r v1) (partsK k) (fun (st : P2 × Bool) b => (wdS r st, (b : Int))) (nearS r) (fun st => wdS r st) (fun st _ => NOk st)
    (fun st b hb hP => by
      have hp := partsK_ok hk _ (List.getElem_mem hb)
      refine ⟨?_, nearS_ok hp hP⟩
      rw [partsK_get] at hp ⊢
      rw [partsK_length] at hb
      have hle : decide ((b : Int) ≤ ((k + 1 : Nat) : Int)) = true := by simp only [decide_eq_true_eq]; omega
      have hbw := w_succ (show b < 9223372036854775807 by omega)
      generalize ((b + 1 : Nat) : Int) = B1 at *
      generalize ((k + 1 : Nat) : Int) = L at *
      have t32 : T32 N ((r.1, r.2), ((b : Int), L)) = some (wordS r ((b : Int), L)) := T32_word hN r ((b : Int), L) hp.1 hp.2.1 (by have := hp.2.2.2; simp only at this ⊢; omega)
      have t93 : T93 N (r.1, r.2) = some (decide (r.1 > r.2)) := T93_eq N _
      simp only [R59x3730, hv, hle, cond_true, t32, t93, Option.bind_some, hbw]
      have q0 : (bif ((b : Int) == 0) then some (decide (r.1 > r.2)) else some false : Option Bool) = some (decide ((rateI r ((b : Int), L)).2 = 0)) := by
        have := rate_zero r hp
        simp only at this
        by_cases hb0 : (b : Int) = 0
        · by_cases hs : r.1 > r.2
          · have hz := this.2 ⟨hb0, hs⟩
            rw [hb0] at hz
            simp only [hb0, beq_self_eq_true, cond_true, hs, hz, decide_true]
          · have hz : ¬ (rateI r ((b : Int), L)).2 = 0 := fun e => hs (this.1 e).2
            rw [hb0] at hz
            simp only [hb0, beq_self_eq_true, cond_true, hs, hz, decide_false]
        · simp only [beq0 hb0, cond_false]
          rw [decide_eq_false (fun e => hb0 (this.1 e).1)]
      rw [q0]
      simp only [Option.bind_some]
      unfold nearS
      by_cases h0 : (rateI r ((b : Int), L)).2 = 0
      · simp only [h0, decide_true, cond_true, if_true, Option.bind_some]
      · simp only [h0, decide_false, cond_false, if_false]
        cases hf : st.2 with
        | false =>
          have hw0 : wdS r st = [] := by unfold wdS; rw [hf]; rfl
          have hb0 : (([] : List UInt8) == []) = true := rfl
          simp only [hw0, hb0, Bool.not_true, cond_false, Option.bind_some]
          rfl
        | true =>
          have hq := hP hf
          have hw0 : wdS r st = wordS r st.1 := by unfold wdS; rw [hf]; rfl
          obtain ⟨v1', l1⟩ := word_vec r hp
          obtain ⟨v2', l2⟩ := word_vec r hq
          have hne : ((wordS r st.1) == ([] : List UInt8)) = false := by
            have : wordS r st.1 ≠ [] := by
              intro e
              rw [e] at l2
              have := hq.2.2.1
              simp at l2
              omega
            simpa using this
          have t115 : T115 N ((r.1, r.2), wordS r ((b : Int), L), wordS r st.1) = _ := T115_near hN hr hp hq
          obtain ⟨c, t69, hc⟩ := T69_less hN hr hp hq
          simp only at l1
          simp only [hw0, hne, Bool.not_false, cond_true, t115, t69, Option.bind_some, l1, l2, hc]
          have hcB : condB r ((b : Int), L) st.1 = (decide (absI (distI r ((b : Int), L)) * (rateI r st.1).2 < absI (distI r st.1) * (rateI r ((b : Int), L)).2) || (decide (absI (distI r ((b : Int), L)) * (rateI r st.1).2 = absI (distI r st.1) * (rateI r ((b : Int), L)).2) && (decide (L = st.1.2) && decide ((rateI r ((b : Int), L)).1 * (rateI r st.1).2 < (rateI r st.1).1 * (rateI r ((b : Int), L)).2)))) := rfl
          rw [hcB]
          generalize absI (distI r ((b : Int), L)) * (rateI r st.1).2 = A
          generalize absI (distI r st.1) * (rateI r ((b : Int), L)).2 = B
          rw [beqI L st.1.2]
          generalize decide ((rateI r ((b : Int), L)).1 * (rateI r st.1).2 < (rateI r st.1).1 * (rateI r ((b : Int), L)).2) = bC
          generalize decide (L = st.1.2) = bL
          by_cases hA : A < B
          · simp [hA, wdS]
          · by_cases hG : A > B
            · have hE : ¬ A = B := by omega
              simp [hA, hG, hE, wdS, hf]
            · have hE : A = B := by omega
              subst hE
              cases bC <;> cases bL <;> simp [wdS, hf])
    (fun st _ => by
      have hle : ¬ (((partsK k).length : Nat) : Int) ≤ ((k + 1 : Nat) : Int) := by rw [partsK_length]; omega
      simp only [R59x3730, hv, hle, decide_false, cond_false]) N st 0 (Nat.zero_le _) (by rw [partsK_length]; unfold Big at hN; omega) h
  rw [List.drop_zero] at key
  exact key

theorem T59_near (n : Nat) (hn : n ≤ 64) : T59 N (r, (n : Int)) = some (wdS r (nearP r n)) := by
  rw [T59_eq]
  have key := loopR_foldl (rd := R59x58 N r (n : Int)) (List.range n) (fun (st : P2 × Bool) k => (wdS r st, ((k + 1 : Nat) : Int))) (fun st k => (partsK k).foldl (nearS r) st) (fun st => wdS r st) (fun st _ => NOk st)
    (fun st k hk hP => by
      rw [List.length_range] at hk
      have e : (List.range n)[k]'(by rw [List.length_range]; exact hk) = k := List.getElem_range _
      rw [e]
      refine ⟨?_, nearL_ok _ _ (partsK_ok (by omega)) hP⟩
      have hle : decide (((k + 1 : Nat) : Int) ≤ (n : Int)) = true := by simp only [decide_eq_true_eq]; omega
      have inner := R59_inner hN hr k (by omega) st hP (wdS r st, ((k + 1 : Nat) : Int)) rfl
      simp only [R59x58, hle, cond_true, inner, Option.bind_some, w_succ (show k + 1 < 9223372036854775807 by omega)])
    (fun st _ => by
      have hle : ¬ (((List.range n).length + 1 : Nat) : Int) ≤ (n : Int) := by rw [List.length_range]; omega
      simp only [R59x58, hle, decide_false, cond_false]) N ((0, 0), false) 0 (Nat.zero_le _) (by rw [List.length_range]; unfold Big at hN; omega) (fun h => by cases h)
  rw [List.drop_zero] at key
  have key' : loopR (V := (List UInt8) × Int) (X := ((List UInt8))) (R59x58 N r (n : Int)) N (([] : List UInt8), 1) = some (wdS r (nearP r n)) := key
  rw [key']
  rfl
end

theorem nearP_none {r : P2} {n : Nat} (h : (nearP r n).2 = false) : (nearP r n).1 = (0, 0) := by
  have step : ∀ (st : P2 × Bool) (p : P2), (st.2 = false → st.1 = (0, 0)) → ((nearS r st p).2 = false → (nearS r st p).1 = (0, 0)) := by
    intro st p h
    unfold nearS
    split
    · exact h
    · split
      · intro e; cases e
      · split
        · intro e; cases e
        · exact h
  have fold : ∀ (l : List P2) (st : P2 × Bool), (st.2 = false → st.1 = (0, 0)) → ((l.foldl (nearS r) st).2 = false → (l.foldl (nearS r) st).1 = (0, 0)) := by
    intro l
    induction l with
    | nil => intro st h; exact h
    | cons p l ih => intro st h; exact ih _ (step st p h)
  have fold2 : ∀ (l : List Nat) (st : P2 × Bool), (st.2 = false → st.1 = (0, 0)) → ((l.foldl (fun st k => (partsK k).foldl (nearS r) st) st).2 = false → (l.foldl (fun st k => (partsK k).foldl (nearS r) st) st).1 = (0, 0)) := by
    intro l
    induction l with
    | nil => intro st h; exact h
    | cons k l ih => intro st h; exact ih _ (fold _ st h)
  exact fold2 _ _ (fun _ => rfl) h

section
variable {N : Nat} (hN : Big N)
include hN

theorem T57_near {r : P2} {n : Int} : T57 N (r, n) = some (textOf (nearErr r n) (wdS r (nearP r n.toNat))) := by
  have t90 : T90 N (r.1, r.2) = some (chkR r) := T90_chk hN r
  rw [T57_eq, T106_eq]
  simp only [t90, T101_rng, Option.bind_some, allFit, fi23, di23, List.map_cons, List.map_nil, Bool.and_self, cond_true, T75_first hN _ (show [_, _].length ≤ 9223372036854775806 by simp)]
  unfold textOf
  by_cases h : nearErr r n = 0
  · obtain ⟨hc, h1, h2⟩ := nearErr_ok h
    have h' : firstNZ [chkR r, rng n 1 64] = 0 := h
    obtain ⟨m, rfl⟩ : ∃ m : Nat, n = (m : Int) := ⟨n.toNat, by omega⟩
    have loop := R57_loop hN (chkR_r hc) m (by omega)
    have hw : T92 N (((nearP r m).1.1, (nearP r m).1.2), (r.1, r.2)) = some (wdS r (nearP r m)) := by
      have ok := nearP_ok r (n := m) (by omega)
      unfold wdS
      cases hf : (nearP r m).2 with
      | true =>
        have hp := ok hf
        rw [if_pos rfl]
        exact T92_word hN r (nearP r m).1 hp.1 hp.2.1 (by have := hp.2.2.2; omega)
      | false =>
        have hz := nearP_none hf
        rw [hz, if_neg (by simp)]
        have := T92_word hN r (0, 0) (by simp) (by simp) (by simp)
        rw [show T92 N ((((0, 0) : P2).1, ((0, 0) : P2).2), (r.1, r.2)) = T92 N ((0, 0), r) from rfl, this]
        rfl
    simp only [h, h', bne_self_eq_false, cond_false, if_true, loop, Option.bind_some, hw, Int.toNat_natCast]
  · have h' : ¬ firstNZ [chkR r, rng n 1 64] = 0 := h
    simp only [h, bne0 h', cond_true, if_false]
    rfl

theorem TaperNearest_true (r : P2) (n : Int) (l : Int × Int × Int × Int) : T12 N (r, n, l) = some true := by
  rw [T12_eq]
  generalize hg : ((T15 N ()).bind fun y1 => (bif (!y1) then (some true) else (bif (decide (n > 24)) then (some (decide (n ≤ 64))) else (some false))) : Option Bool) = g
  have hgs : ∃ c, g = some c := by
    rw [← hg]
    simp only [T15, Option.bind_some, Bool.not_true, cond_false]
    cases decide (n > 24)
    · exact ⟨_, rfl⟩
    · exact ⟨_, rfl⟩
  obtain ⟨c, rfl⟩ := hgs
  cases c with
  | true => rfl
  | false =>
    have t56 : T56 N ((r.1, r.2), n, (l.1, l.2.1, l.2.2.1, l.2.2.2)) = _ := T56_proves hN (r := r) (n := n) (l.1, l.2.1) (l.2.2.1, l.2.2.2)
    have t55 : T55 N ((r.1, r.2), n) = _ := T55_neigh hN (r := r) (n := n)
    have t57 : T57 N ((r.1, r.2), n) = _ := T57_near hN (r := r) (n := n)
    have t30 : T30 N (r.1, r.2) = some (chkR r) := T30_chk hN r
    simp only [Option.bind_some, cond_false, t55, t56, t57, t30]
    have e9 : (bif (chkR r == 0) then (bif decide (n < 1) then some true else some (decide (n > 64))) else some false : Option Bool) = some (decide (chkR r = 0 ∧ (n < 1 ∨ n > 64))) := by
      by_cases h1 : chkR r = 0
      · by_cases h2 : n < 1
        · simp [h1, h2]
        · simp [h1, h2]
      · simp [h1, beq0 h1]
    rw [e9]
    simp only [Option.bind_some]
    have e10 : (bif decide (chkR r = 0 ∧ (n < 1 ∨ n > 64)) then some 3 else some (chkR r) : Option Int) = some (nearErr r n) := by
      unfold nearErr rng
      by_cases h1 : chkR r = 0
      · by_cases h2 : n < 1 ∨ n > 64
        · simp [h1, h2, firstNZ]
        · simp [h1, h2, firstNZ]
      · simp [h1, firstNZ]
    rw [e10]
    simp only [Option.bind_some]
    by_cases h : nearErr r n = 0
    · obtain ⟨hc, h1, h2⟩ := nearErr_ok h
      obtain ⟨m, rfl⟩ : ∃ m : Nat, n = (m : Int) := ⟨n.toNat, by omega⟩
      have t58 : T58 N ((r.1, r.2), (m : Int)) = _ := T58_neigh hN hc (n := m) (by omega)
      have t59 : T59 N ((r.1, r.2), (m : Int)) = _ := T59_near hN (chkR_r hc) m (by omega)
      have t60 : T60 N ((r.1, r.2), (m : Int), (l.1, l.2.1, l.2.2.1, l.2.2.2)) = _ := T60_proves hN (l.1, l.2.1) (l.2.2.1, l.2.2.2) hc h2
      simp only [h, beq_self_eq_true, cond_true, if_true, t58, t59, t60, Option.bind_some, Int.toNat_natCast]
      cases provesB (shr r) (m : Int) (l.1, l.2.1) (l.2.2.1, l.2.2.2) with
      | true =>
        simp only [Bool.not_true, cond_false, Option.bind_some, T61_eq, beq_self_eq_true, Bool.and_self, cond_true, if_true]
        have := T22_text N 0 (wdS r (nearP r m))
        rw [if_pos rfl] at this
        simp only [this, Option.bind_some]
      | false =>
        simp only [Bool.not_false, Bool.false_eq_true, if_false, cond_true, Option.bind_some, T61_eq, beq_self_eq_true, Bool.and_self]
        have := T22_text N 0 (wdS r (nearP r m))
        rw [if_pos rfl] at this
        simp only [this, Option.bind_some]
    · have hb : (nearErr r n == 0) = false := by simpa using h
      simp only [h, hb, if_false, cond_false, Option.bind_some, T61_eq, beq_self_eq_true, Bool.and_self, cond_true]
      have := T22_text N (nearErr r n) (wdS r (nearP r n.toNat))
      rw [if_neg h] at this
      simp only [this, Option.bind_some]
end
end Go.Proofs.YtbfappllfpngdaaGreatDoor
