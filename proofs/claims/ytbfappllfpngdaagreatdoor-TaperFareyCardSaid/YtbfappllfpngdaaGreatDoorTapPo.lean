/- Plain laws: neighbours of ratios. -/
import Derived.Test.YtbfappllfpngdaaGreatDoorTapPe
import Derived.Test.YtbfappllfpngdaaGreatDoorTapTb
set_option linter.all false
namespace Go.Proofs.YtbfappllfpngdaaGreatDoor
open Go Go.Am
set_option maxRecDepth 100000

abbrev P2 := Int × Int
/-- Where a part lies: below, at or above a share. -/
def sideI (p s : P2) : Int := sgn (p.1 * s.2 - s.1 * p.2)
def lessP (p q : P2) : Bool := decide (p.1 * q.2 < q.1 * p.2)

theorem sgn_neg {x : Int} : sgn x < 0 ↔ x < 0 := by unfold sgn; split <;> (try split) <;> omega
theorem sgn_pos {x : Int} : sgn x > 0 ↔ x > 0 := by unfold sgn; split <;> (try split) <;> omega
theorem sgn_zero {x : Int} : sgn x = 0 ↔ x = 0 := by unfold sgn; split <;> (try split) <;> omega

/-- A part of at most 64 letters. -/
def PartOk (p : P2) : Prop := 0 ≤ p.1 ∧ p.1 ≤ p.2 ∧ 1 ≤ p.2 ∧ p.2 ≤ 64
/-- A share. -/
def ShOk (s : P2) : Prop := 0 ≤ s.1 ∧ s.1 ≤ s.2 ∧ 1 ≤ s.2 ∧ s.2 ≤ 2000000000

theorem mul_bound {x y a b : Int} (hx : 0 ≤ x) (hx' : x ≤ a) (hy : 0 ≤ y) (hy' : y ≤ b) : 0 ≤ x * y ∧ x * y ≤ a * b :=
  ⟨Int.mul_nonneg hx hy, Int.le_trans (Int.mul_le_mul_of_nonneg_right hx' hy) (Int.mul_le_mul_of_nonneg_left hy' (by omega))⟩

theorem ps_bound {p s : P2} (hp : PartOk p) (hs : ShOk s) : (0 ≤ p.1 * s.2 ∧ p.1 * s.2 ≤ 64 * 2000000000) ∧ (0 ≤ s.1 * p.2 ∧ s.1 * p.2 ≤ 2000000000 * 64) := by
  obtain ⟨h1, h2, h3, h4⟩ := hp
  obtain ⟨k1, k2, k3, k4⟩ := hs
  exact ⟨mul_bound h1 (by omega) (by omega) k4, mul_bound k1 (by omega) (by omega) h4⟩
theorem pp_bound {p q : P2} (hp : PartOk p) (hq : PartOk q) : (0 ≤ p.1 * q.2 ∧ p.1 * q.2 ≤ 64 * 64) ∧ (0 ≤ q.1 * p.2 ∧ q.1 * p.2 ≤ 64 * 64) := by
  obtain ⟨h1, h2, h3, h4⟩ := hp
  obtain ⟨k1, k2, k3, k4⟩ := hq
  exact ⟨mul_bound h1 (by omega) (by omega) k4, mul_bound k1 (by omega) (by omega) h4⟩

theorem T109_side (N : Nat) {p s : P2} (hp : PartOk p) (hs : ShOk s) : T109 N (p, s) = some (sideI p s) := by
  obtain ⟨b1, b2⟩ := ps_bound hp hs
  rw [T109_eq, w64 (x := p.1 * s.2) (by omega), w64 (x := s.1 * p.2) (by omega), w64 (by omega), T119_sgn]
  rfl
theorem T113_side (N : Nat) {p s : P2} (hp : PartOk p) (hs : ShOk s) : T113 N (p, s) = some (sideI p s) := by
  obtain ⟨b1, b2⟩ := ps_bound hp hs
  rw [T113_eq, w64 (x := p.1 * s.2) (by omega), w64 (x := s.1 * p.2) (by omega)]
  unfold sideI sgn
  by_cases h1 : p.1 * s.2 < s.1 * p.2
  · have : p.1 * s.2 - s.1 * p.2 < 0 := by omega
    simp [h1, this]
  · have h1' : ¬ p.1 * s.2 - s.1 * p.2 < 0 := by omega
    by_cases h2 : p.1 * s.2 > s.1 * p.2
    · have : p.1 * s.2 - s.1 * p.2 > 0 := by omega
      simp [h1, h1', h2, this]
    · have : ¬ p.1 * s.2 - s.1 * p.2 > 0 := by omega
      simp [h1, h1', h2, this]
theorem T141_less (N : Nat) {p q : P2} (hp : PartOk p) (hq : PartOk q) : T141 N (p, q) = some (lessP p q) := by
  obtain ⟨b1, b2⟩ := pp_bound hp hq
  rw [T141_eq, w64 (x := p.1 * q.2) (by omega), w64 (x := q.1 * p.2) (by omega)]
  rfl
theorem T114_less (N : Nat) {p q : P2} (hp : PartOk p) (hq : PartOk q) : T114 N (p, q) = some (lessP p q) := by
  obtain ⟨b1, b2⟩ := pp_bound hp hq
  rw [T114_eq, w64 (x := p.1 * q.2) (by omega), w64 (x := q.1 * p.2) (by omega)]
  rfl

/-! ### The steps of both searches -/

def low1 (p : P2) : Bool := decide ((Int.gcd p.1 p.2 : Int) = 1)
def refS (s : P2) (st : P2 × P2) (p : P2) : P2 × P2 :=
  if low1 p = true then (if sideI p s ≤ 0 ∧ lessP st.1 p = true then p else st.1, if sideI p s ≥ 0 ∧ lessP p st.2 = true then p else st.2) else st
def prgS (s : P2) (st : P2 × P2) (p : P2) : (P2 × P2) ⊕ (P2 × P2) :=
  if low1 p = true then (if sideI p s = 0 then .inr (p, p) else .inl (if sideI p s < 0 ∧ lessP st.1 p = true then p else st.1, if sideI p s > 0 ∧ lessP p st.2 = true then p else st.2)) else .inl st

/-- What holds of both parts found. -/
structure InvN (s : P2) (st : P2 × P2) : Prop where
  a : PartOk st.1
  b : PartOk st.2
  ga : low1 st.1 = true
  gb : low1 st.2 = true
  sa : sideI st.1 s ≤ 0
  sb : sideI st.2 s ≥ 0
/-- The share itself is found. -/
def DoneN (s : P2) (st : P2 × P2) : Prop := st.1 = st.2 ∧ PartOk st.1 ∧ sideI st.1 s = 0

theorem side_le {p s : P2} : sideI p s ≤ 0 ↔ p.1 * s.2 ≤ s.1 * p.2 := by
  unfold sideI
  constructor
  · intro h
    have : ¬ sgn (p.1 * s.2 - s.1 * p.2) > 0 := by omega
    rw [sgn_pos] at this
    omega
  · intro h
    have : ¬ sgn (p.1 * s.2 - s.1 * p.2) > 0 := by rw [sgn_pos]; omega
    omega
theorem side_ge {p s : P2} : sideI p s ≥ 0 ↔ p.1 * s.2 ≥ s.1 * p.2 := by
  unfold sideI
  constructor
  · intro h
    have : ¬ sgn (p.1 * s.2 - s.1 * p.2) < 0 := by omega
    rw [sgn_neg] at this
    omega
  · intro h
    have : ¬ sgn (p.1 * s.2 - s.1 * p.2) < 0 := by rw [sgn_neg]; omega
    omega

/-- Fractions below, at and above a share are ordered. -/
theorem order_of {p q s : P2} (hp : PartOk p) (hq : PartOk q) (hs : ShOk s) (h1 : sideI p s ≤ 0) (h2 : sideI q s ≥ 0) : p.1 * q.2 ≤ q.1 * p.2 := by
  rw [side_le] at h1
  rw [side_ge] at h2
  obtain ⟨p1, p2, p3, p4⟩ := hp
  obtain ⟨q1, q2, q3, q4⟩ := hq
  obtain ⟨s1, s2, s3, s4⟩ := hs
  -- p1*s2 ≤ s1*p2, s1*q2 ≤ q1*s2
  have a1 : p.1 * s.2 * q.2 ≤ s.1 * p.2 * q.2 := Int.mul_le_mul_of_nonneg_right h1 (by omega)
  have a2 : s.1 * q.2 * p.2 ≤ q.1 * s.2 * p.2 := Int.mul_le_mul_of_nonneg_right h2 (by omega)
  have e1 : p.1 * s.2 * q.2 = p.1 * q.2 * s.2 := by rw [Int.mul_assoc, Int.mul_comm s.2, ← Int.mul_assoc]
  have e2 : q.1 * s.2 * p.2 = q.1 * p.2 * s.2 := by rw [Int.mul_assoc, Int.mul_comm s.2, ← Int.mul_assoc]
  have e3 : s.1 * p.2 * q.2 = s.1 * q.2 * p.2 := by rw [Int.mul_assoc, Int.mul_comm p.2, ← Int.mul_assoc]
  have : p.1 * q.2 * s.2 ≤ q.1 * p.2 * s.2 := by omega
  exact Int.le_of_mul_le_mul_right this (by omega)

/-- Equal fractions in lowest terms are equal parts. -/
theorem eq_of_cross {p q : P2} (hp : PartOk p) (hq : PartOk q) (gp : low1 p = true) (gq : low1 q = true) (h : p.1 * q.2 = q.1 * p.2) : p = q := by
  obtain ⟨p1, p2, p3, p4⟩ := hp
  obtain ⟨q1, q2, q3, q4⟩ := hq
  have gp' : Int.gcd p.1 p.2 = 1 := by have := of_decide_eq_true gp; omega
  have gq' : Int.gcd q.1 q.2 = 1 := by have := of_decide_eq_true gq; omega
  obtain ⟨pa, pb⟩ := p
  obtain ⟨qa, qb⟩ := q
  simp only at *
  obtain ⟨a, rfl⟩ := Int.eq_ofNat_of_zero_le p1
  obtain ⟨b, rfl⟩ := Int.eq_ofNat_of_zero_le (show 0 ≤ pb by omega)
  obtain ⟨c, rfl⟩ := Int.eq_ofNat_of_zero_le q1
  obtain ⟨d, rfl⟩ := Int.eq_ofNat_of_zero_le (show 0 ≤ qb by omega)
  have gp2 : Nat.Coprime a b := gp'
  have gq2 : Nat.Coprime c d := gq'
  have h' : a * d = c * b := by
    have h2 : ((a * d : Nat) : Int) = ((c * b : Nat) : Int) := by rw [Int.natCast_mul, Int.natCast_mul]; exact h
    omega
  have d1 : b ∣ d := (Nat.Coprime.symm gp2).dvd_of_dvd_mul_left (by rw [h']; exact Nat.dvd_mul_left ..)
  have d2 : d ∣ b := (Nat.Coprime.symm gq2).dvd_of_dvd_mul_left (by rw [← h']; exact Nat.dvd_mul_left ..)
  have e2 : b = d := Nat.dvd_antisymm d1 d2
  subst e2
  have e1 : a = c := Nat.eq_of_mul_eq_mul_right (by omega) h'
  rw [e1]

theorem step_same {s p : P2} {st : P2 × P2} (hs : ShOk s) (hp : PartOk p) (h : InvN s st) :
    (∀ st', prgS s st p = .inl st' → refS s st p = st' ∧ InvN s st') ∧ (∀ t, prgS s st p = .inr t → refS s st p = t ∧ DoneN s t) := by
  unfold prgS refS
  by_cases hg : low1 p = true
  · rw [if_pos hg, if_pos hg]
    by_cases h0 : sideI p s = 0
    · rw [if_pos h0]
      refine ⟨fun st' e => (Sum.inr_ne_inl e).elim, fun t e => ?_⟩
      have e := Sum.inr.inj e
      subst e
      have ha : (if sideI p s ≤ 0 ∧ lessP st.1 p = true then p else st.1) = p := by
        by_cases hl : lessP st.1 p = true
        · rw [if_pos ⟨by omega, hl⟩]
        · rw [if_neg (fun x => hl x.2)]
          have o := order_of h.a hp hs h.sa (by omega)
          have : ¬ st.1.1 * p.2 < p.1 * st.1.2 := fun e => hl (decide_eq_true e)
          exact eq_of_cross h.a hp h.ga hg (by omega)
      have hb : (if sideI p s ≥ 0 ∧ lessP p st.2 = true then p else st.2) = p := by
        by_cases hl : lessP p st.2 = true
        · rw [if_pos ⟨by omega, hl⟩]
        · rw [if_neg (fun x => hl x.2)]
          have o := order_of hp h.b hs (by omega) h.sb
          have : ¬ p.1 * st.2.2 < st.2.1 * p.2 := fun e => hl (decide_eq_true e)
          exact eq_of_cross h.b hp h.gb hg (by omega)
      rw [ha, hb]
      exact ⟨rfl, rfl, hp, h0⟩
    · rw [if_neg h0]
      refine ⟨fun st' e => ?_, fun t e => (Sum.inl_ne_inr e).elim⟩
      have e := Sum.inl.inj e
      subst e
      have e1 : (sideI p s ≤ 0 ∧ lessP st.1 p = true) ↔ (sideI p s < 0 ∧ lessP st.1 p = true) := ⟨fun ⟨x, y⟩ => ⟨by omega, y⟩, fun ⟨x, y⟩ => ⟨by omega, y⟩⟩
      have e2 : (sideI p s ≥ 0 ∧ lessP p st.2 = true) ↔ (sideI p s > 0 ∧ lessP p st.2 = true) := ⟨fun ⟨x, y⟩ => ⟨by omega, y⟩, fun ⟨x, y⟩ => ⟨by omega, y⟩⟩
      refine ⟨by simp only [e1, e2], ?_⟩
      obtain ⟨a, b, ga, gb, sa, sb⟩ := h
      by_cases c1 : sideI p s < 0 ∧ lessP st.1 p = true <;> by_cases c2 : sideI p s > 0 ∧ lessP p st.2 = true
      · omega
      · rw [if_pos c1, if_neg c2]; exact ⟨hp, b, hg, gb, by show sideI p s ≤ 0; omega, sb⟩
      · rw [if_neg c1, if_pos c2]; exact ⟨a, hp, ga, hg, sa, by show sideI p s ≥ 0; omega⟩
      · rw [if_neg c1, if_neg c2]; exact ⟨a, b, ga, gb, sa, sb⟩
  · rw [if_neg hg, if_neg hg]
    exact ⟨fun st' e => by have e := Sum.inl.inj e; subst e; exact ⟨rfl, h⟩, fun t e => (Sum.inl_ne_inr e).elim⟩

theorem done_step {s p : P2} {st : P2 × P2} (hs : ShOk s) (hp : PartOk p) (h : DoneN s st) : refS s st p = st := by
  obtain ⟨h1, h2, h3⟩ := h
  obtain ⟨x, y⟩ := st
  simp only at h1 h2 h3
  subst h1
  unfold refS
  by_cases hg : low1 p = true
  · rw [if_pos hg]
    have n1 : ¬ (sideI p s ≤ 0 ∧ lessP x p = true) := by
      intro ⟨a, b⟩
      have b := of_decide_eq_true b
      have := order_of hp h2 hs a (by omega)
      omega
    have n2 : ¬ (sideI p s ≥ 0 ∧ lessP p x = true) := by
      intro ⟨a, b⟩
      have b := of_decide_eq_true b
      have := order_of h2 hp hs (by omega) a
      omega
    rw [if_neg n1, if_neg n2]
  · rw [if_neg hg]

/-- Folds of two kinds in step: either goes on as the other, or has found and stays. -/
theorem fold_same {α S : Type} {Inv Done : S → Prop} {rf : S → α → S} {pf : S → α → S ⊕ S} : ∀ (l : List α) (st : S),
    (∀ st a, a ∈ l → Inv st → (∀ st', pf st a = .inl st' → rf st a = st' ∧ Inv st') ∧ (∀ t, pf st a = .inr t → rf st a = t ∧ Done t)) →
    (∀ st a, a ∈ l → Done st → rf st a = st) → Inv st →
    (∀ st', foldI pf st l = .inl st' → l.foldl rf st = st' ∧ Inv st') ∧ (∀ t, foldI pf st l = .inr t → l.foldl rf st = t ∧ Done t)
  | [], st, _, _, hI => ⟨fun st' e => by have e := Sum.inl.inj e; subst e; exact ⟨rfl, hI⟩, fun t e => (Sum.inl_ne_inr e).elim⟩
  | a :: l, st, h1, h2, hI => by
    obtain ⟨k1, k2⟩ := h1 st a (by simp) hI
    have stay : ∀ (l' : List α) (t : S), (∀ a ∈ l', ∀ st, Done st → rf st a = st) → Done t → l'.foldl rf t = t := by
      intro l'
      induction l' with
      | nil => intro t _ _; rfl
      | cons b l' ih => intro t hb ht; rw [List.foldl_cons, hb b (by simp) t ht]; exact ih t (fun a ha => hb a (by simp [ha])) ht
    simp only [foldI, List.foldl_cons]
    cases hp : pf st a with
    | inl st1 =>
      obtain ⟨q1, q2⟩ := k1 st1 hp
      rw [q1]
      exact fold_same l st1 (fun st a ha => h1 st a (by simp [ha])) (fun st a ha => h2 st a (by simp [ha])) q2
    | inr t1 =>
      obtain ⟨q1, q2⟩ := k2 t1 hp
      rw [q1]
      refine ⟨fun st' e => (Sum.inr_ne_inl e).elim, fun t e => ?_⟩
      have e := Sum.inr.inj e
      subst e
      exact ⟨stay l t1 (fun a ha st hd => h2 st a (by simp [ha]) hd) q2, q2⟩

/-- The parts of so many letters. -/
def partsK (k : Nat) : List P2 := (List.range (k + 2)).map fun (b : Nat) => ((b : Int), ((k + 1 : Nat) : Int))
theorem partsK_ok {k : Nat} (hk : k < 64) : ∀ p ∈ partsK k, PartOk p := by
  intro p hp
  obtain ⟨b, hb, rfl⟩ := List.mem_map.1 hp
  rw [List.mem_range] at hb
  exact ⟨by simp, by simp only; omega, by simp only; omega, by simp only; omega⟩
theorem partsK_length (k : Nat) : (partsK k).length = k + 2 := by simp [partsK]
theorem partsK_get (k b : Nat) (h : b < (partsK k).length) : (partsK k)[b] = ((b : Int), ((k + 1 : Nat) : Int)) := by simp [partsK]

def start : P2 × P2 := ((0, 1), (1, 1))
theorem start_inv {s : P2} (hs : ShOk s) : InvN s start := by
  obtain ⟨s1, s2, s3, s4⟩ := hs
  refine ⟨⟨by decide, by decide, by decide, by decide⟩, ⟨by decide, by decide, by decide, by decide⟩, by decide, by decide, ?_, ?_⟩
  · rw [side_le]; simp only [start]; omega
  · rw [side_ge]; simp only [start]; omega

/-- The neighbours. -/
def neigh (s : P2) (n : Nat) : P2 × P2 := (List.range n).foldl (fun st k => (partsK k).foldl (refS s) st) start

theorem prog_neigh {s : P2} (hs : ShOk s) {n : Nat} (hn : n ≤ 64) : (∀ st', foldI (fun st k => foldI (prgS s) st (partsK k)) start (List.range n) = .inl st' → st' = neigh s n) ∧ (∀ t, foldI (fun st k => foldI (prgS s) st (partsK k)) start (List.range n) = .inr t → t = neigh s n) := by
  have := fold_same (Inv := InvN s) (Done := DoneN s) (rf := fun st k => (partsK k).foldl (refS s) st) (pf := fun st k => foldI (prgS s) st (partsK k)) (List.range n) start
    (fun st k hk hI => by
      rw [List.mem_range] at hk
      exact fold_same (partsK k) st (fun st a ha hI => step_same hs (partsK_ok (by omega) a ha) hI) (fun st a ha hd => done_step hs (partsK_ok (by omega) a ha) hd) hI)
    (fun st k hk hd => by
      rw [List.mem_range] at hk
      have stay : ∀ (l' : List P2) (t : P2 × P2), (∀ a ∈ l', PartOk a) → DoneN s t → l'.foldl (refS s) t = t := by
        intro l'
        induction l' with
        | nil => intro t _ _; rfl
        | cons b l' ih => intro t hb ht; rw [List.foldl_cons, done_step hs (hb b (by simp)) ht]; exact ih t (fun a ha => hb a (by simp [ha])) ht
      exact stay (partsK k) st (partsK_ok (by omega)) hd) (start_inv hs)
  exact ⟨fun st' e => (this.1 st' e).1.symm, fun t e => (this.2 t e).1.symm⟩

/-! ### The reference's loops -/

def StOk (st : P2 × P2) : Prop := PartOk st.1 ∧ PartOk st.2
theorem refS_ok {s p : P2} {st : P2 × P2} (hp : PartOk p) (h : StOk st) : StOk (refS s st p) := by
  unfold refS
  split
  · refine ⟨?_, ?_⟩
    · simp only; split; exact hp; exact h.1
    · simp only; split; exact hp; exact h.2
  · exact h
theorem foldl_ok {s : P2} : ∀ (l : List P2) (st : P2 × P2), (∀ p ∈ l, PartOk p) → StOk st → StOk (l.foldl (refS s) st)
  | [], st, _, h => h
  | p :: l, st, hl, h => foldl_ok l _ (fun q hq => hl q (by simp [hq])) (refS_ok (hl p (by simp)) h)

section
variable {N : Nat} (hN : Big N) {s : P2} (hs : ShOk s)
include hN hs

theorem R58_inner (k : Nat) (hk : k < 64) (st : P2 × P2) (h : StOk st) (v2 : Int × Int × Int × Int × Int) (hv : v2.1 = ((k + 1 : Nat) : Int)) :
    loopR (V := Int × Int × Int × Int × Int) (X := (Int × Int × Int × Int)) (R58x7826 N s v2) N (0, st.1.1, st.1.2, st.2.1, st.2.2) = some (((partsK k).foldl (refS s) st).1.1, ((partsK k).foldl (refS s) st).1.2, ((partsK k).foldl (refS s) st).2.1, ((partsK k).foldl (refS s) st).2.2) := by
  have key := loopR_foldl (rd := R58x7826 N s v2) (partsK k) (fun (st : P2 × P2) b => ((b : Int), st.1.1, st.1.2, st.2.1, st.2.2)) (refS s) (fun st => (st.1.1, st.1.2, st.2.1, st.2.2)) (fun st _ => StOk st)
    (fun st b hb hP => by
      have hp := partsK_ok hk _ (List.getElem_mem hb)
      refine ⟨?_, refS_ok hp hP⟩
      rw [partsK_get] at hp ⊢
      rw [partsK_length] at hb
      have hle : decide ((b : Int) ≤ ((k + 1 : Nat) : Int)) = true := by simp only [decide_eq_true_eq]; omega
      have g := T62_gcd hN (a := (b : Int)) (b := ((k + 1 : Nat) : Int)) (by omega) (by omega) (by omega)
      obtain ⟨ha, hb'⟩ := hP
      have hbw := w_succ (show b < 9223372036854775807 by omega)
      generalize ((b + 1 : Nat) : Int) = B1 at *
      generalize ((k + 1 : Nat) : Int) = L at *
      simp only [R58x7826, hv, hle, cond_true, g, Option.bind_some, T113_side N hp hs, hbw]
      unfold refS low1
      simp only
      by_cases hg : (Int.gcd (b : Int) L : Int) = 1
      · have hg' : ((Int.gcd (b : Int) L : Int) != 1) = false := by simpa using hg
        have t1 : T114 N ((st.1.1, st.1.2), ((b : Int), L)) = some (lessP st.1 ((b : Int), L)) := T114_less N ha hp
        have t2 : T114 N (((b : Int), L), (st.2.1, st.2.2)) = some (lessP ((b : Int), L) st.2) := T114_less N hp hb'
        simp only [hg', cond_false, t1, t2, Option.bind_some, hg, decide_true, if_true]
        generalize sideI ((b : Int), L) s = c
        by_cases c1 : c ≤ 0
        · by_cases c2 : c ≥ 0
          · cases lessP st.1 ((b : Int), L) <;> cases lessP ((b : Int), L) st.2 <;> simp [c1, c2]
          · cases lessP st.1 ((b : Int), L) <;> simp [c1, c2]
        · by_cases c2 : c ≥ 0
          · cases lessP ((b : Int), L) st.2 <;> simp [c1, c2]
          · simp [c1, c2]
      · have hg' : ((Int.gcd (b : Int) L : Int) != 1) = true := by simpa using hg
        simp [hg, hg'])
    (fun st _ => by
      have hle : ¬ (((partsK k).length : Nat) : Int) ≤ ((k + 1 : Nat) : Int) := by rw [partsK_length]; omega
      simp only [R58x7826, hv, hle, decide_false, cond_false]) N st 0 (Nat.zero_le _) (by rw [partsK_length]; unfold Big at hN; omega) h
  rw [List.drop_zero] at key
  exact key

theorem T58_loop (n : Nat) (hn : n ≤ 64) : loopR (V := Int × Int × Int × Int × Int) (X := (Int × Int × Int × Int)) (R58x122 N (n : Int) s) N (1, 0, 1, 1, 1) = some ((neigh s n).1.1, (neigh s n).1.2, (neigh s n).2.1, (neigh s n).2.2) := by
  have key := loopR_foldl (rd := R58x122 N (n : Int) s) (List.range n) (fun (st : P2 × P2) k => (((k + 1 : Nat) : Int), st.1.1, st.1.2, st.2.1, st.2.2)) (fun st k => (partsK k).foldl (refS s) st) (fun st => (st.1.1, st.1.2, st.2.1, st.2.2)) (fun st _ => StOk st)
    (fun st k hk hP => by
      rw [List.length_range] at hk
      have e : (List.range n)[k]'(by rw [List.length_range]; exact hk) = k := List.getElem_range _
      rw [e]
      refine ⟨?_, foldl_ok _ _ (partsK_ok (by omega)) hP⟩
      have hle : decide (((k + 1 : Nat) : Int) ≤ (n : Int)) = true := by simp only [decide_eq_true_eq]; omega
      have inner := R58_inner hN hs k (by omega) st hP (((k + 1 : Nat) : Int), st.1.1, st.1.2, st.2.1, st.2.2) rfl
      simp only [R58x122, hle, cond_true, inner, Option.bind_some, w_succ (show k + 1 < 9223372036854775807 by omega)])
    (fun st _ => by
      have hle : ¬ (((List.range n).length + 1 : Nat) : Int) ≤ (n : Int) := by rw [List.length_range]; omega
      simp only [R58x122, hle, decide_false, cond_false]) N start 0 (Nat.zero_le _) (by rw [List.length_range]; unfold Big at hN; omega) ⟨⟨by decide, by decide, by decide, by decide⟩, ⟨by decide, by decide, by decide, by decide⟩⟩
  rw [List.drop_zero] at key
  exact key

/-! ### The program's loops -/

theorem prgS_ok {p : P2} {st : P2 × P2} (hp : PartOk p) (h : StOk st) : ∀ st', prgS s st p = .inl st' → StOk st' := by
  intro st' e
  unfold prgS at e
  split at e
  · split at e
    · cases e
    · have e := Sum.inl.inj e
      subst e
      refine ⟨?_, ?_⟩
      · simp only; split; exact hp; exact h.1
      · simp only; split; exact hp; exact h.2
  · have e := Sum.inl.inj e
    subst e
    exact h

abbrev Seven := Int × Int × Int × Int × Int × Int × Int
def seven (s : P2) (st : P2 × P2) (n : Int) : Seven := (s.1, s.2, st.1.1, st.1.2, st.2.1, st.2.2, n)

theorem R107_inner (n : Int) (k : Nat) (hk : k < 64) (st : P2 × P2) (h : StOk st) (v1 : Int × Int × Int × Int × Int × Int × Int × Int) (hv : v1.1 = ((k + 1 : Nat) : Int)) :
    loopR (V := Int × Int × Int × Int × Int × Int × Int × Int) (X := (Int × Int × Int × Int × Int × Int × Int) ⊕ (Int × Int × Int × Int × Int × Int × Int)) (R107x142x402 N v1) N (0, seven s st n) = some (Sum.elim (fun st => .inr (seven s st n)) (fun st => .inl (seven s st n)) (foldI (prgS s) st (partsK k))) := by
  have key := loopR_fold (rd := R107x142x402 N v1) (X := (Int × Int × Int × Int × Int × Int × Int) ⊕ (Int × Int × Int × Int × Int × Int × Int)) (partsK k) (fun (st : P2 × P2) b => ((b : Int), seven s st n)) (prgS s) (fun st => .inr (seven s st n)) (fun st => .inl (seven s st n)) (fun st _ => StOk st)
    (fun st b hb hP => by
      have hp := partsK_ok hk _ (List.getElem_mem hb)
      refine ⟨?_, prgS_ok hN hs hp hP⟩
      rw [partsK_get] at hp ⊢
      rw [partsK_length] at hb
      have hw1 : IntKind.wrap .i64 (((k + 1 : Nat) : Int) + 1) = ((k + 1 + 1 : Nat) : Int) := w_succ (by omega)
      have hle : decide ((b : Int) < ((k + 1 + 1 : Nat) : Int)) = true := by simp only [decide_eq_true_eq]; omega
      have g := T128_gcd hN (a := (b : Int)) (b := ((k + 1 : Nat) : Int)) (by omega) (by omega) (by omega)
      obtain ⟨ha, hb'⟩ := hP
      have hbw := w_succ (show b < 9223372036854775807 by omega)
      generalize ((k + 1 + 1 : Nat) : Int) = L1 at *
      generalize ((b + 1 : Nat) : Int) = B1 at *
      generalize ((k + 1 : Nat) : Int) = L at *
      have t0 : T109 N (((b : Int), L), (s.1, s.2)) = some (sideI ((b : Int), L) s) := T109_side N hp hs
      simp only [R107x142x402, seven, hv, hw1, hle, cond_true, g, Option.bind_some, t0, hbw]
      unfold prgS low1
      simp only
      by_cases hg : (Int.gcd (b : Int) L : Int) = 1
      · have hg' : ((Int.gcd (b : Int) L : Int) != 1) = false := by simpa using hg
        have t1 : T141 N ((st.1.1, st.1.2), ((b : Int), L)) = some (lessP st.1 ((b : Int), L)) := T141_less N ha hp
        have t2 : T141 N (((b : Int), L), (st.2.1, st.2.2)) = some (lessP ((b : Int), L) st.2) := T141_less N hp hb'
        simp only [hg', cond_false, t1, t2, Option.bind_some, hg, decide_true, if_true]
        generalize sideI ((b : Int), L) s = c
        by_cases c0 : c = 0
        · simp [c0]
        · have c0' : (c == 0) = false := by simpa using c0
          by_cases c1 : c < 0
          · have c2 : ¬ c > 0 := by omega
            cases lessP st.1 ((b : Int), L) <;> simp [c0, c0', c1, c2, t2]
          · have c2 : c > 0 := by omega
            cases hl : lessP ((b : Int), L) st.2 <;> simp [c0, c0', c1, c2, t2, hl]
      · have hg' : ((Int.gcd (b : Int) L : Int) != 1) = true := by simpa using hg
        simp [hg, hg'])
    (fun st _ => by
      have hw1 : IntKind.wrap .i64 (((k + 1 : Nat) : Int) + 1) = ((k + 1 + 1 : Nat) : Int) := w_succ (by omega)
      have hle : ¬ (((partsK k).length : Nat) : Int) < ((k + 1 + 1 : Nat) : Int) := by rw [partsK_length]; omega
      simp only [R107x142x402, seven, hv, hw1, hle, decide_false, cond_false]) N st 0 (Nat.zero_le _) (by rw [partsK_length]; unfold Big at hN; omega) h
  rw [List.drop_zero] at key
  exact key

theorem T107_neigh (n : Nat) (hn : n ≤ 64) : T107 N (s, (n : Int)) = some ((neigh s n).1.1, (neigh s n).1.2, (neigh s n).2.1, (neigh s n).2.2) := by
  rw [T107_eq]
  have key := loopR_fold (rd := R107x142x6 N) (X := (Int × Int × Int × Int × Int × Int × Int) ⊕ (Int × Int × Int × Int × Int × Int × Int)) (List.range n) (fun (st : P2 × P2) k => (((k + 1 : Nat) : Int), seven s st (n : Int))) (fun st k => foldI (prgS s) st (partsK k)) (fun st => .inr (seven s st (n : Int))) (fun st => .inl (seven s st (n : Int))) (fun st _ => StOk st)
    (fun st k hk hP => by
      rw [List.length_range] at hk
      have e : (List.range n)[k]'(by rw [List.length_range]; exact hk) = k := List.getElem_range _
      rw [e]
      have hle : decide (((k + 1 : Nat) : Int) ≤ (n : Int)) = true := by simp only [decide_eq_true_eq]; omega
      have inner := R107_inner hN hs (n : Int) k (by omega) st hP (((k + 1 : Nat) : Int), seven s st (n : Int)) rfl
      refine ⟨?_, fun st' h' => ?_⟩
      · have inner' : loopR (V := Int × Int × Int × Int × Int × Int × Int × Int) (X := (Int × Int × Int × Int × Int × Int × Int) ⊕ (Int × Int × Int × Int × Int × Int × Int)) (R107x142x402 N (((k + 1 : Nat) : Int), seven s st (n : Int))) N (0, s.1, s.2, st.1.1, st.1.2, st.2.1, st.2.2, (n : Int)) = _ := inner
        have hle' : decide ((((k + 1 : Nat) : Int), seven s st (n : Int)).1 ≤ (((k + 1 : Nat) : Int), seven s st (n : Int)).2.2.2.2.2.2.2) = true := hle
        unfold R107x142x6
        rw [hle', cond_true]
        show (loopR (V := Int × Int × Int × Int × Int × Int × Int × Int) (X := (Int × Int × Int × Int × Int × Int × Int) ⊕ (Int × Int × Int × Int × Int × Int × Int)) (R107x142x402 N (((k + 1 : Nat) : Int), seven s st (n : Int))) N (0, s.1, s.2, st.1.1, st.1.2, st.2.1, st.2.2, (n : Int))).bind _ = _
        rw [inner', Option.bind_some]
        cases foldI (prgS s) st (partsK k) with
        | inl st' => simp only [Sum.elim_inl, Sum.elim_inr, Sum.map_inl]; rw [w_succ (show k + 1 < 9223372036854775807 by omega)]
        | inr st' => rfl
      · have : ∀ (l : List P2) (st : P2 × P2), (∀ p ∈ l, PartOk p) → StOk st → ∀ st', foldI (prgS s) st l = .inl st' → StOk st' := by
          intro l
          induction l with
          | nil => intro st _ h st' e; have e := Sum.inl.inj e; subst e; exact h
          | cons p l ih =>
            intro st hl h st' e
            simp only [foldI] at e
            cases hp : prgS s st p with
            | inl st1 => rw [hp] at e; exact ih st1 (fun q hq => hl q (by simp [hq])) (prgS_ok hN hs (hl p (by simp)) h st1 hp) st' e
            | inr t => rw [hp] at e; cases e
        exact this _ _ (partsK_ok (by omega)) hP st' h')
    (fun st _ => by
      have hle : ¬ (((List.range n).length + 1 : Nat) : Int) ≤ (n : Int) := by rw [List.length_range]; omega
      simp only [R107x142x6, seven, hle, decide_false, cond_false]) N start 0 (Nat.zero_le _) (by rw [List.length_range]; unfold Big at hN; omega) ⟨⟨by decide, by decide, by decide, by decide⟩, ⟨by decide, by decide, by decide, by decide⟩⟩
  rw [List.drop_zero] at key
  have key' : loopR (V := Int × Int × Int × Int × Int × Int × Int × Int) (X := (Int × Int × Int × Int × Int × Int × Int) ⊕ (Int × Int × Int × Int × Int × Int × Int)) (R107x142x6 N) N (1, s.1, s.2, 0, 1, 1, 1, (n : Int)) = _ := key
  rw [key']
  obtain ⟨p1, p2⟩ := prog_neigh hs hn
  cases hf : foldI (fun st k => foldI (prgS s) st (partsK k)) start (List.range n) with
  | inl st' => rw [p1 st' hf]; rfl
  | inr t => rw [p2 t hf]; rfl
end
end Go.Proofs.YtbfappllfpngdaaGreatDoor
