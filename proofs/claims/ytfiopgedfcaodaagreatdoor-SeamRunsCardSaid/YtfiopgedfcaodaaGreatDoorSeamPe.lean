/- Plain laws: edges. -/
import Derived.Test.YtfiopgedfcaodaaGreatDoorSeamTe
import Derived.Test.YtfiopgedfcaodaaGreatDoorSeamP
set_option linter.all false
namespace Go.Proofs.YtfiopgedfcaodaaGreatDoor
open Go Go.Am
set_option maxRecDepth 100000

theorem ofInt_wrap (n : Nat) (h : n < 18446744073709551616) : (BitVec.ofInt 64 (IntKind.wrap .i64 (n : Int))).toNat = n := by
  rw [BitVec.toNat_ofInt, IntKind.wrap_i64]
  omega
theorem xor2 (a b : Nat) : (a ^^^ b) % 2 = (a + b) % 2 := by
  have h := Nat.xor_mod_two_pow (a := a) (b := b) (n := 1)
  rw [Nat.pow_one] at h
  rw [h]
  rcases Nat.mod_two_eq_zero_or_one a with ha | ha <;> rcases Nat.mod_two_eq_zero_or_one b with hb | hb <;> rw [ha, hb] <;> simp <;> omega
theorem odd_eq (x y : Int) : (andI .i64 (xorI .i64 x y) 1 != 0) = decide ((x + y) % 2 ≠ 0) := by
  have h1 : (BitVec.ofInt 64 x ^^^ BitVec.ofInt 64 y).toNat < 18446744073709551616 := (BitVec.ofInt 64 x ^^^ BitVec.ofInt 64 y).isLt
  have h2 : (BitVec.ofInt 64 1).toNat = 1 := by decide
  have h3 : andI .i64 (xorI .i64 x y) 1 = IntKind.wrap .i64 ((((BitVec.ofInt 64 x ^^^ BitVec.ofInt 64 y).toNat % 2 : Nat)) : Int) := by
    show IntKind.wrap .i64 (((BitVec.ofInt 64 (IntKind.wrap .i64 (((BitVec.ofInt 64 x ^^^ BitVec.ofInt 64 y).toNat : Nat) : Int)) &&& BitVec.ofInt 64 1).toNat : Nat) : Int) = _
    rw [BitVec.toNat_and, ofInt_wrap _ h1, h2, Nat.and_one_is_mod]
  rw [h3, w64 (by omega), BitVec.toNat_xor, xor2, BitVec.toNat_ofInt, BitVec.toNat_ofInt]
  have e : ((((x % ((2 ^ 64 : Nat) : Int)).toNat + (y % ((2 ^ 64 : Nat) : Int)).toNat) % 2 : Nat) : Int) = (x + y) % 2 := by omega
  rw [e]
  by_cases h : (x + y) % 2 = 0 <;> simp [h]

def knotErr (p : Int × Int) : Int := if p.1 < -100000 ∨ p.1 > 100000 ∨ p.2 < -100000 ∨ p.2 > 100000 then 3 else if (p.1 + p.2) % 2 = 0 then 0 else 14

theorem T169_when (N : Nat) (b : Bool) (e : Int) : T169 N (b, e) = some (if b then e else 0) := by rw [T169_eq]; cases b <;> rfl
theorem T198_rng (N : Nat) (n lo hi : Int) : T198 N (n, lo, hi) = some (rng n lo hi) := by
  rw [T198_eq, T169_when, T169_when]
  unfold rng
  by_cases h1 : n < lo
  · simp [h1]
  · by_cases h2 : n > hi <;> simp [h1, h2]
theorem T167_first {N : Nat} (hN : Big N) (l : List Int) (hl : l.length ≤ 9223372036854775806) : T167 N l = some (firstNZ l) := by
  obtain ⟨o, h1, h2⟩ := first_loop (rd := R167x26 N l) l (fun k hk => by
    have hd := nthD_map n24 l k hk
    have e1 : d24 (nthD (List.map n24 l) k) = l[k] := by rw [hd]; rfl
    have e2 : Pat.fits p24 (nthD (List.map n24 l) k) = true := by rw [hd]; rfl
    simp only [R167x26, List.length_map, Int.toNat_natCast, e1, e2, w_succ (show k < 9223372036854775807 by omega), lt_range hk, in_range hk, Bool.and_self, cond_true]
    by_cases hz : l[k] = 0
    · simp [hz]
    · simp [hz, Bool.cond_eq_ite]) (by simp only [R167x26, List.length_map, ge_range, cond_false]) N (by unfold Big at hN; omega)
  rw [T167_eq, h1, Option.bind_some]
  rcases o with o | o
  · simpa using h2
  · simpa using h2
theorem T130_knot {N : Nat} (hN : Big N) (p : Int × Int) : T130 N p = some (knotErr p) := by
  rw [T130_eq, T171_eq]
  simp only [T198_rng, Option.bind_some, beq_self_eq_true, Bool.and_self, cond_true]
  rw [two24]
  simp only [Option.bind_some]
  rw [T167_first hN _ (by simp)]
  simp only [Option.bind_some, T169_when, odd_eq]
  rw [two24]
  simp only [Option.bind_some]
  rw [T167_first hN _ (by simp)]
  simp only [Option.bind_some]
  congr 1
  unfold knotErr rng
  simp only [firstNZ]
  by_cases h1 : p.1 < -100000 ∨ p.1 > 100000
  · have h : p.1 < -100000 ∨ p.1 > 100000 ∨ p.2 < -100000 ∨ p.2 > 100000 := by omega
    simp [h, h1]
  · by_cases h2 : p.2 < -100000 ∨ p.2 > 100000
    · have h : p.1 < -100000 ∨ p.1 > 100000 ∨ p.2 < -100000 ∨ p.2 > 100000 := by omega
      simp [h, h1, h2]
    · have h : ¬ (p.1 < -100000 ∨ p.1 > 100000 ∨ p.2 < -100000 ∨ p.2 > 100000) := by omega
      by_cases h3 : (p.1 + p.2) % 2 = 0 <;> simp [h, h1, h2, h3]

theorem T134_knot (N : Nat) (p : Int × Int) : T134 N p = some (knotErr p) := by
  rw [T134_eq, T173_eq, T173_eq, T174_eq]
  unfold knotErr
  by_cases h : p.1 < -100000 ∨ p.1 > 100000 ∨ p.2 < -100000 ∨ p.2 > 100000
  · rw [if_pos h]
    by_cases h1 : p.1 < -100000 <;> by_cases h2 : p.1 > 100000 <;> by_cases h3 : p.2 < -100000 <;> by_cases h4 : p.2 > 100000 <;> simp [h1, h2, h3, h4] <;> omega
  · rw [if_neg h]
    have h1 : ¬ p.1 < -100000 := by omega
    have h2 : ¬ p.1 > 100000 := by omega
    have h3 : ¬ p.2 < -100000 := by omega
    have h4 : ¬ p.2 > 100000 := by omega
    rw [w64 (x := p.1 + p.2) (by omega)]
    have e : ((Int.tmod (p.1 + p.2) 2) == 0) = decide ((p.1 + p.2) % 2 = 0) := by
      by_cases h5 : (p.1 + p.2) % 2 = 0
      · have : Int.tmod (p.1 + p.2) 2 = 0 := Int.tmod_eq_zero_of_dvd (Int.dvd_of_emod_eq_zero h5)
        simp [h5, this]
      · have : Int.tmod (p.1 + p.2) 2 ≠ 0 := fun e => h5 (Int.emod_eq_zero_of_dvd (Int.dvd_of_tmod_eq_zero e))
        simp [h5, this]
    rw [e]
    by_cases h5 : (p.1 + p.2) % 2 = 0 <;> simp [h1, h2, h3, h4, h5]

/-! ### Searches -/

/-- A search through places. -/
theorem find_loop {Y : Type} {rd : Int → Option (Int ⊕ (Y ⊕ Unit))} (m : Nat) (b : Nat → Bool) (y : Nat → Y)
    (h : ∀ k, k < m → rd (k : Int) = some (if b k then .inr (.inl (y k)) else .inl ((k + 1 : Nat) : Int))) (h0 : rd (m : Int) = some (.inr (.inr ()))) :
    ∀ (n k : Nat), k ≤ m → m < n + k → (∃ j, k ≤ j ∧ j < m ∧ b j = true ∧ loopR rd n (k : Int) = some (.inl (y j))) ∨ ((∀ j, k ≤ j → j < m → b j = false) ∧ loopR rd n (k : Int) = some (.inr ()))
  | 0, k, hk, hn => by omega
  | n + 1, k, hk, hn => by
    rw [loopR_succ]
    by_cases hlt : k < m
    · rw [h k hlt]
      cases hb : b k with
      | true => exact .inl ⟨k, Nat.le_refl _, hlt, hb, rfl⟩
      | false =>
        simp only [Bool.false_eq_true, if_false, Option.bind_some, Sum.elim_inl]
        rcases find_loop m b y h h0 n (k + 1) hlt (by omega) with ⟨j, h1, h2, h3, h4⟩ | ⟨h1, h2⟩
        · exact .inl ⟨j, by omega, h2, h3, h4⟩
        · refine .inr ⟨fun j hj hjm => ?_, h2⟩
          by_cases hjk : j = k
          · rw [hjk]; exact hb
          · exact h1 j (by omega) hjm
    · obtain rfl : k = m := by omega
      rw [h0]
      exact .inr ⟨fun j h1 h2 => by omega, rfl⟩

/-- Whether a knot is in a list. -/
def hasK (l : List (Int × Int)) (p : Int × Int) : Bool := l.any fun q => p.1 == q.1 && (p.2 == q.2 && true)

theorem any_get {α : Type} {l : List α} {f : α → Bool} {j : Nat} (h : j < l.length) (hf : f l[j] = true) : l.any f = true := List.any_eq_true.2 ⟨l[j], List.getElem_mem h, hf⟩
theorem any_none {α : Type} {l : List α} {f : α → Bool} (h : ∀ j (hj : j < l.length), f l[j] = false) : l.any f = false := by
  rw [List.any_eq_false]
  intro x hx
  obtain ⟨j, hj, rfl⟩ := List.getElem_of_mem hx
  rw [h j hj]; decide

theorem T147_has {N : Nat} (hN : Big N) (l : List (Int × Int)) (p : Int × Int) (hl : l.length ≤ 1000000) : T147 N (l, p) = some (hasK l p) := by
  rw [T147_eq]
  simp only [fa87, md87, Bool.and_true, cond_true, Option.bind_some]
  rw [T177_eq]
  have key := find_loop (rd := R177x26 N l p) l.length (fun k => if h : k < l.length then p.1 == l[k].1 && (p.2 == l[k].2 && true) else false) (fun k => (k : Int)) (fun k hk => by
    simp only [R177x26, List.length_map, Int.toNat_natCast, nthD_map n87 l k hk, fn87, dn87, lt_range hk, in_range hk, Bool.and_self, cond_true, w_succ (show k < 9223372036854775807 by omega), hk, dif_pos]
    cases (p.1 == l[k].1 && (p.2 == l[k].2 && true)) <;> rfl) (by simp only [R177x26, List.length_map, ge_range, cond_false]) N 0 (Nat.zero_le _) (by unfold Big at hN; omega)
  rcases key with ⟨j, _, hj, hb, hr⟩ | ⟨hb, hr⟩
  · have hr' : loopR (R177x26 N l p) N 0 = some (.inl (j : Int)) := hr
    rw [dif_pos hj] at hb
    rw [hr']
    simp only [Option.bind_some, Sum.elim_inl]
    rw [show hasK l p = true from any_get hj hb]
    simp
  · have hr' : loopR (R177x26 N l p) N 0 = some (.inr ()) := hr
    rw [hr']
    simp only [Option.bind_some, Sum.elim_inr]
    rw [show hasK l p = false from any_none fun j hj => by have := hb j (Nat.zero_le _) hj; rwa [dif_pos hj] at this]
    rfl
theorem T115_has {N : Nat} (hN : Big N) (l : List (Int × Int)) (p : Int × Int) (hl : l.length ≤ 1000000) : T115 N (l, p) = some (hasK l p) := by
  rw [T115_eq]
  have sym : ∀ q : Int × Int, (q.1 == p.1 && (q.2 == p.2 && true)) = (p.1 == q.1 && (p.2 == q.2 && true)) := fun q => by
    have h1 : (q.1 == p.1) = (p.1 == q.1) := decide_eq_decide.2 eq_comm
    have h2 : (q.2 == p.2) = (p.2 == q.2) := decide_eq_decide.2 eq_comm
    rw [h1, h2]
  have key := find_loop (rd := R115x26 N l p) l.length (fun k => if h : k < l.length then p.1 == l[k].1 && (p.2 == l[k].2 && true) else false) (fun _ => true) (fun k hk => by
    simp only [R115x26, List.length_map, Int.toNat_natCast, nthD_map n87 l k hk, fn87, dn87, lt_range hk, in_range hk, Bool.and_self, cond_true, w_succ (show k < 9223372036854775807 by omega), hk, dif_pos]
    rw [sym]
    cases (p.1 == l[k].1 && (p.2 == l[k].2 && true)) <;> rfl) (by simp only [R115x26, List.length_map, ge_range, cond_false]) N 0 (Nat.zero_le _) (by unfold Big at hN; omega)
  rcases key with ⟨j, _, hj, hb, hr⟩ | ⟨hb, hr⟩
  · have hr' : loopR (R115x26 N l p) N 0 = some (.inl true) := hr
    rw [dif_pos hj] at hb
    rw [hr']
    simp only [Option.bind_some, Sum.elim_inl]
    rw [show hasK l p = true from any_get hj hb]
  · have hr' : loopR (R115x26 N l p) N 0 = some (.inr ()) := hr
    rw [hr']
    simp only [Option.bind_some, Sum.elim_inr]
    rw [show hasK l p = false from any_none fun j hj => by have := hb j (Nat.zero_le _) hj; rwa [dif_pos hj] at this]

/-! ### Steps of an edge -/
def stepsE : List (Int × Int) := [(1, 1), (1, -1), (-1, 1), (-1, -1), (2, 0), (-2, 0), (0, 2), (0, -2)]
/-- Whether a knot is next to another one. -/
def nxt (a b : Int × Int) : Bool := hasK stepsE (IntKind.wrap .i64 (b.1 - a.1), IntKind.wrap .i64 (b.2 - a.2))

theorem bools (x1 xm x2 xn x0 y1 ym y0 y2 yn : Bool) :
    ((x1 && (y1 && true)) || ((x1 && (ym && true)) || ((xm && (y1 && true)) || ((xm && (ym && true)) || ((x2 && (y0 && true)) || ((xn && (y0 && true)) || ((x0 && (y2 && true)) || ((x0 && (yn && true)) || false)))))))) =
    (bif x1 then (bif y1 then true else bif ym then true else bif x2 then (bif y0 then true else bif x0 then (bif y2 then true else yn) else false) else bif xn then (bif y0 then true else bif x0 then (bif y2 then true else yn) else false) else bif x0 then (bif y2 then true else yn) else false)
     else bif xm then (bif y1 then true else bif ym then true else bif x2 then (bif y0 then true else bif x0 then (bif y2 then true else yn) else false) else bif xn then (bif y0 then true else bif x0 then (bif y2 then true else yn) else false) else bif x0 then (bif y2 then true else yn) else false)
     else bif x2 then (bif y0 then true else bif x0 then (bif y2 then true else yn) else false) else bif xn then (bif y0 then true else bif x0 then (bif y2 then true else yn) else false) else bif x0 then (bif y2 then true else yn) else false) := by
  cases x1 <;> cases xm <;> cases x2 <;> cases xn <;> cases x0 <;> cases y1 <;> cases ym <;> simp
theorem T146_nxt (N : Nat) (a b : Int × Int) : T146 N (a, b) = some (nxt a b) := by
  rw [T146_eq]
  have e : nxt a b = _ := bools (IntKind.wrap .i64 (b.1 - a.1) == 1) (IntKind.wrap .i64 (b.1 - a.1) == -1) (IntKind.wrap .i64 (b.1 - a.1) == 2) (IntKind.wrap .i64 (b.1 - a.1) == -2) (IntKind.wrap .i64 (b.1 - a.1) == 0) (IntKind.wrap .i64 (b.2 - a.2) == 1) (IntKind.wrap .i64 (b.2 - a.2) == -1) (IntKind.wrap .i64 (b.2 - a.2) == 0) (IntKind.wrap .i64 (b.2 - a.2) == 2) (IntKind.wrap .i64 (b.2 - a.2) == -2)
  rw [e]
  generalize (IntKind.wrap .i64 (b.1 - a.1) == 1) = x1
  generalize (IntKind.wrap .i64 (b.1 - a.1) == -1) = xm
  generalize (IntKind.wrap .i64 (b.1 - a.1) == 2) = x2
  generalize (IntKind.wrap .i64 (b.1 - a.1) == -2) = xn
  generalize (IntKind.wrap .i64 (b.1 - a.1) == 0) = x0
  generalize (IntKind.wrap .i64 (b.2 - a.2) == 1) = y1
  generalize (IntKind.wrap .i64 (b.2 - a.2) == -1) = ym
  generalize (IntKind.wrap .i64 (b.2 - a.2) == 0) = y0
  generalize (IntKind.wrap .i64 (b.2 - a.2) == 2) = y2
  generalize (IntKind.wrap .i64 (b.2 - a.2) == -2) = yn
  cases x1 <;> cases xm <;> cases x2 <;> cases xn <;> cases x0 <;> cases y1 <;> cases ym <;> cases y0 <;> cases y2 <;> rfl

/-- The error of a place of an edge. -/
def errE (l : List (Int × Int)) (k : Nat) : Int :=
  firstNZ [knotErr (l.getD k (0, 0)), if hasK (l.take k) (l.getD k (0, 0)) = true then 9 else 0, if (decide (k > 0) && !nxt (l.getD (k - 1) (0, 0)) (l.getD k (0, 0))) = true then 15 else 0]
/-- The error of an edge. -/
def chkE (l : List (Int × Int)) : Int :=
  if l.length = 0 then 12 else if l.length > 256 then 5 else firstNZ ((List.range l.length).map (errE l))

theorem at87 (l : List (Int × Int)) {k : Nat} (hk : k < l.length) : d87 (nthD (List.map n87 l) k) = l.getD k (0, 0) ∧ Pat.fits p87 (nthD (List.map n87 l) k) = true := by
  rw [nthD_map n87 l k hk, dn87, fn87]
  simp [hk]
theorem errsE_get (l : List (Int × Int)) {k : Nat} (hk : k < l.length) : ((List.range l.length).map (errE l))[k]'(by simpa using hk) = errE l k := by simp
theorem sub_map87 (l : List (Int × Int)) (k : Nat) : subA 0 k (List.map n87 l) = List.map n87 (l.take k) := by simp [subA, List.map_take]
theorem le_range {k n : Nat} (h : k < n) : decide ((0 : Int) ≤ (k : Int) ∧ (k : Int) ≤ (n : Int)) = true := by simp; omega
theorem steps8 (x y : Int) : ((bif (allFit (Pat.fits p87) [(AV.agg [(AV.int .i64 1), (AV.int .i64 1)]), (AV.agg [(AV.int .i64 1), (AV.int .i64 (-1))]), (AV.agg [(AV.int .i64 (-1)), (AV.int .i64 1)]), (AV.agg [(AV.int .i64 (-1)), (AV.int .i64 (-1))]), (AV.agg [(AV.int .i64 2), (AV.int .i64 0)]), (AV.agg [(AV.int .i64 (-2)), (AV.int .i64 0)]), (AV.agg [(AV.int .i64 0), (AV.int .i64 2)]), (AV.agg [(AV.int .i64 0), (AV.int .i64 (-2))])] && true) then some ((List.map d87 [(AV.agg [(AV.int .i64 1), (AV.int .i64 1)]), (AV.agg [(AV.int .i64 1), (AV.int .i64 (-1))]), (AV.agg [(AV.int .i64 (-1)), (AV.int .i64 1)]), (AV.agg [(AV.int .i64 (-1)), (AV.int .i64 (-1))]), (AV.agg [(AV.int .i64 2), (AV.int .i64 0)]), (AV.agg [(AV.int .i64 (-2)), (AV.int .i64 0)]), (AV.agg [(AV.int .i64 0), (AV.int .i64 2)]), (AV.agg [(AV.int .i64 0), (AV.int .i64 (-2))])]), (x, y)) else none : Option ((List (Int × Int)) × (Int × Int)))) = some (stepsE, (x, y)) := rfl

theorem T72_chk {N : Nat} (hN : Big N) (l : List (Int × Int)) (hl : l.length ≤ 1000000) : T72 N l = some (chkE l) := by
  rw [T72_eq, T91_when, T91_when]
  simp only [Option.bind_some, List.length_map]
  rw [two24, Option.bind_some, T90_first hN _ (by simp), Option.bind_some]
  unfold chkE
  by_cases h0 : l.length = 0
  · have hb : ((l.length : Int) == 0) = true := by simp [h0]
    rw [if_pos h0]
    simp [firstNZ, hb]
  · have hb : ((l.length : Int) == 0) = false := beq_false_of_ne (by omega)
    rw [if_neg h0]
    by_cases h1 : l.length > 256
    · have h1' : (l.length : Int) > 256 := by omega
      rw [if_pos h1]
      simp [firstNZ, hb, h1']
    · have h1' : ¬ (l.length : Int) > 256 := by omega
      rw [if_neg h1]
      have e0 : firstNZ [if ((l.length : Int) == 0) = true then (12 : Int) else 0, if decide ((l.length : Int) > 256) = true then 5 else 0] = 0 := by simp [firstNZ, hb, h1']
      rw [e0]
      simp only [bne_self_eq_false, cond_false]
      have q1 := first_loop2 (rd := R72x58 N l) ((List.range l.length).map (errE l)) (fun k hk => by
        have hk : k < l.length := by simpa using hk
        rw [errsE_get l hk]
        obtain ⟨a1, a2⟩ := at87 l hk
        have hw : IntKind.wrap .i64 ((k : Int) - 1) = (k : Int) - 1 := w64 (by omega)
        have hmx : (if (k : Int) - 1 > 0 then (k : Int) - 1 else 0) = ((k - 1 : Nat) : Int) := by split <;> omega
        have hk1 : k - 1 < l.length := by omega
        obtain ⟨b1, b2⟩ := at87 l hk1
        simp only [R72x58, List.length_map, hw, hmx, Int.toNat_natCast, a1, a2, b1, b2, lt_range hk, in_range hk, in_range hk1, le_range hk, Bool.and_self, cond_true, beq_self_eq_true, T130_knot hN, Option.bind_some, sub_map87, fa87, md87, w_succ (show k < 9223372036854775807 by omega)]
        rw [T147_has hN (l.take k) _ (by simp; omega)]
        simp only [Option.bind_some, T91_when]
        have e : errE l k = firstNZ [knotErr (l.getD k (0, 0)), if hasK (l.take k) (l.getD k (0, 0)) = true then 9 else 0, if (decide (k > 0) && !nxt (l.getD (k - 1) (0, 0)) (l.getD k (0, 0))) = true then 15 else 0] := rfl
        by_cases hk0 : k > 0
        · have hk0' : (k : Int) > 0 := by omega
          have s8 := steps8 (IntKind.wrap .i64 ((l.getD k (0, 0)).1 - (l.getD (k - 1) (0, 0)).1)) (IntKind.wrap .i64 ((l.getD k (0, 0)).2 - (l.getD (k - 1) (0, 0)).2))
          have h8 : T147 N (stepsE, (IntKind.wrap .i64 ((l.getD k (0, 0)).1 - (l.getD (k - 1) (0, 0)).1), IntKind.wrap .i64 ((l.getD k (0, 0)).2 - (l.getD (k - 1) (0, 0)).2))) = some (nxt (l.getD (k - 1) (0, 0)) (l.getD k (0, 0))) := T147_has hN stepsE _ (by decide)
          simp only [hk0', decide_true, cond_true, s8, Option.bind_some, h8, T91_when]
          have h3 := three24 (knotErr (l.getD k (0, 0))) (if hasK (l.take k) (l.getD k (0, 0)) = true then 9 else 0) (if (!nxt (l.getD (k - 1) (0, 0)) (l.getD k (0, 0))) = true then 15 else 0)
          rw [h3, Option.bind_some, T90_first hN _ (by simp), Option.bind_some]
          simp only [hk0, decide_true, Bool.true_and] at e
          rw [← e]
          by_cases hz : errE l k = 0
          · simp [hz]
          · simp [hz, Bool.cond_eq_ite]
        · have hk0' : ¬ (k : Int) > 0 := by omega
          simp only [hk0', decide_false, cond_false, T91_when, Option.bind_some]
          have h3 := three24 (knotErr (l.getD k (0, 0))) (if hasK (l.take k) (l.getD k (0, 0)) = true then 9 else 0) (if false = true then 15 else 0)
          rw [h3, Option.bind_some, T90_first hN _ (by simp), Option.bind_some]
          simp only [hk0, decide_false, Bool.false_and] at e
          rw [← e]
          by_cases hz : errE l k = 0
          · simp [hz]
          · simp [hz, Bool.cond_eq_ite]) (by simp only [R72x58, List.length_map, List.length_range, ge_range, cond_false]) N (by unfold Big at hN; simp; omega)
      rw [q1, Option.bind_some]
      by_cases hf : firstNZ ((List.range l.length).map (errE l)) = 0
      · simp only [hf, if_true, Sum.elim_inr]
      · simp only [hf, if_false, Sum.elim_inl]

theorem T71_chk {N : Nat} (hN : Big N) (l : List (Int × Int)) (hl : l.length ≤ 1000000) : T71 N l = some (chkE l) := by
  rw [T71_eq]
  simp only [List.length_map]
  unfold chkE
  by_cases h0 : l.length = 0
  · have hb : ((l.length : Int) == 0) = true := by simp [h0]
    rw [if_pos h0, hb]
    rfl
  · have hb : ((l.length : Int) == 0) = false := beq_false_of_ne (by omega)
    rw [if_neg h0, hb]
    by_cases h1 : l.length > 256
    · have h1' : (l.length : Int) > 256 := by omega
      rw [if_pos h1]
      simp only [cond_false, h1', decide_true, cond_true]
    · have h1' : ¬ (l.length : Int) > 256 := by omega
      rw [if_neg h1]
      simp only [cond_false, h1', decide_false]
      have q1 := first_loop2 (rd := R71x122 N l) ((List.range l.length).map (errE l)) (fun k hk => by
        have hk : k < l.length := by simpa using hk
        rw [errsE_get l hk]
        obtain ⟨a1, a2⟩ := at87 l hk
        simp only [R71x122, List.length_map, Int.toNat_natCast, a1, a2, lt_range hk, in_range hk, le_range hk, Bool.and_self, cond_true, T134_knot, Option.bind_some, sub_map87, fa87, md87, w_succ (show k < 9223372036854775807 by omega)]
        rw [T115_has hN (l.take k) _ (by simp; omega)]
        simp only [Option.bind_some]
        have e : errE l k = firstNZ [knotErr (l.getD k (0, 0)), if hasK (l.take k) (l.getD k (0, 0)) = true then 9 else 0, if (decide (k > 0) && !nxt (l.getD (k - 1) (0, 0)) (l.getD k (0, 0))) = true then 15 else 0] := rfl
        have late : ((bif (decide ((k : Int) > 0)) then bif (decide ((0 : Int) ≤ (IntKind.wrap .i64 ((k : Int) - 1)) ∧ (IntKind.wrap .i64 ((k : Int) - 1)) < (l.length : Int)) && Pat.fits p87 (nthD (List.map n87 l) (Int.toNat (IntKind.wrap .i64 ((k : Int) - 1))))) then (T146 N (((d87 (nthD (List.map n87 l) (Int.toNat (IntKind.wrap .i64 ((k : Int) - 1))))).1, (d87 (nthD (List.map n87 l) (Int.toNat (IntKind.wrap .i64 ((k : Int) - 1))))).2), ((l.getD k (0, 0)).1, (l.getD k (0, 0)).2))).bind fun y7 => (some (!y7)) else none else (some false) : Option Bool)) = some (decide (k > 0) && !nxt (l.getD (k - 1) (0, 0)) (l.getD k (0, 0))) := by
          by_cases hk0 : k > 0
          · have hk0' : (k : Int) > 0 := by omega
            have hk1 : k - 1 < l.length := by omega
            have hw : IntKind.wrap .i64 ((k : Int) - 1) = ((k - 1 : Nat) : Int) := by rw [w64 (by omega)]; omega
            obtain ⟨b1, b2⟩ := at87 l hk1
            simp only [hk0', hw, Int.toNat_natCast, b1, b2, in_range hk1, decide_true, Bool.and_self, cond_true, T146_nxt, Option.bind_some, hk0, Bool.true_and]
          · have hk0' : ¬ (k : Int) > 0 := by omega
            simp only [hk0', decide_false, cond_false, hk0, Bool.false_and]
        rw [late]
        rw [e]
        generalize knotErr (l.getD k (0, 0)) = c
        generalize hasK (l.take k) (l.getD k (0, 0)) = b
        generalize (decide (k > 0) && !nxt (l.getD (k - 1) (0, 0)) (l.getD k (0, 0))) = d
        by_cases hc : c = 0
        · subst hc
          cases b <;> cases d <;> rfl
        · have hc' : (c == 0) = false := by simpa using hc
          have hc2 : (c != 0) = true := bne_iff_ne.2 hc
          simp [firstNZ, hc, hc', hc2]) (by simp only [R71x122, List.length_map, List.length_range, ge_range, cond_false]) N (by unfold Big at hN; simp; omega)
      rw [q1, Option.bind_some]
      by_cases hf : firstNZ ((List.range l.length).map (errE l)) = 0
      · simp only [hf, if_true, Sum.elim_inr]
      · simp only [hf, if_false, Sum.elim_inl]

/-! ### Moved edges -/
def mvd (a b : Int) (p : Int × Int) : Int × Int := (IntKind.wrap .i64 (p.1 + a), IntKind.wrap .i64 (p.2 + b))
def mvE (l : List (Int × Int)) (a b : Int) : List (Int × Int) := l.map (mvd a b)
/-- A moved edge, or an error. -/
def movedE (l : List (Int × Int)) (a b : Int) : List (Int × Int) × Int :=
  if firstNZ [chkE l, rng a (-200000) 200000, rng b (-200000) 200000] ≠ 0 then ([], firstNZ [chkE l, rng a (-200000) 200000, rng b (-200000) 200000])
  else if firstNZ ((mvE l a b).map knotErr) ≠ 0 then ([], firstNZ ((mvE l a b).map knotErr)) else (mvE l a b, 0)

theorem sl87 (l : List (Int × Int)) : sameL (List.map n87 l) (List.map n87 l) = true := by
  induction l with
  | nil => rfl
  | cons s l ih =>
    rw [List.map_cons, sameL, ih]
    rw [show sameA (n87 s) (n87 s) = ((true && s.1 == s.1) && ((true && s.2 == s.2) && true)) from rfl]
    simp
theorem snoc87 (l : List (Int × Int)) (a b : Int) : List.map n87 l ++ [AV.agg [AV.int .i64 a, AV.int .i64 b]] = List.map n87 (l ++ [(a, b)]) := by
  rw [List.map_append]; rfl
theorem snoc24 (l : List Int) (a : Int) : List.map n24 l ++ [AV.int .i64 a] = List.map n24 (l ++ [a]) := by
  rw [List.map_append]; rfl
theorem mvE_len (l : List (Int × Int)) (a b : Int) : (mvE l a b).length = l.length := by simp [mvE]
theorem take_map_snoc {α β : Type} (f : α → β) (l : List α) {k : Nat} (hk : k < l.length) : (l.take k).map f ++ [f l[k]] = (l.take (k + 1)).map f := by
  rw [List.take_succ, List.map_append, List.getElem?_eq_getElem hk]
  rfl

theorem T69_moved {N : Nat} (hN : Big N) (l : List (Int × Int)) (a b : Int) (hl : l.length ≤ 1000000) : T69 N (l, a, b) = some (movedE l a b) := by
  rw [T69_eq]
  simp only [fa87, md87, Bool.and_true, cond_true, Option.bind_some, T72_chk hN l hl, beq_self_eq_true, Bool.and_self, T93_rng]
  have h3 := three24 (chkE l) (rng a (-200000) 200000) (rng b (-200000) 200000)
  simp only [Bool.and_true] at h3
  rw [h3, Option.bind_some, T90_first hN _ (by simp), Option.bind_some]
  unfold movedE
  by_cases h0 : firstNZ [chkE l, rng a (-200000) 200000, rng b (-200000) 200000] = 0
  · simp only [h0, bne_self_eq_false, cond_false, ne_eq, not_true_eq_false, if_false]
    have key := loopR_count (rd := R69x143x58 N l) l.length (fun k => ((l.take k).map (mvd a b), (k : Int), a, b)) (mvE l a b, a, b) (fun k hk => by
      obtain ⟨a1, a2⟩ := at87 l hk
      have hb : (k + 1) * 16 ≤ 140737488355328 := by omega
      have hlk : ((l.take k).map (mvd a b)).length = k := by simp; omega
      have e1 : l.getD k (0, 0) = l[k] := by simp [hk]
      simp only [R69x143x58, List.length_map, Int.toNat_natCast, a1, a2, lt_range hk, in_range hk, Bool.and_self, cond_true, snoc87, fa87, md87, List.length_take, List.length_append, List.length_singleton, Nat.min_eq_left (Nat.le_of_lt hk), hb, decide_true, Bool.and_true, Option.bind_some, w_succ (show k < 9223372036854775807 by omega)]
      have e2 : (l.take k).map (mvd a b) ++ [(IntKind.wrap .i64 ((l.getD k (0, 0)).1 + a), IntKind.wrap .i64 ((l.getD k (0, 0)).2 + b))] = (l.take (k + 1)).map (mvd a b) := by
        rw [e1]; exact take_map_snoc (mvd a b) l hk
      rw [e2]) (by
      simp only [R69x143x58, List.length_map, ge_range, cond_false, fa87, md87, decide_true, Bool.and_true, cond_true, Option.bind_some, List.take_length]
      rfl)
    have h1 := key N 0 (Nat.zero_le _) (by unfold Big at hN; omega)
    simp only [List.take_zero, List.map_nil] at h1
    have z87 : ((bif (allFit (Pat.fits p87) ([] : List AV)) then some ((List.map d87 ([] : List AV)), 0, a, b) else none : Option ((List (Int × Int)) × Int × Int × Int))) = some ([], ((0 : Nat) : Int), a, b) := rfl
    rw [z87]
    simp only [Option.bind_some, List.map_nil, List.length_nil, decide_true, cond_true]
    rw [h1]
    simp only [Option.bind_some]
    have key2 := loopR_count (rd := R69x145x58 N (mvE l a b, a, b)) l.length (fun k => (((mvE l a b).take k).map knotErr, mvE l a b, (k : Int), a, b)) ((mvE l a b).map knotErr, mvE l a b, a, b) (fun k hk => by
      have hk' : k < (mvE l a b).length := by rw [mvE_len]; exact hk
      obtain ⟨a1, a2⟩ := at87 (mvE l a b) hk'
      have hb : (k + 1) * 8 ≤ 140737488355328 := by omega
      have e1 : (mvE l a b).getD k (0, 0) = (mvE l a b)[k] := by simp [hk']
      simp only [R69x145x58, List.length_map, Int.toNat_natCast, a1, a2, lt_range hk', in_range hk', Bool.and_self, cond_true, T130_knot hN, snoc24, fa24, md24, fa87, md87, List.length_take, List.length_append, List.length_singleton, Nat.min_eq_left (Nat.le_of_lt hk'), hb, decide_true, Bool.and_true, Option.bind_some, w_succ (show k < 9223372036854775807 by omega)]
      have e2 : ((mvE l a b).take k).map knotErr ++ [knotErr ((mvE l a b).getD k (0, 0))] = ((mvE l a b).take (k + 1)).map knotErr := by
        rw [e1]; exact take_map_snoc knotErr _ hk'
      rw [e2]) (by
      have e3 : ((l.length : Nat) : Int) = (((mvE l a b).length : Nat) : Int) := by rw [mvE_len]
      rw [show (mvE l a b).take l.length = mvE l a b from by rw [← mvE_len l a b, List.take_length], e3]
      simp only [R69x145x58, List.length_map, ge_range, cond_false, fa87, md87, fa24, md24, decide_true, Bool.and_true, cond_true, Option.bind_some])
    have h2 := key2 N 0 (Nat.zero_le _) (by unfold Big at hN; omega)
    simp only [List.take_zero, List.map_nil] at h2
    have z24 : ((bif (allFit (Pat.fits p24) ([] : List AV)) then some ([], mvE l a b, 0, a, b) else none : Option ((List Int) × (List (Int × Int)) × Int × Int × Int))) = some ([], mvE l a b, ((0 : Nat) : Int), a, b) := rfl
    rw [z24]
    simp only [Option.bind_some, List.map_nil, List.length_nil, decide_true, cond_true, Bool.and_self]
    rw [h2]
    simp only [Option.bind_some, fa24, md24, cond_true, T90_first hN ((mvE l a b).map knotErr) (by simp [mvE]; omega)]
    by_cases hf : firstNZ ((mvE l a b).map knotErr) = 0
    · simp only [hf, bne_self_eq_false, cond_false, not_true_eq_false, if_false]
    · have hf' : (firstNZ ((mvE l a b).map knotErr) != 0) = true := bne_iff_ne.2 hf
      simp only [hf, hf', cond_true, not_false_eq_true, if_true]
      rfl
  · have h0' : (firstNZ [chkE l, rng a (-200000) 200000, rng b (-200000) 200000] != 0) = true := bne_iff_ne.2 h0
    rw [if_pos h0, h0']
    rfl

theorem T73_moved {N : Nat} (hN : Big N) (l : List (Int × Int)) (a b : Int) (hl : l.length ≤ 1000000) (hc : chkE l = 0) : T73 N (l, a, b) = some (movedE l a b) := by
  rw [T73_eq, T94_rng, T94_rng]
  simp only [Option.bind_some]
  unfold movedE
  rw [hc]
  have hr : ∀ x : Int, rng x (-200000) 200000 = 0 ∨ rng x (-200000) 200000 = 3 := fun x => by unfold rng; split <;> simp
  have fin : ∃ o, loopR (R73x122 N l a b) N ([], 0) = some o ∧ Sum.elim (fun o16 => some ((o16.1 : List (Int × Int)), (o16.2 : Int))) (fun o17 => some (o17, 0)) o = some (if firstNZ ((mvE l a b).map knotErr) ≠ 0 then ([], firstNZ ((mvE l a b).map knotErr)) else (mvE l a b, 0)) := by
    have key := loopR_fold (rd := R73x122 N l a b) (S := List (Int × Int)) (Y := Int) l (fun s k => (s, (k : Int))) (fun s p => if knotErr (mvd a b p) = 0 then .inl (s ++ [mvd a b p]) else .inr (knotErr (mvd a b p))) (fun s => .inr s) (fun c => .inl ([], c)) (fun s k => s.length ≤ k) (fun s k hk hs => by
      obtain ⟨a1, a2⟩ := at87 l hk
      have e1 : l.getD k (0, 0) = l[k] := by simp [hk]
      have hb : (s.length + 1) * 16 ≤ 140737488355328 := by omega
      refine ⟨?_, fun s' h => ?_⟩
      · simp only [R73x122, List.length_map, Int.toNat_natCast, a1, a2, e1, lt_range hk, in_range hk, Bool.and_self, cond_true, beq_self_eq_true, sl87, Bool.and_true, T134_knot, Option.bind_some, w_succ (show k < 9223372036854775807 by omega)]
        rw [show ((IntKind.wrap .i64 (l[k].1 + a)), (IntKind.wrap .i64 (l[k].2 + b))) = mvd a b l[k] from rfl]
        by_cases hz : knotErr (mvd a b l[k]) = 0
        · simp only [hz, bne_self_eq_false, cond_false, snoc87, fa87, md87, List.length_map, List.length_append, List.length_singleton, hb, decide_true, Bool.and_true, cond_true, Option.bind_some, if_true, Sum.map_inl]
          rfl
        · have hz' : (knotErr (mvd a b l[k]) != 0) = true := bne_iff_ne.2 hz
          simp only [hz, hz', cond_true, if_false, Sum.map_inr]
          rfl
      · split at h
        · injection h with h; rw [← h]; simp; omega
        · cases h) (fun s hs => by
      simp only [R73x122, List.length_map, ge_range, cond_false, fa87, md87, decide_true, Bool.and_true, cond_true, Option.bind_some]) N [] 0 (Nat.zero_le _) (by unfold Big at hN; omega) (Nat.zero_le _)
    refine ⟨_, key, ?_⟩
    rw [List.drop_zero]
    have gen : ∀ (m : List (Int × Int)) (s : List (Int × Int)), foldI (S := List (Int × Int)) (Y := Int) (fun s p => if knotErr (mvd a b p) = 0 then .inl (s ++ [mvd a b p]) else .inr (knotErr (mvd a b p))) s m = if firstNZ ((m.map (mvd a b)).map knotErr) = 0 then .inl (s ++ m.map (mvd a b)) else .inr (firstNZ ((m.map (mvd a b)).map knotErr)) := fun m => by
      induction m with
      | nil => intro s; simp [foldI, firstNZ]
      | cons p m ih =>
        intro s
        unfold foldI
        by_cases hz : knotErr (mvd a b p) = 0
        · simp only [hz, if_true, Sum.elim_inl, ih, List.map_cons, firstNZ]
          rw [List.append_assoc]; rfl
        · simp only [hz, if_false, Sum.elim_inr, List.map_cons, firstNZ]
    rw [gen]
    unfold mvE
    by_cases hf : firstNZ ((l.map (mvd a b)).map knotErr) = 0
    · simp only [hf, if_true, not_true_eq_false, ne_eq, if_false, Sum.elim_inl, Sum.elim_inr, List.nil_append]
    · simp only [hf, if_true, not_false_eq_true, ne_eq, if_false, Sum.elim_inl, Sum.elim_inr]
  rcases hr a with ha | ha
  · rcases hr b with hb | hb
    · rw [ha, hb]
      obtain ⟨o, h1, h2⟩ := fin
      have z87 : ((bif (allFit (Pat.fits p87) ([] : List AV) && true) then some ((List.map d87 ([] : List AV)), 0) else none : Option ((List (Int × Int)) × Int))) = some ([], 0) := rfl
      simp only [bne_self_eq_false, cond_false, Option.bind_some]
      rw [z87]
      simp only [Option.bind_some, List.map_nil, List.length_nil, decide_true, cond_true, Bool.and_self, h1, fa87, md87]
      exact h2
    · rw [ha, hb]
      rfl
  · rw [ha]
    rfl

theorem T70_same (N : Nat) (l : List (Int × Int)) (hl : l.length ≤ 1000000) : T70 N l = some l := by
  rw [T70_eq]
  cases l with
  | nil => rfl
  | cons p l =>
    have h1 : List.isEmpty (List.map n87 (p :: l)) = false := rfl
    have h2 : decide ((0 + List.length (List.map n87 (p :: l))) * 16 ≤ 140737488355328) = true := by
      rw [List.length_map]
      exact decide_eq_true (by omega)
    simp only [h1, h2, cond_false, cond_true, List.nil_append, fa87, md87, Bool.and_true, Option.bind_some]
theorem T74_same {N : Nat} (hN : Big N) (l : List (Int × Int)) (hl : l.length ≤ 1000000) : T74 N (l, l) = some true := by
  rw [T74_eq]
  simp only [bne_self_eq_false, cond_false, List.length_map]
  have key := loopR_count (rd := R74x58 N l l) l.length (fun k => (k : Int)) (.inr ()) (fun k hk => by
    obtain ⟨a1, a2⟩ := at87 l hk
    simp only [R74x58, List.length_map, Int.toNat_natCast, a1, a2, lt_range hk, in_range hk, Bool.and_self, cond_true, beq_self_eq_true, Bool.not_true, cond_false, w_succ (show k < 9223372036854775807 by omega)]) (by
    simp only [R74x58, List.length_map, ge_range, cond_false]) N 0 (Nat.zero_le _) (by unfold Big at hN; omega)
  have key' : loopR (R74x58 N l l) N 0 = some (.inr ()) := key
  rw [key', Option.bind_some]
  rfl

theorem T11_true {N : Nat} (hN : Big N) (l : List (Int × Int)) (a b : Int) : T11 N (l, a, b) = some true := by
  rw [T11_eq]
  by_cases h : ((l.length : Nat) : Int) > 12 ∧ ((l.length : Nat) : Int) ≠ 257
  · have h1 : decide (((l.length : Nat) : Int) > 12) = true := decide_eq_true h.1
    have h2 : (((l.length : Nat) : Int) != 257) = true := bne_iff_ne.2 h.2
    simp only [List.length_map, h1, h2, cond_true, Option.bind_some]
    rfl
  · have hl : l.length ≤ 1000000 := by omega
    have h1 : ((bif (decide (((l.length : Nat) : Int) > 12)) then (some (((l.length : Nat) : Int) != 257)) else (some false)) : Option Bool) = some false := by
      by_cases h2 : ((l.length : Nat) : Int) > 12
      · have h3 : ((l.length : Nat) : Int) = 257 := by omega
        simp [h3]
      · simp only [h2, decide_false, cond_false]
    simp only [List.length_map, h1, Option.bind_some, cond_false, fa87, md87, Bool.and_true, cond_true, T70_same N l hl, T69_moved hN l a b hl, T71_chk hN l hl, T72_chk hN l hl, bne_self_eq_false]
    have hm : ∀ m : List (Int × Int) × Int, movedE l a b = m → m.1.length ≤ 1000000 := fun m e => by
      rw [← e]; unfold movedE
      split
      · simp
      · split
        · simp
        · simp [mvE_len]; omega
    by_cases h0 : chkE l = 0
    · simp only [h0, beq_self_eq_true, cond_true, T73_moved hN l a b hl h0, Option.bind_some, fa87, md87, Bool.and_self, T74_same hN (movedE l a b).1 (hm _ rfl)]
      rfl
    · have hb0 : (chkE l == 0) = false := beq_false_of_ne h0
      have e : movedE l a b = ([], chkE l) := by
        unfold movedE
        have : firstNZ [chkE l, rng a (-200000) 200000, rng b (-200000) 200000] = chkE l := by simp [firstNZ, h0]
        rw [this, if_pos h0]
      have h24 := T74_same hN [] (by simp)
      simp only [hb0, e, cond_false, Option.bind_some, allFit, List.map_nil, beq_self_eq_true, cond_true, h24, Bool.and_self]
      rfl
end Go.Proofs.YtfiopgedfcaodaaGreatDoor
