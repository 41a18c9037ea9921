/- Plain laws: edges, first part: knots and walks. -/
import Derived.Test.YtbfappllfpngdaaGreatDoorTapPe
import Derived.Test.YtbfappllfpngdaaGreatDoorTapTb
set_option linter.all false
namespace Go.Proofs.YtbfappllfpngdaaGreatDoor
open Go Go.Am
set_option maxRecDepth 100000

/-! ### Knots -/

theorem ofInt_wrap (n : Nat) (h : n < 18446744073709551616) : (BitVec.ofInt 64 (IntKind.wrap .i64 (n : Int))).toNat = n := by
  rw [BitVec.toNat_ofInt, IntKind.wrap_i64]
  omega

theorem xor2 (a b : Nat) : (a ^^^ b) % 2 = (a + b) % 2 := by
  have h := Nat.xor_mod_two_pow (a := a) (b := b) (n := 1)
  rw [Nat.pow_one] at h
  rw [h]
  rcases Nat.mod_two_eq_zero_or_one a with ha | ha <;> rcases Nat.mod_two_eq_zero_or_one b with hb | hb <;> rw [ha, hb] <;> simp <;> omega

theorem odd_eq (x y : Int) : (andI .i64 (xorI .i64 x y) 1 != 0) = decide ((x + y) % 2 ≠ 0) := by
  have h1 : (BitVec.ofInt 64 x ^^^ BitVec.ofInt 64 y).toNat < 18446744073709551616 := (BitVec.ofInt 64 x ^^^ BitVec.ofInt 64 y).isLt
  have h2 : (BitVec.ofInt 64 1).toNat = 1 := by decide
  have h3 : andI .i64 (xorI .i64 x y) 1 = IntKind.wrap .i64 ((((BitVec.ofInt 64 x ^^^ BitVec.ofInt 64 y).toNat % 2 : Nat)) : Int) := by
    show IntKind.wrap .i64 (((BitVec.ofInt 64 (IntKind.wrap .i64 (((BitVec.ofInt 64 x ^^^ BitVec.ofInt 64 y).toNat : Nat) : Int)) &&& BitVec.ofInt 64 1).toNat : Nat) : Int) = _
    rw [BitVec.toNat_and, ofInt_wrap _ h1, h2, Nat.and_one_is_mod]
  rw [h3, w64 (by omega), BitVec.toNat_xor, xor2, BitVec.toNat_ofInt, BitVec.toNat_ofInt]
  have e : ((((x % ((2 ^ 64 : Nat) : Int)).toNat + (y % ((2 ^ 64 : Nat) : Int)).toNat) % 2 : Nat) : Int) = (x + y) % 2 := by omega
  rw [e]
  by_cases h : (x + y) % 2 = 0 <;> simp [h]

def knotErr (p : Int × Int) : Int := if p.1 < -100000 ∨ p.1 > 100000 ∨ p.2 < -100000 ∨ p.2 > 100000 then 3 else if (p.1 + p.2) % 2 = 0 then 0 else 14

theorem knotErr_ok {p : Int × Int} (h : knotErr p = 0) : -100000 ≤ p.1 ∧ p.1 ≤ 100000 ∧ -100000 ≤ p.2 ∧ p.2 ≤ 100000 ∧ (p.1 + p.2) % 2 = 0 := by
  unfold knotErr at h
  split at h
  · cases h
  · split at h
    · rename_i h1 h2; exact ⟨by omega, by omega, by omega, by omega, h2⟩
    · cases h

theorem T163_rng (N : Nat) (n lo hi : Int) : T163 N (n, lo, hi) = some (rng n lo hi) := by
  rw [T163_eq, T151_eq, T151_eq]
  unfold rng
  by_cases h1 : n < lo
  · simp [h1]
  · by_cases h2 : n > hi <;> simp [h1, h2]

theorem T149_first {N : Nat} (hN : Big N) (l : List Int) (hl : l.length ≤ 9223372036854775806) : T149 N l = some (firstNZ l) := by
  obtain ⟨o, h1, h2⟩ := first_loop (rd := R149x26 N l) l (fun k hk => by
    simp only [R149x26, List.length_map, Int.toNat_natCast, nthD_map n23 l k hk, fn23, dn23, w_succ (show k < 9223372036854775807 by omega), lt_range hk, in_range hk, Bool.and_self, cond_true]
    by_cases hz : l[k] = 0
    · simp [hz]
    · simp [hz, Bool.cond_eq_ite]) (by simp only [R149x26, List.length_map, ge_range, cond_false]) N (by unfold Big at hN; omega)
  rw [T149_eq, h1, Option.bind_some]
  rcases o with o | o
  · simpa using h2
  · simpa using h2

theorem T131_knot {N : Nat} (hN : Big N) (p : Int × Int) : T131 N p = some (knotErr p) := by
  rw [T131_eq, T150_eq]
  simp only [T163_rng, Option.bind_some, beq_self_eq_true, Bool.and_self, cond_true, allFit, fi23, di23, List.map_cons, List.map_nil, T149_first hN _ (show [_, _].length ≤ 9223372036854775806 by simp), odd_eq, T151_eq]
  unfold knotErr rng
  by_cases h1 : p.1 < -100000 ∨ p.1 > 100000
  · have h : p.1 < -100000 ∨ p.1 > 100000 ∨ p.2 < -100000 ∨ p.2 > 100000 := by omega
    rw [if_pos h, if_pos h1]
    cases decide ((p.1 + p.2) % 2 ≠ 0) <;> simp [firstNZ, allFit, fi23, di23, T149_first hN _ (show [_, _].length ≤ 9223372036854775806 by simp)]
  · rw [if_neg h1]
    by_cases h2 : p.2 < -100000 ∨ p.2 > 100000
    · have h : p.1 < -100000 ∨ p.1 > 100000 ∨ p.2 < -100000 ∨ p.2 > 100000 := by omega
      rw [if_pos h, if_pos h2]
      cases decide ((p.1 + p.2) % 2 ≠ 0) <;> simp [firstNZ, allFit, fi23, di23, T149_first hN _ (show [_, _].length ≤ 9223372036854775806 by simp)]
    · have h : ¬ (p.1 < -100000 ∨ p.1 > 100000 ∨ p.2 < -100000 ∨ p.2 > 100000) := by omega
      rw [if_neg h, if_neg h2]
      by_cases h3 : (p.1 + p.2) % 2 = 0 <;> simp [h3, firstNZ, allFit, fi23, di23, T149_first hN _ (show [_, _].length ≤ 9223372036854775806 by simp)]

theorem T97_knot (N : Nat) (p : Int × Int) : T97 N p = some (knotErr p) := by
  rw [T97_eq, T132_eq, T132_eq, T133_eq]
  unfold knotErr
  by_cases h : p.1 < -100000 ∨ p.1 > 100000 ∨ p.2 < -100000 ∨ p.2 > 100000
  · rw [if_pos h]
    by_cases h1 : p.1 < -100000 <;> by_cases h2 : p.1 > 100000 <;> by_cases h3 : p.2 < -100000 <;> by_cases h4 : p.2 > 100000 <;> simp [h1, h2, h3, h4] <;> omega
  · rw [if_neg h]
    have h1 : ¬ p.1 < -100000 := by omega
    have h2 : ¬ p.1 > 100000 := by omega
    have h3 : ¬ p.2 < -100000 := by omega
    have h4 : ¬ p.2 > 100000 := by omega
    rw [w64 (x := p.1 + p.2) (by omega)]
    have e : ((Int.tmod (p.1 + p.2) 2) == 0) = decide ((p.1 + p.2) % 2 = 0) := by
      by_cases h5 : (p.1 + p.2) % 2 = 0
      · have : Int.tmod (p.1 + p.2) 2 = 0 := Int.tmod_eq_zero_of_dvd (Int.dvd_of_emod_eq_zero h5)
        simp [h5, this]
      · have : Int.tmod (p.1 + p.2) 2 ≠ 0 := fun e => h5 (Int.emod_eq_zero_of_dvd (Int.dvd_of_tmod_eq_zero e))
        simp [h5, this]
    rw [e]
    by_cases h5 : (p.1 + p.2) % 2 = 0 <;> simp [h1, h2, h3, h4, h5]

/-! ### Steps -/

/-- Where a letter leads. -/
def mv (out : Bool) (p : Int × Int) (c : UInt8) : Int × Int := (p.1 + (if out then (stepI c).1 else -(stepI c).1), p.2 + (stepI c).2)
abbrev St5 := Int × Int × Int × Int × Int
def st5 (out : Bool) (p : Int × Int) (c : UInt8) : St5 := ((c.toNat : Int), p.1, p.2, (mv out p c).1, (mv out p c).2)
/-- The steps of an edge. -/
def stepsL (out : Bool) : Int × Int → List UInt8 → List St5
  | _, [] => []
  | p, c :: l => st5 out p c :: stepsL out (mv out p c) l
def lastK (out : Bool) (p : Int × Int) (l : List UInt8) : Int × Int := l.foldl (mv out) p
def toK (s : St5) : Int × Int := (s.2.2.2.1, s.2.2.2.2)
def frK (s : St5) : Int × Int := (s.2.1, s.2.2.1)
/-- The knots of an edge. -/
def knotsL (out : Bool) (p : Int × Int) (l : List UInt8) : List (Int × Int) := p :: (stepsL out p l).map toK

theorem stepsL_append (out : Bool) : ∀ (l m : List UInt8) (p : Int × Int), stepsL out p (l ++ m) = stepsL out p l ++ stepsL out (lastK out p l) m
  | [], m, p => rfl
  | c :: l, m, p => by
    show st5 out p c :: stepsL out (mv out p c) (l ++ m) = _
    rw [stepsL_append out l m (mv out p c)]
    rfl
theorem knotsL_append (out : Bool) (l m : List UInt8) (p : Int × Int) : knotsL out p (l ++ m) = knotsL out p l ++ (stepsL out (lastK out p l) m).map toK := by
  simp [knotsL, stepsL_append]
theorem stepsL_length (out : Bool) : ∀ (l : List UInt8) (p : Int × Int), (stepsL out p l).length = l.length
  | [], _ => rfl
  | c :: l, p => by simp [stepsL, stepsL_length out l]
theorem knotsL_length (out : Bool) (l : List UInt8) (p : Int × Int) : (knotsL out p l).length = l.length + 1 := by simp [knotsL, stepsL_length]

theorem repT_succ (w : List UInt8) : ∀ n : Nat, repT w (n + 1) = repT w n ++ w
  | 0 => by simp [repT]
  | n + 1 => by
    show w ++ repT w (n + 1) = w ++ repT w n ++ w
    rw [repT_succ w n, List.append_assoc]
theorem repT_length (w : List UInt8) : ∀ n : Nat, (repT w n).length = n * w.length
  | 0 => by simp [repT]
  | n + 1 => by
    show (w ++ repT w n).length = _
    rw [List.length_append, repT_length w n, Nat.succ_mul]
    omega
theorem repT_mem {w : List UInt8} : ∀ {n : Nat} {c : UInt8}, c ∈ repT w n → c ∈ w
  | 0, c, h => by simp [repT] at h
  | n + 1, c, h => by
    rcases List.mem_append.1 (show c ∈ w ++ repT w n from h) with h | h
    · exact h
    · exact repT_mem h

/-- A knot after m letters from p0. -/
def Near (p0 p : Int × Int) (m : Nat) : Prop := p0.1 - 2 * m ≤ p.1 ∧ p.1 ≤ p0.1 + 2 * m ∧ p0.2 ≤ p.2 ∧ p.2 ≤ p0.2 + 2 * m
theorem Near.mv {p0 p : Int × Int} {m : Nat} (h : Near p0 p m) (out : Bool) (c : UInt8) : Near p0 (mv out p c) (m + 1) := by
  obtain ⟨h1, h2, h3, h4⟩ := h
  obtain ⟨s1, s2, s3⟩ := stepI_ok c
  cases out <;> simp only [Near, YtbfappllfpngdaaGreatDoor.mv, Bool.false_eq_true, if_false, if_true] <;> omega
theorem Near.zero (p : Int × Int) : Near p p 0 := ⟨by omega, by omega, by omega, by omega⟩
theorem Near.last {p0 : Int × Int} (out : Bool) : ∀ (l : List UInt8) (p : Int × Int) (m : Nat), Near p0 p m → Near p0 (lastK out p l) (m + l.length)
  | [], p, m, h => h
  | c :: l, p, m, h => by
    have := Near.last out l (YtbfappllfpngdaaGreatDoor.mv out p c) (m + 1) (h.mv out c)
    rw [show m + 1 + l.length = m + (c :: l).length by simp; omega] at this
    exact this

/-! ### The reference's walk -/

section walk
variable {N : Nat} (hN : Big N) (at0 : Int × Int) (hat : -100000 ≤ at0.1 ∧ at0.1 ≤ 100000 ∧ -100000 ≤ at0.2 ∧ at0.2 ≤ 100000) (w : List UInt8) (out : Bool)
include hN hat

omit hN hat in
theorem n54_snoc (l : List (Int × Int)) (p : Int × Int) : List.map n54 l ++ [AV.agg [AV.int .i64 p.1, AV.int .i64 p.2]] = List.map n54 (l ++ [p]) := by simp [n54, Pat.enc, Pats.enc]

theorem R39_inner (pre : List UInt8) (hp : pre.length + w.length ≤ 1000) :
    loopR (V := (List (Int × Int)) × Int × Int × Int) (X := ((List (Int × Int)) × Int × Int)) (R39x3730 N w out) N (knotsL out at0 pre, 0, (lastK out at0 pre).1, (lastK out at0 pre).2) =
      some (knotsL out at0 (pre ++ w), (lastK out at0 (pre ++ w)).1, (lastK out at0 (pre ++ w)).2) := by
  have key := loopR_foldl (rd := R39x3730 N w out) w (fun (s : List (Int × Int) × (Int × Int)) k => (s.1, (k : Int), s.2.1, s.2.2)) (fun s c => (s.1 ++ [mv out s.2 c], mv out s.2 c)) (fun s => (s.1, s.2.1, s.2.2))
    (fun s k => s.1.length ≤ pre.length + 1 + k ∧ Near at0 s.2 (pre.length + k))
    (fun s k hk hP => by
      obtain ⟨hl, hn⟩ := hP
      refine ⟨?_, by simp; omega, hn.mv out _⟩
      have hn' := hn.mv out w[k]
      obtain ⟨n1, n2, n3, n4⟩ := hn
      obtain ⟨m1, m2, m3, m4⟩ := hn'
      obtain ⟨s1, s2, s3⟩ := stepI_ok w[k]
      have e1 : decide ((s.1.length + 1) * 16 ≤ 140737488355328) = true := by simp only [decide_eq_true_eq]; omega
      have e3 := n54_snoc s.1 (mv out s.2 w[k])
      simp only [R39x3730, lt_range hk, in_range hk, cond_true, Int.toNat_natCast, getD_at hk, T98_step, Option.bind_some, fa54, md54, List.length_map, decide_true, Bool.and_true, Bool.true_and, w_succ (show k < 9223372036854775807 by omega)]
      cases out with
      | true =>
        have a1 : IntKind.wrap .i64 (s.2.1 + (stepI w[k]).1) = (mv true s.2 w[k]).1 := by rw [w64 (by omega)]; rfl
        have a2 : IntKind.wrap .i64 (s.2.2 + (stepI w[k]).2) = (mv true s.2 w[k]).2 := by rw [w64 (by omega)]; rfl
        simp only [Bool.not_true, cond_false, Option.bind_some, e1, cond_true, a1, a2, e3, fa54, md54, List.length_append, List.length_cons, List.length_nil, decide_true, Bool.and_true, Bool.true_and, List.length_map]
      | false =>
        have a0 : IntKind.wrap .i64 (0 - (stepI w[k]).1) = -(stepI w[k]).1 := by rw [w64 (by omega)]; omega
        have a1 : IntKind.wrap .i64 (s.2.1 + -(stepI w[k]).1) = (mv false s.2 w[k]).1 := by rw [w64 (by omega)]; rfl
        have a2 : IntKind.wrap .i64 (s.2.2 + (stepI w[k]).2) = (mv false s.2 w[k]).2 := by rw [w64 (by omega)]; rfl
        simp only [Bool.not_false, cond_true, Option.bind_some, e1, a0, a1, a2, e3, fa54, md54, List.length_append, List.length_cons, List.length_nil, decide_true, Bool.and_true, Bool.true_and, List.length_map])
    (fun s _ => by simp only [R39x3730, ge_range, cond_false, fa54, md54, List.length_map, decide_true, Bool.and_true, cond_true, Option.bind_some])
    N (knotsL out at0 pre, lastK out at0 pre) 0 (Nat.zero_le _) (by unfold Big at hN; omega) ⟨by rw [knotsL_length]; omega, by have := Near.last out pre at0 0 (Near.zero at0); simpa using this⟩
  have fold : ∀ (l : List UInt8) (a : List (Int × Int)) (p : Int × Int), l.foldl (fun (s : List (Int × Int) × (Int × Int)) c => (s.1 ++ [mv out s.2 c], mv out s.2 c)) (a, p) = (a ++ (stepsL out p l).map toK, lastK out p l) := by
    intro l
    induction l with
    | nil => intro a p; simp [stepsL, lastK]
    | cons c l ih =>
      intro a p
      rw [List.foldl_cons, ih]
      simp [stepsL, lastK, st5, toK]
  rw [List.drop_zero, fold] at key
  have e1 : lastK out (lastK out at0 pre) w = lastK out at0 (pre ++ w) := by simp [lastK]
  rw [e1, ← knotsL_append] at key
  exact key

theorem T39_knots (times : Nat) (ht : w.length * times ≤ 256) (ht' : times ≤ 256) : T39 N (at0, w, (times : Int), out) = some (knotsL out at0 (repT w times)) := by
  rw [T39_eq]
  have e0 : (((bif (allFit (Pat.fits p54) [(AV.agg [(AV.int .i64 at0.1), (AV.int .i64 at0.2)])] && true) then some ((List.map d54 [(AV.agg [(AV.int .i64 at0.1), (AV.int .i64 at0.2)])]), 0, at0.1, at0.2) else none : Option ((List (Int × Int)) × Int × Int × Int)).bind fun w18 => bif (decide (1 = (List.map n54 w18.1).length) && true) then some w18 else none)) = some ([at0], 0, at0.1, at0.2) := rfl
  rw [e0, Option.bind_some]
  have key := loopR_count (rd := R39x58 N w (times : Int) out) times (fun i => (knotsL out at0 (repT w i), (i : Int), (lastK out at0 (repT w i)).1, (lastK out at0 (repT w i)).2))
    (knotsL out at0 (repT w times), (lastK out at0 (repT w times)).1, (lastK out at0 (repT w times)).2)
    (fun i hi => by
      have e1 : decide ((i : Int) < (times : Int)) = true := by simpa using hi
      have hl : (repT w i).length + w.length ≤ 1000 := by
        rw [repT_length, ← Nat.succ_mul, Nat.succ_eq_add_one]
        have : (i + 1) * w.length ≤ times * w.length := Nat.mul_le_mul_right _ hi
        rw [Nat.mul_comm w.length times] at ht
        omega
      simp only [R39x58, e1, cond_true, fa54, md54, List.length_map, decide_true, Bool.and_true, Option.bind_some, R39_inner hN at0 hat w out (repT w i) hl, repT_succ, w_succ (show i < 9223372036854775807 by omega)])
    (by
      have e1 : decide ((times : Int) < (times : Int)) = false := by simp
      simp only [R39x58, e1, cond_false, cond_true, fa54, md54, List.length_map, decide_true, Bool.and_true, Option.bind_some]) N 0 (Nat.zero_le _) (by unfold Big at hN; omega)
  have key' : loopR (V := (List (Int × Int)) × Int × Int × Int) (X := ((List (Int × Int)) × Int × Int)) (R39x58 N w (times : Int) out) N ([at0], 0, at0.1, at0.2) = some (knotsL out at0 (repT w times), (lastK out at0 (repT w times)).1, (lastK out at0 (repT w times)).2) := key
  rw [key', Option.bind_some]
  simp only [fa54, md54, cond_true]
end walk

/-- A knot beyond the places. -/
def badK (p : Int × Int) : Bool := decide (p.1 < -100000) || (decide (p.1 > 100000) || decide (p.2 > 100000))

theorem any_foldI {α : Type} (p : α → Bool) (l : List α) : foldI (fun (_ : Unit) a => if p a then (.inr () : Unit ⊕ Unit) else .inl ()) () l = if l.any p then .inr () else .inl () := by
  induction l with
  | nil => rfl
  | cons a l ih =>
    simp only [foldI, List.any_cons]
    by_cases h : p a = true
    · simp [h]
    · simp [h, ih]

theorem R37_loop {N : Nat} (hN : Big N) (l : List (Int × Int)) (hl : l.length ≤ 1000) : ∃ o, loopR (V := Int) (X := Int ⊕ Unit) (R37x250 N l) N 0 = some o ∧ Sum.elim (fun x => x) (fun _ => 0) o = if l.any badK then (32 : Int) else 0 := by
  have key := loopR_fold (rd := R37x250 N l) l (fun (_ : Unit) k => (k : Int)) (fun _ a => if badK a then (.inr () : Unit ⊕ Unit) else .inl ()) (fun _ => .inr ()) (fun _ => .inl 32) (fun _ _ => True)
    (fun _ k hk _ => by
      refine ⟨?_, fun _ _ => trivial⟩
      simp only [R37x250, List.length_map, lt_range hk, in_range hk, cond_true, Int.toNat_natCast, nthD_map n54 l k hk, fn54, dn54, Bool.and_self, w_succ (show k < 9223372036854775807 by omega)]
      unfold badK
      generalize decide ((l[k]).1 < -100000) = b1
      generalize decide ((l[k]).1 > 100000) = b2
      generalize decide ((l[k]).2 > 100000) = b3
      cases b1 <;> cases b2 <;> cases b3 <;> rfl)
    (fun _ _ => by simp only [R37x250, List.length_map, ge_range, cond_false]) N () 0 (Nat.zero_le _) (by unfold Big at hN; omega) trivial
  rw [List.drop_zero, any_foldI] at key
  refine ⟨_, key, ?_⟩
  cases l.any badK <;> rfl

def edgeErr (at0 : Int × Int) (w : List UInt8) (times : Int) : Int := firstNZ [knotErr at0, wordErr w, rng times 1 256, if (w.length : Int) * times > 256 then 26 else 0]
def walkErr (at0 : Int × Int) (w : List UInt8) (times : Int) (out : Bool) : Int := if edgeErr at0 w times = 0 then (if (knotsL out at0 (repT w times.toNat)).any badK then 32 else 0) else edgeErr at0 w times

theorem edge_split (at0 : Int × Int) (w : List UInt8) (times : Int) : edgeErr at0 w times = if firstNZ [knotErr at0, wordErr w, rng times 1 256] = 0 then (if (w.length : Int) * times > 256 then 26 else 0) else firstNZ [knotErr at0, wordErr w, rng times 1 256] := by
  unfold edgeErr
  rw [show [knotErr at0, wordErr w, rng times 1 256, if (w.length : Int) * times > 256 then (26 : Int) else 0] = [knotErr at0, wordErr w, rng times 1 256] ++ [if (w.length : Int) * times > 256 then (26 : Int) else 0] from rfl, firstNZ_append]
  by_cases h : firstNZ [knotErr at0, wordErr w, rng times 1 256] = 0
  · rw [if_pos h, if_pos h]
    by_cases h2 : (w.length : Int) * times > 256 <;> simp [h2, firstNZ]
  · rw [if_neg h, if_neg h]

structure EdgeOk (at0 : Int × Int) (w : List UInt8) (times : Int) : Prop where
  hk : -100000 ≤ at0.1 ∧ at0.1 ≤ 100000 ∧ -100000 ≤ at0.2 ∧ at0.2 ≤ 100000 ∧ (at0.1 + at0.2) % 2 = 0
  hw : w ≠ [] ∧ w.length ≤ 64 ∧ w.all isL = true
  ht : 1 ≤ times ∧ times ≤ 256
  hl : w.length * times.toNat ≤ 256

theorem mul_len {n : Nat} {t : Int} (h : 0 ≤ t) : (n : Int) * t = ((n * t.toNat : Nat) : Int) := by
  rw [Int.natCast_mul, Int.toNat_of_nonneg h]

theorem edgeErr_ok {at0 : Int × Int} {w : List UInt8} {times : Int} (h : edgeErr at0 w times = 0) : EdgeOk at0 w times := by
  have hz := firstNZ_zero.1 h
  simp only [List.mem_cons, List.not_mem_nil, or_false, forall_eq_or_imp, forall_eq] at hz
  obtain ⟨z1, z2, z3, z4⟩ := hz
  have r := rng_ok z3
  refine ⟨knotErr_ok z1, wordErr_ok z2, r, ?_⟩
  split at z4
  · cases z4
  · rename_i h4
    rw [mul_len (by omega)] at h4
    omega

theorem T37_err {N : Nat} (hN : Big N) (at0 : Int × Int) (w : List UInt8) (times : Int) (out : Bool) : T37 N (at0, w, times, out) = some (walkErr at0 w times out) := by
  rw [T37_eq]
  simp only [T97_knot, T18_word hN, T89_rng, Option.bind_some, allFit, fi3, di3, List.map_cons, List.map_nil, Bool.and_self, cond_true, T67_first hN _ (show [_, _, _].length ≤ 9223372036854775806 by simp)]
  unfold walkErr
  rw [edge_split]
  by_cases h : firstNZ [knotErr at0, wordErr w, rng times 1 256] = 0
  · have hz := firstNZ_zero.1 h
    simp only [List.mem_cons, List.not_mem_nil, or_false, forall_eq_or_imp, forall_eq] at hz
    obtain ⟨z1, z2, z3⟩ := hz
    have r := rng_ok z3
    have hw := wordErr_ok z2
    have hk := knotErr_ok z1
    have hm : (w.length : Int) * times ≤ 64 * 256 := Int.le_trans (Int.mul_le_mul_of_nonneg_right (by omega) (by omega)) (Int.mul_le_mul_of_nonneg_left r.2 (by omega))
    have hm0 : 0 ≤ (w.length : Int) * times := Int.mul_nonneg (by omega) (by omega)
    simp only [h, bne_self_eq_false, cond_false, if_true]
    rw [w64 (x := (w.length : Int) * times) (by omega)]
    by_cases h2 : (w.length : Int) * times > 256
    · simp [h2]
    · have hlt : w.length * times.toNat ≤ 256 := by rw [mul_len (by omega)] at h2; omega
      obtain ⟨n, rfl⟩ : ∃ n : Nat, times = (n : Int) := ⟨times.toNat, by omega⟩
      rw [Int.toNat_natCast] at hlt
      have hlen : (knotsL out at0 (repT w n)).length ≤ 1000 := by rw [knotsL_length, repT_length, Nat.mul_comm]; omega
      obtain ⟨o, o1, o2⟩ := R37_loop hN (knotsL out at0 (repT w n)) hlen
      simp only [h2, decide_false, cond_false, if_false, if_true, T39_knots hN at0 ⟨hk.1, hk.2.1, hk.2.2.1, hk.2.2.2.1⟩ w out n hlt (by omega), Option.bind_some, o1, Int.toNat_natCast]
      rw [← o2]
      rcases o with o | o <;> rfl
  · simp [h, bne0 h]
end Go.Proofs.YtbfappllfpngdaaGreatDoor
