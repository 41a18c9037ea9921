/- Plain laws: what is sewn, its classes, degrees and counts. -/
import Derived.Test.YtfiopgedfcaodaaGreatDoorSeamTc
import Derived.Test.YtfiopgedfcaodaaGreatDoorSeamPs
import Derived.Test.YtfiopgedfcaodaaGreatDoorSeamPv
import Derived.Test.YtfiopgedfcaodaaGreatDoorAmKK
set_option linter.all false
namespace Go.Proofs.YtfiopgedfcaodaaGreatDoor
open Go Go.Am
set_option maxRecDepth 100000

abbrev P3 := Int × Int × Int
theorem at53 (C : List (List P3)) {k : Nat} (hk : k < C.length) : d53 (nthD (List.map n53 C) k) = C[k] ∧ Pat.fits p53 (nthD (List.map n53 C) k) = true := by
  rw [nthD_map n53 C k hk, dn53, fn53]; exact ⟨rfl, rfl⟩
theorem at63 (C : List (List P3)) {k : Nat} (hk : k < C.length) : d63 (nthD (List.map n63 C) k) = C[k] ∧ Pat.fits p63 (nthD (List.map n63 C) k) = true := by
  rw [nthD_map n63 C k hk, dn63, fn63]; exact ⟨rfl, rfl⟩
theorem at94 (C : List P3) {k : Nat} (hk : k < C.length) : d94 (nthD (List.map n94 C) k) = C[k] ∧ Pat.fits p94 (nthD (List.map n94 C) k) = true := by
  rw [nthD_map n94 C k hk, dn94, fn94]; exact ⟨rfl, rfl⟩
theorem at89 (C : List P3) {k : Nat} (hk : k < C.length) : d89 (nthD (List.map n89 C) k) = C[k] ∧ Pat.fits p89 (nthD (List.map n89 C) k) = true := by
  rw [nthD_map n89 C k hk, dn89, fn89]; exact ⟨rfl, rfl⟩
theorem at46g (l : List (Int × Int)) {k : Nat} (hk : k < l.length) : d46 (nthD (List.map n46 l) k) = l[k] ∧ Pat.fits p46 (nthD (List.map n46 l) k) = true := by
  rw [nthD_map n46 l k hk, dn46, fn46]; exact ⟨rfl, rfl⟩

theorem ME177 : MapEnc (.st (.cons 0 1 false .int (.cons 1 2 true (.st (.cons 0 1 false .int (.cons 1 1 false .int .nil))) .nil))) n94 n4 nM177 := ⟨fun a b => eqK_three a b, fun _ => rfl, fun _ => rfl⟩
theorem mk177 (p : P3) (m : List (P3 × Bool)) : mkeys (.st (.cons 0 1 false .int (.cons 1 2 true (.st (.cons 0 1 false .int (.cons 1 1 false .int .nil))) .nil))) (AV.agg [AV.int .i64 p.1, AV.int .i64 p.2.1, AV.int .i64 p.2.2]) (entriesL (List.map nM177 m)) = true := ME177.keys p m
theorem mg177 (p : P3) (m : List (P3 × Bool)) : mgetD (.st (.cons 0 1 false .int (.cons 1 2 true (.st (.cons 0 1 false .int (.cons 1 1 false .int .nil))) .nil))) (AV.agg [AV.int .i64 p.1, AV.int .i64 p.2.1, AV.int .i64 p.2.2]) (AV.bool false) (entriesL (List.map nM177 m)) = n4 ((getM p m).getD false) := ME177.getD p false m
theorem mp177 (p : P3) (m : List (P3 × Bool)) : mputT (.st (.cons 0 1 false .int (.cons 1 2 true (.st (.cons 0 1 false .int (.cons 1 1 false .int .nil))) .nil))) (AV.agg [AV.int .i64 p.1, AV.int .i64 p.2.1, AV.int .i64 p.2.2]) (AV.bool true) (entriesL (List.map nM177 m)) = entriesL (List.map nM177 (putM p true m)) := ME177.put p true m
theorem mc177 (m : List (P3 × Bool)) : mcells (entriesL (List.map nM177 m)) = List.map nM177 m := ME177.cells m
theorem ax177 (m : List (P3 × Bool)) : allX (entriesL (List.map nM177 m)) = true := ME177.allX m

/-- The first place where something holds. -/
theorem find_gen {V X : Type} {rd : V → Option (V ⊕ X)} (m : Nat) (E : Nat → V) (b : Nat → Bool) (y : Nat → X) (x : X)
    (h : ∀ k, k < m → rd (E k) = some (if b k then .inr (y k) else .inl (E (k + 1)))) (h0 : rd (E m) = some (.inr x)) (n : Nat) (hn : m < n) :
    loopR rd n (E 0) = some (match (List.range m).find? b with | some j => y j | none => x) := by
  have key := loopR_fold (rd := rd) (S := Unit) (Y := Nat) (List.range m) (fun _ k => E k) (fun _ i => if b i then .inr i else .inl ()) (fun _ => x) y (fun _ _ => True)
    (fun s k hk _ => by
      have hk : k < m := by simpa using hk
      refine ⟨?_, fun _ _ => trivial⟩
      rw [List.getElem_range, h k hk]
      cases b k <;> rfl) (fun _ _ => by rw [List.length_range]; exact h0) n () 0 (Nat.zero_le _) (by simpa using hn) trivial
  rw [List.drop_zero] at key
  refine key.trans (congrArg some ?_)
  clear key h h0 hn
  generalize List.range m = l
  induction l with
  | nil => rfl
  | cons a l ih =>
    simp only [foldI, List.find?_cons]
    cases b a with
    | true => rfl
    | false => simp only [Bool.false_eq_true, if_false, Sum.elim_inl]; exact ih
theorem find_any {α : Type} (l : List α) (f : α → Bool) (d : α) : ((List.range l.length).find? fun j => f (l.getD j d)).isSome = l.any f := by
  rw [Bool.eq_iff_iff, List.find?_isSome, List.any_eq_true]
  constructor
  · rintro ⟨j, hj, hf⟩
    have hj := List.mem_range.1 hj
    have e : l.getD j d = l[j] := by simp [hj]
    rw [e] at hf
    exact ⟨l[j], List.getElem_mem hj, hf⟩
  · rintro ⟨x, hx, hf⟩
    obtain ⟨j, hj, rfl⟩ := List.getElem_of_mem hx
    exact ⟨j, List.mem_range.2 hj, by have e : l.getD j d = l[j] := by simp [hj]
                                      rw [e]; exact hf⟩
theorem eq_three (x p : P3) : (x.1 == p.1 && ((x.2.1 == p.2.1 && (x.2.2 == p.2.2 && true)) && true)) = decide (x = p) := by
  obtain ⟨x1, x2, x3⟩ := x
  obtain ⟨y1, y2, y3⟩ := p
  simp only [Prod.mk.injEq, Bool.and_true]
  by_cases h1 : x1 = y1 <;> by_cases h2 : x2 = y2 <;> by_cases h3 : x3 = y3 <;> simp [h1, h2, h3]
theorem rep3 (n : Nat) : List.replicate n (AV.int .i64 0) = List.map n3 (List.replicate n 0) := by rw [List.map_replicate]; rfl
theorem cl3 (s : List Int) : closedL (List.map n3 s) = true := closedL_map (fun _ => rfl) s

/-! ### The error of what is sewn -/
def mT (l : List P3) : List (P3 × Bool) := l.map fun x => (x, true)
theorem mT_get (p : P3) (l : List P3) : (getM p (mT l)).getD false = decide (p ∈ l) := by
  unfold mT
  rw [getM_true]
  by_cases h : p ∈ l <;> simp [h]
theorem mT_put (p : P3) (l : List P3) (h : p ∉ l) : putM p true (mT l) = mT (l ++ [p]) := by
  rw [putM_new (by unfold mT; rw [getM_true, if_neg h])]
  simp [mT]
def errP (sn : List P3) (p : P3) : Int := firstNZ [rng p.1 0 15, knotErr (p.2.1, p.2.2), if decide (p ∈ sn) = true then 9 else 0]
def stP (sn : List P3) (p : P3) : List P3 ⊕ (Int × List P3) := if errP sn p = 0 then .inl (sn ++ [p]) else .inr (errP sn p, sn)
def stC (sn : List P3) (c : List P3) : List P3 ⊕ (Int × List P3) := if c.length = 0 then .inr (12, sn) else foldI stP sn c
def errB (n : Int) (b : Int × Int) : Int := firstNZ [rng b.1 0 (n - 1), rng b.2 0 (n - 1), if decide (b.1 > b.2) = true then 11 else 0]
/-- The error of what is sewn. -/
def chkS (C : List (List P3)) (B : List (Int × Int)) : Int :=
  if C.length > 8192 ∨ B.length > 8192 then 5 else match foldI stC [] C with
    | .inr e => e.1
    | .inl _ => firstNZ (B.map (errB C.length))
theorem errP_seen {sn : List P3} {p : P3} (h : errP sn p = 0) : p ∉ sn := fun hp => by
  have := firstNZ_zero.1 h (if decide (p ∈ sn) = true then 9 else 0) (by simp)
  rw [if_pos (decide_eq_true hp)] at this
  cases this

/-- The place of a place, or -1. -/
def atI (l : List P3) (p : P3) : Int := match (List.range l.length).find? fun j => decide (l.getD j (0, 0, 0) = p) with | some j => (j : Int) | none => -1
theorem atI_ge (l : List P3) (p : P3) : decide (atI l p ≥ 0) = decide (p ∈ l) := by
  have h := find_any l (fun x => decide (x = p)) (0, 0, 0)
  have e : l.any (fun x => decide (x = p)) = decide (p ∈ l) := by
    rw [Bool.eq_iff_iff, List.any_eq_true]
    simp
  rw [e] at h
  rw [← h]
  unfold atI
  cases (List.range l.length).find? fun j => decide (l.getD j (0, 0, 0) = p) with
  | none => rfl
  | some j => simp

theorem two3' (x y : Int) : ((bif (allFit (Pat.fits p3) [(AV.int .i64 x), (AV.int .i64 y)] && true) then some (List.map d3 [(AV.int .i64 x), (AV.int .i64 y)]) else none : Option ((List Int)))) = some [x, y] := rfl
theorem errP_ref (sn : List P3) (p : P3) : errP sn p = if firstNZ [rng p.1 0 15, knotErr (p.2.1, p.2.2)] = 0 then (if decide (p ∈ sn) = true then 9 else 0) else firstNZ [rng p.1 0 15, knotErr (p.2.1, p.2.2)] := by
  unfold errP
  have := firstNZ_append [rng p.1 0 15, knotErr (p.2.1, p.2.2)] [if decide (p ∈ sn) = true then 9 else 0]
  simp only [List.cons_append, List.nil_append] at this
  rw [this]
  have e : firstNZ [if decide (p ∈ sn) = true then (9 : Int) else 0] = if decide (p ∈ sn) = true then 9 else 0 := by
    by_cases h : decide (p ∈ sn) = true <;> simp [h, firstNZ]
  rw [e]
theorem snoc89 (l : List P3) (p : P3) : List.map n89 l ++ [AV.agg [AV.int .i64 p.1, AV.int .i64 p.2.1, AV.int .i64 p.2.2]] = List.map n89 (l ++ [p]) := by rw [List.map_append]; rfl


section
variable {N : Nat} (hN : Big N) (C : List (List P3)) (B : List (Int × Int)) (hC : C.length ≤ 10000) (hB : B.length ≤ 10000) (hc : ∀ c ∈ C, c.length ≤ 10000)
include hN hC hB hc
theorem R128_in (k : Nat) (hk : k < C.length) (m0 : List (P3 × Bool)) (sn : List P3) : loopR (R128x62670 N (C, B) ((k : Int), m0)) N (0, mT sn) = some (Sum.elim (fun s => .inr (mT s)) (fun y => .inl (y.1, mT y.2)) (foldI stP sn C[k])) := by
  obtain ⟨a1, a2⟩ := at53 C hk
  have hcl := hc _ (List.getElem_mem hk)
  have key := loopR_fold (rd := R128x62670 N (C, B) ((k : Int), m0)) C[k] (fun s j => ((j : Int), mT s)) stP (fun s => .inr (mT s)) (fun y => .inl (y.1, mT y.2)) (fun _ _ => True) (fun s j hj _ => by
    obtain ⟨b1, b2⟩ := at94 C[k] hj
    refine ⟨?_, fun _ _ => trivial⟩
    simp only [R128x62670, List.length_map, Int.toNat_natCast, a1, b1, b2, lt_range hj, in_range hj, Bool.and_self, cond_true, mk177, mg177, mp177, mc177, ax177, mT_get, dn4, fn4, beq_self_eq_true, T129_rng, T130_knot hN, T91_when, three24, T90_first hN, Option.bind_some, faM177, mdM177, w_succ (show j < 9223372036854775807 by omega)]
    rw [T90_first hN _ (by simp), Option.bind_some]
    unfold stP
    have he : firstNZ [rng C[k][j].1 0 15, knotErr (C[k][j].2.1, C[k][j].2.2), if decide (C[k][j] ∈ s) = true then 9 else 0] = errP s C[k][j] := rfl
    rw [he]
    by_cases hz : errP s C[k][j] = 0
    · simp only [hz, bne_self_eq_false, cond_false, if_true, Sum.map_inl, mT_put _ _ (errP_seen hz), Option.bind_some]
    · simp only [hz, bne0 hz, cond_true, if_false, Sum.map_inr, Option.bind_some]) (fun s _ => by
    simp only [R128x62670, List.length_map, Int.toNat_natCast, a1, ge_range, cond_false, mc177, ax177, faM177, mdM177, Bool.and_self, cond_true, Option.bind_some]) N sn 0 (Nat.zero_le _) (by unfold Big at hN; omega) trivial
  rw [List.drop_zero] at key
  exact key

theorem R128_out : ∃ o, loopR (R128x122 N (C, B)) N (0, mT []) = some o ∧ o = Sum.elim (fun s => .inr (mT s)) (fun y => .inl (y.1, mT y.2)) (foldI stC [] C) := by
  have key := loopR_fold (rd := R128x122 N (C, B)) C (fun s j => ((j : Int), mT s)) stC (fun s => .inr (mT s)) (fun y => .inl (y.1, mT y.2)) (fun _ _ => True) (fun s k hk _ => by
    obtain ⟨a1, a2⟩ := at53 C hk
    refine ⟨?_, fun _ _ => trivial⟩
    have hi := R128_in hN C B hC hB hc k hk (mT s) s
    simp only [R128x122, List.length_map, Int.toNat_natCast, a1, a2, lt_range hk, in_range hk, Bool.and_self, cond_true, mc177, ax177, faM177, mdM177, Option.bind_some, hi, w_succ (show k < 9223372036854775807 by omega)]
    unfold stC
    by_cases hz : C[k].length = 0
    · simp only [hz, if_true, Sum.map_inr]
      rfl
    · have hb : ((C[k].length : Int) == 0) = false := beq_false_of_ne (by omega)
      simp only [hb, cond_false, hz, if_false]
      cases foldI stP s C[k] <;> simp only [Sum.elim_inl, Sum.elim_inr, Sum.map_inl, Sum.map_inr]) (fun s _ => by
    simp only [R128x122, List.length_map, ge_range, cond_false, mc177, ax177, faM177, mdM177, Bool.and_self, cond_true, Option.bind_some]) N [] 0 (Nat.zero_le _) (by unfold Big at hN; omega) trivial
  rw [List.drop_zero] at key
  exact ⟨_, key, rfl⟩
theorem R128_bars (m : List (P3 × Bool)) : loopR (R128x506 N (C, B)) N (0, m) = some (if firstNZ (B.map (errB C.length)) = 0 then .inr m else .inl (firstNZ (B.map (errB C.length)), m)) := by
  have key := loopR_fold (rd := R128x506 N (C, B)) (S := Unit) (Y := Int) (B.map (errB C.length)) (fun _ j => ((j : Int), m)) (fun _ x => if x = 0 then .inl () else .inr x) (fun _ => .inr m) (fun x => .inl (x, m)) (fun _ _ => True) (fun s k hk _ => by
    have hk : k < B.length := by simpa using hk
    obtain ⟨a1, a2⟩ := at46g B hk
    have hm1 : IntKind.wrap .i64 ((C.length : Int) - 1) = (C.length : Int) - 1 := w64 (by omega)
    refine ⟨?_, fun _ _ => trivial⟩
    rw [List.getElem_map]
    simp only [R128x506, List.length_map, Int.toNat_natCast, a1, a2, lt_range hk, in_range hk, Bool.and_self, cond_true, mc177, ax177, faM177, mdM177, beq_self_eq_true, hm1, T93_rng, T91_when, Option.bind_some, w_succ (show k < 9223372036854775807 by omega)]
    have h3 := three24 (rng B[k].1 0 ((C.length : Int) - 1)) (rng B[k].2 0 ((C.length : Int) - 1)) (if decide (B[k].1 > B[k].2) = true then 11 else 0)
    simp only [h3, Option.bind_some]
    rw [T90_first hN _ (by simp), Option.bind_some]
    have he : firstNZ [rng B[k].1 0 ((C.length : Int) - 1), rng B[k].2 0 ((C.length : Int) - 1), if decide (B[k].1 > B[k].2) = true then 11 else 0] = errB C.length B[k] := rfl
    rw [he]
    by_cases hz : errB C.length B[k] = 0
    · simp only [hz, bne_self_eq_false, cond_false, if_true, Sum.map_inl, Option.bind_some]
    · simp only [hz, bne0 hz, cond_true, if_false, Sum.map_inr, Option.bind_some]) (fun s _ => by
    rw [List.length_map]
    simp only [R128x506, List.length_map, ge_range, cond_false, mc177, ax177, faM177, mdM177, Bool.and_self, cond_true, Option.bind_some]) N () 0 (Nat.zero_le _) (by unfold Big at hN; rw [List.length_map]; omega) trivial
  rw [List.drop_zero] at key
  refine key.trans (congrArg some ?_)
  clear key
  generalize B.map (errB C.length) = l
  induction l with
  | nil => rfl
  | cons x l ih =>
    simp only [foldI, firstNZ]
    by_cases e : x = 0
    · simp only [e, if_true, Sum.elim_inl]; exact ih
    · simp [e]

theorem T128_chk : T128 N (C, B) = some (chkS C B) := by
  rw [T128_eq]
  unfold chkS
  by_cases h0 : C.length > 8192 ∨ B.length > 8192
  · rw [if_pos h0]
    have : ((bif (decide ((C.length : Int) > 8192)) then (some true) else (some (decide ((B.length : Int) > 8192)))) : Option Bool) = some true := by
      by_cases h1 : (C.length : Int) > 8192
      · simp [h1]
      · have h2 : (B.length : Int) > 8192 := by omega
        simp [h2]
    simp only [List.length_map, this, Option.bind_some, cond_true]
  · rw [if_neg h0]
    have : ((bif (decide ((C.length : Int) > 8192)) then (some true) else (some (decide ((B.length : Int) > 8192)))) : Option Bool) = some false := by
      have h1 : ¬ (C.length : Int) > 8192 := by omega
      have h2 : ¬ (B.length : Int) > 8192 := by omega
      simp [h1, h2]
    simp only [List.length_map, this, Option.bind_some, cond_false]
    have z : ((bif allFit (Pat.fits pM177) (mcells []) && true then some (0, List.map dM177 (mcells [])) else none : Option (Int × (List (P3 × Bool)))).bind fun w33 => bif allX [] && true then some w33 else none) = some (0, mT []) := rfl
    obtain ⟨o, r1, r2⟩ := R128_out hN C B hC hB hc
    rw [z, Option.bind_some, r1, Option.bind_some, r2]
    cases foldI stC [] C with
    | inr e => rfl
    | inl s =>
      simp only [Sum.elim_inl, Sum.elim_inr, mc177, ax177, faM177, mdM177, Bool.and_self, cond_true, Option.bind_some, R128_bars hN C B hC hB hc]
      by_cases hz : firstNZ (B.map (errB C.length)) = 0
      · simp only [hz, if_true, Sum.elim_inr]
      · simp only [hz, if_false, Sum.elim_inl]

/-! ### The same by the reference -/
omit hC hB hc in
theorem T126_at (l : List P3) (p : P3) (hl : l.length ≤ 1000000000000) : T126 N (l, p) = some (atI l p) := by
  rw [T126_eq]
  have q := find_gen (rd := R126x26 N l p) l.length (fun j => (j : Int)) (fun j => decide (l.getD j (0, 0, 0) = p)) (fun j => .inl (j : Int)) (.inr ()) (fun j hj => by
    obtain ⟨a1, a2⟩ := at89 l hj
    have e : l.getD j (0, 0, 0) = l[j] := by simp [hj]
    simp only [R126x26, List.length_map, Int.toNat_natCast, a1, a2, lt_range hj, in_range hj, Bool.and_self, cond_true, e, eq_three, w_succ (show j < 9223372036854775807 by omega)]
    by_cases h : l[j] = p <;> simp [h]) (by simp only [R126x26, List.length_map, ge_range, cond_false]) N (by unfold Big at hN; omega)
  have q' : loopR (R126x26 N l p) N 0 = _ := q
  rw [q', Option.bind_some]
  unfold atI
  cases (List.range l.length).find? fun j => decide (l.getD j (0, 0, 0) = p) <;> rfl
theorem R56_in (k : Nat) (hk : k < C.length) (l0 : List P3) (sn : List P3) (hsn : sn.length ≤ 100000000) : loopR (R56x15654 N (C, B) (l0, (k : Int))) N (sn, 0) = some (Sum.elim (fun s => .inr s) (fun y => .inl y.1) (foldI stP sn C[k])) := by
  obtain ⟨a1, a2⟩ := at63 C hk
  have hcl := hc _ (List.getElem_mem hk)
  have key := loopR_fold (rd := R56x15654 N (C, B) (l0, (k : Int))) C[k] (fun s j => (s, (j : Int))) stP (fun s => .inr s) (fun y => .inl y.1) (fun s j => s.length ≤ sn.length + j) (fun s j hj hs => by
    obtain ⟨b1, b2⟩ := at89 C[k] hj
    have hb : (s.length + 1) * 24 ≤ 140737488355328 := by omega
    refine ⟨?_, fun s' h => ?_⟩
    · have h126 := T126_at hN s C[k][j] (by omega)
      simp only [R56x15654, List.length_map, Int.toNat_natCast, a1, a2, b1, b2, lt_range hj, in_range hj, in_range hk, Bool.and_self, Bool.and_true, cond_true, beq_self_eq_true, T80_rng, T134_knot, Option.bind_some, fa89, md89]
      have h3 := two3' (rng C[k][j].1 0 15) (knotErr (C[k][j].2.1, C[k][j].2.2))
      rw [Bool.and_true] at h3
      rw [h3, Option.bind_some, T28_first hN _ (by simp), Option.bind_some]
      unfold stP
      rw [errP_ref]
      have h126' : T126 N (s, C[k][j].1, C[k][j].2.1, C[k][j].2.2) = some (atI s C[k][j]) := h126
      simp only [h126', Option.bind_some, atI_ge]
      generalize firstNZ [rng C[k][j].1 0 15, knotErr (C[k][j].2.1, C[k][j].2.2)] = e
      by_cases he : e = 0
      · by_cases hp : C[k][j] ∈ s
        · simp [he, hp, fa89, md89]
        · simp only [he, hp, decide_false, Bool.false_eq_true, if_true, if_false, beq_self_eq_true, bne_self_eq_false, cond_true, cond_false, Option.bind_some, List.length_map, fa89, md89, decide_true, hb, Bool.and_self, Bool.and_true, snoc89, List.length_append, List.length_singleton, Sum.map_inl, w_succ (show j < 9223372036854775807 by omega)]
      · simp [he, beq0 he, bne0 he, fa89, md89]
    · unfold stP at h
      split at h
      · injection h with h; subst h; simp; omega
      · cases h) (fun s hs => by
    simp only [R56x15654, List.length_map, Int.toNat_natCast, a1, a2, in_range hk, ge_range, Bool.and_self, Bool.and_true, cond_true, cond_false, fa89, md89, decide_true, Option.bind_some]) N sn 0 (Nat.zero_le _) (by unfold Big at hN; omega) (Nat.le_refl _)
  rw [List.drop_zero] at key
  exact key
end
end Go.Proofs.YtfiopgedfcaodaaGreatDoor
