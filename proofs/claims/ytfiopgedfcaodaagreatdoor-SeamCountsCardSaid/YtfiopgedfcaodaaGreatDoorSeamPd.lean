/- Plain laws: degrees and counts of what is sewn. -/
import Derived.Test.YtfiopgedfcaodaaGreatDoorSeamPc
set_option linter.all false
namespace Go.Proofs.YtfiopgedfcaodaaGreatDoor
open Go Go.Am
set_option maxRecDepth 100000

/-! ### Lists out of functions -/
def uL (n : Nat) (u : Nat → Nat) : List Int := (List.range n).map fun i => ((u i : Nat) : Int)
@[simp] theorem uL_len (n : Nat) (u : Nat → Nat) : (uL n u).length = n := by simp [uL]
theorem uL_get {n : Nat} (u : Nat → Nat) {k : Nat} (hk : k < (uL n u).length) : (uL n u)[k] = (u k : Int) := by simp [uL]
theorem uL_set (n : Nat) (u : Nat → Nat) (k v : Nat) : (uL n u).set k (v : Int) = uL n (upd u k v) := by
  apply List.ext_getElem
  · simp
  · intro j h1 h2
    have e1 : (uL n (upd u k v))[j] = ((upd u k v j : Nat) : Int) := uL_get _ _
    rw [List.getElem_set, e1]
    by_cases e : j = k
    · subst e; rw [if_pos rfl, upd_self]
    · have e' : ¬ k = j := fun h => e h.symm
      rw [if_neg e', upd_ne e, uL_get]
theorem uL_ext {n : Nat} {u v : Nat → Nat} (h : ∀ i, i < n → u i = v i) : uL n u = uL n v := by
  unfold uL
  apply List.map_congr_left
  intro i hi
  rw [h i (List.mem_range.1 hi)]
theorem atU (n : Nat) (u : Nat → Nat) {k : Nat} (hk : k < n) : d3 (nthD (List.map n3 (uL n u)) k) = (u k : Int) ∧ Pat.fits p3 (nthD (List.map n3 (uL n u)) k) = true := by
  obtain ⟨a1, a2⟩ := at3 (uL n u) (k := k) (by simpa using hk)
  exact ⟨a1.trans (uL_get u _), a2⟩
theorem setU (n : Nat) (u : Nat → Nat) (k v : Nat) : setN (List.map n3 (uL n u)) k (AV.int .i64 (v : Int)) = List.map n3 (uL n (upd u k v)) := by rw [setN3, uL_set]

/-- How many numbers have themselves. -/
def cnt (f : Nat → Nat) (k : Nat) : Nat := (List.range k).countP fun i => decide (f i = i)
theorem cnt_succ (f : Nat → Nat) (k : Nat) : cnt f (k + 1) = cnt f k + if f k = k then 1 else 0 := by
  unfold cnt
  rw [List.range_succ, List.countP_append, List.countP_singleton]
  by_cases h : f k = k <;> simp [h]
theorem cnt_le (f : Nat → Nat) (k : Nat) : cnt f k ≤ k := by
  have := List.countP_le_length (p := fun i => decide (f i = i)) (l := List.range k)
  rwa [List.length_range] at this
theorem errB_ok {n : Int} {b : Int × Int} (h : errB n b = 0) : 0 ≤ b.1 ∧ b.1 ≤ b.2 ∧ b.2 < n := by
  have h := firstNZ_zero.1 h
  have h1 := h (rng b.1 0 (n - 1)) (by simp)
  have h2 := h (rng b.2 0 (n - 1)) (by simp)
  have h3 := h (if decide (b.1 > b.2) = true then 11 else 0) (by simp)
  unfold rng at h1 h2
  split at h1
  · cases h1
  · split at h2
    · cases h2
    · split at h3
      · cases h3
      · rename_i a b c
        simp at c
        omega
theorem chkS_ok {C : List (List P3)} {B : List (Int × Int)} (h : chkS C B = 0) : C.length ≤ 8192 ∧ B.length ≤ 8192 ∧ ∀ b ∈ B, 0 ≤ b.1 ∧ b.1 ≤ b.2 ∧ b.2 < (C.length : Int) := by
  unfold chkS at h
  split at h
  · cases h
  · rename_i h0
    refine ⟨by omega, by omega, ?_⟩
    cases hf : foldI stC [] C with
    | inr e =>
      rw [hf] at h
      have key : ∀ (l : List (List P3)) (s : List P3) (e : Int × List P3), foldI stC s l = .inr e → e.1 ≠ 0 := by
        intro l
        induction l with
        | nil => intro s e h; cases h
        | cons c l ih =>
          intro s e h
          unfold foldI at h
          cases hs : stC s c with
          | inl s' => rw [hs] at h; exact ih s' e h
          | inr y =>
            rw [hs] at h
            injection h with h
            subst h
            unfold stC at hs
            split at hs
            · injection hs with hs; subst hs; show (12 : Int) ≠ 0; decide
            · have k2 : ∀ (l : List P3) (s : List P3) (e : Int × List P3), foldI stP s l = .inr e → e.1 ≠ 0 := by
                intro l
                induction l with
                | nil => intro s e h; cases h
                | cons p l ih =>
                  intro s e h
                  unfold foldI at h
                  unfold stP at h
                  split at h
                  · exact ih _ e h
                  · rename_i hz
                    injection h with h
                    subst h
                    exact hz
              exact k2 _ _ _ hs
      exact absurd h (key _ _ _ hf)
    | inl s =>
      rw [hf] at h
      intro b hb
      exact errB_ok (firstNZ_zero.1 h _ (List.mem_map.2 ⟨b, hb, rfl⟩))

theorem mm_if (a b : Nat) : ((if (b : Int) > (a : Int) then (b : Int) else (a : Int)) = ((max a b : Nat) : Int)) ∧ ((if (b : Int) < (a : Int) then (b : Int) else (a : Int)) = ((min a b : Nat) : Int)) := by
  constructor <;> split <;> omega

/-! ### Degrees -/
def bmp (s : List Int) (i : Nat) : List Int := s.set i (IntKind.wrap .i64 (s.getD i 0 + 1))
theorem bmp_len (s : List Int) (i : Nat) : (bmp s i).length = s.length := by simp [bmp]
def deg (n : Nat) (B : List (Int × Int)) : List Int := B.foldl (fun s b => bmp (bmp s b.1.toNat) b.2.toNat) (List.replicate n 0)
theorem deg_len (n : Nat) (B : List (Int × Int)) : (deg n B).length = n := by
  unfold deg
  have : ∀ (B : List (Int × Int)) (s : List Int), (B.foldl (fun s b => bmp (bmp s b.1.toNat) b.2.toNat) s).length = s.length := fun B => by
    induction B with
    | nil => intro s; rfl
    | cons b B ih => intro s; rw [List.foldl_cons, ih, bmp_len, bmp_len]
  rw [this, List.length_replicate]
theorem bmp_at (s : List Int) {i : Nat} (hi : i < s.length) : setN (List.map n3 s) i (AV.int .i64 (IntKind.wrap .i64 (s[i] + 1))) = List.map n3 (bmp s i) := by
  rw [setN3]
  unfold bmp
  have e : s.getD i 0 = s[i] := by simp [hi]
  rw [e]

section
variable {N : Nat} (hN : Big N) (C : List (List P3)) (B : List (Int × Int)) (hC : C.length ≤ 8192) (hB : B.length ≤ 8192) (hb : ∀ b ∈ B, 0 ≤ b.1 ∧ b.1 ≤ b.2 ∧ b.2 < (C.length : Int))
include hN hC hB hb
theorem R54_loop : loopR (R54x122 N (C, B)) N (0, List.replicate C.length 0) = some (deg C.length B) := by
  have key := loopR_foldl (rd := R54x122 N (C, B)) B (fun s k => ((k : Int), s)) (fun s b => bmp (bmp s b.1.toNat) b.2.toNat) (fun s => s) (fun s _ => s.length = C.length) (fun s k hk hs => by
    obtain ⟨a1, a2⟩ := at46g B hk
    obtain ⟨c1, c2, c3⟩ := hb _ (List.getElem_mem hk)
    obtain ⟨i, hi⟩ := Int.eq_ofNat_of_zero_le c1
    obtain ⟨j, hj⟩ := Int.eq_ofNat_of_zero_le (Int.le_trans c1 c2)
    have hic : i < C.length := by omega
    have hjc : j < C.length := by omega
    have his : i < s.length := by omega
    have hjs : j < (bmp s i).length := by rw [bmp_len]; omega
    obtain ⟨x1, x2⟩ := at3 s his
    obtain ⟨y1, y2⟩ := at3 (bmp s i) hjs
    have di : decide (i < C.length) = true := decide_eq_true hic
    have dj : decide (j < C.length) = true := decide_eq_true hjc
    refine ⟨?_, by rw [bmp_len, bmp_len, hs]⟩
    simp only [R54x122, List.length_map, Int.toNat_natCast, a1, a2, hi, hj, lt_range hk, in_range hk, in_range hic, in_range hjc, Bool.and_self, cond_true, hs, Nat.zero_add, decide_true, di, dj, x1, x2, bmp_at s his, bmp_len, y1, y2, bmp_at (bmp s i) hjs, fa3, md3, Option.bind_some, w_succ (show k < 9223372036854775807 by omega)]) (fun s hs => by
    simp only [R54x122, List.length_map, ge_range, cond_false, fa3, md3, Bool.and_self, cond_true, Option.bind_some]) N (List.replicate C.length 0) 0 (Nat.zero_le _) (by unfold Big at hN; omega) (by simp)
  rw [List.drop_zero] at key
  exact key
theorem R58_loop : loopR (R58x58 N (C, B)) N (0, List.replicate C.length 0) = some (deg C.length B) := by
  have key := loopR_foldl (rd := R58x58 N (C, B)) B (fun s k => ((k : Int), s)) (fun s b => bmp (bmp s b.1.toNat) b.2.toNat) (fun s => s) (fun s _ => s.length = C.length) (fun s k hk hs => by
    obtain ⟨a1, a2⟩ := at46g B hk
    obtain ⟨c1, c2, c3⟩ := hb _ (List.getElem_mem hk)
    obtain ⟨i, hi⟩ := Int.eq_ofNat_of_zero_le c1
    obtain ⟨j, hj⟩ := Int.eq_ofNat_of_zero_le (Int.le_trans c1 c2)
    have hic : i < C.length := by omega
    have hjc : j < C.length := by omega
    have his : i < s.length := by omega
    have hjs : j < (bmp s i).length := by rw [bmp_len]; omega
    obtain ⟨x1, x2⟩ := at3 s his
    obtain ⟨y1, y2⟩ := at3 (bmp s i) hjs
    have di : decide (i < C.length) = true := decide_eq_true hic
    have dj : decide (j < C.length) = true := decide_eq_true hjc
    refine ⟨?_, by rw [bmp_len, bmp_len, hs]⟩
    simp only [R58x58, List.length_map, Int.toNat_natCast, a1, a2, hi, hj, lt_range hk, in_range hk, in_range hic, in_range hjc, Bool.and_self, cond_true, hs, Nat.zero_add, decide_true, di, dj, x1, x2, bmp_at s his, bmp_len, y1, y2, bmp_at (bmp s i) hjs, fa3, md3, Option.bind_some, w_succ (show k < 9223372036854775807 by omega)]) (fun s hs => by
    simp only [R58x58, List.length_map, ge_range, cond_false, fa3, md3, Bool.and_self, cond_true, Option.bind_some]) N (List.replicate C.length 0) 0 (Nat.zero_le _) (by unfold Big at hN; omega) (by simp)
  rw [List.drop_zero] at key
  exact key
theorem T58_deg : T58 N (C, B) = some (deg C.length B) := by
  have hd : decide ((0 : Int) ≤ (C.length : Int) ∧ (C.length : Int) ≤ (C.length : Int) ∧ (C.length : Int) ≤ 140737488355328 ∧ (C.length : Int) * 8 ≤ 140737488355328) = true := decide_eq_true (by omega)
  rw [T58_eq]
  simp only [List.length_map, hd, cond_true, Int.toNat_natCast, rep3, fa3, md3, Bool.and_self, Option.bind_some, R58_loop hN C B hC hB hb, deg_len, decide_true, cl3]

/-! ### Parts -/
def edg (B : List (Int × Int)) : List (Nat × Nat) := B.map fun b => (b.1.toNat, b.2.toNat)
omit hN hC hB hb in
theorem lab_take (es : List (Nat × Nat)) {k : Nat} (hk : k < es.length) : lab (es.take (k + 1)) = mrg (lab (es.take k)) es[k] := by
  unfold lab
  rw [List.take_add_one, List.foldl_append, List.getElem?_eq_getElem hk]
  rfl

omit hC hB hb in
/-- The way to the least number of a class. -/
theorem root_loop {n : Nat} {f : Nat → Nat} (o9 : Unit × List Int) (ho : o9.2.length = n) : ∀ (fuel i : Nat) (u : Nat → Nat), i < fuel → i < n → UF f n u →
    ∃ u', loopR (R55x123x12 N o9) fuel ((i : Int), uL n u) = some ((f i : Int), uL n u') ∧ UF f n u'
  | 0, i, u, h, _, _ => by omega
  | fuel + 1, i, u, hf, hi, hu => by
    rw [loopR_succ]
    obtain ⟨a1, a2⟩ := atU n u hi
    have hle := hu.le i hi
    have hui : u i < n := by omega
    obtain ⟨b1, b2⟩ := atU n u hui
    obtain ⟨c1, c2⟩ := atU n (upd u i (u (u i))) hi
    rw [upd_self] at c1
    have di : decide (i < n) = true := decide_eq_true hi
    have du : decide (u i < n) = true := decide_eq_true hui
    by_cases he : u i = i
    · refine ⟨u, ?_, hu⟩
      have hb : ((u i : Int) != (i : Int)) = false := by simp [he]
      simp only [R55x123x12, List.length_map, ho, uL_len, Int.toNat_natCast, Nat.zero_add, in_range hi, decide_true, di, a1, a2, Bool.and_self, cond_true, hb, cond_false, fa3, md3, Option.bind_some, Sum.elim_inr]
      rw [hu.fix i hi he]
    · have hb : ((u i : Int) != (i : Int)) = true := by simp; omega
      have hlt := hu.le (u i) hui
      have hstep : R55x123x12 N o9 ((i : Int), uL n u) = some (.inl ((u (u i) : Int), uL n (upd u i (u (u i))))) := by
        simp only [R55x123x12, List.length_map, ho, uL_len, Int.toNat_natCast, Nat.zero_add, in_range hi, in_range hui, decide_true, di, du, a1, a2, b1, b2, Bool.and_self, cond_true, hb, setU, c1, c2, fa3, md3, Option.bind_some]
      rw [hstep]
      simp only [Option.bind_some, Sum.elim_inl]
      have hu2 := hu.half hi he
      obtain ⟨u', h1, h2⟩ := root_loop o9 ho fuel (u (u i)) _ (by omega) (by omega) hu2
      refine ⟨u', ?_, h2⟩
      rw [h1, (hu.lb (u i) hui).trans (hu.lb i hi)]

theorem bars_loop (o9 : Unit × List Int) (ho : o9.2.length = C.length) : ∀ (m k fuel : Nat) (u : Nat → Nat), k + m = B.length → m < fuel → UF (lab ((edg B).take k)) C.length u →
    ∃ u', loopR (R55x122 N (C, B) o9) fuel ((k : Int), uL C.length u) = some (uL C.length u') ∧ UF (lab (edg B)) C.length u'
  | 0, k, fuel, u, hk, hf, hu => by
    obtain ⟨fuel, rfl⟩ : ∃ g, fuel = g + 1 := ⟨fuel - 1, by omega⟩
    have hk : k = B.length := by omega
    subst hk
    rw [loopR_succ]
    refine ⟨u, ?_, ?_⟩
    · simp only [R55x122, List.length_map, ge_range, cond_false, fa3, md3, Bool.and_self, cond_true, Option.bind_some, Sum.elim_inr]
    · have e : (edg B).take B.length = edg B := List.take_of_length_le (by simp [edg])
      rwa [e] at hu
  | m + 1, k, fuel, u, hk, hf, hu => by
    obtain ⟨fuel, rfl⟩ : ∃ g, fuel = g + 1 := ⟨fuel - 1, by omega⟩
    have hk' : k < B.length := by omega
    rw [loopR_succ]
    obtain ⟨a1, a2⟩ := at46g B hk'
    obtain ⟨c1, c2, c3⟩ := hb _ (List.getElem_mem hk')
    obtain ⟨i, hi⟩ := Int.eq_ofNat_of_zero_le c1
    obtain ⟨j, hj⟩ := Int.eq_ofNat_of_zero_le (Int.le_trans c1 c2)
    have hic : i < C.length := by omega
    have hjc : j < C.length := by omega
    have hke : k < (edg B).length := by simp [edg]; exact hk'
    have he : (edg B)[k] = (i, j) := by simp [edg, hi, hj]
    have hl := lab_take (edg B) hke
    rw [he] at hl
    have hok := lab_ok ((edg B).take k)
    obtain ⟨u1, r1, hu1⟩ := root_loop hN o9 ho N i u (by unfold Big at hN; omega) hic hu
    obtain ⟨u2, r2, hu2⟩ := root_loop hN o9 ho N j u1 (by unfold Big at hN; omega) hjc hu1
    have r2' : loopR (R55x123x12b N o9) N ((j : Int), uL C.length u1) = some ((lab ((edg B).take k) j : Int), uL C.length u2) := r2
    obtain ⟨m1, m2⟩ := mm_if (lab ((edg B).take k) i) (lab ((edg B).take k) j)
    have hmax : max (lab ((edg B).take k) i) (lab ((edg B).take k) j) < C.length := by
      have x1 := hok.le i
      have x2 := hok.le j
      omega
    have dm : decide (max (lab ((edg B).take k) i) (lab ((edg B).take k) j) < C.length) = true := decide_eq_true hmax
    have hu3 := hu2.join hok (i, j) hic hjc
    rw [← hl] at hu3
    obtain ⟨u', h1, h2⟩ := bars_loop o9 ho m (k + 1) fuel _ (by omega) (by omega) hu3
    refine ⟨u', ?_, h2⟩
    have hstep : R55x122 N (C, B) o9 ((k : Int), uL C.length u) = some (.inl (((k + 1 : Nat) : Int), uL C.length (upd u2 (max (lab ((edg B).take k) i) (lab ((edg B).take k) j)) (min (lab ((edg B).take k) i) (lab ((edg B).take k) j))))) := by
      simp only [R55x122, List.length_map, Int.toNat_natCast, a1, a2, hi, hj, lt_range hk', in_range hk', Bool.and_self, cond_true, fa3, md3, Option.bind_some, r1, r2', m1, m2, ho, uL_len, in_range hmax, Nat.zero_add, decide_true, dm, setU, w_succ (show k < 9223372036854775807 by omega)]
    rw [hstep]
    simp only [Option.bind_some, Sum.elim_inl]
    exact h1

omit hC hB hb in
theorem count_loop {n : Nat} (hn : n ≤ 8192) {f : Nat → Nat} (o9 : Unit × List Int) (ho : o9.2.length = n) (c1 c2 z : Int) : ∀ (m k fuel : Nat) (u : Nat → Nat), k + m = n → m < fuel → UF f n u →
    ∃ u', loopR (R55x506 N o9) fuel ((k : Int), c1, c2, (cnt f k : Int), z, uL n u) = some (c1, c2, (cnt f n : Int), z, uL n u')
  | 0, k, fuel, u, hk, hf, hu => by
    obtain ⟨fuel, rfl⟩ : ∃ g, fuel = g + 1 := ⟨fuel - 1, by omega⟩
    have hk : k = n := by omega
    subst hk
    rw [loopR_succ]
    exact ⟨u, by simp only [R55x506, List.length_map, ho, ge_range, cond_false, fa3, md3, Bool.and_self, cond_true, Option.bind_some, Sum.elim_inr]⟩
  | m + 1, k, fuel, u, hk, hf, hu => by
    obtain ⟨fuel, rfl⟩ : ∃ g, fuel = g + 1 := ⟨fuel - 1, by omega⟩
    have hk' : k < n := by omega
    rw [loopR_succ]
    obtain ⟨u1, r1, hu1⟩ := root_loop hN o9 ho N k u (by unfold Big at hN; omega) hk' hu
    have r1' : loopR (R55x123x12bb N o9) N ((k : Int), uL n u) = some ((f k : Int), uL n u1) := r1
    obtain ⟨u', h1⟩ := count_loop hn o9 ho c1 c2 z m (k + 1) fuel u1 (by omega) (by omega) hu1
    refine ⟨u', ?_⟩
    have hcl := cnt_le f k
    have hstep : R55x506 N o9 ((k : Int), c1, c2, (cnt f k : Int), z, uL n u) = some (.inl (((k + 1 : Nat) : Int), c1, c2, (cnt f (k + 1) : Int), z, uL n u1)) := by
      simp only [R55x506, List.length_map, ho, lt_range hk', cond_true, fa3, md3, Bool.and_self, Option.bind_some, r1', w_succ (show k < 9223372036854775807 by omega), w_succ (show cnt f k < 9223372036854775807 by omega)]
      rw [cnt_succ]
      by_cases h : f k = k
      · simp only [h, beq_self_eq_true, cond_true, if_true, fa3, md3, Bool.and_self, Option.bind_some]
      · have hb : ((f k : Int) == (k : Int)) = false := beq_false_of_ne (by omega)
        simp only [hb, cond_false, h, if_false, fa3, md3, Bool.and_self, cond_true, Option.bind_some, Nat.add_zero]
    rw [hstep]
    simp only [Option.bind_some, Sum.elim_inl]
    exact h1

omit hC hB hb in
theorem apart_loop (a0 : List (List P3) × List (Int × Int)) (hn : a0.1.length ≤ 8192) : loopR (R55x122x58 N a0) N ((), 0, []) = some ((), uL a0.1.length id) := by
  have hs : ∀ k, uL k id ++ [(k : Int)] = uL (k + 1) id := fun k => by unfold uL; rw [List.range_succ, List.map_append]; rfl
  have key := loopR_count (rd := R55x122x58 N a0) a0.1.length (fun k => ((), (k : Int), uL k id)) ((), uL a0.1.length id) (fun k hk => by
    have hb : (k + 1) * 8 ≤ 140737488355328 := by omega
    simp only [R55x122x58, List.length_map, lt_range hk, cond_true, uL_len, decide_true, Bool.and_self, hb, snoc3, hs, List.length_append, List.length_singleton, Nat.beq_refl, fa3, md3, Option.bind_some, w_succ (show k < 9223372036854775807 by omega)]) (by
    simp only [R55x122x58, List.length_map, ge_range, cond_false, uL_len, Nat.beq_refl, fa3, md3, Bool.and_self, cond_true, Option.bind_some]) N 0 (Nat.zero_le _) (by unfold Big at hN; omega)
  exact key

/-- What is counted. -/
def cntS (C : List (List P3)) (B : List (Int × Int)) : Int × Int × Int × Int :=
  ((C.length : Int), (B.length : Int), (cnt (lab (edg B)) C.length : Int), IntKind.wrap .i64 (IntKind.wrap .i64 ((B.length : Int) - (C.length : Int)) + (cnt (lab (edg B)) C.length : Int)))

/-! ### The reference's rounds -/
theorem R59_init : loopR (R59x58 N (C, B)) N (0, List.replicate C.length 0) = some (uL C.length id) := by
  have h0 : List.replicate C.length (0 : Int) = uL C.length (fun j => if j < 0 then j else 0) := by
    apply List.ext_getElem
    · simp
    · intro j h1 h2
      rw [uL_get]; simp
  have hs : ∀ k, upd (fun j => if j < k then j else 0) k k = fun j => if j < k + 1 then j else 0 := fun k => by
    funext j
    unfold upd
    by_cases h1 : j = k
    · subst h1; simp
    · by_cases h2 : j < k
      · have : j < k + 1 := by omega
        simp [h1, h2, this]
      · have : ¬ j < k + 1 := by omega
        simp [h1, h2, this]
  have key := loopR_count (rd := R59x58 N (C, B)) C.length (fun k => ((k : Int), uL C.length (fun j => if j < k then j else 0))) (uL C.length (fun j => if j < C.length then j else 0)) (fun k hk => by
    have dk : decide (k < C.length) = true := decide_eq_true hk
    simp only [R59x58, List.length_map, Int.toNat_natCast, lt_range hk, in_range hk, cond_true, uL_len, decide_true, Nat.zero_add, dk, Bool.and_self, setU, hs, fa3, md3, Option.bind_some, w_succ (show k < 9223372036854775807 by omega)]) (by
    simp only [R59x58, List.length_map, Int.toNat_natCast, ge_range, cond_false, fa3, md3, Bool.and_self, cond_true, Option.bind_some]) N 0 (Nat.zero_le _) (by unfold Big at hN; omega)
  rw [h0]
  have key' : loopR (R59x58 N (C, B)) N (0, uL C.length (fun j => if j < 0 then j else 0)) = _ := key
  rw [key']
  exact congrArg some (uL_ext fun i hi => by simp [hi])

theorem R59_round (p : Nat → Nat) (hp : ∀ i, p i ≤ i) : loopR (R59x7826 N (C, B)) N (0, uL C.length p) = some (uL C.length (roundP (edg B) p)) := by
  have key := loopR_count (rd := R59x7826 N (C, B)) B.length (fun k => ((k : Int), uL C.length (roundP ((edg B).take k) p))) (uL C.length (roundP (edg B) p)) (fun k hk => by
    obtain ⟨a1, a2⟩ := at46g B hk
    obtain ⟨c1, c2, c3⟩ := hb _ (List.getElem_mem hk)
    obtain ⟨i, hi⟩ := Int.eq_ofNat_of_zero_le c1
    obtain ⟨j, hj⟩ := Int.eq_ofNat_of_zero_le (Int.le_trans c1 c2)
    have hic : i < C.length := by omega
    have hjc : j < C.length := by omega
    have di : decide (i < C.length) = true := decide_eq_true hic
    have dj : decide (j < C.length) = true := decide_eq_true hjc
    have hke : k < (edg B).length := by simp [edg]; exact hk
    have he : (edg B)[k] = (i, j) := by simp [edg, hi, hj]
    have hr : roundP ((edg B).take (k + 1)) p = stepP (roundP ((edg B).take k) p) (i, j) := by
      unfold roundP
      rw [List.take_add_one, List.foldl_append, List.getElem?_eq_getElem hke, he]
      rfl
    rw [hr]
    generalize roundP ((edg B).take k) p = q
    obtain ⟨x1, x2⟩ := atU C.length q hic
    obtain ⟨y1, y2⟩ := atU C.length q hjc
    have hm : (if (q j : Int) < (q i : Int) then (q j : Int) else (q i : Int)) = ((min (q i) (q j) : Nat) : Int) := by split <;> omega
    simp only [R59x7826, List.length_map, Int.toNat_natCast, a1, a2, hi, hj, lt_range hk, in_range hk, in_range hic, in_range hjc, Bool.and_self, cond_true, uL_len, decide_true, Nat.zero_add, di, dj, x1, x2, y1, y2, hm, setU, fa3, md3, Option.bind_some, w_succ (show k < 9223372036854775807 by omega)]
    rfl) (by
    have e : (edg B).take B.length = edg B := List.take_of_length_le (by simp [edg])
    simp only [R59x7826, List.length_map, e, ge_range, cond_false, fa3, md3, Bool.and_self, cond_true, Option.bind_some]) N 0 (Nat.zero_le _) (by unfold Big at hN; omega)
  exact key

theorem R59_rounds : loopR (R59x122 N (C, B)) N (0, uL C.length id) = some (uL C.length (lab (edg B))) := by
  have key := loopR_count (rd := R59x122 N (C, B)) C.length (fun k => ((k : Int), uL C.length (roundsP (edg B) k))) (uL C.length (roundsP (edg B) C.length)) (fun k hk => by
    have hr := R59_round hN C B hC hB hb (roundsP (edg B) k) (propOk_rounds (edg B) k).le
    simp only [R59x122, List.length_map, Int.toNat_natCast, lt_range hk, cond_true, fa3, md3, Bool.and_self, Option.bind_some, hr, w_succ (show k < 9223372036854775807 by omega)]
    rfl) (by
    simp only [R59x122, List.length_map, Int.toNat_natCast, ge_range, cond_false, fa3, md3, Bool.and_self, cond_true, Option.bind_some]) N 0 (Nat.zero_le _) (by unfold Big at hN; omega)
  have key' : loopR (R59x122 N (C, B)) N (0, uL C.length id) = _ := key
  rw [key']
  refine congrArg some (uL_ext fun i hi => rounds_lab (fun e he => ?_) hi)
  obtain ⟨b, hbm, rfl⟩ := List.mem_map.1 he
  have := hb b hbm
  constructor <;> omega

theorem R59_count (f : Nat → Nat) : loopR (R59x506 N (C, B)) N (0, 0, uL C.length f) = some ((cnt f C.length : Int), uL C.length f) := by
  have key := loopR_count (rd := R59x506 N (C, B)) C.length (fun k => ((cnt f k : Int), (k : Int), uL C.length f)) ((cnt f C.length : Int), uL C.length f) (fun k hk => by
    obtain ⟨x1, x2⟩ := atU C.length f hk
    have dk : decide (k < C.length) = true := decide_eq_true hk
    have hcl := cnt_le f k
    simp only [R59x506, List.length_map, Int.toNat_natCast, lt_range hk, in_range hk, cond_true, uL_len, decide_true, Nat.zero_add, dk, x1, x2, Bool.and_self, fa3, md3, w_succ (show k < 9223372036854775807 by omega), w_succ (show cnt f k < 9223372036854775807 by omega)]
    rw [cnt_succ]
    by_cases h : f k = k
    · simp only [h, beq_self_eq_true, cond_true, if_true, fa3, md3, Bool.and_self, Option.bind_some]
    · have hb : ((f k : Int) == (k : Int)) = false := beq_false_of_ne (by omega)
      simp only [hb, cond_false, h, if_false, fa3, md3, Bool.and_self, cond_true, Option.bind_some, Nat.add_zero]) (by
    simp only [R59x506, List.length_map, Int.toNat_natCast, ge_range, cond_false, fa3, md3, Bool.and_self, cond_true, Option.bind_some]) N 0 (Nat.zero_le _) (by unfold Big at hN; omega)
  exact key
theorem T59_cnt : T59 N (C, B) = some (cntS C B) := by
  have hd : decide ((0 : Int) ≤ (C.length : Int) ∧ (C.length : Int) ≤ (C.length : Int) ∧ (C.length : Int) ≤ 140737488355328 ∧ (C.length : Int) * 8 ≤ 140737488355328) = true := decide_eq_true (by omega)
  rw [T59_eq]
  simp only [List.length_map, hd, cond_true, Int.toNat_natCast, rep3, fa3, md3, Bool.and_self, Option.bind_some, R59_init hN C B hC hB hb, R59_rounds hN C B hC hB hb, R59_count hN C B hC hB hb]
  rfl
end
end Go.Proofs.YtfiopgedfcaodaaGreatDoor
