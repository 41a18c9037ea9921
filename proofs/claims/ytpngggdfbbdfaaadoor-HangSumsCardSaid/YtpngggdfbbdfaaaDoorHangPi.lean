/- Plain laws: tables of twines, and the nearest twine. -/
import Derived.Test.YtpngggdfbbdfaaaDoorHangPh
set_option linter.all false
namespace Go.Proofs.YtpngggdfbbdfaaaDoor
open Go Go.Am
set_option maxRecDepth 100000

abbrev Tw := List UInt8 × Int × Int
def shortT (l : List Tw) : Bool := decide (l.length ≤ 6 ∨ l.length = 33) && l.all fun t => !decide (t.1.length > 40)
def idxFrom (name : List UInt8) : Nat → List Tw → Int
  | _, [] => -1
  | k, t :: l => if t.1 == name then (k : Int) else idxFrom name (k + 1) l
def idxSt (name : List UInt8) (i : Nat) (t : Tw) : Nat ⊕ Nat := if t.1 == name then .inr i else .inl (i + 1)
theorem fold_idx (name : List UInt8) : ∀ (l : List Tw) (k : Nat), Sum.elim (fun (_ : Nat) => (-1 : Int)) (fun (i : Nat) => (i : Int)) (foldI (idxSt name) k l) = idxFrom name k l
  | [], _ => rfl
  | t :: l, k => by
    simp only [foldI, idxFrom, idxSt]
    by_cases h : (t.1 == name) = true
    · simp [h]
    · simp only [h, Bool.false_eq_true, if_false, Sum.elim_inl]
      exact fold_idx name l (k + 1)
theorem idxSt_P {name : List UInt8} {i i' : Nat} {t : Tw} (h : idxSt name i t = .inl i') : i' = i + 1 := by
  unfold idxSt at h
  split at h
  · cases h
  · cases h; rfl

def twErr (before : List Tw) (t : Tw) : Int := if isName t.1 then (if idxFrom t.1 0 before ≥ 0 then 9 else firstNZ [rng t.2.1 1 100000, rng t.2.2 1 100]) else 8
def twSt (l : List Tw) (k : Nat) (t : Tw) : Nat ⊕ Int := if twErr (l.take k) t = 0 then .inl (k + 1) else .inr (twErr (l.take k) t)
def cTw (l : List Tw) : Int := if l.length > 32 then 5 else Sum.elim (fun _ => 0) (fun e => e) (foldI (twSt l) 0 l)
theorem twSt_P {l : List Tw} {k k' : Nat} {t : Tw} (h : twSt l k t = .inl k') : k' = k + 1 := by
  unfold twSt at h
  split at h
  · cases h; rfl
  · cases h

theorem cTw_ok {l : List Tw} (h : cTw l = 0) : l.length ≤ 32 ∧ ∀ t ∈ l, 1 ≤ t.2.1 ∧ t.2.1 ≤ 100000 ∧ 1 ≤ t.2.2 ∧ t.2.2 ≤ 100 := by
  unfold cTw at h
  by_cases h1 : l.length > 32
  · rw [if_pos h1] at h; omega
  · rw [if_neg h1] at h
    refine ⟨by omega, ?_⟩
    have key : ∀ (l' : List Tw) (k : Nat), Sum.elim (fun _ => (0 : Int)) (fun e => e) (foldI (twSt l) k l') = 0 → ∀ t ∈ l', 1 ≤ t.2.1 ∧ t.2.1 ≤ 100000 ∧ 1 ≤ t.2.2 ∧ t.2.2 ≤ 100 := by
      intro l'
      induction l' with
      | nil => intro k _ t ht; simp at ht
      | cons x l' ih =>
        intro k hf t ht
        simp only [foldI, twSt] at hf
        by_cases he : twErr (l.take k) x = 0
        · simp only [he, if_true, Sum.elim_inl] at hf
          rcases List.mem_cons.1 ht with rfl | ht
          · unfold twErr at he
            by_cases hn : isName t.1 = true
            · simp only [hn, if_true] at he
              by_cases hi : idxFrom t.1 0 (l.take k) ≥ 0
              · simp only [hi, if_true] at he; omega
              · simp only [hi, if_false] at he
                obtain ⟨a, b⟩ := firstNZ2z.1 he
                have := rng_zero.1 a
                have := rng_zero.1 b
                omega
            · simp only [hn, Bool.false_eq_true, if_false] at he; omega
          · exact ih _ hf t ht
        · simp only [he, if_false, Sum.elim_inr] at hf
    exact key l 0 h

theorem sub_map {α : Type} (f : α → AV) (l : List α) (k : Nat) : subA 0 k (List.map f l) = List.map f (l.take k) := by simp [subA, List.map_take]

section tw
variable {N : Nat} (hN : Big N)
include hN

theorem T49_short (l : List Tw) (hl : l.length ≤ 9223372036854775807) : T49 N l = some (shortT l) := by
  rw [T49_eq]
  have e1 : (((bif (decide (((((List.map n121 l)).length : Nat) : Int) > 6)) then (some (((((List.map n121 l)).length : Nat) : Int) != 33)) else (some false)) : Option Bool)) = some (!decide (l.length ≤ 6 ∨ l.length = 33)) := by
    rw [List.length_map]
    by_cases h1 : l.length ≤ 6
    · have : decide (((l.length : Nat) : Int) > 6) = false := by simp; omega
      rw [this]; simp [h1]
    · have : decide (((l.length : Nat) : Int) > 6) = true := by simp; omega
      rw [this]
      by_cases h2 : l.length = 33
      · simp [h2]
      · have : (((l.length : Nat) : Int) != 33) = true := by simp; omega
        simp [h1, h2, this]
  have key := loopR_fold (rd := R49x58 N l) (S := Unit) (Y := Unit) l (fun _ k => (k : Int)) (fun _ t => if t.1.length > 40 then .inr () else .inl ()) (fun _ => .inr ()) (fun _ => .inl false) (fun _ _ => True)
    (fun s k hk _ => by
      refine ⟨?_, fun _ _ => trivial⟩
      unfold R49x58
      simp only [List.length_map, Int.toNat_natCast, lt_range hk, in_range hk, nthD_map n121 l k hk, fn121, dn121, Bool.and_self, cond_true, w_succ (by omega : k < 9223372036854775807)]
      by_cases h1 : l[k].1.length > 40
      · have : decide (((l[k].1.length : Nat) : Int) > 40) = true := by simp; omega
        simp [this, h1]
      · have : decide (((l[k].1.length : Nat) : Int) > 40) = false := by simp; omega
        simp [this, h1])
    (fun s _ => by
      unfold R49x58
      simp only [List.length_map, ge_range, cond_false]) N () 0 (Nat.zero_le _) (by unfold Big at hN; omega) trivial
  have key' : loopR (V := Int) (X := Bool ⊕ Unit) (R49x58 N l) N 0 = _ := key
  rw [e1]
  simp only [Option.bind_some, key', List.drop_zero]
  unfold shortT
  by_cases h1 : l.length ≤ 6 ∨ l.length = 33
  · simp only [h1, decide_true, Bool.not_true, cond_false, Bool.true_and]
    clear key key' e1 h1 hl
    induction l with
    | nil => rfl
    | cons s l ih =>
      simp only [foldI, List.all_cons]
      by_cases h2 : s.1.length > 40
      · simp [h2]
      · have : (!decide (s.1.length > 40)) = true := by simp; omega
        rw [if_neg h2, this, Bool.true_and]
        exact ih
  · simp only [h1, decide_false, Bool.not_false, cond_true, Bool.false_and]

theorem T51_id (l : List Tw) (hl : l.length ≤ 1000000) : T51 N l = some l := by
  rw [T51_eq]
  have key := loopR_foldl (rd := R51x58 N l) l (fun (s : List Tw) k => (s, (k : Int))) (fun s x => s ++ [x]) (fun s => s) (fun s k => s.length = k)
    (fun s k hk hs => by
      subst hs
      refine ⟨?_, by simp⟩
      unfold R51x58
      have e1 : (List.map n132 s ++ [(AV.agg [(AV.str l[s.length].1), (AV.int .i64 l[s.length].2.1), (AV.int .i64 l[s.length].2.2)])]) = List.map n132 (s ++ [l[s.length]]) := by rw [List.map_append]; rfl
      have e2 : decide ((s.length + 1) * 32 ≤ 140737488355328) = true := by simp; omega
      simp only [List.length_map, Int.toNat_natCast, lt_range hk, in_range hk, nthD_map n121 l s.length hk, fn121, dn121, Bool.and_self, cond_true, w_succ (by omega : s.length < 9223372036854775807), decide_true, e1, e2, fa132, md132, Bool.and_true, Option.bind_some, List.length_append, List.length_cons, List.length_nil, Nat.zero_add])
    (fun s hs => by
      unfold R51x58
      simp only [List.length_map, ge_range, cond_false, fa132, md132, Bool.and_true, cond_true, Option.bind_some, decide_true]) N [] 0 (Nat.zero_le _) (by unfold Big at hN; omega) rfl
  have key' : loopR (V := (List ((List UInt8) × Int × Int)) × Int) (X := ((List ((List UInt8) × Int × Int)))) (R51x58 N l) N ([], 0) = _ := key
  simp only [allFit_nil, List.map_nil, Bool.and_true, cond_true, Option.bind_some, List.length_nil, decide_true, key', List.drop_zero, fa132, md132]
  rw [foldl_snoc]
  rfl

theorem T88_idx (l : List Tw) (name : List UInt8) (hl : l.length ≤ 9223372036854775807) : T88 N (l, name) = some (idxFrom name 0 l) := by
  rw [T88_eq]
  have key := loopR_fold (rd := R88x26 N l name) l (fun (_ : Nat) k => (k : Int)) (idxSt name) (fun _ => .inr ()) (fun i => .inl (i : Int)) (fun i k => i = k)
    (fun i k hk hi => by
      subst hi
      refine ⟨?_, fun s' h' => idxSt_P h'⟩
      unfold R88x26 idxSt
      simp only [List.length_map, Int.toNat_natCast, lt_range hk, in_range hk, nthD_map n121 l i hk, fn121, dn121, Bool.and_self, cond_true, w_succ (by omega : i < 9223372036854775807)]
      by_cases h : (l[i].1 == name) = true <;> simp [h])
    (fun i _ => by
      unfold R88x26
      simp only [List.length_map, ge_range, cond_false]) N 0 0 (Nat.zero_le _) (by unfold Big at hN; omega) rfl
  have key' : loopR (V := Int) (X := Int ⊕ Unit) (R88x26 N l name) N 0 = _ := key
  rw [key']
  simp only [Option.bind_some, List.drop_zero]
  rw [← fold_idx]
  cases foldI (idxSt name) 0 l <;> rfl

theorem T54_inner (l : List Tw) (k : Nat) (t : Tw) (hl : l.length ≤ 9223372036854775807) : ∃ o, loopR (V := Int × (List UInt8) × Int × Int) (X := (Int × (List UInt8) × Int × Int) ⊕ ((List UInt8) × Int × Int)) (R54x110x26 N l (k : Int)) N (0, t.1, t.2.1, t.2.2) = some o ∧
    Sum.elim (fun o8 => (some (o8.1, o8.2.1, o8.2.2.1, o8.2.2.2) : Option (Int × (List UInt8) × Int × Int))) (fun o9 => (some ((-1), o9.1, o9.2.1, o9.2.2))) o = some (idxFrom t.1 0 (l.take k), t.1, t.2.1, t.2.2) := by
  have hlen : (l.take k).length ≤ 9223372036854775807 := by rw [List.length_take]; omega
  have key := loopR_fold (rd := R54x110x26 N l (k : Int)) (l.take k) (fun (_ : Nat) i => ((i : Int), t.1, t.2.1, t.2.2)) (idxSt t.1) (fun _ => .inr (t.1, t.2.1, t.2.2)) (fun i => .inl ((i : Int), t.1, t.2.1, t.2.2)) (fun i k => i = k)
    (fun i j hk hi => by
      subst hi
      refine ⟨?_, fun s' h' => idxSt_P h'⟩
      unfold R54x110x26 idxSt
      simp only [Int.toNat_natCast, sub_map, List.length_map, lt_range hk, in_range hk, nthD_map n132 (l.take k) i hk, fn132, dn132, Bool.and_self, cond_true, w_succ (by omega : i < 9223372036854775807)]
      generalize ((l.take k)[i].1 == t.1) = b
      cases b <;> rfl)
    (fun i _ => by
      unfold R54x110x26
      simp only [Int.toNat_natCast, sub_map, List.length_map, ge_range, cond_false]) N 0 0 (Nat.zero_le _) (by unfold Big at hN; omega) rfl
  refine ⟨_, key, ?_⟩
  rw [List.drop_zero, ← fold_idx]
  cases foldI (idxSt t.1) 0 (l.take k) <;> rfl

theorem T54_val (l : List Tw) (hl : l.length ≤ 9223372036854775807) : T54 N l = some (cTw l) := by
  rw [T54_eq]
  simp only [List.length_map]
  unfold cTw
  by_cases h1 : l.length > 32
  · have e : decide (((l.length : Nat) : Int) > 32) = true := by simp; omega
    simp [h1, e]
  · have e : decide (((l.length : Nat) : Int) > 32) = false := by simp; omega
    have key := loopR_fold (rd := R54x58 N l) l (fun (_ : Nat) k => (k : Int)) (twSt l) (fun _ => .inr ()) (fun y => .inl y) (fun i k => i = k)
      (fun k k' hk hi => by
        subst hi
        refine ⟨?_, fun s' h' => twSt_P h'⟩
        obtain ⟨o, o1, o2⟩ := T54_inner hN l k l[k] hl
        unfold R54x58
        have z : decide ((0 : Int) ≤ (k : Int) ∧ (k : Int) ≤ (l.length : Int)) = true := by simp; omega
        simp only [List.length_map, Int.toNat_natCast, lt_range hk, in_range hk, z, nthD_map n132 l k hk, fn132, dn132, Bool.and_self, cond_true, w_succ (by omega : k < 9223372036854775807), o1, Option.bind_some, o2, T92_name hN, beq_self_eq_true, T74_when, T73_rng, four, Bool.and_true]
        rw [T72_first hN _ (by simp)]
        simp only [Option.bind_some]
        have e3 : firstNZ [if (!isName l[k].1) = true then 8 else 0, if decide (idxFrom l[k].1 0 (l.take k) ≥ 0) = true then 9 else 0, rng l[k].2.1 1 100000, rng l[k].2.2 1 100] = twErr (l.take k) l[k] := by
          unfold twErr
          cases isName l[k].1 with
          | false => rfl
          | true =>
            by_cases h2 : idxFrom l[k].1 0 (l.take k) ≥ 0
            · simp [h2, firstNZ]
            · simp [h2, firstNZ]
        rw [e3]
        unfold twSt
        by_cases hz : twErr (l.take k) l[k] = 0
        · simp [hz]
        · rw [bne0 hz, if_neg hz]; rfl)
      (fun s _ => by
        unfold R54x58
        simp only [List.length_map, ge_range, cond_false]) N 0 0 (Nat.zero_le _) (by unfold Big at hN; omega) rfl
    have key' : loopR (V := Int) (X := Int ⊕ Unit) (R54x58 N l) N 0 = _ := key
    simp only [e, cond_false, key', Option.bind_some, List.drop_zero, h1, if_false]
    cases foldI (twSt l) 0 l <;> rfl

theorem T52_val (l : List Tw) (hl : l.length ≤ 9223372036854775807) : T52 N l = some (cTw l) := by
  rw [T52_eq]
  simp only [List.length_map]
  unfold cTw
  by_cases h1 : l.length > 32
  · have e : decide (((l.length : Nat) : Int) > 32) = true := by simp; omega
    simp [h1, e]
  · have e : decide (((l.length : Nat) : Int) > 32) = false := by simp; omega
    have key := loopR_fold (rd := R52x58 N l) l (fun (_ : Nat) k => (k : Int)) (twSt l) (fun _ => .inr ()) (fun y => .inl y) (fun i k => i = k)
      (fun k k' hk hi => by
        subst hi
        refine ⟨?_, fun s' h' => twSt_P h'⟩
        unfold R52x58
        have z : decide ((0 : Int) ≤ (k : Int) ∧ (k : Int) ≤ (l.length : Int)) = true := by simp; omega
        have t2 : ∀ x y : Int, ((bif (allFit (Pat.fits p3) [(AV.int .i64 x), (AV.int .i64 y)]) then some (List.map d3 [(AV.int .i64 x), (AV.int .i64 y)]) else none : Option ((List Int)))) = some [x, y] := fun _ _ => rfl
        have hlen : (l.take k).length ≤ 9223372036854775807 := by rw [List.length_take]; omega
        simp only [List.length_map, Int.toNat_natCast, lt_range hk, in_range hk, z, nthD_map n121 l k hk, fn121, dn121, Bool.and_self, cond_true, w_succ (by omega : k < 9223372036854775807), Option.bind_some, T87_name hN, sub_map, fa121, md121, Bool.and_true, T88_idx hN _ _ hlen, beq_self_eq_true, T27_rng, t2]
        rw [T26_first hN _ (by simp)]
        simp only [Option.bind_some]
        unfold twSt twErr
        cases isName l[k].1 with
        | false => simp
        | true =>
          by_cases h2 : idxFrom l[k].1 0 (l.take k) ≥ 0
          · simp [h2]
          · have h2' : decide (idxFrom l[k].1 0 (l.take k) ≥ 0) = false := by simpa using h2
            simp only [Bool.not_true, cond_false, h2', if_true, h2, if_false]
            by_cases hz : firstNZ [rng l[k].2.1 1 100000, rng l[k].2.2 1 100] = 0
            · simp [hz]
            · rw [bne0 hz, if_neg hz]; rfl)
      (fun s _ => by
        unfold R52x58
        simp only [List.length_map, ge_range, cond_false]) N 0 0 (Nat.zero_le _) (by unfold Big at hN; omega) rfl
    have key' : loopR (V := Int) (X := Int ⊕ Unit) (R52x58 N l) N 0 = _ := key
    simp only [e, cond_false, key', Option.bind_some, List.drop_zero, h1, if_false]
    cases foldI (twSt l) 0 l <;> rfl
end tw
end Go.Proofs.YtpngggdfbbdfaaaDoor
