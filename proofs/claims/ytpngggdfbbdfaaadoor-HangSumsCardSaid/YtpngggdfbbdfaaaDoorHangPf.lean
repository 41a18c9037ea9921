/- Plain laws: ropes. -/
import Derived.Test.YtpngggdfbbdfaaaDoorHangTb
import Derived.Test.YtpngggdfbbdfaaaDoorHangPe
set_option linter.all false
namespace Go.Proofs.YtpngggdfbbdfaaaDoor
open Go Go.Am
set_option maxRecDepth 100000

/-! ### Loops along lists -/

/-- A fold that may stop. -/
def foldI {S α Y : Type} (st : S → α → S ⊕ Y) : S → List α → S ⊕ Y
  | s, [] => .inl s
  | s, a :: l => Sum.elim (fun s' => foldI st s' l) (fun y => .inr y) (st s a)

theorem loopR_fold {V X S α Y : Type} {rd : V → Option (V ⊕ X)} (l : List α) (E : S → Nat → V) (st : S → α → S ⊕ Y) (fin : S → X) (ex : Y → X) (P : S → Nat → Prop)
    (h : ∀ s k (hk : k < l.length), P s k → rd (E s k) = some (Sum.map (fun s' => E s' (k + 1)) ex (st s l[k])) ∧ ∀ s', st s l[k] = .inl s' → P s' (k + 1))
    (h0 : ∀ s, P s l.length → rd (E s l.length) = some (.inr (fin s))) :
    ∀ n s k, k ≤ l.length → l.length < n + k → P s k → loopR rd n (E s k) = some (Sum.elim fin ex (foldI st s (l.drop k)))
  | 0, s, k, hk, hn, _ => by omega
  | n + 1, s, k, hk, hn, hP => by
    rw [loopR_next]
    by_cases hlt : k < l.length
    · obtain ⟨h1, h2⟩ := h s k hlt hP
      rw [h1, List.drop_eq_getElem_cons hlt]
      simp only [Option.bind_some, foldI]
      cases hs : st s l[k] with
      | inl s' =>
        simp only [Sum.map_inl, Sum.elim_inl]
        exact loopR_fold l E st fin ex P h h0 n s' (k + 1) (by omega) (by omega) (h2 s' hs)
      | inr y => simp only [Sum.map_inr, Sum.elim_inr]
    · have : k = l.length := by omega
      subst this
      rw [h0 s hP, List.drop_eq_nil_of_le (Nat.le_refl _)]
      rfl

theorem loopR_foldl {V X S α : Type} {rd : V → Option (V ⊕ X)} (l : List α) (E : S → Nat → V) (f : S → α → S) (fin : S → X) (P : S → Nat → Prop)
    (h : ∀ s k (hk : k < l.length), P s k → rd (E s k) = some (.inl (E (f s l[k]) (k + 1))) ∧ P (f s l[k]) (k + 1))
    (h0 : ∀ s, P s l.length → rd (E s l.length) = some (.inr (fin s))) :
    ∀ n s k, k ≤ l.length → l.length < n + k → P s k → loopR rd n (E s k) = some (fin ((l.drop k).foldl f s))
  | 0, s, k, hk, hn, _ => by omega
  | n + 1, s, k, hk, hn, hP => by
    rw [loopR_next]
    by_cases hlt : k < l.length
    · obtain ⟨h1, h2⟩ := h s k hlt hP
      rw [h1, List.drop_eq_getElem_cons hlt]
      simp only [Option.bind_some, Sum.elim_inl, List.foldl_cons]
      exact loopR_foldl l E f fin P h h0 n _ (k + 1) (by omega) (by omega) h2
    · have : k = l.length := by omega
      subst this
      rw [h0 s hP, List.drop_eq_nil_of_le (Nat.le_refl _)]
      rfl

theorem in_range {k n : Nat} (h : k < n) : decide (0 ≤ (k : Int) ∧ (k : Int) < (n : Int)) = true := by simp; omega
theorem lt_range {k n : Nat} (h : k < n) : decide ((k : Int) < (n : Int)) = true := by simpa using h
theorem ge_range (n : Nat) : decide ((n : Int) < (n : Int)) = false := by simp
theorem w_succ {k : Nat} (h : k < 9223372036854775807) : IntKind.wrap .i64 ((k : Int) + 1) = ((k + 1 : Nat) : Int) := by rw [w64 (by omega)]; simp


theorem foldl_snoc {α : Type} (l : List α) : ∀ a : List α, l.foldl (fun a x => a ++ [x]) a = a ++ l := by
  induction l with
  | nil => intro a; simp
  | cons x l ih => intro a; simp [ih]

theorem foldI_inl {S α Y : Type} {st : S → α → S ⊕ Y} {P : S → Nat → Prop} : ∀ {l : List α} {s s' : S} {k : Nat}, (∀ s a s' k, a ∈ l → P s k → st s a = .inl s' → P s' (k + 1)) → P s k → foldI st s l = .inl s' → P s' (k + l.length)
  | [], s, s', k, _, h0, hf => by
    simp only [foldI] at hf
    cases hf
    exact h0
  | a :: l, s, s', k, h, h0, hf => by
    simp only [foldI] at hf
    cases hs : st s a with
    | inl s1 =>
      rw [hs] at hf
      have := foldI_inl (l := l) (fun s a s' k ha => h s a s' k (by simp [ha])) (h s a s1 k (by simp) h0 hs) hf
      rwa [show k + 1 + l.length = k + (a :: l).length by simp; omega] at this
    | inr y => rw [hs] at hf; cases hf

/-! ### Sections -/

abbrev Sec := Int × Int × Int
def csec1 (s : Sec) : Int := firstNZ [rng s.1 1 300, chk s.2.1 s.2.2]
def csec (l : List Sec) : Int := if l.length = 0 then 12 else if l.length > 32 then 5 else firstNZ (l.map csec1)
def shortS (l : List Sec) : Bool := decide (l.length ≤ 5 ∨ l.length = 33) && l.all fun s => !(decide (s.1 > 12) && decide (s.1 ≤ 300))

theorem firstNZ_append (a b : List Int) : firstNZ (a ++ b) = if firstNZ a = 0 then firstNZ b else firstNZ a := by
  induction a with
  | nil => simp [firstNZ]
  | cons x a ih =>
    simp only [List.cons_append, firstNZ]
    by_cases h : x = 0
    · simp [h, ih]
    · simp [h]
theorem firstNZ_zero {l : List Int} : firstNZ l = 0 ↔ ∀ x ∈ l, x = 0 := by
  induction l with
  | nil => simp [firstNZ]
  | cons x l ih =>
    simp only [firstNZ, List.mem_cons, forall_eq_or_imp]
    by_cases h : x = 0
    · simp [h, ih]
    · simp [h]

section sec
variable {N : Nat} (hN : Big N)
include hN

theorem T38_short (l : List Sec) (hl : l.length ≤ 9223372036854775807) : T38 N l = some (shortS l) := by
  rw [T38_eq]
  have e1 : (((bif (decide (((((List.map n112 l)).length : Nat) : Int) > 5)) then (some (((((List.map n112 l)).length : Nat) : Int) != 33)) else (some false)) : Option Bool)) = some (!decide (l.length ≤ 5 ∨ l.length = 33)) := by
    rw [List.length_map]
    by_cases h1 : l.length ≤ 5
    · have : decide (((l.length : Nat) : Int) > 5) = false := by simp; omega
      rw [this]; simp [h1]
    · have : decide (((l.length : Nat) : Int) > 5) = true := by simp; omega
      rw [this]
      by_cases h2 : l.length = 33
      · simp [h2]
      · have : (((l.length : Nat) : Int) != 33) = true := by simp; omega
        simp [h1, h2, this]
  have key := loopR_fold (rd := R38x58 N l) (S := Unit) (Y := Unit) l (fun _ k => (k : Int)) (fun _ s => if s.1 > 12 ∧ s.1 ≤ 300 then .inr () else .inl ()) (fun _ => .inr ()) (fun _ => .inl false) (fun _ _ => True)
    (fun s k hk _ => by
      refine ⟨?_, fun _ _ => trivial⟩
      unfold R38x58
      simp only [List.length_map, Int.toNat_natCast, lt_range hk, in_range hk, nthD_map n112 l k hk, fn112, dn112, Bool.and_self, cond_true, w_succ (by omega : k < 9223372036854775807)]
      by_cases h1 : l[k].1 > 12
      · by_cases h2 : l[k].1 ≤ 300 <;> simp [h1, h2]
      · simp [h1])
    (fun s _ => by
      unfold R38x58
      simp only [List.length_map, ge_range, cond_false]) N () 0 (Nat.zero_le _) (by unfold Big at hN; omega) trivial
  have key' : loopR (V := Int) (X := Bool ⊕ Unit) (R38x58 N l) N 0 = _ := key
  rw [e1]
  simp only [Option.bind_some, key', List.drop_zero]
  unfold shortS
  by_cases h1 : l.length ≤ 5 ∨ l.length = 33
  · simp only [h1, decide_true, Bool.not_true, cond_false, Bool.true_and]
    clear key key' e1 h1 hl
    induction l with
    | nil => rfl
    | cons s l ih =>
      simp only [foldI, List.all_cons]
      by_cases h2 : s.1 > 12 ∧ s.1 ≤ 300
      · simp [h2]
      · have : (!(decide (s.1 > 12) && decide (s.1 ≤ 300))) = true := by
          by_cases h3 : s.1 > 12
          · have : ¬ s.1 ≤ 300 := fun h => h2 ⟨h3, h⟩
            simp [this]
          · simp [h3]
        rw [if_neg h2, this, Bool.true_and]
        exact ih
  · simp only [h1, decide_false, Bool.not_false, cond_true, Bool.false_and]

theorem T40_id (l : List Sec) (hl : l.length ≤ 1000000) : T40 N l = some l := by
  rw [T40_eq]
  have key := loopR_foldl (rd := R40x58 N l) l (fun (s : List Sec) k => (s, (k : Int))) (fun s x => s ++ [x]) (fun s => s) (fun s k => s.length = k)
    (fun s k hk hs => by
      subst hs
      refine ⟨?_, by simp⟩
      unfold R40x58
      have e1 : (List.map n131 s ++ [(AV.agg [(AV.int .i64 l[s.length].1), (AV.int .i64 l[s.length].2.1), (AV.int .i64 l[s.length].2.2)])]) = List.map n131 (s ++ [l[s.length]]) := by rw [List.map_append]; rfl
      have e2 : decide ((s.length + 1) * 24 ≤ 140737488355328) = true := by simp; omega
      simp only [List.length_map, Int.toNat_natCast, lt_range hk, in_range hk, nthD_map n112 l s.length hk, fn112, dn112, Bool.and_self, cond_true, w_succ (by omega : s.length < 9223372036854775807), decide_true, e1, e2, fa131, md131, Bool.and_true, Option.bind_some, List.length_append, List.length_cons, List.length_nil, Nat.zero_add])
    (fun s hs => by
      unfold R40x58
      simp only [List.length_map, ge_range, cond_false, fa131, md131, Bool.and_true, cond_true, Option.bind_some, decide_true]) N [] 0 (Nat.zero_le _) (by unfold Big at hN; omega) rfl
  have key' : loopR (V := (List (Int × Int × Int)) × Int) (X := ((List (Int × Int × Int)))) (R40x58 N l) N ([], 0) = _ := key
  simp only [allFit_nil, List.map_nil, Bool.and_true, cond_true, Option.bind_some, List.length_nil, decide_true, key', List.drop_zero, fa131, md131]
  rw [foldl_snoc]
  rfl

theorem T107_val (s : Sec) : T107 N s = some (csec1 s) := by
  rw [T107_eq, T78_rng, T19_chk hN]
  simp only [Option.bind_some, beq_self_eq_true, Bool.and_true, cond_true, two]
  rw [T72_first hN _ (by simp)]
  rfl

theorem T82_val (l : List Sec) (hl : l.length ≤ 9223372036854775807) : T82 N l = some (csec l) := by
  rw [T82_eq]
  simp only [T74_when, Option.bind_some, Bool.and_true, two]
  rw [T72_first hN _ (by simp)]
  simp only [Option.bind_some, List.length_map]
  unfold csec
  by_cases h0 : l.length = 0
  · simp [h0, firstNZ]
  · by_cases h1 : l.length > 32
    · have e : decide (((l.length : Nat) : Int) > 32) = true := by simp; omega
      have e2 : (((l.length : Nat) : Int) == 0) = false := beq0 (by omega)
      simp [h0, h1, e, e2, firstNZ]
    · have e : decide (((l.length : Nat) : Int) > 32) = false := by simp; omega
      have e2 : (((l.length : Nat) : Int) == 0) = false := beq0 (by omega)
      have key := loopR_foldl (rd := R82x106x58 N l) l (fun (s : List Int) k => (s, (k : Int))) (fun s x => s ++ [csec1 x]) (fun s => s) (fun s k => s.length = k)
        (fun s k hk hs => by
          subst hs
          refine ⟨?_, by simp⟩
          unfold R82x106x58
          have e1 : (List.map n26 s ++ [AV.int .i64 (csec1 l[s.length])]) = List.map n26 (s ++ [csec1 l[s.length]]) := by rw [List.map_append]; rfl
          have e2 : decide ((s.length + 1) * 8 ≤ 140737488355328) = true := by simp; omega
          simp only [List.length_map, Int.toNat_natCast, lt_range hk, in_range hk, nthD_map n131 l s.length hk, fn131, dn131, Bool.and_self, cond_true, w_succ (by omega : s.length < 9223372036854775807), decide_true]
          rw [show T107 N (l[s.length].1, l[s.length].2.1, l[s.length].2.2) = some (csec1 l[s.length]) from T107_val hN l[s.length]]
          simp only [Option.bind_some, e1, e2, fa26, md26, Bool.and_true, cond_true, List.length_append, List.length_cons, List.length_nil, Nat.zero_add, decide_true])
        (fun s hs => by
          unfold R82x106x58
          simp only [List.length_map, ge_range, cond_false, fa26, md26, Bool.and_true, cond_true, Option.bind_some, decide_true]) N [] 0 (Nat.zero_le _) (by unfold Big at hN; omega) rfl
      have key' : loopR (V := (List Int) × Int) (X := ((List Int))) (R82x106x58 N l) N ([], 0) = _ := key
      simp only [e, e2, Bool.false_eq_true, if_false, firstNZ, if_true, bne_self_eq_false, cond_false, allFit_nil, List.map_nil, cond_true, Option.bind_some, List.length_nil, decide_true, key', List.drop_zero, fa26, md26]
      rw [T72_first hN _ (by
        have : ∀ (l : List Sec) (a : List Int), (l.foldl (fun s x => s ++ [csec1 x]) a) = a ++ l.map csec1 := by
          intro l
          induction l with
          | nil => intro a; simp
          | cons x l ih => intro a; simp [ih]
        rw [this]; simp; omega)]
      have : ∀ (l : List Sec) (a : List Int), (l.foldl (fun s x => s ++ [csec1 x]) a) = a ++ l.map csec1 := by
        intro l
        induction l with
        | nil => intro a; simp
        | cons x l ih => intro a; simp [ih]
      rw [this]
      simp [h0, h1]

theorem T43_val (l : List Sec) (hl : l.length ≤ 9223372036854775807) : T43 N l = some (csec l) := by
  rw [T43_eq]
  simp only [List.length_map]
  unfold csec
  by_cases h0 : l.length = 0
  · simp [h0]
  · by_cases h1 : l.length > 32
    · have e : decide (((l.length : Nat) : Int) > 32) = true := by simp; omega
      have e2 : (((l.length : Nat) : Int) == 0) = false := beq0 (by omega)
      simp [h0, h1, e, e2]
    · have e : decide (((l.length : Nat) : Int) > 32) = false := by simp; omega
      have e2 : (((l.length : Nat) : Int) == 0) = false := beq0 (by omega)
      have key := loopR_fold (rd := R43x122 N l) (S := Unit) (Y := Int) l (fun _ k => (k : Int)) (fun _ s => if csec1 s = 0 then .inl () else .inr (csec1 s)) (fun _ => .inr ()) (fun y => .inl y) (fun _ _ => True)
        (fun s k hk _ => by
          refine ⟨?_, fun _ _ => trivial⟩
          unfold R43x122
          simp only [List.length_map, Int.toNat_natCast, lt_range hk, in_range hk, nthD_map n112 l k hk, fn112, dn112, Bool.and_self, cond_true, w_succ (by omega : k < 9223372036854775807), T27_rng, T16_chk hN, Option.bind_some, beq_self_eq_true, Bool.and_true]
          have e3 : ((bif (allFit (Pat.fits p3) [(AV.int .i64 (rng l[k].1 1 300)), (AV.int .i64 (chk l[k].2.1 l[k].2.2))]) then some (List.map d3 [(AV.int .i64 (rng l[k].1 1 300)), (AV.int .i64 (chk l[k].2.1 l[k].2.2))]) else none : Option ((List Int)))) = some [rng l[k].1 1 300, chk l[k].2.1 l[k].2.2] := rfl
          rw [e3]
          simp only [Option.bind_some]
          rw [T26_first hN _ (by simp)]
          simp only [Option.bind_some]
          show (bif (csec1 l[k] != 0) then _ else _) = _
          by_cases hz : csec1 l[k] = 0
          · simp [hz]
          · rw [bne0 hz, if_neg hz]; rfl)
        (fun s _ => by
          unfold R43x122
          simp only [List.length_map, ge_range, cond_false]) N () 0 (Nat.zero_le _) (by unfold Big at hN; omega) trivial
      have key' : loopR (V := Int) (X := Int ⊕ Unit) (R43x122 N l) N 0 = _ := key
      simp only [e, e2, cond_false, key', Option.bind_some, List.drop_zero, h0, h1, if_false]
      clear key key' e e2 h0 h1 hl
      induction l with
      | nil => rfl
      | cons s l ih =>
        simp only [foldI, List.map_cons, firstNZ]
        by_cases h2 : csec1 s = 0
        · simp only [h2, if_true, Sum.elim_inl]; exact ih
        · simp [h2]
end sec
end Go.Proofs.YtpngggdfbbdfaaaDoor
