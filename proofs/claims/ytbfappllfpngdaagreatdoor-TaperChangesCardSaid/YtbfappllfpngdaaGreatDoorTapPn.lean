/- Plain laws: roots and least rotations; TaperRoots. -/
import Derived.Test.YtbfappllfpngdaaGreatDoorTapPk
set_option linter.all false
namespace Go.Proofs.YtbfappllfpngdaaGreatDoor
open Go Go.Am
set_option maxRecDepth 100000

/-! ### The order of strings -/

theorem bytesLess_eq : ∀ (x y : List UInt8), Op.bytesLess x y = decide (x < y)
  | [], [] => by simp [Op.bytesLess]
  | _ :: _, [] => by simp [Op.bytesLess]
  | [], _ :: _ => by simp [Op.bytesLess]
  | a :: x, b :: y => by
    rw [Op.bytesLess, bytesLess_eq x y]
    simp only [List.cons_lt_cons_iff]
    by_cases h1 : a < b <;> by_cases h2 : a = b <;> by_cases h3 : x < y <;> simp [h1, h2, h3]

theorem le_eq (x y : List UInt8) : (Op.bytesLess x y || x == y) = decide (x ≤ y) := by
  rw [bytesLess_eq]
  by_cases h : x ≤ y
  · rw [decide_eq_true h]
    rcases List.le_iff_lt_or_eq.1 h with h | h
    · simp [h]
    · simp [h]
  · rw [decide_eq_false h]
    have h1 : ¬ x < y := fun e => h (List.le_iff_lt_or_eq.2 (.inl e))
    have h2 : ¬ x = y := fun e => h (List.le_iff_lt_or_eq.2 (.inr e))
    simp [h1, h2]

/-- The lesser string. -/
def mnS (x y : List UInt8) : List UInt8 := if x ≤ y then x else y
theorem mnS_le (x y : List UInt8) : mnS x y ≤ x ∧ mnS x y ≤ y := by
  unfold mnS
  split
  · rename_i h; exact ⟨List.le_refl _, h⟩
  · rename_i h
    refine ⟨?_, List.le_refl _⟩
    rcases List.le_total x y with h' | h'
    · exact absurd h' h
    · exact h'
theorem mnS_or (x y : List UInt8) : mnS x y = x ∨ mnS x y = y := by unfold mnS; split <;> simp

/-- The least of some strings and a first one. -/
theorem fold_min {α : Type} (f : α → List UInt8) : ∀ (l : List α) (a : List UInt8), (l.foldl (fun b x => mnS b (f x)) a ≤ a) ∧ (∀ x ∈ l, l.foldl (fun b x => mnS b (f x)) a ≤ f x) ∧ (l.foldl (fun b x => mnS b (f x)) a = a ∨ ∃ x ∈ l, l.foldl (fun b x => mnS b (f x)) a = f x)
  | [], a => ⟨List.le_refl _, by simp, .inl rfl⟩
  | y :: l, a => by
    obtain ⟨h1, h2, h3⟩ := fold_min f l (mnS a (f y))
    obtain ⟨m1, m2⟩ := mnS_le a (f y)
    refine ⟨List.le_trans h1 m1, fun x hx => ?_, ?_⟩
    · rcases List.mem_cons.1 hx with rfl | hx
      · exact List.le_trans h1 m2
      · exact h2 x hx
    · rcases h3 with h3 | ⟨x, hx, h3⟩
      · rcases mnS_or a (f y) with e | e
        · exact .inl (by rw [List.foldl_cons, h3, e])
        · exact .inr ⟨y, by simp, by rw [List.foldl_cons, h3, e]⟩
      · exact .inr ⟨x, by simp [hx], h3⟩

/-! ### Rotations -/

def rotN (w : List UInt8) (n : Nat) : List UInt8 := rot w (n % w.length)
def fw (w : List UInt8) (i : Nat) : UInt8 := w.getD (i % w.length) 0

theorem rotN_length (w : List UInt8) (n : Nat) : (rotN w n).length = w.length := by
  unfold rotN
  rcases Nat.eq_zero_or_pos w.length with h | h
  · have : w = [] := List.eq_nil_of_length_eq_zero h
    subst this
    simp [rot]
  · exact rot_length w (Nat.le_of_lt (Nat.mod_lt _ h))

theorem rotN_get (w : List UInt8) (n i : Nat) (hi : i < w.length) : (rotN w n).getD i 0 = fw w (i + n) := by
  have hpos : 0 < w.length := by omega
  have hk : n % w.length < w.length := Nat.mod_lt _ hpos
  unfold rotN rot fw
  have e : (i + n) % w.length = (i + n % w.length) % w.length := by rw [Nat.add_mod_mod]
  rw [e]
  generalize n % w.length = k at hk
  rw [List.getD_eq_getElem?_getD, List.getD_eq_getElem?_getD]
  by_cases h : i < w.length - k
  · rw [List.getElem?_append_left (by rw [List.length_drop]; exact h), List.getElem?_drop, Nat.mod_eq_of_lt (by omega), Nat.add_comm]
  · rw [List.getElem?_append_right (by rw [List.length_drop]; omega), List.length_drop, List.getElem?_take, if_pos (by omega)]
    have : (i + k) % w.length = i - (w.length - k) := by
      rw [Nat.mod_eq_sub_mod (by omega), Nat.mod_eq_of_lt (by omega)]
      omega
    rw [this]

theorem ext_getD {a b : List UInt8} (hl : a.length = b.length) (h : ∀ i, i < a.length → a.getD i 0 = b.getD i 0) : a = b := by
  apply List.ext_getElem hl
  intro i h1 h2
  have := h i h1
  rw [getD_at h1, getD_at h2] at this
  exact this

theorem fw_mod (w : List UInt8) (i : Nat) : fw w (i % w.length) = fw w i := by unfold fw; rw [Nat.mod_mod]
theorem fw_rotN (w : List UInt8) (n i : Nat) : fw (rotN w n) i = fw w (i + n) := by
  rcases Nat.eq_zero_or_pos w.length with h | h
  · have : w = [] := List.eq_nil_of_length_eq_zero h
    subst this
    simp [fw, rotN, rot]
  · unfold fw
    rw [rotN_length]
    have := rotN_get w n (i % w.length) (Nat.mod_lt _ h)
    rw [this]
    unfold fw
    rw [Nat.mod_add_mod]

theorem rotN_rotN (w : List UInt8) (a b : Nat) : rotN (rotN w a) b = rotN w (a + b) := by
  apply ext_getD (by rw [rotN_length, rotN_length, rotN_length])
  intro i hi
  rw [rotN_length, rotN_length] at hi
  rw [rotN_get _ _ _ (by rw [rotN_length]; exact hi), fw_rotN, rotN_get w (a + b) i hi]
  congr 1
  omega

theorem rotN_zero (w : List UInt8) : rotN w 0 = w := by unfold rotN rot; simp
theorem rotN_len (w : List UInt8) : rotN w w.length = w := by unfold rotN rot; simp

/-- The numbers by which a rotation leaves a word as it is. -/
def Fix (w : List UInt8) (n : Nat) : Prop := ∀ i, fw w (i + n) = fw w i
theorem fix_rot {w : List UInt8} {n : Nat} : Fix w n ↔ rotN w n = w := by
  constructor
  · intro h
    apply ext_getD (rotN_length w n)
    intro i hi
    rw [rotN_length] at hi
    rw [rotN_get w n i hi, h i]
    unfold fw
    rw [Nat.mod_eq_of_lt hi]
  · intro h i
    rw [← fw_rotN, h]
theorem fix_len (w : List UInt8) : Fix w w.length := fix_rot.2 (rotN_len w)
theorem fix_sub {w : List UInt8} {a b : Nat} (ha : Fix w a) (hb : Fix w b) (h : a ≤ b) : Fix w (b - a) := fun i => by
  rw [← ha (i + (b - a)), show i + (b - a) + a = i + b by omega, hb i]
theorem fix_mul {w : List UInt8} {a : Nat} (ha : Fix w a) : ∀ k, Fix w (k * a)
  | 0 => fun i => by simp
  | k + 1 => fun i => by rw [Nat.succ_mul, show i + (k * a + a) = i + k * a + a by omega, ha, fix_mul ha k i]
theorem fix_mod {w : List UInt8} {a : Nat} (ha : Fix w a) (b : Nat) (hb : Fix w b) : Fix w (b % a) := by
  have h : b % a = b - b / a * a := by have := Nat.div_add_mod b a; rw [Nat.mul_comm] at this; omega
  rw [h]
  exact fix_sub (fix_mul ha _) hb (by have := Nat.div_add_mod b a; rw [Nat.mul_comm] at this; omega)

/-- The first number from n on for which p holds. -/
def findFrom (p : Nat → Bool) : Nat → Nat → Nat
  | 0, n => n
  | f + 1, n => if p n then n else findFrom p f (n + 1)
theorem findFrom_spec (p : Nat → Bool) : ∀ (f n m : Nat), n ≤ m → m ≤ n + f → p m = true → p (findFrom p f n) = true ∧ n ≤ findFrom p f n ∧ findFrom p f n ≤ m ∧ ∀ j, n ≤ j → j < findFrom p f n → p j = false
  | 0, n, m, h1, h2, hm => by
    have : n = m := by omega
    subst this
    exact ⟨hm, Nat.le_refl _, Nat.le_refl _, fun j h1 h2 => absurd h2 (by show ¬ j < n; omega)⟩
  | f + 1, n, m, h1, h2, hm => by
    unfold findFrom
    by_cases h : p n = true
    · rw [if_pos h]
      exact ⟨h, Nat.le_refl _, h1, fun j h1 h2 => by omega⟩
    · rw [if_neg h]
      have hne : n ≠ m := fun e => h (by rw [e]; exact hm)
      obtain ⟨a, b, c, d⟩ := findFrom_spec p f (n + 1) m (by omega) (by omega) hm
      refine ⟨a, by omega, c, fun j j1 j2 => ?_⟩
      by_cases e : j = n
      · subst e; simpa using h
      · exact d j (by omega) j2

/-- The length of the root. -/
def per (w : List UInt8) : Nat := findFrom (fun n => rotN w n == w) w.length 1
theorem per_ok {w : List UInt8} (hw : w ≠ []) : Fix w (per w) ∧ 1 ≤ per w ∧ per w ≤ w.length ∧ ∀ j, 1 ≤ j → j < per w → ¬ Fix w j := by
  have hpos : 0 < w.length := by cases w; exact absurd rfl hw; simp
  obtain ⟨a, b, c, d⟩ := findFrom_spec (fun n => rotN w n == w) w.length 1 w.length (by omega) (by omega) (by simpa using rotN_len w)
  refine ⟨fix_rot.2 (by unfold per; simpa using a), b, c, fun j j1 j2 hf => ?_⟩
  have := d j j1 j2
  simp [fix_rot.1 hf] at this
theorem per_dvd {w : List UInt8} (hw : w ≠ []) : w.length % per w = 0 := by
  obtain ⟨h1, h2, h3, h4⟩ := per_ok hw
  have hf := fix_mod h1 _ (fix_len w)
  rcases Nat.eq_zero_or_pos (w.length % per w) with h | h
  · exact h
  · exact absurd hf (h4 _ h (Nat.mod_lt _ (by omega)))

def root (w : List UInt8) : List UInt8 := w.take (per w)
def expo (w : List UInt8) : Nat := w.length / per w

section theory
variable {w : List UInt8} (hw : w ≠ [])
include hw
theorem root_length : (root w).length = per w := by
  unfold root
  rw [List.length_take]
  have := (per_ok hw).2.2.1
  omega
theorem expo_mul : expo w * per w = w.length := by
  have := Nat.div_add_mod w.length (per w)
  rw [per_dvd hw, Nat.add_zero, Nat.mul_comm] at this
  exact this
theorem fw_root (i : Nat) : fw (root w) i = fw w i := by
  obtain ⟨h1, h2, h3, h4⟩ := per_ok hw
  have hm : i % per w < per w := Nat.mod_lt _ (by omega)
  have e : fw w i = fw w (i % per w) := by
    have := fix_mul h1 (i / per w) (i % per w)
    rw [← this, Nat.mul_comm, Nat.add_comm, Nat.div_add_mod]
  rw [e]
  unfold fw
  rw [root_length hw, Nat.mod_eq_of_lt (show i % per w < w.length by omega)]
  unfold root
  rw [List.getD_eq_getElem?_getD, List.getD_eq_getElem?_getD, List.getElem?_take, if_pos hm]
theorem root_pow : repT (root w) (expo w) = w := by
  have hl : (repT (root w) (expo w)).length = w.length := by rw [repT_length, root_length hw, expo_mul hw]
  apply ext_getD hl
  intro i hi
  rw [rep_at _ _ i hi]
  have : (root w).getD (i % (root w).length) 0 = fw w i := fw_root hw i
  rw [this]
  unfold fw
  rw [hl] at hi
  rw [Nat.mod_eq_of_lt hi]
theorem root_ne : root w ≠ [] := by
  intro e
  have := root_length hw
  rw [e] at this
  have h := (per_ok hw).2.1
  simp at this
  omega
theorem per_root : per (root w) = per w := by
  have hr := root_ne hw
  obtain ⟨a1, a2, a3, a4⟩ := per_ok hw
  obtain ⟨b1, b2, b3, b4⟩ := per_ok hr
  have hf : ∀ n, Fix (root w) n ↔ Fix w n := by
    intro n
    unfold Fix
    constructor
    · intro h i
      rw [← fw_root hw, ← fw_root hw, h i]
    · intro h i
      rw [fw_root hw, fw_root hw, h i]
  rcases Nat.lt_trichotomy (per (root w)) (per w) with h | h | h
  · exact absurd ((hf _).1 b1) (a4 _ b2 h)
  · exact h
  · exact absurd ((hf _).2 a1) (b4 _ a2 h)
end theory

theorem root_root {w : List UInt8} (hw : w ≠ []) : root (root w) = root w ∧ expo (root w) = 1 := by
  have h := per_root hw
  have hl := root_length hw
  have h2 := (per_ok hw).2.1
  refine ⟨?_, ?_⟩
  · show (root w).take (per (root w)) = root w
    rw [h]
    exact List.take_of_length_le (by omega)
  · show (root w).length / per (root w) = 1
    rw [h, hl]
    exact Nat.div_self (by omega)

/-! ### The program -/

section
variable {N : Nat} (hN : Big N) (w : List UInt8)
include hN

theorem T48_loop (hne : w ≠ []) (hw : w.length ≤ 64) : ∀ (f n fuel : Nat), 1 ≤ n → n + f = w.length + 1 → f < fuel → (∀ j, 1 ≤ j → j < n → ¬ Fix w j) → n ≤ w.length + 1 →
    loopR (V := Int) (X := Int) (R48x60 N w) fuel (n : Int) = some ((findFrom (fun n => rotN w n == w) f n : Nat) : Int) ∨ n = w.length + 1 := by
  intro f
  induction f with
  | zero => intro n fuel h1 h2 h3 h4 h5; right; omega
  | succ f ih =>
    intro n fuel h1 h2 h3 h4 h5
    left
    obtain ⟨fu, rfl⟩ : ∃ fu, fuel = fu + 1 := ⟨fuel - 1, by omega⟩
    have hpos : 0 < w.length := by cases w; exact absurd rfl hne; simp
    have hz : ¬ ((w.length : Nat) : Int) = 0 := by omega
    have hlt : n % w.length < w.length := Nat.mod_lt _ hpos
    rw [loopR_succ]
    simp only [R48x60, hz, decide_false, Bool.not_false, cond_true, tmod_nat, T102_rot N w (n % w.length) (by omega) (by omega), Option.bind_some]
    unfold findFrom
    have e : rot w (n % w.length) = rotN w n := rfl
    rw [e]
    by_cases h : rotN w n = w
    · have hb : (rotN w n == w) = true := by simpa using h
      simp only [hb, Bool.not_true, cond_false, Option.bind_some, Sum.elim_inr, if_true]
    · have hb : (rotN w n == w) = false := by simpa using h
      have hn : n ≠ w.length := fun e => h (by rw [e]; exact rotN_len w)
      simp only [hb, Bool.not_false, cond_true, Option.bind_some, Sum.elim_inl, Bool.false_eq_true, if_false, w_succ (show n < 9223372036854775807 by omega)]
      rcases ih (n + 1) fu (by omega) (by omega) (by omega) (fun j j1 j2 => by
        by_cases e : j = n
        · subst e; exact fun hf => h (fix_rot.1 hf)
        · exact h4 j j1 (by omega)) (by omega) with r | r
      · exact r
      · omega

theorem T48_root : T48 N w = some (if wordErr w = 0 then (root w, ((expo w : Nat) : Int), 0) else ([], 0, wordErr w)) := by
  rw [T48_eq, T21_word hN]
  simp only [Option.bind_some]
  by_cases h : wordErr w = 0
  · obtain ⟨h1, h2, h3⟩ := wordErr_ok h
    have hpos : 0 < w.length := by cases w; exact absurd rfl h1; simp
    obtain ⟨p1, p2, p3, p4⟩ := per_ok h1
    have key := T48_loop hN w h1 h2 w.length 1 N (by omega) (by omega) (by unfold Big at hN; omega) (fun j j1 j2 => by omega) (by omega)
    have key' : loopR (V := Int) (X := Int) (R48x60 N w) N 1 = some ((per w : Nat) : Int) := by
      rcases key with k | k
      · exact k
      · omega
    have i1 : decide ((0 : Int) ≤ ((per w : Nat) : Int) ∧ ((per w : Nat) : Int) ≤ (w.length : Int)) = true := by simp only [decide_eq_true_eq]; omega
    have i2 : ¬ ((per w : Nat) : Int) = 0 := by omega
    have e1 : subA 0 (per w) w = root w := by unfold subA root; rw [List.drop_zero]
    have e2 : IntKind.wrap .i64 (Int.tdiv ((w.length : Nat) : Int) ((per w : Nat) : Int)) = ((expo w : Nat) : Int) := by
      rw [Int.tdiv_eq_ediv_of_nonneg (by omega), ← Int.natCast_ediv]
      have : w.length / per w ≤ w.length := Nat.div_le_self _ _
      unfold expo
      generalize w.length / per w = q at this ⊢
      exact w64 (by omega)
    simp only [h, bne_self_eq_false, cond_false, key', Option.bind_some, i1, Bool.and_self, cond_true, i2, decide_false, Bool.not_false, Int.toNat_natCast, e1, e2, if_true]
  · simp [h, bne0 h]

/-- The least rotation. -/
def least (w : List UInt8) : List UInt8 := (List.range w.length).foldl (fun b k => mnS b (rotN w k)) w

theorem T49_least : T49 N w = some (textOf (wordErr w) (least w)) := by
  rw [T49_eq, T21_word hN]
  simp only [Option.bind_some]
  unfold textOf
  by_cases h : wordErr w = 0
  · obtain ⟨h1, h2, h3⟩ := wordErr_ok h
    have key := loopR_foldl (rd := R49x122 N w) (List.range w.length) (fun (b : List UInt8) k => (b, (k : Int))) (fun b k => mnS b (rotN w k)) (fun b => b) (fun _ _ => True)
      (fun b k hk _ => by
        refine ⟨?_, trivial⟩
        rw [List.length_range] at hk
        have e : (List.range w.length)[k]'(by rw [List.length_range]; exact hk) = k := List.getElem_range _
        have e2 : rot w k = rotN w k := by unfold rotN; rw [Nat.mod_eq_of_lt hk]
        rw [e]
        simp only [R49x122, lt_range hk, cond_true, T102_rot N w k (by omega) (by omega), Option.bind_some, w_succ (show k < 9223372036854775807 by omega), e2, le_eq]
        unfold mnS
        by_cases hle : b ≤ rotN w k <;> simp [hle])
      (fun b _ => by
        rw [List.length_range]
        simp only [R49x122, ge_range, cond_false]) N w 0 (Nat.zero_le _) (by rw [List.length_range]; unfold Big at hN; omega) trivial
    rw [List.drop_zero] at key
    have key' : loopR (V := (List UInt8) × Int) (X := ((List UInt8))) (R49x122 N w) N (w, 0) = some (least w) := key
    simp only [h, bne_self_eq_false, cond_false, key', Option.bind_some, if_true]
  · simp [h, bne0 h]
end

theorem least_ok (w : List UInt8) : (∀ n, least w ≤ rotN w n) ∧ ∃ n, least w = rotN w n := by
  obtain ⟨h1, h2, h3⟩ := fold_min (fun k => rotN w k) (List.range w.length) w
  refine ⟨fun n => ?_, ?_⟩
  · rcases Nat.eq_zero_or_pos w.length with h | h
    · have : w = [] := List.eq_nil_of_length_eq_zero h
      subst this
      simp [least, rotN, rot]
    · have := h2 (n % w.length) (List.mem_range.2 (Nat.mod_lt _ h))
      have e : rotN w (n % w.length) = rotN w n := by unfold rotN; rw [Nat.mod_mod]
      rw [← e]
      exact this
  · rcases h3 with h3 | ⟨n, _, h3⟩
    · exact ⟨0, by rw [rotN_zero]; exact h3⟩
    · exact ⟨n, h3⟩
theorem least_rot (w : List UInt8) (k : Nat) (hw : 0 < w.length) : least (rotN w k) = least w := by
  obtain ⟨a1, n, a2⟩ := least_ok w
  obtain ⟨b1, m, b2⟩ := least_ok (rotN w k)
  apply List.le_antisymm
  · rw [a2]
    have := b1 (n + (w.length - k % w.length))
    rw [rotN_rotN] at this
    have e : rotN w (k + (n + (w.length - k % w.length))) = rotN w n := by
      unfold rotN
      congr 1
      have hk : k % w.length < w.length := Nat.mod_lt _ hw
      have hd := Nat.div_add_mod k w.length
      rw [show k + (n + (w.length - k % w.length)) = n + w.length * (k / w.length + 1) by rw [Nat.mul_add, Nat.mul_one]; omega, Nat.add_mul_mod_self_left]
    rw [e] at this
    exact this
  · rw [b2, rotN_rotN]
    exact a1 _

theorem TaperRoots_true {N : Nat} (hN : Big N) (w : List UInt8) (n : Int) (hn : 0 ≤ n ∧ n ≤ 255) : T11 N (w, n) = some true := by
  rw [T11_eq, T18_word hN]
  simp only [T15, Option.bind_some, Bool.not_true, cond_false]
  by_cases hg : (w.length : Int) > 30
  · simp [hg]
  · simp only [hg, decide_false, cond_false]
    by_cases h : wordErr w = 0
    · obtain ⟨h1, h2, h3⟩ := wordErr_ok h
      have hpos : 0 < w.length := by cases w; exact absurd rfl h1; simp
      obtain ⟨p1, p2, p3, p4⟩ := per_ok h1
      have hr := root_ne h1
      have hrl := root_length h1
      have hem := expo_mul h1
      have hra : (root w).all isL = true := List.all_eq_true.2 fun x hx => List.all_eq_true.1 h3 x (List.mem_of_mem_take hx)
      have hrw : wordErr (root w) = 0 := by unfold wordErr; rw [if_neg hr, if_neg (by omega), if_pos hra]
      have hexp : 1 ≤ expo w := by
        rcases Nat.eq_zero_or_pos (expo w) with e | e
        · rw [e] at hem; omega
        · exact e
      have hexl : expo w ≤ 30 := Nat.le_trans (Nat.div_le_self _ _) (by omega)
      obtain ⟨rr1, rr2⟩ := root_root h1
      have c1 : ¬ ((expo w : Nat) : Int) < 1 := by omega
      have c2 : IntKind.wrap .i64 (((expo w : Nat) : Int) * ((per w : Nat) : Int)) = ((w.length : Nat) : Int) := by
        rw [← Int.natCast_mul, hem]; exact w64 (by omega)
      have hpow : powErr (root w) ((expo w : Nat) : Int) = 0 := by
        refine firstNZ_zero.2 ?_
        simp only [List.mem_cons, List.not_mem_nil, or_false, forall_eq_or_imp, forall_eq]
        refine ⟨hrw, by unfold rng; rw [if_neg (by omega)], ?_⟩
        rw [if_neg (by omega : ¬ 64 < ((expo w : Nat) : Int)), hrl, ← Int.natCast_mul, Nat.mul_comm, hem, if_neg (by omega)]
      have t47 : T47 N (root w, ((expo w : Nat) : Int)) = some (w, 0) := by
        rw [T47_pow hN _ _ (by omega), hpow, Int.toNat_natCast, root_pow h1]; rfl
      have t48 : T48 N w = some (root w, ((expo w : Nat) : Int), 0) := by rw [T48_root hN, if_pos h]
      have t48r : T48 N (root w) = some (root w, 1, 0) := by rw [T48_root hN, if_pos hrw, rr1, rr2]; rfl
      have hz : ¬ ((w.length : Nat) : Int) = 0 := by omega
      have hwn : IntKind.wrap .i64 n = n := w64 (by omega)
      obtain ⟨m, rfl⟩ : ∃ m : Nat, n = (m : Int) := ⟨n.toNat, by omega⟩
      have hk : m % w.length < w.length := Nat.mod_lt _ hpos
      have rotT : ∀ (v : List UInt8) (j : Nat), wordErr v = 0 → j ≤ 100 → T45 N (v, (j : Int)) = some (rotN v j, 0) := by
        intro v j hv hj
        have re : rotErr v (j : Int) = 0 := by
          refine firstNZ_zero.2 ?_
          simp only [List.mem_cons, List.not_mem_nil, or_false, forall_eq_or_imp, forall_eq]
          exact ⟨hv, by unfold rng; rw [if_neg (by omega)]⟩
        rw [T45_rot hN, re, Int.toNat_natCast]
        rfl
      have hwx : wordErr (rotN w (m % w.length)) = 0 := wordErr_rot h (Nat.le_of_lt (Nat.mod_lt _ hpos))
      have hxl := rotN_length w (m % w.length)
      have hwb : IntKind.wrap .i64 (((w.length : Nat) : Int) - ((m % w.length : Nat) : Int)) = ((w.length - m % w.length : Nat) : Int) := by rw [w64 (by omega)]; omega
      have t45a := rotT w (m % w.length) h (by omega)
      have t45b := rotT (rotN w (m % w.length)) (w.length - m % w.length) hwx (by omega)
      have hyw : rotN (rotN w (m % w.length)) (w.length - m % w.length) = w := by
        rw [rotN_rotN, show m % w.length + (w.length - m % w.length) = w.length by omega, rotN_len]
      rw [hyw] at t45b
      have t49a : T49 N w = some (least w, 0) := by rw [T49_least hN, h]; rfl
      have t49b : T49 N (rotN w (m % w.length)) = some (least w, 0) := by rw [T49_least hN, hwx, least_rot w _ hpos]; rfl
      have vx : vec (rotN w (m % w.length)) = vec w := vec_rot _ _
      have t46a : T46 N w = some (vec w, 0) := by rw [T46_vec hN, if_pos h]
      have t46b : T46 N (rotN w (m % w.length)) = some (vec w, 0) := by rw [T46_vec hN, if_pos hwx, vx]
      have t46r : T46 N (root w) = some (vec (root w), 0) := by rw [T46_vec hN, if_pos hrw]
      obtain ⟨l1, j, l2⟩ := least_ok w
      have ll : (least w).length = w.length := by rw [l2, rotN_length]
      have le1 : (Op.bytesLess (least w) w || least w == w) = true := by
        rw [le_eq]; have := l1 0; rw [rotN_zero] at this; simpa using this
      have le2 : (Op.bytesLess (least w) (rotN w (m % w.length)) || least w == rotN w (m % w.length)) = true := by
        rw [le_eq]; simpa using l1 (m % w.length)
      have hvr : vec w = (((expo w : Nat) : Int) * (vec (root w)).1, ((expo w : Nat) : Int) * (vec (root w)).2) := by
        have := vec_rep (root w) (expo w)
        rw [root_pow h1] at this
        exact this
      have hv := vec_ok w
      have e1 : (vec w).1 = ((expo w : Nat) : Int) * (vec (root w)).1 := by rw [hvr]
      have e2 : (vec w).2 = ((expo w : Nat) : Int) * (vec (root w)).2 := by rw [hvr]
      have d1 : IntKind.wrap .i64 (((expo w : Nat) : Int) * (vec (root w)).1) = (vec w).1 := by rw [← e1]; exact w64 (by omega)
      have d2 : IntKind.wrap .i64 (((expo w : Nat) : Int) * (vec (root w)).2) = (vec w).2 := by rw [← e2]; exact w64 (by omega)
      simp only [h, bne_self_eq_false, Option.bind_some, cond_false, t48, T18_word hN, hrw, c1, decide_false, hrl, c2, t47, t48r, beq_self_eq_true, Bool.not_true, hz, Bool.not_false, cond_true, hwn, tmod_nat, t45a, hwb, t45b, t49a, t49b, t46a, t46b, t46r, le1, le2, ll, Bool.and_self, d1, d2]
    · simp [h, bne0 h]
end Go.Proofs.YtbfappllfpngdaaGreatDoor
