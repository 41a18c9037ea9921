/- Plain laws that many chapters share: loops, numbers in range, divisors. -/
import Derived.Test.YtophnjjjmikmeaaGreatAmKO
import Derived.IntWalk
set_option linter.all false
namespace Go.Am
open Go
theorem mm {x : Int} (h : -9223372036854775808 ≤ x ∧ x ≤ 9223372036854775807) : IntKind.wrap .i64 x = x := IntWalk.i64_in x (by omega)
def kp (N : Nat) : Prop := 18446744073709551616 ≤ N
theorem je {V X : Type} (rd : V → Option (V ⊕ X)) (n : Nat) (v : V) : bQ rd (n + 1) v = (rd v).bind fun o => Sum.elim (fun v' => bQ rd n v') (fun x => some x) o := rfl
theorem jf {α : Type} (g : α → AV) (xs : List α) (k : Nat) (h : k < xs.length) : aY (xs.map g) k = g xs[k] := by
  unfold aY
  rw [aD, List.getElem?_map, List.getElem?_eq_getElem h]
  rfl
theorem Gn {a b : Int} (ha : 0 ≤ a) (hb : 0 < b) : (Int.gcd b (a.tmod b) : Int) = Int.gcd a b := by
  rw [Int.tmod_eq_emod_of_nonneg ha]
  obtain ⟨m, rfl⟩ := Int.eq_ofNat_of_zero_le ha
  obtain ⟨n, rfl⟩ := Int.eq_ofNat_of_zero_le (Int.le_of_lt hb)
  rw [← Int.natCast_emod]
  simp only [Int.gcd, Int.natAbs_natCast]
  rw [Nat.gcd_comm, ← Nat.gcd_rec, Nat.gcd_comm]
theorem gcd_zero {a : Int} (ha : 0 ≤ a) : (Int.gcd a 0 : Int) = a := by simp; omega
theorem uO {rd : Int × Int → Option ((Int × Int) ⊕ Int)} (h0 : ∀ a, rd (a, 0) = some (.inr a)) (h1 : ∀ a b, b ≠ 0 → rd (a, b) = some (.inl (b, a.tmod b))) : ∀ (n : Nat) (a b : Int), 0 ≤ a → 0 ≤ b → b.toNat < n → bQ rd n (a, b) = some (Int.gcd a b : Int)
  | 0, _, _, _, _, h => absurd h (Nat.not_lt_zero _)
  | n + 1, a, b, ha, hb, h => by
    rw [je]
    by_cases hz : b = 0
    · subst hz
      rw [h0, gcd_zero ha]
      rfl
    · have gE : 0 < b := by omega
      rw [h1 a b hz]
      simp only [Option.bind_some, Sum.elim_inl]
      have h2 := Int.tmod_nonneg b ha
      have h3 := Int.tmod_lt_of_pos a gE
      rw [uO h0 h1 n b (a.tmod b) hb h2 (by omega), Gn ha gE]
def low (a b : Int) : Int × Int := (a / (Int.gcd a b : Int), b / (Int.gcd a b : Int))
theorem yk {a b : Int} (h : 0 < a ∨ 0 < b) : 0 < (Int.gcd a b : Int) := by
  have : 0 < Int.gcd a b := Int.gcd_pos_iff.2 (by omega)
  omega
theorem qx {a g : Int} (ha : 0 ≤ a) (Q8 : a ≤ 9223372036854775807) (hg : 0 < g) : IntKind.wrap .i64 (a.tdiv g) = a / g := by
  rw [Int.tdiv_eq_ediv_of_nonneg ha]
  have h1 : 0 ≤ a / g := Int.ediv_nonneg ha (by omega)
  have h2 : a / g ≤ a := Int.ediv_le_self g ha
  exact mm (by omega)
def foldI {S α Y : Type} (st : S → α → S ⊕ Y) : S → List α → S ⊕ Y
  | s, [] => .inl s
  | s, a :: l => Sum.elim (fun s' => foldI st s' l) (fun y => .inr y) (st s a)
theorem jg {V X S α Y : Type} {rd : V → Option (V ⊕ X)} (l : List α) (E : S → Nat → V) (st : S → α → S ⊕ Y) (fin : S → X) (ex : Y → X) (P : S → Nat → Prop)
    (h : ∀ s k (hk : k < l.length), P s k → rd (E s k) = some (Sum.map (fun s' => E s' (k + 1)) ex (st s l[k])) ∧ ∀ s', st s l[k] = .inl s' → P s' (k + 1))
    (h0 : ∀ s, P s l.length → rd (E s l.length) = some (.inr (fin s))) :
    ∀ n s k, k ≤ l.length → l.length < n + k → P s k → bQ rd n (E s k) = some (Sum.elim fin ex (foldI st s (l.drop k)))
  | 0, s, k, hk, hn, _ => by omega
  | n + 1, s, k, hk, hn, hP => by
    rw [je]
    by_cases bR : k < l.length
    · obtain ⟨h1, h2⟩ := h s k bR hP
      rw [h1, List.drop_eq_getElem_cons bR]
      simp only [Option.bind_some, foldI]
      cases hs : st s l[k] with
      | inl s' =>
        simp only [Sum.map_inl, Sum.elim_inl]
        exact jg l E st fin ex P h h0 n s' (k + 1) (by omega) (by omega) (h2 s' hs)
      | inr y => simp only [Sum.map_inr, Sum.elim_inr]
    · have : k = l.length := by omega
      subst this
      rw [h0 s hP, List.drop_eq_nil_of_le (Nat.le_refl _)]
      rfl
theorem jE {V X S α : Type} {rd : V → Option (V ⊕ X)} (l : List α) (E : S → Nat → V) (f : S → α → S) (fin : S → X) (P : S → Nat → Prop)
    (h : ∀ s k (hk : k < l.length), P s k → rd (E s k) = some (.inl (E (f s l[k]) (k + 1))) ∧ P (f s l[k]) (k + 1))
    (h0 : ∀ s, P s l.length → rd (E s l.length) = some (.inr (fin s))) :
    ∀ n s k, k ≤ l.length → l.length < n + k → P s k → bQ rd n (E s k) = some (fin ((l.drop k).foldl f s))
  | 0, s, k, hk, hn, _ => by omega
  | n + 1, s, k, hk, hn, hP => by
    rw [je]
    by_cases bR : k < l.length
    · obtain ⟨h1, h2⟩ := h s k bR hP
      rw [h1, List.drop_eq_getElem_cons bR]
      simp only [Option.bind_some, Sum.elim_inl, List.foldl_cons]
      exact jE l E f fin P h h0 n _ (k + 1) (by omega) (by omega) h2
    · have : k = l.length := by omega
      subst this
      rw [h0 s hP, List.drop_eq_nil_of_le (Nat.le_refl _)]
      rfl
theorem mn {V X : Type} {rd : V → Option (V ⊕ X)} (m : Nat) (E : Nat → V) (x : X) (h : ∀ k, k < m → rd (E k) = some (.inl (E (k + 1)))) (h0 : rd (E m) = some (.inr x)) :
    ∀ n k, k ≤ m → m < n + k → bQ rd n (E k) = some x
  | 0, k, hk, hn => by omega
  | n + 1, k, hk, hn => by
    rw [je]
    by_cases bR : k < m
    · rw [h k bR]
      simp only [Option.bind_some, Sum.elim_inl]
      exact mn m E x h h0 n (k + 1) (by omega) (by omega)
    · have : k = m := by omega
      subst this
      rw [h0]
      rfl
theorem dP {k n : Nat} (h : k < n) : decide (0 ≤ (k : Int) ∧ (k : Int) < (n : Int)) = true := by simp; omega
theorem fh {k n : Nat} (h : k < n) : decide ((k : Int) < (n : Int)) = true := by simpa using h
theorem fX (n : Nat) : decide ((n : Int) < (n : Int)) = false := by simp
theorem jh {k : Nat} (h : k < 9223372036854775807) : IntKind.wrap .i64 ((k : Int) + 1) = ((k + 1 : Nat) : Int) := by rw [mm (by omega)]; simp
def pt (n lo hi : Int) : Int := if n < lo ∨ n > hi then 3 else 0
def aP : List Int → Int
  | [] => 0
  | x :: l => if x = 0 then aP l else x
theorem uP (a b : List Int) : aP (a ++ b) = if aP a = 0 then aP b else aP a := by
  induction a with
  | nil => simp [aP]
  | cons x a ih =>
    simp only [List.cons_append, aP]
    by_cases h : x = 0
    · simp [h, ih]
    · simp [h]
theorem kV {l : List Int} : aP l = 0 ↔ ∀ x ∈ l, x = 0 := by
  induction l with
  | nil => simp [aP]
  | cons x l ih =>
    simp only [aP, List.mem_cons, forall_eq_or_imp]
    by_cases h : x = 0
    · simp [h, ih]
    · simp [h]
theorem nS {rd : Int → Option (Int ⊕ (Int ⊕ Unit))} (l : List Int)
    (h : ∀ k (hk : k < l.length), rd (k : Int) = some (if l[k] = 0 then .inl ((k + 1 : Nat) : Int) else .inr (.inl l[k]))) (h0 : rd (l.length : Int) = some (.inr (.inr ()))) (n : Nat) (hn : l.length < n) :
    ∃ o, bQ rd n 0 = some o ∧ Sum.elim (fun x => x) (fun _ => 0) o = aP l := by
  have key := jg (rd := rd) (S := Unit) (Y := Int) l (fun _ k => (k : Int)) (fun _ x => if x = 0 then .inl () else .inr x) (fun _ => .inr ()) (fun x => .inl x) (fun _ _ => True)
    (fun s k hk _ => ⟨by rw [h k hk]; by_cases e : l[k] = 0 <;> simp [e], fun _ _ => trivial⟩) (fun _ _ => h0) n () 0 (Nat.zero_le _) (by omega) trivial
  refine ⟨_, key, ?_⟩
  rw [List.drop_zero]
  clear key h h0 hn
  induction l with
  | nil => rfl
  | cons x l ih =>
    simp only [foldI, aP]
    by_cases e : x = 0
    · simp only [e, if_true, Sum.elim_inl]; exact ih
    · simp [e]
theorem rF {rd : Int → Option (Int ⊕ (Int ⊕ Unit))} (l : List Int)
    (h : ∀ k (hk : k < l.length), rd (k : Int) = some (if l[k] = 0 then .inl ((k + 1 : Nat) : Int) else .inr (.inl l[k]))) (h0 : rd (l.length : Int) = some (.inr (.inr ()))) (n : Nat) (hn : l.length < n) :
    bQ rd n 0 = some (if aP l = 0 then .inr () else .inl (aP l)) := by
  have key := jg (rd := rd) (S := Unit) (Y := Int) l (fun _ k => (k : Int)) (fun _ x => if x = 0 then .inl () else .inr x) (fun _ => .inr ()) (fun x => .inl x) (fun _ _ => True)
    (fun s k hk _ => ⟨by rw [h k hk]; by_cases e : l[k] = 0 <;> simp [e], fun _ _ => trivial⟩) (fun _ _ => h0) n () 0 (Nat.zero_le _) (by omega) trivial
  rw [List.drop_zero] at key
  refine key.trans (congrArg some ?_)
  clear key h h0 hn
  induction l with
  | nil => rfl
  | cons x l ih =>
    simp only [foldI, aP]
    by_cases e : x = 0
    · simp only [e, if_true, Sum.elim_inl]; exact ih
    · simp [e]
theorem IL (s : List UInt8) (k : Nat) (hk : k < s.length) : ((s[k].toNat < 128) → aZ s k = (s[k].toNat, 1)) ∧ (128 ≤ s[k].toNat → 128 ≤ (aZ s k).1) := by
  have e1 : s.getD k 0 = s[k] := by simp [hk]
  constructor
  · intro h
    have : Nat.blt s[k].toNat 128 = true := Nat.ble_eq_true_of_le h
    unfold aZ
    rw [e1, this]
    rfl
  · intro h
    have : Nat.blt s[k].toNat 128 = false := by
      cases hb : Nat.blt s[k].toNat 128 with
      | false => rfl
      | true => have := Nat.le_of_ble_eq_true hb; omega
    unfold aZ
    rw [e1, this]
    simp only [cond_false]
    have e2 : ((⟨⟨s⟩⟩ : ByteArray).get! (k + 0)).toNat = s[k].toNat := by
      simp [ByteArray.get!, hk]
    unfold Utf8.decode
    simp only [e2, if_neg (by omega : ¬ s[k].toNat < 128)]
    have hr : (128 : Nat) ≤ Utf8.runeError := by decide
    repeat' split
    all_goals first | exact hr | skip
    all_goals simp_all
    all_goals omega
theorem Cb {x : Int} (h : x ≠ 0) : (x != 0) = true := by simpa using h
end Go.Am
