/- Plain laws: names and tables of twines. -/
import Derived.Test.YtpngggdfbbdfaaaDoorHangPg
set_option linter.all false
namespace Go.Proofs.YtpngggdfbbdfaaaDoor
open Go Go.Am
set_option maxRecDepth 100000

/-! ### Names -/

/-- Whether a letter may stand there. -/
def badC (first : Bool) (c : Int) : Bool :=
  !(decide (c ≥ 65) && decide (c ≤ 90) || decide (c ≥ 97) && decide (c ≤ 122)) && (first || (c != 95 && (decide (c < 48) || decide (c > 57))))
def nameFrom (first : Bool) : List UInt8 → Bool
  | [] => true
  | c :: l => !badC first (c.toNat : Int) && nameFrom false l
def lenOk (s : List UInt8) : Bool := decide (s.length ≠ 0 ∧ s.length ≤ 24)
def isName (s : List UInt8) : Bool := lenOk s && nameFrom true s

theorem len_ok (s : List UInt8) : (((bif ((((s).length : Nat) : Int) == 0) then (some true) else (some (decide ((((s).length : Nat) : Int) > 24)))) : Option Bool)) = some (!lenOk s) := by
  unfold lenOk
  by_cases h0 : s.length = 0
  · simp [h0]
  · rw [beq0 (by omega)]
    by_cases h1 : s.length ≤ 24
    · have : decide (((s.length : Nat) : Int) > 24) = false := by simp; omega
      rw [this]; simp [h0, h1]
    · have : decide (((s.length : Nat) : Int) > 24) = true := by simp; omega
      rw [this]; simp [h1]

theorem fold_name (l : List UInt8) : ∀ (first : Bool), foldI (fun (b : Bool) (c : UInt8) => if badC b (c.toNat : Int) then (.inr () : Bool ⊕ Unit) else .inl false) first l = if nameFrom first l then .inl (if l.isEmpty then first else false) else .inr () := by
  induction l with
  | nil => intro b; rfl
  | cons c l ih =>
    intro b
    simp only [foldI, nameFrom]
    by_cases h : badC b (c.toNat : Int) = true
    · simp [h]
    · have h' : badC b (c.toNat : Int) = false := by simpa using h
      simp only [h', Bool.false_eq_true, if_false, Sum.elim_inl, Bool.not_false, Bool.true_and, ih false]
      by_cases h2 : nameFrom false l = true <;> simp [h2]

theorem T87_name {N : Nat} (hN : Big N) (s : List UInt8) : T87 N s = some (isName s) := by
  rw [T87_eq, len_ok]
  simp only [Option.bind_some]
  unfold isName
  cases hlo : lenOk s with
  | false => rfl
  | true =>
    have hl := of_decide_eq_true (show decide (s.length ≠ 0 ∧ s.length ≤ 24) = true from hlo)
    simp only [Bool.not_true, cond_false, Bool.true_and]
    have key := loopR_fold (rd := R87x58 N s) s (fun (b : Bool) k => (k : Int)) (fun b (c : UInt8) => if badC b (c.toNat : Int) then (.inr () : Bool ⊕ Unit) else .inl false) (fun _ => .inr ()) (fun _ => .inl false) (fun b k => b = (k == 0))
      (fun b k hk hb => by
        refine ⟨?_, fun s' h' => ?_⟩
        · subst hb
          have e1 : s.getD k 0 = s[k] := by simp [hk]
          have e2 : ((k : Int) == 0) = (k == 0) := by cases k <;> simp; omega
          unfold R87x58
          simp only [Int.toNat_natCast, lt_range hk, in_range hk, cond_true, w_succ (by omega : k < 9223372036854775807), e1, e2]
          unfold badC
          generalize ((s[k].toNat : Nat) : Int) = c
          generalize decide (c ≥ 97) = b1
          generalize decide (c ≤ 122) = b2
          generalize decide (c ≥ 65) = b3
          generalize decide (c ≤ 90) = b4
          generalize (c != 95) = b5
          generalize decide (c < 48) = b6
          generalize decide (c > 57) = b7
          generalize (k == 0) = b0
          cases b0 <;> cases b1 <;> cases b2 <;> cases b3 <;> cases b4 <;> cases b5 <;> cases b6 <;> cases b7 <;> rfl
        · split at h'
          · cases h'
          · cases h'; simp)
      (fun b _ => by
        unfold R87x58
        simp only [ge_range, cond_false]) N true 0 (Nat.zero_le _) (by unfold Big at hN; omega) rfl
    have key' : loopR (V := Int) (X := Bool ⊕ Unit) (R87x58 N s) N 0 = _ := key
    simp only [key', Option.bind_some, List.drop_zero, fold_name]
    cases nameFrom true s <;> rfl

/-- What the text's next rune is: the byte itself, if that is below 128, and nothing that a name has otherwise. -/
theorem rune_at (s : List UInt8) (k : Nat) (hk : k < s.length) : ((s[k].toNat < 128) → decodeA s k = (s[k].toNat, 1)) ∧ (128 ≤ s[k].toNat → 128 ≤ (decodeA s k).1) := by
  have e1 : s.getD k 0 = s[k] := by simp [hk]
  constructor
  · intro h
    have : Nat.blt s[k].toNat 128 = true := Nat.ble_eq_true_of_le h
    unfold decodeA
    rw [e1, this]
    rfl
  · intro h
    have : Nat.blt s[k].toNat 128 = false := by
      cases hb : Nat.blt s[k].toNat 128 with
      | false => rfl
      | true => have := Nat.le_of_ble_eq_true hb; omega
    unfold decodeA
    rw [e1, this]
    simp only [cond_false]
    have e2 : ((⟨⟨s⟩⟩ : ByteArray).get! (k + 0)).toNat = s[k].toNat := by
      simp [ByteArray.get!, hk]
    unfold Utf8.decode
    simp only [e2, if_neg (by omega : ¬ s[k].toNat < 128)]
    have hr : (128 : Nat) ≤ Utf8.runeError := by decide
    repeat' split
    all_goals first | exact hr | skip
    all_goals simp_all
    all_goals omega

theorem bad_high {b : Bool} {c : Int} (h : 128 ≤ c) : badC b c = true := by
  unfold badC
  have h1 : decide (c ≤ 90) = false := by simp; omega
  have h2 : decide (c ≤ 122) = false := by simp; omega
  have h3 : (c != 95) = true := by simp; omega
  have h4 : decide (c > 57) = true := by simp; omega
  rw [h1, h2, h3, h4]
  cases b <;> simp

theorem T92_name {N : Nat} (hN : Big N) (s : List UInt8) : T92 N s = some (isName s) := by
  rw [T92_eq, len_ok]
  simp only [Option.bind_some]
  unfold isName
  cases hlo : lenOk s with
  | false => rfl
  | true =>
    have hl := of_decide_eq_true (show decide (s.length ≠ 0 ∧ s.length ≤ 24) = true from hlo)
    simp only [Bool.not_true, cond_false, Bool.true_and]
    have key := loopR_fold (rd := R92x58 N) s (fun (p : Nat) k => (s, (k : Int))) (fun p (c : UInt8) => if badC (p == 0) (c.toNat : Int) then (.inr (p + (decodeA s p).2) : Nat ⊕ Nat) else .inl (p + 1)) (fun p => .inl (s, (p : Int))) (fun p => .inr (false, s, (p : Int))) (fun p k => p = k)
      (fun p k hk hp => by
        subst hp
        refine ⟨?_, fun s' h' => ?_⟩
        · have e2 : ((p : Int) == 0) = (p == 0) := by cases p <;> simp; omega
          have e3 : Nat.blt p s.length = true := Nat.ble_eq_true_of_le hk
          obtain ⟨r1, r2⟩ := rune_at s p hk
          unfold R92x58
          simp only [Int.toNat_natCast, e3, cond_true, e2]
          have main : ∀ (n : Nat) (c : Int), (((bif (decide (c ≥ 65)) then (bif (decide (c ≤ 90)) then (some (true, s, (((p + n) : Nat) : Int))) else (bif (decide (c ≥ 97)) then (some ((decide (c ≤ 122)), s, (((p + n) : Nat) : Int))) else (some (false, s, (((p + n) : Nat) : Int))))) else (bif (decide (c ≥ 97)) then (some ((decide (c ≤ 122)), s, (((p + n) : Nat) : Int))) else (some (false, s, (((p + n) : Nat) : Int))))) : Option ((Bool × (List UInt8) × Int))).bind fun o3 => (((bif (!o3.1) then (bif (p == 0) then (some (true, o3.2.1, (((Int.toNat o3.2.2) : Nat) : Int))) else (bif (c != 95) then (bif (decide (c < 48)) then (some (true, o3.2.1, (((Int.toNat o3.2.2) : Nat) : Int))) else (some ((decide (c > 57)), o3.2.1, (((Int.toNat o3.2.2) : Nat) : Int)))) else (some (false, o3.2.1, (((Int.toNat o3.2.2) : Nat) : Int))))) else (some (false, o3.2.1, (((Int.toNat o3.2.2) : Nat) : Int)))) : Option ((Bool × (List UInt8) × Int))).bind fun o4 => (bif o4.1 then (some (Sum.inr (Sum.inr (false, o4.2.1, (((Int.toNat o4.2.2) : Nat) : Int)))) : Option (((List UInt8) × Int) ⊕ (((List UInt8) × Int) ⊕ (Bool × (List UInt8) × Int)))) else (some (Sum.inl (o4.2.1, (((Int.toNat o4.2.2) : Nat) : Int))))))) =
              some (bif badC (p == 0) c then Sum.inr (Sum.inr (false, s, ((p + n : Nat) : Int))) else Sum.inl (s, ((p + n : Nat) : Int))) := by
            intro n c
            unfold badC
            generalize decide (c ≥ 97) = b1
            generalize decide (c ≤ 122) = b2
            generalize decide (c ≥ 65) = b3
            generalize decide (c ≤ 90) = b4
            generalize (c != 95) = b5
            generalize decide (c < 48) = b6
            generalize decide (c > 57) = b7
            generalize (p == 0) = b0
            cases b0 <;> cases b1 <;> cases b2 <;> cases b3 <;> cases b4 <;> cases b5 <;> cases b6 <;> cases b7 <;> rfl
          rw [main]
          by_cases hlow : s[p].toNat < 128
          · rw [r1 hlow]
            by_cases hb : badC (p == 0) (s[p].toNat : Int) = true
            · simp [hb]
            · have hb' : badC (p == 0) (s[p].toNat : Int) = false := by simpa using hb
              simp [hb']
          · have h1 := bad_high (b := p == 0) (c := ((decodeA s p).1 : Int)) (by have := r2 (by omega); omega)
            have h2 := bad_high (b := p == 0) (c := (s[p].toNat : Int)) (by omega)
            rw [h1, if_pos h2]
            rfl
        · split at h'
          · cases h'
          · cases h'; rfl)
      (fun p hp => by
        subst hp
        unfold R92x58
        have e3 : Nat.blt s.length s.length = false := by
          cases hb : Nat.blt s.length s.length with
          | false => rfl
          | true => have := Nat.le_of_ble_eq_true hb; omega
        simp only [Int.toNat_natCast, e3, cond_false]) N 0 0 (Nat.zero_le _) (by unfold Big at hN; omega) rfl
    have key' : loopR (V := (List UInt8) × Int) (X := ((List UInt8) × Int) ⊕ (Bool × (List UInt8) × Int)) (R92x58 N) N (s, ((0 : Nat) : Int)) = _ := key
    rw [key']
    simp only [Option.bind_some, List.drop_zero]
    have gen : ∀ (l : List UInt8) (p : Nat) (first : Bool), first = (p == 0) → Sum.elim (fun _ => true) (fun _ => false) (foldI (fun (p : Nat) (c : UInt8) => if badC (p == 0) (c.toNat : Int) then (.inr (p + (decodeA s p).2) : Nat ⊕ Nat) else .inl (p + 1)) p l) = nameFrom first l := by
      intro l
      induction l with
      | nil => intro p first _; rfl
      | cons c l ih =>
        intro p first hf
        subst hf
        simp only [foldI, nameFrom]
        by_cases h : badC (p == 0) (c.toNat : Int) = true
        · simp [h]
        · have h' : badC (p == 0) (c.toNat : Int) = false := by simpa using h
          simp only [h', Bool.false_eq_true, if_false, Sum.elim_inl, Bool.not_false, Bool.true_and]
          exact ih (p + 1) false (by simp)
    have g := gen s 0 true rfl
    revert g
    cases foldI (fun (p : Nat) (c : UInt8) => if badC (p == 0) (c.toNat : Int) then (.inr (p + (decodeA s p).2) : Nat ⊕ Nat) else .inl (p + 1)) 0 s with
    | inl p => intro g; simp only [Sum.elim_inl] at g ⊢; rw [← g]
    | inr p => intro g; simp only [Sum.elim_inr] at g ⊢; rw [← g]
end Go.Proofs.YtpngggdfbbdfaaaDoor
