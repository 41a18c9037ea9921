/- The abstract machine: the objects that a pattern names. -/
import Derived.Test.YtpngggdfbbdfaaaDoorAmYa
set_option linter.all false
namespace Go.Am
open Go

mutual
/-- Whether the objects that a pattern names have numbers below n. -/
def Pat.under (n : Nat) : Pat → Bool
  | .agg ps => ps.under n
  | .tup ps => ps.under n
  | .own id _ _ => Nat.blt id n
  | .cst v => v.under n
  | _ => true
def Pats.under (n : Nat) : Pats → Bool
  | .nil => true
  | .cons p ps => p.under n && ps.under n
end

mutual
theorem Pat.enc_under {n : Nat} : ∀ (p : Pat) (x : p.T), p.under n = true → (p.enc x).under n = true
  | .int k, x, _ => by simp [Pat.enc, AV.under]
  | .bool, x, _ => by simp [Pat.enc, AV.under]
  | .str, x, _ => by simp [Pat.enc, AV.under]
  | .agg ps, x, h => by
    simp only [Pat.enc, AV.under]
    exact ps.enc_under x h
  | .tup ps, x, h => by
    simp only [Pat.enc, AV.under]
    exact ps.enc_under x h
  | .list sz p, x, _ => by simp [Pat.enc, AV.under]
  | .own id sz p, x, h => by
    simp only [Pat.enc, AV.under]
    exact h
  | .cst v, x, h => by
    simp only [Pat.enc]
    exact h
theorem Pats.enc_under {n : Nat} : ∀ (ps : Pats) (x : ps.T), ps.under n = true → underL n (ps.enc x) = true
  | .nil, x, _ => rfl
  | .cons p .nil, x, h => by
    simp only [Pats.under, Bool.and_true] at h
    simp only [Pats.enc, underL, Bool.and_true]
    exact p.enc_under _ h
  | .cons p (.cons q ps), x, h => by
    rw [Pats.under, Bool.and_eq_true] at h
    simp only [Pats.enc, underL, Bool.and_eq_true]
    exact ⟨p.enc_under _ h.1, (Pats.cons q ps).enc_under _ h.2⟩
end

/-! ### Values that a pattern reads as they are -/

mutual
/-- Whether a value is made of numbers, truth values and strings alone. -/
def AV.exact : AV → Bool
  | .bool _ => true
  | .int _ _ => true
  | .str _ => true
  | .agg cs => exactL cs
  | _ => false
def exactL : List AV → Bool
  | [] => true
  | a :: l => a.exact && exactL l
end

mutual
theorem Pat.enc_decD : ∀ (p : Pat) {a : AV}, p.fits a = true → a.exact = true → p.enc (p.decD a) = a
  | .int k, a, h, e => by
    cases a with
    | int k' n => have hk : kEq k k' = true := h; rw [kEq_eq hk]; rfl
    | _ => cases h
  | .bool, a, h, e => by
    cases a with
    | bool b => rfl
    | _ => cases h
  | .str, a, h, e => by
    cases a with
    | str b => rfl
    | _ => cases h
  | .agg ps, a, h, e => by
    cases a with
    | agg cs =>
      have e' : exactL cs = true := by simpa [AV.exact] using e
      show AV.agg (ps.enc (ps.decD cs)) = _
      rw [ps.enc_decD (show ps.fits cs = true from h) e']
    | _ => cases h
  | .tup ps, a, h, e => by cases a <;> first | (cases h; done) | simp [AV.exact] at e
  | .list sz p, a, h, e => by cases a <;> first | (cases h; done) | simp [AV.exact] at e
  | .own id sz p, a, h, e => by cases a <;> first | (cases h; done) | simp [AV.exact] at e
  | .cst u, a, h, e => (sameA_eq (show sameA a u = true from h)).symm
theorem Pats.enc_decD : ∀ (ps : Pats) {l : List AV}, ps.fits l = true → exactL l = true → ps.enc (ps.decD l) = l
  | .nil, l, h, _ => by
    cases l with
    | nil => rfl
    | cons _ _ => cases h
  | .cons p .nil, l, h, e => by
    cases l with
    | nil => cases h
    | cons a l =>
      have h' : (p.fits a && l.isEmpty) = true := h
      simp only [Bool.and_eq_true, List.isEmpty_iff] at h'
      obtain ⟨h1, rfl⟩ := h'
      simp only [exactL, Bool.and_true] at e
      show [p.enc (p.decD a)] = _
      rw [p.enc_decD h1 e]
  | .cons p (.cons q ps), l, h, e => by
    cases l with
    | nil => cases h
    | cons a l =>
      have h' : (p.fits a && (Pats.cons q ps).fits l) = true := h
      rw [Bool.and_eq_true] at h'
      simp only [exactL, Bool.and_eq_true] at e
      show p.enc (p.decD a) :: (Pats.cons q ps).enc ((Pats.cons q ps).decD l) = _
      rw [p.enc_decD h'.1 e.1, (Pats.cons q ps).enc_decD h'.2 e.2]
end

mutual
theorem exact_closed : ∀ {a : AV}, a.exact = true → a.closed = true := fun {a} h => by
  cases a with
  | agg cs => simp only [AV.exact, AV.closed] at *; exact exactL_closed h
  | _ => simp_all [AV.exact, AV.closed]
theorem exactL_closed : ∀ {l : List AV}, exactL l = true → closedL l = true
  | [], _ => rfl
  | a :: l, h => by
    simp only [exactL, closedL, Bool.and_eq_true] at *
    exact ⟨exact_closed h.1, exactL_closed h.2⟩
end

/-- A map's entries as one value, and back. -/
def mcells : List (AV × AV) → List AV
  | [] => []
  | (k, v) :: l => .agg [k, v] :: mcells l
def pairA : AV → AV × AV
  | .agg [k, v] => (k, v)
  | _ => (undefA, undefA)
def entriesL : List AV → List (AV × AV)
  | [] => []
  | a :: l => pairA a :: entriesL l
def AV.entries : AV → List (AV × AV)
  | .list _ _ es => entriesL es
  | _ => []
theorem entriesL_mcells : ∀ l : List (AV × AV), entriesL (mcells l) = l
  | [] => rfl
  | (k, v) :: l => by simp only [mcells, entriesL, entriesL_mcells l]; rfl
def AV.exactM : AV → Bool
  | .list .opn _ es => exactL es
  | _ => false

/-- What is kept of values that are read as they are. -/
def ExL : List AV → List AV → Prop
  | [], [] => True
  | a :: l, b :: r => (a.exact = true → b = a) ∧ (a.exactM = true → b.entries = a.entries) ∧ ExL l r
  | _, _ => False

theorem list_exact {f : AV → Bool} {α : Type} {d : AV → α} {g : α → AV} (hfg : ∀ a, f a = true → a.exact = true → g (d a) = a) : ∀ {es : List AV}, allFit f es = true → exactL es = true → (es.map d).map g = es
  | [], _, _ => rfl
  | a :: l, h, e => by
    simp only [allFit, exactL, Bool.and_eq_true] at *
    simp only [List.map_cons, hfg a h.1 e.1, list_exact hfg h.2 e.2]

theorem Pat.enc_decM (p : Pat) {a : AV} (h : p.fits a = true) (e : a.exactM = true) : (p.enc (p.decD a)).entries = a.entries := by
  cases a with
  | list k sz' es =>
    cases k with
    | opn =>
      have e' : exactL es = true := e
      cases p with
      | list sz p =>
        have hb : ((Nat.beq sz sz' || es.isEmpty) && allFit p.fits es) = true := h
        rw [Bool.and_eq_true] at hb
        show entriesL ((es.map p.decD).map p.enc) = _
        rw [list_exact (fun a => p.enc_decD) hb.2 e']
        rfl
      | cst u => rw [show AV.list .opn sz' es = u from sameA_eq (show sameA _ u = true from h)]; rfl
      | _ => cases h
    | _ => cases e
  | _ => cases e

theorem Pats.enc_ex : ∀ (ps : Pats) {l : List AV}, ps.fits l = true → ExL l (ps.enc (ps.decD l))
  | .nil, l, h => by
    cases l with
    | nil => trivial
    | cons _ _ => cases h
  | .cons p .nil, l, h => by
    cases l with
    | nil => cases h
    | cons a l =>
      have h' : (p.fits a && l.isEmpty) = true := h
      simp only [Bool.and_eq_true, List.isEmpty_iff] at h'
      obtain ⟨h1, rfl⟩ := h'
      exact ⟨p.enc_decD h1, p.enc_decM h1, trivial⟩
  | .cons p (.cons q ps), l, h => by
    cases l with
    | nil => cases h
    | cons a l =>
      have h' : (p.fits a && (Pats.cons q ps).fits l) = true := h
      rw [Bool.and_eq_true] at h'
      exact ⟨p.enc_decD h'.1, p.enc_decM h'.1, (Pats.cons q ps).enc_ex h'.2⟩

theorem Pats.dec_ex (ps : Pats) {l : List AV} {x : ps.T} (h : ps.dec l = some x) : ExL l (ps.enc x) := by
  unfold Pats.dec at h
  cases hf : ps.fits l with
  | true => rw [hf] at h; cases h; exact ps.enc_ex hf
  | false => rw [hf] at h; cases h

theorem ExL.split : ∀ {l r l' : List AV}, ExL (l ++ r) l' → ∃ a b, l' = a ++ b ∧ ExL l a ∧ ExL r b ∧ a.length = l.length
  | [], r, l', h => ⟨[], l', rfl, trivial, h, rfl⟩
  | x :: l, r, [], h => h.elim
  | x :: l, r, y :: l', h => by
    obtain ⟨a, b, rfl, h2, h3, h4⟩ := ExL.split (l := l) (r := r) (l' := l') h.2.2
    exact ⟨y :: a, b, rfl, ⟨h.1, h.2.1, h2⟩, h3, by simp [h4]⟩

end Go.Am
