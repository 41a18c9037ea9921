/- The abstract machine: values that mention few objects; patterns of values. -/
import Derived.Test.YtpngggdfbbdfaaaDoorAmX
set_option linter.all false
namespace Go.Am
open Go

mutual
/-- Whether all objects that a value mentions have numbers below n. -/
def AV.under (n : Nat) : AV → Bool
  | .agg cs => underL n cs
  | .tup cs => underL n cs
  | .ep cs => underL n cs
  | .list (.own id) _ _ => Nat.blt id n
  | .fn _ x y => underL n x && underL n y
  | .iface _ v => v.under n
  | .ptr id _ => Nat.blt id n
  | .msl id _ _ _ _ => Nat.blt id n
  | .map id => Nat.blt id n
  | .yield id => Nat.blt id n
  | _ => true
def underL (n : Nat) : List AV → Bool
  | [] => true
  | a :: l => a.under n && underL n l
end

mutual
theorem closed_under (n : Nat) : ∀ {a : AV}, a.closed = true → a.under n = true := fun {a} h => by
  cases a with
  | agg cs => simp only [AV.closed, AV.under] at *; exact closedL_under n h
  | tup cs => simp only [AV.closed, AV.under] at *; exact closedL_under n h
  | ep cs => simp only [AV.closed, AV.under] at *; exact closedL_under n h
  | list k sz es => cases k <;> simp_all [AV.closed, AV.under, LK.closed]
  | fn f x y =>
    simp only [AV.closed, AV.under, Bool.and_eq_true] at *
    exact ⟨closedL_under n h.1, closedL_under n h.2⟩
  | iface t v => simp only [AV.closed, AV.under] at *; exact closed_under n h
  | _ => simp_all [AV.closed, AV.under]
theorem closedL_under (n : Nat) : ∀ {l : List AV}, closedL l = true → underL n l = true
  | [], _ => rfl
  | a :: l, h => by
    simp only [closedL, underL, Bool.and_eq_true] at *
    exact ⟨closed_under n h.1, closedL_under n h.2⟩
end

section move
variable {R R2 : Realm} {w : World} {n : Nat}

/-- What is known of the objects below n, and of the cells that never change. -/
structure Mv (R R2 : Realm) (n : Nat) : Prop where
  I : ∀ b o, R.I b o → R2.I b o
  obj : ∀ id ro, id < n → nth R.obj id = some ro → nth R2.obj id = some ro

theorem blt_lt {a b : Nat} (h : Nat.blt a b = true) : a < b := Nat.le_of_ble_eq_true h
theorem lt_blt {a b : Nat} (h : a < b) : Nat.blt a b = true := Nat.ble_eq_true_of_le h

theorem LkOk.move (m : Mv R R2 n) {k : LK} {b o len cap : Nat} (h : LkOk R k b o len cap) (hk : ∀ id, k = .own id → id < n) : LkOk R2 k b o len cap := by
  cases k with
  | nil => exact h
  | full => exact h
  | opn => trivial
  | own id => obtain ⟨ro, h1, h2⟩ := h; exact ⟨ro, m.obj id ro (hk id rfl) h1, h2⟩

mutual
theorem Rel.move (m : Mv R R2 n) : ∀ {a : AV} {c : Value}, a.under n = true → Rel R w a c → Rel R2 w a c
  | _, _, _, .bool b => .bool b
  | _, _, _, .int k i => .int k i
  | _, _, _, .str l => .str l
  | _, _, hb, .agg h h1 => .agg (h.move m (by simpa [AV.under] using hb)) h1
  | _, _, hb, .tup h => .tup (h.move m (by simpa [AV.under] using hb))
  | _, _, _, .nilp => .nilp
  | _, _, hb, .ptr h => .ptr (m.obj _ _ (blt_lt (by simpa [AV.under] using hb)) h)
  | _, _, hb, .ep h => .ep (h.move m (by simpa [AV.under] using hb))
  | _, _, _, .lnil => .lnil
  | _, _, _, .lopn => .lopn
  | _, _, hb, .lown h ho => .lown (m.obj _ _ (blt_lt (by simpa [AV.under] using hb)) h) ho
  | .list k sz es, _, hb, .list h hl hc hk => .list (h.move m) hl hc (hk.move m fun id e => by subst e; exact blt_lt (by simpa [AV.under] using hb))
  | _, _, hb, .msl h hc => .msl (m.obj _ _ (blt_lt (by simpa [AV.under] using hb)) h) hc
  | _, _, _, .nilm => .nilm
  | _, _, hb, .map h => .map (m.obj _ _ (blt_lt (by simpa [AV.under] using hb)) h)
  | _, _, _, .nilf => .nilf
  | _, _, hb, .fn h h' => .fn (h.move m (by simp only [AV.under, Bool.and_eq_true] at hb; exact hb.1)) (h'.move m (by simp only [AV.under, Bool.and_eq_true] at hb; exact hb.2))
  | _, _, hb, .yield h => .yield (m.obj _ _ (blt_lt (by simpa [AV.under] using hb)) h)
  | _, _, _, .nili => .nili
  | _, _, hb, .iface h => .iface (h.move m (by simpa [AV.under] using hb))
theorem RelL.move (m : Mv R R2 n) : ∀ {l : List AV} {cs : List Value}, RelL R w l cs → underL n l = true → RelL R2 w l cs
  | _, _, .nil, _ => .nil
  | _, _, .cons h t, hb => by
    simp only [underL, Bool.and_eq_true] at hb
    exact .cons (h.move m hb.1) (t.move m hb.2)
theorem RelE.move (m : Mv R R2 n) : ∀ {b o sz : Nat} {l : List AV}, RelE R w b o sz l → RelE R2 w b o sz l
  | _, _, _, _, .nil => .nil
  | _, _, _, _, @RelE.cons _ _ _ _ _ e _ hl ht hk h t => .cons hl ht hk (h.move m (by
      cases e with
      | agg cs => exact closedL_under n (show closedL cs = true by simpa [AV.closed] using hk)
      | tup cs => simp [AV.notTup] at ht
      | _ => simp only [AV.cells, underL, Bool.and_true]; exact closed_under n hk)) (t.move m)
theorem RelC.move (m : Mv R R2 n) : ∀ {b o : Nat} {l : List AV}, RelC R w b o l → underL n l = true → RelC R2 w b o l
  | _, _, _, .nil, _ => .nil
  | _, _, _, .cons hc h1 hi h t, hb => by
    simp only [underL, Bool.and_eq_true] at hb
    exact .cons hc h1 (m.I _ _ hi) (h.move m hb.1) (t.move m hb.2)
end

mutual
/-- What a value mentions is there. -/
theorem Rel.under (hn : R.obj.length ≤ n) : ∀ {a : AV} {c : Value}, Rel R w a c → a.under n = true
  | _, _, .bool _ | _, _, .int _ _ | _, _, .str _ | _, _, .nilp | _, _, .lnil | _, _, .lopn | _, _, .nilm | _, _, .nilf | _, _, .nili => by simp [AV.under]
  | _, _, .agg h _ => by simp only [AV.under]; exact h.under hn
  | _, _, .tup h => by simp only [AV.under]; exact h.under hn
  | _, _, .ptr h => by simp only [AV.under]; exact lt_blt (Nat.lt_of_lt_of_le (nth_lt h) hn)
  | _, _, .ep h => by simp only [AV.under]; exact h.under hn
  | _, _, .lown h _ => by simp only [AV.under]; exact lt_blt (Nat.lt_of_lt_of_le (nth_lt h) hn)
  | _, _, @Rel.list _ _ k _ _ _ _ _ _ _ _ _ hk => by
    cases k with
    | own id => obtain ⟨ro, h1, _⟩ := hk; simp only [AV.under]; exact lt_blt (Nat.lt_of_lt_of_le (nth_lt h1) hn)
    | _ => simp [AV.under]
  | _, _, .msl h _ => by simp only [AV.under]; exact lt_blt (Nat.lt_of_lt_of_le (nth_lt h) hn)
  | _, _, .map h => by simp only [AV.under]; exact lt_blt (Nat.lt_of_lt_of_le (nth_lt h) hn)
  | _, _, .fn h h' => by simp only [AV.under, Bool.and_eq_true]; exact ⟨h.under hn, h'.under hn⟩
  | _, _, .yield h => by simp only [AV.under]; exact lt_blt (Nat.lt_of_lt_of_le (nth_lt h) hn)
  | _, _, .iface h => by simp only [AV.under]; exact h.under hn
theorem RelL.under (hn : R.obj.length ≤ n) : ∀ {l : List AV} {cs : List Value}, RelL R w l cs → underL n l = true
  | _, _, .nil => rfl
  | _, _, .cons h t => by simp only [underL, Bool.and_eq_true]; exact ⟨h.under hn, t.under hn⟩
theorem RelC.under (hn : R.obj.length ≤ n) : ∀ {b o : Nat} {l : List AV}, RelC R w b o l → underL n l = true
  | _, _, _, .nil => rfl
  | _, _, _, .cons _ _ _ h t => by simp only [underL, Bool.and_eq_true]; exact ⟨h.under hn, t.under hn⟩
end
end move

end Go.Am
