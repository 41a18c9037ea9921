/- The abstract machine: values of a form. -/
import Derived.Test.YtpngggdfbbdfaaaDoorAmE
set_option linter.all false
namespace Go.Am
open Go

theorem same0_eq {a b : AV} (h : same0 a b = true) : a = b := by
  unfold same0 at h
  split at h
  all_goals (first | (cases h; done) | skip)
  all_goals (try simp only [Bool.and_eq_true, beq_iff_eq, Nat.beq_eq] at h)
  all_goals (simp [*])

mutual
theorem sameA_eq : ∀ {a b : AV}, sameA a b = true → a = b := by
  intro a b h
  unfold sameA at h
  split at h
  · simp only [Bool.and_eq_true, Nat.beq_eq] at h; rw [h.1.1, sameL_eq h.1.2, sameL_eq h.2]
  · rw [sameL_eq h]
  · rw [sameL_eq h]
  · rw [sameL_eq h]
  · simp only [Bool.and_eq_true, Nat.beq_eq] at h; rw [h.1, sameL_eq h.2]
  · simp only [Bool.and_eq_true, Nat.beq_eq] at h; rw [h.1, sameL_eq h.2]
  · simp only [Bool.and_eq_true, Nat.beq_eq] at h; rw [h.1, sameL_eq h.2]
  · simp only [Bool.and_eq_true, Nat.beq_eq] at h; rw [h.1.1, h.1.2, sameL_eq h.2]
  · exact same0_eq h
theorem sameL_eq : ∀ {l r : List AV}, sameL l r = true → l = r := by
  intro l r h
  unfold sameL at h
  split at h
  · rfl
  · rw [Bool.and_eq_true] at h; rw [sameA_eq h.1, sameL_eq h.2]
  · cases h
end

/-- All that the one stands for, the other stands for. -/
def Weak (a b : AV) : Prop := ∀ (R : Realm) (w : World) (c : Value), Rel R w a c → Rel R w b c
def WeakL : List AV → List AV → Prop
  | [], [] => True
  | a :: l, b :: r => Weak a b ∧ WeakL l r
  | _, _ => False

theorem Weak.refl (a : AV) : Weak a a := fun _ _ _ h => h
theorem WeakL.refl : ∀ l : List AV, WeakL l l
  | [] => trivial
  | a :: l => ⟨Weak.refl a, WeakL.refl l⟩
theorem WeakL.length : ∀ {l r : List AV}, WeakL l r → l.length = r.length
  | [], [], _ => rfl
  | _ :: _, _ :: _, h => by simp [WeakL.length h.2]
  | [], _ :: _, h => h.elim
  | _ :: _, [], h => h.elim
theorem WeakL.rel {R : Realm} {w : World} : ∀ {l r : List AV} {cs : List Value}, WeakL l r → RelL R w l cs → RelL R w r cs
  | [], [], _, _, h => h
  | _ :: _, _ :: _, _, k, .cons h t => .cons (k.1 _ _ _ h) (WeakL.rel k.2 t)
  | [], _ :: _, _, h, _ => h.elim
  | _ :: _, [], _, h, _ => h.elim
theorem WeakL.relC {R : Realm} {w : World} : ∀ {l r : List AV} {b o : Nat}, WeakL l r → RelC R w b o l → RelC R w b o r
  | [], [], _, _, _, _ => .nil
  | _ :: _, _ :: _, _, _, k, .cons hc h1 hi h t => .cons hc h1 hi (k.1 _ _ _ h) (WeakL.relC k.2 t)
  | [], _ :: _, _, _, h, _ => h.elim
  | _ :: _, [], _, _, h, _ => h.elim
theorem WeakL.append : ∀ {a b c d : List AV}, WeakL a b → WeakL c d → WeakL (a ++ c) (b ++ d)
  | [], [], _, _, _, h => h
  | _ :: _, _ :: _, _, _, k, h => ⟨k.1, WeakL.append k.2 h⟩
  | [], _ :: _, _, _, h, _ => h.elim
  | _ :: _, [], _, _, h, _ => h.elim

/-- What is to be known of a value that a pattern has read. -/
structure DecOk (v u : AV) : Prop where
  weak : Weak v u
  tup : u.notTup = v.notTup
  cells : v.notTup = true → WeakL v.cells u.cells
  closed : v.closed = true → u.closed = true

theorem DecOk.refl (v : AV) : DecOk v v := ⟨Weak.refl v, rfl, fun _ => WeakL.refl _, fun h => h⟩

theorem kEq_eq {a b : IntKind} (h : kEq a b = true) : a = b := of_decide_eq_true h

theorem fit_relE {α : Type} {f : AV → Bool} {d : AV → α} {g : α → AV} (hfg : ∀ v, f v = true → DecOk v (g (d v))) {R : Realm} {w : World} :
    ∀ {es : List AV} {b o sz : Nat}, allFit f es = true → RelE R w b o sz es → RelE R w b o sz ((es.map d).map g)
  | [], b, o, sz, _, _ => .nil
  | e :: es, b, o, sz, h, hr => by
    simp only [allFit, Bool.and_eq_true] at h
    cases hr with
    | cons hl ht hk hc t =>
      have d' := hfg e h.1
      have wc := d'.cells ht
      exact .cons (by rw [← wc.length, hl]) (by rw [d'.tup, ht]) (d'.closed hk) (wc.relC hc) (fit_relE hfg h.2 t)

theorem relE_size {R : Realm} {w : World} {b o sz sz' : Nat} {es : List AV} (h : es = [] ∨ sz = sz') (hr : RelE R w b o sz' es) : RelE R w b o sz es := by
  rcases h with rfl | rfl
  · exact .nil
  · exact hr

theorem list_weak {α : Type} {f : AV → Bool} {d : AV → α} {g : α → AV} (hfg : ∀ v, f v = true → DecOk v (g (d v))) {k : LK} {sz sz' : Nat} {es : List AV} (hs : es = [] ∨ sz = sz') (h : allFit f es = true) :
    Weak (.list k sz' es) (.list .opn sz ((es.map d).map g)) := fun R w c hr => by
  cases hr with
  | lnil => exact .lopn
  | lopn => exact .lopn
  | lown _ _ => exact .lopn
  | list hr hlen hc hk => exact .list (fit_relE hfg h (relE_size hs hr)) (by simp [hlen]) hc trivial

theorem own_weak {α : Type} {f : AV → Bool} {d : AV → α} {g : α → AV} (hfg : ∀ v, f v = true → DecOk v (g (d v))) {id sz : Nat} {es : List AV} (h : allFit f es = true) :
    Weak (.list (.own id) sz es) (.list (.own id) sz ((es.map d).map g)) := fun R w c hr => by
  cases hr with
  | lown h1 h2 => exact .lown h1 h2
  | list hr hlen hc hk => exact .list (fit_relE hfg h hr) (by simp [hlen]) hc hk

mutual
theorem Pat.fits_ok : ∀ (p : Pat) {v : AV}, p.fits v = true → DecOk v (p.enc (p.decD v))
  | .int k, v, h => by
    cases v with
    | int k' n =>
      have hk : kEq k k' = true := h
      rw [kEq_eq hk]
      exact DecOk.refl _
    | _ => cases h
  | .bool, v, h => by
    cases v with
    | bool b => exact DecOk.refl _
    | _ => cases h
  | .str, v, h => by
    cases v with
    | str b => exact DecOk.refl _
    | _ => cases h
  | .agg ps, v, h => by
    cases v with
    | agg cs =>
      obtain ⟨h1, h2⟩ := ps.fits_ok (show ps.fits cs = true from h)
      exact ⟨fun R w c hr => by cases hr with | agg hr h1' => exact .agg (h1.rel hr) h1', rfl, fun _ => h1, fun hc => by
        have hc' : closedL cs = true := by simpa [AV.closed] using hc
        show AV.closed (.agg (ps.enc (ps.decD cs))) = true
        simp only [AV.closed]; exact h2 hc'⟩
    | _ => cases h
  | .tup ps, v, h => by
    cases v with
    | tup cs =>
      obtain ⟨h1, h2⟩ := ps.fits_ok (show ps.fits cs = true from h)
      exact ⟨fun R w c hr => by cases hr with | tup hr => exact .tup (h1.rel hr), rfl, fun hn => by simp [AV.notTup] at hn, fun hc => by
        have hc' : closedL cs = true := by simpa [AV.closed] using hc
        show AV.closed (.tup (ps.enc (ps.decD cs))) = true
        simp only [AV.closed]; exact h2 hc'⟩
    | _ => cases h
  | .list sz p, v, h => by
    cases v with
    | list k sz' es =>
      have hb : ((Nat.beq sz sz' || es.isEmpty) && allFit p.fits es) = true := h
      simp only [Bool.and_eq_true, Bool.or_eq_true, Nat.beq_eq, List.isEmpty_iff] at hb
      have hw := list_weak (k := k) (fun v => p.fits_ok) hb.1.symm hb.2
      exact ⟨hw, rfl, fun _ => ⟨hw, trivial⟩, fun _ => rfl⟩
    | _ => cases h
  | .own id sz p, v, h => by
    cases v with
    | list k sz' es =>
      cases k with
      | own id' =>
        have hb : ((Nat.beq id id' && Nat.beq sz sz') && allFit p.fits es) = true := h
        simp only [Bool.and_eq_true, Nat.beq_eq] at hb
        obtain ⟨⟨rfl, rfl⟩, hf⟩ := hb
        have hw := own_weak (id := id) (sz := sz) (fun v => p.fits_ok) hf
        exact ⟨hw, rfl, fun _ => ⟨hw, trivial⟩, fun hc => by simp [AV.closed, LK.closed] at hc⟩
      | _ => cases h
    | _ => cases h
  | .cst u, v, h => by
    have := sameA_eq (show sameA v u = true from h)
    subst this
    exact DecOk.refl _
theorem Pats.fits_ok : ∀ (ps : Pats) {l : List AV}, ps.fits l = true → WeakL l (ps.enc (ps.decD l)) ∧ (closedL l = true → closedL (ps.enc (ps.decD l)) = true)
  | .nil, l, h => by
    cases l with
    | nil => exact ⟨trivial, fun h => h⟩
    | cons _ _ => cases h
  | .cons p .nil, l, h => by
    match l, h with
    | [], h => cases h
    | a :: l, h =>
      have h' : (p.fits a && l.isEmpty) = true := h
      simp only [Bool.and_eq_true, List.isEmpty_iff] at h'
      obtain ⟨h1, rfl⟩ := h'
      have d := p.fits_ok h1
      exact ⟨⟨d.weak, trivial⟩, fun hc => by
        simp only [closedL, Bool.and_true] at hc
        show closedL [p.enc (p.decD a)] = true
        simp only [closedL, Bool.and_true]
        exact d.closed hc⟩
  | .cons p (.cons q ps), l, h => by
    cases l with
    | nil => cases h
    | cons a l =>
      have h' : (p.fits a && (Pats.cons q ps).fits l) = true := h
      rw [Bool.and_eq_true] at h'
      have d := p.fits_ok h'.1
      obtain ⟨k1, k2⟩ := (Pats.cons q ps).fits_ok h'.2
      exact ⟨⟨d.weak, k1⟩, fun hc => by
        simp only [closedL, Bool.and_eq_true] at hc
        show closedL (p.enc (p.decD a) :: (Pats.cons q ps).enc ((Pats.cons q ps).decD l)) = true
        simp only [closedL, Bool.and_eq_true]
        exact ⟨d.closed hc.1, k2 hc.2⟩⟩
end

theorem Pat.dec_ok (p : Pat) {v : AV} {x : p.T} (h : p.dec v = some x) : DecOk v (p.enc x) := by
  unfold Pat.dec at h
  cases hf : p.fits v with
  | true => rw [hf] at h; cases h; exact p.fits_ok hf
  | false => rw [hf] at h; cases h
theorem Pats.dec_ok (ps : Pats) {l : List AV} {x : ps.T} (h : ps.dec l = some x) : WeakL l (ps.enc x) ∧ (closedL l = true → closedL (ps.enc x) = true) := by
  unfold Pats.dec at h
  cases hf : ps.fits l with
  | true => rw [hf] at h; cases h; exact ps.fits_ok hf
  | false => rw [hf] at h; cases h

/-! ### What the patterns read of what they have written -/

mutual
/-- Patterns whose constants are simple. -/
def Pat.plain : Pat → Bool
  | .agg ps => ps.plain
  | .tup ps => ps.plain
  | .list _ p => p.plain
  | .own _ _ p => p.plain
  | .cst v => sameA v v
  | _ => true
def Pats.plain : Pats → Bool
  | .nil => true
  | .cons p ps => p.plain && ps.plain
end

theorem allFit_map {α : Type} {f : AV → Bool} {g : α → AV} (h : ∀ x, f (g x) = true) : ∀ xs : List α, allFit f (xs.map g) = true
  | [] => rfl
  | x :: xs => by simp only [List.map_cons, allFit, h x, allFit_map h xs, Bool.and_self]

theorem map_dec {α : Type} {d : AV → α} {g : α → AV} (h : ∀ x, d (g x) = x) : ∀ xs : List α, (xs.map g).map d = xs
  | [] => rfl
  | x :: xs => by simp only [List.map_cons, h x, map_dec h xs]

mutual
theorem Pat.fits_enc : ∀ (p : Pat) (x : p.T), p.plain = true → p.fits (p.enc x) = true ∧ p.decD (p.enc x) = x
  | .int k, x, _ => ⟨decide_eq_true rfl, rfl⟩
  | .bool, x, _ => ⟨rfl, rfl⟩
  | .str, x, _ => ⟨rfl, rfl⟩
  | .agg ps, x, h => ps.fits_enc x h
  | .tup ps, x, h => ps.fits_enc x h
  | .list sz p, x, h => by
    refine ⟨?_, map_dec (fun y => (p.fits_enc y h).2) x⟩
    change ((Nat.beq sz sz || (List.map p.enc x).isEmpty) && allFit p.fits (List.map p.enc x)) = true
    rw [Nat.beq_refl, Bool.true_or, Bool.true_and]
    exact allFit_map (fun y => (p.fits_enc y h).1) x
  | .own id sz p, x, h => by
    refine ⟨?_, map_dec (fun y => (p.fits_enc y h).2) x⟩
    change ((Nat.beq id id && Nat.beq sz sz) && allFit p.fits (List.map p.enc x)) = true
    rw [Nat.beq_refl, Nat.beq_refl, Bool.true_and, Bool.true_and]
    exact allFit_map (fun y => (p.fits_enc y h).1) x
  | .cst v, x, h => ⟨h, rfl⟩
theorem Pats.fits_enc : ∀ (ps : Pats) (x : ps.T), ps.plain = true → ps.fits (ps.enc x) = true ∧ ps.decD (ps.enc x) = x
  | .nil, x, _ => ⟨rfl, rfl⟩
  | .cons p .nil, x, h => by
    have h' : (p.plain && true) = true := h
    rw [Bool.and_true] at h'
    have := p.fits_enc x h'
    exact ⟨by change (p.fits (p.enc x) && true) = true; rw [this.1]; rfl, this.2⟩
  | .cons p (.cons q ps), x, h => by
    have h' : (p.plain && (Pats.cons q ps).plain) = true := h
    rw [Bool.and_eq_true] at h'
    have h1 := p.fits_enc x.1 h'.1
    have h2 := (Pats.cons q ps).fits_enc x.2 h'.2
    refine ⟨?_, ?_⟩
    · change (p.fits (p.enc x.1) && (Pats.cons q ps).fits ((Pats.cons q ps).enc x.2)) = true
      rw [h1.1, h2.1]
      rfl
    · change (p.decD (p.enc x.1), (Pats.cons q ps).decD ((Pats.cons q ps).enc x.2)) = x
      rw [h1.2, h2.2]
      rfl
end

theorem Pat.dec_enc (p : Pat) (x : p.T) (h : p.plain = true) : p.dec (p.enc x) = some x := by
  have := p.fits_enc x h
  unfold Pat.dec
  rw [this.1, this.2]
  rfl
theorem Pats.dec_enc (ps : Pats) (x : ps.T) (h : ps.plain = true) : ps.dec (ps.enc x) = some x := by
  have := ps.fits_enc x h
  unfold Pats.dec
  rw [this.1, this.2]
  rfl

end Go.Am
