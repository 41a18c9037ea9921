/- The abstract machine: maps and ranges over strings on values with leaves. -/
import Derived.Test.YtophnjjjmikmeaaGreatAmKL
set_option linter.all false
namespace Go.Am
open Go
def F0 (s : St) (dst : Option Tmp) (x : SV) : Option (Bool × St × St) := match x with
  | .v (.ptr id 0) => match nth s.G id with
    | some (.eR l pos) => some (Nat.blt pos l.length, (s.aX (aq s.G id (.eR l (pos + (aZ l pos).2)))).put dst (.v (.bC [.bool true, .int .i64 pos, .int .i32 (aZ l pos).1])), s.put dst (.v (.bC [.bool false])))
    | _ => none
  | _ => none
theorem BS {s : St} {dst : Option Tmp} {x : SV} {b : Bool} {s1 s2 : St} (h : F0 s dst x = some (b, s1, s2)) : ju s dst x = some (bif b then s1 else s2) := by
  unfold F0 at h
  split at h
  · split at h
    · rename_i l pos hg
      cases h
      simp only [ju, hg]
      cases Nat.blt pos l.length <;> rfl
    · cases h
  · cases h
theorem CW {e : EK} {k : AV} : ∀ {es : List (AV × AV)}, cQ e k es = true → gd e k es = some (ec e k es)
  | [], _ => rfl
  | (k', v) :: l, h => by
    simp only [cQ, Bool.and_eq_true] at h
    obtain ⟨b, hb⟩ := Option.isSome_iff_exists.1 h.1
    simp only [gd, ec, yA, hb]
    cases b
    · simp only [cond_false]; exact CW h.2
    · rfl
theorem F1 {e : EK} {k v : AV} : ∀ {es : List (AV × AV)}, cQ e k es = true → pS e k v es = some (a6 e k v es)
  | [], _ => rfl
  | (k', v') :: l, h => by
    simp only [cQ, Bool.and_eq_true] at h
    obtain ⟨b, hb⟩ := Option.isSome_iff_exists.1 h.1
    simp only [pS, a6, yA, hb]
    cases b
    · simp only [cond_false, F1 h.2]
    · rfl
mutual
def aB.flat : aB → Bool
  | .int _ => true
  | .bool => true
  | .str => true
  | .agg ps => ps.flat
  | .aG _ _ p => p.flat
  | _ => false
def aF.flat : aF → Bool
  | .nil => true
  | .cons p ps => p.flat && ps.flat
end
theorem zV {α : Type} {f : AV → Bool} {d : AV → α} {g : α → AV} (h : ∀ a, f a = true → g (d a) = a) : ∀ {es : List AV}, allFit f es = true → (es.map d).map g = es
  | [], _ => rfl
  | a :: l, hl => by
    simp only [allFit, Bool.and_eq_true] at hl
    rw [List.map_cons, List.map_cons, h a hl.1, zV h hl.2]
mutual
theorem aB.iY : ∀ {p : aB}, p.flat = true → ∀ {a : AV}, p.fits a = true → p.enc (p.bf a) = a
  | .int k, _, a, h => by
    cases a <;> first | (cases h; done) | skip
    have hk : N8 _ _ = true := h
    rw [AH hk]; rfl
  | .bool, _, a, h => by cases a <;> first | (cases h; done) | rfl
  | .str, _, a, h => by cases a <;> first | (cases h; done) | rfl
  | .agg ps, hp, a, h => by
    cases a <;> first | (cases h; done) | skip
    exact congrArg AV.agg (aF.iY (ps := ps) hp h)
  | .bC _, hp, _, _ => by cases hp
  | .list _ _, hp, _, _ => by cases hp
  | .own _ _ _, hp, _, _ => by cases hp
  | .aG id sz p, hp, a, h => by
    cases a <;> first | (cases h; done) | skip
    rename_i k aQ es
    cases k <;> first | (cases h; done) | skip
    rename_i fJ j
    simp only [aB.fits, Bool.and_eq_true] at h
    have e1 := Nat.eq_of_beq_eq_true h.1.1
    have e2 := Nat.eq_of_beq_eq_true h.1.2
    subst e1 e2
    have hp : p.flat = true := hp
    show AV.list (.aG id j) sz ((es.map p.bf).map p.enc) = _
    rw [zV (fun a ha => aB.iY hp ha) h.2]
  | .qB _, hp, _, _ => by cases hp
  | .two _ _, hp, _, _ => by cases hp
theorem aF.iY : ∀ {ps : aF}, ps.flat = true → ∀ {l : List AV}, ps.fits l = true → ps.enc (ps.bf l) = l
  | .nil, _, l, h => by
    cases l with
    | nil => rfl
    | cons _ _ => cases h
  | .cons p .nil, hp, l, h => by
    simp only [aF.flat, Bool.and_eq_true] at hp
    cases l with
    | nil => cases h
    | cons a l =>
      simp only [aF.fits, Bool.and_eq_true] at h
      cases l with
      | nil => exact congrArg (fun x => [x]) (aB.iY hp.1 h.1)
      | cons _ _ => cases h.2
  | .cons p (.cons q ps), hp, l, h => by
    rw [aF.flat, Bool.and_eq_true] at hp
    cases l with
    | nil => cases h
    | cons a l =>
      rw [aF.fits, Bool.and_eq_true] at h
      have h1 := aB.iY hp.1 h.1
      have h2 := aF.iY (ps := .cons q ps) hp.2 h.2
      show p.enc (p.bf a) :: (aF.cons q ps).enc ((aF.cons q ps).bf l) = a :: l
      rw [h1, h2]
end
def sj (E : Env) (s : St) (t : TypeId) (m k : SV) : Option (Bool × AV × Bool) := match EP E s.G t, E.ti t, mapOf s m, k with
  | some p, some i, some es, .v k => match i.k with
    | .map kt _ (some z) => match E.ti kt with
      | some j => if j.ek.plain && fM j.ek k && p.flat then
          some (cQ j.ek k es && p.fits (cg j.ek k (yL E s.G t z) es), p.enc (p.bf (cg j.ek k (yL E s.G t z) es)), (ec j.ek k es).isSome)
        else none
      | none => none
    | _ => none
  | _, _, _, _ => none
theorem oY {E : Env} {s : St} {t : TypeId} {m k : SV} {v : AV} {b : Bool} (h : sj E s t m k = some (true, v, b)) : jt E s t m k = some (v, b) := by
  unfold sj at h
  split at h
  · rename_i p i es k h1 h2 h3
    split at h
    · rename_i kt et z hk
      split at h
      · rename_i j hj
        split at h
        · rename_i hc
          simp only [Bool.and_eq_true] at hc
          injection h with h
          injection h with h4 h
          injection h with h5 h6
          rw [Bool.and_eq_true] at h4
          rw [aB.iY hc.2 h4.2] at h5
          have e : gd j.ek k es = some (ec j.ek k es) := CW h4.1
          have kX : (j.ek.plain && fM j.ek k) = true := by rw [hc.1.1, hc.1.2]; rfl
          have e0 : gC E s t m (.v k) = some ((ec j.ek k es).getD z, (ec j.ek k es).isSome) := by
            simp only [gC, h2, h3, hk, hj, kX, if_true, e]
            cases ec j.ek k es <;> rfl
          unfold jt
          rw [e0]
          unfold cg at h5
          cases hg : ec j.ek k es with
          | none =>
            rw [hg] at h5 h6
            subst h5 h6
            rfl
          | some v' =>
            rw [hg] at h5 h6
            subst h5 h6
            rfl
        · cases h
      · cases h
    · cases h
  · cases h
def sk (E : Env) (s : St) (t : TypeId) (m k x : SV) : Option (Bool × St) := match E.ti t, m, k, x with
  | some i, .v (.map id), .v k, .v x => match i.k, nth s.G id with
    | .map kt _ _, some (.map es) => match E.ti kt with
      | some j => if j.ek.plain && fM j.ek k then some (cQ j.ek k es, s.aX (aq s.G id (.map (a6 j.ek k x es)))) else none
      | none => none
    | _, _ => none
  | _, _, _, _ => none
theorem oZ {E : Env} {s s' : St} {t : TypeId} {m k x : SV} (h : sk E s t m k x = some (true, s')) : dI E s t m k x = some s' := by
  unfold sk at h
  split at h
  · rename_i i id k x h1
    split at h
    · rename_i kt _ _ es hk hg
      split at h
      · rename_i j hj
        split at h
        · rename_i hc
          injection h with h
          injection h with h4 h5
          simp only [dI, h1, hk, hg, hj, hc, if_true, F1 h4, h5]
        · cases h
      · cases h
    · cases h
  · cases h
def F2 (E : Env) (s : St) (dst : Option Tmp) (l : List AV) (tys : List TypeId) : Option (Bool × St) := match l, tys with
  | [.gb id off sz len _, .str bs], t :: _ => match E.ti t, nth s.G id with
    | some i, some (.row cs el) => match i.k with
      | .sl _ esz _ _ _ => if Nat.beq sz esz && Nat.beq esz 1 then
          some (Nat.ble (off + (bs.take (Nat.min bs.length len)).length) cs.length,
            (s.aX (aq s.G id (.row (bu cs off ((bs.take (Nat.min bs.length len)).map n8)) el))).put dst (.v (.int .i64 (Nat.min bs.length len))))
        else none
      | _ => none
    | _, _ => none
  | [.gb id off sz len _, .list _ aQ es], t :: _ => match E.ti t, nth s.G id with
    | some i, some (.row cs el) => match i.k with
      | .sl _ esz _ _ _ => if Nat.beq sz esz && Nat.beq aQ esz then
          some (Nat.ble (off + (ap (es.take (Nat.min es.length len))).length) cs.length,
            (s.aX (aq s.G id (.row (bu cs off (ap (es.take (Nat.min es.length len)))) el))).put dst (.v (.int .i64 (Nat.min es.length len))))
        else none
      | _ => none
    | _, _ => none
  | [.cS id f off sz len, .list _ aQ xs], t :: _ => match E.ti t, nth s.G id with
    | some i, some (.cW es Q3 el) => match i.k with
      | .sl _ esz _ _ _ => if Nat.beq sz esz && Nat.beq Q3 sz && Nat.beq aQ esz then
          some (decide (f = es.length) && decide (off + Nat.min xs.length len ≤ es.length),
            (s.aX (aq s.G id (.cW (bu es off (xs.take (Nat.min xs.length len))) Q3 el))).put dst (.v (.int .i64 (Nat.min xs.length len))))
        else none
      | _ => none
    | _, _ => none
  | _, _ => none
theorem BT {E : Env} {s s' : St} {dst : Option Tmp} {l : List AV} {tys : List TypeId} (h : F2 E s dst l tys = some (true, s')) : bG E s dst .copy l tys = some (true, s') := by
  unfold F2 at h
  split at h
  · rename_i id off sz len cap bs t ts
    split at h
    · rename_i i cs el hi aR
      split at h
      · rename_i a1 esz a2 a3 a4 hk
        split at h
        · rename_i hc
          rw [Bool.and_eq_true] at hc
          injection h with h
          injection h with h1 h2
          have jn : (Nat.beq esz 1 && Nat.ble (off + (bs.take (Nat.min bs.length len)).length) cs.length) = true := by rw [hc.2, h1]; rfl
          simp only [bG, hi, hk, oa, aR, hc.1, if_true, jn, h2]
        · cases h
      · cases h
    · cases h
  · rename_i id off sz len cap k aQ es t ts
    split at h
    · rename_i i cs el hi aR
      split at h
      · rename_i a1 esz a2 a3 a4 hk
        split at h
        · rename_i hc
          rw [Bool.and_eq_true] at hc
          injection h with h
          injection h with h1 h2
          have e2 : (Nat.beq aQ esz || es.isEmpty) = true := by rw [hc.2]; rfl
          simp only [bG, hi, hk, oa, aR, hc.1, if_true, e2, h1, h2]
        · cases h
      · cases h
    · cases h
  · rename_i id f off sz len k aQ xs t ts
    split at h
    · rename_i i es Q3 el hi aR
      split at h
      · rename_i a1 esz a2 a3 a4 hk
        split at h
        · rename_i hc
          rw [Bool.and_eq_true] at hc
          injection h with h
          injection h with h1 h2
          rw [Bool.and_eq_true, decide_eq_true_eq, decide_eq_true_eq] at h1
          obtain ⟨rfl, h1⟩ := h1
          have e2 : (Nat.beq sz esz && Nat.beq Q3 sz && (Nat.beq aQ esz || xs.isEmpty) && Nat.ble es.length es.length && Nat.ble es.length es.length && Nat.ble (off + Nat.min xs.length len) es.length) = true := by
            rw [hc.1, hc.2]
            simp only [Bool.true_or, Bool.true_and, Bool.and_eq_true]
            exact ⟨⟨Nat.ble_eq_true_of_le (Nat.le_refl _), Nat.ble_eq_true_of_le (Nat.le_refl _)⟩, Nat.ble_eq_true_of_le h1⟩
          simp only [bG, hi, hk, oa, aR, e2, if_true, h2]
        · cases h
      · cases h
    · cases h
  · cases h
def sm (s : St) (dst : Option Tmp) (elem esz aS : Nat) (k : LK) (sz : Nat) (es ys : List AV) : Option (Bool × St × Bool × St) :=
  match k with
  | .nil => some (ys.isEmpty, s.put dst (.v (.list .nil sz es)), decide ((es.length + ys.length) * aS ≤ 140737488355328),
      (s.aX (s.G ++ [.tok (es.length + ys.length) esz elem])).put dst (.v (.list (.own s.G.length) esz (es ++ ys))))
  | .full => if Nat.beq sz esz then some (ys.isEmpty, s.put dst (.v (.list .full sz es)), decide ((es.length + ys.length) * aS ≤ 140737488355328),
      (s.aX (s.G ++ [.tok (es.length + ys.length) esz elem])).put dst (.v (.list (.own s.G.length) esz (es ++ ys)))) else none
  | .own id => match nth s.G id with
    | some (.tok f aQ e') => if Nat.beq aQ esz && Nat.beq e' elem && Nat.beq sz esz then
        some (false, s, decide (f = es.length) && decide ((es.length + ys.length) * aS ≤ 140737488355328),
          (s.aX (EQ s.G id ys.length f esz elem)).put dst (.v (.list (.own id) esz (es ++ ys)))) else none
    | _ => none
  | .aG id j => match nth s.G id with
    | some (.aG fs aQ e') => if Nat.beq aQ esz && Nat.beq e' elem && Nat.beq sz esz then
        some (ys.isEmpty, s.put dst (.v (.list (.aG id j) sz es)), HS fs j es.length && decide ((es.length + ys.length) * aS ≤ 140737488355328),
          (s.aX (aq s.G id (.aG (Dp fs j (es.length + ys.length)) esz elem))).put dst (.v (.list (.aG id j) esz (es ++ ys)))) else none
    | _ => none
  | .fY => none
def xV (s : St) (dst : Option Tmp) (elem esz aS id f off sz len : Nat) (ys : List AV) : Option (Bool × St × Bool × St) := match nth s.G id with
  | some (.cW es aQ e') => if Nat.beq aQ esz && Nat.beq e' elem && Nat.beq sz esz then
      some (false, s, decide (f = es.length) && decide (off = 0) && decide (len = f) && decide ((es.length + ys.length) * aS ≤ 140737488355328),
        (s.aX (aq s.G id (.cW (es ++ ys) esz elem))).put dst (.v (.cS id (es.length + ys.length) 0 esz (es.length + ys.length)))) else none
  | _ => none
def xW (E : Env) (s : St) (dst : Option Tmp) (l : List AV) (tys : List TypeId) : Option (Bool × St × Bool × St) := match l, tys with
  | [.list k sz es, .list _ aQ ys], [t, u] => match E.ti t with
    | some i => match i.k with
      | .sl elem esz _ aS (some z) =>
        if Nat.beq aQ esz && Nat.beq t u && Nat.ble 1 esz && Nat.ble 1 aS && Nat.beq z.cells.length esz && z.aH then
          sm s dst elem esz aS k sz es ys
        else none
      | _ => none
    | none => none
  | [.cS id f off sz len, .list _ aQ ys], [t, u] => match E.ti t with
    | some i => match i.k with
      | .sl elem esz _ aS (some z) =>
        if Nat.beq aQ esz && Nat.beq t u && Nat.ble 1 esz && Nat.ble 1 aS && Nat.beq z.cells.length esz && z.aH then xV s dst elem esz aS id f off sz len ys else none
      | _ => none
    | none => none
  | [.list k sz es, .str bs], [t, u] => match E.ti t, E.ti u with
    | some i, some j => match i.k, j.k with
      | .sl elem esz _ aS (some z), .str =>
        if Nat.beq esz 1 && Nat.ble 1 aS && Nat.beq z.cells.length esz && z.aH then sm s dst elem esz aS k sz es (bs.map n8) else none
      | _, _ => none
    | _, _ => none
  | _, _ => none
theorem o0 {s s1 s2 : St} {dst : Option Tmp} {elem esz aS : Nat} {k : LK} {sz : Nat} {es ys : List AV} {b c : Bool} (h : sm s dst elem esz aS k sz es ys = some (b, s1, c, s2)) (hc : b = false → c = true) :
    ∃ v G', dc s.G elem esz aS (.list k sz es) ys = some (true, v, G') ∧ (s.aX G').put dst (.v v) = bif b then s1 else s2 := by
  unfold sm at h
  cases k with
  | nil =>
    cases h
    cases ys with
    | nil => exact ⟨_, _, rfl, rfl⟩
    | cons y ys =>
      have hc := hc rfl
      exact ⟨_, _, by simp only [dc, hc], rfl⟩
  | full =>
    simp only at h
    cases hs : Nat.beq sz esz with
    | false => rw [hs] at h; cases h
    | true =>
      rw [hs] at h
      cases h
      cases ys with
      | nil => exact ⟨_, _, rfl, rfl⟩
      | cons y ys =>
        have hc := hc rfl
        exact ⟨_, _, by simp only [dc, hs, if_true, hc], rfl⟩
  | own id =>
    simp only at h
    split at h
    · rename_i f aQ e' hg
      split at h
      · rename_i bD
        cases h
        have hc := hc rfl
        cases ys with
        | nil =>
          simp only [Bool.and_eq_true] at bD
          have e1 := Nat.eq_of_beq_eq_true bD.1.1
          have e2 := Nat.eq_of_beq_eq_true bD.1.2
          have e3 := Nat.eq_of_beq_eq_true bD.2
          subst e1; subst e2; subst e3
          refine ⟨_, _, rfl, ?_⟩
          simp only [cond_false, EQ, List.length_nil, Nat.add_zero, lz hg, List.append_nil]
        | cons y ys => exact ⟨_, _, by simp only [dc, hg, bD, if_true, hc], rfl⟩
      · cases h
    · cases h
  | aG id j =>
    simp only at h
    split at h
    · rename_i fs aQ e' hg
      split at h
      · rename_i bD
        cases h
        cases ys with
        | nil => exact ⟨_, _, rfl, rfl⟩
        | cons y ys =>
          have hc := hc rfl
          exact ⟨_, _, by simp only [dc, hg, bD, if_true, hc], rfl⟩
      · cases h
    · cases h
  | fY => cases h
theorem xX {s s1 s2 : St} {dst : Option Tmp} {elem esz aS id f off sz len : Nat} {ys : List AV} {b c : Bool} (h : xV s dst elem esz aS id f off sz len ys = some (b, s1, c, s2)) (hc : b = false → c = true) :
    ∃ v G', dc s.G elem esz aS (.cS id f off sz len) ys = some (true, v, G') ∧ (s.aX G').put dst (.v v) = bif b then s1 else s2 := by
  unfold xV at h
  split at h
  · rename_i es aQ e' hg
    split at h
    · rename_i bD
      cases h
      have hc := hc rfl
      cases ys with
      | nil =>
        simp only [Bool.and_eq_true, decide_eq_true_eq] at hc bD
        have e1 := Nat.eq_of_beq_eq_true bD.1.1
        have e2 := Nat.eq_of_beq_eq_true bD.1.2
        have e3 := Nat.eq_of_beq_eq_true bD.2
        obtain ⟨⟨⟨h1, h2⟩, h3⟩, _⟩ := hc
        subst e1; subst e2; subst e3; subst h1; subst h2; subst h3
        refine ⟨_, _, rfl, ?_⟩
        simp only [cond_false, List.length_nil, Nat.add_zero, lz hg, List.append_nil]
      | cons y ys => exact ⟨_, _, by simp only [dc, hg, bD, if_true, hc], rfl⟩
    · cases h
  · cases h
theorem xY {E : Env} {s s1 s2 : St} {dst : Option Tmp} {l : List AV} {tys : List TypeId} {b c : Bool} (h : xW E s dst l tys = some (b, s1, c, s2)) (A3 : b = false → c = true) : bG E s dst .append l tys = some (true, bif b then s1 else s2) := by
  unfold xW at h
  split at h
  · rename_i k sz es k' aQ ys t u
    split at h
    · rename_i i hi
      split at h
      · rename_i elem esz a1 aS z hk
        split at h
        · rename_i hc
          have kX : ((Nat.beq aQ esz || ys.isEmpty) && Nat.beq t u && Nat.ble 1 esz && Nat.ble 1 aS && Nat.beq z.cells.length esz && z.aH) = true := by
            simp only [Bool.and_eq_true] at hc ⊢
            obtain ⟨⟨⟨⟨⟨c1, c2⟩, c3⟩, c4⟩, c5⟩, c6⟩ := hc
            exact ⟨⟨⟨⟨⟨by rw [c1]; rfl, c2⟩, c3⟩, c4⟩, c5⟩, c6⟩
          obtain ⟨v, G', h1, h2⟩ := o0 h A3
          simp only [bG, hi, hk, kX, if_true, h1, h2]
        · cases h
      · cases h
    · cases h
  · rename_i id f off sz len k' aQ ys t u
    split at h
    · rename_i i hi
      split at h
      · rename_i elem esz a1 aS z hk
        split at h
        · rename_i hc
          have kX : ((Nat.beq aQ esz || ys.isEmpty) && Nat.beq t u && Nat.ble 1 esz && Nat.ble 1 aS && Nat.beq z.cells.length esz && z.aH) = true := by
            simp only [Bool.and_eq_true] at hc ⊢
            obtain ⟨⟨⟨⟨⟨c1, c2⟩, c3⟩, c4⟩, c5⟩, c6⟩ := hc
            exact ⟨⟨⟨⟨⟨by rw [c1]; rfl, c2⟩, c3⟩, c4⟩, c5⟩, c6⟩
          obtain ⟨v, G', h1, h2⟩ := xX h A3
          simp only [bG, hi, hk, kX, if_true, h1, h2]
        · cases h
      · cases h
    · cases h
  · rename_i k sz es bs t u
    split at h
    · rename_i i j hi hj
      split at h
      · rename_i elem esz a1 aS z hk Oe
        split at h
        · rename_i hc
          obtain ⟨v, G', h1, h2⟩ := o0 h A3
          simp only [bG, hi, hj, hk, Oe, hc, if_true, h1, h2]
        · cases h
      · cases h
    · cases h
  · cases h
end Go.Am
namespace Go.Am
open Go
def LG (E : Env) (cut wk : Bool) (t : TypeId) (r : AV) (G : List GO) : Option (Bool × AV × List GO) := match r with
  | .cS id f 0 sz len => match nth G id, E.ti t with
    | some (.cW es aQ _), some i => match i.k with
      | .sl _ esz _ _ _ => if Nat.beq esz sz && Nat.beq aQ sz then
          bif cut then some (decide (f = es.length) && decide (len ≤ es.length) && aN (vM wk es), .list .fY sz (vM wk (es.take len)), aq G id .dead)
          else some (decide (f = es.length) && decide (len = es.length) && aN (vM wk es), .list .fY sz (vM wk es), aq G id .dead)
        else none
      | _ => none
    | _, _ => none
  | .gb id 0 sz len _ => match nth G id, E.ti t, E.HR t with
    | some (.row cs _), some i, some p => match i.k with
      | .sl _ esz agg _ _ => if Nat.beq esz sz && Nat.ble 1 sz && (agg || Nat.beq sz 1) && p.under 0 then
          some (Nat.beq cs.length (len * sz) && allFit (fun e => p.fits e && e.aH && (agg || e.one)) (fq agg sz len cs), .list .fY sz ((fq agg sz len cs).map fun e => p.enc (p.bf e)), aq G id .dead)
        else none
      | _ => none
    | _, _, _ => none
  | .agg cs => match jZ wk cs G with
    | (c, di, G') => some (c, .agg di, G')
  | .ptr id 0 => match nth G id with
    | some (.row cs _) => some (aN cs, .ep cs, aq G id .dead)
    | _ => none
  | _ => none
def uy (E : Env) (cut wk : Bool) : List TypeId → List AV → List GO → Bool × List AV × List GO
  | t :: ts, r :: rs, G => match LG E cut wk t r G with
    | some (c, r', G') => match uy E cut wk ts rs G' with
      | (c', F3, Ol) => (c && c', r' :: F3, Ol)
    | none => match uy E cut wk ts rs G with
      | (c', F3, Ol) => (c', r :: F3, Ol)
  | _, rs, G => (true, rs, G)
def LH {X : Type} (E : Env) (cut wk : Bool) (ts : List TypeId) (K : AV → List GO → Option X) (r : AV) (G : List GO) : Option X := match r with
  | .bC rs => match uy E cut wk ts rs G with
    | (c, F3, G') => bif c then K (.bC F3) G' else none
  | r => match uy E cut wk ts [r] G with
    | (c, [r'], G') => bif c then K r' G' else none
    | _ => none
section
variable {E : Env} {R : af} {w : World}
theorem uz {R : af} {b : Nat} (hI : ∀ o, R.I b o) : ∀ {cs : List AV} {vs : List Value} {o : Nat}, ay R w cs vs → (∀ v ∈ vs, v.oneCell' = true) → (∀ (j : Nat) (v : Value), vs[j]? = some v → w.cell? ⟨b, o + j, none⟩ = some v) → du R w b o cs
  | [], _, o, _, _, _ => .nil
  | a :: cs, _, o, .cons h t, h1, hc => .cons (hc 0 _ rfl) (h1 _ (by simp)) (hI o) h (uz hI t (fun v hv => h1 v (by simp [hv])) fun j v hj => by
      have := hc (j + 1) v (by simpa using hj)
      rwa [show o + (j + 1) = o + 1 + j by omega] at this)
theorem uA {R : af} {b : Nat} {p : aB} {agg : Bool} {sz : Nat} (hI : ∀ o, R.I b o) (hp : p.under 0 = true) (cU : (agg || Nat.beq sz 1) = true) (SQ : 1 ≤ sz) : ∀ (n : Nat) {cs : List AV} {vs : List Value} {o : Nat}, ay R w cs vs → (∀ v ∈ vs, v.oneCell' = true) → cs.length = n * sz →
    (∀ (j : Nat) (v : Value), vs[j]? = some v → w.cell? ⟨b, o + j, none⟩ = some v) → allFit (fun e => p.fits e && e.aH && (agg || e.one)) (fq agg sz n cs) = true → eF R w b o sz ((fq agg sz n cs).map fun e => p.enc (p.bf e))
  | 0, _, _, _, _, _, _, _, _ => .nil
  | n + 1, cs, vs, o, h, h1, hl, hc, hf => by
    simp only [fq, allFit, Bool.and_eq_true] at hf
    obtain ⟨⟨⟨rN, OQ⟩, hf4⟩, hf3⟩ := hf
    have hlen := h.length
    have hle : sz ≤ cs.length := by rw [hl, Nat.succ_mul]; omega
    have dk := p.b9 rN
    have jM : (OE agg (cs.take sz)).cells = cs.take sz := by
      cases agg with
      | true => rfl
      | false =>
        have HE : sz = 1 := by simpa using cU
        subst HE
        match cs, hle with
        | a :: cs, _ =>
          show AV.cells a = [a]
          have ho : a.one = true := by simpa [OE, cX] using hf4
          cases a <;> first | rfl | simp [AV.one] at ho
    have hw := dk.cells OQ
    rw [jM] at hw
    have hA : du R w b o (cs.take sz) := uz hI (h.take sz) (fun v hv => h1 v (List.mem_of_mem_take hv)) fun j v hj => hc j v (by
      rw [List.getElem?_take] at hj
      split at hj
      · exact hj
      · cases hj)
    refine .cons (by rw [← hw.length, List.length_take, Nat.min_eq_left hle]) (by rw [dk.bC]; exact OQ) (jQ (p.cM _ hp)) (hw.EZ hA) ?_
    exact uA hI hp cU SQ n (h.drop sz) (fun v hv => h1 v (List.mem_of_mem_drop hv)) (by rw [List.length_drop, hl, Nat.succ_mul]; omega) (fun j v hj => by
      rw [List.getElem?_drop] at hj
      have := hc _ _ hj
      rwa [show o + (sz + j) = o + sz + j by omega] at this) hf3
theorem IB {cut wk : Bool} {t : TypeId} {r r' : AV} {G G' : List GO} {c : Value} (hg : dv E R w G) (hr : Rel R w r c) (h : LG E cut wk t r G = some (true, r', G')) :
    ∃ R', dv E R' w G' ∧ Rel R' w r' c ∧ Ext R w R' w ∧ R'.obj = R.obj ∧ ∀ b o, R'.I b o → R.I b o ∨ Live R b := by
  unfold LG at h
  split at h
  · rename_i id f sz len
    obtain ⟨ro, aO⟩ : ∃ ro, nth R.obj id = some ro := by
      cases hr with
      | fZ q _ => exact ⟨_, q⟩
      | cS q _ _ => exact ⟨_, q⟩
    split at h
    · rename_i es aQ el i aR hi
      split at h
      · split at h
        · rename_i hc
          rw [Bool.and_eq_true] at hc
          have q1 := Nat.eq_of_beq_eq_true hc.2
          subst q1
          cases cut with
          | true =>
            simp only [cond_true] at h
            injection h with h; injection h with h1 h; injection h with h2 h3
            subst h2 h3
            rw [Bool.and_eq_true, Bool.and_eq_true, decide_eq_true_eq, decide_eq_true_eq] at h1
            obtain ⟨h1, fK⟩ := h1
            obtain ⟨R', r1, r2, r3, r4, r5⟩ := iR (wk := wk) hg aR h1.1 h1.2 fK aO
            exact ⟨R', r1, r5 c hr, r2, r3, fun b o hi => (r4 b o hi).imp_right fun hb => ⟨id, ro, aO, hb⟩⟩
          | false =>
            simp only [cond_false] at h
            injection h with h; injection h with h1 h; injection h with h2 h3
            subst h2 h3
            rw [Bool.and_eq_true, Bool.and_eq_true, decide_eq_true_eq, decide_eq_true_eq] at h1
            obtain ⟨h1, fK⟩ := h1
            obtain ⟨R', r1, r2, r3, r4, r5⟩ := iR (wk := wk) hg aR h1.1 (Nat.le_of_eq h1.2) fK aO
            have r6 := r5 c hr
            rw [h1.2, List.take_length] at r6
            exact ⟨R', r1, r6, r2, r3, fun b o hi => (r4 b o hi).imp_right fun hb => ⟨id, ro, aO, hb⟩⟩
        · cases h
      · cases h
    · cases h
  · rename_i id sz len cap
    split at h
    · rename_i cs i p aR hi hp
      split at h
      · rename_i el esz agg eb z hk
        split at h
        · rename_i hc
          simp only [Bool.and_eq_true] at hc
          injection h with h
          injection h with h1 h
          injection h with h2 h3
          subst h2 h3
          rw [Bool.and_eq_true] at h1
          cases hr with
          | @gb _ _ _ _ _ b hb dA =>
          obtain ⟨vs, k1, k2, k3, k4⟩ := hg.obj id _ _ aR hb
          have yW : Live R b := ⟨id, _, hb, rfl⟩
          have e := oJ R w b
          have bR := a7 k1
          refine ⟨R.all b, ⟨by show R.obj.length = _; rw [cR]; exact hg.len, fun fJ go ro q1 q2 => ?_, hg.inj, fun b' o ho => ?_, fun g cs rO => (hg.cw g cs rO).mono e, hg.lo⟩, ?_, e, rfl, fun b' o ho => ?_⟩
          · rcases bH q1 with ⟨rfl, rfl, _⟩ | ⟨bS, q1⟩
            · have : ro = .bh b := Option.some.inj (q2.symm.trans hb)
              subst this
              exact bR
            · refine (hg.obj fJ go ro q1 q2).mono e (fun _ _ => rfl) (fun b' o gE ho => ?_)
              rcases ho with ho | ho
              · exact ho
              · subst ho
                exact absurd (hg.inj id fJ _ _ b' hb q2 rfl gE) bS
          · rcases ho with ho | ho
            · exact hg.wf b' o ho
            · subst ho; exact bR
          · refine Rel.list (uA (R := R.all b) (fun o => Or.inr rfl) hc.2 hc.1.2 (Nat.le_of_ble_eq_true hc.1.1.2) len (k2.mono e) k3 (Nat.eq_of_beq_eq_true h1.1) (fun j v hj => ?_) h1.2) ?_ dA trivial
            · simp only [World.cell?, k1]
              simpa using hj
            · rw [List.length_map]
              have : ∀ (n : Nat) (l : List AV), (fq agg sz n l).length = n := by
                intro n
                induction n with
                | zero => intro l; rfl
                | succ n ih => intro l; simp [fq, ih]
              rw [this]
          · rcases ho with ho | ho
            · exact .inl ho
            · subst ho; exact .inr yW
        · cases h
      · cases h
    · cases h
  · rename_i cs
    cases h2 : jZ wk cs G with
    | mk c' q =>
    obtain ⟨di, G2⟩ := q
    rw [h2] at h
    injection h with h; injection h with h1 h; injection h with h3 h4
    subst h1 h3 h4
    cases hr with
    | agg hr jn =>
    obtain ⟨R', r1, r2, r3, r4, r5⟩ := oM hg hr h2
    exact ⟨R', r1, .agg r2 jn, r3, r4, r5⟩
  · -- an object's cells never change again
    rename_i id
    split at h
    · rename_i cs el aR
      injection h with h; injection h with h1 h; injection h with h2 h3
      subst h2 h3
      cases hr with
      | @ptr _ _ b aO =>
      obtain ⟨vs, b1, b2, b3, b4⟩ := hg.obj id _ _ aR aO
      have r2 := oJ R w b
      have r1 := hg.freeze aO rfl (show eH (R.all b) w .dead (.bh b) from a7 b1)
      refine ⟨R.all b, r1, Rel.ep (du.make (b2.mono r2) b3 (fun j v hv => ?_) (fun j _ => .inr rfl)), r2, rfl, fun b' o hi => ?_⟩
      · rw [gF b1, Nat.zero_add]
        exact hv
      · rcases hi with hi | rfl
        · exact .inl hi
        · exact .inr ⟨id, _, aO, rfl⟩
    · cases h
  · cases h
theorem sn {cut wk : Bool} : ∀ {ts : List TypeId} {rs F3 : List AV} {G G' : List GO} {cs : List Value} {R : af}, dv E R w G → ay R w rs cs → uy E cut wk ts rs G = (true, F3, G') →
    ∃ R', dv E R' w G' ∧ ay R' w F3 cs ∧ Ext R w R' w ∧ R'.obj = R.obj ∧ ∀ b o, R'.I b o → R.I b o ∨ Live R b
  | [], rs, F3, G, G', cs, R, hg, hr, h => by
    cases rs <;> (simp only [uy] at h; cases h; exact ⟨R, hg, hr, Ext.refl R w, rfl, fun _ _ h => .inl h⟩)
  | _ :: _, [], F3, G, G', cs, R, hg, hr, h => by
    simp only [uy] at h; cases h; exact ⟨R, hg, hr, Ext.refl R w, rfl, fun _ _ h => .inl h⟩
  | t :: ts, r :: rs, F3, G, G', cs, R, hg, hr, h => by
    cases hr with
    | cons h0 hr =>
    unfold uy at h
    split at h
    · rename_i c r' G1 h1
      cases h2 : uy E cut wk ts rs G1 with
      | mk c' q =>
      obtain ⟨Pe, G2⟩ := q
      rw [h2] at h
      simp only [Prod.mk.injEq, Bool.and_eq_true] at h
      obtain ⟨⟨rfl, rfl⟩, rfl, rfl⟩ := h
      obtain ⟨R1, a1, a2, a3, a4, a5⟩ := IB hg h0 h1
      obtain ⟨R2, b1, b2, b3, b4, b5⟩ := sn a1 (hr.mono a3) h2
      refine ⟨R2, b1, .cons (a2.mono b3) b2, a3.trans b3, b4.trans a4, fun b o ho => ?_⟩
      rcases b5 b o ho with ho | ho
      · exact a5 b o ho
      · obtain ⟨id, ro, q1, q2⟩ := ho
        rw [a4] at q1
        exact .inr ⟨id, ro, q1, q2⟩
    · cases h2 : uy E cut wk ts rs G with
      | mk c' q =>
      obtain ⟨Pe, G2⟩ := q
      rw [h2] at h
      simp only [Prod.mk.injEq] at h
      obtain ⟨rfl, rfl, rfl⟩ := h
      obtain ⟨R2, b1, b2, b3, b4, b5⟩ := sn hg hr h2
      exact ⟨R2, b1, .cons (h0.mono b3) b2, b3, b4, b5⟩
theorem cq.Wd {g : FuncId} {args : List AV} {G : List GO} {X : Type} {cut wk : Bool} {ts : List TypeId} {K : AV → List GO → Option X} {x : X} (h : cq E g args G (fun r G' => LH E cut wk ts K r G' = some x)) : cq E g args G (fun r G' => K r G' = some x) :=
  ⟨h.1, fun R w cs hg hl => (h.2 R w cs hg hl).mono fun e w' he => by
    cases e with
    | panicked c => exact he.elim
    | outgrown => exact he.elim
    | returned c =>
      obtain ⟨r, G', R1, hq, cZ, LF, st⟩ := he
      have fin : ∀ (r' : AV) (G2 : List GO) (R2 : af), K r' G2 = some x → dv E R2 w' G2 → Rel R2 w' r' c → Ext R1 w' R2 w' → R2.obj = R1.obj → (∀ b o, R2.I b o → R1.I b o ∨ Live R1 b) → CK E R w (fun r G' => K r G' = some x) (.returned c) w' := by
        intro r' G2 R2 k1 k2 k3 k4 k5 k6
        have live : ∀ b, Live R2 b → Live R1 b := fun b ⟨id, ro, q1, q2⟩ => ⟨id, ro, by rw [← k5]; exact q1, q2⟩
        refine ⟨r', G2, R2, k1, k3, k2, ⟨st.ext.trans k4, st.os, st.tape, st.output, st.size, st.bL, fun b hb ho => ?_, fun b o hi hb hn => ?_⟩⟩
        · rcases ho with ho | ⟨k, cs, hk, rfl⟩
          · exact st.own b hb (.inl (live b ho))
          · simp [fR, cF] at hk
        · rcases k6 b o hi with hi | hi
          · exact st.im b o hi hb hn
          · exact absurd (st.own b hb (.inl hi)) hn
      unfold LH at hq
      split at hq
      · rename_i rs
        cases cZ with
        | bC cZ =>
        cases h2 : uy E cut wk ts rs G' with
        | mk c' q =>
        obtain ⟨Pe, G2⟩ := q
        rw [h2] at hq
        cases c' with
        | false => cases hq
        | true =>
          obtain ⟨R2, b1, b2, b3, b4, b5⟩ := sn LF cZ h2
          exact fin (.bC Pe) G2 R2 hq b1 (.bC b2) b3 b4 b5
      · split at hq
        · rename_i c' r' G2 h2
          cases c' with
          | false => cases hq
          | true =>
            obtain ⟨R2, b1, b2, b3, b4, b5⟩ := sn LF (.cons cZ .nil) h2
            cases b2 with
            | cons b2 _ => exact fin r' G2 R2 hq b1 b2 b3 b4 b5
        · cases hq⟩
end
end Go.Am
namespace Go.Am
open Go
inductive RP
  | Kl (p : aB)
  | map (pe : aB)
  | ep (ps : aF)
def RP.T : RP → Type
  | .Kl p => p.T
  | .map pe => List pe.T
  | .ep ps => ps.T
def RP.enc (n : Nat) : (p : RP) → p.T → AV
  | .Kl p, x => p.enc x
  | .map _, _ => .map n
  | .ep ps, x => .ep (ps.enc x)
def RP.BU : (p : RP) → p.T → List GO
  | .Kl _, _ => []
  | .map pe, (x : List pe.T) => [.map (ax (x.map pe.enc))]
  | .ep _, _ => []
def RP.no : RP → Nat
  | .map _ => 1
  | _ => 0
def qq : List RP → Type
  | [] => Unit
  | [p] => p.T
  | p :: q :: l => p.T × qq (q :: l)
def me : (n : Nat) → (l : List RP) → qq l → List AV
  | _, [], _ => []
  | n, [p], x => [p.enc n x]
  | n, p :: q :: l, x => p.enc n x.1 :: me (n + p.no) (q :: l) x.2
def fm : (l : List RP) → qq l → List GO
  | [], _ => []
  | [p], x => p.BU x
  | p :: q :: l, x => p.BU x.1 ++ fm (q :: l) x.2
structure RF where
  bC : Bool
  l : List RP
def RF.val (f : RF) (n : Nat) (x : qq f.l) : AV := bif f.bC then .bC (me n f.l x) else cX (me n f.l x)
def RP.is : RP → AV → Bool
  | .Kl p, v => match p with
    | .qB u => df v u
    | _ => true
  | .map _, v => match v with
    | .map _ => true
    | _ => false
  | .ep _, v => match v with
    | .ep _ => true
    | _ => false
def F4 : List RP → List AV → Bool
  | [], [] => true
  | p :: l, v :: vs => p.is v && F4 l vs
  | _, _ => false
def RF.args (f : RF) (r : AV) : List AV := bif f.bC then r.KC else [r]
def RF.wG (f : RF) : AV → Bool
  | .bC _ => f.bC
  | _ => !f.bC
def xZ (G : List GO) (used : List Nat) (pe : aB) (v : AV) : Option (List pe.T) := match v with
  | .map id => match nth G id with
    | some (.map es) => bif HM used id then none else (bif allFit pe.fits (bp es) then some ((bp es).map pe.bf) else none)
    | _ => none
  | _ => none
def CX (ps : aF) (v : AV) : Option ps.T := match v with
  | .ep cs => ps.dec cs
  | _ => none
def RP.dec (G : List GO) (used : List Nat) : (p : RP) → AV → Option p.T
  | .Kl p, v => p.dec v
  | .map pe, v => xZ G used pe v
  | .ep ps, v => CX ps v
def qt (used : List Nat) : AV → List Nat
  | .map id => id :: used
  | _ => used
def qu (G : List GO) : (used : List Nat) → (l : List RP) → List AV → Option (qq l)
  | _, [], vs => match vs with
    | [] => some ()
    | _ => none
  | u, [p], vs => match vs with
    | [v] => p.dec G u v
    | _ => none
  | u, p :: q :: l, vs => match vs with
    | v :: vs => (p.dec G u v).bind fun x => (qu G (qt u v) (q :: l) vs).bind fun y => some (x, y)
    | [] => none
def RF.dec (f : RF) (G : List GO) (r : AV) : Option (qq f.l) := bif f.wG r then qu G [] f.l (f.args r) else none
def RP.under : RP → Bool
  | .Kl p => p.under 0
  | .map pe => pe.under 0
  | .ep ps => ps.under 0
def RF.under (f : RF) : Bool := f.l.all RP.under && (f.bC || Nat.beq f.l.length 1)
def XT : List RF → Type
  | [] => Empty
  | [f] => qq f.l
  | f :: g :: l => qq f.l ⊕ XT (g :: l)
def F5 (G : List GO) (r : AV) : (l : List RF) → Option (XT l)
  | [] => none
  | [f] => f.dec G r
  | f :: g :: l => bif f.wG r && F4 f.l (f.args r) then (f.dec G r).bind fun x => some (.inl x) else (F5 G r (g :: l)).bind fun x => some (.inr x)
def Om {α : Type} (G : List GO) (K : AV → List GO → α) : (l : List RF) → XT l → α
  | [], o => Empty.rec (fun _ => α) o
  | [f], o => K (f.val G.length o) (G ++ fm f.l o)
  | f :: g :: l, o => Sum.elim (fun v => K (f.val G.length v) (G ++ fm f.l v)) (fun o => Om G K (g :: l) o) o
theorem zW {α : Type} {G : List GO} {K : AV → List GO → α} {r : AV} {G' : List GO} : ∀ (l : List RF) (o : XT l), Om G (fun r0 G0 => r = r0 ∧ G' = G0) l o → K r G' = Om G K l o
  | [], o, _ => nomatch o
  | [f], o, h => by
    have h : r = f.val G.length o ∧ G' = G ++ fm f.l o := h
    rw [h.1, h.2]; rfl
  | f :: g :: l, .inl v, h => by
    have h : r = f.val G.length v ∧ G' = G ++ fm f.l v := h
    rw [h.1, h.2]; rfl
  | f :: g :: l, .inr o, h => zW (g :: l) o h
def uB (E : Env) (g : FuncId) (args : List AV) (outs : List RF) (Q : XT outs → Prop) : Prop :=
  ∀ G, cq E g args G (fun r G' => ∃ y, Q y ∧ Om G (fun r0 G0 => r = r0 ∧ G' = G0) outs y)
section
variable {E : Env} {R R1 R2 : af} {w : World}
theorem cJ.Km (m : Mv R R2 0) : ∀ {es : List (AV × AV)} {l : List AV} {av : List MapEntry}, hX (bp es) l → aA 0 l = true → cJ R w es av → cJ R2 w (ax l) av
  | [], [], [], _, _, _ => trivial
  | [], [], _ :: _, _, _, h => h.elim
  | [], _ :: _, _, h, _, _ => h.elim
  | (_, _) :: _, [], _, h, _, _ => h.elim
  | (_, _) :: _, _ :: _, [], _, _, h => h.elim
  | (k, v) :: es, a :: l, en :: av, hd, hu, h => by
    obtain ⟨d1, d2⟩ := hd
    simp only [aA, Bool.and_eq_true] at hu
    have hc := d1.cells rfl
    have hl : [k, v].length = a.cells.length := hc.length
    cases a with
    | agg cs =>
      match cs, hc, hl with
      | [k', v'], hc, _ =>
        have LA : aA 0 [k', v'] = true := hu.1
        simp only [aA, Bool.and_true, Bool.and_eq_true] at LA
        exact ⟨(hc.1 _ _ _ h.1).move m LA.1, (hc.2.1 _ _ _ h.2.1).move m LA.2, cJ.Km m d2 hu.2 h.2.2⟩
      | [], _, hl => simp [AV.cells] at hl
      | [_], _, hl => simp [AV.cells] at hl
      | _ :: _ :: _ :: _, _, hl => simp [AV.cells] at hl
    | _ => simp [AV.cells] at hl
theorem aB.uC {p : aB} (h : p.under 0 = true) : ∀ l : List p.T, aA 0 (l.map p.enc) = true
  | [] => rfl
  | x :: l => by
    show ((p.enc x).under 0 && aA 0 (l.map p.enc)) = true
    rw [p.cM x h, aB.uC h l]
    rfl
def uD (R : af) (n : Nat) (bs : List Nat) : Prop := ∀ k b, nth bs k = some b → nth R.obj (n + k) = some (.bh b)
def CY (R : af) (w : World) (gs : List GO) (bs : List Nat) : Prop := ∀ k go b, nth gs k = some go → nth bs k = some b → eH R w go (.bh b)
theorem RP.Kn (p : RP) (x : p.T) : (p.BU x).length = p.no := by cases p <;> rfl
theorem F6 {ps : aF} {v : AV} {y : ps.T} (h : CX ps v = some y) : ∃ cs, v = .ep cs ∧ ps.dec cs = some y := by
  unfold CX at h
  split at h
  · exact ⟨_, rfl, h⟩
  · cases h
theorem Ed {G : List GO} {used : List Nat} {pe : aB} {v : AV} {y : List pe.T} (h : xZ G used pe v = some y) : ∃ id es, v = .map id ∧ nth G id = some (.map es) ∧ id ∉ used ∧ hX (bp es) (y.map pe.enc) := by
  unfold xZ at h
  split at h
  · rename_i id
    split at h
    · rename_i es yR
      cases hu : HM used id with
      | true => rw [hu] at h; cases h
      | false =>
        rw [hu, cond_false] at h
        cases hf : allFit pe.fits (bp es) with
        | false => rw [hf] at h; cases h
        | true =>
          rw [hf, cond_true] at h
          have hy := Option.some.inj h
          refine ⟨id, es, rfl, yR, fun hm => ?_, ?_⟩
          · rw [xQ.2 hm] at hu; cases hu
          · rw [← hy]; exact hX.of (fun v hv => pe.b9 hv) hf
    · cases h
  · cases h
theorem BV {used : List Nat} {v : AV} {id : Nat} (h : id ∈ used) : id ∈ qt used v := by
  unfold qt
  split
  · exact List.mem_cons_of_mem _ h
  · exact h
def yd (R1 : af) (w : World) (used : List Nat) (v : AV) (c : Value) (p : RP) (y : p.T) : Prop :=
  ∃ bs : List Nat, bs.length = p.no ∧ (∀ b ∈ bs, ∃ id, id ∉ used ∧ id ∈ qt used v ∧ nth R1.obj id = some (.bh b)) ∧
      ∀ (R2 : af) (n : Nat), (∀ b o, R1.I b o → R2.I b o) → uD R2 n bs → Rel R2 w (p.enc n y) c ∧ CY R2 w (p.BU y) bs
theorem SR {R1 R2 : af} (hI : ∀ b o, R1.I b o → R2.I b o) : Mv R1 R2 0 := ⟨hI, fun _ _ h => absurd h (Nat.not_lt_zero _)⟩
theorem RP.LI {used : List Nat} {p : aB} {v : AV} {c : Value} {y : p.T} (hp : p.under 0 = true) (hv : Rel R1 w v c) (hd : p.dec v = some y) : yd R1 w used v c (.Kl p) y :=
  ⟨[], rfl, (fun b hb => by cases hb), fun R2 n hI _ => ⟨Rel.move (SR hI) (p.cM y hp) ((p.ny hd).eX _ _ _ hv), fun k go b h => by cases k <;> cases h⟩⟩
theorem RP.PC {used : List Nat} {ps : aF} {v : AV} {c : Value} {y : ps.T} (hp : ps.under 0 = true) (hv : Rel R1 w v c) (hd : CX ps v = some y) : yd R1 w used v c (.ep ps) y := by
  obtain ⟨cs, rfl, hd⟩ := F6 hd
  cases hv with
  | ep hc =>
  exact ⟨[], rfl, (fun b hb => by cases hb), fun R2 n hI _ => ⟨.ep (du.move (SR hI) ((ps.ny hd).1.EZ hc) (ps.cM y hp)), fun k go b h => by cases k <;> cases h⟩⟩
theorem RP.LJ {G1 : List GO} (hg : dv E R1 w G1) {used : List Nat} {pe : aB} {v : AV} {c : Value} {y : List pe.T} (hp : pe.under 0 = true) (hv : Rel R1 w v c) (hd : xZ G1 used pe v = some y) : yd R1 w used v c (.map pe) y := by
  obtain ⟨id, es, rfl, yR, hu, We⟩ := Ed hd
  cases hv with
  | map hb =>
  rename_i b
  refine ⟨[b], rfl, fun b' gE => ?_, fun R2 n hI ld => ⟨.map (by have := ld 0 b rfl; simpa using this), fun k go b' h1 h2 => ?_⟩⟩
  · rw [List.mem_singleton] at gE
    subst gE
    exact ⟨id, hu, List.mem_cons_self, hb⟩
  · cases k with
    | succ k => cases h2
    | zero =>
      cases h1; cases h2
      obtain ⟨av, clock, e1, e2, e3⟩ := hg.obj id _ _ yR hb
      exact ⟨av, clock, e1, cJ.Km (SR hI) We (aB.uC hp y) e2, e3⟩
theorem RP.ok {G1 : List GO} (hg : dv E R1 w G1) {used : List Nat} {p : RP} {v : AV} {c : Value} {y : p.T} (hp : p.under = true) (hv : Rel R1 w v c) (hd : p.dec G1 used v = some y) : yd R1 w used v c p y := by
  cases p with
  | Kl p => exact RP.LI hp hv hd
  | ep ps => exact RP.PC hp hv hd
  | map pe => exact RP.LJ hg hp hv hd
theorem eQ {α : Type} {l r : List α} {i : Nat} (h : i < l.length) : nth (l ++ r) i = nth l i := by
  rw [aD, aD, List.getElem?_append_left h]
theorem dS {α : Type} {l r : List α} (i : Nat) : nth (l ++ r) (l.length + i) = nth r i := by
  rw [aD, aD, List.getElem?_append_right (Nat.le_add_right _ _), Nat.add_sub_cancel_left]
theorem mL {α : Type} {l : List α} {i : Nat} {x : α} (h : nth l i = some x) : i < l.length := by
  rw [aD] at h
  exact (List.getElem?_eq_some_iff.1 h).1
theorem Uw.ok {G1 : List GO} (hg : dv E R1 w G1) : ∀ {l : List RP} {used : List Nat} {vs : List AV} {cs : List Value} {y : qq l}, l.all RP.under = true → ay R1 w vs cs → qu G1 used l vs = some y →
    ∃ bs : List Nat, bs.length = (fm l y).length ∧ bs.Nodup ∧ (∀ b ∈ bs, ∃ id, id ∉ used ∧ nth R1.obj id = some (.bh b)) ∧
      ∀ (R2 : af) (n : Nat), (∀ b o, R1.I b o → R2.I b o) → uD R2 n bs → ay R2 w (me n l y) cs ∧ CY R2 w (fm l y) bs
  | [], used, vs, cs, y, _, hv, hd => by
    cases vs with
    | cons _ _ => cases hd
    | nil =>
    cases hv
    exact ⟨[], rfl, List.nodup_nil, (fun b hb => by cases hb), fun R2 n _ _ => ⟨.nil, fun k go b h => by simp [fm, nth] at h⟩⟩
  | [p], used, vs, cs, y, hu, hv, hd => by
    match vs, hv, hd with
    | [], _, hd => cases hd
    | _ :: _ :: _, _, hd => cases hd
    | [v], .cons hv .nil, hd =>
    have hu : p.under = true := by simpa using hu
    obtain ⟨bs, h1, h2, h4⟩ := RP.ok hg hu hv hd
    refine ⟨bs, h1.trans (p.Kn y).symm, ?_, fun b hb => let ⟨id, q1, _, q2⟩ := h2 b hb; ⟨id, q1, q2⟩, fun R2 n hI ld => ?_⟩
    · have : bs.length ≤ 1 := by rw [h1]; cases p <;> simp [RP.no]
      match bs, this with
      | [], _ => exact List.nodup_nil
      | [b], _ => simp
      | _ :: _ :: _, h => simp at h
    · obtain ⟨k1, k2⟩ := h4 R2 n hI ld
      exact ⟨.cons k1 .nil, k2⟩
  | p :: q :: l, used, vs, cs, y, hu, hv, hd => by
    match vs, hv, hd with
    | [], _, hd => cases hd
    | v :: vs, .cons (c := c) (cs := cs) hv Sz, hd =>
    simp only [List.all_cons, Bool.and_eq_true] at hu
    obtain ⟨Wf, SS⟩ := hu
    have SS : (q :: l).all RP.under = true := by simpa using SS
    have hd : ((p.dec G1 used v).bind fun x => (qu G1 (qt used v) (q :: l) vs).bind fun y => some (x, y)) = some y := hd
    cases hx : p.dec G1 used v with
    | none => rw [hx] at hd; cases hd
    | some x =>
    rw [hx] at hd
    simp only [Option.bind_some] at hd
    cases hz : qu G1 (qt used v) (q :: l) vs with
    | none => rw [hz] at hd; cases hd
    | some z =>
    rw [hz] at hd
    simp only [Option.bind_some] at hd
    cases hd
    obtain ⟨bs, h1, h2, h4⟩ := RP.ok hg Wf hv hx
    obtain ⟨Ux, k1, k0, k2, k4⟩ := Uw.ok hg SS Sz hz
    have HH : bs.length = (p.BU x).length := h1.trans (p.Kn x).symm
    refine ⟨bs ++ Ux, ?_, ?_, fun b hb => ?_, fun R2 n hI ld => ?_⟩
    · show _ = (p.BU x ++ fm (q :: l) z).length
      rw [List.length_append, List.length_append, HH, k1]
    · have AN : bs.Nodup := by
        have : bs.length ≤ 1 := by rw [h1]; cases p <;> simp [RP.no]
        match bs, this with
        | [], _ => exact List.nodup_nil
        | [b], _ => simp
        | _ :: _ :: _, h => simp at h
      rw [List.nodup_append]
      refine ⟨AN, k0, fun a ha b hb e => ?_⟩
      subst e
      obtain ⟨id, _, q2, q3⟩ := h2 a ha
      obtain ⟨fJ, r1, r2⟩ := k2 a hb
      have : id = fJ := hg.inj id fJ _ _ a q3 r2 rfl rfl
      subst this
      exact r1 q2
    · rcases List.mem_append.1 hb with hb | hb
      · obtain ⟨id, q1, _, q2⟩ := h2 b hb
        exact ⟨id, q1, q2⟩
      · obtain ⟨id, q1, q2⟩ := k2 b hb
        exact ⟨id, fun hm => q1 (BV hm), q2⟩
    · have Wg : uD R2 n bs := fun k b hk => ld k b (by rw [eQ (mL hk)]; exact hk)
      have Wh : uD R2 (n + p.no) Ux := fun k b hk => by
        have := ld (bs.length + k) b (by rw [dS]; exact hk)
        rw [h1] at this
        rw [Nat.add_assoc]; exact this
      obtain ⟨a1, a2⟩ := h4 R2 n hI Wg
      obtain ⟨b1, b2⟩ := k4 R2 (n + p.no) hI Wh
      refine ⟨.cons a1 b1, fun k go b eI hb => ?_⟩
      change nth (p.BU x ++ fm (q :: l) z) k = some go at eI
      rcases Nat.lt_or_ge k bs.length with hk | hk
      · rw [eQ (by rw [← HH]; exact hk)] at eI
        rw [eQ hk] at hb
        exact a2 k go b eI hb
      · obtain ⟨j, rfl⟩ : ∃ j, k = bs.length + j := ⟨k - bs.length, by omega⟩
        rw [dS] at hb
        rw [HH, dS] at eI
        exact b2 j go b eI hb
theorem uE : ∀ (l : List RP) (n : Nat) (y : qq l), (me n l y).length = l.length
  | [], _, _ => rfl
  | [_], _, _ => rfl
  | p :: q :: l, n, y => by
    show (me (n + p.no) (q :: l) y.2).length + 1 = (q :: l).length + 1
    rw [uE (q :: l)]
theorem uB.Wi {R0 : af} {w0 : World} {f : RF} {G G1 : List GO} {r : AV} {c : Value} {y : qq f.l} (hf : f.under = true) (hG : dv E R0 w0 G) (st : Step ⟨R0.I, []⟩ w0 (fun _ => 0) fR R1 w (fun _ => 0) fR) (hg : dv E R1 w G1) (cZ : Rel R1 w r c) (hd : f.dec G1 r = some y) :
    ∃ R2, Rel R2 w (f.val G.length y) c ∧ dv E R2 w (G ++ fm f.l y) ∧ Step R0 w0 (fun _ => 0) fR R2 w (fun _ => 0) fR := by
  unfold RF.under at hf
  rw [Bool.and_eq_true] at hf
  unfold RF.dec at hd
  obtain ⟨ht, hd⟩ : f.wG r = true ∧ qu G1 [] f.l (f.args r) = some y := by
    cases ht : f.wG r with
    | true => rw [ht] at hd; exact ⟨rfl, hd⟩
    | false => rw [ht] at hd; cases hd
  obtain ⟨cs, mS, PD⟩ : ∃ cs, ay R1 w (f.args r) cs ∧ ∀ R2 (x : qq f.l) n, ay R2 w (me n f.l x) cs → Rel R2 w (f.val n x) c := by
    unfold RF.args RF.val
    cases SU : f.bC with
    | true =>
      have : ∃ vs, r = .bC vs := by
        cases r <;> first | exact ⟨_, rfl⟩ | (simp [RF.wG, SU] at ht)
      obtain ⟨vs, rfl⟩ := this
      cases cZ with
      | bC h => exact ⟨_, h, fun R2 x n h => .bC h⟩
    | false =>
      refine ⟨[c], .cons cZ .nil, fun R2 x n h => ?_⟩
      simp only [cond_false]
      have hlen := uE f.l n x
      revert h hlen
      generalize me n f.l x = l
      intro h hlen
      cases h with
      | cons h _ => exact h
  obtain ⟨bs, h1, h2, h3, h4⟩ := Uw.ok hg hf.1 mS hd
  have iM : ∀ b, ¬ Own (⟨R0.I, []⟩ : af) (fun _ => 0) fR b := fun b ho => by
    obtain ⟨id, ro, q1, _⟩ := dQ ho
    simp [nth] at q1
  have kD : ∀ b ∈ bs, w0.heap.size ≤ b := fun b hb => by
    obtain ⟨id, _, aR⟩ := h3 b hb
    rcases Nat.lt_or_ge b w0.heap.size with bR | vN
    · exact absurd (st.own b bR (.inl ⟨id, _, aR, rfl⟩)) (iM b)
    · exact vN
  let R2 : af := ⟨R1.I, R0.obj ++ bs.map RO.bh⟩
  have e : Ext R0 w0 R2 w := ⟨st.ext.I, st.ext.cell, fun id ro h => ⟨ro, by rw [eQ (mL h)]; exact h, bF.refl ro⟩, st.ext.lp⟩
  have bL : ∀ b, b < w0.heap.size → w.heap[b]? = w0.heap[b]? := fun b hb => st.bL b hb (iM b)
  have im : ∀ b o, b < w0.heap.size → R1.I b o → R0.I b o := fun b o hb hi => st.im b o hi hb (iM b)
  have SW : ∀ {k ro}, nth (bs.map RO.bh) k = some ro → ∃ b, nth bs k = some b ∧ ro = .bh b := fun {k ro} h => by
    rw [aD, List.getElem?_map] at h
    cases hb : bs[k]? with
    | none => rw [hb] at h; cases h
    | some b => rw [hb] at h; exact ⟨b, by rw [aD]; exact hb, (Option.some.inj h).symm⟩
  have ld : uD R2 R0.obj.length bs := fun k b hk => by
    show nth (R0.obj ++ bs.map RO.bh) (R0.obj.length + k) = _
    rw [dS, aD, List.getElem?_map]
    rw [aD] at hk
    rw [hk]; rfl
  obtain ⟨k1, k2⟩ := h4 R2 R0.obj.length (fun _ _ h => h) ld
  rw [hG.len] at k1
  have hold : ∀ id ro, nth R2.obj id = some ro → nth R0.obj id = some ro ∨ ∃ k b, id = R0.obj.length + k ∧ nth bs k = some b ∧ ro = .bh b := fun id ro h => by
    rcases Nat.lt_or_ge id R0.obj.length with bR | vN
    · exact .inl (by rw [← eQ (r := bs.map RO.bh) bR]; exact h)
    · obtain ⟨k, rfl⟩ : ∃ k, id = R0.obj.length + k := ⟨id - R0.obj.length, by omega⟩
      have h : nth (R0.obj ++ bs.map RO.bh) (R0.obj.length + k) = some ro := h
      rw [dS] at h
      obtain ⟨b, q1, q2⟩ := SW h
      exact .inr ⟨k, b, rfl, q1, q2⟩
  have Ko : ∀ id ro b, nth R0.obj id = some ro → ro.has b → b < w0.heap.size := fun id ro b h hb => by
    have hl := mL h
    rw [hG.len] at hl
    have eI : nth G id = some G[id] := by rw [aD]; exact List.getElem?_eq_getElem hl
    exact (hG.obj id _ _ eI h).lt hb
  have LL : ∀ {k b}, nth bs k = some b → b ∈ bs := fun {k b} h => by
    rw [aD] at h
    exact List.mem_of_getElem? h
  refine ⟨R2, PD R2 y _ k1, ⟨?_, fun id go ro q1 q2 => ?_, fun i j ri rj b q1 q2 b1 b2 => ?_, hg.wf, fun g cs rO => (hG.cw g cs rO).mono e, hg.lo⟩, ⟨e, st.os, st.tape, st.output, st.size, fun b hb _ => bL b hb, fun b hb ho => ?_, fun b o hi hb _ => im b o hb hi⟩⟩
  · show (R0.obj ++ bs.map RO.bh).length = _
    rw [List.length_append, List.length_map, List.length_append, hG.len, h1]
  · rcases hold id ro q2 with q2 | ⟨k, b, rfl, q3, rfl⟩
    · have hl := mL q2
      rw [hG.len] at hl
      rw [eQ hl] at q1
      refine (hG.obj id go ro q1 q2).mono e (fun b hb => bL b ?_) (fun b o hb hi => im b o ?_ hi)
      · exact (hG.obj id go ro q1 q2).lt hb
      · exact (hG.obj id go ro q1 q2).lt hb
    · rw [hG.len, dS] at q1
      exact k2 k go b q1 q3
  · rcases hold i ri q1 with q1 | ⟨k, a, rfl, q3, rfl⟩
    · rcases hold j rj q2 with q2 | ⟨k', a', rfl, q4, rfl⟩
      · exact hG.inj i j ri rj b q1 q2 b1 b2
      · have : b = a' := b2
        subst this
        have := kD _ (LL q4)
        have := Ko i ri b q1 b1
        omega
    · have HN : b = a := b1
      subst HN
      rcases hold j rj q2 with q2 | ⟨k', a', rfl, q4, rfl⟩
      · have := kD _ (LL q3)
        have := Ko j rj b q2 b2
        omega
      · have : b = a' := b2
        subst this
        have l1 := mL q3
        have l2 := mL q4
        rw [aD] at q3 q4
        have := (List.getElem?_inj l1 h2).1 (q3.trans q4.symm)
        omega
  · rcases dQ ho with ⟨id, ro, q1, q2⟩
    rcases hold id ro q1 with q1 | ⟨k, a, rfl, q3, rfl⟩
    · exact .inl ⟨id, ro, q1, q2⟩
    · have : b = a := q2
      subst this
      have := kD _ (LL q3)
      omega
theorem CZ {G1 : List GO} {r : AV} : ∀ {outs : List RF} {y : XT outs}, F5 G1 r outs = some y → (∀ f ∈ outs, f.under = true) →
    ∃ (f : RF) (z : qq f.l), f.under = true ∧ f.dec G1 r = some z ∧ ∀ {α : Type} (G : List GO) (K : AV → List GO → α), Om G K outs y = K (f.val G.length z) (G ++ fm f.l z)
  | [], _, h, _ => by cases h
  | [f], y, h, hu => ⟨f, y, hu f (by simp), h, fun _ _ => rfl⟩
  | f :: g :: l, y, h, hu => by
    simp only [F5] at h
    cases hb : (f.wG r && F4 f.l (f.args r)) with
    | true =>
      rw [hb] at h
      simp only [cond_true] at h
      cases hx : f.dec G1 r with
      | none => rw [hx] at h; cases h
      | some x =>
        rw [hx] at h
        cases h
        exact ⟨f, x, hu f (by simp), hx, fun _ _ => rfl⟩
    | false =>
      rw [hb] at h
      simp only [cond_false] at h
      cases hx : F5 G1 r (g :: l) with
      | none => rw [hx] at h; cases h
      | some x =>
        rw [hx] at h
        cases h
        obtain ⟨f', z, k0, k1, k2⟩ := CZ hx (fun f hf => hu f (List.mem_cons_of_mem _ hf))
        exact ⟨f', z, k0, k1, fun G K => k2 G K⟩
theorem uB.of {g : FuncId} {args : List AV} {outs : List RF} {Q : XT outs → Prop} (hc : aA 0 args = true) (hp : ∀ f ∈ outs, f.under = true)
    (h : cq E g args [] (fun r G' => ∃ y, F5 G' r outs = some y ∧ Q y)) : uB E g args outs Q := fun G => by
  refine ⟨h.1, fun R w cs hg hl => ?_⟩
  let R0 : af := ⟨R.I, []⟩
  have m0 : Mv R R0 0 := ⟨fun _ _ h => h, fun _ _ h => absurd h (Nat.not_lt_zero _)⟩
  have Od : dv E R0 w [] := ⟨rfl, fun id go ro h1 _ => by simp [nth] at h1, fun i j ri rj b h1 => by simp [R0, nth] at h1, hg.wf, fun g cs rO => (hg.cw g cs rO).move m0 (bY _ (E.wT g cs rO)), hg.lo⟩
  have sa : ay R0 w args cs := hl.move m0 hc
  refine (h.2 R0 w cs Od sa).mono fun e w' he => ?_
  cases e with
  | panicked c => exact he.elim
  | outgrown => exact he.elim
  | returned c =>
    obtain ⟨r, G', R1, ⟨y, hy, hQ⟩, cZ, LF, st⟩ := he
    obtain ⟨f, z, hf, hz, eI⟩ := CZ hy hp
    obtain ⟨R2, k1, k2, k3⟩ := uB.Wi hf hg st LF cZ hz
    refine ⟨_, _, R2, ⟨y, hQ, ?_⟩, k1, k2, k3⟩
    rw [eI]
    exact ⟨rfl, rfl⟩
end
end Go.Am
namespace Go.Am
open Go
def pc (s : St) (t : Tmp) (sz : Nat) (e : TypeId) : Option (Bool × St) := match lk s.ae t with
  | .v (.list (.own id) aQ es) => match nth s.G id with
    | some (.tok f nV e2) => if Nat.beq aQ sz && (Nat.beq nV sz && Nat.beq e2 e) then
        some (decide (f = es.length), ⟨.put t (.v (.list .fY sz es)) :: s.ae, s.boxes, aq s.G id .dead, s.marks, s.ro, s.n⟩) else none
    | _ => none
  | _ => none
def rv (s : St) (t : Tmp) (sz : Nat) (e : TypeId) : Option St := match lk s.ae t with
  | .v (.list _ aQ es) => if Nat.beq aQ sz then some ⟨.put t (.v (.list (.own s.G.length) sz es)) :: s.ae, s.boxes, s.G ++ [.tok es.length sz e], s.marks, s.ro, s.n⟩ else none
  | _ => none
section
variable {E : Env} {R : af} {w : World} {β : Nat → Nat} {s : St} {a : Act}
def nM (R : af) (w : World) (β : Nat → Nat) (bx : bU) (c : Value) (n sz : Nat) (e : TypeId) (ro : RO) : Prop :=
  eH R w (.tok n sz e) ro ∧ (∀ b, ro.has b → ¬ Live R b ∧ ∀ k cs, cF bx k = some cs → β k ≠ b) ∧
    ((c = .slice none 0 0 ∧ ro = .aK) ∨ ∃ b o len cap, c = .slice (some ⟨b, o, none⟩) len cap ∧ len = n ∧ ER b o len cap ro)
theorem nM.mono {R R' : af} {bx Cn : bU} {c : Value} {n sz : Nat} {e : TypeId} {ro : RO} (h : nM R w β bx c n sz e ro) (hI : R'.I = R.I) (hl : ∀ b, Live R' b → Live R b) (hb : ∀ k cs, cF Cn k = some cs → ∃ di, cF bx k = some di) : nM R' w β Cn c n sz e ro := by
  obtain ⟨h1, h2, h3⟩ := h
  refine ⟨?_, fun b EX => ⟨fun q => (h2 b EX).1 (hl b q), fun k cs hk => let ⟨di, eD⟩ := hb k cs hk; (h2 b EX).2 k di eD⟩, h3⟩
  cases ro with
  | tok f g c k =>
    obtain ⟨q1, cur, q2, q3, q4, q5, q6⟩ := h1
    exact ⟨q1, cur, q2, q3, q4, q5, fun o ho => by rw [hI]; exact q6 o ho⟩
  | aK => exact h1
  | none => exact h1.elim
  | bh _ => exact h1.elim
  | aG _ => exact h1.elim
theorem wH {t : Tmp} {sz : Nat} {e : TypeId} {s' : St} (h : aJ E R w β s a) (hs : pc s t sz e = some (true, s')) :
    ∃ R' c ro es, aJ E R' w β s' a ∧ Step R w β s.boxes R' w β s'.boxes ∧ s'.ro = s.ro ∧ aw s s' ∧ s'.boxes = s.boxes ∧ lk s'.ae t = .v (.list .fY sz es) ∧ a.tmps[t]? = some c ∧ nM R' w β s'.boxes c es.length sz e ro ∧ ∀ b, ro.has b → Live R b := by
  unfold pc at hs
  split at hs
  · rename_i id aQ es ht
    split at hs
    · rename_i f nV e2 aR
      split at hs
      · rename_i bD
        simp only [Bool.and_eq_true] at bD
        have q1 := Nat.eq_of_beq_eq_true bD.1
        have q2 := Nat.eq_of_beq_eq_true bD.2.1
        have q3 := Nat.eq_of_beq_eq_true bD.2.2
        subst q1; subst q2; subst q3
        injection hs with hs; injection hs with hc hs
        have hf := of_decide_eq_true hc
        subst hf
        obtain ⟨c, k1, k2⟩ := h.t t (by rw [ht]; simp)
        rw [ht] at k2
        have k2 : Rel R w (.list (.own id) nV es) c := k2
        obtain ⟨ro, aO⟩ : ∃ ro, nth R.obj id = some ro := by
          have bR := aM aR
          rw [← h.g.len] at bR
          exact ⟨R.obj[id], by rw [aD, List.getElem?_eq_getElem bR]⟩
        have bg := h.g.obj id _ _ aR aO
        let R' : af := ⟨R.I, aq R.obj id .none⟩
        have hle : bF ro .none := by cases ro <;> first | trivial | exact bg.elim
        have ext : Ext R w R' w := ⟨fun _ _ h => h, fun _ _ _ => rfl, fun i r hr => by
          by_cases ei : id = i
          · subst ei
            rw [aO] at hr
            cases hr
            exact ⟨_, aj aO, hle⟩
          · exact ⟨r, by rw [az ei]; exact hr, bF.refl r⟩, dp.refl w⟩
        have hinv : ∀ {i : Nat} {r : RO}, nth R'.obj i = some r → (i = id ∧ r = .none) ∨ (i ≠ id ∧ nth R.obj i = some r) := fun hr => ao aO hr
        have live : ∀ b, Live R' b → Live R b := fun b ⟨i, r, l1, l2⟩ => by
          rcases hinv l1 with ⟨_, rfl⟩ | ⟨_, l1⟩
          · exact l2.elim
          · exact ⟨i, r, l1, l2⟩
        have hex : aw s s' := by subst hs; exact ⟨⟨[_], rfl⟩, ⟨[], rfl⟩, rfl⟩
        have PE : Rel R' w (.list .fY nV es) c := by
          cases k2 with
          | iH _ _ => exact .fO
          | list hr hl dA _ => exact Rel.list (hr.mono ext) hl dA trivial
        have xC : nM R' w β s'.boxes c es.length nV e2 ro := by
          refine ⟨?_, fun b hb => ⟨fun ⟨i, r, l1, l2⟩ => ?_, fun k cs hk he => ?_⟩, ?_⟩
          · cases ro <;> first | exact bg | exact bg.elim
          · rcases hinv l1 with ⟨_, rfl⟩ | ⟨bS, l1⟩
            · exact l2.elim
            · exact bS (h.g.inj i id r ro b l1 aO l2 hb)
          · subst hs
            exact (h.b.box k cs hk).2.2 ⟨id, ro, aO, by rw [he]; exact hb⟩
          · cases k2 with
            | iH h1 h2 =>
              rw [aO] at h1
              cases h1
              refine .inl ⟨rfl, ?_⟩
              cases ro with
              | aK => rfl
              | none => exact bg.elim
              | bh _ => exact bg.elim
              | aG _ => exact bg.elim
              | tok f g c k =>
                obtain ⟨q, _⟩ := bg
                simp only [List.length_nil] at q
                simp only [jJ] at h2
                omega
            | @list _ _ _ b o len cap hr hl dA hk =>
              obtain ⟨r', h1, h2⟩ := hk
              rw [aO] at h1
              cases h1
              exact .inr ⟨b, o, len, cap, rfl, hl, h2⟩
        refine ⟨R', c, ro, es, ?_, ?_, by subst hs; rfl, hex, by subst hs; rfl, by subst hs; exact ar _ _ _, k1, xC, fun b hb => ⟨id, ro, aO, hb⟩⟩
        · subst hs
          refine ⟨⟨by simp [R', h.g.len], fun i gg r g1 g2 => ?_, fun i j ri rj b g1 g2 b1 b2 => ?_, h.g.wf, fun g cs hg => (h.g.cw g cs hg).mono ext, h.g.lo⟩, h.b.bL ext (fun _ _ _ => rfl) (fun _ _ _ _ hi => hi) (fun _ _ _ hl => live _ hl), fun i hi => ?_, h.n, h.d.mono ext⟩
          · rcases hinv g2 with ⟨rfl, rfl⟩ | ⟨bS, g2⟩
            · rw [aj aR] at g1
              cases g1
              trivial
            · rw [az (Ne.symm bS)] at g1
              exact (h.g.obj i gg r g1 g2).mono ext (fun _ _ => rfl) (fun _ _ _ hi => hi)
          · rcases hinv g1 with ⟨_, rfl⟩ | ⟨_, g1⟩
            · exact b1.elim
            · rcases hinv g2 with ⟨_, rfl⟩ | ⟨_, g2⟩
              · exact b2.elim
              · exact h.g.inj i j ri rj b g1 g2 b1 b2
          · by_cases e : t = i
            · subst e
              rw [ar]
              exact ⟨c, k1, PE⟩
            · rw [aC e] at hi ⊢
              obtain ⟨c', l1, l2⟩ := h.t i hi
              exact ⟨c', l1, l2.mono ext⟩
        · subst hs
          refine ⟨ext, rfl, rfl, rfl, Nat.le_refl _, fun _ _ _ => rfl, fun b _ ho => ?_, fun _ _ hi _ _ => hi⟩
          rcases ho with ho | ho
          · exact .inl (live b ho)
          · exact .inr ho
      · cases hs
    · cases hs
  · cases hs
theorem Ee {t : Tmp} {sz : Nat} {e : TypeId} {c : Value} {n : Nat} {ro : RO} {s' : St} (h : aJ E R w β s a) (hs : rv s t sz e = some s') (hc : a.tmps[t]? = some c) (ho : nM R w β s.boxes c n sz e ro) :
    aJ E (R.add ro) w β s' a ∧ s'.boxes = s.boxes ∧ s'.ro = s.ro ∧ aw s s' := by
  unfold rv at hs
  split at hs
  · rename_i k aQ es hl
    split at hs
    · rename_i hz
      have hz := Nat.eq_of_beq_eq_true hz
      subst hz
      cases hs
      obtain ⟨o1, o2, o3⟩ := ho
      obtain ⟨c', k1, k2⟩ := h.t t (by rw [hl]; simp)
      rw [hc] at k1
      cases k1
      rw [hl] at k2
      have k2 : Rel R w (.list k aQ es) c := k2
      have ext : Ext R w (R.add ro) w := ⟨fun _ _ h => h, fun _ _ _ => rfl, fun _ r hr => ⟨r, bc hr, bF.refl r⟩, dp.refl w⟩
      have kD : nth (R.add ro).obj s.G.length = some ro := by rw [← h.g.len]; exact cY _ _
      have cZ : es.length = n ∧ Rel (R.add ro) w (.list (.own s.G.length) aQ es) c := by
        rcases o3 with ⟨rfl, rfl⟩ | ⟨b, o, len, cap, rfl, rfl, hk⟩
        · have hn : n = 0 := o1
          subst hn
          cases k2 <;> exact ⟨rfl, Rel.iH kD trivial⟩
        · cases k2 with
          | jK => exact ⟨rfl, Rel.list .nil rfl (Nat.le_refl _) ⟨_, kD, hk⟩⟩
          | list hr hlen dA _ => exact ⟨hlen.symm, Rel.list (hr.mono ext) hlen dA ⟨_, kD, hk⟩⟩
      obtain ⟨hn, cZ⟩ := cZ
      subst hn
      refine ⟨⟨⟨by simp [af.add, h.g.len], fun i gg r g1 g2 => ?_, fun i j ri rj b g1 g2 b1 b2 => ?_, h.g.wf, fun g cs hg => (h.g.cw g cs hg).mono ext, h.g.lo⟩, h.b.bL ext (fun _ _ _ => rfl) (fun _ _ _ _ hi => hi) (fun k cs hk hl => ?_), fun i hi => ?_, h.n, h.d.mono ext⟩, rfl, rfl, ⟨⟨[_], rfl⟩, ⟨[], rfl⟩, rfl⟩⟩
      · rcases ah g2 with On | ⟨g3, rfl⟩
        · rcases ah g1 with vf | ⟨g4, _⟩
          · exact (h.g.obj i gg r vf On).mono ext (fun _ _ => rfl) (fun _ _ _ hi => hi)
          · have := aM On
            rw [h.g.len] at this
            omega
        · rcases ah g1 with vf | ⟨g4, rfl⟩
          · have := aM vf
            rw [g3, h.g.len] at this
            omega
          · cases r <;> first | exact o1 | exact o1.elim
      · rcases ah g1 with vf | ⟨g3, e1⟩
        · rcases ah g2 with On | ⟨g4, e2⟩
          · exact h.g.inj i j ri rj b vf On b1 b2
          · rw [e2] at b2
            exact absurd ⟨i, ri, vf, b1⟩ (o2 b b2).1
        · rcases ah g2 with On | ⟨g4, e2⟩
          · rw [e1] at b1
            exact absurd ⟨j, rj, On, b2⟩ (o2 b b1).1
          · omega
      · rcases gG hl with hl | hl
        · exact hl
        · exact absurd rfl ((o2 _ hl).2 k cs hk)
      · by_cases e : t = i
        · subst e
          rw [ar]
          exact ⟨c, hc, cZ⟩
        · rw [aC e] at hi ⊢
          obtain ⟨c', l1, l2⟩ := h.t i hi
          exact ⟨c', l1, l2.mono ext⟩
    · cases hs
  · cases hs
theorem wI {R0 R1 R2 R3 : af} {w w2 : World} {β β2 : Nat → Nat} {Uy : bU} {s1 s2 s3 s4 : St} {a a2 : Act} {tm : bw} {v : tm.ps.T} {t : Tmp} {sz n : Nat} {e : TypeId} {c : Value} {ro : RO}
    (h1 : aJ E R1 w β s1 a) (hn : R0.obj.length = s1.G.length) (hx : aw s1 s3) (hE : Ext R1 w R3 w2) (st : Step R0 w β Uy R2 w2 β2 s2.boxes) (h3 : aJ E R3 w2 β2 s3 a2) (IA : Step R2 w2 β2 s2.boxes R3 w2 β2 s3.boxes)
    (hc : a2.tmps[t]? = some c) (ho : nM R3 w2 β2 s3.boxes c n sz e ro) (hl : ∀ b, ro.has b → Live R2 b) (hd : tm.dec s1 s3 = some v) (hr : rv (tm.st s1 v) t sz e = some s4) :
    ∃ R4, aJ E R4 w2 β2 s4 a2 ∧ Step R0 w β Uy R4 w2 β2 s4.boxes ∧ Ext R1 w R4 w2 ∧ s4.ro = (tm.st s1 v).ro ∧ aw (tm.st s1 v) s4 := by
  obtain ⟨q1, q2, q3⟩ := bw.LB hx h1 h3 hE hd
  obtain ⟨p1, p2, p3, p4⟩ := Ee q1 hr hc (ho.mono rfl (fun b hb => mb hb) q3)
  have ext : Ext (R3.cut s1.G.length) w2 ((R3.cut s1.G.length).add ro) w2 := ⟨fun _ _ h => h, fun _ _ _ => rfl, fun _ r hr => ⟨r, bc hr, bF.refl r⟩, dp.refl w2⟩
  have BW := st.trans IA
  refine ⟨_, p1, ⟨⟨BW.ext.I, BW.ext.cell, fun id r aR => ?_, BW.ext.lp⟩, st.os, st.tape, st.output, st.size, st.bL, fun b hb Bq => ?_, fun b o hi hb lG => BW.im b o hi hb lG⟩, q2.trans ext, p3, p4⟩
  · obtain ⟨r', g1, g2⟩ := BW.ext.obj id r aR
    have := aM aR
    exact ⟨r', bc (fU.2 ⟨by omega, g1⟩), g2⟩
  · have Bv : b < w2.heap.size := Nat.lt_of_lt_of_le hb st.size
    rcases Bq with Bq | ⟨k, cs, hk, rfl⟩
    · rcases gG Bq with Bq | Bq
      · exact BW.own b hb (.inl (mb Bq))
      · exact st.own b hb (.inl (hl b Bq))
    · rw [p2] at hk
      obtain ⟨di, eD⟩ := q3 k cs hk
      exact BW.own _ hb (.inr ⟨k, di, eD, rfl⟩)
end
end Go.Am
