/- The abstract machine: what a call's arguments read as. -/
import Derived.Test.YtpngggdfbbdfaaaDoorAmZc
import GoSem.ClaimJoined
set_option linter.all false
namespace Go.Am
open Go

/-- All cells that are there. -/
def allR (w : World) : Realm := ⟨fun b _ => b < w.heap.size, []⟩

mutual
/-- Leaves that a machine can hold. -/
def Pat.wf : (p : Pat) → p.T → Prop
  | .int k, (n : Int) => k.min ≤ n ∧ n ≤ k.max
  | .bool, _ => True
  | .str, (s : List UInt8) => s.length ≤ maxLen
  | .agg ps, x => ps.wf x
  | .tup ps, x => ps.wf x
  | .list _ p, (xs : List p.T) => xs.length ≤ maxLen ∧ ∀ x ∈ xs, p.wf x
  | .own _ _ p, (xs : List p.T) => xs.length ≤ maxLen ∧ ∀ x ∈ xs, p.wf x
  | .cst _, _ => True
def Pats.wf : (ps : Pats) → ps.T → Prop
  | .nil, _ => True
  | .cons p .nil, x => p.wf x
  | .cons p (.cons q ps), x => p.wf x.1 ∧ (Pats.cons q ps).wf x.2
end

def mkPats : List Pat → Pats
  | [] => .nil
  | p :: l => .cons p (mkPats l)

/-- The forms of several parts, one after the other. -/
def patS {β : Type} (g : β → Option (List Pat)) : List β → Option (List Pat)
  | [] => some []
  | x :: l => match g x, patS g l with
    | some a, some b => some (a ++ b)
    | _, _ => none

/-- Whether the parts lie one after the other: where they end. -/
def tiles {β : Type} (off len : β → Nat) : Nat → List β → Option Nat
  | o, [] => some o
  | o, x :: l => bif Nat.beq (off x) o then tiles off len (o + len x) l else none

def isSome (n : Nat) : Option Nat → Bool
  | some m => Nat.beq m n
  | none => false

/-- The forms of a type's cells, if it holds numbers, truth values and strings alone. -/
def patF (P : Program) : Nat → TypeId → Option (List Pat)
  | 0, _ => none
  | n + 1, t => match P.underlying t with
    | some .bool => some [.bool]
    | some (.int k) => some [.int k]
    | some .string => some [.str]
    | some (.struct fs) => bif isSome (P.cellsOf t) (tiles Field.offset (fun f => P.cellsOf f.type) 0 fs.toList) then patS (fun f => patF P n f.type) fs.toList else none
    | some (.array m e) => bif isSome (P.cellsOf t) (tiles (fun i => i * P.cellsOf e) (fun _ => P.cellsOf e) 0 (List.range m)) then patS (fun _ => patF P n e) (List.range m) else none
    | _ => none

/-- These values have these forms. -/
def FitF : List Pat → List AV → Prop
  | [], [] => True
  | p :: ps, a :: as => p.fits a = true ∧ p.wf (p.decD a) ∧ FitF ps as
  | _, _ => False

theorem FitF.append : ∀ {ps qs : List Pat} {as bs : List AV}, FitF ps as → FitF qs bs → FitF (ps ++ qs) (as ++ bs)
  | [], _, [], _, _, h => h
  | _ :: _, _, _ :: _, _, k, h => ⟨k.1, k.2.1, FitF.append k.2.2 h⟩
  | [], _, _ :: _, _, h, _ => h.elim
  | _ :: _, _, [], _, h, _ => h.elim

theorem FitF.mk : ∀ {ps : List Pat} {as : List AV}, FitF ps as → (mkPats ps).fits as = true ∧ (mkPats ps).wf ((mkPats ps).decD as)
  | [], [], _ => ⟨rfl, trivial⟩
  | [p], [a], h => ⟨by
      change (p.fits a && (List.isEmpty ([] : List AV))) = true
      rw [h.1]
      rfl, h.2.1⟩
  | p :: q :: ps, a :: as, h => by
    obtain ⟨h1, h2⟩ := FitF.mk (ps := q :: ps) h.2.2
    refine ⟨?_, h.2.1, h2⟩
    change (p.fits a && (mkPats (q :: ps)).fits as) = true
    rw [h.1, h1]
    rfl
  | [], _ :: _, h => h.elim
  | _ :: _, [], h => h.elim
  | [_], _ :: _ :: _, h => h.2.2.elim

section read
variable {H : Type} {enc : TypeId × Value → H} {P : Program} {w : World} {R : Realm} {base : Nat} {spare : Nat → Bool} {held : Bool}

theorem mapM_cons_some {α β : Type} {f : α → Option β} {x : α} {l : List α} {r : List β} (h : (x :: l).mapM f = some r) : ∃ y ys, f x = some y ∧ l.mapM f = some ys ∧ r = y :: ys := by
  rw [List.mapM_cons] at h
  cases hx : f x with
  | none => rw [hx] at h; cases h
  | some y =>
    rw [hx] at h
    cases hl : l.mapM f with
    | none => rw [hl] at h; cases h
    | some ys => rw [hl] at h; cases h; exact ⟨y, ys, rfl, rfl, rfl⟩

/-- Parts one after the other. -/
theorem segs_rel {β : Type} {off len : β → Nat} {g : β → Option (List Pat)} {cs : List Value} {f : β → Option (DataW H × List MemPlace)}
    (hf : ∀ x ps y, g x = some ps → f x = some y → ∃ as, RelL R w as ((cs.drop (off x)).take (len x)) ∧ FitF ps as ∧ ∀ v ∈ (cs.drop (off x)).take (len x), v.oneCell' = true) :
    ∀ {L : List β} {o m : Nat} {ps : List Pat} {ys : List (DataW H × List MemPlace)}, tiles off len o L = some m → patS g L = some ps → L.mapM f = some ys →
      o ≤ m ∧ ∃ as, RelL R w as ((cs.drop o).take (m - o)) ∧ FitF ps as ∧ ∀ v ∈ (cs.drop o).take (m - o), v.oneCell' = true
  | [], o, m, ps, ys, ht, hp, _ => by
    simp only [tiles] at ht
    simp only [patS] at hp
    cases ht; cases hp
    exact ⟨Nat.le_refl _, [], by simpa using RelL.nil, trivial, by simp⟩
  | x :: L, o, m, ps, ys, ht, hp, hm => by
    unfold tiles at ht
    cases hb : Nat.beq (off x) o with
    | false => rw [hb] at ht; cases ht
    | true =>
      rw [hb] at ht
      have hb := Nat.eq_of_beq_eq_true hb
      unfold patS at hp
      split at hp
      · rename_i pa pb h1 h2
        cases hp
        obtain ⟨y, ys', k1, k2, rfl⟩ := mapM_cons_some hm
        obtain ⟨as, q1, q2, q3⟩ := hf x pa y h1 k1
        obtain ⟨hle, bs, r1, r2, r3⟩ := segs_rel hf (show tiles off len (o + len x) L = some m from ht) h2 k2
        have e : (cs.drop o).take (m - o) = (cs.drop (off x)).take (len x) ++ (cs.drop (o + len x)).take (m - (o + len x)) := by
          rw [hb, show m - o = len x + (m - (o + len x)) by omega, List.take_add, List.drop_drop]
        rw [e]
        refine ⟨by omega, as ++ bs, q1.append r1, q2.append r2, fun v hv => ?_⟩
        rcases List.mem_append.1 hv with hv | hv
        · exact q3 v hv
        · exact r3 v hv
      · cases hp

/-- A type of numbers, truth values and strings. -/
theorem flat_rel : ∀ (n : Nat) {t : TypeId} {ps : List Pat}, patF P n t = some ps → ∀ {fuel : Nat} {cs : List Value} {y : DataW H × List MemPlace}, DataW.trod enc P w base spare held fuel t cs = some y →
    ∃ as, RelL R w as cs ∧ FitF ps as ∧ ∀ v ∈ cs, v.oneCell' = true
  | 0, _, _, h, _, _, _, _ => by cases h
  | n + 1, t, ps, h, 0, _, _, hy => by cases hy
  | n + 1, t, ps, h, fuel + 1, cs, y, hy => by
    unfold patF at h
    unfold DataW.trod at hy
    split at h
    · rename_i hu
      cases h
      rw [hu] at hy
      cases cs with
      | nil => cases hy
      | cons v l =>
        cases l with
        | cons v2 l => (cases v <;> first | (cases hy; done) | (rename_i a; cases a <;> cases hy; done) | (rename_i a b; cases a <;> cases hy; done) | (rename_i a b c; cases a <;> first | (cases hy; done) | (cases b <;> first | (cases hy; done) | (cases c <;> cases hy))))
        | nil =>
          cases v with
          | bool b => exact ⟨[.bool b], .one (.bool b), ⟨rfl, trivial, trivial⟩, by simp [Value.oneCell']⟩
          | pointer a => cases a <;> cases hy
          | slice a b c => cases a <;> first | (cases hy; done) | (cases b <;> first | (cases hy; done) | (cases c <;> cases hy))
          | map a => cases a <;> cases hy
          | chan a => cases a <;> cases hy
          | _ => cases hy
    · rename_i k hu
      cases h
      rw [hu] at hy
      cases cs with
      | nil => cases hy
      | cons v l =>
        cases l with
        | cons v2 l => (cases v <;> first | (cases hy; done) | (rename_i a; cases a <;> cases hy; done) | (rename_i a b; cases a <;> cases hy; done) | (rename_i a b c; cases a <;> first | (cases hy; done) | (cases b <;> first | (cases hy; done) | (cases c <;> cases hy))))
        | nil =>
          cases v with
          | int k' i =>
            have hy : (if k' = k ∧ (Lit.int k i).wf = true then some (.lit (.int k i), []) else none) = some y := hy
            split at hy
            · rename_i hc
              obtain ⟨rfl, hw⟩ := hc
              exact ⟨[.int k' i], .one (.int k' i), ⟨decide_eq_true rfl, by have h := hw; simp [Lit.wf] at h; exact h, trivial⟩, by simp [Value.oneCell']⟩
            · cases hy
          | pointer a => cases a <;> cases hy
          | slice a b c => cases a <;> first | (cases hy; done) | (cases b <;> first | (cases hy; done) | (cases c <;> cases hy))
          | map a => cases a <;> cases hy
          | chan a => cases a <;> cases hy
          | _ => cases hy
    · rename_i hu
      cases h
      rw [hu] at hy
      cases cs with
      | nil => cases hy
      | cons v l =>
        cases l with
        | cons v2 l => (cases v <;> first | (cases hy; done) | (rename_i a; cases a <;> cases hy; done) | (rename_i a b; cases a <;> cases hy; done) | (rename_i a b c; cases a <;> first | (cases hy; done) | (cases b <;> first | (cases hy; done) | (cases c <;> cases hy))))
        | nil =>
          cases v with
          | string s =>
            have hy : (if s.size ≤ maxLen then some (.lit (.string s.data.toList), []) else none) = some y := hy
            split at hy
            · rename_i hc
              exact ⟨[.str s.data.toList], .one (.str s.data.toList), ⟨rfl, by simpa [Pat.wf, Pat.decD, AV.strD] using hc, trivial⟩, by simp [Value.oneCell']⟩
            · cases hy
          | pointer a => cases a <;> cases hy
          | slice a b c => cases a <;> first | (cases hy; done) | (cases b <;> first | (cases hy; done) | (cases c <;> cases hy))
          | map a => cases a <;> cases hy
          | chan a => cases a <;> cases hy
          | _ => cases hy
    · rename_i fs hu
      rw [hu] at hy
      have hy : (if cs.length = P.cellsOf t then (fs.toList.mapM fun f => DataW.trod enc P w base spare held fuel f.type ((cs.drop f.offset).take (P.cellsOf f.type))).map fun xs => (.agg (xs.map (·.1)), xs.flatMap (·.2)) else none) = some y := hy
      split at hy
      · rename_i hl
        obtain ⟨h1, h2⟩ := cond_some h
        cases hm : fs.toList.mapM fun f => DataW.trod enc P w base spare held fuel f.type ((cs.drop f.offset).take (P.cellsOf f.type)) with
        | none => rw [hm] at hy; cases hy
        | some ys =>
          cases ht : tiles Field.offset (fun f => P.cellsOf f.type) 0 fs.toList with
          | none => rw [ht] at h1; cases h1
          | some m =>
            rw [ht] at h1
            have h1 := Nat.eq_of_beq_eq_true (show Nat.beq m (P.cellsOf t) = true from h1)
            obtain ⟨_, as, q1, q2, q3⟩ := segs_rel (R := R) (w := w) (off := Field.offset) (len := fun f => P.cellsOf f.type) (cs := cs) (fun x ps y hx hy' => flat_rel n hx hy') ht h2 hm
            rw [h1, ← hl] at q1 q3
            simp only [List.drop_zero, Nat.sub_zero, List.take_length] at q1 q3
            exact ⟨as, q1, q2, q3⟩
      · cases hy
    · rename_i m e hu
      rw [hu] at hy
      have hy : (if cs.length = P.cellsOf t then ((List.range m).mapM fun i => DataW.trod enc P w base spare held fuel e ((cs.drop (i * P.cellsOf e)).take (P.cellsOf e))).map fun xs => (.agg (xs.map (·.1)), xs.flatMap (·.2)) else none) = some y := hy
      split at hy
      · rename_i hl
        obtain ⟨h1, h2⟩ := cond_some h
        cases hm : (List.range m).mapM fun i => DataW.trod enc P w base spare held fuel e ((cs.drop (i * P.cellsOf e)).take (P.cellsOf e)) with
        | none => rw [hm] at hy; cases hy
        | some ys =>
          cases ht : tiles (fun i => i * P.cellsOf e) (fun _ => P.cellsOf e) 0 (List.range m) with
          | none => rw [ht] at h1; cases h1
          | some k =>
            rw [ht] at h1
            have h1 := Nat.eq_of_beq_eq_true (show Nat.beq k (P.cellsOf t) = true from h1)
            obtain ⟨_, as, q1, q2, q3⟩ := segs_rel (R := R) (w := w) (off := fun i => i * P.cellsOf e) (len := fun _ => P.cellsOf e) (cs := cs) (fun x ps y hx hy' => flat_rel n hx hy') ht h2 hm
            rw [h1, ← hl] at q1 q3
            simp only [List.drop_zero, Nat.sub_zero, List.take_length] at q1 q3
            exact ⟨as, q1, q2, q3⟩
      · cases hy
    · cases h

/-- The form of an element with these cells. -/
def elemPat (ag : Bool) (ps : List Pat) : Option Pat := match ag, ps with
  | true, ps => some (.agg (mkPats ps))
  | false, [p] => some p
  | _, _ => none

/-- The form of a value of a type. -/
def patV (P : Program) (n : Nat) (t : TypeId) : Option Pat := match P.underlying t with
  | some (.slice e) => match patF P n e, P.underlying e with
    | some ps, some u => match elemPat (Go.Am.aggD u) ps with
      | some pe => some (.list (P.cellsOf e) pe)
      | none => none
    | _, _ => none
  | some u => match patF P n t with
    | some ps => elemPat (Go.Am.aggD u) ps
    | none => none
  | none => none

theorem elem_fit {ag : Bool} {ps : List Pat} {pe : Pat} (h : elemPat ag ps = some pe) {as : List AV} (hf : FitF ps as) :
    ∃ e, (if ag then e = .agg as else as = [e]) ∧ pe.fits e = true ∧ pe.wf (pe.decD e) := by
  unfold elemPat at h
  split at h
  · cases h
    obtain ⟨h1, h2⟩ := hf.mk
    exact ⟨.agg as, rfl, h1, h2⟩
  · rename_i p
    cases h
    match as, hf with
    | [a], hf => exact ⟨a, rfl, hf.1, hf.2.1⟩
    | [], hf => exact hf.elim
    | _ :: _ :: _, hf => exact hf.2.2.elim
  · cases h

theorem fit_tup : ∀ {ps : List Pat} {as : List AV} {n : Nat} {t : TypeId}, patF P n t = some ps → FitF ps as → ∀ a ∈ as, a.notTup = true ∧ a.cells = [a] ∧ a.closed = true := by
  have scal : ∀ {p : Pat} {a : AV}, (p = .bool ∨ (∃ k, p = .int k) ∨ p = .str) → p.fits a = true → a.notTup = true ∧ a.cells = [a] ∧ a.closed = true := by
    rintro p a (rfl | ⟨k, rfl⟩ | rfl) h <;> cases a <;> first | (cases h; done) | exact ⟨rfl, rfl, rfl⟩
  have all : ∀ {n : Nat} {t : TypeId} {ps : List Pat}, patF P n t = some ps → ∀ p ∈ ps, (p = .bool ∨ (∃ k, p = .int k) ∨ p = .str) := by
    have many : ∀ {β : Type} {g : β → Option (List Pat)}, (∀ x ps, g x = some ps → ∀ p ∈ ps, (p = .bool ∨ (∃ k, p = .int k) ∨ p = .str)) → ∀ {L : List β} {ps : List Pat}, patS g L = some ps → ∀ p ∈ ps, (p = .bool ∨ (∃ k, p = .int k) ∨ p = .str) := by
      intro β g hg L
      induction L with
      | nil => intro ps h; simp only [patS] at h; cases h; intro p hp; simp at hp
      | cons x L ih =>
        intro ps h
        unfold patS at h
        split at h
        · rename_i a b h1 h2
          cases h
          intro p hp
          rcases List.mem_append.1 hp with hp | hp
          · exact hg x a h1 p hp
          · exact ih h2 p hp
        · cases h
    intro n
    induction n with
    | zero => intro t ps h; cases h
    | succ n ih =>
      intro t ps h
      unfold patF at h
      split at h
      · cases h; intro p hp; simp at hp; exact .inl hp
      · rename_i k _; cases h; intro p hp; simp at hp; exact .inr (.inl ⟨k, hp⟩)
      · cases h; intro p hp; simp at hp; exact .inr (.inr hp)
      · obtain ⟨_, h⟩ := cond_some h; exact many (fun _ _ hx => ih hx) h
      · obtain ⟨_, h⟩ := cond_some h; exact many (fun _ _ hx => ih hx) h
      · cases h
  intro ps as n t hp
  have hps := all hp
  clear hp
  induction ps generalizing as with
  | nil => intro hf a ha; cases as with
    | nil => simp at ha
    | cons _ _ => exact hf.elim
  | cons p ps ih =>
    intro hf a ha
    cases as with
    | nil => exact hf.elim
    | cons b as =>
      rcases List.mem_cons.1 ha with rfl | ha
      · exact scal (hps p (by simp)) hf.1
      · exact ih (fun q hq => hps q (by simp [hq])) hf.2.2 a ha

theorem mapM_get {α β : Type} {f : α → Option β} : ∀ {l : List α} {r : List β}, l.mapM f = some r → ∀ (i : Nat) (x : α), l[i]? = some x → ∃ y, r[i]? = some y ∧ f x = some y
  | [], r, _, i, x, hx => by simp at hx
  | a :: l, r, h, i, x, hx => by
    obtain ⟨y, ys, h1, h2, rfl⟩ := mapM_cons_some h
    cases i with
    | zero => simp at hx; subst hx; exact ⟨y, by simp, h1⟩
    | succ i => obtain ⟨z, h3, h4⟩ := mapM_get h2 i x (by simpa using hx); exact ⟨z, by simpa using h3, h4⟩

theorem mapM_length {α β : Type} {f : α → Option β} : ∀ {l : List α} {r : List β}, l.mapM f = some r → r.length = l.length
  | [], r, h => by simp at h; subst h; rfl
  | a :: l, r, h => by
    obtain ⟨y, ys, h1, h2, rfl⟩ := mapM_cons_some h
    simp [mapM_length h2]

theorem cell_lt {a : Addr} {v : Value} (h : w.cell? a = some v) : a.block < w.heap.size := by
  unfold World.cell? at h
  split at h
  · rename_i hb; exact block_lt hb
  · cases h

/-- The elements of a slice that came in. -/
theorem elems_rel {n : Nat} {e : TypeId} {ps : List Pat} {pe : Pat} {ag : Bool} (hp : patF P n e = some ps) (he : elemPat ag ps = some pe) {fuel b off len : Nat} {r : List (DataW H × List MemPlace)}
    (h : (List.range len).mapM (fun i => (w.cells? base ((⟨b, off, none⟩ : Addr).add (i * P.cellsOf e)) (P.cellsOf e)).bind (DataW.trod enc P w base spare held fuel e)) = some r) :
    ∀ (m i : Nat), i + m = len → ∃ es, RelE (allR w) w b (off + i * P.cellsOf e) (P.cellsOf e) es ∧ es.length = m ∧ ∀ x ∈ es, pe.fits x = true ∧ pe.wf (pe.decD x)
  | 0, i, _ => ⟨[], .nil, rfl, by simp⟩
  | m + 1, i, hi => by
    obtain ⟨es, h1, h2, h3⟩ := elems_rel hp he h m (i + 1) (by omega)
    obtain ⟨y, _, hy⟩ := mapM_get h i i (by rw [List.getElem?_range (by omega)])
    obtain ⟨cs, hc, hy⟩ := bind_some hy
    obtain ⟨as, q1, q2, q3⟩ := flat_rel (R := allR w) n hp hy
    obtain ⟨x, hx, f1, f2⟩ := elem_fit he q2
    have hcells : w.cells? base ((⟨b, off, none⟩ : Addr).add (i * P.cellsOf e)) (P.cellsOf e) = some cs := hc
    unfold World.cells? at hcells
    split at hcells
    · have hlen := mapM_length hcells
      rw [List.length_range] at hlen
      have hcl : x.cells = as ∧ x.notTup = true ∧ x.closed = true := by
        have hall := fit_tup hp q2
        cases ag with
        | true =>
          simp only [if_true] at hx
          subst hx
          refine ⟨rfl, rfl, ?_⟩
          show closedL as = true
          clear h1 h2 h3 q1 q2 f1 f2
          induction as with
          | nil => rfl
          | cons a as ih => simp only [closedL, Bool.and_eq_true]; exact ⟨(hall a (by simp)).2.2, ih (fun z hz => hall z (by simp [hz]))⟩
        | false =>
          simp only [Bool.false_eq_true, if_false] at hx
          subst hx
          obtain ⟨k1, k2, k3⟩ := hall x (by simp)
          exact ⟨k2, k1, k3⟩
      have hget : ∀ j v, cs[j]? = some v → w.cell? ⟨b, off + i * P.cellsOf e + j, none⟩ = some v := fun j v hv => by
        have hj : j < P.cellsOf e := by have := (List.getElem?_eq_some_iff.1 hv).1; omega
        obtain ⟨v', k1, k2⟩ := mapM_get hcells j j (by rw [List.getElem?_range hj])
        rw [hv] at k1
        cases k1
        rw [addr_add, addr_add] at k2
        exact k2
      refine ⟨x :: es, .cons ?_ hcl.2.1 hcl.2.2 ?_ ?_, by simp [h2], fun z hz => ?_⟩
      · rw [hcl.1, q1.length, hlen]
      · rw [hcl.1]
        refine RelC.make q1 q3 hget (fun j hj => ?_)
        have hj' : j < cs.length := by rw [← q1.length]; exact hj
        exact cell_lt (hget j cs[j] (List.getElem?_eq_getElem hj'))
      · rw [show off + i * P.cellsOf e + P.cellsOf e = off + (i + 1) * P.cellsOf e by rw [Nat.add_mul]; omega]
        exact h1
      · rcases List.mem_cons.1 hz with rfl | hz
        · exact ⟨f1, f2⟩
        · exact h3 z hz
    · cases hcells

theorem all_fit {pe : Pat} : ∀ {es : List AV}, (∀ x ∈ es, pe.fits x = true ∧ pe.wf (pe.decD x)) → allFit pe.fits es = true ∧ ∀ x ∈ es.map pe.decD, pe.wf x
  | [], _ => ⟨rfl, by simp⟩
  | a :: es, h => by
    obtain ⟨h1, h2⟩ := all_fit (es := es) fun x hx => h x (by simp [hx])
    refine ⟨by simp only [allFit, Bool.and_eq_true]; exact ⟨(h a (by simp)).1, h1⟩, fun x hx => ?_⟩
    rcases List.mem_cons.1 hx with rfl | hx
    · exact (h a (by simp)).2
    · exact h2 x hx

/-- An argument, by its leaves. -/
theorem arg_rel {n : Nat} {t : TypeId} {p : Pat} (hp : patV P n t = some p) {v : Value} {d : DataW H} {pl : List MemPlace} {r : Reach} {base' : Nat} (ht : DataW.Trod enc P w base spare held t v d pl) (hok : Value.okWide P w r base' t v) :
    ∃ x : p.T, Rel (allR w) w (p.enc x) v ∧ p.wf x := by
  obtain ⟨fuel, ht⟩ := ht
  have fin : ∀ {a : AV}, p.fits a = true → p.wf (p.decD a) → Rel (allR w) w a v → ∃ x : p.T, Rel (allR w) w (p.enc x) v ∧ p.wf x := fun {a} h1 h2 h3 => ⟨p.decD a, (p.fits_ok h1).weak _ _ _ h3, h2⟩
  unfold patV at hp
  split at hp
  · rename_i e hu
    split at hp
    · rename_i ps u h1 h2
      split at hp
      · rename_i pe h3
        cases hp
        unfold Value.okWide at hok
        rw [hu] at hok
        simp only at hok
        unfold Cell.okWide at hok
        rw [hu] at hok
        cases fuel with
        | zero => cases ht
        | succ fuel =>
        unfold DataW.trod at ht
        rw [hu] at ht
        cases v with
        | slice a len cap =>
          cases a with
          | none =>
            have hz : len = 0 ∧ cap = 0 := by
              cases len with
              | zero => cases cap with
                | zero => exact ⟨rfl, rfl⟩
                | succ _ => cases ht
              | succ _ => cases ht
            obtain ⟨rfl, rfl⟩ := hz
            exact ⟨([] : List pe.T), .lopn, Nat.zero_le _, by simp⟩
          | some a =>
            have hok' : len ≤ cap ∧ (cap : Int) ≤ IntKind.i64.max ∧ w.has P r base' a e cap := by
              have h := hok
              unfold Cell.ok at h
              rw [hu] at h
              exact h
            obtain ⟨hlc, _, _, hspot, _⟩ := hok'
            obtain ⟨b, off, spot⟩ := a
            have hspot : spot = none := hspot
            subst hspot
            have ht : (if base ≤ b ∧ len ≤ cap ∧ cap ≤ maxLen then
              ((List.range len).mapM (fun i => (w.cells? base ((⟨b, off, none⟩ : Addr).add (i * P.cellsOf e)) (P.cellsOf e)).bind (DataW.trod enc P w base spare held fuel e))).bind fun elems =>
                (if spare b then (List.range (cap - len)).mapM (fun j => (w.cells? base ((⟨b, off, none⟩ : Addr).add ((len + j) * P.cellsOf e)) (P.cellsOf e)).bind (DataW.trod enc P w base spare held fuel e)) else some []).map fun rest =>
                  (DataW.slice (elems.map (·.1)) (rest.map (·.1)), MemPlace.row ⟨b, off, none⟩ ((elems.length + rest.length) * P.cellsOf e) ++ (elems ++ rest).flatMap (·.2))
              else none) = some (d, pl) := ht
            split at ht
            · rename_i hc
              obtain ⟨elems, k1, _⟩ := bind_some ht
              obtain ⟨es, q1, q2, q3⟩ := elems_rel h1 h3 k1 len 0 (by omega)
              rw [Nat.zero_mul, Nat.add_zero] at q1
              obtain ⟨f1, f2⟩ := all_fit q3
              refine ⟨es.map pe.decD, list_weak (k := .opn) (fun v => pe.fits_ok) (.inr rfl) f1 _ _ _ (.list q1 q2.symm hc.2.1 trivial), ?_, f2⟩
              have : es.length ≤ maxLen := by rw [q2]; omega
              simpa using this
            · cases ht
        | _ => exact absurd hok (by simp [Cell.ok, hu])
      · cases hp
    · cases hp
  · rename_i u hne hu
    split at hp
    · rename_i ps h1
      obtain ⟨as, q1, q2, q3⟩ := flat_rel (R := allR w) n h1 ht
      obtain ⟨x, hx, f1, f2⟩ := elem_fit hp q2
      cases hag : Go.Am.aggD u with
      | true =>
        rw [hag] at hx
        simp only [if_true] at hx
        subst hx
        have : ∃ cs, v = .agg cs := by
          unfold Value.okWide at hok
          rw [hu] at hok
          cases u <;> first | (cases hag; done) | (obtain ⟨cs, h, _⟩ := hok; exact ⟨cs, h⟩)
        obtain ⟨⟨cs⟩, rfl⟩ := this
        exact fin f1 f2 (.agg q1 q3)
      | false =>
        rw [hag] at hx
        simp only [Bool.false_eq_true, if_false] at hx
        subst hx
        have hv : v.cells.toList = [v] := by
          cases v with
          | agg cs =>
            exfalso
            unfold Value.okWide at hok
            rw [hu] at hok
            cases u <;> first | (cases hag; done) | (simp [Cell.okWide, Cell.ok, hu] at hok)
          | _ => rfl
        rw [hv] at q1
        cases q1 with
        | cons q1 _ => exact fin f1 f2 q1
    · cases hp
  · cases hp

def patVs (P : Program) (n : Nat) : List TypeId → Option (List Pat)
  | [] => some []
  | t :: l => match patV P n t, patVs P n l with
    | some p, some r => some (p :: r)
    | _, _ => none

/-- All arguments, by their leaves. -/
theorem args_rel {n : Nat} {r : Reach} {base' : Nat} : ∀ {ts : List TypeId} {ps : List Pat} {vs : List Value} {ds : List (DataW H)} {pl : List MemPlace}, patVs P n ts = some ps → DataW.TrodAll enc P w base spare held ts vs ds pl →
    (∀ (j : Nat) t v, ts[j]? = some t → vs[j]? = some v → Value.okWide P w r base' t v) → ∃ x : (mkPats ps).T, RelL (allR w) w ((mkPats ps).enc x) vs ∧ (mkPats ps).wf x
  | [], ps, vs, ds, pl, hp, ht, _ => by
    simp only [patVs] at hp
    cases hp
    cases vs with
    | nil => exact ⟨(), .nil, trivial⟩
    | cons _ _ => cases ds <;> exact ht.elim
  | t :: ts, ps, vs, ds, pl, hp, ht, hok => by
    unfold patVs at hp
    split at hp
    · rename_i p r h1 h2
      cases hp
      cases vs with
      | nil => cases ds <;> exact ht.elim
      | cons v vs =>
        cases ds with
        | nil => exact ht.elim
        | cons d ds =>
          obtain ⟨p1, p2, k1, k2, _⟩ := ht
          obtain ⟨x, q1, q2⟩ := arg_rel h1 k1 (hok 0 t v rfl rfl)
          obtain ⟨y, q3, q4⟩ := args_rel h2 k2 (fun j t v hj hv => hok (j + 1) t v (by simpa using hj) (by simpa using hv))
          cases r with
          | nil =>
            cases q3
            exact ⟨x, .one q1, q2⟩
          | cons p' r => exact ⟨(x, y), .cons q1 q3, q2, q4⟩
    · cases hp

end read
end Go.Am
