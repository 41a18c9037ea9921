/- The abstract machine: what a call's arguments read as. -/
import Derived.Test.YtpngggdfbbdfaaaDoorAmKG
import GoSem.ClaimJoined
import Derived.Below
import Derived.ChangeSame
import Derived.Carry
import Derived.RowKit
import Derived.FnData
set_option linter.all false
namespace Go.Am
open Go

/-- All cells that are there. -/
def allR (w : World) : Realm := ⟨fun b _ => b < w.heap.size, []⟩

mutual
/-- Leaves that a machine can hold. -/
def Pat.wf : (p : Pat) → p.T → Prop
  | .int k, (n : Int) => k.min ≤ n ∧ n ≤ k.max
  | .bool, _ => True
  | .str, (s : List UInt8) => s.length ≤ maxLen
  | .agg ps, x => ps.wf x
  | .tup ps, x => ps.wf x
  | .list _ p, (xs : List p.T) => xs.length ≤ maxLen ∧ ∀ x ∈ xs, p.wf x
  | .own _ _ p, (xs : List p.T) => xs.length ≤ maxLen ∧ ∀ x ∈ xs, p.wf x
  | .cst _, _ => True
def Pats.wf : (ps : Pats) → ps.T → Prop
  | .nil, _ => True
  | .cons p .nil, x => p.wf x
  | .cons p (.cons q ps), x => p.wf x.1 ∧ (Pats.cons q ps).wf x.2
end

def mkPats : List Pat → Pats
  | [] => .nil
  | p :: l => .cons p (mkPats l)

/-- The forms of several parts, one after the other. -/
def patS {β : Type} (g : β → Option (List Pat)) : List β → Option (List Pat)
  | [] => some []
  | x :: l => match g x, patS g l with
    | some a, some b => some (a ++ b)
    | _, _ => none

/-- Whether the parts lie one after the other: where they end. -/
def tiles {β : Type} (off len : β → Nat) : Nat → List β → Option Nat
  | o, [] => some o
  | o, x :: l => bif Nat.beq (off x) o then tiles off len (o + len x) l else none

def isSome (n : Nat) : Option Nat → Bool
  | some m => Nat.beq m n
  | none => false

/-- The forms of a type's cells, if it holds numbers, truth values and strings alone. -/
def patF (P : Program) : Nat → TypeId → Option (List Pat)
  | 0, _ => none
  | n + 1, t => match P.underlying t with
    | some .bool => some [.bool]
    | some (.int k) => some [.int k]
    | some .string => some [.str]
    | some (.struct fs) => bif isSome (P.cellsOf t) (tiles Field.offset (fun f => P.cellsOf f.type) 0 fs.toList) then patS (fun f => patF P n f.type) fs.toList else none
    | some (.array m e) => bif isSome (P.cellsOf t) (tiles (fun i => i * P.cellsOf e) (fun _ => P.cellsOf e) 0 (List.range m)) then patS (fun _ => patF P n e) (List.range m) else none
    | _ => none

/-- These values have these forms. -/
def FitF : List Pat → List AV → Prop
  | [], [] => True
  | p :: ps, a :: as => p.fits a = true ∧ p.wf (p.decD a) ∧ FitF ps as
  | _, _ => False

theorem FitF.append : ∀ {ps qs : List Pat} {as bs : List AV}, FitF ps as → FitF qs bs → FitF (ps ++ qs) (as ++ bs)
  | [], _, [], _, _, h => h
  | _ :: _, _, _ :: _, _, k, h => ⟨k.1, k.2.1, FitF.append k.2.2 h⟩
  | [], _, _ :: _, _, h, _ => h.elim
  | _ :: _, _, [], _, h, _ => h.elim

theorem FitF.mk : ∀ {ps : List Pat} {as : List AV}, FitF ps as → (mkPats ps).fits as = true ∧ (mkPats ps).wf ((mkPats ps).decD as)
  | [], [], _ => ⟨rfl, trivial⟩
  | [p], [a], h => ⟨by
      change (p.fits a && (List.isEmpty ([] : List AV))) = true
      rw [h.1]
      rfl, h.2.1⟩
  | p :: q :: ps, a :: as, h => by
    obtain ⟨h1, h2⟩ := FitF.mk (ps := q :: ps) h.2.2
    refine ⟨?_, h.2.1, h2⟩
    change (p.fits a && (mkPats (q :: ps)).fits as) = true
    rw [h.1, h1]
    rfl
  | [], _ :: _, h => h.elim
  | _ :: _, [], h => h.elim
  | [_], _ :: _ :: _, h => h.2.2.elim

section read
variable {H : Type} {enc : TypeId × Value → H} {P : Program} {w : World} {R : Realm} {base : Nat} {spare : Nat → Bool} {held : Bool}

theorem mapM_cons_some {α β : Type} {f : α → Option β} {x : α} {l : List α} {r : List β} (h : (x :: l).mapM f = some r) : ∃ y ys, f x = some y ∧ l.mapM f = some ys ∧ r = y :: ys := by
  rw [List.mapM_cons] at h
  cases hx : f x with
  | none => rw [hx] at h; cases h
  | some y =>
    rw [hx] at h
    cases hl : l.mapM f with
    | none => rw [hl] at h; cases h
    | some ys => rw [hl] at h; cases h; exact ⟨y, ys, rfl, rfl, rfl⟩

/-- Parts one after the other. -/
theorem segs_rel {β : Type} {off len : β → Nat} {g : β → Option (List Pat)} {cs : List Value} {f : β → Option (DataW H × List MemPlace)}
    (hf : ∀ x ps y, g x = some ps → f x = some y → ∃ as, RelL R w as ((cs.drop (off x)).take (len x)) ∧ FitF ps as ∧ ∀ v ∈ (cs.drop (off x)).take (len x), v.oneCell' = true) :
    ∀ {L : List β} {o m : Nat} {ps : List Pat} {ys : List (DataW H × List MemPlace)}, tiles off len o L = some m → patS g L = some ps → L.mapM f = some ys →
      o ≤ m ∧ ∃ as, RelL R w as ((cs.drop o).take (m - o)) ∧ FitF ps as ∧ ∀ v ∈ (cs.drop o).take (m - o), v.oneCell' = true
  | [], o, m, ps, ys, ht, hp, _ => by
    simp only [tiles] at ht
    simp only [patS] at hp
    cases ht; cases hp
    exact ⟨Nat.le_refl _, [], by simpa using RelL.nil, trivial, by simp⟩
  | x :: L, o, m, ps, ys, ht, hp, hm => by
    unfold tiles at ht
    cases hb : Nat.beq (off x) o with
    | false => rw [hb] at ht; cases ht
    | true =>
      rw [hb] at ht
      have hb := Nat.eq_of_beq_eq_true hb
      unfold patS at hp
      split at hp
      · rename_i pa pb h1 h2
        cases hp
        obtain ⟨y, ys', k1, k2, rfl⟩ := mapM_cons_some hm
        obtain ⟨as, q1, q2, q3⟩ := hf x pa y h1 k1
        obtain ⟨hle, bs, r1, r2, r3⟩ := segs_rel hf (show tiles off len (o + len x) L = some m from ht) h2 k2
        have e : (cs.drop o).take (m - o) = (cs.drop (off x)).take (len x) ++ (cs.drop (o + len x)).take (m - (o + len x)) := by
          rw [hb, show m - o = len x + (m - (o + len x)) by omega, List.take_add, List.drop_drop]
        rw [e]
        refine ⟨by omega, as ++ bs, q1.append r1, q2.append r2, fun v hv => ?_⟩
        rcases List.mem_append.1 hv with hv | hv
        · exact q3 v hv
        · exact r3 v hv
      · cases hp

/-- A type of numbers, truth values and strings. -/
theorem flat_rel : ∀ (n : Nat) {t : TypeId} {ps : List Pat}, patF P n t = some ps → ∀ {fuel : Nat} {cs : List Value} {y : DataW H × List MemPlace}, DataW.trod enc P w base spare held fuel t cs = some y →
    ∃ as, RelL R w as cs ∧ FitF ps as ∧ ∀ v ∈ cs, v.oneCell' = true
  | 0, _, _, h, _, _, _, _ => by cases h
  | n + 1, t, ps, h, 0, _, _, hy => by cases hy
  | n + 1, t, ps, h, fuel + 1, cs, y, hy => by
    unfold patF at h
    unfold DataW.trod at hy
    split at h
    · rename_i hu
      cases h
      rw [hu] at hy
      cases cs with
      | nil => cases hy
      | cons v l =>
        cases l with
        | cons v2 l => (cases v <;> first | (cases hy; done) | (rename_i a; cases a <;> cases hy; done) | (rename_i a b; cases a <;> cases hy; done) | (rename_i a b c; cases a <;> first | (cases hy; done) | (cases b <;> first | (cases hy; done) | (cases c <;> cases hy))))
        | nil =>
          cases v with
          | bool b => exact ⟨[.bool b], .one (.bool b), ⟨rfl, trivial, trivial⟩, by simp [Value.oneCell']⟩
          | pointer a => cases a <;> cases hy
          | slice a b c => cases a <;> first | (cases hy; done) | (cases b <;> first | (cases hy; done) | (cases c <;> cases hy))
          | map a => cases a <;> cases hy
          | chan a => cases a <;> cases hy
          | _ => cases hy
    · rename_i k hu
      cases h
      rw [hu] at hy
      cases cs with
      | nil => cases hy
      | cons v l =>
        cases l with
        | cons v2 l => (cases v <;> first | (cases hy; done) | (rename_i a; cases a <;> cases hy; done) | (rename_i a b; cases a <;> cases hy; done) | (rename_i a b c; cases a <;> first | (cases hy; done) | (cases b <;> first | (cases hy; done) | (cases c <;> cases hy))))
        | nil =>
          cases v with
          | int k' i =>
            have hy : (if k' = k ∧ (Lit.int k i).wf = true then some (.lit (.int k i), []) else none) = some y := hy
            split at hy
            · rename_i hc
              obtain ⟨rfl, hw⟩ := hc
              exact ⟨[.int k' i], .one (.int k' i), ⟨decide_eq_true rfl, by have h := hw; simp [Lit.wf] at h; exact h, trivial⟩, by simp [Value.oneCell']⟩
            · cases hy
          | pointer a => cases a <;> cases hy
          | slice a b c => cases a <;> first | (cases hy; done) | (cases b <;> first | (cases hy; done) | (cases c <;> cases hy))
          | map a => cases a <;> cases hy
          | chan a => cases a <;> cases hy
          | _ => cases hy
    · rename_i hu
      cases h
      rw [hu] at hy
      cases cs with
      | nil => cases hy
      | cons v l =>
        cases l with
        | cons v2 l => (cases v <;> first | (cases hy; done) | (rename_i a; cases a <;> cases hy; done) | (rename_i a b; cases a <;> cases hy; done) | (rename_i a b c; cases a <;> first | (cases hy; done) | (cases b <;> first | (cases hy; done) | (cases c <;> cases hy))))
        | nil =>
          cases v with
          | string s =>
            have hy : (if s.size ≤ maxLen then some (.lit (.string s.data.toList), []) else none) = some y := hy
            split at hy
            · rename_i hc
              exact ⟨[.str s.data.toList], .one (.str s.data.toList), ⟨rfl, by simpa [Pat.wf, Pat.decD, AV.strD] using hc, trivial⟩, by simp [Value.oneCell']⟩
            · cases hy
          | pointer a => cases a <;> cases hy
          | slice a b c => cases a <;> first | (cases hy; done) | (cases b <;> first | (cases hy; done) | (cases c <;> cases hy))
          | map a => cases a <;> cases hy
          | chan a => cases a <;> cases hy
          | _ => cases hy
    · rename_i fs hu
      rw [hu] at hy
      have hy : (if cs.length = P.cellsOf t then (fs.toList.mapM fun f => DataW.trod enc P w base spare held fuel f.type ((cs.drop f.offset).take (P.cellsOf f.type))).map fun xs => (.agg (xs.map (·.1)), xs.flatMap (·.2)) else none) = some y := hy
      split at hy
      · rename_i hl
        obtain ⟨h1, h2⟩ := cond_some h
        cases hm : fs.toList.mapM fun f => DataW.trod enc P w base spare held fuel f.type ((cs.drop f.offset).take (P.cellsOf f.type)) with
        | none => rw [hm] at hy; cases hy
        | some ys =>
          cases ht : tiles Field.offset (fun f => P.cellsOf f.type) 0 fs.toList with
          | none => rw [ht] at h1; cases h1
          | some m =>
            rw [ht] at h1
            have h1 := Nat.eq_of_beq_eq_true (show Nat.beq m (P.cellsOf t) = true from h1)
            obtain ⟨_, as, q1, q2, q3⟩ := segs_rel (R := R) (w := w) (off := Field.offset) (len := fun f => P.cellsOf f.type) (cs := cs) (fun x ps y hx hy' => flat_rel n hx hy') ht h2 hm
            rw [h1, ← hl] at q1 q3
            simp only [List.drop_zero, Nat.sub_zero, List.take_length] at q1 q3
            exact ⟨as, q1, q2, q3⟩
      · cases hy
    · rename_i m e hu
      rw [hu] at hy
      have hy : (if cs.length = P.cellsOf t then ((List.range m).mapM fun i => DataW.trod enc P w base spare held fuel e ((cs.drop (i * P.cellsOf e)).take (P.cellsOf e))).map fun xs => (.agg (xs.map (·.1)), xs.flatMap (·.2)) else none) = some y := hy
      split at hy
      · rename_i hl
        obtain ⟨h1, h2⟩ := cond_some h
        cases hm : (List.range m).mapM fun i => DataW.trod enc P w base spare held fuel e ((cs.drop (i * P.cellsOf e)).take (P.cellsOf e)) with
        | none => rw [hm] at hy; cases hy
        | some ys =>
          cases ht : tiles (fun i => i * P.cellsOf e) (fun _ => P.cellsOf e) 0 (List.range m) with
          | none => rw [ht] at h1; cases h1
          | some k =>
            rw [ht] at h1
            have h1 := Nat.eq_of_beq_eq_true (show Nat.beq k (P.cellsOf t) = true from h1)
            obtain ⟨_, as, q1, q2, q3⟩ := segs_rel (R := R) (w := w) (off := fun i => i * P.cellsOf e) (len := fun _ => P.cellsOf e) (cs := cs) (fun x ps y hx hy' => flat_rel n hx hy') ht h2 hm
            rw [h1, ← hl] at q1 q3
            simp only [List.drop_zero, Nat.sub_zero, List.take_length] at q1 q3
            exact ⟨as, q1, q2, q3⟩
      · cases hy
    · cases h

/-- The form of an element with these cells. -/
def elemPat (ag : Bool) (ps : List Pat) : Option Pat := match ag, ps with
  | true, ps => some (.agg (mkPats ps))
  | false, [p] => some p
  | _, _ => none

/-- The form of a value of a type. -/
def patV (P : Program) (n : Nat) (t : TypeId) : Option Pat := match P.underlying t with
  | some (.slice e) => match patF P n e, P.underlying e with
    | some ps, some u => match elemPat (Go.Am.aggD u) ps with
      | some pe => some (.list (P.cellsOf e) pe)
      | none => none
    | _, _ => none
  | some u => match patF P n t with
    | some ps => elemPat (Go.Am.aggD u) ps
    | none => none
  | none => none

theorem elem_fit {ag : Bool} {ps : List Pat} {pe : Pat} (h : elemPat ag ps = some pe) {as : List AV} (hf : FitF ps as) :
    ∃ e, (if ag then e = .agg as else as = [e]) ∧ pe.fits e = true ∧ pe.wf (pe.decD e) := by
  unfold elemPat at h
  split at h
  · cases h
    obtain ⟨h1, h2⟩ := hf.mk
    exact ⟨.agg as, rfl, h1, h2⟩
  · rename_i p
    cases h
    match as, hf with
    | [a], hf => exact ⟨a, rfl, hf.1, hf.2.1⟩
    | [], hf => exact hf.elim
    | _ :: _ :: _, hf => exact hf.2.2.elim
  · cases h

theorem fit_tup : ∀ {ps : List Pat} {as : List AV} {n : Nat} {t : TypeId}, patF P n t = some ps → FitF ps as → ∀ a ∈ as, a.notTup = true ∧ a.cells = [a] ∧ a.closed = true := by
  have scal : ∀ {p : Pat} {a : AV}, (p = .bool ∨ (∃ k, p = .int k) ∨ p = .str) → p.fits a = true → a.notTup = true ∧ a.cells = [a] ∧ a.closed = true := by
    rintro p a (rfl | ⟨k, rfl⟩ | rfl) h <;> cases a <;> first | (cases h; done) | exact ⟨rfl, rfl, rfl⟩
  have all : ∀ {n : Nat} {t : TypeId} {ps : List Pat}, patF P n t = some ps → ∀ p ∈ ps, (p = .bool ∨ (∃ k, p = .int k) ∨ p = .str) := by
    have many : ∀ {β : Type} {g : β → Option (List Pat)}, (∀ x ps, g x = some ps → ∀ p ∈ ps, (p = .bool ∨ (∃ k, p = .int k) ∨ p = .str)) → ∀ {L : List β} {ps : List Pat}, patS g L = some ps → ∀ p ∈ ps, (p = .bool ∨ (∃ k, p = .int k) ∨ p = .str) := by
      intro β g hg L
      induction L with
      | nil => intro ps h; simp only [patS] at h; cases h; intro p hp; simp at hp
      | cons x L ih =>
        intro ps h
        unfold patS at h
        split at h
        · rename_i a b h1 h2
          cases h
          intro p hp
          rcases List.mem_append.1 hp with hp | hp
          · exact hg x a h1 p hp
          · exact ih h2 p hp
        · cases h
    intro n
    induction n with
    | zero => intro t ps h; cases h
    | succ n ih =>
      intro t ps h
      unfold patF at h
      split at h
      · cases h; intro p hp; simp at hp; exact .inl hp
      · rename_i k _; cases h; intro p hp; simp at hp; exact .inr (.inl ⟨k, hp⟩)
      · cases h; intro p hp; simp at hp; exact .inr (.inr hp)
      · obtain ⟨_, h⟩ := cond_some h; exact many (fun _ _ hx => ih hx) h
      · obtain ⟨_, h⟩ := cond_some h; exact many (fun _ _ hx => ih hx) h
      · cases h
  intro ps as n t hp
  have hps := all hp
  clear hp
  induction ps generalizing as with
  | nil => intro hf a ha; cases as with
    | nil => simp at ha
    | cons _ _ => exact hf.elim
  | cons p ps ih =>
    intro hf a ha
    cases as with
    | nil => exact hf.elim
    | cons b as =>
      rcases List.mem_cons.1 ha with rfl | ha
      · exact scal (hps p (by simp)) hf.1
      · exact ih (fun q hq => hps q (by simp [hq])) hf.2.2 a ha

theorem mapM_get {α β : Type} {f : α → Option β} : ∀ {l : List α} {r : List β}, l.mapM f = some r → ∀ (i : Nat) (x : α), l[i]? = some x → ∃ y, r[i]? = some y ∧ f x = some y
  | [], r, _, i, x, hx => by simp at hx
  | a :: l, r, h, i, x, hx => by
    obtain ⟨y, ys, h1, h2, rfl⟩ := mapM_cons_some h
    cases i with
    | zero => simp at hx; subst hx; exact ⟨y, by simp, h1⟩
    | succ i => obtain ⟨z, h3, h4⟩ := mapM_get h2 i x (by simpa using hx); exact ⟨z, by simpa using h3, h4⟩

theorem mapM_length {α β : Type} {f : α → Option β} : ∀ {l : List α} {r : List β}, l.mapM f = some r → r.length = l.length
  | [], r, h => by simp at h; subst h; rfl
  | a :: l, r, h => by
    obtain ⟨y, ys, h1, h2, rfl⟩ := mapM_cons_some h
    simp [mapM_length h2]

theorem cell_lt {a : Addr} {v : Value} (h : w.cell? a = some v) : a.block < w.heap.size := by
  unfold World.cell? at h
  split at h
  · rename_i hb; exact block_lt hb
  · cases h

/-- The elements of a slice that came in. -/
theorem elems_rel {n : Nat} {e : TypeId} {ps : List Pat} {pe : Pat} {ag : Bool} (hp : patF P n e = some ps) (he : elemPat ag ps = some pe) {fuel b off len : Nat} {r : List (DataW H × List MemPlace)}
    (h : (List.range len).mapM (fun i => (w.cells? base ((⟨b, off, none⟩ : Addr).add (i * P.cellsOf e)) (P.cellsOf e)).bind (DataW.trod enc P w base spare held fuel e)) = some r) :
    ∀ (m i : Nat), i + m = len → ∃ es, RelE (allR w) w b (off + i * P.cellsOf e) (P.cellsOf e) es ∧ es.length = m ∧ ∀ x ∈ es, pe.fits x = true ∧ pe.wf (pe.decD x)
  | 0, i, _ => ⟨[], .nil, rfl, by simp⟩
  | m + 1, i, hi => by
    obtain ⟨es, h1, h2, h3⟩ := elems_rel hp he h m (i + 1) (by omega)
    obtain ⟨y, _, hy⟩ := mapM_get h i i (by rw [List.getElem?_range (by omega)])
    obtain ⟨cs, hc, hy⟩ := bind_some hy
    obtain ⟨as, q1, q2, q3⟩ := flat_rel (R := allR w) n hp hy
    obtain ⟨x, hx, f1, f2⟩ := elem_fit he q2
    have hcells : w.cells? base ((⟨b, off, none⟩ : Addr).add (i * P.cellsOf e)) (P.cellsOf e) = some cs := hc
    unfold World.cells? at hcells
    split at hcells
    · have hlen := mapM_length hcells
      rw [List.length_range] at hlen
      have hcl : x.cells = as ∧ x.notTup = true ∧ x.closed = true := by
        have hall := fit_tup hp q2
        cases ag with
        | true =>
          simp only [if_true] at hx
          subst hx
          refine ⟨rfl, rfl, ?_⟩
          show closedL as = true
          clear h1 h2 h3 q1 q2 f1 f2
          induction as with
          | nil => rfl
          | cons a as ih => simp only [closedL, Bool.and_eq_true]; exact ⟨(hall a (by simp)).2.2, ih (fun z hz => hall z (by simp [hz]))⟩
        | false =>
          simp only [Bool.false_eq_true, if_false] at hx
          subst hx
          obtain ⟨k1, k2, k3⟩ := hall x (by simp)
          exact ⟨k2, k1, k3⟩
      have hget : ∀ j v, cs[j]? = some v → w.cell? ⟨b, off + i * P.cellsOf e + j, none⟩ = some v := fun j v hv => by
        have hj : j < P.cellsOf e := by have := (List.getElem?_eq_some_iff.1 hv).1; omega
        obtain ⟨v', k1, k2⟩ := mapM_get hcells j j (by rw [List.getElem?_range hj])
        rw [hv] at k1
        cases k1
        rw [addr_add, addr_add] at k2
        exact k2
      refine ⟨x :: es, .cons ?_ hcl.2.1 hcl.2.2 ?_ ?_, by simp [h2], fun z hz => ?_⟩
      · rw [hcl.1, q1.length, hlen]
      · rw [hcl.1]
        refine RelC.make q1 q3 hget (fun j hj => ?_)
        have hj' : j < cs.length := by rw [← q1.length]; exact hj
        exact cell_lt (hget j cs[j] (List.getElem?_eq_getElem hj'))
      · rw [show off + i * P.cellsOf e + P.cellsOf e = off + (i + 1) * P.cellsOf e by rw [Nat.add_mul]; omega]
        exact h1
      · rcases List.mem_cons.1 hz with rfl | hz
        · exact ⟨f1, f2⟩
        · exact h3 z hz
    · cases hcells

theorem all_fit {pe : Pat} : ∀ {es : List AV}, (∀ x ∈ es, pe.fits x = true ∧ pe.wf (pe.decD x)) → allFit pe.fits es = true ∧ ∀ x ∈ es.map pe.decD, pe.wf x
  | [], _ => ⟨rfl, by simp⟩
  | a :: es, h => by
    obtain ⟨h1, h2⟩ := all_fit (es := es) fun x hx => h x (by simp [hx])
    refine ⟨by simp only [allFit, Bool.and_eq_true]; exact ⟨(h a (by simp)).1, h1⟩, fun x hx => ?_⟩
    rcases List.mem_cons.1 hx with rfl | hx
    · exact (h a (by simp)).2
    · exact h2 x hx

/-- An argument, by its leaves. -/
theorem arg_rel {n : Nat} {t : TypeId} {p : Pat} (hp : patV P n t = some p) {v : Value} {d : DataW H} {pl : List MemPlace} {r : Reach} {base' : Nat} (ht : DataW.Trod enc P w base spare held t v d pl) (hok : Value.okWide P w r base' t v) :
    ∃ x : p.T, Rel (allR w) w (p.enc x) v ∧ p.wf x := by
  obtain ⟨fuel, ht⟩ := ht
  have fin : ∀ {a : AV}, p.fits a = true → p.wf (p.decD a) → Rel (allR w) w a v → ∃ x : p.T, Rel (allR w) w (p.enc x) v ∧ p.wf x := fun {a} h1 h2 h3 => ⟨p.decD a, (p.fits_ok h1).weak _ _ _ h3, h2⟩
  unfold patV at hp
  split at hp
  · rename_i e hu
    split at hp
    · rename_i ps u h1 h2
      split at hp
      · rename_i pe h3
        cases hp
        unfold Value.okWide at hok
        rw [hu] at hok
        simp only at hok
        unfold Cell.okWide at hok
        rw [hu] at hok
        cases fuel with
        | zero => cases ht
        | succ fuel =>
        unfold DataW.trod at ht
        rw [hu] at ht
        cases v with
        | slice a len cap =>
          cases a with
          | none =>
            have hz : len = 0 ∧ cap = 0 := by
              cases len with
              | zero => cases cap with
                | zero => exact ⟨rfl, rfl⟩
                | succ _ => cases ht
              | succ _ => cases ht
            obtain ⟨rfl, rfl⟩ := hz
            exact ⟨([] : List pe.T), .lopn, Nat.zero_le _, by simp⟩
          | some a =>
            have hok' : len ≤ cap ∧ (cap : Int) ≤ IntKind.i64.max ∧ w.has P r base' a e cap := by
              have h := hok
              unfold Cell.ok at h
              rw [hu] at h
              exact h
            obtain ⟨hlc, _, _, hspot, _⟩ := hok'
            obtain ⟨b, off, spot⟩ := a
            have hspot : spot = none := hspot
            subst hspot
            have ht : (if base ≤ b ∧ len ≤ cap ∧ cap ≤ maxLen then
              ((List.range len).mapM (fun i => (w.cells? base ((⟨b, off, none⟩ : Addr).add (i * P.cellsOf e)) (P.cellsOf e)).bind (DataW.trod enc P w base spare held fuel e))).bind fun elems =>
                (if spare b then (List.range (cap - len)).mapM (fun j => (w.cells? base ((⟨b, off, none⟩ : Addr).add ((len + j) * P.cellsOf e)) (P.cellsOf e)).bind (DataW.trod enc P w base spare held fuel e)) else some []).map fun rest =>
                  (DataW.slice (elems.map (·.1)) (rest.map (·.1)), MemPlace.row ⟨b, off, none⟩ ((elems.length + rest.length) * P.cellsOf e) ++ (elems ++ rest).flatMap (·.2))
              else none) = some (d, pl) := ht
            split at ht
            · rename_i hc
              obtain ⟨elems, k1, _⟩ := bind_some ht
              obtain ⟨es, q1, q2, q3⟩ := elems_rel h1 h3 k1 len 0 (by omega)
              rw [Nat.zero_mul, Nat.add_zero] at q1
              obtain ⟨f1, f2⟩ := all_fit q3
              refine ⟨es.map pe.decD, list_weak (k := .opn) (fun v => pe.fits_ok) (.inr rfl) f1 _ _ _ (.list q1 q2.symm hc.2.1 trivial), ?_, f2⟩
              have : es.length ≤ maxLen := by rw [q2]; omega
              simpa using this
            · cases ht
        | _ => exact absurd hok (by simp [Cell.ok, hu])
      · cases hp
    · cases hp
  · rename_i u hne hu
    split at hp
    · rename_i ps h1
      obtain ⟨as, q1, q2, q3⟩ := flat_rel (R := allR w) n h1 ht
      obtain ⟨x, hx, f1, f2⟩ := elem_fit hp q2
      cases hag : Go.Am.aggD u with
      | true =>
        rw [hag] at hx
        simp only [if_true] at hx
        subst hx
        have : ∃ cs, v = .agg cs := by
          unfold Value.okWide at hok
          rw [hu] at hok
          cases u <;> first | (cases hag; done) | (obtain ⟨cs, h, _⟩ := hok; exact ⟨cs, h⟩)
        obtain ⟨⟨cs⟩, rfl⟩ := this
        exact fin f1 f2 (.agg q1 q3)
      | false =>
        rw [hag] at hx
        simp only [Bool.false_eq_true, if_false] at hx
        subst hx
        have hv : v.cells.toList = [v] := by
          cases v with
          | agg cs =>
            exfalso
            unfold Value.okWide at hok
            rw [hu] at hok
            cases u <;> first | (cases hag; done) | (simp [Cell.okWide, Cell.ok, hu] at hok)
          | _ => rfl
        rw [hv] at q1
        cases q1 with
        | cons q1 _ => exact fin f1 f2 q1
    · cases hp
  · cases hp

def patVs (P : Program) (n : Nat) : List TypeId → Option (List Pat)
  | [] => some []
  | t :: l => match patV P n t, patVs P n l with
    | some p, some r => some (p :: r)
    | _, _ => none

/-- All arguments, by their leaves. -/
theorem args_rel {n : Nat} {r : Reach} {base' : Nat} : ∀ {ts : List TypeId} {ps : List Pat} {vs : List Value} {ds : List (DataW H)} {pl : List MemPlace}, patVs P n ts = some ps → DataW.TrodAll enc P w base spare held ts vs ds pl →
    (∀ (j : Nat) t v, ts[j]? = some t → vs[j]? = some v → Value.okWide P w r base' t v) → ∃ x : (mkPats ps).T, RelL (allR w) w ((mkPats ps).enc x) vs ∧ (mkPats ps).wf x
  | [], ps, vs, ds, pl, hp, ht, _ => by
    simp only [patVs] at hp
    cases hp
    cases vs with
    | nil => exact ⟨(), .nil, trivial⟩
    | cons _ _ => cases ds <;> exact ht.elim
  | t :: ts, ps, vs, ds, pl, hp, ht, hok => by
    unfold patVs at hp
    split at hp
    · rename_i p r h1 h2
      cases hp
      cases vs with
      | nil => cases ds <;> exact ht.elim
      | cons v vs =>
        cases ds with
        | nil => exact ht.elim
        | cons d ds =>
          obtain ⟨p1, p2, k1, k2, _⟩ := ht
          obtain ⟨x, q1, q2⟩ := arg_rel h1 k1 (hok 0 t v rfl rfl)
          obtain ⟨y, q3, q4⟩ := args_rel h2 k2 (fun j t v hj hv => hok (j + 1) t v (by simpa using hj) (by simpa using hv))
          cases r with
          | nil =>
            cases q3
            exact ⟨x, .one q1, q2⟩
          | cons p' r => exact ⟨(x, y), .cons q1 q3, q2, q4⟩
    · cases hp

end read
end Go.Am
namespace Go.Am
open Go Go.RowKit Go.WideShapes Go.ChangeShapes

section
variable {H : Type} {enc : TypeId × Value → H} {P : Program}

theorem post_below {f : Func} {s : ChangeSpec} {apart fresh handsOn again : Bool} {W W' : World} {args : Array Value} {v : Value} {ds gs : List (DataW H)} {before pa pv : List MemPlace}
    (hW : DataW.Whole enc P f.params.toList s.vars apart W args.toList ds gs before)
    (hres : ∀ (b : Nat) (sp : Nat → Bool) (hd : Bool), DataW.TrodAll enc P W' b sp hd f.resultTypes.toList (v.resultList f.resultTypes.size) (s.fn H (ds ++ gs)).results [])
    (hargs : ∀ sp : Nat → Bool, (∀ p ∈ before, sp p.block = true) → DataW.TrodAll enc P W' 0 sp true f.params.toList args.toList (s.fn H (ds ++ gs)).args pa)
    (hvars : ∀ sp : Nat → Bool, (∀ p ∈ before, sp p.block = true) → DataW.TrodVars enc P W' sp s.vars (s.fn H (ds ++ gs)).vars pv)
    (hps : before = pa ++ pv) (hb : Below W.heap.size W W')
    (hok : ∀ (j : Nat) (t : TypeId) (r : Value), f.resultTypes[j]? = some t → (v.resultList f.resultTypes.size)[j]? = some r → Value.okWide P W' .any 0 t r) :
    s.post enc P f apart fresh handsOn again W args v W' := by
  have hlt : ∀ p ∈ before, p.block < W.heap.size := fun p hp => hW.lt p hp
  have hold : ∀ p ∈ before, (fun b => decide (b < W.heap.size)) p.block = true := fun p hp => by simpa using hlt p hp
  refine ⟨ds, gs, before, [], pa, pv, hW, hres _ _ _, hargs _ hold, hvars _ hold, World.keptBut_mono (fun p hp => ⟨hp, ?_⟩) (hb.frame (· ∈ before)), fun _ => ?_⟩
  · rw [hps, List.mem_append] at hp
    exact Or.inr hp
  · obtain ⟨_, _, _, _, _, hz, hn⟩ := hW
    refine ⟨hok, _, _, ([] ++ pa) ++ pv, ⟨[] ++ pa, pv, trodAll_append (hargs _ (fun _ _ => rfl)) (hres _ _ _), hvars _ (fun _ _ => rfl), rfl, ?_, ?_⟩, ?_⟩
    · intro b off hp
      have hin : MemPlace.cell b off ∈ before := by rw [hps]; simpa using hp
      rw [hb.frozen (hlt _ hin)]
      exact hz b off hin
    · intro ha
      have := hn ha
      rw [hps] at this
      simpa using this
    · intro p hp _
      rw [hps]
      simpa using hp

theorem trodAll_stays (hl : laidOutB P = true) {W W' : World} (hb : Below W.heap.size W W') {sp : Nat → Bool} : ∀ {ts : List TypeId} {vs : List Value} {ds : List (DataW H)} {pl : List MemPlace},
    (∀ t ∈ ts, P.readableRec t = true ∧ t < P.types.size) → DataW.TrodAll enc P W 0 (fun _ => true) true ts vs ds pl → (∀ p ∈ pl, p.block < W.heap.size) → (∀ p ∈ pl, sp p.block = true) →
    DataW.TrodAll enc P W' 0 sp true ts vs ds pl
  | [], [], [], _, _, h, _, _ => h
  | t :: ts, v :: vs, d :: ds, pl, hr, h, hlt, hsp => by
    obtain ⟨p, q, h1, h2, rfl⟩ := h
    refine ⟨p, q, ?_, trodAll_stays hl hb (fun t ht => hr t (by simp [ht])) h2 (fun x hx => hlt x (by simp [hx])) (fun x hx => hsp x (by simp [hx])), rfl⟩
    exact WideElems.Trod_stays hl (hr t (by simp)).1 (hr t (by simp)).2 h1 (fun x hx => hb.same (hlt x (by simp [hx]))) (fun x hx => hsp x (by simp [hx]))
  | [], [], _ :: _, _, _, h, _, _ => h.elim
  | [], _ :: _, _, _, _, h, _, _ => h.elim
  | _ :: _, [], _, _, _, h, _, _ => h.elim
  | _ :: _, _ :: _, [], _, _, h, _, _ => h.elim

/-- A law that is true of all leaves. -/
theorem law_calls {E : Env} {f : FuncId} {fn : Func} {s : ChangeSpec} {ps : List Pat} {apart fresh handsOn again : Bool} {W : World} {base : Nat} {args : Array Value} {ds gs : List (DataW H)} {before : List MemPlace} {n tb : Nat}
    (hent : ∀ x, (mkPats ps).wf x → PCalls E f ((mkPats ps).enc x) (fun r => r = .bool true)) (hpat : patVs E.P n fn.params.toList = some ps)
    (hval : ∀ (j : Nat) t v, fn.params[j]? = some t → args[j]? = some v → Value.okWide E.P W .any base t v)
    (hW : DataW.Whole enc E.P fn.params.toList s.vars apart W args.toList ds gs before) (hglob : ∀ g cs, E.glob g = some cs → RelC (allR W) W g 0 cs)
    (hvars : s.vars = []) (hsp : ∀ ds : List (DataW H), ds.length = fn.params.toList.length → s.fn H ds = { results := [.lit (.bool true)], args := ds })
    (hres : fn.resultTypes = #[tb]) (hub : E.P.underlying tb = some .bool) (hl : laidOutB E.P = true) (hr : ∀ t ∈ fn.params.toList, E.P.readableRec t = true ∧ t < E.P.types.size) :
    Calls E.P f args W fun e W' => ∃ v, e = .returned v ∧ s.post enc E.P fn apart fresh handsOn again W args v W' := by
  have hW0 := hW
  obtain ⟨p, q, hA, hV, rfl, hfz, hnd⟩ := hW
  obtain ⟨rfl, rfl⟩ : gs = [] ∧ q = [] := by
    rw [hvars] at hV
    cases gs with
    | nil => exact ⟨rfl, hV⟩
    | cons g r => exact absurd hV (by intro h; cases h)
  obtain ⟨x, hx, hwf⟩ := args_rel (n := n) hpat hA (r := .any) (base' := base) (fun j t v hj hv => hval j t v (by simpa using hj) (by simpa using hv))
  have hlen : ds.length = fn.params.toList.length := by
    clear hval hfz hnd hW0 hx hwf hsp hpat hr
    revert hA
    generalize fn.params.toList = ts
    generalize args.toList = vs
    generalize p = pl
    clear p
    intro hA
    induction ts generalizing vs ds pl with
    | nil => cases vs <;> cases ds <;> first | rfl | exact hA.elim
    | cons t ts ih =>
      cases vs with
      | nil => cases ds <;> exact hA.elim
      | cons v vs =>
        cases ds with
        | nil => exact hA.elim
        | cons d ds =>
          obtain ⟨p, q, _, h2, _⟩ := hA
          simp [ih vs q h2]
  have hG : RepG E (allR W) W [] := ⟨rfl, fun id go ro h => by simp [nth] at h, fun i j ri rj b h => by simp [allR, nth] at h, fun b o h => h, hglob⟩
  have hc := (hent x hwf [])
  refine (callsIn_wide.1 (hc.2 (allR W) W args.toList hG hx)).mono fun e W' he => ?_
  cases e with
  | panicked c => exact he.elim
  | outgrown => exact he.elim
  | returned c =>
    obtain ⟨r, G', R', ⟨_, rfl⟩, hrel, _, st⟩ := he
    cases hrel
    have hb : Below W.heap.size W W' := ⟨st.os, st.tape, st.output, st.size, fun k hk => st.keep k hk fun ho => by
      obtain ⟨id, ro, h1, _⟩ := own_noBox ho
      simp [allR, nth] at h1⟩
    have hlt : ∀ y ∈ p, y.block < W.heap.size := fun y hy => by simpa using hW0.lt y (by simpa using hy)
    have e1 : s.fn H (ds ++ []) = { results := [.lit (.bool true)], args := ds } := by rw [List.append_nil]; exact hsp ds hlen
    refine ⟨_, rfl, post_below (pa := p) (pv := []) hW0 ?_ ?_ ?_ rfl hb ?_⟩
    · intro b sp hd
      rw [e1, hres]
      exact trodAll_mk1 (shut_bool hub true)
    · intro sp hsp'
      rw [e1]
      exact trodAll_stays hl hb hr hA hlt (fun y hy => hsp' y (by simpa using hy))
    · intro sp _
      rw [e1, hvars]
      rfl
    · intro j t r hj hr'
      rw [hres] at hj hr'
      cases j with
      | succ j => simp at hj
      | zero =>
        simp at hj
        subst hj
        have : r = .bool true := by simpa [Value.resultList] using hr'.symm
        subst this
        simp [Value.okWide, Cell.okWide, Cell.ok, hub]

end
end Go.Am
namespace Go.Am
open Go

theorem mapM_nth {α β : Type} {f : α → Option β} : ∀ {l : List α} {r : List β}, l.mapM f = some r → r.length = l.length ∧ ∀ (i : Nat) (x : α), l[i]? = some x → ∃ y, r[i]? = some y ∧ f x = some y
  | [], r, h => by
    cases h
    exact ⟨rfl, fun i x h => by simp at h⟩
  | a :: l, r, h => by
    obtain ⟨y, ys, h1, h2, rfl⟩ := mapM_cons_some h
    obtain ⟨k1, k2⟩ := mapM_nth h2
    refine ⟨by simp [k1], fun i x hx => ?_⟩
    cases i with
    | zero =>
      simp at hx
      subst hx
      exact ⟨y, rfl, h1⟩
    | succ i => simpa using k2 i x (by simpa using hx)

section
variable {P : Program} {W : World}

theorem relC_ints {g : Nat} {cs : Array Value} {k : IntKind} (hg : g < W.heap.size) : ∀ (xs : List Int) (o : Nat), (∀ i, i < xs.length → W.cell? ⟨g, o + i, none⟩ = some (.int k (xs[i]?.getD 0))) → RelC (allR W) W g o (xs.map fun x => .int k x)
  | [], _, _ => .nil
  | x :: xs, o, h => .cons (h 0 (by simp)) rfl hg (.int k x) (relC_ints (cs := cs) hg xs (o + 1) fun i hi => by
      have := h (i + 1) (by simpa using hi)
      rw [show o + 1 + i = o + (i + 1) by omega]
      simpa using this)

/-- A laid array of numbers. -/
theorem laid_ints {nm : String} {xs : List Int} {k : IntKind} {g t e : Nat} {ps : List MemPlace} (h : DataW.LaidVars P W [(nm, .agg (xs.map fun x => .lit (.int k x)))] ps)
    (hg : P.globalNamed nm = some g) (ht : (P.globals[g]?).map (·.type) = some t) (hu : P.underlying t = some (.array xs.length e)) (he : P.underlying e = some (.int k)) (hc : P.cellsOf e = 1) (hct : P.cellsOf t = xs.length) (hx : 0 < xs.length) :
    RelC (allR W) W g 0 (xs.map fun x => .int k x) := by
  obtain ⟨g', t', cs, fuel, p, q, h1, h2, h3, h4, _, _⟩ := h
  obtain rfl : g = g' := Option.some.inj (hg.symm.trans h1)
  obtain rfl : t = t' := Option.some.inj (ht.symm.trans h2)
  cases fuel with
  | zero => simp [DataW.trod] at h4
  | succ fuel =>
    unfold DataW.trod at h4
    simp only [hu, hc, Nat.mul_one] at h4
    split at h4
    · rename_i hlen
      rw [hct] at hlen
      cases hm : (List.range xs.length).mapM fun i => DataW.trod (fun _ => ()) P W 0 (fun _ => true) false fuel e ((cs.toList.drop i).take 1) with
      | none => rw [hm] at h4; cases h4
      | some ys =>
        rw [hm] at h4
        have h5 : DataW.agg (ys.map (·.1)) = DataW.agg (xs.map fun x => DataW.lit (.int k x)) := congrArg Prod.fst (Option.some.inj h4)
        have h6 : ys.map (·.1) = xs.map fun x => DataW.lit (.int k x) := by injection h5
        obtain ⟨k1, k2⟩ := mapM_nth hm
        have hcell : ∀ i, i < xs.length → W.cell? ⟨g, i, none⟩ = some (.int k (xs[i]?.getD 0)) := fun i hi => by
          have hi' : i < cs.toList.length := by omega
          rw [Go.World.var?_cell hg h3 i]
          obtain ⟨y, e1, e2⟩ := k2 i i (by rw [List.getElem?_eq_getElem (by simpa using hi)]; simp)
          have e3 : y.1 = DataW.lit (.int k (xs[i]?.getD 0)) := by
            have := congrArg (fun l => l[i]?) h6
            simp only [List.getElem?_map, e1, Option.map_some] at this
            rw [List.getElem?_eq_getElem hi] at this ⊢
            simpa using this
          have e4 : (cs.toList.drop i).take 1 = [cs.toList[i]] := by
            rw [List.drop_eq_getElem_cons hi']
            rfl
          rw [e4] at e2
          have e5 : cs[i]? = some cs.toList[i] := by
            rw [← Array.getElem?_toList, List.getElem?_eq_getElem hi']
          rw [e5]
          generalize cs.toList[i] = c at e2
          cases fuel with
          | zero => simp [DataW.trod] at e2
          | succ fuel =>
            unfold DataW.trod at e2
            simp only [he] at e2
            cases c <;> simp at e2
            obtain ⟨⟨rfl, _⟩, rfl⟩ := e2
            injection e3 with e3
            injection e3 with _ e3
            rw [e3]
        have hgs : g < W.heap.size := by
          have h0 := hcell 0 hx
          unfold World.cell? at h0
          split at h0
          · rename_i hh
            exact (Array.getElem?_eq_some_iff.1 hh).1
          · cases h0
        exact relC_ints (cs := cs) hgs xs 0 fun i hi => by simpa using hcell i hi
    · cases h4
end
end Go.Am
namespace Go.Am
open Go

theorem allFit_append (f : AV → Bool) (a b : List AV) : allFit f (a ++ b) = (allFit f a && allFit f b) := by
  induction a with
  | nil => rfl
  | cons x l ih => simp [allFit, ih, Bool.and_assoc]
theorem allFit_one (f : AV → Bool) (a : AV) : allFit f [a] = f a := by simp [allFit]
theorem allFit_nil (f : AV → Bool) : allFit f [] = true := rfl
theorem allFit_encs {p : Pat} (hp : p.plain = true) (l : List p.T) : allFit p.fits (List.map p.enc l) = true := by
  induction l with
  | nil => rfl
  | cons x l ih => simp [allFit, ih, (p.fits_enc x hp).1]
theorem map_decs {p : Pat} (hp : p.plain = true) (l : List p.T) : List.map p.decD (List.map p.enc l) = l := by
  induction l with
  | nil => rfl
  | cons x l ih => simp [ih, (p.fits_enc x hp).2]
theorem nthD_get {α : Type} (g : α → AV) (xs : List α) (k : Nat) (h : k < xs.length) : nthD (xs.map g) k = g xs[k] := by
  unfold nthD
  rw [nth_eq, List.getElem?_map, List.getElem?_eq_getElem h]
  rfl

theorem loopR_next {V X : Type} (rd : V → Option (V ⊕ X)) (n : Nat) (v : V) : loopR rd (n + 1) v = (rd v).bind fun o => Sum.elim (fun v' => loopR rd n v') (fun x => some x) o := rfl

/-- A loop whose rounds keep an invariant and come nearer to the end. -/
theorem loopR_inv {V X : Type} {rd : V → Option (V ⊕ X)} {Inv : V → Prop} {m : V → Nat} {Post : X → Prop}
    (h : ∀ v, Inv v → (∃ v', rd v = some (.inl v') ∧ Inv v' ∧ m v' < m v) ∨ ∃ x, rd v = some (.inr x) ∧ Post x) :
    ∀ (n : Nat) (v : V), Inv v → m v < n → ∃ x, loopR rd n v = some x ∧ Post x
  | 0, _, _, hm => absurd hm (Nat.not_lt_zero _)
  | n + 1, v, hi, hm => by
    rw [loopR_next]
    rcases h v hi with ⟨v', h1, h2, h3⟩ | ⟨x, h1, h2⟩
    · rw [h1]
      exact loopR_inv h n v' h2 (by omega)
    · rw [h1]
      exact ⟨x, rfl, h2⟩

/-- Two loops whose states go together. -/
theorem loopR_pair {V V' X X' : Type} {rd : V → Option (V ⊕ X)} {rd' : V' → Option (V' ⊕ X')} {Inv : V → V' → Prop} {m : V → Nat} {Post : X → X' → Prop}
    (h : ∀ v u, Inv v u → (∃ v' u', rd v = some (.inl v') ∧ rd' u = some (.inl u') ∧ Inv v' u' ∧ m v' < m v) ∨ ∃ x y, rd v = some (.inr x) ∧ rd' u = some (.inr y) ∧ Post x y) :
    ∀ (n : Nat) (v : V) (u : V'), Inv v u → m v < n → ∃ x y, loopR rd n v = some x ∧ loopR rd' n u = some y ∧ Post x y
  | 0, _, _, _, hm => absurd hm (Nat.not_lt_zero _)
  | n + 1, v, u, hi, hm => by
    rw [loopR_next, loopR_next]
    rcases h v u hi with ⟨v', u', h1, h1', h2, h3⟩ | ⟨x, y, h1, h1', h2⟩
    · rw [h1, h1']
      exact loopR_pair h n v' u' h2 (by omega)
    · rw [h1, h1']
      exact ⟨x, y, rfl, rfl, h2⟩
end Go.Am
