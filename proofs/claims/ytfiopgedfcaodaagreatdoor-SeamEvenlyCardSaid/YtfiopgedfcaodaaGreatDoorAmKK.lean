/- The abstract machine: what a call's arguments read as. -/
import Derived.Test.YtfiopgedfcaodaaGreatDoorAmKJ
import GoSem.ClaimJoined
import Derived.Below
import Derived.ChangeSame
import Derived.Carry
import Derived.RowKit
import Derived.FnData
import Derived.Lib.Builder
import Derived.Lib.UnsafeStr
import Derived.Shelf.Strings.Builder1
import Derived.IntWalk
set_option linter.all false
namespace Go.Am
open Go

/-- All cells that are there. -/
def allR (w : World) : Realm := ⟨fun b _ => b < w.heap.size, []⟩

mutual
/-- Leaves that a machine can hold. -/
def Pat.wf : (p : Pat) → p.T → Prop
  | .int k, (n : Int) => k.min ≤ n ∧ n ≤ k.max
  | .bool, _ => True
  | .str, (s : List UInt8) => s.length ≤ maxLen
  | .agg ps, x => ps.wf x
  | .tup ps, x => ps.wf x
  | .list _ p, (xs : List p.T) => xs.length ≤ maxLen ∧ ∀ x ∈ xs, p.wf x
  | .own _ _ p, (xs : List p.T) => xs.length ≤ maxLen ∧ ∀ x ∈ xs, p.wf x
  | .cst _, _ => True
  | .two _ _, _ => True
def Pats.wf : (ps : Pats) → ps.T → Prop
  | .nil, _ => True
  | .cons p .nil, x => p.wf x
  | .cons p (.cons q ps), x => p.wf x.1 ∧ (Pats.cons q ps).wf x.2
end

def mkPats : List Pat → Pats
  | [] => .nil
  | p :: l => .cons p (mkPats l)

/-- The forms of several parts, one after the other. -/
def patS {β : Type} (g : β → Option (List Pat)) : List β → Option (List Pat)
  | [] => some []
  | x :: l => match g x, patS g l with
    | some a, some b => some (a ++ b)
    | _, _ => none

/-- Whether the parts lie one after the other: where they end. -/
def tiles {β : Type} (off len : β → Nat) : Nat → List β → Option Nat
  | o, [] => some o
  | o, x :: l => bif Nat.beq (off x) o then tiles off len (o + len x) l else none

def isSome (n : Nat) : Option Nat → Bool
  | some m => Nat.beq m n
  | none => false

/-- The form of an element with these cells. -/
def elemPat (ag : Bool) (ps : List Pat) : Option Pat := match ag, ps with
  | true, ps => some (.agg (mkPats ps))
  | false, [p] => some p
  | _, _ => none

/-- The forms of a type's cells, if it holds numbers, truth values, strings and slices of such alone. -/
def patF (P : Program) : Nat → TypeId → Option (List Pat)
  | 0, _ => none
  | n + 1, t => match P.underlying t with
    | some .bool => some [.bool]
    | some (.int k) => some [.int k]
    | some .string => some [.str]
    | some (.slice e) => match patF P n e, P.underlying e with
      | some ps, some u => match elemPat (Go.Am.aggD u) ps with
        | some pe => bif Nat.blt 0 (P.cellsOf e) then some [.list (P.cellsOf e) pe] else none
        | none => none
      | _, _ => none
    | some (.struct fs) => bif isSome (P.cellsOf t) (tiles Field.offset (fun f => P.cellsOf f.type) 0 fs.toList) then patS (fun f => patF P n f.type) fs.toList else none
    | some (.array m e) => bif isSome (P.cellsOf t) (tiles (fun i => i * P.cellsOf e) (fun _ => P.cellsOf e) 0 (List.range m)) then patS (fun _ => patF P n e) (List.range m) else none
    | _ => none

/-- A value of one cell that mentions no object. -/
def Leaf (a : AV) : Prop := a.notTup = true ∧ a.cells = [a] ∧ a.closed = true

/-- These values have these forms. -/
def FitF : List Pat → List AV → Prop
  | [], [] => True
  | p :: ps, a :: ags => p.fits a = true ∧ (p.wf (p.decD a) ∧ Leaf a) ∧ FitF ps ags
  | _, _ => False

theorem FitF.append : ∀ {ps qs : List Pat} {ags bs : List AV}, FitF ps ags → FitF qs bs → FitF (ps ++ qs) (ags ++ bs)
  | [], _, [], _, _, h => h
  | _ :: _, _, _ :: _, _, k, h => ⟨k.1, k.2.1, FitF.append k.2.2 h⟩
  | [], _, _ :: _, _, h, _ => h.elim
  | _ :: _, _, [], _, h, _ => h.elim

theorem FitF.mk : ∀ {ps : List Pat} {ags : List AV}, FitF ps ags → (mkPats ps).fits ags = true ∧ (mkPats ps).wf ((mkPats ps).decD ags)
  | [], [], _ => ⟨rfl, trivial⟩
  | [p], [a], h => ⟨by
      change (p.fits a && (List.isEmpty ([] : List AV))) = true
      rw [h.1]
      rfl, h.2.1.1⟩
  | p :: q :: ps, a :: ags, h => by
    obtain ⟨h1, h2⟩ := FitF.mk (ps := q :: ps) h.2.2
    refine ⟨?_, h.2.1.1, h2⟩
    change (p.fits a && (mkPats (q :: ps)).fits ags) = true
    rw [h.1, h1]
    rfl
  | [], _ :: _, h => h.elim
  | _ :: _, [], h => h.elim
  | [_], _ :: _ :: _, h => h.2.2.elim

theorem elem_fit {ag : Bool} {ps : List Pat} {pe : Pat} (h : elemPat ag ps = some pe) {ags : List AV} (hf : FitF ps ags) :
    ∃ e, (if ag then e = .agg ags else ags = [e]) ∧ pe.fits e = true ∧ pe.wf (pe.decD e) := by
  unfold elemPat at h
  split at h
  · cases h
    obtain ⟨h1, h2⟩ := hf.mk
    exact ⟨.agg ags, rfl, h1, h2⟩
  · rename_i p
    cases h
    match ags, hf with
    | [a], hf => exact ⟨a, rfl, hf.1, hf.2.1.1⟩
    | [], hf => exact hf.elim
    | _ :: _ :: _, hf => exact hf.2.2.elim
  · cases h

theorem fit_tup : ∀ {ps : List Pat} {ags : List AV}, FitF ps ags → ∀ a ∈ ags, a.notTup = true ∧ a.cells = [a] ∧ a.closed = true
  | [], [], _, a, ha => by simp at ha
  | _ :: _, b :: ags, hf, a, ha => by
    rcases List.mem_cons.1 ha with rfl | ha
    · exact hf.2.1.2
    · exact fit_tup hf.2.2 a ha
  | [], _ :: _, h, _, _ => h.elim
  | _ :: _, [], h, _, _ => h.elim

theorem all_fit {pe : Pat} : ∀ {es : List AV}, (∀ x ∈ es, pe.fits x = true ∧ pe.wf (pe.decD x)) → allFit pe.fits es = true ∧ ∀ x ∈ es.map pe.decD, pe.wf x
  | [], _ => ⟨rfl, by simp⟩
  | a :: es, h => by
    obtain ⟨h1, h2⟩ := all_fit (es := es) fun x hx => h x (by simp [hx])
    refine ⟨by simp only [allFit, Bool.and_eq_true]; exact ⟨(h a (by simp)).1, h1⟩, fun x hx => ?_⟩
    rcases List.mem_cons.1 hx with rfl | hx
    · exact (h a (by simp)).2
    · exact h2 x hx

section read
variable {H : Type} {enc : TypeId × Value → H} {P : Program} {w : World} {R : Realm} {base : Nat} {spare : Nat → Bool} {held : Bool}

theorem mapM_cons_some {α β : Type} {f : α → Option β} {x : α} {l : List α} {r : List β} (h : (x :: l).mapM f = some r) : ∃ y ys, f x = some y ∧ l.mapM f = some ys ∧ r = y :: ys := by
  rw [List.mapM_cons] at h
  cases hx : f x with
  | none => rw [hx] at h; cases h
  | some y =>
    rw [hx] at h
    cases hl : l.mapM f with
    | none => rw [hl] at h; cases h
    | some ys => rw [hl] at h; cases h; exact ⟨y, ys, rfl, rfl, rfl⟩

/-- Parts one after the other. -/
theorem segs_rel {β : Type} {off len : β → Nat} {g : β → Option (List Pat)} {cs : List Value} {f : β → Option (DataW H × List MemPlace)}
    (hf : ∀ x ps y, g x = some ps → f x = some y → ∃ ags, RelL R w ags ((cs.drop (off x)).take (len x)) ∧ FitF ps ags ∧ ∀ v ∈ (cs.drop (off x)).take (len x), v.oneCell' = true) :
    ∀ {L : List β} {o m : Nat} {ps : List Pat} {ys : List (DataW H × List MemPlace)}, tiles off len o L = some m → patS g L = some ps → L.mapM f = some ys →
      o ≤ m ∧ ∃ ags, RelL R w ags ((cs.drop o).take (m - o)) ∧ FitF ps ags ∧ ∀ v ∈ (cs.drop o).take (m - o), v.oneCell' = true
  | [], o, m, ps, ys, ht, hp, _ => by
    simp only [tiles] at ht
    simp only [patS] at hp
    cases ht; cases hp
    exact ⟨Nat.le_refl _, [], by simpa using RelL.nil, trivial, by simp⟩
  | x :: L, o, m, ps, ys, ht, hp, hm => by
    unfold tiles at ht
    cases hb : Nat.beq (off x) o with
    | false => rw [hb] at ht; cases ht
    | true =>
      rw [hb] at ht
      have hb := Nat.eq_of_beq_eq_true hb
      unfold patS at hp
      split at hp
      · rename_i pa pb h1 h2
        cases hp
        obtain ⟨y, ys', k1, k2, rfl⟩ := mapM_cons_some hm
        obtain ⟨ags, q1, q2, q3⟩ := hf x pa y h1 k1
        obtain ⟨hle, bs, r1, r2, r3⟩ := segs_rel hf (show tiles off len (o + len x) L = some m from ht) h2 k2
        have e : (cs.drop o).take (m - o) = (cs.drop (off x)).take (len x) ++ (cs.drop (o + len x)).take (m - (o + len x)) := by
          rw [hb, show m - o = len x + (m - (o + len x)) by omega, List.take_add, List.drop_drop]
        rw [e]
        refine ⟨by omega, ags ++ bs, q1.append r1, q2.append r2, fun v hv => ?_⟩
        rcases List.mem_append.1 hv with hv | hv
        · exact q3 v hv
        · exact r3 v hv
      · cases hp

theorem mapM_get {α β : Type} {f : α → Option β} : ∀ {l : List α} {r : List β}, l.mapM f = some r → ∀ (i : Nat) (x : α), l[i]? = some x → ∃ y, r[i]? = some y ∧ f x = some y
  | [], r, _, i, x, hx => by simp at hx
  | a :: l, r, h, i, x, hx => by
    obtain ⟨y, ys, h1, h2, rfl⟩ := mapM_cons_some h
    cases i with
    | zero => simp at hx; subst hx; exact ⟨y, by simp, h1⟩
    | succ i => obtain ⟨z, h3, h4⟩ := mapM_get h2 i x (by simpa using hx); exact ⟨z, by simpa using h3, h4⟩

theorem mapM_length {α β : Type} {f : α → Option β} : ∀ {l : List α} {r : List β}, l.mapM f = some r → r.length = l.length
  | [], r, h => by simp at h; subst h; rfl
  | a :: l, r, h => by
    obtain ⟨y, ys, h1, h2, rfl⟩ := mapM_cons_some h
    simp [mapM_length h2]

theorem cell_lt {a : Addr} {v : Value} (h : w.cell? a = some v) : a.block < w.heap.size := by
  unfold World.cell? at h
  split at h
  · rename_i hb; exact block_lt hb
  · cases h

/-- The elements of a slice that came in. -/
theorem elems_rel {e : TypeId} {ps : List Pat} {pe : Pat} {ag : Bool} {fuel : Nat} (hp : ∀ (cs : List Value) (y : DataW H × List MemPlace), DataW.trod enc P w base spare held fuel e cs = some y → ∃ ags, RelL (allR w) w ags cs ∧ FitF ps ags ∧ ∀ v ∈ cs, v.oneCell' = true) (he : elemPat ag ps = some pe) {b off len : Nat} {r : List (DataW H × List MemPlace)}
    (h : (List.range len).mapM (fun i => (w.cells? base ((⟨b, off, none⟩ : Addr).add (i * P.cellsOf e)) (P.cellsOf e)).bind (DataW.trod enc P w base spare held fuel e)) = some r) :
    ∀ (m i : Nat), i + m = len → ∃ es, RelE (allR w) w b (off + i * P.cellsOf e) (P.cellsOf e) es ∧ es.length = m ∧ ∀ x ∈ es, pe.fits x = true ∧ pe.wf (pe.decD x)
  | 0, i, _ => ⟨[], .nil, rfl, by simp⟩
  | m + 1, i, hi => by
    obtain ⟨es, h1, h2, h3⟩ := elems_rel hp he h m (i + 1) (by omega)
    obtain ⟨y, _, hy⟩ := mapM_get h i i (by rw [List.getElem?_range (by omega)])
    obtain ⟨cs, hc, hy⟩ := bind_some hy
    obtain ⟨ags, q1, q2, q3⟩ := hp _ _ hy
    obtain ⟨x, hx, f1, f2⟩ := elem_fit he q2
    have hcells : w.cells? base ((⟨b, off, none⟩ : Addr).add (i * P.cellsOf e)) (P.cellsOf e) = some cs := hc
    unfold World.cells? at hcells
    split at hcells
    · have hlen := mapM_length hcells
      rw [List.length_range] at hlen
      have hcl : x.cells = ags ∧ x.notTup = true ∧ x.closed = true := by
        have hall := fit_tup q2
        cases ag with
        | true =>
          simp only [if_true] at hx
          subst hx
          refine ⟨rfl, rfl, ?_⟩
          show closedL ags = true
          clear h1 h2 h3 q1 q2 f1 f2
          induction ags with
          | nil => rfl
          | cons a ags ih => simp only [closedL, Bool.and_eq_true]; exact ⟨(hall a (by simp)).2.2, ih (fun z hz => hall z (by simp [hz]))⟩
        | false =>
          simp only [Bool.false_eq_true, if_false] at hx
          subst hx
          obtain ⟨k1, k2, k3⟩ := hall x (by simp)
          exact ⟨k2, k1, k3⟩
      have hget : ∀ j v, cs[j]? = some v → w.cell? ⟨b, off + i * P.cellsOf e + j, none⟩ = some v := fun j v hv => by
        have hj : j < P.cellsOf e := by have := (List.getElem?_eq_some_iff.1 hv).1; omega
        obtain ⟨v', k1, k2⟩ := mapM_get hcells j j (by rw [List.getElem?_range hj])
        rw [hv] at k1
        cases k1
        rw [addr_add, addr_add] at k2
        exact k2
      refine ⟨x :: es, .cons ?_ hcl.2.1 hcl.2.2 ?_ ?_, by simp [h2], fun z hz => ?_⟩
      · rw [hcl.1, q1.length, hlen]
      · rw [hcl.1]
        refine RelC.make q1 q3 hget (fun j hj => ?_)
        have hj' : j < cs.length := by rw [← q1.length]; exact hj
        exact cell_lt (hget j cs[j] (List.getElem?_eq_getElem hj'))
      · rw [show off + i * P.cellsOf e + P.cellsOf e = off + (i + 1) * P.cellsOf e by rw [Nat.add_mul]; omega]
        exact h1
      · rcases List.mem_cons.1 hz with rfl | hz
        · exact ⟨f1, f2⟩
        · exact h3 z hz
    · cases hcells

/-- A type of numbers, truth values, strings and slices. -/
theorem flat_rel (hsp : ∀ b, spare b = true) : ∀ (n : Nat) {t : TypeId} {ps : List Pat}, patF P n t = some ps → ∀ {fuel : Nat} {cs : List Value} {y : DataW H × List MemPlace}, DataW.trod enc P w base spare held fuel t cs = some y →
    ∃ ags, RelL (allR w) w ags cs ∧ FitF ps ags ∧ ∀ v ∈ cs, v.oneCell' = true
  | 0, _, _, h, _, _, _, _ => by cases h
  | n + 1, t, ps, h, 0, _, _, hy => by cases hy
  | n + 1, t, ps, h, fuel + 1, cs, y, hy => by
    unfold patF at h
    unfold DataW.trod at hy
    split at h
    · rename_i hu
      cases h
      rw [hu] at hy
      cases cs with
      | nil => cases hy
      | cons v l =>
        cases l with
        | cons v2 l => (cases v <;> first | (cases hy; done) | (rename_i a; cases a <;> cases hy; done) | (rename_i a b; cases a <;> cases hy; done) | (rename_i a b c; cases a <;> first | (cases hy; done) | (cases b <;> first | (cases hy; done) | (cases c <;> cases hy))))
        | nil =>
          cases v with
          | bool b => exact ⟨[.bool b], .one (.bool b), ⟨rfl, ⟨trivial, rfl, rfl, rfl⟩, trivial⟩, by simp [Value.oneCell']⟩
          | pointer a => cases a <;> cases hy
          | slice a b c => cases a <;> first | (cases hy; done) | (cases b <;> first | (cases hy; done) | (cases c <;> cases hy))
          | map a => cases a <;> cases hy
          | chan a => cases a <;> cases hy
          | _ => cases hy
    · rename_i k hu
      cases h
      rw [hu] at hy
      cases cs with
      | nil => cases hy
      | cons v l =>
        cases l with
        | cons v2 l => (cases v <;> first | (cases hy; done) | (rename_i a; cases a <;> cases hy; done) | (rename_i a b; cases a <;> cases hy; done) | (rename_i a b c; cases a <;> first | (cases hy; done) | (cases b <;> first | (cases hy; done) | (cases c <;> cases hy))))
        | nil =>
          cases v with
          | int k' i =>
            have hy : (if k' = k ∧ (Lit.int k i).wf = true then some (.lit (.int k i), []) else none) = some y := hy
            split at hy
            · rename_i hc
              obtain ⟨rfl, hw⟩ := hc
              exact ⟨[.int k' i], .one (.int k' i), ⟨decide_eq_true rfl, ⟨by have h := hw; simp [Lit.wf] at h; exact h, rfl, rfl, rfl⟩, trivial⟩, by simp [Value.oneCell']⟩
            · cases hy
          | pointer a => cases a <;> cases hy
          | slice a b c => cases a <;> first | (cases hy; done) | (cases b <;> first | (cases hy; done) | (cases c <;> cases hy))
          | map a => cases a <;> cases hy
          | chan a => cases a <;> cases hy
          | _ => cases hy
    · rename_i hu
      cases h
      rw [hu] at hy
      cases cs with
      | nil => cases hy
      | cons v l =>
        cases l with
        | cons v2 l => (cases v <;> first | (cases hy; done) | (rename_i a; cases a <;> cases hy; done) | (rename_i a b; cases a <;> cases hy; done) | (rename_i a b c; cases a <;> first | (cases hy; done) | (cases b <;> first | (cases hy; done) | (cases c <;> cases hy))))
        | nil =>
          cases v with
          | string s =>
            have hy : (if s.size ≤ maxLen then some (.lit (.string s.data.toList), []) else none) = some y := hy
            split at hy
            · rename_i hc
              exact ⟨[.str s.data.toList], .one (.str s.data.toList), ⟨rfl, ⟨by simpa [Pat.wf, Pat.decD, AV.strD] using hc, rfl, rfl, rfl⟩, trivial⟩, by simp [Value.oneCell']⟩
            · cases hy
          | pointer a => cases a <;> cases hy
          | slice a b c => cases a <;> first | (cases hy; done) | (cases b <;> first | (cases hy; done) | (cases c <;> cases hy))
          | map a => cases a <;> cases hy
          | chan a => cases a <;> cases hy
          | _ => cases hy
    · rename_i e hu
      rw [hu] at hy
      split at h
      · rename_i ps' u h1 h2
        split at h
        · rename_i pe h3
          obtain ⟨hz, h⟩ := cond_some h
          cases h
          have hz := Nat.le_of_ble_eq_true hz
          cases cs with
          | nil => cases hy
          | cons v l =>
            cases l with
            | cons v2 l => (cases v <;> first | (cases hy; done) | (rename_i a; cases a <;> cases hy; done) | (rename_i a b; cases a <;> cases hy; done) | (rename_i a b c; cases a <;> first | (cases hy; done) | (cases b <;> first | (cases hy; done) | (cases c <;> cases hy))))
            | nil =>
              cases v with
              | slice a len cap =>
                cases a with
                | none =>
                  have hz : len = 0 ∧ cap = 0 := by
                    cases len with
                    | zero => cases cap with
                      | zero => exact ⟨rfl, rfl⟩
                      | succ _ => cases hy
                    | succ _ => cases hy
                  obtain ⟨rfl, rfl⟩ := hz
                  exact ⟨[.list .opn (P.cellsOf e) []], .one .lopn, ⟨by simp [Pat.fits, allFit], ⟨⟨Nat.zero_le _, fun x hx => by change x ∈ ([] : List pe.T) at hx; cases hx⟩, rfl, rfl, rfl⟩, trivial⟩, by simp [Value.oneCell']⟩
                | some a =>
                  have hy : (if base ≤ a.block ∧ len ≤ cap ∧ cap ≤ maxLen then
                    ((List.range len).mapM (fun i => (w.cells? base (a.add (i * P.cellsOf e)) (P.cellsOf e)).bind (DataW.trod enc P w base spare held fuel e))).bind fun elems =>
                      (if spare a.block then (List.range (cap - len)).mapM (fun j => (w.cells? base (a.add ((len + j) * P.cellsOf e)) (P.cellsOf e)).bind (DataW.trod enc P w base spare held fuel e)) else some []).map fun rest =>
                        (DataW.slice (elems.map (·.1)) (rest.map (·.1)), MemPlace.row a ((elems.length + rest.length) * P.cellsOf e) ++ (elems ++ rest).flatMap (·.2))
                    else none) = some y := hy
                  split at hy
                  · rename_i hc
                    obtain ⟨elems, k1, hy⟩ := bind_some hy
                    rw [if_pos (hsp _)] at hy
                    by_cases hcap : cap = 0
                    · subst hcap
                      have hl0 : len = 0 := Nat.le_zero.1 hc.2.1
                      subst hl0
                      exact ⟨[.list .opn (P.cellsOf e) []], .one .lemp, ⟨by simp [Pat.fits, allFit], ⟨⟨Nat.zero_le _, fun x hx => by change x ∈ ([] : List pe.T) at hx; cases hx⟩, rfl, rfl, rfl⟩, trivial⟩, by simp [Value.oneCell']⟩
                    · have hspot : a.spot = none := by
                        have hany : ∃ y, (w.cells? base (a.add (0 * P.cellsOf e)) (P.cellsOf e)).bind (DataW.trod enc P w base spare held fuel e) = some y := by
                          by_cases hl0 : len = 0
                          · subst hl0
                            cases hr : (List.range (cap - 0)).mapM (fun j => (w.cells? base (a.add ((0 + j) * P.cellsOf e)) (P.cellsOf e)).bind (DataW.trod enc P w base spare held fuel e)) with
                            | none => rw [hr] at hy; cases hy
                            | some r =>
                              obtain ⟨z, _, hz⟩ := mapM_get hr 0 0 (by rw [List.getElem?_range (by omega)])
                              exact ⟨z, hz⟩
                          · obtain ⟨z, _, hz⟩ := mapM_get k1 0 0 (by rw [List.getElem?_range (by omega)])
                            exact ⟨z, hz⟩
                        obtain ⟨z, hz'⟩ := hany
                        obtain ⟨cs, hcs, _⟩ := bind_some hz'
                        unfold World.cells? at hcs
                        split at hcs
                        · obtain ⟨v, _, hv⟩ := mapM_get hcs 0 0 (by rw [List.getElem?_range (by omega)])
                          rw [Nat.zero_mul] at hv
                          unfold World.cell? at hv
                          split at hv
                          · split at hv
                            · cases hv
                            · rename_i hs
                              simpa [Addr.add] using hs
                          · cases hv
                        · cases hcs
                      obtain ⟨b, off, spot⟩ := a
                      have hspot : spot = none := hspot
                      subst hspot
                      obtain ⟨es, q1, q2, q3⟩ := elems_rel (fun cs y hy => flat_rel hsp n h1 hy) h3 k1 len 0 (by omega)
                      rw [Nat.zero_mul, Nat.add_zero] at q1
                      obtain ⟨f1, f2⟩ := all_fit q3
                      refine ⟨[.list .opn (P.cellsOf e) es], .one (.list q1 q2.symm hc.2.1 trivial), ⟨?_, ⟨⟨?_, f2⟩, rfl, rfl, rfl⟩, trivial⟩, by simp [Value.oneCell']⟩
                      · simp only [Pat.fits, Bool.and_eq_true, Bool.or_eq_true]
                        exact ⟨.inl (Nat.beq_refl _), f1⟩
                      · have : es.length ≤ maxLen := by rw [q2]; omega
                        show (es.map pe.decD).length ≤ maxLen
                        rw [List.length_map]
                        exact this
                  · cases hy
              | pointer a => cases a <;> cases hy
              | map a => cases a <;> cases hy
              | chan a => cases a <;> cases hy
              | _ => cases hy
        · cases h
      · cases h
    · rename_i fs hu
      rw [hu] at hy
      have hy : (if cs.length = P.cellsOf t then (fs.toList.mapM fun f => DataW.trod enc P w base spare held fuel f.type ((cs.drop f.offset).take (P.cellsOf f.type))).map fun xs => (.agg (xs.map (·.1)), xs.flatMap (·.2)) else none) = some y := hy
      split at hy
      · rename_i hl
        obtain ⟨h1, h2⟩ := cond_some h
        cases hm : fs.toList.mapM fun f => DataW.trod enc P w base spare held fuel f.type ((cs.drop f.offset).take (P.cellsOf f.type)) with
        | none => rw [hm] at hy; cases hy
        | some ys =>
          cases ht : tiles Field.offset (fun f => P.cellsOf f.type) 0 fs.toList with
          | none => rw [ht] at h1; cases h1
          | some m =>
            rw [ht] at h1
            have h1 := Nat.eq_of_beq_eq_true (show Nat.beq m (P.cellsOf t) = true from h1)
            obtain ⟨_, ags, q1, q2, q3⟩ := segs_rel (R := allR w) (w := w) (off := Field.offset) (len := fun f => P.cellsOf f.type) (cs := cs) (fun x ps y hx hy' => flat_rel hsp n hx hy') ht h2 hm
            rw [h1, ← hl] at q1 q3
            simp only [List.drop_zero, Nat.sub_zero, List.take_length] at q1 q3
            exact ⟨ags, q1, q2, q3⟩
      · cases hy
    · rename_i m e hu
      rw [hu] at hy
      have hy : (if cs.length = P.cellsOf t then ((List.range m).mapM fun i => DataW.trod enc P w base spare held fuel e ((cs.drop (i * P.cellsOf e)).take (P.cellsOf e))).map fun xs => (.agg (xs.map (·.1)), xs.flatMap (·.2)) else none) = some y := hy
      split at hy
      · rename_i hl
        obtain ⟨h1, h2⟩ := cond_some h
        cases hm : (List.range m).mapM fun i => DataW.trod enc P w base spare held fuel e ((cs.drop (i * P.cellsOf e)).take (P.cellsOf e)) with
        | none => rw [hm] at hy; cases hy
        | some ys =>
          cases ht : tiles (fun i => i * P.cellsOf e) (fun _ => P.cellsOf e) 0 (List.range m) with
          | none => rw [ht] at h1; cases h1
          | some k =>
            rw [ht] at h1
            have h1 := Nat.eq_of_beq_eq_true (show Nat.beq k (P.cellsOf t) = true from h1)
            obtain ⟨_, ags, q1, q2, q3⟩ := segs_rel (R := allR w) (w := w) (off := fun i => i * P.cellsOf e) (len := fun _ => P.cellsOf e) (cs := cs) (fun x ps y hx hy' => flat_rel hsp n hx hy') ht h2 hm
            rw [h1, ← hl] at q1 q3
            simp only [List.drop_zero, Nat.sub_zero, List.take_length] at q1 q3
            exact ⟨ags, q1, q2, q3⟩
      · cases hy
    · cases h

/-- The form of a value of a type. -/
def patV (P : Program) (n : Nat) (t : TypeId) : Option Pat := match P.underlying t with
  | some u => match patF P n t with
    | some ps => elemPat (Go.Am.aggD u) ps
    | none => none
  | none => none

/-- An argument, by its leaves. -/
theorem arg_rel (hsp : ∀ b, spare b = true) {n : Nat} {t : TypeId} {p : Pat} (hp : patV P n t = some p) {v : Value} {d : DataW H} {pl : List MemPlace} {r : Reach} {base' : Nat} (ht : DataW.Trod enc P w base spare held t v d pl) (hok : Value.okWide P w r base' t v) :
    ∃ x : p.T, Rel (allR w) w (p.enc x) v ∧ p.wf x := by
  obtain ⟨fuel, ht⟩ := ht
  have fin : ∀ {a : AV}, p.fits a = true → p.wf (p.decD a) → Rel (allR w) w a v → ∃ x : p.T, Rel (allR w) w (p.enc x) v ∧ p.wf x := fun {a} h1 h2 h3 => ⟨p.decD a, (p.fits_ok h1).weak _ _ _ h3, h2⟩
  unfold patV at hp
  split at hp
  · rename_i u hu
    split at hp
    · rename_i ps h1
      obtain ⟨ags, q1, q2, q3⟩ := flat_rel hsp n h1 ht
      obtain ⟨x, hx, f1, f2⟩ := elem_fit hp q2
      cases hag : Go.Am.aggD u with
      | true =>
        rw [hag] at hx
        simp only [if_true] at hx
        subst hx
        have : ∃ cs, v = .agg cs := by
          unfold Value.okWide at hok
          rw [hu] at hok
          cases u <;> first | (cases hag; done) | (obtain ⟨cs, h, _⟩ := hok; exact ⟨cs, h⟩)
        obtain ⟨⟨cs⟩, rfl⟩ := this
        exact fin f1 f2 (.agg q1 q3)
      | false =>
        rw [hag] at hx
        simp only [Bool.false_eq_true, if_false] at hx
        subst hx
        have hv : v.cells.toList = [v] := by
          cases v with
          | agg cs =>
            exfalso
            unfold Value.okWide at hok
            rw [hu] at hok
            cases u <;> first | (cases hag; done) | (simp [Cell.okWide, Cell.ok, hu] at hok)
          | _ => rfl
        rw [hv] at q1
        cases q1 with
        | cons q1 _ => exact fin f1 f2 q1
    · cases hp
  · cases hp

def patVs (P : Program) (n : Nat) : List TypeId → Option (List Pat)
  | [] => some []
  | t :: l => match patV P n t, patVs P n l with
    | some p, some r => some (p :: r)
    | _, _ => none

/-- All arguments, by their leaves. -/
theorem args_rel (hsp : ∀ b, spare b = true) {n : Nat} {r : Reach} {base' : Nat} : ∀ {ts : List TypeId} {ps : List Pat} {vs : List Value} {ds : List (DataW H)} {pl : List MemPlace}, patVs P n ts = some ps → DataW.TrodAll enc P w base spare held ts vs ds pl →
    (∀ (j : Nat) t v, ts[j]? = some t → vs[j]? = some v → Value.okWide P w r base' t v) → ∃ x : (mkPats ps).T, RelL (allR w) w ((mkPats ps).enc x) vs ∧ (mkPats ps).wf x
  | [], ps, vs, ds, pl, hp, ht, _ => by
    simp only [patVs] at hp
    cases hp
    cases vs with
    | nil => exact ⟨(), .nil, trivial⟩
    | cons _ _ => cases ds <;> exact ht.elim
  | t :: ts, ps, vs, ds, pl, hp, ht, hok => by
    unfold patVs at hp
    split at hp
    · rename_i p r h1 h2
      cases hp
      cases vs with
      | nil => cases ds <;> exact ht.elim
      | cons v vs =>
        cases ds with
        | nil => exact ht.elim
        | cons d ds =>
          obtain ⟨p1, p2, k1, k2, _⟩ := ht
          obtain ⟨x, q1, q2⟩ := arg_rel hsp h1 k1 (hok 0 t v rfl rfl)
          obtain ⟨y, q3, q4⟩ := args_rel hsp h2 k2 (fun j t v hj hv => hok (j + 1) t v (by simpa using hj) (by simpa using hv))
          cases r with
          | nil =>
            cases q3
            exact ⟨x, .one q1, q2⟩
          | cons p' r => exact ⟨(x, y), .cons q1 q3, q2, q4⟩
    · cases hp

end read
end Go.Am
namespace Go.Am
open Go Go.RowKit Go.WideShapes Go.ChangeShapes

section
variable {H : Type} {enc : TypeId × Value → H} {P : Program}

theorem post_below {f : Func} {s : ChangeSpec} {apart fresh handsOn again : Bool} {W W' : World} {args : Array Value} {v : Value} {ds gs : List (DataW H)} {before pa pv : List MemPlace}
    (hW : DataW.Whole enc P f.params.toList s.vars apart W args.toList ds gs before)
    (hres : ∀ (b : Nat) (sp : Nat → Bool) (hd : Bool), DataW.TrodAll enc P W' b sp hd f.resultTypes.toList (v.resultList f.resultTypes.size) (s.fn H (ds ++ gs)).results [])
    (hargs : ∀ sp : Nat → Bool, (∀ p ∈ before, sp p.block = true) → DataW.TrodAll enc P W' 0 sp true f.params.toList args.toList (s.fn H (ds ++ gs)).args pa)
    (hvars : ∀ sp : Nat → Bool, (∀ p ∈ before, sp p.block = true) → DataW.TrodVars enc P W' sp s.vars (s.fn H (ds ++ gs)).vars pv)
    (hps : before = pa ++ pv) (hb : Below W.heap.size W W')
    (hok : ∀ (j : Nat) (t : TypeId) (r : Value), f.resultTypes[j]? = some t → (v.resultList f.resultTypes.size)[j]? = some r → Value.okWide P W' .any 0 t r) :
    s.post enc P f apart fresh handsOn again W args v W' := by
  have hlt : ∀ p ∈ before, p.block < W.heap.size := fun p hp => hW.lt p hp
  have hold : ∀ p ∈ before, (fun b => decide (b < W.heap.size)) p.block = true := fun p hp => by simpa using hlt p hp
  refine ⟨ds, gs, before, [], pa, pv, hW, hres _ _ _, hargs _ hold, hvars _ hold, World.keptBut_mono (fun p hp => ⟨hp, ?_⟩) (hb.frame (· ∈ before)), fun _ => ?_⟩
  · rw [hps, List.mem_append] at hp
    exact Or.inr hp
  · obtain ⟨_, _, _, _, _, hz, hn⟩ := hW
    refine ⟨hok, _, _, ([] ++ pa) ++ pv, ⟨[] ++ pa, pv, trodAll_append (hargs _ (fun _ _ => rfl)) (hres _ _ _), hvars _ (fun _ _ => rfl), rfl, ?_, ?_⟩, ?_⟩
    · intro b off hp
      have hin : MemPlace.cell b off ∈ before := by rw [hps]; simpa using hp
      rw [hb.frozen (hlt _ hin)]
      exact hz b off hin
    · intro ha
      have := hn ha
      rw [hps] at this
      simpa using this
    · intro p hp _
      rw [hps]
      simpa using hp

theorem trodAll_stays (hl : laidOutB P = true) {W W' : World} (hb : Below W.heap.size W W') {sp : Nat → Bool} : ∀ {ts : List TypeId} {vs : List Value} {ds : List (DataW H)} {pl : List MemPlace},
    (∀ t ∈ ts, P.readableRec t = true ∧ t < P.types.size) → DataW.TrodAll enc P W 0 (fun _ => true) true ts vs ds pl → (∀ p ∈ pl, p.block < W.heap.size) → (∀ p ∈ pl, sp p.block = true) →
    DataW.TrodAll enc P W' 0 sp true ts vs ds pl
  | [], [], [], _, _, h, _, _ => h
  | t :: ts, v :: vs, d :: ds, pl, hr, h, hlt, hsp => by
    obtain ⟨p, q, h1, h2, rfl⟩ := h
    refine ⟨p, q, ?_, trodAll_stays hl hb (fun t ht => hr t (by simp [ht])) h2 (fun x hx => hlt x (by simp [hx])) (fun x hx => hsp x (by simp [hx])), rfl⟩
    exact WideElems.Trod_stays hl (hr t (by simp)).1 (hr t (by simp)).2 h1 (fun x hx => hb.same (hlt x (by simp [hx]))) (fun x hx => hsp x (by simp [hx]))
  | [], [], _ :: _, _, _, h, _, _ => h.elim
  | [], _ :: _, _, _, _, h, _, _ => h.elim
  | _ :: _, [], _, _, _, h, _, _ => h.elim
  | _ :: _, _ :: _, [], _, _, h, _, _ => h.elim

/-- A law that is true of all leaves. -/
theorem law_calls {E : Env} {f : FuncId} {fn : Func} {s : ChangeSpec} {ps : List Pat} {apart fresh handsOn again : Bool} {W : World} {base : Nat} {args : Array Value} {ds gs : List (DataW H)} {before : List MemPlace} {n tb : Nat}
    (hent : ∀ x, (mkPats ps).wf x → PCalls E f ((mkPats ps).enc x) (fun r => r = .bool true)) (hpat : patVs E.P n fn.params.toList = some ps)
    (hval : ∀ (j : Nat) t v, fn.params[j]? = some t → args[j]? = some v → Value.okWide E.P W .any base t v)
    (hW : DataW.Whole enc E.P fn.params.toList s.vars apart W args.toList ds gs before) (hglob : ∀ g cs, E.glob g = some cs → RelC (allR W) W g 0 cs)
    (hvars : s.vars = []) (hsp : ∀ ds : List (DataW H), ds.length = fn.params.toList.length → s.fn H ds = { results := [.lit (.bool true)], args := ds })
    (hres : fn.resultTypes = #[tb]) (hub : E.P.underlying tb = some .bool) (hl : laidOutB E.P = true) (hr : ∀ t ∈ fn.params.toList, E.P.readableRec t = true ∧ t < E.P.types.size) (hlo : E.lo = 0 := by rfl) :
    Calls E.P f args W fun e W' => ∃ v, e = .returned v ∧ s.post enc E.P fn apart fresh handsOn again W args v W' := by
  have hW0 := hW
  obtain ⟨p, q, hA, hV, rfl, hfz, hnd⟩ := hW
  obtain ⟨rfl, rfl⟩ : gs = [] ∧ q = [] := by
    rw [hvars] at hV
    cases gs with
    | nil => exact ⟨rfl, hV⟩
    | cons g r => exact absurd hV (by intro h; cases h)
  obtain ⟨x, hx, hwf⟩ := args_rel (fun _ => rfl) (n := n) hpat hA (r := .any) (base' := base) (fun j t v hj hv => hval j t v (by simpa using hj) (by simpa using hv))
  have hlen : ds.length = fn.params.toList.length := by
    clear hval hfz hnd hW0 hx hwf hsp hpat hr
    revert hA
    generalize fn.params.toList = ts
    generalize args.toList = vs
    generalize p = pl
    clear p
    intro hA
    induction ts generalizing vs ds pl with
    | nil => cases vs <;> cases ds <;> first | rfl | exact hA.elim
    | cons t ts ih =>
      cases vs with
      | nil => cases ds <;> exact hA.elim
      | cons v vs =>
        cases ds with
        | nil => exact hA.elim
        | cons d ds =>
          obtain ⟨p, q, _, h2, _⟩ := hA
          simp [ih vs q h2]
  have hG : RepG E (allR W) W [] := ⟨rfl, fun id go ro h => by simp [nth] at h, fun i j ri rj b h => by simp [allR, nth] at h, fun b o h => h, hglob, by rw [hlo]; exact Nat.zero_le _⟩
  have hc := (hent x hwf [])
  refine (callsIn_wide.1 (hc.2 (allR W) W args.toList hG hx)).mono fun e W' he => ?_
  cases e with
  | panicked c => exact he.elim
  | outgrown => exact he.elim
  | returned c =>
    obtain ⟨r, G', R', ⟨_, rfl⟩, hrel, _, st⟩ := he
    cases hrel
    have hb : Below W.heap.size W W' := ⟨st.os, st.tape, st.output, st.size, fun k hk => st.keep k hk fun ho => by
      obtain ⟨id, ro, h1, _⟩ := own_noBox ho
      simp [allR, nth] at h1⟩
    have hlt : ∀ y ∈ p, y.block < W.heap.size := fun y hy => by simpa using hW0.lt y (by simpa using hy)
    have e1 : s.fn H (ds ++ []) = { results := [.lit (.bool true)], args := ds } := by rw [List.append_nil]; exact hsp ds hlen
    refine ⟨_, rfl, post_below (pa := p) (pv := []) hW0 ?_ ?_ ?_ rfl hb ?_⟩
    · intro b sp hd
      rw [e1, hres]
      exact trodAll_mk1 (shut_bool hub true)
    · intro sp hsp'
      rw [e1]
      exact trodAll_stays hl hb hr hA hlt (fun y hy => hsp' y (by simpa using hy))
    · intro sp _
      rw [e1, hvars]
      rfl
    · intro j t r hj hr'
      rw [hres] at hj hr'
      cases j with
      | succ j => simp at hj
      | zero =>
        simp at hj
        subst hj
        have : r = .bool true := by simpa [Value.resultList] using hr'.symm
        subst this
        simp [Value.okWide, Cell.okWide, Cell.ok, hub]

end
end Go.Am
namespace Go.Am
open Go

theorem mapM_nth {α β : Type} {f : α → Option β} : ∀ {l : List α} {r : List β}, l.mapM f = some r → r.length = l.length ∧ ∀ (i : Nat) (x : α), l[i]? = some x → ∃ y, r[i]? = some y ∧ f x = some y
  | [], r, h => by
    cases h
    exact ⟨rfl, fun i x h => by simp at h⟩
  | a :: l, r, h => by
    obtain ⟨y, ys, h1, h2, rfl⟩ := mapM_cons_some h
    obtain ⟨k1, k2⟩ := mapM_nth h2
    refine ⟨by simp [k1], fun i x hx => ?_⟩
    cases i with
    | zero =>
      simp at hx
      subst hx
      exact ⟨y, rfl, h1⟩
    | succ i => simpa using k2 i x (by simpa using hx)

section
variable {P : Program} {W : World}

theorem trod_int {k : IntKind} {t : TypeId} {x : Int} {c : Value} {q : List MemPlace} {fuel : Nat} (he : P.underlying t = some (.int k)) (h : DataW.trod (fun _ => ()) P W 0 (fun _ => true) false fuel t [c] = some (.lit (.int k x), q)) : c = .int k x := by
  cases fuel with
  | zero => simp [DataW.trod] at h
  | succ fuel =>
    unfold DataW.trod at h
    simp only [he] at h
    cases c <;> simp at h
    obtain ⟨⟨rfl, _⟩, h2, _⟩ := h
    subst h2
    rfl

theorem relC_cells2 {g : Nat} {k : IntKind} (hg : g < W.heap.size) : ∀ (xs : List (Int × Int)) (o : Nat), (∀ i (hi : i < xs.length), W.cell? ⟨g, o + 2 * i, none⟩ = some (.int k xs[i].1) ∧ W.cell? ⟨g, o + 2 * i + 1, none⟩ = some (.int k xs[i].2)) → RelC (allR W) W g o (xs.flatMap fun x => [.int k x.1, .int k x.2])
  | [], _, _ => .nil
  | x :: xs, o, h => by
    obtain ⟨h1, h2⟩ := h 0 (by simp)
    refine .cons h1 rfl hg (.int k x.1) (.cons h2 rfl hg (.int k x.2) (relC_cells2 hg xs (o + 1 + 1) fun i hi => ?_))
    have := h (i + 1) (by simpa using hi)
    rw [show o + 1 + 1 + 2 * i = o + 2 * (i + 1) by omega]
    simpa using this

/-- A laid array of pairs of numbers, among other variables. -/
theorem laid_pairs {nm : String} {xs : List (Int × Int)} {k : IntKind} {g t e ti : Nat} {f1 f2 : Field} (hg : P.globalNamed nm = some g) (ht : (P.globals[g]?).map (·.type) = some t) (hu : P.underlying t = some (.array xs.length e)) (he : P.underlying e = some (.struct #[f1, f2])) (h1o : f1.offset = 0) (h1t : f1.type = ti) (h2o : f2.offset = 1) (h2t : f2.type = ti)
    (hi : P.underlying ti = some (.int k)) (hci : P.cellsOf ti = 1) (hc : P.cellsOf e = 2) (hct : P.cellsOf t = xs.length * 2) (hx : 0 < xs.length) :
    ∀ {l : List (String × DataW Unit)} {ps : List MemPlace}, DataW.LaidVars P W l ps → (nm, DataW.agg (xs.map fun x => .agg [.lit (.int k x.1), .lit (.int k x.2)])) ∈ l →
    RelC (allR W) W g 0 (xs.flatMap fun x => [.int k x.1, .int k x.2])
  | [], _, _, hm => by simp at hm
  | (n, d) :: r, ps, h, hm => by
    obtain ⟨g', t', cs, fuel, p, q, h1, h2, h3, h4, h5, _⟩ := h
    rcases List.mem_cons.1 hm with hm | hm
    · injection hm with e1 e2
      subst e1; subst e2
      obtain rfl : g = g' := Option.some.inj (hg.symm.trans h1)
      obtain rfl : t = t' := Option.some.inj (ht.symm.trans h2)
      cases fuel with
      | zero => simp [DataW.trod] at h4
      | succ fuel =>
        unfold DataW.trod at h4
        simp only [hu, hc] at h4
        split at h4
        · rename_i hlen
          rw [hct] at hlen
          cases hm2 : (List.range xs.length).mapM fun i => DataW.trod (fun _ => ()) P W 0 (fun _ => true) false fuel e ((cs.toList.drop (i * 2)).take 2) with
          | none => rw [hm2] at h4; cases h4
          | some ys =>
            rw [hm2] at h4
            have h6 : ys.map (·.1) = xs.map fun x => DataW.agg [.lit (.int k x.1), .lit (.int k x.2)] := by
              have := congrArg Prod.fst (Option.some.inj h4)
              injection this
            obtain ⟨k1, k2⟩ := mapM_nth hm2
            have hcell : ∀ i (hi : i < xs.length), W.cell? ⟨g, 0 + 2 * i, none⟩ = some (.int k xs[i].1) ∧ W.cell? ⟨g, 0 + 2 * i + 1, none⟩ = some (.int k xs[i].2) := fun i hi' => by
              have hl : 2 * i + 1 < cs.toList.length := by omega
              obtain ⟨y, e1, e2⟩ := k2 i i (by rw [List.getElem?_eq_getElem (by simpa using hi')]; simp)
              have e3 : y.1 = DataW.agg [.lit (.int k xs[i].1), .lit (.int k xs[i].2)] := by
                have := congrArg (fun l => l[i]?) h6
                simp only [List.getElem?_map, e1, Option.map_some] at this
                rw [List.getElem?_eq_getElem hi'] at this
                simpa using this
              have e4 : (cs.toList.drop (i * 2)).take 2 = [cs.toList[2 * i]'(by omega), cs.toList[2 * i + 1]] := by
                rw [Nat.mul_comm, List.drop_eq_getElem_cons (by omega), List.drop_eq_getElem_cons (by omega)]
                rfl
              rw [e4] at e2
              cases fuel with
              | zero => simp [DataW.trod] at e2
              | succ fuel =>
                unfold DataW.trod at e2
                simp only [he, hc, List.length_cons, List.length_nil, if_true, h1o, h2o, h1t, h2t, hci, List.drop_zero, List.take_succ_cons, List.take_zero, List.drop_succ_cons, List.mapM_cons, List.mapM_nil] at e2
                have g1 : W.cell? ⟨g, 0 + 2 * i, none⟩ = some (cs.toList[2 * i]'(by omega)) := by
                  rw [Go.World.var?_cell hg h3, ← Array.getElem?_toList, Nat.zero_add, List.getElem?_eq_getElem (by omega)]
                have g2 : W.cell? ⟨g, 0 + 2 * i + 1, none⟩ = some cs.toList[2 * i + 1] := by
                  rw [Go.World.var?_cell hg h3, ← Array.getElem?_toList, Nat.zero_add, List.getElem?_eq_getElem hl]
                rw [g1, g2]
                generalize cs.toList[2 * i]'(by omega) = c1 at e2
                generalize cs.toList[2 * i + 1] = c2 at e2
                cases q1 : DataW.trod (fun _ => ()) P W 0 (fun _ => true) false fuel ti [c1] with
                | none => rw [q1] at e2; simp at e2
                | some y1 =>
                  cases q2 : DataW.trod (fun _ => ()) P W 0 (fun _ => true) false fuel ti [c2] with
                  | none => rw [q1, q2] at e2; simp at e2
                  | some y2 =>
                    rw [q1, q2] at e2
                    simp at e2
                    rw [← e2] at e3
                    simp at e3
                    obtain ⟨d1, m1⟩ := y1
                    obtain ⟨d2, m2⟩ := y2
                    simp only at e3
                    obtain ⟨rfl, rfl⟩ := e3
                    exact ⟨congrArg some (trod_int hi q1), congrArg some (trod_int hi q2)⟩
            have hgs : g < W.heap.size := by
              have h0 := (hcell 0 hx).1
              unfold World.cell? at h0
              split at h0
              · rename_i hh
                exact (Array.getElem?_eq_some_iff.1 hh).1
              · cases h0
            exact relC_cells2 hgs xs 0 hcell
        · cases h4
    · exact laid_pairs hg ht hu he h1o h1t h2o h2t hi hci hc hct hx h5 hm
end
end Go.Am
namespace Go.Am
open Go

theorem allFit_encs {p : Pat} (hp : p.plain = true) (l : List p.T) : allFit p.fits (List.map p.enc l) = true := by
  induction l with
  | nil => rfl
  | cons x l ih => simp [allFit, ih, (p.fits_enc x hp).1]
theorem map_decs {p : Pat} (hp : p.plain = true) (l : List p.T) : List.map p.decD (List.map p.enc l) = l := by
  induction l with
  | nil => rfl
  | cons x l ih => simp [ih, (p.fits_enc x hp).2]
end Go.Am
namespace Go.Am
open Go Go.RowKit

section
variable {E : Env} {R : Realm} {w w' : World}

theorem Below.extR (h : Below w.heap.size w w') (wf : ∀ b o, R.I b o → b < w.heap.size) : Ext R w R w' :=
  ⟨fun _ _ h => h, fun b o hi => cell_of_block (h.block b (wf b o hi)) o, fun _ ro h => ⟨ro, h, RoLe.refl ro⟩, .old fun b hb => h.block b hb⟩

theorem Below.repG {G : List GO} (h : Below w.heap.size w w') (hg : RepG E R w G) (hE : E.lo = 0) : RepG E R w' G :=
  hg.keep (Below.extR h hg.wf) rfl (fun b hb => h.block b (hg.live_lt hb)) (fun _ _ _ hi => hi) (fun b o hi => Nat.lt_of_lt_of_le (hg.wf b o hi) h.size) (fun _ => by rw [hE]; exact Nat.zero_le _)

theorem Below.stepR {β : Nat → Nat} {bx : Boxes} (h : Below w.heap.size w w') (wf : ∀ b o, R.I b o → b < w.heap.size) : Step R w β bx R w' β bx :=
  ⟨Below.extR h wf, h.os, h.tape, h.output, h.size, fun b hb _ => h.block b hb, fun _ _ ho => ho, fun _ _ hi _ _ => hi⟩

/-- A function whose contract is known: it returns, and no old block turns. -/
theorem PCalls.below {g : FuncId} {args : List AV} {r : AV} (hp : Plain E.P g)
    (h : ∀ (R : Realm) (w : World) (cs : List Value), RelL R w args cs → Calls E.P g ⟨cs⟩ w (fun e w' => ∃ v, e = .returned v ∧ (∀ R, Rel R w' r v) ∧ Below w.heap.size w w')) (hE : E.lo = 0) : PCalls E g args (fun r' => r' = r) := fun G =>
  ⟨hp, fun R w cs hg hl => callsIn_wide.2 ((h R w cs hl).mono fun e w' ⟨v, he, hv, hb⟩ => by
    subst he
    exact ⟨r, G, R, ⟨rfl, rfl⟩, hv R, Below.repG hb hg hE, Below.stepR hb hg.wf⟩)⟩

theorem Plain.of {P : Program} {g : FuncId} {fn : Func} (h : P.funcs[g]? = some fn) (h1 : fn.body.isNone = false) (h2 : (fn.name == "runtime.NumGoroutine") = false) : Plain P g := ⟨fn, h, h1, h2⟩

end

/-! ### The functions -/

def p2 (a b : Pat) : Pats := .cons a (.cons b .nil)
def p1 (a : Pat) : Pats := .cons a .nil

def trimLeftT : List UInt8 × List UInt8 → Option (List UInt8)
  | (s, [c]) => bif Nat.blt c.toNat 128 then some (s.dropWhile (· == c)) else none
  | _ => none
/-- The digits of a number below 100. -/
def dig2 (n : Int) : List UInt8 := bif decide (n < 10) then [UInt8.ofNat (48 + n.toNat)] else [UInt8.ofNat (48 + n.toNat / 10), UInt8.ofNat (48 + n.toNat % 10)]
def itoaT (n : Int) : Option (List UInt8) := bif decide (0 ≤ n) && decide (n < 100) then some (dig2 n) else none
def joinL : List (List UInt8) → List UInt8 → List UInt8
  | [], _ => []
  | [a], _ => a
  | a :: l, sep => a ++ sep ++ joinL l sep
def joinT (x : List (List UInt8) × List UInt8) : Option (List UInt8) := bif decide (x.1.length ≤ 140737488355328) && decide ((joinL x.1 x.2).length ≤ 140737488355328) then some (joinL x.1 x.2) else none

def trimLeftE : Entry := ⟨p2 .str .str, .str, trimLeftT⟩
def itoaE : Entry := ⟨p1 (.int .i64), .str, itoaT⟩
def joinE' : Entry := ⟨p2 (.list 1 .str) .str, .str, joinT⟩

section
variable {E : Env}
theorem trimLeft_ok {g : FuncId} (hp : Plain E.P g)
    (h : ∀ (s : ByteArray) (c : UInt8), c.toNat < 128 → ∀ w : World, Calls E.P g #[.string s, .string ⟨#[c]⟩] w fun e w' => e = .returned (.string ⟨(s.data.toList.dropWhile (· == c)).toArray⟩) ∧ w' = w) (hE : E.lo = 0 := by rfl) : EntryOk E g trimLeftE := fun x y hT => by
  obtain ⟨s, c⟩ := x
  match c, hT with
  | [c], hT =>
    obtain ⟨h1, h2⟩ := cond_some' hT
    subst h2
    refine PCalls.below hp (fun R w cs hl => ?_) hE
    cases hl with
    | cons a1 hl =>
    cases hl with
    | cons a2 hl =>
    cases hl
    cases a1; cases a2
    refine (h ⟨⟨s⟩⟩ c (Nat.le_of_ble_eq_true h1) w).mono ?_
    rintro e w' ⟨rfl, rfl⟩
    exact ⟨_, rfl, fun _ => Rel.str _, Below.refl _ _⟩
where
  cond_some' {c : Bool} {a x : List UInt8} (h : (bif c then some a else none) = some x) : c = true ∧ a = x := by
    cases c
    · cases h
    · exact ⟨rfl, Option.some.inj h⟩

theorem itoa_ok {g : FuncId} (hp : Plain E.P g)
    (h : ∀ (i : Nat), i < 100 → ∀ w : World, Calls E.P g #[.int .i64 i] w fun e w' => e = .returned (.string ⟨(dig2 i).toArray⟩) ∧ w' = w) (hE : E.lo = 0 := by rfl) : EntryOk E g itoaE := fun x y hT => by
  obtain ⟨n, rfl⟩ : ∃ n : Int, (show itoaE.ps.T from n) = x := ⟨x, rfl⟩
  obtain ⟨h1, h2⟩ := trimLeft_ok.cond_some' (show (bif decide ((0 : Int) ≤ n) && decide (n < 100) then some (dig2 n) else none) = some y from hT)
  subst h2
  rw [Bool.and_eq_true] at h1
  have a := of_decide_eq_true h1.1
  have b := of_decide_eq_true h1.2
  obtain ⟨i, rfl⟩ : ∃ i : Nat, n = i := ⟨n.toNat, by omega⟩
  refine PCalls.below hp (fun R w cs hl => ?_) hE
  cases hl with
  | cons a1 hl =>
  cases hl
  cases a1
  refine (h i (by omega) w).mono ?_
  rintro e w' ⟨rfl, rfl⟩
  exact ⟨_, rfl, fun _ => Rel.str _, Below.refl _ _⟩

theorem relE_strs {R : Realm} {w : World} {b : Nat} : ∀ {xs : List (List UInt8)} {o : Nat}, RelE R w b o 1 (xs.map (fun l => AV.str l)) → ∀ (j : Nat) x, (xs.map fun l => (⟨⟨l⟩⟩ : ByteArray))[j]? = some x → w.cell? ⟨b, o + j, none⟩ = some (.string x)
  | [], _, _, j, x, h => by simp at h
  | a :: xs, o, .cons _ _ _ hc t, 0, x, h => by
    cases hc with
    | cons h1 h2 h3 h4 h5 =>
    cases h4
    simp only [List.map_cons, List.getElem?_cons_zero] at h
    cases h
    exact h1
  | a :: xs, o, .cons _ _ _ hc t, j + 1, x, h => by
    simp only [List.map_cons, List.getElem?_cons_succ] at h
    have := relE_strs t j x h
    rw [show o + (j + 1) = o + 1 + j by omega]
    exact this

theorem join_ok {g : FuncId} (hp : Plain E.P g)
    (h0 : ∀ (a : Option Addr) (c : Nat) (sep : ByteArray) (w : World), Calls E.P g #[.slice a 0 c, .string sep] w fun e w' => e = .returned (.string ⟨#[]⟩) ∧ w' = w)
    (h : ∀ (bk o c : Nat) (xs : List ByteArray) (sep : ByteArray) (w : World), (∀ (j : Nat) x, xs[j]? = some x → w.cell? ⟨bk, o + j, none⟩ = some (.string x)) → bk < w.heap.size → xs.length ≤ 140737488355328 → xs.length ≤ c → (joinL (xs.map (·.data.toList)) sep.data.toList).length ≤ 140737488355328 →
      Calls E.P g #[.slice (some ⟨bk, o, none⟩) xs.length c, .string sep] w fun e w' => e = .returned (.string ⟨(joinL (xs.map (·.data.toList)) sep.data.toList).toArray⟩) ∧ Below w.heap.size w w') (hE : E.lo = 0 := by rfl) : EntryOk E g joinE' := fun x y hT => by
  obtain ⟨xs, sep, rfl⟩ : ∃ (xs : List (List UInt8)) (sep : List UInt8), x = (xs, sep) := ⟨x.1, x.2, rfl⟩
  obtain ⟨h1, h2⟩ := trimLeft_ok.cond_some' (show (bif decide (xs.length ≤ 140737488355328) && decide ((joinL xs sep).length ≤ 140737488355328) then some (joinL xs sep) else none) = some y from hT)
  subst h2
  rw [Bool.and_eq_true] at h1
  have b1 := of_decide_eq_true h1.1
  have b2 := of_decide_eq_true h1.2
  refine PCalls.below hp (fun R w cs hl => ?_) hE
  cases hl with
  | @cons _ c1 _ _ a1 hl =>
  cases hl with
  | cons a2 hl =>
  cases hl
  cases a2
  have key : (xs = [] ∧ ∃ a c', c1 = .slice a 0 c') ∨ ∃ bk o c', c1 = .slice (some ⟨bk, o, none⟩) xs.length c' ∧ xs.length ≤ c' ∧ RelE R w bk o 1 (xs.map (fun l => AV.str l)) := by
    have a1' : Rel R w (.list .opn 1 (xs.map (fun l => AV.str l))) c1 := a1
    generalize he : xs.map (fun l => AV.str l) = es at a1'
    cases a1' with
    | lopn => exact .inl ⟨by simpa using he, none, 0, rfl⟩
    | @lemp _ ad => exact .inl ⟨by simpa using he, some ad, 0, rfl⟩
    | list h hl hc hk =>
      rw [← he, List.length_map] at hl
      subst hl
      exact .inr ⟨_, _, _, rfl, hc, h⟩
  by_cases hx : xs = []
  · subst hx
    obtain ⟨a, c', rfl⟩ : ∃ a c', c1 = .slice a 0 c' := by
      rcases key with ⟨_, hk⟩ | ⟨bk, o, c', rfl, _⟩
      · exact hk
      · exact ⟨_, _, rfl⟩
    refine (h0 a c' ⟨⟨sep⟩⟩ w).mono ?_
    rintro e w' ⟨rfl, rfl⟩
    exact ⟨_, rfl, fun _ => Rel.str _, Below.refl _ _⟩
  · rcases key with ⟨hk, _⟩ | ⟨bk, o, c', rfl, hc, hE⟩
    · exact absurd hk hx
    · have hcell := relE_strs hE
      have hbk : bk < w.heap.size := by
        match xs, hx with
        | x :: xs, _ =>
          have := hcell 0 ⟨⟨x⟩⟩ rfl
          unfold World.cell? at this
          rcases Nat.lt_or_ge bk w.heap.size with h' | h'
          · exact h'
          · rw [Array.getElem?_eq_none (by simpa using h')] at this
            cases this
      have hm : (xs.map fun l => (⟨⟨l⟩⟩ : ByteArray)).map (fun x => x.data.toList) = xs := by simp [List.map_map, Function.comp_def]
      have := h bk o c' (xs.map fun l => (⟨⟨l⟩⟩ : ByteArray)) ⟨⟨sep⟩⟩ w hcell hbk (by rw [List.length_map]; exact b1) (by rw [List.length_map]; exact hc) (by rw [hm]; exact b2)
      rw [hm, List.length_map] at this
      refine this.mono ?_
      rintro e w' ⟨rfl, hb⟩
      exact ⟨_, rfl, fun _ => Rel.str _, hb⟩
end
end Go.Am
namespace Go.Am
open Go Go.RowKit Go.Proofs Go.Shelf

section
variable {E : Env} {R : Realm} {w w' : World}

/-- What is known of objects alone. -/
theorem RepG.rep {G : List GO} (h : RepG E R w G) : Rep E R w (fun _ => 0) ⟨[], noBox, G, [], none, 0⟩ { tmps := #[], defers := [] } :=
  ⟨h, ⟨fun k cs hk => by simp [noBox, lkB] at hk, fun k k' cs cs' hk => by simp [noBox, lkB] at hk⟩, fun i hi => absurd rfl hi, rfl, trivial⟩

theorem cell_freeze (a : Addr) (n : Nat) (b o : Nat) : (w.freeze a n).cell? ⟨b, o, none⟩ = w.cell? ⟨b, o, none⟩ := by
  unfold World.freeze
  split
  · rfl
  · simp only [World.cell?, Array.getElem?_modify]
    by_cases e : a.block = b
    · subst e
      simp only [if_true]
      cases h : w.heap[a.block]? with
      | none => rfl
      | some x => cases x <;> simp
    · simp [e]

theorem heap_freeze {a : Addr} {n : Nat} {b : Nat} (h : b ≠ a.block) : (w.freeze a n).heap[b]? = w.heap[b]? := by
  unfold World.freeze
  split
  · rfl
  · simp only [Array.getElem?_modify]
    rw [if_neg (Ne.symm h)]

theorem size_freeze (a : Addr) (n : Nat) : (w.freeze a n).heap.size = w.heap.size := by
  unfold World.freeze
  split <;> simp

/-- The object t is done with: its block's cells are frozen. -/
theorem RepG.frozen {G : List GO} (hg : RepG E R w G) {t f sz el g c n : Nat} (_ht : nth G t = some (.tok f sz el)) (hr : nth R.obj t = some (.tok f g c)) {cur : Array Value} {fz : Nat × Nat} (hc : w.heap[g]? = some (.cells cur el fz)) :
    RepG E R (w.drew.freeze ⟨g, 0, none⟩ n) (setN G t .dead) ∧ Step R w (fun _ => 0) noBox R (w.drew.freeze ⟨g, 0, none⟩ n) (fun _ => 0) noBox := by
  have hl : Live R g := ⟨t, _, hr, rfl⟩
  have keep : ∀ b, b ≠ g → (w.drew.freeze ⟨g, 0, none⟩ n).heap[b]? = w.heap[b]? := fun b hb => heap_freeze (w := w.drew) (a := ⟨g, 0, none⟩) hb
  have hsz : (w.drew.freeze ⟨g, 0, none⟩ n).heap.size = w.heap.size := size_freeze (w := w.drew) _ _
  have e : Ext R w R (w.drew.freeze ⟨g, 0, none⟩ n) := ⟨fun _ _ h => h, fun b o _ => cell_freeze (w := w.drew) _ _ b o, fun _ ro h => ⟨ro, h, RoLe.refl ro⟩, fun b r hb => ⟨r, by
    by_cases e : b = g
    · subst e; rw [hc] at hb; cases hb
    · rw [keep b e]; exact hb, rfl, rfl, rfl, rfl, rfl⟩⟩
  have hos : ∀ (v : World) (a : Addr) (m : Nat), (v.freeze a m).os = v.os ∧ (v.freeze a m).tape = v.tape ∧ (v.freeze a m).output = v.output ∧ (v.freeze a m).drawn = v.drawn := by
    intro v a m
    unfold World.freeze
    split <;> exact ⟨rfl, rfl, rfl, rfl⟩
  refine ⟨⟨by rw [length_setN]; exact hg.len, fun id go ro q1 q2 => ?_, hg.inj, fun b o hi => by rw [hsz]; exact hg.wf b o hi, fun x cs hx => (hg.glob x cs hx).mono e, by rw [(hos _ _ _).2.2.2]; exact Nat.le_succ_of_le hg.lo⟩, ⟨e, (hos _ _ _).1, (hos _ _ _).2.1, (hos _ _ _).2.2.1, by rw [hsz]; exact Nat.le_refl _, fun b hb hn => keep b (fun e => hn (e ▸ .inl hl)), fun _ _ ho => ho, fun _ _ hi _ _ => hi⟩⟩
  rcases nth_setN q1 with ⟨rfl, rfl, _⟩ | ⟨hne, q1⟩
  · rw [hr] at q2
    cases q2
    show g < _
    rw [hsz]
    exact block_lt hc
  · refine (hg.obj id go ro q1 q2).mono e (fun b hb => keep b (fun e => hne ?_)) (fun _ _ _ hi => hi)
    subst e
    exact hg.inj t id _ _ b hr q2 rfl hb

end
end Go.Am
namespace Go.Am
open Go

theorem w64 {x : Int} (h : -9223372036854775808 ≤ x ∧ x ≤ 9223372036854775807) : IntKind.wrap .i64 x = x := IntWalk.i64_in x (by omega)

/-- Enough rounds for every loop. -/
def Big (N : Nat) : Prop := 18446744073709551616 ≤ N

theorem loopR_succ {V X : Type} (rd : V → Option (V ⊕ X)) (n : Nat) (v : V) : loopR rd (n + 1) v = (rd v).bind fun o => Sum.elim (fun v' => loopR rd n v') (fun x => some x) o := rfl

theorem nthD_map {α : Type} (g : α → AV) (xs : List α) (k : Nat) (h : k < xs.length) : nthD (xs.map g) k = g xs[k] := by
  unfold nthD
  rw [nth_eq, List.getElem?_map, List.getElem?_eq_getElem h]
  rfl

theorem div_in {a g : Int} (ha : 0 ≤ a) (ha' : a ≤ 9223372036854775807) (hg : 0 < g) : IntKind.wrap .i64 (a.tdiv g) = a / g := by
  rw [Int.tdiv_eq_ediv_of_nonneg ha]
  have h1 : 0 ≤ a / g := Int.ediv_nonneg ha (by omega)
  have h2 : a / g ≤ a := Int.ediv_le_self g ha
  exact w64 (by omega)

/-- A fold that may stop. -/
def foldI {S α Y : Type} (st : S → α → S ⊕ Y) : S → List α → S ⊕ Y
  | s, [] => .inl s
  | s, a :: l => Sum.elim (fun s' => foldI st s' l) (fun y => .inr y) (st s a)

theorem loopR_fold {V X S α Y : Type} {rd : V → Option (V ⊕ X)} (l : List α) (E : S → Nat → V) (st : S → α → S ⊕ Y) (fin : S → X) (ex : Y → X) (P : S → Nat → Prop)
    (h : ∀ s k (hk : k < l.length), P s k → rd (E s k) = some (Sum.map (fun s' => E s' (k + 1)) ex (st s l[k])) ∧ ∀ s', st s l[k] = .inl s' → P s' (k + 1))
    (h0 : ∀ s, P s l.length → rd (E s l.length) = some (.inr (fin s))) :
    ∀ n s k, k ≤ l.length → l.length < n + k → P s k → loopR rd n (E s k) = some (Sum.elim fin ex (foldI st s (l.drop k)))
  | 0, s, k, hk, hn, _ => by omega
  | n + 1, s, k, hk, hn, hP => by
    rw [loopR_succ]
    by_cases hlt : k < l.length
    · obtain ⟨h1, h2⟩ := h s k hlt hP
      rw [h1, List.drop_eq_getElem_cons hlt]
      simp only [Option.bind_some, foldI]
      cases hs : st s l[k] with
      | inl s' =>
        simp only [Sum.map_inl, Sum.elim_inl]
        exact loopR_fold l E st fin ex P h h0 n s' (k + 1) (by omega) (by omega) (h2 s' hs)
      | inr y => simp only [Sum.map_inr, Sum.elim_inr]
    · have : k = l.length := by omega
      subst this
      rw [h0 s hP, List.drop_eq_nil_of_le (Nat.le_refl _)]
      rfl

theorem loopR_foldl {V X S α : Type} {rd : V → Option (V ⊕ X)} (l : List α) (E : S → Nat → V) (f : S → α → S) (fin : S → X) (P : S → Nat → Prop)
    (h : ∀ s k (hk : k < l.length), P s k → rd (E s k) = some (.inl (E (f s l[k]) (k + 1))) ∧ P (f s l[k]) (k + 1))
    (h0 : ∀ s, P s l.length → rd (E s l.length) = some (.inr (fin s))) :
    ∀ n s k, k ≤ l.length → l.length < n + k → P s k → loopR rd n (E s k) = some (fin ((l.drop k).foldl f s))
  | 0, s, k, hk, hn, _ => by omega
  | n + 1, s, k, hk, hn, hP => by
    rw [loopR_succ]
    by_cases hlt : k < l.length
    · obtain ⟨h1, h2⟩ := h s k hlt hP
      rw [h1, List.drop_eq_getElem_cons hlt]
      simp only [Option.bind_some, Sum.elim_inl, List.foldl_cons]
      exact loopR_foldl l E f fin P h h0 n _ (k + 1) (by omega) (by omega) h2
    · have : k = l.length := by omega
      subst this
      rw [h0 s hP, List.drop_eq_nil_of_le (Nat.le_refl _)]
      rfl

/-- A loop that counts: what its state is after k rounds, and where it ends. -/
theorem loopR_count {V X : Type} {rd : V → Option (V ⊕ X)} (m : Nat) (E : Nat → V) (x : X) (h : ∀ k, k < m → rd (E k) = some (.inl (E (k + 1)))) (h0 : rd (E m) = some (.inr x)) :
    ∀ n k, k ≤ m → m < n + k → loopR rd n (E k) = some x
  | 0, k, hk, hn => by omega
  | n + 1, k, hk, hn => by
    rw [loopR_succ]
    by_cases hlt : k < m
    · rw [h k hlt]
      simp only [Option.bind_some, Sum.elim_inl]
      exact loopR_count m E x h h0 n (k + 1) (by omega) (by omega)
    · have : k = m := by omega
      subst this
      rw [h0]
      rfl

theorem in_range {k n : Nat} (h : k < n) : decide (0 ≤ (k : Int) ∧ (k : Int) < (n : Int)) = true := by simp; omega
theorem lt_range {k n : Nat} (h : k < n) : decide ((k : Int) < (n : Int)) = true := by simpa using h
theorem ge_range (n : Nat) : decide ((n : Int) < (n : Int)) = false := by simp
theorem w_succ {k : Nat} (h : k < 9223372036854775807) : IntKind.wrap .i64 ((k : Int) + 1) = ((k + 1 : Nat) : Int) := by rw [w64 (by omega)]; simp

/-- The error of a number that is out of a range. -/
def rng (n lo hi : Int) : Int := if n < lo ∨ n > hi then 3 else 0
/-- The first number that is not 0. -/
def firstNZ : List Int → Int
  | [] => 0
  | x :: l => if x = 0 then firstNZ l else x

theorem firstNZ_zero {l : List Int} : firstNZ l = 0 ↔ ∀ x ∈ l, x = 0 := by
  induction l with
  | nil => simp [firstNZ]
  | cons x l ih =>
    simp only [firstNZ, List.mem_cons, forall_eq_or_imp]
    by_cases h : x = 0
    · simp [h, ih]
    · simp [h]

/-- The loop that looks for the first error. -/
theorem first_loop {rd : Int → Option (Int ⊕ (Int ⊕ Unit))} (l : List Int)
    (h : ∀ k (hk : k < l.length), rd (k : Int) = some (if l[k] = 0 then .inl ((k + 1 : Nat) : Int) else .inr (.inl l[k]))) (h0 : rd (l.length : Int) = some (.inr (.inr ()))) (n : Nat) (hn : l.length < n) :
    ∃ o, loopR rd n 0 = some o ∧ Sum.elim (fun x => x) (fun _ => 0) o = firstNZ l := by
  have key := loopR_fold (rd := rd) (S := Unit) (Y := Int) l (fun _ k => (k : Int)) (fun _ x => if x = 0 then .inl () else .inr x) (fun _ => .inr ()) (fun x => .inl x) (fun _ _ => True)
    (fun s k hk _ => ⟨by rw [h k hk]; by_cases e : l[k] = 0 <;> simp [e], fun _ _ => trivial⟩) (fun _ _ => h0) n () 0 (Nat.zero_le _) (by omega) trivial
  refine ⟨_, key, ?_⟩
  rw [List.drop_zero]
  clear key h h0 hn
  induction l with
  | nil => rfl
  | cons x l ih =>
    simp only [foldI, firstNZ]
    by_cases e : x = 0
    · simp only [e, if_true, Sum.elim_inl]; exact ih
    · simp [e]

/-- The same, and what the loop ends with. -/
theorem first_loop2 {rd : Int → Option (Int ⊕ (Int ⊕ Unit))} (l : List Int)
    (h : ∀ k (hk : k < l.length), rd (k : Int) = some (if l[k] = 0 then .inl ((k + 1 : Nat) : Int) else .inr (.inl l[k]))) (h0 : rd (l.length : Int) = some (.inr (.inr ()))) (n : Nat) (hn : l.length < n) :
    loopR rd n 0 = some (if firstNZ l = 0 then .inr () else .inl (firstNZ l)) := by
  have key := loopR_fold (rd := rd) (S := Unit) (Y := Int) l (fun _ k => (k : Int)) (fun _ x => if x = 0 then .inl () else .inr x) (fun _ => .inr ()) (fun x => .inl x) (fun _ _ => True)
    (fun s k hk _ => ⟨by rw [h k hk]; by_cases e : l[k] = 0 <;> simp [e], fun _ _ => trivial⟩) (fun _ _ => h0) n () 0 (Nat.zero_le _) (by omega) trivial
  rw [List.drop_zero] at key
  refine key.trans (congrArg some ?_)
  clear key h h0 hn
  induction l with
  | nil => rfl
  | cons x l ih =>
    simp only [foldI, firstNZ]
    by_cases e : x = 0
    · simp only [e, if_true, Sum.elim_inl]; exact ih
    · simp [e]

end Go.Am
namespace Go.Am
open Go

/-- Two classes become one; a class's label is its least number. -/
def mrg (f : Nat → Nat) (e : Nat × Nat) : Nat → Nat := fun i => if f i = max (f e.1) (f e.2) then min (f e.1) (f e.2) else f i
structure LabOk (f : Nat → Nat) : Prop where
  le : ∀ i, f i ≤ i
  idem : ∀ i, f (f i) = f i

theorem LabOk.mrg {f : Nat → Nat} (h : LabOk f) (e : Nat × Nat) : LabOk (mrg f e) := by
  have ha := h.idem e.1
  have hb := h.idem e.2
  refine ⟨fun i => ?_, fun i => ?_⟩
  · have := h.le i
    unfold Go.Am.mrg
    split <;> omega
  · have hi := h.idem i
    unfold Go.Am.mrg
    generalize f e.1 = a at *
    generalize f e.2 = b at *
    have hm : f (min a b) = min a b := by rcases Nat.le_total a b with h | h <;> simp [Nat.min_eq_left, Nat.min_eq_right, h, ha, hb]
    by_cases h1 : f i = max a b
    · rw [if_pos h1, hm]
      split <;> omega
    · rw [if_neg h1, hi, if_neg h1]
theorem mrg_same {f : Nat → Nat} {i j : Nat} (e : Nat × Nat) (h : f i = f j) : mrg f e i = mrg f e j := by unfold mrg; rw [h]
/-! ### Parents -/
/-- Parents that lead to the least numbers. -/
structure UF (f : Nat → Nat) (n : Nat) (u : Nat → Nat) : Prop where
  le : ∀ i, i < n → u i ≤ i
  lb : ∀ i, i < n → f (u i) = f i
  fix : ∀ i, i < n → u i = i → f i = i

def upd (u : Nat → Nat) (i v : Nat) : Nat → Nat := fun j => if j = i then v else u j
theorem upd_self (u : Nat → Nat) (i v : Nat) : upd u i v i = v := if_pos rfl
theorem upd_ne {u : Nat → Nat} {i v j : Nat} (h : j ≠ i) : upd u i v j = u j := if_neg h

theorem UF.id (n : Nat) : UF id n id := ⟨fun _ _ => Nat.le_refl _, fun _ _ => rfl, fun _ _ _ => rfl⟩
theorem UF.join {f u : Nat → Nat} {n : Nat} (h : UF f n u) (hf : LabOk f) (e : Nat × Nat) (h1 : e.1 < n) (h2 : e.2 < n) : UF (mrg f e) n (upd u (max (f e.1) (f e.2)) (min (f e.1) (f e.2))) := by
  have k1 := hf.le e.1
  have k2 := hf.le e.2
  have i1 := hf.idem e.1
  have i2 := hf.idem e.2
  have j1 := h.le (f e.1) (by omega)
  have j2 := h.le (f e.2) (by omega)
  have hm : f (min (f e.1) (f e.2)) = min (f e.1) (f e.2) := by rcases Nat.le_total (f e.1) (f e.2) with h | h <;> simp [Nat.min_eq_left, Nat.min_eq_right, h, i1, i2]
  have hM : f (max (f e.1) (f e.2)) = max (f e.1) (f e.2) := by rcases Nat.le_total (f e.1) (f e.2) with h | h <;> simp [Nat.max_eq_left, Nat.max_eq_right, h, i1, i2]
  refine ⟨fun j hj => ?_, fun j hj => ?_, fun j hj hj2 => ?_⟩
  · by_cases c : j = max (f e.1) (f e.2)
    · subst c; rw [upd_self]; omega
    · rw [upd_ne c]; exact h.le j hj
  · by_cases c : j = max (f e.1) (f e.2)
    · subst c
      rw [upd_self]
      unfold mrg
      rw [hM, hm, if_pos rfl]
      split <;> omega
    · rw [upd_ne c]
      exact mrg_same e (h.lb j hj)
  · by_cases c : j = max (f e.1) (f e.2)
    · subst c
      rw [upd_self] at hj2
      unfold mrg
      rw [hM, if_pos rfl, hj2]
    · rw [upd_ne c] at hj2
      have := h.fix j hj hj2
      unfold mrg
      rw [this, if_neg c]

/-! ### Rounds -/
def stepP (p : Nat → Nat) (e : Nat × Nat) : Nat → Nat := upd (upd p e.1 (min (p e.1) (p e.2))) e.2 (min (p e.1) (p e.2))
def roundP (es : List (Nat × Nat)) (p : Nat → Nat) : Nat → Nat := es.foldl stepP p
structure PropOk (f p : Nat → Nat) : Prop where
  le : ∀ i, p i ≤ i
  lb : ∀ i, f (p i) = f i

theorem stepP_le (p : Nat → Nat) (e : Nat × Nat) (i : Nat) : stepP p e i ≤ p i := by
  unfold stepP upd
  split
  · subst i; omega
  · split
    · subst i; omega
    · omega
theorem PropOk.step {f p : Nat → Nat} (h : PropOk f p) {e : Nat × Nat} (he : f e.1 = f e.2) : PropOk f (stepP p e) := by
  refine ⟨fun i => Nat.le_trans (stepP_le p e i) (h.le i), fun i => ?_⟩
  have hm : f (min (p e.1) (p e.2)) = f e.1 := by
    rcases Nat.le_total (p e.1) (p e.2) with c | c
    · rw [Nat.min_eq_left c]; exact h.lb e.1
    · rw [Nat.min_eq_right c, h.lb e.2]; exact he.symm
  unfold stepP upd
  split
  · subst i; rw [hm]; exact he
  · split
    · subst i; exact hm
    · exact h.lb i
theorem PropOk.round {f : Nat → Nat} : ∀ (es : List (Nat × Nat)) {p : Nat → Nat}, PropOk f p → (∀ e ∈ es, f e.1 = f e.2) → PropOk f (roundP es p)
  | [], _, h, _ => h
  | e :: es, _, h, he => PropOk.round es (h.step (he e (by simp))) fun d hd => he d (by simp [hd])
end Go.Am
namespace Go.Am
open Go

section
variable {κ ν : Type} [DecidableEq κ]
def getM (k : κ) : List (κ × ν) → Option ν
  | [] => none
  | (k', v) :: m => if k = k' then some v else getM k m
def putM (k : κ) (v : ν) : List (κ × ν) → List (κ × ν)
  | [] => [(k, v)]
  | (k', v') :: m => if k = k' then (k, v) :: m else (k', v') :: putM k v m

theorem putM_new {k : κ} {v : ν} : ∀ {m : List (κ × ν)}, getM k m = none → putM k v m = m ++ [(k, v)]
  | [], _ => rfl
  | (k1, v1) :: m, h => by
    unfold getM at h
    split at h
    · cases h
    · rename_i hne
      unfold putM
      rw [if_neg hne, putM_new h]
      rfl
/-- How keys and values are written. -/
structure MapEnc (ek : EK) (nk : κ → AV) (nv : ν → AV) (nM : κ × ν → AV) : Prop where
  key : ∀ a b, eqK ek (nk a) (nk b) = some (decide (a = b))
  pair : ∀ x, nM x = .agg [nk x.1, nv x.2]
  exact : ∀ x, (nM x).exact = true

variable {ek : EK} {nk : κ → AV} {nv : ν → AV} {nM : κ × ν → AV} (h : MapEnc ek nk nv nM)
include h
theorem MapEnc.ent : ∀ m : List (κ × ν), entriesL (List.map nM m) = m.map fun x => (nk x.1, nv x.2)
  | [] => rfl
  | x :: m => by
    rw [List.map_cons, h.pair, entriesL, MapEnc.ent m]
    rfl
theorem MapEnc.keys (k : κ) : ∀ m : List (κ × ν), mkeys ek (nk k) (entriesL (List.map nM m)) = true
  | [] => rfl
  | x :: m => by
    have := MapEnc.keys k m
    rw [List.map_cons, h.pair, entriesL]
    show ((eqK ek (nk k) (nk x.1)).isSome && mkeys ek (nk k) (entriesL (List.map nM m))) = true
    rw [this, h.key]
    rfl
theorem MapEnc.get (k : κ) : ∀ m : List (κ × ν), mgetT ek (nk k) (entriesL (List.map nM m)) = (getM k m).map nv
  | [] => rfl
  | x :: m => by
    have ih := MapEnc.get k m
    rw [List.map_cons, h.pair, entriesL]
    show (bif eqT ek (nk k) (nk x.1) then some (nv x.2) else mgetT ek (nk k) (entriesL (List.map nM m))) = (if k = x.1 then some x.2 else getM k m).map nv
    unfold eqT
    rw [h.key, ih]
    by_cases e : k = x.1
    · simp [e]
    · simp [e]
theorem MapEnc.getD (k : κ) (z : ν) (m : List (κ × ν)) : mgetD ek (nk k) (nv z) (entriesL (List.map nM m)) = nv ((getM k m).getD z) := by
  unfold mgetD
  rw [h.get]
  cases getM k m <;> rfl
theorem MapEnc.put (k : κ) (v : ν) : ∀ m : List (κ × ν), mputT ek (nk k) (nv v) (entriesL (List.map nM m)) = entriesL (List.map nM (putM k v m))
  | [] => by
    show [(nk k, nv v)] = entriesL [nM (k, v)]
    rw [h.pair]
    rfl
  | x :: m => by
    have ih := MapEnc.put k v m
    rw [List.map_cons, h.pair, entriesL]
    show (bif eqT ek (nk k) (nk x.1) then (nk k, nv v) :: entriesL (List.map nM m) else (nk x.1, nv x.2) :: mputT ek (nk k) (nv v) (entriesL (List.map nM m))) = entriesL (List.map nM (if k = x.1 then (k, v) :: m else (x.1, x.2) :: putM k v m))
    unfold eqT
    rw [h.key, ih]
    by_cases e : k = x.1
    · simp only [e, decide_true, cond_true, if_true, List.map_cons]
      rw [h.pair (x.1, v), entriesL]
      rfl
    · simp only [e, decide_false, cond_false, if_false, List.map_cons]
      rw [h.pair (x.1, x.2), entriesL]
      rfl
theorem MapEnc.cells : ∀ m : List (κ × ν), mcells (entriesL (List.map nM m)) = List.map nM m
  | [] => rfl
  | x :: m => by
    have ih := MapEnc.cells m
    rw [List.map_cons, h.pair, entriesL]
    show AV.agg [nk x.1, nv x.2] :: mcells (entriesL (List.map nM m)) = _
    rw [ih]
theorem MapEnc.allX (m : List (κ × ν)) : Go.Am.allX (entriesL (List.map nM m)) = true := by
  unfold Go.Am.allX
  rw [h.cells]
  induction m with
  | nil => rfl
  | cons x m ih => rw [List.map_cons, exactL, ih, h.exact]; rfl
end

/-! ### Keys -/
theorem eqK_int (k : IntKind) (a b : Int) : eqK .int (.int k a) (.int k b) = some (decide (a = b)) := by
  unfold eqK
  simp only [eqA, if_true]
  by_cases h : a = b
  · subst h; simp [EK.wide]
  · have : (a == b) = false := by simpa using h
    rw [this]; simp [h]
end Go.Am
namespace Go.Am
open Go

section
variable {x n : Nat} (hx : 1 ≤ x) (hn : x ≤ n)

/-- The number of a place. -/
def evQ (x n k : Nat) : Nat := k * x / n
/-- The first place of a number. -/
def evC (x n i : Nat) : Nat := (i * n + x - 1) / x

include hx
theorem evC_le {i k : Nat} : evC x n i ≤ k ↔ i * n ≤ k * x := by
  unfold evC
  rw [← Nat.lt_succ_iff, Nat.div_lt_iff_lt_mul (by omega)]
  show i * n + x - 1 < (k + 1) * x ↔ _
  rw [Nat.add_mul, Nat.one_mul]
  omega
theorem evC_lt {i k : Nat} : k < evC x n i ↔ k * x < i * n := by
  have := evC_le hx (n := n) (i := i) (k := k)
  omega
theorem evC_zero : evC x n 0 = 0 := by
  have := (evC_le hx (n := n) (i := 0) (k := 0)).2 (by simp)
  omega
theorem evC_mono {i j : Nat} (h : i ≤ j) : evC x n i ≤ evC x n j := by
  rw [evC_le hx]
  have h1 := (evC_le hx (n := n) (i := j) (k := evC x n j)).1 (Nat.le_refl _)
  exact Nat.le_trans (Nat.mul_le_mul_right n h) h1
theorem evC_period (i : Nat) : evC x n (i + x) = evC x n i + n := by
  unfold evC
  rw [Nat.add_mul, Nat.mul_comm x n, show i * n + n * x + x - 1 = (i * n + x - 1) + n * x by omega, Nat.add_mul_div_right _ _ (by omega)]
theorem evC_all : evC x n x = n := by
  have := evC_period hx (n := n) 0
  rw [Nat.zero_add, evC_zero hx, Nat.zero_add] at this
  exact this
include hn
theorem evC_succ (i : Nat) : evC x n i < evC x n (i + 1) := by
  rw [evC_lt hx, Nat.add_mul, Nat.one_mul]
  -- the first place of i comes at once behind i * n / x
  have h1 : ¬ (evC x n i - 1 + 1 = evC x n i ∧ i * n ≤ (evC x n i - 1) * x) ∨ evC x n i = 0 := by
    by_cases h0 : evC x n i = 0
    · exact .inr h0
    · left
      rintro ⟨_, h⟩
      have := (evC_le hx (n := n) (i := i) (k := evC x n i - 1)).2 h
      omega
  rcases h1 with h1 | h1
  · by_cases h0 : evC x n i = 0
    · rw [h0]; omega
    · have h2 : ¬ i * n ≤ (evC x n i - 1) * x := fun h => h1 ⟨by omega, h⟩
      rw [Nat.sub_mul, Nat.one_mul] at h2
      have h3 : x ≤ evC x n i * x := Nat.le_mul_of_pos_left _ (by omega)
      omega
  · rw [h1]; omega
theorem evQ_iff {i k : Nat} : evQ x n k = i ↔ evC x n i ≤ k ∧ k < evC x n (i + 1) := by
  rw [evC_le hx, evC_lt hx]
  unfold evQ
  rw [Nat.div_eq_iff (by omega), Nat.add_mul, Nat.one_mul]
  have hp : 0 < n := by omega
  constructor
  · rintro ⟨h1, h2⟩; exact ⟨by omega, by omega⟩
  · rintro ⟨h1, h2⟩; exact ⟨by omega, by omega⟩
theorem evQ_spec (k : Nat) : evC x n (evQ x n k) ≤ k ∧ k < evC x n (evQ x n k + 1) := (evQ_iff hx hn).1 rfl
theorem evQ_lt {k : Nat} (h : k < n) : evQ x n k < x := by
  unfold evQ
  exact Nat.div_lt_of_lt_mul (by rw [Nat.mul_comm n]; rw [Nat.mul_comm k]; exact Nat.mul_lt_mul_of_pos_left h (by omega))
theorem evQ_zero : evQ x n 0 = 0 := by unfold evQ; simp
theorem evQ_step (k : Nat) : evQ x n (k + 1) = evQ x n k ∨ evQ x n (k + 1) = evQ x n k + 1 := by
  obtain ⟨h1, h2⟩ := evQ_spec hx hn k
  by_cases h : k + 1 < evC x n (evQ x n k + 1)
  · left; rw [evQ_iff hx hn]; omega
  · right
    rw [evQ_iff hx hn]
    have := evC_succ hx hn (evQ x n k + 1)
    omega
theorem evQ_last : evQ x n (n - 1) = x - 1 := by
  rw [evQ_iff hx hn, show x - 1 + 1 = x by omega, evC_all hx]
  have := evC_succ hx hn (x - 1)
  rw [show x - 1 + 1 = x by omega, evC_all hx] at this
  omega
/-- A window's number of places. -/
theorem evC_win (j w : Nat) : evC x n j + w * n / x ≤ evC x n (j + w) ∧ evC x n (j + w) ≤ evC x n j + w * n / x + 1 := by
  have h1 := Nat.div_mul_le_self (w * n) x
  have h2 := Nat.lt_div_mul_add (a := w * n) (b := x) (by omega)
  have c1 := (evC_le hx (n := n) (i := j) (k := evC x n j)).1 (Nat.le_refl _)
  have c2 := (evC_le hx (n := n) (i := j + w) (k := evC x n (j + w))).1 (Nat.le_refl _)
  generalize w * n / x = lo at *
  constructor
  · have hlo : lo ≤ evC x n (j + w) := by
      have : lo * x ≤ evC x n (j + w) * x := by rw [Nat.add_mul] at c2; omega
      exact Nat.le_of_mul_le_mul_right this (by omega)
    have : evC x n j ≤ evC x n (j + w) - lo := by
      rw [evC_le hx, Nat.sub_mul]
      rw [Nat.add_mul] at c2
      omega
    omega
  · rw [evC_le hx, Nat.add_mul j w n, Nat.add_mul, Nat.add_mul, Nat.one_mul]
    omega

/-! ### How often each number has come -/
omit hx hn in
def evR (x n k i : Nat) : Nat := min k (evC x n (i + 1)) - min k (evC x n i)
theorem evR_step (k i : Nat) : evR x n (k + 1) i = if i = evQ x n k then evR x n k i + 1 else evR x n k i := by
  have hs := evC_succ hx hn i
  unfold evR
  by_cases h : i = evQ x n k
  · rw [if_pos h]
    have := (evQ_iff hx hn (i := i) (k := k)).1 h.symm
    omega
  · rw [if_neg h]
    have h' : ¬ (evC x n i ≤ k ∧ k < evC x n (i + 1)) := fun c => h ((evQ_iff hx hn).2 c).symm
    omega
theorem evR_all {i : Nat} (hi : i < x) : evR x n n i = evC x n (i + 1) - evC x n i := by
  have h1 := evC_mono hx (n := n) (show i + 1 ≤ x by omega)
  have h2 := evC_mono hx (n := n) (show i ≤ x by omega)
  rw [evC_all hx] at h1 h2
  unfold evR
  omega
theorem evR_le (k i : Nat) : evR x n k i ≤ k := by unfold evR; omega
/-- How many numbers have come. -/
def evN (x n : Nat) : Nat → Nat
  | 0 => 0
  | k + 1 => evQ x n k + 1
theorem evN_le (k : Nat) : evQ x n k = evN x n k ∨ (evQ x n k < evN x n k ∧ evN x n (k + 1) = evN x n k) := by
  cases k with
  | zero => left; rw [evQ_zero hx hn]; rfl
  | succ k =>
    rcases evQ_step hx hn k with h | h
    · right; constructor
      · rw [h]; exact Nat.lt_succ_self _
      · show evQ x n (k + 1) + 1 = evQ x n k + 1; rw [h]
    · left; rw [h]; rfl
/-- The map of how often each number has come. -/
def evM (x n k : Nat) : List (Int × Int) := (List.range (evN x n k)).map fun (i : Nat) => ((i : Int), (evR x n k i : Int))
end

theorem getM_range (f : Nat → Int) (j : Nat) : ∀ m : Nat, getM (j : Int) ((List.range m).map fun (i : Nat) => ((i : Int), f i)) = if j < m then some (f j) else none := by
  have gen : ∀ (m s : Nat), getM (j : Int) ((List.range' s m).map fun (i : Nat) => ((i : Int), f i)) = if s ≤ j ∧ j < s + m then some (f j) else none := by
    intro m
    induction m with
    | zero => intro s; rw [if_neg (by omega)]; rfl
    | succ m ih =>
      intro s
      rw [List.range'_succ, List.map_cons, getM, ih]
      by_cases h : j = s
      · subst h; simp
      · have h' : ¬ (j : Int) = (s : Int) := by omega
        rw [if_neg h']
        by_cases h2 : s + 1 ≤ j ∧ j < s + 1 + m
        · rw [if_pos h2, if_pos (by omega)]
        · rw [if_neg h2, if_neg (by omega)]
  intro m
  rw [List.range_eq_range', gen]
  simp
theorem putM_range (f : Nat → Int) (j : Nat) (v : Int) : ∀ m : Nat, j < m → putM (j : Int) v ((List.range m).map fun (i : Nat) => ((i : Int), f i)) = (List.range m).map fun (i : Nat) => ((i : Int), if i = j then v else f i) := by
  have gen : ∀ (m s : Nat), s ≤ j → j < s + m → putM (j : Int) v ((List.range' s m).map fun (i : Nat) => ((i : Int), f i)) = (List.range' s m).map fun (i : Nat) => ((i : Int), if i = j then v else f i) := by
    intro m
    induction m with
    | zero => intro s h1 h2; omega
    | succ m ih =>
      intro s h1 h2
      rw [List.range'_succ, List.map_cons, List.map_cons, putM]
      by_cases h : j = s
      · subst h
        rw [if_pos rfl, if_pos rfl]
        congr 1
        apply List.map_congr_left
        intro i hi
        have := (List.mem_range'_1.1 hi).1
        rw [if_neg (by omega)]
      · have h' : ¬ (j : Int) = (s : Int) := by omega
        have h3 : ¬ s = j := fun e => h e.symm
        rw [if_neg h', if_neg h3, ih (s + 1) (by omega) (by omega)]
  intro m h
  rw [List.range_eq_range']
  exact gen m 0 (Nat.zero_le _) (by omega)

section
variable {x n : Nat} (hx : 1 ≤ x) (hn : x ≤ n)
include hx hn
/-- One number more. -/
theorem evM_step (k : Nat) : putM (evQ x n k : Int) (((getM (evQ x n k : Int) (evM x n k)).getD 0) + 1) (evM x n k) = evM x n (k + 1) := by
  have hg := getM_range (fun i => (evR x n k i : Int)) (evQ x n k) (evN x n k)
  have hg' : getM (evQ x n k : Int) (evM x n k) = _ := hg
  have hstep : ∀ i, (evR x n (k + 1) i : Int) = if i = evQ x n k then (evR x n k i : Int) + 1 else (evR x n k i : Int) := fun i => by
    rw [evR_step hx hn]
    split <;> simp
  rcases evN_le hx hn k with h | ⟨h1, h2⟩
  · -- a new number
    rw [hg', if_neg (by omega)]
    have hnone : getM (evQ x n k : Int) (evM x n k) = none := by rw [hg', if_neg (by omega)]
    rw [putM_new hnone]
    have hz : evR x n k (evQ x n k) = 0 := by
      obtain ⟨c1, c2⟩ := evQ_spec hx hn k
      cases k with
      | zero => have := evR_le hx hn 0 (evQ x n 0); omega
      | succ k =>
        have h : evQ x n (k + 1) = evQ x n k + 1 := h
        obtain ⟨d1, d2⟩ := evQ_spec hx hn k
        rw [h] at c1 c2 ⊢
        unfold evR
        omega
    show evM x n k ++ [((evQ x n k : Int), ((none : Option Int).getD 0) + 1)] = (List.range (evQ x n k + 1)).map _
    rw [List.range_succ, List.map_append, h]
    congr 1
    · unfold evM
      apply List.map_congr_left
      intro i hi
      have := List.mem_range.1 hi
      rw [hstep, if_neg (by omega)]
    · show [((evN x n k : Int), (0 : Int) + 1)] = [((evN x n k : Int), (evR x n (k + 1) (evN x n k) : Int))]
      rw [hstep, h, if_pos rfl, ← h, hz]
      rfl
  · rw [hg', if_pos h1]
    have hp := putM_range (fun i => (evR x n k i : Int)) (evQ x n k) ((evR x n k (evQ x n k) : Int) + 1) (evN x n k) h1
    have hp' : putM (evQ x n k : Int) ((evR x n k (evQ x n k) : Int) + 1) (evM x n k) = _ := hp
    show putM (evQ x n k : Int) ((evR x n k (evQ x n k) : Int) + 1) (evM x n k) = evM x n (k + 1)
    rw [hp']
    unfold evM
    rw [h2]
    apply List.map_congr_left
    intro i _
    rw [hstep]
    by_cases e : i = evQ x n k
    · subst e; rw [if_pos rfl]
    · rw [if_neg e, if_neg e]
theorem evM_all : (evM x n n).length = x ∧ ∀ i, i < x → getM (i : Int) (evM x n n) = some ((evC x n (i + 1) : Int) - (evC x n i : Int)) := by
  have hN : evN x n n = x := by
    obtain ⟨m, rfl⟩ : ∃ m, n = m + 1 := ⟨n - 1, by omega⟩
    have := evQ_last hx hn
    show evQ x (m + 1) m + 1 = x
    rw [show m + 1 - 1 = m from rfl] at this
    omega
  refine ⟨by unfold evM; rw [List.length_map, List.length_range, hN], fun i hi => ?_⟩
  have hg := getM_range (fun i => (evR x n n i : Int)) i (evN x n n)
  have hg' : getM (i : Int) (evM x n n) = _ := hg
  have hs := evC_succ hx hn i
  rw [hg', hN, if_pos hi, evR_all hx hn hi]
  congr 1
  omega
end
end Go.Am
