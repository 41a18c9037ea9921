/- The abstract machine: what its values and states mean in the model's memory. -/
import Derived.Test.YtpngggdfbbdfaaaDoorAmB
set_option linter.all false
namespace Go.Am
open Go

/-- Where an object lies. -/
inductive RO where
  | none
  | nil0
  | blk (b : Nat)
  | tok (f b c : Nat)

def RO.block : RO → Option Nat
  | .none => Option.none
  | .nil0 => Option.none
  | .blk b => some b
  | .tok _ b _ => some b

/-- I: the cells that never change again. -/
structure Realm where
  I : Nat → Nat → Prop
  obj : List RO

def LkTok (b o len cap : Nat) : RO → Prop
  | .none => True
  | .nil0 => False
  | .blk _ => False
  | .tok f b' c' => len ≤ f ∧ (len = f → b = b' ∧ o = 0 ∧ cap = c')

/-- The list of a token may be nil. -/
def OwnNil : RO → Prop
  | .none => True
  | .nil0 => True
  | .blk _ => False
  | .tok f _ _ => 1 ≤ f

def LkOk (R : Realm) (k : LK) (b o len cap : Nat) : Prop := match k with
  | .nil => False
  | .full => cap = len
  | .opn => True
  | .own id => ∃ ro, nth R.obj id = some ro ∧ LkTok b o len cap ro

mutual
inductive Rel (R : Realm) (w : World) : AV → Value → Prop
  | bool (b : Bool) : Rel R w (.bool b) (.bool b)
  | int (k : IntKind) (n : Int) : Rel R w (.int k n) (.int k n)
  | str (l : List UInt8) : Rel R w (.str l) (.string ⟨⟨l⟩⟩)
  | agg {cs : List AV} {vs : List Value} (h : RelL R w cs vs) (h1 : ∀ v ∈ vs, v.oneCell' = true) : Rel R w (.agg cs) (.agg ⟨vs⟩)
  | tup {cs : List AV} {vs : List Value} (h : RelL R w cs vs) : Rel R w (.tup cs) (.tuple ⟨vs⟩)
  | nilp : Rel R w .nilp (.pointer none)
  | ptr {id off b : Nat} (h : nth R.obj id = some (.blk b)) : Rel R w (.ptr id off) (.pointer (some ⟨b, off, none⟩))
  | ep {cs : List AV} {b o : Nat} (h : RelC R w b o cs) : Rel R w (.ep cs) (.pointer (some ⟨b, o, none⟩))
  | lnil {sz : Nat} : Rel R w (.list .nil sz []) (.slice none 0 0)
  | lopn {sz : Nat} : Rel R w (.list .opn sz []) (.slice none 0 0)
  | lown {id sz : Nat} {ro : RO} (h : nth R.obj id = some ro) (ho : OwnNil ro) : Rel R w (.list (.own id) sz []) (.slice none 0 0)
  | list {k : LK} {sz : Nat} {es : List AV} {b o len cap : Nat} (h : RelE R w b o sz es) (hl : len = es.length) (hc : len ≤ cap) (hk : LkOk R k b o len cap) : Rel R w (.list k sz es) (.slice (some ⟨b, o, none⟩) len cap)
  | msl {id off sz len cap b : Nat} (h : nth R.obj id = some (.blk b)) (hc : len ≤ cap) : Rel R w (.msl id off sz len cap) (.slice (some ⟨b, off, none⟩) len cap)
  | nilm : Rel R w .nilm (.map none)
  | map {id b : Nat} (h : nth R.obj id = some (.blk b)) : Rel R w (.map id) (.map (some b))
  | nilf : Rel R w .nilf .nilFunc
  | fn {f : FuncId} {xs ys : List AV} {vs us : List Value} (h : RelL R w xs vs) (h' : RelL R w ys us) : Rel R w (.fn f xs ys) (.func (.func f) ⟨vs⟩ ⟨us⟩)
  | yield {id b : Nat} (h : nth R.obj id = some (.blk b)) : Rel R w (.yield id) (.func (.yield b) #[] #[])
  | nili : Rel R w .nili .nilIface
  | iface {t : TypeId} {v : AV} {c : Value} (h : Rel R w v c) : Rel R w (.iface t v) (.iface t c)
inductive RelL (R : Realm) (w : World) : List AV → List Value → Prop
  | nil : RelL R w [] []
  | cons {a : AV} {c : Value} {l : List AV} {cs : List Value} (h : Rel R w a c) (t : RelL R w l cs) : RelL R w (a :: l) (c :: cs)
inductive RelE (R : Realm) (w : World) : Nat → Nat → Nat → List AV → Prop
  | nil {b o sz : Nat} : RelE R w b o sz []
  | cons {b o sz : Nat} {e : AV} {es : List AV} (hl : e.cells.length = sz) (ht : e.notTup = true) (hk : e.closed = true) (h : RelC R w b o e.cells) (t : RelE R w b (o + sz) sz es) : RelE R w b o sz (e :: es)
inductive RelC (R : Realm) (w : World) : Nat → Nat → List AV → Prop
  | nil {b o : Nat} : RelC R w b o []
  | cons {b o : Nat} {a : AV} {c : Value} {l : List AV} (hc : w.cell? ⟨b, o, none⟩ = some c) (h1 : c.oneCell' = true) (hi : R.I b o) (h : Rel R w a c) (t : RelC R w b (o + 1) l) : RelC R w b o (a :: l)
end

def RoLe : RO → RO → Prop
  | .none, r => r = .none
  | .blk b, r => r = .blk b
  | .nil0, .none => True
  | .nil0, .nil0 => True
  | .nil0, .blk _ => False
  | .nil0, .tok f _ _ => 1 ≤ f
  | .tok _ _ _, .none => True
  | .tok _ _ _, .nil0 => False
  | .tok _ _ _, .blk _ => False
  | .tok f b c, .tok f' b' c' => f ≤ f' ∧ (f' = f → b' = b ∧ c' = c)

theorem RoLe.refl (r : RO) : RoLe r r := by cases r <;> simp [RoLe]

theorem RoLe.trans {a b c : RO} (h : RoLe a b) (k : RoLe b c) : RoLe a c := by
  cases a with
  | none => simp only [RoLe] at h; subst h; exact k
  | blk x => simp only [RoLe] at h; subst h; exact k
  | nil0 =>
    cases b with
    | none => simp only [RoLe] at k; subst k; trivial
    | nil0 => exact k
    | blk z => exact h.elim
    | tok f' x' y' =>
      cases c with
      | none => trivial
      | nil0 => exact k.elim
      | blk z => exact k.elim
      | tok f'' x'' y'' => simp only [RoLe] at *; omega
  | tok f x y =>
    cases b with
    | none => simp only [RoLe] at k; subst k; trivial
    | nil0 => exact h.elim
    | blk z => exact h.elim
    | tok f' x' y' =>
      cases c with
      | none => trivial
      | nil0 => exact k.elim
      | blk z => exact k.elim
      | tok f'' x'' y'' =>
        simp only [RoLe] at *
        refine ⟨Nat.le_trans h.1 k.1, fun e => ?_⟩
        obtain ⟨h1, h2⟩ := h; obtain ⟨k1, k2⟩ := k
        have e1 : f' = f := by omega
        have e2 : f'' = f' := by omega
        exact ⟨(k2 e2).1.trans (h2 e1).1, (k2 e2).2.trans (h2 e1).2⟩

/-- A loop's record keeps all but its state. -/
def SameLoop (r r' : Loop) : Prop := r'.tmps = r.tmps ∧ r'.params = r.params ∧ r'.assign = r.assign ∧ r'.body = r.body ∧ r'.defers = r.defers
def KeepLp (w w' : World) : Prop := ∀ (b : Nat) (r : Loop), w.heap[b]? = some (Obj.loop r) → ∃ r', w'.heap[b]? = some (Obj.loop r') ∧ SameLoop r r'
theorem KeepLp.refl (w : World) : KeepLp w w := fun _ r h => ⟨r, h, rfl, rfl, rfl, rfl, rfl⟩
theorem KeepLp.trans {w w1 w2 : World} (h : KeepLp w w1) (k : KeepLp w1 w2) : KeepLp w w2 := fun b r hb =>
  let ⟨_, h1, h2, h3, h4, h5, h6⟩ := h b r hb
  let ⟨r2, k1, k2, k3, k4, k5, k6⟩ := k b _ h1
  ⟨r2, k1, k2.trans h2, k3.trans h3, k4.trans h4, k5.trans h5, k6.trans h6⟩
theorem KeepLp.old {w w' : World} (h : ∀ b, b < w.heap.size → w'.heap[b]? = w.heap[b]?) : KeepLp w w' := fun b r hb =>
  ⟨r, (h b (by rcases Nat.lt_or_ge b w.heap.size with hlt | hge
               · exact hlt
               · rw [Array.getElem?_eq_none hge] at hb; cases hb)).trans hb, rfl, rfl, rfl, rfl, rfl⟩

/-- What is known of values stays known. -/
structure Ext (R : Realm) (w : World) (R' : Realm) (w' : World) : Prop where
  I : ∀ b o, R.I b o → R'.I b o
  cell : ∀ b o, R.I b o → w'.cell? ⟨b, o, none⟩ = w.cell? ⟨b, o, none⟩
  obj : ∀ id ro, nth R.obj id = some ro → ∃ ro', nth R'.obj id = some ro' ∧ RoLe ro ro'
  lp : KeepLp w w'

theorem Ext.refl (R : Realm) (w : World) : Ext R w R w := ⟨fun _ _ h => h, fun _ _ _ => rfl, fun _ ro h => ⟨ro, h, RoLe.refl ro⟩, KeepLp.refl w⟩

theorem Ext.trans {R R' R'' : Realm} {w w' w'' : World} (h : Ext R w R' w') (k : Ext R' w' R'' w'') : Ext R w R'' w'' :=
  ⟨fun b o hi => k.I b o (h.I b o hi), fun b o hi => (k.cell b o (h.I b o hi)).trans (h.cell b o hi), fun id ro hr =>
    let ⟨_, h1, h2⟩ := h.obj id ro hr
    let ⟨r2, h3, h4⟩ := k.obj id _ h1
    ⟨r2, h3, h2.trans h4⟩, h.lp.trans k.lp⟩

theorem Ext.blk {R R' : Realm} {w w' : World} (h : Ext R w R' w') {id b : Nat} (hb : nth R.obj id = some (.blk b)) : nth R'.obj id = some (.blk b) := by
  obtain ⟨r, h1, h2⟩ := h.obj id _ hb
  simp only [RoLe] at h2
  subst h2
  exact h1

theorem LkOk.mono {R R' : Realm} {w w' : World} (e : Ext R w R' w') {k : LK} {b o len cap : Nat} (h : LkOk R k b o len cap) : LkOk R' k b o len cap := by
  cases k with
  | nil => exact h
  | full => exact h
  | opn => trivial
  | own id =>
    obtain ⟨ro, h1, h2⟩ := h
    obtain ⟨ro', h3, h4⟩ := e.obj id ro h1
    refine ⟨ro', h3, ?_⟩
    cases ro with
    | none => simp only [RoLe] at h4; subst h4; trivial
    | nil0 => exact h2.elim
    | blk x => exact h2.elim
    | tok f x y =>
      cases ro' with
      | none => trivial
      | nil0 => exact h4.elim
      | blk z => exact h4.elim
      | tok f' x' y' =>
        simp only [RoLe, LkTok] at *
        refine ⟨by omega, fun e => ?_⟩
        have e1 : f' = f := by omega
        have h5 := h2.2 (by omega)
        have h6 := h4.2 e1
        exact ⟨h5.1.trans h6.1.symm, h5.2.1, h5.2.2.trans h6.2.symm⟩

theorem OwnNil.mono {ro ro' : RO} (h : OwnNil ro) (e : RoLe ro ro') : OwnNil ro' := by
  cases ro with
  | none => simp only [RoLe] at e; subst e; trivial
  | nil0 => cases ro' <;> first | trivial | exact e.elim | exact e
  | blk _ => exact h.elim
  | tok f x y =>
    cases ro' with
    | none => trivial
    | nil0 => exact e.elim
    | blk z => exact e.elim
    | tok f' x' y' => simp only [RoLe, OwnNil] at *; omega

mutual
theorem Rel.mono {R R' : Realm} {w w' : World} (e : Ext R w R' w') : ∀ {a : AV} {c : Value}, Rel R w a c → Rel R' w' a c
  | _, _, .bool b => .bool b
  | _, _, .int k n => .int k n
  | _, _, .str l => .str l
  | _, _, .agg h h1 => .agg (h.mono e) h1
  | _, _, .tup h => .tup (h.mono e)
  | _, _, .nilp => .nilp
  | _, _, .ptr h => .ptr (e.blk h)
  | _, _, .ep h => .ep (h.mono e)
  | _, _, .lnil => .lnil
  | _, _, .lopn => .lopn
  | _, _, .lown h ho => let ⟨_, h3, h4⟩ := e.obj _ _ h; .lown h3 (ho.mono h4)
  | _, _, .list h hl hc hk => .list (h.mono e) hl hc (hk.mono e)
  | _, _, .msl h hc => .msl (e.blk h) hc
  | _, _, .nilm => .nilm
  | _, _, .map h => .map (e.blk h)
  | _, _, .nilf => .nilf
  | _, _, .fn h h' => .fn (h.mono e) (h'.mono e)
  | _, _, .yield h => .yield (e.blk h)
  | _, _, .nili => .nili
  | _, _, .iface h => .iface (h.mono e)
theorem RelL.mono {R R' : Realm} {w w' : World} (e : Ext R w R' w') : ∀ {l : List AV} {cs : List Value}, RelL R w l cs → RelL R' w' l cs
  | _, _, .nil => .nil
  | _, _, .cons h t => .cons (h.mono e) (t.mono e)
theorem RelE.mono {R R' : Realm} {w w' : World} (e : Ext R w R' w') : ∀ {b o sz : Nat} {l : List AV}, RelE R w b o sz l → RelE R' w' b o sz l
  | _, _, _, _, .nil => .nil
  | _, _, _, _, .cons hl ht hk h t => .cons hl ht hk (h.mono e) (t.mono e)
theorem RelC.mono {R R' : Realm} {w w' : World} (e : Ext R w R' w') : ∀ {b o : Nat} {l : List AV}, RelC R w b o l → RelC R' w' b o l
  | _, _, _, .nil => .nil
  | _, _, _, .cons hc h1 hi h t => .cons ((e.cell _ _ hi).trans hc) h1 (e.I _ _ hi) (h.mono e) (t.mono e)
end

end Go.Am
