/- The abstract machine: a state and the model's memory. -/
import Derived.Test.YtpngggdfbbdfaaaDoorAmC
set_option linter.all false
namespace Go.Am
open Go

section lists
variable {α : Type}
theorem nth_eq (l : List α) (n : Nat) : nth l n = l[n]? := by
  induction l generalizing n with
  | nil => simp [nth]
  | cons a l ih => cases n <;> simp [nth, ih]
theorem setN_eq (l : List α) (n : Nat) (x : α) : setN l n x = l.set n x := by
  induction l generalizing n with
  | nil => simp [setN]
  | cons a l ih => cases n <;> simp [setN, ih]
theorem nth_lt {l : List α} {n : Nat} {x : α} (h : nth l n = some x) : n < l.length := by
  rw [nth_eq] at h
  exact (List.getElem?_eq_some_iff.1 h).1
theorem nth_setN_self {l : List α} {n : Nat} {x y : α} (h : nth l n = some y) : nth (setN l n x) n = some x := by
  have := nth_lt h
  rw [nth_eq, setN_eq, List.getElem?_set_self this]
theorem nth_setN_ne {l : List α} {n m : Nat} {x : α} (h : n ≠ m) : nth (setN l n x) m = nth l m := by
  rw [nth_eq, setN_eq, nth_eq, List.getElem?_set_ne h]
theorem nth_setN {l : List α} {n m : Nat} {x y : α} (h : nth (setN l n x) m = some y) : (n = m ∧ y = x ∧ m < l.length) ∨ (n ≠ m ∧ nth l m = some y) := by
  by_cases e : n = m
  · subst e
    have hl := nth_lt h
    rw [setN_eq, List.length_set] at hl
    rw [nth_eq, setN_eq, List.getElem?_set_self hl] at h
    exact .inl ⟨rfl, (Option.some.inj h).symm, hl⟩
  · rw [nth_setN_ne e] at h
    exact .inr ⟨e, h⟩
@[simp] theorem length_setN (l : List α) (n : Nat) (x : α) : (setN l n x).length = l.length := by rw [setN_eq, List.length_set]
theorem nth_append_new (l : List α) (x : α) : nth (l ++ [x]) l.length = some x := by rw [nth_eq]; simp
theorem nth_append_old {l : List α} {n : Nat} {y x : α} (h : nth l n = some y) : nth (l ++ [x]) n = some y := by
  have := nth_lt h
  rw [nth_eq] at *
  rw [List.getElem?_append_left this]
  exact h
theorem nth_append_inv {l : List α} {n : Nat} {y x : α} (h : nth (l ++ [x]) n = some y) : nth l n = some y ∨ (n = l.length ∧ y = x) := by
  rw [nth_eq] at *
  by_cases e : n < l.length
  · rw [List.getElem?_append_left e] at h; exact .inl h
  · rw [List.getElem?_append_right (by omega)] at h
    have hl := (List.getElem?_eq_some_iff.1 h).1
    simp at hl
    have : n - l.length = 0 := by omega
    rw [this] at h
    simp at h
    exact .inr ⟨by omega, h.symm⟩
end lists

/-- A loop's record. -/
def loopOk (R : Realm) (w : World) (RelSL : Slots → Array Value → Prop) (busy : Bool) (pending : Option Code) (slots : Slots) (n : Nat) (params : List Tmp) (assign body : Code) (defers : Nat) (done : Bool) (b : Nat) : Prop :=
  ∃ (r : Loop) (db : Nat), w.heap[b]? = some (.loop r) ∧ r.state = (if done then .done else if busy then .busy else .ready) ∧ r.pending = pending ∧
    RelSL slots r.tmps ∧ r.tmps.size = n ∧ r.params = ⟨params⟩ ∧ r.assign = assign ∧ r.body = body ∧ r.defers = db ∧ nth R.obj defers = some (.blk db)

def RelS (R : Realm) (w : World) (β : Nat → Nat) : SV → Value → Prop
  | .none, _ => True
  | .v a, c => Rel R w a c
  | .lp k off, c => c = .pointer (some ⟨β k, off, none⟩)

/-- Slots and temporaries. -/
def RelT (R : Realm) (w : World) (β : Nat → Nat) (slots : Slots) (tmps : Array Value) : Prop :=
  ∀ i, lk slots i ≠ .none → ∃ c, tmps[i]? = some c ∧ RelS R w β (lk slots i) c

/-- No slot holds a pointer to a local box. -/
def noLps : Slots → Bool
  | [] => true
  | .put _ (.lp _ _) :: _ => false
  | _ :: l => noLps l

def RelM (R : Realm) (w : World) : List (AV × AV) → List MapEntry → Prop
  | [], [] => True
  | (k, v) :: l, e :: es => Rel R w k e.key ∧ Rel R w v e.val ∧ RelM R w l es
  | _, _ => False

def RepO (R : Realm) (w : World) : GO → RO → Prop
  | .dead, .none => True
  | .dead, .nil0 => True
  | .dead, .blk b => b < w.heap.size
  | .dead, .tok _ b _ => b < w.heap.size
  | .tok f _ _, .nil0 => f = 0
  | .row cs, .blk b => ∃ vs el, w.heap[b]? = some (.cells ⟨vs⟩ el (0, 0)) ∧ RelL R w cs vs ∧ (∀ v ∈ vs, v.oneCell' = true) ∧ ∀ o, ¬ R.I b o
  | .tok f sz e, .tok f' b c => f' = f ∧ ∃ cur, w.heap[b]? = some (.cells cur e (0, 0)) ∧ f ≤ c ∧ c ≤ maxLen ∧ cur.size = c * sz ∧ ∀ o, f * sz ≤ o → ¬ R.I b o
  | .map es, .blk b => ∃ ents clock, w.heap[b]? = some (.map ents clock) ∧ RelM R w es ents.toList ∧ ∀ e ∈ ents.toList, e.born < clock
  | .siter l pos, .blk b => w.heap[b]? = some (.stringIter ⟨⟨l⟩⟩ pos)
  | .loop busy pending _ slots n params assign body defers done, .blk b => loopOk R w (RelT R w (fun _ => 0)) busy pending slots n params assign body defers done b ∧ noLps slots = true
  | .defers o, .blk b => w.heap[b]? = some (.deferred (if o then some [] else none))
  | _, _ => False

structure RepG (E : Env) (R : Realm) (w : World) (G : List GO) : Prop where
  len : R.obj.length = G.length
  obj : ∀ id go ro, nth G id = some go → nth R.obj id = some ro → RepO R w go ro
  inj : ∀ i j ri rj b, nth R.obj i = some ri → nth R.obj j = some rj → ri.block = some b → rj.block = some b → i = j
  wf : ∀ b o, R.I b o → b < w.heap.size
  glob : ∀ g cs, E.glob g = some cs → RelC R w g 0 cs

def Live (R : Realm) (b : Nat) : Prop := ∃ id ro, nth R.obj id = some ro ∧ ro.block = some b

structure RepB (R : Realm) (w : World) (β : Nat → Nat) (boxes : Boxes) : Prop where
  box : ∀ k cs, lkB boxes k = some cs → (∃ vs el, w.heap[β k]? = some (.cells ⟨vs⟩ el (0, 0)) ∧ RelL R w cs vs ∧ (∀ v ∈ vs, v.oneCell' = true)) ∧ (∀ o, ¬ R.I (β k) o) ∧ ¬ Live R (β k)
  inj : ∀ k k' cs cs', lkB boxes k = some cs → lkB boxes k' = some cs' → β k = β k' → k = k'

def RelD (R : Realm) : List Nat → List Deferred → Prop
  | [], [] => True
  | id :: l, d :: ds => (∃ b, nth R.obj id = some (.blk b) ∧ d = { target := .collected b, args := #[] }) ∧ RelD R l ds
  | _, _ => False

structure Rep (E : Env) (R : Realm) (w : World) (β : Nat → Nat) (s : St) (a : Act) : Prop where
  g : RepG E R w s.G
  b : RepB R w β s.boxes
  t : RelT R w β s.slots a.tmps
  n : a.tmps.size = s.n
  d : RelD R s.marks a.defers

def Own (R : Realm) (β : Nat → Nat) (boxes : Boxes) (b : Nat) : Prop :=
  Live R b ∨ ∃ k cs, lkB boxes k = some cs ∧ β k = b

structure Step (R : Realm) (w : World) (β : Nat → Nat) (bx : Boxes) (R' : Realm) (w' : World) (β' : Nat → Nat) (bx' : Boxes) : Prop where
  ext : Ext R w R' w'
  os : w'.os = w.os
  tape : w'.tape = w.tape
  output : w'.output = w.output
  size : w.heap.size ≤ w'.heap.size
  keep : ∀ b, b < w.heap.size → ¬ Own R β bx b → w'.heap[b]? = w.heap[b]?
  own : ∀ b, b < w.heap.size → Own R' β' bx' b → Own R β bx b
  im : ∀ b o, R'.I b o → b < w.heap.size → ¬ Own R β bx b → R.I b o

theorem Step.refl (R : Realm) (w : World) (β : Nat → Nat) (bx : Boxes) : Step R w β bx R w β bx :=
  ⟨Ext.refl R w, rfl, rfl, rfl, Nat.le_refl _, fun _ _ _ => rfl, fun _ _ h => h, fun _ _ h _ _ => h⟩

theorem Step.trans {R R1 R2 : Realm} {w w1 w2 : World} {β β1 β2 : Nat → Nat} {x x1 x2 : Boxes}
    (h : Step R w β x R1 w1 β1 x1) (k : Step R1 w1 β1 x1 R2 w2 β2 x2) : Step R w β x R2 w2 β2 x2 where
  ext := h.ext.trans k.ext
  os := k.os.trans h.os
  tape := k.tape.trans h.tape
  output := k.output.trans h.output
  size := Nat.le_trans h.size k.size
  keep := fun b hb hn => (k.keep b (Nat.lt_of_lt_of_le hb h.size) (fun ho => hn (h.own b hb ho))).trans (h.keep b hb hn)
  own := fun b hb ho => h.own b hb (k.own b (Nat.lt_of_lt_of_le hb h.size) ho)
  im := fun b o hi hb hn => h.im b o (k.im b o hi (Nat.lt_of_lt_of_le hb h.size) (fun ho => hn (h.own b hb ho))) hb hn

theorem RelS.mono {R R' : Realm} {w w' : World} {β : Nat → Nat} (e : Ext R w R' w') {x : SV} {c : Value} (h : RelS R w β x c) : RelS R' w' β x c := by
  cases x with
  | none => trivial
  | v a => exact Rel.mono e h
  | lp k off => exact h

theorem beq_self (n : Nat) : Nat.beq n n = true := Nat.beq_refl n
theorem beq_ne {n m : Nat} (h : n ≠ m) : Nat.beq n m = false := by
  cases hb : Nat.beq n m with
  | true => exact absurd (Nat.eq_of_beq_eq_true hb) h
  | false => rfl

theorem lk_put_self (l : Slots) (d : Nat) (x : SV) : lk (.put d x :: l) d = x := by simp [lk]
theorem lk_put_ne {l : Slots} {d t : Nat} {x : SV} (h : d ≠ t) : lk (.put d x :: l) t = lk l t := by simp [lk, beq_ne h]
theorem lk_kill {l : Slots} {d t : Nat} : (lk (.kill d :: l) t = lk l t ∧ ∀ k off, lk l t = .lp k off → k ≠ d) ∨ lk (.kill d :: l) t = .none := by
  simp only [lk]
  cases h : lk l t with
  | none => exact .inr rfl
  | v a => exact .inl ⟨rfl, fun _ _ e => by cases e⟩
  | lp k off =>
    by_cases hk : k = d
    · subst hk
      exact .inr (by simp)
    · exact .inl ⟨by simp [beq_ne hk], fun k' off' e => by cases e; exact hk⟩

theorem lkB_self (l : Boxes) (d : Nat) (cs : List AV) : lkB ((d, cs) :: l) d = some cs := by simp [lkB]
theorem lkB_cons {l : Boxes} {d k : Nat} {cs cs' : List AV} (h : lkB ((d, cs) :: l) k = some cs') : (d = k ∧ cs' = cs) ∨ (d ≠ k ∧ lkB l k = some cs') := by
  by_cases e : d = k
  · subst e
    rw [lkB_self] at h
    exact .inl ⟨rfl, (Option.some.inj h).symm⟩
  · simp only [lkB, beq_ne e, cond_false] at h
    exact .inr ⟨e, h⟩

theorem lkB_all {l : Boxes} (h : l.all (fun p => closedL p.2) = true) {k : Nat} {cs : List AV} (hk : lkB l k = some cs) : closedL cs = true := by
  induction l with
  | nil => simp [lkB] at hk
  | cons x l ih =>
    obtain ⟨d, c⟩ := x
    simp only [List.all_cons, Bool.and_eq_true] at h
    rcases lkB_cons hk with ⟨_, rfl⟩ | ⟨_, hk⟩
    · exact h.1
    · exact ih h.2 hk

theorem RelT.put {R : Realm} {w : World} {β : Nat → Nat} {slots : Slots} {a : Act} (h : RelT R w β slots a.tmps) {d : Tmp} {x : SV} {c : Value} (hd : d < a.tmps.size) (hx : RelS R w β x c) :
    RelT R w β (.put d x :: slots) (a.put (some d) c).tmps := by
  intro i hi
  by_cases e : d = i
  · subst e
    rw [lk_put_self]
    exact ⟨c, by simp [Act.put, hd], hx⟩
  · rw [lk_put_ne e] at hi ⊢
    obtain ⟨c', h1, h2⟩ := h i hi
    refine ⟨c', ?_, h2⟩
    simp only [Act.put]
    rw [Array.getElem?_setIfInBounds_ne e]
    exact h1

theorem Rep.put {E : Env} {R : Realm} {w : World} {β : Nat → Nat} {s : St} {a : Act} (h : Rep E R w β s a) (dst : Option Tmp) {x : SV} {c : Value} (hx : RelS R w β x c) :
    Rep E R w β (s.put dst x) (a.put dst c) := by
  cases dst with
  | none => exact h
  | some d =>
    simp only [St.put]
    cases hb : Nat.blt d s.n with
    | true =>
      have hd : d < a.tmps.size := by rw [h.n]; exact Nat.le_of_ble_eq_true hb
      exact ⟨h.g, h.b, h.t.put hd hx, by simp [Act.put, h.n], h.d⟩
    | false =>
      have hd : ¬ d < a.tmps.size := by
        rw [h.n]
        intro hlt
        have : Nat.blt d s.n = true := Nat.ble_eq_true_of_le hlt
        rw [this] at hb
        cases hb
      have he : a.put (some d) c = a := by
        simp only [Act.put]
        rw [Array.setIfInBounds_eq_of_size_le (Nat.not_lt.1 hd)]
      rw [he]
      exact h

theorem ofConst0_rel {R : Realm} {w : World} {v : Value} {a : AV} (h : ofConst0 v = some a) : Rel R w a v ∧ v.oneCell' = true := by
  unfold ofConst0 at h
  split at h <;> cases h
  · exact ⟨.bool _, rfl⟩
  · exact ⟨.int _ _, rfl⟩
  · rename_i s
    exact ⟨.str s.data.toList, rfl⟩
  · exact ⟨.lnil, rfl⟩
  · exact ⟨.nilp, rfl⟩
  · exact ⟨.nilm, rfl⟩
  · exact ⟨.nilf, rfl⟩
  · exact ⟨.nili, rfl⟩

theorem ofConsts_rel {R : Realm} {w : World} : ∀ {vs : List Value} {l : List AV}, ofConsts vs = some l → RelL R w l vs ∧ ∀ v ∈ vs, v.oneCell' = true
  | [], l, h => by simp [ofConsts] at h; subst h; exact ⟨.nil, by simp⟩
  | v :: vs, l, h => by
    unfold ofConsts at h
    split at h
    · rename_i a r h1 h2
      cases h
      obtain ⟨k1, k2⟩ := ofConst0_rel (R := R) (w := w) h1
      obtain ⟨k3, k4⟩ := ofConsts_rel (R := R) (w := w) h2
      exact ⟨.cons k1 k3, by simp [k2]; exact k4⟩
    · cases h

theorem ofConst_rel {R : Realm} {w : World} {v : Value} {a : AV} (h : ofConst v = some a) : Rel R w a v := by
  unfold ofConst at h
  split at h
  · rename_i cs
    split at h
    · rename_i l hl
      cases h
      obtain ⟨k1, k2⟩ := ofConsts_rel (R := R) (w := w) hl
      exact .agg (vs := cs.toList) k1 k2
    · cases h
  · rename_i cs
    split at h
    · rename_i l hl
      cases h
      obtain ⟨k1, _⟩ := ofConsts_rel (R := R) (w := w) hl
      exact .tup (vs := cs.toList) k1
    · cases h
  · exact (ofConst0_rel h).1

theorem evO_rel {E : Env} {R : Realm} {w : World} {β : Nat → Nat} {s : St} {a : Act} (h : Rep E R w β s a) (x : Operand) : RelS R w β (evO E s.slots x) (a.eval x) := by
  cases x with
  | tmp t =>
    simp only [evO, Act.eval]
    by_cases hn : lk s.slots t = .none
    · rw [hn]; trivial
    · obtain ⟨c, h1, h2⟩ := h.t t hn
      have : a.tmps.getD t undef = c := by simp [Array.getD_eq_getD_getElem?, h1]
      rw [this]
      exact h2
  | const v =>
    simp only [evO, Act.eval]
    cases hc : ofConst v with
    | none => trivial
    | some y => exact ofConst_rel hc
  | global g =>
    simp only [evO, Act.eval]
    cases hg : E.glob g with
    | none => trivial
    | some cs => exact Rel.ep (h.g.glob g cs hg)
  | func f => exact Rel.fn .nil .nil

end Go.Am
