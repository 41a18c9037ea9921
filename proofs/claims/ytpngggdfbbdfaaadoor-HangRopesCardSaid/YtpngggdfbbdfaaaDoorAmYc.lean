/- The abstract machine: states that are brought to a form. -/
import Derived.Test.YtpngggdfbbdfaaaDoorAmYb
set_option linter.all false
namespace Go.Am
open Go

/-- The state has grown out of another one. -/
structure Ext0 (s s' : St) : Prop where
  sl : ∃ pre, s'.slots = pre ++ s.slots
  bx : ∃ pre, s'.boxes = pre ++ s.boxes
  n : s'.n = s.n

theorem Ext0.refl (s : St) : Ext0 s s := ⟨⟨[], rfl⟩, ⟨[], rfl⟩, rfl⟩
theorem Ext0.trans {a b c : St} (h : Ext0 a b) (k : Ext0 b c) : Ext0 a c := by
  obtain ⟨p, hp⟩ := h.sl; obtain ⟨q, hq⟩ := k.sl; obtain ⟨p', hp'⟩ := h.bx; obtain ⟨q', hq'⟩ := k.bx
  exact ⟨⟨q ++ p, by rw [hq, hp, List.append_assoc]⟩, ⟨q' ++ p', by rw [hq', hp', List.append_assoc]⟩, k.n.trans h.n⟩

/-- How a range over a function stands. -/
inductive LPK
  | open_
  | busy
  | ret
  | ex (i : Nat)
def LPK.is : LPK → Bool → Option Code → Bool → Bool
  | .open_, false, none, false => true
  | .busy, true, none, false => true
  | .ret, false, some .ret, true => true
  | .ex i, false, some (.exit j), true => Nat.beq i j
  | _, _, _, _ => false
def LPK.b : LPK → Bool
  | .busy => true
  | _ => false
def LPK.p : LPK → Option Code
  | .ret => some .ret
  | .ex i => some (.exit i)
  | _ => none
def LPK.d : LPK → Bool
  | .ret => true
  | .ex _ => true
  | _ => false
theorem LPK.is_eq {k : LPK} {b : Bool} {p : Option Code} {d : Bool} (h : k.is b p d = true) : b = k.b ∧ p = k.p ∧ d = k.d := by
  unfold LPK.is at h
  split at h <;> first | exact ⟨rfl, rfl, rfl⟩ | (cases h; done) | skip
  rw [Nat.eq_of_beq_eq_true h]
  exact ⟨rfl, rfl, rfl⟩

/-- What becomes of an object: a row of cells, a token of the list that is the value with this number, nothing; a range over a function that stands so; what it was before. -/
inductive GL
  | row (n : Nat)
  | tok (loc sz : Nat) (e : TypeId)
  | dead
  | lp (k : LPK)
  | keep
  | map
  | sit

def lpIs (k : LPK) : GO → GO → Bool
  | .loop _ _ _ _ _ _ _ _ _ _, .loop b p _ _ _ _ _ _ _ d => k.is b p d
  | _, _ => false
def lpPut (k : LPK) : GO → GO
  | .loop _ _ fn sl n ps as bd d _ => .loop k.b k.p fn sl n ps as bd d k.d
  | _ => .dead
def allX (es : List (AV × AV)) : Bool := exactL (mcells es)
def keepIs : GO → GO → Bool
  | .tok f sz e, .tok f' sz' e' => decide (f' = f) && (Nat.beq sz' sz && Nat.beq e' e)
  | .defers a, .defers b => match a, b with
    | true, true => true
    | false, false => true
    | _, _ => false
  | .dead, _ => true
  | _, _ => false

/-- A form of states: which slots, boxes and objects hold the leaves; which slots are forgotten. -/
structure Tmpl where
  ps : Pats
  sl : List Tmp
  W : List Tmp
  bx : List (Nat × Nat)
  g : List GL
  lps : List (Tmp × Nat × Nat)

def getSl (slots : Slots) : List Tmp → Option (List AV)
  | [] => some []
  | t :: l => match lk slots t with
    | .v a => match getSl slots l with
      | some r => some (a :: r)
      | none => none
    | _ => none
def getBx (bx : Boxes) : List (Nat × Nat) → Option (List AV)
  | [] => some []
  | (k, n) :: l => match lkB bx k with
    | some cs => match getBx bx l with
      | some r => bif Nat.beq cs.length n then some (cs ++ r) else none
      | none => none
    | none => none
def getG : List GL → List GO → Option (List AV)
  | [], _ => some []
  | .row n :: l, .row cs :: G => match getG l G with
    | some r => bif Nat.beq cs.length n then some (cs ++ r) else none
    | none => none
  | .tok _ sz e :: l, .tok _ sz' e' :: G => bif Nat.beq sz sz' && Nat.beq e e' then getG l G else none
  | .dead :: l, _ :: G => getG l G
  | .lp _ :: l, _ :: G => getG l G
  | .keep :: l, _ :: G => getG l G
  | .map :: l, .map es :: G => match getG l G with
    | some r => some (.list .opn 2 (mcells es) :: r)
    | none => none
  | .sit :: l, .siter s pos :: G => match getG l G with
    | some r => some (.str s :: .int .i64 pos :: r)
    | none => none
  | _, _ => none

def lenAt (vs : List AV) (loc : Nat) : Nat := match nth vs loc with
  | some (.list _ _ es) => es.length
  | _ => 0
def toksOk (vs : List AV) : List GL → List GO → List GO → Bool
  | [], _, _ => true
  | .tok loc _ _ :: l, _ :: B, .tok f _ _ :: G => decide (f = lenAt vs loc) && toksOk vs l B G
  | .tok _ _ _ :: _, _, _ => false
  | .lp k :: l, o :: B, o' :: G => lpIs k o o' && toksOk vs l B G
  | .keep :: l, o :: B, o' :: G => keepIs o o' && toksOk vs l B G
  | .row _ :: l, _ :: B, _ :: G => toksOk vs l B G
  | .map :: l, _ :: B, .map es :: G => allX es && toksOk vs l B G
  | .map :: _, _, _ => false
  | .sit :: l, _ :: B, _ :: G => toksOk vs l B G
  | .dead :: l, _ :: B, _ :: G => toksOk vs l B G
  | _, _, _ => false

def putSl : List Tmp → List AV → Slots → Slots
  | t :: ts, a :: l, r => .put t (.v a) :: putSl ts l r
  | _, _, r => r
/-- Slots that point to boxes. -/
def putLps : List (Tmp × Nat × Nat) → Slots → Slots
  | (t, k, o) :: l, r => .put t (.lp k o) :: putLps l r
  | [], r => r
def lpsOk (slots : Slots) : List (Tmp × Nat × Nat) → Bool
  | [] => true
  | (t, k, o) :: l => (match lk slots t with
    | .lp k' o' => Nat.beq k' k && Nat.beq o' o
    | _ => false) && lpsOk slots l
def putW : List Tmp → Slots → Slots
  | t :: ts, r => .put t .none :: putW ts r
  | [], r => r
def putBx : List (Nat × Nat) → List AV → Boxes → Boxes
  | (k, n) :: r, l, b => (k, l.take n) :: putBx r (l.drop n) b
  | [], _, b => b
def putG (vs : List AV) : List GL → List GO → List AV → List GO
  | .row n :: r, B, l => .row (l.take n) :: putG vs r B.tail (l.drop n)
  | .tok loc sz e :: r, B, l => .tok (lenAt vs loc) sz e :: putG vs r B.tail l
  | .dead :: r, B, l => .dead :: putG vs r B.tail l
  | .lp k :: r, B, l => lpPut k (B.headD .dead) :: putG vs r B.tail l
  | .keep :: r, B, l => B.headD .dead :: putG vs r B.tail l
  | .map :: r, B, l => .map (AV.entries (headA l)) :: putG vs r B.tail l.tail
  | .sit :: r, B, l => .siter (AV.strD (headA l)) (AV.intD (headA l.tail)).toNat :: putG vs r B.tail l.tail.tail
  | [], _, _ => []
def sumB : List (Nat × Nat) → Nat
  | [] => 0
  | (_, n) :: l => n + sumB l

def Tmpl.st (t : Tmpl) (s : St) (v : t.ps.T) : St :=
  ⟨putLps t.lps (putSl t.sl (t.ps.enc v) (putW t.W s.slots)), putBx t.bx ((t.ps.enc v).drop t.sl.length) s.boxes, putG (t.ps.enc v) t.g s.G (((t.ps.enc v).drop t.sl.length).drop (sumB t.bx)), s.marks, s.ro, s.n⟩

def inL : List Nat → Nat → Bool
  | [], _ => false
  | a :: l, n => Nat.beq a n || inL l n
def inK (l : List Tmp) (W : List Tmp) (n : Nat) : Bool := inL l n || inL W n
def noLp (d : Nat) (l W : List Tmp) : Slots → Bool
  | [] => true
  | .put t (.lp k _) :: r => (!(Nat.beq k d) || inK l W t) && noLp d l W r
  | _ :: r => noLp d l W r
def keysOk (l W : List Tmp) (base : Slots) : Slots → Bool
  | [] => true
  | .put d _ :: r => inK l W d && keysOk l W base r
  | .kill d :: r => noLp d l W base && keysOk l W base r
def inB : List (Nat × Nat) → Nat → Bool
  | [], _ => false
  | (a, _) :: l, n => Nat.beq a n || inB l n
def keysBOk (l : List (Nat × Nat)) (base : Boxes) : Boxes → Bool
  | [] => true
  | (k, _) :: r => (inB l k || (lkB base k).isNone) && keysBOk l base r
def eqNL : List Nat → List Nat → Bool
  | [], [] => true
  | a :: l, b :: r => Nat.beq a b && eqNL l r
  | _, _ => false

def Tmpl.ok (t : Tmpl) (s s' : St) : Bool :=
  keysOk t.sl t.W s.slots (s'.slots.take (s'.slots.length - s.slots.length)) && keysBOk t.bx s.boxes (s'.boxes.take (s'.boxes.length - s.boxes.length)) &&
    eqNL s'.marks s.marks && Nat.beq t.g.length s.G.length && t.ps.under s.G.length && lpsOk s'.slots t.lps

def Tmpl.dec (t : Tmpl) (s s' : St) : Option t.ps.T :=
  bif t.ok s s' then
    match getSl s'.slots t.sl, getBx s'.boxes t.bx, getG t.g s'.G with
    | some a, some b, some c => (t.ps.dec (a ++ (b ++ c))).bind fun v => bif toksOk (t.ps.enc v) t.g s.G s'.G then some v else none
    | _, _, _ => none
  else none

/-! ### It is so -/

theorem inL_mem {l : List Nat} {n : Nat} : inL l n = true ↔ n ∈ l := by
  induction l with
  | nil => simp [inL]
  | cons a l ih =>
    simp only [inL, Bool.or_eq_true, Nat.beq_eq, ih, List.mem_cons]
    constructor
    · rintro (h | h)
      · exact .inl h.symm
      · exact .inr h
    · rintro (h | h)
      · exact .inl h.symm
      · exact .inr h
theorem inB_mem {l : List (Nat × Nat)} {n : Nat} : inB l n = true ↔ ∃ m, (n, m) ∈ l := by
  induction l with
  | nil => simp [inB]
  | cons a l ih =>
    obtain ⟨a, m⟩ := a
    simp only [inB, Bool.or_eq_true, Nat.beq_eq, ih, List.mem_cons, Prod.mk.injEq]
    constructor
    · rintro (rfl | ⟨m', h⟩)
      · exact ⟨m, .inl ⟨rfl, rfl⟩⟩
      · exact ⟨m', .inr h⟩
    · rintro ⟨m', ⟨rfl, _⟩ | h⟩
      · exact .inl rfl
      · exact .inr ⟨m', h⟩
theorem eqNL_eq : ∀ {a b : List Nat}, eqNL a b = true → a = b
  | [], [], _ => rfl
  | a :: l, b :: r, h => by
    simp only [eqNL, Bool.and_eq_true, Nat.beq_eq] at h
    rw [h.1, eqNL_eq h.2]
  | [], _ :: _, h => by cases h
  | _ :: _, [], h => by cases h

theorem noLp_lk {d : Nat} {l W : List Tmp} {t off : Nat} : ∀ {base : Slots}, noLp d l W base = true → lk base t = .lp d off → inK l W t = true
  | [], _, h => by simp [lk] at h
  | .put t' x :: r, hn, h => by
    by_cases e : t' = t
    · subst e
      rw [lk_put_self] at h
      subst h
      simp only [noLp, Nat.beq_refl, Bool.not_true, Bool.false_or, Bool.and_eq_true] at hn
      exact hn.1
    · rw [lk_put_ne e] at h
      refine noLp_lk (base := r) ?_ h
      cases x <;> simp only [noLp, Bool.and_eq_true] at hn
      · exact hn
      · exact hn
      · exact hn.2
  | .kill d' :: r, hn, h => by
    rcases lk_kill (l := r) (d := d') (t := t) with ⟨h1, _⟩ | h1
    · rw [h1] at h
      exact noLp_lk (base := r) hn h
    · rw [h1] at h
      cases h

theorem lk_keys {l W : List Tmp} {base : Slots} {t : Nat} (ht : inK l W t = false) : ∀ {pre : Slots}, keysOk l W base pre = true → lk (pre ++ base) t = lk base t
  | [], _ => rfl
  | .put d x :: r, h => by
    simp only [keysOk, Bool.and_eq_true] at h
    have hne : d ≠ t := fun e => by rw [e, ht] at h; exact absurd h.1 (by simp)
    rw [List.cons_append, lk_put_ne hne]
    exact lk_keys ht h.2
  | .kill d :: r, h => by
    simp only [keysOk, Bool.and_eq_true] at h
    have ih := lk_keys ht h.2
    simp only [List.cons_append, lk, ih]
    cases hb : lk base t with
    | lp k off =>
      by_cases e : k = d
      · subst e
        have := noLp_lk h.1 hb
        rw [ht] at this
        cases this
      · simp [beq_ne e]
    | _ => rfl

theorem lkB_keys {l : List (Nat × Nat)} {base : Boxes} {k : Nat} {cs : List AV} (hk : inB l k = false) (hb : lkB base k = some cs) : ∀ {pre : Boxes}, keysBOk l base pre = true → lkB (pre ++ base) k = some cs
  | [], _ => hb
  | (d, x) :: r, h => by
    simp only [keysBOk, Bool.and_eq_true] at h
    have hne : d ≠ k := fun e => by
      rw [e, hk, hb] at h
      exact absurd h.1 (by simp)
    rw [List.cons_append, lkB, beq_ne hne]
    exact lkB_keys hk hb h.2

theorem take_pre {α : Type} (pre base : List α) : (pre ++ base).take ((pre ++ base).length - base.length) = pre := by
  rw [List.length_append, Nat.add_sub_cancel, List.take_left]

def Realm.cut (R : Realm) (n : Nat) : Realm := ⟨R.I, R.obj.take n⟩

theorem cut_nth {R : Realm} {n id : Nat} {ro : RO} : nth (R.cut n).obj id = some ro ↔ id < n ∧ nth R.obj id = some ro := by
  simp only [Realm.cut, nth_eq, List.getElem?_take]
  split
  · simp_all
  · simp_all
    omega

theorem cut_mv (R : Realm) (n : Nat) : Mv R (R.cut n) n := ⟨fun _ _ h => h, fun _ _ hl h => cut_nth.2 ⟨hl, h⟩⟩

section rep
variable {E : Env} {R R' : Realm} {w w' : World} {β β' : Nat → Nat} {s s' : St} {a a' : Act}

/-- The slots outside K are as the temporaries. -/
def RelTK (R : Realm) (w : World) (β : Nat → Nat) (K : Nat → Prop) (slots : Slots) (tmps : Array Value) : Prop :=
  ∀ i, ¬ K i → lk slots i ≠ .none → ∃ c, tmps[i]? = some c ∧ RelS R w β (lk slots i) c

theorem relTK_putW {tmps : Array Value} {base : Slots} : ∀ {W : List Tmp} {K : Nat → Prop}, RelTK R w β (fun i => i ∈ W ∨ K i) base tmps → RelTK R w β K (putW W base) tmps
  | [], K, h => fun i hi hn => h i (by simpa using hi) hn
  | t :: W, K, h => fun i hi hn => by
    have ih : RelTK R w β (fun i => i = t ∨ K i) (putW W base) tmps := relTK_putW (W := W) (fun j hj => h j (fun hc => hj (by
      rcases hc with hc | hc
      · rcases List.mem_cons.1 hc with hc | hc
        · exact .inr (.inl hc)
        · exact .inl hc
      · exact .inr (.inr hc))))
    simp only [putW] at hn ⊢
    by_cases e : t = i
    · subst e
      rw [lk_put_self] at hn
      exact absurd rfl hn
    · rw [lk_put_ne e] at hn ⊢
      exact ih i (by simp; exact ⟨fun e' => e e'.symm, hi⟩) hn

theorem relTK_putSl {n : Nat} (m : Mv R' R n) {tmps : Array Value} {slots : Slots} (hT : RelT R' w β slots tmps) {base : Slots} : ∀ {ts : List Tmp} {K : Nat → Prop} {l l' r r' : List AV}, getSl slots ts = some l → WeakL (l ++ r) (l' ++ r') → l.length = l'.length → underL n l' = true →
    RelTK R w β (fun i => i ∈ ts ∨ K i) base tmps → RelTK R w β K (putSl ts (l' ++ r') base) tmps
  | [], K, l, l', r, r', _, _, _, _, h => fun i hi hn => by
    have e : putSl [] (l' ++ r') base = base := rfl
    rw [e] at hn ⊢
    exact h i (by simpa using hi) hn
  | t :: ts, K, l, l', r, r', hg, hw, hl, hu, h => by
    unfold getSl at hg
    split at hg
    · rename_i a ha
      split at hg
      · rename_i l0 hl0
        cases hg
        cases l' with
        | nil => simp at hl
        | cons b l' =>
          simp only [List.cons_append, WeakL] at hw
          simp only [underL, Bool.and_eq_true] at hu
          have ih : RelTK R w β (fun i => i = t ∨ K i) (putSl ts (l' ++ r') base) tmps := relTK_putSl m hT hl0 hw.2 (by simpa using hl) hu.2 (fun j hj => h j (fun hc => hj (by
            rcases hc with hc | hc
            · rcases List.mem_cons.1 hc with hc | hc
              · exact .inr (.inl hc)
              · exact .inl hc
            · exact .inr (.inr hc))))
          intro i hi hn
          simp only [putSl, List.cons_append] at hn ⊢
          by_cases e : t = i
          · subst e
            rw [lk_put_self] at hn ⊢
            obtain ⟨c, h1, h2⟩ := hT t (by rw [ha]; simp)
            rw [ha] at h2
            exact ⟨c, h1, Rel.move m hu.1 (hw.1 _ _ _ h2)⟩
          · rw [lk_put_ne e] at hn ⊢
            exact ih i (by simp; exact ⟨fun e' => e e'.symm, hi⟩) hn
      · cases hg
    · cases hg

/-- A box is what it is said to be. -/
def BoxOk (R : Realm) (w : World) (β : Nat → Nat) (k : Nat) (cs : List AV) : Prop :=
  (∃ vs el, w.heap[β k]? = some (.cells ⟨vs⟩ el (0, 0)) ∧ RelL R w cs vs ∧ (∀ v ∈ vs, v.oneCell' = true)) ∧ (∀ o, ¬ R.I (β k) o) ∧ ¬ Live R (β k)

theorem live_cut {R : Realm} {n b : Nat} (h : Live (R.cut n) b) : Live R b := by
  obtain ⟨id, ro, h1, h2⟩ := h
  exact ⟨id, ro, (cut_nth.1 h1).2, h2⟩

theorem BoxOk.cut {n k : Nat} {cs cs' : List AV} (h : BoxOk R w β k cs) (hw : WeakL cs cs') (hu : underL n cs' = true) : BoxOk (R.cut n) w β k cs' := by
  obtain ⟨⟨vs, el, h1, h2, h3⟩, h4, h5⟩ := h
  exact ⟨⟨vs, el, h1, (hw.rel h2).move (cut_mv R n) hu, h3⟩, h4, fun hl => h5 (live_cut hl)⟩

theorem underL_append {n : Nat} : ∀ {l r : List AV}, underL n (l ++ r) = (underL n l && underL n r)
  | [], r => by simp [underL]
  | a :: l, r => by simp [underL, underL_append (l := l), Bool.and_assoc]

theorem WeakL.split : ∀ {l r l' : List AV}, WeakL (l ++ r) l' → ∃ a b, l' = a ++ b ∧ WeakL l a ∧ WeakL r b ∧ a.length = l.length
  | [], r, l', h => ⟨[], l', rfl, trivial, h, rfl⟩
  | x :: l, r, [], h => h.elim
  | x :: l, r, y :: l', h => by
    obtain ⟨a, b, rfl, h2, h3, h4⟩ := WeakL.split (l := l) (r := r) (l' := l') h.2
    exact ⟨y :: a, b, rfl, ⟨h.1, h2⟩, h3, by simp [h4]⟩

theorem putBx_ok {n : Nat} {bxs : Boxes} (hb : ∀ k cs, lkB bxs k = some cs → BoxOk R w β k cs) {base : Boxes} : ∀ {bx : List (Nat × Nat)} {K : Nat → Prop} {l l' r : List AV}, getBx bxs bx = some l → WeakL l l' → underL n l' = true →
    (∀ k cs, ¬ K k → inB bx k = false → lkB base k = some cs → lkB bxs k = some cs ∧ underL n cs = true) →
    ∀ k cs, ¬ K k → lkB (putBx bx (l' ++ r) base) k = some cs → BoxOk (R.cut n) w β k cs ∧ ∃ cs', lkB bxs k = some cs'
  | [], K, l, l', r, _, _, _, h, k, cs, hK, hk => by
    obtain ⟨h1, h2⟩ := h k cs hK rfl hk
    exact ⟨(hb k cs h1).cut (WeakL.refl _) h2, cs, h1⟩
  | (d, m) :: bx, K, l, l', r, hg, hw, hu, h, k, cs, hK, hk => by
    unfold getBx at hg
    split at hg
    · rename_i cs0 hd
      split at hg
      · rename_i l0 hl0
        cases hm : Nat.beq cs0.length m with
        | false => rw [hm] at hg; cases hg
        | true =>
          rw [hm] at hg
          cases hg
          have hm := Nat.eq_of_beq_eq_true hm
          obtain ⟨x, y, rfl, k1, k2, k3⟩ := hw.split
          rw [underL_append, Bool.and_eq_true] at hu
          have e1 : ((x ++ y) ++ r).take m = x := by rw [List.append_assoc, ← hm, ← k3, List.take_left]
          have e2 : ((x ++ y) ++ r).drop m = y ++ r := by rw [List.append_assoc, ← hm, ← k3, List.drop_left]
          simp only [putBx, e1, e2] at hk
          rcases lkB_cons hk with ⟨rfl, rfl⟩ | ⟨hne, hk⟩
          · exact ⟨(hb d cs0 hd).cut k1 hu.1, cs0, hd⟩
          · refine putBx_ok hb (K := fun k => k = d ∨ K k) (r := r) hl0 k2 hu.2 (fun k' cs' hK' h1 h2 => ?_) k cs (fun hc => ?_) hk
            · exact h k' cs' (fun hc => hK' (.inr hc)) (by simp only [inB, h1, Bool.or_false]; exact beq_ne (fun e => hK' (.inl e.symm))) h2
            · rcases hc with hc | hc
              · exact hne hc.symm
              · exact hK hc
      · cases hg
    · cases hg

/-- What an object is, and what is said of it. -/
def GOk (n : Nat) : GO → GO → Prop
  | .row cs, .row cs' => WeakL cs cs' ∧ underL n cs' = true
  | .tok f sz e, .tok f' sz' e' => f = f' ∧ sz = sz' ∧ e = e'
  | .defers a, .defers b => a = b
  | .map es, .map es' => es' = es ∧ allX es = true
  | .siter l p, .siter l' p' => l' = l ∧ p' = p
  | _, .dead => True
  | _, _ => False

/-- A range over a function, as it was made, and how it stands. -/
def LOk : GO → GO → GO → Prop
  | .loop _ _ fn sl n ps as bd d _, .loop b p _ _ _ _ _ _ _ dn, go => go = .loop b p fn sl n ps as bd d dn
  | _, _, _ => False

theorem keepIs_ok {n : Nat} {o o' : GO} (h : keepIs o o' = true) : GOk n o' o := by
  cases o with
  | tok f sz e =>
    cases o' with
    | tok f' sz' e' =>
      simp only [keepIs, Bool.and_eq_true] at h
      exact ⟨of_decide_eq_true h.1, Nat.eq_of_beq_eq_true h.2.1, Nat.eq_of_beq_eq_true h.2.2⟩
    | _ => cases h
  | defers a =>
    cases o' with
    | defers b => cases a <;> cases b <;> first | rfl | cases h
    | _ => cases h
  | dead => cases o' <;> trivial
  | _ => cases h

theorem lpIs_ok {k : LPK} {o o' : GO} (h : lpIs k o o' = true) : LOk o o' (lpPut k o) := by
  cases o with
  | loop b p fn sl n ps as bd d dn =>
    cases o' with
    | loop b' p' fn' sl' n' ps' as' bd' d' dn' =>
      obtain ⟨rfl, rfl, rfl⟩ := LPK.is_eq (show k.is b' p' dn' = true from h)
      rfl
    | _ => cases h
  | _ => cases h

theorem getG_ok {n : Nat} {vs : List AV} : ∀ {g : List GL} {B G : List GO} {l l' : List AV}, getG g G = some l → WeakL l l' → ExL l l' → underL n l' = true → toksOk vs g B G = true →
    ∀ id go, nth (putG vs g B l') id = some go → ∃ go', nth G id = some go' ∧ (GOk n go' go ∨ ∃ go0, nth B id = some go0 ∧ LOk go0 go' go)
  | [], B, G, l, l', _, _, _, _, _, id, go, h => by simp [putG, nth] at h
  | x :: g, [], G, l, l', _, _, _, _, ht, _, _, _ => by cases x <;> cases G <;> cases ht
  | x :: g, _ :: _, [], l, l', _, _, _, _, ht, _, _, _ => by cases x <;> cases ht
  | .row m :: g, b :: B, o :: G, l, l', hg, hw, hx, hu, ht, id, go, h => by
      have ht' : toksOk vs g B G = true := by cases o <;> exact ht
      cases o with
      | row cs =>
        change (match getG g G with
          | some r => bif Nat.beq cs.length m then some (cs ++ r) else none
          | none => none) = some l at hg
        split at hg
        · rename_i r hr
          cases hm : Nat.beq cs.length m with
          | false => rw [hm] at hg; cases hg
          | true =>
            rw [hm] at hg
            cases hg
            have hm := Nat.eq_of_beq_eq_true hm
            obtain ⟨x, y, rfl, k1, k2, k3⟩ := hw.split
            rw [underL_append, Bool.and_eq_true] at hu
            have e1 : (x ++ y).take m = x := by rw [← hm, ← k3, List.take_left]
            have e2 : (x ++ y).drop m = y := by rw [← hm, ← k3, List.drop_left]
            simp only [putG, e1, e2] at h
            cases id with
            | zero => simp only [nth] at h; cases h; exact ⟨.row cs, rfl, .inl ⟨k1, hu.1⟩⟩
            | succ id => exact getG_ok hr k2 (by obtain ⟨x', y', e1', k1', k2', k3'⟩ := hx.split; have := List.append_inj e1' (by rw [k3, k3']); rw [this.2]; exact k2') hu.2 ht' id go h
        · cases hg
      | _ => cases hg
  | .tok loc sz e :: g, b :: B, o :: G, l, l', hg, hw, hx, hu, ht, id, go, h => by
      cases o with
      | tok f sz' e' =>
        change (bif Nat.beq sz sz' && Nat.beq e e' then getG g G else none) = some l at hg
        change (decide (f = lenAt vs loc) && toksOk vs g B G) = true at ht
        rw [Bool.and_eq_true] at ht
        cases hm : (Nat.beq sz sz' && Nat.beq e e') with
        | false => rw [hm] at hg; cases hg
        | true =>
          rw [hm] at hg
          rw [Bool.and_eq_true] at hm
          have q1 := Nat.eq_of_beq_eq_true hm.1
          have q2 := Nat.eq_of_beq_eq_true hm.2
          simp only [putG] at h
          cases id with
          | zero =>
            simp only [nth] at h
            cases h
            exact ⟨.tok f sz' e', rfl, .inl ⟨of_decide_eq_true ht.1, q1.symm, q2.symm⟩⟩
          | succ id => exact getG_ok hg hw hx hu ht.2 id go h
      | _ => cases hg
  | .dead :: g, b :: B, o :: G, l, l', hg, hw, hx, hu, ht, id, go, h => by
      simp only [putG] at h
      have hg' : getG g G = some l := by cases o <;> exact hg
      have ht' : toksOk vs g B G = true := by cases o <;> exact ht
      cases id with
      | zero =>
        simp only [nth] at h
        cases h
        exact ⟨o, rfl, .inl (by cases o <;> trivial)⟩
      | succ id => exact getG_ok hg' hw hx hu ht' id go h
  | .lp k :: g, b :: B, o :: G, l, l', hg, hw, hx, hu, ht, id, go, h => by
      simp only [putG] at h
      have hg' : getG g G = some l := by cases o <;> exact hg
      change (lpIs k b o && toksOk vs g B G) = true at ht
      rw [Bool.and_eq_true] at ht
      cases id with
      | zero =>
        simp only [nth] at h
        cases h
        exact ⟨o, rfl, .inr ⟨b, rfl, lpIs_ok ht.1⟩⟩
      | succ id => exact getG_ok hg' hw hx hu ht.2 id go h
  | .keep :: g, b :: B, o :: G, l, l', hg, hw, hx, hu, ht, id, go, h => by
      simp only [putG] at h
      have hg' : getG g G = some l := by cases o <;> exact hg
      change (keepIs b o && toksOk vs g B G) = true at ht
      rw [Bool.and_eq_true] at ht
      cases id with
      | zero =>
        simp only [nth] at h
        cases h
        exact ⟨o, rfl, .inl (keepIs_ok ht.1)⟩
      | succ id => exact getG_ok hg' hw hx hu ht.2 id go h
  | .map :: g, b :: B, o :: G, l, l', hg, hw, hx, hu, ht, id, go, h => by
      cases o with
      | map es =>
        change (match getG g G with
          | some r => some (AV.list .opn 2 (mcells es) :: r)
          | none => none) = some l at hg
        change (allX es && toksOk vs g B G) = true at ht
        rw [Bool.and_eq_true] at ht
        split at hg
        · rename_i r hr
          cases hg
          cases l' with
          | nil => exact hw.elim
          | cons a l' =>
            simp only [underL, Bool.and_eq_true] at hu
            simp only [putG, headA, List.tail_cons] at h
            cases id with
            | zero =>
              simp only [nth] at h
              cases h
              refine ⟨.map es, rfl, .inl ⟨?_, ht.1⟩⟩
              rw [hx.2.1 ht.1]
              exact entriesL_mcells es
            | succ id => exact getG_ok hr hw.2 hx.2.2 hu.2 ht.2 id go h
        · cases hg
      | _ => cases hg
  | .sit :: g, b :: B, o :: G, l, l', hg, hw, hx, hu, ht, id, go, h => by
      have ht' : toksOk vs g B G = true := by cases o <;> exact ht
      cases o with
      | siter s pos =>
        change (match getG g G with
          | some r => some (AV.str s :: AV.int .i64 pos :: r)
          | none => none) = some l at hg
        split at hg
        · rename_i r hr
          cases hg
          match l', hw, hx, hu, h with
          | [], hw, _, _, _ => exact hw.elim
          | [_], hw, _, _, _ => exact hw.2.elim
          | a :: a' :: l', hw, hx, hu, h =>
            simp only [underL, Bool.and_eq_true] at hu
            simp only [putG, headA, List.tail_cons] at h
            have e1 := hx.1 (by simp [AV.exact])
            have e2 := hx.2.2.1 (by simp [AV.exact])
            subst e1 e2
            cases id with
            | zero =>
              simp only [nth] at h
              cases h
              exact ⟨.siter s pos, rfl, .inl ⟨rfl, by simp [AV.intD]⟩⟩
            | succ id => exact getG_ok hr hw.2.2 hx.2.2.2.2 hu.2.2 ht' id go h
        · cases hg
      | _ => cases hg

theorem length_putG {vs : List AV} : ∀ {g : List GL} {B : List GO} {l : List AV}, (putG vs g B l).length = g.length
  | [], _, _ => rfl
  | .row m :: g, B, l => by simp [putG, length_putG (g := g)]
  | .tok _ _ _ :: g, B, l => by simp [putG, length_putG (g := g)]
  | .dead :: g, B, l => by simp [putG, length_putG (g := g)]
  | .lp _ :: g, B, l => by simp [putG, length_putG (g := g)]
  | .keep :: g, B, l => by simp [putG, length_putG (g := g)]
  | .map :: g, B, l => by simp [putG, length_putG (g := g)]
  | .sit :: g, B, l => by simp [putG, length_putG (g := g)]

/-- A range over a function is as it was made, and stands as it stands now. -/
theorem RepO.lok {R0 : Realm} {w0 : World} {ro0 : RO} {go0 go' go : GO} {ro : RO} (e : Ext R0 w0 R w) (h0 : RepO R0 w0 go0 ro0) (hle : RoLe ro0 ro) (h : RepO R' w go' ro) (k : LOk go0 go' go) : RepO R w go ro := by
  cases go0 with
  | loop b p fn sl n ps as bd d dn =>
    cases go' with
    | loop b' p' fn' sl' n' ps' as' bd' d' dn' =>
      change go = _ at k
      subst k
      cases ro0 with
      | blk bb =>
        simp only [RoLe] at hle
        subst hle
        obtain ⟨⟨r0, db0, l1, l2, l3, l4, l5, l6, l7, l8, l9, l10⟩, l11⟩ := h0
        obtain ⟨⟨r, db, m1, m2, m3, m4, m5, m6, m7, m8, m9, m10⟩, m11⟩ := h
        obtain ⟨r1, q1, q2, q3, q4, q5, q6⟩ := e.lp bb r0 l1
        have hr : r1 = r := by
          have := q1.symm.trans m1
          injection this with this
          injection this with this
        subst hr
        exact ⟨⟨r1, db0, q1, m2, m3, by rw [q2]; exact RelT.mono e l4, by rw [q2]; exact l5, by rw [q3]; exact l6, by rw [q4]; exact l7, by rw [q5]; exact l8, by rw [q6]; exact l9, e.blk l10⟩, l11⟩
      | none => exact h0.elim
      | nil0 => exact h0.elim
      | tok _ _ _ => exact h0.elim
    | _ => exact k.elim
  | _ => exact k.elim

theorem RelM.cut {n : Nat} : ∀ {es : List (AV × AV)} {ents : List MapEntry}, exactL (mcells es) = true → RelM R w es ents → RelM (R.cut n) w es ents
  | [], [], _, _ => trivial
  | [], _ :: _, _, h => h.elim
  | _ :: _, [], _, h => h.elim
  | (k, v) :: es, en :: ents, he, h => by
    simp only [mcells, exactL, AV.exact, Bool.and_true, Bool.and_eq_true] at he
    exact ⟨h.1.move (cut_mv R n) (closed_under n (exact_closed he.1.1)), h.2.1.move (cut_mv R n) (closed_under n (exact_closed he.1.2)), RelM.cut he.2 h.2.2⟩

theorem RepO.gok {n : Nat} {go go' : GO} {ro : RO} (h : RepO R w go' ro) (k : GOk n go' go) : RepO (R.cut n) w go ro := by
  cases go with
  | dead =>
    cases ro with
    | none => trivial
    | nil0 => trivial
    | blk b => exact h.lt rfl
    | tok f b c => exact h.lt rfl
  | row cs =>
    cases go' with
    | row cs' =>
      cases ro with
      | blk b =>
        obtain ⟨vs, el, h1, h2, h3, h4⟩ := h
        exact ⟨vs, el, h1, (k.1.rel h2).move (cut_mv R n) k.2, h3, h4⟩
      | none => exact h.elim
      | nil0 => exact h.elim
      | tok _ _ _ => exact h.elim
    | _ => exact k.elim
  | tok f sz e =>
    cases go' with
    | tok f' sz' e' =>
      obtain ⟨rfl, rfl, rfl⟩ := k
      cases ro with
      | blk b => exact h.elim
      | none => exact h.elim
      | nil0 => exact h
      | tok _ _ _ => exact h
    | _ => exact k.elim
  | defers a =>
    cases go' with
    | defers b =>
      change b = a at k
      subst k
      cases ro <;> exact h
    | _ => exact k.elim
  | map es =>
    cases go' with
    | map es' =>
      obtain ⟨rfl, k2⟩ := k
      cases ro with
      | blk b => obtain ⟨ents, clock, h1, h2, h3⟩ := h; exact ⟨ents, clock, h1, RelM.cut k2 h2, h3⟩
      | none => exact h.elim
      | nil0 => exact h.elim
      | tok _ _ _ => exact h.elim
    | _ => exact k.elim
  | siter l p =>
    cases go' with
    | siter l' p' =>
      obtain ⟨rfl, rfl⟩ := k
      cases ro <;> exact h
    | _ => exact k.elim
  | _ => cases go' <;> exact k.elim

theorem RelD.ids : ∀ {l : List Nat} {ds : List Deferred}, RelD R l ds → ∀ id ∈ l, id < R.obj.length
  | [], [], _, id, hi => by simp at hi
  | x :: l, d :: ds, h, id, hi => by
    obtain ⟨⟨b, h1, _⟩, h2⟩ := h
    rcases List.mem_cons.1 hi with rfl | hi
    · exact nth_lt h1
    · exact RelD.ids h2 id hi
  | [], _ :: _, h, _, _ => h.elim
  | _ :: _, [], h, _, _ => h.elim
theorem RelD.cut {n : Nat} : ∀ {l : List Nat} {ds : List Deferred}, RelD R l ds → (∀ id ∈ l, id < n) → RelD (R.cut n) l ds
  | [], [], _, _ => trivial
  | x :: l, d :: ds, h, hi => by
    obtain ⟨⟨b, h1, h3⟩, h2⟩ := h
    exact ⟨⟨b, cut_nth.2 ⟨hi x (by simp), h1⟩, h3⟩, RelD.cut h2 fun id hm => hi id (by simp [hm])⟩
  | [], _ :: _, h, _ => h.elim
  | _ :: _, [], h, _ => h.elim

theorem relT_putLps {n : Nat} {tmps : Array Value} {slots base : Slots} (hT : RelT R w β slots tmps) : ∀ {l : List (Tmp × Nat × Nat)}, lpsOk slots l = true → RelT (R.cut n) w β base tmps → RelT (R.cut n) w β (putLps l base) tmps
  | [], _, h => h
  | (t, k, o) :: l, hl, h => fun i hi => by
    simp only [lpsOk, Bool.and_eq_true] at hl
    simp only [putLps] at hi ⊢
    by_cases e : t = i
    · subst e
      rw [lk_put_self]
      have h1 := hl.1
      split at h1
      · rename_i k' o' hk
        rw [Bool.and_eq_true] at h1
        have e1 := Nat.eq_of_beq_eq_true h1.1
        have e2 := Nat.eq_of_beq_eq_true h1.2
        subst e1 e2
        obtain ⟨c, q1, q2⟩ := hT t (by rw [hk]; simp)
        rw [hk] at q2
        exact ⟨c, q1, q2⟩
      · cases h1
    · rw [lk_put_ne e] at hi ⊢
      exact relT_putLps hT hl.2 h i hi

/-- A state that a form has read is what the form says. -/
theorem Tmpl.rep {t : Tmpl} {v : t.ps.T} (hs : Ext0 s s') (h0 : Rep E R w β s a) (h : Rep E R' w' β' s' a') (st : Step R w β s.boxes R' w' β' s'.boxes) (hd : t.dec s s' = some v) :
    Rep E (R'.cut s.G.length) w' β' (t.st s v) a' ∧ Step R w β s.boxes (R'.cut s.G.length) w' β' (t.st s v).boxes := by
  have hlen := h0.g.len
  unfold Tmpl.dec at hd
  cases hok : t.ok s s' with
  | false => rw [hok] at hd; cases hd
  | true =>
  rw [hok] at hd
  simp only [cond_true] at hd
  unfold Tmpl.ok at hok
  simp only [Bool.and_eq_true] at hok
  obtain ⟨⟨⟨⟨⟨k1, k2⟩, k3⟩, k4⟩, k5⟩, k6⟩ := hok
  obtain ⟨pre, hpre⟩ := hs.sl
  obtain ⟨preB, hpreB⟩ := hs.bx
  rw [hpre, take_pre] at k1
  rw [hpreB, take_pre] at k2
  have k3 := eqNL_eq k3
  have k4 := Nat.eq_of_beq_eq_true k4
  split at hd
  · rename_i la lb lc g1 g2 g3
    cases hv : t.ps.dec (la ++ (lb ++ lc)) with
    | none => rw [hv] at hd; cases hd
    | some v' =>
    rw [hv] at hd
    simp only [Option.bind_some] at hd
    cases htk : toksOk (t.ps.enc v') t.g s.G s'.G with
    | false => rw [htk] at hd; cases hd
    | true =>
    rw [htk] at hd
    cases hd
    have hw := (t.ps.dec_ok hv).1
    have hu := t.ps.enc_under v k5
    have hvs : ∃ xa xb xc, t.ps.enc v = xa ++ (xb ++ xc) ∧ WeakL la xa ∧ WeakL lb xb ∧ WeakL lc xc ∧ xa.length = la.length ∧ xb.length = lb.length ∧ ExL lc xc := by
      obtain ⟨xa, r, h1, h2, h3, h4⟩ := hw.split
      obtain ⟨xb, xc, rfl, h6, h7, h8⟩ := h3.split
      have hex := t.ps.dec_ex hv
      rw [h1] at hex
      obtain ⟨ya, yr, g1, _, g3, g4⟩ := hex.split
      obtain ⟨_, rfl⟩ := List.append_inj g1 (by rw [h4, g4])
      obtain ⟨yb, yc, k1, _, k3, k4⟩ := g3.split
      obtain ⟨_, rfl⟩ := List.append_inj k1 (by rw [h8, k4])
      exact ⟨xa, xb, xc, h1, h2, h6, h7, h4, h8, k3⟩
    obtain ⟨xa, xb, xc, hx, wa, wb, wc, la1, lb1, exc⟩ := hvs
    have hu' : underL s.G.length xa = true ∧ underL s.G.length xb = true ∧ underL s.G.length xc = true := by
      rw [hx, underL_append, underL_append] at hu
      simp only [Bool.and_eq_true] at hu
      exact ⟨hu.1, hu.2.1, hu.2.2⟩
    have lsl : ∀ {ts : List Tmp} {l : List AV}, getSl s'.slots ts = some l → l.length = ts.length := by
      intro ts
      induction ts with
      | nil => intro l hl; simp only [getSl] at hl; cases hl; rfl
      | cons t ts ih =>
        intro l hl
        unfold getSl at hl
        split at hl
        · split at hl
          · rename_i hr
            cases hl
            simp [ih hr]
          · cases hl
        · cases hl
    have lbx : ∀ {bx : List (Nat × Nat)} {l : List AV}, getBx s'.boxes bx = some l → l.length = sumB bx := by
      intro bx
      induction bx with
      | nil => intro l hl; simp only [getBx] at hl; cases hl; rfl
      | cons x bx ih =>
        obtain ⟨k, m⟩ := x
        intro l hl
        unfold getBx at hl
        split at hl
        · split at hl
          · rename_i cs _ _ r hr
            cases hm : Nat.beq cs.length m with
            | false => rw [hm] at hl; cases hl
            | true =>
              rw [hm] at hl
              cases hl
              simp only [sumB, List.length_append, ih hr, Nat.eq_of_beq_eq_true hm]
          · cases hl
        · cases hl
    have e1 : (t.ps.enc v).drop t.sl.length = xb ++ xc := by rw [hx, ← lsl g1, ← la1, List.drop_left]
    have e2 : (xb ++ xc).drop (sumB t.bx) = xc := by rw [← lbx g2, ← lb1, List.drop_left]
    have old : ∀ {l : List AV} {cs : List Value}, RelL R w l cs → underL s.G.length l = true := fun hr => hr.under (by omega)
    have mv := cut_mv R' s.G.length
    have hbx : ∀ k cs, lkB s'.boxes k = some cs → BoxOk R' w' β' k cs := fun k cs hk => h.b.box k cs hk
    have bok : ∀ k cs, lkB (putBx t.bx (xb ++ xc) s.boxes) k = some cs → BoxOk (R'.cut s.G.length) w' β' k cs ∧ ∃ cs', lkB s'.boxes k = some cs' := fun k cs hk => by
      refine putBx_ok (K := fun _ => False) hbx g2 wb hu'.2.1 (fun k cs _ h1 h2 => ?_) k cs (fun h => h) hk
      refine ⟨by rw [hpreB]; exact lkB_keys h1 h2 k2, ?_⟩
      obtain ⟨⟨vs, el, _, h4, _⟩, _⟩ := h0.b.box k cs h2
      exact old h4
    have stG : (t.st s v).G = putG (t.ps.enc v) t.g s.G xc := by simp only [Tmpl.st, e1, e2]
    have stB : (t.st s v).boxes = putBx t.bx (xb ++ xc) s.boxes := by simp only [Tmpl.st, e1]
    have stS : (t.st s v).slots = putLps t.lps (putSl t.sl (xa ++ (xb ++ xc)) (putW t.W s.slots)) := by simp only [Tmpl.st, hx]
    have ext : Ext R w (R'.cut s.G.length) w' := ⟨st.ext.I, st.ext.cell, fun id ro hi => by
      obtain ⟨ro', h1, h2⟩ := st.ext.obj id ro hi
      exact ⟨ro', cut_nth.2 ⟨by have := nth_lt hi; omega, h1⟩, h2⟩, st.ext.lp⟩
    refine ⟨⟨⟨?_, fun id go ro h1 h2 => ?_, fun i j ri rj b h1 h2 => h.g.inj i j ri rj b (cut_nth.1 h1).2 (cut_nth.1 h2).2, h.g.wf, fun g cs hg => (h.g.glob g cs hg).move mv (closedL_under _ (E.globOk g cs hg))⟩, ?_, ?_, ?_, ?_⟩, ?_⟩
    · rw [stG, length_putG, k4]
      have := h.g.len
      have h3 : s.G.length ≤ R'.obj.length := by
        rcases Nat.lt_or_ge R'.obj.length s.G.length with hlt | hge
        · exfalso
          have hx : R'.obj.length < R.obj.length := by omega
          obtain ⟨ro', h1, _⟩ := st.ext.obj R'.obj.length R.obj[R'.obj.length] (by rw [nth_eq]; exact List.getElem?_eq_getElem hx)
          have := nth_lt h1
          omega
        · exact hge
      simp [Realm.cut]
      omega
    · rw [stG] at h1
      obtain ⟨go', h3, h4⟩ := getG_ok g3 wc exc hu'.2.2 htk id go h1
      rcases h4 with h4 | ⟨go0, h5, h4⟩
      · exact (h.g.obj id go' ro h3 (cut_nth.1 h2).2).gok h4
      · have hlt := nth_lt h5
        rw [← hlen] at hlt
        obtain ⟨ro0, h6⟩ : ∃ ro0, nth R.obj id = some ro0 := ⟨R.obj[id], by rw [nth_eq]; exact List.getElem?_eq_getElem hlt⟩
        obtain ⟨ro', h7, h8⟩ := ext.obj id ro0 h6
        have : ro' = ro := Option.some.inj (h7.symm.trans h2)
        subst this
        exact RepO.lok ext (h0.g.obj id go0 ro0 h5 h6) h8 (h.g.obj id go' ro' h3 (cut_nth.1 h2).2) h4
    · rw [stB]
      refine ⟨fun k cs hk => (bok k cs hk).1, fun k k' cs cs' hk hk' he => ?_⟩
      obtain ⟨_, c1, hc1⟩ := bok k cs hk
      obtain ⟨_, c2, hc2⟩ := bok k' cs' hk'
      exact h.b.inj k k' c1 c2 hc1 hc2 he
    · rw [stS]
      have hT : RelTK (R'.cut s.G.length) w' β' (fun _ => False) (putSl t.sl (xa ++ (xb ++ xc)) (putW t.W s.slots)) a'.tmps := by
        refine relTK_putSl mv h.t g1 (l' := xa) (r := lb ++ lc) (r' := xb ++ xc) (wa.append (wb.append wc)) la1.symm hu'.1 (relTK_putW fun i hi hn => ?_)
        have hi1 : inK t.sl t.W i = false := by
          simp only [inK, Bool.or_eq_false_iff]
          refine ⟨?_, ?_⟩
          · cases hc : inL t.sl i with
            | false => rfl
            | true => exact absurd (.inr (.inl (inL_mem.1 hc))) hi
          · cases hc : inL t.W i with
            | false => rfl
            | true => exact absurd (.inl (inL_mem.1 hc)) hi
        have hk := lk_keys hi1 k1
        rw [← hpre] at hk
        obtain ⟨c, h1, h2⟩ := h.t i (by rw [hk]; exact hn)
        rw [hk] at h2
        refine ⟨c, h1, ?_⟩
        obtain ⟨c0, _, h4⟩ := h0.t i hn
        revert h2 h4
        cases lk s.slots i with
        | none => exact fun _ _ => trivial
        | lp k off => exact fun h2 _ => h2
        | v x => exact fun h2 h4 => Rel.move mv (Rel.under (by omega) h4) h2
      exact relT_putLps h.t k6 (fun i hi => hT i (fun h => h) hi)
    · show a'.tmps.size = s.n
      rw [h.n, hs.n]
    · show RelD _ s.marks a'.defers
      have := h.d
      rw [k3] at this
      exact this.cut fun id hid => by have := h0.d.ids id hid; omega
    · refine ⟨ext, st.os, st.tape, st.output, st.size, st.keep, fun b hb ho => st.own b hb ?_, st.im⟩
      rcases ho with ho | ⟨k, cs, hk, rfl⟩
      · exact .inl (live_cut ho)
      · rw [stB] at hk
        obtain ⟨_, c1, hc1⟩ := bok k cs hk
        exact .inr ⟨k, c1, hc1, rfl⟩
  · cases hd

end rep
end Go.Am
