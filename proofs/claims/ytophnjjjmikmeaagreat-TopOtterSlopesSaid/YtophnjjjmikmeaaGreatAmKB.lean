/- The abstract machine: a state and the model's memory. -/
import Derived.Test.YtophnjjjmikmeaaGreatAmKA
import Derived.Laws.CopyRow
import Derived.Laws.Slices
set_option linter.all false
namespace Go.Am
open Go
section lists
variable {α : Type}
theorem aD (l : List α) (n : Nat) : nth l n = l[n]? := by
  induction l generalizing n with
  | nil => simp [nth]
  | cons a l ih => cases n <;> simp [nth, ih]
theorem de (l : List α) (n : Nat) (x : α) : aq l n x = l.set n x := by
  induction l generalizing n with
  | nil => simp [aq]
  | cons a l ih => cases n <;> simp [aq, ih]
theorem aM {l : List α} {n : Nat} {x : α} (h : nth l n = some x) : n < l.length := by
  rw [aD] at h
  exact (List.getElem?_eq_some_iff.1 h).1
theorem aj {l : List α} {n : Nat} {x y : α} (h : nth l n = some y) : nth (aq l n x) n = some x := by
  have := aM h
  rw [aD, de, List.getElem?_set_self this]
theorem az {l : List α} {n m : Nat} {x : α} (h : n ≠ m) : nth (aq l n x) m = nth l m := by
  rw [aD, de, aD, List.getElem?_set_ne h]
theorem bH {l : List α} {n m : Nat} {x y : α} (h : nth (aq l n x) m = some y) : (n = m ∧ y = x ∧ m < l.length) ∨ (n ≠ m ∧ nth l m = some y) := by
  by_cases e : n = m
  · subst e
    have hl := aM h
    rw [de, List.length_set] at hl
    rw [aD, de, List.getElem?_set_self hl] at h
    exact .inl ⟨rfl, (Option.some.inj h).symm, hl⟩
  · rw [az e] at h
    exact .inr ⟨e, h⟩
@[simp] theorem cR (l : List α) (n : Nat) (x : α) : (aq l n x).length = l.length := by rw [de, List.length_set]
theorem cY (l : List α) (x : α) : nth (l ++ [x]) l.length = some x := by rw [aD]; simp
theorem bc {l : List α} {n : Nat} {y x : α} (h : nth l n = some y) : nth (l ++ [x]) n = some y := by
  have := aM h
  rw [aD] at *
  rw [List.getElem?_append_left this]
  exact h
theorem ah {l : List α} {n : Nat} {y x : α} (h : nth (l ++ [x]) n = some y) : nth l n = some y ∨ (n = l.length ∧ y = x) := by
  rw [aD] at *
  by_cases e : n < l.length
  · rw [List.getElem?_append_left e] at h; exact .inl h
  · rw [List.getElem?_append_right (by omega)] at h
    have hl := (List.getElem?_eq_some_iff.1 h).1
    simp at hl
    have : n - l.length = 0 := by omega
    rw [this] at h
    simp at h
    exact .inr ⟨by omega, h.symm⟩
theorem lz : ∀ {l : List α} {n : Nat} {x : α}, nth l n = some x → aq l n x = l
  | [], _, _, h => by cases h
  | a :: l, 0, x, h => by cases h; rfl
  | a :: l, n + 1, x, h => by
    show a :: aq l n x = a :: l
    rw [lz (show nth l n = some x from h)]
end lists
def KI (R : af) (w : World) (OF : aT → Array Value → Prop) (busy : Bool) (pending : Option Code) (ae : aT) (n : Nat) (params : List Tmp) (assign body : Code) (defers : Nat) (done : Bool) (b : Nat) : Prop :=
  ∃ (r : Loop) (db : Nat), w.heap[b]? = some (.loop r) ∧ r.state = (if done then .done else if busy then .busy else .ready) ∧ r.pending = pending ∧
    OF ae r.tmps ∧ r.tmps.size = n ∧ r.params = ⟨params⟩ ∧ r.assign = assign ∧ r.body = body ∧ r.defers = db ∧ nth R.obj defers = some (.bh db)
def lj (R : af) (w : World) (β : Nat → Nat) : SV → Value → Prop
  | .none, _ => True
  | .v a, c => Rel R w a c
  | .lp k off, c => c = .pointer (some ⟨β k, off, none⟩)
def lA (R : af) (w : World) (β : Nat → Nat) (ae : aT) (tmps : Array Value) : Prop :=
  ∀ i, lk ae i ≠ .none → ∃ c, tmps[i]? = some c ∧ lj R w β (lk ae i) c
def Cm : aT → Bool
  | [] => true
  | .put _ (.lp _ _) :: _ => false
  | _ :: l => Cm l
def cJ (R : af) (w : World) : List (AV × AV) → List MapEntry → Prop
  | [], [] => True
  | (k, v) :: l, e :: es => Rel R w k e.key ∧ Rel R w v e.val ∧ cJ R w l es
  | _, _ => False
def vO (R : af) (w : World) (sz : Nat) (e : TypeId) (f : Nat) : TR → Prop
  | .aK => f = 0
  | .full f' => f' = f
  | .tok f' b c => f' = f ∧ ∃ cur, w.heap[b]? = some (.cells cur e (0, 0)) ∧ f ≤ c ∧ c ≤ maxLen ∧ cur.size = c * sz ∧ ∀ o, f * sz ≤ o → ¬ R.I b o
def JY (ts : List TR) : Prop := ∀ i j f b c f' c', nth ts i = some (.tok f b c) → nth ts j = some (.tok f' b c') → i = j
def sD (R : af) (w : World) (sz : Nat) (e : TypeId) (fs : List Nat) (ts : List TR) : Prop :=
  ts.length = fs.length ∧ JY ts ∧ ∀ j f t, nth fs j = some f → nth ts j = some t → vO R w sz e f t
def vP (R : af) (w : World) (sz : Nat) (e : TypeId) (row : List AV) : TR → Prop
  | .aK => row = []
  | .full _ => False
  | .tok f b c => f = row.length ∧ dZ sz row ∧ ∃ cur vs, w.heap[b]? = some (.cells cur e (0, 0)) ∧ f ≤ c ∧ c ≤ maxLen ∧ cur.size = c * sz ∧ (∀ o, ¬ R.I b o) ∧ ay R w (ap row) vs ∧ (∀ v ∈ vs, v.oneCell' = true) ∧ cur.toList.take (f * sz) = vs
def OG (R : af) (w : World) (sz : Nat) (e : TypeId) (rows : List (List AV)) (ts : List TR) : Prop :=
  ts.length = rows.length ∧ JY ts ∧ ∀ j row t, nth rows j = some row → nth ts j = some t → vP R w sz e row t
def gV (av : Array MapEntry) (clock : Nat) : Prop := clock = av.size ∧ ∀ (i : Nat) (e : MapEntry), av.toList[i]? = some e → e.born = i
def OH (R : af) (w : World) (eC n : Nat) (left : List Nat) (cur : Option Nat) (b : Nat) : Prop :=
  ∃ bm seen c0, nth R.obj eC = some (.bh bm) ∧ w.heap[b]? = some (.mapIter (some bm) n seen c0) ∧ (∀ i, i < n → (i ∈ left ↔ seen.contains i = false)) ∧ (∀ i ∈ left, i < n) ∧ left.Nodup ∧ n ≤ c0 ∧ ∀ i, cur = some i → seen.back? = some i ∧ c0 = n
def eH (R : af) (w : World) : GO → RO → Prop
  | .dead, .none => True
  | .dead, .aK => True
  | .dead, .bh b => b < w.heap.size
  | .dead, .tok _ b _ _ => b < w.heap.size
  | .dead, .aG ts => ∀ j f b c, nth ts j = some (.tok f b c) → b < w.heap.size
  | .aG fs sz e, .aG ts => sD R w sz e fs ts
  | .fI rows sz e, .aG ts => OG R w sz e rows ts
  | .ls eC n left cur _, .bh b => OH R w eC n left cur b
  | .tok f _ _, .aK => f = 0
  | .row cs el, .bh b => ∃ vs, w.heap[b]? = some (.cells ⟨vs⟩ el (0, 0)) ∧ ay R w cs vs ∧ (∀ v ∈ vs, v.oneCell' = true) ∧ ∀ o, ¬ R.I b o
  | .tok f sz e, .tok f' b c k => f' = f ∧ ∃ cur, w.heap[b]? = some (.cells cur e (0, 0)) ∧ f ≤ c ∧ c ≤ maxLen ∧ cur.size = k + c * sz ∧ ∀ o, k + f * sz ≤ o → ¬ R.I b o
  | .cW es _ _, .aK => es = []
  | .cW es sz e, .tok f b c k => k = 0 ∧ f = es.length ∧ cK sz es ∧ ∃ cur vs, w.heap[b]? = some (.cells cur e (0, 0)) ∧ f ≤ c ∧ c ≤ maxLen ∧ cur.size = c * sz ∧ (∀ o, ¬ R.I b o) ∧ ay R w (ap es) vs ∧ (∀ v ∈ vs, v.oneCell' = true) ∧ cur.toList.take (f * sz) = vs
  | .map es, .bh b => ∃ av clock, w.heap[b]? = some (.map av clock) ∧ cJ R w es av.toList ∧ gV av clock
  | .eR l pos, .bh b => w.heap[b]? = some (.stringIter ⟨⟨l⟩⟩ pos)
  | .loop busy pending _ ae n params assign body defers done, .bh b => KI R w (lA R w (fun _ => 0)) busy pending ae n params assign body defers done b ∧ Cm ae = true
  | .defers o, .bh b => w.heap[b]? = some (.deferred (if o then some [] else none))
  | _, _ => False
def jL (E : Env) (R : af) (w : World) (g : Nat) (cs : List AV) : Prop :=
  du R w g 0 cs ∧ (E.gx g = true → R.I g cs.length ∧ w.cell? ⟨g, cs.length, none⟩ = none)
theorem jL.mono {E : Env} {R R' : af} {w w' : World} {g : Nat} {cs : List AV} (h : jL E R w g cs) (e : Ext R w R' w') : jL E R' w' g cs :=
  ⟨h.1.mono e, fun hx => ⟨e.I _ _ (h.2 hx).1, (e.cell _ _ (h.2 hx).1).trans (h.2 hx).2⟩⟩
structure dv (E : Env) (R : af) (w : World) (G : List GO) : Prop where
  len : R.obj.length = G.length
  obj : ∀ id go ro, nth G id = some go → nth R.obj id = some ro → eH R w go ro
  inj : ∀ i j ri rj b, nth R.obj i = some ri → nth R.obj j = some rj → ri.has b → rj.has b → i = j
  wf : ∀ b o, R.I b o → b < w.heap.size
  cw : ∀ g cs, E.cw g = some cs → jL E R w g cs
  lo : E.lo ≤ w.drawn
def Live (R : af) (b : Nat) : Prop := ∃ id ro, nth R.obj id = some ro ∧ ro.has b
structure HW (R : af) (w : World) (β : Nat → Nat) (boxes : bU) : Prop where
  box : ∀ k cs, cF boxes k = some cs → (∃ vs el, w.heap[β k]? = some (.cells ⟨vs⟩ el (0, 0)) ∧ ay R w cs vs ∧ (∀ v ∈ vs, v.oneCell' = true)) ∧ (∀ o, ¬ R.I (β k) o) ∧ ¬ Live R (β k)
  inj : ∀ k k' cs di, cF boxes k = some cs → cF boxes k' = some di → β k = β k' → k = k'
def mR (R : af) : List Nat → List Deferred → Prop
  | [], [] => True
  | id :: l, d :: ds => (∃ b, nth R.obj id = some (.bh b) ∧ d = { target := .collected b, args := #[] }) ∧ mR R l ds
  | _, _ => False
structure aJ (E : Env) (R : af) (w : World) (β : Nat → Nat) (s : St) (a : Act) : Prop where
  g : dv E R w s.G
  b : HW R w β s.boxes
  t : lA R w β s.ae a.tmps
  n : a.tmps.size = s.n
  d : mR R s.marks a.defers
def Own (R : af) (β : Nat → Nat) (boxes : bU) (b : Nat) : Prop :=
  Live R b ∨ ∃ k cs, cF boxes k = some cs ∧ β k = b
structure Step (R : af) (w : World) (β : Nat → Nat) (bx : bU) (R' : af) (w' : World) (β' : Nat → Nat) (Cn : bU) : Prop where
  ext : Ext R w R' w'
  os : w'.os = w.os
  tape : w'.tape = w.tape
  output : w'.output = w.output
  size : w.heap.size ≤ w'.heap.size
  bL : ∀ b, b < w.heap.size → ¬ Own R β bx b → w'.heap[b]? = w.heap[b]?
  own : ∀ b, b < w.heap.size → Own R' β' Cn b → Own R β bx b
  im : ∀ b o, R'.I b o → b < w.heap.size → ¬ Own R β bx b → R.I b o
theorem Step.refl (R : af) (w : World) (β : Nat → Nat) (bx : bU) : Step R w β bx R w β bx :=
  ⟨Ext.refl R w, rfl, rfl, rfl, Nat.le_refl _, fun _ _ _ => rfl, fun _ _ h => h, fun _ _ h _ _ => h⟩
theorem Step.trans {R R1 R2 : af} {w w1 w2 : World} {β β1 β2 : Nat → Nat} {x x1 x2 : bU}
    (h : Step R w β x R1 w1 β1 x1) (k : Step R1 w1 β1 x1 R2 w2 β2 x2) : Step R w β x R2 w2 β2 x2 where
  ext := h.ext.trans k.ext
  os := k.os.trans h.os
  tape := k.tape.trans h.tape
  output := k.output.trans h.output
  size := Nat.le_trans h.size k.size
  bL := fun b hb hn => (k.bL b (Nat.lt_of_lt_of_le hb h.size) (fun ho => hn (h.own b hb ho))).trans (h.bL b hb hn)
  own := fun b hb ho => h.own b hb (k.own b (Nat.lt_of_lt_of_le hb h.size) ho)
  im := fun b o hi hb hn => h.im b o (k.im b o hi (Nat.lt_of_lt_of_le hb h.size) (fun ho => hn (h.own b hb ho))) hb hn
theorem lj.mono {R R' : af} {w w' : World} {β : Nat → Nat} (e : Ext R w R' w') {x : SV} {c : Value} (h : lj R w β x c) : lj R' w' β x c := by
  cases x with
  | none => trivial
  | v a => exact Rel.mono e h
  | lp k off => exact h
theorem oh (n : Nat) : Nat.beq n n = true := Nat.beq_refl n
theorem ky {n m : Nat} (h : n ≠ m) : Nat.beq n m = false := by
  cases hb : Nat.beq n m with
  | true => exact absurd (Nat.eq_of_beq_eq_true hb) h
  | false => rfl
theorem ar (l : aT) (d : Nat) (x : SV) : lk (.put d x :: l) d = x := by simp [lk]
theorem aC {l : aT} {d t : Nat} {x : SV} (h : d ≠ t) : lk (.put d x :: l) t = lk l t := by simp [lk, ky h]
theorem Co {l : aT} {d t : Nat} : (lk (.kill d :: l) t = lk l t ∧ ∀ k off, lk l t = .lp k off → k ≠ d) ∨ lk (.kill d :: l) t = .none := by
  simp only [lk]
  cases h : lk l t with
  | none => exact .inr rfl
  | v a => exact .inl ⟨rfl, fun _ _ e => by cases e⟩
  | lp k off =>
    by_cases hk : k = d
    · subst hk
      exact .inr (by simp)
    · exact .inl ⟨by simp [ky hk], fun k' dT e => by cases e; exact hk⟩
theorem EV (l : bU) (d : Nat) (cs : List AV) : cF ((d, cs) :: l) d = some cs := by simp [cF]
theorem dz {l : bU} {d k : Nat} {cs di : List AV} (h : cF ((d, cs) :: l) k = some di) : (d = k ∧ di = cs) ∨ (d ≠ k ∧ cF l k = some di) := by
  by_cases e : d = k
  · subst e
    rw [EV] at h
    exact .inl ⟨rfl, (Option.some.inj h).symm⟩
  · simp only [cF, ky e, cond_false] at h
    exact .inr ⟨e, h⟩
theorem HX {l : bU} (h : l.all (fun p => aN p.2) = true) {k : Nat} {cs : List AV} (hk : cF l k = some cs) : aN cs = true := by
  induction l with
  | nil => simp [cF] at hk
  | cons x l ih =>
    obtain ⟨d, c⟩ := x
    simp only [List.all_cons, Bool.and_eq_true] at h
    rcases dz hk with ⟨_, rfl⟩ | ⟨_, hk⟩
    · exact h.1
    · exact ih h.2 hk
theorem lA.put {R : af} {w : World} {β : Nat → Nat} {ae : aT} {a : Act} (h : lA R w β ae a.tmps) {d : Tmp} {x : SV} {c : Value} (hd : d < a.tmps.size) (hx : lj R w β x c) :
    lA R w β (.put d x :: ae) (a.put (some d) c).tmps := by
  intro i hi
  by_cases e : d = i
  · subst e
    rw [ar]
    exact ⟨c, by simp [Act.put, hd], hx⟩
  · rw [aC e] at hi ⊢
    obtain ⟨c', h1, h2⟩ := h i hi
    refine ⟨c', ?_, h2⟩
    simp only [Act.put]
    rw [Array.getElem?_setIfInBounds_ne e]
    exact h1
theorem aJ.put {E : Env} {R : af} {w : World} {β : Nat → Nat} {s : St} {a : Act} (h : aJ E R w β s a) (dst : Option Tmp) {x : SV} {c : Value} (hx : lj R w β x c) :
    aJ E R w β (s.put dst x) (a.put dst c) := by
  cases dst with
  | none => exact h
  | some d =>
    simp only [St.put]
    cases hb : Nat.blt d s.n with
    | true =>
      have hd : d < a.tmps.size := by rw [h.n]; exact Nat.le_of_ble_eq_true hb
      exact ⟨h.g, h.b, h.t.put hd hx, by simp [Act.put, h.n], h.d⟩
    | false =>
      have hd : ¬ d < a.tmps.size := by
        rw [h.n]
        intro bR
        have : Nat.blt d s.n = true := Nat.ble_eq_true_of_le bR
        rw [this] at hb
        cases hb
      have he : a.put (some d) c = a := by
        simp only [Act.put]
        rw [Array.setIfInBounds_eq_of_size_le (Nat.not_lt.1 hd)]
      rw [he]
      exact h
theorem ol {R : af} {w : World} {v : Value} {a : AV} (h : nY v = some a) : Rel R w a v ∧ v.oneCell' = true := by
  unfold nY at h
  split at h <;> cases h
  · exact ⟨.bool _, rfl⟩
  · exact ⟨.int _ _, rfl⟩
  · rename_i s
    exact ⟨.str s.data.toList, rfl⟩
  · exact ⟨.gi, rfl⟩
  · exact ⟨.gB, rfl⟩
  · exact ⟨.jW, rfl⟩
  · exact ⟨.cV, rfl⟩
  · exact ⟨.li, rfl⟩
theorem kz {R : af} {w : World} : ∀ {vs : List Value} {l : List AV}, jX vs = some l → ay R w l vs ∧ ∀ v ∈ vs, v.oneCell' = true
  | [], l, h => by simp [jX] at h; subst h; exact ⟨.nil, by simp⟩
  | v :: vs, l, h => by
    unfold jX at h
    split at h
    · rename_i a r h1 h2
      cases h
      obtain ⟨k1, k2⟩ := ol (R := R) (w := w) h1
      obtain ⟨k3, k4⟩ := kz (R := R) (w := w) h2
      exact ⟨.cons k1 k3, by simp [k2]; exact k4⟩
    · cases h
theorem qG {R : af} {w : World} {v : Value} {a : AV} (h : nZ v = some a) : Rel R w a v := by
  unfold nZ at h
  split at h
  · rename_i cs
    split at h
    · rename_i l hl
      cases h
      obtain ⟨k1, k2⟩ := kz (R := R) (w := w) hl
      exact .agg (vs := cs.toList) k1 k2
    · cases h
  · rename_i cs
    split at h
    · rename_i l hl
      cases h
      obtain ⟨k1, _⟩ := kz (R := R) (w := w) hl
      exact .bC (vs := cs.toList) k1
    · cases h
  · exact (ol h).1
theorem aE {E : Env} {R : af} {w : World} {β : Nat → Nat} {s : St} {a : Act} (h : aJ E R w β s a) (x : Operand) : lj R w β (ba E s.ae x) (a.eval x) := by
  cases x with
  | tmp t =>
    simp only [ba, Act.eval]
    by_cases hn : lk s.ae t = .none
    · rw [hn]; trivial
    · obtain ⟨c, h1, h2⟩ := h.t t hn
      have : a.tmps.getD t undef = c := by simp [Array.getD_eq_getD_getElem?, h1]
      rw [this]
      exact h2
  | const v =>
    simp only [ba, Act.eval]
    cases hc : nZ v with
    | none => trivial
    | some y => exact qG hc
  | global g =>
    simp only [ba, Act.eval]
    cases hg : E.cw g with
    | none => trivial
    | some cs => exact Rel.ep (h.g.cw g cs hg).1
  | func f => exact Rel.fn .nil .nil
end Go.Am
namespace Go.Am
open Go
section lists
variable {α : Type}
theorem sE (n : Nat) (l : List α) : dF n l = l.drop n := by
  induction n generalizing l with
  | zero => simp [dF]
  | succ n ih => cases l <;> simp [dF, ih]
theorem EW {n : Nat} {l r : List α} (h : takeN n l = some r) : r = l.take n ∧ r.length = n := by
  induction n generalizing l r with
  | zero => simp [takeN] at h; subst h; simp
  | succ n ih =>
    cases l with
    | nil => simp [takeN] at h
    | cons a l =>
      unfold takeN at h
      split at h
      · rename_i r' hr
        cases h
        obtain ⟨h1, h2⟩ := ih hr
        exact ⟨by simp [h1], by simp [h2]⟩
      · cases h
theorem KJ {off n : Nat} {l r : List α} (h : Aw off n l = some r) : r = (l.drop off).take n ∧ r.length = n := by
  unfold Aw at h
  rw [sE] at h
  exact EW h
theorem cT (l : List α) (off : Nat) (ys : List α) (h : off + ys.length ≤ l.length) : bu l off ys = l.take off ++ ys ++ l.drop (off + ys.length) := by
  induction l generalizing off ys with
  | nil =>
    have hy : ys = [] := List.eq_nil_of_length_eq_zero (by rw [List.length_nil] at h; omega)
    subst hy
    simp [bu]
  | cons a l ih =>
    cases ys with
    | nil => simp [bu]
    | cons y ys =>
      cases off with
      | zero =>
        simp only [bu]
        rw [ih 0 ys (by simp at h ⊢; omega)]
        simp
      | succ n =>
        simp only [bu]
        rw [ih n (y :: ys) (by simp at h ⊢; omega)]
        rw [show n + 1 + (y :: ys).length = (n + (y :: ys).length) + 1 by omega]
        simp
theorem mV (l : List α) (off : Nat) (ys : List α) (h : off + ys.length ≤ l.length) : (bu l off ys).length = l.length := by
  rw [cT l off ys h]
  simp
  omega
end lists
section rel
variable {R : af} {w : World}
theorem ay.length {l : List AV} {vs : List Value} (h : ay R w l vs) : l.length = vs.length := by
  induction l generalizing vs with
  | nil => cases h; rfl
  | cons a l ih => cases h with | cons h t => simp [ih t]
theorem ay.get {l : List AV} {vs : List Value} (h : ay R w l vs) {i : Nat} {a : AV} (ha : l[i]? = some a) : ∃ c, vs[i]? = some c ∧ Rel R w a c := by
  induction l generalizing vs i with
  | nil => simp at ha
  | cons x l ih =>
    cases h with
    | cons h t =>
      cases i with
      | zero => simp at ha; subst ha; exact ⟨_, by simp, h⟩
      | succ i => simp at ha; obtain ⟨c, h1, h2⟩ := ih t ha; exact ⟨c, by simpa using h1, h2⟩
theorem ay.drop {l : List AV} {vs : List Value} (h : ay R w l vs) (n : Nat) : ay R w (l.drop n) (vs.drop n) := by
  induction n generalizing l vs with
  | zero => simpa using h
  | succ n ih => cases h with
    | nil => simpa using ay.nil
    | cons h t => simpa using ih t
theorem ay.take {l : List AV} {vs : List Value} (h : ay R w l vs) (n : Nat) : ay R w (l.take n) (vs.take n) := by
  induction n generalizing l vs with
  | zero => simpa using ay.nil
  | succ n ih => cases h with
    | nil => simpa using ay.nil
    | cons h t => simpa using ay.cons h (ih t)
theorem ay.append {l r : List AV} {vs us : List Value} (h : ay R w l vs) (k : ay R w r us) : ay R w (l ++ r) (vs ++ us) := by
  induction l generalizing vs with
  | nil => cases h; simpa using k
  | cons a l ih => cases h with | cons h t => exact .cons h (ih t)
theorem ay.one {a : AV} {c : Value} (h : Rel R w a c) : ay R w [a] [c] := .cons h .nil
theorem Rel.cells {a : AV} {c : Value} (h : Rel R w a c) (ht : a.aH = true) : ay R w a.cells c.cells.toList ∧ ∀ v ∈ c.cells.toList, v.oneCell' = true := by
  cases h with
  | agg h h1 => exact ⟨h, h1⟩
  | bC h => simp [AV.aH] at ht
  | bool => exact ⟨.one (.bool _), by simp [Value.cells, Value.oneCell']⟩
  | int => exact ⟨.one (.int _ _), by simp [Value.cells, Value.oneCell']⟩
  | str => exact ⟨.one (.str _), by simp [Value.cells, Value.oneCell']⟩
  | gB => exact ⟨.one .gB, by simp [Value.cells, Value.oneCell']⟩
  | ptr h => exact ⟨.one (.ptr h), by simp [Value.cells, Value.oneCell']⟩
  | ep h => exact ⟨.one (.ep h), by simp [Value.cells, Value.oneCell']⟩
  | gi => exact ⟨.one .gi, by simp [Value.cells, Value.oneCell']⟩
  | fO => exact ⟨.one .fO, by simp [Value.cells, Value.oneCell']⟩
  | jK => exact ⟨.one .jK, by simp [Value.cells, Value.oneCell']⟩
  | iH h ho => exact ⟨.one (.iH h ho), by simp [Value.cells, Value.oneCell']⟩
  | jm h ho => exact ⟨.one (.jm h ho), by simp [Value.cells, Value.oneCell']⟩
  | list h hl hc hk => exact ⟨.one (.list h hl hc hk), by simp [Value.cells, Value.oneCell']⟩
  | gb h hc => exact ⟨.one (.gb h hc), by simp [Value.cells, Value.oneCell']⟩
  | fZ h ho => exact ⟨.one (.fZ h ho), by simp [Value.cells, Value.oneCell']⟩
  | cS h ho hc => exact ⟨.one (.cS h ho hc), by simp [Value.cells, Value.oneCell']⟩
  | gp h ho => exact ⟨.one (.gp h ho), by simp [Value.cells, Value.oneCell']⟩
  | oe h ho => exact ⟨.one (.oe h ho), by simp [Value.cells, Value.oneCell']⟩
  | eT h ho hc => exact ⟨.one (.eT h ho hc), by simp [Value.cells, Value.oneCell']⟩
  | rp h ho => exact ⟨.one (.rp h ho), by simp [Value.cells, Value.oneCell']⟩
  | jW => exact ⟨.one .jW, by simp [Value.cells, Value.oneCell']⟩
  | map h => exact ⟨.one (.map h), by simp [Value.cells, Value.oneCell']⟩
  | cV => exact ⟨.one .cV, by simp [Value.cells, Value.oneCell']⟩
  | fn h h' => exact ⟨.one (.fn h h'), by simp [Value.cells, Value.oneCell']⟩
  | yield h => exact ⟨.one (.yield h), by simp [Value.cells, Value.oneCell']⟩
  | li => exact ⟨.one .li, by simp [Value.cells, Value.oneCell']⟩
  | iface h => exact ⟨.one (.iface h), by simp [Value.cells, Value.oneCell']⟩
mutual
theorem Rel.eX : ∀ {a : AV} {c : Value}, Rel R w a c → Rel R w a.eX c
  | _, _, .bool b => .bool b
  | _, _, .int k n => .int k n
  | _, _, .str l => .str l
  | _, _, .agg h h1 => .agg h.eX h1
  | _, _, .bC h => .bC h.eX
  | _, _, .gB => .gB
  | _, _, .ptr h => .ptr h
  | _, _, .ep h => .ep h
  | _, _, .gi => .gi
  | _, _, .fO => .fO
  | _, _, .jK => .jK
  | _, _, .iH _ _ => .fO
  | _, _, .jm _ _ => .fO
  | _, _, @Rel.list _ _ .nil _ _ _ _ _ _ h hl hc hk => .list h hl hc hk
  | _, _, @Rel.list _ _ .full _ _ _ _ _ _ h hl hc hk => .list h hl hc hk
  | _, _, @Rel.list _ _ .fY _ _ _ _ _ _ h hl hc hk => .list h hl hc hk
  | _, _, @Rel.list _ _ (.own _) _ _ _ _ _ _ h hl hc _ => .list h hl hc trivial
  | _, _, @Rel.list _ _ (.aG _ _) _ _ _ _ _ _ h hl hc _ => .list h hl hc trivial
  | _, _, .gb h hc => .gb h hc
  | _, _, .fZ h ho => .fZ h ho
  | _, _, .cS h ho hc => .cS h ho hc
  | _, _, .gp h ho => .gp h ho
  | _, _, .oe h ho => .oe h ho
  | _, _, .eT h ho hc => .eT h ho hc
  | _, _, .rp h ho => .rp h ho
  | _, _, .jW => .jW
  | _, _, .map h => .map h
  | _, _, .cV => .cV
  | _, _, .fn h h' => .fn h h'
  | _, _, .yield h => .yield h
  | _, _, .li => .li
  | _, _, .iface h => .iface h
theorem ay.eX : ∀ {l : List AV} {cs : List Value}, ay R w l cs → ay R w (jr l) cs
  | _, _, .nil => .nil
  | _, _, .cons h t => .cons h.eX t.eX
end
theorem du.get {b o : Nat} {l : List AV} (h : du R w b o l) : ∃ vs, ay R w l vs ∧ (∀ v ∈ vs, v.oneCell' = true) ∧ (∀ j v, vs[j]? = some v → w.cell? ⟨b, o + j, none⟩ = some v) ∧ ∀ j, j < l.length → R.I b (o + j) := by
  induction l generalizing o with
  | nil => exact ⟨[], .nil, by simp, by simp, by simp⟩
  | cons a l ih =>
    cases h with
    | @cons _ _ _ c _ hc h1 hi h t =>
      obtain ⟨vs, k1, k2, k3, k4⟩ := ih t
      refine ⟨c :: vs, .cons h k1, ?_, ?_, ?_⟩
      · intro v hv
        rcases List.mem_cons.1 hv with rfl | hv
        · exact h1
        · exact k2 v hv
      · intro j v hv
        cases j with
        | zero => simp at hv; subst hv; exact hc
        | succ j => simp at hv; have := k3 j v hv; rwa [show o + 1 + j = o + (j + 1) by omega] at this
      · intro j hj
        cases j with
        | zero => exact hi
        | succ j => have := k4 j (by simp at hj; omega); rwa [show o + 1 + j = o + (j + 1) by omega] at this
theorem du.make {b o : Nat} {l : List AV} {vs : List Value} (h : ay R w l vs) (h1 : ∀ v ∈ vs, v.oneCell' = true) (hc : ∀ j v, vs[j]? = some v → w.cell? ⟨b, o + j, none⟩ = some v) (hi : ∀ j, j < l.length → R.I b (o + j)) : du R w b o l := by
  induction l generalizing vs o with
  | nil => exact .nil
  | cons a l ih =>
    cases h with
    | cons h t =>
      refine .cons (hc 0 _ (by simp)) (h1 _ (by simp)) (hi 0 (by simp)) h (ih t (fun v hv => h1 v (by simp [hv])) (fun j v hv => ?_) (fun j hj => ?_))
      · have := hc (j + 1) v (by simpa using hv); rwa [show o + (j + 1) = o + 1 + j by omega] at this
      · have := hi (j + 1) (by simpa using hj); rwa [show o + (j + 1) = o + 1 + j by omega] at this
theorem du.drop {b o : Nat} {l : List AV} (h : du R w b o l) (n : Nat) : du R w b (o + n) (l.drop n) := by
  induction n generalizing o l with
  | zero => simpa using h
  | succ n ih => cases h with
    | nil => simpa using du.nil
    | cons hc h1 hi h t => have := ih t; rw [show o + 1 + n = o + (n + 1) by omega] at this; simpa using this
end rel
theorem bJ (b o n : Nat) : (⟨b, o, none⟩ : Addr).add n = ⟨b, o + n, none⟩ := by unfold Addr.add; split <;> simp_all
section bL
variable {E : Env} {R R' : af} {w w' : World} {β β' : Nat → Nat} {s : St} {a : Act}
theorem lA.mono (e : Ext R w R' w') {sl : aT} {tm : Array Value} (h : lA R w β sl tm) : lA R' w' β sl tm :=
  fun i hi => let ⟨c, h1, h2⟩ := h i hi; ⟨c, h1, h2.mono e⟩
theorem cJ.mono (e : Ext R w R' w') : ∀ {l : List (AV × AV)} {es : List MapEntry}, cJ R w l es → cJ R' w' l es
  | [], [], _ => trivial
  | (_, _) :: _, _ :: _, h => ⟨h.1.mono e, h.2.1.mono e, cJ.mono e h.2.2⟩
  | [], _ :: _, h => h.elim
  | _ :: _, [], h => h.elim
theorem lB {w w' : World} {b : Nat} (h : b < w.heap.size) (e : w'.heap[b]? = w.heap[b]?) : b < w'.heap.size := by
  rw [Array.getElem?_eq_getElem h] at e
  exact (Array.getElem?_eq_some_iff.1 e).1
theorem eH.mono (e : Ext R w R' w') {go : GO} {ro : RO} (h : eH R w go ro) (hb : ∀ b, ro.has b → w'.heap[b]? = w.heap[b]?) (hi : ∀ b o, ro.has b → R'.I b o → R.I b o) : eH R' w' go ro := by
  cases ro with
  | none => cases go <;> first | exact h | exact h.elim
  | aK => cases go <;> first | exact h | exact h.elim
  | bh b =>
    have gE := hb b rfl
    cases go with
    | dead => exact lB h gE
    | row cs el => obtain ⟨vs, h1, h2, h3, h4⟩ := h; exact ⟨vs, gE.trans h1, h2.mono e, h3, fun o ho => h4 o (hi b o rfl ho)⟩
    | tok f sz el => exact h.elim
    | aG _ _ _ => exact h.elim
    | ls eC n left _ => obtain ⟨bm, seen, c0, h1, h2, h3⟩ := h; exact ⟨bm, seen, c0, e.bh h1, gE.trans h2, h3⟩
    | cW es sz el => exact h.elim
    | fI _ _ _ => exact h.elim
    | map es => obtain ⟨av, clock, h1, h2, h3⟩ := h; exact ⟨av, clock, gE.trans h1, cJ.mono e h2, h3⟩
    | eR l pos => exact gE.trans h
    | loop busy pending fn ae n params assign body defers done =>
      obtain ⟨⟨r, db, h1, h2, h3, h4, h5, h6, h7, h8, h9, Vq⟩, h10⟩ := h
      exact ⟨⟨r, db, gE.trans h1, h2, h3, h4.mono e, h5, h6, h7, h8, h9, e.bh Vq⟩, h10⟩
    | defers o => exact gE.trans h
  | tok f b c k0 =>
    have gE := hb b rfl
    cases go with
    | tok f' sz el =>
      obtain ⟨h0, cur, h1, h2, h3, h4, h5⟩ := h
      exact ⟨h0, cur, gE.trans h1, h2, h3, h4, fun o ho nw => h5 o ho (hi b o rfl nw)⟩
    | cW es sz el =>
      obtain ⟨hk, h0, iI, cur, vs, h1, h2, h3, h4, h5, h6, h7, h8⟩ := h
      exact ⟨hk, h0, iI, cur, vs, gE.trans h1, h2, h3, h4, fun o ho => h5 o (hi b o rfl ho), h6.mono e, h7, h8⟩
    | dead => exact lB h gE
    | row cs => exact h.elim
    | aG _ _ _ => exact h.elim
    | ls _ _ _ _ => exact h.elim
    | fI _ _ _ => exact h.elim
    | map es => exact h.elim
    | eR l pos => exact h.elim
    | loop => exact h.elim
    | defers o => exact h.elim
  | aG ts =>
    cases go with
    | aG fs sz el =>
      obtain ⟨h1, h2, h3⟩ := h
      refine ⟨h1, h2, fun j f t hf ht => ?_⟩
      have h4 := h3 j f t hf ht
      cases t with
      | aK => exact h4
      | full f' => exact h4
      | tok f' b c =>
        obtain ⟨h5, cur, k1, k2, k3, k4, k5⟩ := h4
        have hh : RO.has (.aG ts) b := ⟨j, f', c, ht⟩
        exact ⟨h5, cur, (hb b hh).trans k1, k2, k3, k4, fun o ho nw => k5 o ho (hi b o hh nw)⟩
    | fI rows sz el =>
      obtain ⟨h1, h2, h3⟩ := h
      refine ⟨h1, h2, fun j row t hf ht => ?_⟩
      have h4 := h3 j row t hf ht
      cases t with
      | aK => exact h4
      | full f' => exact h4
      | tok f' b c =>
        obtain ⟨h5, iI, cur, vs, k1, k2, k3, k4, k5, k6, k7, k8⟩ := h4
        have hh : RO.has (.aG ts) b := ⟨j, f', c, ht⟩
        exact ⟨h5, iI, cur, vs, (hb b hh).trans k1, k2, k3, k4, fun o ho => k5 o (hi b o hh ho), k6.mono e, k7, k8⟩
    | dead => exact fun j f b c ht => lB (h j f b c ht) (hb b ⟨j, f, c, ht⟩)
    | _ => exact h.elim
theorem Live.of {id b : Nat} {ro : RO} (h : nth R.obj id = some ro) (hb : ro.has b) : Live R b := ⟨id, ro, h, hb⟩
theorem dv.bL {G : List GO} (h : dv E R w G) (e : Ext R w R' w') (ho : R'.obj = R.obj) (hb : ∀ b, Live R b → w'.heap[b]? = w.heap[b]?) (hi : ∀ b o, Live R b → R'.I b o → R.I b o) (wf : ∀ b o, R'.I b o → b < w'.heap.size) (hd : E.lo ≤ w.drawn → E.lo ≤ w'.drawn := by first | exact fun h => h | exact fun h => Nat.le_succ_of_le h) : dv E R' w' G where
  lo := hd h.lo
  len := by rw [ho]; exact h.len
  obj := fun id go ro hg hr => by
    rw [ho] at hr
    exact (h.obj id go ro hg hr).mono e (fun b EX => hb b (.of hr EX)) (fun b o EX => hi b o (.of hr EX))
  inj := fun i j ri rj b h1 h2 => by rw [ho] at h1 h2; exact h.inj i j ri rj b h1 h2
  wf := wf
  cw := fun g cs hg => (h.cw g cs hg).mono e
theorem HW.bL {bx : bU} (h : HW R w β bx) (e : Ext R w R' w') (hb : ∀ k cs, cF bx k = some cs → w'.heap[β k]? = w.heap[β k]?) (hi : ∀ k cs o, cF bx k = some cs → R'.I (β k) o → R.I (β k) o) (hl : ∀ k cs, cF bx k = some cs → Live R' (β k) → Live R (β k)) : HW R' w' β bx where
  box := fun k cs hk => by
    obtain ⟨⟨vs, el, h1, h2, h3⟩, h4, h5⟩ := h.box k cs hk
    exact ⟨⟨vs, el, (hb k cs hk).trans h1, h2.mono e, h3⟩, fun o ho => h4 o (hi k cs o hk ho), fun nW => h5 (hl k cs hk nW)⟩
  inj := h.inj
theorem mR.mono (e : Ext R w R' w') : ∀ {l : List Nat} {ds : List Deferred}, mR R l ds → mR R' l ds
  | [], [], _ => trivial
  | _ :: _, _ :: _, h => let ⟨⟨b, h1, h2⟩, h3⟩ := h; ⟨⟨b, e.bh h1, h2⟩, mR.mono e h3⟩
  | [], _ :: _, h => h.elim
  | _ :: _, [], h => h.elim
theorem aJ.bL (h : aJ E R w β s a) (e : Ext R w R' w') (ho : R'.obj = R.obj) (hb : ∀ b, Own R β s.boxes b → w'.heap[b]? = w.heap[b]?) (hi : ∀ b o, Own R β s.boxes b → R'.I b o → R.I b o) (wf : ∀ b o, R'.I b o → b < w'.heap.size) (hd : E.lo ≤ w.drawn → E.lo ≤ w'.drawn := by first | exact fun h => h | exact fun h => Nat.le_succ_of_le h) : aJ E R' w' β s a where
  g := h.g.bL e ho (fun b hl => hb b (.inl hl)) (fun b o hl => hi b o (.inl hl)) wf hd
  b := h.b.bL e (fun k cs hk => hb _ (.inr ⟨k, cs, hk, rfl⟩)) (fun k cs o hk => hi _ o (.inr ⟨k, cs, hk, rfl⟩)) (fun k cs _ hl => by obtain ⟨id, ro, h1, h2⟩ := hl; rw [ho] at h1; exact ⟨id, ro, h1, h2⟩)
  t := h.t.mono e
  n := h.n
  d := h.d.mono e
theorem a7 {w : World} {b : Nat} {o : Obj} (h : w.heap[b]? = some o) : b < w.heap.size := (Array.getElem?_eq_some_iff.1 h).1
theorem eH.lt {go : GO} {ro : RO} (h : eH R w go ro) {b : Nat} (hb : ro.has b) : b < w.heap.size := by
  cases ro with
  | none => exact hb.elim
  | aK => exact hb.elim
  | bh x =>
    have hb : b = x := hb
    subst hb
    cases go with
    | dead => exact h
    | row cs el => obtain ⟨vs, h1, _⟩ := h; exact a7 h1
    | tok f sz el => exact h.elim
    | aG _ _ _ => exact h.elim
    | ls eC n left _ => obtain ⟨bm, seen, c0, _, h2, _⟩ := h; exact a7 h2
    | cW es sz el => exact h.elim
    | fI _ _ _ => exact h.elim
    | map es => obtain ⟨av, clock, h1, _⟩ := h; exact a7 h1
    | eR l pos => exact a7 h
    | loop => obtain ⟨⟨r, db, h1, _⟩, _⟩ := h; exact a7 h1
    | defers o => exact a7 h
  | tok f x c k0 =>
    have hb : b = x := hb
    subst hb
    cases go with
    | tok f' sz el => obtain ⟨_, cur, h1, _⟩ := h; exact a7 h1
    | cW es sz el => obtain ⟨_, _, _, cur, vs, h1, _⟩ := h; exact a7 h1
    | dead => exact h
    | row cs => exact h.elim
    | aG _ _ _ => exact h.elim
    | ls _ _ _ _ => exact h.elim
    | fI _ _ _ => exact h.elim
    | map es => exact h.elim
    | eR l pos => exact h.elim
    | loop => exact h.elim
    | defers o => exact h.elim
  | aG ts =>
    obtain ⟨j, f, c, ht⟩ := hb
    cases go with
    | aG fs sz el =>
      obtain ⟨h1, h2, h3⟩ := h
      have bR := aM ht
      rw [h1] at bR
      obtain ⟨f', hf⟩ : ∃ f', nth fs j = some f' := ⟨fs[j], by rw [aD]; exact List.getElem?_eq_getElem bR⟩
      obtain ⟨_, cur, k1, _⟩ := h3 j f' _ hf ht
      exact a7 k1
    | dead => exact h j f b c ht
    | fI rows sz el =>
      obtain ⟨h1, h2, h3⟩ := h
      have bR := aM ht
      have h4 := h3 j rows[j] (.tok f b c) (by rw [aD]; exact List.getElem?_eq_getElem (by omega)) ht
      obtain ⟨_, _, cur, vs, k1, _⟩ := h4
      exact a7 k1
    | _ => exact h.elim
theorem dv.bq {G : List GO} (h : dv E R w G) {b : Nat} (hl : Live R b) : b < w.heap.size := by
  obtain ⟨id, ro, h1, h2⟩ := hl
  have bR := aM h1
  rw [h.len] at bR
  obtain ⟨go, eI⟩ : ∃ go, nth G id = some go := ⟨G[id], by rw [aD]; exact List.getElem?_eq_getElem bR⟩
  exact (h.obj id go ro eI h1).lt h2
theorem aJ.cA (h : aJ E R w β s a) {b : Nat} (ho : Own R β s.boxes b) : b < w.heap.size := by
  rcases ho with hl | ⟨k, cs, hk, rfl⟩
  · exact h.g.bq hl
  · obtain ⟨⟨vs, el, h1, _⟩, _⟩ := h.b.box k cs hk
    exact a7 h1
theorem bl {w w' : World} {b : Nat} (h : w'.heap[b]? = w.heap[b]?) (o : Nat) : w'.cell? ⟨b, o, none⟩ = w.cell? ⟨b, o, none⟩ := by simp [World.cell?, h]
theorem vQ (wf : ∀ b o, R.I b o → b < w.heap.size) (x : Obj) : Ext R w R (w.alloc x) :=
  ⟨fun _ _ h => h, fun b o h => bl (heap_alloc_old w x b (wf b o h)) o, fun _ ro h => ⟨ro, h, bF.refl ro⟩, .old fun b hb => heap_alloc_old w x b hb⟩
theorem aJ.alloc (h : aJ E R w β s a) (x : Obj) : aJ E R (w.alloc x) β s a :=
  h.bL (vQ h.g.wf x) rfl (fun b hb => heap_alloc_old w x b (h.cA hb)) (fun _ _ _ hi => hi) (fun b o hi => by have := h.g.wf b o hi; simp; omega)
end bL
end Go.Am
namespace Go.Am
open Go
theorem EY {a b : AV} (h : EN a b = true) : a = b := by
  unfold EN at h
  split at h
  all_goals (first | (cases h; done) | skip)
  all_goals (try simp only [Bool.and_eq_true, beq_iff_eq, Nat.beq_eq] at h)
  all_goals (simp [*])
mutual
theorem fP : ∀ {a b : AV}, df a b = true → a = b := by
  intro a b h
  unfold df at h
  split at h
  · simp only [Bool.and_eq_true, Nat.beq_eq] at h; rw [h.1.1, ef h.1.2, ef h.2]
  · rw [ef h]
  · rw [ef h]
  · rw [ef h]
  · simp only [Bool.and_eq_true, Nat.beq_eq] at h; rw [h.1, ef h.2]
  · simp only [Bool.and_eq_true, Nat.beq_eq] at h; rw [h.1, ef h.2]
  · simp only [Bool.and_eq_true, Nat.beq_eq] at h; rw [h.1, ef h.2]
  · simp only [Bool.and_eq_true, Nat.beq_eq] at h; rw [h.1.1, h.1.2, ef h.2]
  · simp only [Bool.and_eq_true, Nat.beq_eq] at h; rw [h.1.1.1, h.1.1.2, h.1.2, ef h.2]
  · exact EY h
theorem ef : ∀ {l r : List AV}, jY l r = true → l = r := by
  intro l r h
  unfold jY at h
  split at h
  · rfl
  · rw [Bool.and_eq_true] at h; rw [fP h.1, ef h.2]
  · cases h
end
def wZ (a b : AV) : Prop := ∀ (R : af) (w : World) (c : Value), Rel R w a c → Rel R w b c
def bZ : List AV → List AV → Prop
  | [], [] => True
  | a :: l, b :: r => wZ a b ∧ bZ l r
  | _, _ => False
theorem wZ.refl (a : AV) : wZ a a := fun _ _ _ h => h
theorem bZ.refl : ∀ l : List AV, bZ l l
  | [] => trivial
  | a :: l => ⟨wZ.refl a, bZ.refl l⟩
theorem bZ.length : ∀ {l r : List AV}, bZ l r → l.length = r.length
  | [], [], _ => rfl
  | _ :: _, _ :: _, h => by simp [bZ.length h.2]
  | [], _ :: _, h => h.elim
  | _ :: _, [], h => h.elim
theorem bZ.rel {R : af} {w : World} : ∀ {l r : List AV} {cs : List Value}, bZ l r → ay R w l cs → ay R w r cs
  | [], [], _, _, h => h
  | _ :: _, _ :: _, _, k, .cons h t => .cons (k.1 _ _ _ h) (bZ.rel k.2 t)
  | [], _ :: _, _, h, _ => h.elim
  | _ :: _, [], _, h, _ => h.elim
theorem bZ.EZ {R : af} {w : World} : ∀ {l r : List AV} {b o : Nat}, bZ l r → du R w b o l → du R w b o r
  | [], [], _, _, _, _ => .nil
  | _ :: _, _ :: _, _, _, k, .cons hc h1 hi h t => .cons hc h1 hi (k.1 _ _ _ h) (bZ.EZ k.2 t)
  | [], _ :: _, _, _, h, _ => h.elim
  | _ :: _, [], _, _, h, _ => h.elim
theorem bZ.append : ∀ {a b c d : List AV}, bZ a b → bZ c d → bZ (a ++ c) (b ++ d)
  | [], [], _, _, _, h => h
  | _ :: _, _ :: _, _, _, k, h => ⟨k.1, bZ.append k.2 h⟩
  | [], _ :: _, _, _, h, _ => h.elim
  | _ :: _, [], _, _, h, _ => h.elim
structure eZ (v u : AV) : Prop where
  eX : wZ v u
  bC : u.aH = v.aH
  cells : v.aH = true → bZ v.cells u.cells
  closed : v.closed = true → u.closed = true
theorem om {u v a : AV} (h : (aB.two u v).fits a = true) : (aB.two u v).enc ((aB.two u v).bf a) = a := by
  change (df a u || df a v) = true at h
  change (bif df a v then v else u) = a
  cases hs : df a v with
  | true => exact (fP hs).symm
  | false =>
    rw [hs, Bool.or_false] at h
    exact (fP h).symm
theorem eZ.refl (v : AV) : eZ v v := ⟨wZ.refl v, rfl, fun _ => bZ.refl _, fun h => h⟩
theorem AH {a b : IntKind} (h : N8 a b = true) : a = b := of_decide_eq_true h
theorem oo {α : Type} {f : AV → Bool} {d : AV → α} {g : α → AV} (Cp : ∀ v, f v = true → eZ v (g (d v))) {R : af} {w : World} :
    ∀ {es : List AV} {b o sz : Nat}, allFit f es = true → eF R w b o sz es → eF R w b o sz ((es.map d).map g)
  | [], b, o, sz, _, _ => .nil
  | e :: es, b, o, sz, h, hr => by
    simp only [allFit, Bool.and_eq_true] at h
    cases hr with
    | cons hl ht hk hc t =>
      have d' := Cp e h.1
      have wc := d'.cells ht
      exact .cons (by rw [← wc.length, hl]) (by rw [d'.bC, ht]) (d'.closed hk) (wc.EZ hc) (oo Cp h.2 t)
theorem Dv {R : af} {w : World} {b o sz aQ : Nat} {es : List AV} (h : es = [] ∨ sz = aQ) (hr : eF R w b o aQ es) : eF R w b o sz es := by
  rcases h with rfl | rfl
  · exact .nil
  · exact hr
theorem Dw {α : Type} {f : AV → Bool} {d : AV → α} {g : α → AV} (Cp : ∀ v, f v = true → eZ v (g (d v))) {k : LK} {sz aQ : Nat} {es : List AV} (hs : es = [] ∨ sz = aQ) (h : allFit f es = true) :
    wZ (.list k aQ es) (.list .fY sz ((es.map d).map g)) := fun R w c hr => by
  cases hr with
  | gi => exact .fO
  | fO => exact .fO
  | jK => exact .jK
  | iH _ _ => exact .fO
  | jm _ _ => exact .fO
  | list hr hlen hc hk => exact .list (oo Cp h (Dv hs hr)) (by simp [hlen]) hc trivial
theorem E0 {α : Type} {f : AV → Bool} {d : AV → α} {g : α → AV} (Cp : ∀ v, f v = true → eZ v (g (d v))) {id sz : Nat} {es : List AV} (h : allFit f es = true) :
    wZ (.list (.own id) sz es) (.list (.own id) sz ((es.map d).map g)) := fun R w c hr => by
  cases hr with
  | iH h1 h2 => exact .iH h1 h2
  | list hr hlen hc hk => exact .list (oo Cp h hr) (by simp [hlen]) hc hk
theorem E1 {α : Type} {f : AV → Bool} {d : AV → α} {g : α → AV} (Cp : ∀ v, f v = true → eZ v (g (d v))) {id j sz : Nat} {es : List AV} (h : allFit f es = true) :
    wZ (.list (.aG id j) sz es) (.list (.aG id j) sz ((es.map d).map g)) := fun R w c hr => by
  cases hr with
  | jm h1 h2 => exact .jm h1 h2
  | list hr hlen hc hk => exact .list (oo Cp h hr) (by simp [hlen]) hc hk
mutual
theorem aB.b9 : ∀ (p : aB) {v : AV}, p.fits v = true → eZ v (p.enc (p.bf v))
  | .int k, v, h => by
    cases v with
    | int k' n =>
      have hk : N8 k k' = true := h
      rw [AH hk]
      exact eZ.refl _
    | _ => cases h
  | .bool, v, h => by
    cases v with
    | bool b => exact eZ.refl _
    | _ => cases h
  | .str, v, h => by
    cases v with
    | str b => exact eZ.refl _
    | _ => cases h
  | .agg ps, v, h => by
    cases v with
    | agg cs =>
      obtain ⟨h1, h2⟩ := ps.b9 (show ps.fits cs = true from h)
      exact ⟨fun R w c hr => by cases hr with | agg hr jn => exact .agg (h1.rel hr) jn, rfl, fun _ => h1, fun hc => by
        have kX : aN cs = true := by simpa [AV.closed] using hc
        show AV.closed (.agg (ps.enc (ps.bf cs))) = true
        simp only [AV.closed]; exact h2 kX⟩
    | _ => cases h
  | .bC ps, v, h => by
    cases v with
    | bC cs =>
      obtain ⟨h1, h2⟩ := ps.b9 (show ps.fits cs = true from h)
      exact ⟨fun R w c hr => by cases hr with | bC hr => exact .bC (h1.rel hr), rfl, fun hn => by simp [AV.aH] at hn, fun hc => by
        have kX : aN cs = true := by simpa [AV.closed] using hc
        show AV.closed (.bC (ps.enc (ps.bf cs))) = true
        simp only [AV.closed]; exact h2 kX⟩
    | _ => cases h
  | .list sz p, v, h => by
    cases v with
    | list k aQ es =>
      have hb : ((Nat.beq sz aQ || es.isEmpty) && allFit p.fits es) = true := h
      simp only [Bool.and_eq_true, Bool.or_eq_true, Nat.beq_eq, List.isEmpty_iff] at hb
      have hw := Dw (k := k) (fun v => p.b9) hb.1.symm hb.2
      exact ⟨hw, rfl, fun _ => ⟨hw, trivial⟩, fun _ => rfl⟩
    | _ => cases h
  | .own id sz p, v, h => by
    cases v with
    | list k aQ es =>
      cases k with
      | own fJ =>
        have hb : ((Nat.beq id fJ && Nat.beq sz aQ) && allFit p.fits es) = true := h
        simp only [Bool.and_eq_true, Nat.beq_eq] at hb
        obtain ⟨⟨rfl, rfl⟩, hf⟩ := hb
        have hw := E0 (id := id) (sz := sz) (fun v => p.b9) hf
        exact ⟨hw, rfl, fun _ => ⟨hw, trivial⟩, fun hc => by simp [AV.closed, LK.closed] at hc⟩
      | _ => cases h
    | _ => cases h
  | .aG id sz p, v, h => by
    cases v with
    | list k aQ es =>
      cases k with
      | aG fJ j =>
        have hb : ((Nat.beq id fJ && Nat.beq sz aQ) && allFit p.fits es) = true := h
        simp only [Bool.and_eq_true, Nat.beq_eq] at hb
        obtain ⟨⟨rfl, rfl⟩, hf⟩ := hb
        have hw := E1 (id := id) (j := j) (sz := sz) (fun v => p.b9) hf
        exact ⟨hw, rfl, fun _ => ⟨hw, trivial⟩, fun hc => by simp [AV.closed, LK.closed] at hc⟩
      | _ => cases h
    | _ => cases h
  | .eT id sz, v, h => by
    cases v with
    | eT fJ j aQ len =>
      have hb : (Nat.beq id fJ && Nat.beq sz aQ) = true := h
      simp only [Bool.and_eq_true, Nat.beq_eq] at hb
      obtain ⟨rfl, rfl⟩ := hb
      exact eZ.refl _
    | _ => cases h
  | .qB u, v, h => by
    have := fP (show df v u = true from h)
    subst this
    exact eZ.refl _
  | .two u v, a, h => by
    have hv : (aB.two u v).enc ((aB.two u v).bf a) = a := om h
    rw [hv]
    exact eZ.refl _
theorem aF.b9 : ∀ (ps : aF) {l : List AV}, ps.fits l = true → bZ l (ps.enc (ps.bf l)) ∧ (aN l = true → aN (ps.enc (ps.bf l)) = true)
  | .nil, l, h => by
    cases l with
    | nil => exact ⟨trivial, fun h => h⟩
    | cons _ _ => cases h
  | .cons p .nil, l, h => by
    match l, h with
    | [], h => cases h
    | a :: l, h =>
      have h' : (p.fits a && l.isEmpty) = true := h
      simp only [Bool.and_eq_true, List.isEmpty_iff] at h'
      obtain ⟨h1, rfl⟩ := h'
      have d := p.b9 h1
      exact ⟨⟨d.eX, trivial⟩, fun hc => by
        simp only [aN, Bool.and_true] at hc
        show aN [p.enc (p.bf a)] = true
        simp only [aN, Bool.and_true]
        exact d.closed hc⟩
  | .cons p (.cons q ps), l, h => by
    cases l with
    | nil => cases h
    | cons a l =>
      have h' : (p.fits a && (aF.cons q ps).fits l) = true := h
      rw [Bool.and_eq_true] at h'
      have d := p.b9 h'.1
      obtain ⟨k1, k2⟩ := (aF.cons q ps).b9 h'.2
      exact ⟨⟨d.eX, k1⟩, fun hc => by
        simp only [aN, Bool.and_eq_true] at hc
        show aN (p.enc (p.bf a) :: (aF.cons q ps).enc ((aF.cons q ps).bf l)) = true
        simp only [aN, Bool.and_eq_true]
        exact ⟨d.closed hc.1, k2 hc.2⟩⟩
end
theorem aB.ny (p : aB) {v : AV} {x : p.T} (h : p.dec v = some x) : eZ v (p.enc x) := by
  unfold aB.dec at h
  cases hf : p.fits v with
  | true => rw [hf] at h; cases h; exact p.b9 hf
  | false => rw [hf] at h; cases h
theorem aF.ny (ps : aF) {l : List AV} {x : ps.T} (h : ps.dec l = some x) : bZ l (ps.enc x) ∧ (aN l = true → aN (ps.enc x) = true) := by
  unfold aF.dec at h
  cases hf : ps.fits l with
  | true => rw [hf] at h; cases h; exact ps.b9 hf
  | false => rw [hf] at h; cases h
mutual
def aB.plain : aB → Bool
  | .agg ps => ps.plain
  | .bC ps => ps.plain
  | .list _ p => p.plain
  | .own _ _ p => p.plain
  | .aG _ _ p => p.plain
  | .qB v => df v v
  | .two u v => df u u && df v v && !df u v
  | _ => true
def aF.plain : aF → Bool
  | .nil => true
  | .cons p ps => p.plain && ps.plain
end
theorem kA {α : Type} {f : AV → Bool} {g : α → AV} (h : ∀ x, f (g x) = true) : ∀ xs : List α, allFit f (xs.map g) = true
  | [] => rfl
  | x :: xs => by simp only [List.map_cons, allFit, h x, kA h xs, Bool.and_self]
theorem r7 {α : Type} {d : AV → α} {g : α → AV} (h : ∀ x, d (g x) = x) : ∀ xs : List α, (xs.map g).map d = xs
  | [] => rfl
  | x :: xs => by simp only [List.map_cons, h x, r7 h xs]
mutual
theorem aB.bW : ∀ (p : aB) (x : p.T), p.plain = true → p.fits (p.enc x) = true ∧ p.bf (p.enc x) = x
  | .int k, x, _ => ⟨decide_eq_true rfl, rfl⟩
  | .bool, x, _ => ⟨rfl, rfl⟩
  | .str, x, _ => ⟨rfl, rfl⟩
  | .agg ps, x, h => ps.bW x h
  | .bC ps, x, h => ps.bW x h
  | .list sz p, x, h => by
    refine ⟨?_, r7 (fun y => (p.bW y h).2) x⟩
    change ((Nat.beq sz sz || (List.map p.enc x).isEmpty) && allFit p.fits (List.map p.enc x)) = true
    rw [Nat.beq_refl, Bool.true_or, Bool.true_and]
    exact kA (fun y => (p.bW y h).1) x
  | .own id sz p, x, h => by
    refine ⟨?_, r7 (fun y => (p.bW y h).2) x⟩
    change ((Nat.beq id id && Nat.beq sz sz) && allFit p.fits (List.map p.enc x)) = true
    rw [Nat.beq_refl, Nat.beq_refl, Bool.true_and, Bool.true_and]
    exact kA (fun y => (p.bW y h).1) x
  | .aG id sz p, (x : Nat × List p.T), h => by
    refine ⟨?_, ?_⟩
    · change ((Nat.beq id id && Nat.beq sz sz) && allFit p.fits (List.map p.enc x.2)) = true
      rw [Nat.beq_refl, Nat.beq_refl, Bool.true_and, Bool.true_and]
      exact kA (fun y => (p.bW y h).1) x.2
    · change (x.1, (List.map p.enc x.2).map p.bf) = x
      rw [r7 (fun y => (p.bW y h).2) x.2]
  | .eT id sz, (x : Nat × Nat), _ => ⟨by change (Nat.beq id id && Nat.beq sz sz) = true; rw [Nat.beq_refl, Nat.beq_refl]; rfl, rfl⟩
  | .qB v, x, h => ⟨h, rfl⟩
  | .two u v, (x : Bool), h => by
    change (df u u && df v v && !df u v) = true at h
    simp only [Bool.and_eq_true, Bool.not_eq_true'] at h
    obtain ⟨⟨h1, h2⟩, h3⟩ := h
    cases x
    · exact ⟨by change (df u u || df u v) = true; rw [h1]; rfl, h3⟩
    · exact ⟨by change (df v u || df v v) = true; rw [h2, Bool.or_true], h2⟩
theorem aF.bW : ∀ (ps : aF) (x : ps.T), ps.plain = true → ps.fits (ps.enc x) = true ∧ ps.bf (ps.enc x) = x
  | .nil, x, _ => ⟨rfl, rfl⟩
  | .cons p .nil, x, h => by
    have h' : (p.plain && true) = true := h
    rw [Bool.and_true] at h'
    have := p.bW x h'
    exact ⟨by change (p.fits (p.enc x) && true) = true; rw [this.1]; rfl, this.2⟩
  | .cons p (.cons q ps), x, h => by
    have h' : (p.plain && (aF.cons q ps).plain) = true := h
    rw [Bool.and_eq_true] at h'
    have h1 := p.bW x.1 h'.1
    have h2 := (aF.cons q ps).bW x.2 h'.2
    refine ⟨?_, ?_⟩
    · change (p.fits (p.enc x.1) && (aF.cons q ps).fits ((aF.cons q ps).enc x.2)) = true
      rw [h1.1, h2.1]
      rfl
    · change (p.bf (p.enc x.1), (aF.cons q ps).bf ((aF.cons q ps).enc x.2)) = x
      rw [h1.2, h2.2]
      rfl
end
end Go.Am
namespace Go.Am
open Go
theorem bE (E : Env) {t : TypeId} {i : TI} (h : E.ti t = some i) :
    ∃ eh u, E.P.info? t = some eh ∧ E.P.underlying t = some u ∧ eh.size = i.size ∧ gS u = i.agg ∧ mP E.P u = some i.k ∧ dW eh = i.zero := by
  have h1 := E.Dl t i h
  unfold Dk at h1
  split at h1
  · rename_i eh u h2 h3
    split at h1
    · rename_i k hk
      cases h1
      exact ⟨eh, u, h2, h3, rfl, rfl, hk, rfl⟩
    · cases h1
  · cases h1
section runs
variable {P : Program} (w : World)
theorem vR {t : TypeId} {u : TypeDesc} (h : P.underlying t = some u) : (isAgg t).run P w = .ok (gS u) w := by
  unfold isAgg
  simp only [Sem.run_bind, run_underlying h, Result.andThen_ok]
  cases u <;> rfl
theorem run_sizeOf {t : TypeId} {i : TypeInfo} (h : P.info? t = some i) : (sizeOf t).run P w = .ok i.size w := by
  simp [sizeOf, typeInfo, h]
theorem fa {t : TypeId} {i : TypeInfo} {z : Value} (h : P.info? t = some i) (hz : i.zero = some z) : (zeroValue t).run P w = .ok z w := by
  simp [zeroValue, typeInfo, h, hz]
theorem sF (t : TypeId) (v : Value) : (newVar t v).run P w = .ok ⟨w.heap.size, 0, none⟩ (w.alloc (.cells v.cells t)) := by
  simp only [newVar, newRow, Sem.run_bind, run_newObj, Result.andThen_ok, Sem.run_pure]
  rfl
end runs
theorem sG {R : af} {w : World} {ag : Bool} {l : List AV} {v : AV} {vs : List Value} (hm : n5 ag l = some v) (h : ay R w l vs) (h1 : ∀ x ∈ vs, x.oneCell' = true) :
    (ag = true → Rel R w v (.agg ⟨vs⟩)) ∧ (ag = false → ∃ c, vs = [c] ∧ Rel R w v c) := by
  unfold n5 at hm
  cases ag with
  | true =>
    simp at hm
    subst hm
    exact ⟨fun _ => .agg h h1, fun e => by cases e⟩
  | false =>
    refine ⟨(fun e => by cases e), fun _ => ?_⟩
    simp only [Bool.false_eq_true, if_false] at hm
    split at hm
    · cases hm
      cases h with
      | cons h t =>
        cases t
        exact ⟨_, rfl, h⟩
    · cases hm
theorem jv {E : Env} {R : af} {w : World} {t : TypeId} {i : TI} (hi : E.ti t = some i) {b off : Nat} {l : List AV} {vs : List Value} {v : AV}
    (hl : l.length = i.size) (hr : ay R w l vs) (h1 : ∀ x ∈ vs, x.oneCell' = true) (hc : ∀ j x, vs[j]? = some x → w.cell? ⟨b, off + j, none⟩ = some x) (hm : n5 i.agg l = some v) :
    ∃ c, (loadVar t ⟨b, off, none⟩).run E.P w = .ok c w ∧ Rel R w v c := by
  obtain ⟨eh, u, e1, e2, e3, e4, _⟩ := bE E hi
  obtain ⟨m1, m2⟩ := sG hm hr h1
  unfold loadVar
  simp only [Sem.run_bind, vR w e2, Result.andThen_ok, e4]
  cases ha : i.agg with
  | true =>
    refine ⟨.agg ⟨vs⟩, ?_, m1 ha⟩
    have hlen : eh.size = vs.length := by rw [e3, ← hl, hr.length]
    have := run_loadCells_list (P := E.P) w ⟨b, off, none⟩ vs (fun j x hx => by rw [bJ]; exact hc j x hx)
    simp [run_sizeOf w e1, hlen, this]
  | false =>
    obtain ⟨c, rfl, cZ⟩ := m2 ha
    refine ⟨c, ?_, cZ⟩
    have := hc 0 c (by simp)
    simp only [Nat.add_zero] at this
    simp [run_load, this]
theorem gF {w : World} {b : Nat} {vs : List Value} {el : TypeId} {fr : Nat × Nat} (h : w.heap[b]? = some (.cells ⟨vs⟩ el fr)) (j : Nat) : w.cell? ⟨b, j, none⟩ = vs[j]? := by
  simp [World.cell?, h]
theorem qH {E : Env} {R : af} {w : World} {β : Nat → Nat} {s : St} {a : Act} (h : aJ E R w β s a) {p : SV} {c : Value} (hp : lj R w β p c) {cs : List AV} {off : Nat} (hc : ks s p = some (cs, off)) :
    ∃ b o vs, c = .pointer (some ⟨b, o + off, none⟩) ∧ ay R w cs vs ∧ (∀ x ∈ vs, x.oneCell' = true) ∧ ∀ j x, vs[j]? = some x → w.cell? ⟨b, o + j, none⟩ = some x := by
  unfold ks at hc
  split at hc
  · rename_i k dT
    split at hc
    · rename_i di hk
      cases hc
      obtain ⟨⟨vs, el, h1, h2, h3⟩, _⟩ := h.b.box k cs hk
      exact ⟨β k, 0, vs, by rw [hp]; simp, h2, h3, fun j x hx => by rw [gF h1]; simpa using hx⟩
    · cases hc
  · rename_i id dT
    split at hc
    · rename_i di hk
      cases hc
      cases hp with
      | @ptr _ _ b hb =>
        obtain ⟨vs, h1, h2, h3, _⟩ := h.g.obj id _ _ hk hb
        exact ⟨b, 0, vs, by simp, h2, h3, fun j x hx => by rw [gF h1]; simpa using hx⟩
    · cases hc
  · rename_i di
    cases hc
    cases hp with
    | ep hr =>
      obtain ⟨vs, h1, h2, h3, _⟩ := hr.get
      exact ⟨_, _, vs, rfl, h1, h2, h3⟩
  · cases hc
theorem kB {R : af} {w : World} {off n : Nat} {cs l : List AV} {vs : List Value} (hs : Aw off n cs = some l) (h : ay R w cs vs) (h1 : ∀ x ∈ vs, x.oneCell' = true) :
    l.length = n ∧ ay R w l ((vs.drop off).take n) ∧ (∀ x ∈ (vs.drop off).take n, x.oneCell' = true) ∧ ∀ j x, ((vs.drop off).take n)[j]? = some x → vs[off + j]? = some x := by
  obtain ⟨e1, e2⟩ := KJ hs
  subst e1
  refine ⟨e2, (h.drop off).take n, fun x hx => h1 x (List.mem_of_mem_drop (List.mem_of_mem_take hx)), fun j x hx => ?_⟩
  rw [List.getElem?_take] at hx
  split at hx
  · rwa [List.getElem?_drop] at hx
  · cases hx
def bj (E : Env) (R : af) (w : World) (β : Nat → Nat) (s : St) (a : Act) (o : Oper) (s' : St) : Prop :=
  ∃ nx x w' R' β', (execOp a.eval o).run E.P w = .ok nx w' ∧ (nx = .value x ∨ (nx = .skip ∧ x = undef)) ∧ aJ E R' w' β' s' (a.put o.dst x) ∧ Step R w β s.boxes R' w' β' s'.boxes
section ops
variable {E : Env} {R : af} {w : World} {β : Nat → Nat} {s : St} {a : Act} {o : Oper}
@[simp] theorem aL (s : St) (d : Option Tmp) (x : SV) : (s.put d x).boxes = s.boxes := by
  cases d with
  | none => rfl
  | some d => simp only [St.put]; split <;> rfl
theorem an (h : aJ E R w β s a) {c : Value} {sv : SV} (hx : (execOp a.eval o).run E.P w = .ok (.value c) w) (hr : lj R w β sv c) : bj E R w β s a o (s.put o.dst sv) :=
  ⟨.value c, c, w, R, β, hx, .inl rfl, h.put o.dst hr, by rw [aL]; exact Step.refl R w β s.boxes⟩
theorem AI {t : Bool} {x y : AV} {c d : Value} (hx : Rel R w x c) (hy : Rel R w y d) : Rel R w (wU t x y) (if t = true then c else d) := by
  unfold wU
  split
  · cases hx; cases hy; cases t <;> exact .bool _
  · cases hx; cases hy
    split
    · rename_i e; subst e; cases t <;> exact .int _ _
    · cases t <;> exact .int _ _
  · cases t
    · exact hy
    · exact hx
theorem iy (h : aJ E R w β s a) (x : Operand) (ho : o.op = .move x ∨ o.op = .assign x) {y : SV} (hy : ba E s.ae x = y) : bj E R w β s a o (s.put o.dst y) := by
  subst hy
  refine an h (c := a.eval x) ?_ (aE h x)
  rcases ho with ho | ho <;> simp [execOp, ho]
theorem Dx (h : aJ E R w β s a) (c x y : Operand) (ho : o.op = .pick c x y) {t : Bool} {p q : AV} (h1 : ba E s.ae c = .v (.bool t)) (h2 : ba E s.ae x = .v p) (h3 : ba E s.ae y = .v q) :
    bj E R w β s a o (s.put o.dst (.v (wU t p q))) := by
  have r1 := aE h c
  have r2 := aE h x
  have r3 := aE h y
  rw [h1] at r1; rw [h2] at r2; rw [h3] at r3
  refine an h (c := if t = true then a.eval x else a.eval y) ?_ (AI r2 r3)
  have TP : Rel R w (.bool t) (a.eval c) := r1
  generalize OI : a.eval c = cc at TP
  cases TP
  simp [execOp, ho, asBool, OI]
theorem Dy (h : aJ E R w β s a) (t : TypeId) (x : Operand) (ho : o.op = .load t x) {v : AV} (hl : n6 E s t (ba E s.ae x) = some v) :
    bj E R w β s a o (s.put o.dst (.v v)) := by
  unfold n6 at hl
  split at hl
  · rename_i i cs off hi hc
    split at hl
    · rename_i l hs
      obtain ⟨b, o', vs, e, h1, h2, h3⟩ := qH h (aE h x) hc
      obtain ⟨k1, k2, k3, k4⟩ := kB hs h1 h2
      obtain ⟨c, hc, cZ⟩ := jv (E := E) hi (b := b) (off := o' + off) k1 k2 k3 (fun j y hy => by rw [Nat.add_assoc]; exact h3 _ _ (k4 j y hy)) hl
      refine an h (c := c) ?_ cZ
      simp [execOp, ho, Instr.loadAt, e, Instr.sureAddr, hc]
    · cases hl
  · cases hl
theorem ft {b : Nat} (hI : ∀ o, ¬ R.I b o) (cs : Array Value) : Ext R w R (w.setRow b cs) :=
  ⟨fun _ _ h => h, fun b' o h => bl (setRow_other w b b' cs (fun e => hI o (e ▸ h))) o, fun _ ro h => ⟨ro, h, bF.refl ro⟩, fun b' r hb => ⟨r, by
    by_cases e : b' = b
    · subst e
      have bR : b' < w.heap.size := a7 hb
      have hv : w.heap[b'] = .loop r := (Array.getElem?_eq_some_iff.1 hb).2
      unfold World.setRow
      rw [Array.getElem?_eq_getElem (by simpa using bR), Array.getElem_modify]
      simp [hv]
    · exact (setRow_other w b b' cs e).trans hb, rfl, rfl, rfl, rfl, rfl⟩⟩
theorem ay.bu {cs ys : List AV} {vs us : List Value} {off : Nat} (h : ay R w cs vs) (k : ay R w ys us) (hl : off + ys.length ≤ cs.length) :
    ay R w (bu cs off ys) (vs.take off ++ us ++ vs.drop (off + us.length)) := by
  rw [cT cs off ys hl, ← k.length]
  exact ((h.take off).append k).append (h.drop _)
theorem gj {vs us : List Value} {off n : Nat} (h : ∀ x ∈ vs, x.oneCell' = true) (k : ∀ x ∈ us, x.oneCell' = true) : ∀ x ∈ vs.take off ++ us ++ vs.drop n, x.oneCell' = true := by
  intro x hx
  simp only [List.mem_append] at hx
  rcases hx with (hx | hx) | hx
  · exact h x (List.mem_of_mem_take hx)
  · exact k x hx
  · exact h x (List.mem_of_mem_drop hx)
theorem eJ {t : TypeId} {i : TI} (hi : E.ti t = some i) {b off : Nat} {vs : List Value} {el : TypeId} {c : Value} (hb : w.heap[b]? = some (.cells ⟨vs⟩ el (0, 0)))
    (hs : c.cells.toList.length = i.size) (hl : off + c.cells.toList.length ≤ vs.length) (h1 : ∀ v ∈ c.cells.toList, v.oneCell' = true) :
    (storeVar t ⟨b, off, none⟩ c).run E.P w = .ok () (w.setRow b ⟨vs.take off ++ c.cells.toList ++ vs.drop (off + c.cells.toList.length)⟩) := by
  obtain ⟨eh, u, e1, e2, e3, _⟩ := bE E hi
  have fb := run_storeCells_at (P := E.P) b off el c.cells.toList 0 ⟨vs⟩ w hb (by simpa using hl) h1
  have bS : c.cells.size = eh.size := by rw [e3, ← hs]; simp
  simp only [Nat.add_zero] at fb
  unfold storeVar
  simp only [Sem.run_bind, run_sizeOf w e1, Result.andThen_ok, Sem.run_ite, bS, ne_eq, not_true_eq_false, if_false]
  simpa using fb
theorem aJ.AJ (h : aJ E R w β s a) {id b k : Nat} {cs : List AV} (hb : nth R.obj id = some (.bh b)) (hk : cF s.boxes k = some cs) : β k ≠ b := by
  intro e
  exact (h.b.box k cs hk).2.2 ⟨id, _, hb, by rw [e]; rfl⟩
theorem AK (h : aJ E R w β s a) (t : TypeId) (p x : Operand) (ho : o.op = .store t p x) (hd : o.dst = none) {s' : St} (hs : eU E s t (ba E s.ae p) (ba E s.ae x) = some s') :
    bj E R w β s a o s' := by
  unfold eU at hs
  have rp := aE h p
  have rx := aE h x
  split at hs
  · rename_i i v hi hx
    rw [hx] at rx
    split at hs
    · rename_i dl
      simp only [Bool.and_eq_true] at dl
      obtain ⟨Dz, hlen⟩ := dl
      have hlen := Nat.eq_of_beq_eq_true hlen
      obtain ⟨c1, c2⟩ := Rel.cells rx Dz
      have nW : v.cells.length = (a.eval x).cells.toList.length := c1.length
      split at hs
      · -- a local box
        rename_i k off DA
        rw [DA] at rp
        split at hs
        · rename_i cs hk
          split at hs
          · rename_i hle
            cases hs
            have hle := Nat.le_of_ble_eq_true hle
            obtain ⟨⟨vs, el, b1, b2, b3⟩, b4, b5⟩ := h.b.box k cs hk
            have aU := eJ (E := E) (w := w) hi (off := off) (c := a.eval x) b1 (by rw [← nW]; exact hlen) (by rw [← nW, ← b2.length]; exact hle) c2
            have hex := ft (R := R) (w := w) b4 ⟨vs.take off ++ (a.eval x).cells.toList ++ vs.drop (off + (a.eval x).cells.toList.length)⟩
            refine ⟨.skip, undef, w.setRow (β k) ⟨vs.take off ++ (a.eval x).cells.toList ++ vs.drop (off + (a.eval x).cells.toList.length)⟩, R, β, ?_, .inr ⟨rfl, rfl⟩, ?_, ?_⟩
            · simp [execOp, ho, Instr.storeAt, show a.eval p = .pointer (some ⟨β k, off, none⟩) from rp, Instr.sureAddr, aU]
            · rw [hd]
              refine ⟨?_, ?_, h.t.mono hex, h.n, h.d⟩
              · exact h.g.bL hex rfl (fun b hb => setRow_other w _ b _ (fun e => b5 (e ▸ hb))) (fun _ _ _ hi => hi) (fun b o hi => by have := h.g.wf b o hi; simp; omega)
              · refine ⟨fun k' di eD => ?_, fun k1 k2 x1 x2 g1 g2 => ?_⟩
                · rcases dz eD with ⟨rfl, e⟩ | ⟨bS, OJ⟩
                  · cases e
                    exact ⟨⟨_, el, setRow_heap w _ _ _ el (0, 0) b1, (b2.bu c1 hle).mono hex, gj b3 c2⟩, b4, b5⟩
                  · obtain ⟨⟨vs', QJ, d1, d2, d3⟩, d4, d5⟩ := h.b.box k' di OJ
                    refine ⟨⟨vs', QJ, ?_, d2.mono hex, d3⟩, d4, d5⟩
                    rw [setRow_other]
                    · exact d1
                    · exact fun e => bS (h.b.inj k' k di cs OJ hk e).symm
                · have q1 : ∃ y, cF s.boxes k1 = some y := by
                    rcases dz g1 with ⟨rfl, _⟩ | ⟨_, g⟩
                    · exact ⟨_, hk⟩
                    · exact ⟨_, g⟩
                  have q2 : ∃ y, cF s.boxes k2 = some y := by
                    rcases dz g2 with ⟨rfl, _⟩ | ⟨_, g⟩
                    · exact ⟨_, hk⟩
                    · exact ⟨_, g⟩
                  obtain ⟨y1, q1⟩ := q1
                  obtain ⟨y2, q2⟩ := q2
                  exact h.b.inj k1 k2 y1 y2 q1 q2
            · have sH : Own R β s.boxes (β k) := .inr ⟨k, cs, hk, rfl⟩
              refine ⟨hex, rfl, rfl, rfl, by simp, fun b _ hn => setRow_other w _ b _ (fun e => hn (e ▸ sH)), fun b _ hb => ?_, fun b o hi _ _ => hi⟩
              rcases hb with hb | ⟨k', di, eD, e⟩
              · exact .inl hb
              · rcases dz eD with ⟨rfl, _⟩ | ⟨_, g⟩
                · exact .inr ⟨k, cs, hk, e⟩
                · exact .inr ⟨k', di, g, e⟩
          · cases hs
        · cases hs
      · -- an object
        rename_i id off DA
        rw [DA] at rp
        split at hs
        · rename_i cs hk
          split at hs
          · rename_i hle
            cases hs
            have hle := Nat.le_of_ble_eq_true hle
            have JZ : Rel R w (.ptr id off) (a.eval p) := rp
            generalize HY : a.eval p = pv at JZ
            cases JZ with
            | @ptr _ _ b hb =>
            obtain ⟨vs, b1, b2, b3, b4⟩ := h.g.obj id _ _ hk hb
            have aU := eJ (E := E) (w := w) hi (off := off) (c := a.eval x) b1 (by rw [← nW]; exact hlen) (by rw [← nW, ← b2.length]; exact hle) c2
            have hex := ft (R := R) (w := w) b4 ⟨vs.take off ++ (a.eval x).cells.toList ++ vs.drop (off + (a.eval x).cells.toList.length)⟩
            refine ⟨.skip, undef, w.setRow b ⟨vs.take off ++ (a.eval x).cells.toList ++ vs.drop (off + (a.eval x).cells.toList.length)⟩, R, β, ?_, .inr ⟨rfl, rfl⟩, ?_, ?_⟩
            · simp [execOp, ho, Instr.storeAt, HY, Instr.sureAddr, aU]
            · rw [hd]
              refine ⟨⟨?_, fun fJ go ro hg hr => ?_, h.g.inj, fun b' o' nw => by have := h.g.wf b' o' nw; simp; omega, fun g di hg => (h.g.cw g di hg).mono hex, by first | exact h.g.lo | exact Nat.le_succ_of_le h.g.lo⟩, ?_, h.t.mono hex, h.n, h.d⟩
              · simp [St.aX, h.g.len]
              · rcases bH hg with ⟨rfl, rfl, _⟩ | ⟨bS, vS⟩
                · rw [hb] at hr
                  cases hr
                  exact ⟨_, setRow_heap w _ _ _ _ (0, 0) b1, (b2.bu c1 hle).mono hex, gj b3 c2, b4⟩
                · refine (h.g.obj fJ go ro vS hr).mono hex (fun b' gE => setRow_other w _ b' _ (fun e => bS ?_)) (fun _ _ _ hi => hi)
                  subst e
                  exact h.g.inj id fJ _ _ b' hb hr rfl gE
              · exact h.b.bL hex (fun k di eD => setRow_other w _ _ _ (h.AJ hb eD)) (fun _ _ _ _ hi => hi) (fun _ _ _ hl => hl)
            · have sH : Own R β s.boxes b := .inl ⟨id, _, hb, rfl⟩
              exact ⟨hex, rfl, rfl, rfl, by simp, fun b' _ hn => setRow_other w _ b' _ (fun e => hn (e ▸ sH)), fun _ _ hb => hb, fun b o hi _ _ => hi⟩
          · cases hs
        · cases hs
      · cases hs
    · cases hs
  · cases hs
end ops
end Go.Am
namespace Go.Am
open Go
section ops
variable {E : Env} {R : af} {w : World} {β : Nat → Nat} {s : St} {a : Act} {o : Oper}
def af.add (R : af) (ro : RO) : af := ⟨R.I, R.obj ++ [ro]⟩
theorem eK (wf : ∀ b o, R.I b o → b < w.heap.size) (x : Obj) (ro : RO) : Ext R w (R.add ro) (w.alloc x) :=
  ⟨fun _ _ h => h, fun b o h => bl (heap_alloc_old w x b (wf b o h)) o, fun _ r h => ⟨r, bc h, bF.refl r⟩, .old fun b hb => heap_alloc_old w x b hb⟩
theorem gG {ro : RO} {b : Nat} (h : Live (R.add ro) b) : Live R b ∨ ro.has b := by
  obtain ⟨id, r, h1, h2⟩ := h
  rcases ah h1 with h1 | ⟨_, rfl⟩
  · exact .inl ⟨id, r, h1, h2⟩
  · exact .inr h2
theorem aJ.iJ (h : aJ E R w β s a) (x : Obj) (go : GO) (ro : RO) (aO : ∀ b, ro.has b → b = w.heap.size) (eI : eH (R.add ro) (w.alloc x) go ro) : aJ E (R.add ro) (w.alloc x) β (s.cI go) a where
  g := by
    have e := eK (R := R) (w := w) h.g.wf x ro
    refine ⟨by simp [St.cI, af.add, h.g.len], fun id g r h1 h2 => ?_, fun i j ri rj b h1 h2 b1 b2 => ?_, fun b o hi => ?_, fun g cs hg => (h.g.cw g cs hg).mono e, by first | exact h.g.lo | exact Nat.le_succ_of_le h.g.lo⟩
    · rcases ah h2 with h2 | ⟨h3, rfl⟩
      · have bR := aM h2
        rw [h.g.len] at bR
        rcases ah h1 with h1 | ⟨h4, _⟩
        · exact (h.g.obj id g r h1 h2).mono e (fun b hb => heap_alloc_old w x b (h.g.bq ⟨id, r, h2, hb⟩)) (fun _ _ _ hi => hi)
        · omega
      · rcases ah h1 with h1 | ⟨h4, rfl⟩
        · have := aM h1
          rw [h3, h.g.len] at this
          omega
        · exact eI
    · rcases ah h1 with g1 | ⟨h3, e1⟩
      · rcases ah h2 with g2 | ⟨h4, e2⟩
        · exact h.g.inj i j ri rj b g1 g2 b1 b2
        · have := h.g.bq ⟨i, ri, g1, b1⟩
          rw [e2] at b2
          have := aO b b2
          omega
      · rcases ah h2 with g2 | ⟨h4, e2⟩
        · have := h.g.bq ⟨j, rj, g2, b2⟩
          rw [e1] at b1
          have := aO b b1
          omega
        · omega
    · have := h.g.wf b o hi
      simp
      omega
  b := h.b.bL (eK h.g.wf x ro) (fun k cs hk => heap_alloc_old w x _ (h.cA (.inr ⟨k, cs, hk, rfl⟩))) (fun _ _ _ _ hi => hi) (fun k cs hk hl => by
    rcases gG hl with hl | hl
    · exact hl
    · have := h.cA (.inr ⟨k, cs, hk, rfl⟩)
      have hl := aO _ hl
      omega)
  t := h.t.mono (eK h.g.wf x ro)
  n := h.n
  d := h.d.mono (eK h.g.wf x ro)
theorem cp (h : aJ E R w β s a) (x : Obj) (ro : RO) (aO : ∀ b, ro.has b → b = w.heap.size) : Step R w β s.boxes (R.add ro) (w.alloc x) β s.boxes :=
  ⟨eK h.g.wf x ro, rfl, rfl, rfl, by simp, fun b hb _ => heap_alloc_old w x b hb, fun b hb ho => by
    rcases ho with ho | ho
    · rcases gG ho with ho | ho
      · exact .inl ho
      · have ho := aO _ ho
        omega
    · exact .inr ho, fun _ _ hi _ _ => hi⟩
theorem eL (h : aJ E R w β s a) (ro : RO) : nth (R.add ro).obj s.G.length = some ro := by
  rw [← h.g.len]
  exact cY _ _
theorem yN {f : FuncId} (h : aJ E R w β s a) {v : AV} {c : Value} {t : TypeId} (hv : Rel R w v c) (hn : v.aH = true)
    (hx : (execOp a.eval o).run E.P w = .ok (.value (.pointer (some ⟨w.heap.size, 0, none⟩))) (w.alloc (.cells c.cells t))) {s' : St} (ha : dH E f s o.dst t v.cells = some (true, s')) :
    bj E R w β s a o s' := by
  obtain ⟨c1, c2⟩ := Rel.cells hv hn
  unfold dH at ha
  split at ha
  · cases ha
  · rename_i d hd
    split at ha
    · -- an object
      cases ha
      have eI : eH (R.add (.bh w.heap.size)) (w.alloc (.cells c.cells t)) (.row v.cells t) (.bh w.heap.size) :=
        ⟨c.cells.toList, heap_alloc_new w _, c1.mono (eK h.g.wf _ _), c2, fun o' hi => by have := h.g.wf _ _ hi; omega⟩
      have bg := h.iJ (.cells c.cells t) (.row v.cells t) (.bh w.heap.size) (by exact fun _ h => h) eI
      refine ⟨_, .pointer (some ⟨w.heap.size, 0, none⟩), _, R.add (.bh w.heap.size), β, hx, .inl rfl, ?_, ?_⟩
      · rw [hd]
        exact bg.put (some d) (x := .v (.ptr s.G.length 0)) (Rel.ptr (eL h _))
      · rw [aL]
        exact cp h _ _ (by exact fun _ h => h)
    · split at ha
      · rename_i QK
        injection ha with ha
        injection ha with _ EE
        subst EE
        have e := vQ (R := R) (w := w) h.g.wf (.cells c.cells t)
        let β' : Nat → Nat := fun k => if k = d then w.heap.size else β k
        have Cq : β' d = w.heap.size := by simp [β']
        have bS : ∀ k, k ≠ d → β' k = β k := fun k hk => by simp [β', hk]
        have Vr : d < a.tmps.size := by rw [h.n]; exact Nat.le_of_ble_eq_true QK
        have AL : ((s.kill d).qC d v.cells).put (some d) (.lp d 0) = ⟨.put d (.lp d 0) :: .kill d :: s.ae, (d, v.cells) :: s.boxes, s.G, s.marks, s.ro, s.n⟩ := by
          simp only [St.put, St.qC, St.kill, QK]
        refine ⟨_, .pointer (some ⟨w.heap.size, 0, none⟩), _, R, β', hx, .inl rfl, ?_, ?_⟩
        · rw [hd, AL]
          refine ⟨?_, ⟨fun k cs hk => ?_, fun k k' cs di hk eD he => ?_⟩, ?_, by simp [Act.put, h.n], h.d⟩
          · exact h.g.bL e rfl (fun b hb => heap_alloc_old w _ b (h.g.bq hb)) (fun _ _ _ hi => hi) (fun b o hi => by have := h.g.wf b o hi; simp; omega)
          · rcases dz hk with ⟨rfl, he⟩ | ⟨HD, hk⟩
            · cases he
              rw [Cq]
              exact ⟨⟨c.cells.toList, t, heap_alloc_new w _, c1.mono e, c2⟩, fun o' hi => by have := h.g.wf _ _ hi; omega, fun hl => by have := h.g.bq hl; omega⟩
            · rw [bS k (Ne.symm HD)]
              obtain ⟨⟨vs, el, b1, b2, b3⟩, b4, b5⟩ := h.b.box k cs hk
              exact ⟨⟨vs, el, (heap_alloc_old w _ _ (a7 b1)).trans b1, b2.mono e, b3⟩, b4, b5⟩
          · rcases dz hk with ⟨rfl, _⟩ | ⟨HD, hk⟩
            · rcases dz eD with ⟨rfl, _⟩ | ⟨KK, eD⟩
              · rfl
              · rw [Cq, bS k' (Ne.symm KK)] at he
                have := h.cA (.inr ⟨k', di, eD, rfl⟩)
                omega
            · rcases dz eD with ⟨rfl, _⟩ | ⟨KK, eD⟩
              · rw [Cq, bS k (Ne.symm HD)] at he
                have := h.cA (.inr ⟨k, cs, hk, rfl⟩)
                omega
              · rw [bS k (Ne.symm HD), bS k' (Ne.symm KK)] at he
                exact h.b.inj k k' cs di hk eD he
          · intro i hi
            by_cases RE : d = i
            · subst RE
              rw [ar]
              refine ⟨.pointer (some ⟨w.heap.size, 0, none⟩), by simp [Act.put, Vr], ?_⟩
              show Value.pointer _ = _
              rw [Cq]
            · rw [aC RE] at hi ⊢
              rcases Co (l := s.ae) (d := d) (t := i) with ⟨h1, h2⟩ | h1
              · rw [h1] at hi ⊢
                obtain ⟨c', q1, q2⟩ := h.t i hi
                refine ⟨c', ?_, ?_⟩
                · simp only [Act.put]
                  rw [Array.getElem?_setIfInBounds_ne RE]
                  exact q1
                · cases qI : lk s.ae i with
                  | none => trivial
                  | v y => rw [qI] at q2; exact Rel.mono e q2
                  | lp k off =>
                    rw [qI] at q2
                    show c' = _
                    rw [bS k (h2 k off qI)]
                    exact q2
              · exact absurd h1 hi
        · rw [AL]
          refine ⟨e, rfl, rfl, rfl, by simp, fun b hb _ => heap_alloc_old w _ b hb, fun b hb ho => ?_, fun _ _ hi _ _ => hi⟩
          rcases ho with ho | ⟨k, cs, hk, he⟩
          · exact .inl ho
          · rcases dz hk with ⟨rfl, _⟩ | ⟨HD, hk⟩
            · rw [Cq] at he
              omega
            · rw [bS k (Ne.symm HD)] at he
              exact .inr ⟨k, cs, hk, he⟩
      · cases ha
theorem cj {i : TypeInfo} {z : AV} (h : dW i = some z) : ∃ c, i.zero = some c ∧ ∀ R w, Rel R w z c := by
  unfold dW at h
  split at h
  · rename_i c hc
    exact ⟨c, hc, fun R w => qG h⟩
  · cases h
theorem AM {f : FuncId} (h : aJ E R w β s a) (t : TypeId) (ho : o.op = .alloc t) {i : TI} {z : AV} (hi : E.ti t = some i) (hz : i.zero = some z) (hn : z.aH = true) {s' : St} (ha : dH E f s o.dst t z.cells = some (true, s')) :
    bj E R w β s a o s' := by
  obtain ⟨eh, u, e1, e2, e3, e4, e5, e6⟩ := bE E hi
  rw [hz] at e6
  obtain ⟨c, hc, hr⟩ := cj e6
  refine yN h (hr R w) hn (t := t) ?_ ha
  simp [execOp, ho, Instr.alloc, fa w e1 hc, sF]
theorem E2 {f : FuncId} (h : aJ E R w β s a) (t : TypeId) (x : Operand) (ho : o.op = .box t x) {v : AV} (hv : ba E s.ae x = .v v) (hn : v.aH = true) {s' : St} (ha : dH E f s o.dst t v.cells = some (true, s')) :
    bj E R w β s a o s' := by
  have hr := aE h x
  rw [hv] at hr
  refine yN h hr hn (t := t) ?_ ha
  simp [execOp, ho, Instr.box, sF]
end ops
end Go.Am
