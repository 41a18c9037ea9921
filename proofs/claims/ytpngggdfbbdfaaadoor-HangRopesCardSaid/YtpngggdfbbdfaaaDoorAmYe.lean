/- The abstract machine: calls that leave no trace; forms of states in the rules; nil lists become tokens. -/
import Derived.Test.YtpngggdfbbdfaaaDoorAmYd
set_option linter.all false
namespace Go.Am
open Go

section
variable {E : Env} {R R' : Realm} {w w' : World} {β β' : Nat → Nat} {s s' : St} {a a' : Act}

/-- A call of a function on values that mention no object leaves all objects as they are. -/
def PCalls (E : Env) (g : FuncId) (args : List AV) (Q : AV → Prop) : Prop := ∀ G, ACalls E g args G (fun r G' => G' = G ∧ Q r)

theorem PCalls.mono {g : FuncId} {args : List AV} {Q Q' : AV → Prop} (h : PCalls E g args Q) (hq : ∀ r, Q r → Q' r) : PCalls E g args Q' :=
  fun G => (h G).mono fun r _ hh => ⟨hh.1, hq r hh.2⟩

theorem PCalls.of {g : FuncId} {args : List AV} {p : Pat} {Q : p.T → Prop} (hc : underL 0 args = true) (hp : p.under 0 = true)
    (h : ACalls E g args [] (fun r _ => ∃ y, p.dec r = some y ∧ Q y)) : PCalls E g args (fun r => ∃ y, r = p.enc y ∧ Q y) := fun G => by
  refine ⟨h.1, fun R w cs hg hl => ?_⟩
  let R0 : Realm := ⟨R.I, []⟩
  have m0 : Mv R R0 0 := ⟨fun _ _ h => h, fun _ _ h => absurd h (Nat.not_lt_zero _)⟩
  have hg0 : RepG E R0 w [] := ⟨rfl, fun id go ro h1 _ => by simp [nth] at h1, fun i j ri rj b h1 => by simp [R0, nth] at h1, hg.wf, fun g cs hgl => (hg.glob g cs hgl).move m0 (closedL_under _ (E.globOk g cs hgl))⟩
  have hl0 : RelL R0 w args cs := hl.move m0 hc
  refine (h.2 R0 w cs hg0 hl0).mono fun e w' he => ?_
  cases e with
  | panicked c => exact he.elim
  | outgrown => exact he.elim
  | returned c =>
    obtain ⟨r, G', R1, ⟨y, hy, hQ⟩, hrel, hg1, st⟩ := he
    have hfree : ∀ b, ¬ Own R0 (fun _ => 0) noBox b := fun b ho => by
      obtain ⟨id, ro, h1, _⟩ := own_noBox ho
      simp [R0, nth] at h1
    let R2 : Realm := ⟨R1.I, R.obj⟩
    have e : Ext R w R2 w' := ⟨st.ext.I, st.ext.cell, fun id ro h => ⟨ro, h, RoLe.refl ro⟩, st.ext.lp⟩
    have keep : ∀ b, b < w.heap.size → w'.heap[b]? = w.heap[b]? := fun b hb => st.keep b hb (hfree b)
    have im : ∀ b o, b < w.heap.size → R1.I b o → R.I b o := fun b o hb hi => st.im b o hi hb (hfree b)
    have hd := p.dec_ok hy
    have m : Mv R1 R2 0 := ⟨fun _ _ h => h, fun _ _ h => absurd h (Nat.not_lt_zero _)⟩
    refine ⟨p.enc y, G, R2, ⟨rfl, y, rfl, hQ⟩, Rel.move m (p.enc_under y hp) (hd.weak _ _ _ hrel), ⟨hg.len, fun id go ro h1 h2 => ?_, hg.inj, hg1.wf, fun g cs hgl => (hg.glob g cs hgl).mono e⟩, ⟨e, st.os, st.tape, st.output, st.size, fun b hb _ => keep b hb, fun b _ ho => ?_, fun b o hi hb _ => im b o hb hi⟩⟩
    · refine (hg.obj id go ro h1 h2).mono e (fun b hb => keep b ?_) (fun b o hb hi => im b o ?_ hi)
      · exact (hg.obj id go ro h1 h2).lt hb
      · exact (hg.obj id go ro h1 h2).lt hb
    · exact ho

/-- Code that ends in a state of a form. -/
theorem AWp.tmpl {c : Code} {Q Q' : Exit → St → Prop} (h : AWp E c (fun e s' => Ext0 s s' ∧ Q' e s') s)
    (hq : ∀ e s', Q' e s' → ∃ (t : Tmpl) (v : t.ps.T), t.dec s s' = some v ∧ Q e (t.st s v)) : AWp E c Q s := fun R w β a F hr hf => by
  refine wpIn_mono (h R w β a F hr hf) ?_
  rintro e a' w' ⟨s', R', β', ⟨hx, hq'⟩, hr', hst, hro⟩
  obtain ⟨t, v, hd, hQ⟩ := hq e s' hq'
  obtain ⟨h1, h2⟩ := Tmpl.rep hx hr hr' hst hd
  exact ⟨_, _, β', hQ, h1, h2, rfl⟩

/-! ### Nil lists become tokens -/

def ghostR (R : Realm) : Realm := ⟨R.I, R.obj ++ [.nil0]⟩

theorem ext_ghost : Ext R w (ghostR R) w := ⟨fun _ _ h => h, fun _ _ _ => rfl, fun _ r h => ⟨r, nth_append_old h, RoLe.refl r⟩, KeepLp.refl w⟩

theorem live_ghost {b : Nat} (h : Live (ghostR R) b) : Live R b := by
  obtain ⟨id, r, h1, h2⟩ := h
  rcases nth_append_inv h1 with h1 | ⟨_, rfl⟩
  · exact ⟨id, r, h1, h2⟩
  · simp [RO.block] at h2

theorem RepG.ghost {G : List GO} (h : RepG E R w G) (sz : Nat) (e : TypeId) : RepG E (ghostR R) w (G ++ [.tok 0 sz e]) := by
  refine ⟨by simp [ghostR, h.len], fun id g r h1 h2 => ?_, fun i j ri rj b h1 h2 b1 b2 => ?_, h.wf, fun g cs hg => (h.glob g cs hg).mono ext_ghost⟩
  · rcases nth_append_inv h2 with h2 | ⟨h3, rfl⟩
    · rcases nth_append_inv h1 with h1 | ⟨h4, _⟩
      · exact (h.obj id g r h1 h2).mono ext_ghost (fun _ _ => rfl) (fun _ _ _ h => h)
      · have hlt := nth_lt h2
        rw [h.len] at hlt
        omega
    · rcases nth_append_inv h1 with h1 | ⟨h4, rfl⟩
      · have := nth_lt h1
        rw [h3, h.len] at this
        omega
      · exact rfl
  · rcases nth_append_inv h1 with g1 | ⟨_, e1⟩
    · rcases nth_append_inv h2 with g2 | ⟨_, e2⟩
      · exact h.inj i j ri rj b g1 g2 b1 b2
      · rw [e2] at b2; simp [RO.block] at b2
    · rw [e1] at b1; simp [RO.block] at b1

theorem Rep.ghost (h : Rep E R w β s a) (sz : Nat) (e : TypeId) : Rep E (ghostR R) w β (s.addG (.tok 0 sz e)) a ∧ Step R w β s.boxes (ghostR R) w β s.boxes := by
  refine ⟨⟨h.g.ghost sz e, h.b.keep ext_ghost (fun _ _ _ => rfl) (fun _ _ _ _ h => h) (fun _ _ _ hl => live_ghost hl), h.t.mono ext_ghost, h.n, h.d.mono (ext_ghost (w := w))⟩, ?_⟩
  refine ⟨ext_ghost, rfl, rfl, rfl, Nat.le_refl _, fun _ _ _ => rfl, fun b _ ho => ?_, fun _ _ h _ _ => h⟩
  rcases ho with ho | ho
  · exact .inl (live_ghost ho)
  · exact .inr ho

/-- Where a list lies: in a slot, a box, an object. -/
inductive Loc
  | slot (t : Tmp)
  | box (k i : Nat)
  | row (id i : Nat)

def nilAt (o : Option AV) : Bool := match o with
  | some (.list .nil _ []) => true
  | _ => false

/-- The nil list there becomes the empty list of a new token. -/
def ghostA (s : St) (l : Loc) (sz : Nat) (e : TypeId) : Option St :=
  let v : AV := .list (.own s.G.length) sz []
  match l with
  | .slot t => match lk s.slots t with
    | .v (.list .nil _ []) => some ⟨.put t (.v v) :: s.slots, s.boxes, s.G ++ [.tok 0 sz e], s.marks, s.ro, s.n⟩
    | _ => none
  | .box k i => match lkB s.boxes k with
    | some cs => match nth cs i with
      | some (.list .nil _ []) => some ⟨s.slots, (k, setN cs i v) :: s.boxes, s.G ++ [.tok 0 sz e], s.marks, s.ro, s.n⟩
      | _ => none
    | none => none
  | .row id i => match nth s.G id with
    | some (.row cs) => match nth cs i with
      | some (.list .nil _ []) => some ⟨s.slots, s.boxes, setN s.G id (.row (setN cs i v)) ++ [.tok 0 sz e], s.marks, s.ro, s.n⟩
      | _ => none
    | _ => none

def ghosts : List (Loc × Nat × TypeId) → St → Option St
  | [], s => some s
  | (l, sz, e) :: r, s => match ghostA s l sz e with
    | some s' => ghosts r s'
    | none => none

theorem RelL.setN {l : List AV} {cs : List Value} (h : RelL R w l cs) {i : Nat} {x y : AV} (hx : nth l i = some x) (hw : ∀ c, Rel R w x c → Rel R w y c) : RelL R w (Am.setN l i y) cs := by
  induction l generalizing cs i with
  | nil => simp [nth] at hx
  | cons a l ih =>
    cases h with
    | cons h t =>
      cases i with
      | zero => simp only [nth] at hx; cases hx; exact .cons (hw _ h) t
      | succ i => exact .cons h (ih t hx)

theorem ghostA_rep {l : Loc} {sz : Nat} {e : TypeId} (h : Rep E R w β s a) (hs : ghostA s l sz e = some s') : Rep E (ghostR R) w β s' a ∧ Step R w β s.boxes (ghostR R) w β s'.boxes ∧ s'.ro = s.ro ∧ Ext0 s s' := by
  obtain ⟨h1, h2⟩ := h.ghost sz e
  have hn : nth (ghostR R).obj s.G.length = some .nil0 := by
    rw [← h.g.len]; exact nth_append_new _ _
  have hw : ∀ (sz' : Nat) (c : Value), Rel (ghostR R) w (.list .nil sz' []) c → Rel (ghostR R) w (.list (.own s.G.length) sz []) c := fun sz' c hc => by
    cases hc with
    | lnil => exact .lown hn trivial
    | list _ _ _ hk => exact hk.elim
  unfold ghostA at hs
  cases l with
  | slot t =>
    simp only at hs
    split at hs
    · rename_i sz' ht
      cases hs
      refine ⟨⟨h1.g, h1.b, fun i hi => ?_, h1.n, h1.d⟩, h2, rfl, ⟨⟨[_], rfl⟩, ⟨[], rfl⟩, rfl⟩⟩
      by_cases e : t = i
      · subst e
        rw [lk_put_self]
        obtain ⟨c, k1, k2⟩ := h1.t t (by show lk s.slots t ≠ _; rw [ht]; simp)
        have k2' : RelS (ghostR R) w β (lk s.slots t) c := k2
        rw [ht] at k2'
        exact ⟨c, k1, hw _ _ k2'⟩
      · rw [lk_put_ne e] at hi ⊢
        exact h1.t i hi
    · cases hs
  | box k i =>
    simp only at hs
    split at hs
    · rename_i cs hk
      split at hs
      · rename_i sz' hi
        cases hs
        have hb : ∀ k' cs', lkB ((k, setN cs i (.list (.own s.G.length) sz [])) :: s.boxes) k' = some cs' → ∃ cs0, lkB s.boxes k' = some cs0 := fun k' cs' hk' => by
          rcases lkB_cons hk' with ⟨rfl, _⟩ | ⟨_, hk'⟩
          · exact ⟨cs, hk⟩
          · exact ⟨cs', hk'⟩
        refine ⟨⟨h1.g, ⟨fun k' cs' hk' => ?_, fun k1 k2 c1 c2 e1 e2 he => ?_⟩, h1.t, h1.n, h1.d⟩, ?_, rfl, ⟨⟨[], rfl⟩, ⟨[_], rfl⟩, rfl⟩⟩
        · rcases lkB_cons hk' with ⟨rfl, rfl⟩ | ⟨_, hk'⟩
          · obtain ⟨⟨vs, el, q1, q2, q3⟩, q4⟩ := h1.b.box k cs hk
            exact ⟨⟨vs, el, q1, q2.setN hi (hw _), q3⟩, q4⟩
          · exact h1.b.box k' cs' hk'
        · obtain ⟨d1, hd1⟩ := hb k1 c1 e1
          obtain ⟨d2, hd2⟩ := hb k2 c2 e2
          exact h.b.inj k1 k2 d1 d2 hd1 hd2 he
        · refine ⟨h2.ext, rfl, rfl, rfl, Nat.le_refl _, fun _ _ _ => rfl, fun b hb' ho => ?_, fun _ _ h _ _ => h⟩
          rcases ho with ho | ⟨k', cs', hk', rfl⟩
          · exact .inl (live_ghost ho)
          · obtain ⟨d1, hd1⟩ := hb k' cs' hk'
            exact .inr ⟨k', d1, hd1, rfl⟩
      · cases hs
    · cases hs
  | row id i =>
    simp only at hs
    split at hs
    · rename_i cs hid
      split at hs
      · rename_i sz' hi
        cases hs
        refine ⟨⟨⟨by have := h1.g.len; simpa [St.addG] using this, fun id' go ro q1 q2 => ?_, h1.g.inj, h1.g.wf, h1.g.glob⟩, h1.b, h1.t, h1.n, h1.d⟩, h2, rfl, ⟨⟨[], rfl⟩, ⟨[], rfl⟩, rfl⟩⟩
        rcases nth_append_inv q1 with q1 | ⟨q3, rfl⟩
        · rcases nth_setN q1 with ⟨rfl, rfl, _⟩ | ⟨hne, q1⟩
          · have hrep := h1.g.obj id (.row cs) ro (nth_append_old hid) q2
            cases ro with
            | blk b =>
              obtain ⟨vs, el, k1, k2, k3, k4⟩ := hrep
              exact ⟨vs, el, k1, k2.setN hi (hw _), k3, k4⟩
            | none => exact hrep.elim
            | nil0 => exact hrep.elim
            | tok _ _ _ => exact hrep.elim
          · exact h1.g.obj id' go ro (nth_append_old q1) q2
        · refine h1.g.obj id' _ ro ?_ q2
          rw [length_setN] at q3
          rw [q3]
          exact nth_append_new _ _
      · cases hs
    · cases hs

theorem ghosts_rep : ∀ {l : List (Loc × Nat × TypeId)} {R : Realm} {s s' : St}, Rep E R w β s a → ghosts l s = some s' → ∃ R', Rep E R' w β s' a ∧ Step R w β s.boxes R' w β s'.boxes ∧ s'.ro = s.ro ∧ Ext0 s s'
  | [], R, s, s', h, hs => by
    simp only [ghosts] at hs
    cases hs
    exact ⟨R, h, Step.refl _ _ _ _, rfl, Ext0.refl _⟩
  | (l, sz, e) :: r, R, s, s', h, hs => by
    unfold ghosts at hs
    split at hs
    · rename_i s1 h1
      obtain ⟨g1, g2, g3, g4⟩ := ghostA_rep h h1
      obtain ⟨R', k1, k2, k3, k4⟩ := ghosts_rep g1 hs
      exact ⟨R', k1, g2.trans k2, k3.trans g3, g4.trans k4⟩
    · cases hs

theorem AWp.ghosts {c : Code} {Q : Exit → St → Prop} {l : List (Loc × Nat × TypeId)} (hs : Am.ghosts l s = some s') (h : AWp E c Q s') : AWp E c Q s := fun R w β a F hr hf => by
  obtain ⟨R1, k1, k2, k3, _⟩ := ghosts_rep hr hs
  refine wpIn_mono (h R1 w β a F k1 (by rw [k3]; exact hf.mono k2.ext)) ?_
  rintro e a' w' ⟨s2, R2, β2, hq, hr2, st2, hro2⟩
  exact ⟨s2, R2, β2, hq, hr2, k2.trans st2, hro2.trans k3⟩

end
end Go.Am
