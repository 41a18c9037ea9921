/- The abstract machine: states that answer alike; operations that commute. -/
import Derived.Test.YtpngggdfbbdfaaaDoorAmS
set_option linter.all false
namespace Go.Am
open Go

/-- Two states that answer alike. -/
structure Eqv (s t : St) : Prop where
  l : lk s.slots = lk t.slots
  b : lkB s.boxes = lkB t.boxes
  G : s.G = t.G
  m : s.marks = t.marks
  ro : s.ro = t.ro
  n : s.n = t.n

theorem Eqv.refl (s : St) : Eqv s s := ⟨rfl, rfl, rfl, rfl, rfl, rfl⟩
theorem Eqv.symm {s t : St} (h : Eqv s t) : Eqv t s := ⟨h.l.symm, h.b.symm, h.G.symm, h.m.symm, h.ro.symm, h.n.symm⟩
theorem Eqv.trans {s t u : St} (h : Eqv s t) (k : Eqv t u) : Eqv s u := ⟨h.l.trans k.l, h.b.trans k.b, h.G.trans k.G, h.m.trans k.m, h.ro.trans k.ro, h.n.trans k.n⟩

/-- A lookup behind more entries hangs on the lookup at this place alone. -/
theorem lk_append {a b : Slots} {e : Nat} (h : lk a e = lk b e) : ∀ pre : Slots, lk (pre ++ a) e = lk (pre ++ b) e
  | [] => h
  | .put d x :: pre => by
    simp only [List.cons_append, lk]
    rw [lk_append h pre]
  | .kill d :: pre => by
    simp only [List.cons_append, lk]
    rw [lk_append h pre]

theorem lkB_append {a b : Boxes} {e : Nat} (h : lkB a e = lkB b e) : ∀ pre : Boxes, lkB (pre ++ a) e = lkB (pre ++ b) e
  | [] => h
  | (d, x) :: pre => by
    simp only [List.cons_append, lkB]
    rw [lkB_append h pre]

theorem Eqv.eff {s t : St} (h : Eqv s t) (pre : Slots) (preB : Boxes) (G : List GO) : Eqv (s.eff pre preB G) (t.eff pre preB G) :=
  ⟨funext fun e => lk_append (by rw [h.l]) pre, funext fun e => lkB_append (by rw [h.b]) preB, rfl, h.m, h.ro, h.n⟩

theorem evO_lk {E : Env} {a b : Slots} {x : Operand} (h : ∀ t, x = .tmp t → lk a t = lk b t) : evO E a x = evO E b x := by
  cases x with
  | tmp t => exact h t rfl
  | _ => rfl

theorem Eqv.evO {E : Env} {s t : St} (h : Eqv s t) (x : Operand) : evO E s.slots x = evO E t.slots x := evO_lk fun e _ => by rw [h.l]

section rep
variable {E : Env} {R : Realm} {w : World} {β : Nat → Nat} {s t : St} {a : Act}

theorem Rep.eqv (h : Rep E R w β s a) (e : Eqv s t) : Rep E R w β t a where
  g := by rw [← e.G]; exact h.g
  b := ⟨fun k cs hk => h.b.box k cs (by rw [e.b]; exact hk), fun k k' c c' h1 h2 => h.b.inj k k' c c' (by rw [e.b]; exact h1) (by rw [e.b]; exact h2)⟩
  t := fun i hi => by
    rw [← e.l] at hi ⊢
    exact h.t i hi
  n := by rw [← e.n]; exact h.n
  d := by rw [← e.m]; exact h.d

theorem own_eqv {bx bx' : Boxes} (h : lkB bx = lkB bx') {b : Nat} (k : Own R β bx b) : Own R β bx' b := by
  rcases k with k | ⟨j, cs, h1, h2⟩
  · exact .inl k
  · exact .inr ⟨j, cs, by rw [← h]; exact h1, h2⟩

theorem Step.eqv {R' : Realm} {w' : World} {β' : Nat → Nat} {bx bx' cx cx' : Boxes} (h : Step R w β bx R' w' β' bx') (h1 : lkB bx = lkB cx) (h2 : lkB bx' = lkB cx') : Step R w β cx R' w' β' cx' :=
  ⟨h.ext, h.os, h.tape, h.output, h.size, fun b hb hn => h.keep b hb (fun ho => hn (own_eqv h1 ho)), fun b hb ho => own_eqv h1 (h.own b hb (own_eqv h2.symm ho)), fun b o hi hb hn => h.im b o hi hb (fun ho => hn (own_eqv h1 ho))⟩
end rep

section ops
variable {E : Env} {s t : St} {f : FuncId} {o : Oper} {K K' : St → Prop}

/-- Postconditions that ask for lookups alone. -/
def Inv (K : St → Prop) : Prop := ∀ s t, Eqv s t → K s → K t

theorem isN_noAlloc {op : Op} (h : isN op = true) : isAlloc op = false := by
  cases op <;> simp_all [isN, isAlloc]

theorem awOp_same (hn : s.n = t.n) (hG : s.G = t.G) (hB : lkB s.boxes = lkB t.boxes) (hev : ∀ y ∈ o.op.operands, evO E s.slots y = evO E t.slots y) (h : awOp E f o K s)
    (hK : ∀ pre preB G, Pre (isAlloc o.op) o.dst pre → (isN o.op = true → preB = [] ∧ G = s.G) → K (s.eff pre preB G) → K' (t.eff pre preB G)) : awOp E f o K' t := by
  unfold awOp at h ⊢
  split at h
  · rename_i x args tys ho
    have h1 : evO E s.slots x = evO E t.slots x := hev x (by rw [ho]; simp [Op.operands, Call.operands])
    have h2 : evL E s.slots args.toList = evL E t.slots args.toList := evL_congr fun y hy => hev y (by rw [ho]; simp [Op.operands, Call.operands]; exact .inr (by simpa using hy))
    try simp only [ho]
    rw [← h1, ← h2, ← hG]
    split at h
    · refine ACalls.mono h fun r G' hk => ?_
      obtain ⟨pre, preB, G, p1, p2, p3, p4⟩ := SameEff.putG (s := s) (t := t) (al := isAlloc o.op) hn G' o.dst (.v r)
      rw [p3] at hk
      rw [p4]
      exact hK pre preB G p1 (fun e => by rw [ho] at e; simp [isN] at e) hk
    · refine ARound.mono h fun r G' hk => ?_
      obtain ⟨pre, preB, G, p1, p2, p3, p4⟩ := SameEff.putG (s := s) (t := t) (al := isAlloc o.op) hn G' o.dst (.v (.bool r))
      rw [p3] at hk
      rw [p4]
      exact hK pre preB G p1 (fun e => by rw [ho] at e; simp [isN] at e) hk
    · exact h.elim
  · exact h.elim
  · split at h
    · rename_i c s' hs
      obtain ⟨t', h1, pre, preB, G, p1, p2, p3, p4⟩ := stepOp_same hn hG hB hev hs
      rw [h1]
      obtain ⟨rfl, hk⟩ := h.out
      refine condP.mk rfl ?_
      rw [p3] at hk
      rw [p4]
      exact hK pre preB G p1 (fun e => ⟨(p2 (by simp [e])).1, (p2 (by simp [e])).2.1⟩) hk
    · exact h.elim

theorem awOp_mono (h : awOp E f o K s) (hK : ∀ s, K s → K' s) : awOp E f o K' s :=
  awOp_same rfl rfl rfl (fun _ _ => rfl) h fun _ _ _ _ _ hk => hK _ hk

theorem awOp_eqv (h : awOp E f o K s) (e : Eqv s t) (hK : Inv K) : awOp E f o K t :=
  awOp_same e.n e.G e.b (fun y _ => e.evO y) h fun _ _ _ _ _ hk => hK _ _ (e.eff _ _ _) hk

/-- A guard's answer. -/
def gst (ops : List Oper) (s : St) (o : Oper) : Option Bool := match o.guard with
  | none => some true
  | some (j, want) => match dstOf ops j with
    | some d => match lk s.slots d with
      | .v (.bool b) => some (b == want)
      | .v (.tup []) => some false
      | _ => none
    | none => none

theorem put_same (s : St) {d : Tmp} {x : SV} (h : lk s.slots d = x) : Eqv s (s.put (some d) x) := by
  simp only [St.put]
  split
  · refine ⟨funext fun e => ?_, rfl, rfl, rfl, rfl, rfl⟩
    by_cases k : d = e
    · subst k; rw [lk_put_self]; exact h
    · rw [lk_put_ne k]
  · exact Eqv.refl s

theorem Eqv.put {s t : St} (h : Eqv s t) (d : Option Tmp) (x : SV) : Eqv (s.put d x) (t.put d x) := by
  obtain ⟨pre, preB, G, _, _, p3, p4⟩ := SameEff.put (s := s) (t := t) (al := false) (w := false) h.n h.G d x
  rw [p3, p4]
  exact h.eff _ _ _

theorem awGuard_iff {ops : List Oper} (hK : Inv K) : awGuard E f ops o K s ↔ (gst ops s o = some true ∧ awOp E f o K s) ∨ (gst ops s o = some false ∧ K (s.put o.dst (.v undefA))) := by
  unfold awGuard gst
  cases hg : o.guard with
  | none => simp
  | some p =>
    obtain ⟨j, want⟩ := p
    simp only
    cases hd : dstOf ops j with
    | none => simp
    | some d =>
      simp only
      cases hl : lk s.slots d with
      | none => simp
      | lp _ _ => simp
      | v a =>
        cases a with
        | bool b =>
          have e1 : b = want → Eqv s (s.put (some d) (.v (.bool want))) := fun e => put_same s (by rw [hl, e])
          have e2 : b = (!want) → Eqv s (s.put (some d) (.v (.bool (!want)))) := fun e => put_same s (by rw [hl, e])
          constructor
          · intro ⟨h1, h2⟩
            by_cases e : b = want
            · exact .inl ⟨by simp [e], awOp_eqv (h1 e) (e1 e).symm hK⟩
            · have e' : b = (!want) := by cases b <;> cases want <;> simp_all
              exact .inr ⟨by simp [e], hK _ _ ((e2 e').symm.put _ _) (h2 e')⟩
          · rintro (⟨h1, h2⟩ | ⟨h1, h2⟩)
            · have e : b = want := by simpa using h1
              exact ⟨fun e => awOp_eqv h2 (e1 e) hK, fun e' => by subst e; cases b <;> cases e'⟩
            · have e : ¬ b = want := by simpa using h1
              exact ⟨fun k => absurd k e, fun e' => hK _ _ ((e2 e').put _ _) h2⟩
        | tup vs => cases vs <;> simp
        | _ => simp

theorem awGuard_mono {ops : List Oper} (h : awGuard E f ops o K s) (hK : ∀ s, K s → K' s) : awGuard E f ops o K' s := by
  unfold awGuard at h ⊢
  split at h
  · exact awOp_mono h hK
  · split at h
    · exact h.elim
    · split at h
      · exact ⟨fun e => awOp_mono (h.1 e) hK, fun e => hK _ (h.2 e)⟩
      · exact hK _ h
      · exact h.elim

theorem gst_eqv {ops : List Oper} (e : Eqv s t) : gst ops s o = gst ops t o := by
  unfold gst
  rw [e.l]

theorem awGuard_eqv {ops : List Oper} (hK : Inv K) : Inv (awGuard E f ops o K) := fun s t e h => by
  rw [awGuard_iff hK] at h ⊢
  rcases h with ⟨h1, h2⟩ | ⟨h1, h2⟩
  · exact .inl ⟨by rw [← gst_eqv e]; exact h1, awOp_eqv h2 e hK⟩
  · exact .inr ⟨by rw [← gst_eqv e]; exact h1, hK _ _ (e.put _ _) h2⟩

end ops
end Go.Am
