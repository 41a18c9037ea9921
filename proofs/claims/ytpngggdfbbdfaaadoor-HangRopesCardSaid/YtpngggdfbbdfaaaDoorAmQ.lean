/- The abstract machine: a function out of its body; code as a proposition that computes. -/
import Derived.Test.YtpngggdfbbdfaaaDoorAmP
set_option linter.all false
namespace Go.Am
open Go

def vsl : Nat → List AV → Slots
  | _, [] => []
  | n, a :: l => .put n (.v a) :: vsl (n + 1) l

def St.init (ntmps : Nat) (args : List AV) (G : List GO) : St :=
  ⟨vsl 0 args, [], G, [], none, max ntmps args.length⟩

/-- The deferred blocks of the ranges over functions are taken. -/
def leaveA : List Nat → List GO → Option (List GO)
  | [], G => some G
  | id :: l, G => match nth G id with
    | some (.defers true) => leaveA l (setN G id (.defers false))
    | _ => none

def resL (E : Env) (s : St) : List ResultVar → Option (List AV)
  | [] => some []
  | .tmp t :: l => match lk s.slots t, resL E s l with
    | .v a, some r => some (a :: r)
    | _, _ => none
  | .cell p t :: l => match loadA E s t (lk s.slots p), resL E s l with
    | some a, some r => some (a :: r)
    | _, _ => none

def resA (E : Env) (s : St) (fn : Func) : Option AV := match resL E s fn.results.toList with
  | some [a] => some a
  | some l => some (.tup l)
  | none => none

/-- What is asked where a function's body is left. -/
def bodyQ (E : Env) (fn : Func) (Q : AV → List GO → Prop) : Exit → St → Prop
  | .normal, s | .ret, s => match leaveA s.marks s.G with
    | some G => match resA E (s.inG G) fn with
      | some r => Q r G
      | none => False
    | none => False
  | _, _ => False

section fns
variable {E : Env} {R : Realm} {w : World} {β : Nat → Nat} {s : St} {a : Act}

def resSem (tmps : Array Value) : ResultVar → Sem Value
  | .tmp t => pure (tmps.getD t undef)
  | .cell p t => do loadVar t (← asAddr (tmps.getD p undef))

theorem results_eq (fn : Func) (tmps : Array Value) : results fn tmps = (do
    let vs ← fn.results.mapM (resSem tmps)
    pure (if h : vs.size = 1 then vs[0] else .tuple vs)) := by
  unfold results
  congr 1

theorem resL_run (h : Rep E R w β s a) : ∀ {l : List ResultVar} {r : List AV}, resL E s l = some r →
    ∃ vs, (l.mapM (resSem a.tmps)).run E.P w = .ok vs w ∧ RelL R w r vs
  | [], r, hl => by
    simp [resL] at hl
    subst hl
    exact ⟨[], by simp, .nil⟩
  | .tmp t :: l, r, hl => by
    unfold resL at hl
    split at hl
    · rename_i x r' h1 h2
      cases hl
      obtain ⟨vs, g1, g2⟩ := resL_run h h2
      obtain ⟨c, k1, k2⟩ := h.t t (by rw [h1]; simp)
      rw [h1] at k2
      have hg : a.tmps.getD t undef = c := by simp [Array.getD_eq_getD_getElem?, k1]
      refine ⟨c :: vs, ?_, .cons k2 g2⟩
      simp only [List.mapM_cons, Sem.run_bind, Sem.run_pure, Result.andThen_ok, resSem, hg, g1]
    · cases hl
  | .cell p t :: l, r, hl => by
    unfold resL at hl
    split at hl
    · rename_i v r' h1 h2
      · cases hl
        obtain ⟨vs, g1, g2⟩ := resL_run h h2
        obtain ⟨c, k1, k2⟩ := h.t p (fun e => by rw [e] at h1; unfold loadA at h1; split at h1 <;> simp_all [cellsAt])
        have hg : a.tmps.getD p undef = c := by simp [Array.getD_eq_getD_getElem?, k1]
        unfold loadA at h1
        split at h1
        · rename_i i cs off hi hc
          split at h1
          · rename_i l' hs
            obtain ⟨b, o', us, e, q1, q2, q3⟩ := cellsAt_rel h k2 hc
            obtain ⟨m1, m2, m3, m4⟩ := seg_rel hs q1 q2
            obtain ⟨c', hc', hrel⟩ := run_loadVar (E := E) hi (b := b) (off := o' + off) m1 m2 m3 (fun j y hy => by rw [Nat.add_assoc]; exact q3 _ _ (m4 j y hy)) h1
            refine ⟨c' :: vs, ?_, .cons hrel g2⟩
            have ha : (asAddr c).run E.P w = .ok ⟨b, o' + off, none⟩ w := by rw [e]; rfl
            have hone : (resSem a.tmps (.cell p t)).run E.P w = .ok c' w := by
              simp only [resSem, Sem.run_bind, hg, ha, Result.andThen_ok, hc']
            simp only [List.mapM_cons, Sem.run_bind, Sem.run_pure, Result.andThen_ok, hone, g1]
          · cases h1
        · cases h1
    · cases hl

theorem resA_run (h : Rep E R w β s a) {fn : Func} {r : AV} (hr : resA E s fn = some r) : ∃ c, (results fn a.tmps).run E.P w = .ok c w ∧ Rel R w r c := by
  unfold resA at hr
  split at hr
  · rename_i x hl
    cases hr
    obtain ⟨vs, g1, g2⟩ := resL_run h hl
    cases g2 with
    | @cons _ c _ _ g2 g3 =>
    cases g3
    refine ⟨c, ?_, g2⟩
    rw [results_eq, Array.mapM_eq_mapM_toList]
    simp only [Sem.run_bind, Sem.run_map]
    rw [g1]
    simp
  · rename_i l hne hl
    cases hr
    obtain ⟨vs, g1, g2⟩ := resL_run h hl
    refine ⟨.tuple ⟨vs⟩, ?_, .tup g2⟩
    have hlen : vs.length ≠ 1 := by
      rw [← g2.length]
      intro e
      match l, e with
      | [x], _ => exact hne x rfl
    rw [results_eq, Array.mapM_eq_mapM_toList]
    simp only [Sem.run_bind, Sem.run_map]
    rw [g1]
    simp [hlen]
  · cases hr

theorem Rep.withG (h : Rep E R w β s a) : Rep E R w β (s.inG s.G) a := h

/-- The marks are taken, one after the other. -/
theorem leave_run (fn : Func) (Q : Ending → World → Prop) : ∀ {marks : List Nat} {G G' : List GO} {R : Realm} {w : World} {β : Nat → Nat} {s : St} {a : Act}, Rep E R w β (s.inG G) a → RelD R marks a.defers → leaveA marks G = some G' →
    (∀ w' , Rep E R w' β (s.inG G') a → Step R w β s.boxes R w' β s.boxes → ∃ v, (results fn a.tmps).run E.P w' = .ok v w' ∧ Q (.returned v) w') → LeavesInM Fence.wide 0 E.P fn a.tmps Q a.defers .returning w := by
  intro marks
  have key : ∀ (marks : List Nat) (ds : List Deferred) (G G' : List GO) (R : Realm) (w : World) (β : Nat → Nat) (s : St) (a : Act), Rep E R w β (s.inG G) a → RelD R marks ds → leaveA marks G = some G' →
      (∀ w' , Rep E R w' β (s.inG G') a → Step R w β s.boxes R w' β s.boxes → ∃ v, (results fn a.tmps).run E.P w' = .ok v w' ∧ Q (.returned v) w') → LeavesInM Fence.wide 0 E.P fn a.tmps Q ds .returning w := by
    intro marks
    induction marks with
    | nil =>
      intro ds G G' R w β s a hr hd hl hq
      cases ds with
      | cons _ _ => exact hd.elim
      | nil =>
        simp [leaveA] at hl
        subst hl
        obtain ⟨v, h1, h2⟩ := hq w hr (Step.refl _ _ _ _)
        exact ⟨v, h1, h2⟩
    | cons id marks ih =>
      intro ds G G' R w β s a hr hd hl hq
      cases ds with
      | nil => exact hd.elim
      | cons d ds =>
        obtain ⟨⟨b, hb, rfl⟩, hd⟩ := hd
        unfold leaveA at hl
        split at hl
        · rename_i hg
          have hob : w.heap[b]? = some (.deferred (some [])) := hr.g.obj id _ _ hg hb
          have hlt := block_lt hob
          have htake : (Instr.takeDeferred b).run E.P w = .ok [] (World.put w b (.deferred none)) := by
            simp only [Instr.takeDeferred, getObj, setObj, Sem.run_bind, Sem.run, hob, Result.andThen_ok, Sem.run_pure]
            rfl
          obtain ⟨q1, q2⟩ := hr.setObj (s := s.inG G) (x' := .deferred none) (go' := .defers false) hb hob trivial trivial (fun _ e => by cases e) (put_self w b _ hlt)
          refine ⟨by simp, .inl ⟨b, _, rfl, htake, ?_⟩⟩
          refine ih ds (setN G id (.defers false)) G' R _ β s a q1 hd hl (fun w' hr' hst => ?_)
          exact hq w' hr' (q2.trans hst)
        · cases hl
  intro G G' R w β s a hr hd hl hq
  exact key marks a.defers G G' R w β s a hr hd hl hq

end fns
end Go.Am
