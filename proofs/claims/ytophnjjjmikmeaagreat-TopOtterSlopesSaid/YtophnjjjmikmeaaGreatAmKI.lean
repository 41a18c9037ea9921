/- The abstract machine: regions in the order of the text, calls, control. -/
import Derived.Test.YtophnjjjmikmeaaGreatAmKH
import Derived.RangeFuncCalls
import Derived.RangeFuncRecord
import Derived.RangeFuncIn
import Derived.OrdersIn
set_option linter.all false
namespace Go.Am
open Go
def bz (R : af) (ro : Option Nat) (F : Fence) : Prop := match ro with
  | none => F = Fence.wide
  | some id => ∃ b, nth R.obj id = some (.bh b) ∧ F = Fence.wide.inRound b
theorem bz.mono {R R' : af} {w w' : World} (e : Ext R w R' w') {ro : Option Nat} {F : Fence} (h : bz R ro F) : bz R' ro F := by
  cases ro with
  | none => exact h
  | some id => obtain ⟨b, h1, h2⟩ := h; exact ⟨b, e.bh h1, h2⟩
theorem bz.fn {R : af} {ro : Option Nat} {F : Fence} (h : bz R ro F) (f : FuncId) : F.fn f := by
  cases ro with
  | none => rw [show F = Fence.wide from h]; trivial
  | some id => obtain ⟨b, _, h2⟩ := h; rw [h2]; trivial
theorem bz.depth {R : af} {ro : Option Nat} {F : Fence} (h : bz R ro F) : F.depth = none := by
  cases ro with
  | none => rw [show F = Fence.wide from h]; rfl
  | some id => obtain ⟨b, _, h2⟩ := h; rw [h2]; rfl
theorem bz.calls {R : af} {ro : Option Nat} {F : Fence} (h : bz R ro F) {n : Nat} {P : Program} {f : FuncId} {args : Array Value} {w : World} {Q : Ending → World → Prop} (hc : CallsIn Fence.wide n P f args w Q) : CallsIn F n P f args w Q := by
  cases ro with
  | none => rw [show F = Fence.wide from h]; exact hc
  | some id => obtain ⟨b, _, h2⟩ := h; rw [h2]; exact hc
def Le (E : Env) (R : af) (w : World) (β : Nat → Nat) (s : St) (Q : Exit → St → Prop) : Exit → Act → World → Prop :=
  fun e a' w' => ∃ s' R' β', Q e s' ∧ aJ E R' w' β' s' a' ∧ Step R w β s.boxes R' w' β' s'.boxes ∧ s'.ro = s.ro
def dE (E : Env) (c : Code) (Q : Exit → St → Prop) (s : St) : Prop :=
  ∀ (R : af) (w : World) (β : Nat → Nat) (a : Act) (F : Fence), aJ E R w β s a → bz R s.ro F → c.wpIn F 0 E.P (Le E R w β s Q) a w
theorem dE.mono {E : Env} {c : Code} {Q Q' : Exit → St → Prop} {s : St} (h : dE E c Q s) (hq : ∀ e s, Q e s → Q' e s) : dE E c Q' s :=
  fun R w β a F hr hf => wpIn_mono (h R w β a F hr hf) fun e _ _ ⟨s', R', β', h1, h2⟩ => ⟨s', R', β', hq e s' h1, h2⟩
section rules
variable {E : Env} {Q : Exit → St → Prop} {s : St}
theorem dE.skip (h : Q .normal s) : dE E .skip Q s := fun _ _ _ _ _ hr _ => wpIn_skip ⟨s, _, _, h, hr, Step.refl _ _ _ _, rfl⟩
theorem dE.label {l : Nat} (h : Q .normal s) : dE E (.label l) Q s := fun _ _ _ _ _ hr _ => wpIn_label ⟨s, _, _, h, hr, Step.refl _ _ _ _, rfl⟩
theorem dE.exit {id : Nat} (h : Q (.exit id) s) : dE E (.exit id) Q s := fun _ _ _ _ _ hr _ => wpIn_exit ⟨s, _, _, h, hr, Step.refl _ _ _ _, rfl⟩
theorem dE.ret (h : Q .ret s) : dE E .ret Q s := fun _ _ _ _ _ hr _ => wpIn_ret ⟨s, _, _, h, hr, Step.refl _ _ _ _, rfl⟩
def qU (N : St → Prop) (Q : Exit → St → Prop) : Exit → St → Prop
  | .normal, s => N s
  | e, s => Q e s
theorem dE.seq {x y : Code} (h : dE E x (qU (dE E y Q) Q) s) : dE E (.seq x y) Q s := fun R w β a F hr hf => by
  refine wpIn_seq (wpIn_mono (h R w β a F hr hf) ?_)
  rintro e a' w' ⟨s', R', β', hq, gk, fb, aO⟩
  cases e with
  | normal =>
    refine wpIn_mono (hq R' w' β' a' F gk (by rw [aO]; exact hf.mono fb.ext)) ?_
    rintro e Sf HV ⟨xp, EU, J8, FB, tx, na, qV⟩
    exact ⟨xp, EU, J8, FB, tx, fb.trans na, qV.trans aO⟩
  | _ => exact ⟨s', R', β', hq, gk, fb, aO⟩
theorem dE.cond {c : Operand} {x y : Code} {b : Bool} (hc : ba E s.ae c = .v (.bool b)) (h1 : b = true → dE E x Q s) (h2 : b = false → dE E y Q s) : dE E (.cond c x y) Q s := fun R w β a F hr hf => by
  have rc := aE hr c
  rw [hc] at rc
  have hb : a.eval c = .bool b := by
    have T6 : Rel R w (.bool b) (a.eval c) := rc
    generalize a.eval c = v at T6
    cases T6
    rfl
  exact wpIn_cond_split hb (fun e => h1 e R w β a F hr hf) (fun e => h2 e R w β a F hr hf)
def Lf (id : Nat) (Q : Exit → St → Prop) : Exit → St → Prop
  | .exit fJ, s => (fJ = id → Q .normal s) ∧ (fJ ≠ id → Q (.exit fJ) s)
  | e, s => Q e s
theorem dE.block {id : Nat} {c : Code} (h : dE E c (Lf id Q) s) : dE E (.block id c) Q s := fun R w β a F hr hf => by
  refine wpIn_block (wpIn_mono (h R w β a F hr hf) ?_)
  rintro e a' w' ⟨s', R', β', hq, rest⟩
  cases e with
  | exit fJ =>
    by_cases e : fJ = id
    · simp only [Exit.inBlock, e, if_true]
      exact ⟨s', R', β', hq.1 e, rest⟩
    · simp only [Exit.inBlock, e, if_false]
      exact ⟨s', R', β', hq.2 e, rest⟩
  | _ => exact ⟨s', R', β', hq, rest⟩
theorem gu {F : Fence} {n : Nat} {P : Program} {Q : Exit → Act → World → Prop} {c : Code} (I : Nat → Act → World → Prop)
    (round : ∀ m a w, I m a w → c.wpIn F n P (Exit.then (fun a' w' => ∃ m', m' < m ∧ I m' a' w') Q) a w) : ∀ {m : Nat} {a : Act} {w : World}, I m a w → (Code.loop c).wpIn F n P Q a w := by
  intro m a w h₀ b k cs aO hb hr
  have key : ∀ j a w, I j a w →
      ∃ e a' w', Q e a' w' ∧ ArrivesIn (Machine.fenced P F) P (lone (b.atR a (.code c :: .inLoop c :: k)) cs w) b k cs e a' w' := by
    intro j
    induction j using Nat.strongRecOn with
    | _ j ih =>
      intro a w hI
      obtain ⟨e, a₁, w₁, hq, nH⟩ := round j a w hI b (.inLoop c :: k) cs aO hb hr
      cases e with
      | normal =>
        obtain ⟨m', bR, VT⟩ := hq
        obtain ⟨e₂, a₂, w₂, VU, Pj⟩ := ih m' bR a₁ w₁ VT
        exact ⟨e₂, a₂, w₂, VU, .of_steps (StepsIn.trans nH (.one (fenced_calm hb hr rfl) stepR_inLoop)) Pj⟩
      | exit id => exact ⟨_, a₁, w₁, hq, .pass (x := .inLoop c) rfl (fun _ _ => .inl (by simp)) nH⟩
      | goto l => exact ⟨_, a₁, w₁, hq, .pass (x := .inLoop c) rfl (fun _ _ => .inl (by simp)) nH⟩
      | ret => exact ⟨_, a₁, w₁, hq, .pass (x := .inLoop c) rfl (fun _ _ => .inl (by simp)) nH⟩
      | panic ch => exact ⟨_, a₁, w₁, hq, .pass (x := .inLoop c) rfl (fun _ _ => .inl (by simp)) nH⟩
      | outgrown => exact ⟨_, a₁, w₁, hq, .pass (x := .inLoop c) rfl (fun _ _ => .inl (by simp)) nH⟩
  obtain ⟨e, a', w', hq, nH⟩ := key _ a w h₀
  exact ⟨e, a', w', hq, .of_steps (.one (fenced_calm hb hr rfl) stepR_loop) nH⟩
theorem dE.loop {c : Code} (I : Nat → St → Prop) (round : ∀ m s, I m s → dE E c (qU (fun s' => ∃ m', m' < m ∧ I m' s') Q) s) {m : Nat} (h : I m s) : dE E (.loop c) Q s := fun R w β a F hr hf => by
  refine gu (fun m a' w' => ∃ s' R' β', I m s' ∧ aJ E R' w' β' s' a' ∧ Step R w β s.boxes R' w' β' s'.boxes ∧ s'.ro = s.ro) ?_ ⟨s, R, β, h, hr, Step.refl _ _ _ _, rfl⟩
  rintro m a' w' ⟨s', R', β', hI, gk, fb, aO⟩
  refine wpIn_mono (round m s' hI R' w' β' a' F gk (by rw [aO]; exact hf.mono fb.ext)) ?_
  rintro e Sf HV ⟨xp, EU, J8, hq, tx, na, qV⟩
  cases e with
  | normal =>
    obtain ⟨m', bR, VV⟩ := hq
    exact ⟨m', bR, xp, EU, J8, VV, tx, fb.trans na, qV.trans aO⟩
  | _ => exact ⟨xp, EU, J8, hq, tx, fb.trans na, qV.trans aO⟩
end rules
def noGoto (Q : Exit → Act → World → Prop) : Exit → Act → World → Prop
  | .goto _, _, _ => False
  | e, a, w => Q e a w
section scopes
variable {P : Program} {b : Frame} {a : Act} {k : List Item} {cs : List Frame} {w : World} {Q : Exit → Act → World → Prop} {F : Fence} {n : Nat}
theorem fA {c : Code} : step P (lone (b.atR a (.code (.scope c) :: k)) cs w) = .next (lone (b.atR a (.code c :: .inScope c :: k)) cs w) :=
  step_lone_go (by simp [stepG, stepG.exec, Frame.atR])
theorem vt {c : Code} : step P (lone (b.atR a (.inScope c :: k)) cs w) = .next (lone (b.atR a k) cs w) :=
  step_lone_go (by simp [stepG, stepG.exec, Frame.atR])
theorem Bk {c : Code} (h : c.wpIn F n P (noGoto Q) a w) : (Code.scope c).wpIn F n P Q a w := by
  intro b k cs aO hb hr
  have h0 : (lone (b.atR a (.code (.scope c) :: k)) cs w).fenced P F := fenced_calm hb hr rfl
  obtain ⟨e, a₁, w₁, hq, nH⟩ := h b (.inScope c :: k) cs aO hb hr
  cases e with
  | normal => exact ⟨.normal, a₁, w₁, hq, .head h0 fA (StepsIn.trans nH (.one (fenced_calm hb hr rfl) vt))⟩
  | exit id =>
    have hx : exitTo id (.inScope c :: k) = exitTo id k := by simp [exitTo]
    exact ⟨.exit id, a₁, w₁, hq, fun k' hk => .head h0 fA (nH.1 k' (by rw [hx]; exact hk)),
        fun gk hk => let ⟨k₁, h1, h2⟩ := nH.2 gk (by rw [hx]; exact hk); ⟨k₁, h1, .head h0 fA h2⟩⟩
  | goto l => exact hq.elim
  | ret => exact ⟨_, a₁, w₁, hq, .of_steps (.one h0 fA) nH⟩
  | panic ch => exact ⟨_, a₁, w₁, hq, .of_steps (.one h0 fA) nH⟩
  | outgrown => exact ⟨_, a₁, w₁, hq, .of_steps (.one h0 fA) nH⟩
end scopes
def Lg (Q : Exit → St → Prop) : Exit → St → Prop
  | .goto _, _ => False
  | e, s => Q e s
theorem dE.scope {E : Env} {c : Code} {Q : Exit → St → Prop} {s : St} (h : dE E c (Lg Q) s) : dE E (.scope c) Q s := fun R w β a F hr hf => by
  refine Bk (wpIn_mono (h R w β a F hr hf) ?_)
  rintro e a' w' ⟨s', R', β', hq, rest⟩
  cases e with
  | goto l => exact hq.elim
  | _ => exact ⟨s', R', β', hq, rest⟩
def fR : bU := []
def CK (E : Env) (R : af) (w : World) (Q : AV → List GO → Prop) : Ending → World → Prop
  | .returned c, w' => ∃ r G' R', Q r G' ∧ Rel R' w' r c ∧ dv E R' w' G' ∧ Step R w (fun _ => 0) fR R' w' (fun _ => 0) fR
  | _, _ => False
def xB (E : Env) (R : af) (w : World) (Q : Bool → List GO → Prop) : Ending → World → Prop
  | .returned c, w' => ∃ r G' R', Q r G' ∧ c = .bool r ∧ dv E R' w' G' ∧ Step R w (fun _ => 0) fR R' w' (fun _ => 0) fR
  | _, _ => False
def iS (E : Env) (id : Nat) (args : List AV) (G : List GO) (Q : Bool → List GO → Prop) : Prop :=
  ∀ (R : af) (w : World) (cs : List Value) (b : Nat), dv E R w G → ay R w args cs → nth R.obj id = some (.bh b) →
    ∃ r : Loop, w.heap[b]? = some (.loop r) ∧ cs.length = r.params.size ∧
      RoundIn Fence.wide 0 E.P b r.fn ((r.params.zip ⟨cs⟩).foldl (fun tmps (t, a) => tmps.setIfInBounds t a) r.tmps) r.assign r.body w (xB E R w Q)
theorem iS.mono {E : Env} {id : Nat} {args : List AV} {G : List GO} {Q Q' : Bool → List GO → Prop} (h : iS E id args G Q) (hq : ∀ r G', Q r G' → Q' r G') : iS E id args G Q' :=
  fun R w cs b hg hl hb => by
    obtain ⟨r, h1, h2, h3⟩ := h R w cs b hg hl hb
    refine ⟨r, h1, h2, h3.mono fun e w' he => ?_⟩
    cases e with
    | returned c => obtain ⟨r, G', R', k1, k2⟩ := he; exact ⟨r, G', R', hq _ _ k1, k2⟩
    | _ => exact he
def Plain (P : Program) (g : FuncId) : Prop := ∃ fn, P.funcs[g]? = some fn ∧ fn.body.isNone = false ∧ (fn.name == "runtime.NumGoroutine") = false
def cq (E : Env) (g : FuncId) (args : List AV) (G : List GO) (Q : AV → List GO → Prop) : Prop :=
  Plain E.P g ∧ ∀ (R : af) (w : World) (cs : List Value), dv E R w G → ay R w args cs → CallsIn Fence.wide 0 E.P g ⟨cs⟩ w (CK E R w Q)
theorem cq.mono {E : Env} {g : FuncId} {args : List AV} {G : List GO} {Q Q' : AV → List GO → Prop} (h : cq E g args G Q) (hq : ∀ r G', Q r G' → Q' r G') : cq E g args G Q' :=
  ⟨h.1, fun R w cs hg hl => (h.2 R w cs hg hl).mono fun e _ he => by
    cases e with
    | returned c => obtain ⟨r, G', R', h1, h2⟩ := he; exact ⟨r, G', R', hq _ _ h1, h2⟩
    | _ => exact he⟩
theorem dQ {R : af} {β : Nat → Nat} {b : Nat} (h : Own R β fR b) : Live R b := by
  rcases h with h | ⟨k, cs, hk, _⟩
  · exact h
  · simp [fR, cF] at hk
section calls
variable {E : Env} {R R' : af} {w w' : World} {β : Nat → Nat} {s : St} {a : Act} {o : Oper}
theorem aJ.mC (h : aJ E R w β s a) {G' : List GO} (hg : dv E R' w' G') (st : Step R w (fun _ => 0) fR R' w' (fun _ => 0) fR) :
    aJ E R' w' β (s.aX G') a ∧ Step R w β s.boxes R' w' β s.boxes := by
  have sU : ∀ k cs, cF s.boxes k = some cs → β k < w.heap.size ∧ ¬ Live R (β k) := fun k cs hk => ⟨h.cA (.inr ⟨k, cs, hk, rfl⟩), (h.b.box k cs hk).2.2⟩
  have live : ∀ b, b < w.heap.size → Live R' b → Live R b := fun b hb hl => dQ (st.own b hb (.inl hl))
  refine ⟨⟨hg, h.b.bL st.ext (fun k cs hk => ?_) (fun k cs o hk hi => ?_) (fun k cs hk hl => live _ (sU k cs hk).1 hl), h.t.mono st.ext, h.n, h.d.mono st.ext⟩, ?_⟩
  · obtain ⟨h1, h2⟩ := sU k cs hk
    exact st.bL _ h1 (fun ho => h2 (dQ ho))
  · obtain ⟨h1, h2⟩ := sU k cs hk
    exact st.im _ o hi h1 (fun ho => h2 (dQ ho))
  · refine ⟨st.ext, st.os, st.tape, st.output, st.size, fun b hb hn => st.bL b hb (fun ho => hn (.inl (dQ ho))), fun b hb ho => ?_, fun b o hi hb hn => st.im b o hi hb (fun ho => hn (.inl (dQ ho)))⟩
    rcases ho with ho | ho
    · exact .inl (live b hb ho)
    · exact .inr ho
theorem kJ {P : Program} {g : FuncId} (h : Plain P g) (args : Array Value) (w : World) : (callFunc g args).run P w = .ok (.enter g args) w := by
  obtain ⟨fn, h1, h2, h3⟩ := h
  unfold callFunc
  simp only [Sem.run_bind, run_program, Result.andThen_ok, h1, h2, h3, Bool.false_eq_true, if_false, Sem.run_pure]
def lO (E : Env) (R : af) (w : World) (β : Nat → Nat) (s : St) (K : St → Prop) (a' : Act) (w' : World) : Prop :=
  ∃ s' R' β', K s' ∧ aJ E R' w' β' s' a' ∧ Step R w β s.boxes R' w' β' s'.boxes ∧ s'.ro = s.ro
@[simp] theorem fS (s : St) (d : Option Tmp) (x : SV) : (s.put d x).ro = s.ro := by
  cases d with
  | none => rfl
  | some d =>
    simp only [St.put]
    split <;> rfl
theorem FC {f : FuncId} {c : Bool} {s' : St} (h : eY E f s o = some (c, s')) : s'.ro = s.ro := by
  unfold eY at h
  repeat' (split at h)
  all_goals (first | (cases h; done) | skip)
  all_goals (injection h with h; injection h with _ h; subst h; simp [St.aX])
theorem DS {t : TypeId} {p x : SV} {c : Bool} {s' : St} (h : dy E s t p x = some (c, s')) : s'.ro = s.ro := by
  have store : ∀ {t : TypeId} {p x : SV} {s' : St}, eU E s t p x = some s' → s'.ro = s.ro := by
    intro t p x s' h
    unfold eU at h
    repeat' (split at h)
    all_goals (first | (cases h; done) | skip)
    all_goals (injection h with h; subst h; rfl)
  unfold dy at h
  repeat' (split at h)
  all_goals (first | (cases h; done) | skip)
  all_goals (injection h with h; injection h with _ h; subst h)
  all_goals (first | rfl | exact store (by assumption))
theorem DU {f : FuncId} {c : Bool} {s' : St} (h : ak E f s o = some (c, s')) : s'.ro = s.ro := by
  have alloc : ∀ {el : TypeId} {cs : List AV} {c : Bool} {s' : St}, dH E f s o.dst el cs = some (c, s') → s'.ro = s.ro := by
    intro el cs c s' h
    unfold dH at h
    repeat' (split at h)
    all_goals (first | (cases h; done) | skip)
    all_goals (injection h with h; injection h with _ h; subst h; simp [St.cI, St.qC, St.kill])
  have store : ∀ {t : TypeId} {p x : SV} {s' : St}, eU E s t p x = some s' → s'.ro = s.ro := by
    intro t p x s' h
    unfold eU at h
    repeat' (split at h)
    all_goals (first | (cases h; done) | skip)
    all_goals (injection h with h; subst h; rfl)
  have Lh : ∀ {t : TypeId} {p x : SV} {c : Bool} {s' : St}, dy E s t p x = some (c, s') → s'.ro = s.ro := by
    intro t p x c s' h
    unfold dy at h
    repeat' (split at h)
    all_goals (first | (cases h; done) | skip)
    all_goals (injection h with h; injection h with _ h; subst h)
    all_goals (first | rfl | exact store (by assumption))
  have Li : ∀ {t : TypeId} {p x : SV} {c : Bool} {s' : St}, gT E s t p x = some (c, s') → s'.ro = s.ro := by
    intro t p x c s' h
    unfold gT at h
    split at h
    · rename_i hs
      injection h with h; injection h with _ h
      subst h
      exact DS (s := s.aX (nq s p x).2.2) hs
    · cases h
  have blt : ∀ {b : Builtin} {l : List AV} {tys : List TypeId} {c : Bool} {s' : St}, bG E s o.dst b l tys = some (c, s') → s'.ro = s.ro := by
    intro b l tys c s' h
    unfold bG at h
    repeat' (split at h)
    all_goals (first | (cases h; done) | skip)
    all_goals (injection h with h; injection h with _ h; subst h; simp [St.aX])
  have update : ∀ {t : TypeId} {m k x : SV} {s' : St}, dI E s t m k x = some s' → s'.ro = s.ro := by
    intro t m k x s' h
    unfold dI at h
    repeat' (split at h)
    all_goals (first | (cases h; done) | skip)
    all_goals (injection h with h; subst h; rfl)
  have next : ∀ {x : SV} {s' : St}, ju s o.dst x = some s' → s'.ro = s.ro := by
    intro x s' h
    unfold ju at h
    split at h
    · split at h
      · rename_i l pos hg
        cases hb : Nat.blt pos l.length <;> rw [hb] at h <;> simp only [cond_true, cond_false] at h <;> cases h <;> simp [St.aX]
      · cases h
    · cases h
  have Bl : ∀ {t : TypeId} {m k : SV} {c : Bool} {v : AV} {s' : St}, eE E s t m k = some (c, v, s') → s'.ro = s.ro := by
    intro t m k c v s' h
    unfold eE at h
    repeat' (split at h)
    all_goals (first | (cases h; done) | skip)
    all_goals (injection h with h; injection h with _ h; injection h with _ h; subst h; rfl)
  have Bm : ∀ {m st x : SV} {c : Bool} {s' : St}, dj s m st x = some (c, s') → s'.ro = s.ro := by
    intro m st x c s' h
    unfold dj at h
    repeat' (split at h)
    all_goals (first | (cases h; done) | skip)
    all_goals (injection h with h; injection h with _ h; subst h; rfl)
  unfold ak kw at h
  repeat' (split at h)
  all_goals (first | (cases h; done) | exact alloc h | exact blt h | (rename_i hf; cases h; exact FC hf) | skip)
  all_goals (injection h with h; injection h with _ h; subst h)
  all_goals (first | (simp; done) | (simp [St.cI]; done) | (simp [St.aX]; done) | skip)
  all_goals (first | exact Li (by assumption) | exact update (by assumption) | exact (fS _ _ _).trans (Bl (by assumption)) | exact Bm (by assumption) | exact next (by assumption))
theorem zr {f : FuncId} {F : Fence} {s' : St} {K : St → Prop} {Qc : Exit → Act → World → Prop} (h : aJ E R w β s a) (hf : bz R s.ro F) (hs : ak E f s o = some (true, s')) (hK : K s')
    (nd : ∀ c, o.op ≠ .defer c) (N : Act → World → Prop) (hN : ∀ a' w', lO E R w β s K a' w' → N a' w') : o.wpIn F 0 E.P a w N Qc := by
  obtain ⟨nx, x, w', R', β', h1, h2, h3, h4⟩ := zn h hs
  refine ⟨fun f _ => hf.fn f, ?_⟩
  rw [Oper.semAt_eq _ _ _ nd, h1]
  have : N (a.put o.dst x) w' := hN _ _ ⟨s', R', β', hK, h3, h4, DU hs⟩
  rcases h2 with rfl | ⟨rfl, rfl⟩
  · exact this
  · exact this
theorem DV {F : Fence} {K : St → Prop} {Qc : Exit → Act → World → Prop} (h : aJ E R w β s a) (hf : bz R s.ro F) {fo : Operand} {args : Array Operand} {tys : Array TypeId} (ho : o.op = .call { callee := .value fo, args := args, argTypes := tys })
    {g : FuncId} {first cap l : List AV} (Sg : ba E s.ae fo = .v (.fn g first cap)) (hl : js E s.ae args.toList = some l)
    (hc : cq E g (first ++ l ++ cap) s.G (fun r G' => K ((s.aX G').put o.dst (.v r)))) (N : Act → World → Prop) (hN : ∀ a' w', lO E R w β s K a' w' → N a' w') : o.wpIn F 0 E.P a w N Qc := by
  refine ⟨fun f _ => hf.fn f, ?_⟩
  have rf := aE h fo
  rw [Sg] at rf
  have Pk : Rel R w (.fn g first cap) (a.eval fo) := rf
  have rl := dJ h hl
  generalize Lj : a.eval fo = fv at Pk
  cases Pk with
  | @fn _ _ _ vs us h1 h2 =>
  have aU : (o.semAt F.round a.eval).run E.P w = .ok (.enter g ⟨vs ++ args.toList.map a.eval ++ us⟩) w := by
    rw [Oper.semAt_eq _ _ _ (fun c e => by rw [ho] at e; cases e)]
    simp only [execOp, ho, resolve, Lj, Deferred.ofValue, Sem.run_bind, Sem.run_pure, Result.andThen_ok, invoke, iL]
    have := kJ hc.1 (⟨vs⟩ ++ ⟨args.toList.map a.eval⟩ ++ ⟨us⟩) w
    simpa using this
  rw [aU]
  refine ⟨fun e => by rw [hf.depth] at e; simp at e, hf.calls ?_⟩
  refine (hc.2 R w (vs ++ args.toList.map a.eval ++ us) h.g ((h1.append rl).append h2)).mono ?_
  intro e HV he
  cases e with
  | returned c =>
    obtain ⟨r, G', R', hK, hr, hg, st⟩ := he
    obtain ⟨q1, q2⟩ := h.mC hg st
    exact hN _ _ ⟨_, R', β, hK, q1.put o.dst (x := .v r) hr, by rw [aL]; exact q2, by rw [fS]; rfl⟩
  | panicked c => exact he.elim
  | outgrown => exact he.elim
theorem bz.rounds {R : af} {ro : Option Nat} {F : Fence} (h : bz R ro F) {n : Nat} {P : Program} {l : Nat} {f : FuncId} {tmps : Array Value} {nI bd : Code} {w : World} {Q : Ending → World → Prop}
    (hc : RoundIn Fence.wide n P l f tmps nI bd w Q) : RoundIn F n P l f tmps nI bd w Q := by
  cases ro with
  | none => rw [show F = Fence.wide from h]; exact hc
  | some id => obtain ⟨b, _, h2⟩ := h; rw [h2]; exact hc
theorem Bn {F : Fence} {K : St → Prop} {Qc : Exit → Act → World → Prop} (h : aJ E R w β s a) (hf : bz R s.ro F) {fo : Operand} {args : Array Operand} {tys : Array TypeId} (ho : o.op = .call { callee := .value fo, args := args, argTypes := tys })
    {id : Nat} {l : List AV} (Sg : ba E s.ae fo = .v (.yield id)) (hl : js E s.ae args.toList = some l)
    (hc : iS E id l s.G (fun b G' => K ((s.aX G').put o.dst (.v (.bool b))))) (N : Act → World → Prop) (hN : ∀ a' w', lO E R w β s K a' w' → N a' w') : o.wpIn F 0 E.P a w N Qc := by
  refine ⟨fun f _ => hf.fn f, ?_⟩
  have rf := aE h fo
  rw [Sg] at rf
  have Pk : Rel R w (.yield id) (a.eval fo) := rf
  have rl := dJ h hl
  generalize Lj : a.eval fo = fv at Pk
  cases Pk with
  | @yield _ b hb =>
  obtain ⟨r, Ar, te, Pl⟩ := hc R w (args.toList.map a.eval) b h.g rl hb
  have aU : (o.semAt F.round a.eval).run E.P w = .ok (.round b r.fn ((r.params.zip ⟨args.toList.map a.eval⟩).foldl (fun tmps (t, a) => tmps.setIfInBounds t a) r.tmps) r.assign r.body) w := by
    rw [Oper.semAt_eq _ _ _ (fun c e => by rw [ho] at e; cases e)]
    simp only [execOp, ho, resolve, Lj, Deferred.ofValue, Sem.run_bind, Sem.run_pure, Result.andThen_ok, invoke, iL]
    have := run_yield (P := E.P) Ar (args := ⟨args.toList.map a.eval⟩) te
    simpa using this
  rw [aU]
  refine ⟨fun e => by rw [hf.depth] at e; simp at e, hf.rounds (Pl.mono ?_)⟩
  intro e HV he
  cases e with
  | returned c =>
    obtain ⟨r, G', R', hK, rfl, hg, st⟩ := he
    obtain ⟨q1, q2⟩ := h.mC hg st
    exact hN _ _ ⟨_, R', β, hK, q1.put o.dst (x := .v (.bool r)) (Rel.bool r), by rw [aL]; exact q2, by rw [fS]; rfl⟩
  | panicked c => exact he.elim
  | outgrown => exact he.elim
end calls
def lP (ops : List Oper) (j : Nat) : Option Tmp := match nth ops j with
  | some o => o.dst
  | none => none
def cL : Bool → Prop → Prop
  | true, p => p
  | false, _ => False
theorem cL.mk {c : Bool} {p : Prop} (h : c = true) (hp : p) : cL c p := by subst h; exact hp
theorem cL.out {c : Bool} {p : Prop} (h : cL c p) : c = true ∧ p := by
  cases c
  · exact h.elim
  · exact ⟨rfl, h⟩
def ir (E : Env) (f : FuncId) (o : Oper) (K : St → Prop) (s : St) : Prop :=
  match o.op with
  | .call { callee := .value x, args, .. } => match ba E s.ae x, js E s.ae args.toList with
    | .v (.fn g first cap), some l => cq E g (first ++ l ++ cap) s.G (fun r G' => K ((s.aX G').put o.dst (.v r)))
    | .v (.yield id), some l => iS E id l s.G (fun b G' => K ((s.aX G').put o.dst (.v (.bool b))))
    | _, _ => False
  | .defer _ => False
  | _ => match ak E f s o with
    | some (c, s') => cL c (K s')
    | none => False
def bO (E : Env) (f : FuncId) (ops : List Oper) (o : Oper) (K : St → Prop) (s : St) : Prop :=
  match o.guard with
  | none => ir E f o K s
  | some (j, want) => match lP ops j with
    | none => False
    | some d => match lk s.ae d with
      | .v (.bool b) => (b = want → ir E f o K (s.put (some d) (.v (.bool want)))) ∧ (b = !want → K ((s.put (some d) (.v (.bool (!want)))).put o.dst (.v ea)))
      | .v (.bC []) => K (s.put o.dst (.v ea))
      | _ => False
def eu (E : Env) (f : FuncId) (ops : List Oper) (o : Oper) (K : St → Prop) (s : St) : Prop :=
  match o.guard, gD E f s o with
  | none, some s' => K s'
  | _, _ => bO E f ops o K s
def dM (E : Env) (f : FuncId) (ops : List Oper) (o : Oper) (K : St → Prop) (s : St) : Prop :=
  match o.guard, qF E f s o, pT E s o with
  | none, some (c, s'), _ => cL c (K s')
  | none, none, some (c, s0, left, g) => cL c ((left = [] → K s0) ∧ ∀ i ∈ left, cL (g i).1 (K (g i).2))
  | _, _, _ => eu E f ops o K s
def dN (E : Env) (f : FuncId) (ops : List Oper) (o : Oper) (K : St → Prop) (s : St) : Prop :=
  match Dr E f s o with
  | some (c, s') => c = true ∧ dM E f ops o K s'
  | none => dM E f ops o K s
def wu (E : Env) (f : FuncId) (o : Oper) (K : St → Prop) (s : St) : Prop := match wq E f o s with
  | some (c, s') => c = true ∧ K s'
  | none => False
def lQ (E : Env) (f : FuncId) (ops : List Oper) : List Oper → (St → Prop) → St → Prop
  | [], K, s => K s
  | o :: rest, K, s => dN E f ops o (wu E f o (lQ E f ops rest K)) s
section regions
variable {E : Env} {R : af} {w : World} {β : Nat → Nat} {s : St} {a : Act}
theorem wv {f : FuncId} {o : Oper} {F : Fence} {K : St → Prop} {Qc : Exit → Act → World → Prop} (h : aJ E R w β s a) (hf : bz R s.ro F) (ha : ir E f o K s) (N : Act → World → Prop) (hN : ∀ a' w', lO E R w β s K a' w' → N a' w') :
    o.wpIn F 0 E.P a w N Qc := by
  unfold ir at ha
  split at ha
  · rename_i x args tys ho
    split at ha
    · rename_i g first cap l h1 h2
      exact DV h hf ho h1 h2 ha N hN
    · rename_i id l h1 h2
      exact Bn h hf ho h1 h2 ha N hN
    · exact ha.elim
  · exact ha.elim
  · rename_i nc nd
    split at ha
    · rename_i c s' hs
      obtain ⟨rfl, hK⟩ := ha.out
      exact zr h hf hs hK (fun c e => nd c e) N hN
    · exact ha.elim
theorem aJ.zs (h : aJ E R w β s a) {d : Tmp} {b t : Bool} (hd : lk s.ae d = .v (.bool b)) (e : b = t) : aJ E R w β (s.put (some d) (.v (.bool t))) a := by
  subst e
  simp only [St.put]
  split
  · refine ⟨h.g, h.b, fun i hi => ?_, h.n, h.d⟩
    by_cases e : d = i
    · subst e
      rw [ar]
      have := h.t d (by rw [hd]; simp)
      rw [hd] at this
      exact this
    · rw [aC e] at hi ⊢
      exact h.t i hi
  · exact h
theorem Bo (h : aJ E R w β s a) {ops : Array Oper} {j : Nat} {d : Tmp} {b : Bool} (hj : lP ops.toList j = some d) (hd : lk s.ae d = .v (.bool b)) : yielded ops a.tmps j = some b := by
  unfold lP at hj
  split at hj
  · rename_i o ho
    rw [aD] at ho
    have kb : ops[j]? = some o := by simpa using ho
    obtain ⟨c, h1, h2⟩ := h.t d (by rw [hd]; simp)
    rw [hd] at h2
    have Pm : Rel R w (.bool b) c := h2
    cases Pm
    simp [yielded, kb, hj, h1]
  · cases hj
theorem vu (h : aJ E R w β s a) {ops : Array Oper} {j : Nat} {d : Tmp} (hj : lP ops.toList j = some d) (hd : lk s.ae d = .v (.bC [])) : yielded ops a.tmps j = none := by
  unfold lP at hj
  split at hj
  · rename_i o ho
    rw [aD] at ho
    have kb : ops[j]? = some o := by simpa using ho
    obtain ⟨c, h1, h2⟩ := h.t d (by rw [hd]; simp)
    rw [hd] at h2
    have Pm : Rel R w (.bC []) c := h2
    cases Pm
    simp [yielded, kb, hj, h1]
  · cases hj
theorem oP {f : FuncId} {o : Oper} {F : Fence} {ops : Array Oper} {K : St → Prop} {Qc : Exit → Act → World → Prop} (h : aJ E R w β s a) (hf : bz R s.ro F) (ha : bO E f ops.toList o K s) (N : Act → World → Prop) (hN : ∀ a' w', lO E R w β s K a' w' → N a' w') :
    (if Region.wanted o (yielded ops a.tmps) then o.wpIn F 0 E.P a w N Qc else (∀ f, o.about E.P w a.eval = some f → F.fn f) ∧ N (a.put o.dst undef) w) := by
  unfold bO at ha
  split at ha
  · rename_i hg
    have : Region.wanted o (yielded ops a.tmps) = true := by simp [Region.wanted, hg]
    rw [if_pos this]
    exact wv h hf ha N hN
  · rename_i j want hg
    split at ha
    · exact ha.elim
    · rename_i d hd
      split at ha
      · rename_i b hb
        have hy := Bo h hd hb
        by_cases hw : b = want
        · have : Region.wanted o (yielded ops a.tmps) = true := by simp [Region.wanted, hg, hy, hw]
          rw [if_pos this]
          exact wv (h.zs hb hw) (by rw [fS]; exact hf) (ha.1 hw) N (fun a' w' hh => hN a' w' (by
            obtain ⟨s', R', β', q1, q2, q3, q4⟩ := hh
            exact ⟨s', R', β', q1, q2, by rw [aL] at q3; exact q3, by rw [fS] at q4; exact q4⟩))
        · have Ua : b = !want := by cases b <;> cases want <;> simp_all
          have : ¬ Region.wanted o (yielded ops a.tmps) = true := by simp [Region.wanted, hg, hy, hw]
          rw [if_neg this]
          refine ⟨fun f _ => hf.fn f, hN _ _ ⟨_, R, β, ha.2 Ua, (h.zs hb Ua).put o.dst (x := .v ea) (Rel.bC .nil), by rw [aL, aL]; exact Step.refl _ _ _ _, by rw [fS, fS]⟩⟩
      · rename_i hb
        have hy := vu h hd hb
        have : ¬ Region.wanted o (yielded ops a.tmps) = true := by simp [Region.wanted, hg, hy]
        rw [if_neg this]
        exact ⟨fun f _ => hf.fn f, hN _ _ ⟨_, R, β, ha, h.put o.dst (x := .v ea) (Rel.bC .nil), by rw [aL]; exact Step.refl _ _ _ _, by rw [fS]⟩⟩
      · exact ha.elim
theorem vv {f : FuncId} {o : Oper} {F : Fence} {ops : Array Oper} {K : St → Prop} {Qc : Exit → Act → World → Prop} (h : aJ E R w β s a) (hf : bz R s.ro F) (ha : eu E f ops.toList o K s) (N : Act → World → Prop) (hN : ∀ a' w', lO E R w β s K a' w' → N a' w') :
    (if Region.wanted o (yielded ops a.tmps) then o.wpIn F 0 E.P a w N Qc else (∀ f, o.about E.P w a.eval = some f → F.fn f) ∧ N (a.put o.dst undef) w) := by
  unfold eu at ha
  split at ha
  · rename_i s' hg hb
    have : Region.wanted o (yielded ops a.tmps) = true := by simp [Region.wanted, hg]
    rw [if_pos this]
    unfold gD at hb
    split at hb
    · rename_i t len parts ho
      split at hb
      · rename_i d hd
        split at hb
        · split at hb
          · rename_i i hi
            split at hb
            · rename_i elem aQ ag kZ z esz es hk hv
              cases hb
              obtain ⟨nx, x, w', R', β', h1, h2, h3, h4⟩ := qb h t len parts ho hv hi hk
              refine ⟨fun f _ => hf.fn f, ?_⟩
              rw [Oper.semAt_eq _ _ _ (fun c e => by rw [ho] at e; cases e), h1]
              rw [hd] at h3 h4
              have dB : N (a.put o.dst x) w' := hN _ _ ⟨_, R', β', ha, by rw [hd]; exact h3, h4, by rw [fS]; rfl⟩
              rcases h2 with rfl | ⟨rfl, rfl⟩
              · exact dB
              · exact dB
            · rename_i elem esz ag kZ z hk _
              split at hb
              rotate_left
              · cases hb
              rename_i cs hv
              cases hb
              obtain ⟨nx, x, w', R', β', h1, h2, h3, h4⟩ := qa h t len parts ho hv hi hk
              refine ⟨fun f _ => hf.fn f, ?_⟩
              rw [Oper.semAt_eq _ _ _ (fun c e => by rw [ho] at e; cases e), h1]
              rw [hd] at h3 h4
              have dB : N (a.put o.dst x) w' := hN _ _ ⟨_, R', β', ha, by rw [hd]; exact h3, h4, by rw [fS]; rfl⟩
              rcases h2 with rfl | ⟨rfl, rfl⟩
              · exact dB
              · exact dB
            · cases hb
          · cases hb
        · split at hb
          · split at hb
            · rename_i i hi
              split at hb
              · rename_i elem aQ ag kZ z esz es hk hv
                split at hb
                · rename_i hle
                  cases hb
                  obtain ⟨nx, x, w', R', β', h1, h2, h3, h4⟩ := qf h t len parts ho hv hi hk (Nat.le_of_ble_eq_true hle)
                  refine ⟨fun f _ => hf.fn f, ?_⟩
                  rw [Oper.semAt_eq _ _ _ (fun c e => by rw [ho] at e; cases e), h1]
                  rw [hd] at h3 h4
                  have dB : N (a.put o.dst x) w' := hN _ _ ⟨_, R', β', ha, by rw [hd]; exact h3, h4, by rw [fS]; rfl⟩
                  rcases h2 with rfl | ⟨rfl, rfl⟩
                  · exact dB
                  · exact dB
                · cases hb
              · cases hb
            · cases hb
          · split at hb
            · split at hb
              · rename_i i hi
                split at hb
                · rename_i elem aQ ag kZ z esz es hk hv
                  split at hb
                  · rename_i hle
                    cases hb
                    obtain ⟨nx, x, w', R', β', h1, h2, h3, h4⟩ := qc h t len parts ho hv hi hk (Nat.le_of_ble_eq_true hle)
                    refine ⟨fun f _ => hf.fn f, ?_⟩
                    rw [Oper.semAt_eq _ _ _ (fun c e => by rw [ho] at e; cases e), h1]
                    rw [hd] at h3 h4
                    have dB : N (a.put o.dst x) w' := hN _ _ ⟨_, R', β', ha, by rw [hd]; exact h3, h4, by rw [fS]; rfl⟩
                    rcases h2 with rfl | ⟨rfl, rfl⟩
                    · exact dB
                    · exact dB
                  · cases hb
                · cases hb
              · cases hb
            · cases hb
      · cases hb
    · cases hb
  · exact oP h hf ha N hN
theorem DW {f : FuncId} {o : Oper} {c : Bool} {s' : St} (h : nu E f s o = some (c, s')) : s'.ro = s.ro ∧ ∀ d, o.op ≠ .defer d := by
  unfold nu at h
  split at h
  · split at h
    · split at h
      · rename_i t m k ok ho
        refine ⟨?_, fun d e => by rw [ho] at e; cases e⟩
        repeat' (split at h)
        all_goals (first | (cases h; done) | skip)
        all_goals (injection h with h; injection h with _ h; subst h; simp [St.aX])
      · cases h
    · cases h
  · cases h
theorem Il {f : FuncId} {o : Oper} {c : Bool} {s' : St} (h : AF E f s o = some (c, s')) : s'.ro = s.ro ∧ ∀ d, o.op ≠ .defer d := by
  unfold AF at h
  split at h
  · rename_i t x lo d ho hd
    refine ⟨?_, fun d e => by rw [ho] at e; cases e⟩
    repeat' (split at h)
    all_goals (first | (cases h; done) | skip)
    all_goals (injection h with h; injection h with _ h; subst h; simp [St.aX])
  · cases h
theorem FD {f : FuncId} {o : Oper} {c : Bool} {s' : St} (h : qF E f s o = some (c, s')) : s'.ro = s.ro ∧ ∀ d, o.op ≠ .defer d := by
  unfold qF at h
  split at h
  · rename_i r hr
    cases h
    exact Il hr
  · exact DW h
theorem DX {o : Oper} {c : Bool} {s0 : St} {left : List Nat} {g : Nat → Bool × St} (h : pT E s o = some (c, s0, left, g)) : (∃ x, o.op = .next x false ∧ vL E s o.dst (ba E s.ae x) = some (c, s0, left, g)) ∧ s0.ro = s.ro ∧ ∀ i, (g i).2.ro = s.ro := by
  unfold pT at h
  split at h
  · rename_i x ho
    refine ⟨⟨x, ho, h⟩, ?_⟩
    unfold vL at h
    split at h
    · split at h
      · split at h
        · cases h
          exact ⟨fS _ _ _, fun i => fS _ _ _⟩
        · cases h
      · cases h
    · cases h
  · cases h
theorem ql {f : FuncId} {F : Fence} {o : Oper} {s' : St} {K : St → Prop} {Qc : Exit → Act → World → Prop} (hf : bz R s.ro F) (hd : bj E R w β s a o s') (hK : K s') (aO : s'.ro = s.ro)
    (nd : ∀ c, o.op ≠ .defer c) (N : Act → World → Prop) (hN : ∀ a' w', lO E R w β s K a' w' → N a' w') : o.wpIn F 0 E.P a w N Qc := by
  obtain ⟨nx, x, w', R', β', h1, h2, h3, h4⟩ := hd
  refine ⟨fun f _ => hf.fn f, ?_⟩
  rw [Oper.semAt_eq _ _ _ nd, h1]
  have : N (a.put o.dst x) w' := hN _ _ ⟨s', R', β', hK, h3, h4, aO⟩
  rcases h2 with rfl | ⟨rfl, rfl⟩
  · exact this
  · exact this
theorem nb {f : FuncId} {o : Oper} {F : Fence} {ops : Array Oper} {K : St → Prop} {Qc : Exit → Act → World → Prop} (h : aJ E R w β s a) (hf : bz R s.ro F) (ha : dM E f ops.toList o K s) (N : Act → World → Prop) (hN : ∀ a' w', lO E R w β s K a' w' → N a' w') :
    (if Region.wanted o (yielded ops a.tmps) then o.wpIn F 0 E.P a w N Qc else (∀ f, o.about E.P w a.eval = some f → F.fn f) ∧ N (a.put o.dst undef) w) := by
  unfold dM at ha
  split at ha
  · rename_i c s' hg hb
    have : Region.wanted o (yielded ops a.tmps) = true := by simp [Region.wanted, hg]
    rw [if_pos this]
    obtain ⟨rfl, hK⟩ := ha.out
    obtain ⟨k1, k2⟩ := FD hb
    exact ql (f := f) hf (Bc h hb) hK k1 k2 N hN
  · rename_i c s0 left g hg _ hb
    have : Region.wanted o (yielded ops a.tmps) = true := by simp [Region.wanted, hg]
    rw [if_pos this]
    obtain ⟨rfl, VW, VX⟩ := ha.out
    obtain ⟨⟨x, ho, hm⟩, k1, k2⟩ := DX hb
    have nd : ∀ c, o.op ≠ .defer c := fun c e => by rw [ho] at e; cases e
    rcases A9 h x ho hm with ⟨hl, hd⟩ | ⟨i, hi, hd⟩
    · exact ql (f := f) hf hd (VW hl) k1 nd N hN
    · obtain ⟨q1, q2⟩ := (VX i hi).out
      exact ql (f := f) hf (hd q1) q2 (k2 i) nd N hN
  · exact vv h hf ha N hN
theorem vw {f : FuncId} {o : Oper} {F : Fence} {ops : Array Oper} {K : St → Prop} {Qc : Exit → Act → World → Prop} (h : aJ E R w β s a) (hf : bz R s.ro F) (ha : dN E f ops.toList o K s) (N : Act → World → Prop) (hN : ∀ a' w', lO E R w β s K a' w' → N a' w') :
    (if Region.wanted o (yielded ops a.tmps) then o.wpIn F 0 E.P a w N Qc else (∀ f, o.about E.P w a.eval = some f → F.fn f) ∧ N (a.put o.dst undef) w) := by
  unfold dN at ha
  split at ha
  · rename_i c s' hz
    obtain ⟨rfl, ha⟩ := ha
    obtain ⟨R1, k1, k2, k3⟩ := FA h hz
    refine nb k1 (by rw [k3]; exact hf.mono k2.ext) ha N ?_
    rintro a' w' ⟨s2, R', β', q1, q2, q3, q4⟩
    exact hN a' w' ⟨s2, R', β', q1, q2, k2.trans q3, q4.trans k3⟩
  · exact nb h hf ha N hN
theorem tz {f : FuncId} {F : Fence} {ops : Array Oper} {K : St → Prop} {Qc : Exit → Act → World → Prop} (hQ : ∀ a' w', lO E R w β s K a' w' → Qc .normal a' w') :
    ∀ (l : List Nat) (os : List Oper), l.map (fun i => ops[i]?) = os.map some → ∀ (R1 : af) (w1 : World) (β1 : Nat → Nat) (s1 : St) (a1 : Act), aJ E R1 w1 β1 s1 a1 → Step R w β s.boxes R1 w1 β1 s1.boxes → s1.ro = s.ro → bz R1 s1.ro F →
      lQ E f ops.toList os K s1 → wpOpsIn F 0 E.P ops Qc l a1 w1
  | [], os, hm, R1, w1, β1, s1, a1, hr, fb, aO, _, ha => by
    have : os = [] := by simpa using hm.symm
    subst this
    exact hQ _ _ ⟨s1, R1, β1, ha, hr, fb, aO⟩
  | i :: l, [], hm, _, _, _, _, _, _, _, _, _, _ => by simp at hm
  | i :: l, o :: os, hm, R1, w1, β1, s1, a1, hr, fb, aO, hf, ha => by
    simp only [List.map_cons, List.cons.injEq] at hm
    obtain ⟨hi, hm⟩ := hm
    simp only [wpOpsIn, hi]
    refine vw hr hf (show dN E f ops.toList o (wu E f o (lQ E f ops.toList os K)) s1 from ha) _ ?_
    rintro a' w' ⟨s', R', β', q1, q2, q3, q4⟩
    unfold wu at q1
    split at q1
    · rename_i c s2 hp
      obtain ⟨rfl, q1⟩ := q1
      obtain ⟨R2, p1, p2, p3, _⟩ := DR q2 hp
      exact tz hQ l os hm R2 w' β' s2 a' p1 ((fb.trans q3).trans p2) (p3.trans (q4.trans aO)) (by rw [p3, q4]; exact hf.mono (q3.ext.trans p2.ext)) q1
    · exact q1.elim
theorem DY (ops : Array Oper) : (List.range ops.size).map (fun i => ops[i]?) = ops.toList.map some := by
  apply List.ext_getElem?
  intro i
  simp only [List.getElem?_map]
  by_cases hi : i < ops.size
  · rw [List.getElem?_range hi]
    simp [hi]
  · rw [List.getElem?_eq_none (by simp; omega), List.getElem?_eq_none (by simp; omega)]
    rfl
theorem dE.region {f : FuncId} {id : Nat} {ops : Array Oper} {Q : Exit → St → Prop} {s : St} (h : lQ E f ops.toList ops.toList (Q .normal) s) : dE E (.region id ops false) Q s := fun R w β a F hr hf => by
  refine wpIn_region (tz (R := R) (w := w) (β := β) (s := s) (K := Q .normal) (f := f) ?_ _ _ (DY ops) R w β s a hr (Step.refl _ _ _ _) rfl hf h)
  rintro a' w' ⟨s', R', β', h1, h2⟩
  exact ⟨s', R', β', h1, h2⟩
end regions
end Go.Am
namespace Go.Am
open Go
def Of : Nat → List AV → aT
  | _, [] => []
  | n, a :: l => .put n (.v a) :: Of (n + 1) l
def St.init (ntmps : Nat) (args : List AV) (G : List GO) : St :=
  ⟨Of 0 args, [], G, [], none, max ntmps args.length⟩
def lR : List Nat → List GO → Option (List GO)
  | [], G => some G
  | id :: l, G => match nth G id with
    | some (.defers true) => lR l (aq G id (.defers false))
    | _ => none
def Bp (E : Env) (s : St) : List ResultVar → Option (List AV)
  | [] => some []
  | .tmp t :: l => match lk s.ae t, Bp E s l with
    | .v a, some r => some (a :: r)
    | _, _ => none
  | .cell p t :: l => match n6 E s t (lk s.ae p), Bp E s l with
    | some a, some r => some (a :: r)
    | _, _ => none
def FE (E : Env) (s : St) (fn : Func) : Option AV := match Bp E s fn.results.toList with
  | some [a] => some a
  | some l => some (.bC l)
  | none => none
def J9 (E : Env) (fn : Func) (Q : AV → List GO → Prop) : Exit → St → Prop
  | .normal, s | .ret, s => match lR s.marks s.G with
    | some G => match FE E (s.aX G) fn with
      | some r => Q r G
      | none => False
    | none => False
  | _, _ => False
section fns
variable {E : Env} {R : af} {w : World} {β : Nat → Nat} {s : St} {a : Act}
def tA (tmps : Array Value) : ResultVar → Sem Value
  | .tmp t => pure (tmps.getD t undef)
  | .cell p t => do loadVar t (← asAddr (tmps.getD p undef))
theorem tB (fn : Func) (tmps : Array Value) : results fn tmps = (do
    let vs ← fn.results.mapM (tA tmps)
    pure (if h : vs.size = 1 then vs[0] else .tuple vs)) := by
  unfold results
  congr 1
theorem oQ (h : aJ E R w β s a) : ∀ {l : List ResultVar} {r : List AV}, Bp E s l = some r →
    ∃ vs, (l.mapM (tA a.tmps)).run E.P w = .ok vs w ∧ ay R w r vs
  | [], r, hl => by
    simp [Bp] at hl
    subst hl
    exact ⟨[], by simp, .nil⟩
  | .tmp t :: l, r, hl => by
    unfold Bp at hl
    split at hl
    · rename_i x r' h1 h2
      cases hl
      obtain ⟨vs, g1, g2⟩ := oQ h h2
      obtain ⟨c, k1, k2⟩ := h.t t (by rw [h1]; simp)
      rw [h1] at k2
      have hg : a.tmps.getD t undef = c := by simp [Array.getD_eq_getD_getElem?, k1]
      refine ⟨c :: vs, ?_, .cons k2 g2⟩
      simp only [List.mapM_cons, Sem.run_bind, Sem.run_pure, Result.andThen_ok, tA, hg, g1]
    · cases hl
  | .cell p t :: l, r, hl => by
    unfold Bp at hl
    split at hl
    · rename_i v r' h1 h2
      · cases hl
        obtain ⟨vs, g1, g2⟩ := oQ h h2
        obtain ⟨c, k1, k2⟩ := h.t p (fun e => by rw [e] at h1; unfold n6 at h1; split at h1 <;> simp_all [ks])
        have hg : a.tmps.getD p undef = c := by simp [Array.getD_eq_getD_getElem?, k1]
        unfold n6 at h1
        split at h1
        · rename_i i cs off hi hc
          split at h1
          · rename_i l' hs
            obtain ⟨b, o', us, e, q1, q2, q3⟩ := qH h k2 hc
            obtain ⟨m1, m2, m3, m4⟩ := kB hs q1 q2
            obtain ⟨c', kX, cZ⟩ := jv (E := E) hi (b := b) (off := o' + off) m1 m2 m3 (fun j y hy => by rw [Nat.add_assoc]; exact q3 _ _ (m4 j y hy)) h1
            refine ⟨c' :: vs, ?_, .cons cZ g2⟩
            have ha : (asAddr c).run E.P w = .ok ⟨b, o' + off, none⟩ w := by rw [e]; rfl
            have Sh : (tA a.tmps (.cell p t)).run E.P w = .ok c' w := by
              simp only [tA, Sem.run_bind, hg, ha, Result.andThen_ok, kX]
            simp only [List.mapM_cons, Sem.run_bind, Sem.run_pure, Result.andThen_ok, Sh, g1]
          · cases h1
        · cases h1
    · cases hl
theorem FF (h : aJ E R w β s a) {fn : Func} {r : AV} (hr : FE E s fn = some r) : ∃ c, (results fn a.tmps).run E.P w = .ok c w ∧ Rel R w r c := by
  unfold FE at hr
  split at hr
  · rename_i x hl
    cases hr
    obtain ⟨vs, g1, g2⟩ := oQ h hl
    cases g2 with
    | @cons _ c _ _ g2 g3 =>
    cases g3
    refine ⟨c, ?_, g2⟩
    rw [tB, Array.mapM_eq_mapM_toList]
    simp only [Sem.run_bind, Sem.run_map]
    rw [g1]
    simp
  · rename_i l bS hl
    cases hr
    obtain ⟨vs, g1, g2⟩ := oQ h hl
    refine ⟨.tuple ⟨vs⟩, ?_, .bC g2⟩
    have hlen : vs.length ≠ 1 := by
      rw [← g2.length]
      intro e
      match l, e with
      | [x], _ => exact bS x rfl
    rw [tB, Array.mapM_eq_mapM_toList]
    simp only [Sem.run_bind, Sem.run_map]
    rw [g1]
    simp [hlen]
  · cases hr
theorem DZ (fn : Func) (Q : Ending → World → Prop) : ∀ {marks : List Nat} {G G' : List GO} {R : af} {w : World} {β : Nat → Nat} {s : St} {a : Act}, aJ E R w β (s.aX G) a → mR R marks a.defers → lR marks G = some G' →
    (∀ w' , aJ E R w' β (s.aX G') a → Step R w β s.boxes R w' β s.boxes → ∃ v, (results fn a.tmps).run E.P w' = .ok v w' ∧ Q (.returned v) w') → LeavesInM Fence.wide 0 E.P fn a.tmps Q a.defers .returning w := by
  intro marks
  have key : ∀ (marks : List Nat) (ds : List Deferred) (G G' : List GO) (R : af) (w : World) (β : Nat → Nat) (s : St) (a : Act), aJ E R w β (s.aX G) a → mR R marks ds → lR marks G = some G' →
      (∀ w' , aJ E R w' β (s.aX G') a → Step R w β s.boxes R w' β s.boxes → ∃ v, (results fn a.tmps).run E.P w' = .ok v w' ∧ Q (.returned v) w') → LeavesInM Fence.wide 0 E.P fn a.tmps Q ds .returning w := by
    intro marks
    induction marks with
    | nil =>
      intro ds G G' R w β s a hr hd hl hq
      cases ds with
      | cons _ _ => exact hd.elim
      | nil =>
        simp [lR] at hl
        subst hl
        obtain ⟨v, h1, h2⟩ := hq w hr (Step.refl _ _ _ _)
        exact ⟨v, h1, h2⟩
    | cons id marks ih =>
      intro ds G G' R w β s a hr hd hl hq
      cases ds with
      | nil => exact hd.elim
      | cons d ds =>
        obtain ⟨⟨b, hb, rfl⟩, hd⟩ := hd
        unfold lR at hl
        split at hl
        · rename_i hg
          have Bq : w.heap[b]? = some (.deferred (some [])) := hr.g.obj id _ _ hg hb
          have bR := a7 Bq
          have E7 : (Instr.takeDeferred b).run E.P w = .ok [] (World.put w b (.deferred none)) := by
            simp only [Instr.takeDeferred, getObj, setObj, Sem.run_bind, Sem.run, Bq, Result.andThen_ok, Sem.run_pure]
            rfl
          obtain ⟨q1, q2⟩ := hr.setObj (s := s.aX G) (x' := .deferred none) (go' := .defers false) hb Bq trivial trivial (fun _ e => by cases e) (fc w b _ bR)
          refine ⟨by simp, .inl ⟨b, _, rfl, E7, ?_⟩⟩
          refine ih ds (aq G id (.defers false)) G' R _ β s a q1 hd hl (fun w' gk fb => ?_)
          exact hq w' gk (q2.trans fb)
        · cases hl
  intro G G' R w β s a hr hd hl hq
  exact key marks a.defers G G' R w β s a hr hd hl hq
end fns
end Go.Am
namespace Go.Am
open Go
section intro
variable {E : Env} {R R' : af} {w w' : World} {β β' : Nat → Nat}
theorem tC {bx Cn : bU} (h : Step R w β bx R' w' β' Cn) (hn : ∀ k cs, cF bx k ≠ some cs) : Step R w (fun _ => 0) fR R' w' (fun _ => 0) fR := by
  have own : ∀ b, Own R β bx b → Live R b := fun b ho => by
    rcases ho with ho | ⟨k, cs, hk, _⟩
    · exact ho
    · exact absurd hk (hn k cs)
  exact ⟨h.ext, h.os, h.tape, h.output, h.size, fun b hb lG => h.bL b hb (fun ho => lG (.inl (own b ho))), fun b hb ho => .inl (own b (h.own b hb (.inl (dQ ho)))), fun b o hi hb lG => h.im b o hi hb (fun ho => lG (.inl (own b ho)))⟩
theorem FG : ∀ {l : List AV} {n i : Nat}, (i < n ∨ n + l.length ≤ i → lk (Of n l) i = .none) ∧ (∀ a, l[i - n]? = some a → n ≤ i → lk (Of n l) i = .v a)
  | [], n, i => ⟨fun _ => rfl, fun a h => by simp at h⟩
  | b :: l, n, i => by
    obtain ⟨h1, h2⟩ := FG (l := l) (n := n + 1) (i := i)
    refine ⟨fun h => ?_, fun a h hn => ?_⟩
    · simp only [List.length_cons] at h
      simp only [Of]
      rw [aC (by omega)]
      exact h1 (by omega)
    · simp only [Of]
      by_cases e : n = i
      · subst e
        rw [ar]
        simp at h
        rw [h]
      · rw [aC e]
        refine h2 a ?_ (by omega)
        have : i - n = (i - (n + 1)) + 1 := by omega
        rw [this] at h
        simpa using h
theorem FH {ntmps : Nat} {args : List AV} {cs : List Value} {G : List GO} (hg : dv E R w G) (hl : ay R w args cs) :
    aJ E R w (fun _ => 0) (St.init ntmps args G) { tmps := ⟨cs⟩ ++ Array.replicate (ntmps - (⟨cs⟩ : Array Value).size) undef, defers := [] } := by
  have hlen := hl.length
  refine ⟨hg, ⟨fun k c hk => ?_, fun k k' c c' hk _ _ => ?_⟩, fun i hi => ?_, ?_, trivial⟩
  · simp [St.init, cF] at hk
  · simp [St.init, cF] at hk
  · simp only [St.init] at hi ⊢
    obtain ⟨h1, h2⟩ := FG (l := args) (n := 0) (i := i)
    by_cases bR : i < args.length
    · have hy : args[i]? = some args[i] := List.getElem?_eq_getElem bR
      obtain ⟨c, k1, k2⟩ := hl.get hy
      rw [h2 _ (by rw [Nat.sub_zero]; exact hy) (Nat.zero_le _)]
      refine ⟨c, ?_, k2⟩
      rw [Array.getElem?_append_left (by simp; omega)]
      simpa using k1
    · exact absurd (h1 (by omega)) hi
  · simp [St.init]
    omega
theorem Br {ntmps : Nat} {args : List AV} {G : List GO} (k : Nat) (cs : List AV) : cF (St.init ntmps args G).boxes k ≠ some cs := by
  simp [St.init, cF]
theorem cq.intro {g : FuncId} {fn : Func} {c : Code} {args : List AV} {G : List GO} {Q : AV → List GO → Prop} (hf : E.P.funcs[g]? = some fn) (hb : fn.body = some c) (hn : (fn.name == "runtime.NumGoroutine") = false)
    (h : dE E c (J9 E fn Q) (St.init fn.ntmps args G)) : cq E g args G Q := by
  refine ⟨⟨fn, hf, by simp [hb], hn⟩, fun R w cs hg hl => ?_⟩
  refine callsIn_of_wp_marks hf hb trivial (wpIn_mono (h R w (fun _ => 0) _ Fence.wide (FH hg hl) rfl) ?_)
  rintro e a' w' ⟨s', R', β', hq, hr, fb, aO⟩
  have fin : (match lR s'.marks s'.G with
    | some G => match FE E (s'.aX G) fn with
      | some r => Q r G
      | none => False
    | none => False) → LeavesInM Fence.wide 0 E.P fn a'.tmps (CK E R w Q) a'.defers .returning w' := by
    intro hq
    split at hq
    · rename_i G2 Pn
      split at hq
      · rename_i r xC
        refine DZ fn (CK E R w Q) (s := s') (G := s'.G) hr hr.d Pn (fun HV tx na => ?_)
        obtain ⟨v, h1, h2⟩ := FF tx xC
        exact ⟨v, h1, r, G2, R', hq, h2, tx.g, tC (fb.trans na) Br⟩
      · exact hq.elim
    · exact hq.elim
  cases e with
  | normal => exact fin hq
  | ret => exact fin hq
  | exit _ => exact hq.elim
  | goto _ => exact hq.elim
  | panic _ => exact hq.elim
  | outgrown => exact hq.elim
end intro
end Go.Am
namespace Go.Am
open Go
def St.dO (s : St) (pre : aT) (preB : bU) (G : List GO) : St := ⟨pre ++ s.ae, preB ++ s.boxes, G, s.marks, s.ro, s.n⟩
def Og (al : Bool) (dst : Option Tmp) (pre : aT) : Prop :=
  pre = [] ∨ ∃ d x, dst = some d ∧ (pre = [.put d x] ∨ (al = true ∧ pre = [.put d x, .kill d]))
def bA (al w : Bool) (dst : Option Tmp) (s t s' t' : St) : Prop :=
  ∃ pre preB G, Og al dst pre ∧ (w = false → preB = [] ∧ G = s.G ∧ ∃ x, s' = s.put dst x ∧ t' = t.put dst x) ∧ s' = s.dO pre preB G ∧ t' = t.dO pre preB G
section
variable {E : Env} {s t : St} {o : Oper}
theorem jx (s : St) (d : Tmp) (x : SV) : s.put (some d) x = bif Nat.blt d s.n then s.dO [.put d x] [] s.G else s := by
  cases h : Nat.blt d s.n <;> simp [St.put, h, St.dO]
theorem bA.put {al w : Bool} (hn : s.n = t.n) (hG : s.G = t.G) (dst : Option Tmp) (x : SV) : bA al w dst s t (s.put dst x) (t.put dst x) := by
  cases dst with
  | none => exact ⟨[], [], s.G, .inl rfl, fun _ => ⟨rfl, rfl, x, rfl, rfl⟩, rfl, by rw [hG]; rfl⟩
  | some d =>
    have hx : ∃ y, s.put (some d) x = s.put (some d) y ∧ t.put (some d) x = t.put (some d) y := ⟨x, rfl, rfl⟩
    revert hx
    generalize hs : s.put (some d) x = s'
    generalize ht : t.put (some d) x = t'
    intro hx
    rw [jx] at hs ht
    rw [← hn] at ht
    revert hs ht
    cases Nat.blt d s.n with
    | true => exact fun hs ht => ⟨[.put d x], [], s.G, .inr ⟨d, x, rfl, .inl rfl⟩, fun _ => ⟨rfl, rfl, hx⟩, hs.symm, by rw [hG]; exact ht.symm⟩
    | false => exact fun hs ht => ⟨[], [], s.G, .inl rfl, fun _ => ⟨rfl, rfl, hx⟩, hs.symm, by rw [hG]; exact ht.symm⟩
theorem bA.cB {al : Bool} (hn : s.n = t.n) (G : List GO) (dst : Option Tmp) (x : SV) : bA al true dst s t ((s.aX G).put dst x) ((t.aX G).put dst x) := by
  cases dst with
  | none => exact ⟨[], [], G, .inl rfl, fun h => (by cases h), rfl, rfl⟩
  | some d =>
    rw [jx, jx, show (t.aX G).n = (s.aX G).n from hn.symm]
    cases Nat.blt d (s.aX G).n with
    | true => exact ⟨[.put d x], [], G, .inr ⟨d, x, rfl, .inl rfl⟩, fun h => (by cases h), rfl, rfl⟩
    | false => exact ⟨[], [], G, .inl rfl, fun h => (by cases h), rfl, rfl⟩
theorem bA.aX {al : Bool} (G : List GO) (dst : Option Tmp) : bA al true dst s t (s.aX G) (t.aX G) := ⟨[], [], G, .inl rfl, fun h => (by cases h), rfl, rfl⟩
theorem bA.qC {al : Bool} (hG : s.G = t.G) (dst : Option Tmp) (d : Nat) (cs : List AV) : bA al true dst s t (s.qC d cs) (t.qC d cs) :=
  ⟨[], [(d, cs)], s.G, .inl rfl, fun h => (by cases h), rfl, (by rw [hG]; rfl)⟩
theorem eN {a b : aT} : ∀ {l : List Operand}, (∀ y ∈ l, ba E a y = ba E b y) → js E a l = js E b l
  | [], _ => rfl
  | x :: l, h => by
    simp only [js]
    rw [h x (by simp), eN (l := l) (fun y hy => h y (by simp [hy]))]
theorem ki {a b : aT} : ∀ {l : List (Nat × Operand)}, (∀ p ∈ l, ba E a p.2 = ba E b p.2) → HB E a l = HB E b l
  | [], _ => rfl
  | (i, x) :: l, h => by
    simp only [HB]
    rw [h (i, x) (by simp), ki (l := l) (fun y hy => h y (by simp [hy]))]
theorem vx (hG : s.G = t.G) (p : SV) (hB : ∀ k off, p = .lp k off → cF s.boxes k = cF t.boxes k) : ks s p = ks t p := by
  unfold ks
  rw [hG]
  cases p with
  | lp k off => simp only [hB k off rfl]
  | v a => cases a <;> rfl
  | _ => rfl
theorem zt (hG : s.G = t.G) (ty : TypeId) (p : SV) (hB : ∀ k off, p = .lp k off → cF s.boxes k = cF t.boxes k) : n6 E s ty p = n6 E t ty p := by
  unfold n6
  rw [vx hG p hB]
theorem qW (hG : s.G = t.G) (id f i sz : Nat) (ty : TypeId) : sx E s id f i sz ty = sx E t id f i sz ty := by
  unfold sx
  rw [hG]
theorem qX (hG : s.G = t.G) (id j f i sz : Nat) (ty : TypeId) : sy E s id j f i sz ty = sy E t id j f i sz ty := by
  unfold sy
  rw [hG]
theorem zu (hG : s.G = t.G) (ty : TypeId) (p : SV) (hB : ∀ k off, p = .lp k off → cF s.boxes k = cF t.boxes k) : vK E s ty p = vK E t ty p := by
  unfold vK
  split
  · rw [qW hG]
  · rw [qX hG]
  · rw [zt hG _ _ hB]
theorem zv (hG : s.G = t.G) (esz : Nat) (d x : AV) : oa s esz d x = oa t esz d x := by
  unfold oa
  rw [hG]
theorem qY {f : FuncId} {dst : Option Tmp} {el : TypeId} {cs : List AV} {c : Bool} {s' : St} (hn : s.n = t.n) (hG : s.G = t.G) (h : dH E f s dst el cs = some (c, s')) :
    ∃ t', dH E f t dst el cs = some (c, t') ∧ bA true true dst s t s' t' := by
  unfold dH at *
  cases dst with
  | none => cases h
  | some d =>
    simp only at *
    split at h
    · rename_i hg
      injection h with h
      injection h with h1 h2
      subst h1 h2
      rw [if_pos hg]
      refine ⟨_, rfl, ?_⟩
      have := bA.cB (al := true) hn (s.G ++ [.row cs el]) (some d) (.v (.ptr s.G.length 0))
      rw [hG] at this
      have e : s.cI (.row cs el) = s.aX (t.G ++ [.row cs el]) := by rw [← hG]; rfl
      rw [e, hG]
      exact this
    · rename_i hg
      rw [if_neg hg, ← hn]
      split at h
      · rename_i hb
        injection h with h
        injection h with h1 h2
        subst h1 h2
        refine ⟨_, rfl, [.put d (.lp d 0), .kill d], [(d, cs)], s.G, .inr ⟨d, _, rfl, .inr ⟨rfl, rfl⟩⟩, fun h => (by cases h), ?_, ?_⟩
        · simp [St.put, St.qC, St.kill, hb, St.dO]
        · simp only [St.put, St.qC, St.kill, ← hn, hb, St.dO, hG]
          rfl
      · cases h
theorem zw {ty : TypeId} {p x : SV} {s' : St} {al : Bool} {dst : Option Tmp} (hG : s.G = t.G) (hB : ∀ k off, p = .lp k off → cF s.boxes k = cF t.boxes k) (h : eU E s ty p x = some s') :
    ∃ t', eU E t ty p x = some t' ∧ bA al true dst s t s' t' := by
  unfold eU at *
  split at h
  · split at h
    · rename_i hc
      rw [if_pos hc]
      split at h
      · rw [← hB _ _ rfl]
        split at h
        · split at h
          · rename_i D0
            cases h
            simp only [D0, if_true]
            exact ⟨_, rfl, .qC hG _ _ _⟩
          · cases h
        · cases h
      · rw [← hG]
        split at h
        · split at h
          · rename_i D0
            cases h
            simp only [D0, if_true]
            exact ⟨_, rfl, .aX _ _⟩
          · cases h
        · cases h
      · cases h
    · cases h
  · cases h
theorem zx {ty : TypeId} {p x : SV} {c : Bool} {s' : St} {al : Bool} {dst : Option Tmp} (hG : s.G = t.G) (hB : ∀ k off, p = .lp k off → cF s.boxes k = cF t.boxes k) (h : dy E s ty p x = some (c, s')) :
    ∃ t', dy E t ty p x = some (c, t') ∧ bA al true dst s t s' t' := by
  unfold dy at *
  split at h
  · rw [← hG]
    split at h
    · split at h
      · rename_i h1 h2 hc
        simp only [hc, if_true]
        split at h
        · rename_i D0
          injection h with h; injection h with e1 e2
          subst e1; subst e2
          simp only [D0, if_true]
          exact ⟨_, rfl, .aX _ _⟩
        · rename_i D0
          rw [if_neg D0, ← qW hG]
          split at h
          · rename_i hg
            split at h
            · rename_i Si
              injection h with h; injection h with e1 e2
              subst e1; subst e2
              simp only [Si, if_true]
              exact ⟨_, rfl, .aX _ _⟩
            · cases h
          · cases h
      · cases h
    · cases h
  · rw [← hG]
    split at h
    · split at h
      · rename_i h1 h2 hc
        simp only [hc, if_true]
        split at h
        · rename_i D0
          injection h with h; injection h with e1 e2
          subst e1; subst e2
          simp only [D0, if_true]
          exact ⟨_, rfl, .aX _ _⟩
        · rename_i D0
          rw [if_neg D0, ← qX hG]
          split at h
          · rename_i hg
            split at h
            · rename_i Si
              injection h with h; injection h with e1 e2
              subst e1; subst e2
              simp only [Si, if_true]
              exact ⟨_, rfl, .aX _ _⟩
            · cases h
          · cases h
      · cases h
    · cases h
  · split at h
    · rename_i s1 hs
      injection h with h; injection h with e1 e2
      subst e1; subst e2
      obtain ⟨t', h3, h4⟩ := zw (al := al) (dst := dst) hG hB hs
      simp only [h3]
      exact ⟨_, rfl, h4⟩
    · cases h
theorem Bs (hG : s.G = t.G) (p x : SV) : nq s p x = nq t p x := by unfold nq; rw [hG]
theorem zy {ty : TypeId} {p x : SV} {c : Bool} {s' : St} {al : Bool} {dst : Option Tmp} (hG : s.G = t.G) (hB : ∀ k off, p = .lp k off → cF s.boxes k = cF t.boxes k) (h : gT E s ty p x = some (c, s')) :
    ∃ t', gT E t ty p x = some (c, t') ∧ bA al true dst s t s' t' := by
  unfold gT at *
  rw [← Bs hG]
  split at h
  · rename_i c1 s1 hs
    injection h with h; injection h with e1 e2
    subst e1; subst e2
    obtain ⟨t', h3, pre, preB, G, h4, _, h5, h6⟩ := zx (s := s.aX (nq s p x).2.2) (t := t.aX (nq s p x).2.2) (al := al) (dst := dst) rfl hB hs
    rw [h3]
    exact ⟨_, rfl, pre, preB, G, h4, (fun h => by cases h), h5, h6⟩
  · cases h
def bI : Op → Bool
  | .alloc _ => true
  | .box _ _ => true
  | _ => false
def pO : Op → Bool
  | .move _ | .assign _ | .pick _ _ _ | .build _ _ | .buildSlice _ _ _ | .load _ _ | .binOp _ _ _ _ _ | .unOp _ _ _ | .convert _ _ _ | .makeFunc _ _ _ | .fieldAddr _ _ _ | .field _ _ _
  | .indexAddr _ _ _ | .index _ _ _ | .slice _ _ _ _ _ | .extract _ _ | .lookup _ _ _ _ | .nilCheck _ => true
  | .call { callee := .builtin .len, .. } => true
  | .call { callee := .builtin .max, .. } => true
  | .call { callee := .builtin .min, .. } => true
  | _ => false
def Lk : Op → Bool
  | .load _ _ => true
  | .lookup _ _ _ _ => true
  | .call _ => true
  | .convert _ _ _ => true
  | _ => false
def Im : Builtin → Bool
  | .append | .copy | .clear => true
  | _ => false
theorem vy {dst : Option Tmp} {b : Builtin} {l : List AV} {tys : List TypeId} {c : Bool} {s' : St} {al : Bool} (hn : s.n = t.n) (hG : s.G = t.G) (h : bG E s dst b l tys = some (c, s')) :
    ∃ t', bG E t dst b l tys = some (c, t') ∧ bA al (Im b) dst s t s' t' := by
  obtain ⟨sl, bx, G, m, ro, n⟩ := s
  obtain ⟨Oh, Cn, G', m', gU, n'⟩ := t
  have hc := fun esz d x => zv (s := ⟨sl, bx, G, m, ro, n⟩) (t := ⟨Oh, Cn, G', m', gU, n'⟩) hG esz d x
  simp only at hn hG
  subst hn hG
  unfold bG at h ⊢
  simp only [← hc]
  cases b
  all_goals (try (cases h; done))
  all_goals (try simp only at h ⊢)
  all_goals (try (split at h <;> first | (cases h; done) | simp only at h ⊢))
  all_goals (repeat' (split at h))
  all_goals (first | (cases h; done) | skip)
  all_goals (injection h with h; injection h with h1 h2; subst h1 h2)
  all_goals (try simp only [if_true, *])
  all_goals (first | exact ⟨_, rfl, .put (by rfl) (by rfl) _ _⟩ | exact ⟨_, rfl, .cB (by rfl) _ _ _⟩ | exact ⟨_, rfl, .aX _ _⟩)
theorem tD (hG : s.G = t.G) (a b : TypeId) (x : SV) : j6 E s a b x = j6 E t a b x := by
  unfold j6
  rw [hG]
theorem vz (hG : s.G = t.G) (ty : TypeId) (m k : SV) : jt E s ty m k = jt E t ty m k := by
  have : mapOf s = mapOf t := by funext m; unfold mapOf; rw [hG]
  unfold jt gC
  rw [this, hG]
theorem oR {ty : TypeId} {m k x : SV} {s' : St} {al : Bool} {dst : Option Tmp} (hG : s.G = t.G) (h : dI E s ty m k x = some s') :
    ∃ t', dI E t ty m k x = some t' ∧ bA al true dst s t s' t' := by
  unfold dI at *
  rw [← hG]
  repeat' (split at h)
  all_goals (first | (cases h; done) | skip)
  cases h
  simp only [*]
  exact ⟨_, rfl, .aX _ _⟩
theorem Bt {dst : Option Tmp} {x : SV} {s' : St} {al : Bool} (hn : s.n = t.n) (hG : s.G = t.G) (h : ju s dst x = some s') :
    ∃ t', ju t dst x = some t' ∧ bA al true dst s t s' t' := by
  unfold ju at *
  rw [← hG]
  split at h
  · split at h
    · rename_i l pos hg
      cases hb : Nat.blt pos l.length with
      | true =>
        rw [hb] at h
        simp only [cond_true] at h ⊢
        cases h
        exact ⟨_, rfl, .cB hn _ _ _⟩
      | false =>
        rw [hb] at h
        simp only [cond_false] at h ⊢
        cases h
        obtain ⟨pre, preB, G, p1, p2, p3⟩ := bA.put (al := al) (w := true) hn hG dst (.v (.bC [.bool false]))
        exact ⟨_, rfl, pre, preB, G, p1, p2, p3⟩
    · cases h
  · cases h
theorem kK {f : FuncId} {r : Bool × St} (h : eY E f s o = some r) : ∃ args tys, o.op = .call { callee := .builtin .append, args := args, argTypes := tys } := by
  unfold eY at h
  split at h
  · split at h
    · split at h
      · rename_i args tys ho
        exact ⟨args, tys, ho⟩
      · cases h
    · cases h
  · cases h
theorem tE {f : FuncId} {c : Bool} {s' : St} {al : Bool} (hn : s.n = t.n) (hG : s.G = t.G) (dm : ∀ y ∈ o.op.operands, ba E s.ae y = ba E t.ae y)
    (h : eY E f s o = some (c, s')) : ∃ t', eY E f t o = some (c, t') ∧ bA al true o.dst s t s' t' := by
  obtain ⟨args, tys, ho⟩ := kK h
  have h1 : js E s.ae args.toList = js E t.ae args.toList := eN fun y hy => dm y (by rw [ho]; simp [Op.operands, Call.operands]; simpa using hy)
  unfold eY at h ⊢
  rw [ho] at h ⊢
  simp only [h1, hG] at h ⊢
  repeat' (split at h)
  all_goals (first | (cases h; done) | skip)
  injection h with h; injection h with h2 h3
  subst h2 h3
  simp only [*, if_true]
  refine ⟨_, rfl, ?_⟩
  exact bA.cB hn _ _ _
theorem rW {f : FuncId} (hn : s.n = t.n) (hG : s.G = t.G) (dm : ∀ y ∈ o.op.operands, ba E s.ae y = ba E t.ae y) (h : eY E f s o = none) : eY E f t o = none := by
  cases ht : eY E f t o with
  | none => rfl
  | some r =>
    obtain ⟨t', h1, _⟩ := tE (s := t) (t := s) (al := false) hn.symm hG.symm (fun y hy => (dm y hy).symm) (c := r.1) (s' := r.2) ht
    rw [h] at h1
    cases h1
theorem oS {f : FuncId} {c : Bool} {s' : St} (hn : s.n = t.n) (hG : s.G = t.G) (hB : ∀ k off, (∃ y ∈ o.op.operands, ba E s.ae y = .lp k off) → cF s.boxes k = cF t.boxes k) (dm : ∀ y ∈ o.op.operands, ba E s.ae y = ba E t.ae y)
    (h : ak E f s o = some (c, s')) : ∃ t', ak E f t o = some (c, t') ∧ bA (bI o.op) (!pO o.op) o.dst s t s' t' := by
  obtain ⟨dst, op, ty, pos, after, guard⟩ := o
  cases op
  case move x =>
    simp only [ak, dm x (by simp [Op.operands])] at h ⊢
    split at h
    all_goals (injection h with h; injection h with h1 h2; subst h1 h2; (try simp only [*]); exact ⟨_, rfl, .put hn hG _ _⟩)
  case assign x =>
    simp only [ak, dm x (by simp [Op.operands])] at h ⊢
    split at h
    all_goals (injection h with h; injection h with h1 h2; subst h1 h2; (try simp only [*]); exact ⟨_, rfl, .put hn hG _ _⟩)
  case pick x y z =>
    simp only [ak, dm x (by simp [Op.operands]), dm y (by simp [Op.operands]), dm z (by simp [Op.operands])] at h ⊢
    split at h
    · injection h with h; injection h with h1 h2; subst h1 h2; (try simp only [*]); exact ⟨_, rfl, .put hn hG _ _⟩
    · cases h
  case alloc e =>
    simp only [ak] at h ⊢
    repeat' (split at h)
    all_goals (first | (cases h; done) | skip)
    simp only [*]
    exact qY hn hG h
  case box e x =>
    simp only [ak, dm x (by simp [Op.operands])] at h ⊢
    repeat' (split at h)
    all_goals (first | (cases h; done) | skip)
    simp only [*]
    exact qY hn hG h
  case build ty ps =>
    have he : ku E s ty ps.toList = ku E t ty ps.toList := by
      unfold ku
      rw [ki (fun p hp => dm p.2 (by simp only [Op.operands, List.mem_toArray, List.mem_map]; exact ⟨p, hp, rfl⟩))]
    simp only [ak, he] at h ⊢
    split at h
    · injection h with h; injection h with h1 h2; subst h1 h2; (try simp only [*]); exact ⟨_, rfl, .put hn hG _ _⟩
    · cases h
  case buildSlice ty len ps =>
    have he : bN E s ty len ps.toList = bN E t ty len ps.toList := by
      unfold bN
      rw [ki (fun p hp => dm p.2 (by simp only [Op.operands, List.mem_toArray, List.mem_map]; exact ⟨p, hp, rfl⟩))]
    simp only [ak, he] at h ⊢
    split at h
    · injection h with h; injection h with h1 h2; subst h1 h2; (try simp only [*]); exact ⟨_, rfl, .put hn hG _ _⟩
    · cases h
  case load ty x =>
    simp only [ak, dm x (by simp [Op.operands])] at h ⊢
    rw [zu hG ty _ (fun k off e => hB k off ⟨x, by simp [Op.operands], by rw [dm x (by simp [Op.operands])]; exact e⟩)] at h
    split at h
    · injection h with h; injection h with h1 h2; subst h1 h2; (try simp only [*]); exact ⟨_, rfl, .put hn hG _ _⟩
    · cases h
  case store ty x y =>
    simp only [ak, dm x (by simp [Op.operands]), dm y (by simp [Op.operands])] at h ⊢
    split at h
    · rename_i s1 hs
      injection h with h; injection h with h1 h2; subst h1 h2
      obtain ⟨t', h3, h4⟩ := zy (al := false) (dst := none) hG (fun k off e => hB k off ⟨x, by simp [Op.operands], by rw [dm x (by simp [Op.operands])]; exact e⟩) hs
      rw [h3]
      exact ⟨_, rfl, h4⟩
    · cases h
  case binOp op a x y b =>
    simp only [ak, dm x (by simp [Op.operands]), dm y (by simp [Op.operands])] at h ⊢
    repeat' (split at h)
    all_goals (first | (cases h; done) | skip)
    all_goals (injection h with h; injection h with h1 h2; subst h1 h2; (try simp only [*]); exact ⟨_, rfl, .put hn hG _ _⟩)
  case unOp op a x =>
    simp only [ak, dm x (by simp [Op.operands])] at h ⊢
    repeat' (split at h)
    all_goals (first | (cases h; done) | skip)
    all_goals (injection h with h; injection h with h1 h2; subst h1 h2; (try simp only [*]); exact ⟨_, rfl, .put hn hG _ _⟩)
  case nilCheck x =>
    simp only [ak, dm x (by simp [Op.operands])] at h ⊢
    repeat' (split at h)
    all_goals (first | (cases h; done) | skip)
    all_goals (injection h with h; injection h with h1 h2; subst h1 h2; (try simp only [*]); exact ⟨_, rfl, .put hn hG _ _⟩)
  case convert a b x =>
    simp only [ak, dm x (by simp [Op.operands]), tD hG] at h ⊢
    repeat' (split at h)
    all_goals (first | (cases h; done) | skip)
    all_goals (injection h with h; injection h with h1 h2; subst h1 h2; (try simp only [*]); exact ⟨_, rfl, .put hn hG _ _⟩)
  case makeFunc fo a b =>
    cases fo with
    | func g =>
      have h1 : js E s.ae a.toList = js E t.ae a.toList := eN fun y hy => dm y (by simp only [Op.operands, Array.mem_append]; exact .inl (by simpa using hy))
      have h2 : js E s.ae b.toList = js E t.ae b.toList := eN fun y hy => dm y (by simp only [Op.operands, Array.mem_append]; exact .inr (by simpa using hy))
      simp only [ak, h1, h2] at h ⊢
      repeat' (split at h)
      all_goals (first | (cases h; done) | skip)
      all_goals (injection h with h; injection h with h1 h2; subst h1 h2; (try simp only [*]); exact ⟨_, rfl, .put hn hG _ _⟩)
    | _ => simp [ak] at h
  case fieldAddr a x j =>
    simp only [ak, dm x (by simp [Op.operands])] at h ⊢
    repeat' (split at h)
    all_goals (first | (cases h; done) | skip)
    all_goals (injection h with h; injection h with h1 h2; subst h1 h2; (try simp only [*]); exact ⟨_, rfl, .put hn hG _ _⟩)
  case field a x j =>
    simp only [ak, dm x (by simp [Op.operands])] at h ⊢
    repeat' (split at h)
    all_goals (first | (cases h; done) | skip)
    all_goals (injection h with h; injection h with h1 h2; subst h1 h2; (try simp only [*]); exact ⟨_, rfl, .put hn hG _ _⟩)
  case indexAddr a x y =>
    simp only [ak, dm x (by simp [Op.operands]), dm y (by simp [Op.operands])] at h ⊢
    repeat' (split at h)
    all_goals (first | (cases h; done) | skip)
    all_goals (injection h with h; injection h with h1 h2; subst h1 h2; (try simp only [*]); exact ⟨_, rfl, .put hn hG _ _⟩)
  case index a x y =>
    simp only [ak, dm x (by simp [Op.operands]), dm y (by simp [Op.operands])] at h ⊢
    repeat' (split at h)
    all_goals (first | (cases h; done) | skip)
    all_goals (injection h with h; injection h with h1 h2; subst h1 h2; (try simp only [*]); exact ⟨_, rfl, .put hn hG _ _⟩)
  case slice a x lo hi mx =>
    have h1 : jl E s.ae lo = jl E t.ae lo := by
      cases lo with
      | none => rfl
      | some y => simp only [jl]; rw [dm y (by simp [Op.operands])]
    have h2 : jl E s.ae hi = jl E t.ae hi := by
      cases hi with
      | none => rfl
      | some y => simp only [jl]; rw [dm y (by simp [Op.operands])]
    simp only [ak, dm x (by simp [Op.operands]), h1, h2] at h ⊢
    repeat' (split at h)
    all_goals (first | (cases h; done) | skip)
    all_goals (injection h with h; injection h with h1 h2; subst h1 h2; (try simp only [*]); exact ⟨_, rfl, .put hn hG _ _⟩)
  case extract x i =>
    simp only [ak, dm x (by simp [Op.operands])] at h ⊢
    repeat' (split at h)
    all_goals (first | (cases h; done) | skip)
    all_goals (injection h with h; injection h with h1 h2; subst h1 h2; (try simp only [*]); exact ⟨_, rfl, .put hn hG _ _⟩)
  case makeSlice ty x y =>
    simp only [ak, kw, dm x (by simp [Op.operands]), dm y (by simp [Op.operands]), hG] at h ⊢
    repeat' (split at h)
    all_goals (first | (cases h; done) | skip)
    all_goals (injection h with h; injection h with h1 h2; subst h1 h2)
    all_goals (simp only [*])
    all_goals (refine ⟨_, rfl, ?_⟩)
    all_goals (have e : ∀ o, t.cI o = t.aX (t.G ++ [o]) := fun o => rfl)
    all_goals (have e' : ∀ o, s.cI o = s.aX (t.G ++ [o]) := fun o => by rw [← hG]; rfl)
    all_goals (try rw [e, e'])
    all_goals (exact bA.cB (al := false) hn _ dst _)
  case lookup ty x y ok =>
    simp only [ak, dm x (by simp [Op.operands]), dm y (by simp [Op.operands]), vz hG] at h ⊢
    split at h
    · injection h with h; injection h with h1 h2; subst h1 h2; (try simp only [*]); exact ⟨_, rfl, .put hn hG _ _⟩
    · cases h
  case mapUpdate ty x y z =>
    simp only [ak, dm x (by simp [Op.operands]), dm y (by simp [Op.operands]), dm z (by simp [Op.operands])] at h ⊢
    split at h
    · rename_i s1 hs
      injection h with h; injection h with h1 h2; subst h1 h2
      obtain ⟨t', h3, h4⟩ := oR (al := false) (dst := none) hG hs
      rw [h3]
      exact ⟨_, rfl, h4⟩
    · cases h
  case insert ty x y z =>
    simp only [ak, dm x (by simp [Op.operands]), dm y (by simp [Op.operands]), dm z (by simp [Op.operands])] at h ⊢
    split at h
    · rename_i s1 hs
      injection h with h; injection h with h1 h2; subst h1 h2
      obtain ⟨t', h3, h4⟩ := oR (al := false) (dst := none) hG hs
      rw [h3]
      exact ⟨_, rfl, h4⟩
    · cases h
  case entry x =>
    simp only [ak, dm x (by simp [Op.operands])] at h ⊢
    have e : pU E s (ba E t.ae x) = pU E t (ba E t.ae x) := by unfold pU; rw [hG]
    rw [e] at h
    split at h
    · injection h with h; injection h with h1 h2; subst h1 h2; (try simp only [*]); exact ⟨_, rfl, .put hn hG _ _⟩
    · cases h
  case mapEntry ty x y =>
    simp only [ak, dm x (by simp [Op.operands]), dm y (by simp [Op.operands])] at h ⊢
    unfold eE at h ⊢
    rw [← hG]
    repeat' (split at h)
    all_goals (first | (cases h; done) | skip)
    rename_i gR
    repeat' (split at gR)
    all_goals (first | (cases gR; done) | skip)
    injection gR with gR; injection gR with h3 gR; injection gR with h4 h5
    injection h with h; injection h with h1 h2; subst h1 h2 h3 h4 h5
    simp only [*, if_true]
    exact ⟨_, rfl, bA.cB (al := false) hn _ dst _⟩
  case entryStore ty x y z =>
    simp only [ak, dm x (by simp [Op.operands]), dm y (by simp [Op.operands]), dm z (by simp [Op.operands])] at h ⊢
    unfold dj at h ⊢
    rw [← hG]
    repeat' (split at h)
    all_goals (first | (cases h; done) | skip)
    rename_i gR
    repeat' (split at gR)
    all_goals (first | (cases gR; done) | skip)
    injection gR with gR; injection gR with h3 h5
    injection h with h; injection h with h1 h2; subst h1 h2 h3 h5
    simp only [*]
    exact ⟨_, rfl, .aX _ _⟩
  case range ty x =>
    simp only [ak, dm x (by simp [Op.operands])] at h ⊢
    repeat' (split at h)
    all_goals (first | (cases h; done) | skip)
    · injection h with h; injection h with h1 h2; subst h1 h2
      (try simp only [*])
      refine ⟨_, rfl, ?_⟩
      have e : ∀ o, t.cI o = t.aX (s.G ++ [o]) := fun o => by rw [hG]; rfl
      rw [e, ← hG]
      exact bA.cB (al := false) hn _ dst _
    · rename_i hk hg
      injection h with h; injection h with h1 h2; subst h1 h2
      have vS := hg
      rw [hG] at vS
      simp only [hk, vS]
      refine ⟨_, rfl, ?_⟩
      have e : ∀ o, t.cI o = t.aX (s.G ++ [o]) := fun o => by rw [hG]; rfl
      rw [e, ← hG]
      exact bA.cB (al := false) hn _ dst _
  case next x b =>
    cases b with
    | false => simp [ak] at h
    | true =>
      simp only [ak, dm x (by simp [Op.operands])] at h ⊢
      split at h
      · rename_i s1 hs
        injection h with h; injection h with h1 h2; subst h1 h2
        obtain ⟨t', h3, h4⟩ := Bt (al := false) hn hG hs
        rw [h3]
        exact ⟨_, rfl, h4⟩
      · cases h
  case makeMap ty r =>
    cases r with
    | none =>
      simp only [ak] at h ⊢
      injection h with h; injection h with h1 h2; subst h1 h2
      refine ⟨_, rfl, ?_⟩
      have := bA.cB (al := false) hn (s.G ++ [.map []]) dst (.v (.map s.G.length))
      have e : ∀ o, t.cI o = t.aX (s.G ++ [o]) := fun o => by rw [hG]; rfl
      rw [e, ← hG]
      exact this
    | some _ => simp [ak] at h
  case call cl =>
    obtain ⟨callee, args, tys⟩ := cl
    cases callee with
    | builtin b =>
      have h1 : js E s.ae args.toList = js E t.ae args.toList := eN fun y hy => dm y (by simp [Op.operands, Call.operands]; simpa using hy)
      cases hf : eY E f s { dst := dst, op := .call { callee := .builtin b, args := args, argTypes := tys }, type := ty, pos := pos, after := after, guard := guard } with
      | some r =>
        simp only [ak, hf] at h
        obtain ⟨t', q1, q2⟩ := tE (al := bI (.call { callee := .builtin b, args := args, argTypes := tys })) hn hG dm (c := r.1) (s' := r.2) hf
        cases h
        obtain ⟨a2, t2, ho⟩ := kK hf
        cases ho
        refine ⟨t', by simp only [ak, q1], ?_⟩
        exact q2
      | none =>
      have Pb := rW hn hG dm hf
      simp only [ak, hf, Pb, h1] at h ⊢
      split at h
      · (try simp only [*])
        obtain ⟨t', h3, h4⟩ := vy (al := false) hn hG h
        refine ⟨t', h3, ?_⟩
        have : (!pO (.call { callee := .builtin b, args := args, argTypes := tys })) = Im b ∨ Im b = false := by cases b <;> simp [pO, Im]
        rcases this with this | this
        · rw [this]; exact h4
        · obtain ⟨pre, preB, G, p1, p2, p3⟩ := h4
          exact ⟨pre, preB, G, p1, fun _ => p2 this, p3⟩
      · cases h
    | _ => simp [ak] at h
  all_goals (simp [ak] at h)
theorem fB {f : FuncId} {c : Bool} {s' : St} (hn : s.n = t.n) (hG : s.G = t.G) (hB : cF s.boxes = cF t.boxes) (dm : ∀ y ∈ o.op.operands, ba E s.ae y = ba E t.ae y)
    (h : ak E f s o = some (c, s')) : ∃ t', ak E f t o = some (c, t') ∧ bA (bI o.op) (!pO o.op) o.dst s t s' t' :=
  oS hn hG (fun k _ _ => by rw [hB]) dm h
end
end Go.Am
namespace Go.Am
open Go
structure mD (s t : St) : Prop where
  l : lk s.ae = lk t.ae
  b : cF s.boxes = cF t.boxes
  G : s.G = t.G
  m : s.marks = t.marks
  ro : s.ro = t.ro
  n : s.n = t.n
theorem mD.refl (s : St) : mD s s := ⟨rfl, rfl, rfl, rfl, rfl, rfl⟩
theorem mD.symm {s t : St} (h : mD s t) : mD t s := ⟨h.l.symm, h.b.symm, h.G.symm, h.m.symm, h.ro.symm, h.n.symm⟩
theorem mD.trans {s t u : St} (h : mD s t) (k : mD t u) : mD s u := ⟨h.l.trans k.l, h.b.trans k.b, h.G.trans k.G, h.m.trans k.m, h.ro.trans k.ro, h.n.trans k.n⟩
theorem kj {a b : aT} {e : Nat} (h : lk a e = lk b e) : ∀ pre : aT, lk (pre ++ a) e = lk (pre ++ b) e
  | [] => h
  | .put d x :: pre => by
    simp only [List.cons_append, lk]
    rw [kj h pre]
  | .kill d :: pre => by
    simp only [List.cons_append, lk]
    rw [kj h pre]
theorem tF {a b : bU} {e : Nat} (h : cF a e = cF b e) : ∀ pre : bU, cF (pre ++ a) e = cF (pre ++ b) e
  | [] => h
  | (d, x) :: pre => by
    simp only [List.cons_append, cF]
    rw [tF h pre]
theorem mD.dO {s t : St} (h : mD s t) (pre : aT) (preB : bU) (G : List GO) : mD (s.dO pre preB G) (t.dO pre preB G) :=
  ⟨funext fun e => kj (by rw [h.l]) pre, funext fun e => tF (by rw [h.b]) preB, rfl, h.m, h.ro, h.n⟩
theorem FI {E : Env} {a b : aT} {x : Operand} (h : ∀ t, x = .tmp t → lk a t = lk b t) : ba E a x = ba E b x := by
  cases x with
  | tmp t => exact h t rfl
  | _ => rfl
theorem mD.ba {E : Env} {s t : St} (h : mD s t) (x : Operand) : ba E s.ae x = ba E t.ae x := FI fun e _ => by rw [h.l]
section yF
variable {E : Env} {R : af} {w : World} {β : Nat → Nat} {s t : St} {a : Act}
theorem aJ.eqv (h : aJ E R w β s a) (e : mD s t) : aJ E R w β t a where
  g := by rw [← e.G]; exact h.g
  b := ⟨fun k cs hk => h.b.box k cs (by rw [e.b]; exact hk), fun k k' c c' h1 h2 => h.b.inj k k' c c' (by rw [e.b]; exact h1) (by rw [e.b]; exact h2)⟩
  t := fun i hi => by
    rw [← e.l] at hi ⊢
    exact h.t i hi
  n := by rw [← e.n]; exact h.n
  d := by rw [← e.m]; exact h.d
theorem sf {bx Cn : bU} (h : cF bx = cF Cn) {b : Nat} (k : Own R β bx b) : Own R β Cn b := by
  rcases k with k | ⟨j, cs, h1, h2⟩
  · exact .inl k
  · exact .inr ⟨j, cs, by rw [← h]; exact h1, h2⟩
theorem Step.eqv {R' : af} {w' : World} {β' : Nat → Nat} {bx Cn cx Ub : bU} (h : Step R w β bx R' w' β' Cn) (h1 : cF bx = cF cx) (h2 : cF Cn = cF Ub) : Step R w β cx R' w' β' Ub :=
  ⟨h.ext, h.os, h.tape, h.output, h.size, fun b hb hn => h.bL b hb (fun ho => hn (sf h1 ho)), fun b hb ho => sf h1 (h.own b hb (sf h2.symm ho)), fun b o hi hb hn => h.im b o hi hb (fun ho => hn (sf h1 ho))⟩
end yF
section ops
variable {E : Env} {s t : St} {f : FuncId} {o : Oper} {K K' : St → Prop}
def Inv (K : St → Prop) : Prop := ∀ s t, mD s t → K s → K t
theorem zz {op : Op} (h : pO op = true) : bI op = false := by
  cases op <;> simp_all [pO, bI]
theorem qm (hn : s.n = t.n) (hG : s.G = t.G) (hB : cF s.boxes = cF t.boxes) (dm : ∀ y ∈ o.op.operands, ba E s.ae y = ba E t.ae y) (h : ir E f o K s)
    (hK : ∀ pre preB G, Og (bI o.op) o.dst pre → (pO o.op = true → preB = [] ∧ G = s.G) → K (s.dO pre preB G) → K' (t.dO pre preB G)) : ir E f o K' t := by
  unfold ir at h ⊢
  split at h
  · rename_i x args tys ho
    have h1 : ba E s.ae x = ba E t.ae x := dm x (by rw [ho]; simp [Op.operands, Call.operands])
    have h2 : js E s.ae args.toList = js E t.ae args.toList := eN fun y hy => dm y (by rw [ho]; simp [Op.operands, Call.operands]; exact .inr (by simpa using hy))
    try simp only [ho]
    rw [← h1, ← h2, ← hG]
    split at h
    · refine cq.mono h fun r G' hk => ?_
      obtain ⟨pre, preB, G, p1, p2, p3, p4⟩ := bA.cB (s := s) (t := t) (al := bI o.op) hn G' o.dst (.v r)
      rw [p3] at hk
      rw [p4]
      exact hK pre preB G p1 (fun e => by rw [ho] at e; simp [pO] at e) hk
    · refine iS.mono h fun r G' hk => ?_
      obtain ⟨pre, preB, G, p1, p2, p3, p4⟩ := bA.cB (s := s) (t := t) (al := bI o.op) hn G' o.dst (.v (.bool r))
      rw [p3] at hk
      rw [p4]
      exact hK pre preB G p1 (fun e => by rw [ho] at e; simp [pO] at e) hk
    · exact h.elim
  · exact h.elim
  · split at h
    · rename_i c s' hs
      obtain ⟨t', h1, pre, preB, G, p1, p2, p3, p4⟩ := fB hn hG hB dm hs
      rw [h1]
      obtain ⟨rfl, hk⟩ := h.out
      refine cL.mk rfl ?_
      rw [p3] at hk
      rw [p4]
      exact hK pre preB G p1 (fun e => ⟨(p2 (by simp [e])).1, (p2 (by simp [e])).2.1⟩) hk
    · exact h.elim
theorem qn (h : ir E f o K s) (hK : ∀ s, K s → K' s) : ir E f o K' s :=
  qm rfl rfl rfl (fun _ _ => rfl) h fun _ _ _ _ _ hk => hK _ hk
theorem tG (h : ir E f o K s) (e : mD s t) (hK : Inv K) : ir E f o K t :=
  qm e.n e.G e.b (fun y _ => e.ba y) h fun _ _ _ _ _ hk => hK _ _ (e.dO _ _ _) hk
def yG (ops : List Oper) (s : St) (o : Oper) : Option Bool := match o.guard with
  | none => some true
  | some (j, want) => match lP ops j with
    | some d => match lk s.ae d with
      | .v (.bool b) => some (b == want)
      | .v (.bC []) => some false
      | _ => none
    | none => none
theorem zA (s : St) {d : Tmp} {x : SV} (h : lk s.ae d = x) : mD s (s.put (some d) x) := by
  simp only [St.put]
  split
  · refine ⟨funext fun e => ?_, rfl, rfl, rfl, rfl, rfl⟩
    by_cases k : d = e
    · subst k; rw [ar]; exact h
    · rw [aC k]
  · exact mD.refl s
theorem mD.put {s t : St} (h : mD s t) (d : Option Tmp) (x : SV) : mD (s.put d x) (t.put d x) := by
  obtain ⟨pre, preB, G, _, _, p3, p4⟩ := bA.put (s := s) (t := t) (al := false) (w := false) h.n h.G d x
  rw [p3, p4]
  exact h.dO _ _ _
theorem eA {ops : List Oper} (hK : Inv K) : bO E f ops o K s ↔ (yG ops s o = some true ∧ ir E f o K s) ∨ (yG ops s o = some false ∧ K (s.put o.dst (.v ea))) := by
  unfold bO yG
  cases hg : o.guard with
  | none => simp
  | some p =>
    obtain ⟨j, want⟩ := p
    simp only
    cases hd : lP ops j with
    | none => simp
    | some d =>
      simp only
      cases hl : lk s.ae d with
      | none => simp
      | lp _ _ => simp
      | v a =>
        cases a with
        | bool b =>
          have e1 : b = want → mD s (s.put (some d) (.v (.bool want))) := fun e => zA s (by rw [hl, e])
          have e2 : b = (!want) → mD s (s.put (some d) (.v (.bool (!want)))) := fun e => zA s (by rw [hl, e])
          constructor
          · intro ⟨h1, h2⟩
            by_cases e : b = want
            · exact .inl ⟨by simp [e], tG (h1 e) (e1 e).symm hK⟩
            · have e' : b = (!want) := by cases b <;> cases want <;> simp_all
              exact .inr ⟨by simp [e], hK _ _ ((e2 e').symm.put _ _) (h2 e')⟩
          · rintro (⟨h1, h2⟩ | ⟨h1, h2⟩)
            · have e : b = want := by simpa using h1
              exact ⟨fun e => tG h2 (e1 e) hK, fun e' => by subst e; cases b <;> cases e'⟩
            · have e : ¬ b = want := by simpa using h1
              exact ⟨fun k => absurd k e, fun e' => hK _ _ ((e2 e').put _ _) h2⟩
        | bC vs => cases vs <;> simp
        | _ => simp
theorem bP {ops : List Oper} (h : bO E f ops o K s) (hK : ∀ s, K s → K' s) : bO E f ops o K' s := by
  unfold bO at h ⊢
  split at h
  · exact qn h hK
  · split at h
    · exact h.elim
    · split at h
      · exact ⟨fun e => qn (h.1 e) hK, fun e => hK _ (h.2 e)⟩
      · exact hK _ h
      · exact h.elim
theorem xD {ops : List Oper} (e : mD s t) : yG ops s o = yG ops t o := by
  unfold yG
  rw [e.l]
theorem zB {ops : List Oper} (hK : Inv K) : Inv (bO E f ops o K) := fun s t e h => by
  rw [eA hK] at h ⊢
  rcases h with ⟨h1, h2⟩ | ⟨h1, h2⟩
  · exact .inl ⟨by rw [← xD e]; exact h1, tG h2 e hK⟩
  · exact .inr ⟨by rw [← xD e]; exact h1, hK _ _ (e.put _ _) h2⟩
end ops
end Go.Am
