/- The abstract machine: regions in the order of the text, calls, control. -/
import Derived.Test.YtpngggdfbbdfaaaDoorAmO
import Derived.RangeFuncCalls
import Derived.RangeFuncRecord
import Derived.RangeFuncIn
set_option linter.all false
namespace Go.Am
open Go

/-- The fence of a frame: a function's, or a round's. -/
def FenceOk (R : Realm) (ro : Option Nat) (F : Fence) : Prop := match ro with
  | none => F = Fence.wide
  | some id => ∃ b, nth R.obj id = some (.blk b) ∧ F = Fence.wide.inRound b

theorem FenceOk.mono {R R' : Realm} {w w' : World} (e : Ext R w R' w') {ro : Option Nat} {F : Fence} (h : FenceOk R ro F) : FenceOk R' ro F := by
  cases ro with
  | none => exact h
  | some id => obtain ⟨b, h1, h2⟩ := h; exact ⟨b, e.blk h1, h2⟩

theorem FenceOk.fn {R : Realm} {ro : Option Nat} {F : Fence} (h : FenceOk R ro F) (f : FuncId) : F.fn f := by
  cases ro with
  | none => rw [show F = Fence.wide from h]; trivial
  | some id => obtain ⟨b, _, h2⟩ := h; rw [h2]; trivial

theorem FenceOk.depth {R : Realm} {ro : Option Nat} {F : Fence} (h : FenceOk R ro F) : F.depth = none := by
  cases ro with
  | none => rw [show F = Fence.wide from h]; rfl
  | some id => obtain ⟨b, _, h2⟩ := h; rw [h2]; rfl

theorem FenceOk.calls {R : Realm} {ro : Option Nat} {F : Fence} (h : FenceOk R ro F) {n : Nat} {P : Program} {f : FuncId} {args : Array Value} {w : World} {Q : Ending → World → Prop} (hc : CallsIn Fence.wide n P f args w Q) : CallsIn F n P f args w Q := by
  cases ro with
  | none => rw [show F = Fence.wide from h]; exact hc
  | some id => obtain ⟨b, _, h2⟩ := h; rw [h2]; exact hc

/-- What is known when a piece of code has been left. -/
def Res (E : Env) (R : Realm) (w : World) (β : Nat → Nat) (s : St) (Q : Exit → St → Prop) : Exit → Act → World → Prop :=
  fun e a' w' => ∃ s' R' β', Q e s' ∧ Rep E R' w' β' s' a' ∧ Step R w β s.boxes R' w' β' s'.boxes ∧ s'.ro = s.ro

/-- The weakest precondition, in terms of the abstract machine's states. -/
def AWp (E : Env) (c : Code) (Q : Exit → St → Prop) (s : St) : Prop :=
  ∀ (R : Realm) (w : World) (β : Nat → Nat) (a : Act) (F : Fence), Rep E R w β s a → FenceOk R s.ro F → c.wpIn F 0 E.P (Res E R w β s Q) a w

theorem AWp.mono {E : Env} {c : Code} {Q Q' : Exit → St → Prop} {s : St} (h : AWp E c Q s) (hq : ∀ e s, Q e s → Q' e s) : AWp E c Q' s :=
  fun R w β a F hr hf => wpIn_mono (h R w β a F hr hf) fun e _ _ ⟨s', R', β', h1, h2⟩ => ⟨s', R', β', hq e s' h1, h2⟩

section rules
variable {E : Env} {Q : Exit → St → Prop} {s : St}

theorem AWp.skip (h : Q .normal s) : AWp E .skip Q s := fun _ _ _ _ _ hr _ => wpIn_skip ⟨s, _, _, h, hr, Step.refl _ _ _ _, rfl⟩
theorem AWp.label {l : Nat} (h : Q .normal s) : AWp E (.label l) Q s := fun _ _ _ _ _ hr _ => wpIn_label ⟨s, _, _, h, hr, Step.refl _ _ _ _, rfl⟩
theorem AWp.exit {id : Nat} (h : Q (.exit id) s) : AWp E (.exit id) Q s := fun _ _ _ _ _ hr _ => wpIn_exit ⟨s, _, _, h, hr, Step.refl _ _ _ _, rfl⟩
theorem AWp.ret (h : Q .ret s) : AWp E .ret Q s := fun _ _ _ _ _ hr _ => wpIn_ret ⟨s, _, _, h, hr, Step.refl _ _ _ _, rfl⟩

/-- What follows a piece of code that ends normally. -/
def thenQ (N : St → Prop) (Q : Exit → St → Prop) : Exit → St → Prop
  | .normal, s => N s
  | e, s => Q e s

theorem AWp.seq {x y : Code} (h : AWp E x (thenQ (AWp E y Q) Q) s) : AWp E (.seq x y) Q s := fun R w β a F hr hf => by
  refine wpIn_seq (wpIn_mono (h R w β a F hr hf) ?_)
  rintro e a' w' ⟨s', R', β', hq, hr', hst, hro⟩
  cases e with
  | normal =>
    refine wpIn_mono (hq R' w' β' a' F hr' (by rw [hro]; exact hf.mono hst.ext)) ?_
    rintro e a'' w'' ⟨s'', R'', β'', hq'', hr'', hst'', hro''⟩
    exact ⟨s'', R'', β'', hq'', hr'', hst.trans hst'', hro''.trans hro⟩
  | _ => exact ⟨s', R', β', hq, hr', hst, hro⟩

theorem AWp.cond {c : Operand} {x y : Code} {b : Bool} (hc : evO E s.slots c = .v (.bool b)) (h1 : b = true → AWp E x Q s) (h2 : b = false → AWp E y Q s) : AWp E (.cond c x y) Q s := fun R w β a F hr hf => by
  have rc := evO_rel hr c
  rw [hc] at rc
  have hb : a.eval c = .bool b := by
    have rc' : Rel R w (.bool b) (a.eval c) := rc
    generalize a.eval c = v at rc'
    cases rc'
    rfl
  exact wpIn_cond_split hb (fun e => h1 e R w β a F hr hf) (fun e => h2 e R w β a F hr hf)

def blockQ (id : Nat) (Q : Exit → St → Prop) : Exit → St → Prop
  | .exit id', s => (id' = id → Q .normal s) ∧ (id' ≠ id → Q (.exit id') s)
  | e, s => Q e s

theorem AWp.block {id : Nat} {c : Code} (h : AWp E c (blockQ id Q) s) : AWp E (.block id c) Q s := fun R w β a F hr hf => by
  refine wpIn_block (wpIn_mono (h R w β a F hr hf) ?_)
  rintro e a' w' ⟨s', R', β', hq, rest⟩
  cases e with
  | exit id' =>
    by_cases e : id' = id
    · simp only [Exit.inBlock, e, if_true]
      exact ⟨s', R', β', hq.1 e, rest⟩
    · simp only [Exit.inBlock, e, if_false]
      exact ⟨s', R', β', hq.2 e, rest⟩
  | _ => exact ⟨s', R', β', hq, rest⟩

theorem AWp.scope_label {c : Code} (h : AWp E c Q s) : AWp E c Q s := h

/-- A loop, its measure a number beside the states. -/
theorem wpIn_loopN {F : Fence} {n : Nat} {P : Program} {Q : Exit → Act → World → Prop} {c : Code} (I : Nat → Act → World → Prop)
    (round : ∀ m a w, I m a w → c.wpIn F n P (Exit.then (fun a' w' => ∃ m', m' < m ∧ I m' a' w') Q) a w) : ∀ {m : Nat} {a : Act} {w : World}, I m a w → (Code.loop c).wpIn F n P Q a w := by
  intro m a w h₀ b k cs hro hb hr
  have key : ∀ j a w, I j a w →
      ∃ e a' w', Q e a' w' ∧ ArrivesIn (Machine.fenced P F) P (lone (b.atR a (.code c :: .inLoop c :: k)) cs w) b k cs e a' w' := by
    intro j
    induction j using Nat.strongRecOn with
    | _ j ih =>
      intro a w hI
      obtain ⟨e, a₁, w₁, hq, harr⟩ := round j a w hI b (.inLoop c :: k) cs hro hb hr
      cases e with
      | normal =>
        obtain ⟨m', hlt, hI₁⟩ := hq
        obtain ⟨e₂, a₂, w₂, hq₂, harr₂⟩ := ih m' hlt a₁ w₁ hI₁
        exact ⟨e₂, a₂, w₂, hq₂, .of_steps (StepsIn.trans harr (.one (fenced_calm hb hr rfl) stepR_inLoop)) harr₂⟩
      | exit id => exact ⟨_, a₁, w₁, hq, .pass (x := .inLoop c) rfl (fun _ _ => .inl (by simp)) harr⟩
      | goto l => exact ⟨_, a₁, w₁, hq, .pass (x := .inLoop c) rfl (fun _ _ => .inl (by simp)) harr⟩
      | ret => exact ⟨_, a₁, w₁, hq, .pass (x := .inLoop c) rfl (fun _ _ => .inl (by simp)) harr⟩
      | panic ch => exact ⟨_, a₁, w₁, hq, .pass (x := .inLoop c) rfl (fun _ _ => .inl (by simp)) harr⟩
      | outgrown => exact ⟨_, a₁, w₁, hq, .pass (x := .inLoop c) rfl (fun _ _ => .inl (by simp)) harr⟩
  obtain ⟨e, a', w', hq, harr⟩ := key _ a w h₀
  exact ⟨e, a', w', hq, .of_steps (.one (fenced_calm hb hr rfl) stepR_loop) harr⟩

/-- A loop: what holds of the state when m rounds at most are to come. -/
theorem AWp.loop {c : Code} (I : Nat → St → Prop) (round : ∀ m s, I m s → AWp E c (thenQ (fun s' => ∃ m', m' < m ∧ I m' s') Q) s) {m : Nat} (h : I m s) : AWp E (.loop c) Q s := fun R w β a F hr hf => by
  refine wpIn_loopN (fun m a' w' => ∃ s' R' β', I m s' ∧ Rep E R' w' β' s' a' ∧ Step R w β s.boxes R' w' β' s'.boxes ∧ s'.ro = s.ro) ?_ ⟨s, R, β, h, hr, Step.refl _ _ _ _, rfl⟩
  rintro m a' w' ⟨s', R', β', hI, hr', hst, hro⟩
  refine wpIn_mono (round m s' hI R' w' β' a' F hr' (by rw [hro]; exact hf.mono hst.ext)) ?_
  rintro e a'' w'' ⟨s'', R'', β'', hq, hr'', hst'', hro''⟩
  cases e with
  | normal =>
    obtain ⟨m', hlt, hI'⟩ := hq
    exact ⟨m', hlt, s'', R'', β'', hI', hr'', hst.trans hst'', hro''.trans hro⟩
  | _ => exact ⟨s'', R'', β'', hq, hr'', hst.trans hst'', hro''.trans hro⟩

end rules

/-- No goto leaves it. -/
def noGoto (Q : Exit → Act → World → Prop) : Exit → Act → World → Prop
  | .goto _, _, _ => False
  | e, a, w => Q e a w

section scopes
variable {P : Program} {b : Frame} {a : Act} {k : List Item} {cs : List Frame} {w : World} {Q : Exit → Act → World → Prop} {F : Fence} {n : Nat}
theorem stepR_scope {c : Code} : step P (lone (b.atR a (.code (.scope c) :: k)) cs w) = .next (lone (b.atR a (.code c :: .inScope c :: k)) cs w) :=
  step_lone_go (by simp [stepG, stepG.exec, Frame.atR])
theorem stepR_inScope {c : Code} : step P (lone (b.atR a (.inScope c :: k)) cs w) = .next (lone (b.atR a k) cs w) :=
  step_lone_go (by simp [stepG, stepG.exec, Frame.atR])
theorem wpIn_scope {c : Code} (h : c.wpIn F n P (noGoto Q) a w) : (Code.scope c).wpIn F n P Q a w := by
  intro b k cs hro hb hr
  have h0 : (lone (b.atR a (.code (.scope c) :: k)) cs w).fenced P F := fenced_calm hb hr rfl
  obtain ⟨e, a₁, w₁, hq, harr⟩ := h b (.inScope c :: k) cs hro hb hr
  cases e with
  | normal => exact ⟨.normal, a₁, w₁, hq, .head h0 stepR_scope (StepsIn.trans harr (.one (fenced_calm hb hr rfl) stepR_inScope))⟩
  | exit id =>
    have hx : exitTo id (.inScope c :: k) = exitTo id k := by simp [exitTo]
    exact ⟨.exit id, a₁, w₁, hq, fun k' hk => .head h0 stepR_scope (harr.1 k' (by rw [hx]; exact hk)),
        fun hr' hk => let ⟨k₁, h1, h2⟩ := harr.2 hr' (by rw [hx]; exact hk); ⟨k₁, h1, .head h0 stepR_scope h2⟩⟩
  | goto l => exact hq.elim
  | ret => exact ⟨_, a₁, w₁, hq, .of_steps (.one h0 stepR_scope) harr⟩
  | panic ch => exact ⟨_, a₁, w₁, hq, .of_steps (.one h0 stepR_scope) harr⟩
  | outgrown => exact ⟨_, a₁, w₁, hq, .of_steps (.one h0 stepR_scope) harr⟩
end scopes

def scopeQ (Q : Exit → St → Prop) : Exit → St → Prop
  | .goto _, _ => False
  | e, s => Q e s

theorem AWp.scope {E : Env} {c : Code} {Q : Exit → St → Prop} {s : St} (h : AWp E c (scopeQ Q) s) : AWp E (.scope c) Q s := fun R w β a F hr hf => by
  refine wpIn_scope (wpIn_mono (h R w β a F hr hf) ?_)
  rintro e a' w' ⟨s', R', β', hq, rest⟩
  cases e with
  | goto l => exact hq.elim
  | _ => exact ⟨s', R', β', hq, rest⟩

/-! ### Calls -/

def noBox : Boxes := []

/-- What is known when a call has ended. -/
def RetOk (E : Env) (R : Realm) (w : World) (Q : AV → List GO → Prop) : Ending → World → Prop
  | .returned c, w' => ∃ r G' R', Q r G' ∧ Rel R' w' r c ∧ RepG E R' w' G' ∧ Step R w (fun _ => 0) noBox R' w' (fun _ => 0) noBox
  | _, _ => False

/-- What is known when a round has ended. -/
def RoundOk (E : Env) (R : Realm) (w : World) (Q : Bool → List GO → Prop) : Ending → World → Prop
  | .returned c, w' => ∃ r G' R', Q r G' ∧ c = .bool r ∧ RepG E R' w' G' ∧ Step R w (fun _ => 0) noBox R' w' (fun _ => 0) noBox
  | _, _ => False

/-- A round of the loop that is this object: yield returns, and Q holds of what it returns and of the objects. -/
def ARound (E : Env) (id : Nat) (args : List AV) (G : List GO) (Q : Bool → List GO → Prop) : Prop :=
  ∀ (R : Realm) (w : World) (cs : List Value) (b : Nat), RepG E R w G → RelL R w args cs → nth R.obj id = some (.blk b) →
    ∃ r : Loop, w.heap[b]? = some (.loop r) ∧ cs.length = r.params.size ∧
      RoundIn Fence.wide 0 E.P b r.fn ((r.params.zip ⟨cs⟩).foldl (fun tmps (t, a) => tmps.setIfInBounds t a) r.tmps) r.assign r.body w (RoundOk E R w Q)

theorem ARound.mono {E : Env} {id : Nat} {args : List AV} {G : List GO} {Q Q' : Bool → List GO → Prop} (h : ARound E id args G Q) (hq : ∀ r G', Q r G' → Q' r G') : ARound E id args G Q' :=
  fun R w cs b hg hl hb => by
    obtain ⟨r, h1, h2, h3⟩ := h R w cs b hg hl hb
    refine ⟨r, h1, h2, h3.mono fun e w' he => ?_⟩
    cases e with
    | returned c => obtain ⟨r, G', R', k1, k2⟩ := he; exact ⟨r, G', R', hq _ _ k1, k2⟩
    | _ => exact he

def Plain (P : Program) (g : FuncId) : Prop := ∃ fn, P.funcs[g]? = some fn ∧ fn.body.isNone = false ∧ (fn.name == "runtime.NumGoroutine") = false

/-- A function, called with these arguments in these objects, returns, and Q holds of the result and of the objects. -/
def ACalls (E : Env) (g : FuncId) (args : List AV) (G : List GO) (Q : AV → List GO → Prop) : Prop :=
  Plain E.P g ∧ ∀ (R : Realm) (w : World) (cs : List Value), RepG E R w G → RelL R w args cs → CallsIn Fence.wide 0 E.P g ⟨cs⟩ w (RetOk E R w Q)

theorem ACalls.mono {E : Env} {g : FuncId} {args : List AV} {G : List GO} {Q Q' : AV → List GO → Prop} (h : ACalls E g args G Q) (hq : ∀ r G', Q r G' → Q' r G') : ACalls E g args G Q' :=
  ⟨h.1, fun R w cs hg hl => (h.2 R w cs hg hl).mono fun e _ he => by
    cases e with
    | returned c => obtain ⟨r, G', R', h1, h2⟩ := he; exact ⟨r, G', R', hq _ _ h1, h2⟩
    | _ => exact he⟩

theorem own_noBox {R : Realm} {β : Nat → Nat} {b : Nat} (h : Own R β noBox b) : Live R b := by
  rcases h with h | ⟨k, cs, hk, _⟩
  · exact h
  · simp [noBox, lkB] at hk

section calls
variable {E : Env} {R R' : Realm} {w w' : World} {β : Nat → Nat} {s : St} {a : Act} {o : Oper}

/-- The frame of a caller behind a call. -/
theorem Rep.afterCall (h : Rep E R w β s a) {G' : List GO} (hg : RepG E R' w' G') (st : Step R w (fun _ => 0) noBox R' w' (fun _ => 0) noBox) :
    Rep E R' w' β (s.inG G') a ∧ Step R w β s.boxes R' w' β s.boxes := by
  have hbox : ∀ k cs, lkB s.boxes k = some cs → β k < w.heap.size ∧ ¬ Live R (β k) := fun k cs hk => ⟨h.own_lt (.inr ⟨k, cs, hk, rfl⟩), (h.b.box k cs hk).2.2⟩
  have live : ∀ b, b < w.heap.size → Live R' b → Live R b := fun b hb hl => own_noBox (st.own b hb (.inl hl))
  refine ⟨⟨hg, h.b.keep st.ext (fun k cs hk => ?_) (fun k cs o hk hi => ?_) (fun k cs hk hl => live _ (hbox k cs hk).1 hl), h.t.mono st.ext, h.n, h.d.mono st.ext⟩, ?_⟩
  · obtain ⟨h1, h2⟩ := hbox k cs hk
    exact st.keep _ h1 (fun ho => h2 (own_noBox ho))
  · obtain ⟨h1, h2⟩ := hbox k cs hk
    exact st.im _ o hi h1 (fun ho => h2 (own_noBox ho))
  · refine ⟨st.ext, st.os, st.tape, st.output, st.size, fun b hb hn => st.keep b hb (fun ho => hn (.inl (own_noBox ho))), fun b hb ho => ?_, fun b o hi hb hn => st.im b o hi hb (fun ho => hn (.inl (own_noBox ho)))⟩
    rcases ho with ho | ho
    · exact .inl (live b hb ho)
    · exact .inr ho

theorem run_callFunc {P : Program} {g : FuncId} (h : Plain P g) (args : Array Value) (w : World) : (callFunc g args).run P w = .ok (.enter g args) w := by
  obtain ⟨fn, h1, h2, h3⟩ := h
  unfold callFunc
  simp only [Sem.run_bind, run_program, Result.andThen_ok, h1, h2, h3, Bool.false_eq_true, if_false, Sem.run_pure]

/-- What is to be shown of an operation that is carried out in a frame of the fence F. -/
def OpRes (E : Env) (R : Realm) (w : World) (β : Nat → Nat) (s : St) (K : St → Prop) (a' : Act) (w' : World) : Prop :=
  ∃ s' R' β', K s' ∧ Rep E R' w' β' s' a' ∧ Step R w β s.boxes R' w' β' s'.boxes ∧ s'.ro = s.ro

@[simp] theorem ro_put (s : St) (d : Option Tmp) (x : SV) : (s.put d x).ro = s.ro := by
  cases d with
  | none => rfl
  | some d =>
    simp only [St.put]
    split <;> rfl

theorem stepOp_ro {f : FuncId} {c : Bool} {s' : St} (h : stepOp E f s o = some (c, s')) : s'.ro = s.ro := by
  have alloc : ∀ {cs : List AV} {c : Bool} {s' : St}, allocA E f s o.dst cs = some (c, s') → s'.ro = s.ro := by
    intro cs c s' h
    unfold allocA at h
    repeat' (split at h)
    all_goals (first | (cases h; done) | skip)
    all_goals (injection h with h; injection h with _ h; subst h; simp [St.addG, St.inB, St.kill])
  have store : ∀ {t : TypeId} {p x : SV} {s' : St}, storeA E s t p x = some s' → s'.ro = s.ro := by
    intro t p x s' h
    unfold storeA at h
    repeat' (split at h)
    all_goals (first | (cases h; done) | skip)
    all_goals (injection h with h; subst h; rfl)
  have blt : ∀ {b : Builtin} {l : List AV} {tys : List TypeId} {c : Bool} {s' : St}, builtinA E s o.dst b l tys = some (c, s') → s'.ro = s.ro := by
    intro b l tys c s' h
    unfold builtinA at h
    repeat' (split at h)
    all_goals (first | (cases h; done) | skip)
    all_goals (injection h with h; injection h with _ h; subst h; simp [St.inG])
  have update : ∀ {t : TypeId} {m k x : SV} {s' : St}, updateA E s t m k x = some s' → s'.ro = s.ro := by
    intro t m k x s' h
    unfold updateA at h
    repeat' (split at h)
    all_goals (first | (cases h; done) | skip)
    all_goals (injection h with h; subst h; rfl)
  have next : ∀ {x : SV} {s' : St}, nextA s o.dst x = some s' → s'.ro = s.ro := by
    intro x s' h
    unfold nextA at h
    split at h
    · split at h
      · rename_i l pos hg
        cases hb : Nat.blt pos l.length <;> rw [hb] at h <;> simp only [cond_true, cond_false] at h <;> cases h <;> simp [St.inG]
      · cases h
    · cases h
  unfold stepOp at h
  repeat' (split at h)
  all_goals (first | (cases h; done) | exact alloc h | exact blt h | skip)
  all_goals (injection h with h; injection h with _ h; subst h)
  all_goals (first | (simp; done) | (simp [St.addG]; done) | skip)
  all_goals (first | exact store (by assumption) | exact update (by assumption) | exact next (by assumption))

theorem wpIn_stepOp {f : FuncId} {F : Fence} {s' : St} {K : St → Prop} {Qc : Exit → Act → World → Prop} (h : Rep E R w β s a) (hf : FenceOk R s.ro F) (hs : stepOp E f s o = some (true, s')) (hK : K s')
    (nd : ∀ c, o.op ≠ .defer c) (N : Act → World → Prop) (hN : ∀ a' w', OpRes E R w β s K a' w' → N a' w') : o.wpIn F 0 E.P a w N Qc := by
  obtain ⟨nx, x, w', R', β', h1, h2, h3, h4⟩ := stepOp_done h hs
  refine ⟨fun f _ => hf.fn f, ?_⟩
  rw [Oper.semAt_eq _ _ _ nd, h1]
  have : N (a.put o.dst x) w' := hN _ _ ⟨s', R', β', hK, h3, h4, stepOp_ro hs⟩
  rcases h2 with rfl | ⟨rfl, rfl⟩
  · exact this
  · exact this

theorem wpIn_call {F : Fence} {K : St → Prop} {Qc : Exit → Act → World → Prop} (h : Rep E R w β s a) (hf : FenceOk R s.ro F) {fo : Operand} {args : Array Operand} {tys : Array TypeId} (ho : o.op = .call { callee := .value fo, args := args, argTypes := tys })
    {g : FuncId} {first cap l : List AV} (hfo : evO E s.slots fo = .v (.fn g first cap)) (hl : evL E s.slots args.toList = some l)
    (hc : ACalls E g (first ++ l ++ cap) s.G (fun r G' => K ((s.inG G').put o.dst (.v r)))) (N : Act → World → Prop) (hN : ∀ a' w', OpRes E R w β s K a' w' → N a' w') : o.wpIn F 0 E.P a w N Qc := by
  refine ⟨fun f _ => hf.fn f, ?_⟩
  have rf := evO_rel h fo
  rw [hfo] at rf
  have rf' : Rel R w (.fn g first cap) (a.eval fo) := rf
  have rl := evL_rel h hl
  generalize hfv : a.eval fo = fv at rf'
  cases rf' with
  | @fn _ _ _ vs us h1 h2 =>
  have hrun : (o.semAt F.round a.eval).run E.P w = .ok (.enter g ⟨vs ++ args.toList.map a.eval ++ us⟩) w := by
    rw [Oper.semAt_eq _ _ _ (fun c e => by rw [ho] at e; cases e)]
    simp only [execOp, ho, resolve, hfv, Deferred.ofValue, Sem.run_bind, Sem.run_pure, Result.andThen_ok, invoke, array_map_eval]
    have := run_callFunc hc.1 (⟨vs⟩ ++ ⟨args.toList.map a.eval⟩ ++ ⟨us⟩) w
    simpa using this
  rw [hrun]
  refine ⟨fun e => by rw [hf.depth] at e; simp at e, hf.calls ?_⟩
  refine (hc.2 R w (vs ++ args.toList.map a.eval ++ us) h.g ((h1.append rl).append h2)).mono ?_
  intro e w'' he
  cases e with
  | returned c =>
    obtain ⟨r, G', R', hK, hr, hg, st⟩ := he
    obtain ⟨q1, q2⟩ := h.afterCall hg st
    exact hN _ _ ⟨_, R', β, hK, q1.put o.dst (x := .v r) hr, by rw [boxes_put]; exact q2, by rw [ro_put]; rfl⟩
  | panicked c => exact he.elim
  | outgrown => exact he.elim

theorem FenceOk.rounds {R : Realm} {ro : Option Nat} {F : Fence} (h : FenceOk R ro F) {n : Nat} {P : Program} {l : Nat} {f : FuncId} {tmps : Array Value} {as bd : Code} {w : World} {Q : Ending → World → Prop}
    (hc : RoundIn Fence.wide n P l f tmps as bd w Q) : RoundIn F n P l f tmps as bd w Q := by
  cases ro with
  | none => rw [show F = Fence.wide from h]; exact hc
  | some id => obtain ⟨b, _, h2⟩ := h; rw [h2]; exact hc

theorem wpIn_yield {F : Fence} {K : St → Prop} {Qc : Exit → Act → World → Prop} (h : Rep E R w β s a) (hf : FenceOk R s.ro F) {fo : Operand} {args : Array Operand} {tys : Array TypeId} (ho : o.op = .call { callee := .value fo, args := args, argTypes := tys })
    {id : Nat} {l : List AV} (hfo : evO E s.slots fo = .v (.yield id)) (hl : evL E s.slots args.toList = some l)
    (hc : ARound E id l s.G (fun b G' => K ((s.inG G').put o.dst (.v (.bool b))))) (N : Act → World → Prop) (hN : ∀ a' w', OpRes E R w β s K a' w' → N a' w') : o.wpIn F 0 E.P a w N Qc := by
  refine ⟨fun f _ => hf.fn f, ?_⟩
  have rf := evO_rel h fo
  rw [hfo] at rf
  have rf' : Rel R w (.yield id) (a.eval fo) := rf
  have rl := evL_rel h hl
  generalize hfv : a.eval fo = fv at rf'
  cases rf' with
  | @yield _ b hb =>
  obtain ⟨r, hr1, hr2, hr3⟩ := hc R w (args.toList.map a.eval) b h.g rl hb
  have hrun : (o.semAt F.round a.eval).run E.P w = .ok (.round b r.fn ((r.params.zip ⟨args.toList.map a.eval⟩).foldl (fun tmps (t, a) => tmps.setIfInBounds t a) r.tmps) r.assign r.body) w := by
    rw [Oper.semAt_eq _ _ _ (fun c e => by rw [ho] at e; cases e)]
    simp only [execOp, ho, resolve, hfv, Deferred.ofValue, Sem.run_bind, Sem.run_pure, Result.andThen_ok, invoke, array_map_eval]
    have := run_yield (P := E.P) hr1 (args := ⟨args.toList.map a.eval⟩) hr2
    simpa using this
  rw [hrun]
  refine ⟨fun e => by rw [hf.depth] at e; simp at e, hf.rounds (hr3.mono ?_)⟩
  intro e w'' he
  cases e with
  | returned c =>
    obtain ⟨r, G', R', hK, rfl, hg, st⟩ := he
    obtain ⟨q1, q2⟩ := h.afterCall hg st
    exact hN _ _ ⟨_, R', β, hK, q1.put o.dst (x := .v (.bool r)) (Rel.bool r), by rw [boxes_put]; exact q2, by rw [ro_put]; rfl⟩
  | panicked c => exact he.elim
  | outgrown => exact he.elim

end calls

/-! ### Regions -/

def dstOf (ops : List Oper) (j : Nat) : Option Tmp := match nth ops j with
  | some o => o.dst
  | none => none

/-- What an operation that may panic asks. -/
def condP : Bool → Prop → Prop
  | true, p => p
  | false, _ => False

theorem condP.mk {c : Bool} {p : Prop} (h : c = true) (hp : p) : condP c p := by subst h; exact hp
theorem condP.out {c : Bool} {p : Prop} (h : condP c p) : c = true ∧ p := by
  cases c
  · exact h.elim
  · exact ⟨rfl, h⟩

/-- One operation, a call or not. -/
def awOp (E : Env) (f : FuncId) (o : Oper) (K : St → Prop) (s : St) : Prop :=
  match o.op with
  | .call { callee := .value x, args, .. } => match evO E s.slots x, evL E s.slots args.toList with
    | .v (.fn g first cap), some l => ACalls E g (first ++ l ++ cap) s.G (fun r G' => K ((s.inG G').put o.dst (.v r)))
    | .v (.yield id), some l => ARound E id l s.G (fun b G' => K ((s.inG G').put o.dst (.v (.bool b))))
    | _, _ => False
  | .defer _ => False
  | _ => match stepOp E f s o with
    | some (c, s') => condP c (K s')
    | none => False

def awGuard (E : Env) (f : FuncId) (ops : List Oper) (o : Oper) (K : St → Prop) (s : St) : Prop :=
  match o.guard with
  | none => awOp E f o K s
  | some (j, want) => match dstOf ops j with
    | none => False
    | some d => match lk s.slots d with
      | .v (.bool b) => (b = want → awOp E f o K (s.put (some d) (.v (.bool want)))) ∧ (b = !want → K ((s.put (some d) (.v (.bool (!want)))).put o.dst (.v undefA)))
      | .v (.tup []) => K (s.put o.dst (.v undefA))
      | _ => False

/-- One operation of a region in text order. -/
def awGuardP (E : Env) (f : FuncId) (ops : List Oper) (o : Oper) (K : St → Prop) (s : St) : Prop :=
  match o.guard, buildSliceM E f s o with
  | none, some s' => K s'
  | _, _ => awGuard E f ops o K s

def awOps (E : Env) (f : FuncId) (ops : List Oper) : List Oper → (St → Prop) → St → Prop
  | [], K, s => K s
  | o :: rest, K, s => awGuardP E f ops o (awOps E f ops rest K) s

section regions
variable {E : Env} {R : Realm} {w : World} {β : Nat → Nat} {s : St} {a : Act}

theorem awOp_wpIn {f : FuncId} {o : Oper} {F : Fence} {K : St → Prop} {Qc : Exit → Act → World → Prop} (h : Rep E R w β s a) (hf : FenceOk R s.ro F) (ha : awOp E f o K s) (N : Act → World → Prop) (hN : ∀ a' w', OpRes E R w β s K a' w' → N a' w') :
    o.wpIn F 0 E.P a w N Qc := by
  unfold awOp at ha
  split at ha
  · rename_i x args tys ho
    split at ha
    · rename_i g first cap l h1 h2
      exact wpIn_call h hf ho h1 h2 ha N hN
    · rename_i id l h1 h2
      exact wpIn_yield h hf ho h1 h2 ha N hN
    · exact ha.elim
  · exact ha.elim
  · rename_i nc nd
    split at ha
    · rename_i c s' hs
      obtain ⟨rfl, hK⟩ := ha.out
      exact wpIn_stepOp h hf hs hK (fun c e => nd c e) N hN
    · exact ha.elim

theorem Rep.sameSlot (h : Rep E R w β s a) {d : Tmp} {b t : Bool} (hd : lk s.slots d = .v (.bool b)) (e : b = t) : Rep E R w β (s.put (some d) (.v (.bool t))) a := by
  subst e
  simp only [St.put]
  split
  · refine ⟨h.g, h.b, fun i hi => ?_, h.n, h.d⟩
    by_cases e : d = i
    · subst e
      rw [lk_put_self]
      have := h.t d (by rw [hd]; simp)
      rw [hd] at this
      exact this
    · rw [lk_put_ne e] at hi ⊢
      exact h.t i hi
  · exact h

theorem yielded_eq (h : Rep E R w β s a) {ops : Array Oper} {j : Nat} {d : Tmp} {b : Bool} (hj : dstOf ops.toList j = some d) (hd : lk s.slots d = .v (.bool b)) : yielded ops a.tmps j = some b := by
  unfold dstOf at hj
  split at hj
  · rename_i o ho
    rw [nth_eq] at ho
    have ho' : ops[j]? = some o := by simpa using ho
    obtain ⟨c, h1, h2⟩ := h.t d (by rw [hd]; simp)
    rw [hd] at h2
    have h2' : Rel R w (.bool b) c := h2
    cases h2'
    simp [yielded, ho', hj, h1]
  · cases hj

theorem yielded_undef (h : Rep E R w β s a) {ops : Array Oper} {j : Nat} {d : Tmp} (hj : dstOf ops.toList j = some d) (hd : lk s.slots d = .v (.tup [])) : yielded ops a.tmps j = none := by
  unfold dstOf at hj
  split at hj
  · rename_i o ho
    rw [nth_eq] at ho
    have ho' : ops[j]? = some o := by simpa using ho
    obtain ⟨c, h1, h2⟩ := h.t d (by rw [hd]; simp)
    rw [hd] at h2
    have h2' : Rel R w (.tup []) c := h2
    cases h2'
    simp [yielded, ho', hj, h1]
  · cases hj

/-- One operation with its guard. -/
theorem awGuard_wpIn {f : FuncId} {o : Oper} {F : Fence} {ops : Array Oper} {K : St → Prop} {Qc : Exit → Act → World → Prop} (h : Rep E R w β s a) (hf : FenceOk R s.ro F) (ha : awGuard E f ops.toList o K s) (N : Act → World → Prop) (hN : ∀ a' w', OpRes E R w β s K a' w' → N a' w') :
    (if Region.wanted o (yielded ops a.tmps) then o.wpIn F 0 E.P a w N Qc else (∀ f, o.about E.P w a.eval = some f → F.fn f) ∧ N (a.put o.dst undef) w) := by
  unfold awGuard at ha
  split at ha
  · rename_i hg
    have : Region.wanted o (yielded ops a.tmps) = true := by simp [Region.wanted, hg]
    rw [if_pos this]
    exact awOp_wpIn h hf ha N hN
  · rename_i j want hg
    split at ha
    · exact ha.elim
    · rename_i d hd
      split at ha
      · rename_i b hb
        have hy := yielded_eq h hd hb
        by_cases hw : b = want
        · have : Region.wanted o (yielded ops a.tmps) = true := by simp [Region.wanted, hg, hy, hw]
          rw [if_pos this]
          exact awOp_wpIn (h.sameSlot hb hw) (by rw [ro_put]; exact hf) (ha.1 hw) N (fun a' w' hh => hN a' w' (by
            obtain ⟨s', R', β', q1, q2, q3, q4⟩ := hh
            exact ⟨s', R', β', q1, q2, by rw [boxes_put] at q3; exact q3, by rw [ro_put] at q4; exact q4⟩))
        · have hbw : b = !want := by cases b <;> cases want <;> simp_all
          have : ¬ Region.wanted o (yielded ops a.tmps) = true := by simp [Region.wanted, hg, hy, hw]
          rw [if_neg this]
          refine ⟨fun f _ => hf.fn f, hN _ _ ⟨_, R, β, ha.2 hbw, (h.sameSlot hb hbw).put o.dst (x := .v undefA) (Rel.tup .nil), by rw [boxes_put, boxes_put]; exact Step.refl _ _ _ _, by rw [ro_put, ro_put]⟩⟩
      · rename_i hb
        have hy := yielded_undef h hd hb
        have : ¬ Region.wanted o (yielded ops a.tmps) = true := by simp [Region.wanted, hg, hy]
        rw [if_neg this]
        exact ⟨fun f _ => hf.fn f, hN _ _ ⟨_, R, β, ha, h.put o.dst (x := .v undefA) (Rel.tup .nil), by rw [boxes_put]; exact Step.refl _ _ _ _, by rw [ro_put]⟩⟩
      · exact ha.elim

theorem awGuardP_wpIn {f : FuncId} {o : Oper} {F : Fence} {ops : Array Oper} {K : St → Prop} {Qc : Exit → Act → World → Prop} (h : Rep E R w β s a) (hf : FenceOk R s.ro F) (ha : awGuardP E f ops.toList o K s) (N : Act → World → Prop) (hN : ∀ a' w', OpRes E R w β s K a' w' → N a' w') :
    (if Region.wanted o (yielded ops a.tmps) then o.wpIn F 0 E.P a w N Qc else (∀ f, o.about E.P w a.eval = some f → F.fn f) ∧ N (a.put o.dst undef) w) := by
  unfold awGuardP at ha
  split at ha
  · rename_i s' hg hb
    have : Region.wanted o (yielded ops a.tmps) = true := by simp [Region.wanted, hg]
    rw [if_pos this]
    unfold buildSliceM at hb
    split at hb
    · rename_i t len parts ho
      split at hb
      · rename_i d hd
        split at hb
        · split at hb
          · rename_i esz es hv
            cases hb
            obtain ⟨nx, x, w', R', β', h1, h2, h3, h4⟩ := exec_buildSliceM h t len parts ho hv
            refine ⟨fun f _ => hf.fn f, ?_⟩
            rw [Oper.semAt_eq _ _ _ (fun c e => by rw [ho] at e; cases e), h1]
            rw [hd] at h3 h4
            have hfin : N (a.put o.dst x) w' := hN _ _ ⟨_, R', β', ha, by rw [hd]; exact h3, h4, by rw [ro_put]; rfl⟩
            rcases h2 with rfl | ⟨rfl, rfl⟩
            · exact hfin
            · exact hfin
          · cases hb
        · split at hb
          · split at hb
            · rename_i i hi
              split at hb
              · rename_i elem sz' ag by_ z esz es hk hv
                split at hb
                · rename_i hle
                  cases hb
                  obtain ⟨nx, x, w', R', β', h1, h2, h3, h4⟩ := exec_buildSliceO h t len parts ho hv hi hk (Nat.le_of_ble_eq_true hle)
                  refine ⟨fun f _ => hf.fn f, ?_⟩
                  rw [Oper.semAt_eq _ _ _ (fun c e => by rw [ho] at e; cases e), h1]
                  rw [hd] at h3 h4
                  have hfin : N (a.put o.dst x) w' := hN _ _ ⟨_, R', β', ha, by rw [hd]; exact h3, h4, by rw [ro_put]; rfl⟩
                  rcases h2 with rfl | ⟨rfl, rfl⟩
                  · exact hfin
                  · exact hfin
                · cases hb
              · cases hb
            · cases hb
          · cases hb
      · cases hb
    · cases hb
  · exact awGuard_wpIn h hf ha N hN

theorem awOps_wpIn {f : FuncId} {F : Fence} {ops : Array Oper} {K : St → Prop} {Qc : Exit → Act → World → Prop} (hQ : ∀ a' w', OpRes E R w β s K a' w' → Qc .normal a' w') :
    ∀ (l : List Nat) (os : List Oper), l.map (fun i => ops[i]?) = os.map some → ∀ (R1 : Realm) (w1 : World) (β1 : Nat → Nat) (s1 : St) (a1 : Act), Rep E R1 w1 β1 s1 a1 → Step R w β s.boxes R1 w1 β1 s1.boxes → s1.ro = s.ro → FenceOk R1 s1.ro F →
      awOps E f ops.toList os K s1 → wpOpsIn F 0 E.P ops Qc l a1 w1
  | [], os, hm, R1, w1, β1, s1, a1, hr, hst, hro, _, ha => by
    have : os = [] := by simpa using hm.symm
    subst this
    exact hQ _ _ ⟨s1, R1, β1, ha, hr, hst, hro⟩
  | i :: l, [], hm, _, _, _, _, _, _, _, _, _, _ => by simp at hm
  | i :: l, o :: os, hm, R1, w1, β1, s1, a1, hr, hst, hro, hf, ha => by
    simp only [List.map_cons, List.cons.injEq] at hm
    obtain ⟨hi, hm⟩ := hm
    simp only [wpOpsIn, hi]
    refine awGuardP_wpIn hr hf (show awGuardP E f ops.toList o (awOps E f ops.toList os K) s1 from ha) _ ?_
    rintro a' w' ⟨s', R', β', q1, q2, q3, q4⟩
    exact awOps_wpIn hQ l os hm R' w' β' s' a' q2 (hst.trans q3) (q4.trans hro) (by rw [q4]; exact hf.mono q3.ext) q1

theorem range_ops (ops : Array Oper) : (List.range ops.size).map (fun i => ops[i]?) = ops.toList.map some := by
  apply List.ext_getElem?
  intro i
  simp only [List.getElem?_map]
  by_cases hi : i < ops.size
  · rw [List.getElem?_range hi]
    simp [hi]
  · rw [List.getElem?_eq_none (by simp; omega), List.getElem?_eq_none (by simp; omega)]
    rfl

theorem AWp.region {f : FuncId} {id : Nat} {ops : Array Oper} {Q : Exit → St → Prop} {s : St} (h : awOps E f ops.toList ops.toList (Q .normal) s) : AWp E (.region id ops false) Q s := fun R w β a F hr hf => by
  refine wpIn_region (awOps_wpIn (R := R) (w := w) (β := β) (s := s) (K := Q .normal) (f := f) ?_ _ _ (range_ops ops) R w β s a hr (Step.refl _ _ _ _) rfl hf h)
  rintro a' w' ⟨s', R', β', h1, h2⟩
  exact ⟨s', R', β', h1, h2⟩

end regions

end Go.Am
