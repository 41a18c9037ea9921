/- The abstract machine: ranges over functions. -/
import Derived.Test.YtpngggdfbbdfaaaDoorAmYc
import Derived.RangeFuncIn
import Derived.RangeFuncRecord
set_option linter.all false
namespace Go.Am
open Go

/-- The slots without pointers to local boxes. -/
def dropLp : Slots → Slots
  | [] => []
  | .put d (.lp _ _) :: l => .put d .none :: dropLp l
  | .put d x :: l => .put d x :: dropLp l
  | .kill _ :: l => dropLp l

def SV.noLp : SV → SV
  | .lp _ _ => .none
  | x => x

theorem lk_dropLp (t : Nat) : ∀ l : Slots, lk (dropLp l) t = (lk l t).noLp
  | [] => rfl
  | .put d x :: l => by
    cases x <;> simp only [dropLp] <;> by_cases e : d = t <;> first | (subst e; rw [lk_put_self, lk_put_self]; rfl) | (rw [lk_put_ne e, lk_put_ne e]; exact lk_dropLp t l)
  | .kill d :: l => by
    simp only [dropLp, lk]
    rw [lk_dropLp t l]
    cases lk l t with
    | lp k off =>
      by_cases e : k = d
      · subst e; simp [SV.noLp]
      · simp [beq_ne e, SV.noLp]
    | _ => rfl

theorem noLps_dropLp : ∀ l : Slots, noLps (dropLp l) = true
  | [] => rfl
  | .put d x :: l => by
    cases x <;> simp only [dropLp, noLps] <;> exact noLps_dropLp l
  | .kill d :: l => by simp only [dropLp]; exact noLps_dropLp l

/-- What is asked when the function that is ranged over has ended. -/
def rfQ (E : Env) (Q : Exit → St → Prop) (s : St) (G' : List GO) : Prop :=
  match nth G' (s.G.length + 1) with
  | some (.loop busy pending _ _ _ _ _ _ _ done) => (busy = false ∨ done = true) ∧
    match pending with
    | none => Q .normal ⟨s.slots, s.boxes, setN G' (s.G.length + 1) .dead, s.G.length :: s.marks, s.ro, s.n⟩
    | some c => AWp E c Q ⟨s.slots, s.boxes, setN G' (s.G.length + 1) .dead, s.G.length :: s.marks, s.ro, s.n⟩
  | _ => False

theorem putObj_put (w : World) (b : Nat) (x : Obj) : w.putObj b x = World.put w b x := rfl

theorem loop_state {busy done : Bool} (h : busy = false ∨ done = true) : (if done = true then LoopState.done else if busy = true then LoopState.busy else LoopState.ready) ≠ LoopState.busy := by
  rcases h with rfl | rfl
  · cases done <;> simp
  · simp

theorem AWp.rangeFunc {E : Env} {Q : Exit → St → Prop} {s : St} (fp : Nat) {g : Operand} {ps : Array Tmp} {assign body : Code} (hro : s.ro = none) {f : FuncId} {first cap : List AV} (hg : evO E s.slots g = .v (.fn f first cap))
    (h : ACalls E f (first ++ [.yield (s.G.length + 1)] ++ cap) (s.G ++ [.defers true] ++ [.loop false none fp (dropLp s.slots) s.n ps.toList assign body s.G.length false]) (fun _ G' => rfQ E Q s G')) :
    AWp E (.rangeFunc g ps assign body) Q s := fun R w β a F hr hf => by
  rw [hro] at hf
  have hf' : F = Fence.wide := hf
  subst hf'
  refine wpIn_rangeFunc fun fn _ => ?_
  have rg := evO_rel hr g
  rw [hg] at rg
  have rg' : Rel R w (.fn f first cap) (a.eval g) := rg
  -- the block for the deferred calls
  have hd1 : RepO (R.add (.blk w.heap.size)) (w.alloc (.deferred (some []))) (.defers true) (.blk w.heap.size) := heap_alloc_new w _
  have h1 := hr.addObj (.deferred (some [])) (.defers true) (.blk w.heap.size) rfl hd1
  have s1 := step_addObj hr (.deferred (some [])) (.blk w.heap.size) rfl
  have hsz : (w.alloc (.deferred (some []))).heap.size = w.heap.size + 1 := by simp
  generalize hw1 : w.alloc (.deferred (some [])) = w1 at *
  generalize hR1 : R.add (.blk w.heap.size) = R1 at *
  -- the loop's record
  let rec_ : Loop := { state := .ready, pending := none, fn := fn, tmps := a.tmps, params := ps, assign := assign, body := body, defers := w.heap.size }
  have hid0 : nth R1.obj s.G.length = some (.blk w.heap.size) := by rw [← hR1]; exact nth_new hr _
  have e2 : Ext R1 w1 (R1.add (.blk w1.heap.size)) (w1.alloc (.loop rec_)) := ext_add h1.g.wf _ _
  have hd2 : RepO (R1.add (.blk w1.heap.size)) (w1.alloc (.loop rec_)) (.loop false none fp (dropLp s.slots) s.n ps.toList assign body s.G.length false) (.blk w1.heap.size) := by
    refine ⟨⟨rec_, w.heap.size, heap_alloc_new w1 _, rfl, rfl, fun i hi => ?_, hr.n, by simp [rec_], rfl, rfl, rfl, e2.blk hid0⟩, noLps_dropLp _⟩
    rw [lk_dropLp] at hi ⊢
    have hne : lk s.slots i ≠ .none := fun e => hi (by rw [e]; rfl)
    obtain ⟨c, k1, k2⟩ := hr.t i hne
    refine ⟨c, k1, ?_⟩
    cases hx : lk s.slots i with
    | none => exact absurd hx hne
    | lp k off => rw [hx] at hi; exact absurd rfl hi
    | v x =>
      rw [hx] at k2
      exact Rel.mono (s1.ext.trans e2) (show Rel R w x c from k2)
  have h2 := h1.addObj (.loop rec_) (.loop false none fp (dropLp s.slots) s.n ps.toList assign body s.G.length false) (.blk w1.heap.size) rfl hd2
  have s2 := step_addObj h1 (.loop rec_) (.blk w1.heap.size) rfl
  have hid1 : nth (R1.add (.blk w1.heap.size)).obj (s.G.length + 1) = some (.blk w1.heap.size) := by
    have := nth_new h1 (.blk w1.heap.size)
    simpa [St.addG] using this
  have st := s1.trans s2
  generalize hR2 : R1.add (.blk w1.heap.size) = R2 at *
  generalize hfv : a.eval g = fv at rg'
  cases rg' with
  | @fn _ _ _ vs us q1 q2 =>
  refine ⟨w.heap.size + 1, [{ target := .collected w.heap.size, args := #[] }], w1.alloc (.loop rec_), { target := .fn (.func f) ⟨us⟩, args := ⟨vs⟩ ++ #[.func (.yield (w.heap.size + 1)) #[] #[]] }, w1.alloc (.loop rec_), f,
    ⟨vs ++ [.func (.yield (w.heap.size + 1)) #[] #[]] ++ us⟩, w1.alloc (.loop rec_), ?_, ?_, ?_, ?_, ?_, ?_⟩
  · have : Fence.wide.round = none := rfl
    rw [this, run_enterLoop_outer, hw1]
  · simp only [resolve, hfv, Deferred.ofValue, Sem.run_pure]
    simp [Act.eval]
  · intro f' _
    exact trivial
  · have := run_callFunc (P := E.P) h.1 (⟨vs ++ [.func (.yield (w.heap.size + 1)) #[] #[]] ++ us⟩) (w1.alloc (.loop rec_))
    simpa [invoke] using this
  · intro hc; cases hc
  · have hG : (s.addG (.defers true)).addG (.loop false none fp (dropLp s.slots) s.n ps.toList assign body s.G.length false) = s.inG (s.G ++ [.defers true] ++ [.loop false none fp (dropLp s.slots) s.n ps.toList assign body s.G.length false]) := rfl
    have hyl : Rel R2 (w1.alloc (.loop rec_)) (.yield (s.G.length + 1)) (.func (.yield (w.heap.size + 1)) #[] #[]) := by
      rw [← hsz]
      exact .yield hid1
    refine (h.2 R2 (w1.alloc (.loop rec_)) _ h2.g ((((q1.mono st.ext).append (.one hyl)).append (q2.mono st.ext)))).mono ?_
    intro e w3 he
    cases e with
    | panicked c => exact he.elim
    | outgrown => exact he.elim
    | returned c =>
      obtain ⟨r, G', R3, hQ, hrel, hg3, st3⟩ := he
      obtain ⟨p1, p2⟩ := h2.afterCall hg3 st3
      unfold rfQ at hQ
      split at hQ
      · rename_i busy pending ff sl nn pp as bd dd done hnth
        obtain ⟨hbd, hQ⟩ := hQ
        have hid3 : nth R3.obj (s.G.length + 1) = some (.blk w1.heap.size) := st3.ext.blk hid1
        obtain ⟨⟨r3, db, l1, l2, l3, _, _, _, _, _, _, _⟩, _⟩ := p1.g.obj _ _ _ hnth hid3
        have hstate : r3.state ≠ .busy := by rw [l2]; exact loop_state hbd
        have l1' : w3.heap[w.heap.size + 1]? = some (.loop r3) := by rw [← hsz]; exact l1
        refine ⟨r3.pending, _, run_endLoop l1' hstate, ?_⟩
        rw [l3]
        -- the record is dead
        have hid0' : nth R3.obj s.G.length = some (.blk w.heap.size) := st3.ext.blk (by rw [← hR2] at e2 ⊢; exact e2.blk hid0)
        have key : ∀ x : Obj, NoCells x → (∀ r, Obj.loop r3 = .loop r → ∃ r', x = .loop r' ∧ SameLoop r r') → Rep E R3 (World.put w3 w1.heap.size x) β ⟨s.slots, s.boxes, setN G' (s.G.length + 1) .dead, s.G.length :: s.marks, s.ro, s.n⟩ { a with defers := [{ target := .collected w.heap.size, args := #[] }] ++ a.defers } ∧ Step R w β s.boxes R3 (World.put w3 w1.heap.size x) β s.boxes := fun x hx hlx => by
          obtain ⟨z1, z2⟩ := p1.setObj (x' := x) (go' := .dead) hid3 l1 trivial hx hlx (show w1.heap.size < _ by simp [World.put]; exact block_lt l1)
          exact ⟨⟨z1.g, z1.b, z1.t, z1.n, ⟨⟨w.heap.size, hid0', rfl⟩, z1.d⟩⟩, (st.trans p2).trans z2⟩
        obtain ⟨z1, z2⟩ := key (.loop { r3 with state := .exhausted, pending := pending }) trivial (fun r e => ⟨_, rfl, by cases e; exact ⟨rfl, rfl, rfl, rfl, rfl⟩⟩)
        rw [hsz] at z1 z2
        cases pending with
        | none => exact ⟨_, R3, β, hQ, z1, z2, rfl⟩
        | some c =>
          refine wpIn_mono (hQ R3 _ β _ Fence.wide z1 (by show FenceOk R3 s.ro Fence.wide; rw [hro]; rfl)) ?_
          rintro e a'' w'' ⟨s'', R'', β'', hq'', hr'', hst'', hro''⟩
          exact ⟨s'', R'', β'', hq'', hr'', z2.trans hst'', hro''⟩
      · exact hQ.elim

/-! ### Rounds -/

/-- What is asked when a round's body has been left. -/
def roundQ (id : Nat) (Q : Bool → List GO → Prop) : Exit → St → Prop := fun e s => match nth s.G id with
  | some (.loop _ _ fn sl n ps as bd d _) => match e with
    | .normal => Q true (setN s.G id (.loop false none fn sl n ps as bd d false))
    | .ret => Q false (setN s.G id (.loop false (some .ret) fn sl n ps as bd d true))
    | .exit i => Q false (setN s.G id (.loop false (some (.exit i)) fn sl n ps as bd d true))
    | _ => False
  | _ => False

/-- What is asked when the loop's variables have been given their values. -/
def assignQ (E : Env) (id : Nat) (body : Code) (Q : Bool → List GO → Prop) : Exit → St → Prop := fun e s => match e with
  | .normal => match nth s.G id with
    | some (.loop false p fn sl n ps as bd d false) => AWp E body (roundQ id Q) (s.inG (setN s.G id (.loop true p fn sl n ps as bd d false)))
    | _ => False
  | _ => False

def putPs : List Tmp → List AV → Slots → Slots
  | t :: ts, a :: l, r => putPs ts l (.put t (.v a) :: r)
  | _, _, r => r

def St.round (id : Nat) (slots : Slots) (n : Nat) (G : List GO) : St := ⟨slots, [], G, [], some id, n⟩

theorem relT_putPs {R : Realm} {w : World} {β : Nat → Nat} : ∀ {ts : List Tmp} {l : List AV} {cs : List Value} {r : Slots} {tmps : Array Value}, RelT R w β r tmps → RelL R w l cs → l.length = ts.length → (∀ t ∈ ts, t < tmps.size) →
    RelT R w β (putPs ts l r) ((ts.zip cs).foldl (fun tmps (t, a) => tmps.setIfInBounds t a) tmps)
  | [], [], _, _, _, h, .nil, _, _ => h
  | t :: ts, a :: l, c :: cs, r, tmps, h, .cons hx hl, hlen, ht => by
    have hsz : t < tmps.size := ht t (by simp)
    simp only [putPs, List.zip_cons_cons, List.foldl_cons]
    refine relT_putPs ?_ hl (by simpa using hlen) (fun t' h' => by simpa using ht t' (by simp [h']))
    have := RelT.put (a := { tmps := tmps, defers := [] }) h (d := t) (x := .v a) (c := c) hsz hx
    simpa [Act.put] using this
  | [], _ :: _, _, _, _, _, _, hlen, _ => by simp at hlen
  | _ :: _, [], _, _, _, _, _, hlen, _ => by simp at hlen

theorem foldl_size (l : List (Tmp × Value)) : ∀ tmps : Array Value, (l.foldl (fun (tmps : Array Value) (x : Tmp × Value) => tmps.setIfInBounds x.1 x.2) tmps).size = tmps.size := by
  induction l with
  | nil => intro _; rfl
  | cons x l ih => intro tmps; rw [List.foldl_cons, ih]; simp

theorem ARound.intro {E : Env} {id : Nat} {args : List AV} {G : List GO} {Q : Bool → List GO → Prop} {fn : FuncId} {slots : Slots} {n : Nat} {ps : List Tmp} {assign body : Code} {d : Nat} {p : Option Code}
    (hG : nth G id = some (.loop false p fn slots n ps assign body d false)) (hl : args.length = ps.length) (hps : ∀ t ∈ ps, t < n)
    (h : AWp E assign (assignQ E id body Q) (St.round id (putPs ps args slots) n G)) : ARound E id args G Q := fun R w cs b hg hr hb => by
  obtain ⟨⟨r, db, l1, l2, l3, l4, l5, l6, l7, l8, l9, l10⟩, l11⟩ := hg.obj id _ _ hG hb
  have hlen := hr.length
  refine ⟨r, l1, by rw [l6]; simp; omega, ?_⟩
  have hstep0 : Step R w (fun _ => 0) noBox R w (fun _ => 0) noBox := Step.refl _ _ _ _
  have hRep : Rep E R w (fun _ => 0) (St.round id (putPs ps args slots) n G) { tmps := (r.params.zip ⟨cs⟩).foldl (fun tmps (t, a) => tmps.setIfInBounds t a) r.tmps, defers := [] } := by
    have hzip : (r.params.zip ⟨cs⟩).foldl (fun (tmps : Array Value) (x : Tmp × Value) => tmps.setIfInBounds x.1 x.2) r.tmps = (ps.zip cs).foldl (fun (tmps : Array Value) (x : Tmp × Value) => tmps.setIfInBounds x.1 x.2) r.tmps := by
      rw [← Array.foldl_toList]
      simp [l6]
    refine ⟨hg, ⟨fun k cs hk => ?_, fun k k' c c' hk => ?_⟩, ?_, ?_, trivial⟩
    · simp [St.round, lkB] at hk
    · simp [St.round, lkB] at hk
    · show RelT _ _ _ _ _
      have := relT_putPs (ts := ps) (l := args) (cs := cs) l4 hr hl (fun t ht => by rw [l5]; exact hps t ht)
      rw [← hzip] at this
      exact this
    · show _ = n
      have := foldl_size (ps.zip cs) r.tmps
      rw [← hzip] at this
      exact this.trans l5
  have hnb : ∀ (k : Nat) (cs : List AV), lkB (St.round id (putPs ps args slots) n G).boxes k ≠ some cs := fun k cs hk => by simp [St.round, lkB] at hk
  rw [l7, l8]
  refine roundIn_of_wpIn trivial (wpIn_mono (h R w (fun _ => 0) _ (Fence.wide.inRound b) hRep ⟨b, hb, rfl⟩) ?_)
  rintro e a1 w1 ⟨s1, R1, β1, hq, hr1, st1, hro1⟩
  unfold assignQ at hq
  cases e with
  | normal =>
    simp only at hq
    split at hq
    · rename_i p' fn' sl' n' ps' as' bd' d' hG1
      have hb1 : nth R1.obj id = some (.blk b) := st1.ext.blk hb
      obtain ⟨⟨r1, db1, m1, m2, m3, m4, m5, m6, m7, m8, m9, m10⟩, m11⟩ := hr1.g.obj id _ _ hG1 hb1
      refine ⟨_, run_beginRound m1 m2, ?_⟩
      obtain ⟨z1, z2⟩ := hr1.setObj (x' := .loop { r1 with state := .busy }) (go' := .loop true p' fn' sl' n' ps' as' bd' d' false) hb1 m1 trivial trivial (fun r e => ⟨_, rfl, by cases e; exact ⟨rfl, rfl, rfl, rfl, rfl⟩⟩)
        ⟨⟨{ r1 with state := .busy }, db1, put_self _ _ _ (block_lt m1), rfl, m3, m4.mono (ext_put (x' := .loop { r1 with state := .busy }) m1 trivial trivial (fun r e => ⟨_, rfl, by cases e; exact ⟨rfl, rfl, rfl, rfl, rfl⟩⟩)), m5, m6, m7, m8, m9, m10⟩, m11⟩
      refine wpIn_mono (hq R1 _ β1 a1 (Fence.wide.inRound b) z1 (by show FenceOk R1 s1.ro _; rw [hro1]; exact ⟨b, hb1, rfl⟩)) ?_
      rintro e2 a2 w2 ⟨s2, R2, β2, hq2, hr2, st2, hro2⟩
      unfold roundQ at hq2
      split at hq2
      · rename_i bu2 p2 fn2 sl2 n2 ps2 as2 bd2 d2 dn2 hG2
        have st12 := (st1.trans z2).trans st2
        have hb2 : nth R2.obj id = some (.blk b) := st12.ext.blk hb
        obtain ⟨⟨r2, db2, o1, o2, o3, o4, o5, o6, o7, o8, o9, o10⟩, o11⟩ := hr2.g.obj id _ _ hG2 hb2
        have fin : ∀ (j : Option Code), RoundOk E R w (fun b' G' => G' = setN s2.G id (.loop false j fn2 sl2 n2 ps2 as2 bd2 d2 (!j.isNone)) ∧ b' = j.isNone) (.returned (.bool j.isNone)) (w2.putObj b (.loop { r2 with state := if j.isNone then .ready else .done, pending := j })) := fun j => by
          obtain ⟨y1, y2⟩ := hr2.setObj (x' := .loop { r2 with state := if j.isNone then .ready else .done, pending := j }) (go' := .loop false j fn2 sl2 n2 ps2 as2 bd2 d2 (!j.isNone)) hb2 o1 trivial trivial (fun r e => ⟨_, rfl, by cases e; exact ⟨rfl, rfl, rfl, rfl, rfl⟩⟩)
            ⟨⟨{ r2 with state := if j.isNone then .ready else .done, pending := j }, db2, put_self _ _ _ (block_lt o1), by cases j <;> rfl, rfl, o4.mono (ext_put (x' := .loop { r2 with state := if j.isNone then .ready else .done, pending := j }) o1 trivial trivial (fun r e => ⟨_, rfl, by cases e; exact ⟨rfl, rfl, rfl, rfl, rfl⟩⟩)), o5, o6, o7, o8, o9, o10⟩, o11⟩
          exact ⟨_, _, R2, ⟨rfl, rfl⟩, rfl, y1.g, step_noBox (st12.trans y2) hnb⟩
        have mk : ∀ (j : Option Code), Q j.isNone (setN s2.G id (.loop false j fn2 sl2 n2 ps2 as2 bd2 d2 (!j.isNone))) → ∃ v w', (Instr.endRound b j).run E.P w2 = .ok v w' ∧ RoundOk E R w Q (.returned v) w' := fun j hQ => by
          refine ⟨_, _, run_endRound j o1, ?_⟩
          obtain ⟨r', G', R', ⟨h1, h2⟩, h3⟩ := fin j
          subst h1; subst h2
          exact ⟨_, _, R', hQ, h3⟩
        cases e2 with
        | normal => exact mk none hq2
        | ret => exact mk (some .ret) hq2
        | exit i => exact mk (some (.exit i)) hq2
        | _ => exact hq2.elim
      · exact hq2.elim
    · exact hq.elim
  | _ => exact hq.elim

end Go.Am
