/- The abstract machine: an operation that changes slots alone may be taken first. -/
import Derived.Test.YtpngggdfbbdfaaaDoorAmU
set_option linter.all false
namespace Go.Am
open Go

section
variable {E : Env} {s t : St} {f : FuncId} {ops : Array Oper} {o oj oi : Oper} {d : Tmp} {x : SV} {K : St → Prop}

theorem dstOf_eq (ops : Array Oper) (j : Nat) : dstOf ops.toList j = (ops[j]?).bind (·.dst) := by
  unfold dstOf
  rw [nth_eq, Array.getElem?_toList]
  cases ops[j]? <;> rfl

theorem mem_looks_op {e : Tmp} (h : .tmp e ∈ o.op.operands) : e ∈ o.looksAt ops :=
  List.mem_append_left _ (List.mem_filterMap.2 ⟨.tmp e, by simpa using h, rfl⟩)

theorem mem_looks_guard {j : Nat} {want : Bool} {e : Tmp} (h : o.guard = some (j, want)) (he : dstOf ops.toList j = some e) : e ∈ o.looksAt ops := by
  rw [dstOf_eq] at he
  refine List.mem_append_right _ ?_
  rw [h]
  simp [he]

/-- The operands are the same where the slots that the operation looks at are. -/
theorem ev_looks (h : ∀ e ∈ o.looksAt ops, lk s.slots e = lk t.slots e) : ∀ y ∈ o.op.operands, evO E s.slots y = evO E t.slots y := fun _ hy =>
  evO_lk fun e he => h e (mem_looks_op (he ▸ hy))

theorem gst_looks (h : ∀ e ∈ o.looksAt ops, lk s.slots e = lk t.slots e) : gst ops.toList s o = gst ops.toList t o := by
  unfold gst
  split
  · rfl
  · rename_i j want hg
    split
    · rename_i e he
      rw [h e (mem_looks_guard hg he)]
    · rfl

theorem lk_putS (s : St) (d : Tmp) (x : SV) {e : Nat} (h : d ≠ e) : lk (s.put (some d) x).slots e = lk s.slots e := by
  simp only [St.put]
  split
  · exact lk_put_ne h
  · rfl

theorem boxes_putS (s : St) (d : Option Tmp) (x : SV) : (s.put d x).boxes = s.boxes ∧ (s.put d x).G = s.G ∧ (s.put d x).n = s.n ∧ (s.put d x).marks = s.marks ∧ (s.put d x).ro = s.ro := by
  cases d with
  | none => exact ⟨rfl, rfl, rfl, rfl, rfl⟩
  | some d =>
    simp only [St.put]
    split <;> exact ⟨rfl, rfl, rfl, rfl, rfl⟩

/-- What an operation that changes slots alone has come to. -/
def NExec (E : Env) (f : FuncId) (ops : Array Oper) (o : Oper) (s : St) (x : SV) : Prop :=
  (gst ops.toList s o = some true ∧ stepOp E f s o = some (true, s.put o.dst x)) ∨ (gst ops.toList s o = some false ∧ x = .v undefA)

theorem stepOp_N {c : Bool} {s' : St} (hN : isN o.op = true) (h : stepOp E f s o = some (c, s')) : ∃ x, s' = s.put o.dst x := by
  obtain ⟨t', _, pre, preB, G, _, h2, _, _⟩ := stepOp_same (t := s) rfl rfl rfl (fun _ _ => rfl) h
  obtain ⟨_, _, x, hx, _⟩ := h2 (by simp [hN])
  exact ⟨x, hx⟩

theorem awOp_N (hN : isN o.op = true) : awOp E f o K s ↔ ∃ s', stepOp E f s o = some (true, s') ∧ K s' := by
  unfold awOp
  split
  · rename_i h
    rw [h] at hN
    simp [isN] at hN
  · rename_i h
    rw [h] at hN
    simp [isN] at hN
  · split
    · rename_i c s' hs
      constructor
      · intro h
        obtain ⟨rfl, hk⟩ := h.out
        exact ⟨s', hs, hk⟩
      · rintro ⟨s'', h1, h2⟩
        rw [hs] at h1
        cases h1
        exact condP.mk rfl h2
    · rename_i hs
      constructor
      · exact fun h => h.elim
      · rintro ⟨s'', h1, _⟩
        rw [hs] at h1
        cases h1

theorem nexec_of_guard (hN : isN o.op = true) (hK : Inv K) (h : awGuard E f ops.toList o K s) : ∃ x, NExec E f ops o s x ∧ K (s.put o.dst x) := by
  rcases (awGuard_iff hK).1 h with ⟨h1, h2⟩ | ⟨h1, h2⟩
  · obtain ⟨s', h3, h4⟩ := (awOp_N hN).1 h2
    obtain ⟨x, rfl⟩ := stepOp_N hN h3
    exact ⟨x, .inl ⟨h1, h3⟩, h4⟩
  · exact ⟨_, .inr ⟨h1, rfl⟩, h2⟩

theorem guard_of_nexec (hN : isN o.op = true) (hK : Inv K) (hx : NExec E f ops o s x) (h : K (s.put o.dst x)) : awGuard E f ops.toList o K s := by
  rw [awGuard_iff hK]
  rcases hx with ⟨h1, h2⟩ | ⟨h1, rfl⟩
  · exact .inl ⟨h1, (awOp_N hN).2 ⟨_, h2, h⟩⟩
  · exact .inr ⟨h1, h⟩

theorem nexec_eqv (hN : isN o.op = true) (hx : NExec E f ops o s x) (e : Eqv s t) : NExec E f ops o t x ∨ ∃ y, NExec E f ops o t y ∧ s.put o.dst x = s.put o.dst y := by
  rcases hx with ⟨h1, h2⟩ | ⟨h1, rfl⟩
  · obtain ⟨t', h3, pre, preB, G, _, h4, _, _⟩ := stepOp_same e.n e.G e.b (fun y _ => e.evO y) h2
    obtain ⟨_, _, y, h5, h6⟩ := h4 (by simp [hN])
    rw [h6] at h3
    exact .inr ⟨y, .inl ⟨by rw [← gst_eqv e]; exact h1, h3⟩, h5⟩
  · exact .inl (.inr ⟨by rw [← gst_eqv e]; exact h1, rfl⟩)

/-- Carried out once more, the operation leaves its slot as it is. -/
def reG (E : Env) (f : FuncId) (ops : List Oper) (o : Oper) (s : St) : Prop := match gst ops s o with
  | some true => match o.dst, stepOp E f s o with
    | some d, some (c, s') => c = true ∧ lk s'.slots d = lk s.slots d
    | _, _ => False
  | some false => True
  | none => False

/-- States that differ in one slot that the operation has nothing to do with. -/
theorem reG_off (hN : isN o.op = true) (hd : d ∉ o.looksAt ops) (hne : o.dst ≠ some d) (he : ∀ e, d ≠ e → lk s.slots e = lk t.slots e) (hB : lkB s.boxes = lkB t.boxes) (hG : s.G = t.G) (hn : s.n = t.n)
    (h : reG E f ops.toList o s) : reG E f ops.toList o t := by
  have hl : ∀ e ∈ o.looksAt ops, lk s.slots e = lk t.slots e := fun e hm => he e fun k => hd (k ▸ hm)
  unfold reG at h ⊢
  rw [← gst_looks hl]
  split
  · rename_i hg
    rw [hg] at h
    simp only at h
    split at h
    · rename_i e c s' hdst hs
      obtain ⟨t', h3, pre, preB, G, _, h4, _, _⟩ := stepOp_same hn hG hB (ev_looks hl) hs
      obtain ⟨_, _, y, h5, h6⟩ := h4 (by simp [hN])
      rw [hdst, h3]
      refine ⟨h.1, ?_⟩
      have hde : d ≠ e := fun k => hne (by rw [hdst, k])
      have h7 := h.2
      rw [h5, hdst] at h7
      rw [h6, hdst, ← he e hde]
      simp only [St.put, ← hn] at h7 ⊢
      split
      · rename_i hb
        rw [hb] at h7
        simp only [lk_put_self] at h7 ⊢
        exact h7
      · exact (he e hde).symm
    · exact h.elim
  · trivial
  · rename_i hg
    rw [hg] at h
    exact h

theorem reG_eqv (hN : isN o.op = true) (e : Eqv s t) (h : reG E f ops.toList o s) : reG E f ops.toList o t := by
  unfold reG at h ⊢
  rw [← gst_eqv e]
  split
  · rename_i hg
    rw [hg] at h
    simp only at h
    split at h
    · rename_i d c s' hdst hs
      obtain ⟨t', h3, pre, preB, G, _, h4, _, _⟩ := stepOp_same e.n e.G e.b (fun y _ => e.evO y) hs
      obtain ⟨_, _, y, h5, h6⟩ := h4 (by simp [hN])
      rw [hdst, h3]
      refine ⟨h.1, ?_⟩
      rw [h6, ← (e.put o.dst y).l, ← h5, ← e.l]
      exact h.2
    · exact h.elim
  · trivial
  · rename_i hg
    rw [hg] at h
    exact h

/-- Whether the one operation's carrying out may turn what the other one has come to. -/
def disturbs (oj oi : Oper) : Bool := isAlloc oi.op || (isR oj.op && !isN oi.op)

theorem lk_pre {al : Bool} {dst : Option Tmp} {pre : Slots} (h : Pre al dst pre) {e : Nat} (he : dst ≠ some e) (l : Slots) : lk (pre ++ l) e = lk l e ∨ (al = true ∧ ∃ k off, lk l e = .lp k off) := by
  rcases h with rfl | ⟨d, y, rfl, rfl | ⟨rfl, rfl⟩⟩
  · exact .inl rfl
  · exact .inl (lk_put_ne fun k => he (by rw [k]))
  · simp only [List.cons_append, List.nil_append]
    rw [lk_put_ne (fun k => he (by rw [k]))]
    simp only [lk]
    cases hl : lk l e with
    | lp k off => exact .inr ⟨trivial, k, off, rfl⟩
    | _ => exact .inl rfl

theorem put_eff_comm {al : Bool} {pre : Slots} (preB : Boxes) (G : List GO) (h : Pre al oi.dst pre) (hne : oi.dst ≠ some d) (hx : al = false ∨ ∃ a, x = .v a) : Eqv ((s.put (some d) x).eff pre preB G) ((s.eff pre preB G).put (some d) x) := by
  have hb : ∀ b, Nat.blt d s.n = b → Eqv ((s.put (some d) x).eff pre preB G) ((s.eff pre preB G).put (some d) x) := fun b hb => by
    have hb' : Nat.blt d (s.eff pre preB G).n = b := hb
    rw [put_eff, put_eff, hb, hb']
    cases b with
    | false => exact Eqv.refl _
    | true =>
      refine ⟨funext fun e => ?_, rfl, rfl, rfl, rfl, rfl⟩
      simp only [cond_true, St.eff, List.cons_append, List.nil_append]
      by_cases k : d = e
      · subst k
        rw [lk_put_self]
        rcases lk_pre h hne (.put d x :: s.slots) with h1 | ⟨h1, k, off, h2⟩
        · rw [h1, lk_put_self]
        · rw [lk_put_self] at h2
          rcases hx with hx | ⟨a, hx⟩
          · rw [hx] at h1; cases h1
          · rw [hx] at h2; cases h2
      · rw [lk_put_ne k]
        exact lk_append (lk_put_ne k) pre
  exact hb _ rfl

theorem comm_core (hN : isN oj.op = true) (hdj : oj.dst = some d) (hself : d ∉ oj.looksAt ops) (hap : oj.apart ops oi = true) (hK : Inv K) (hx : NExec E f ops oj s x) {pre : Slots} {preB : Boxes} {G : List GO}
    (hpre : Pre (isAlloc oi.op) oi.dst pre) (hNi : isN oi.op = true → preB = [] ∧ G = s.G) (hk : K ((s.put (some d) x).eff pre preB G)) (hre : ∀ t', K t' → disturbs oj oi = true → reG E f ops.toList oj t') :
    ∃ x', NExec E f ops oj (s.eff pre preB G) x' ∧ K ((s.eff pre preB G).put (some d) x') := by
  obtain ⟨_, hne, hlo⟩ := Oper.apart_spec hap
  have hne' : oi.dst ≠ some d := hne d hdj
  have hoi : ∀ e ∈ oj.looksAt ops, oi.dst ≠ some e := fun e he k => hlo e k he
  have hlk : ∀ e ∈ oj.looksAt ops, (isAlloc oi.op = false ∨ ∃ b, lk s.slots e = .v b) → lk s.slots e = lk (s.eff pre preB G).slots e := fun e he ha => by
    rcases lk_pre hpre (hoi e he) s.slots with h1 | ⟨h1, k, off, h2⟩
    · exact h1.symm
    · rcases ha with ha | ⟨b, ha⟩
      · rw [ha] at h1; cases h1
      · rw [ha] at h2; cases h2
  have hgst : ∀ b, gst ops.toList s oj = some b → gst ops.toList (s.eff pre preB G) oj = some b := fun b hb => by
    unfold gst at hb ⊢
    split
    · rename_i hg; rw [hg] at hb; exact hb
    · rename_i j want hg
      rw [hg] at hb
      simp only at hb
      split
      · rename_i e he
        rw [he] at hb
        simp only at hb
        split at hb
        · rename_i b' hl
          have := hlk e (mem_looks_guard hg he) (.inr ⟨_, hl⟩)
          rw [← this, hl]
          exact hb
        · rename_i hl
          have := hlk e (mem_looks_guard hg he) (.inr ⟨_, hl⟩)
          rw [← this, hl]
          exact hb
        · cases hb
      · rename_i he; rw [he] at hb; cases hb
  rcases hx with ⟨h1, h2⟩ | ⟨h1, rfl⟩
  · rw [hdj] at h2
    by_cases hdis : disturbs oj oi = true
    · have hr := hre _ hk hdis
      -- the state with the slot, and the one without it
      have hoff : ∀ e, d ≠ e → lk ((s.put (some d) x).eff pre preB G).slots e = lk (s.eff pre preB G).slots e := fun e he => lk_append (lk_putS s d x he) pre
      have hB : lkB ((s.put (some d) x).eff pre preB G).boxes = lkB (s.eff pre preB G).boxes := by
        simp only [St.eff]; rw [(boxes_putS s _ x).1]
      have hn : ((s.put (some d) x).eff pre preB G).n = (s.eff pre preB G).n := (boxes_putS s _ x).2.2.1
      have hl2 : ∀ e ∈ oj.looksAt ops, lk ((s.put (some d) x).eff pre preB G).slots e = lk (s.eff pre preB G).slots e := fun e he => hoff e fun k => hself (k ▸ he)
      have hg2 : gst ops.toList ((s.put (some d) x).eff pre preB G) oj = some true := by rw [gst_looks hl2]; exact hgst _ h1
      unfold reG at hr
      rw [hg2] at hr
      simp only [hdj] at hr
      split at hr
      · rename_i d' c s' hd' hs
        cases hd'
        obtain ⟨rfl, hr⟩ := hr
        obtain ⟨t', h3, p, pB, G2, _, h4, _, _⟩ := stepOp_same (t := s.eff pre preB G) hn rfl hB (ev_looks hl2) hs
        obtain ⟨_, _, y, h5, h6⟩ := h4 (by simp [hN])
        rw [h6] at h3
        rw [h5, hdj] at hr
        refine ⟨y, .inl ⟨hgst _ h1, h3⟩, hK _ _ ?_ hk⟩
        have hmr : ((s.put (some d) x).eff pre preB G).marks = (s.eff pre preB G).marks ∧ ((s.put (some d) x).eff pre preB G).ro = (s.eff pre preB G).ro := (boxes_putS s _ x).2.2.2
        obtain ⟨q1, q2, q3, q4, q5⟩ := boxes_putS (s.eff pre preB G) (some d) y
        refine ⟨funext fun e => ?_, by rw [q1]; exact hB, by rw [q2]; rfl, by rw [q4]; exact hmr.1, by rw [q5]; exact hmr.2, by rw [q3]; exact hn⟩
        by_cases k : d = e
        · subst k
          rw [← hr]
          have hb : ∀ b, Nat.blt d s.n = b → lk (((s.put (some d) x).eff pre preB G).put (some d) y).slots d = lk ((s.eff pre preB G).put (some d) y).slots d := fun b hb => by
            have hb1 : Nat.blt d (s.eff pre preB G).n = b := hb
            have hb2 : Nat.blt d ((s.put (some d) x).eff pre preB G).n = b := by rw [hn]; exact hb
            rw [put_eff _ d y, put_eff _ d y, hb1, hb2]
            cases b with
            | true => simp [St.eff, lk_put_self]
            | false =>
              simp only [cond_false]
              rw [put_eff, hb]
              rfl
          exact hb _ rfl
        · rw [lk_putS _ _ _ k]
          exact hoff e k
      · exact hr.elim
    · have hal : isAlloc oi.op = false := by cases ha : isAlloc oi.op <;> simp_all [disturbs]
      have hl : ∀ e ∈ oj.looksAt ops, lk s.slots e = lk (s.eff pre preB G).slots e := fun e he => hlk e he (.inl hal)
      have fin : ∀ y, s.put (some d) x = s.put (some d) y → stepOp E f (s.eff pre preB G) oj = some (true, (s.eff pre preB G).put oj.dst y) →
          ∃ x', NExec E f ops oj (s.eff pre preB G) x' ∧ K ((s.eff pre preB G).put (some d) x') := fun y hy hs => by
        refine ⟨y, .inl ⟨hgst _ h1, hs⟩, hK _ _ (put_eff_comm (oi := oi) preB G hpre hne' (.inl hal)) ?_⟩
        rw [← hy]
        exact hk
      cases hNo : isN oi.op with
      | true =>
        obtain ⟨rfl, rfl⟩ := hNi hNo
        obtain ⟨t', h3, p, pB, G2, _, h4, _, _⟩ := stepOp_same (s := s) (t := s.eff pre [] s.G) rfl rfl rfl (ev_looks hl) h2
        obtain ⟨_, _, y, h5, h6⟩ := h4 (by simp [hN])
        rw [hdj] at h5
        exact fin y h5 (by rw [h3, h6])
      | false =>
        have hR : isR oj.op = false := by cases ha : isR oj.op <;> simp_all [disturbs]
        obtain ⟨t', h3, y, h5, h6⟩ := stepOp_slot (s := s) (t := s.eff pre preB G) hN hR rfl (ev_looks hl) h2
        rw [hdj] at h5
        exact fin y h5 (by rw [h3, h6])
  · exact ⟨_, .inr ⟨hgst _ h1, rfl⟩, hK _ _ (put_eff_comm (oi := oi) preB G hpre hne' (.inr ⟨_, rfl⟩)) hk⟩

end
end Go.Am
