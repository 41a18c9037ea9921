/- The abstract machine: what it does is what the model does: moves, boxes, loads, stores. -/
import Derived.Test.YtpngggdfbbdfaaaDoorAmEa
set_option linter.all false
namespace Go.Am
open Go

theorem ti_info (E : Env) {t : TypeId} {i : TI} (h : E.ti t = some i) :
    ∃ info u, E.P.info? t = some info ∧ E.P.underlying t = some u ∧ info.size = i.size ∧ aggD u = i.agg ∧ tkOf E.P u = some i.k ∧ constOf info = i.zero := by
  have h1 := E.tiOk t i h
  unfold tiOf at h1
  split at h1
  · rename_i info u h2 h3
    split at h1
    · rename_i k hk
      cases h1
      exact ⟨info, u, h2, h3, rfl, rfl, hk, rfl⟩
    · cases h1
  · cases h1

section runs
variable {P : Program} (w : World)
theorem run_isAgg {t : TypeId} {u : TypeDesc} (h : P.underlying t = some u) : (isAgg t).run P w = .ok (aggD u) w := by
  unfold isAgg
  simp only [Sem.run_bind, run_underlying h, Result.andThen_ok]
  cases u <;> rfl
theorem run_sizeOf {t : TypeId} {i : TypeInfo} (h : P.info? t = some i) : (sizeOf t).run P w = .ok i.size w := by
  simp [sizeOf, typeInfo, h]
theorem run_zeroValue {t : TypeId} {i : TypeInfo} {z : Value} (h : P.info? t = some i) (hz : i.zero = some z) : (zeroValue t).run P w = .ok z w := by
  simp [zeroValue, typeInfo, h, hz]
theorem run_newVar (t : TypeId) (v : Value) : (newVar t v).run P w = .ok ⟨w.heap.size, 0, none⟩ (w.alloc (.cells v.cells t)) := by
  simp only [newVar, newRow, Sem.run_bind, run_newObj, Result.andThen_ok, Sem.run_pure]
  rfl
end runs

/-- How a value that is loaded reads. -/
theorem mkOf_rel {R : Realm} {w : World} {ag : Bool} {l : List AV} {v : AV} {vs : List Value} (hm : mkOf ag l = some v) (h : RelL R w l vs) (h1 : ∀ x ∈ vs, x.oneCell' = true) :
    (ag = true → Rel R w v (.agg ⟨vs⟩)) ∧ (ag = false → ∃ c, vs = [c] ∧ Rel R w v c) := by
  unfold mkOf at hm
  cases ag with
  | true =>
    simp at hm
    subst hm
    exact ⟨fun _ => .agg h h1, fun e => by cases e⟩
  | false =>
    refine ⟨(fun e => by cases e), fun _ => ?_⟩
    simp only [Bool.false_eq_true, if_false] at hm
    split at hm
    · cases hm
      cases h with
      | cons h t =>
        cases t
        exact ⟨_, rfl, h⟩
    · cases hm

theorem run_loadVar {E : Env} {R : Realm} {w : World} {t : TypeId} {i : TI} (hi : E.ti t = some i) {b off : Nat} {l : List AV} {vs : List Value} {v : AV}
    (hl : l.length = i.size) (hr : RelL R w l vs) (h1 : ∀ x ∈ vs, x.oneCell' = true) (hc : ∀ j x, vs[j]? = some x → w.cell? ⟨b, off + j, none⟩ = some x) (hm : mkOf i.agg l = some v) :
    ∃ c, (loadVar t ⟨b, off, none⟩).run E.P w = .ok c w ∧ Rel R w v c := by
  obtain ⟨info, u, e1, e2, e3, e4, _⟩ := ti_info E hi
  obtain ⟨m1, m2⟩ := mkOf_rel hm hr h1
  unfold loadVar
  simp only [Sem.run_bind, run_isAgg w e2, Result.andThen_ok, e4]
  cases ha : i.agg with
  | true =>
    refine ⟨.agg ⟨vs⟩, ?_, m1 ha⟩
    have hlen : info.size = vs.length := by rw [e3, ← hl, hr.length]
    have := run_loadCells_list (P := E.P) w ⟨b, off, none⟩ vs (fun j x hx => by rw [addr_add]; exact hc j x hx)
    simp [run_sizeOf w e1, hlen, this]
  | false =>
    obtain ⟨c, rfl, hrel⟩ := m2 ha
    refine ⟨c, ?_, hrel⟩
    have := hc 0 c (by simp)
    simp only [Nat.add_zero] at this
    simp [run_load, this]

theorem cell_row {w : World} {b : Nat} {vs : List Value} {el : TypeId} {fr : Nat × Nat} (h : w.heap[b]? = some (.cells ⟨vs⟩ el fr)) (j : Nat) : w.cell? ⟨b, j, none⟩ = vs[j]? := by
  simp [World.cell?, h]

/-- Where the cells behind a pointer lie. -/
theorem cellsAt_rel {E : Env} {R : Realm} {w : World} {β : Nat → Nat} {s : St} {a : Act} (h : Rep E R w β s a) {p : SV} {c : Value} (hp : RelS R w β p c) {cs : List AV} {off : Nat} (hc : cellsAt s p = some (cs, off)) :
    ∃ b o vs, c = .pointer (some ⟨b, o + off, none⟩) ∧ RelL R w cs vs ∧ (∀ x ∈ vs, x.oneCell' = true) ∧ ∀ j x, vs[j]? = some x → w.cell? ⟨b, o + j, none⟩ = some x := by
  unfold cellsAt at hc
  split at hc
  · rename_i k off'
    split at hc
    · rename_i cs' hk
      cases hc
      obtain ⟨⟨vs, el, h1, h2, h3⟩, _⟩ := h.b.box k cs hk
      exact ⟨β k, 0, vs, by rw [hp]; simp, h2, h3, fun j x hx => by rw [cell_row h1]; simpa using hx⟩
    · cases hc
  · rename_i id off'
    split at hc
    · rename_i cs' hk
      cases hc
      cases hp with
      | @ptr _ _ b hb =>
        obtain ⟨vs, el, h1, h2, h3, _⟩ := h.g.obj id _ _ hk hb
        exact ⟨b, 0, vs, by simp, h2, h3, fun j x hx => by rw [cell_row h1]; simpa using hx⟩
    · cases hc
  · rename_i cs'
    cases hc
    cases hp with
    | ep hr =>
      obtain ⟨vs, h1, h2, h3, _⟩ := hr.get
      exact ⟨_, _, vs, rfl, h1, h2, h3⟩
  · cases hc

theorem seg_rel {R : Realm} {w : World} {off n : Nat} {cs l : List AV} {vs : List Value} (hs : seg off n cs = some l) (h : RelL R w cs vs) (h1 : ∀ x ∈ vs, x.oneCell' = true) :
    l.length = n ∧ RelL R w l ((vs.drop off).take n) ∧ (∀ x ∈ (vs.drop off).take n, x.oneCell' = true) ∧ ∀ j x, ((vs.drop off).take n)[j]? = some x → vs[off + j]? = some x := by
  obtain ⟨e1, e2⟩ := seg_eq hs
  subst e1
  refine ⟨e2, (h.drop off).take n, fun x hx => h1 x (List.mem_of_mem_drop (List.mem_of_mem_take hx)), fun j x hx => ?_⟩
  rw [List.getElem?_take] at hx
  split at hx
  · rwa [List.getElem?_drop] at hx
  · cases hx

/-- What is to be shown of an operation. -/
def Done (E : Env) (R : Realm) (w : World) (β : Nat → Nat) (s : St) (a : Act) (o : Oper) (s' : St) : Prop :=
  ∃ nx x w' R' β', (execOp a.eval o).run E.P w = .ok nx w' ∧ (nx = .value x ∨ (nx = .skip ∧ x = undef)) ∧ Rep E R' w' β' s' (a.put o.dst x) ∧ Step R w β s.boxes R' w' β' s'.boxes

section ops
variable {E : Env} {R : Realm} {w : World} {β : Nat → Nat} {s : St} {a : Act} {o : Oper}

@[simp] theorem boxes_put (s : St) (d : Option Tmp) (x : SV) : (s.put d x).boxes = s.boxes := by
  cases d with
  | none => rfl
  | some d => simp only [St.put]; split <;> rfl

/-- A value alone. -/
theorem done_value (h : Rep E R w β s a) {c : Value} {sv : SV} (hx : (execOp a.eval o).run E.P w = .ok (.value c) w) (hr : RelS R w β sv c) : Done E R w β s a o (s.put o.dst sv) :=
  ⟨.value c, c, w, R, β, hx, .inl rfl, h.put o.dst hr, by rw [boxes_put]; exact Step.refl R w β s.boxes⟩

theorem bmerge_rel {t : Bool} {x y : AV} {c d : Value} (hx : Rel R w x c) (hy : Rel R w y d) : Rel R w (bmerge t x y) (if t = true then c else d) := by
  unfold bmerge
  split
  · cases hx; cases hy; cases t <;> exact .bool _
  · cases hx; cases hy
    split
    · rename_i e; subst e; cases t <;> exact .int _ _
    · cases t <;> exact .int _ _
  · cases t
    · exact hy
    · exact hx

theorem exec_move (h : Rep E R w β s a) (x : Operand) (ho : o.op = .move x ∨ o.op = .assign x) {y : SV} (hy : evO E s.slots x = y) : Done E R w β s a o (s.put o.dst y) := by
  subst hy
  refine done_value h (c := a.eval x) ?_ (evO_rel h x)
  rcases ho with ho | ho <;> simp [execOp, ho]

theorem exec_pick (h : Rep E R w β s a) (c x y : Operand) (ho : o.op = .pick c x y) {t : Bool} {p q : AV} (h1 : evO E s.slots c = .v (.bool t)) (h2 : evO E s.slots x = .v p) (h3 : evO E s.slots y = .v q) :
    Done E R w β s a o (s.put o.dst (.v (bmerge t p q))) := by
  have r1 := evO_rel h c
  have r2 := evO_rel h x
  have r3 := evO_rel h y
  rw [h1] at r1; rw [h2] at r2; rw [h3] at r3
  refine done_value h (c := if t = true then a.eval x else a.eval y) ?_ (bmerge_rel r2 r3)
  have r1' : Rel R w (.bool t) (a.eval c) := r1
  generalize hcv : a.eval c = cc at r1'
  cases r1'
  simp [execOp, ho, asBool, hcv]

theorem exec_load (h : Rep E R w β s a) (t : TypeId) (x : Operand) (ho : o.op = .load t x) {v : AV} (hl : loadA E s t (evO E s.slots x) = some v) :
    Done E R w β s a o (s.put o.dst (.v v)) := by
  unfold loadA at hl
  split at hl
  · rename_i i cs off hi hc
    split at hl
    · rename_i l hs
      obtain ⟨b, o', vs, e, h1, h2, h3⟩ := cellsAt_rel h (evO_rel h x) hc
      obtain ⟨k1, k2, k3, k4⟩ := seg_rel hs h1 h2
      obtain ⟨c, hc, hrel⟩ := run_loadVar (E := E) hi (b := b) (off := o' + off) k1 k2 k3 (fun j y hy => by rw [Nat.add_assoc]; exact h3 _ _ (k4 j y hy)) hl
      refine done_value h (c := c) ?_ hrel
      simp [execOp, ho, Instr.loadAt, e, Instr.sureAddr, hc]
    · cases hl
  · cases hl

/-- A row of cells is written. -/
theorem setRow_keep {w : World} {b : Nat} {vs : List Value} (k : Nat) (hk : k ≠ b) : (w.setRow b ⟨vs⟩).heap[k]? = w.heap[k]? := setRow_other w b k _ hk

theorem ext_setRow {b : Nat} (hI : ∀ o, ¬ R.I b o) (cs : Array Value) : Ext R w R (w.setRow b cs) :=
  ⟨fun _ _ h => h, fun b' o h => cell_of_block (setRow_other w b b' cs (fun e => hI o (e ▸ h))) o, fun _ ro h => ⟨ro, h, RoLe.refl ro⟩, fun b' r hb => ⟨r, by
    by_cases e : b' = b
    · subst e
      have hlt : b' < w.heap.size := block_lt hb
      have hv : w.heap[b'] = .loop r := (Array.getElem?_eq_some_iff.1 hb).2
      unfold World.setRow
      rw [Array.getElem?_eq_getElem (by simpa using hlt), Array.getElem_modify]
      simp [hv]
    · exact (setRow_other w b b' cs e).trans hb, rfl, rfl, rfl, rfl, rfl⟩⟩

theorem RelL.splice {cs ys : List AV} {vs us : List Value} {off : Nat} (h : RelL R w cs vs) (k : RelL R w ys us) (hl : off + ys.length ≤ cs.length) :
    RelL R w (splice cs off ys) (vs.take off ++ us ++ vs.drop (off + us.length)) := by
  rw [splice_eq cs off ys hl, ← k.length]
  exact ((h.take off).append k).append (h.drop _)

theorem one_splice {vs us : List Value} {off n : Nat} (h : ∀ x ∈ vs, x.oneCell' = true) (k : ∀ x ∈ us, x.oneCell' = true) : ∀ x ∈ vs.take off ++ us ++ vs.drop n, x.oneCell' = true := by
  intro x hx
  simp only [List.mem_append] at hx
  rcases hx with (hx | hx) | hx
  · exact h x (List.mem_of_mem_take hx)
  · exact k x hx
  · exact h x (List.mem_of_mem_drop hx)

theorem run_storeVar {t : TypeId} {i : TI} (hi : E.ti t = some i) {b off : Nat} {vs : List Value} {el : TypeId} {c : Value} (hb : w.heap[b]? = some (.cells ⟨vs⟩ el (0, 0)))
    (hs : c.cells.toList.length = i.size) (hl : off + c.cells.toList.length ≤ vs.length) (h1 : ∀ v ∈ c.cells.toList, v.oneCell' = true) :
    (storeVar t ⟨b, off, none⟩ c).run E.P w = .ok () (w.setRow b ⟨vs.take off ++ c.cells.toList ++ vs.drop (off + c.cells.toList.length)⟩) := by
  obtain ⟨info, u, e1, e2, e3, _⟩ := ti_info E hi
  have hst := run_storeCells_at (P := E.P) b off el c.cells.toList 0 ⟨vs⟩ w hb (by simpa using hl) h1
  have hne : c.cells.size = info.size := by rw [e3, ← hs]; simp
  simp only [Nat.add_zero] at hst
  unfold storeVar
  simp only [Sem.run_bind, run_sizeOf w e1, Result.andThen_ok, Sem.run_ite, hne, ne_eq, not_true_eq_false, if_false]
  simpa using hst

theorem Rep.ne_box (h : Rep E R w β s a) {id b k : Nat} {cs : List AV} (hb : nth R.obj id = some (.blk b)) (hk : lkB s.boxes k = some cs) : β k ≠ b := by
  intro e
  exact (h.b.box k cs hk).2.2 ⟨id, _, hb, by rw [e]; rfl⟩

theorem exec_store (h : Rep E R w β s a) (t : TypeId) (p x : Operand) (ho : o.op = .store t p x) (hd : o.dst = none) {s' : St} (hs : storeA E s t (evO E s.slots p) (evO E s.slots x) = some s') :
    Done E R w β s a o s' := by
  unfold storeA at hs
  have rp := evO_rel h p
  have rx := evO_rel h x
  split at hs
  · rename_i i v hi hx
    rw [hx] at rx
    split at hs
    · rename_i hcond
      simp only [Bool.and_eq_true] at hcond
      obtain ⟨hnt, hlen⟩ := hcond
      have hlen := Nat.eq_of_beq_eq_true hlen
      obtain ⟨c1, c2⟩ := Rel.cells rx hnt
      have hlv : v.cells.length = (a.eval x).cells.toList.length := c1.length
      split at hs
      · -- a local box
        rename_i k off hpe
        rw [hpe] at rp
        split at hs
        · rename_i cs hk
          split at hs
          · rename_i hle
            cases hs
            have hle := Nat.le_of_ble_eq_true hle
            obtain ⟨⟨vs, el, b1, b2, b3⟩, b4, b5⟩ := h.b.box k cs hk
            have hrun := run_storeVar (E := E) (w := w) hi (off := off) (c := a.eval x) b1 (by rw [← hlv]; exact hlen) (by rw [← hlv, ← b2.length]; exact hle) c2
            have hex := ext_setRow (R := R) (w := w) b4 ⟨vs.take off ++ (a.eval x).cells.toList ++ vs.drop (off + (a.eval x).cells.toList.length)⟩
            refine ⟨.skip, undef, w.setRow (β k) ⟨vs.take off ++ (a.eval x).cells.toList ++ vs.drop (off + (a.eval x).cells.toList.length)⟩, R, β, ?_, .inr ⟨rfl, rfl⟩, ?_, ?_⟩
            · simp [execOp, ho, Instr.storeAt, show a.eval p = .pointer (some ⟨β k, off, none⟩) from rp, Instr.sureAddr, hrun]
            · rw [hd]
              refine ⟨?_, ?_, h.t.mono hex, h.n, h.d⟩
              · exact h.g.keep hex rfl (fun b hb => setRow_other w _ b _ (fun e => b5 (e ▸ hb))) (fun _ _ _ hi => hi) (fun b o hi => by have := h.g.wf b o hi; simp; omega)
              · refine ⟨fun k' cs' hk' => ?_, fun k1 k2 x1 x2 g1 g2 => ?_⟩
                · rcases lkB_cons hk' with ⟨rfl, e⟩ | ⟨hne, hk''⟩
                  · cases e
                    exact ⟨⟨_, el, setRow_heap w _ _ _ el (0, 0) b1, (b2.splice c1 hle).mono hex, one_splice b3 c2⟩, b4, b5⟩
                  · obtain ⟨⟨vs', el', d1, d2, d3⟩, d4, d5⟩ := h.b.box k' cs' hk''
                    refine ⟨⟨vs', el', ?_, d2.mono hex, d3⟩, d4, d5⟩
                    rw [setRow_other]
                    · exact d1
                    · exact fun e => hne (h.b.inj k' k cs' cs hk'' hk e).symm
                · have q1 : ∃ y, lkB s.boxes k1 = some y := by
                    rcases lkB_cons g1 with ⟨rfl, _⟩ | ⟨_, g⟩
                    · exact ⟨_, hk⟩
                    · exact ⟨_, g⟩
                  have q2 : ∃ y, lkB s.boxes k2 = some y := by
                    rcases lkB_cons g2 with ⟨rfl, _⟩ | ⟨_, g⟩
                    · exact ⟨_, hk⟩
                    · exact ⟨_, g⟩
                  obtain ⟨y1, q1⟩ := q1
                  obtain ⟨y2, q2⟩ := q2
                  exact h.b.inj k1 k2 y1 y2 q1 q2
            · have hown : Own R β s.boxes (β k) := .inr ⟨k, cs, hk, rfl⟩
              refine ⟨hex, rfl, rfl, rfl, by simp, fun b _ hn => setRow_other w _ b _ (fun e => hn (e ▸ hown)), fun b _ hb => ?_, fun b o hi _ _ => hi⟩
              rcases hb with hb | ⟨k', cs', hk', e⟩
              · exact .inl hb
              · rcases lkB_cons hk' with ⟨rfl, _⟩ | ⟨_, g⟩
                · exact .inr ⟨k, cs, hk, e⟩
                · exact .inr ⟨k', cs', g, e⟩
          · cases hs
        · cases hs
      · -- an object
        rename_i id off hpe
        rw [hpe] at rp
        split at hs
        · rename_i cs hk
          split at hs
          · rename_i hle
            cases hs
            have hle := Nat.le_of_ble_eq_true hle
            have rp' : Rel R w (.ptr id off) (a.eval p) := rp
            generalize hpv : a.eval p = pv at rp'
            cases rp' with
            | @ptr _ _ b hb =>
            obtain ⟨vs, el, b1, b2, b3, b4⟩ := h.g.obj id _ _ hk hb
            have hrun := run_storeVar (E := E) (w := w) hi (off := off) (c := a.eval x) b1 (by rw [← hlv]; exact hlen) (by rw [← hlv, ← b2.length]; exact hle) c2
            have hex := ext_setRow (R := R) (w := w) b4 ⟨vs.take off ++ (a.eval x).cells.toList ++ vs.drop (off + (a.eval x).cells.toList.length)⟩
            refine ⟨.skip, undef, w.setRow b ⟨vs.take off ++ (a.eval x).cells.toList ++ vs.drop (off + (a.eval x).cells.toList.length)⟩, R, β, ?_, .inr ⟨rfl, rfl⟩, ?_, ?_⟩
            · simp [execOp, ho, Instr.storeAt, hpv, Instr.sureAddr, hrun]
            · rw [hd]
              refine ⟨⟨?_, fun id' go ro hg hr => ?_, h.g.inj, fun b' o' hi' => by have := h.g.wf b' o' hi'; simp; omega, fun g cs' hg => (h.g.glob g cs' hg).mono hex⟩, ?_, h.t.mono hex, h.n, h.d⟩
              · simp [St.inG, h.g.len]
              · rcases nth_setN hg with ⟨rfl, rfl, _⟩ | ⟨hne, hg'⟩
                · rw [hb] at hr
                  cases hr
                  exact ⟨_, el, setRow_heap w _ _ _ el (0, 0) b1, (b2.splice c1 hle).mono hex, one_splice b3 c2, b4⟩
                · refine (h.g.obj id' go ro hg' hr).mono hex (fun b' hb' => setRow_other w _ b' _ (fun e => hne ?_)) (fun _ _ _ hi => hi)
                  subst e
                  exact h.g.inj id id' _ _ b' hb hr rfl hb'
              · exact h.b.keep hex (fun k cs' hk' => setRow_other w _ _ _ (h.ne_box hb hk')) (fun _ _ _ _ hi => hi) (fun _ _ _ hl => hl)
            · have hown : Own R β s.boxes b := .inl ⟨id, _, hb, rfl⟩
              exact ⟨hex, rfl, rfl, rfl, by simp, fun b' _ hn => setRow_other w _ b' _ (fun e => hn (e ▸ hown)), fun _ _ hb => hb, fun b o hi _ _ => hi⟩
          · cases hs
        · cases hs
      · cases hs
    · cases hs
  · cases hs

end ops

end Go.Am
