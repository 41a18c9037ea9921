/- The abstract machine: what it does is what the model does: slices that are built and cut. -/
import Derived.Test.YtpngggdfbbdfaaaDoorAmI
import Derived.IntWalk
set_option linter.all false
namespace Go.Am
open Go

def ElOk (sz : Nat) (es : List AV) : Prop := ∀ e ∈ es, e.cells.length = sz ∧ e.notTup = true ∧ e.closed = true

theorem cellsL_append (l r : List AV) : cellsL (l ++ r) = cellsL l ++ cellsL r := by
  induction l with
  | nil => rfl
  | cons e l ih => simp [cellsL, ih]

theorem length_cellsL {sz : Nat} {es : List AV} (h : ElOk sz es) : (cellsL es).length = es.length * sz := by
  induction es with
  | nil => simp [cellsL]
  | cons e es ih =>
    have h1 := (h e (by simp)).1
    have := ih (fun x hx => h x (by simp [hx]))
    simp only [cellsL, List.length_append, this, h1, List.length_cons, Nat.add_mul]
    omega

section rel
variable {R : Realm} {w : World}
theorem relE_make {b sz : Nat} : ∀ {es : List AV} {o : Nat}, ElOk sz es → RelC R w b o (cellsL es) → RelE R w b o sz es
  | [], _, _, _ => .nil
  | e :: es, o, h, hc => by
    obtain ⟨h1, h2, h3⟩ := h e (by simp)
    obtain ⟨vs, k1, k2, k3, k4⟩ := hc.get
    have hd := hc.drop sz
    have hdrop : (cellsL (e :: es)).drop sz = cellsL es := by simp only [cellsL]; rw [← h1, List.drop_left]
    have htake : (cellsL (e :: es)).take sz = e.cells := by simp only [cellsL]; rw [← h1, List.take_left]
    rw [hdrop] at hd
    refine .cons h1 h2 h3 ?_ (relE_make (fun x hx => h x (by simp [hx])) hd)
    have kt := k1.take sz
    rw [htake] at kt
    refine .make kt (fun v hv => k2 v (List.mem_of_mem_take hv)) (fun j v hv => k3 j v ?_) (fun j hj => k4 j ?_)
    · rw [List.getElem?_take] at hv
      split at hv
      · exact hv
      · cases hv
    · simp only [cellsL, List.length_append]
      omega
theorem relE_cells {b sz : Nat} : ∀ {es : List AV} {o : Nat}, RelE R w b o sz es → ElOk sz es ∧ ∃ vs, RelL R w (cellsL es) vs ∧ (∀ v ∈ vs, v.oneCell' = true) ∧ (∀ j v, vs[j]? = some v → w.cell? ⟨b, o + j, none⟩ = some v) ∧ ∀ j, j < es.length * sz → R.I b (o + j)
  | [], o, _ => ⟨fun e he => by simp at he, [], .nil, by simp, by simp, by simp⟩
  | e :: es, o, h => by
    cases h with
    | cons hl ht hk hc t =>
      obtain ⟨g0, vs, g1, g2, g3, g4⟩ := relE_cells t
      obtain ⟨us, f1, f2, f3, f4⟩ := hc.get
      have hlen : us.length = sz := by rw [← f1.length, hl]
      refine ⟨fun x hx => ?_, us ++ vs, f1.append g1, fun v hv => ?_, fun j v hv => ?_, fun j hj => ?_⟩
      · rcases List.mem_cons.1 hx with rfl | hx
        · exact ⟨hl, ht, hk⟩
        · exact g0 x hx
      · rcases List.mem_append.1 hv with hv | hv
        · exact f2 v hv
        · exact g2 v hv
      · by_cases hj : j < sz
        · rw [List.getElem?_append_left (by omega)] at hv
          exact f3 j v hv
        · rw [List.getElem?_append_right (by omega), hlen] at hv
          have := g3 _ v hv
          rwa [show o + sz + (j - sz) = o + j by omega] at this
      · by_cases hj' : j < sz
        · exact f4 j (by omega)
        · have := g4 (j - sz) (by simp only [List.length_cons, Nat.add_mul] at hj; omega)
          rwa [show o + sz + (j - sz) = o + j by omega] at this
theorem relE_drop {b sz : Nat} : ∀ (n : Nat) {es : List AV} {o : Nat}, RelE R w b o sz es → RelE R w b (o + n * sz) sz (es.drop n)
  | 0, es, o, h => by simpa using h
  | n + 1, [], o, h => by simpa using RelE.nil
  | n + 1, e :: es, o, h => by
    cases h with
    | cons hl ht hk hc t =>
      have := relE_drop n t
      rw [show o + sz + n * sz = o + (n + 1) * sz by rw [Nat.add_mul]; omega] at this
      simpa using this
theorem relE_take {b sz : Nat} : ∀ (n : Nat) {es : List AV} {o : Nat}, RelE R w b o sz es → RelE R w b o sz (es.take n)
  | 0, es, o, h => by simpa using RelE.nil
  | n + 1, [], o, h => by simpa using RelE.nil
  | n + 1, e :: es, o, h => by
    cases h with
    | cons hl ht hk hc t => simpa using RelE.cons hl ht hk hc (relE_take n t)
end rel

theorem elOk_replicate {sz n : Nat} {z : AV} (h1 : z.cells.length = sz) (h2 : z.notTup = true) (h3 : z.closed = true) : ElOk sz (List.replicate n z) := fun e he => by
  rw [List.mem_replicate] at he
  rw [he.2]
  exact ⟨h1, h2, h3⟩

theorem setN_cells {sz : Nat} : ∀ {es : List AV} {i : Nat} {v : AV}, ElOk sz es → i < es.length → v.cells.length = sz → cellsL (setN es i v) = splice (cellsL es) (i * sz) v.cells
  | [], i, v, _, h, _ => by simp at h
  | e :: es, 0, v, h, _, hv => by
    have h1 := (h e (by simp)).1
    simp only [setN, cellsL, Nat.zero_mul]
    rw [splice_eq _ 0 _ (by simp; omega)]
    simp only [List.take_zero, List.nil_append, Nat.zero_add]
    rw [hv, ← h1, List.drop_left]
  | e :: es, i + 1, v, h, hi, hv => by
    have h1 := (h e (by simp)).1
    have hes : ElOk sz es := fun x hx => h x (by simp [hx])
    have ih := setN_cells (i := i) (v := v) hes (by simpa using hi) hv
    have hlt : i < es.length := by simpa using hi
    have hle : i * sz + sz ≤ es.length * sz := by rw [← Nat.succ_mul]; exact Nat.mul_le_mul_right _ hlt
    have hl := length_cellsL hes
    simp only [setN, cellsL]
    have e1 : (i + 1) * sz = e.cells.length + i * sz := by rw [h1, Nat.succ_mul]; omega
    have e2 : List.take (e.cells.length + i * sz) e.cells = e.cells := List.take_of_length_le (by omega)
    rw [ih, splice_eq _ _ _ (by omega), e1, splice_eq _ _ _ (by simp only [List.length_append]; omega)]
    rw [List.take_append, e2, Nat.add_assoc, List.drop_append, List.drop_of_length_le (by omega : e.cells.length ≤ e.cells.length + (i * sz + v.cells.length))]
    simp [Nat.add_sub_cancel_left]

theorem elOk_setN {sz : Nat} {es : List AV} {i : Nat} {v : AV} (h : ElOk sz es) (h1 : v.cells.length = sz) (h2 : v.notTup = true) (h3 : v.closed = true) : ElOk sz (setN es i v) := fun e he => by
  rw [setN_eq] at he
  rcases List.mem_or_eq_of_mem_set he with he | rfl
  · exact h e he
  · exact ⟨h1, h2, h3⟩

theorem fillE_fillA {sz : Nat} : ∀ {ps : List (Nat × AV)} {es es' : List AV}, fillE sz es ps = some es' → ElOk sz es →
    fillA (fun i => some (i * sz, sz)) (cellsL es) ps = some (cellsL es') ∧ ElOk sz es' ∧ es'.length = es.length
  | [], es, es', h, hk => by simp [fillE] at h; subst h; exact ⟨rfl, hk, rfl⟩
  | (i, v) :: ps, es, es', h, hk => by
    unfold fillE at h
    split at h
    · rename_i hc
      simp only [Bool.and_eq_true] at hc
      obtain ⟨⟨⟨hn, hl⟩, hi⟩, hk0⟩ := hc
      have hl' := Nat.eq_of_beq_eq_true hl
      have hi' := Nat.le_of_ble_eq_true hi
      obtain ⟨g1, g2, g3⟩ := fillE_fillA h (elOk_setN hk hl' hn hk0)
      refine ⟨?_, g2, by simpa using g3⟩
      unfold fillA
      have hle : Nat.ble (i * sz + sz) (cellsL es).length = true := by
        apply Nat.ble_eq_true_of_le
        rw [length_cellsL hk, ← Nat.succ_mul]
        exact Nat.mul_le_mul_right _ hi'
      simp only [hn, hl, hle, Bool.and_self, if_true]
      rw [← setN_cells hk (by omega) hl']
      exact g1
    · cases h

section ops
variable {E : Env} {R : Realm} {w : World} {β : Nat → Nat} {s : St} {a : Act} {o : Oper}

def Realm.imm (R : Realm) (b : Nat) : Realm := ⟨fun b' o => R.I b' o ∨ b' = b, R.obj⟩

theorem ext_imm (wf : ∀ b o, R.I b o → b < w.heap.size) (x : Obj) : Ext R w (R.imm w.heap.size) (w.alloc x) :=
  ⟨fun _ _ h => .inl h, fun b o h => cell_of_block (heap_alloc_old w x b (wf b o h)) o, fun _ ro h => ⟨ro, h, RoLe.refl ro⟩, .old fun b hb => heap_alloc_old w x b hb⟩

/-- A new block whose cells never change. -/
theorem Rep.imm (h : Rep E R w β s a) (x : Obj) : Rep E (R.imm w.heap.size) (w.alloc x) β s a :=
  h.keep (ext_imm h.g.wf x) rfl (fun b hb => heap_alloc_old w x b (h.own_lt hb)) (fun b o hb hi => by
    rcases hi with hi | hi
    · exact hi
    · have := h.own_lt hb
      omega) (fun b o hi => by
    rcases hi with hi | hi
    · have := h.g.wf b o hi
      simp
      omega
    · simp
      omega)

theorem step_imm (h : Rep E R w β s a) (x : Obj) : Step R w β s.boxes (R.imm w.heap.size) (w.alloc x) β s.boxes :=
  ⟨ext_imm h.g.wf x, rfl, rfl, rfl, by simp, fun b hb _ => heap_alloc_old w x b hb, fun _ _ ho => ho, fun b o hi hb _ => by
    rcases hi with hi | hi
    · exact hi
    · omega⟩

/-- The cells of a row of zeros. -/
theorem zero_row (z : Array Value) : ∀ (n : Nat), (((Array.range (n * z.size)).map fun i => z[i % z.size]!)).toList = (List.replicate n z.toList).flatten
  | 0 => by simp
  | n + 1 => by
    have ih := zero_row z n
    simp only [Array.toList_map, Array.toList_range] at ih ⊢
    rw [Nat.add_mul, Nat.one_mul, List.range_add, List.map_append, ih, List.replicate_succ', List.flatten_append]
    congr 1
    simp only [List.map_map, List.flatten_cons, List.flatten_nil, List.append_nil]
    apply List.ext_getElem?
    intro i
    by_cases hi : i < z.size
    · simp only [List.getElem?_map, List.getElem?_range hi, Option.map_some, Function.comp_apply]
      rw [Nat.mul_comm n, Nat.mul_add_mod, Nat.mod_eq_of_lt hi]
      simp [hi]
    · rw [List.getElem?_eq_none (by simp; omega), List.getElem?_eq_none (by simp; omega)]

theorem rel_zeros {z : AV} {c : Value} (hr : Rel R w z c) (hn : z.notTup = true) : ∀ (n : Nat), RelL R w (cellsL (List.replicate n z)) (List.replicate n c.cells.toList).flatten ∧ ∀ v ∈ (List.replicate n c.cells.toList).flatten, v.oneCell' = true
  | 0 => by simp [cellsL]; exact .nil
  | n + 1 => by
    obtain ⟨c1, c2⟩ := Rel.cells hr hn
    obtain ⟨h1, h2⟩ := rel_zeros hr hn n
    refine ⟨?_, fun v hv => ?_⟩
    · simpa [List.replicate_succ, cellsL] using c1.append h1
    · simp only [List.replicate_succ, List.flatten_cons, List.mem_append] at hv
      rcases hv with hv | hv
      · exact c2 v hv
      · exact h2 v hv

theorem weakP_rel : ∀ {ps : List (Nat × AV)} {us : List Value}, RelL R w (ps.map (·.2)) us → RelL R w ((weakP ps).map (·.2)) us
  | [], _, h => h
  | (_, _) :: _, _, .cons h t => .cons h.weak (weakP_rel t)
theorem weakP_fst : ∀ (ps : List (Nat × AV)), (weakP ps).map (·.1) = ps.map (·.1)
  | [] => rfl
  | (i, v) :: l => by simp [weakP, weakP_fst l]

theorem buildSlice_run (h : Rep E R w β s a) (t : TypeId) (len : Nat) (parts : Array (Nat × Operand)) (ho : o.op = .buildSlice t len parts) {v : AV} (hv : buildSliceA E s t len parts.toList = some v) :
    ∃ es esz us elem, v = .list .full esz es ∧ (execOp a.eval o).run E.P w = .ok (.value (.slice (some ⟨w.heap.size, 0, none⟩) len len)) (w.alloc (.cells ⟨us⟩ elem)) ∧ ElOk esz es ∧ es.length = len ∧ RelL R w (cellsL es) us ∧ (∀ x ∈ us, x.oneCell' = true) ∧ ∃ i ag by_ z, E.ti t = some i ∧ i.k = .sl elem esz ag by_ z := by
  unfold buildSliceA at hv
  split at hv
  · rename_i i ps hi hps
    split at hv
    · rename_i elem esz ag by_ z hk
      split at hv
      · rename_i hc
        simp only [Bool.and_eq_true] at hc
        obtain ⟨⟨⟨⟨hz1, hz2⟩, hz3⟩, hz4⟩, hz5⟩ := hc
        have hz1 := Nat.eq_of_beq_eq_true hz1
        have hz2 := Nat.le_of_ble_eq_true hz2
        have hz3 := Nat.le_of_ble_eq_true hz3
        split at hv
        · rename_i es hes
          cases hv
          obtain ⟨info, u, e1, e2, e3, e4, e5, e6⟩ := ti_info E hi
          rw [hk] at e5
          obtain ⟨ie, ue, rfl, f1, f2, f3, f4, f5, f6⟩ := tkOf_sl e5
          obtain ⟨zc, hzc, hzr⟩ := constOf_some f6
          have hzR := hzr R w
          obtain ⟨c1, c2⟩ := Rel.cells hzR hz4
          have hcs : zc.cells.size = esz := by rw [← hz1, c1.length]; simp
          obtain ⟨p1, p2⟩ := evP_rel h hps
          obtain ⟨z1, z2⟩ := rel_zeros hzR hz4 len
          obtain ⟨g1, g2, g3⟩ := fillE_fillA hes (elOk_replicate hz1 hz4 hz5)
          obtain ⟨us, u1, u2, u3⟩ := fill_rel (R := R) (w := w) _ (weakP_rel p1) ((weakP_fst ps).trans p2) z1 z2 g1
          have epm : (parts.map fun (x : Nat × Operand) => (x.1, a.eval x.2)).toList = parts.toList.map fun x => (x.1, a.eval x.2) := by simp
          have hrow : ((Array.range (len * esz)).map fun i => zc.cells[i % zc.cells.size]!) = ⟨(List.replicate len zc.cells.toList).flatten⟩ := by
            apply Array.ext'
            rw [← hcs]
            exact zero_row zc.cells len
          have hlen : es.length = len := by simpa using g3
          have hrun : (Instr.buildSlice t len (parts.map fun (x : Nat × Operand) => (x.1, a.eval x.2))).run E.P w = .ok (.slice (some ⟨w.heap.size, 0, none⟩) len len) (w.alloc (.cells ⟨us⟩ elem)) := by
            have hgt : ¬ len * esz > 2 ^ 24 := by omega
            by_cases h0 : len * esz = 0
            · have hl0 : len = 0 := by
                rcases Nat.mul_eq_zero.1 h0 with h0 | h0 <;> omega
              subst hl0
              have u1' : Instr.fill (fun i => some (i * esz, esz)) #[] (parts.toList.map fun x => (x.1, a.eval x.2)) = some ⟨us⟩ := by simpa using u1
              simp only [Instr.buildSlice, Sem.run_bind, run_underlying e2, Result.andThen_ok, run_sizeOf w f1, f2]
              simp only [Nat.zero_mul, gt_iff_lt, Nat.not_lt_zero, if_false, if_true, Sem.run_bind, Sem.run_pure, Result.andThen_ok, epm]
              have hmap0 : ∀ f : Nat → Value, Array.map f (Array.range 0) = #[] := fun f => by simp
              simp only [hmap0, u1', newRow, Sem.run_bind, run_newObj, Result.andThen_ok, Sem.run_pure]
              rfl
            · simp only [Instr.buildSlice, Sem.run_bind, run_underlying e2, Result.andThen_ok, run_sizeOf w f1, f2]
              rw [if_neg hgt, if_neg h0]
              simp only [Sem.run_bind, Sem.run_pure, Result.andThen_ok, run_zeroValue w f1 hzc, epm, hrow, u1, newRow, run_newObj]
              rfl
          exact ⟨es, esz, us, elem, rfl, by simp only [execOp, ho, Sem.run_bind, hrun, Result.andThen_ok, Sem.run_pure], g2, hlen, u2, u3, i, ag, by_, _, hi, hk⟩
        · cases hv
      · cases hv
    · cases hv
  · cases hv

theorem exec_buildSlice (h : Rep E R w β s a) (t : TypeId) (len : Nat) (parts : Array (Nat × Operand)) (ho : o.op = .buildSlice t len parts) {v : AV} (hv : buildSliceA E s t len parts.toList = some v) :
    Done E R w β s a o (s.put o.dst (.v v)) := by
  obtain ⟨es, esz, us, elem, rfl, hrun, g2, hlen, u2, u3, _⟩ := buildSlice_run h t len parts ho hv
  have e := ext_imm (R := R) (w := w) h.g.wf (.cells ⟨us⟩ elem)
  refine ⟨_, .slice (some ⟨w.heap.size, 0, none⟩) len len, _, R.imm w.heap.size, β, hrun, .inl rfl, (h.imm (.cells ⟨us⟩ elem)).put o.dst ?_, by rw [boxes_put]; exact step_imm h _⟩
  refine Rel.list (relE_make g2 (RelC.make (u2.mono e) u3 (fun j x hx => ?_) (fun j _ => .inr rfl))) hlen.symm (Nat.le_refl _) rfl
  rw [cell_row (heap_alloc_new w _)]
  simpa using hx

/-- The same slice, if its elements are to be written. -/
theorem exec_buildSliceM (h : Rep E R w β s a) (t : TypeId) (len : Nat) (parts : Array (Nat × Operand)) (ho : o.op = .buildSlice t len parts) {k : LK} {esz : Nat} {es : List AV} (hv : buildSliceA E s t len parts.toList = some (.list k esz es)) :
    Done E R w β s a o ((s.addG (.row (cellsL es))).put o.dst (.v (.msl s.G.length 0 esz len len))) := by
  obtain ⟨es', esz', us, elem, hve, hrun, g2, hlen, u2, u3, _⟩ := buildSlice_run h t len parts ho hv
  cases hve
  have e := ext_add (R := R) (w := w) h.g.wf (.cells ⟨us⟩ elem) (.blk w.heap.size)
  have hgo : RepO (R.add (.blk w.heap.size)) (w.alloc (.cells ⟨us⟩ elem)) (.row (cellsL es)) (.blk w.heap.size) :=
    ⟨_, elem, heap_alloc_new w _, u2.mono e, u3, fun o' hi => by have := h.g.wf _ _ hi; omega⟩
  exact ⟨_, _, _, R.add (.blk w.heap.size), β, hrun, .inl rfl, (h.addObj _ _ _ rfl hgo).put o.dst (x := .v (.msl s.G.length 0 esz len len)) (Rel.msl (nth_new h _) (Nat.le_refl _)), by rw [boxes_put]; exact step_addObj h _ _ rfl⟩
end ops
end Go.Am
