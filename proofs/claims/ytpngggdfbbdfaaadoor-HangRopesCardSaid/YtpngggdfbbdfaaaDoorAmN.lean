/- The abstract machine: what it does is what the model does: append and copy. -/
import Derived.Test.YtpngggdfbbdfaaaDoorAmM
set_option linter.all false
namespace Go.Am
open Go

section ops
variable {E : Env} {R : Realm} {w : World} {β : Nat → Nat} {s : St} {a : Act} {o : Oper}

/-- The elements of a slice that is appended or copied. -/
theorem list_cells {k : LK} {sz esz : Nat} {es : List AV} {c : Value} (h : Rel R w (.list k sz es) c) (hsz : es = [] ∨ sz = esz) :
    ElOk esz es ∧ ∃ vs, RelL R w (cellsL es) vs ∧ (∀ v ∈ vs, v.oneCell' = true) ∧ vs.length = es.length * esz ∧
      ((es = [] ∧ vs = [] ∧ c = .slice none 0 0) ∨ ∃ b o' cap, c = .slice (some ⟨b, o', none⟩) es.length cap ∧ es.length ≤ cap ∧ LkOk R k b o' es.length cap ∧ (∀ j v, vs[j]? = some v → w.cell? ((⟨b, o', none⟩ : Addr).add j) = some v) ∧ RelE R w b o' esz es) := by
  cases h with
  | lnil => exact ⟨fun e he => by simp at he, [], .nil, by simp, by simp, .inl ⟨rfl, rfl, rfl⟩⟩
  | lopn => exact ⟨fun e he => by simp at he, [], .nil, by simp, by simp, .inl ⟨rfl, rfl, rfl⟩⟩
  | lown => exact ⟨fun e he => by simp at he, [], .nil, by simp, by simp, .inl ⟨rfl, rfl, rfl⟩⟩
  | @list _ _ _ b o' len cap hr hlen hcap hkk =>
    subst hlen
    have hr' : RelE R w b o' esz es := by
      rcases hsz with rfl | rfl
      · exact .nil
      · exact hr
    obtain ⟨g0, vs, g1, g2, g3, g4⟩ := relE_cells hr'
    refine ⟨g0, vs, g1, g2, by rw [← g1.length, length_cellsL g0], .inr ⟨b, o', cap, rfl, hcap, hkk, fun j v hv => ?_, hr'⟩⟩
    rw [addr_add]
    exact g3 j v hv

theorem relE_row {b esz : Nat} {es : List AV} {vs : List Value} {w : World} {R : Realm} (h0 : ElOk esz es) (h : RelL R w (cellsL es) vs) (h1 : ∀ v ∈ vs, v.oneCell' = true)
    (hc : ∀ j v, vs[j]? = some v → w.cell? ⟨b, j, none⟩ = some v) (hI : ∀ j, j < vs.length → R.I b j) : RelE R w b 0 esz es :=
  relE_make h0 (RelC.make h h1 (fun j v hv => by rw [Nat.zero_add]; exact hc j v hv) (fun j hj => by rw [Nat.zero_add]; exact hI j (by rw [← h.length]; exact hj)))

theorem elOk_append {sz : Nat} {l r : List AV} (h : ElOk sz l) (k : ElOk sz r) : ElOk sz (l ++ r) := fun e he => by
  rcases List.mem_append.1 he with he | he
  · exact h e he
  · exact k e he

theorem one_append {l r : List Value} (h : ∀ v ∈ l, v.oneCell' = true) (k : ∀ v ∈ r, v.oneCell' = true) : ∀ v ∈ l ++ r, v.oneCell' = true := fun v hv => by
  rcases List.mem_append.1 hv with hv | hv
  · exact h v hv
  · exact k v hv

theorem exec_append (h : Rep E R w β s a) {args : Array Operand} {t : TypeId} (ho : o.op = .call { callee := .builtin .append, args := args, argTypes := #[t, t] }) {x : AV} {k2 : LK} {sz2 : Nat} {ys : List AV}
    (hl : evL E s.slots args.toList = some [x, .list k2 sz2 ys]) {i : TI} (hi : E.ti t = some i) {elem esz eb : Nat} {ag : Bool} {z : AV} (hk : i.k = .sl elem esz ag eb (some z)) (hsz2 : ys = [] ∨ sz2 = esz) (hes : 1 ≤ esz) (heb : 1 ≤ eb) (hz : z.cells.length = esz) (hzn : z.notTup = true)
    {v : AV} {G' : List GO} (ha : appendA s.G elem esz eb x ys = some (true, v, G')) :
    Done E R w β s a o ((s.inG G').put o.dst (.v v)) := by
  have hr := evL_rel h hl
  generalize hv : args.toList.map a.eval = vs at hr
  have hx := exec_builtin (E := E) (w := w) ho vs hv
  cases hr with
  | @cons _ cx _ _ h0 h1 =>
  cases h1 with
  | @cons _ cy _ _ h1 h2 =>
  cases h2
  obtain ⟨info, u, e1, e2, e3, e4, e5, e6⟩ := ti_info E hi
  rw [hk] at e5
  obtain ⟨ie, ue, rfl, f1, f2, f3, f4, f5, f6⟩ := tkOf_sl e5
  obtain ⟨zc, hzc, hzr⟩ := constOf_some f6
  obtain ⟨d1, d2⟩ := Rel.cells (hzr R w) hzn
  have hcs : zc.cells.size = esz := by rw [← hz, d1.length]; simp
  have hargs : (⟨[cx, cy]⟩ : Array Value) = #[cx, cy] := rfl
  have hfin : ∀ {c : Value} {w' : World}, (Builtin.append_ #[t, t] o.type #[cx, cy]).run E.P w = .ok c w' → (execOp a.eval o).run E.P w = .ok (.value c) w' := fun hh => by
    rw [hx]
    simp only [builtin, hargs, Sem.run_bind, hh, Result.andThen_ok, Sem.run_pure]
  obtain ⟨y0, us, y1, y2, y3, y4⟩ := list_cells (esz := esz) h1 hsz2
  unfold appendA at ha
  split at ha
  · -- nothing is appended
    rename_i k sz es
    have hus : us = [] := List.eq_nil_of_length_eq_zero (by simpa using y3)
    have hG : G' = s.G ∧ Rel R w v cx := by
      split at ha
      · injection ha with ha; injection ha with _ ha; injection ha with p q
        subst p; subst q
        exact ⟨rfl, h0⟩
      · injection ha with ha; injection ha with _ ha; injection ha with p q
        subst p; subst q
        exact ⟨rfl, h0⟩
    obtain ⟨rfl, hvr⟩ := hG
    refine done_value (s := s) h (c := cx) (hfin ?_) hvr
    cases h0 with
    | lnil =>
      rcases y4 with ⟨_, _, rfl⟩ | ⟨b, o', cap, rfl, _⟩
      · simp [Builtin.append_, run_underlying e2, run_sizeOf w f1, Builtin.lenOf, Builtin.firstCells]
      · simp [Builtin.append_, run_underlying e2, run_sizeOf w f1, Builtin.lenOf, Builtin.firstCells, loadCells, loadCellsFrom]
    | lopn =>
      rcases y4 with ⟨_, _, rfl⟩ | ⟨b, o', cap, rfl, _⟩
      · simp [Builtin.append_, run_underlying e2, run_sizeOf w f1, Builtin.lenOf, Builtin.firstCells]
      · simp [Builtin.append_, run_underlying e2, run_sizeOf w f1, Builtin.lenOf, Builtin.firstCells, loadCells, loadCellsFrom]
    | lown =>
      rcases y4 with ⟨_, _, rfl⟩ | ⟨b, o', cap, rfl, _⟩
      · simp [Builtin.append_, run_underlying e2, run_sizeOf w f1, Builtin.lenOf, Builtin.firstCells]
      · simp [Builtin.append_, run_underlying e2, run_sizeOf w f1, Builtin.lenOf, Builtin.firstCells, loadCells, loadCellsFrom]
    | list hr hlen hcap _ =>
      rcases y4 with ⟨_, _, rfl⟩ | ⟨b, o', cap, rfl, _⟩
      · simp [Builtin.append_, run_underlying e2, run_sizeOf w f1, Builtin.lenOf, Builtin.firstCells, hcap, storeCells]
      · simp [Builtin.append_, run_underlying e2, run_sizeOf w f1, Builtin.lenOf, Builtin.firstCells, hcap, storeCells, loadCells, loadCellsFrom]
  · -- something is appended
    rename_i k sz es y ys
    have hpos : 0 < (y :: ys).length := by simp
    rcases y4 with ⟨hc, _⟩ | ⟨by', oy, capy, rfl, ycap, _, ycell, yE⟩
    · cases hc
    -- what is shown where a new block has been made
    have grown : ∀ {n old : Nat} {xs : List Value} {es' : List AV}, (es'.length = n) → ElOk esz es' → RelL R w (cellsL es') xs → (∀ v ∈ xs, v.oneCell' = true) → xs.length = n * esz →
        (n + (y :: ys).length) * eb ≤ 140737488355328 → n + (y :: ys).length ≤ maxLen → ∀ (R' : Realm) (G2 : List GO) (id : Nat),
        Rep E R' (w.drew.alloc (.cells (xs.toArray ++ us.toArray ++ Builtin.zeroCells zc.cells (grownCap w (n + (y :: ys).length) old elem - (n + (y :: ys).length))) elem)) β (s.inG G2) a →
        Step R w β s.boxes R' (w.drew.alloc (.cells (xs.toArray ++ us.toArray ++ Builtin.zeroCells zc.cells (grownCap w (n + (y :: ys).length) old elem - (n + (y :: ys).length))) elem)) β s.boxes →
        (∀ j, j < (n + (y :: ys).length) * esz → R'.I w.heap.size j) → nth R'.obj id = some (.tok (n + (y :: ys).length) w.heap.size (grownCap w (n + (y :: ys).length) old elem)) →
        (Builtin.append_ #[t, t] o.type #[cx, .slice (some ⟨by', oy, none⟩) (y :: ys).length capy]).run E.P w = .ok (.slice (some ⟨w.heap.size, 0, none⟩) (n + (y :: ys).length) (grownCap w (n + (y :: ys).length) old elem)) (w.drew.alloc (.cells (xs.toArray ++ us.toArray ++ Builtin.zeroCells zc.cells (grownCap w (n + (y :: ys).length) old elem - (n + (y :: ys).length))) elem)) →
        Done E R w β s a o ((s.inG G2).put o.dst (.v (.list (.own id) esz (es' ++ (y :: ys))))) := by
      intro n old xs es' hn0 hes0 hxr hx1 hxl _ _ R' G2 id hrep hstep hI hid hrun
      refine ⟨_, _, _, R', β, hfin hrun, .inl rfl, hrep.put o.dst ?_, by rw [boxes_put]; exact hstep⟩
      have e := hstep.ext
      refine Rel.list (relE_row (vs := xs ++ us) (elOk_append hes0 y0) (by rw [cellsL_append]; exact (hxr.mono e).append (y1.mono e)) (one_append hx1 y2) (fun j v hj => ?_) (fun j hj => hI j (by rw [List.length_append, hxl, y3, ← Nat.add_mul] at hj; exact hj))) (by simp [hn0]) (grownCap_ge w _ _ _) ⟨_, hid, Nat.le_refl _, fun _ => ⟨rfl, rfl, rfl⟩⟩
      have hnew : (w.drew.alloc (.cells (xs.toArray ++ us.toArray ++ Builtin.zeroCells zc.cells (grownCap w (n + (y :: ys).length) old elem - (n + (y :: ys).length))) elem)).heap[w.heap.size]? = some (.cells (xs.toArray ++ us.toArray ++ Builtin.zeroCells zc.cells (grownCap w (n + (y :: ys).length) old elem - (n + (y :: ys).length))) elem (0, 0)) := heap_alloc_new w.drew _
      rw [cell_of_row _ _ j _ _ _ hnew]
      have hlt := (List.getElem?_eq_some_iff.1 hj).1
      rw [← Array.getElem?_toList]
      simp only [Array.toList_append, List.append_assoc]
      rw [← List.append_assoc, List.getElem?_append_left hlt]
      exact hj
    have sizes : ∀ {n old : Nat} {xs : List Value}, xs.length = n * esz → n + (y :: ys).length ≤ maxLen → (xs.toArray ++ us.toArray ++ Builtin.zeroCells zc.cells (grownCap w (n + (y :: ys).length) old elem - (n + (y :: ys).length))).size = grownCap w (n + (y :: ys).length) old elem * esz := by
      intro n old xs hxl _
      have hge := grownCap_ge w (n + (y :: ys).length) old elem
      simp only [Array.size_append, List.size_toArray, size_zeroCells, hcs, hxl, y3, ← Nat.add_mul]
      congr 1
      omega
    have fresh : ∀ {n old : Nat} {xs : List Value} {es' : List AV}, (es'.length = n) → ElOk esz es' → RelL R w (cellsL es') xs → (∀ v ∈ xs, v.oneCell' = true) → xs.length = n * esz →
        (n + (y :: ys).length) * eb ≤ 140737488355328 → n + (y :: ys).length ≤ maxLen →
        (Builtin.append_ #[t, t] o.type #[cx, .slice (some ⟨by', oy, none⟩) (y :: ys).length capy]).run E.P w = .ok (.slice (some ⟨w.heap.size, 0, none⟩) (n + (y :: ys).length) (grownCap w (n + (y :: ys).length) old elem)) (w.drew.alloc (.cells (xs.toArray ++ us.toArray ++ Builtin.zeroCells zc.cells (grownCap w (n + (y :: ys).length) old elem - (n + (y :: ys).length))) elem)) →
        Done E R w β s a o ((s.inG (s.G ++ [.tok (n + (y :: ys).length) esz elem])).put o.dst (.v (.list (.own s.G.length) esz (es' ++ (y :: ys))))) := by
      intro n old xs es' hn0 hes0 hxr hx1 hxl hb hm hrun
      obtain ⟨r1, r2⟩ := h.tokAdd (cur := xs.toArray ++ us.toArray ++ Builtin.zeroCells zc.cells (grownCap w (n + (y :: ys).length) old elem - (n + (y :: ys).length))) (elem := elem) (grownCap_ge w (n + (y :: ys).length) old elem) (grownCap_le_maxLen w _ old elem hm) (sizes hxl hm)
      exact grown hn0 hes0 hxr hx1 hxl hb hm _ _ _ r1 r2 (fun j hj => .inr ⟨rfl, hj⟩) (by rw [← h.g.len]; exact nth_append_new _ _) hrun
    have hml : ∀ {n : Nat}, (n + (y :: ys).length) * eb ≤ 140737488355328 → n + (y :: ys).length ≤ 140737488355328 := fun {n} hb => Nat.le_trans (Nat.le_mul_of_pos_right _ heb) hb
    split at ha
    · -- nil
      injection ha with ha; injection ha with hc ha; injection ha with p q
      subst p; subst q
      have hb := of_decide_eq_true hc
      cases h0 with
      | list _ _ _ hkk => exact hkk.elim
      | lnil =>
        simp only [List.length_nil] at hb
        have hm := hml hb
        refine fresh (n := 0) (old := 0) (xs := []) (es' := []) rfl (fun e he => by simp at he) .nil (by simp) (by simp) hb (by unfold maxLen; omega) ?_
        have hrun := run_append_nil (P := E.P) w t o.type elem ie zc e2 f1 hzc ⟨by', oy, none⟩ (y :: ys).length capy us (by rw [y3, f2]) ycell hpos (by omega) (by rw [f3]; rw [Nat.zero_add] at hb; omega)
        simpa using hrun
    · -- as long as its capacity
      split at ha
      · rename_i hsz
        have hsz := Nat.eq_of_beq_eq_true hsz
        subst hsz
        injection ha with ha; injection ha with hc ha; injection ha with p q
        subst p; subst q
        have hb := of_decide_eq_true hc
        have hm := hml hb
        obtain ⟨x0, xs, x1, x2, x3, x4⟩ := list_cells (esz := sz) h0 (.inr rfl)
        rcases x4 with ⟨rfl, rfl, rfl⟩ | ⟨b, o', cap, rfl, xcap, xk, xcell, _⟩
        · cases h0
        · have hcap : cap = es.length := xk
          subst hcap
          refine fresh (n := es.length) (old := es.length) (xs := xs) (es' := es) rfl x0 x1 x2 x3 hb (by unfold maxLen; omega) ?_
          exact run_append_grow (P := E.P) w t o.type elem ie zc e2 f1 hzc ⟨b, o', none⟩ es.length es.length xs (by rw [x3, f2]) xcell ⟨by', oy, none⟩ (y :: ys).length capy us (by rw [y3, f2]) ycell (by omega) (by omega) (growslice_fits (by omega) (by rw [f3]; exact hb))
      · cases ha
    · -- of a token
      rename_i id
      split at ha
      · rename_i f sz' e' hgo
        split at ha
        · rename_i hcnd
          simp only [Bool.and_eq_true] at hcnd
          obtain ⟨⟨q1, q2⟩, q3⟩ := hcnd
          have q1 := Nat.eq_of_beq_eq_true q1
          have q2 := Nat.eq_of_beq_eq_true q2
          have q3 := Nat.eq_of_beq_eq_true q3
          subst q1; subst q2; subst q3
          injection ha with ha; injection ha with hc ha; injection ha with p q
          subst p; subst q
          simp only [Bool.and_eq_true] at hc
          have hfl := of_decide_eq_true hc.1
          have hb := of_decide_eq_true hc.2
          subst hfl
          have hm := hml hb
          obtain ⟨x0, xs, x1, x2, x3, x4⟩ := list_cells (esz := sz) h0 (.inr rfl)
          rcases x4 with ⟨rfl, rfl, rfl⟩ | ⟨b, o', cap, rfl, xcap, xk, xcell, xE⟩
          · cases h0 with
            | @lown _ _ ro hro hon =>
            have hrep := h.g.obj id _ _ hgo hro
            cases ro with
            | none => exact hrep.elim
            | blk _ => exact hrep.elim
            | tok f' g c =>
              obtain ⟨rfl, _⟩ := hrep
              simp [OwnNil] at hon
            | nil0 =>
              simp only [List.length_nil] at hb
              have hrun := run_append_nil (P := E.P) w t o.type e' ie zc e2 f1 hzc ⟨by', oy, none⟩ (y :: ys).length capy us (by rw [y3, f2]) ycell hpos (by omega) (by rw [f3]; rw [Nat.zero_add] at hb; omega)
              have hsz := sizes (n := 0) (old := 0) (xs := []) (by simp) (by unfold maxLen; omega)
              obtain ⟨r1, r2⟩ := h.tokSet (cur := [].toArray ++ us.toArray ++ Builtin.zeroCells zc.cells (grownCap w (0 + (y :: ys).length) 0 e' - (0 + (y :: ys).length))) (elem := e') (n := 0 + (y :: ys).length) (cap := grownCap w (0 + (y :: ys).length) 0 e') hgo hro (fun b c => by simp only [RoLe]; omega) (grownCap_ge w _ _ _) (grownCap_le_maxLen w _ _ _ (by unfold maxLen; omega)) hsz
              exact grown (n := 0) (es' := []) rfl (fun e he => by simp at he) .nil (by simp) (by simp) hb (by unfold maxLen; omega) _ _ _ r1 r2 (fun j hj => .inr ⟨rfl, hj⟩) (nth_setN_self hro) (by simpa using hrun)
          · obtain ⟨ro, hro, hlk⟩ := xk
            have hrep := h.g.obj id _ _ hgo hro
            cases ro with
            | none => exact hrep.elim
            | nil0 => exact hlk.elim
            | blk _ => exact hrep.elim
            | tok f' g c =>
              obtain ⟨rfl, cur, hcur, k1, k3, k4, k5⟩ := hrep
              obtain ⟨rfl, rfl, rfl⟩ := hlk.2 rfl
              by_cases hroom : es.length + (y :: ys).length ≤ cap
              · have hle : (es.length + (y :: ys).length) * sz ≤ cap * sz := Nat.mul_le_mul_right _ hroom
                have hrun := run_append_room (P := E.P) w t o.type e' ie e2 f1 b es.length cap cur hcur ⟨by', oy, none⟩ (y :: ys).length capy us (by rw [y3, f2]) ycell y2 hroom (by rw [f2, y3, ← Nat.add_mul, k4]; exact hle)
                rw [f2] at hrun
                obtain ⟨r0, r1, r2⟩ := h.tokRoom (news := us) (n := es.length + (y :: ys).length) hgo hro (by omega) hroom hcur k4 k3 (by rw [y3, ← Nat.add_mul])
                refine ⟨_, _, _, _, β, hfin hrun, .inl rfl, r1.put o.dst ?_, by rw [boxes_put]; exact r2⟩
                have hnew := setRow_heap w b cur (cur.toList.take (es.length * sz) ++ us ++ cur.toList.drop (es.length * sz + us.length)).toArray e' (0, 0) hcur
                have hxs : cur.toList.take (es.length * sz) = xs := by
                  have hl1 : xs.length = es.length * sz := x3
                  apply List.ext_getElem?
                  intro j
                  rw [List.getElem?_take]
                  split
                  · rename_i hj
                    have hj' : j < xs.length := by omega
                    have hx' := xcell j xs[j] (List.getElem?_eq_getElem hj')
                    rw [addr_add, Nat.zero_add, cell_of_row w b j cur e' (0, 0) hcur] at hx'
                    rw [Array.getElem?_toList, hx', List.getElem?_eq_getElem hj']
                  · rw [List.getElem?_eq_none (by omega)]
                refine Rel.list (relE_row (vs := xs ++ us) (elOk_append x0 y0) (by rw [cellsL_append]; exact (x1.mono r0).append (y1.mono r0)) (one_append x2 y2) (fun j v hj => ?_) (fun j hj => .inr ⟨rfl, by rw [List.length_append, x3, y3, ← Nat.add_mul] at hj; exact hj⟩)) (by simp) hroom ⟨_, nth_setN_self hro, Nat.le_refl _, fun _ => ⟨rfl, rfl, rfl⟩⟩
                rw [cell_of_row _ _ j _ _ _ hnew, hxs]
                simp only [List.getElem?_toArray]
                rw [List.getElem?_append_left (List.getElem?_eq_some_iff.1 hj).1]
                exact hj
              · have hrun := run_append_grow (P := E.P) w t o.type e' ie zc e2 f1 hzc ⟨b, 0, none⟩ es.length cap xs (by rw [x3, f2]) xcell ⟨by', oy, none⟩ (y :: ys).length capy us (by rw [y3, f2]) ycell (by omega) (by omega) (growslice_fits (by omega) (by rw [f3]; exact hb))
                obtain ⟨r1, r2⟩ := h.tokSet (cur := xs.toArray ++ us.toArray ++ Builtin.zeroCells zc.cells (grownCap w (es.length + (y :: ys).length) cap e' - (es.length + (y :: ys).length))) (elem := e') (n := es.length + (y :: ys).length) (cap := grownCap w (es.length + (y :: ys).length) cap e') hgo hro (fun b c => ⟨by omega, fun e => by omega⟩) (grownCap_ge w _ _ _) (grownCap_le_maxLen w _ _ _ (by unfold maxLen; omega)) (sizes x3 (by unfold maxLen; omega))
                exact grown rfl x0 x1 x2 x3 hb (by unfold maxLen; omega) _ _ _ r1 r2 (fun j hj => .inr ⟨rfl, hj⟩) (nth_setN_self hro) hrun
        · cases ha
      · cases ha
    · cases ha
  · cases ha

end ops
end Go.Am
