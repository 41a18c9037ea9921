/- The abstract machine: what it does is what the model does: copy; and one theorem for every operation. -/
import Derived.Test.YtpngggdfbbdfaaaDoorAmNb
set_option linter.all false
namespace Go.Am
open Go

section ops
variable {E : Env} {R : Realm} {w : World} {β : Nat → Nat} {s : St} {a : Act} {o : Oper}

/-- The cells of an object are written. -/
theorem Rep.setRow (h : Rep E R w β s a) {id b : Nat} {cs cs' : List AV} {vs us : List Value} {el : TypeId} (hk : nth s.G id = some (.row cs)) (hb : nth R.obj id = some (.blk b)) (hw : w.heap[b]? = some (.cells ⟨vs⟩ el (0, 0)))
    (hr : RelL R w cs' us) (h1 : ∀ v ∈ us, v.oneCell' = true) : Rep E R (w.setRow b ⟨us⟩) β (s.inG (setN s.G id (.row cs'))) a ∧ Step R w β s.boxes R (w.setRow b ⟨us⟩) β s.boxes := by
  obtain ⟨vs', el', b1, b2, b3, b4⟩ := h.g.obj id _ _ hk hb
  have hex := ext_setRow (R := R) (w := w) b4 ⟨us⟩
  refine ⟨⟨⟨by simp [St.inG, h.g.len], fun id' go ro hg hr' => ?_, h.g.inj, fun b' o' hi' => by have := h.g.wf b' o' hi'; simp; omega, fun g cs' hg => (h.g.glob g cs' hg).mono hex⟩, ?_, h.t.mono hex, h.n, h.d⟩, ?_⟩
  · rcases nth_setN hg with ⟨rfl, rfl, _⟩ | ⟨hne, hg'⟩
    · rw [hb] at hr'
      cases hr'
      exact ⟨_, el, setRow_heap w _ _ _ el (0, 0) hw, hr.mono hex, h1, b4⟩
    · refine (h.g.obj id' go ro hg' hr').mono hex (fun b' hb' => setRow_other w _ b' _ (fun e => hne ?_)) (fun _ _ _ hi => hi)
      subst e
      exact h.g.inj id id' _ _ b' hb hr' rfl hb'
  · exact h.b.keep hex (fun k cs' hk' => setRow_other w _ _ _ (h.ne_box hb hk')) (fun _ _ _ _ hi => hi) (fun _ _ _ hl => hl)
  · have hown : Own R β s.boxes b := .inl ⟨id, _, hb, rfl⟩
    exact ⟨hex, rfl, rfl, rfl, by simp, fun b' _ hn => setRow_other w _ b' _ (fun e => hn (e ▸ hown)), fun _ _ hb => hb, fun b o hi _ _ => hi⟩

theorem run_copy {P : Program} {w : World} {t ty elem : TypeId} {tl : List TypeId} {ie : TypeInfo} {esz n sLen b off len cap : Nat} {src : Value} {vs us : List Value} {el : TypeId} (e2 : P.underlying t = some (.slice elem)) (f1 : P.info? elem = some ie) (f2 : ie.size = esz)
    (hw : w.heap[b]? = some (.cells ⟨vs⟩ el (0, 0))) (hs : (Builtin.lenOf src).run P w = .ok sLen w) (hn : n = Nat.min sLen len) (hf : (Builtin.firstCells esz n src).run P w = .ok ⟨us⟩ w) (hl : off + us.length ≤ vs.length) (h1 : ∀ v ∈ us, v.oneCell' = true) :
    (Builtin.copy_ ⟨t :: tl⟩ ty #[.slice (some ⟨b, off, none⟩) len cap, src]).run P w = .ok (.int .i64 n) (w.setRow b ⟨vs.take off ++ us ++ vs.drop (off + us.length)⟩) := by
  have hst := run_storeCells_at (P := P) b off el us 0 ⟨vs⟩ w hw (by simpa using hl) h1
  simp only [Nat.add_zero] at hst
  subst hn
  simp [Builtin.copy_, run_underlying e2, run_sizeOf w f1, f2, hs, hf, hst, goInt]

theorem exec_copy (h : Rep E R w β s a) {args : Array Operand} {t : TypeId} {tl : List TypeId} (ho : o.op = .call { callee := .builtin .copy, args := args, argTypes := ⟨t :: tl⟩ }) {d x : AV}
    (hl : evL E s.slots args.toList = some [d, x]) {i : TI} (hi : E.ti t = some i) {elem esz eb : Nat} {ag : Bool} {z : Option AV} (hk : i.k = .sl elem esz ag eb z) {n : Nat} {G' : List GO} (hc : copyA s esz d x = some (n, G')) :
    Done E R w β s a o ((s.inG G').put o.dst (.v (.int .i64 n))) := by
  have hr := evL_rel h hl
  generalize hv : args.toList.map a.eval = vs at hr
  have hx := exec_builtin (E := E) (w := w) ho vs hv
  cases hr with
  | @cons _ cd _ _ h0 h1 =>
  cases h1 with
  | @cons _ cx _ _ h1 h2 =>
  cases h2
  obtain ⟨info, ud, e1, e2, e3, e4, e5, e6⟩ := ti_info E hi
  rw [hk] at e5
  obtain ⟨ie, ue, rfl, f1, f2, f3, f4, f5, f6⟩ := tkOf_sl e5
  have hfin : ∀ {c : Value} {w' : World}, (Builtin.copy_ ⟨t :: tl⟩ o.type #[cd, cx]).run E.P w = .ok c w' → (execOp a.eval o).run E.P w = .ok (.value c) w' := fun hh => by
    rw [hx]
    simp only [builtin, Sem.run_bind, hh, Result.andThen_ok, Sem.run_pure]
  unfold copyA at hc
  split at hc
  · rename_i id off sz len cap
    cases h0 with
    | @msl _ _ _ _ _ b hb hlc =>
    split at hc
    · rename_i cs hg
      split at hc
      · rename_i hsz
        have hsz := Nat.eq_of_beq_eq_true hsz
        subst hsz
        obtain ⟨vs, el, b1, b2, b3, b4⟩ := h.g.obj id _ _ hg hb
        split at hc
        · rename_i k sz' es
          split at hc
          · rename_i hsz2
            have hsz2' : es = [] ∨ sz' = sz := by
              simp only [Bool.or_eq_true] at hsz2
              rcases hsz2 with hs | hs
              · exact .inr (Nat.eq_of_beq_eq_true hs)
              · exact .inl (by simpa using hs)
            dsimp only at hc
            split at hc
            · rename_i hle
              have hle := Nat.le_of_ble_eq_true hle
              injection hc with hc; injection hc with p q
              subst p; subst q
              obtain ⟨x0, xs, x1, x2, x3, x4⟩ := list_cells (esz := sz) h1 hsz2'
              have htk : ElOk sz (es.take (Nat.min es.length len)) := fun e he => x0 e (List.mem_of_mem_take he)
              have hnl : (cellsL (es.take (Nat.min es.length len))).length = Nat.min es.length len * sz := by
                rw [length_cellsL htk, List.length_take, Nat.min_eq_left (Nat.min_le_left _ _)]
              have hsplit : cellsL es = cellsL (es.take (Nat.min es.length len)) ++ cellsL (es.drop (Nat.min es.length len)) := by rw [← cellsL_append, List.take_append_drop]
              have hrel : RelL R w (cellsL (es.take (Nat.min es.length len))) (xs.take (Nat.min es.length len * sz)) := by
                have := x1.take (Nat.min es.length len * sz)
                rw [hsplit, ← hnl, List.take_left, hnl] at this
                exact this
              have hxl : (xs.take (Nat.min es.length len * sz)).length = Nat.min es.length len * sz := by rw [← hrel.length, hnl]
              have hones : ∀ v ∈ xs.take (Nat.min es.length len * sz), v.oneCell' = true := fun v hv => x2 v (List.mem_of_mem_take hv)
              have hfl : (Builtin.lenOf cx).run E.P w = .ok es.length w ∧ (Builtin.firstCells sz (Nat.min es.length len) cx).run E.P w = .ok ⟨xs.take (Nat.min es.length len * sz)⟩ w := by
                rcases x4 with ⟨rfl, rfl, rfl⟩ | ⟨b', o', cap', rfl, _, _, hcell, _⟩
                · exact ⟨rfl, by simp [Builtin.firstCells]⟩
                · refine ⟨rfl, ?_⟩
                  exact run_firstCells_some (P := E.P) w sz _ ⟨b', o', none⟩ es.length cap' _ hxl (fun j v hv => hcell j v (by rw [List.getElem?_take] at hv; split at hv <;> first | exact hv | cases hv))
              have hrun := run_copy (P := E.P) (tl := tl) (ty := o.type) (off := off) (cap := cap) e2 f1 f2 b1 hfl.1 rfl hfl.2 (by rw [hxl, ← hnl, ← b2.length]; exact hle) hones
              obtain ⟨r1, r2⟩ := h.setRow hg hb b1 (b2.splice hrel hle) (one_splice b3 hones)
              exact ⟨_, _, _, R, β, hfin hrun, .inl rfl, r1.put o.dst (x := .v (.int .i64 (Nat.min es.length len))) (Rel.int _ _), by rw [boxes_put]; exact r2⟩
            · cases hc
          · cases hc
        · rename_i id' off' sz' len' cap'
          split at hc
          · rename_i cs' hg'
            dsimp only at hc
            split at hc
            · rename_i l hseg
              split at hc
              · rename_i hcnd
                simp only [Bool.and_eq_true] at hcnd
                have hle := Nat.le_of_ble_eq_true hcnd.2
                injection hc with hc; injection hc with p q
                subst p; subst q
                cases h1 with
                | @msl _ _ _ _ _ b' hb' hlc' =>
                obtain ⟨vs', el', c1, c2, c3, c4⟩ := h.g.obj id' _ _ hg' hb'
                obtain ⟨s1, s2, s3, s4⟩ := seg_rel hseg c2 c3
                have hxl := s2.length
                have hfl := run_firstCells_some (P := E.P) w sz (Nat.min len' len) ⟨b', off', none⟩ len' cap' _ (by rw [← hxl, s1]) (fun j v hv => by rw [addr_add, cell_row c1]; exact s4 j v hv)
                have hrun := run_copy (P := E.P) (tl := tl) (ty := o.type) (off := off) (cap := cap) e2 f1 f2 b1 (src := .slice (some ⟨b', off', none⟩) len' cap') (sLen := len') rfl rfl hfl (by rw [← hxl, ← b2.length]; exact hle) s3
                obtain ⟨r1, r2⟩ := h.setRow hg hb b1 (b2.splice s2 hle) (one_splice b3 s3)
                exact ⟨_, _, _, R, β, hfin hrun, .inl rfl, r1.put o.dst (x := .v (.int .i64 (Nat.min len' len))) (Rel.int _ _), by rw [boxes_put]; exact r2⟩
              · cases hc
            · cases hc
          · cases hc
        · cases hc
      · cases hc
    · cases hc
  · cases hc

theorem stepOp_done {f : FuncId} {s' : St} (h : Rep E R w β s a) (hs : stepOp E f s o = some (true, s')) : Done E R w β s a o s' := by
  unfold stepOp at hs
  split at hs
  · rename_i x ho
    split at hs
    · rename_i y hy
      cases hs
      exact exec_move h x (.inl ho) hy
    · rename_i k off hy
      cases hs
      exact exec_move h x (.inl ho) hy
    · rename_i hy
      cases hs
      exact exec_move h x (.inl ho) hy
  · rename_i x ho
    split at hs
    · rename_i y hy
      cases hs
      exact exec_move h x (.inr ho) hy
    · rename_i k off hy
      cases hs
      exact exec_move h x (.inr ho) hy
    · rename_i hy
      cases hs
      exact exec_move h x (.inr ho) hy
  · rename_i c x y ho
    split at hs
    · rename_i t p q h1 h2 h3
      cases hs
      exact exec_pick h c x y ho h1 h2 h3
    · cases hs
  · rename_i t ho
    split at hs
    · rename_i i hi
      split at hs
      · rename_i z hz
        split at hs
        · rename_i hn
          exact exec_alloc h t ho hi hz hn hs
        · cases hs
      · cases hs
    · cases hs
  · rename_i t x ho
    split at hs
    · rename_i v hv
      split at hs
      · rename_i hn
        exact exec_box h t x ho hv hn hs
      · cases hs
    · cases hs
  · rename_i t parts ho
    split at hs
    · rename_i v hv
      cases hs
      exact exec_build h t parts ho hv
    · cases hs
  · rename_i t len parts ho
    split at hs
    · rename_i v hv
      cases hs
      exact exec_buildSlice h t len parts ho hv
    · cases hs
  · rename_i t x ho
    split at hs
    · rename_i v hv
      cases hs
      exact exec_load h t x ho hv
    · cases hs
  · rename_i t p x ho
    split at hs
    · rename_i s'' hd hst
      cases hs
      exact exec_store h t p x ho hd hst
    · cases hs
  · rename_i op t x y u ho
    split at hs
    · rename_i p q hx hy
      split at hs
      · rename_i c v hv
        injection hs with hs; injection hs with h1 h2
        subst h1; subst h2
        exact exec_binOp h op t u x y ho hx hy hv
      · rename_i hb
        split at hs
        · rename_i r hr
          injection hs with hs; injection hs with h1 h2
          subst h2
          exact exec_eqO h op t u x y ho hx hy hb hr
        · cases hs
    · cases hs
  · rename_i op t x ho
    split at hs
    · rename_i b hx
      cases hs
      exact exec_not h t x ho hx
    · rename_i k n hx
      cases hs
      exact exec_neg h t x ho hx
    · cases hs
  · rename_i t u x ho
    split at hs
    · rename_i i j k n hi hj hx
      split at hs
      · rename_i k' hk
        cases hs
        exact exec_convert h t u x ho hi hj hk hx
      · cases hs
    · cases hs
  · rename_i g x y ho
    split at hs
    · rename_i p q hp hq
      cases hs
      exact exec_makeFunc h g x y ho hp hq
    · cases hs
  · rename_i t x j ho
    split at hs
    · rename_i q hq
      cases hs
      exact exec_fieldAddr h t x j ho hq
    · cases hs
  · rename_i t x j ho
    split at hs
    · rename_i v hv
      cases hs
      exact exec_field h t x j ho hv
    · cases hs
  · rename_i t x ix ho
    split at hs
    · rename_i c q hq
      injection hs with hs; injection hs with h1 h2
      subst h1; subst h2
      exact exec_indexAddr h t x ix ho hq
    · cases hs
  · rename_i t x ix ho
    split at hs
    · rename_i c v hv
      injection hs with hs; injection hs with h1 h2
      subst h1; subst h2
      exact exec_index h t x ix ho hv
    · cases hs
  · rename_i t x lo hi mx ho
    split at hs
    · rename_i l h' hl hh
      split at hs
      · rename_i c v hv
        injection hs with hs; injection hs with h1 h2
        subst h1; subst h2
        cases mx with
        | none => exact exec_slice h t x lo hi ho hl hh hv
        | some m =>
          unfold sliceA at hv
          split at hv
          · rename_i hmx
            cases hmx
          · cases hv
      · cases hs
    · cases hs
  · rename_i x j ho
    split at hs
    · rename_i vs hx
      split at hs
      · rename_i v hn
        cases hs
        exact exec_extract h x j ho hx hn
      · cases hs
    · cases hs
  · rename_i t x y ho
    split at hs
    · rename_i i k n k' m hi hx hy
      split at hs
      · rename_i elem esz ag eb z hk
        split at hs
        · rename_i hcnd
          simp only [Bool.and_eq_true] at hcnd
          injection hs with hs; injection hs with h1 h2
          subst h2
          exact exec_makeSlice h t x y ho hi hx hy hk (Nat.eq_of_beq_eq_true hcnd.1.1) (Nat.le_of_ble_eq_true hcnd.1.2) hcnd.2 (of_decide_eq_true h1)
        · cases hs
      · cases hs
    · cases hs
  · rename_i t m k ok ho
    split at hs
    · rename_i v b hv
      cases hs
      exact exec_lookup h t m k ok ho hv
    · cases hs
  · rename_i t m k x ho
    split at hs
    · rename_i s'' hd hv
      cases hs
      exact exec_mapUpdate h t m k x ho hd hv
    · cases hs
  · rename_i t x ho
    split at hs
    · rename_i i l hi hx
      split at hs
      · rename_i hk
        cases hs
        exact exec_range h t x ho hi hk hx
      · cases hs
    · cases hs
  · rename_i x ho
    split at hs
    · rename_i s'' hv
      cases hs
      exact exec_next h x ho hv
    · cases hs
  · rename_i t ho
    cases hs
    exact exec_makeMap h t ho
  · rename_i b args tys ho
    split at hs
    · rename_i l hl
      have hty : tys = ⟨tys.toList⟩ := rfl
      cases b with
      | len =>
        exact exec_len h (tys := tys.toList) (by rw [ho]) hl hs
      | append =>
        unfold builtinA at hs
        split at hs <;> first | (rename_i hb; cases hb; done) | skip
        · rename_i x k sz ys
          split at hs
          · rename_i t u htys
            split at hs
            · rename_i i hi
              split at hs
              · rename_i elem esz ag eb z hk
                split at hs
                · rename_i hcnd
                  simp only [Bool.and_eq_true, Bool.or_eq_true] at hcnd
                  obtain ⟨⟨⟨⟨⟨c1, c2⟩, c3⟩, c4⟩, c5⟩, c6⟩ := hcnd
                  split at hs
                  · rename_i c v G' ha
                    injection hs with hs; injection hs with h1 h2
                    subst h1; subst h2
                    have htu := Nat.eq_of_beq_eq_true c2
                    subst htu
                    have hty2 : tys = #[t, t] := by rw [hty, htys]
                    rw [hty2] at ho
                    refine exec_append h ho hl hi hk ?_ (Nat.le_of_ble_eq_true c3) (Nat.le_of_ble_eq_true c4) (Nat.eq_of_beq_eq_true c5) c6 ha
                    rcases c1 with c1 | c1
                    · exact .inr (Nat.eq_of_beq_eq_true c1)
                    · exact .inl (by simpa using c1)
                  · cases hs
                · cases hs
              · cases hs
            · cases hs
          · cases hs
        · cases hs
      | copy =>
        unfold builtinA at hs
        split at hs <;> first | (rename_i hb; cases hb; done) | skip
        · rename_i d x
          split at hs
          · rename_i t tl htys
            split at hs
            · rename_i i hi
              split at hs
              · rename_i elem esz ag eb z hk
                split at hs
                · rename_i n G' hc
                  injection hs with hs; injection hs with h1 h2
                  subst h2
                  have hty2 : tys = ⟨t :: tl⟩ := by rw [hty, htys]
                  rw [hty2] at ho
                  exact exec_copy h ho hl hi hk hc
                · cases hs
              · cases hs
            · cases hs
          · cases hs
        · cases hs
      | max =>
        unfold builtinA at hs
        split at hs <;> first | (rename_i hb; cases hb; done) | skip
        · rename_i x l'
          split at hs
          · rename_i v hm
            cases hs
            exact exec_max h ho hl hm
          · cases hs
        · cases hs
      | min =>
        unfold builtinA at hs
        split at hs <;> first | (rename_i hb; cases hb; done) | skip
        · rename_i x l'
          split at hs
          · rename_i v hm
            cases hs
            exact exec_min h ho hl hm
          · cases hs
        · cases hs
      | _ =>
        unfold builtinA at hs
        split at hs <;> first | (rename_i hb; cases hb; done) | (cases hs; done)
    · cases hs
  · cases hs

end ops
end Go.Am
