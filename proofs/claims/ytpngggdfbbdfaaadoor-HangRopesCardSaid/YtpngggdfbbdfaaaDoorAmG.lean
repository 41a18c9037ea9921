/- The abstract machine: what it does is what the model does: new boxes and objects. -/
import Derived.Test.YtpngggdfbbdfaaaDoorAmF
set_option linter.all false
namespace Go.Am
open Go

section ops
variable {E : Env} {R : Realm} {w : World} {β : Nat → Nat} {s : St} {a : Act} {o : Oper}

/-- A realm with one object more. -/
def Realm.add (R : Realm) (ro : RO) : Realm := ⟨R.I, R.obj ++ [ro]⟩

theorem ext_add (wf : ∀ b o, R.I b o → b < w.heap.size) (x : Obj) (ro : RO) : Ext R w (R.add ro) (w.alloc x) :=
  ⟨fun _ _ h => h, fun b o h => cell_of_block (heap_alloc_old w x b (wf b o h)) o, fun _ r h => ⟨r, nth_append_old h, RoLe.refl r⟩, .old fun b hb => heap_alloc_old w x b hb⟩

theorem live_add {ro : RO} {b : Nat} (h : Live (R.add ro) b) : Live R b ∨ ro.block = some b := by
  obtain ⟨id, r, h1, h2⟩ := h
  rcases nth_append_inv h1 with h1 | ⟨_, rfl⟩
  · exact .inl ⟨id, r, h1, h2⟩
  · exact .inr h2

/-- A new block becomes an object. -/
theorem Rep.addObj (h : Rep E R w β s a) (x : Obj) (go : GO) (ro : RO) (hro : ro.block = some w.heap.size) (hgo : RepO (R.add ro) (w.alloc x) go ro) : Rep E (R.add ro) (w.alloc x) β (s.addG go) a where
  g := by
    have e := ext_add (R := R) (w := w) h.g.wf x ro
    refine ⟨by simp [St.addG, Realm.add, h.g.len], fun id g r h1 h2 => ?_, fun i j ri rj b h1 h2 b1 b2 => ?_, fun b o hi => ?_, fun g cs hg => (h.g.glob g cs hg).mono e⟩
    · rcases nth_append_inv h2 with h2 | ⟨h3, rfl⟩
      · have hlt := nth_lt h2
        rw [h.g.len] at hlt
        rcases nth_append_inv h1 with h1 | ⟨h4, _⟩
        · exact (h.g.obj id g r h1 h2).mono e (fun b hb => heap_alloc_old w x b (h.g.live_lt ⟨id, r, h2, hb⟩)) (fun _ _ _ hi => hi)
        · omega
      · rcases nth_append_inv h1 with h1 | ⟨h4, rfl⟩
        · have := nth_lt h1
          rw [h3, h.g.len] at this
          omega
        · exact hgo
    · rcases nth_append_inv h1 with g1 | ⟨h3, e1⟩
      · rcases nth_append_inv h2 with g2 | ⟨h4, e2⟩
        · exact h.g.inj i j ri rj b g1 g2 b1 b2
        · have := h.g.live_lt ⟨i, ri, g1, b1⟩
          rw [e2, hro] at b2
          cases b2
          omega
      · rcases nth_append_inv h2 with g2 | ⟨h4, e2⟩
        · have := h.g.live_lt ⟨j, rj, g2, b2⟩
          rw [e1, hro] at b1
          cases b1
          omega
        · omega
    · have := h.g.wf b o hi
      simp
      omega
  b := h.b.keep (ext_add h.g.wf x ro) (fun k cs hk => heap_alloc_old w x _ (h.own_lt (.inr ⟨k, cs, hk, rfl⟩))) (fun _ _ _ _ hi => hi) (fun k cs hk hl => by
    rcases live_add hl with hl | hl
    · exact hl
    · have := h.own_lt (.inr ⟨k, cs, hk, rfl⟩)
      rw [hro] at hl
      have hl := Option.some.inj hl
      omega)
  t := h.t.mono (ext_add h.g.wf x ro)
  n := h.n
  d := h.d.mono (ext_add h.g.wf x ro)

theorem step_addObj (h : Rep E R w β s a) (x : Obj) (ro : RO) (hro : ro.block = some w.heap.size) : Step R w β s.boxes (R.add ro) (w.alloc x) β s.boxes :=
  ⟨ext_add h.g.wf x ro, rfl, rfl, rfl, by simp, fun b hb _ => heap_alloc_old w x b hb, fun b hb ho => by
    rcases ho with ho | ho
    · rcases live_add ho with ho | ho
      · exact .inl ho
      · rw [hro] at ho
        have ho := Option.some.inj ho
        omega
    · exact .inr ho, fun _ _ hi _ _ => hi⟩

theorem nth_new (h : Rep E R w β s a) (ro : RO) : nth (R.add ro).obj s.G.length = some ro := by
  rw [← h.g.len]
  exact nth_append_new _ _

/-- A variable's box: local, or an object. -/
theorem done_new {f : FuncId} (h : Rep E R w β s a) {v : AV} {c : Value} {t : TypeId} (hv : Rel R w v c) (hn : v.notTup = true)
    (hx : (execOp a.eval o).run E.P w = .ok (.value (.pointer (some ⟨w.heap.size, 0, none⟩))) (w.alloc (.cells c.cells t))) {s' : St} (ha : allocA E f s o.dst v.cells = some (true, s')) :
    Done E R w β s a o s' := by
  obtain ⟨c1, c2⟩ := Rel.cells hv hn
  unfold allocA at ha
  split at ha
  · cases ha
  · rename_i d hd
    split at ha
    · -- an object
      cases ha
      have hgo : RepO (R.add (.blk w.heap.size)) (w.alloc (.cells c.cells t)) (.row v.cells) (.blk w.heap.size) :=
        ⟨c.cells.toList, t, heap_alloc_new w _, c1.mono (ext_add h.g.wf _ _), c2, fun o' hi => by have := h.g.wf _ _ hi; omega⟩
      have hrep := h.addObj (.cells c.cells t) (.row v.cells) (.blk w.heap.size) rfl hgo
      refine ⟨_, .pointer (some ⟨w.heap.size, 0, none⟩), _, R.add (.blk w.heap.size), β, hx, .inl rfl, ?_, ?_⟩
      · rw [hd]
        exact hrep.put (some d) (x := .v (.ptr s.G.length 0)) (Rel.ptr (nth_new h _))
      · rw [boxes_put]
        exact step_addObj h _ _ rfl
    · split at ha
      · rename_i hbx
        injection ha with ha
        injection ha with _ hs'
        subst hs'
        have e := ext_alloc (R := R) (w := w) h.g.wf (.cells c.cells t)
        let β' : Nat → Nat := fun k => if k = d then w.heap.size else β k
        have hd' : β' d = w.heap.size := by simp [β']
        have hne : ∀ k, k ≠ d → β' k = β k := fun k hk => by simp [β', hk]
        have hdn : d < a.tmps.size := by rw [h.n]; exact Nat.le_of_ble_eq_true hbx
        have hput : ((s.kill d).inB d v.cells).put (some d) (.lp d 0) = ⟨.put d (.lp d 0) :: .kill d :: s.slots, (d, v.cells) :: s.boxes, s.G, s.marks, s.ro, s.n⟩ := by
          simp only [St.put, St.inB, St.kill, hbx]
        refine ⟨_, .pointer (some ⟨w.heap.size, 0, none⟩), _, R, β', hx, .inl rfl, ?_, ?_⟩
        · rw [hd, hput]
          refine ⟨?_, ⟨fun k cs hk => ?_, fun k k' cs cs' hk hk' he => ?_⟩, ?_, by simp [Act.put, h.n], h.d⟩
          · exact h.g.keep e rfl (fun b hb => heap_alloc_old w _ b (h.g.live_lt hb)) (fun _ _ _ hi => hi) (fun b o hi => by have := h.g.wf b o hi; simp; omega)
          · rcases lkB_cons hk with ⟨rfl, he⟩ | ⟨hkd, hk⟩
            · cases he
              rw [hd']
              exact ⟨⟨c.cells.toList, t, heap_alloc_new w _, c1.mono e, c2⟩, fun o' hi => by have := h.g.wf _ _ hi; omega, fun hl => by have := h.g.live_lt hl; omega⟩
            · rw [hne k (Ne.symm hkd)]
              obtain ⟨⟨vs, el, b1, b2, b3⟩, b4, b5⟩ := h.b.box k cs hk
              exact ⟨⟨vs, el, (heap_alloc_old w _ _ (block_lt b1)).trans b1, b2.mono e, b3⟩, b4, b5⟩
          · rcases lkB_cons hk with ⟨rfl, _⟩ | ⟨hkd, hk⟩
            · rcases lkB_cons hk' with ⟨rfl, _⟩ | ⟨hkd', hk'⟩
              · rfl
              · rw [hd', hne k' (Ne.symm hkd')] at he
                have := h.own_lt (.inr ⟨k', cs', hk', rfl⟩)
                omega
            · rcases lkB_cons hk' with ⟨rfl, _⟩ | ⟨hkd', hk'⟩
              · rw [hd', hne k (Ne.symm hkd)] at he
                have := h.own_lt (.inr ⟨k, cs, hk, rfl⟩)
                omega
              · rw [hne k (Ne.symm hkd), hne k' (Ne.symm hkd')] at he
                exact h.b.inj k k' cs cs' hk hk' he
          · intro i hi
            by_cases hdi : d = i
            · subst hdi
              rw [lk_put_self]
              refine ⟨.pointer (some ⟨w.heap.size, 0, none⟩), by simp [Act.put, hdn], ?_⟩
              show Value.pointer _ = _
              rw [hd']
            · rw [lk_put_ne hdi] at hi ⊢
              rcases lk_kill (l := s.slots) (d := d) (t := i) with ⟨h1, h2⟩ | h1
              · rw [h1] at hi ⊢
                obtain ⟨c', q1, q2⟩ := h.t i hi
                refine ⟨c', ?_, ?_⟩
                · simp only [Act.put]
                  rw [Array.getElem?_setIfInBounds_ne hdi]
                  exact q1
                · cases hx' : lk s.slots i with
                  | none => trivial
                  | v y => rw [hx'] at q2; exact Rel.mono e q2
                  | lp k off =>
                    rw [hx'] at q2
                    show c' = _
                    rw [hne k (h2 k off hx')]
                    exact q2
              · exact absurd h1 hi
        · rw [hput]
          refine ⟨e, rfl, rfl, rfl, by simp, fun b hb _ => heap_alloc_old w _ b hb, fun b hb ho => ?_, fun _ _ hi _ _ => hi⟩
          rcases ho with ho | ⟨k, cs, hk, he⟩
          · exact .inl ho
          · rcases lkB_cons hk with ⟨rfl, _⟩ | ⟨hkd, hk⟩
            · rw [hd'] at he
              omega
            · rw [hne k (Ne.symm hkd)] at he
              exact .inr ⟨k, cs, hk, he⟩
      · cases ha

theorem constOf_some {i : TypeInfo} {z : AV} (h : constOf i = some z) : ∃ c, i.zero = some c ∧ ∀ R w, Rel R w z c := by
  unfold constOf at h
  split at h
  · rename_i c hc
    exact ⟨c, hc, fun R w => ofConst_rel h⟩
  · cases h

theorem exec_alloc {f : FuncId} (h : Rep E R w β s a) (t : TypeId) (ho : o.op = .alloc t) {i : TI} {z : AV} (hi : E.ti t = some i) (hz : i.zero = some z) (hn : z.notTup = true) {s' : St} (ha : allocA E f s o.dst z.cells = some (true, s')) :
    Done E R w β s a o s' := by
  obtain ⟨info, u, e1, e2, e3, e4, e5, e6⟩ := ti_info E hi
  rw [hz] at e6
  obtain ⟨c, hc, hr⟩ := constOf_some e6
  refine done_new h (hr R w) hn (t := t) ?_ ha
  simp [execOp, ho, Instr.alloc, run_zeroValue w e1 hc, run_newVar]

theorem exec_box {f : FuncId} (h : Rep E R w β s a) (t : TypeId) (x : Operand) (ho : o.op = .box t x) {v : AV} (hv : evO E s.slots x = .v v) (hn : v.notTup = true) {s' : St} (ha : allocA E f s o.dst v.cells = some (true, s')) :
    Done E R w β s a o s' := by
  have hr := evO_rel h x
  rw [hv] at hr
  refine done_new h hr hn (t := t) ?_ ha
  simp [execOp, ho, Instr.box, run_newVar]

end ops
end Go.Am
