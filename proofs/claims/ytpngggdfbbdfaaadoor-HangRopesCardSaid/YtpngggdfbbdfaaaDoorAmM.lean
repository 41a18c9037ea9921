/- The abstract machine: what it does is what the model does: append. -/
import Derived.Test.YtpngggdfbbdfaaaDoorAmL
set_option linter.all false
namespace Go.Am
open Go

section ops
variable {E : Env} {R : Realm} {w : World} {β : Nat → Nat} {s : St} {a : Act} {o : Oper}

/-- The first n cells of block g never change again. -/
def Realm.upto (R : Realm) (g n : Nat) (obj : List RO) : Realm := ⟨fun b o => R.I b o ∨ (b = g ∧ o < n), obj⟩

theorem setN_inj_ro {l : List RO} {id i : Nat} {x r y : RO} (_hid : nth l id = some y) (h : nth (setN l id x) i = some r) : (i = id ∧ r = x) ∨ (i ≠ id ∧ nth l i = some r) := by
  rcases nth_setN h with ⟨rfl, rfl, _⟩ | ⟨hne, h⟩
  · exact .inl ⟨rfl, rfl⟩
  · exact .inr ⟨Ne.symm hne, h⟩

/-- The cells of a token's block, in a new block. -/
theorem ext_tokAdd (wf : ∀ b o, R.I b o → b < w.heap.size) (x : Obj) (n : Nat) (ro : RO) : Ext R w (R.upto w.heap.size n (R.obj ++ [ro])) (w.drew.alloc x) :=
  ⟨fun _ _ h => .inl h, fun b o h => cell_of_block (heap_alloc_old w.drew x b (wf b o h)) o, fun _ r h => ⟨r, nth_append_old h, RoLe.refl r⟩, .old fun b hb => heap_alloc_old w.drew x b hb⟩

theorem ext_tokSet (wf : ∀ b o, R.I b o → b < w.heap.size) (x : Obj) {n id m : Nat} {r0 : RO} (hid : nth R.obj id = some r0) (b' c' : Nat) (hlt : RoLe r0 (.tok m b' c')) : Ext R w (R.upto w.heap.size n (setN R.obj id (.tok m b' c'))) (w.drew.alloc x) :=
  ⟨fun _ _ h => .inl h, fun b o h => cell_of_block (heap_alloc_old w.drew x b (wf b o h)) o, fun i r h => by
    by_cases e : id = i
    · subst e
      rw [hid] at h
      cases h
      exact ⟨_, nth_setN_self hid, hlt⟩
    · exact ⟨r, by rw [Realm.upto, nth_setN_ne e]; exact h, RoLe.refl r⟩, .old fun b hb => heap_alloc_old w.drew x b hb⟩

/-- append has made a new block: a new token. -/
theorem Rep.tokAdd (h : Rep E R w β s a) {cur : Array Value} {elem : TypeId} {n sz cap : Nat} (hn : n ≤ cap) (hm : cap ≤ maxLen) (hs : cur.size = cap * sz) :
    Rep E (R.upto w.heap.size (n * sz) (R.obj ++ [.tok n w.heap.size cap])) (w.drew.alloc (.cells cur elem)) β (s.addG (.tok n sz elem)) a ∧
    Step R w β s.boxes (R.upto w.heap.size (n * sz) (R.obj ++ [.tok n w.heap.size cap])) (w.drew.alloc (.cells cur elem)) β s.boxes := by
  have e := ext_tokAdd (R := R) (w := w) h.g.wf (.cells cur elem) (n * sz) (.tok n w.heap.size cap)
  have old : ∀ b, b < w.heap.size → (w.drew.alloc (.cells cur elem)).heap[b]? = w.heap[b]? := fun b hb => heap_alloc_old w.drew _ b hb
  have new : (w.drew.alloc (.cells cur elem)).heap[w.heap.size]? = some (.cells cur elem (0, 0)) := heap_alloc_new w.drew _
  have hI : ∀ b o, b < w.heap.size → (R.upto w.heap.size (n * sz) (R.obj ++ [.tok n w.heap.size cap])).I b o → R.I b o := fun b o hb hi => by
    rcases hi with hi | ⟨hi, _⟩
    · exact hi
    · omega
  refine ⟨⟨⟨by simp [St.addG, Realm.upto, h.g.len], fun id g r h1 h2 => ?_, fun i j ri rj b h1 h2 b1 b2 => ?_, fun b o hi => ?_, fun g cs hg => (h.g.glob g cs hg).mono e⟩, ?_, h.t.mono e, h.n, h.d.mono e⟩, ?_⟩
  · rcases nth_append_inv h2 with h2 | ⟨h3, rfl⟩
    · have hlt := nth_lt h2
      rw [h.g.len] at hlt
      rcases nth_append_inv h1 with h1 | ⟨h4, _⟩
      · exact (h.g.obj id g r h1 h2).mono e (fun b hb => old b (h.g.live_lt ⟨id, r, h2, hb⟩)) (fun b o hb => hI b o (h.g.live_lt ⟨id, r, h2, hb⟩))
      · omega
    · rcases nth_append_inv h1 with h1 | ⟨h4, rfl⟩
      · have := nth_lt h1
        rw [h3, h.g.len] at this
        omega
      · refine ⟨rfl, cur, new, hn, hm, hs, fun o' ho' hi => ?_⟩
        rcases hi with hi | ⟨_, hi⟩
        · have := h.g.wf _ _ hi
          omega
        · omega
  · rcases nth_append_inv h1 with g1 | ⟨h3, e1⟩
    · rcases nth_append_inv h2 with g2 | ⟨h4, e2⟩
      · exact h.g.inj i j ri rj b g1 g2 b1 b2
      · have := h.g.live_lt ⟨i, ri, g1, b1⟩
        rw [e2] at b2
        simp [RO.block] at b2
        omega
    · rcases nth_append_inv h2 with g2 | ⟨h4, e2⟩
      · have := h.g.live_lt ⟨j, rj, g2, b2⟩
        rw [e1] at b1
        simp [RO.block] at b1
        omega
      · omega
  · rcases hi with hi | ⟨rfl, _⟩
    · have := h.g.wf b o hi
      simp
      omega
    · simp
  · refine h.b.keep e (fun k cs hk => old _ (h.own_lt (.inr ⟨k, cs, hk, rfl⟩))) (fun k cs o hk => hI _ o (h.own_lt (.inr ⟨k, cs, hk, rfl⟩))) (fun k cs hk hl => ?_)
    rcases live_add (R := R) (ro := .tok n w.heap.size cap) hl with hl | hl
    · exact hl
    · have := h.own_lt (.inr ⟨k, cs, hk, rfl⟩)
      simp [RO.block] at hl
      omega
  · refine ⟨e, rfl, rfl, rfl, by simp, fun b hb _ => old b hb, fun b hb ho => ?_, fun b o hi hb _ => hI b o hb hi⟩
    rcases ho with ho | ho
    · rcases live_add (R := R) (ro := .tok n w.heap.size cap) ho with ho | ho
      · exact .inl ho
      · simp [RO.block] at ho
        omega
    · exact .inr ho

theorem ext_tokAdd0 (wf : ∀ b o, R.I b o → b < w.heap.size) (x : Obj) (n : Nat) (ro : RO) : Ext R w (R.upto w.heap.size n (R.obj ++ [ro])) (w.alloc x) :=
  ⟨fun _ _ h => .inl h, fun b o h => cell_of_block (heap_alloc_old w x b (wf b o h)) o, fun _ r h => ⟨r, nth_append_old h, RoLe.refl r⟩, .old fun b hb => heap_alloc_old w x b hb⟩

/-- A new block that is as long as its list: a new token. -/
theorem Rep.tokAdd0 (h : Rep E R w β s a) {cur : Array Value} {elem : TypeId} {n sz cap : Nat} (hn : n ≤ cap) (hm : cap ≤ maxLen) (hs : cur.size = cap * sz) :
    Rep E (R.upto w.heap.size (n * sz) (R.obj ++ [.tok n w.heap.size cap])) (w.alloc (.cells cur elem)) β (s.addG (.tok n sz elem)) a ∧
    Step R w β s.boxes (R.upto w.heap.size (n * sz) (R.obj ++ [.tok n w.heap.size cap])) (w.alloc (.cells cur elem)) β s.boxes := by
  have e := ext_tokAdd0 (R := R) (w := w) h.g.wf (.cells cur elem) (n * sz) (.tok n w.heap.size cap)
  have old : ∀ b, b < w.heap.size → (w.alloc (.cells cur elem)).heap[b]? = w.heap[b]? := fun b hb => heap_alloc_old w _ b hb
  have new : (w.alloc (.cells cur elem)).heap[w.heap.size]? = some (.cells cur elem (0, 0)) := heap_alloc_new w _
  have hI : ∀ b o, b < w.heap.size → (R.upto w.heap.size (n * sz) (R.obj ++ [.tok n w.heap.size cap])).I b o → R.I b o := fun b o hb hi => by
    rcases hi with hi | ⟨hi, _⟩
    · exact hi
    · omega
  refine ⟨⟨⟨by simp [St.addG, Realm.upto, h.g.len], fun id g r h1 h2 => ?_, fun i j ri rj b h1 h2 b1 b2 => ?_, fun b o hi => ?_, fun g cs hg => (h.g.glob g cs hg).mono e⟩, ?_, h.t.mono e, h.n, h.d.mono e⟩, ?_⟩
  · rcases nth_append_inv h2 with h2 | ⟨h3, rfl⟩
    · have hlt := nth_lt h2
      rw [h.g.len] at hlt
      rcases nth_append_inv h1 with h1 | ⟨h4, _⟩
      · exact (h.g.obj id g r h1 h2).mono e (fun b hb => old b (h.g.live_lt ⟨id, r, h2, hb⟩)) (fun b o hb => hI b o (h.g.live_lt ⟨id, r, h2, hb⟩))
      · omega
    · rcases nth_append_inv h1 with h1 | ⟨h4, rfl⟩
      · have := nth_lt h1
        rw [h3, h.g.len] at this
        omega
      · refine ⟨rfl, cur, new, hn, hm, hs, fun o' ho' hi => ?_⟩
        rcases hi with hi | ⟨_, hi⟩
        · have := h.g.wf _ _ hi
          omega
        · omega
  · rcases nth_append_inv h1 with g1 | ⟨h3, e1⟩
    · rcases nth_append_inv h2 with g2 | ⟨h4, e2⟩
      · exact h.g.inj i j ri rj b g1 g2 b1 b2
      · have := h.g.live_lt ⟨i, ri, g1, b1⟩
        rw [e2] at b2
        simp [RO.block] at b2
        omega
    · rcases nth_append_inv h2 with g2 | ⟨h4, e2⟩
      · have := h.g.live_lt ⟨j, rj, g2, b2⟩
        rw [e1] at b1
        simp [RO.block] at b1
        omega
      · omega
  · rcases hi with hi | ⟨rfl, _⟩
    · have := h.g.wf b o hi
      simp
      omega
    · simp
  · refine h.b.keep e (fun k cs hk => old _ (h.own_lt (.inr ⟨k, cs, hk, rfl⟩))) (fun k cs o hk => hI _ o (h.own_lt (.inr ⟨k, cs, hk, rfl⟩))) (fun k cs hk hl => ?_)
    rcases live_add (R := R) (ro := .tok n w.heap.size cap) hl with hl | hl
    · exact hl
    · have := h.own_lt (.inr ⟨k, cs, hk, rfl⟩)
      simp [RO.block] at hl
      omega
  · refine ⟨e, rfl, rfl, rfl, by simp, fun b hb _ => old b hb, fun b hb ho => ?_, fun b o hi hb _ => hI b o hb hi⟩
    rcases ho with ho | ho
    · rcases live_add (R := R) (ro := .tok n w.heap.size cap) ho with ho | ho
      · exact .inl ho
      · simp [RO.block] at ho
        omega
    · exact .inr ho

/-- A slice that is built, and then appended to. -/
theorem exec_buildSliceO (h : Rep E R w β s a) (t : TypeId) (len : Nat) (parts : Array (Nat × Operand)) (ho : o.op = .buildSlice t len parts) {k : LK} {esz : Nat} {es : List AV} (hv : buildSliceA E s t len parts.toList = some (.list k esz es)) {i : TI} (hi : E.ti t = some i) {elem sz' by_ : Nat} {ag : Bool} {z : Option AV} (hk : i.k = .sl elem sz' ag by_ z) (hm : len ≤ 65536) :
    Done E R w β s a o ((s.addG (.tok len esz elem)).put o.dst (.v (.list (.own s.G.length) esz es))) := by
  obtain ⟨es', esz', us, elem', hve, hrun, g2, hlen, u2, u3, i', ag', by', z', hi', hk'⟩ := buildSlice_run h t len parts ho hv
  cases hve
  rw [hi] at hi'
  cases hi'
  rw [hk] at hk'
  cases hk'
  have hus : us.length = len * esz := by rw [← u2.length, length_cellsL g2, hlen]
  obtain ⟨r1, r2⟩ := h.tokAdd0 (cur := ⟨us⟩) (elem := elem) (n := len) (sz := esz) (cap := len) (Nat.le_refl _) (by simp [maxLen]; omega) (by simpa using hus)
  refine ⟨_, .slice (some ⟨w.heap.size, 0, none⟩) len len, _, _, β, hrun, .inl rfl, r1.put o.dst (x := .v (.list (.own s.G.length) esz es)) ?_, by rw [boxes_put]; exact r2⟩
  refine Rel.list (relE_make g2 (RelC.make (u2.mono r2.ext) u3 (fun j x hx => ?_) (fun j hj => .inr ⟨rfl, ?_⟩))) hlen.symm (Nat.le_refl _) ⟨.tok len w.heap.size len, nth_new h _, ?_⟩
  · rw [cell_row (heap_alloc_new w _)]
    simpa using hx
  · rw [length_cellsL g2, hlen] at hj
    omega
  · exact ⟨Nat.le_refl _, fun _ => ⟨rfl, rfl, rfl⟩⟩

/-- append has made a new block for a token that was. -/
theorem Rep.tokSet (h : Rep E R w β s a) {cur : Array Value} {elem e0 : TypeId} {n sz cap id f : Nat} {r0 : RO} (hg : nth s.G id = some (.tok f sz e0)) (hid : nth R.obj id = some r0) (hf : ∀ b c, RoLe r0 (.tok n b c)) (hn : n ≤ cap) (hm : cap ≤ maxLen) (hs : cur.size = cap * sz) :
    Rep E (R.upto w.heap.size (n * sz) (setN R.obj id (.tok n w.heap.size cap))) (w.drew.alloc (.cells cur elem)) β (s.inG (setN s.G id (.tok n sz elem))) a ∧
    Step R w β s.boxes (R.upto w.heap.size (n * sz) (setN R.obj id (.tok n w.heap.size cap))) (w.drew.alloc (.cells cur elem)) β s.boxes := by
  have e := ext_tokSet (R := R) (w := w) (n := n * sz) h.g.wf (.cells cur elem) hid w.heap.size cap (hf _ _)
  have old : ∀ b, b < w.heap.size → (w.drew.alloc (.cells cur elem)).heap[b]? = w.heap[b]? := fun b hb => heap_alloc_old w.drew _ b hb
  have new : (w.drew.alloc (.cells cur elem)).heap[w.heap.size]? = some (.cells cur elem (0, 0)) := heap_alloc_new w.drew _
  have hI : ∀ b o, b < w.heap.size → (R.upto w.heap.size (n * sz) (setN R.obj id (.tok n w.heap.size cap))).I b o → R.I b o := fun b o hb hi => by
    rcases hi with hi | ⟨hi, _⟩
    · exact hi
    · omega
  have live : ∀ b, b < w.heap.size → Live (R.upto w.heap.size (n * sz) (setN R.obj id (.tok n w.heap.size cap))) b → Live R b := fun b hb hl => by
    obtain ⟨i, r, h1, h2⟩ := hl
    rcases setN_inj_ro hid h1 with ⟨_, rfl⟩ | ⟨_, h1⟩
    · simp [RO.block] at h2
      omega
    · exact ⟨i, r, h1, h2⟩
  refine ⟨⟨⟨by simp [St.inG, Realm.upto, h.g.len], fun i gg r h1 h2 => ?_, fun i j ri rj b h1 h2 b1 b2 => ?_, fun b o hi => ?_, fun g cs hg => (h.g.glob g cs hg).mono e⟩, ?_, h.t.mono e, h.n, h.d.mono e⟩, ?_⟩
  · rcases setN_inj_ro hid h2 with ⟨rfl, rfl⟩ | ⟨hne, h2⟩
    · simp only [St.inG] at h1
      rw [nth_setN_self hg] at h1
      cases h1
      refine ⟨rfl, cur, new, hn, hm, hs, fun o' ho' hi => ?_⟩
      rcases hi with hi | ⟨_, hi⟩
      · have := h.g.wf _ _ hi
        omega
      · omega
    · simp only [St.inG] at h1
      rw [nth_setN_ne (Ne.symm hne)] at h1
      exact (h.g.obj i gg r h1 h2).mono e (fun b hb => old b (h.g.live_lt ⟨i, r, h2, hb⟩)) (fun b o hb => hI b o (h.g.live_lt ⟨i, r, h2, hb⟩))
  · rcases setN_inj_ro hid h1 with ⟨g3, e1⟩ | ⟨g3, g1⟩
    · rcases setN_inj_ro hid h2 with ⟨g4, e2⟩ | ⟨g4, g2⟩
      · omega
      · have := h.g.live_lt ⟨j, rj, g2, b2⟩
        rw [e1] at b1
        simp [RO.block] at b1
        omega
    · rcases setN_inj_ro hid h2 with ⟨g4, e2⟩ | ⟨g4, g2⟩
      · have := h.g.live_lt ⟨i, ri, g1, b1⟩
        rw [e2] at b2
        simp [RO.block] at b2
        omega
      · exact h.g.inj i j ri rj b g1 g2 b1 b2
  · rcases hi with hi | ⟨rfl, _⟩
    · have := h.g.wf b o hi
      simp
      omega
    · simp
  · exact h.b.keep e (fun k cs hk => old _ (h.own_lt (.inr ⟨k, cs, hk, rfl⟩))) (fun k cs o hk => hI _ o (h.own_lt (.inr ⟨k, cs, hk, rfl⟩))) (fun k cs hk hl => live _ (h.own_lt (.inr ⟨k, cs, hk, rfl⟩)) hl)
  · refine ⟨e, rfl, rfl, rfl, by simp, fun b hb _ => old b hb, fun b hb ho => ?_, fun b o hi hb _ => hI b o hb hi⟩
    rcases ho with ho | ho
    · exact .inl (live b hb ho)
    · exact .inr ho

/-- append has written behind the token's end. -/
theorem Rep.tokRoom (h : Rep E R w β s a) {cur : Array Value} {news : List Value} {elem : TypeId} {n sz id f g c : Nat} (hg : nth s.G id = some (.tok f sz elem)) (hid : nth R.obj id = some (.tok f g c)) (hf : f < n) (hn : n ≤ c)
    (hcur : w.heap[g]? = some (.cells cur elem (0, 0))) (hs : cur.size = c * sz) (hm : c ≤ maxLen) (hl : f * sz + news.length = n * sz) :
    Ext R w (R.upto g (n * sz) (setN R.obj id (.tok n g c))) (w.setRow g (cur.toList.take (f * sz) ++ news ++ cur.toList.drop (f * sz + news.length)).toArray) ∧
    Rep E (R.upto g (n * sz) (setN R.obj id (.tok n g c))) (w.setRow g (cur.toList.take (f * sz) ++ news ++ cur.toList.drop (f * sz + news.length)).toArray) β (s.inG (setN s.G id (.tok n sz elem))) a ∧
    Step R w β s.boxes (R.upto g (n * sz) (setN R.obj id (.tok n g c))) (w.setRow g (cur.toList.take (f * sz) ++ news ++ cur.toList.drop (f * sz + news.length)).toArray) β s.boxes := by
  obtain ⟨_, cur', hcur', _, _, _, hfree⟩ := h.g.obj id _ _ hg hid
  rw [hcur] at hcur'
  cases hcur'
  have hle : n * sz ≤ c * sz := Nat.mul_le_mul_right _ hn
  generalize hnew : (cur.toList.take (f * sz) ++ news ++ cur.toList.drop (f * sz + news.length)).toArray = cur2
  have old : ∀ b, b ≠ g → (w.setRow g cur2).heap[b]? = w.heap[b]? := fun b hb => setRow_other w g b cur2 hb
  have new : (w.setRow g cur2).heap[g]? = some (.cells cur2 elem (0, 0)) := setRow_heap w g cur cur2 elem (0, 0) hcur
  have hlen : f * sz ≤ cur.toList.length := by simp; omega
  have hsz : cur2.size = c * sz := by
    rw [← hnew]
    simp
    omega
  have hgl : Live R g := ⟨id, _, hid, rfl⟩
  have e : Ext R w (R.upto g (n * sz) (setN R.obj id (.tok n g c))) (w.setRow g cur2) := by
    refine ⟨fun _ _ hi => .inl hi, fun b o hi => ?_, fun i r hr => ?_, fun b r hb => ⟨r, (old b fun e => by subst e; rw [hcur] at hb; cases hb).trans hb, rfl, rfl, rfl, rfl, rfl⟩⟩
    · by_cases hb : b = g
      · subst hb
        have ho : o < f * sz := Nat.lt_of_not_le fun hle => hfree o hle hi
        simp only [World.cell?, new, hcur]
        have : cur2[o]? = cur[o]? := by
          rw [← hnew, List.append_assoc]
          simp only [List.getElem?_toArray]
          rw [List.getElem?_append_left (by simp; omega), List.getElem?_take, if_pos ho, Array.getElem?_toList]
        simp [this]
      · exact cell_of_block (old b hb) o
    · by_cases ei : id = i
      · subst ei
        rw [hid] at hr
        cases hr
        exact ⟨_, nth_setN_self hid, by omega, fun e => by omega⟩
      · exact ⟨r, by rw [Realm.upto, nth_setN_ne ei]; exact hr, RoLe.refl r⟩
  have hI : ∀ b o, b ≠ g → (R.upto g (n * sz) (setN R.obj id (.tok n g c))).I b o → R.I b o := fun b o hb hi => by
    rcases hi with hi | ⟨hi, _⟩
    · exact hi
    · exact absurd hi hb
  have live : ∀ b, Live (R.upto g (n * sz) (setN R.obj id (.tok n g c))) b → Live R b := fun b hl => by
    obtain ⟨i, r, h1, h2⟩ := hl
    rcases setN_inj_ro hid h1 with ⟨_, rfl⟩ | ⟨_, h1⟩
    · exact ⟨id, _, hid, h2⟩
    · exact ⟨i, r, h1, h2⟩
  have hboxne : ∀ k cs, lkB s.boxes k = some cs → β k ≠ g := fun k cs hk eq => (h.b.box k cs hk).2.2 (eq ▸ hgl)
  refine ⟨e, ⟨⟨by simp [St.inG, Realm.upto, h.g.len], fun i gg r h1 h2 => ?_, fun i j ri rj b h1 h2 b1 b2 => ?_, fun b o hi => ?_, fun g cs hg => (h.g.glob g cs hg).mono e⟩, ?_, h.t.mono e, h.n, h.d.mono e⟩, ?_⟩
  · rcases setN_inj_ro hid h2 with ⟨rfl, rfl⟩ | ⟨hne, h2⟩
    · simp only [St.inG] at h1
      rw [nth_setN_self hg] at h1
      cases h1
      refine ⟨rfl, cur2, new, hn, hm, hsz, fun o' ho' hi => ?_⟩
      rcases hi with hi | ⟨_, hi⟩
      · exact hfree o' (Nat.le_trans (Nat.mul_le_mul_right _ (Nat.le_of_lt hf)) ho') hi
      · omega
    · simp only [St.inG] at h1
      rw [nth_setN_ne (Ne.symm hne)] at h1
      have hbg : ∀ b, r.block = some b → b ≠ g := fun b hb eq => hne (h.g.inj i id _ _ b h2 hid hb (by rw [eq]; rfl))
      exact (h.g.obj i gg r h1 h2).mono e (fun b hb => old b (hbg b hb)) (fun b o hb => hI b o (hbg b hb))
  · rcases setN_inj_ro hid h1 with ⟨g3, e1⟩ | ⟨g3, g1⟩
    · rcases setN_inj_ro hid h2 with ⟨g4, e2⟩ | ⟨g4, g2⟩
      · omega
      · rw [e1] at b1
        exact g3.trans (h.g.inj id j _ _ b hid g2 b1 b2)
    · rcases setN_inj_ro hid h2 with ⟨g4, e2⟩ | ⟨g4, g2⟩
      · rw [e2] at b2
        exact (h.g.inj i id _ _ b g1 hid b1 b2).trans g4.symm
      · exact h.g.inj i j ri rj b g1 g2 b1 b2
  · rcases hi with hi | ⟨rfl, _⟩
    · have := h.g.wf b o hi
      simpa using this
    · have := block_lt hcur
      simpa using this
  · exact h.b.keep e (fun k cs hk => old _ (hboxne k cs hk)) (fun k cs o hk => hI _ o (hboxne k cs hk)) (fun k cs hk hl => live _ hl)
  · refine ⟨e, rfl, rfl, rfl, by simp, fun b hb hno => old b (fun eq => hno (.inl (eq ▸ hgl))), fun b hb ho => ?_, fun b o hi hb hno => hI b o (fun eq => hno (.inl (eq ▸ hgl))) hi⟩
    rcases ho with ho | ho
    · exact .inl (live b ho)
    · exact .inr ho

end ops
end Go.Am
