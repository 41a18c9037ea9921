/- The abstract machine: what it does is what the model does: addresses, fields, numbers, strings, literals. -/
import Derived.Test.YtpngggdfbbdfaaaDoorAmG
set_option linter.all false
namespace Go.Am
open Go

section types
variable {P : Program}
theorem fieldsOf_get : ∀ {fs : List Field} {l : List (Nat × Nat × Bool)}, fieldsOf P fs = some l → ∀ {j o sz : Nat} {ag : Bool}, nth l j = some (o, sz, ag) →
    ∃ f fi u, fs[j]? = some f ∧ f.offset = o ∧ P.info? f.type = some fi ∧ fi.size = sz ∧ P.underlying f.type = some u ∧ aggD u = ag
  | [], l, h, j, o, sz, ag, hn => by simp [fieldsOf] at h; subst h; simp [nth] at hn
  | f :: fs, l, h, j, o, sz, ag, hn => by
    unfold fieldsOf at h
    split at h
    · rename_i i u r h1 h2 h3
      cases h
      cases j with
      | zero => simp [nth] at hn; obtain ⟨e1, e2, e3⟩ := hn; exact ⟨f, i, u, by simp, e1, h1, e2, h2, e3⟩
      | succ j =>
        obtain ⟨f', fi, u', g1, g2⟩ := fieldsOf_get h3 (show nth r j = some (o, sz, ag) from hn)
        exact ⟨f', fi, u', by simpa using g1, g2⟩
    · cases h
theorem fieldsOf_places : ∀ {fs : List Field} {l : List (Nat × Nat × Bool)}, fieldsOf P fs = some l → fs.mapM (fun f => (P.info? f.type).map fun i => (f.offset, i.size)) = some (l.map fun x => (x.1, x.2.1))
  | [], l, h => by simp [fieldsOf] at h; subst h; simp
  | f :: fs, l, h => by
    unfold fieldsOf at h
    split at h
    · rename_i i u r h1 h2 h3
      cases h
      simp [List.mapM_cons, h1, fieldsOf_places h3]
    · cases h
theorem tkOf_st {u : TypeDesc} {l : List (Nat × Nat × Bool)} (h : tkOf P u = some (.st l)) : ∃ fs, u = .struct fs ∧ fieldsOf P fs.toList = some l := by
  cases u <;> simp only [tkOf] at h <;> try (cases h; done)
  all_goals (try (split at h <;> cases h; done))
  rename_i fs
  split at h
  · rename_i l' hl
    cases h
    exact ⟨fs, rfl, hl⟩
  · cases h
theorem tkOf_arr {u : TypeDesc} {n esz : Nat} {ag : Bool} (h : tkOf P u = some (.arr n esz ag)) : ∃ e i ue, u = .array n e ∧ P.info? e = some i ∧ i.size = esz ∧ P.underlying e = some ue ∧ aggD ue = ag := by
  cases u <;> simp only [tkOf] at h <;> try (cases h; done)
  all_goals (try (split at h <;> cases h; done))
  rename_i m e
  split at h
  · rename_i i ue h1 h2
    cases h
    exact ⟨e, i, ue, rfl, h1, rfl, h2, rfl⟩
  · cases h
theorem tkOf_sl {u : TypeDesc} {e esz by_ : Nat} {ag : Bool} {z : Option AV} (h : tkOf P u = some (.sl e esz ag by_ z)) :
    ∃ i ue, u = .slice e ∧ P.info? e = some i ∧ i.size = esz ∧ i.bytes = by_ ∧ P.underlying e = some ue ∧ aggD ue = ag ∧ constOf i = z := by
  cases u <;> simp only [tkOf] at h <;> try (cases h; done)
  all_goals (try (split at h <;> cases h; done))
  rename_i e'
  split at h
  · rename_i i ue h1 h2
    injection h with h
    injection h with g1 g2 g3 g4 g5
    subst g1; subst g2; subst g3; subst g4; subst g5
    exact ⟨i, ue, rfl, h1, rfl, rfl, h2, rfl, rfl⟩
  · cases h
theorem tkOf_str {u : TypeDesc} (h : tkOf P u = some .str) : u = .string := by
  cases u <;> simp only [tkOf] at h <;> try (cases h; done)
  all_goals (try (split at h <;> cases h; done))
  rfl
theorem tkOf_int {u : TypeDesc} {k : IntKind} (h : tkOf P u = some (.int k)) : u = .int k := by
  cases u <;> simp only [tkOf] at h <;> try (cases h; done)
  all_goals (try (split at h <;> cases h; done))
  cases h
  rfl
theorem tkOf_map {u : TypeDesc} {k e : TypeId} {z : Option AV} (h : tkOf P u = some (.map k e z)) : u = .map k e ∧ ∃ i, P.info? e = some i ∧ constOf i = z := by
  cases u <;> simp only [tkOf] at h <;> try (cases h; done)
  all_goals (try (split at h <;> cases h; done))
  split at h
  · rename_i i h1
    cases h
    exact ⟨rfl, i, h1, rfl⟩
  · cases h
end types

section ops
variable {E : Env} {R : Realm} {w : World} {β : Nat → Nat} {s : St} {a : Act} {o : Oper}

theorem moveP_rel {p q : SV} {c : Value} {n : Nat} (hp : RelS R w β p c) (hm : moveP n p = some q) :
    ∃ b o, c = .pointer (some ⟨b, o, none⟩) ∧ RelS R w β q (.pointer (some ⟨b, o + n, none⟩)) := by
  unfold moveP at hm
  split at hm
  · cases hm
    exact ⟨_, _, hp, rfl⟩
  · cases hm
    cases hp with
    | @ptr _ _ b hb => exact ⟨b, _, rfl, Rel.ptr hb⟩
  · cases hm
    cases hp with
    | @ep _ b o hr =>
      refine ⟨b, o, rfl, Rel.ep ?_⟩
      rw [dropN_eq]
      exact hr.drop n
  · cases hm

theorem exec_fieldAddr (h : Rep E R w β s a) (t : TypeId) (x : Operand) (j : Nat) (ho : o.op = .fieldAddr t x j) {q : SV} (hq : fieldAddrA E t (evO E s.slots x) j = some q) :
    Done E R w β s a o (s.put o.dst q) := by
  unfold fieldAddrA at hq
  split at hq
  · rename_i i hi
    split at hq
    · rename_i fs hk
      split at hq
      · rename_i off sz ag hn
        split at hq
        · rename_i hsz
          have hsz := Nat.le_of_ble_eq_true hsz
          obtain ⟨info, u, e1, e2, e3, e4, e5, e6⟩ := ti_info E hi
          rw [hk] at e5
          obtain ⟨fl, rfl, hf⟩ := tkOf_st e5
          obtain ⟨f, fi, u', g1, g2, g3, g4, g5, g6⟩ := fieldsOf_get hf hn
          obtain ⟨b, o', m1, m2⟩ := moveP_rel (evO_rel h x) hq
          refine done_value h ?_ m2
          have g1' : fl[j]? = some f := by simpa using g1
          have hne : ¬ fi.size = 0 := by omega
          simp [execOp, ho, Instr.fieldAt, run_underlying e2, g1', m1, Instr.sureAddr, fieldPlace, run_sizeOf w g3, hne, addr_add, g2]
        · cases hq
      · cases hq
    · cases hq
  · cases hq

theorem relE_get {b o sz : Nat} {es : List AV} (h : RelE R w b o sz es) {n : Nat} {e : AV} (hn : nth es n = some e) : RelC R w b (o + n * sz) e.cells ∧ e.cells.length = sz ∧ e.notTup = true := by
  induction es generalizing o n with
  | nil => simp [nth] at hn
  | cons x l ih =>
    cases h with
    | cons hl ht _ h t =>
      cases n with
      | zero => simp [nth] at hn; subst hn; exact ⟨by simpa using h, hl, ht⟩
      | succ n =>
        have := ih t (show nth l n = some e from hn)
        rw [show o + sz + n * sz = o + (n + 1) * sz by rw [Nat.add_mul]; omega] at this
        exact this

theorem exec_indexAddr (h : Rep E R w β s a) (t : TypeId) (x ix : Operand) (ho : o.op = .indexAddr t x ix) {q : SV} (hq : indexAddrA E t (evO E s.slots x) (evO E s.slots ix) = some (true, q)) :
    Done E R w β s a o (s.put o.dst q) := by
  have rx := evO_rel h x
  have ri := evO_rel h ix
  unfold indexAddrA at hq
  split at hq
  · rename_i i k n hi hix
    rw [hix] at ri
    have ri' : Rel R w (.int k n) (a.eval ix) := ri
    generalize hiv : a.eval ix = iv at ri'
    cases ri'
    obtain ⟨info, u, e1, e2, e3, e4, e5, e6⟩ := ti_info E hi
    split at hq
    · -- a list
      rename_i elem esz ag by_ z kk sz es hk hx
      rw [hx] at rx
      rw [hk] at e5
      obtain ⟨ie, ue, rfl, f1, f2, f3, f4, f5, f6⟩ := tkOf_sl e5
      split at hq
      · rename_i hc
        have key : ∀ (u : AV), (0 ≤ n ∧ n < (es.length : Int)) → WeakL (nthD es n.toNat).cells u.cells → Done E R w β s a o (s.put o.dst (.v (.ep u.cells))) := fun u hq1 hu => by
          obtain ⟨hn0, hn1⟩ := hq1
          have rx' : Rel R w (.list kk sz es) (a.eval x) := rx
          generalize hxv : a.eval x = xv at rx'
          cases rx' with
          | lnil => simp at hn1; omega
          | lopn => simp at hn1; omega
          | lown => simp at hn1; omega
          | @list _ _ _ b o' len cap hr hl hcap hkk =>
            subst hl
            have hlt : n.toNat < es.length := by omega
            obtain ⟨e, he⟩ : ∃ e, nth es n.toNat = some e := ⟨es[n.toNat], by rw [nth_eq]; exact List.getElem?_eq_getElem hlt⟩
            have hsz : sz = esz := by
              simp only [Bool.or_eq_true] at hc
              rcases hc with hc | hc
              · exact Nat.eq_of_beq_eq_true hc
              · cases es with
                | nil => simp at hlt
                | cons _ _ => simp at hc
            obtain ⟨g1, _, _⟩ := relE_get hr he
            refine done_value h (c := .pointer (some ⟨b, o' + n.toNat * sz, none⟩)) ?_ ?_
            · have hcond : 0 ≤ n ∧ n < (es.length : Int) := ⟨hn0, hn1⟩
              simp [execOp, ho, Instr.indexAt, hiv, hxv, asIntOf, run_underlying e2, hcond, run_sizeOf w f1, f2, hsz, addr_add]
            · have : nthD es n.toNat = e := by simp [nthD, he]
              rw [this] at hu
              exact .ep (hu.relC g1)
        split at hq
        · rename_i p hp
          injection hq with hq
          injection hq with hq1 hq2
          subst hq2
          rw [Bool.and_eq_true] at hq1
          have hcond := of_decide_eq_true hq1.1
          have hd := p.fits_ok hq1.2
          have hlt : n.toNat < es.length := by omega
          refine key _ hcond (hd.cells ?_)
          obtain ⟨e, he⟩ : ∃ e, nth es n.toNat = some e := ⟨es[n.toNat], by rw [nth_eq]; exact List.getElem?_eq_getElem hlt⟩
          have : nthD es n.toNat = e := by simp [nthD, he]
          rw [this]
          have rx' : Rel R w (.list kk sz es) (a.eval x) := rx
          generalize a.eval x = xv at rx'
          cases rx' with
          | lnil => simp at hlt
          | lopn => simp at hlt
          | lown => simp at hlt
          | list hr _ _ _ => exact (relE_get hr he).2.2
        · injection hq with hq
          injection hq with hq1 hq2
          subst hq2
          exact key _ (of_decide_eq_true hq1) (WeakL.refl _)
      · cases hq
    · -- a heap slice
      rename_i elem esz ag by_ z id off sz len cap hk hx
      rw [hx] at rx
      rw [hk] at e5
      obtain ⟨ie, ue, rfl, f1, f2, f3, f4, f5, f6⟩ := tkOf_sl e5
      split at hq
      · rename_i hc
        have hsz := Nat.eq_of_beq_eq_true hc
        injection hq with hq
        injection hq with hq1 hq2
        subst hq2
        have hcond := of_decide_eq_true hq1
        have rx' : Rel R w (.msl id off sz len cap) (a.eval x) := rx
        generalize hxv : a.eval x = xv at rx'
        cases rx' with
        | @msl _ _ _ _ _ b hb _ =>
          refine done_value h (c := .pointer (some ⟨b, off + n.toNat * sz, none⟩)) ?_ (Rel.ptr hb)
          simp [execOp, ho, Instr.indexAt, hiv, hxv, asIntOf, run_underlying e2, hcond, run_sizeOf w f1, f2, hsz, addr_add]
      · cases hq
    · -- an array that is never written
      rename_i len esz ag cs hk hx
      rw [hx] at rx
      rw [hk] at e5
      obtain ⟨e, ie, ue, rfl, f1, f2, f3, f4⟩ := tkOf_arr e5
      have rx' : Rel R w (.ep cs) (a.eval x) := rx
      generalize hxv : a.eval x = xv at rx'
      cases rx' with
      | @ep _ b o' hr =>
        split at hq
        · rename_i p hp
          split at hq
          · rename_i hc
            rw [Bool.and_eq_true] at hc
            have hz := Nat.eq_of_beq_eq_true hc.1
            have hl := Nat.le_of_ble_eq_true hc.2
            injection hq with hq
            injection hq with hq1 hq2
            subst hq2
            rw [Bool.and_eq_true] at hq1
            have hcond := of_decide_eq_true hq1.1
            have hd := p.fits_ok hq1.2
            have hlt : n.toNat < cs.length := by omega
            have hdr := hr.drop n.toNat
            rw [List.drop_eq_getElem_cons hlt] at hdr
            have hn : nthD cs n.toNat = cs[n.toNat] := by
              unfold nthD
              rw [nth_eq, List.getElem?_eq_getElem hlt]
            rw [hn] at hd ⊢
            refine done_value h (c := .pointer (some ⟨b, o' + n.toNat * esz, none⟩)) ?_ ?_
            · simp [execOp, ho, Instr.indexAt, hiv, hxv, Instr.sureAddr, asIntOf, run_underlying e2, hcond, run_sizeOf w f1, f2, addr_add]
            · subst hz
              rw [Nat.mul_one]
              cases hdr with
              | cons hc h1 hi hrel t => exact .ep (.cons hc h1 hi (hd.1 _ _ _ hrel) .nil)
          · cases hq
        · injection hq with hq
          injection hq with hq1 hq2
          subst hq2
          have hcond := of_decide_eq_true hq1
          refine done_value h (c := .pointer (some ⟨b, o' + n.toNat * esz, none⟩)) ?_ ?_
          · simp [execOp, ho, Instr.indexAt, hiv, hxv, Instr.sureAddr, asIntOf, run_underlying e2, hcond, run_sizeOf w f1, f2, addr_add]
          · rw [dropN_eq]
            exact .ep (hr.drop _)
    · -- an array
      rename_i len esz ag hk _
      rw [hk] at e5
      obtain ⟨e, ie, ue, rfl, f1, f2, f3, f4⟩ := tkOf_arr e5
      split at hq
      · rename_i q' hm
        injection hq with hq
        injection hq with hq1 hq2
        subst hq2
        have hcond := of_decide_eq_true hq1
        obtain ⟨b, o', m1, m2⟩ := moveP_rel rx hm
        refine done_value h ?_ m2
        simp [execOp, ho, Instr.indexAt, hiv, m1, Instr.sureAddr, asIntOf, run_underlying e2, hcond, run_sizeOf w f1, f2, addr_add]
      · cases hq
    · cases hq
  · cases hq

/-- A part of a struct or an array by value. -/
theorem run_part {t : TypeId} {i : TypeInfo} {u : TypeDesc} (h1 : E.P.info? t = some i) (h2 : E.P.underlying t = some u) {off : Nat} {cs l : List AV} {vs : List Value} {v : AV} (hr : RelL R w cs vs) (h3 : ∀ x ∈ vs, x.oneCell' = true)
    (hag : aggD u = true → seg off i.size cs = some l ∧ mkOf true l = some v) (hsc : aggD u = false → seg off 1 cs = some l ∧ mkOf false l = some v) :
    ∃ c, (part t ⟨vs⟩ off).run E.P w = .ok c w ∧ Rel R w v c := by
  unfold part
  simp only [Sem.run_bind, run_isAgg w h2, Result.andThen_ok]
  cases ha : aggD u with
  | true =>
    obtain ⟨g1, g2⟩ := hag ha
    obtain ⟨k1, k2, k3, k4⟩ := seg_rel g1 hr h3
    obtain ⟨m1, _⟩ := mkOf_rel g2 k2 k3
    refine ⟨_, ?_, m1 rfl⟩
    have : (⟨vs⟩ : Array Value).extract off (off + i.size) = ⟨(vs.drop off).take i.size⟩ := by
      apply Array.ext'
      simp [List.extract_eq_take_drop]
    simp [run_sizeOf w h1]
  | false =>
    obtain ⟨g1, g2⟩ := hsc ha
    obtain ⟨k1, k2, k3, k4⟩ := seg_rel g1 hr h3
    obtain ⟨_, m2⟩ := mkOf_rel g2 k2 k3
    obtain ⟨c, hc, hrel⟩ := m2 rfl
    refine ⟨c, ?_, hrel⟩
    have h0 := k4 0 c (by rw [hc]; simp)
    simp only [Nat.add_zero] at h0
    simp [h0]

theorem exec_field (h : Rep E R w β s a) (t : TypeId) (x : Operand) (j : Nat) (ho : o.op = .field t x j) {v : AV} (hq : fieldA E t (evO E s.slots x) j = some v) :
    Done E R w β s a o (s.put o.dst (.v v)) := by
  have rx := evO_rel h x
  unfold fieldA at hq
  split at hq
  · rename_i i cs hi hx
    rw [hx] at rx
    have rx' : Rel R w (.agg cs) (a.eval x) := rx
    generalize hxv : a.eval x = xv at rx'
    cases rx' with
    | @agg _ vs hr h1 =>
    split at hq
    · rename_i fs hk
      split at hq
      · rename_i off sz ag hn
        obtain ⟨info, u, e1, e2, e3, e4, e5, e6⟩ := ti_info E hi
        rw [hk] at e5
        obtain ⟨fl, rfl, hf⟩ := tkOf_st e5
        obtain ⟨f, fi, u', g1, g2, g3, g4, g5, g6⟩ := fieldsOf_get hf hn
        have key : ∃ c, (part f.type ⟨vs⟩ off).run E.P w = .ok c w ∧ Rel R w v c := by
          split at hq
          · rename_i hag
            split at hq
            · rename_i l hl
              exact run_part g3 g5 (l := l) hr h1 (fun _ => ⟨by rw [g4]; exact hl, hq⟩) (fun hf => by rw [g6, hag] at hf; cases hf)
            · cases hq
          · rename_i hag
            split at hq
            · rename_i l hl
              exact run_part g3 g5 (l := l) hr h1 (fun hf => by rw [g6] at hf; exact absurd hf hag) (fun _ => ⟨hl, hq⟩)
            · cases hq
        obtain ⟨c, k1, k2⟩ := key
        refine done_value h ?_ k2
        have g1' : fl[j]? = some f := by simpa using g1
        simp [execOp, ho, Instr.field, run_underlying e2, g1', hxv, asAgg, g2, k1]
      · cases hq
    · cases hq
  · cases hq

theorem exec_index (h : Rep E R w β s a) (t : TypeId) (x ix : Operand) (ho : o.op = .index t x ix) {v : AV} (hq : indexA E t (evO E s.slots x) (evO E s.slots ix) = some (true, v)) :
    Done E R w β s a o (s.put o.dst (.v v)) := by
  have rx := evO_rel h x
  have ri := evO_rel h ix
  unfold indexA at hq
  split at hq
  · rename_i i l k n hi hx hix
    rw [hx] at rx
    rw [hix] at ri
    have ri' : Rel R w (.int k n) (a.eval ix) := ri
    have rx' : Rel R w (.str l) (a.eval x) := rx
    generalize hiv : a.eval ix = iv at ri'
    generalize hxv : a.eval x = xv at rx'
    cases ri'
    cases rx'
    obtain ⟨info, u, e1, e2, e3, e4, e5, e6⟩ := ti_info E hi
    split at hq
    · rename_i hk
      rw [hk] at e5
      have := tkOf_str e5
      subst this
      injection hq with hq
      injection hq with hq1 hq2
      subst hq2
      obtain ⟨hn0, hn1⟩ := of_decide_eq_true hq1
      have hlt : n.toNat < l.length := by omega
      refine done_value h (c := .int .u8 (l.getD n.toNat 0).toNat) ?_ (Rel.int _ _)
      have hget : (⟨⟨l⟩⟩ : ByteArray)[n.toNat]? = some (l.getD n.toNat 0) := by
        have hs : n.toNat < (⟨⟨l⟩⟩ : ByteArray).size := hlt
        rw [getElem?_pos (⟨⟨l⟩⟩ : ByteArray) n.toNat hs]
        congr 1
        simp [List.getD, List.getElem?_eq_getElem hlt]
        rfl
      simp [execOp, ho, Instr.index, hiv, hxv, asIntOf, run_underlying e2, hn0, hget]
    · cases hq
  · rename_i i cs k n hi hx hix
    rw [hx] at rx
    rw [hix] at ri
    have ri' : Rel R w (.int k n) (a.eval ix) := ri
    have rx' : Rel R w (.agg cs) (a.eval x) := rx
    generalize hiv : a.eval ix = iv at ri'
    generalize hxv : a.eval x = xv at rx'
    cases ri'
    cases rx' with
    | @agg _ vs hr h1 =>
    obtain ⟨info, u, e1, e2, e3, e4, e5, e6⟩ := ti_info E hi
    split at hq
    · rename_i len esz ag hk
      rw [hk] at e5
      obtain ⟨e, ie, ue, rfl, f1, f2, f3, f4⟩ := tkOf_arr e5
      split at hq
      · rename_i v' hv'
        injection hq with hq
        injection hq with hq1 hq2
        subst hq2
        have hcond := of_decide_eq_true hq1
        have key : ∃ c, (part e ⟨vs⟩ (n.toNat * esz)).run E.P w = .ok c w ∧ Rel R w v' c := by
          split at hv'
          · rename_i hag
            split at hv'
            · rename_i l hl
              exact run_part f1 f3 (l := l) hr h1 (fun _ => ⟨by rw [f2]; exact hl, hv'⟩) (fun hf => by rw [f4, hag] at hf; cases hf)
            · cases hv'
          · rename_i hag
            split at hv'
            · rename_i l hl
              exact run_part f1 f3 (l := l) hr h1 (fun hf => by rw [f4] at hf; exact absurd hf hag) (fun _ => ⟨hl, hv'⟩)
            · cases hv'
        obtain ⟨c, k1, k2⟩ := key
        refine done_value h ?_ k2
        simp [execOp, ho, Instr.index, hiv, hxv, asIntOf, run_underlying e2, hcond, run_sizeOf w f1, f2, k1]
      · cases hq
    · cases hq
  · cases hq

theorem exec_extract (h : Rep E R w β s a) (x : Operand) (j : Nat) (ho : o.op = .extract x j) {vs : List AV} {v : AV} (hx : evO E s.slots x = .v (.tup vs)) (hn : nth vs j = some v) :
    Done E R w β s a o (s.put o.dst (.v v)) := by
  have rx := evO_rel h x
  rw [hx] at rx
  have rx' : Rel R w (.tup vs) (a.eval x) := rx
  generalize hxv : a.eval x = xv at rx'
  cases rx' with
  | @tup _ us hr =>
  rw [nth_eq] at hn
  obtain ⟨c, h1, h2⟩ := hr.get hn
  refine done_value h ?_ h2
  simp [execOp, ho, Instr.extract, hxv, h1]

theorem evL_rel (h : Rep E R w β s a) : ∀ {l : List Operand} {vs : List AV}, evL E s.slots l = some vs → RelL R w vs (l.map a.eval)
  | [], vs, hl => by simp [evL] at hl; subst hl; exact .nil
  | x :: l, vs, hl => by
    unfold evL at hl
    split at hl
    · rename_i v r h1 h2
      cases hl
      have := evO_rel h x
      rw [h1] at this
      exact .cons this (evL_rel h h2)
    · cases hl

theorem exec_makeFunc (h : Rep E R w β s a) (g : FuncId) (x y : Array Operand) (ho : o.op = .makeFunc (.func g) x y) {p q : List AV} (hp : evL E s.slots x.toList = some p) (hq : evL E s.slots y.toList = some q) :
    Done E R w β s a o (s.put o.dst (.v (.fn g p q))) := by
  have h1 := evL_rel h hp
  have h2 := evL_rel h hq
  refine done_value h (c := .func (.func g) ⟨x.toList.map a.eval⟩ ⟨y.toList.map a.eval⟩) ?_ (Rel.fn h1 h2)
  have e1 : x.map a.eval = ⟨x.toList.map a.eval⟩ := Array.ext' (by simp)
  have e2 : y.map a.eval = ⟨y.toList.map a.eval⟩ := Array.ext' (by simp)
  simp [execOp, ho, Instr.makeFunc, e1, e2]

theorem exec_convert (h : Rep E R w β s a) (t u : TypeId) (x : Operand) (ho : o.op = .convert t u x) {i j : TI} {k k' : IntKind} {n : Int} (hi : E.ti t = some i) (hj : E.ti u = some j) (hk : j.k = .int k') (hx : evO E s.slots x = .v (.int k n)) :
    Done E R w β s a o (s.put o.dst (.v (.int k' (k'.wrap n)))) := by
  have rx := evO_rel h x
  rw [hx] at rx
  have rx' : Rel R w (.int k n) (a.eval x) := rx
  generalize hxv : a.eval x = xv at rx'
  cases rx'
  obtain ⟨info, ud, e1, e2, e3, e4, e5, e6⟩ := ti_info E hj
  obtain ⟨info', ud', e1', e2', e3', e4', e5', e6'⟩ := ti_info E hi
  rw [hk] at e5
  have := tkOf_int e5
  subst this
  refine done_value h (c := .int k' (k'.wrap n)) ?_ (Rel.int _ _)
  simp [execOp, ho, convert, run_underlying e2', run_underlying e2, hxv, Conv.intToInt]

end ops
end Go.Am
