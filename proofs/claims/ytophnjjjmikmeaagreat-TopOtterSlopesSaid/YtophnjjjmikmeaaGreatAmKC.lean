/- The abstract machine: what it does is what the model does: addresses, fields, numbers, strings, literals. -/
import Derived.Test.YtophnjjjmikmeaaGreatAmKB
import Derived.Laws.StructEq
import Derived.ChangeKeysEq
import Derived.Laws.Cover3
import Derived.Laws.Pointers
import Derived.Lib.SliceRun
import Derived.IntWalk
set_option linter.all false
namespace Go.Am
open Go
section types
variable {P : Program}
theorem kC : ∀ {fs : List Field} {l : List (Nat × Nat × Bool)}, fieldsOf P fs = some l → ∀ {j o sz : Nat} {ag : Bool}, nth l j = some (o, sz, ag) →
    ∃ f fi u, fs[j]? = some f ∧ f.offset = o ∧ P.info? f.type = some fi ∧ fi.size = sz ∧ P.underlying f.type = some u ∧ gS u = ag
  | [], l, h, j, o, sz, ag, hn => by simp [fieldsOf] at h; subst h; simp [nth] at hn
  | f :: fs, l, h, j, o, sz, ag, hn => by
    unfold fieldsOf at h
    split at h
    · rename_i i u r h1 h2 h3
      cases h
      cases j with
      | zero => simp [nth] at hn; obtain ⟨e1, e2, e3⟩ := hn; exact ⟨f, i, u, by simp, e1, h1, e2, h2, e3⟩
      | succ j =>
        obtain ⟨f', fi, u', g1, g2⟩ := kC h3 (show nth r j = some (o, sz, ag) from hn)
        exact ⟨f', fi, u', by simpa using g1, g2⟩
    · cases h
theorem kY : ∀ {fs : List Field} {l : List (Nat × Nat × Bool)}, fieldsOf P fs = some l → fs.mapM (fun f => (P.info? f.type).map fun i => (f.offset, i.size)) = some (l.map fun x => (x.1, x.2.1))
  | [], l, h => by simp [fieldsOf] at h; subst h; simp
  | f :: fs, l, h => by
    unfold fieldsOf at h
    split at h
    · rename_i i u r h1 h2 h3
      cases h
      simp [List.mapM_cons, h1, kY h3]
    · cases h
theorem Cr {u : TypeDesc} {l : List (Nat × Nat × Bool)} (h : mP P u = some (.st l)) : ∃ fs, u = .struct fs ∧ fieldsOf P fs.toList = some l := by
  cases u <;> simp only [mP] at h <;> try (cases h; done)
  all_goals (try (split at h <;> cases h; done))
  rename_i fs
  split at h
  · rename_i l' hl
    cases h
    exact ⟨fs, rfl, hl⟩
  · cases h
theorem lC {u : TypeDesc} {n esz : Nat} {ag : Bool} (h : mP P u = some (.arr n esz ag)) : ∃ e i ue, u = .array n e ∧ P.info? e = some i ∧ i.size = esz ∧ P.underlying e = some ue ∧ gS ue = ag := by
  cases u <;> simp only [mP] at h <;> try (cases h; done)
  all_goals (try (split at h <;> cases h; done))
  rename_i m e
  split at h
  · rename_i i ue h1 h2
    cases h
    exact ⟨e, i, ue, rfl, h1, rfl, h2, rfl⟩
  · cases h
theorem ca {u : TypeDesc} {e esz kZ : Nat} {ag : Bool} {z : Option AV} (h : mP P u = some (.sl e esz ag kZ z)) :
    ∃ i ue, u = .slice e ∧ P.info? e = some i ∧ i.size = esz ∧ i.bytes = kZ ∧ P.underlying e = some ue ∧ gS ue = ag ∧ dW i = z := by
  cases u <;> simp only [mP] at h <;> try (cases h; done)
  all_goals (try (split at h <;> cases h; done))
  rename_i e'
  split at h
  · rename_i i ue h1 h2
    injection h with h
    injection h with g1 g2 g3 g4 g5
    subst g1; subst g2; subst g3; subst g4; subst g5
    exact ⟨i, ue, rfl, h1, rfl, rfl, h2, rfl, rfl⟩
  · cases h
theorem iK {u : TypeDesc} (h : mP P u = some .str) : u = .string := by
  cases u <;> simp only [mP] at h <;> try (cases h; done)
  all_goals (try (split at h <;> cases h; done))
  rfl
theorem oq {u : TypeDesc} {k : IntKind} (h : mP P u = some (.int k)) : u = .int k := by
  cases u <;> simp only [mP] at h <;> try (cases h; done)
  all_goals (try (split at h <;> cases h; done))
  cases h
  rfl
theorem j7 {u : TypeDesc} {k e : TypeId} {z : Option AV} (h : mP P u = some (.map k e z)) : u = .map k e ∧ ∃ i, P.info? e = some i ∧ dW i = z := by
  cases u <;> simp only [mP] at h <;> try (cases h; done)
  all_goals (try (split at h <;> cases h; done))
  split at h
  · rename_i i h1
    cases h
    exact ⟨rfl, i, h1, rfl⟩
  · cases h
end types
section ops
variable {E : Env} {R : af} {w : World} {β : Nat → Nat} {s : St} {a : Act} {o : Oper}
theorem vT {p q : SV} {c : Value} {n : Nat} (hp : lj R w β p c) (hm : vI n p = some q) :
    ∃ b o, c = .pointer (some ⟨b, o, none⟩) ∧ lj R w β q (.pointer (some ⟨b, o + n, none⟩)) := by
  unfold vI at hm
  split at hm
  · cases hm
    exact ⟨_, _, hp, rfl⟩
  · cases hm
    cases hp with
    | @ptr _ _ b hb => exact ⟨b, _, rfl, Rel.ptr hb⟩
  · cases hm
    cases hp with
    | @ep _ b o hr =>
      refine ⟨b, o, rfl, Rel.ep ?_⟩
      rw [sE]
      exact hr.drop n
  · cases hm
    cases hp with
    | @gp _ _ _ _ _ b o _ ro hr cD =>
      refine ⟨b, o, rfl, Rel.gp hr ?_⟩
      cases ro with
      | none => trivial
      | aK => exact cD.elim
      | bh _ => exact cD.elim
      | aG _ => exact cD.elim
      | tok f1 b1 c1 => exact ⟨cD.1, fun e => ⟨(cD.2 e).1, by rw [(cD.2 e).2, Nat.add_assoc]⟩⟩
  · cases hm
    cases hp with
    | @rp _ _ _ _ _ _ b o _ ro hr cD =>
      refine ⟨b, o, rfl, Rel.rp hr ?_⟩
      cases ro with
      | none => trivial
      | aK => exact cD.elim
      | bh _ => exact cD.elim
      | tok _ _ _ _ => exact cD.elim
      | aG ts =>
        obtain ⟨t, k1, k2⟩ := cD
        refine ⟨t, k1, ?_⟩
        cases t with
        | aK => exact k2.elim
        | full _ => exact k2
        | tok f1 b1 c1 => exact ⟨k2.1, fun e => ⟨(k2.2 e).1, by rw [(k2.2 e).2, Nat.add_assoc]⟩⟩
  · cases hm
theorem sI (h : aJ E R w β s a) (t : TypeId) (x : Operand) (j : Nat) (ho : o.op = .fieldAddr t x j) {q : SV} (hq : iG E t (ba E s.ae x) j = some q) :
    bj E R w β s a o (s.put o.dst q) := by
  unfold iG at hq
  split at hq
  · rename_i i hi
    split at hq
    · rename_i fs hk
      split at hq
      · rename_i off sz ag hn
        split at hq
        · rename_i cU
          have cU := Nat.le_of_ble_eq_true cU
          obtain ⟨eh, u, e1, e2, e3, e4, e5, e6⟩ := bE E hi
          rw [hk] at e5
          obtain ⟨fl, rfl, hf⟩ := Cr e5
          obtain ⟨f, fi, u', g1, g2, g3, g4, g5, g6⟩ := kC hf hn
          obtain ⟨b, o', m1, m2⟩ := vT (aE h x) hq
          refine an h ?_ m2
          have vf : fl[j]? = some f := by simpa using g1
          have bS : ¬ fi.size = 0 := by omega
          simp [execOp, ho, Instr.fieldAt, run_underlying e2, vf, m1, Instr.sureAddr, fieldPlace, run_sizeOf w g3, bS, bJ, g2]
        · cases hq
      · cases hq
    · cases hq
  · cases hq
theorem yO {b o sz : Nat} {es : List AV} (h : eF R w b o sz es) {n : Nat} {e : AV} (hn : nth es n = some e) : du R w b (o + n * sz) e.cells ∧ e.cells.length = sz ∧ e.aH = true := by
  induction es generalizing o n with
  | nil => simp [nth] at hn
  | cons x l ih =>
    cases h with
    | cons hl ht _ h t =>
      cases n with
      | zero => simp [nth] at hn; subst hn; exact ⟨by simpa using h, hl, ht⟩
      | succ n =>
        have := ih t (show nth l n = some e from hn)
        rw [show o + sz + n * sz = o + (n + 1) * sz by rw [Nat.add_mul]; omega] at this
        exact this
theorem sJ (h : aJ E R w β s a) (t : TypeId) (x ix : Operand) (ho : o.op = .indexAddr t x ix) {q : SV} (hq : iF E t (ba E s.ae x) (ba E s.ae ix) = some (true, q)) :
    bj E R w β s a o (s.put o.dst q) := by
  have rx := aE h x
  have ri := aE h ix
  unfold iF at hq
  split at hq
  · rename_i i k n hi OK
    rw [OK] at ri
    have J0 : Rel R w (.int k n) (a.eval ix) := ri
    generalize E3 : a.eval ix = iv at J0
    cases J0
    obtain ⟨eh, u, e1, e2, e3, e4, e5, e6⟩ := bE E hi
    split at hq
    · -- a list
      rename_i elem esz ag kZ z kk sz es hk hx
      rw [hx] at rx
      rw [hk] at e5
      obtain ⟨ie, ue, rfl, f1, f2, f3, f4, f5, f6⟩ := ca e5
      split at hq
      · rename_i hc
        have key : ∀ (u : AV), (0 ≤ n ∧ n < (es.length : Int)) → bZ (aY es n.toNat).cells u.cells → bj E R w β s a o (s.put o.dst (.v (.ep u.cells))) := fun u rK hu => by
          obtain ⟨xd, AN⟩ := rK
          have cu : Rel R w (.list kk sz es) (a.eval x) := rx
          generalize dw : a.eval x = xv at cu
          cases cu with
          | gi => simp at AN; omega
          | fO => simp at AN; omega
          | jK => simp at AN; omega
          | iH => simp at AN; omega
          | jm => simp at AN; omega
          | @list _ _ _ b o' len cap hr hl dA AO =>
            subst hl
            have bR : n.toNat < es.length := by omega
            obtain ⟨e, he⟩ : ∃ e, nth es n.toNat = some e := ⟨es[n.toNat], by rw [aD]; exact List.getElem?_eq_getElem bR⟩
            have cU : sz = esz := by
              simp only [Bool.or_eq_true] at hc
              rcases hc with hc | hc
              · exact Nat.eq_of_beq_eq_true hc
              · cases es with
                | nil => simp at bR
                | cons _ _ => simp at hc
            obtain ⟨g1, _, _⟩ := yO hr he
            refine an h (c := .pointer (some ⟨b, o' + n.toNat * sz, none⟩)) ?_ ?_
            · have dl : 0 ≤ n ∧ n < (es.length : Int) := ⟨xd, AN⟩
              simp [execOp, ho, Instr.indexAt, E3, dw, asIntOf, run_underlying e2, dl, run_sizeOf w f1, f2, cU, bJ]
            · have : aY es n.toNat = e := by simp [aY, he]
              rw [this] at hu
              exact .ep (hu.EZ g1)
        split at hq
        · rename_i p hp
          injection hq with hq
          injection hq with rK ll
          subst ll
          rw [Bool.and_eq_true] at rK
          have dl := of_decide_eq_true rK.1
          have hd := p.b9 rK.2
          have bR : n.toNat < es.length := by omega
          refine key _ dl (hd.cells ?_)
          obtain ⟨e, he⟩ : ∃ e, nth es n.toNat = some e := ⟨es[n.toNat], by rw [aD]; exact List.getElem?_eq_getElem bR⟩
          have : aY es n.toNat = e := by simp [aY, he]
          rw [this]
          have cu : Rel R w (.list kk sz es) (a.eval x) := rx
          generalize a.eval x = xv at cu
          cases cu with
          | gi => simp at bR
          | fO => simp at bR
          | jK => simp at bR
          | iH => simp at bR
          | jm => simp at bR
          | list hr _ _ _ => exact (yO hr he).2.2
        · injection hq with hq
          injection hq with rK ll
          subst ll
          exact key _ (of_decide_eq_true rK) (bZ.refl _)
      · cases hq
    · -- a heap slice
      rename_i elem esz ag kZ z id off sz len cap hk hx
      rw [hx] at rx
      rw [hk] at e5
      obtain ⟨ie, ue, rfl, f1, f2, f3, f4, f5, f6⟩ := ca e5
      split at hq
      · rename_i hc
        have cU := Nat.eq_of_beq_eq_true hc
        injection hq with hq
        injection hq with rK ll
        subst ll
        have dl := of_decide_eq_true rK
        have cu : Rel R w (.gb id off sz len cap) (a.eval x) := rx
        generalize dw : a.eval x = xv at cu
        cases cu with
        | @gb _ _ _ _ _ b hb _ =>
          refine an h (c := .pointer (some ⟨b, off + n.toNat * sz, none⟩)) ?_ (Rel.ptr hb)
          simp [execOp, ho, Instr.indexAt, E3, dw, asIntOf, run_underlying e2, dl, run_sizeOf w f1, f2, cU, bJ]
      · cases hq
    · -- a slice that grows
      rename_i elem esz ag kZ z id f' off sz len hk hx
      rw [hx] at rx
      rw [hk] at e5
      obtain ⟨ie, ue, rfl, f1, f2, f3, f4, f5, f6⟩ := ca e5
      split at hq
      · rename_i hc
        have cU := Nat.eq_of_beq_eq_true hc
        injection hq with hq
        injection hq with rK ll
        subst ll
        have dl := of_decide_eq_true rK
        have cu : Rel R w (.cS id f' off sz len) (a.eval x) := rx
        generalize dw : a.eval x = xv at cu
        cases cu with
        | fZ _ _ => omega
        | @cS _ _ _ _ _ cap b o' ro aO cD dA =>
          refine an h (c := .pointer (some ⟨b, o' + n.toNat * sz, none⟩)) ?_ (Rel.gp aO ?_)
          · simp [execOp, ho, Instr.indexAt, E3, dw, asIntOf, run_underlying e2, dl, run_sizeOf w f1, f2, cU, bJ]
          · cases ro with
            | none => trivial
            | aK => exact cD.elim
            | bh _ => exact cD.elim
            | aG _ => exact cD.elim
            | tok f1 b1 c1 =>
              refine ⟨cD.1, fun e => ?_⟩
              obtain ⟨k1, k2, k3⟩ := cD.2 e
              refine ⟨k1, ?_⟩
              rcases k3 with k3 | k3
              · rw [k3, Nat.add_zero, Nat.add_mul]
              · omega
      · cases hq
    · -- a row
      rename_i elem esz ag kZ z id j' sz len hk hx
      rw [hx] at rx
      rw [hk] at e5
      obtain ⟨ie, ue, rfl, f1, f2, f3, f4, f5, f6⟩ := ca e5
      split at hq
      · rename_i hc
        have cU := Nat.eq_of_beq_eq_true hc
        injection hq with hq
        injection hq with rK ll
        subst ll
        have dl := of_decide_eq_true rK
        have cu : Rel R w (.eT id j' sz len) (a.eval x) := rx
        generalize dw : a.eval x = xv at cu
        cases cu with
        | oe _ _ => omega
        | @eT _ _ _ _ cap b o' ro aO cD dA =>
          refine an h (c := .pointer (some ⟨b, o' + n.toNat * sz, none⟩)) ?_ (Rel.rp aO ?_)
          · simp [execOp, ho, Instr.indexAt, E3, dw, asIntOf, run_underlying e2, dl, run_sizeOf w f1, f2, cU, bJ]
          · cases ro with
            | none => trivial
            | aK => exact cD.elim
            | bh _ => exact cD.elim
            | tok _ _ _ _ => exact cD.elim
            | aG ts =>
              obtain ⟨t, k1, k2⟩ := cD
              refine ⟨t, k1, ?_⟩
              cases t with
              | aK => exact k2.elim
              | full f1 => exact k2.1
              | tok f1 b1 c1 =>
                refine ⟨k2.1, fun e => ?_⟩
                obtain ⟨k3, k4, k5⟩ := k2.2 e
                refine ⟨k3, ?_⟩
                rcases k4 with k4 | k4
                · rw [k4, Nat.zero_add, Nat.add_zero]
                · omega
      · cases hq
    · -- an array that is never written
      rename_i len esz ag cs hk hx
      rw [hx] at rx
      rw [hk] at e5
      obtain ⟨e, ie, ue, rfl, f1, f2, f3, f4⟩ := lC e5
      have cu : Rel R w (.ep cs) (a.eval x) := rx
      generalize dw : a.eval x = xv at cu
      cases cu with
      | @ep _ b o' hr =>
        split at hq
        · rename_i p hp
          split at hq
          · rename_i hc
            rw [Bool.and_eq_true] at hc
            have hz := Nat.eq_of_beq_eq_true hc.1
            have hl := Nat.le_of_ble_eq_true hc.2
            injection hq with hq
            injection hq with rK ll
            subst ll
            rw [Bool.and_eq_true] at rK
            have dl := of_decide_eq_true rK.1
            have hd := p.b9 rK.2
            have bR : n.toNat < cs.length := by omega
            have TQ := hr.drop n.toNat
            rw [List.drop_eq_getElem_cons bR] at TQ
            have hn : aY cs n.toNat = cs[n.toNat] := by
              unfold aY
              rw [aD, List.getElem?_eq_getElem bR]
            rw [hn] at hd ⊢
            refine an h (c := .pointer (some ⟨b, o' + n.toNat * esz, none⟩)) ?_ ?_
            · simp [execOp, ho, Instr.indexAt, E3, dw, Instr.sureAddr, asIntOf, run_underlying e2, dl, run_sizeOf w f1, f2, bJ]
            · subst hz
              rw [Nat.mul_one]
              cases TQ with
              | cons hc h1 hi cZ t => exact .ep (.cons hc h1 hi (hd.1 _ _ _ cZ) .nil)
          · cases hq
        · injection hq with hq
          injection hq with rK ll
          subst ll
          have dl := of_decide_eq_true rK
          refine an h (c := .pointer (some ⟨b, o' + n.toNat * esz, none⟩)) ?_ ?_
          · simp [execOp, ho, Instr.indexAt, E3, dw, Instr.sureAddr, asIntOf, run_underlying e2, dl, run_sizeOf w f1, f2, bJ]
          · rw [sE]
            exact .ep (hr.drop _)
    · -- an array
      rename_i len esz ag hk _
      rw [hk] at e5
      obtain ⟨e, ie, ue, rfl, f1, f2, f3, f4⟩ := lC e5
      split at hq
      · rename_i q' hm
        injection hq with hq
        injection hq with rK ll
        subst ll
        have dl := of_decide_eq_true rK
        obtain ⟨b, o', m1, m2⟩ := vT rx hm
        refine an h ?_ m2
        simp [execOp, ho, Instr.indexAt, E3, m1, Instr.sureAddr, asIntOf, run_underlying e2, dl, run_sizeOf w f1, f2, bJ]
      · cases hq
    · cases hq
  · cases hq
theorem j8 {t : TypeId} {i : TypeInfo} {u : TypeDesc} (h1 : E.P.info? t = some i) (h2 : E.P.underlying t = some u) {off : Nat} {cs l : List AV} {vs : List Value} {v : AV} (hr : ay R w cs vs) (h3 : ∀ x ∈ vs, x.oneCell' = true)
    (xe : gS u = true → Aw off i.size cs = some l ∧ n5 true l = some v) (Vs : gS u = false → Aw off 1 cs = some l ∧ n5 false l = some v) :
    ∃ c, (part t ⟨vs⟩ off).run E.P w = .ok c w ∧ Rel R w v c := by
  unfold part
  simp only [Sem.run_bind, vR w h2, Result.andThen_ok]
  cases ha : gS u with
  | true =>
    obtain ⟨g1, g2⟩ := xe ha
    obtain ⟨k1, k2, k3, k4⟩ := kB g1 hr h3
    obtain ⟨m1, _⟩ := sG g2 k2 k3
    refine ⟨_, ?_, m1 rfl⟩
    have : (⟨vs⟩ : Array Value).extract off (off + i.size) = ⟨(vs.drop off).take i.size⟩ := by
      apply Array.ext'
      simp [List.extract_eq_take_drop]
    simp [run_sizeOf w h1]
  | false =>
    obtain ⟨g1, g2⟩ := Vs ha
    obtain ⟨k1, k2, k3, k4⟩ := kB g1 hr h3
    obtain ⟨_, m2⟩ := sG g2 k2 k3
    obtain ⟨c, hc, cZ⟩ := m2 rfl
    refine ⟨c, ?_, cZ⟩
    have h0 := k4 0 c (by rw [hc]; simp)
    simp only [Nat.add_zero] at h0
    simp [h0]
theorem AP (h : aJ E R w β s a) (t : TypeId) (x : Operand) (j : Nat) (ho : o.op = .field t x j) {v : AV} (hq : Ay E t (ba E s.ae x) j = some v) :
    bj E R w β s a o (s.put o.dst (.v v)) := by
  have rx := aE h x
  unfold Ay at hq
  split at hq
  · rename_i i cs hi hx
    rw [hx] at rx
    have cu : Rel R w (.agg cs) (a.eval x) := rx
    generalize dw : a.eval x = xv at cu
    cases cu with
    | @agg _ vs hr h1 =>
    split at hq
    · rename_i fs hk
      split at hq
      · rename_i off sz ag hn
        obtain ⟨eh, u, e1, e2, e3, e4, e5, e6⟩ := bE E hi
        rw [hk] at e5
        obtain ⟨fl, rfl, hf⟩ := Cr e5
        obtain ⟨f, fi, u', g1, g2, g3, g4, g5, g6⟩ := kC hf hn
        have key : ∃ c, (part f.type ⟨vs⟩ off).run E.P w = .ok c w ∧ Rel R w v c := by
          split at hq
          · rename_i xe
            split at hq
            · rename_i l hl
              exact j8 g3 g5 (l := l) hr h1 (fun _ => ⟨by rw [g4]; exact hl, hq⟩) (fun hf => by rw [g6, xe] at hf; cases hf)
            · cases hq
          · rename_i xe
            split at hq
            · rename_i l hl
              exact j8 g3 g5 (l := l) hr h1 (fun hf => by rw [g6] at hf; exact absurd hf xe) (fun _ => ⟨hl, hq⟩)
            · cases hq
        obtain ⟨c, k1, k2⟩ := key
        refine an h ?_ k2
        have vf : fl[j]? = some f := by simpa using g1
        simp [execOp, ho, Instr.field, run_underlying e2, vf, dw, asAgg, g2, k1]
      · cases hq
    · cases hq
  · cases hq
theorem AQ (h : aJ E R w β s a) (t : TypeId) (x ix : Operand) (ho : o.op = .index t x ix) {v : AV} (hq : Az E t (ba E s.ae x) (ba E s.ae ix) = some (true, v)) :
    bj E R w β s a o (s.put o.dst (.v v)) := by
  have rx := aE h x
  have ri := aE h ix
  unfold Az at hq
  split at hq
  · rename_i i l k n hi hx OK
    rw [hx] at rx
    rw [OK] at ri
    have J0 : Rel R w (.int k n) (a.eval ix) := ri
    have cu : Rel R w (.str l) (a.eval x) := rx
    generalize E3 : a.eval ix = iv at J0
    generalize dw : a.eval x = xv at cu
    cases J0
    cases cu
    obtain ⟨eh, u, e1, e2, e3, e4, e5, e6⟩ := bE E hi
    split at hq
    · rename_i hk
      rw [hk] at e5
      have := iK e5
      subst this
      injection hq with hq
      injection hq with rK ll
      subst ll
      obtain ⟨xd, AN⟩ := of_decide_eq_true rK
      have bR : n.toNat < l.length := by omega
      refine an h (c := .int .u8 (l.getD n.toNat 0).toNat) ?_ (Rel.int _ _)
      have ij : (⟨⟨l⟩⟩ : ByteArray)[n.toNat]? = some (l.getD n.toNat 0) := by
        have hs : n.toNat < (⟨⟨l⟩⟩ : ByteArray).size := bR
        rw [getElem?_pos (⟨⟨l⟩⟩ : ByteArray) n.toNat hs]
        congr 1
        simp [List.getD, List.getElem?_eq_getElem bR]
        rfl
      simp [execOp, ho, Instr.index, E3, dw, asIntOf, run_underlying e2, xd, ij]
    · cases hq
  · rename_i i cs k n hi hx OK
    rw [hx] at rx
    rw [OK] at ri
    have J0 : Rel R w (.int k n) (a.eval ix) := ri
    have cu : Rel R w (.agg cs) (a.eval x) := rx
    generalize E3 : a.eval ix = iv at J0
    generalize dw : a.eval x = xv at cu
    cases J0
    cases cu with
    | @agg _ vs hr h1 =>
    obtain ⟨eh, u, e1, e2, e3, e4, e5, e6⟩ := bE E hi
    split at hq
    · rename_i len esz ag hk
      rw [hk] at e5
      obtain ⟨e, ie, ue, rfl, f1, f2, f3, f4⟩ := lC e5
      split at hq
      · rename_i v' KL
        injection hq with hq
        injection hq with rK ll
        subst ll
        have dl := of_decide_eq_true rK
        have key : ∃ c, (part e ⟨vs⟩ (n.toNat * esz)).run E.P w = .ok c w ∧ Rel R w v' c := by
          split at KL
          · rename_i xe
            split at KL
            · rename_i l hl
              exact j8 f1 f3 (l := l) hr h1 (fun _ => ⟨by rw [f2]; exact hl, KL⟩) (fun hf => by rw [f4, xe] at hf; cases hf)
            · cases KL
          · rename_i xe
            split at KL
            · rename_i l hl
              exact j8 f1 f3 (l := l) hr h1 (fun hf => by rw [f4] at hf; exact absurd hf xe) (fun _ => ⟨hl, KL⟩)
            · cases KL
        obtain ⟨c, k1, k2⟩ := key
        refine an h ?_ k2
        simp [execOp, ho, Instr.index, E3, dw, asIntOf, run_underlying e2, dl, run_sizeOf w f1, f2, k1]
      · cases hq
    · cases hq
  · cases hq
theorem xf (h : aJ E R w β s a) (x : Operand) (j : Nat) (ho : o.op = .extract x j) {vs : List AV} {v : AV} (hx : ba E s.ae x = .v (.bC vs)) (hn : nth vs j = some v) :
    bj E R w β s a o (s.put o.dst (.v v)) := by
  have rx := aE h x
  rw [hx] at rx
  have cu : Rel R w (.bC vs) (a.eval x) := rx
  generalize dw : a.eval x = xv at cu
  cases cu with
  | @bC _ us hr =>
  rw [aD] at hn
  obtain ⟨c, h1, h2⟩ := hr.get hn
  refine an h ?_ h2
  simp [execOp, ho, Instr.extract, dw, h1]
theorem dJ (h : aJ E R w β s a) : ∀ {l : List Operand} {vs : List AV}, js E s.ae l = some vs → ay R w vs (l.map a.eval)
  | [], vs, hl => by simp [js] at hl; subst hl; exact .nil
  | x :: l, vs, hl => by
    unfold js at hl
    split at hl
    · rename_i v r h1 h2
      cases hl
      have := aE h x
      rw [h1] at this
      exact .cons this (dJ h h2)
    · cases hl
theorem vl (h : aJ E R w β s a) (g : FuncId) (x y : Array Operand) (ho : o.op = .makeFunc (.func g) x y) {p q : List AV} (hp : js E s.ae x.toList = some p) (hq : js E s.ae y.toList = some q) :
    bj E R w β s a o (s.put o.dst (.v (.fn g p q))) := by
  have h1 := dJ h hp
  have h2 := dJ h hq
  refine an h (c := .func (.func g) ⟨x.toList.map a.eval⟩ ⟨y.toList.map a.eval⟩) ?_ (Rel.fn h1 h2)
  have e1 : x.map a.eval = ⟨x.toList.map a.eval⟩ := Array.ext' (by simp)
  have e2 : y.map a.eval = ⟨y.toList.map a.eval⟩ := Array.ext' (by simp)
  simp [execOp, ho, Instr.makeFunc, e1, e2]
end ops
end Go.Am
namespace Go.Am
open Go
section ops
variable {E : Env} {R : af} {w : World} {β : Nat → Nat} {s : St} {a : Act} {o : Oper}
theorem size_bytes (l : List UInt8) : (⟨⟨l⟩⟩ : ByteArray).size = l.length := rfl
theorem ot (l : List UInt8) : (⟨⟨l⟩⟩ : ByteArray).toList = l := by rw [ByteArray.toList_eq]
theorem xg (l r : List UInt8) : ((⟨⟨l⟩⟩ : ByteArray) ++ ⟨⟨r⟩⟩) = ⟨⟨l ++ r⟩⟩ := by
  apply ByteArray.ext
  rw [ByteArray.data_append]
  simp
theorem DB (op : BinOp) (t : TypeId) (x y : Operand) (k k' : IntKind) (n m : Int) : (eqGuard op t x y (.int k n) (.int k' m)).run E.P w = .ok () w := by
  unfold eqGuard
  cases op <;> rfl
theorem DC (op : BinOp) (t : TypeId) (x y : Operand) (n m : ByteArray) : (eqGuard op t x y (.string n) (.string m)).run E.P w = .ok () w := by
  unfold eqGuard
  cases op <;> rfl
theorem AR (h : aJ E R w β s a) (op : BinOp) (t u : TypeId) (x y : Operand) (ho : o.op = .binOp op t x y u) {p q v : AV} (hx : ba E s.ae x = .v p) (hy : ba E s.ae y = .v q) (hv : yJ op p q = some (true, v)) :
    bj E R w β s a o (s.put o.dst (.v v)) := by
  have rx := aE h x
  have ry := aE h y
  rw [hx] at rx
  rw [hy] at ry
  have cu : Rel R w p (a.eval x) := rx
  have lu : Rel R w q (a.eval y) := ry
  have key : ∃ c, (do eqGuard op t x y (a.eval x) (a.eval y); binOp op t (a.eval x) (a.eval y) : Sem Value).run E.P w = .ok c w ∧ Rel R w v c := by
    generalize dw : a.eval x = xv at cu
    generalize Oa : a.eval y = yv at lu
    unfold yJ at hv
    split at hv
    · rename_i k n k' m
      cases cu
      cases lu
      simp only [Sem.run_bind, DB, Result.andThen_ok]
      split at hv
      · injection hv with hv
        injection hv with h1 h2
        subst h2
        have hm := of_decide_eq_true h1
        have HZ : ¬ m < 0 := by omega
        exact ⟨.int k (k.wrap (n * 2 ^ (min m.toNat k.bits))), by simp [binOp, Op.shift, HZ], .int _ _⟩
      · injection hv with hv
        injection hv with h1 h2
        subst h2
        have hm := of_decide_eq_true h1
        have HZ : ¬ m < 0 := by omega
        exact ⟨.int k (n.fdiv (2 ^ (min m.toNat k.bits))), by simp [binOp, Op.shift, HZ], .int _ _⟩
      · rename_i HE QL
        split at hv
        · rename_i AO
          subst AO
          split at hv
          · cases hv; exact ⟨.int k (k.wrap (n + m)), by simp [binOp, Op.intArith], .int _ _⟩
          · cases hv; exact ⟨.int k (k.wrap (n - m)), by simp [binOp, Op.intArith], .int _ _⟩
          · cases hv; exact ⟨.int k (k.wrap (n * m)), by simp [binOp, Op.intArith], .int _ _⟩
          · injection hv with hv
            injection hv with h1 h2
            subst h2
            have hm : ¬ m = 0 := by simpa using h1
            exact ⟨.int k (k.wrap (n.tdiv m)), by simp [binOp, Op.intDiv, hm], .int _ _⟩
          · injection hv with hv
            injection hv with h1 h2
            subst h2
            have hm : ¬ m = 0 := by simpa using h1
            exact ⟨.int k (n.tmod m), by simp [binOp, Op.intDiv, hm], .int _ _⟩
          · cases hv; exact ⟨.int k (Dm k n m), by simp [binOp, Op.intBits, Dm], .int _ _⟩
          · cases hv; exact ⟨.int k (Rz k n m), by simp [binOp, Op.intBits, Rz], .int _ _⟩
          · cases hv; exact ⟨.int k (Dn k n m), by simp [binOp, Op.intBits, Dn], .int _ _⟩
          · cases hv; exact ⟨.bool (n == m), by simp [binOp, Op.intCmp], .bool _⟩
          · cases hv; exact ⟨.bool (n != m), by simp [binOp, Op.intCmp], .bool _⟩
          · cases hv; exact ⟨.bool (decide (n < m)), by simp [binOp, Op.intCmp], .bool _⟩
          · cases hv; exact ⟨.bool (decide (n ≤ m)), by simp [binOp, Op.intCmp], .bool _⟩
          · cases hv; exact ⟨.bool (decide (n > m)), by simp [binOp, Op.intCmp], .bool _⟩
          · cases hv; exact ⟨.bool (decide (n ≥ m)), by simp [binOp, Op.intCmp], .bool _⟩
          · cases hv
        · cases hv
    · rename_i l r
      cases cu
      cases lu
      simp only [Sem.run_bind, DC, Result.andThen_ok]
      split at hv
      · injection hv with hv
        injection hv with h1 h2
        subst h2
        have hm := of_decide_eq_true h1
        refine ⟨.string ⟨⟨l ++ r⟩⟩, ?_, .str _⟩
        have KM : ¬ ((l.length + r.length : Nat) : Int) > IntKind.i64.max := by
          have : IntKind.i64.max = 9223372036854775807 := by decide
          omega
        simp only [binOp, Op.stringOp, size_bytes, if_neg KM, xg, Sem.run_pure]
      · cases hv; exact ⟨.bool (l == r), by simp [binOp, Op.stringOp], .bool _⟩
      · cases hv; exact ⟨.bool (!(l == r)), by simp [binOp, Op.stringOp], .bool _⟩
      · cases hv; exact ⟨.bool (Op.bytesLess l r), by simp [binOp, Op.stringOp], .bool _⟩
      · cases hv; exact ⟨.bool (Op.bytesLess l r || l == r), by simp [binOp, Op.stringOp], .bool _⟩
      · cases hv; exact ⟨.bool (!(Op.bytesLess l r || l == r)), by simp [binOp, Op.stringOp], .bool _⟩
      · cases hv; exact ⟨.bool (!(Op.bytesLess l r)), by simp [binOp, Op.stringOp], .bool _⟩
      · cases hv
    · cases hv
  obtain ⟨c, k1, k2⟩ := key
  refine an h (c := c) ?_ k2
  simp only [Sem.run_bind] at k1
  simp only [execOp, ho, Sem.run_bind, k1, Result.andThen_ok, Sem.run_pure]
theorem iz {t : TypeId} {i : TypeInfo} {u : TypeDesc} (h1 : E.P.info? t = some i) (h2 : E.P.underlying t = some u) {off : Nat} {cs : List AV} {vs : List Value} {v : AV} (hr : ay R w cs vs) (h3 : ∀ x ∈ vs, x.oneCell' = true)
    (h : Cl (gS u) off i.size cs = some v) : ∃ c, (part t ⟨vs⟩ off).run E.P w = .ok c w ∧ Rel R w v c := by
  unfold Cl at h
  cases ha : gS u with
  | true =>
    rw [ha] at h
    simp only [if_true] at h
    split at h
    · rename_i l hl
      exact j8 h1 h2 hr h3 (fun _ => ⟨hl, h⟩) (fun e => by rw [ha] at e; cases e)
    · cases h
  | false =>
    rw [ha] at h
    simp only [Bool.false_eq_true, if_false] at h
    split at h
    · rename_i l hl
      exact j8 h1 h2 hr h3 (fun e => by rw [ha] at e; cases e) (fun _ => ⟨hl, h⟩)
    · cases h
theorem yP {ek : TypeId → EK} {d : Nat} (ih : ∀ (t : TypeId) (a b : AV) (r : Bool) (x y : Value), jH (ek t) a b = some r → Rel R w a x → Rel R w b y → (Op.equalIn d t x y).run E.P w = .ok r w) {xs ys : List AV} {vs us : List Value}
    (hx : ay R w xs vs) (pV : ∀ x ∈ vs, x.oneCell' = true) (hy : ay R w ys us) (H0 : ∀ x ∈ us, x.oneCell' = true) :
    ∀ (fs : List Field) (l : KB) (r : Bool), Ax E.P ek fs = some l → pR l xs ys = some r → (Op.eqFields d ⟨vs⟩ ⟨us⟩ fs).run E.P w = .ok r w
  | [], l, r, hl, hr => by
    simp [Ax] at hl
    subst hl
    simp [pR] at hr
    subst hr
    rfl
  | f :: fs, l, r, hl, hr => by
    unfold Ax at hl
    split at hl
    · cases hl
    · rename_i hn
      split at hl
      · rename_i i u l' h1 h2 h3
        cases hl
        unfold pR at hr
        split at hr
        · rename_i a b ha hb
          split at hr
          · rename_i p q hp hq
            cases hr
            obtain ⟨c, k1, k2⟩ := iz h1 h2 hx pV ha
            obtain ⟨c', k3, k4⟩ := iz h1 h2 hy H0 hb
            have bS : f.name ≠ "_" := by simpa using hn
            have he := ih f.type a b p c c' hp k2 k4
            have sK := yP ih hx pV hy H0 fs l' q h3 hq
            simp only [Op.eqFields, bS, ne_eq, not_false_eq_true, if_true, Sem.run_bind, k1, k3, he, Result.andThen_ok]
            cases p with
            | true => simp [sK]
            | false => simp
          · cases hr
        · cases hr
      · cases hl
theorem vU {ek : EK} {d : Nat} {e : TypeId} {i : TypeInfo} {u : TypeDesc} (h1 : E.P.info? e = some i) (h2 : E.P.underlying e = some u) (ih : ∀ (a b : AV) (r : Bool) (x y : Value), jH ek a b = some r → Rel R w a x → Rel R w b y → (Op.equalIn d e x y).run E.P w = .ok r w) {xs ys : List AV} {vs us : List Value}
    (hx : ay R w xs vs) (pV : ∀ x ∈ vs, x.oneCell' = true) (hy : ay R w ys us) (H0 : ∀ x ∈ us, x.oneCell' = true) :
    ∀ (m k : Nat) (r : Bool), pR (su i.size (gS u) ek m k) xs ys = some r → (Op.eqItems d e i.size ⟨vs⟩ ⟨us⟩ (List.range' k m)).run E.P w = .ok r w
  | 0, k, r, hr => by
    simp [su, pR] at hr
    subst hr
    rfl
  | m + 1, k, r, hr => by
    unfold su pR at hr
    split at hr
    · rename_i a b ha hb
      split at hr
      · rename_i p q hp hq
        cases hr
        obtain ⟨c, k1, k2⟩ := iz h1 h2 hx pV ha
        obtain ⟨c', k3, k4⟩ := iz h1 h2 hy H0 hb
        have he := ih a b p c c' hp k2 k4
        have sK := vU h1 h2 ih hx pV hy H0 m (k + 1) q hq
        simp only [List.range'_succ, Op.eqItems, Sem.run_bind, k1, k3, he, Result.andThen_ok]
        cases p with
        | true => simpa using sK
        | false => simp
      · cases hr
    · cases hr
theorem xh : ∀ (n d : Nat), n ≤ d → ∀ (t : TypeId) (a b : AV) (r : Bool) (x y : Value), jH (mQ E.P n t) a b = some r → Rel R w a x → Rel R w b y → (Op.equalIn d t x y).run E.P w = .ok r w
  | 0, _, _, t, a, b, r, x, y, h, _, _ => by simp [mQ, jH] at h
  | n + 1, 0, hd, _, _, _, _, _, _, _, _, _ => by omega
  | n + 1, d + 1, hd, t, a, b, r, x, y, h, hx, hy => by
    unfold mQ at h
    split at h
    · rename_i hu
      unfold jH at h
      split at h
      all_goals (try contradiction)
      cases hx; cases hy; cases h
      exact run_equalIn_bool' w d t _ _ hu
    · rename_i k hu
      unfold jH at h
      split at h
      all_goals (try contradiction)
      split at h
      · rename_i hk
        subst hk
        cases hx; cases hy; cases h
        exact run_equalIn_int w d t _ k _ _ hu
      · cases h
    · rename_i hu
      unfold jH at h
      split at h
      all_goals (try contradiction)
      cases hx; cases hy; cases h
      rw [run_equalIn_string w d t _ _ hu, ot, ot]
    · rename_i fs hu
      split at h
      · simp [jH] at h
      · rename_i hs
        split at h
        · rename_i l hl
          unfold jH at h
          split at h
          all_goals (try contradiction)
          rename_i wX xs ys hk
          cases hk
          cases hx with
          | agg hx pV =>
          cases hy with
          | agg hy H0 =>
          have hf : E.P.fieldsOf t = fs := by simp [Program.fieldsOf, hu]
          rw [run_equalIn_struct w d t _ _ (by rw [hf]; exact hu) (by simpa using hs), hf]
          exact yP (fun t a b r x y => xh n d (by omega) t a b r x y) hx pV hy H0 fs.toList _ r hl h
        · simp [jH] at h
    · rename_i m e hu
      split at h
      · rename_i i ud g1 g2
        unfold jH at h
        split at h
        all_goals (try contradiction)
        rename_i wX xs ys hk
        cases hk
        cases hx with
        | agg hx pV =>
        cases hy with
        | agg hy H0 =>
        have mS : E.P.cellsOf e = i.size := by simp [Program.cellsOf, g1]
        rw [run_equalIn_array (P := E.P) w d _ _ hu g1, mS, List.range_eq_range']
        exact vU g1 g2 (fun a b r x y => xh n d (by omega) e a b r x y) hx pV hy H0 m 0 r h
      · simp [jH] at h
    · simp [jH] at h
theorem iA {t : TypeId} {i : TI} (hi : E.ti t = some i) {p q : AV} {r : Bool} {x y : Value} (h : jH i.ek p q = some r) (hx : Rel R w p x) (hy : Rel R w q y) :
    (Op.equalIn 10000 t x y).run E.P w = .ok r w ∧ ((∃ b c, x = .bool b ∧ y = .bool c) ∨ (∃ k n k' m, x = .int k n ∧ y = .int k' m) ∨ (∃ n m, x = .string n ∧ y = .string m) ∨ (∃ n m, x = .agg n ∧ y = .agg m ∧ E.P.eqGuardType E.P.depth t = false)) := by
  have vV : i.ek = qA E.P t := by
    have := E.Dl t i hi
    unfold Dk at this
    split at this
    · split at this
      · cases this; rfl
      · cases this
    · cases this
  rw [vV] at h
  have hg : jH (mQ E.P 6 t) p q = some r ∧ ((∃ l, mQ E.P 6 t = .st l) → E.P.eqGuardType E.P.depth t = false) := by
    unfold qA at h
    split at h
    · rename_i l hl
      split at h
      · simp [jH] at h
      · rename_i HF
        exact ⟨by rw [hl]; exact h, fun _ => by simpa using HF⟩
    · rename_i k hk
      exact ⟨h, fun ⟨l, hl⟩ => absurd hl (hk l)⟩
  refine ⟨xh 6 10000 (by omega) t p q r x y hg.1 hx hy, ?_⟩
  have h2 := hg.1
  have h3 := hg.2
  generalize mQ E.P 6 t = k at h2 h3
  unfold jH at h2
  split at h2
  · cases hx; cases hy; exact .inl ⟨_, _, rfl, rfl⟩
  · cases hx; cases hy; exact .inr (.inl ⟨_, _, _, _, rfl, rfl⟩)
  · cases hx; cases hy; exact .inr (.inr (.inl ⟨_, _, rfl, rfl⟩))
  · cases hx; cases hy; exact .inr (.inr (.inr ⟨_, _, rfl, rfl, h3 ⟨_, rfl⟩⟩))
  · cases h2
theorem E4 (h : aJ E R w β s a) (op : BinOp) (t u : TypeId) (x y : Operand) (ho : o.op = .binOp op t x y u) {p q : AV} {r : Bool} (hx : ba E s.ae x = .v p) (hy : ba E s.ae y = .v q) (hb : yJ op p q = none) (hv : RB E op t p q = some r) :
    bj E R w β s a o (s.put o.dst (.v (.bool r))) := by
  have rx := aE h x
  have ry := aE h y
  rw [hx] at rx
  rw [hy] at ry
  have cu : Rel R w p (a.eval x) := rx
  have lu : Rel R w q (a.eval y) := ry
  have key : (do eqGuard op t x y (a.eval x) (a.eval y); binOp op t (a.eval x) (a.eval y) : Sem Value).run E.P w = .ok (.bool r) w := by
    generalize dw : a.eval x = xv at cu
    generalize Oa : a.eval y = yv at lu
    unfold RB at hv
    split at hv
    · rename_i i hi
      obtain ⟨k1, k2⟩ := iA hi hv cu lu
      rcases k2 with ⟨b, c, rfl, rfl⟩ | ⟨k, n, k', m, rfl, rfl⟩ | ⟨n, m, rfl, rfl⟩ | ⟨n, m, rfl, rfl, hg⟩
      · have AS : (eqGuard .eql t x y (.bool b) (.bool c)).run E.P w = .ok () w := rfl
        simp [AS, binOp, Op.equal, Op.maxDepth, k1]
      · cases cu; cases lu; simp [yJ] at hb
        cases hk : i.ek <;> simp [hk, jH] at hv
        exact absurd hv.1 hb
      · cases cu; cases lu; simp [yJ] at hb
      · simp only [Sem.run_bind, run_eqGuard_agg w _ t x y n m hg, Result.andThen_ok, run_eql_struct, k1]
    · rename_i i hi
      split at hv
      · rename_i r' gk
        cases hv
        obtain ⟨k1, k2⟩ := iA hi gk cu lu
        rcases k2 with ⟨b, c, rfl, rfl⟩ | ⟨k, n, k', m, rfl, rfl⟩ | ⟨n, m, rfl, rfl⟩ | ⟨n, m, rfl, rfl, hg⟩
        · have AS : (eqGuard .neq t x y (.bool b) (.bool c)).run E.P w = .ok () w := rfl
          simp [AS, binOp, Op.equal, Op.maxDepth, k1]
        · cases cu; cases lu; simp [yJ] at hb
          cases hk : i.ek <;> simp [hk, jH] at gk
          exact absurd gk.1 hb
        · cases cu; cases lu; simp [yJ] at hb
        · simp only [Sem.run_bind, run_eqGuard_agg w _ t x y n m hg, Result.andThen_ok, run_neq_struct, k1]
      · cases hv
    · cases hv
  refine an h (c := .bool r) ?_ (.bool r)
  simp only [Sem.run_bind] at key
  simp only [execOp, ho, Sem.run_bind, key, Result.andThen_ok, Sem.run_pure]
theorem yQ {p : AV} {r : Bool} {x : Value} (hv : HT p = some r) (hx : Rel R w p x) : (QI p = true ∧ ∃ a n c, x = .slice a n c ∧ a.isNone = r) ∨ (QI p = false ∧ ∃ a, x = .pointer a ∧ a.isNone = r) := by
  unfold HT at hv
  split at hv
  · cases hv
    cases hx with
    | gi => exact .inl ⟨rfl, _, _, _, rfl, rfl⟩
    | list _ _ _ hk => exact hk.elim
  · cases hv
    cases hx with
    | list _ _ _ _ => exact .inl ⟨rfl, _, _, _, rfl, rfl⟩
  · cases hv
    cases hx with
    | list _ _ _ _ => exact .inl ⟨rfl, _, _, _, rfl, rfl⟩
  · cases hv
    cases hx with
    | gb _ _ => exact .inl ⟨rfl, _, _, _, rfl, rfl⟩
  · cases hv
    cases hx with
    | cS _ _ _ => exact .inl ⟨rfl, _, _, _, rfl, rfl⟩
  · cases hv
    cases hx
    exact .inr ⟨rfl, _, rfl, rfl⟩
  · cases hv
    cases hx with
    | ptr _ => exact .inr ⟨rfl, _, rfl, rfl⟩
  · cases hv
    cases hx with
    | ep _ => exact .inr ⟨rfl, _, rfl, rfl⟩
  · cases hv
theorem sL {p : AV} {b : Bool} {x : Value} (hv : AE p = some b) (hx : Rel R w p x) : (b = true ∧ x = .slice none 0 0) ∨ (b = false ∧ x = .pointer none) := by
  unfold AE at hv
  split at hv
  · cases hv
    cases hx with
    | gi => exact .inl ⟨rfl, rfl⟩
    | list _ _ _ hk => exact hk.elim
  · cases hv
    cases hx
    exact .inr ⟨rfl, rfl⟩
  · cases hv
theorem H3 {P : Program} {t : TypeId} (h : KF P t = true) : ∃ e, P.underlying t = some (.slice e) := by
  unfold KF at h
  split at h
  · rename_i e he; exact ⟨e, he⟩
  · cases h
theorem H4 {P : Program} {t : TypeId} (h : KG P t = true) : P.underlying t = some (.pointer (P.pointee t)) := by
  unfold KG at h
  split at h
  · rename_i e he
    unfold Program.pointee
    rw [he]
  · cases h
theorem DD (h : aJ E R w β s a) (op : BinOp) (t u : TypeId) (x y : Operand) (ho : o.op = .binOp op t x y u) {p q : AV} {r : Bool} (hx : ba E s.ae x = .v p) (hy : ba E s.ae y = .v q) (hv : KH E op t p q = some r) :
    bj E R w β s a o (s.put o.dst (.v (.bool r))) := by
  have rx := aE h x
  rw [hx] at rx
  have ry := aE h y
  rw [hy] at ry
  have cu : Rel R w p (a.eval x) := rx
  have lu : Rel R w q (a.eval y) := ry
  have key : (do eqGuard op t x y (a.eval x) (a.eval y); binOp op t (a.eval x) (a.eval y) : Sem Value).run E.P w = .ok (.bool r) w := by
    generalize dw : a.eval x = xv at cu
    generalize Oa : a.eval y = yv at lu
    have two : ∀ {r0 : Bool}, HT p = some r0 → qE E.P t p q = true → (∃ a n c e, xv = .slice a n c ∧ yv = .slice none 0 0 ∧ a.isNone = r0 ∧ E.P.underlying t = some (.slice e)) ∨ (∃ a, xv = .pointer a ∧ yv = .pointer none ∧ a.isNone = r0 ∧ E.P.underlying t = some (.pointer (E.P.pointee t))) := by
      intro r0 h1 h2
      unfold qE at h2
      split at h2
      · rename_i hb
        rw [Bool.and_eq_true] at h2
        obtain ⟨e, he⟩ := H3 h2.2
        rcases sL hb lu with ⟨_, rfl⟩ | ⟨hf, _⟩
        · rcases yQ h1 cu with ⟨_, a, n, c, rfl, hn⟩ | ⟨hs, _⟩
          · exact .inl ⟨a, n, c, e, rfl, rfl, hn, he⟩
          · rw [h2.1] at hs; cases hs
        · cases hf
      · rename_i hb
        rw [Bool.and_eq_true] at h2
        have hp := H4 h2.2
        rcases sL hb lu with ⟨hf, _⟩ | ⟨_, rfl⟩
        · cases hf
        · rcases yQ h1 cu with ⟨hs, _⟩ | ⟨_, a, rfl, hn⟩
          · rw [hs] at h2; cases h2.1
          · exact .inr ⟨a, rfl, rfl, hn, hp⟩
      · cases h2
    unfold KH at hv
    split at hv
    · rename_i r0 h1
      obtain ⟨h2, h3⟩ : qE E.P t p q = true ∧ _ := by
        cases h2 : qE E.P t p q with
        | false => rw [h2] at hv; cases hv
        | true => rw [h2] at hv; exact ⟨rfl, Option.some.inj hv⟩
      subst h3
      rcases two h1 h2 with ⟨a, n, c, e, rfl, rfl, hn, he⟩ | ⟨a, rfl, rfl, hn, hp⟩
      · have hg : (eqGuard .eql t x y (.slice a n c) (.slice none 0 0)).run E.P w = .ok () w := rfl
        simp only [Sem.run_bind, hg, Result.andThen_ok, Lib.run_eql_slice_nil w t e a n c 0 0 he, hn]
      · have hg : (eqGuard .eql t x y (.pointer a) (.pointer none)).run E.P w = .ok () w := rfl
        simp only [Sem.run_bind, hg, Result.andThen_ok, run_eql_pointer_nil w t a hp, hn]
    · rename_i r0 h1
      obtain ⟨h2, h3⟩ : qE E.P t p q = true ∧ _ := by
        cases h2 : qE E.P t p q with
        | false => rw [h2] at hv; cases hv
        | true => rw [h2] at hv; exact ⟨rfl, Option.some.inj hv⟩
      subst h3
      rcases two h1 h2 with ⟨a, n, c, e, rfl, rfl, hn, he⟩ | ⟨a, rfl, rfl, hn, hp⟩
      · have hg : (eqGuard .neq t x y (.slice a n c) (.slice none 0 0)).run E.P w = .ok () w := rfl
        simp only [Sem.run_bind, hg, Result.andThen_ok, run_neq_slice_nil w t e a n c he, hn]
      · have hg : (eqGuard .neq t x y (.pointer a) (.pointer none)).run E.P w = .ok () w := rfl
        simp only [Sem.run_bind, hg, Result.andThen_ok, run_neq_pointer_nil w t a hp, hn]
    · cases hv
  refine an h (c := .bool r) ?_ (.bool r)
  simp only [Sem.run_bind] at key
  simp only [execOp, ho, Sem.run_bind, key, Result.andThen_ok, Sem.run_pure]
theorem E5 (h : aJ E R w β s a) (t : TypeId) (x : Operand) (ho : o.op = .unOp .not t x) {b : Bool} (hx : ba E s.ae x = .v (.bool b)) : bj E R w β s a o (s.put o.dst (.v (.bool (!b)))) := by
  have rx := aE h x
  rw [hx] at rx
  have cu : Rel R w (.bool b) (a.eval x) := rx
  generalize dw : a.eval x = xv at cu
  cases cu
  refine an h (c := .bool (!b)) ?_ (Rel.bool _)
  simp [execOp, ho, Op.unary, dw]
theorem E6 (h : aJ E R w β s a) (t : TypeId) (x : Operand) (ho : o.op = .unOp .neg t x) {k : IntKind} {n : Int} (hx : ba E s.ae x = .v (.int k n)) : bj E R w β s a o (s.put o.dst (.v (.int k (k.wrap (0 - n))))) := by
  have rx := aE h x
  rw [hx] at rx
  have cu : Rel R w (.int k n) (a.eval x) := rx
  generalize dw : a.eval x = xv at cu
  cases cu
  refine an h (c := .int k (k.wrap (0 - n))) ?_ (Rel.int _ _)
  simp [execOp, ho, Op.unary, Op.intArith, dw]
theorem vW : ∀ (us : List Value) (off j0 : Nat) (cells : Array Value), off + j0 + us.length ≤ cells.size →
    ((us.zipIdx j0).foldl (fun (cs : Array Value) (p : Value × Nat) => cs.setIfInBounds (off + p.2) p.1) cells).toList = cells.toList.take (off + j0) ++ us ++ cells.toList.drop (off + j0 + us.length)
  | [], off, j0, cells, _ => by simp
  | u :: us, off, j0, cells, h => by
    have bR : off + j0 < cells.size := by simp at h; omega
    have ih := vW us off (j0 + 1) (cells.setIfInBounds (off + j0) u) (by simp at h ⊢; omega)
    simp only [List.zipIdx_cons, List.foldl_cons]
    rw [ih]
    have e := list_seg_step cells.toList (off + j0) u us (by simp at h ⊢; omega)
    simpa [Array.toList_setIfInBounds, Nat.add_assoc] using e
theorem lD (place : Nat → Option (Nat × Nat)) : ∀ {ps : List (Nat × AV)} {qs : List (Nat × Value)} {cells sM : List AV} {vs : List Value},
    ay R w (ps.map (·.2)) (qs.map (·.2)) → ps.map (·.1) = qs.map (·.1) → ay R w cells vs → (∀ x ∈ vs, x.oneCell' = true) → qD place cells ps = some sM →
    ∃ us, Instr.fill place ⟨vs⟩ qs = some ⟨us⟩ ∧ ay R w sM us ∧ ∀ x ∈ us, x.oneCell' = true
  | [], qs, cells, sM, vs, h1, h2, h3, h4, h5 => by
    have : qs = [] := by simpa using h2.symm
    subst this
    simp [qD] at h5
    subst h5
    exact ⟨vs, rfl, h3, h4⟩
  | (i, v) :: ps, [], cells, sM, vs, h1, h2, h3, h4, h5 => by simp at h2
  | (i, v) :: ps, (j, c) :: qs, cells, sM, vs, h1, h2, h3, h4, h5 => by
    simp only [List.map_cons, List.cons.injEq] at h2
    obtain ⟨rfl, h2⟩ := h2
    cases h1 with
    | cons hr h1 =>
    unfold qD at h5
    split at h5
    · cases h5
    · rename_i off sz hp
      split at h5
      · rename_i dl
        simp only [Bool.and_eq_true] at dl
        obtain ⟨⟨Dz, hlen⟩, hle⟩ := dl
        have hlen := Nat.eq_of_beq_eq_true hlen
        have hle := Nat.le_of_ble_eq_true hle
        obtain ⟨c1, c2⟩ := Rel.cells hr Dz
        have yB : c.cells.toList.length = sz := by rw [← c1.length]; exact hlen
        have hb : off + v.cells.length ≤ cells.length := by omega
        obtain ⟨us, u1, u2, u3⟩ := lD place h1 h2 (h3.bu c1 hb) (gj h4 c2) h5
        refine ⟨us, ?_, u2, u3⟩
        have cU : c.cells.size = sz := by simpa using yB
        have Ao : vs.length = cells.length := h3.length.symm
        have OL : c.cells.zipIdx.foldl (fun (cs : Array Value) (x : Value × Nat) => cs.setIfInBounds (off + x.2) x.1) ⟨vs⟩ = ⟨vs.take off ++ c.cells.toList ++ vs.drop (off + c.cells.toList.length)⟩ := by
          apply Array.ext'
          rw [← Array.foldl_toList, Array.toList_zipIdx]
          have := vW c.cells.toList off 0 ⟨vs⟩ (by simp only [List.size_toArray]; omega)
          simpa using this
        have bD : (c.cells.size ≠ sz || decide (off + c.cells.size > (⟨vs⟩ : Array Value).size)) = false := by
          have HE : decide (c.cells.size ≠ sz) = false := by simp [cU]
          have QL : decide (off + c.cells.size > (⟨vs⟩ : Array Value).size) = false := by
            rw [decide_eq_false_iff_not, cU]
            show ¬ off + sz > vs.length
            omega
          rw [HE, QL]
          rfl
        unfold Instr.fill
        simp only [hp, bD, Bool.false_eq_true, if_false]
        rw [← u1]
        exact congrArg (fun z => Instr.fill place z qs) OL
      · cases h5
theorem r8 (h : aJ E R w β s a) : ∀ {l : List (Nat × Operand)} {ps : List (Nat × AV)}, HB E s.ae l = some ps →
    ay R w (ps.map (·.2)) ((l.map fun x => (x.1, a.eval x.2)).map (·.2)) ∧ ps.map (·.1) = (l.map fun x => (x.1, a.eval x.2)).map (·.1)
  | [], ps, hl => by simp [HB] at hl; subst hl; exact ⟨.nil, rfl⟩
  | (i, x) :: l, ps, hl => by
    unfold HB at hl
    split at hl
    · rename_i v r h1 h2
      cases hl
      have hx := aE h x
      rw [h1] at hx
      obtain ⟨g1, g2⟩ := r8 h h2
      exact ⟨.cons hx g1, by simpa using g2⟩
    · cases hl
theorem AT (h : aJ E R w β s a) (t : TypeId) (parts : Array (Nat × Operand)) (ho : o.op = .build t parts) {v : AV} (hv : ku E s t parts.toList = some v) :
    bj E R w β s a o (s.put o.dst (.v v)) := by
  unfold ku at hv
  split at hv
  · rename_i i ps hi EF
    split at hv
    · rename_i z hz
      split at hv
      · rename_i cs mS
        split at hv
        · rename_i xe
          cases hv
          simp only [Bool.and_eq_true] at xe
          obtain ⟨xe, j9⟩ := xe
          obtain ⟨eh, u, e1, e2, e3, e4, e5, e6⟩ := bE E hi
          rw [hz] at e6
          obtain ⟨zc, jV, yC⟩ := cj e6
          obtain ⟨p1, p2⟩ := r8 h EF
          obtain ⟨c1, c2⟩ := Rel.cells (yC R w) j9
          have KN : (parts.map fun (x : Nat × Operand) => (x.1, a.eval x.2)).toList = parts.toList.map fun x => (x.1, a.eval x.2) := by simp
          have key : ∃ us, E.P.built t (parts.toList.map fun x => (x.1, a.eval x.2)) = some ⟨us⟩ ∧ ay R w cs us ∧ ∀ x ∈ us, x.oneCell' = true := by
            cases u <;> simp only [gS] at e4 <;> first | (rw [xe] at e4; cases e4; done) | skip
            · rename_i n e
              simp only [mP] at e5
              split at e5
              · rename_i ie ue f1 f2
                injection e5 with e5
                rw [← e5] at mS
                obtain ⟨us, u1, u2, u3⟩ := lD (R := R) (w := w) _ p1 p2 c1 c2 mS
                refine ⟨us, ?_, u2, u3⟩
                unfold Program.built
                simp only [e1, e2, jV, f1]
                rw [← u1]
                rfl
              · cases e5
            · rename_i fs
              simp only [mP] at e5
              split at e5
              · rename_i l hl
                injection e5 with e5
                rw [← e5] at mS
                obtain ⟨us, u1, u2, u3⟩ := lD (R := R) (w := w) _ p1 p2 c1 c2 mS
                refine ⟨us, ?_, u2, u3⟩
                unfold Program.built
                simp only [e1, e2, jV, kY hl]
                rw [← u1]
                have QM : placeOf (.st l) = fun j => (l.map fun x => (x.1, x.2.1)).toArray[j]? := by
                  funext j
                  simp only [placeOf, aD, List.getElem?_toArray, List.getElem?_map]
                  cases l[j]? <;> rfl
                rw [QM]
              · cases e5
          obtain ⟨us, u1, u2, u3⟩ := key
          refine an h (c := .agg ⟨us⟩) ?_ (Rel.agg u2 u3)
          have aU := run_build (P := E.P) w t (parts.map fun (x : Nat × Operand) => (x.1, a.eval x.2)) ⟨us⟩ (by rw [KN]; exact u1)
          simp only [execOp, ho, Sem.run_bind, aU, Result.andThen_ok, Sem.run_pure]
        · cases hv
      · cases hv
    · cases hv
  · cases hv
end ops
end Go.Am
namespace Go.Am
open Go
theorem bM (l r : List AV) : ap (l ++ r) = ap l ++ ap r := by
  induction l with
  | nil => rfl
  | cons e l ih => simp [ap, ih]
theorem cb {sz : Nat} {es : List AV} (h : dZ sz es) : (ap es).length = es.length * sz := by
  induction es with
  | nil => simp [ap]
  | cons e es ih =>
    have h1 := (h e (by simp)).1
    have := ih (fun x hx => h x (by simp [hx]))
    simp only [ap, List.length_append, this, h1, List.length_cons, Nat.add_mul]
    omega
section rel
variable {R : af} {w : World}
theorem iB {b sz : Nat} : ∀ {es : List AV} {o : Nat}, dZ sz es → du R w b o (ap es) → eF R w b o sz es
  | [], _, _, _ => .nil
  | e :: es, o, h, hc => by
    obtain ⟨h1, h2, h3⟩ := h e (by simp)
    obtain ⟨vs, k1, k2, k3, k4⟩ := hc.get
    have hd := hc.drop sz
    have OM : (ap (e :: es)).drop sz = ap es := by simp only [ap]; rw [← h1, List.drop_left]
    have E7 : (ap (e :: es)).take sz = e.cells := by simp only [ap]; rw [← h1, List.take_left]
    rw [OM] at hd
    refine .cons h1 h2 h3 ?_ (iB (fun x hx => h x (by simp [hx])) hd)
    have kt := k1.take sz
    rw [E7] at kt
    refine .make kt (fun v hv => k2 v (List.mem_of_mem_take hv)) (fun j v hv => k3 j v ?_) (fun j hj => k4 j ?_)
    · rw [List.getElem?_take] at hv
      split at hv
      · exact hv
      · cases hv
    · simp only [ap, List.length_append]
      omega
theorem sN {b sz : Nat} : ∀ {es : List AV} {o : Nat}, eF R w b o sz es → dZ sz es ∧ ∃ vs, ay R w (ap es) vs ∧ (∀ v ∈ vs, v.oneCell' = true) ∧ (∀ j v, vs[j]? = some v → w.cell? ⟨b, o + j, none⟩ = some v) ∧ ∀ j, j < es.length * sz → R.I b (o + j)
  | [], o, _ => ⟨fun e he => by simp at he, [], .nil, by simp, by simp, by simp⟩
  | e :: es, o, h => by
    cases h with
    | cons hl ht hk hc t =>
      obtain ⟨g0, vs, g1, g2, g3, g4⟩ := sN t
      obtain ⟨us, f1, f2, f3, f4⟩ := hc.get
      have hlen : us.length = sz := by rw [← f1.length, hl]
      refine ⟨fun x hx => ?_, us ++ vs, f1.append g1, fun v hv => ?_, fun j v hv => ?_, fun j hj => ?_⟩
      · rcases List.mem_cons.1 hx with rfl | hx
        · exact ⟨hl, ht, hk⟩
        · exact g0 x hx
      · rcases List.mem_append.1 hv with hv | hv
        · exact f2 v hv
        · exact g2 v hv
      · by_cases hj : j < sz
        · rw [List.getElem?_append_left (by omega)] at hv
          exact f3 j v hv
        · rw [List.getElem?_append_right (by omega), hlen] at hv
          have := g3 _ v hv
          rwa [show o + sz + (j - sz) = o + j by omega] at this
      · by_cases Ap : j < sz
        · exact f4 j (by omega)
        · have := g4 (j - sz) (by simp only [List.length_cons, Nat.add_mul] at hj; omega)
          rwa [show o + sz + (j - sz) = o + j by omega] at this
theorem pW {b sz : Nat} : ∀ (n : Nat) {es : List AV} {o : Nat}, eF R w b o sz es → eF R w b (o + n * sz) sz (es.drop n)
  | 0, es, o, h => by simpa using h
  | n + 1, [], o, h => by simpa using eF.nil
  | n + 1, e :: es, o, h => by
    cases h with
    | cons hl ht hk hc t =>
      have := pW n t
      rw [show o + sz + n * sz = o + (n + 1) * sz by rw [Nat.add_mul]; omega] at this
      simpa using this
theorem pX {b sz : Nat} : ∀ (n : Nat) {es : List AV} {o : Nat}, eF R w b o sz es → eF R w b o sz (es.take n)
  | 0, es, o, h => by simpa using eF.nil
  | n + 1, [], o, h => by simpa using eF.nil
  | n + 1, e :: es, o, h => by
    cases h with
    | cons hl ht hk hc t => simpa using eF.cons hl ht hk hc (pX n t)
end rel
theorem da {sz n : Nat} {z : AV} (h1 : z.cells.length = sz) (h2 : z.aH = true) (h3 : z.closed = true) : dZ sz (List.replicate n z) := fun e he => by
  rw [List.mem_replicate] at he
  rw [he.2]
  exact ⟨h1, h2, h3⟩
theorem sO {sz : Nat} : ∀ {es : List AV} {i : Nat} {v : AV}, dZ sz es → i < es.length → v.cells.length = sz → ap (aq es i v) = bu (ap es) (i * sz) v.cells
  | [], i, v, _, h, _ => by simp at h
  | e :: es, 0, v, h, _, hv => by
    have h1 := (h e (by simp)).1
    simp only [aq, ap, Nat.zero_mul]
    rw [cT _ 0 _ (by simp; omega)]
    simp only [List.take_zero, List.nil_append, Nat.zero_add]
    rw [hv, ← h1, List.drop_left]
  | e :: es, i + 1, v, h, hi, hv => by
    have h1 := (h e (by simp)).1
    have yR : dZ sz es := fun x hx => h x (by simp [hx])
    have ih := sO (i := i) (v := v) yR (by simpa using hi) hv
    have bR : i < es.length := by simpa using hi
    have hle : i * sz + sz ≤ es.length * sz := by rw [← Nat.succ_mul]; exact Nat.mul_le_mul_right _ bR
    have hl := cb yR
    simp only [aq, ap]
    have e1 : (i + 1) * sz = e.cells.length + i * sz := by rw [h1, Nat.succ_mul]; omega
    have e2 : List.take (e.cells.length + i * sz) e.cells = e.cells := List.take_of_length_le (by omega)
    rw [ih, cT _ _ _ (by omega), e1, cT _ _ _ (by simp only [List.length_append]; omega)]
    rw [List.take_append, e2, Nat.add_assoc, List.drop_append, List.drop_of_length_le (by omega : e.cells.length ≤ e.cells.length + (i * sz + v.cells.length))]
    simp [Nat.add_sub_cancel_left]
theorem vX {sz : Nat} {es : List AV} {i : Nat} {v : AV} (h : dZ sz es) (h1 : v.cells.length = sz) (h2 : v.aH = true) (h3 : v.closed = true) : dZ sz (aq es i v) := fun e he => by
  rw [de] at he
  rcases List.mem_or_eq_of_mem_set he with he | rfl
  · exact h e he
  · exact ⟨h1, h2, h3⟩
theorem qJ {sz : Nat} : ∀ {ps : List (Nat × AV)} {es es' : List AV}, yK sz es ps = some es' → dZ sz es →
    qD (fun i => some (i * sz, sz)) (ap es) ps = some (ap es') ∧ dZ sz es' ∧ es'.length = es.length
  | [], es, es', h, hk => by simp [yK] at h; subst h; exact ⟨rfl, hk, rfl⟩
  | (i, v) :: ps, es, es', h, hk => by
    unfold yK at h
    split at h
    · rename_i hc
      simp only [Bool.and_eq_true] at hc
      obtain ⟨⟨⟨hn, hl⟩, hi⟩, yD⟩ := hc
      have TS := Nat.eq_of_beq_eq_true hl
      have nw := Nat.le_of_ble_eq_true hi
      obtain ⟨g1, g2, g3⟩ := qJ h (vX hk TS hn yD)
      refine ⟨?_, g2, by simpa using g3⟩
      unfold qD
      have hle : Nat.ble (i * sz + sz) (ap es).length = true := by
        apply Nat.ble_eq_true_of_le
        rw [cb hk, ← Nat.succ_mul]
        exact Nat.mul_le_mul_right _ nw
      simp only [hn, hl, hle, Bool.and_self, if_true]
      rw [← sO hk (by omega) TS]
      exact g1
    · cases h
section ops
variable {E : Env} {R : af} {w : World} {β : Nat → Nat} {s : St} {a : Act} {o : Oper}
def af.Ob (R : af) (b : Nat) : af := ⟨fun b' o => R.I b' o ∨ b' = b, R.obj⟩
theorem xi (wf : ∀ b o, R.I b o → b < w.heap.size) (x : Obj) : Ext R w (R.Ob w.heap.size) (w.alloc x) :=
  ⟨fun _ _ h => .inl h, fun b o h => bl (heap_alloc_old w x b (wf b o h)) o, fun _ ro h => ⟨ro, h, bF.refl ro⟩, .old fun b hb => heap_alloc_old w x b hb⟩
theorem aJ.Ob (h : aJ E R w β s a) (x : Obj) : aJ E (R.Ob w.heap.size) (w.alloc x) β s a :=
  h.bL (xi h.g.wf x) rfl (fun b hb => heap_alloc_old w x b (h.cA hb)) (fun b o hb hi => by
    rcases hi with hi | hi
    · exact hi
    · have := h.cA hb
      omega) (fun b o hi => by
    rcases hi with hi | hi
    · have := h.g.wf b o hi
      simp
      omega
    · simp
      omega)
theorem E9 (h : aJ E R w β s a) (x : Obj) : Step R w β s.boxes (R.Ob w.heap.size) (w.alloc x) β s.boxes :=
  ⟨xi h.g.wf x, rfl, rfl, rfl, by simp, fun b hb _ => heap_alloc_old w x b hb, fun _ _ ho => ho, fun b o hi hb _ => by
    rcases hi with hi | hi
    · exact hi
    · omega⟩
theorem lE (z : Array Value) : ∀ (n : Nat), (((Array.range (n * z.size)).map fun i => z[i % z.size]!)).toList = (List.replicate n z.toList).flatten
  | 0 => by simp
  | n + 1 => by
    have ih := lE z n
    simp only [Array.toList_map, Array.toList_range] at ih ⊢
    rw [Nat.add_mul, Nat.one_mul, List.range_add, List.map_append, ih, List.replicate_succ', List.flatten_append]
    congr 1
    simp only [List.map_map, List.flatten_cons, List.flatten_nil, List.append_nil]
    apply List.ext_getElem?
    intro i
    by_cases hi : i < z.size
    · simp only [List.getElem?_map, List.getElem?_range hi, Option.map_some, Function.comp_apply]
      rw [Nat.mul_comm n, Nat.mul_add_mod, Nat.mod_eq_of_lt hi]
      simp [hi]
    · rw [List.getElem?_eq_none (by simp; omega), List.getElem?_eq_none (by simp; omega)]
theorem ka {z : AV} {c : Value} (hr : Rel R w z c) (hn : z.aH = true) : ∀ (n : Nat), ay R w (ap (List.replicate n z)) (List.replicate n c.cells.toList).flatten ∧ ∀ v ∈ (List.replicate n c.cells.toList).flatten, v.oneCell' = true
  | 0 => by simp [ap]; exact .nil
  | n + 1 => by
    obtain ⟨c1, c2⟩ := Rel.cells hr hn
    obtain ⟨h1, h2⟩ := ka hr hn n
    refine ⟨?_, fun v hv => ?_⟩
    · simpa [List.replicate_succ, ap] using c1.append h1
    · simp only [List.replicate_succ, List.flatten_cons, List.mem_append] at hv
      rcases hv with hv | hv
      · exact c2 v hv
      · exact h2 v hv
theorem pY : ∀ {ps : List (Nat × AV)} {us : List Value}, ay R w (ps.map (·.2)) us → ay R w ((vJ ps).map (·.2)) us
  | [], _, h => h
  | (_, _) :: _, _, .cons h t => .cons h.eX (pY t)
theorem pZ : ∀ (ps : List (Nat × AV)), (vJ ps).map (·.1) = ps.map (·.1)
  | [] => rfl
  | (i, v) :: l => by simp [vJ, pZ l]
theorem fQ (h : aJ E R w β s a) (t : TypeId) (len : Nat) (parts : Array (Nat × Operand)) (ho : o.op = .buildSlice t len parts) {v : AV} (hv : bN E s t len parts.toList = some v) :
    ∃ es esz us elem, v = .list .full esz es ∧ (execOp a.eval o).run E.P w = .ok (.value (.slice (some ⟨w.heap.size, 0, none⟩) len len)) (w.alloc (.cells ⟨us⟩ elem)) ∧ dZ esz es ∧ es.length = len ∧ ay R w (ap es) us ∧ (∀ x ∈ us, x.oneCell' = true) ∧ ∃ i ag kZ z, E.ti t = some i ∧ i.k = .sl elem esz ag kZ z := by
  unfold bN at hv
  split at hv
  · rename_i i ps hi EF
    split at hv
    · rename_i elem esz ag kZ z hk
      split at hv
      · rename_i hc
        simp only [Bool.and_eq_true] at hc
        obtain ⟨⟨⟨⟨AU, ON⟩, OO⟩, hz4⟩, hz5⟩ := hc
        have AU := Nat.eq_of_beq_eq_true AU
        have ON := Nat.le_of_ble_eq_true ON
        have OO := Nat.le_of_ble_eq_true OO
        split at hv
        · rename_i es yR
          cases hv
          obtain ⟨eh, u, e1, e2, e3, e4, e5, e6⟩ := bE E hi
          rw [hk] at e5
          obtain ⟨ie, ue, rfl, f1, f2, f3, f4, f5, f6⟩ := ca e5
          obtain ⟨zc, jV, yC⟩ := cj f6
          have J1 := yC R w
          obtain ⟨c1, c2⟩ := Rel.cells J1 hz4
          have mS : zc.cells.size = esz := by rw [← AU, c1.length]; simp
          obtain ⟨p1, p2⟩ := r8 h EF
          obtain ⟨z1, z2⟩ := ka J1 hz4 len
          obtain ⟨g1, g2, g3⟩ := qJ yR (da AU hz4 hz5)
          obtain ⟨us, u1, u2, u3⟩ := lD (R := R) (w := w) _ (pY p1) ((pZ ps).trans p2) z1 z2 g1
          have KN : (parts.map fun (x : Nat × Operand) => (x.1, a.eval x.2)).toList = parts.toList.map fun x => (x.1, a.eval x.2) := by simp
          have ik : ((Array.range (len * esz)).map fun i => zc.cells[i % zc.cells.size]!) = ⟨(List.replicate len zc.cells.toList).flatten⟩ := by
            apply Array.ext'
            rw [← mS]
            exact lE zc.cells len
          have hlen : es.length = len := by simpa using g3
          have aU : (Instr.buildSlice t len (parts.map fun (x : Nat × Operand) => (x.1, a.eval x.2))).run E.P w = .ok (.slice (some ⟨w.heap.size, 0, none⟩) len len) (w.alloc (.cells ⟨us⟩ elem)) := by
            have HF : ¬ len * esz > 2 ^ 24 := by omega
            by_cases h0 : len * esz = 0
            · have sa : len = 0 := by
                rcases Nat.mul_eq_zero.1 h0 with h0 | h0 <;> omega
              subst sa
              have RG : Instr.fill (fun i => some (i * esz, esz)) #[] (parts.toList.map fun x => (x.1, a.eval x.2)) = some ⟨us⟩ := by simpa using u1
              simp only [Instr.buildSlice, Sem.run_bind, run_underlying e2, Result.andThen_ok, run_sizeOf w f1, f2]
              simp only [Nat.zero_mul, gt_iff_lt, Nat.not_lt_zero, if_false, if_true, Sem.run_bind, Sem.run_pure, Result.andThen_ok, KN]
              have yS : ∀ f : Nat → Value, Array.map f (Array.range 0) = #[] := fun f => by simp
              simp only [yS, RG, newRow, Sem.run_bind, run_newObj, Result.andThen_ok, Sem.run_pure]
              rfl
            · simp only [Instr.buildSlice, Sem.run_bind, run_underlying e2, Result.andThen_ok, run_sizeOf w f1, f2]
              rw [if_neg HF, if_neg h0]
              simp only [Sem.run_bind, Sem.run_pure, Result.andThen_ok, fa w f1 jV, KN, ik, u1, newRow, run_newObj]
              rfl
          exact ⟨es, esz, us, elem, rfl, by simp only [execOp, ho, Sem.run_bind, aU, Result.andThen_ok, Sem.run_pure], g2, hlen, u2, u3, i, ag, kZ, _, hi, hk⟩
        · cases hv
      · cases hv
    · cases hv
  · cases hv
theorem rL (h : aJ E R w β s a) (t : TypeId) (len : Nat) (parts : Array (Nat × Operand)) (ho : o.op = .buildSlice t len parts) {cs : List AV} (hv : ig E s t len parts.toList = some cs) :
    ∃ esz us elem, (execOp a.eval o).run E.P w = .ok (.value (.slice (some ⟨w.heap.size, 0, none⟩) len len)) (w.alloc (.cells ⟨us⟩ elem)) ∧ ay R w cs us ∧ (∀ x ∈ us, x.oneCell' = true) ∧ ∃ i ag kZ z, E.ti t = some i ∧ i.k = .sl elem esz ag kZ z := by
  unfold ig at hv
  split at hv
  · rename_i i ps hi EF
    split at hv
    · rename_i elem esz ag kZ z hk
      split at hv
      · rename_i hc
        simp only [Bool.and_eq_true] at hc
        obtain ⟨⟨⟨AU, ON⟩, OO⟩, hz4⟩ := hc
        have AU := Nat.eq_of_beq_eq_true AU
        have ON := Nat.le_of_ble_eq_true ON
        have OO := Nat.le_of_ble_eq_true OO
        · have g1 := hv
          obtain ⟨eh, u, e1, e2, e3, e4, e5, e6⟩ := bE E hi
          rw [hk] at e5
          obtain ⟨ie, ue, rfl, f1, f2, f3, f4, f5, f6⟩ := ca e5
          obtain ⟨zc, jV, yC⟩ := cj f6
          have J1 := yC R w
          obtain ⟨c1, c2⟩ := Rel.cells J1 hz4
          have mS : zc.cells.size = esz := by rw [← AU, c1.length]; simp
          obtain ⟨p1, p2⟩ := r8 h EF
          obtain ⟨z1, z2⟩ := ka J1 hz4 len
          obtain ⟨us, u1, u2, u3⟩ := lD (R := R) (w := w) _ (pY p1) ((pZ ps).trans p2) z1 z2 g1
          have KN : (parts.map fun (x : Nat × Operand) => (x.1, a.eval x.2)).toList = parts.toList.map fun x => (x.1, a.eval x.2) := by simp
          have ik : ((Array.range (len * esz)).map fun i => zc.cells[i % zc.cells.size]!) = ⟨(List.replicate len zc.cells.toList).flatten⟩ := by
            apply Array.ext'
            rw [← mS]
            exact lE zc.cells len
          have aU : (Instr.buildSlice t len (parts.map fun (x : Nat × Operand) => (x.1, a.eval x.2))).run E.P w = .ok (.slice (some ⟨w.heap.size, 0, none⟩) len len) (w.alloc (.cells ⟨us⟩ elem)) := by
            have HF : ¬ len * esz > 2 ^ 24 := by omega
            by_cases h0 : len * esz = 0
            · have sa : len = 0 := by
                rcases Nat.mul_eq_zero.1 h0 with h0 | h0 <;> omega
              subst sa
              have RG : Instr.fill (fun i => some (i * esz, esz)) #[] (parts.toList.map fun x => (x.1, a.eval x.2)) = some ⟨us⟩ := by simpa using u1
              simp only [Instr.buildSlice, Sem.run_bind, run_underlying e2, Result.andThen_ok, run_sizeOf w f1, f2]
              simp only [Nat.zero_mul, gt_iff_lt, Nat.not_lt_zero, if_false, if_true, Sem.run_bind, Sem.run_pure, Result.andThen_ok, KN]
              have yS : ∀ f : Nat → Value, Array.map f (Array.range 0) = #[] := fun f => by simp
              simp only [yS, RG, newRow, Sem.run_bind, run_newObj, Result.andThen_ok, Sem.run_pure]
              rfl
            · simp only [Instr.buildSlice, Sem.run_bind, run_underlying e2, Result.andThen_ok, run_sizeOf w f1, f2]
              rw [if_neg HF, if_neg h0]
              simp only [Sem.run_bind, Sem.run_pure, Result.andThen_ok, fa w f1 jV, KN, ik, u1, newRow, run_newObj]
              rfl
          exact ⟨esz, us, elem, by simp only [execOp, ho, Sem.run_bind, aU, Result.andThen_ok, Sem.run_pure], u2, u3, i, ag, kZ, _, hi, hk⟩
      · cases hv
    · cases hv
  · cases hv
theorem rM (h : aJ E R w β s a) (t : TypeId) (len : Nat) (parts : Array (Nat × Operand)) (ho : o.op = .buildSlice t len parts) {v : AV} (hv : bN E s t len parts.toList = some v) :
    bj E R w β s a o (s.put o.dst (.v v)) := by
  obtain ⟨es, esz, us, elem, rfl, aU, g2, hlen, u2, u3, _⟩ := fQ h t len parts ho hv
  have e := xi (R := R) (w := w) h.g.wf (.cells ⟨us⟩ elem)
  refine ⟨_, .slice (some ⟨w.heap.size, 0, none⟩) len len, _, R.Ob w.heap.size, β, aU, .inl rfl, (h.Ob (.cells ⟨us⟩ elem)).put o.dst ?_, by rw [aL]; exact E9 h _⟩
  refine Rel.list (iB g2 (du.make (u2.mono e) u3 (fun j x hx => ?_) (fun j _ => .inr rfl))) hlen.symm (Nat.le_refl _) rfl
  rw [gF (heap_alloc_new w _)]
  simpa using hx
theorem qa (h : aJ E R w β s a) (t : TypeId) (len : Nat) (parts : Array (Nat × Operand)) (ho : o.op = .buildSlice t len parts) {cs : List AV} (hv : ig E s t len parts.toList = some cs) {i : TI} (hi : E.ti t = some i) {el : TypeId} {esz eb : Nat} {ag : Bool} {z : Option AV} (hk : i.k = .sl el esz ag eb z) :
    bj E R w β s a o ((s.cI (.row cs el)).put o.dst (.v (.gb s.G.length 0 esz len len))) := by
  obtain ⟨KO, us, elem, aU, u2, u3, i', RH, Oc, z', nw, eD⟩ := rL h t len parts ho hv
  rw [hi] at nw
  cases nw
  rw [hk] at eD
  cases eD
  have e := eK (R := R) (w := w) h.g.wf (.cells ⟨us⟩ el) (.bh w.heap.size)
  have eI : eH (R.add (.bh w.heap.size)) (w.alloc (.cells ⟨us⟩ el)) (.row cs el) (.bh w.heap.size) :=
    ⟨_, heap_alloc_new w _, u2.mono e, u3, fun o' hi => by have := h.g.wf _ _ hi; omega⟩
  exact ⟨_, _, _, R.add (.bh w.heap.size), β, aU, .inl rfl, (h.iJ _ _ _ (by exact fun _ h => h) eI).put o.dst (x := .v (.gb s.G.length 0 esz len len)) (Rel.gb (eL h _) (Nat.le_refl _)), by rw [aL]; exact cp h _ _ (by exact fun _ h => h)⟩
theorem qb (h : aJ E R w β s a) (t : TypeId) (len : Nat) (parts : Array (Nat × Operand)) (ho : o.op = .buildSlice t len parts) {k : LK} {esz : Nat} {es : List AV} (hv : bN E s t len parts.toList = some (.list k esz es)) {i : TI} (hi : E.ti t = some i) {el : TypeId} {aQ eb : Nat} {ag : Bool} {z : Option AV} (hk : i.k = .sl el aQ ag eb z) :
    bj E R w β s a o ((s.cI (.row (ap es) el)).put o.dst (.v (.gb s.G.length 0 esz len len))) := by
  obtain ⟨es', KO, us, elem, OP, aU, g2, hlen, u2, u3, i', RH, Oc, z', nw, eD⟩ := fQ h t len parts ho hv
  cases OP
  rw [hi] at nw
  cases nw
  rw [hk] at eD
  cases eD
  have e := eK (R := R) (w := w) h.g.wf (.cells ⟨us⟩ el) (.bh w.heap.size)
  have eI : eH (R.add (.bh w.heap.size)) (w.alloc (.cells ⟨us⟩ el)) (.row (ap es) el) (.bh w.heap.size) :=
    ⟨_, heap_alloc_new w _, u2.mono e, u3, fun o' hi => by have := h.g.wf _ _ hi; omega⟩
  exact ⟨_, _, _, R.add (.bh w.heap.size), β, aU, .inl rfl, (h.iJ _ _ _ (by exact fun _ h => h) eI).put o.dst (x := .v (.gb s.G.length 0 esz len len)) (Rel.gb (eL h _) (Nat.le_refl _)), by rw [aL]; exact cp h _ _ (by exact fun _ h => h)⟩
end ops
end Go.Am
