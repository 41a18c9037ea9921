/- The abstract machine: what it does is what the model does: slices that are cut, made, measured. -/
import Derived.Test.YtophnjjjmikmeaaGreatAmKC
set_option linter.all false
namespace Go.Am
open Go
section ops
variable {E : Env} {R : af} {w : World} {β : Nat → Nat} {s : St} {a : Act} {o : Oper}
def KP (R : af) (w : World) (β : Nat → Nat) : Option SV → Option Value → Prop
  | none, none => True
  | some x, some c => lj R w β x c
  | _, _ => False
theorem vY {y y' n : Nat} {x : SV} {c : Value} (hx : lj R w β x c) (hb : sA y x = some (true, n)) (hy : y ≤ y') (code : BoundsCode) :
    (Instr.sliceBound c y' code).run E.P w = .ok n w ∧ n ≤ y := by
  unfold sA at hb
  split at hb
  · rename_i k m
    injection hb with hb
    injection hb with h1 h2
    subst h2
    obtain ⟨h0, h3⟩ := of_decide_eq_true h1
    have qI : Rel R w (.int k m) c := hx
    cases qI
    exact ⟨run_sliceBound (P := E.P) w k m y' code h0 (by omega), by omega⟩
  · cases hb
theorem cO (TT : Bool) {len cap l h : Nat} (yB : len ≤ cap) {lo hi : Option SV} {lv hv : Option Value} (hl : KP R w β lo lv) (hh : KP R w β hi hv) (hb : wV len lo hi = some (true, l, h)) :
    (Instr.sliceBounds TT len cap lv hv none).run E.P w = .ok (l, h, cap) w ∧ l ≤ h ∧ h ≤ len := by
  unfold wV at hb
  split at hb
  · cases hb
  · rename_i c1 h' gR
    split at hb
    · cases hb
    · rename_i c2 l' KQ
      injection hb with hb
      injection hb with hc hb
      injection hb with e1 e2
      subst e1; subst e2
      simp only [Bool.and_eq_true] at hc
      obtain ⟨rfl, rfl⟩ := hc
      have H : ∃ _ : True, (match hv with | some v => Instr.sliceBound v cap (if TT = true then .sliceAcap else .sliceAlen) | none => pure len).run E.P w = .ok h' w ∧ h' ≤ len := by
        refine ⟨trivial, ?_⟩
        cases hi with
        | none => cases hv with
          | none => simp at gR; subst gR; exact ⟨rfl, Nat.le_refl _⟩
          | some v => exact hh.elim
        | some x => cases hv with
          | none => exact hh.elim
          | some v => exact vY (E := E) hh gR yB _
      have L : ∃ _ : True, (match lv with | some v => Instr.sliceBound v h' .sliceB | none => pure 0).run E.P w = .ok l' w ∧ l' ≤ h' := by
        refine ⟨trivial, ?_⟩
        cases lo with
        | none => cases lv with
          | none => simp at KQ; subst KQ; exact ⟨rfl, Nat.zero_le _⟩
          | some v => exact hl.elim
        | some x => cases lv with
          | none => exact hl.elim
          | some v => exact vY (E := E) hl KQ (Nat.le_refl _) _
      obtain ⟨_, H1, H2⟩ := H
      obtain ⟨_, L1, L2⟩ := L
      refine ⟨?_, L2, H2⟩
      cases hv <;> cases lv <;> simp_all [Instr.sliceBounds]
theorem ov (h : aJ E R w β s a) {x : Option Operand} {y : Option SV} (hx : jl E s.ae x = some y) : KP R w β y (x.map a.eval) := by
  cases x with
  | none => simp [jl] at hx; subst hx; trivial
  | some x => simp [jl] at hx; subst hx; exact aE h x
theorem lF {α : Type} {l : List α} {lo hi : Nat} (h : hi ≤ l.length) : (nr lo hi l).length = hi - lo := by
  simp [nr]
  omega
theorem vm (l : List UInt8) (lo hi : Nat) : (⟨⟨l⟩⟩ : ByteArray).extract lo hi = ⟨⟨nr lo hi l⟩⟩ := by
  apply ByteArray.ext
  rw [ByteArray.data_extract]
  apply Array.ext'
  simp [List.extract_eq_take_drop, nr, List.drop_take]
theorem Cs {ag : Bool} {b sz : Nat} (cU : (ag || Nat.beq sz 1) = true) : ∀ (n : Nat) {cs : List AV} {o : Nat}, du R w b o cs → n * sz ≤ cs.length → allFit (AA ag) (fq ag sz n cs) = true → eF R w b o sz (fq ag sz n cs)
  | 0, _, _, _, _, _ => .nil
  | n + 1, cs, o, hc, hl, hf => by
    simp only [fq, allFit, Bool.and_eq_true] at hf
    obtain ⟨rN, OQ⟩ := hf
    unfold AA at rN
    simp only [Bool.and_eq_true] at rN
    obtain ⟨⟨h1, h2⟩, h3⟩ := rN
    have hle : sz ≤ cs.length := by rw [Nat.succ_mul] at hl; omega
    have jM : (OE ag (cs.take sz)).cells = cs.take sz := by
      cases ag with
      | true => rfl
      | false =>
        have HE : sz = 1 := by simpa using cU
        subst HE
        match cs, hle with
        | a :: cs, _ =>
          show AV.cells a = [a]
          have ho : a.one = true := by simpa [OE, cX] using h2
          cases a <;> first | rfl | simp [AV.one] at ho
    obtain ⟨vs, k1, k2, k3, k4⟩ := hc.get
    have hA : du R w b o (cs.take sz) := du.make (k1.take sz) (fun v hv => k2 v (List.mem_of_mem_take hv)) (fun j v hv => k3 j v (by
      rw [List.getElem?_take] at hv
      split at hv
      · exact hv
      · cases hv)) (fun j hj => k4 j (by rw [List.length_take] at hj; omega))
    exact .cons (by rw [jM, List.length_take, Nat.min_eq_left hle]) h1 h3 (by rw [jM]; exact hA) (Cs cU n (hc.drop sz) (by rw [List.length_drop]; rw [Nat.succ_mul] at hl; omega) OQ)
theorem mW (ag : Bool) (sz : Nat) : ∀ (n : Nat) (cs : List AV), (fq ag sz n cs).length = n
  | 0, _ => rfl
  | n + 1, cs => by simp [fq, mW ag sz n]
theorem AW (h : aJ E R w β s a) (t : TypeId) (x : Operand) (lo hi : Option Operand) (ho : o.op = .slice t x lo hi none) {l h' : Option SV} (hl : jl E s.ae lo = some l) (hh : jl E s.ae hi = some h') {v : AV} (hv : wW E t (ba E s.ae x) l h' none = some (true, v)) :
    bj E R w β s a o (s.put o.dst (.v v)) := by
  have rx := aE h x
  have rl := ov h hl
  have rh := ov h hh
  unfold wW at hv
  split at hv
  · rename_i i nw TU
    obtain ⟨eh, u, e1, e2, e3, e4, e5, e6⟩ := bE E nw
    split at hv
    · -- a string
      rename_i bs hk hx
      rw [hx] at rx
      have cu : Rel R w (.str bs) (a.eval x) := rx
      generalize dw : a.eval x = xv at cu
      cases cu
      rw [hk] at e5
      have := iK e5
      subst this
      split at hv
      · rename_i c p q hb
        injection hv with hv
        injection hv with h1 h2
        subst h1; subst h2
        obtain ⟨k1, k2, k3⟩ := cO (E := E) false (Nat.le_refl _) rl rh hb
        refine an h (c := .string ⟨⟨nr p q bs⟩⟩) ?_ (Rel.str _)
        rw [← vm]
        simp only [execOp, ho, Instr.sliceAt, Sem.run_bind, run_underlying e2, Result.andThen_ok, Instr.slice, dw, Option.map_none, Option.isSome_none, Bool.false_eq_true, if_false, size_bytes, k1, Sem.run_pure]
      · cases hv
    · -- a list
      rename_i elem esz ag kZ z k sz es hk hx
      rw [hx] at rx
      rw [hk] at e5
      obtain ⟨ie, ue, rfl, f1, f2, f3, f4, f5, f6⟩ := ca e5
      split at hv
      · rename_i cU
        split at hv
        · rename_i c p q hb
          injection hv with hv
          injection hv with h1 h2
          subst h1; subst h2
          have cu : Rel R w (.list k sz es) (a.eval x) := rx
          generalize dw : a.eval x = xv at cu
          cases cu with
          | gi =>
            obtain ⟨k1, k2, k3⟩ := cO (E := E) true (Nat.le_refl _) rl rh hb
            simp only [List.length_nil, Nat.le_zero_eq] at k3
            subst k3
            have : p = 0 := by omega
            subst this
            refine an h (c := .slice none 0 0) ?_ ?_
            · simp only [execOp, ho, Instr.sliceAt, Sem.run_bind, run_underlying e2, Result.andThen_ok, Instr.slice, dw, Option.map_none]
              simp only [List.length_nil] at k1
              simp [k1, run_sizeOf w f1]
            · exact Rel.gi
          | fO =>
            obtain ⟨k1, k2, k3⟩ := cO (E := E) true (Nat.le_refl _) rl rh hb
            simp only [List.length_nil, Nat.le_zero_eq] at k3
            subst k3
            have : p = 0 := by omega
            subst this
            refine an h (c := .slice none 0 0) ?_ ?_
            · simp only [execOp, ho, Instr.sliceAt, Sem.run_bind, run_underlying e2, Result.andThen_ok, Instr.slice, dw, Option.map_none]
              simp only [List.length_nil] at k1
              simp [k1, run_sizeOf w f1]
            · exact Rel.fO
          | @jK _ ad =>
            obtain ⟨k1, k2, k3⟩ := cO (E := E) true (Nat.le_refl _) rl rh hb
            simp only [List.length_nil, Nat.le_zero_eq] at k3
            subst k3
            have : p = 0 := by omega
            subst this
            refine an h (c := .slice (some ad) 0 0) ?_ ?_
            · simp only [execOp, ho, Instr.sliceAt, Sem.run_bind, run_underlying e2, Result.andThen_ok, Instr.slice, dw, Option.map_none]
              simp only [List.length_nil] at k1
              simp [k1, run_sizeOf w f1]
            · exact Rel.jK
          | iH h0 h00 =>
            obtain ⟨k1, k2, k3⟩ := cO (E := E) true (Nat.le_refl _) rl rh hb
            simp only [List.length_nil, Nat.le_zero_eq] at k3
            subst k3
            have : p = 0 := by omega
            subst this
            refine an h (c := .slice none 0 0) ?_ ?_
            · simp only [execOp, ho, Instr.sliceAt, Sem.run_bind, run_underlying e2, Result.andThen_ok, Instr.slice, dw, Option.map_none]
              simp only [List.length_nil] at k1
              simp [k1, run_sizeOf w f1]
            · exact Rel.fO
          | jm h0 h00 =>
            obtain ⟨k1, k2, k3⟩ := cO (E := E) true (Nat.le_refl _) rl rh hb
            simp only [List.length_nil, Nat.le_zero_eq] at k3
            subst k3
            have : p = 0 := by omega
            subst this
            refine an h (c := .slice none 0 0) ?_ ?_
            · simp only [execOp, ho, Instr.sliceAt, Sem.run_bind, run_underlying e2, Result.andThen_ok, Instr.slice, dw, Option.map_none]
              simp only [List.length_nil] at k1
              simp [k1, run_sizeOf w f1]
            · exact Rel.fO
          | @list _ _ _ b o' len cap hr hlen dA AO =>
            subst hlen
            obtain ⟨k1, k2, k3⟩ := cO (E := E) true dA rl rh hb
            have OR : es ≠ [] → sz = esz := fun bS => by
              simp only [Bool.or_eq_true] at cU
              rcases cU with hc | hc
              · exact Nat.eq_of_beq_eq_true hc
              · simp at hc; exact absurd hc bS
            have aU : (execOp a.eval o).run E.P w = .ok (.value (.slice (if cap = p then some ⟨b, o', none⟩ else some ⟨b, o' + p * esz, none⟩) (q - p) (cap - p))) w := by
              simp only [execOp, ho, Instr.sliceAt, Sem.run_bind, run_underlying e2, Result.andThen_ok, Instr.slice, dw, Option.map_none, k1, run_sizeOf w f1, f2, Sem.run_pure, Option.map_some, bJ]
            have qK : ∀ b2 o2, wY R (match k with | .nil => LK.nil | .full => (match h' with | none => LK.full | some _ => LK.fY) | _ => LK.fY) b2 o2 (q - p) (cap - p) := by
              intro b2 o2
              cases k with
              | nil => exact AO.elim
              | fY => trivial
              | own id => trivial
              | aG id j => trivial
              | full =>
                have hc : cap = es.length := AO
                cases h' with
                | some _ => trivial
                | none =>
                  have hq : q = es.length := by
                    unfold wV at hb
                    simp only at hb
                    split at hb
                    · cases hb
                    · injection hb with hb
                      injection hb with _ hb
                      injection hb with _ hb
                      exact hb.symm
                  show cap - p = q - p
                  omega
            by_cases H5 : cap = p
            · refine an h (c := .slice (some ⟨b, o', none⟩) (q - p) (cap - p)) (by rw [aU, if_pos H5]) ?_
              have he : nr p q es = [] := List.eq_nil_of_length_eq_zero (by rw [lF k3]; omega)
              exact Rel.list (by rw [he]; exact .nil) (by rw [lF k3]) (by omega) (qK _ _)
            · refine an h (c := .slice (some ⟨b, o' + p * esz, none⟩) (q - p) (cap - p)) (by rw [aU, if_neg H5]) ?_
              refine Rel.list ?_ (by rw [lF k3]) (by omega) (qK _ _)
              by_cases bS : es = []
              · subst bS
                simp [nr]
                exact .nil
              · have := OR bS
                subst this
                exact pW p (pX q hr)
        · cases hv
      · cases hv
    · -- a heap slice
      rename_i elem esz ag kZ z id off sz len cap hk hx
      rw [hx] at rx
      rw [hk] at e5
      obtain ⟨ie, ue, rfl, f1, f2, f3, f4, f5, f6⟩ := ca e5
      split at hv
      · rename_i cU
        have cU := Nat.eq_of_beq_eq_true cU
        subst cU
        split at hv
        · rename_i c p q hb
          injection hv with hv
          injection hv with h1 h2
          subst h1; subst h2
          have cu : Rel R w (.gb id off sz len cap) (a.eval x) := rx
          generalize dw : a.eval x = xv at cu
          cases cu with
          | @gb _ _ _ _ _ b RI dA =>
            obtain ⟨k1, k2, k3⟩ := cO (E := E) true dA rl rh hb
            refine an h (c := .slice (some ⟨b, bif Nat.beq cap p then off else off + p * sz, none⟩) (q - p) (cap - p)) ?_ (Rel.gb RI (by omega))
            have hb : (bif Nat.beq cap p then off else off + p * sz) = if cap = p then off else off + p * sz := by
              by_cases e : cap = p
              · rw [if_pos e, e, show Nat.beq p p = true from Nat.beq_refl p]; rfl
              · rw [if_neg e]
                cases hq : Nat.beq cap p with
                | true => exact absurd (Nat.eq_of_beq_eq_true hq) e
                | false => rfl
            rw [hb]
            simp only [execOp, ho, Instr.sliceAt, Sem.run_bind, run_underlying e2, Result.andThen_ok, Instr.slice, dw, Option.map_none, k1, run_sizeOf w f1, f2, Sem.run_pure, Option.map_some, bJ]
            split <;> rfl
        · cases hv
      · cases hv
    · -- a slice that grows
      rename_i elem esz ag kZ z id f' off sz len hk hx
      rw [hx] at rx
      rw [hk] at e5
      obtain ⟨ie, ue, rfl, f1, f2, f3, f4, f5, f6⟩ := ca e5
      split at hv
      · rename_i cU
        have cU := Nat.eq_of_beq_eq_true cU
        subst cU
        split at hv
        · rename_i c p q hb
          injection hv with hv
          injection hv with h1 h2
          subst h1; subst h2
          have cu : Rel R w (.cS id f' off sz len) (a.eval x) := rx
          generalize dw : a.eval x = xv at cu
          cases cu with
          | fZ h0 h00 =>
            obtain ⟨k1, k2, k3⟩ := cO (E := E) true (Nat.le_refl _) rl rh hb
            simp only [Nat.le_zero_eq] at k3
            subst k3
            have : p = 0 := by omega
            subst this
            refine an h (c := .slice none 0 0) ?_ ?_
            · simp only [execOp, ho, Instr.sliceAt, Sem.run_bind, run_underlying e2, Result.andThen_ok, Instr.slice, dw, Option.map_none]
              simp [k1, run_sizeOf w f1]
            · exact Rel.fZ h0 h00
          | @cS _ _ _ _ _ cap b o' ro aO cD dA =>
            obtain ⟨k1, k2, k3⟩ := cO (E := E) true dA rl rh hb
            have aU : (execOp a.eval o).run E.P w = .ok (.value (.slice (if cap = p then some ⟨b, o', none⟩ else some ⟨b, o' + p * sz, none⟩) (q - p) (cap - p))) w := by
              simp only [execOp, ho, Instr.sliceAt, Sem.run_bind, run_underlying e2, Result.andThen_ok, Instr.slice, dw, Option.map_none, k1, run_sizeOf w f1, f2, Sem.run_pure, Option.map_some, bJ]
            have TV : ∀ o2, (o2 = o' + p * sz ∨ cap = p) → Du b o2 f' (off + p) sz (cap - p) ro := fun o2 h2 => by
              cases ro with
              | none => trivial
              | aK => exact cD.elim
              | bh _ => exact cD.elim
              | aG _ => exact cD.elim
              | tok f1 b1 c1 =>
                refine ⟨cD.1, fun e => ?_⟩
                obtain ⟨q1, q2, q3⟩ := cD.2 e
                refine ⟨q1, by omega, ?_⟩
                rcases h2 with h2 | h2
                · rcases q3 with q3 | q3
                  · exact .inl (by rw [h2, q3, Nat.add_mul])
                  · exact .inr (by omega)
                · exact .inr (by omega)
            by_cases H5 : cap = p
            · exact an h (c := .slice (some ⟨b, o', none⟩) (q - p) (cap - p)) (by rw [aU, if_pos H5]) (Rel.cS aO (TV _ (.inr H5)) (by omega))
            · exact an h (c := .slice (some ⟨b, o' + p * sz, none⟩) (q - p) (cap - p)) (by rw [aU, if_neg H5]) (Rel.cS aO (TV _ (.inl rfl)) (by omega))
        · cases hv
      · cases hv
    · -- an array that never changes again
      rename_i len esz ag cs hk hx
      rw [hx] at rx
      rw [hk] at e5
      obtain ⟨e, ie, ue, rfl, f1, f2, f3, f4⟩ := lC e5
      split at hv
      · split at hv
        · rename_i bD
          simp only [Bool.and_eq_true] at bD
          obtain ⟨⟨⟨c1, c2⟩, c3⟩, c4⟩ := bD
          injection hv with hv
          injection hv with _ h2
          subst h2
          have cu : Rel R w (.ep cs) (a.eval x) := rx
          generalize dw : a.eval x = xv at cu
          cases cu with
          | @ep _ b o' hr =>
          obtain ⟨k1, _, _⟩ := cO (E := E) (w := w) (R := R) (β := β) (l := 0) (h := len) false (Nat.le_refl len) rl rh rfl
          refine an h (c := .slice (some ⟨b, o', none⟩) len len) ?_ (Rel.list (Cs c3 len hr (Nat.le_of_ble_eq_true c1) c4) (mW _ _ _ _).symm (Nat.le_refl _) rfl)
          simp only [execOp, ho, Instr.sliceAt, Sem.run_bind, run_underlying e2, Result.andThen_ok, dw, Instr.sureAddr, Option.map_none, k1, run_sizeOf w f1, f2, Sem.run_pure]
          by_cases sa : len = 0
          · subst sa
            simp
          · simp [sa, bJ]
        · cases hv
      · cases hv
    · cases hv
  · cases hv
theorem xj (h : aJ E R w β s a) (t : TypeId) (ho : o.op = .makeMap t none) : bj E R w β s a o ((s.cI (.map [])).put o.dst (.v (.map s.G.length))) := by
  have eI : eH (R.add (.bh w.heap.size)) (w.alloc (.map #[] 0)) (.map []) (.bh w.heap.size) := ⟨#[], 0, heap_alloc_new w _, trivial, rfl, fun i e he => by simp at he⟩
  refine ⟨_, .map (some w.heap.size), w.alloc (.map #[] 0), R.add (.bh w.heap.size), β, ?_, .inl rfl, (h.iJ (.map #[] 0) (.map []) (.bh w.heap.size) (by exact fun _ h => h) eI).put o.dst (x := .v (.map s.G.length)) (Rel.map (eL h _)), by rw [aL]; exact cp h _ _ (by exact fun _ h => h)⟩
  simp only [execOp, ho, Instr.makeMap, Option.map_none, Sem.run_bind, run_newObj, Result.andThen_ok, Sem.run_pure]
  rfl
theorem jN (h : aJ E R w β s a) (t : TypeId) (x y : Operand) (ho : o.op = .makeSlice t x y) {i : TI} (hi : E.ti t = some i) {k k' : IntKind} {n m : Int} (hx : ba E s.ae x = .v (.int k n)) (hy : ba E s.ae y = .v (.int k' m))
    {elem esz kZ : Nat} {ag : Bool} {z : AV} (hk : i.k = .sl elem esz ag kZ (some z)) (hz : z.cells.length = esz) (AU : 1 ≤ esz) (j9 : z.aH = true) (hc : 0 ≤ n ∧ n ≤ m ∧ m ≤ 140737488355328 ∧ m * kZ ≤ 140737488355328) :
    ∃ us, ay R w (ap (List.replicate m.toNat z)) us ∧ (∀ v ∈ us, v.oneCell' = true) ∧ (execOp a.eval o).run E.P w = .ok (.value (.slice (some ⟨w.heap.size, 0, none⟩) n.toNat m.toNat)) (w.alloc (.cells ⟨us⟩ elem)) := by
  have rx := aE h x
  have ry := aE h y
  rw [hx] at rx
  rw [hy] at ry
  have cu : Rel R w (.int k n) (a.eval x) := rx
  have lu : Rel R w (.int k' m) (a.eval y) := ry
  generalize dw : a.eval x = xv at cu
  generalize Oa : a.eval y = yv at lu
  cases cu
  cases lu
  obtain ⟨c1, c2, c3, c4⟩ := hc
  obtain ⟨eh, u, e1, e2, e3, e4, e5, e6⟩ := bE E hi
  rw [hk] at e5
  obtain ⟨ie, ue, rfl, f1, f2, f3, f4, f5, f6⟩ := ca e5
  obtain ⟨zc, jV, yC⟩ := cj f6
  have J1 := yC R w
  obtain ⟨d1, d2⟩ := Rel.cells J1 j9
  have mS : zc.cells.size = esz := by rw [← hz, d1.length]; simp
  obtain ⟨z1, z2⟩ := ka J1 j9 m.toNat
  have ik : ((Array.range (m.toNat * esz)).map fun i => zc.cells[i % zc.cells.size]!) = ⟨(List.replicate m.toNat zc.cells.toList).flatten⟩ := by
    apply Array.ext'
    rw [← mS]
    exact lE zc.cells m.toNat
  have wn : IntKind.i64.wrap n = n := IntWalk.i64_in n (by omega)
  have wm : IntKind.i64.wrap m = m := IntWalk.i64_in m (by omega)
  have aU : (Instr.makeSlice t (.int k n) (.int k' m)).run E.P w = .ok (.slice (some ⟨w.heap.size, 0, none⟩) n.toNat m.toNat) (w.alloc (.cells ⟨(List.replicate m.toNat zc.cells.toList).flatten⟩ elem)) := by
    have Xc : (ie.bytes : Int) * m ≤ 281474976710656 := by rw [f3, Int.mul_comm]; omega
    have OS : ¬ 281474976710656 < (ie.bytes : Int) * m := by omega
    have h1 : ¬ m < 0 := by omega
    have h2 : ¬ n < 0 := by omega
    have h3 : ¬ m < n := by omega
    have EG : (typeInfo elem).run E.P w = .ok ie w := by simp [typeInfo, f1]
    by_cases h0 : m.toNat * esz = 0
    · have TW : m.toNat = 0 := by
        rcases Nat.mul_eq_zero.1 h0 with h0 | h0 <;> omega
      have yS : ∀ f : Nat → Value, Array.map f (Array.range 0) = #[] := fun f => by simp
      simp [Instr.makeSlice, run_underlying e2, asInt, asIntOf, EG, wn, wm, h1, h2, h3, OS, run_sizeOf w f1, f2, TW, newRow]
      rw [yS]
    · simp [Instr.makeSlice, run_underlying e2, asInt, asIntOf, EG, wn, wm, h1, h2, h3, OS, run_sizeOf w f1, f2, h0, fa w f1 jV, newRow]
      rw [← ik]
  refine ⟨_, z1, z2, ?_⟩
  simp only [execOp, ho, dw, Oa, Sem.run_bind, aU, Result.andThen_ok, Sem.run_pure]
theorem sP (h : aJ E R w β s a) (t : TypeId) (x y : Operand) (ho : o.op = .makeSlice t x y) {i : TI} (hi : E.ti t = some i) {k k' : IntKind} {n m : Int} (hx : ba E s.ae x = .v (.int k n)) (hy : ba E s.ae y = .v (.int k' m))
    {elem esz kZ : Nat} {ag : Bool} {z : AV} (hk : i.k = .sl elem esz ag kZ (some z)) (hz : z.cells.length = esz) (AU : 1 ≤ esz) (j9 : z.aH = true) (hc : 0 ≤ n ∧ n ≤ m ∧ m ≤ 140737488355328 ∧ m * kZ ≤ 140737488355328) :
    bj E R w β s a o ((s.cI (.row (ap (List.replicate m.toNat z)) elem)).put o.dst (.v (.gb s.G.length 0 esz n.toNat m.toNat))) := by
  obtain ⟨us, z1, z2, aU⟩ := jN h t x y ho hi hx hy hk hz AU j9 hc
  have e := eK (R := R) (w := w) h.g.wf (.cells ⟨us⟩ elem) (.bh w.heap.size)
  have eI : eH (R.add (.bh w.heap.size)) (w.alloc (.cells ⟨us⟩ elem)) (.row (ap (List.replicate m.toNat z)) elem) (.bh w.heap.size) :=
    ⟨_, heap_alloc_new w _, z1.mono e, z2, fun o' hi => by have := h.g.wf _ _ hi; omega⟩
  exact ⟨_, .slice (some ⟨w.heap.size, 0, none⟩) n.toNat m.toNat, _, R.add (.bh w.heap.size), β, aU, .inl rfl, (h.iJ _ _ (.bh w.heap.size) (by exact fun _ h => h) eI).put o.dst (x := .v (.gb s.G.length 0 esz n.toNat m.toNat)) (Rel.gb (eL h _) (by omega)), by rw [aL]; exact cp h _ _ (by exact fun _ h => h)⟩
end ops
end Go.Am
namespace Go.Am
open Go
section ops
variable {E : Env} {R : af} {w : World} {β : Nat → Nat} {s : St} {a : Act} {o : Oper}
theorem iL (x : Array Operand) (f : Operand → Value) : x.map f = ⟨x.toList.map f⟩ := Array.ext' (by simp)
theorem cE {b : Builtin} {args : Array Operand} {tys : Array TypeId} (ho : o.op = .call { callee := .builtin b, args := args, argTypes := tys }) (vs : List Value) (hv : args.toList.map a.eval = vs) :
    (execOp a.eval o).run E.P w = (builtin b tys o.type (args.map fun | .const _ => true | _ => false) ⟨vs⟩).run E.P w := by
  simp only [execOp, ho, resolve, Sem.run_bind, Sem.run_pure, Result.andThen_ok, invoke, iL args a.eval, hv]
  rfl
theorem cJ.length : ∀ {l : List (AV × AV)} {es : List MapEntry}, cJ R w l es → l.length = es.length
  | [], [], _ => rfl
  | _ :: _, _ :: _, h => by simp [cJ.length h.2.2]
  | [], _ :: _, h => h.elim
  | _ :: _, [], h => h.elim
theorem Fa (h : aJ E R w β s a) {args : Array Operand} {tys : List TypeId} (ho : o.op = .call { callee := .builtin .len, args := args, argTypes := ⟨tys⟩ }) {l : List AV} (hl : js E s.ae args.toList = some l) {s' : St} (hs : bG E s o.dst .len l tys = some (true, s')) :
    bj E R w β s a o s' := by
  have hr := dJ h hl
  generalize hv : args.toList.map a.eval = vs at hr
  have hx := cE (E := E) (w := w) ho vs hv
  unfold bG at hs
  split at hs <;> first | (rename_i h1; cases h1; done) | skip
  · rename_i x
    cases hr with
    | cons h0 h1 =>
    cases h1
    split at hs
    · rename_i t tl
      split at hs
      · rename_i i hi
        obtain ⟨eh, u, e1, e2, e3, e4, e5, e6⟩ := bE E hi
        split at hs
        · rename_i bs hk
          cases hs
          cases h0
          rw [hk] at e5
          have := iK e5
          subst this
          refine an h (c := .int .i64 bs.length) ?_ (Rel.int _ _)
          rw [hx]
          simp [builtin, Builtin.len_, run_underlying e2, goInt, size_bytes]
        · rename_i kk sz es hk
          cases hs
          rw [hk] at e5
          obtain ⟨ie, ue, rfl, _⟩ := ca e5
          refine an h (c := .int .i64 es.length) ?_ (Rel.int _ _)
          rw [hx]
          cases h0 with
          | gi => simp [builtin, Builtin.len_, run_underlying e2, goInt]
          | fO => simp [builtin, Builtin.len_, run_underlying e2, goInt]
          | jK => simp [builtin, Builtin.len_, run_underlying e2, goInt]
          | iH => simp [builtin, Builtin.len_, run_underlying e2, goInt]
          | jm => simp [builtin, Builtin.len_, run_underlying e2, goInt]
          | list _ hlen _ _ => subst hlen; simp [builtin, Builtin.len_, run_underlying e2, goInt]
        · rename_i id off sz len cap hk
          cases hs
          rw [hk] at e5
          obtain ⟨ie, ue, rfl, _⟩ := ca e5
          refine an h (c := .int .i64 len) ?_ (Rel.int _ _)
          rw [hx]
          cases h0
          simp [builtin, Builtin.len_, run_underlying e2, goInt]
        · rename_i id f' off sz len hk
          cases hs
          rw [hk] at e5
          obtain ⟨ie, ue, rfl, _⟩ := ca e5
          refine an h (c := .int .i64 len) ?_ (Rel.int _ _)
          rw [hx]
          cases h0 <;> simp [builtin, Builtin.len_, run_underlying e2, goInt]
        · rename_i id j' sz len hk
          cases hs
          rw [hk] at e5
          obtain ⟨ie, ue, rfl, _⟩ := ca e5
          refine an h (c := .int .i64 len) ?_ (Rel.int _ _)
          rw [hx]
          cases h0 <;> simp [builtin, Builtin.len_, run_underlying e2, goInt]
        · rename_i n esz ag hk
          cases hs
          rw [hk] at e5
          obtain ⟨e, ie, ue, rfl, _⟩ := lC e5
          refine an h (c := .int .i64 n) ?_ (Rel.int _ _)
          rw [hx]
          simp [builtin, Builtin.len_, run_underlying e2, goInt]
        · rename_i hk
          cases hs
          rw [hk] at e5
          obtain ⟨rfl, _⟩ := j7 e5
          refine an h (c := .int .i64 0) ?_ (Rel.int _ _)
          rw [hx]
          cases h0
          simp [builtin, Builtin.len_, run_underlying e2, goInt]
        · rename_i id hk
          split at hs
          · rename_i es hg
            cases hs
            rw [hk] at e5
            obtain ⟨rfl, _⟩ := j7 e5
            cases h0 with
            | @map _ b hb =>
            obtain ⟨av, clock, g1, g2, g3⟩ := h.g.obj id _ _ hg hb
            refine an h (c := .int .i64 es.length) ?_ (Rel.int _ _)
            rw [hx]
            have eI : (getObj b).run E.P w = .ok (.map av clock) w := by simp [getObj, Sem.run, g1]
            simp [builtin, Builtin.len_, run_underlying e2, goInt, eI, g2.length]
          · cases hs
        · cases hs
      · cases hs
    · cases hs
  · cases hs
theorem Ct {b : Bool} : ∀ {l : List AV} {x v : AV} {c : Value} {cs : List Value}, Rel R w x c → ay R w l cs → Dq x l = some v → ∃ c', (cs.foldlM Builtin.max2 c).run E.P w = .ok c' w ∧ Rel R w v c'
  | [], x, v, c, cs, hr, hl, hv => by
    cases hl
    simp only [Dq] at hv
    cases hv
    exact ⟨c, rfl, hr⟩
  | y :: l, x, v, c, cs, hr, hl, hv => by
    cases hl with
    | cons hy hl =>
    unfold Dq at hv
    split at hv
    · rename_i gR; cases gR
    · rename_i k n k' m l' gR
      cases gR
      split at hv
      · rename_i hk
        subst hk
        cases hr
        cases hy
        obtain ⟨c', h1, h2⟩ := Ct (b := b) (Rel.int k (if m > n then m else n)) hl hv
        refine ⟨c', ?_, h2⟩
        simp only [List.foldlM_cons, Sem.run_bind, Builtin.max2, Sem.run_pure, Result.andThen_ok]
        exact h1
      · cases hv
    · cases hv
theorem xl {b : Bool} : ∀ {l : List AV} {x v : AV} {c : Value} {cs : List Value}, Rel R w x c → ay R w l cs → AB x l = some v → ∃ c', (cs.foldlM Builtin.min2 c).run E.P w = .ok c' w ∧ Rel R w v c'
  | [], x, v, c, cs, hr, hl, hv => by
    cases hl
    simp only [AB] at hv
    cases hv
    exact ⟨c, rfl, hr⟩
  | y :: l, x, v, c, cs, hr, hl, hv => by
    cases hl with
    | cons hy hl =>
    unfold AB at hv
    split at hv
    · rename_i gR; cases gR
    · rename_i k n k' m l' gR
      cases gR
      split at hv
      · rename_i hk
        subst hk
        cases hr
        cases hy
        obtain ⟨c', h1, h2⟩ := xl (b := b) (Rel.int k (if m < n then m else n)) hl hv
        refine ⟨c', ?_, h2⟩
        simp only [List.foldlM_cons, Sem.run_bind, Builtin.min2, Sem.run_pure, Result.andThen_ok]
        exact h1
      · cases hv
    · rename_i n m l' gR
      cases gR
      cases hr
      cases hy
      obtain ⟨c', h1, h2⟩ := xl (b := b) (Rel.str (bif Op.bytesLess n m || n == m then n else m)) hl hv
      refine ⟨c', ?_, h2⟩
      have e : (Builtin.min2 (.string ⟨⟨n⟩⟩) (.string ⟨⟨m⟩⟩)).run E.P w = .ok (.string ⟨⟨bif Op.bytesLess n m || n == m then n else m⟩⟩) w := by
        simp only [Builtin.min2, Op.stringOp, Sem.run_bind, Sem.run_pure, Result.andThen_ok]
        show Result.andThen ((asBool _).run E.P w) _ = _
        cases hb : (Op.bytesLess n m || n == m) <;> simp_all [asBool]
      simp only [List.foldlM_cons, Sem.run_bind, e, Result.andThen_ok]
      exact h1
    · cases hv
theorem Fb (h : aJ E R w β s a) {args : Array Operand} {tys : Array TypeId} (ho : o.op = .call { callee := .builtin .max, args := args, argTypes := tys }) {x v : AV} {l : List AV} (hl : js E s.ae args.toList = some (x :: l)) (hm : Dq x l = some v) :
    bj E R w β s a o (s.put o.dst (.v v)) := by
  have hr := dJ h hl
  generalize hv : args.toList.map a.eval = vs at hr
  have hx := cE (E := E) (w := w) ho vs hv
  cases hr with
  | cons h0 h1 =>
  obtain ⟨c', k1, k2⟩ := Ct (E := E) (b := true) h0 h1 hm
  refine an h (c := c') ?_ k2
  rw [hx]
  simp [builtin, Builtin.max_, k1]
theorem Fc (h : aJ E R w β s a) {args : Array Operand} {tys : Array TypeId} (ho : o.op = .call { callee := .builtin .min, args := args, argTypes := tys }) {x v : AV} {l : List AV} (hl : js E s.ae args.toList = some (x :: l)) (hm : AB x l = some v) :
    bj E R w β s a o (s.put o.dst (.v v)) := by
  have hr := dJ h hl
  generalize hv : args.toList.map a.eval = vs at hr
  have hx := cE (E := E) (w := w) ho vs hv
  cases hr with
  | cons h0 h1 =>
  obtain ⟨c', k1, k2⟩ := xl (E := E) (b := true) h0 h1 hm
  refine an h (c := c') ?_ k2
  rw [hx]
  simp [builtin, Builtin.min_, k1]
end ops
end Go.Am
namespace Go.Am
open Go
section ops
variable {E : Env} {R : af} {w : World} {β : Nat → Nat} {s : St} {a : Act} {o : Oper}
def af.upto (R : af) (g n : Nat) (obj : List RO) : af := ⟨fun b o => R.I b o ∨ (b = g ∧ o < n), obj⟩
theorem ao {l : List RO} {id i : Nat} {x r y : RO} (Vt : nth l id = some y) (h : nth (aq l id x) i = some r) : (i = id ∧ r = x) ∨ (i ≠ id ∧ nth l i = some r) := by
  rcases bH h with ⟨rfl, rfl, _⟩ | ⟨bS, h⟩
  · exact .inl ⟨rfl, rfl⟩
  · exact .inr ⟨Ne.symm bS, h⟩
theorem AX (wf : ∀ b o, R.I b o → b < w.heap.size) (x : Obj) (n : Nat) (ro : RO) : Ext R w (R.upto w.heap.size n (R.obj ++ [ro])) (w.drew.alloc x) :=
  ⟨fun _ _ h => .inl h, fun b o h => bl (heap_alloc_old w.drew x b (wf b o h)) o, fun _ r h => ⟨r, bc h, bF.refl r⟩, .old fun b hb => heap_alloc_old w.drew x b hb⟩
theorem AY (wf : ∀ b o, R.I b o → b < w.heap.size) (x : Obj) {n id m : Nat} {r0 : RO} (aR : nth R.obj id = some r0) (b' c' : Nat) (bR : bF r0 (.tok m b' c' 0)) : Ext R w (R.upto w.heap.size n (aq R.obj id (.tok m b' c' 0))) (w.drew.alloc x) :=
  ⟨fun _ _ h => .inl h, fun b o h => bl (heap_alloc_old w.drew x b (wf b o h)) o, fun i r h => by
    by_cases e : id = i
    · subst e
      rw [aR] at h
      cases h
      exact ⟨_, aj aR, bR⟩
    · exact ⟨r, by rw [af.upto, az e]; exact h, bF.refl r⟩, .old fun b hb => heap_alloc_old w.drew x b hb⟩
theorem aJ.KR (h : aJ E R w β s a) {cur : Array Value} {elem : TypeId} {n sz cap : Nat} (hn : n ≤ cap) (hm : cap ≤ maxLen) (hs : cur.size = cap * sz) :
    aJ E (R.upto w.heap.size (n * sz) (R.obj ++ [.tok n w.heap.size cap 0])) (w.drew.alloc (.cells cur elem)) β (s.cI (.tok n sz elem)) a ∧
    Step R w β s.boxes (R.upto w.heap.size (n * sz) (R.obj ++ [.tok n w.heap.size cap 0])) (w.drew.alloc (.cells cur elem)) β s.boxes := by
  have e := AX (R := R) (w := w) h.g.wf (.cells cur elem) (n * sz) (.tok n w.heap.size cap 0)
  have old : ∀ b, b < w.heap.size → (w.drew.alloc (.cells cur elem)).heap[b]? = w.heap[b]? := fun b hb => heap_alloc_old w.drew _ b hb
  have new : (w.drew.alloc (.cells cur elem)).heap[w.heap.size]? = some (.cells cur elem (0, 0)) := heap_alloc_new w.drew _
  have hI : ∀ b o, b < w.heap.size → (R.upto w.heap.size (n * sz) (R.obj ++ [.tok n w.heap.size cap 0])).I b o → R.I b o := fun b o hb hi => by
    rcases hi with hi | ⟨hi, _⟩
    · exact hi
    · omega
  refine ⟨⟨⟨by simp [St.cI, af.upto, h.g.len], fun id g r h1 h2 => ?_, fun i j ri rj b h1 h2 b1 b2 => ?_, fun b o hi => ?_, fun g cs hg => (h.g.cw g cs hg).mono e, by first | exact h.g.lo | exact Nat.le_succ_of_le h.g.lo⟩, ?_, h.t.mono e, h.n, h.d.mono e⟩, ?_⟩
  · rcases ah h2 with h2 | ⟨h3, rfl⟩
    · have bR := aM h2
      rw [h.g.len] at bR
      rcases ah h1 with h1 | ⟨h4, _⟩
      · exact (h.g.obj id g r h1 h2).mono e (fun b hb => old b (h.g.bq ⟨id, r, h2, hb⟩)) (fun b o hb => hI b o (h.g.bq ⟨id, r, h2, hb⟩))
      · omega
    · rcases ah h1 with h1 | ⟨h4, rfl⟩
      · have := aM h1
        rw [h3, h.g.len] at this
        omega
      · refine ⟨rfl, cur, new, hn, hm, by omega, fun o' kb hi => ?_⟩
        rcases hi with hi | ⟨_, hi⟩
        · have := h.g.wf _ _ hi
          omega
        · omega
  · rcases ah h1 with g1 | ⟨h3, e1⟩
    · rcases ah h2 with g2 | ⟨h4, e2⟩
      · exact h.g.inj i j ri rj b g1 g2 b1 b2
      · have := h.g.bq ⟨i, ri, g1, b1⟩
        rw [e2] at b2
        simp [RO.has] at b2
        omega
    · rcases ah h2 with g2 | ⟨h4, e2⟩
      · have := h.g.bq ⟨j, rj, g2, b2⟩
        rw [e1] at b1
        simp [RO.has] at b1
        omega
      · omega
  · rcases hi with hi | ⟨rfl, _⟩
    · have := h.g.wf b o hi
      simp
      omega
    · simp
  · refine h.b.bL e (fun k cs hk => old _ (h.cA (.inr ⟨k, cs, hk, rfl⟩))) (fun k cs o hk => hI _ o (h.cA (.inr ⟨k, cs, hk, rfl⟩))) (fun k cs hk hl => ?_)
    rcases gG (R := R) (ro := .tok n w.heap.size cap 0) hl with hl | hl
    · exact hl
    · have := h.cA (.inr ⟨k, cs, hk, rfl⟩)
      simp [RO.has] at hl
      omega
  · refine ⟨e, rfl, rfl, rfl, by simp, fun b hb _ => old b hb, fun b hb ho => ?_, fun b o hi hb _ => hI b o hb hi⟩
    rcases ho with ho | ho
    · rcases gG (R := R) (ro := .tok n w.heap.size cap 0) ho with ho | ho
      · exact .inl ho
      · simp [RO.has] at ho
        omega
    · exact .inr ho
theorem yT (wf : ∀ b o, R.I b o → b < w.heap.size) (x : Obj) (n : Nat) (ro : RO) : Ext R w (R.upto w.heap.size n (R.obj ++ [ro])) (w.alloc x) :=
  ⟨fun _ _ h => .inl h, fun b o h => bl (heap_alloc_old w x b (wf b o h)) o, fun _ r h => ⟨r, bc h, bF.refl r⟩, .old fun b hb => heap_alloc_old w x b hb⟩
theorem aJ.H6 (h : aJ E R w β s a) {cur : Array Value} {elem : TypeId} {n sz cap : Nat} (hn : n ≤ cap) (hm : cap ≤ maxLen) (hs : cur.size = cap * sz) :
    aJ E (R.upto w.heap.size (n * sz) (R.obj ++ [.tok n w.heap.size cap 0])) (w.alloc (.cells cur elem)) β (s.cI (.tok n sz elem)) a ∧
    Step R w β s.boxes (R.upto w.heap.size (n * sz) (R.obj ++ [.tok n w.heap.size cap 0])) (w.alloc (.cells cur elem)) β s.boxes := by
  have e := yT (R := R) (w := w) h.g.wf (.cells cur elem) (n * sz) (.tok n w.heap.size cap 0)
  have old : ∀ b, b < w.heap.size → (w.alloc (.cells cur elem)).heap[b]? = w.heap[b]? := fun b hb => heap_alloc_old w _ b hb
  have new : (w.alloc (.cells cur elem)).heap[w.heap.size]? = some (.cells cur elem (0, 0)) := heap_alloc_new w _
  have hI : ∀ b o, b < w.heap.size → (R.upto w.heap.size (n * sz) (R.obj ++ [.tok n w.heap.size cap 0])).I b o → R.I b o := fun b o hb hi => by
    rcases hi with hi | ⟨hi, _⟩
    · exact hi
    · omega
  refine ⟨⟨⟨by simp [St.cI, af.upto, h.g.len], fun id g r h1 h2 => ?_, fun i j ri rj b h1 h2 b1 b2 => ?_, fun b o hi => ?_, fun g cs hg => (h.g.cw g cs hg).mono e, by first | exact h.g.lo | exact Nat.le_succ_of_le h.g.lo⟩, ?_, h.t.mono e, h.n, h.d.mono e⟩, ?_⟩
  · rcases ah h2 with h2 | ⟨h3, rfl⟩
    · have bR := aM h2
      rw [h.g.len] at bR
      rcases ah h1 with h1 | ⟨h4, _⟩
      · exact (h.g.obj id g r h1 h2).mono e (fun b hb => old b (h.g.bq ⟨id, r, h2, hb⟩)) (fun b o hb => hI b o (h.g.bq ⟨id, r, h2, hb⟩))
      · omega
    · rcases ah h1 with h1 | ⟨h4, rfl⟩
      · have := aM h1
        rw [h3, h.g.len] at this
        omega
      · refine ⟨rfl, cur, new, hn, hm, by omega, fun o' kb hi => ?_⟩
        rcases hi with hi | ⟨_, hi⟩
        · have := h.g.wf _ _ hi
          omega
        · omega
  · rcases ah h1 with g1 | ⟨h3, e1⟩
    · rcases ah h2 with g2 | ⟨h4, e2⟩
      · exact h.g.inj i j ri rj b g1 g2 b1 b2
      · have := h.g.bq ⟨i, ri, g1, b1⟩
        rw [e2] at b2
        simp [RO.has] at b2
        omega
    · rcases ah h2 with g2 | ⟨h4, e2⟩
      · have := h.g.bq ⟨j, rj, g2, b2⟩
        rw [e1] at b1
        simp [RO.has] at b1
        omega
      · omega
  · rcases hi with hi | ⟨rfl, _⟩
    · have := h.g.wf b o hi
      simp
      omega
    · simp
  · refine h.b.bL e (fun k cs hk => old _ (h.cA (.inr ⟨k, cs, hk, rfl⟩))) (fun k cs o hk => hI _ o (h.cA (.inr ⟨k, cs, hk, rfl⟩))) (fun k cs hk hl => ?_)
    rcases gG (R := R) (ro := .tok n w.heap.size cap 0) hl with hl | hl
    · exact hl
    · have := h.cA (.inr ⟨k, cs, hk, rfl⟩)
      simp [RO.has] at hl
      omega
  · refine ⟨e, rfl, rfl, rfl, by simp, fun b hb _ => old b hb, fun b hb ho => ?_, fun b o hi hb _ => hI b o hb hi⟩
    rcases ho with ho | ho
    · rcases gG (R := R) (ro := .tok n w.heap.size cap 0) ho with ho | ho
      · exact .inl ho
      · simp [RO.has] at ho
        omega
    · exact .inr ho
theorem qc (h : aJ E R w β s a) (t : TypeId) (len : Nat) (parts : Array (Nat × Operand)) (ho : o.op = .buildSlice t len parts) {k : LK} {esz : Nat} {es : List AV} (hv : bN E s t len parts.toList = some (.list k esz es)) {i : TI} (hi : E.ti t = some i) {elem aQ kZ : Nat} {ag : Bool} {z : Option AV} (hk : i.k = .sl elem aQ ag kZ z) (hm : len ≤ 65536) :
    bj E R w β s a o ((s.cI (.tok len esz elem)).put o.dst (.v (.list (.own s.G.length) esz es))) := by
  obtain ⟨es', KO, us, OT, OP, aU, g2, hlen, u2, u3, i', RH, Oc, z', nw, eD⟩ := fQ h t len parts ho hv
  cases OP
  rw [hi] at nw
  cases nw
  rw [hk] at eD
  cases eD
  have OU : us.length = len * esz := by rw [← u2.length, cb g2, hlen]
  obtain ⟨r1, r2⟩ := h.H6 (cur := ⟨us⟩) (elem := elem) (n := len) (sz := esz) (cap := len) (Nat.le_refl _) (by simp [maxLen]; omega) (by simpa using OU)
  refine ⟨_, .slice (some ⟨w.heap.size, 0, none⟩) len len, _, _, β, aU, .inl rfl, r1.put o.dst (x := .v (.list (.own s.G.length) esz es)) ?_, by rw [aL]; exact r2⟩
  refine Rel.list (iB g2 (du.make (u2.mono r2.ext) u3 (fun j x hx => ?_) (fun j hj => .inr ⟨rfl, ?_⟩))) hlen.symm (Nat.le_refl _) ⟨.tok len w.heap.size len 0, eL h _, ?_⟩
  · rw [gF (heap_alloc_new w _)]
    simpa using hx
  · rw [cb g2, hlen] at hj
    omega
  · exact ⟨Nat.le_refl _, fun _ => ⟨rfl, .inl rfl, rfl⟩⟩
theorem aJ.Fe (h : aJ E R w β s a) {cur : Array Value} {elem e0 : TypeId} {n sz cap id f : Nat} {r0 : RO} (hg : nth s.G id = some (.tok f sz e0)) (aR : nth R.obj id = some r0) (hf : ∀ b c, bF r0 (.tok n b c 0)) (hn : n ≤ cap) (hm : cap ≤ maxLen) (hs : cur.size = cap * sz) :
    aJ E (R.upto w.heap.size (n * sz) (aq R.obj id (.tok n w.heap.size cap 0))) (w.drew.alloc (.cells cur elem)) β (s.aX (aq s.G id (.tok n sz elem))) a ∧
    Step R w β s.boxes (R.upto w.heap.size (n * sz) (aq R.obj id (.tok n w.heap.size cap 0))) (w.drew.alloc (.cells cur elem)) β s.boxes := by
  have e := AY (R := R) (w := w) (n := n * sz) h.g.wf (.cells cur elem) aR w.heap.size cap (hf _ _)
  have old : ∀ b, b < w.heap.size → (w.drew.alloc (.cells cur elem)).heap[b]? = w.heap[b]? := fun b hb => heap_alloc_old w.drew _ b hb
  have new : (w.drew.alloc (.cells cur elem)).heap[w.heap.size]? = some (.cells cur elem (0, 0)) := heap_alloc_new w.drew _
  have hI : ∀ b o, b < w.heap.size → (R.upto w.heap.size (n * sz) (aq R.obj id (.tok n w.heap.size cap 0))).I b o → R.I b o := fun b o hb hi => by
    rcases hi with hi | ⟨hi, _⟩
    · exact hi
    · omega
  have live : ∀ b, b < w.heap.size → Live (R.upto w.heap.size (n * sz) (aq R.obj id (.tok n w.heap.size cap 0))) b → Live R b := fun b hb hl => by
    obtain ⟨i, r, h1, h2⟩ := hl
    rcases ao aR h1 with ⟨_, rfl⟩ | ⟨_, h1⟩
    · simp [RO.has] at h2
      omega
    · exact ⟨i, r, h1, h2⟩
  refine ⟨⟨⟨by simp [St.aX, af.upto, h.g.len], fun i gg r h1 h2 => ?_, fun i j ri rj b h1 h2 b1 b2 => ?_, fun b o hi => ?_, fun g cs hg => (h.g.cw g cs hg).mono e, by first | exact h.g.lo | exact Nat.le_succ_of_le h.g.lo⟩, ?_, h.t.mono e, h.n, h.d.mono e⟩, ?_⟩
  · rcases ao aR h2 with ⟨rfl, rfl⟩ | ⟨bS, h2⟩
    · simp only [St.aX] at h1
      rw [aj hg] at h1
      cases h1
      refine ⟨rfl, cur, new, hn, hm, by omega, fun o' kb hi => ?_⟩
      rcases hi with hi | ⟨_, hi⟩
      · have := h.g.wf _ _ hi
        omega
      · omega
    · simp only [St.aX] at h1
      rw [az (Ne.symm bS)] at h1
      exact (h.g.obj i gg r h1 h2).mono e (fun b hb => old b (h.g.bq ⟨i, r, h2, hb⟩)) (fun b o hb => hI b o (h.g.bq ⟨i, r, h2, hb⟩))
  · rcases ao aR h1 with ⟨g3, e1⟩ | ⟨g3, g1⟩
    · rcases ao aR h2 with ⟨g4, e2⟩ | ⟨g4, g2⟩
      · omega
      · have := h.g.bq ⟨j, rj, g2, b2⟩
        rw [e1] at b1
        simp [RO.has] at b1
        omega
    · rcases ao aR h2 with ⟨g4, e2⟩ | ⟨g4, g2⟩
      · have := h.g.bq ⟨i, ri, g1, b1⟩
        rw [e2] at b2
        simp [RO.has] at b2
        omega
      · exact h.g.inj i j ri rj b g1 g2 b1 b2
  · rcases hi with hi | ⟨rfl, _⟩
    · have := h.g.wf b o hi
      simp
      omega
    · simp
  · exact h.b.bL e (fun k cs hk => old _ (h.cA (.inr ⟨k, cs, hk, rfl⟩))) (fun k cs o hk => hI _ o (h.cA (.inr ⟨k, cs, hk, rfl⟩))) (fun k cs hk hl => live _ (h.cA (.inr ⟨k, cs, hk, rfl⟩)) hl)
  · refine ⟨e, rfl, rfl, rfl, by simp, fun b hb _ => old b hb, fun b hb ho => ?_, fun b o hi hb _ => hI b o hb hi⟩
    rcases ho with ho | ho
    · exact .inl (live b hb ho)
    · exact .inr ho
theorem aJ.H7 (h : aJ E R w β s a) {cur : Array Value} {news : List Value} {elem : TypeId} {n sz id f g c k : Nat} (hg : nth s.G id = some (.tok f sz elem)) (aR : nth R.obj id = some (.tok f g c k)) (hf : f < n) (hn : n ≤ c)
    (gm : w.heap[g]? = some (.cells cur elem (0, 0))) (hs : cur.size = k + c * sz) (hm : c ≤ maxLen) (hl : f * sz + news.length = n * sz) :
    Ext R w (R.upto g (k + n * sz) (aq R.obj id (.tok n g c k))) (w.setRow g (cur.toList.take (k + f * sz) ++ news ++ cur.toList.drop (k + f * sz + news.length)).toArray) ∧
    aJ E (R.upto g (k + n * sz) (aq R.obj id (.tok n g c k))) (w.setRow g (cur.toList.take (k + f * sz) ++ news ++ cur.toList.drop (k + f * sz + news.length)).toArray) β (s.aX (aq s.G id (.tok n sz elem))) a ∧
    Step R w β s.boxes (R.upto g (k + n * sz) (aq R.obj id (.tok n g c k))) (w.setRow g (cur.toList.take (k + f * sz) ++ news ++ cur.toList.drop (k + f * sz + news.length)).toArray) β s.boxes := by
  obtain ⟨_, nz, J2, _, _, _, iM⟩ := h.g.obj id _ _ hg aR
  rw [gm] at J2
  cases J2
  have hle : n * sz ≤ c * sz := Nat.mul_le_mul_right _ hn
  generalize kD : (cur.toList.take (k + f * sz) ++ news ++ cur.toList.drop (k + f * sz + news.length)).toArray = cur2
  have old : ∀ b, b ≠ g → (w.setRow g cur2).heap[b]? = w.heap[b]? := fun b hb => setRow_other w g b cur2 hb
  have new : (w.setRow g cur2).heap[g]? = some (.cells cur2 elem (0, 0)) := setRow_heap w g cur cur2 elem (0, 0) gm
  have hlen : k + f * sz ≤ cur.toList.length := by simp; omega
  have cU : cur2.size = k + c * sz := by
    rw [← kD]
    simp
    omega
  have rO : Live R g := ⟨id, _, aR, rfl⟩
  have e : Ext R w (R.upto g (k + n * sz) (aq R.obj id (.tok n g c k))) (w.setRow g cur2) := by
    refine ⟨fun _ _ hi => .inl hi, fun b o hi => ?_, fun i r hr => ?_, fun b r hb => ⟨r, (old b fun e => by subst e; rw [gm] at hb; cases hb).trans hb, rfl, rfl, rfl, rfl, rfl⟩⟩
    · by_cases hb : b = g
      · subst hb
        have ho : o < k + f * sz := Nat.lt_of_not_le fun hle => iM o hle hi
        simp only [World.cell?, new, gm]
        have : cur2[o]? = cur[o]? := by
          rw [← kD, List.append_assoc]
          simp only [List.getElem?_toArray]
          rw [List.getElem?_append_left (by simp; omega), List.getElem?_take, if_pos ho, Array.getElem?_toList]
        simp [this]
      · exact bl (old b hb) o
    · by_cases ei : id = i
      · subst ei
        rw [aR] at hr
        cases hr
        exact ⟨_, aj aR, by omega, fun e => by omega⟩
      · exact ⟨r, by rw [af.upto, az ei]; exact hr, bF.refl r⟩
  have hI : ∀ b o, b ≠ g → (R.upto g (k + n * sz) (aq R.obj id (.tok n g c k))).I b o → R.I b o := fun b o hb hi => by
    rcases hi with hi | ⟨hi, _⟩
    · exact hi
    · exact absurd hi hb
  have live : ∀ b, Live (R.upto g (k + n * sz) (aq R.obj id (.tok n g c k))) b → Live R b := fun b hl => by
    obtain ⟨i, r, h1, h2⟩ := hl
    rcases ao aR h1 with ⟨_, rfl⟩ | ⟨_, h1⟩
    · exact ⟨id, _, aR, h2⟩
    · exact ⟨i, r, h1, h2⟩
  have nA : ∀ k cs, cF s.boxes k = some cs → β k ≠ g := fun k cs hk eq => (h.b.box k cs hk).2.2 (eq ▸ rO)
  refine ⟨e, ⟨⟨by simp [St.aX, af.upto, h.g.len], fun i gg r h1 h2 => ?_, fun i j ri rj b h1 h2 b1 b2 => ?_, fun b o hi => ?_, fun g cs hg => (h.g.cw g cs hg).mono e, by first | exact h.g.lo | exact Nat.le_succ_of_le h.g.lo⟩, ?_, h.t.mono e, h.n, h.d.mono e⟩, ?_⟩
  · rcases ao aR h2 with ⟨rfl, rfl⟩ | ⟨bS, h2⟩
    · simp only [St.aX] at h1
      rw [aj hg] at h1
      cases h1
      refine ⟨rfl, cur2, new, hn, hm, cU, fun o' kb hi => ?_⟩
      rcases hi with hi | ⟨_, hi⟩
      · exact iM o' (by have := Nat.mul_le_mul_right sz (Nat.le_of_lt hf); omega) hi
      · omega
    · simp only [St.aX] at h1
      rw [az (Ne.symm bS)] at h1
      have KS : ∀ b, r.has b → b ≠ g := fun b hb eq => bS (h.g.inj i id _ _ b h2 aR hb (by rw [eq]; rfl))
      exact (h.g.obj i gg r h1 h2).mono e (fun b hb => old b (KS b hb)) (fun b o hb => hI b o (KS b hb))
  · rcases ao aR h1 with ⟨g3, e1⟩ | ⟨g3, g1⟩
    · rcases ao aR h2 with ⟨g4, e2⟩ | ⟨g4, g2⟩
      · omega
      · rw [e1] at b1
        exact g3.trans (h.g.inj id j _ _ b aR g2 b1 b2)
    · rcases ao aR h2 with ⟨g4, e2⟩ | ⟨g4, g2⟩
      · rw [e2] at b2
        exact (h.g.inj i id _ _ b g1 aR b1 b2).trans g4.symm
      · exact h.g.inj i j ri rj b g1 g2 b1 b2
  · rcases hi with hi | ⟨rfl, _⟩
    · have := h.g.wf b o hi
      simpa using this
    · have := a7 gm
      simpa using this
  · exact h.b.bL e (fun q cs hk => old _ (nA q cs hk)) (fun q cs o hk => hI _ o (nA q cs hk)) (fun q cs hk hl => live _ hl)
  · refine ⟨e, rfl, rfl, rfl, by simp, fun b hb lG => old b (fun eq => lG (.inl (eq ▸ rO))), fun b hb ho => ?_, fun b o hi hb lG => hI b o (fun eq => lG (.inl (eq ▸ rO))) hi⟩
    rcases ho with ho | ho
    · exact .inl (live b ho)
    · exact .inr ho
structure One (w w' : World) (x : Obj) : Prop where
  old : ∀ b, b < w.heap.size → w'.heap[b]? = w.heap[b]?
  new : w'.heap[w.heap.size]? = some x
  size : w'.heap.size = w.heap.size + 1
  os : w'.os = w.os
  tape : w'.tape = w.tape
  output : w'.output = w.output
  drawn : w.drawn ≤ w'.drawn
theorem One.alloc (w : World) (x : Obj) : One w (w.alloc x) x := ⟨fun b hb => heap_alloc_old w x b hb, heap_alloc_new w x, by simp, rfl, rfl, rfl, Nat.le_refl _⟩
theorem One.drew (w : World) (x : Obj) : One w (w.drew.alloc x) x := ⟨fun b hb => heap_alloc_old w.drew x b hb, heap_alloc_new w.drew x, by simp, rfl, rfl, rfl, Nat.le_succ _⟩
theorem H8 {w' : World} {x : Obj} (o1 : One w w' x) (wf : ∀ b o, R.I b o → b < w.heap.size) {n id : Nat} {r0 r1 : RO} (aR : nth R.obj id = some r0) (hle : bF r0 r1) : Ext R w (R.upto w.heap.size n (aq R.obj id r1)) w' :=
  ⟨fun _ _ h => .inl h, fun b o h => bl (o1.old b (wf b o h)) o, fun i r h => by
    by_cases e : id = i
    · subst e
      rw [aR] at h
      cases h
      exact ⟨_, aj aR, hle⟩
    · exact ⟨r, by rw [af.upto, az e]; exact h, bF.refl r⟩, .old fun b hb => o1.old b hb⟩
theorem aJ.KT (h : aJ E R w β s a) {w' : World} {x : Obj} (o1 : One w w' x) {n id : Nat} {r0 r1 : RO} {EH go : GO} (hg : nth s.G id = some EH) (aR : nth R.obj id = some r0) (hle : bF r0 r1) (gW : ∀ b, r1.has b → b = w.heap.size ∨ r0.has b)
    (eI : eH (R.upto w.heap.size n (aq R.obj id r1)) w' go r1) :
    aJ E (R.upto w.heap.size n (aq R.obj id r1)) w' β (s.aX (aq s.G id go)) a ∧ Step R w β s.boxes (R.upto w.heap.size n (aq R.obj id r1)) w' β s.boxes := by
  have e := H8 (R := R) (n := n) o1 h.g.wf aR hle
  have hI : ∀ b o, b < w.heap.size → (R.upto w.heap.size n (aq R.obj id r1)).I b o → R.I b o := fun b o hb hi => by
    rcases hi with hi | ⟨hi, _⟩
    · exact hi
    · omega
  have live : ∀ b, b < w.heap.size → Live (R.upto w.heap.size n (aq R.obj id r1)) b → Live R b := fun b hb hl => by
    obtain ⟨i, r, h1, h2⟩ := hl
    rcases ao aR h1 with ⟨_, rfl⟩ | ⟨_, h1⟩
    · rcases gW b h2 with h3 | h3
      · omega
      · exact ⟨id, r0, aR, h3⟩
    · exact ⟨i, r, h1, h2⟩
  refine ⟨⟨⟨by simp [St.aX, af.upto, h.g.len], fun i gg r h1 h2 => ?_, fun i j ri rj b h1 h2 b1 b2 => ?_, fun b o hi => ?_, fun g cs hg => (h.g.cw g cs hg).mono e, Nat.le_trans h.g.lo o1.drawn⟩, ?_, h.t.mono e, h.n, h.d.mono e⟩, ?_⟩
  · rcases ao aR h2 with ⟨rfl, rfl⟩ | ⟨bS, h2⟩
    · simp only [St.aX] at h1
      rw [aj hg] at h1
      cases h1
      exact eI
    · simp only [St.aX] at h1
      rw [az (Ne.symm bS)] at h1
      exact (h.g.obj i gg r h1 h2).mono e (fun b hb => o1.old b (h.g.bq ⟨i, r, h2, hb⟩)) (fun b o hb => hI b o (h.g.bq ⟨i, r, h2, hb⟩))
  · rcases ao aR h1 with ⟨g3, e1⟩ | ⟨g3, g1⟩
    · rcases ao aR h2 with ⟨g4, e2⟩ | ⟨g4, g2⟩
      · omega
      · rw [e1] at b1
        rcases gW b b1 with b3 | b3
        · have := h.g.bq ⟨j, rj, g2, b2⟩
          omega
        · exact g3.trans (h.g.inj id j _ _ b aR g2 b3 b2)
    · rcases ao aR h2 with ⟨g4, e2⟩ | ⟨g4, g2⟩
      · rw [e2] at b2
        rcases gW b b2 with b3 | b3
        · have := h.g.bq ⟨i, ri, g1, b1⟩
          omega
        · exact (h.g.inj i id _ _ b g1 aR b1 b3).trans g4.symm
      · exact h.g.inj i j ri rj b g1 g2 b1 b2
  · rcases hi with hi | ⟨rfl, _⟩
    · have := h.g.wf b o hi
      rw [o1.size]
      omega
    · rw [o1.size]; omega
  · exact h.b.bL e (fun q cs hk => o1.old _ (h.cA (.inr ⟨q, cs, hk, rfl⟩))) (fun q cs o hk => hI _ o (h.cA (.inr ⟨q, cs, hk, rfl⟩))) (fun q cs hk hl => live _ (h.cA (.inr ⟨q, cs, hk, rfl⟩)) hl)
  · refine ⟨e, o1.os, o1.tape, o1.output, by rw [o1.size]; omega, fun b hb _ => o1.old b hb, fun b hb ho => ?_, fun b o hi hb _ => hI b o hb hi⟩
    rcases ho with ho | ho
    · exact .inl (live b hb ho)
    · exact .inr ho
theorem aJ.H9 (h : aJ E R w β s a) {cur cur2 : Array Value} {elem : TypeId} {n id g : Nat} {r0 r1 : RO} {EH go : GO} (hg : nth s.G id = some EH) (aR : nth R.obj id = some r0) (Od : r0.has g) (hle : bF r0 r1) (gW : ∀ b, r1.has b → r0.has b)
    (gm : w.heap[g]? = some (.cells cur elem (0, 0))) (sQ : ∀ o, R.I g o → cur2[o]? = cur[o]?)
    (eI : Ext R w (R.upto g n (aq R.obj id r1)) (w.setRow g cur2) → eH (R.upto g n (aq R.obj id r1)) (w.setRow g cur2) go r1) :
    Ext R w (R.upto g n (aq R.obj id r1)) (w.setRow g cur2) ∧ aJ E (R.upto g n (aq R.obj id r1)) (w.setRow g cur2) β (s.aX (aq s.G id go)) a ∧ Step R w β s.boxes (R.upto g n (aq R.obj id r1)) (w.setRow g cur2) β s.boxes := by
  have old : ∀ b, b ≠ g → (w.setRow g cur2).heap[b]? = w.heap[b]? := fun b hb => setRow_other w g b cur2 hb
  have new : (w.setRow g cur2).heap[g]? = some (.cells cur2 elem (0, 0)) := setRow_heap w g cur cur2 elem (0, 0) gm
  have rO : Live R g := ⟨id, _, aR, Od⟩
  have e : Ext R w (R.upto g n (aq R.obj id r1)) (w.setRow g cur2) := by
    refine ⟨fun _ _ hi => .inl hi, fun b o hi => ?_, fun i r hr => ?_, fun b r hb => ⟨r, (old b fun e => by subst e; rw [gm] at hb; cases hb).trans hb, rfl, rfl, rfl, rfl, rfl⟩⟩
    · by_cases hb : b = g
      · subst hb
        simp only [World.cell?, new, gm, sQ o hi]
      · exact bl (old b hb) o
    · by_cases ei : id = i
      · subst ei
        rw [aR] at hr
        cases hr
        exact ⟨_, aj aR, hle⟩
      · exact ⟨r, by rw [af.upto, az ei]; exact hr, bF.refl r⟩
  have hI : ∀ b o, b ≠ g → (R.upto g n (aq R.obj id r1)).I b o → R.I b o := fun b o hb hi => by
    rcases hi with hi | ⟨hi, _⟩
    · exact hi
    · exact absurd hi hb
  have live : ∀ b, Live (R.upto g n (aq R.obj id r1)) b → Live R b := fun b hl => by
    obtain ⟨i, r, h1, h2⟩ := hl
    rcases ao aR h1 with ⟨_, rfl⟩ | ⟨_, h1⟩
    · exact ⟨id, _, aR, gW b h2⟩
    · exact ⟨i, r, h1, h2⟩
  have nA : ∀ k cs, cF s.boxes k = some cs → β k ≠ g := fun k cs hk eq => (h.b.box k cs hk).2.2 (eq ▸ rO)
  refine ⟨e, ⟨⟨by simp [St.aX, af.upto, h.g.len], fun i gg r h1 h2 => ?_, fun i j ri rj b h1 h2 b1 b2 => ?_, fun b o hi => ?_, fun g cs hg => (h.g.cw g cs hg).mono e, h.g.lo⟩, ?_, h.t.mono e, h.n, h.d.mono e⟩, ?_⟩
  · rcases ao aR h2 with ⟨rfl, rfl⟩ | ⟨bS, h2⟩
    · simp only [St.aX] at h1
      rw [aj hg] at h1
      cases h1
      exact eI e
    · simp only [St.aX] at h1
      rw [az (Ne.symm bS)] at h1
      have KS : ∀ b, r.has b → b ≠ g := fun b hb eq => bS (h.g.inj i id _ _ b h2 aR hb (by rw [eq]; exact Od))
      exact (h.g.obj i gg r h1 h2).mono e (fun b hb => old b (KS b hb)) (fun b o hb => hI b o (KS b hb))
  · rcases ao aR h1 with ⟨g3, e1⟩ | ⟨g3, g1⟩
    · rcases ao aR h2 with ⟨g4, e2⟩ | ⟨g4, g2⟩
      · omega
      · rw [e1] at b1
        exact g3.trans (h.g.inj id j _ _ b aR g2 (gW b b1) b2)
    · rcases ao aR h2 with ⟨g4, e2⟩ | ⟨g4, g2⟩
      · rw [e2] at b2
        exact (h.g.inj i id _ _ b g1 aR b1 (gW b b2)).trans g4.symm
      · exact h.g.inj i j ri rj b g1 g2 b1 b2
  · rcases hi with hi | ⟨rfl, _⟩
    · have := h.g.wf b o hi
      simpa using this
    · have := a7 gm
      simpa using this
  · exact h.b.bL e (fun q cs hk => old _ (nA q cs hk)) (fun q cs o hk => hI _ o (nA q cs hk)) (fun q cs hk hl => live _ hl)
  · refine ⟨e, rfl, rfl, rfl, by simp, fun b hb lG => old b (fun eq => lG (.inl (eq ▸ rO))), fun b hb ho => ?_, fun b o hi hb lG => hI b o (fun eq => lG (.inl (eq ▸ rO))) hi⟩
    rcases ho with ho | ho
    · exact .inl (live b ho)
    · exact .inr ho
theorem og.set {ts : List TR} {j : Nat} {t t' : TR} (ht : nth ts j = some t) (hle : eG t t') : og ts (aq ts j t') := fun i u hu => by
  by_cases e : j = i
  · subst e
    rw [ht] at hu
    cases hu
    exact ⟨t', aj ht, hle⟩
  · exact ⟨u, by rw [az e]; exact hu, eG.refl u⟩
theorem Cu {ts : List TR} {j n g c b : Nat} (h : RO.has (.aG (aq ts j (.tok n g c))) b) : b = g ∨ RO.has (.aG ts) b := by
  obtain ⟨i, f, c', hi⟩ := h
  rcases bH hi with ⟨_, e, _⟩ | ⟨_, hi⟩
  · cases e; exact .inl rfl
  · exact .inr ⟨i, f, c', hi⟩
theorem vO.of {R' : af} {w' : World} {sz f : Nat} {e : TypeId} {t : TR} (h : vO R w sz e f t) (hold : ∀ f b c, t = .tok f b c → w'.heap[b]? = w.heap[b]? ∧ ∀ o, R'.I b o → R.I b o) : vO R' w' sz e f t := by
  cases t with
  | aK => exact h
  | full f' => exact h
  | tok f' b c =>
    obtain ⟨h0, cur, h1, h2, h3, h4, h5⟩ := h
    obtain ⟨k1, k2⟩ := hold f' b c rfl
    exact ⟨h0, cur, k1.trans h1, h2, h3, h4, fun o ho hi => h5 o ho (k2 o hi)⟩
theorem sD.set {R' : af} {w' : World} {sz : Nat} {e : TypeId} {fs : List Nat} {ts : List TR} (h : sD R w sz e fs ts) {j n g c : Nat} (kD : vO R' w' sz e n (.tok n g c)) (Ff : ∀ i f c, nth ts i = some (.tok f g c) → i = j)
    (hold : ∀ i f b c, i ≠ j → nth ts i = some (.tok f b c) → w'.heap[b]? = w.heap[b]? ∧ ∀ o, R'.I b o → R.I b o) : sD R' w' sz e (aq fs j n) (aq ts j (.tok n g c)) := by
  obtain ⟨h1, h2, h3⟩ := h
  refine ⟨by simp [h1], fun i i' f1 b c1 f2 c2 q1 q2 => ?_, fun i f1 t1 q1 q2 => ?_⟩
  · rcases bH q1 with ⟨n1, e1, _⟩ | ⟨n1, q1⟩
    · cases e1
      rcases bH q2 with ⟨n2, _, _⟩ | ⟨n2, q2⟩
      · exact n1.symm.trans n2
      · exact absurd (Ff _ _ _ q2).symm n2
    · rcases bH q2 with ⟨n2, e2, _⟩ | ⟨n2, q2⟩
      · cases e2
        exact (Ff _ _ _ q1).trans n2
      · exact h2 i i' _ _ _ _ _ q1 q2
  · rcases bH q1 with ⟨n1, e1, _⟩ | ⟨n1, q1⟩
    · rcases bH q2 with ⟨_, e2, _⟩ | ⟨n2, _⟩
      · subst e1 e2
        exact kD
      · exact absurd n1 n2
    · rcases bH q2 with ⟨n2, _, _⟩ | ⟨n2, q2⟩
      · exact absurd n2 n1
      · exact (h3 i f1 t1 q1 q2).of fun f b c ht => by subst ht; exact hold i f b c (Ne.symm n2) q2
end ops
end Go.Am
