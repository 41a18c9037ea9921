/- The abstract machine: what it does is what the model does: slices that are cut, made, measured. -/
import Derived.Test.YtpngggdfbbdfaaaDoorAmJ
set_option linter.all false
namespace Go.Am
open Go

section ops
variable {E : Env} {R : Realm} {w : World} {β : Nat → Nat} {s : St} {a : Act} {o : Oper}

def RelO (R : Realm) (w : World) (β : Nat → Nat) : Option SV → Option Value → Prop
  | none, none => True
  | some x, some c => RelS R w β x c
  | _, _ => False

theorem run_bound {y y' n : Nat} {x : SV} {c : Value} (hx : RelS R w β x c) (hb : boundA y x = some (true, n)) (hy : y ≤ y') (code : BoundsCode) :
    (Instr.sliceBound c y' code).run E.P w = .ok n w ∧ n ≤ y := by
  unfold boundA at hb
  split at hb
  · rename_i k m
    injection hb with hb
    injection hb with h1 h2
    subst h2
    obtain ⟨h0, h3⟩ := of_decide_eq_true h1
    have hx' : Rel R w (.int k m) c := hx
    cases hx'
    exact ⟨run_sliceBound (P := E.P) w k m y' code h0 (by omega), by omega⟩
  · cases hb

theorem run_bounds (isS : Bool) {len cap l h : Nat} (hlc : len ≤ cap) {lo hi : Option SV} {lv hv : Option Value} (hl : RelO R w β lo lv) (hh : RelO R w β hi hv) (hb : lohi len lo hi = some (true, l, h)) :
    (Instr.sliceBounds isS len cap lv hv none).run E.P w = .ok (l, h, cap) w ∧ l ≤ h ∧ h ≤ len := by
  unfold lohi at hb
  split at hb
  · cases hb
  · rename_i c1 h' heq
    split at hb
    · cases hb
    · rename_i c2 l' heq2
      injection hb with hb
      injection hb with hc hb
      injection hb with e1 e2
      subst e1; subst e2
      simp only [Bool.and_eq_true] at hc
      obtain ⟨rfl, rfl⟩ := hc
      have H : ∃ _ : True, (match hv with | some v => Instr.sliceBound v cap (if isS = true then .sliceAcap else .sliceAlen) | none => pure len).run E.P w = .ok h' w ∧ h' ≤ len := by
        refine ⟨trivial, ?_⟩
        cases hi with
        | none => cases hv with
          | none => simp at heq; subst heq; exact ⟨rfl, Nat.le_refl _⟩
          | some v => exact hh.elim
        | some x => cases hv with
          | none => exact hh.elim
          | some v => exact run_bound (E := E) hh heq hlc _
      have L : ∃ _ : True, (match lv with | some v => Instr.sliceBound v h' .sliceB | none => pure 0).run E.P w = .ok l' w ∧ l' ≤ h' := by
        refine ⟨trivial, ?_⟩
        cases lo with
        | none => cases lv with
          | none => simp at heq2; subst heq2; exact ⟨rfl, Nat.zero_le _⟩
          | some v => exact hl.elim
        | some x => cases lv with
          | none => exact hl.elim
          | some v => exact run_bound (E := E) hl heq2 (Nat.le_refl _) _
      obtain ⟨_, H1, H2⟩ := H
      obtain ⟨_, L1, L2⟩ := L
      refine ⟨?_, L2, H2⟩
      cases hv <;> cases lv <;> simp_all [Instr.sliceBounds]

theorem optO_rel (h : Rep E R w β s a) {x : Option Operand} {y : Option SV} (hx : optO E s.slots x = some y) : RelO R w β y (x.map a.eval) := by
  cases x with
  | none => simp [optO] at hx; subst hx; trivial
  | some x => simp [optO] at hx; subst hx; exact evO_rel h x

theorem subA_length {α : Type} {l : List α} {lo hi : Nat} (h : hi ≤ l.length) : (subA lo hi l).length = hi - lo := by
  simp [subA]
  omega

theorem extract_bytes (l : List UInt8) (lo hi : Nat) : (⟨⟨l⟩⟩ : ByteArray).extract lo hi = ⟨⟨subA lo hi l⟩⟩ := by
  apply ByteArray.ext
  rw [ByteArray.data_extract]
  apply Array.ext'
  simp [List.extract_eq_take_drop, subA, List.drop_take]

theorem exec_slice (h : Rep E R w β s a) (t : TypeId) (x : Operand) (lo hi : Option Operand) (ho : o.op = .slice t x lo hi none) {l h' : Option SV} (hl : optO E s.slots lo = some l) (hh : optO E s.slots hi = some h') {v : AV} (hv : sliceA E t (evO E s.slots x) l h' none = some (true, v)) :
    Done E R w β s a o (s.put o.dst (.v v)) := by
  have rx := evO_rel h x
  have rl := optO_rel h hl
  have rh := optO_rel h hh
  unfold sliceA at hv
  split at hv
  · rename_i i hi' hmx
    obtain ⟨info, u, e1, e2, e3, e4, e5, e6⟩ := ti_info E hi'
    split at hv
    · -- a string
      rename_i bs hk hx
      rw [hx] at rx
      have rx' : Rel R w (.str bs) (a.eval x) := rx
      generalize hxv : a.eval x = xv at rx'
      cases rx'
      rw [hk] at e5
      have := tkOf_str e5
      subst this
      split at hv
      · rename_i c p q hb
        injection hv with hv
        injection hv with h1 h2
        subst h1; subst h2
        obtain ⟨k1, k2, k3⟩ := run_bounds (E := E) false (Nat.le_refl _) rl rh hb
        refine done_value h (c := .string ⟨⟨subA p q bs⟩⟩) ?_ (Rel.str _)
        rw [← extract_bytes]
        simp only [execOp, ho, Instr.sliceAt, Sem.run_bind, run_underlying e2, Result.andThen_ok, Instr.slice, hxv, Option.map_none, Option.isSome_none, Bool.false_eq_true, if_false, size_bytes, k1, Sem.run_pure]
      · cases hv
    · -- a list
      rename_i elem esz ag by_ z k sz es hk hx
      rw [hx] at rx
      rw [hk] at e5
      obtain ⟨ie, ue, rfl, f1, f2, f3, f4, f5, f6⟩ := tkOf_sl e5
      split at hv
      · rename_i hsz
        split at hv
        · rename_i c p q hb
          injection hv with hv
          injection hv with h1 h2
          subst h1; subst h2
          have rx' : Rel R w (.list k sz es) (a.eval x) := rx
          generalize hxv : a.eval x = xv at rx'
          cases rx' with
          | lnil =>
            obtain ⟨k1, k2, k3⟩ := run_bounds (E := E) true (Nat.le_refl _) rl rh hb
            simp only [List.length_nil, Nat.le_zero_eq] at k3
            subst k3
            have : p = 0 := by omega
            subst this
            refine done_value h (c := .slice none 0 0) ?_ ?_
            · simp only [execOp, ho, Instr.sliceAt, Sem.run_bind, run_underlying e2, Result.andThen_ok, Instr.slice, hxv, Option.map_none]
              simp only [List.length_nil] at k1
              simp [k1, run_sizeOf w f1]
            · exact Rel.lnil
          | lopn =>
            obtain ⟨k1, k2, k3⟩ := run_bounds (E := E) true (Nat.le_refl _) rl rh hb
            simp only [List.length_nil, Nat.le_zero_eq] at k3
            subst k3
            have : p = 0 := by omega
            subst this
            refine done_value h (c := .slice none 0 0) ?_ ?_
            · simp only [execOp, ho, Instr.sliceAt, Sem.run_bind, run_underlying e2, Result.andThen_ok, Instr.slice, hxv, Option.map_none]
              simp only [List.length_nil] at k1
              simp [k1, run_sizeOf w f1]
            · exact Rel.lopn
          | lown h0 h00 =>
            obtain ⟨k1, k2, k3⟩ := run_bounds (E := E) true (Nat.le_refl _) rl rh hb
            simp only [List.length_nil, Nat.le_zero_eq] at k3
            subst k3
            have : p = 0 := by omega
            subst this
            refine done_value h (c := .slice none 0 0) ?_ ?_
            · simp only [execOp, ho, Instr.sliceAt, Sem.run_bind, run_underlying e2, Result.andThen_ok, Instr.slice, hxv, Option.map_none]
              simp only [List.length_nil] at k1
              simp [k1, run_sizeOf w f1]
            · exact Rel.lopn
          | @list _ _ _ b o' len cap hr hlen hcap hkk =>
            subst hlen
            obtain ⟨k1, k2, k3⟩ := run_bounds (E := E) true hcap rl rh hb
            have hszeq : es ≠ [] → sz = esz := fun hne => by
              simp only [Bool.or_eq_true] at hsz
              rcases hsz with hc | hc
              · exact Nat.eq_of_beq_eq_true hc
              · simp at hc; exact absurd hc hne
            have hrun : (execOp a.eval o).run E.P w = .ok (.value (.slice (if cap = p then some ⟨b, o', none⟩ else some ⟨b, o' + p * esz, none⟩) (q - p) (cap - p))) w := by
              simp only [execOp, ho, Instr.sliceAt, Sem.run_bind, run_underlying e2, Result.andThen_ok, Instr.slice, hxv, Option.map_none, k1, run_sizeOf w f1, f2, Sem.run_pure, Option.map_some, addr_add]
            have hlk : ∀ b2 o2, LkOk R (match k with | .nil => LK.nil | .full => (match h' with | none => LK.full | some _ => LK.opn) | _ => LK.opn) b2 o2 (q - p) (cap - p) := by
              intro b2 o2
              cases k with
              | nil => exact hkk.elim
              | opn => trivial
              | own id => trivial
              | full =>
                have hc : cap = es.length := hkk
                cases h' with
                | some _ => trivial
                | none =>
                  have hq : q = es.length := by
                    unfold lohi at hb
                    simp only at hb
                    split at hb
                    · cases hb
                    · injection hb with hb
                      injection hb with _ hb
                      injection hb with _ hb
                      exact hb.symm
                  show cap - p = q - p
                  omega
            by_cases hcp : cap = p
            · refine done_value h (c := .slice (some ⟨b, o', none⟩) (q - p) (cap - p)) (by rw [hrun, if_pos hcp]) ?_
              have he : subA p q es = [] := List.eq_nil_of_length_eq_zero (by rw [subA_length k3]; omega)
              exact Rel.list (by rw [he]; exact .nil) (by rw [subA_length k3]) (by omega) (hlk _ _)
            · refine done_value h (c := .slice (some ⟨b, o' + p * esz, none⟩) (q - p) (cap - p)) (by rw [hrun, if_neg hcp]) ?_
              refine Rel.list ?_ (by rw [subA_length k3]) (by omega) (hlk _ _)
              by_cases hne : es = []
              · subst hne
                simp [subA]
                exact .nil
              · have := hszeq hne
                subst this
                exact relE_drop p (relE_take q hr)
        · cases hv
      · cases hv
    · -- a heap slice
      rename_i elem esz ag by_ z id off sz len cap hk hx
      rw [hx] at rx
      rw [hk] at e5
      obtain ⟨ie, ue, rfl, f1, f2, f3, f4, f5, f6⟩ := tkOf_sl e5
      split at hv
      · rename_i hsz
        have hsz := Nat.eq_of_beq_eq_true hsz
        subst hsz
        split at hv
        · rename_i c p q hb
          injection hv with hv
          injection hv with h1 h2
          subst h2
          simp only [Bool.and_eq_true] at h1
          obtain ⟨rfl, h3⟩ := h1
          have hpc := of_decide_eq_true h3
          have rx' : Rel R w (.msl id off sz len cap) (a.eval x) := rx
          generalize hxv : a.eval x = xv at rx'
          cases rx' with
          | @msl _ _ _ _ _ b hbk hcap =>
            obtain ⟨k1, k2, k3⟩ := run_bounds (E := E) true hcap rl rh hb
            refine done_value h (c := .slice (some ⟨b, off + p * sz, none⟩) (q - p) (cap - p)) ?_ (Rel.msl hbk (by omega))
            have hne : ¬ cap = p := by omega
            simp only [execOp, ho, Instr.sliceAt, Sem.run_bind, run_underlying e2, Result.andThen_ok, Instr.slice, hxv, Option.map_none, k1, run_sizeOf w f1, f2, Sem.run_pure, Option.map_some, addr_add, if_neg hne]
        · cases hv
      · cases hv
    · cases hv
  · cases hv

theorem exec_makeMap (h : Rep E R w β s a) (t : TypeId) (ho : o.op = .makeMap t none) : Done E R w β s a o ((s.addG (.map [])).put o.dst (.v (.map s.G.length))) := by
  have hgo : RepO (R.add (.blk w.heap.size)) (w.alloc (.map #[] 0)) (.map []) (.blk w.heap.size) := ⟨#[], 0, heap_alloc_new w _, trivial, by simp⟩
  refine ⟨_, .map (some w.heap.size), w.alloc (.map #[] 0), R.add (.blk w.heap.size), β, ?_, .inl rfl, (h.addObj (.map #[] 0) (.map []) (.blk w.heap.size) rfl hgo).put o.dst (x := .v (.map s.G.length)) (Rel.map (nth_new h _)), by rw [boxes_put]; exact step_addObj h _ _ rfl⟩
  simp only [execOp, ho, Instr.makeMap, Option.map_none, Sem.run_bind, run_newObj, Result.andThen_ok, Sem.run_pure]
  rfl

theorem exec_makeSlice (h : Rep E R w β s a) (t : TypeId) (x y : Operand) (ho : o.op = .makeSlice t x y) {i : TI} (hi : E.ti t = some i) {k k' : IntKind} {n m : Int} (hx : evO E s.slots x = .v (.int k n)) (hy : evO E s.slots y = .v (.int k' m))
    {elem esz by_ : Nat} {ag : Bool} {z : AV} (hk : i.k = .sl elem esz ag by_ (some z)) (hz : z.cells.length = esz) (hz1 : 1 ≤ esz) (hzn : z.notTup = true) (hc : 0 ≤ n ∧ n ≤ m ∧ m ≤ 140737488355328 ∧ m * by_ ≤ 140737488355328) :
    Done E R w β s a o ((s.addG (.row (cellsL (List.replicate m.toNat z)))).put o.dst (.v (.msl s.G.length 0 esz n.toNat m.toNat))) := by
  have rx := evO_rel h x
  have ry := evO_rel h y
  rw [hx] at rx
  rw [hy] at ry
  have rx' : Rel R w (.int k n) (a.eval x) := rx
  have ry' : Rel R w (.int k' m) (a.eval y) := ry
  generalize hxv : a.eval x = xv at rx'
  generalize hyv : a.eval y = yv at ry'
  cases rx'
  cases ry'
  obtain ⟨c1, c2, c3, c4⟩ := hc
  obtain ⟨info, u, e1, e2, e3, e4, e5, e6⟩ := ti_info E hi
  rw [hk] at e5
  obtain ⟨ie, ue, rfl, f1, f2, f3, f4, f5, f6⟩ := tkOf_sl e5
  obtain ⟨zc, hzc, hzr⟩ := constOf_some f6
  have hzR := hzr R w
  obtain ⟨d1, d2⟩ := Rel.cells hzR hzn
  have hcs : zc.cells.size = esz := by rw [← hz, d1.length]; simp
  obtain ⟨z1, z2⟩ := rel_zeros hzR hzn m.toNat
  have hrow : ((Array.range (m.toNat * esz)).map fun i => zc.cells[i % zc.cells.size]!) = ⟨(List.replicate m.toNat zc.cells.toList).flatten⟩ := by
    apply Array.ext'
    rw [← hcs]
    exact zero_row zc.cells m.toNat
  have wn : IntKind.i64.wrap n = n := IntWalk.i64_in n (by omega)
  have wm : IntKind.i64.wrap m = m := IntWalk.i64_in m (by omega)
  have hrun : (Instr.makeSlice t (.int k n) (.int k' m)).run E.P w = .ok (.slice (some ⟨w.heap.size, 0, none⟩) n.toNat m.toNat) (w.alloc (.cells ⟨(List.replicate m.toNat zc.cells.toList).flatten⟩ elem)) := by
    have hby : (ie.bytes : Int) * m ≤ 281474976710656 := by rw [f3, Int.mul_comm]; omega
    have hby' : ¬ 281474976710656 < (ie.bytes : Int) * m := by omega
    have h1 : ¬ m < 0 := by omega
    have h2 : ¬ n < 0 := by omega
    have h3 : ¬ m < n := by omega
    have hti : (typeInfo elem).run E.P w = .ok ie w := by simp [typeInfo, f1]
    by_cases h0 : m.toNat * esz = 0
    · have hm0 : m.toNat = 0 := by
        rcases Nat.mul_eq_zero.1 h0 with h0 | h0 <;> omega
      have hmap0 : ∀ f : Nat → Value, Array.map f (Array.range 0) = #[] := fun f => by simp
      simp [Instr.makeSlice, run_underlying e2, asInt, asIntOf, hti, wn, wm, h1, h2, h3, hby', run_sizeOf w f1, f2, hm0, newRow]
      rw [hmap0]
    · simp [Instr.makeSlice, run_underlying e2, asInt, asIntOf, hti, wn, wm, h1, h2, h3, hby', run_sizeOf w f1, f2, h0, run_zeroValue w f1 hzc, newRow]
      rw [← hrow]
  have e := ext_add (R := R) (w := w) h.g.wf (.cells ⟨(List.replicate m.toNat zc.cells.toList).flatten⟩ elem) (.blk w.heap.size)
  have hgo : RepO (R.add (.blk w.heap.size)) (w.alloc (.cells ⟨(List.replicate m.toNat zc.cells.toList).flatten⟩ elem)) (.row (cellsL (List.replicate m.toNat z))) (.blk w.heap.size) :=
    ⟨_, elem, heap_alloc_new w _, z1.mono e, z2, fun o' hi => by have := h.g.wf _ _ hi; omega⟩
  refine ⟨_, .slice (some ⟨w.heap.size, 0, none⟩) n.toNat m.toNat, _, R.add (.blk w.heap.size), β, ?_, .inl rfl, (h.addObj _ _ (.blk w.heap.size) rfl hgo).put o.dst (x := .v (.msl s.G.length 0 esz n.toNat m.toNat)) (Rel.msl (nth_new h _) (by omega)), by rw [boxes_put]; exact step_addObj h _ _ rfl⟩
  simp only [execOp, ho, hxv, hyv, Sem.run_bind, hrun, Result.andThen_ok, Sem.run_pure]

end ops
end Go.Am
