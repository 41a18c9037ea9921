/- The abstract machine: what it does is what the model does: arithmetic, structs and slices that are built. -/
import Derived.Test.YtpngggdfbbdfaaaDoorAmH
import Derived.Laws.StructEq
set_option linter.all false
namespace Go.Am
open Go

section ops
variable {E : Env} {R : Realm} {w : World} {β : Nat → Nat} {s : St} {a : Act} {o : Oper}

theorem size_bytes (l : List UInt8) : (⟨⟨l⟩⟩ : ByteArray).size = l.length := rfl
theorem toList_bytes (l : List UInt8) : (⟨⟨l⟩⟩ : ByteArray).toList = l := by rw [ByteArray.toList_eq]
theorem append_bytes (l r : List UInt8) : ((⟨⟨l⟩⟩ : ByteArray) ++ ⟨⟨r⟩⟩) = ⟨⟨l ++ r⟩⟩ := by
  apply ByteArray.ext
  rw [ByteArray.data_append]
  simp

theorem guard_int (op : BinOp) (t : TypeId) (x y : Operand) (k k' : IntKind) (n m : Int) : (eqGuard op t x y (.int k n) (.int k' m)).run E.P w = .ok () w := by
  unfold eqGuard
  cases op <;> rfl
theorem guard_str (op : BinOp) (t : TypeId) (x y : Operand) (n m : ByteArray) : (eqGuard op t x y (.string n) (.string m)).run E.P w = .ok () w := by
  unfold eqGuard
  cases op <;> rfl

theorem exec_binOp (h : Rep E R w β s a) (op : BinOp) (t u : TypeId) (x y : Operand) (ho : o.op = .binOp op t x y u) {p q v : AV} (hx : evO E s.slots x = .v p) (hy : evO E s.slots y = .v q) (hv : abin op p q = some (true, v)) :
    Done E R w β s a o (s.put o.dst (.v v)) := by
  have rx := evO_rel h x
  have ry := evO_rel h y
  rw [hx] at rx
  rw [hy] at ry
  have rx' : Rel R w p (a.eval x) := rx
  have ry' : Rel R w q (a.eval y) := ry
  have key : ∃ c, (do eqGuard op t x y (a.eval x) (a.eval y); binOp op t (a.eval x) (a.eval y) : Sem Value).run E.P w = .ok c w ∧ Rel R w v c := by
    generalize hxv : a.eval x = xv at rx'
    generalize hyv : a.eval y = yv at ry'
    unfold abin at hv
    split at hv
    · rename_i k n k' m
      cases rx'
      cases ry'
      simp only [Sem.run_bind, guard_int, Result.andThen_ok]
      split at hv
      · injection hv with hv
        injection hv with h1 h2
        subst h2
        have hm := of_decide_eq_true h1
        have hm' : ¬ m < 0 := by omega
        exact ⟨.int k (k.wrap (n * 2 ^ (min m.toNat k.bits))), by simp [binOp, Op.shift, hm'], .int _ _⟩
      · injection hv with hv
        injection hv with h1 h2
        subst h2
        have hm := of_decide_eq_true h1
        have hm' : ¬ m < 0 := by omega
        exact ⟨.int k (n.fdiv (2 ^ (min m.toNat k.bits))), by simp [binOp, Op.shift, hm'], .int _ _⟩
      · rename_i hs1 hs2
        split at hv
        · rename_i hkk
          subst hkk
          split at hv
          · cases hv; exact ⟨.int k (k.wrap (n + m)), by simp [binOp, Op.intArith], .int _ _⟩
          · cases hv; exact ⟨.int k (k.wrap (n - m)), by simp [binOp, Op.intArith], .int _ _⟩
          · cases hv; exact ⟨.int k (k.wrap (n * m)), by simp [binOp, Op.intArith], .int _ _⟩
          · injection hv with hv
            injection hv with h1 h2
            subst h2
            have hm : ¬ m = 0 := by simpa using h1
            exact ⟨.int k (k.wrap (n.tdiv m)), by simp [binOp, Op.intDiv, hm], .int _ _⟩
          · injection hv with hv
            injection hv with h1 h2
            subst h2
            have hm : ¬ m = 0 := by simpa using h1
            exact ⟨.int k (n.tmod m), by simp [binOp, Op.intDiv, hm], .int _ _⟩
          · cases hv; exact ⟨.bool (n == m), by simp [binOp, Op.intCmp], .bool _⟩
          · cases hv; exact ⟨.bool (n != m), by simp [binOp, Op.intCmp], .bool _⟩
          · cases hv; exact ⟨.bool (decide (n < m)), by simp [binOp, Op.intCmp], .bool _⟩
          · cases hv; exact ⟨.bool (decide (n ≤ m)), by simp [binOp, Op.intCmp], .bool _⟩
          · cases hv; exact ⟨.bool (decide (n > m)), by simp [binOp, Op.intCmp], .bool _⟩
          · cases hv; exact ⟨.bool (decide (n ≥ m)), by simp [binOp, Op.intCmp], .bool _⟩
          · cases hv
        · cases hv
    · rename_i l r
      cases rx'
      cases ry'
      simp only [Sem.run_bind, guard_str, Result.andThen_ok]
      split at hv
      · injection hv with hv
        injection hv with h1 h2
        subst h2
        have hm := of_decide_eq_true h1
        refine ⟨.string ⟨⟨l ++ r⟩⟩, ?_, .str _⟩
        have hnot : ¬ ((l.length + r.length : Nat) : Int) > IntKind.i64.max := by
          have : IntKind.i64.max = 9223372036854775807 := by decide
          omega
        simp only [binOp, Op.stringOp, size_bytes, if_neg hnot, append_bytes, Sem.run_pure]
      · cases hv; exact ⟨.bool (l == r), by simp [binOp, Op.stringOp], .bool _⟩
      · cases hv; exact ⟨.bool (!(l == r)), by simp [binOp, Op.stringOp], .bool _⟩
      · cases hv; exact ⟨.bool (Op.bytesLess l r), by simp [binOp, Op.stringOp], .bool _⟩
      · cases hv; exact ⟨.bool (Op.bytesLess l r || l == r), by simp [binOp, Op.stringOp], .bool _⟩
      · cases hv; exact ⟨.bool (!(Op.bytesLess l r || l == r)), by simp [binOp, Op.stringOp], .bool _⟩
      · cases hv; exact ⟨.bool (!(Op.bytesLess l r)), by simp [binOp, Op.stringOp], .bool _⟩
      · cases hv
    · cases hv
  obtain ⟨c, k1, k2⟩ := key
  refine done_value h (c := c) ?_ k2
  simp only [Sem.run_bind] at k1
  simp only [execOp, ho, Sem.run_bind, k1, Result.andThen_ok, Sem.run_pure]

/-! ### Comparisons by parts -/

theorem partA_run {t : TypeId} {i : TypeInfo} {u : TypeDesc} (h1 : E.P.info? t = some i) (h2 : E.P.underlying t = some u) {off : Nat} {cs : List AV} {vs : List Value} {v : AV} (hr : RelL R w cs vs) (h3 : ∀ x ∈ vs, x.oneCell' = true)
    (h : partA (aggD u) off i.size cs = some v) : ∃ c, (part t ⟨vs⟩ off).run E.P w = .ok c w ∧ Rel R w v c := by
  unfold partA at h
  cases ha : aggD u with
  | true =>
    rw [ha] at h
    simp only [if_true] at h
    split at h
    · rename_i l hl
      exact run_part h1 h2 hr h3 (fun _ => ⟨hl, h⟩) (fun e => by rw [ha] at e; cases e)
    · cases h
  | false =>
    rw [ha] at h
    simp only [Bool.false_eq_true, if_false] at h
    split at h
    · rename_i l hl
      exact run_part h1 h2 hr h3 (fun e => by rw [ha] at e; cases e) (fun _ => ⟨hl, h⟩)
    · cases h

theorem eqFs_run {ek : TypeId → EK} {d : Nat} (ih : ∀ (t : TypeId) (a b : AV) (r : Bool) (x y : Value), eqA (ek t) a b = some r → Rel R w a x → Rel R w b y → (Op.equalIn d t x y).run E.P w = .ok r w) {xs ys : List AV} {vs us : List Value}
    (hx : RelL R w xs vs) (hx1 : ∀ x ∈ vs, x.oneCell' = true) (hy : RelL R w ys us) (hy1 : ∀ x ∈ us, x.oneCell' = true) :
    ∀ (fs : List Field) (l : EKs) (r : Bool), ekFs E.P ek fs = some l → eqFs l xs ys = some r → (Op.eqFields d ⟨vs⟩ ⟨us⟩ fs).run E.P w = .ok r w
  | [], l, r, hl, hr => by
    simp [ekFs] at hl
    subst hl
    simp [eqFs] at hr
    subst hr
    rfl
  | f :: fs, l, r, hl, hr => by
    unfold ekFs at hl
    split at hl
    · cases hl
    · rename_i hn
      split at hl
      · rename_i i u l' h1 h2 h3
        cases hl
        unfold eqFs at hr
        split at hr
        · rename_i a b ha hb
          split at hr
          · rename_i p q hp hq
            cases hr
            obtain ⟨c, k1, k2⟩ := partA_run h1 h2 hx hx1 ha
            obtain ⟨c', k3, k4⟩ := partA_run h1 h2 hy hy1 hb
            have hne : f.name ≠ "_" := by simpa using hn
            have he := ih f.type a b p c c' hp k2 k4
            have hrest := eqFs_run ih hx hx1 hy hy1 fs l' q h3 hq
            simp only [Op.eqFields, hne, ne_eq, not_false_eq_true, if_true, Sem.run_bind, k1, k3, he, Result.andThen_ok]
            cases p with
            | true => simp [hrest]
            | false => simp
          · cases hr
        · cases hr
      · cases hl

theorem eqA_run : ∀ (n d : Nat), n ≤ d → ∀ (t : TypeId) (a b : AV) (r : Bool) (x y : Value), eqA (ekOf E.P n t) a b = some r → Rel R w a x → Rel R w b y → (Op.equalIn d t x y).run E.P w = .ok r w
  | 0, _, _, t, a, b, r, x, y, h, _, _ => by simp [ekOf, eqA] at h
  | n + 1, 0, hd, _, _, _, _, _, _, _, _, _ => by omega
  | n + 1, d + 1, hd, t, a, b, r, x, y, h, hx, hy => by
    unfold ekOf at h
    split at h
    · rename_i hu
      unfold eqA at h
      split at h
      all_goals (try contradiction)
      cases hx; cases hy; cases h
      exact run_equalIn_bool' w d t _ _ hu
    · rename_i k hu
      unfold eqA at h
      split at h
      all_goals (try contradiction)
      split at h
      · rename_i hk
        subst hk
        cases hx; cases hy; cases h
        exact run_equalIn_int w d t _ k _ _ hu
      · cases h
    · rename_i hu
      unfold eqA at h
      split at h
      all_goals (try contradiction)
      cases hx; cases hy; cases h
      rw [run_equalIn_string w d t _ _ hu, toList_bytes, toList_bytes]
    · rename_i fs hu
      split at h
      · simp [eqA] at h
      · rename_i hs
        split at h
        · rename_i l hl
          unfold eqA at h
          split at h
          all_goals (try contradiction)
          rename_i fs' xs ys hk
          cases hk
          cases hx with
          | agg hx hx1 =>
          cases hy with
          | agg hy hy1 =>
          have hf : E.P.fieldsOf t = fs := by simp [Program.fieldsOf, hu]
          rw [run_equalIn_struct w d t _ _ (by rw [hf]; exact hu) (by simpa using hs), hf]
          exact eqFs_run (fun t a b r x y => eqA_run n d (by omega) t a b r x y) hx hx1 hy hy1 fs.toList _ r hl h
        · simp [eqA] at h
    · simp [eqA] at h

theorem ekTop_run {t : TypeId} {i : TI} (hi : E.ti t = some i) {p q : AV} {r : Bool} {x y : Value} (h : eqA i.ek p q = some r) (hx : Rel R w p x) (hy : Rel R w q y) :
    (Op.equalIn 10000 t x y).run E.P w = .ok r w ∧ ((∃ b c, x = .bool b ∧ y = .bool c) ∨ (∃ k n k' m, x = .int k n ∧ y = .int k' m) ∨ (∃ n m, x = .string n ∧ y = .string m) ∨ (∃ n m, x = .agg n ∧ y = .agg m ∧ E.P.eqGuardType E.P.depth t = false)) := by
  have hek : i.ek = ekTop E.P t := by
    have := E.tiOk t i hi
    unfold tiOf at this
    split at this
    · split at this
      · cases this; rfl
      · cases this
    · cases this
  rw [hek] at h
  have hg : eqA (ekOf E.P 6 t) p q = some r ∧ ((∃ l, ekOf E.P 6 t = .st l) → E.P.eqGuardType E.P.depth t = false) := by
    unfold ekTop at h
    split at h
    · rename_i l hl
      split at h
      · simp [eqA] at h
      · rename_i hgt
        exact ⟨by rw [hl]; exact h, fun _ => by simpa using hgt⟩
    · rename_i k hk
      exact ⟨h, fun ⟨l, hl⟩ => absurd hl (hk l)⟩
  refine ⟨eqA_run 6 10000 (by omega) t p q r x y hg.1 hx hy, ?_⟩
  have h2 := hg.1
  have h3 := hg.2
  generalize ekOf E.P 6 t = k at h2 h3
  unfold eqA at h2
  split at h2
  · cases hx; cases hy; exact .inl ⟨_, _, rfl, rfl⟩
  · cases hx; cases hy; exact .inr (.inl ⟨_, _, _, _, rfl, rfl⟩)
  · cases hx; cases hy; exact .inr (.inr (.inl ⟨_, _, rfl, rfl⟩))
  · cases hx; cases hy; exact .inr (.inr (.inr ⟨_, _, rfl, rfl, h3 ⟨_, rfl⟩⟩))
  · cases h2

theorem exec_eqO (h : Rep E R w β s a) (op : BinOp) (t u : TypeId) (x y : Operand) (ho : o.op = .binOp op t x y u) {p q : AV} {r : Bool} (hx : evO E s.slots x = .v p) (hy : evO E s.slots y = .v q) (hb : abin op p q = none) (hv : eqO E op t p q = some r) :
    Done E R w β s a o (s.put o.dst (.v (.bool r))) := by
  have rx := evO_rel h x
  have ry := evO_rel h y
  rw [hx] at rx
  rw [hy] at ry
  have rx' : Rel R w p (a.eval x) := rx
  have ry' : Rel R w q (a.eval y) := ry
  have key : (do eqGuard op t x y (a.eval x) (a.eval y); binOp op t (a.eval x) (a.eval y) : Sem Value).run E.P w = .ok (.bool r) w := by
    generalize hxv : a.eval x = xv at rx'
    generalize hyv : a.eval y = yv at ry'
    unfold eqO at hv
    split at hv
    · rename_i i hi
      obtain ⟨k1, k2⟩ := ekTop_run hi hv rx' ry'
      rcases k2 with ⟨b, c, rfl, rfl⟩ | ⟨k, n, k', m, rfl, rfl⟩ | ⟨n, m, rfl, rfl⟩ | ⟨n, m, rfl, rfl, hg⟩
      · have hguard : (eqGuard .eql t x y (.bool b) (.bool c)).run E.P w = .ok () w := rfl
        simp [hguard, binOp, Op.equal, Op.maxDepth, k1]
      · cases rx'; cases ry'; simp [abin] at hb
        cases hk : i.ek <;> simp [hk, eqA] at hv
        exact absurd hv.1 hb
      · cases rx'; cases ry'; simp [abin] at hb
      · simp only [Sem.run_bind, run_eqGuard_agg w _ t x y n m hg, Result.andThen_ok, run_eql_struct, k1]
    · rename_i i hi
      split at hv
      · rename_i r' hr'
        cases hv
        obtain ⟨k1, k2⟩ := ekTop_run hi hr' rx' ry'
        rcases k2 with ⟨b, c, rfl, rfl⟩ | ⟨k, n, k', m, rfl, rfl⟩ | ⟨n, m, rfl, rfl⟩ | ⟨n, m, rfl, rfl, hg⟩
        · have hguard : (eqGuard .neq t x y (.bool b) (.bool c)).run E.P w = .ok () w := rfl
          simp [hguard, binOp, Op.equal, Op.maxDepth, k1]
        · cases rx'; cases ry'; simp [abin] at hb
          cases hk : i.ek <;> simp [hk, eqA] at hr'
          exact absurd hr'.1 hb
        · cases rx'; cases ry'; simp [abin] at hb
        · simp only [Sem.run_bind, run_eqGuard_agg w _ t x y n m hg, Result.andThen_ok, run_neq_struct, k1]
      · cases hv
    · cases hv
  refine done_value h (c := .bool r) ?_ (.bool r)
  simp only [Sem.run_bind] at key
  simp only [execOp, ho, Sem.run_bind, key, Result.andThen_ok, Sem.run_pure]

theorem exec_not (h : Rep E R w β s a) (t : TypeId) (x : Operand) (ho : o.op = .unOp .not t x) {b : Bool} (hx : evO E s.slots x = .v (.bool b)) : Done E R w β s a o (s.put o.dst (.v (.bool (!b)))) := by
  have rx := evO_rel h x
  rw [hx] at rx
  have rx' : Rel R w (.bool b) (a.eval x) := rx
  generalize hxv : a.eval x = xv at rx'
  cases rx'
  refine done_value h (c := .bool (!b)) ?_ (Rel.bool _)
  simp [execOp, ho, Op.unary, hxv]

theorem exec_neg (h : Rep E R w β s a) (t : TypeId) (x : Operand) (ho : o.op = .unOp .neg t x) {k : IntKind} {n : Int} (hx : evO E s.slots x = .v (.int k n)) : Done E R w β s a o (s.put o.dst (.v (.int k (k.wrap (0 - n))))) := by
  have rx := evO_rel h x
  rw [hx] at rx
  have rx' : Rel R w (.int k n) (a.eval x) := rx
  generalize hxv : a.eval x = xv at rx'
  cases rx'
  refine done_value h (c := .int k (k.wrap (0 - n))) ?_ (Rel.int _ _)
  simp [execOp, ho, Op.unary, Op.intArith, hxv]

/-! ### Structs that are built -/

theorem foldl_set : ∀ (us : List Value) (off j0 : Nat) (cells : Array Value), off + j0 + us.length ≤ cells.size →
    ((us.zipIdx j0).foldl (fun (cs : Array Value) (p : Value × Nat) => cs.setIfInBounds (off + p.2) p.1) cells).toList = cells.toList.take (off + j0) ++ us ++ cells.toList.drop (off + j0 + us.length)
  | [], off, j0, cells, _ => by simp
  | u :: us, off, j0, cells, h => by
    have hlt : off + j0 < cells.size := by simp at h; omega
    have ih := foldl_set us off (j0 + 1) (cells.setIfInBounds (off + j0) u) (by simp at h ⊢; omega)
    simp only [List.zipIdx_cons, List.foldl_cons]
    rw [ih]
    have e := list_seg_step cells.toList (off + j0) u us (by simp at h ⊢; omega)
    simpa [Array.toList_setIfInBounds, Nat.add_assoc] using e

theorem fill_rel (place : Nat → Option (Nat × Nat)) : ∀ {ps : List (Nat × AV)} {qs : List (Nat × Value)} {cells cells' : List AV} {vs : List Value},
    RelL R w (ps.map (·.2)) (qs.map (·.2)) → ps.map (·.1) = qs.map (·.1) → RelL R w cells vs → (∀ x ∈ vs, x.oneCell' = true) → fillA place cells ps = some cells' →
    ∃ us, Instr.fill place ⟨vs⟩ qs = some ⟨us⟩ ∧ RelL R w cells' us ∧ ∀ x ∈ us, x.oneCell' = true
  | [], qs, cells, cells', vs, h1, h2, h3, h4, h5 => by
    have : qs = [] := by simpa using h2.symm
    subst this
    simp [fillA] at h5
    subst h5
    exact ⟨vs, rfl, h3, h4⟩
  | (i, v) :: ps, [], cells, cells', vs, h1, h2, h3, h4, h5 => by simp at h2
  | (i, v) :: ps, (j, c) :: qs, cells, cells', vs, h1, h2, h3, h4, h5 => by
    simp only [List.map_cons, List.cons.injEq] at h2
    obtain ⟨rfl, h2⟩ := h2
    cases h1 with
    | cons hr h1 =>
    unfold fillA at h5
    split at h5
    · cases h5
    · rename_i off sz hp
      split at h5
      · rename_i hcond
        simp only [Bool.and_eq_true] at hcond
        obtain ⟨⟨hnt, hlen⟩, hle⟩ := hcond
        have hlen := Nat.eq_of_beq_eq_true hlen
        have hle := Nat.le_of_ble_eq_true hle
        obtain ⟨c1, c2⟩ := Rel.cells hr hnt
        have hlc : c.cells.toList.length = sz := by rw [← c1.length]; exact hlen
        have hb : off + v.cells.length ≤ cells.length := by omega
        obtain ⟨us, u1, u2, u3⟩ := fill_rel place h1 h2 (h3.splice c1 hb) (one_splice h4 c2) h5
        refine ⟨us, ?_, u2, u3⟩
        have hsz : c.cells.size = sz := by simpa using hlc
        have hvl : vs.length = cells.length := h3.length.symm
        have hfold : c.cells.zipIdx.foldl (fun (cs : Array Value) (x : Value × Nat) => cs.setIfInBounds (off + x.2) x.1) ⟨vs⟩ = ⟨vs.take off ++ c.cells.toList ++ vs.drop (off + c.cells.toList.length)⟩ := by
          apply Array.ext'
          rw [← Array.foldl_toList, Array.toList_zipIdx]
          have := foldl_set c.cells.toList off 0 ⟨vs⟩ (by simp only [List.size_toArray]; omega)
          simpa using this
        have hcnd : (c.cells.size ≠ sz || decide (off + c.cells.size > (⟨vs⟩ : Array Value).size)) = false := by
          have hs1 : decide (c.cells.size ≠ sz) = false := by simp [hsz]
          have hs2 : decide (off + c.cells.size > (⟨vs⟩ : Array Value).size) = false := by
            rw [decide_eq_false_iff_not, hsz]
            show ¬ off + sz > vs.length
            omega
          rw [hs1, hs2]
          rfl
        unfold Instr.fill
        simp only [hp, hcnd, Bool.false_eq_true, if_false]
        rw [← u1]
        exact congrArg (fun z => Instr.fill place z qs) hfold
      · cases h5

theorem evP_rel (h : Rep E R w β s a) : ∀ {l : List (Nat × Operand)} {ps : List (Nat × AV)}, evP E s.slots l = some ps →
    RelL R w (ps.map (·.2)) ((l.map fun x => (x.1, a.eval x.2)).map (·.2)) ∧ ps.map (·.1) = (l.map fun x => (x.1, a.eval x.2)).map (·.1)
  | [], ps, hl => by simp [evP] at hl; subst hl; exact ⟨.nil, rfl⟩
  | (i, x) :: l, ps, hl => by
    unfold evP at hl
    split at hl
    · rename_i v r h1 h2
      cases hl
      have hx := evO_rel h x
      rw [h1] at hx
      obtain ⟨g1, g2⟩ := evP_rel h h2
      exact ⟨.cons hx g1, by simpa using g2⟩
    · cases hl

theorem exec_build (h : Rep E R w β s a) (t : TypeId) (parts : Array (Nat × Operand)) (ho : o.op = .build t parts) {v : AV} (hv : buildA E s t parts.toList = some v) :
    Done E R w β s a o (s.put o.dst (.v v)) := by
  unfold buildA at hv
  split at hv
  · rename_i i ps hi hps
    split at hv
    · rename_i z hz
      split at hv
      · rename_i cs hcs
        split at hv
        · rename_i hag
          cases hv
          simp only [Bool.and_eq_true] at hag
          obtain ⟨hag, hzn⟩ := hag
          obtain ⟨info, u, e1, e2, e3, e4, e5, e6⟩ := ti_info E hi
          rw [hz] at e6
          obtain ⟨zc, hzc, hzr⟩ := constOf_some e6
          obtain ⟨p1, p2⟩ := evP_rel h hps
          obtain ⟨c1, c2⟩ := Rel.cells (hzr R w) hzn
          have epm : (parts.map fun (x : Nat × Operand) => (x.1, a.eval x.2)).toList = parts.toList.map fun x => (x.1, a.eval x.2) := by simp
          have key : ∃ us, E.P.built t (parts.toList.map fun x => (x.1, a.eval x.2)) = some ⟨us⟩ ∧ RelL R w cs us ∧ ∀ x ∈ us, x.oneCell' = true := by
            cases u <;> simp only [aggD] at e4 <;> first | (rw [hag] at e4; cases e4; done) | skip
            · rename_i n e
              simp only [tkOf] at e5
              split at e5
              · rename_i ie ue f1 f2
                injection e5 with e5
                rw [← e5] at hcs
                obtain ⟨us, u1, u2, u3⟩ := fill_rel (R := R) (w := w) _ p1 p2 c1 c2 hcs
                refine ⟨us, ?_, u2, u3⟩
                unfold Program.built
                simp only [e1, e2, hzc, f1]
                rw [← u1]
                rfl
              · cases e5
            · rename_i fs
              simp only [tkOf] at e5
              split at e5
              · rename_i l hl
                injection e5 with e5
                rw [← e5] at hcs
                obtain ⟨us, u1, u2, u3⟩ := fill_rel (R := R) (w := w) _ p1 p2 c1 c2 hcs
                refine ⟨us, ?_, u2, u3⟩
                unfold Program.built
                simp only [e1, e2, hzc, fieldsOf_places hl]
                rw [← u1]
                have hpl : placeOf (.st l) = fun j => (l.map fun x => (x.1, x.2.1)).toArray[j]? := by
                  funext j
                  simp only [placeOf, nth_eq, List.getElem?_toArray, List.getElem?_map]
                  cases l[j]? <;> rfl
                rw [hpl]
              · cases e5
          obtain ⟨us, u1, u2, u3⟩ := key
          refine done_value h (c := .agg ⟨us⟩) ?_ (Rel.agg u2 u3)
          have hrun := run_build (P := E.P) w t (parts.map fun (x : Nat × Operand) => (x.1, a.eval x.2)) ⟨us⟩ (by rw [epm]; exact u1)
          simp only [execOp, ho, Sem.run_bind, hrun, Result.andThen_ok, Sem.run_pure]
        · cases hv
      · cases hv
    · cases hv
  · cases hv
end ops
end Go.Am
