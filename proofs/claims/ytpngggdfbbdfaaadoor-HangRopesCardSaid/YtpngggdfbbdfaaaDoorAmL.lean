/- The abstract machine: what it does is what the model does: len, append, copy, max, min. -/
import Derived.Test.YtpngggdfbbdfaaaDoorAmK
set_option linter.all false
namespace Go.Am
open Go

section ops
variable {E : Env} {R : Realm} {w : World} {β : Nat → Nat} {s : St} {a : Act} {o : Oper}

theorem array_map_eval (x : Array Operand) (f : Operand → Value) : x.map f = ⟨x.toList.map f⟩ := Array.ext' (by simp)

/-- A builtin that the walk reaches. -/
theorem exec_builtin {b : Builtin} {args : Array Operand} {tys : Array TypeId} (ho : o.op = .call { callee := .builtin b, args := args, argTypes := tys }) (vs : List Value) (hv : args.toList.map a.eval = vs) :
    (execOp a.eval o).run E.P w = (builtin b tys o.type (args.map fun | .const _ => true | _ => false) ⟨vs⟩).run E.P w := by
  simp only [execOp, ho, resolve, Sem.run_bind, Sem.run_pure, Result.andThen_ok, invoke, array_map_eval args a.eval, hv]
  rfl

theorem RelM.length : ∀ {l : List (AV × AV)} {es : List MapEntry}, RelM R w l es → l.length = es.length
  | [], [], _ => rfl
  | _ :: _, _ :: _, h => by simp [RelM.length h.2.2]
  | [], _ :: _, h => h.elim
  | _ :: _, [], h => h.elim

theorem exec_len (h : Rep E R w β s a) {args : Array Operand} {tys : List TypeId} (ho : o.op = .call { callee := .builtin .len, args := args, argTypes := ⟨tys⟩ }) {l : List AV} (hl : evL E s.slots args.toList = some l) {s' : St} (hs : builtinA E s o.dst .len l tys = some (true, s')) :
    Done E R w β s a o s' := by
  have hr := evL_rel h hl
  generalize hv : args.toList.map a.eval = vs at hr
  have hx := exec_builtin (E := E) (w := w) ho vs hv
  unfold builtinA at hs
  split at hs <;> first | (rename_i h1; cases h1; done) | skip
  · rename_i x
    cases hr with
    | cons h0 h1 =>
    cases h1
    split at hs
    · rename_i t tl
      split at hs
      · rename_i i hi
        obtain ⟨info, u, e1, e2, e3, e4, e5, e6⟩ := ti_info E hi
        split at hs
        · rename_i bs hk
          cases hs
          cases h0
          rw [hk] at e5
          have := tkOf_str e5
          subst this
          refine done_value h (c := .int .i64 bs.length) ?_ (Rel.int _ _)
          rw [hx]
          simp [builtin, Builtin.len_, run_underlying e2, goInt, size_bytes]
        · rename_i kk sz es hk
          cases hs
          rw [hk] at e5
          obtain ⟨ie, ue, rfl, _⟩ := tkOf_sl e5
          refine done_value h (c := .int .i64 es.length) ?_ (Rel.int _ _)
          rw [hx]
          cases h0 with
          | lnil => simp [builtin, Builtin.len_, run_underlying e2, goInt]
          | lopn => simp [builtin, Builtin.len_, run_underlying e2, goInt]
          | lown => simp [builtin, Builtin.len_, run_underlying e2, goInt]
          | list _ hlen _ _ => subst hlen; simp [builtin, Builtin.len_, run_underlying e2, goInt]
        · rename_i id off sz len cap hk
          cases hs
          rw [hk] at e5
          obtain ⟨ie, ue, rfl, _⟩ := tkOf_sl e5
          refine done_value h (c := .int .i64 len) ?_ (Rel.int _ _)
          rw [hx]
          cases h0
          simp [builtin, Builtin.len_, run_underlying e2, goInt]
        · rename_i n esz ag hk
          cases hs
          rw [hk] at e5
          obtain ⟨e, ie, ue, rfl, _⟩ := tkOf_arr e5
          refine done_value h (c := .int .i64 n) ?_ (Rel.int _ _)
          rw [hx]
          simp [builtin, Builtin.len_, run_underlying e2, goInt]
        · rename_i hk
          cases hs
          rw [hk] at e5
          obtain ⟨rfl, _⟩ := tkOf_map e5
          refine done_value h (c := .int .i64 0) ?_ (Rel.int _ _)
          rw [hx]
          cases h0
          simp [builtin, Builtin.len_, run_underlying e2, goInt]
        · rename_i id hk
          split at hs
          · rename_i es hg
            cases hs
            rw [hk] at e5
            obtain ⟨rfl, _⟩ := tkOf_map e5
            cases h0 with
            | @map _ b hb =>
            obtain ⟨ents, clock, g1, g2, g3⟩ := h.g.obj id _ _ hg hb
            refine done_value h (c := .int .i64 es.length) ?_ (Rel.int _ _)
            rw [hx]
            have hgo : (getObj b).run E.P w = .ok (.map ents clock) w := by simp [getObj, Sem.run, g1]
            simp [builtin, Builtin.len_, run_underlying e2, goInt, hgo, g2.length]
          · cases hs
        · cases hs
      · cases hs
    · cases hs
  · cases hs

theorem max_run {b : Bool} : ∀ {l : List AV} {x v : AV} {c : Value} {cs : List Value}, Rel R w x c → RelL R w l cs → maxA x l = some v → ∃ c', (cs.foldlM Builtin.max2 c).run E.P w = .ok c' w ∧ Rel R w v c'
  | [], x, v, c, cs, hr, hl, hv => by
    cases hl
    simp only [maxA] at hv
    cases hv
    exact ⟨c, rfl, hr⟩
  | y :: l, x, v, c, cs, hr, hl, hv => by
    cases hl with
    | cons hy hl =>
    unfold maxA at hv
    split at hv
    · rename_i heq; cases heq
    · rename_i k n k' m l' heq
      cases heq
      split at hv
      · rename_i hk
        subst hk
        cases hr
        cases hy
        obtain ⟨c', h1, h2⟩ := max_run (b := b) (Rel.int k (if m > n then m else n)) hl hv
        refine ⟨c', ?_, h2⟩
        simp only [List.foldlM_cons, Sem.run_bind, Builtin.max2, Sem.run_pure, Result.andThen_ok]
        exact h1
      · cases hv
    · cases hv

theorem min_run {b : Bool} : ∀ {l : List AV} {x v : AV} {c : Value} {cs : List Value}, Rel R w x c → RelL R w l cs → minA x l = some v → ∃ c', (cs.foldlM Builtin.min2 c).run E.P w = .ok c' w ∧ Rel R w v c'
  | [], x, v, c, cs, hr, hl, hv => by
    cases hl
    simp only [minA] at hv
    cases hv
    exact ⟨c, rfl, hr⟩
  | y :: l, x, v, c, cs, hr, hl, hv => by
    cases hl with
    | cons hy hl =>
    unfold minA at hv
    split at hv
    · rename_i heq; cases heq
    · rename_i k n k' m l' heq
      cases heq
      split at hv
      · rename_i hk
        subst hk
        cases hr
        cases hy
        obtain ⟨c', h1, h2⟩ := min_run (b := b) (Rel.int k (if m < n then m else n)) hl hv
        refine ⟨c', ?_, h2⟩
        simp only [List.foldlM_cons, Sem.run_bind, Builtin.min2, Sem.run_pure, Result.andThen_ok]
        exact h1
      · cases hv
    · cases hv

theorem exec_max (h : Rep E R w β s a) {args : Array Operand} {tys : Array TypeId} (ho : o.op = .call { callee := .builtin .max, args := args, argTypes := tys }) {x v : AV} {l : List AV} (hl : evL E s.slots args.toList = some (x :: l)) (hm : maxA x l = some v) :
    Done E R w β s a o (s.put o.dst (.v v)) := by
  have hr := evL_rel h hl
  generalize hv : args.toList.map a.eval = vs at hr
  have hx := exec_builtin (E := E) (w := w) ho vs hv
  cases hr with
  | cons h0 h1 =>
  obtain ⟨c', k1, k2⟩ := max_run (E := E) (b := true) h0 h1 hm
  refine done_value h (c := c') ?_ k2
  rw [hx]
  simp [builtin, Builtin.max_, k1]

theorem exec_min (h : Rep E R w β s a) {args : Array Operand} {tys : Array TypeId} (ho : o.op = .call { callee := .builtin .min, args := args, argTypes := tys }) {x v : AV} {l : List AV} (hl : evL E s.slots args.toList = some (x :: l)) (hm : minA x l = some v) :
    Done E R w β s a o (s.put o.dst (.v v)) := by
  have hr := evL_rel h hl
  generalize hv : args.toList.map a.eval = vs at hr
  have hx := exec_builtin (E := E) (w := w) ho vs hv
  cases hr with
  | cons h0 h1 =>
  obtain ⟨c', k1, k2⟩ := min_run (E := E) (b := true) h0 h1 hm
  refine done_value h (c := c') ?_ k2
  rw [hx]
  simp [builtin, Builtin.min_, k1]

end ops
end Go.Am
