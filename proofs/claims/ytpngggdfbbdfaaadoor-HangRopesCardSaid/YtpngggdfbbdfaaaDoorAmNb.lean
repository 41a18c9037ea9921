/- The abstract machine: what it does is what the model does: objects that are no rows; ranges over strings. -/
import Derived.Test.YtpngggdfbbdfaaaDoorAmN
import Derived.Laws.RangeAny
set_option linter.all false
namespace Go.Am
open Go

/-- An object that is no row of cells. -/
def NoCells (x : Obj) : Prop := match x with
  | .cells .. => False
  | _ => True

theorem cell_noCells {w : World} {b : Nat} {x : Obj} (h : w.heap[b]? = some x) (hn : NoCells x) (o : Nat) : w.cell? ⟨b, o, none⟩ = none := by
  simp only [World.cell?, h]
  cases x <;> first | rfl | exact hn.elim

def World.put (w : World) (b : Nat) (x : Obj) : World := { w with heap := w.heap.setIfInBounds b x }

theorem put_other (w : World) (b k : Nat) (x : Obj) (h : k ≠ b) : (World.put w b x).heap[k]? = w.heap[k]? := Array.getElem?_setIfInBounds_ne (Ne.symm h)
theorem put_self (w : World) (b : Nat) (x : Obj) (h : b < w.heap.size) : (World.put w b x).heap[b]? = some x := by simp [World.put, h]
@[simp] theorem put_size (w : World) (b : Nat) (x : Obj) : (World.put w b x).heap.size = w.heap.size := by simp [World.put]

section setobj
variable {E : Env} {R : Realm} {w : World} {β : Nat → Nat} {s : St} {a : Act}

theorem ext_put {b : Nat} {x x' : Obj} (hx : w.heap[b]? = some x) (hn : NoCells x) (hn' : NoCells x') (hl : ∀ r, x = .loop r → ∃ r', x' = .loop r' ∧ SameLoop r r') : Ext R w R (World.put w b x') :=
  ⟨fun _ _ h => h, fun b' o h => by
    by_cases e : b' = b
    · subst e
      rw [cell_noCells hx hn, cell_noCells (put_self w b' x' (block_lt hx)) hn']
    · exact cell_of_block (put_other w b b' x' e) o, fun _ ro h => ⟨ro, h, RoLe.refl ro⟩, fun b' r hb => by
    by_cases e : b' = b
    · subst e
      rw [hx] at hb
      obtain ⟨r', rfl, h2⟩ := hl r (Option.some.inj hb)
      exact ⟨r', put_self w b' _ (block_lt hx), h2⟩
    · exact ⟨r, (put_other w b b' x' e).trans hb, rfl, rfl, rfl, rfl, rfl⟩⟩

/-- An object that is no row of cells is turned. -/
theorem Rep.setObj (h : Rep E R w β s a) {id b : Nat} {x x' : Obj} {go' : GO} (hid : nth R.obj id = some (.blk b)) (hx : w.heap[b]? = some x) (hn : NoCells x) (hn' : NoCells x') (hl : ∀ r, x = .loop r → ∃ r', x' = .loop r' ∧ SameLoop r r') (hgo : RepO R (World.put w b x') go' (.blk b)) :
    Rep E R (World.put w b x') β (s.inG (setN s.G id go')) a ∧ Step R w β s.boxes R (World.put w b x') β s.boxes := by
  have hex := ext_put (R := R) hx hn hn' hl
  refine ⟨⟨⟨by simp [St.inG, h.g.len], fun id' go ro hg hr' => ?_, h.g.inj, fun b' o' hi' => by have := h.g.wf b' o' hi'; simpa using this, fun g cs' hg => (h.g.glob g cs' hg).mono hex⟩, ?_, h.t.mono hex, h.n, h.d⟩, ?_⟩
  · rcases nth_setN hg with ⟨rfl, rfl, _⟩ | ⟨hne, hg'⟩
    · rw [hid] at hr'
      cases hr'
      exact hgo
    · refine (h.g.obj id' go ro hg' hr').mono hex (fun b' hb' => put_other w _ b' _ (fun e => hne ?_)) (fun _ _ _ hi => hi)
      subst e
      exact h.g.inj id id' _ _ b' hid hr' rfl hb'
  · exact h.b.keep hex (fun k cs' hk' => put_other w _ _ _ (h.ne_box hid hk')) (fun _ _ _ _ hi => hi) (fun _ _ _ hl => hl)
  · have hown : Own R β s.boxes b := .inl ⟨id, _, hid, rfl⟩
    exact ⟨hex, rfl, rfl, rfl, by simp, fun b' _ hn => put_other w _ b' _ (fun e => hn (e ▸ hown)), fun _ _ hb => hb, fun b o hi _ _ => hi⟩
end setobj


section maps
variable {E : Env} {R : Realm} {w : World} {β : Nat → Nat} {s : St} {a : Act} {o : Oper}

theorem ti_ek {t : TypeId} {i : TI} (hi : E.ti t = some i) : i.ek = ekTop E.P t := by
  have := E.tiOk t i hi
  unfold tiOf at this
  split at this
  · split at this
    · cases this; rfl
    · cases this
  · cases this

theorem ekTop_plain {P : Program} {t : TypeId} (h : (ekTop P t).plain = true) :
    (ekTop P t = .bool ∧ P.underlying t = some .bool) ∨ (ekTop P t = .int ∧ ∃ k, P.underlying t = some (.int k)) ∨ (ekTop P t = .str ∧ P.underlying t = some .string) := by
  have he : ekTop P t = ekOf P 6 t := by
    unfold ekTop at h ⊢
    split
    · rename_i l hl
      rw [hl] at h
      simp only at h
      split at h <;> simp [EK.plain] at h
    · rfl
  rw [he] at h ⊢
  unfold ekOf at h ⊢
  split
  · rename_i hu; exact .inl ⟨rfl, hu⟩
  · rename_i k hu; exact .inr (.inl ⟨rfl, k, hu⟩)
  · rename_i hu; exact .inr (.inr ⟨rfl, hu⟩)
  · rename_i fs hu
    rw [hu] at h
    simp only at h
    split at h
    · simp [EK.plain] at h
    · split at h <;> simp [EK.plain] at h
  · rename_i h1 h2 h3 h4
    split at h
    · rename_i hu; exact absurd hu h1
    · rename_i k hu; exact absurd hu (h2 k)
    · rename_i hu; exact absurd hu h3
    · rename_i fs hu; exact absurd hu (h4 fs)
    · simp [EK.plain] at h

/-- A key's kind, and what the model asks of it. -/
def KeyD (e : EK) (d : TypeDesc) : Prop := (e = .bool ∧ d = .bool) ∨ (e = .int ∧ ∃ k, d = .int k) ∨ (e = .str ∧ d = .string)

theorem sameNow_rel {e : EK} {d : TypeDesc} (hd : KeyD e d) {k k' : AV} {r : Bool} {x y : Value} (h : eqA e k k' = some r) (hx : Rel R w k x) (hy : Rel R w k' y) : Instr.sameNow d x y = some r ∧ (r = true → x = y) := by
  rcases hd with ⟨rfl, rfl⟩ | ⟨rfl, n, rfl⟩ | ⟨rfl, rfl⟩
  · unfold eqA at h
    split at h
    all_goals (try contradiction)
    cases hx; cases hy; cases h
    exact ⟨rfl, fun e => by rw [eq_of_beq e]⟩
  · unfold eqA at h
    split at h
    all_goals (try contradiction)
    split at h
    · rename_i hk
      subst hk
      cases hx; cases hy; cases h
      exact ⟨by simp [Instr.sameNow], fun e => by rw [eq_of_beq e]⟩
    · cases h
  · unfold eqA at h
    split at h
    all_goals (try contradiction)
    cases hx; cases hy; cases h
    refine ⟨?_, fun e => by rw [eq_of_beq e]⟩
    simp only [Instr.sameNow]
    rw [beq_toListBytes, ByteArray.toList_eq, ByteArray.toList_eq]

theorem find_rel {e : EK} {d : TypeDesc} (hd : KeyD e d) {k : AV} {x : Value} (hx : Rel R w k x) : ∀ {es : List (AV × AV)} {ents : List MapEntry} {r : Option AV}, RelM R w es ents → mfind e k es = some r →
    ∀ i, match r with
      | none => Instr.findNow d x ents i = some none
      | some v => ∃ j c, Instr.findNow d x ents i = some (some (j, c)) ∧ Rel R w v c
  | [], [], r, _, h, i => by simp [mfind] at h; subst h; rfl
  | [], _ :: _, _, h, _, _ => h.elim
  | _ :: _, [], _, h, _, _ => h.elim
  | (k', v) :: es, en :: ents, r, h, hf, i => by
    unfold mfind at hf
    split at hf
    · rename_i he
      cases hf
      have h1 := (sameNow_rel hd he hx h.1).1
      exact ⟨i, en.val, by simp [Instr.findNow, h1], h.2.1⟩
    · rename_i he
      have h1 := (sameNow_rel hd he hx h.1).1
      have := find_rel hd hx h.2.2 hf (i + 1)
      split at this
      · simp only [Instr.findNow, h1]; exact this
      · obtain ⟨j, c, q1, q2⟩ := this
        exact ⟨j, c, by simp only [Instr.findNow, h1]; exact q1, q2⟩
    · cases hf

theorem put_rel {e : EK} {d : TypeDesc} (hd : KeyD e d) {k v : AV} {x c : Value} (hx : Rel R w k x) (hv : Rel R w v c) : ∀ {es es' : List (AV × AV)} {ents : List MapEntry}, RelM R w es ents → mput e k v es = some es' →
    ∀ i, (Instr.findNow d x ents i = some none ∧ ∀ b, RelM R w es' (ents ++ [{ key := x, val := c, born := b }])) ∨
      ∃ j c', Instr.findNow d x ents i = some (some (i + j, c')) ∧ (∃ en, ents[j]? = some en ∧ en.key = x) ∧ RelM R w es' (ents.modify j fun e => { e with key := x, val := c })
  | [], es', [], _, h, i => by simp [mput] at h; subst h; exact .inl ⟨rfl, fun b => ⟨hx, hv, trivial⟩⟩
  | [], _, _ :: _, h, _, _ => h.elim
  | _ :: _, _, [], h, _, _ => h.elim
  | (k', v') :: es, es', en :: ents, h, hf, i => by
    unfold mput at hf
    split at hf
    · rename_i he
      cases hf
      obtain ⟨h1, h2⟩ := sameNow_rel hd he hx h.1
      exact .inr ⟨0, en.val, by simp [Instr.findNow, h1], ⟨en, rfl, (h2 rfl).symm⟩, by simp only [List.modify_zero_cons]; exact ⟨hx, hv, h.2.2⟩⟩
    · rename_i he
      have h1 := (sameNow_rel hd he hx h.1).1
      split at hf
      · rename_i r hr
        cases hf
        rcases put_rel hd hx hv h.2.2 hr (i + 1) with ⟨q1, q2⟩ | ⟨j, c', q1, q2, q3⟩
        · exact .inl ⟨by simp only [Instr.findNow, h1]; exact q1, fun b => ⟨h.1, h.2.1, q2 b⟩⟩
        · refine .inr ⟨j + 1, c', by simp only [Instr.findNow, h1]; rw [q1, Nat.add_assoc, Nat.add_comm 1 j], ?_, ?_⟩
          · obtain ⟨en', e1, e2⟩ := q2
            exact ⟨en', by simpa using e1, e2⟩
          · rw [List.modify_succ_cons]
            exact ⟨h.1, h.2.1, q3⟩
      · cases hf
    · cases hf

theorem run_checkKey {e : EK} {d : TypeDesc} (hd : KeyD e d) {t : TypeId} (hu : E.P.underlying t = some d) (b : Bool) (x : Value) (n : Nat) : (Instr.checkKey b (n + 1) t x).run E.P w = .ok () w := by
  rcases hd with ⟨_, rfl⟩ | ⟨_, k, rfl⟩ | ⟨_, rfl⟩ <;> simp [Instr.checkKey, run_underlying hu]

theorem mapOf_rel (h : Rep E R w β s a) {m : SV} {es : List (AV × AV)} {x : Value} (hm : mapOf s m = some es) (hx : RelS R w β m x) :
    ∃ ents, RelM R w es ents ∧ ((x = .map none ∧ ents = []) ∨ ∃ b es' clock, x = .map (some b) ∧ w.heap[b]? = some (.map es' clock) ∧ es'.toList = ents) := by
  unfold mapOf at hm
  split at hm
  · cases hm
    have hx' : Rel R w .nilm x := hx
    cases hx'
    exact ⟨[], trivial, .inl ⟨rfl, rfl⟩⟩
  · rename_i id
    have hx' : Rel R w (.map id) x := hx
    cases hx' with
    | map hb =>
    split at hm
    · rename_i es' hg
      cases hm
      obtain ⟨ents, clock, q1, q2, _⟩ := h.g.obj id _ _ hg hb
      exact ⟨ents.toList, q2, .inr ⟨_, ents, clock, rfl, q1, rfl⟩⟩
    · cases hm
  · cases hm

theorem zero_run {t : TypeId} {z : AV} {i : TypeInfo} (h1 : E.P.info? t = some i) (h2 : constOf i = some z) : ∃ c, (zeroValue t).run E.P w = .ok c w ∧ Rel R w z c := by
  obtain ⟨c, hc, hr⟩ := constOf_some h2
  exact ⟨c, by simp [zeroValue, typeInfo, run_program, h1, hc], hr R w⟩

theorem exec_lookup (h : Rep E R w β s a) (t : TypeId) (x y : Operand) (ok : Bool) (ho : o.op = .lookup t x y ok) {v : AV} {b : Bool} (hv : lookupA E s t (evO E s.slots x) (evO E s.slots y) = some (v, b)) :
    Done E R w β s a o (s.put o.dst (.v (if ok then .tup [v, .bool b] else v))) := by
  have rx := evO_rel h x
  have ry := evO_rel h y
  unfold lookupA at hv
  split at hv
  · rename_i i es k hi hm hk
    rw [hk] at ry
    have ry' : Rel R w k (a.eval y) := ry
    obtain ⟨ents, hM, hxv⟩ := mapOf_rel h hm rx
    obtain ⟨info, u, e1, e2, e3, e4, e5, e6⟩ := ti_info E hi
    split at hv
    · rename_i kt et z hik
      split at hv
      · rename_i j hj
        split at hv
        · rename_i hc
          rw [Bool.and_eq_true] at hc
          rw [hik] at e5
          obtain ⟨rfl, ie, g1, g2⟩ := tkOf_map e5
          have hek := ti_ek hj
          have hpl := hc.1
          rw [hek] at hpl
          obtain ⟨d, hu, hd⟩ : ∃ d, E.P.underlying kt = some d ∧ KeyD j.ek d := by
            rw [hek]
            rcases ekTop_plain hpl with ⟨q1, q2⟩ | ⟨q1, n, q2⟩ | ⟨q1, q2⟩
            · exact ⟨_, q2, .inl ⟨q1, rfl⟩⟩
            · exact ⟨_, q2, .inr (.inl ⟨q1, n, rfl⟩)⟩
            · exact ⟨_, q2, .inr (.inr ⟨q1, rfl⟩)⟩
          have hck : ∀ b, (Instr.checkKey b 10000 kt (a.eval y)).run E.P w = .ok () w := fun b => run_checkKey hd hu b _ 9999
          have fin : ∀ r, mfind j.ek k es = some r → r.getD z = v → r.isSome = b → Done E R w β s a o (s.put o.dst (.v (if ok then .tup [v, .bool b] else v))) := fun r hr q1 q2 => by
            subst q1 q2
            have hf := find_rel hd ry' hM hr 0
            have rel : ∀ c, Rel R w (r.getD z) c → Rel R w (if ok then .tup [r.getD z, .bool r.isSome] else r.getD z) (if ok then .tuple #[c, .bool r.isSome] else c) := fun c k2 => by
              cases ok
              · exact k2
              · exact Rel.tup (vs := [c, .bool r.isSome]) (.cons k2 (.cons (.bool _) .nil))
            cases r with
            | none =>
              obtain ⟨c, k1, k2⟩ := zero_run (R := R) (w := w) g1 g2
              have hfk : (Instr.findKey kt (a.eval y) ents).run E.P w = .ok none w := by simp [Instr.findKey, run_underlying hu, hf]
              refine done_value h (c := if ok then .tuple #[c, .bool false] else c) ?_ (rel c k2)
              rcases hxv with ⟨hx, rfl⟩ | ⟨b, es', clock, hx, hb, rfl⟩
              · simp [execOp, ho, Instr.lookup, hx, run_underlying e2, hck, hfk, k1]
              · simp [execOp, ho, Instr.lookup, hx, run_underlying e2, getObj, Sem.run, hb, hck, hfk, k1]
            | some v =>
              obtain ⟨j', c, q1, q2⟩ := hf
              have hfk : (Instr.findKey kt (a.eval y) ents).run E.P w = .ok (some (j', c)) w := by simp [Instr.findKey, run_underlying hu, q1]
              refine done_value h (c := if ok then .tuple #[c, .bool true] else c) ?_ (rel c q2)
              rcases hxv with ⟨hx, rfl⟩ | ⟨b, es', clock, hx, hb, rfl⟩
              · simp [execOp, ho, Instr.lookup, hx, run_underlying e2, hck, hfk]
              · simp [execOp, ho, Instr.lookup, hx, run_underlying e2, getObj, Sem.run, hb, hck, hfk]
          split at hv
          · rename_i v' hr; cases hv; exact fin _ hr rfl rfl
          · rename_i hr; cases hv; exact fin _ hr rfl rfl
          · cases hv
        · cases hv
      · cases hv
    · cases hv
  · cases hv

theorem keyD_of {kt : TypeId} {j : TI} (hj : E.ti kt = some j) (hp : j.ek.plain = true) : ∃ d, E.P.underlying kt = some d ∧ KeyD j.ek d := by
  have hek := ti_ek hj
  rw [hek] at hp ⊢
  rcases ekTop_plain hp with ⟨q1, q2⟩ | ⟨q1, n, q2⟩ | ⟨q1, q2⟩
  · exact ⟨_, q2, .inl ⟨q1, rfl⟩⟩
  · exact ⟨_, q2, .inr (.inl ⟨q1, n, rfl⟩)⟩
  · exact ⟨_, q2, .inr (.inr ⟨q1, rfl⟩)⟩

theorem beq_bytes (x : ByteArray) : (x == x) = true := by rw [beq_toListBytes]; simp

theorem sameBits_plain {e : EK} {k : AV} {x : Value} (hp : keyFits e k = true) (hx : Rel R w k x) (n : Nat) : Instr.sameBits n x x = true := by
  unfold keyFits at hp
  split at hp
  · cases hx; cases n <;> simp [Instr.sameBits]
  · cases hx; cases n <;> simp [Instr.sameBits]
  · cases hx; cases n <;> (simp only [Instr.sameBits]; exact beq_bytes _)
  · cases hp

theorem born_modify {ents : List MapEntry} {clock : Nat} (h : ∀ e ∈ ents, e.born < clock) (x c : Value) : ∀ j, ∀ e ∈ ents.modify j (fun e => { e with key := x, val := c }), e.born < clock := by
  induction ents with
  | nil => intro j e he; simp at he
  | cons en ents ih =>
    intro j e he
    cases j with
    | zero =>
      simp only [List.modify_zero_cons, List.mem_cons] at he
      rcases he with rfl | he
      · exact h en (by simp)
      · exact h e (by simp [he])
    | succ j =>
      rw [List.modify_succ_cons, List.mem_cons] at he
      rcases he with rfl | he
      · exact h e (by simp)
      · exact ih (fun e he => h e (by simp [he])) j e he

theorem exec_mapUpdate (h : Rep E R w β s a) (t : TypeId) (x y z : Operand) (ho : o.op = .mapUpdate t x y z) (hd : o.dst = none) {s' : St} (hv : updateA E s t (evO E s.slots x) (evO E s.slots y) (evO E s.slots z) = some s') :
    Done E R w β s a o s' := by
  have rx := evO_rel h x
  have ry := evO_rel h y
  have rz := evO_rel h z
  unfold updateA at hv
  split at hv
  · rename_i i id k v hi hm hk hz
    rw [hm] at rx
    rw [hk] at ry
    rw [hz] at rz
    have rx' : Rel R w (.map id) (a.eval x) := rx
    have ry' : Rel R w k (a.eval y) := ry
    have rz' : Rel R w v (a.eval z) := rz
    split at hv
    · rename_i kt et ez es hik hg
      split at hv
      · rename_i j hj
        split at hv
        · rename_i hc
          rw [Bool.and_eq_true] at hc
          split at hv
          · rename_i es' hput
            cases hv
            obtain ⟨info, u, e1, e2, e3, e4, e5, e6⟩ := ti_info E hi
            rw [hik] at e5
            obtain ⟨rfl, ie, g1, g2⟩ := tkOf_map e5
            obtain ⟨d, hu, hD⟩ := keyD_of hj hc.1
            generalize hxv : a.eval x = xv at rx'
            cases rx' with
            | @map _ b hb =>
            obtain ⟨ents, clock, q1, q2, q3⟩ := h.g.obj id _ _ hg hb
            have hlt := block_lt q1
            have hck : (Instr.checkKey false 10000 kt (a.eval y)).run E.P w = .ok () w := run_checkKey hD hu _ _ 9999
            have hget : (getObj b).run E.P w = .ok (.map ents clock) w := by simp [getObj, Sem.run, q1]
            have hset : ∀ o', (setObj b o').run E.P w = .ok () (World.put w b o') := fun o' => by
              simp [setObj, Sem.run, World.put, q1]
            have fin : ∀ ents' clock', RelM R w es' ents'.toList → (∀ e ∈ ents'.toList, e.born < clock') → (execOp a.eval o).run E.P w = .ok .skip (World.put w b (.map ents' clock')) →
                Done E R w β s a o (s.inG (setN s.G id (.map es'))) := fun ents' clock' k1 k2 k3 => by
              have hex := ext_put (R := R) (x' := .map ents' clock') q1 trivial trivial (fun _ e => by cases e)
              obtain ⟨p1, p2⟩ := h.setObj (x' := .map ents' clock') (go' := .map es') hb q1 trivial trivial (fun _ e => by cases e) ⟨ents', clock', put_self w b _ hlt, k1.mono hex, k2⟩
              refine ⟨.skip, undef, _, R, β, k3, .inr ⟨rfl, rfl⟩, ?_, p2⟩
              rw [hd]
              exact p1
            rcases put_rel hD ry' rz' q2 hput 0 with ⟨k1, k2⟩ | ⟨n, c', k1, ⟨en, k2, k3⟩, k4⟩
            · have hfk : (Instr.findKey kt (a.eval y) ents.toList).run E.P w = .ok none w := by simp [Instr.findKey, run_underlying hu, k1]
              refine fin (ents.push { key := a.eval y, val := a.eval z, born := clock }) (clock + 1) (by rw [Array.toList_push]; exact k2 clock) (fun e he => ?_) ?_
              · rw [Array.toList_push, List.mem_append] at he
                rcases he with he | he
                · exact Nat.lt_succ_of_lt (q3 e he)
                · simp at he; subst he; exact Nat.lt_succ_self _
              · simp [execOp, ho, Instr.mapUpdate, hxv, run_underlying e2, hget, hck, hfk, hset]
            · have hfk : (Instr.findKey kt (a.eval y) ents.toList).run E.P w = .ok (some (n, c')) w := by
                rw [Nat.zero_add] at k1
                simp [Instr.findKey, run_underlying hu, k1]
              have hen : ents[n]? = some en := by rw [← Array.getElem?_toList]; exact k2
              have hkeep : (Instr.keyThatStays (a.eval y) (a.eval y)).run E.P w = .ok (a.eval y) w := by simp [Instr.keyThatStays, sameBits_plain hc.2 ry' 10000]
              refine fin (ents.modify n fun e => { e with key := a.eval y, val := a.eval z }) clock (by rw [Array.toList_modify]; exact k4) (fun e he => ?_) ?_
              · rw [Array.toList_modify] at he
                exact born_modify q3 _ _ n e he
              · simp [execOp, ho, Instr.mapUpdate, hxv, run_underlying e2, hget, hck, hfk, hen, k3, hkeep, hset]
          · cases hv
        · cases hv
      · cases hv
    · cases hv
  · cases hv

/-! ### Ranges over strings -/

theorem exec_range (h : Rep E R w β s a) (t : TypeId) (x : Operand) (ho : o.op = .range t x) {i : TI} {l : List UInt8} (hi : E.ti t = some i) (hk : i.k = .str) (hx : evO E s.slots x = .v (.str l)) :
    Done E R w β s a o ((s.addG (.siter l 0)).put o.dst (.v (.ptr s.G.length 0))) := by
  have rx := evO_rel h x
  rw [hx] at rx
  have rx' : Rel R w (.str l) (a.eval x) := rx
  obtain ⟨info, u, e1, e2, e3, e4, e5, e6⟩ := ti_info E hi
  rw [hk] at e5
  have hu := tkOf_str e5
  subst hu
  have hgo : RepO (R.add (.blk w.heap.size)) (w.alloc (.stringIter ⟨⟨l⟩⟩ 0)) (.siter l 0) (.blk w.heap.size) := heap_alloc_new w _
  refine ⟨_, .pointer (some ⟨w.heap.size, 0, none⟩), w.alloc (.stringIter ⟨⟨l⟩⟩ 0), R.add (.blk w.heap.size), β, ?_, .inl rfl, (h.addObj (.stringIter ⟨⟨l⟩⟩ 0) (.siter l 0) (.blk w.heap.size) rfl hgo).put o.dst (x := .v (.ptr s.G.length 0)) (Rel.ptr (nth_new h _)), by rw [boxes_put]; exact step_addObj h _ _ rfl⟩
  generalize hxv : a.eval x = xv at rx'
  cases rx'
  simp only [execOp, ho, hxv, Instr.range, Sem.run_bind, run_underlying e2, run_newObj, Result.andThen_ok, Sem.run_pure]
  rfl

theorem decodeA_eq (l : List UInt8) (pos : Nat) (h : pos < l.length) : decodeA l pos = Utf8.decode ⟨⟨l⟩⟩ pos := by
  unfold decodeA
  cases hb : Nat.blt (l.getD pos 0).toNat 128 with
  | false => rfl
  | true =>
    have hlt : (l.getD pos 0).toNat < 128 := Nat.le_of_ble_eq_true hb
    have e : (ByteArray.get! ⟨⟨l⟩⟩ (pos + 0)) = l.getD pos 0 := by
      simp [ByteArray.get!, h, List.getD_eq_getElem?_getD]
    simp only [cond_true, Utf8.decode, e]
    rw [if_pos (show (l.getD pos 0).toNat < 0x80 from hlt)]

theorem exec_next (h : Rep E R w β s a) (x : Operand) (ho : o.op = .next x true) {s' : St} (hv : nextA s o.dst (evO E s.slots x) = some s') : Done E R w β s a o s' := by
  have rx := evO_rel h x
  unfold nextA at hv
  split at hv
  · rename_i id hx
    rw [hx] at rx
    have rx' : Rel R w (.ptr id 0) (a.eval x) := rx
    generalize hxv : a.eval x = xv at rx'
    cases rx' with
    | @ptr _ _ b hb =>
    split at hv
    · rename_i l pos hg
      have q1 : w.heap[b]? = some (.stringIter ⟨⟨l⟩⟩ pos) := h.g.obj id _ _ hg hb
      have hlt := block_lt q1
      have hget : (getObj b).run E.P w = .ok (.stringIter ⟨⟨l⟩⟩ pos) w := by simp [getObj, Sem.run, q1]
      have hset : ∀ o', (setObj b o').run E.P w = .ok () (World.put w b o') := fun o' => by
        simp [setObj, Sem.run, World.put, q1]
      cases hb' : Nat.blt pos l.length with
      | true =>
        rw [hb'] at hv
        have hp : pos < l.length := Nat.le_of_ble_eq_true hb'
        simp only [cond_true] at hv
        generalize hdec : decodeA l pos = p at hv
        obtain ⟨c, n⟩ := p
        cases hv
        rw [decodeA_eq l pos hp] at hdec
        obtain ⟨p1, p2⟩ := h.setObj (x' := .stringIter ⟨⟨l⟩⟩ (pos + n)) (go' := .siter l (pos + n)) hb q1 trivial trivial (fun _ e => by cases e) (put_self w b _ hlt)
        have hsz : pos < (⟨⟨l⟩⟩ : ByteArray).size := hp
        refine ⟨.value (.tuple #[.bool true, .int .i64 pos, .int .i32 c]), _, _, R, β, ?_, .inl rfl, p1.put o.dst (x := .v (.tup [.bool true, .int .i64 pos, .int .i32 c])) (Rel.tup (vs := [.bool true, .int .i64 pos, .int .i32 c]) (.cons (.bool _) (.cons (.int _ _) (.cons (.int _ _) .nil)))), by rw [boxes_put]; exact p2⟩
        simp [execOp, ho, hxv, Instr.next, hget, hsz, hdec, hset, goInt]
      | false =>
        rw [hb'] at hv
        simp only [cond_false] at hv
        cases hv
        have hp : ¬ pos < l.length := fun hh => by
          have : Nat.blt pos l.length = true := Nat.ble_eq_true_of_le hh
          rw [hb'] at this; cases this
        have hsz : ¬ pos < (⟨⟨l⟩⟩ : ByteArray).size := hp
        refine done_value h (c := .tuple #[.bool false]) ?_ (Rel.tup (vs := [.bool false]) (.cons (.bool _) .nil))
        simp [execOp, ho, hxv, Instr.next, hget, hsz]
    · cases hv
  · cases hv

end maps
end Go.Am
