/- The abstract machine: what it does is what the model does: objects that are no rows; ranges over strings. -/
import Derived.Test.YtbfappllfpngdaaGreatDoorAmKC
import Derived.Laws.RangeAny
import Derived.Laws.BytesString
import Derived.Laws.Cover4
import Derived.RangeFuncCalls
import Derived.RangeFuncRecord
import Derived.RangeFuncIn
set_option linter.all false
namespace Go.Am
open Go

/-- An object that is no row of cells. -/
def NoCells (x : Obj) : Prop := match x with
  | .cells .. => False
  | _ => True

theorem cell_noCells {w : World} {b : Nat} {x : Obj} (h : w.heap[b]? = some x) (hn : NoCells x) (o : Nat) : w.cell? ⟨b, o, none⟩ = none := by
  simp only [World.cell?, h]
  cases x <;> first | rfl | exact hn.elim

def World.put (w : World) (b : Nat) (x : Obj) : World := { w with heap := w.heap.setIfInBounds b x }

theorem put_other (w : World) (b k : Nat) (x : Obj) (h : k ≠ b) : (World.put w b x).heap[k]? = w.heap[k]? := Array.getElem?_setIfInBounds_ne (Ne.symm h)
theorem put_self (w : World) (b : Nat) (x : Obj) (h : b < w.heap.size) : (World.put w b x).heap[b]? = some x := by simp [World.put, h]
@[simp] theorem put_size (w : World) (b : Nat) (x : Obj) : (World.put w b x).heap.size = w.heap.size := by simp [World.put]

section setobj
variable {E : Env} {R : Realm} {w : World} {β : Nat → Nat} {s : St} {a : Act}

theorem ext_put {b : Nat} {x x' : Obj} (hx : w.heap[b]? = some x) (hn : NoCells x) (hn' : NoCells x') (hl : ∀ r, x = .loop r → ∃ r', x' = .loop r' ∧ SameLoop r r') : Ext R w R (World.put w b x') :=
  ⟨fun _ _ h => h, fun b' o h => by
    by_cases e : b' = b
    · subst e
      rw [cell_noCells hx hn, cell_noCells (put_self w b' x' (block_lt hx)) hn']
    · exact cell_of_block (put_other w b b' x' e) o, fun _ ro h => ⟨ro, h, RoLe.refl ro⟩, fun b' r hb => by
    by_cases e : b' = b
    · subst e
      rw [hx] at hb
      obtain ⟨r', rfl, h2⟩ := hl r (Option.some.inj hb)
      exact ⟨r', put_self w b' _ (block_lt hx), h2⟩
    · exact ⟨r, (put_other w b b' x' e).trans hb, rfl, rfl, rfl, rfl, rfl⟩⟩

/-- An object that is no row of cells is turned. -/
theorem Rep.setObj (h : Rep E R w β s a) {id b : Nat} {x x' : Obj} {go' : GO} (hid : nth R.obj id = some (.blk b)) (hx : w.heap[b]? = some x) (hn : NoCells x) (hn' : NoCells x') (hl : ∀ r, x = .loop r → ∃ r', x' = .loop r' ∧ SameLoop r r') (hgo : RepO R (World.put w b x') go' (.blk b)) :
    Rep E R (World.put w b x') β (s.inG (setN s.G id go')) a ∧ Step R w β s.boxes R (World.put w b x') β s.boxes := by
  have hex := ext_put (R := R) hx hn hn' hl
  refine ⟨⟨⟨by simp [St.inG, h.g.len], fun id' go ro hg hr' => ?_, h.g.inj, fun b' o' hi' => by have := h.g.wf b' o' hi'; simpa using this, fun g cs' hg => (h.g.glob g cs' hg).mono hex⟩, ?_, h.t.mono hex, h.n, h.d⟩, ?_⟩
  · rcases nth_setN hg with ⟨rfl, rfl, _⟩ | ⟨hne, hg'⟩
    · rw [hid] at hr'
      cases hr'
      exact hgo
    · refine (h.g.obj id' go ro hg' hr').mono hex (fun b' hb' => put_other w _ b' _ (fun e => hne ?_)) (fun _ _ _ hi => hi)
      subst e
      exact h.g.inj id id' _ _ b' hid hr' rfl hb'
  · exact h.b.keep hex (fun k cs' hk' => put_other w _ _ _ (h.ne_box hid hk')) (fun _ _ _ _ hi => hi) (fun _ _ _ hl => hl)
  · have hown : Own R β s.boxes b := .inl ⟨id, _, hid, rfl⟩
    exact ⟨hex, rfl, rfl, rfl, by simp, fun b' _ hn => put_other w _ b' _ (fun e => hn (e ▸ hown)), fun _ _ hb => hb, fun b o hi _ _ => hi⟩
end setobj


section maps
variable {E : Env} {R : Realm} {w : World} {β : Nat → Nat} {s : St} {a : Act} {o : Oper}

theorem ti_ek {t : TypeId} {i : TI} (hi : E.ti t = some i) : i.ek = ekTop E.P t := by
  have := E.tiOk t i hi
  unfold tiOf at this
  split at this
  · split at this
    · cases this; rfl
    · cases this
  · cases this

theorem ekTop_plain {P : Program} {t : TypeId} (h : (ekTop P t).plain = true) :
    (ekTop P t = .bool ∧ P.underlying t = some .bool) ∨ (ekTop P t = .int ∧ ∃ k, P.underlying t = some (.int k)) ∨ (ekTop P t = .str ∧ P.underlying t = some .string) := by
  have he : ekTop P t = ekOf P 6 t := by
    unfold ekTop at h ⊢
    split
    · rename_i l hl
      rw [hl] at h
      simp only at h
      split at h <;> simp [EK.plain] at h
    · rfl
  rw [he] at h ⊢
  unfold ekOf at h ⊢
  split
  · rename_i hu; exact .inl ⟨rfl, hu⟩
  · rename_i k hu; exact .inr (.inl ⟨rfl, k, hu⟩)
  · rename_i hu; exact .inr (.inr ⟨rfl, hu⟩)
  · rename_i fs hu
    rw [hu] at h
    simp only at h
    split at h
    · simp [EK.plain] at h
    · split at h <;> simp [EK.plain] at h
  · rename_i m e hu
    rw [hu] at h
    simp only at h
    split at h <;> simp [EK.plain] at h
  · rename_i h1 h2 h3 h4 h5
    split at h
    · rename_i hu; exact absurd hu h1
    · rename_i k hu; exact absurd hu (h2 k)
    · rename_i hu; exact absurd hu h3
    · rename_i fs hu; exact absurd hu (h4 fs)
    · rename_i m e hu; exact absurd hu (h5 m e)
    · simp [EK.plain] at h

/-- A key's kind, and what the model asks of it. -/
def KeyD (e : EK) (d : TypeDesc) : Prop := (e = .bool ∧ d = .bool) ∨ (e = .int ∧ ∃ k, d = .int k) ∨ (e = .str ∧ d = .string)

theorem sameNow_rel {e : EK} {d : TypeDesc} (hd : KeyD e d) {k k' : AV} {r : Bool} {x y : Value} (h : eqA e k k' = some r) (hx : Rel R w k x) (hy : Rel R w k' y) : Instr.sameNow d x y = some r ∧ (r = true → x = y) := by
  rcases hd with ⟨rfl, rfl⟩ | ⟨rfl, n, rfl⟩ | ⟨rfl, rfl⟩
  · unfold eqA at h
    split at h
    all_goals (try contradiction)
    cases hx; cases hy; cases h
    exact ⟨rfl, fun e => by rw [eq_of_beq e]⟩
  · unfold eqA at h
    split at h
    all_goals (try contradiction)
    split at h
    · rename_i hk
      subst hk
      cases hx; cases hy; cases h
      exact ⟨by simp [Instr.sameNow], fun e => by rw [eq_of_beq e]⟩
    · cases h
  · unfold eqA at h
    split at h
    all_goals (try contradiction)
    cases hx; cases hy; cases h
    refine ⟨?_, fun e => by rw [eq_of_beq e]⟩
    simp only [Instr.sameNow]
    rw [beq_toListBytes, ByteArray.toList_eq, ByteArray.toList_eq]

theorem find_rel {e : EK} {d : TypeDesc} (hd : KeyD e d) {k : AV} {x : Value} (hx : Rel R w k x) : ∀ {es : List (AV × AV)} {ents : List MapEntry} {r : Option AV}, RelM R w es ents → mfind e k es = some r →
    ∀ i, match r with
      | none => Instr.findNow d x ents i = some none
      | some v => ∃ j c, Instr.findNow d x ents i = some (some (j, c)) ∧ Rel R w v c
  | [], [], r, _, h, i => by simp [mfind] at h; subst h; rfl
  | [], _ :: _, _, h, _, _ => h.elim
  | _ :: _, [], _, h, _, _ => h.elim
  | (k', v) :: es, en :: ents, r, h, hf, i => by
    unfold mfind at hf
    split at hf
    · rename_i he
      cases hf
      have h1 := (sameNow_rel hd he hx h.1).1
      exact ⟨i, en.val, by simp [Instr.findNow, h1], h.2.1⟩
    · rename_i he
      have h1 := (sameNow_rel hd he hx h.1).1
      have := find_rel hd hx h.2.2 hf (i + 1)
      split at this
      · simp only [Instr.findNow, h1]; exact this
      · obtain ⟨j, c, q1, q2⟩ := this
        exact ⟨j, c, by simp only [Instr.findNow, h1]; exact q1, q2⟩
    · cases hf

theorem put_rel {e : EK} {d : TypeDesc} (hd : KeyD e d) {k v : AV} {x c : Value} (hx : Rel R w k x) (hv : Rel R w v c) : ∀ {es es' : List (AV × AV)} {ents : List MapEntry}, RelM R w es ents → mput e k v es = some es' →
    ∀ i, (Instr.findNow d x ents i = some none ∧ ∀ b, RelM R w es' (ents ++ [{ key := x, val := c, born := b }])) ∨
      ∃ j c', Instr.findNow d x ents i = some (some (i + j, c')) ∧ (∃ en, ents[j]? = some en ∧ en.key = x) ∧ RelM R w es' (ents.modify j fun e => { e with key := x, val := c })
  | [], es', [], _, h, i => by simp [mput] at h; subst h; exact .inl ⟨rfl, fun b => ⟨hx, hv, trivial⟩⟩
  | [], _, _ :: _, h, _, _ => h.elim
  | _ :: _, _, [], h, _, _ => h.elim
  | (k', v') :: es, es', en :: ents, h, hf, i => by
    unfold mput at hf
    split at hf
    · rename_i he
      cases hf
      obtain ⟨h1, h2⟩ := sameNow_rel hd he hx h.1
      exact .inr ⟨0, en.val, by simp [Instr.findNow, h1], ⟨en, rfl, (h2 rfl).symm⟩, by simp only [List.modify_zero_cons]; exact ⟨hx, hv, h.2.2⟩⟩
    · rename_i he
      have h1 := (sameNow_rel hd he hx h.1).1
      split at hf
      · rename_i r hr
        cases hf
        rcases put_rel hd hx hv h.2.2 hr (i + 1) with ⟨q1, q2⟩ | ⟨j, c', q1, q2, q3⟩
        · exact .inl ⟨by simp only [Instr.findNow, h1]; exact q1, fun b => ⟨h.1, h.2.1, q2 b⟩⟩
        · refine .inr ⟨j + 1, c', by simp only [Instr.findNow, h1]; rw [q1, Nat.add_assoc, Nat.add_comm 1 j], ?_, ?_⟩
          · obtain ⟨en', e1, e2⟩ := q2
            exact ⟨en', by simpa using e1, e2⟩
          · rw [List.modify_succ_cons]
            exact ⟨h.1, h.2.1, q3⟩
      · cases hf
    · cases hf

theorem run_checkKey {e : EK} {d : TypeDesc} (hd : KeyD e d) {t : TypeId} (hu : E.P.underlying t = some d) (b : Bool) (x : Value) (n : Nat) : (Instr.checkKey b (n + 1) t x).run E.P w = .ok () w := by
  rcases hd with ⟨_, rfl⟩ | ⟨_, k, rfl⟩ | ⟨_, rfl⟩ <;> simp [Instr.checkKey, run_underlying hu]

theorem mapOf_rel (h : Rep E R w β s a) {m : SV} {es : List (AV × AV)} {x : Value} (hm : mapOf s m = some es) (hx : RelS R w β m x) :
    ∃ ents, RelM R w es ents ∧ ((x = .map none ∧ ents = []) ∨ ∃ b es' clock, x = .map (some b) ∧ w.heap[b]? = some (.map es' clock) ∧ es'.toList = ents) := by
  unfold mapOf at hm
  split at hm
  · cases hm
    have hx' : Rel R w .nilm x := hx
    cases hx'
    exact ⟨[], trivial, .inl ⟨rfl, rfl⟩⟩
  · rename_i id
    have hx' : Rel R w (.map id) x := hx
    cases hx' with
    | map hb =>
    split at hm
    · rename_i es' hg
      cases hm
      obtain ⟨ents, clock, q1, q2, _⟩ := h.g.obj id _ _ hg hb
      exact ⟨ents.toList, q2, .inr ⟨_, ents, clock, rfl, q1, rfl⟩⟩
    · cases hm
  · cases hm

theorem zero_run {t : TypeId} {z : AV} {i : TypeInfo} (h1 : E.P.info? t = some i) (h2 : constOf i = some z) : ∃ c, (zeroValue t).run E.P w = .ok c w ∧ Rel R w z c := by
  obtain ⟨c, hc, hr⟩ := constOf_some h2
  exact ⟨c, by simp [zeroValue, typeInfo, run_program, h1, hc], hr R w⟩

theorem exec_lookup (h : Rep E R w β s a) (t : TypeId) (x y : Operand) (ok : Bool) (ho : o.op = .lookup t x y ok) {v : AV} {b : Bool} (hv : lookupA E s t (evO E s.slots x) (evO E s.slots y) = some (v, b)) :
    Done E R w β s a o (s.put o.dst (.v (if ok then .tup [v, .bool b] else v))) := by
  have rx := evO_rel h x
  have ry := evO_rel h y
  unfold lookupA at hv
  split at hv
  · rename_i i es k hi hm hk
    rw [hk] at ry
    have ry' : Rel R w k (a.eval y) := ry
    obtain ⟨ents, hM, hxv⟩ := mapOf_rel h hm rx
    obtain ⟨info, u, e1, e2, e3, e4, e5, e6⟩ := ti_info E hi
    split at hv
    · rename_i kt et z hik
      split at hv
      · rename_i j hj
        split at hv
        · rename_i hc
          rw [Bool.and_eq_true] at hc
          rw [hik] at e5
          obtain ⟨rfl, ie, g1, g2⟩ := tkOf_map e5
          have hek := ti_ek hj
          have hpl := hc.1
          rw [hek] at hpl
          obtain ⟨d, hu, hd⟩ : ∃ d, E.P.underlying kt = some d ∧ KeyD j.ek d := by
            rw [hek]
            rcases ekTop_plain hpl with ⟨q1, q2⟩ | ⟨q1, n, q2⟩ | ⟨q1, q2⟩
            · exact ⟨_, q2, .inl ⟨q1, rfl⟩⟩
            · exact ⟨_, q2, .inr (.inl ⟨q1, n, rfl⟩)⟩
            · exact ⟨_, q2, .inr (.inr ⟨q1, rfl⟩)⟩
          have hck : ∀ b, (Instr.checkKey b 10000 kt (a.eval y)).run E.P w = .ok () w := fun b => run_checkKey hd hu b _ 9999
          have fin : ∀ r, mfind j.ek k es = some r → r.getD z = v → r.isSome = b → Done E R w β s a o (s.put o.dst (.v (if ok then .tup [v, .bool b] else v))) := fun r hr q1 q2 => by
            subst q1 q2
            have hf := find_rel hd ry' hM hr 0
            have rel : ∀ c, Rel R w (r.getD z) c → Rel R w (if ok then .tup [r.getD z, .bool r.isSome] else r.getD z) (if ok then .tuple #[c, .bool r.isSome] else c) := fun c k2 => by
              cases ok
              · exact k2
              · exact Rel.tup (vs := [c, .bool r.isSome]) (.cons k2 (.cons (.bool _) .nil))
            cases r with
            | none =>
              obtain ⟨c, k1, k2⟩ := zero_run (R := R) (w := w) g1 g2
              have hfk : (Instr.findKey kt (a.eval y) ents).run E.P w = .ok none w := by simp [Instr.findKey, run_underlying hu, hf]
              refine done_value h (c := if ok then .tuple #[c, .bool false] else c) ?_ (rel c k2)
              rcases hxv with ⟨hx, rfl⟩ | ⟨b, es', clock, hx, hb, rfl⟩
              · simp [execOp, ho, Instr.lookup, hx, run_underlying e2, hck, hfk, k1]
              · simp [execOp, ho, Instr.lookup, hx, run_underlying e2, getObj, Sem.run, hb, hck, hfk, k1]
            | some v =>
              obtain ⟨j', c, q1, q2⟩ := hf
              have hfk : (Instr.findKey kt (a.eval y) ents).run E.P w = .ok (some (j', c)) w := by simp [Instr.findKey, run_underlying hu, q1]
              refine done_value h (c := if ok then .tuple #[c, .bool true] else c) ?_ (rel c q2)
              rcases hxv with ⟨hx, rfl⟩ | ⟨b, es', clock, hx, hb, rfl⟩
              · simp [execOp, ho, Instr.lookup, hx, run_underlying e2, hck, hfk]
              · simp [execOp, ho, Instr.lookup, hx, run_underlying e2, getObj, Sem.run, hb, hck, hfk]
          split at hv
          · rename_i v' hr; cases hv; exact fin _ hr rfl rfl
          · rename_i hr; cases hv; exact fin _ hr rfl rfl
          · cases hv
        · cases hv
      · cases hv
    · cases hv
  · cases hv

theorem keyD_of {kt : TypeId} {j : TI} (hj : E.ti kt = some j) (hp : j.ek.plain = true) : ∃ d, E.P.underlying kt = some d ∧ KeyD j.ek d := by
  have hek := ti_ek hj
  rw [hek] at hp ⊢
  rcases ekTop_plain hp with ⟨q1, q2⟩ | ⟨q1, n, q2⟩ | ⟨q1, q2⟩
  · exact ⟨_, q2, .inl ⟨q1, rfl⟩⟩
  · exact ⟨_, q2, .inr (.inl ⟨q1, n, rfl⟩)⟩
  · exact ⟨_, q2, .inr (.inr ⟨q1, rfl⟩)⟩

theorem beq_bytes (x : ByteArray) : (x == x) = true := by rw [beq_toListBytes]; simp

theorem sameBits_plain {e : EK} {k : AV} {x : Value} (hp : keyFits e k = true) (hx : Rel R w k x) (n : Nat) : Instr.sameBits n x x = true := by
  unfold keyFits at hp
  split at hp
  · cases hx; cases n <;> simp [Instr.sameBits]
  · cases hx; cases n <;> simp [Instr.sameBits]
  · cases hx; cases n <;> (simp only [Instr.sameBits]; exact beq_bytes _)
  · cases hp

theorem born_modify {ents : List MapEntry} {clock : Nat} (h : ∀ e ∈ ents, e.born < clock) (x c : Value) : ∀ j, ∀ e ∈ ents.modify j (fun e => { e with key := x, val := c }), e.born < clock := by
  induction ents with
  | nil => intro j e he; simp at he
  | cons en ents ih =>
    intro j e he
    cases j with
    | zero =>
      simp only [List.modify_zero_cons, List.mem_cons] at he
      rcases he with rfl | he
      · exact h en (by simp)
      · exact h e (by simp [he])
    | succ j =>
      rw [List.modify_succ_cons, List.mem_cons] at he
      rcases he with rfl | he
      · exact h e (by simp)
      · exact ih (fun e he => h e (by simp [he])) j e he

theorem exec_mapUpdate (h : Rep E R w β s a) (t : TypeId) (x y z : Operand) (ho : o.op = .mapUpdate t x y z ∨ o.op = .insert t x y z) (hd : o.dst = none) {s' : St} (hv : updateA E s t (evO E s.slots x) (evO E s.slots y) (evO E s.slots z) = some s') :
    Done E R w β s a o s' := by
  have rx := evO_rel h x
  have ry := evO_rel h y
  have rz := evO_rel h z
  unfold updateA at hv
  split at hv
  · rename_i i id k v hi hm hk hz
    rw [hm] at rx
    rw [hk] at ry
    rw [hz] at rz
    have rx' : Rel R w (.map id) (a.eval x) := rx
    have ry' : Rel R w k (a.eval y) := ry
    have rz' : Rel R w v (a.eval z) := rz
    split at hv
    · rename_i kt et ez es hik hg
      split at hv
      · rename_i j hj
        split at hv
        · rename_i hc
          rw [Bool.and_eq_true] at hc
          split at hv
          · rename_i es' hput
            cases hv
            obtain ⟨info, u, e1, e2, e3, e4, e5, e6⟩ := ti_info E hi
            rw [hik] at e5
            obtain ⟨rfl, ie, g1, g2⟩ := tkOf_map e5
            obtain ⟨d, hu, hD⟩ := keyD_of hj hc.1
            generalize hxv : a.eval x = xv at rx'
            cases rx' with
            | @map _ b hb =>
            obtain ⟨ents, clock, q1, q2, q3⟩ := h.g.obj id _ _ hg hb
            have hlt := block_lt q1
            have hck : (Instr.checkKey false 10000 kt (a.eval y)).run E.P w = .ok () w := run_checkKey hD hu _ _ 9999
            have hget : (getObj b).run E.P w = .ok (.map ents clock) w := by simp [getObj, Sem.run, q1]
            have hset : ∀ o', (setObj b o').run E.P w = .ok () (World.put w b o') := fun o' => by
              simp [setObj, Sem.run, World.put, q1]
            have fin : ∀ ents' clock', RelM R w es' ents'.toList → (∀ e ∈ ents'.toList, e.born < clock') → (execOp a.eval o).run E.P w = .ok .skip (World.put w b (.map ents' clock')) →
                Done E R w β s a o (s.inG (setN s.G id (.map es'))) := fun ents' clock' k1 k2 k3 => by
              have hex := ext_put (R := R) (x' := .map ents' clock') q1 trivial trivial (fun _ e => by cases e)
              obtain ⟨p1, p2⟩ := h.setObj (x' := .map ents' clock') (go' := .map es') hb q1 trivial trivial (fun _ e => by cases e) ⟨ents', clock', put_self w b _ hlt, k1.mono hex, k2⟩
              refine ⟨.skip, undef, _, R, β, k3, .inr ⟨rfl, rfl⟩, ?_, p2⟩
              rw [hd]
              exact p1
            rcases put_rel hD ry' rz' q2 hput 0 with ⟨k1, k2⟩ | ⟨n, c', k1, ⟨en, k2, k3⟩, k4⟩
            · have hfk : (Instr.findKey kt (a.eval y) ents.toList).run E.P w = .ok none w := by simp [Instr.findKey, run_underlying hu, k1]
              refine fin (ents.push { key := a.eval y, val := a.eval z, born := clock }) (clock + 1) (by rw [Array.toList_push]; exact k2 clock) (fun e he => ?_) ?_
              · rw [Array.toList_push, List.mem_append] at he
                rcases he with he | he
                · exact Nat.lt_succ_of_lt (q3 e he)
                · simp at he; subst he; exact Nat.lt_succ_self _
              · rcases ho with ho | ho <;> simp [execOp, ho, Instr.mapUpdate, hxv, run_underlying e2, hget, hck, hfk, hset]
            · have hfk : (Instr.findKey kt (a.eval y) ents.toList).run E.P w = .ok (some (n, c')) w := by
                rw [Nat.zero_add] at k1
                simp [Instr.findKey, run_underlying hu, k1]
              have hen : ents[n]? = some en := by rw [← Array.getElem?_toList]; exact k2
              have hkeep : (Instr.keyThatStays (a.eval y) (a.eval y)).run E.P w = .ok (a.eval y) w := by simp [Instr.keyThatStays, sameBits_plain hc.2 ry' 10000]
              refine fin (ents.modify n fun e => { e with key := a.eval y, val := a.eval z }) clock (by rw [Array.toList_modify]; exact k4) (fun e he => ?_) ?_
              · rw [Array.toList_modify] at he
                exact born_modify q3 _ _ n e he
              · rcases ho with ho | ho <;> simp [execOp, ho, Instr.mapUpdate, hxv, run_underlying e2, hget, hck, hfk, hen, k3, hkeep, hset]
          · cases hv
        · cases hv
      · cases hv
    · cases hv
  · cases hv

/-! ### Ranges over strings -/

theorem exec_range (h : Rep E R w β s a) (t : TypeId) (x : Operand) (ho : o.op = .range t x) {i : TI} {l : List UInt8} (hi : E.ti t = some i) (hk : i.k = .str) (hx : evO E s.slots x = .v (.str l)) :
    Done E R w β s a o ((s.addG (.siter l 0)).put o.dst (.v (.ptr s.G.length 0))) := by
  have rx := evO_rel h x
  rw [hx] at rx
  have rx' : Rel R w (.str l) (a.eval x) := rx
  obtain ⟨info, u, e1, e2, e3, e4, e5, e6⟩ := ti_info E hi
  rw [hk] at e5
  have hu := tkOf_str e5
  subst hu
  have hgo : RepO (R.add (.blk w.heap.size)) (w.alloc (.stringIter ⟨⟨l⟩⟩ 0)) (.siter l 0) (.blk w.heap.size) := heap_alloc_new w _
  refine ⟨_, .pointer (some ⟨w.heap.size, 0, none⟩), w.alloc (.stringIter ⟨⟨l⟩⟩ 0), R.add (.blk w.heap.size), β, ?_, .inl rfl, (h.addObj (.stringIter ⟨⟨l⟩⟩ 0) (.siter l 0) (.blk w.heap.size) rfl hgo).put o.dst (x := .v (.ptr s.G.length 0)) (Rel.ptr (nth_new h _)), by rw [boxes_put]; exact step_addObj h _ _ rfl⟩
  generalize hxv : a.eval x = xv at rx'
  cases rx'
  simp only [execOp, ho, hxv, Instr.range, Sem.run_bind, run_underlying e2, run_newObj, Result.andThen_ok, Sem.run_pure]
  rfl

theorem decodeA_eq (l : List UInt8) (pos : Nat) (h : pos < l.length) : decodeA l pos = Utf8.decode ⟨⟨l⟩⟩ pos := by
  unfold decodeA
  cases hb : Nat.blt (l.getD pos 0).toNat 128 with
  | false => rfl
  | true =>
    have hlt : (l.getD pos 0).toNat < 128 := Nat.le_of_ble_eq_true hb
    have e : (ByteArray.get! ⟨⟨l⟩⟩ (pos + 0)) = l.getD pos 0 := by
      simp [ByteArray.get!, h, List.getD_eq_getElem?_getD]
    simp only [cond_true, Utf8.decode, e]
    rw [if_pos (show (l.getD pos 0).toNat < 0x80 from hlt)]

theorem exec_next (h : Rep E R w β s a) (x : Operand) (ho : o.op = .next x true) {s' : St} (hv : nextA s o.dst (evO E s.slots x) = some s') : Done E R w β s a o s' := by
  have rx := evO_rel h x
  unfold nextA at hv
  split at hv
  · rename_i id hx
    rw [hx] at rx
    have rx' : Rel R w (.ptr id 0) (a.eval x) := rx
    generalize hxv : a.eval x = xv at rx'
    cases rx' with
    | @ptr _ _ b hb =>
    split at hv
    · rename_i l pos hg
      have q1 : w.heap[b]? = some (.stringIter ⟨⟨l⟩⟩ pos) := h.g.obj id _ _ hg hb
      have hlt := block_lt q1
      have hget : (getObj b).run E.P w = .ok (.stringIter ⟨⟨l⟩⟩ pos) w := by simp [getObj, Sem.run, q1]
      have hset : ∀ o', (setObj b o').run E.P w = .ok () (World.put w b o') := fun o' => by
        simp [setObj, Sem.run, World.put, q1]
      cases hb' : Nat.blt pos l.length with
      | true =>
        rw [hb'] at hv
        have hp : pos < l.length := Nat.le_of_ble_eq_true hb'
        simp only [cond_true] at hv
        generalize hdec : decodeA l pos = p at hv
        obtain ⟨c, n⟩ := p
        cases hv
        rw [decodeA_eq l pos hp] at hdec
        obtain ⟨p1, p2⟩ := h.setObj (x' := .stringIter ⟨⟨l⟩⟩ (pos + n)) (go' := .siter l (pos + n)) hb q1 trivial trivial (fun _ e => by cases e) (put_self w b _ hlt)
        have hsz : pos < (⟨⟨l⟩⟩ : ByteArray).size := hp
        refine ⟨.value (.tuple #[.bool true, .int .i64 pos, .int .i32 c]), _, _, R, β, ?_, .inl rfl, p1.put o.dst (x := .v (.tup [.bool true, .int .i64 pos, .int .i32 c])) (Rel.tup (vs := [.bool true, .int .i64 pos, .int .i32 c]) (.cons (.bool _) (.cons (.int _ _) (.cons (.int _ _) .nil)))), by rw [boxes_put]; exact p2⟩
        simp [execOp, ho, hxv, Instr.next, hget, hsz, hdec, hset, goInt]
      | false =>
        rw [hb'] at hv
        simp only [cond_false] at hv
        cases hv
        have hp : ¬ pos < l.length := fun hh => by
          have : Nat.blt pos l.length = true := Nat.ble_eq_true_of_le hh
          rw [hb'] at this; cases this
        have hsz : ¬ pos < (⟨⟨l⟩⟩ : ByteArray).size := hp
        refine done_value h (c := .tuple #[.bool false]) ?_ (Rel.tup (vs := [.bool false]) (.cons (.bool _) .nil))
        simp [execOp, ho, hxv, Instr.next, hget, hsz]
    · cases hv
  · cases hv

end maps
end Go.Am
namespace Go.Am
open Go

section ops
variable {E : Env} {R : Realm} {w : World} {β : Nat → Nat} {s : St} {a : Act} {o : Oper}

theorem allFit_int {k : IntKind} : ∀ {es : List AV}, allFit (Pat.fits (.int k)) es = true → es = (es.map AV.intD).map (AV.int k)
  | [], _ => rfl
  | e :: es, h => by
    simp only [allFit, Bool.and_eq_true] at h
    have hr := allFit_int h.2
    have he : e = .int k e.intD := by
      have h1 := h.1
      cases e <;> first | (cases h1; done) | skip
      have : k = _ := of_decide_eq_true (show kEq _ _ = true from h1)
      subst this
      rfl
    rw [List.map_cons, List.map_cons, ← he, ← hr]

theorem relL_ints {k : IntKind} : ∀ {ns : List Int} {vs : List Value}, RelL R w (ns.map (AV.int k)) vs → vs = ns.map (Value.int k)
  | [], _, .nil => rfl
  | n :: ns, _, .cons h t => by
    cases h
    rw [List.map_cons, ← relL_ints t]

theorem cellsL_ints {k : IntKind} : ∀ (ns : List Int), cellsL (ns.map (AV.int k)) = ns.map (AV.int k)
  | [] => rfl
  | n :: ns => by simp [cellsL, AV.cells, cellsL_ints ns]

theorem foldl_push (ns : List Int) : ∀ (l : List UInt8), ns.foldl (fun r n => r.push (UInt8.ofNat n.toNat)) (⟨⟨l⟩⟩ : ByteArray) = ⟨⟨l ++ ns.map fun n => UInt8.ofNat n.toNat⟩⟩ := by
  induction ns with
  | nil => intro l; simp
  | cons n ns ih =>
    intro l
    rw [List.foldl_cons]
    have : (⟨⟨l⟩⟩ : ByteArray).push (UInt8.ofNat n.toNat) = ⟨⟨l ++ [UInt8.ofNat n.toNat]⟩⟩ := by
      simp [ByteArray.push]
    rw [this, ih]
    simp

theorem foldl_runes (ns : List Int) : ∀ (l : List UInt8), ns.foldl (fun r n => r ++ Utf8.encode n) (⟨⟨l⟩⟩ : ByteArray) = ⟨⟨l ++ ns.flatMap fun n => (Utf8.encode n).data.toList⟩⟩ := by
  induction ns with
  | nil => intro l; simp
  | cons n ns ih =>
    intro l
    rw [List.foldl_cons]
    have : (⟨⟨l⟩⟩ : ByteArray) ++ Utf8.encode n = ⟨⟨l ++ (Utf8.encode n).data.toList⟩⟩ := by
      apply ByteArray.ext
      apply Array.ext'
      simp
    rw [this, ih]
    simp

theorem bytesD_eq {es : List AV} : bytesD es = (es.map AV.intD).map fun n => UInt8.ofNat n.toNat := by simp [bytesD, List.map_map, Function.comp_def]
theorem runesD_eq {es : List AV} : runesD es = (es.map AV.intD).flatMap fun n => (Utf8.encode n).data.toList := by simp [runesD, List.flatMap_map]

theorem run_bytes {a : Addr} {len cap : Nat} {ns : List Int} (h : (loadCells a len).run E.P w = .ok (ns.map (Value.int .u8)).toArray w) :
    (Conv.bytesToString (.slice (some a) len cap)).run E.P w = .ok (.string ⟨⟨ns.map fun n => UInt8.ofNat n.toNat⟩⟩) w := by
  rw [run_bytesToString w a len cap ns h]
  have := foldl_push ns []
  rw [List.nil_append] at this
  exact congrArg (fun x => Result.ok (Value.string x) w) this

theorem run_runes {a : Addr} {len cap : Nat} {ns : List Int} (h : (loadCells a len).run E.P w = .ok (ns.map (Value.int .i32)).toArray w) :
    (Conv.runesToString (.slice (some a) len cap)).run E.P w = .ok (.string ⟨⟨ns.flatMap fun n => (Utf8.encode n).data.toList⟩⟩) w := by
  rw [run_runesToString w a len cap ns h]
  have := foldl_runes ns []
  rw [List.nil_append] at this
  exact congrArg (fun x => Result.ok (Value.string x) w) this

/-- The numbers of a list that is turned into a string. -/
theorem list_ints {k : IntKind} {lk : LK} {sz : Nat} {es : List AV} {c : Value} (h : Rel R w (.list lk sz es) c) (hs : (Nat.beq sz 1 || es.isEmpty) = true) (hf : allFit (Pat.fits (.int k)) es = true) :
    (es = [] ∧ c = .slice none 0 0) ∨ ∃ a cap, c = .slice (some a) es.length cap ∧ (loadCells a es.length).run E.P w = .ok ((es.map AV.intD).map (Value.int k)).toArray w := by
  obtain ⟨_, vs, h1, h2, h3, h4⟩ := list_cells (esz := 1) h (by
    simp only [Bool.or_eq_true] at hs
    rcases hs with hs | hs
    · exact .inr (Nat.eq_of_beq_eq_true hs)
    · exact .inl (by simpa using hs))
  rw [allFit_int hf, cellsL_ints] at h1
  have hv := relL_ints h1
  rcases h4 with ⟨he, _, hc⟩ | ⟨b, o', cap, hc, _, _, hcell, _⟩
  · exact .inl ⟨he, hc⟩
  · refine .inr ⟨_, cap, hc, ?_⟩
    have := run_loadCells_list (P := E.P) w ⟨b, o', none⟩ vs hcell
    rw [h3, Nat.mul_one] at this
    rw [this, hv]

theorem exec_convert (h : Rep E R w β s a) (t u : TypeId) (x : Operand) (ho : o.op = .convert t u x) {v : AV} (hc : convertA E s t u (evO E s.slots x) = some (true, v)) :
    Done E R w β s a o (s.put o.dst (.v v)) := by
  have rx := evO_rel h x
  unfold convertA at hc
  split at hc
  · rename_i i j q hi hj hx
    rw [hx] at rx
    have rx' : Rel R w q (a.eval x) := rx
    generalize hxv : a.eval x = xv at rx'
    obtain ⟨info, ud, e1, e2, e3, e4, e5, e6⟩ := ti_info E hj
    obtain ⟨info', ud', e1', e2', e3', e4', e5', e6'⟩ := ti_info E hi
    split at hc
    · rename_i k _ n hk
      cases hc
      cases rx'
      rw [hk] at e5
      have := tkOf_int e5
      subst this
      refine done_value h (c := .int k (k.wrap n)) ?_ (Rel.int _ _)
      simp [execOp, ho, convert, run_underlying e2', run_underlying e2, hxv, Conv.intToInt]
    · rename_i lk sz es hk
      rw [hk] at e5
      have := tkOf_str e5
      subst this
      split at hc
      · rename_i elem ag eb z hik
        rw [hik] at e5'
        obtain ⟨ie, ue, rfl, _⟩ := tkOf_sl e5'
        split at hc
        · rename_i e he
          obtain ⟨info2, ud2, f1, f2, f3, f4, f5, f6⟩ := ti_info E he
          split at hc
          · rename_i hek
            injection hc with hc; injection hc with c1 c2
            subst c2
            rw [Bool.and_eq_true] at c1
            rw [hek] at f5
            have := tkOf_int f5
            subst this
            refine done_value h (c := .string ⟨⟨bytesD es⟩⟩) ?_ (Rel.str _)
            rcases list_ints (E := E) rx' c1.1 c1.2 with ⟨rfl, rfl⟩ | ⟨ad, cap, rfl, hl⟩
            · simp [execOp, ho, convert, run_underlying e2', run_underlying e2, run_underlying f2, hxv, Conv.bytesToString, bytesD]
              rfl
            · have hr := run_bytes (E := E) (cap := cap) hl
              rw [← bytesD_eq] at hr
              simp [execOp, ho, convert, run_underlying e2', run_underlying e2, run_underlying f2, hxv, hr]
          · rename_i hek
            injection hc with hc; injection hc with c1 c2
            subst c2
            rw [Bool.and_eq_true] at c1
            rw [hek] at f5
            have := tkOf_int f5
            subst this
            refine done_value h (c := .string ⟨⟨runesD es⟩⟩) ?_ (Rel.str _)
            rcases list_ints (E := E) rx' c1.1 c1.2 with ⟨rfl, rfl⟩ | ⟨ad, cap, rfl, hl⟩
            · simp [execOp, ho, convert, run_underlying e2', run_underlying e2, run_underlying f2, hxv, Conv.runesToString, runesD]
              rfl
            · have hr := run_runes (E := E) (cap := cap) hl
              rw [← runesD_eq] at hr
              simp [execOp, ho, convert, run_underlying e2', run_underlying e2, run_underlying f2, hxv, hr]
          · cases hc
        · cases hc
      · cases hc
    · rename_i id off len cap hk
      rw [hk] at e5
      have := tkOf_str e5
      subst this
      split at hc
      · rename_i elem ag eb z cs el hik hg
        rw [hik] at e5'
        obtain ⟨ie, ue, rfl, _⟩ := tkOf_sl e5'
        split at hc
        · rename_i e he
          obtain ⟨info2, ud2, f1, f2, f3, f4, f5, f6⟩ := ti_info E he
          split at hc
          · rename_i hek
            injection hc with hc; injection hc with c1 c2
            subst c2
            rw [Bool.and_eq_true] at c1
            rw [hek] at f5
            have := tkOf_int f5
            subst this
            cases rx' with
            | @msl _ _ _ _ _ b hb hcap =>
            obtain ⟨vs, b1, b2, b3, b4⟩ := h.g.obj id _ _ hg hb
            have hle := Nat.le_of_ble_eq_true c1.1
            have hsub : subA off (off + len) cs = (cs.drop off).take len := by
              unfold subA
              rw [List.drop_take]
              congr 1
              omega
            have hrel : RelL R w (subA off (off + len) cs) ((vs.drop off).take len) := by
              rw [hsub]
              exact (b2.drop off).take len
            have hlen : ((vs.drop off).take len).length = len := by
              rw [List.length_take, List.length_drop, ← b2.length]
              omega
            have hr2 := hrel
            rw [allFit_int c1.2] at hr2
            have hv := relL_ints hr2
            have hl := run_loadCells_list (P := E.P) w ⟨b, off, none⟩ ((vs.drop off).take len) (fun j v hj => by
              rw [addr_add, cell_row b1]
              rw [List.getElem?_take] at hj
              split at hj
              · rw [List.getElem?_drop] at hj; exact hj
              · cases hj)
            rw [hlen, hv] at hl
            have hr := run_bytes (E := E) (cap := cap) hl
            rw [← bytesD_eq] at hr
            refine done_value h (c := .string ⟨⟨bytesD (subA off (off + len) cs)⟩⟩) ?_ (Rel.str _)
            simp [execOp, ho, convert, run_underlying e2', run_underlying e2, run_underlying f2, hxv, hr]
          · cases hc
        · cases hc
      · cases hc
    · cases hc
  · cases hc

theorem exec_nilCheck (h : Rep E R w β s a) (x : Operand) (ho : o.op = .nilCheck x) {y : SV} (hx : evO E s.slots x = y) (hy : (∃ id off, y = .v (.ptr id off)) ∨ ∃ k off, y = .lp k off) :
    Done E R w β s a o (s.put o.dst y) := by
  have rx := evO_rel h x
  rw [hx] at rx
  rcases hy with ⟨id, off, rfl⟩ | ⟨k, off, rfl⟩
  · have rx' : Rel R w (.ptr id off) (a.eval x) := rx
    generalize hxv : a.eval x = xv at rx'
    cases rx' with
    | @ptr _ _ b hb =>
    refine done_value h (c := .pointer (some ⟨b, off, none⟩)) ?_ (Rel.ptr hb)
    simp [execOp, ho, hxv]
  · refine ⟨_, _, w, R, β, ?_, .inl rfl, h.put o.dst rx, by rw [boxes_put]; exact Step.refl _ _ _ _⟩
    have hxv : a.eval x = .pointer (some ⟨β k, off, none⟩) := rx
    simp [execOp, ho, hxv]

end ops
end Go.Am
namespace Go.Am
open Go

section ops
variable {E : Env} {R : Realm} {w : World} {β : Nat → Nat} {s : St} {a : Act} {o : Oper}

/-- The cells of an object are written. -/
theorem Rep.setRow (h : Rep E R w β s a) {id b : Nat} {cs cs' : List AV} {vs us : List Value} {el : TypeId} (hk : nth s.G id = some (.row cs el)) (hb : nth R.obj id = some (.blk b)) (hw : w.heap[b]? = some (.cells ⟨vs⟩ el (0, 0)))
    (hr : RelL R w cs' us) (h1 : ∀ v ∈ us, v.oneCell' = true) : Rep E R (w.setRow b ⟨us⟩) β (s.inG (setN s.G id (.row cs' el))) a ∧ Step R w β s.boxes R (w.setRow b ⟨us⟩) β s.boxes := by
  obtain ⟨vs', b1, b2, b3, b4⟩ := h.g.obj id _ _ hk hb
  have hex := ext_setRow (R := R) (w := w) b4 ⟨us⟩
  refine ⟨⟨⟨by simp [St.inG, h.g.len], fun id' go ro hg hr' => ?_, h.g.inj, fun b' o' hi' => by have := h.g.wf b' o' hi'; simp; omega, fun g cs' hg => (h.g.glob g cs' hg).mono hex⟩, ?_, h.t.mono hex, h.n, h.d⟩, ?_⟩
  · rcases nth_setN hg with ⟨rfl, rfl, _⟩ | ⟨hne, hg'⟩
    · rw [hb] at hr'
      cases hr'
      exact ⟨_, setRow_heap w _ _ _ _ (0, 0) hw, hr.mono hex, h1, b4⟩
    · refine (h.g.obj id' go ro hg' hr').mono hex (fun b' hb' => setRow_other w _ b' _ (fun e => hne ?_)) (fun _ _ _ hi => hi)
      subst e
      exact h.g.inj id id' _ _ b' hb hr' rfl hb'
  · exact h.b.keep hex (fun k cs' hk' => setRow_other w _ _ _ (h.ne_box hb hk')) (fun _ _ _ _ hi => hi) (fun _ _ _ hl => hl)
  · have hown : Own R β s.boxes b := .inl ⟨id, _, hb, rfl⟩
    exact ⟨hex, rfl, rfl, rfl, by simp, fun b' _ hn => setRow_other w _ b' _ (fun e => hn (e ▸ hown)), fun _ _ hb => hb, fun b o hi _ _ => hi⟩

theorem run_copy {P : Program} {w : World} {t ty elem : TypeId} {tl : List TypeId} {ie : TypeInfo} {esz n sLen b off len cap : Nat} {src : Value} {vs us : List Value} {el : TypeId} (e2 : P.underlying t = some (.slice elem)) (f1 : P.info? elem = some ie) (f2 : ie.size = esz)
    (hw : w.heap[b]? = some (.cells ⟨vs⟩ el (0, 0))) (hs : (Builtin.lenOf src).run P w = .ok sLen w) (hn : n = Nat.min sLen len) (hf : (Builtin.firstCells esz n src).run P w = .ok ⟨us⟩ w) (hl : off + us.length ≤ vs.length) (h1 : ∀ v ∈ us, v.oneCell' = true) :
    (Builtin.copy_ ⟨t :: tl⟩ ty #[.slice (some ⟨b, off, none⟩) len cap, src]).run P w = .ok (.int .i64 n) (w.setRow b ⟨vs.take off ++ us ++ vs.drop (off + us.length)⟩) := by
  have hst := run_storeCells_at (P := P) b off el us 0 ⟨vs⟩ w hw (by simpa using hl) h1
  simp only [Nat.add_zero] at hst
  subst hn
  simp [Builtin.copy_, run_underlying e2, run_sizeOf w f1, f2, hs, hf, hst, goInt]

theorem exec_copy (h : Rep E R w β s a) {args : Array Operand} {t : TypeId} {tl : List TypeId} (ho : o.op = .call { callee := .builtin .copy, args := args, argTypes := ⟨t :: tl⟩ }) {d x : AV}
    (hl : evL E s.slots args.toList = some [d, x]) {i : TI} (hi : E.ti t = some i) {elem esz eb : Nat} {ag : Bool} {z : Option AV} (hk : i.k = .sl elem esz ag eb z) {n : Nat} {G' : List GO} (hc : copyA s esz d x = some (n, G')) :
    Done E R w β s a o ((s.inG G').put o.dst (.v (.int .i64 n))) := by
  have hr := evL_rel h hl
  generalize hv : args.toList.map a.eval = vs at hr
  have hx := exec_builtin (E := E) (w := w) ho vs hv
  cases hr with
  | @cons _ cd _ _ h0 h1 =>
  cases h1 with
  | @cons _ cx _ _ h1 h2 =>
  cases h2
  obtain ⟨info, ud, e1, e2, e3, e4, e5, e6⟩ := ti_info E hi
  rw [hk] at e5
  obtain ⟨ie, ue, rfl, f1, f2, f3, f4, f5, f6⟩ := tkOf_sl e5
  have hfin : ∀ {c : Value} {w' : World}, (Builtin.copy_ ⟨t :: tl⟩ o.type #[cd, cx]).run E.P w = .ok c w' → (execOp a.eval o).run E.P w = .ok (.value c) w' := fun hh => by
    rw [hx]
    simp only [builtin, Sem.run_bind, hh, Result.andThen_ok, Sem.run_pure]
  unfold copyA at hc
  split at hc
  · rename_i id off sz len cap
    cases h0 with
    | @msl _ _ _ _ _ b hb hlc =>
    split at hc
    · rename_i cs hg
      split at hc
      · rename_i hsz
        have hsz := Nat.eq_of_beq_eq_true hsz
        subst hsz
        obtain ⟨vs, b1, b2, b3, b4⟩ := h.g.obj id _ _ hg hb
        split at hc
        · rename_i k sz' es
          split at hc
          · rename_i hsz2
            have hsz2' : es = [] ∨ sz' = sz := by
              simp only [Bool.or_eq_true] at hsz2
              rcases hsz2 with hs | hs
              · exact .inr (Nat.eq_of_beq_eq_true hs)
              · exact .inl (by simpa using hs)
            dsimp only at hc
            split at hc
            · rename_i hle
              have hle := Nat.le_of_ble_eq_true hle
              injection hc with hc; injection hc with p q
              subst p; subst q
              obtain ⟨x0, xs, x1, x2, x3, x4⟩ := list_cells (esz := sz) h1 hsz2'
              have htk : ElOk sz (es.take (Nat.min es.length len)) := fun e he => x0 e (List.mem_of_mem_take he)
              have hnl : (cellsL (es.take (Nat.min es.length len))).length = Nat.min es.length len * sz := by
                rw [length_cellsL htk, List.length_take, Nat.min_eq_left (Nat.min_le_left _ _)]
              have hsplit : cellsL es = cellsL (es.take (Nat.min es.length len)) ++ cellsL (es.drop (Nat.min es.length len)) := by rw [← cellsL_append, List.take_append_drop]
              have hrel : RelL R w (cellsL (es.take (Nat.min es.length len))) (xs.take (Nat.min es.length len * sz)) := by
                have := x1.take (Nat.min es.length len * sz)
                rw [hsplit, ← hnl, List.take_left, hnl] at this
                exact this
              have hxl : (xs.take (Nat.min es.length len * sz)).length = Nat.min es.length len * sz := by rw [← hrel.length, hnl]
              have hones : ∀ v ∈ xs.take (Nat.min es.length len * sz), v.oneCell' = true := fun v hv => x2 v (List.mem_of_mem_take hv)
              have hfl : (Builtin.lenOf cx).run E.P w = .ok es.length w ∧ (Builtin.firstCells sz (Nat.min es.length len) cx).run E.P w = .ok ⟨xs.take (Nat.min es.length len * sz)⟩ w := by
                rcases x4 with ⟨rfl, rfl, rfl⟩ | ⟨b', o', cap', rfl, _, _, hcell, _⟩
                · exact ⟨rfl, by simp [Builtin.firstCells]⟩
                · refine ⟨rfl, ?_⟩
                  exact run_firstCells_some (P := E.P) w sz _ ⟨b', o', none⟩ es.length cap' _ hxl (fun j v hv => hcell j v (by rw [List.getElem?_take] at hv; split at hv <;> first | exact hv | cases hv))
              have hrun := run_copy (P := E.P) (tl := tl) (ty := o.type) (off := off) (cap := cap) e2 f1 f2 b1 hfl.1 rfl hfl.2 (by rw [hxl, ← hnl, ← b2.length]; exact hle) hones
              obtain ⟨r1, r2⟩ := h.setRow hg hb b1 (b2.splice hrel hle) (one_splice b3 hones)
              exact ⟨_, _, _, R, β, hfin hrun, .inl rfl, r1.put o.dst (x := .v (.int .i64 (Nat.min es.length len))) (Rel.int _ _), by rw [boxes_put]; exact r2⟩
            · cases hc
          · cases hc
        · rename_i bs
          split at hc
          · rename_i hcnd
            rw [Bool.and_eq_true] at hcnd
            have hs1 := Nat.eq_of_beq_eq_true hcnd.1
            subst hs1
            have hle := Nat.le_of_ble_eq_true hcnd.2
            injection hc with hc; injection hc with p q
            subst p; subst q
            cases h1
            have hbl : (bs.take (Nat.min bs.length len)).length = Nat.min bs.length len := by rw [List.length_take, Nat.min_eq_left (Nat.min_le_left _ _)]
            have hml : ((bs.take (Nat.min bs.length len)).map byteA).length = (bs.take (Nat.min bs.length len)).length := List.length_map _
            have hrel : RelL R w ((bs.take (Nat.min bs.length len)).map byteA) ((bs.take (Nat.min bs.length len)).map fun b => Value.int .u8 b.toNat) := by
              generalize bs.take (Nat.min bs.length len) = l
              induction l with
              | nil => exact .nil
              | cons b l ih => exact .cons (Rel.int .u8 b.toNat) ih
            have hones : ∀ v ∈ (bs.take (Nat.min bs.length len)).map (fun b : UInt8 => Value.int .u8 b.toNat), v.oneCell' = true := fun v hv => by
              obtain ⟨b, _, rfl⟩ := List.mem_map.1 hv
              rfl
            have hxl : ((bs.take (Nat.min bs.length len)).map fun b : UInt8 => Value.int .u8 b.toNat).length = (bs.take (Nat.min bs.length len)).length := List.length_map _
            have hfl : (Builtin.firstCells 1 (Nat.min bs.length len) (.string ⟨⟨bs⟩⟩)).run E.P w = .ok ⟨(bs.take (Nat.min bs.length len)).map fun b : UInt8 => Value.int .u8 b.toNat⟩ w := by
              simp [Builtin.firstCells]
            have hrun := run_copy (P := E.P) (tl := tl) (ty := o.type) (off := off) (cap := cap) (src := .string ⟨⟨bs⟩⟩) (sLen := bs.length) e2 f1 f2 b1 rfl rfl hfl (by rw [hxl, ← b2.length]; exact hle) hones
            obtain ⟨r1, r2⟩ := h.setRow hg hb b1 (b2.splice hrel (by rw [hml]; exact hle)) (one_splice b3 hones)
            exact ⟨_, _, _, R, β, hfin hrun, .inl rfl, r1.put o.dst (x := .v (.int .i64 (Nat.min bs.length len))) (Rel.int _ _), by rw [boxes_put]; exact r2⟩
          · cases hc
        · rename_i id' off' sz' len' cap'
          split at hc
          · rename_i cs' hg'
            dsimp only at hc
            split at hc
            · rename_i l hseg
              split at hc
              · rename_i hcnd
                simp only [Bool.and_eq_true] at hcnd
                have hle := Nat.le_of_ble_eq_true hcnd.2
                injection hc with hc; injection hc with p q
                subst p; subst q
                cases h1 with
                | @msl _ _ _ _ _ b' hb' hlc' =>
                obtain ⟨vs', c1, c2, c3, c4⟩ := h.g.obj id' _ _ hg' hb'
                obtain ⟨s1, s2, s3, s4⟩ := seg_rel hseg c2 c3
                have hxl := s2.length
                have hfl := run_firstCells_some (P := E.P) w sz (Nat.min len' len) ⟨b', off', none⟩ len' cap' _ (by rw [← hxl, s1]) (fun j v hv => by rw [addr_add, cell_row c1]; exact s4 j v hv)
                have hrun := run_copy (P := E.P) (tl := tl) (ty := o.type) (off := off) (cap := cap) e2 f1 f2 b1 (src := .slice (some ⟨b', off', none⟩) len' cap') (sLen := len') rfl rfl hfl (by rw [← hxl, ← b2.length]; exact hle) s3
                obtain ⟨r1, r2⟩ := h.setRow hg hb b1 (b2.splice s2 hle) (one_splice b3 s3)
                exact ⟨_, _, _, R, β, hfin hrun, .inl rfl, r1.put o.dst (x := .v (.int .i64 (Nat.min len' len))) (Rel.int _ _), by rw [boxes_put]; exact r2⟩
              · cases hc
            · cases hc
          · cases hc
        · cases hc
      · cases hc
    · cases hc
  · cases hc

theorem stepOp_done {f : FuncId} {s' : St} (h : Rep E R w β s a) (hs : stepOp E f s o = some (true, s')) : Done E R w β s a o s' := by
  unfold stepOp at hs
  split at hs
  · rename_i x ho
    split at hs
    · rename_i y hy
      cases hs
      exact exec_move h x (.inl ho) hy
    · rename_i k off hy
      cases hs
      exact exec_move h x (.inl ho) hy
    · rename_i hy
      cases hs
      exact exec_move h x (.inl ho) hy
  · rename_i x ho
    split at hs
    · rename_i y hy
      cases hs
      exact exec_move h x (.inr ho) hy
    · rename_i k off hy
      cases hs
      exact exec_move h x (.inr ho) hy
    · rename_i hy
      cases hs
      exact exec_move h x (.inr ho) hy
  · rename_i c x y ho
    split at hs
    · rename_i t p q h1 h2 h3
      cases hs
      exact exec_pick h c x y ho h1 h2 h3
    · cases hs
  · rename_i t ho
    split at hs
    · rename_i i hi
      split at hs
      · rename_i z hz
        split at hs
        · rename_i hn
          exact exec_alloc h t ho hi hz hn hs
        · cases hs
      · cases hs
    · cases hs
  · rename_i t x ho
    split at hs
    · rename_i v hv
      split at hs
      · rename_i hn
        exact exec_box h t x ho hv hn hs
      · cases hs
    · cases hs
  · rename_i t parts ho
    split at hs
    · rename_i v hv
      cases hs
      exact exec_build h t parts ho hv
    · cases hs
  · rename_i t len parts ho
    split at hs
    · rename_i v hv
      cases hs
      exact exec_buildSlice h t len parts ho hv
    · cases hs
  · rename_i t x ho
    split at hs
    · rename_i v hv
      cases hs
      exact exec_load h t x ho hv
    · cases hs
  · rename_i t p x ho
    split at hs
    · rename_i s'' hd hst
      cases hs
      exact exec_store h t p x ho hd hst
    · cases hs
  · rename_i op t x y u ho
    split at hs
    · rename_i p q hx hy
      split at hs
      · rename_i c v hv
        injection hs with hs; injection hs with h1 h2
        subst h1; subst h2
        exact exec_binOp h op t u x y ho hx hy hv
      · rename_i hb
        split at hs
        · rename_i r hr
          injection hs with hs; injection hs with h1 h2
          subst h2
          exact exec_eqO h op t u x y ho hx hy hb hr
        · cases hs
    · cases hs
  · rename_i op t x ho
    split at hs
    · rename_i b hx
      cases hs
      exact exec_not h t x ho hx
    · rename_i k n hx
      cases hs
      exact exec_neg h t x ho hx
    · cases hs
  · rename_i t u x ho
    split at hs
    · rename_i c v hc
      injection hs with hs; injection hs with h1 h2
      subst h1; subst h2
      exact exec_convert h t u x ho hc
    · cases hs
  · rename_i x ho
    split at hs
    · rename_i id off hx
      cases hs
      exact exec_nilCheck h x ho hx (.inl ⟨_, _, rfl⟩)
    · rename_i k off hx
      cases hs
      exact exec_nilCheck h x ho hx (.inr ⟨_, _, rfl⟩)
    · cases hs
  · rename_i g x y ho
    split at hs
    · rename_i p q hp hq
      cases hs
      exact exec_makeFunc h g x y ho hp hq
    · cases hs
  · rename_i t x j ho
    split at hs
    · rename_i q hq
      cases hs
      exact exec_fieldAddr h t x j ho hq
    · cases hs
  · rename_i t x j ho
    split at hs
    · rename_i v hv
      cases hs
      exact exec_field h t x j ho hv
    · cases hs
  · rename_i t x ix ho
    split at hs
    · rename_i c q hq
      injection hs with hs; injection hs with h1 h2
      subst h1; subst h2
      exact exec_indexAddr h t x ix ho hq
    · cases hs
  · rename_i t x ix ho
    split at hs
    · rename_i c v hv
      injection hs with hs; injection hs with h1 h2
      subst h1; subst h2
      exact exec_index h t x ix ho hv
    · cases hs
  · rename_i t x lo hi mx ho
    split at hs
    · rename_i l h' hl hh
      split at hs
      · rename_i c v hv
        injection hs with hs; injection hs with h1 h2
        subst h1; subst h2
        cases mx with
        | none => exact exec_slice h t x lo hi ho hl hh hv
        | some m =>
          unfold sliceA at hv
          split at hv
          · rename_i hmx
            cases hmx
          · cases hv
      · cases hs
    · cases hs
  · rename_i x j ho
    split at hs
    · rename_i vs hx
      split at hs
      · rename_i v hn
        cases hs
        exact exec_extract h x j ho hx hn
      · cases hs
    · cases hs
  · rename_i t x y ho
    split at hs
    · rename_i i k n k' m hi hx hy
      split at hs
      · rename_i elem esz ag eb z hk
        split at hs
        · rename_i hcnd
          simp only [Bool.and_eq_true] at hcnd
          injection hs with hs; injection hs with h1 h2
          subst h2
          exact exec_makeSlice h t x y ho hi hx hy hk (Nat.eq_of_beq_eq_true hcnd.1.1) (Nat.le_of_ble_eq_true hcnd.1.2) hcnd.2 (of_decide_eq_true h1)
        · cases hs
      · cases hs
    · cases hs
  · rename_i t m k ok ho
    split at hs
    · rename_i v b hv
      cases hs
      exact exec_lookup h t m k ok ho hv
    · cases hs
  · rename_i t m k x ho
    split at hs
    · rename_i s'' hd hv
      cases hs
      exact exec_mapUpdate h t m k x (.inl ho) hd hv
    · cases hs
  · rename_i t m k x ho
    split at hs
    · rename_i s'' hd hv
      cases hs
      exact exec_mapUpdate h t m k x (.inr ho) hd hv
    · cases hs
  · rename_i t x ho
    split at hs
    · rename_i i l hi hx
      split at hs
      · rename_i hk
        cases hs
        exact exec_range h t x ho hi hk hx
      · cases hs
    · cases hs
  · rename_i x ho
    split at hs
    · rename_i s'' hv
      cases hs
      exact exec_next h x ho hv
    · cases hs
  · rename_i t ho
    cases hs
    exact exec_makeMap h t ho
  · rename_i b args tys ho
    split at hs
    · rename_i l hl
      have hty : tys = ⟨tys.toList⟩ := rfl
      cases b with
      | len =>
        exact exec_len h (tys := tys.toList) (by rw [ho]) hl hs
      | append =>
        unfold builtinA at hs
        split at hs <;> first | (rename_i hb; cases hb; done) | skip
        · rename_i x k sz ys
          split at hs
          · rename_i t u htys
            split at hs
            · rename_i i hi
              split at hs
              · rename_i elem esz ag eb z hk
                split at hs
                · rename_i hcnd
                  simp only [Bool.and_eq_true, Bool.or_eq_true] at hcnd
                  obtain ⟨⟨⟨⟨⟨c1, c2⟩, c3⟩, c4⟩, c5⟩, c6⟩ := hcnd
                  split at hs
                  · rename_i c v G' ha
                    injection hs with hs; injection hs with h1 h2
                    subst h1; subst h2
                    have htu := Nat.eq_of_beq_eq_true c2
                    subst htu
                    have hty2 : tys = #[t, t] := by rw [hty, htys]
                    rw [hty2] at ho
                    refine exec_append h ho hl hi hk ?_ (Nat.le_of_ble_eq_true c3) (Nat.le_of_ble_eq_true c4) (Nat.eq_of_beq_eq_true c5) c6 ha
                    rcases c1 with c1 | c1
                    · exact .inr (Nat.eq_of_beq_eq_true c1)
                    · exact .inl (by simpa using c1)
                  · cases hs
                · cases hs
              · cases hs
            · cases hs
          · cases hs
        · rename_i x bs
          split at hs
          · rename_i t u htys
            split at hs
            · rename_i i j hi hj
              split at hs
              · rename_i elem esz ag eb z hk hjk
                split at hs
                · rename_i hcnd
                  simp only [Bool.and_eq_true] at hcnd
                  obtain ⟨⟨⟨c1, c2⟩, c3⟩, c4⟩ := hcnd
                  split at hs
                  · rename_i c v G' ha
                    injection hs with hs; injection hs with h1 h2
                    subst h1; subst h2
                    have c1 := Nat.eq_of_beq_eq_true c1
                    subst c1
                    have hty2 : tys = #[t, u] := by rw [hty, htys]
                    rw [hty2] at ho
                    exact exec_append_str h ho hl hi hj hk hjk (Nat.le_of_ble_eq_true c2) (Nat.eq_of_beq_eq_true c3) c4 ha
                  · cases hs
                · cases hs
              · cases hs
            · cases hs
          · cases hs
        · cases hs
      | copy =>
        unfold builtinA at hs
        split at hs <;> first | (rename_i hb; cases hb; done) | skip
        · rename_i d x
          split at hs
          · rename_i t tl htys
            split at hs
            · rename_i i hi
              split at hs
              · rename_i elem esz ag eb z hk
                split at hs
                · rename_i n G' hc
                  injection hs with hs; injection hs with h1 h2
                  subst h2
                  have hty2 : tys = ⟨t :: tl⟩ := by rw [hty, htys]
                  rw [hty2] at ho
                  exact exec_copy h ho hl hi hk hc
                · cases hs
              · cases hs
            · cases hs
          · cases hs
        · cases hs
      | max =>
        unfold builtinA at hs
        split at hs <;> first | (rename_i hb; cases hb; done) | skip
        · rename_i x l'
          split at hs
          · rename_i v hm
            cases hs
            exact exec_max h ho hl hm
          · cases hs
        · cases hs
      | min =>
        unfold builtinA at hs
        split at hs <;> first | (rename_i hb; cases hb; done) | skip
        · rename_i x l'
          split at hs
          · rename_i v hm
            cases hs
            exact exec_min h ho hl hm
          · cases hs
        · cases hs
      | _ =>
        unfold builtinA at hs
        split at hs <;> first | (rename_i hb; cases hb; done) | (cases hs; done)
    · cases hs
  · cases hs

end ops
end Go.Am
namespace Go.Am
open Go

/-- The fence of a frame: a function's, or a round's. -/
def FenceOk (R : Realm) (ro : Option Nat) (F : Fence) : Prop := match ro with
  | none => F = Fence.wide
  | some id => ∃ b, nth R.obj id = some (.blk b) ∧ F = Fence.wide.inRound b

theorem FenceOk.mono {R R' : Realm} {w w' : World} (e : Ext R w R' w') {ro : Option Nat} {F : Fence} (h : FenceOk R ro F) : FenceOk R' ro F := by
  cases ro with
  | none => exact h
  | some id => obtain ⟨b, h1, h2⟩ := h; exact ⟨b, e.blk h1, h2⟩

theorem FenceOk.fn {R : Realm} {ro : Option Nat} {F : Fence} (h : FenceOk R ro F) (f : FuncId) : F.fn f := by
  cases ro with
  | none => rw [show F = Fence.wide from h]; trivial
  | some id => obtain ⟨b, _, h2⟩ := h; rw [h2]; trivial

theorem FenceOk.depth {R : Realm} {ro : Option Nat} {F : Fence} (h : FenceOk R ro F) : F.depth = none := by
  cases ro with
  | none => rw [show F = Fence.wide from h]; rfl
  | some id => obtain ⟨b, _, h2⟩ := h; rw [h2]; rfl

theorem FenceOk.calls {R : Realm} {ro : Option Nat} {F : Fence} (h : FenceOk R ro F) {n : Nat} {P : Program} {f : FuncId} {args : Array Value} {w : World} {Q : Ending → World → Prop} (hc : CallsIn Fence.wide n P f args w Q) : CallsIn F n P f args w Q := by
  cases ro with
  | none => rw [show F = Fence.wide from h]; exact hc
  | some id => obtain ⟨b, _, h2⟩ := h; rw [h2]; exact hc

/-- What is known when a piece of code has been left. -/
def Res (E : Env) (R : Realm) (w : World) (β : Nat → Nat) (s : St) (Q : Exit → St → Prop) : Exit → Act → World → Prop :=
  fun e a' w' => ∃ s' R' β', Q e s' ∧ Rep E R' w' β' s' a' ∧ Step R w β s.boxes R' w' β' s'.boxes ∧ s'.ro = s.ro

/-- The weakest precondition, in terms of the abstract machine's states. -/
def AWp (E : Env) (c : Code) (Q : Exit → St → Prop) (s : St) : Prop :=
  ∀ (R : Realm) (w : World) (β : Nat → Nat) (a : Act) (F : Fence), Rep E R w β s a → FenceOk R s.ro F → c.wpIn F 0 E.P (Res E R w β s Q) a w

theorem AWp.mono {E : Env} {c : Code} {Q Q' : Exit → St → Prop} {s : St} (h : AWp E c Q s) (hq : ∀ e s, Q e s → Q' e s) : AWp E c Q' s :=
  fun R w β a F hr hf => wpIn_mono (h R w β a F hr hf) fun e _ _ ⟨s', R', β', h1, h2⟩ => ⟨s', R', β', hq e s' h1, h2⟩

section rules
variable {E : Env} {Q : Exit → St → Prop} {s : St}

theorem AWp.skip (h : Q .normal s) : AWp E .skip Q s := fun _ _ _ _ _ hr _ => wpIn_skip ⟨s, _, _, h, hr, Step.refl _ _ _ _, rfl⟩
theorem AWp.label {l : Nat} (h : Q .normal s) : AWp E (.label l) Q s := fun _ _ _ _ _ hr _ => wpIn_label ⟨s, _, _, h, hr, Step.refl _ _ _ _, rfl⟩
theorem AWp.exit {id : Nat} (h : Q (.exit id) s) : AWp E (.exit id) Q s := fun _ _ _ _ _ hr _ => wpIn_exit ⟨s, _, _, h, hr, Step.refl _ _ _ _, rfl⟩
theorem AWp.ret (h : Q .ret s) : AWp E .ret Q s := fun _ _ _ _ _ hr _ => wpIn_ret ⟨s, _, _, h, hr, Step.refl _ _ _ _, rfl⟩

/-- What follows a piece of code that ends normally. -/
def thenQ (N : St → Prop) (Q : Exit → St → Prop) : Exit → St → Prop
  | .normal, s => N s
  | e, s => Q e s

theorem AWp.seq {x y : Code} (h : AWp E x (thenQ (AWp E y Q) Q) s) : AWp E (.seq x y) Q s := fun R w β a F hr hf => by
  refine wpIn_seq (wpIn_mono (h R w β a F hr hf) ?_)
  rintro e a' w' ⟨s', R', β', hq, hr', hst, hro⟩
  cases e with
  | normal =>
    refine wpIn_mono (hq R' w' β' a' F hr' (by rw [hro]; exact hf.mono hst.ext)) ?_
    rintro e a'' w'' ⟨s'', R'', β'', hq'', hr'', hst'', hro''⟩
    exact ⟨s'', R'', β'', hq'', hr'', hst.trans hst'', hro''.trans hro⟩
  | _ => exact ⟨s', R', β', hq, hr', hst, hro⟩

theorem AWp.cond {c : Operand} {x y : Code} {b : Bool} (hc : evO E s.slots c = .v (.bool b)) (h1 : b = true → AWp E x Q s) (h2 : b = false → AWp E y Q s) : AWp E (.cond c x y) Q s := fun R w β a F hr hf => by
  have rc := evO_rel hr c
  rw [hc] at rc
  have hb : a.eval c = .bool b := by
    have rc' : Rel R w (.bool b) (a.eval c) := rc
    generalize a.eval c = v at rc'
    cases rc'
    rfl
  exact wpIn_cond_split hb (fun e => h1 e R w β a F hr hf) (fun e => h2 e R w β a F hr hf)

def blockQ (id : Nat) (Q : Exit → St → Prop) : Exit → St → Prop
  | .exit id', s => (id' = id → Q .normal s) ∧ (id' ≠ id → Q (.exit id') s)
  | e, s => Q e s

theorem AWp.block {id : Nat} {c : Code} (h : AWp E c (blockQ id Q) s) : AWp E (.block id c) Q s := fun R w β a F hr hf => by
  refine wpIn_block (wpIn_mono (h R w β a F hr hf) ?_)
  rintro e a' w' ⟨s', R', β', hq, rest⟩
  cases e with
  | exit id' =>
    by_cases e : id' = id
    · simp only [Exit.inBlock, e, if_true]
      exact ⟨s', R', β', hq.1 e, rest⟩
    · simp only [Exit.inBlock, e, if_false]
      exact ⟨s', R', β', hq.2 e, rest⟩
  | _ => exact ⟨s', R', β', hq, rest⟩

theorem AWp.scope_label {c : Code} (h : AWp E c Q s) : AWp E c Q s := h

/-- A loop, its measure a number beside the states. -/
theorem wpIn_loopN {F : Fence} {n : Nat} {P : Program} {Q : Exit → Act → World → Prop} {c : Code} (I : Nat → Act → World → Prop)
    (round : ∀ m a w, I m a w → c.wpIn F n P (Exit.then (fun a' w' => ∃ m', m' < m ∧ I m' a' w') Q) a w) : ∀ {m : Nat} {a : Act} {w : World}, I m a w → (Code.loop c).wpIn F n P Q a w := by
  intro m a w h₀ b k cs hro hb hr
  have key : ∀ j a w, I j a w →
      ∃ e a' w', Q e a' w' ∧ ArrivesIn (Machine.fenced P F) P (lone (b.atR a (.code c :: .inLoop c :: k)) cs w) b k cs e a' w' := by
    intro j
    induction j using Nat.strongRecOn with
    | _ j ih =>
      intro a w hI
      obtain ⟨e, a₁, w₁, hq, harr⟩ := round j a w hI b (.inLoop c :: k) cs hro hb hr
      cases e with
      | normal =>
        obtain ⟨m', hlt, hI₁⟩ := hq
        obtain ⟨e₂, a₂, w₂, hq₂, harr₂⟩ := ih m' hlt a₁ w₁ hI₁
        exact ⟨e₂, a₂, w₂, hq₂, .of_steps (StepsIn.trans harr (.one (fenced_calm hb hr rfl) stepR_inLoop)) harr₂⟩
      | exit id => exact ⟨_, a₁, w₁, hq, .pass (x := .inLoop c) rfl (fun _ _ => .inl (by simp)) harr⟩
      | goto l => exact ⟨_, a₁, w₁, hq, .pass (x := .inLoop c) rfl (fun _ _ => .inl (by simp)) harr⟩
      | ret => exact ⟨_, a₁, w₁, hq, .pass (x := .inLoop c) rfl (fun _ _ => .inl (by simp)) harr⟩
      | panic ch => exact ⟨_, a₁, w₁, hq, .pass (x := .inLoop c) rfl (fun _ _ => .inl (by simp)) harr⟩
      | outgrown => exact ⟨_, a₁, w₁, hq, .pass (x := .inLoop c) rfl (fun _ _ => .inl (by simp)) harr⟩
  obtain ⟨e, a', w', hq, harr⟩ := key _ a w h₀
  exact ⟨e, a', w', hq, .of_steps (.one (fenced_calm hb hr rfl) stepR_loop) harr⟩

/-- A loop: what holds of the state when m rounds at most are to come. -/
theorem AWp.loop {c : Code} (I : Nat → St → Prop) (round : ∀ m s, I m s → AWp E c (thenQ (fun s' => ∃ m', m' < m ∧ I m' s') Q) s) {m : Nat} (h : I m s) : AWp E (.loop c) Q s := fun R w β a F hr hf => by
  refine wpIn_loopN (fun m a' w' => ∃ s' R' β', I m s' ∧ Rep E R' w' β' s' a' ∧ Step R w β s.boxes R' w' β' s'.boxes ∧ s'.ro = s.ro) ?_ ⟨s, R, β, h, hr, Step.refl _ _ _ _, rfl⟩
  rintro m a' w' ⟨s', R', β', hI, hr', hst, hro⟩
  refine wpIn_mono (round m s' hI R' w' β' a' F hr' (by rw [hro]; exact hf.mono hst.ext)) ?_
  rintro e a'' w'' ⟨s'', R'', β'', hq, hr'', hst'', hro''⟩
  cases e with
  | normal =>
    obtain ⟨m', hlt, hI'⟩ := hq
    exact ⟨m', hlt, s'', R'', β'', hI', hr'', hst.trans hst'', hro''.trans hro⟩
  | _ => exact ⟨s'', R'', β'', hq, hr'', hst.trans hst'', hro''.trans hro⟩

end rules

/-- No goto leaves it. -/
def noGoto (Q : Exit → Act → World → Prop) : Exit → Act → World → Prop
  | .goto _, _, _ => False
  | e, a, w => Q e a w

section scopes
variable {P : Program} {b : Frame} {a : Act} {k : List Item} {cs : List Frame} {w : World} {Q : Exit → Act → World → Prop} {F : Fence} {n : Nat}
theorem stepR_scope {c : Code} : step P (lone (b.atR a (.code (.scope c) :: k)) cs w) = .next (lone (b.atR a (.code c :: .inScope c :: k)) cs w) :=
  step_lone_go (by simp [stepG, stepG.exec, Frame.atR])
theorem stepR_inScope {c : Code} : step P (lone (b.atR a (.inScope c :: k)) cs w) = .next (lone (b.atR a k) cs w) :=
  step_lone_go (by simp [stepG, stepG.exec, Frame.atR])
theorem wpIn_scope {c : Code} (h : c.wpIn F n P (noGoto Q) a w) : (Code.scope c).wpIn F n P Q a w := by
  intro b k cs hro hb hr
  have h0 : (lone (b.atR a (.code (.scope c) :: k)) cs w).fenced P F := fenced_calm hb hr rfl
  obtain ⟨e, a₁, w₁, hq, harr⟩ := h b (.inScope c :: k) cs hro hb hr
  cases e with
  | normal => exact ⟨.normal, a₁, w₁, hq, .head h0 stepR_scope (StepsIn.trans harr (.one (fenced_calm hb hr rfl) stepR_inScope))⟩
  | exit id =>
    have hx : exitTo id (.inScope c :: k) = exitTo id k := by simp [exitTo]
    exact ⟨.exit id, a₁, w₁, hq, fun k' hk => .head h0 stepR_scope (harr.1 k' (by rw [hx]; exact hk)),
        fun hr' hk => let ⟨k₁, h1, h2⟩ := harr.2 hr' (by rw [hx]; exact hk); ⟨k₁, h1, .head h0 stepR_scope h2⟩⟩
  | goto l => exact hq.elim
  | ret => exact ⟨_, a₁, w₁, hq, .of_steps (.one h0 stepR_scope) harr⟩
  | panic ch => exact ⟨_, a₁, w₁, hq, .of_steps (.one h0 stepR_scope) harr⟩
  | outgrown => exact ⟨_, a₁, w₁, hq, .of_steps (.one h0 stepR_scope) harr⟩
end scopes

def scopeQ (Q : Exit → St → Prop) : Exit → St → Prop
  | .goto _, _ => False
  | e, s => Q e s

theorem AWp.scope {E : Env} {c : Code} {Q : Exit → St → Prop} {s : St} (h : AWp E c (scopeQ Q) s) : AWp E (.scope c) Q s := fun R w β a F hr hf => by
  refine wpIn_scope (wpIn_mono (h R w β a F hr hf) ?_)
  rintro e a' w' ⟨s', R', β', hq, rest⟩
  cases e with
  | goto l => exact hq.elim
  | _ => exact ⟨s', R', β', hq, rest⟩

/-! ### Calls -/

def noBox : Boxes := []

/-- What is known when a call has ended. -/
def RetOk (E : Env) (R : Realm) (w : World) (Q : AV → List GO → Prop) : Ending → World → Prop
  | .returned c, w' => ∃ r G' R', Q r G' ∧ Rel R' w' r c ∧ RepG E R' w' G' ∧ Step R w (fun _ => 0) noBox R' w' (fun _ => 0) noBox
  | _, _ => False

/-- What is known when a round has ended. -/
def RoundOk (E : Env) (R : Realm) (w : World) (Q : Bool → List GO → Prop) : Ending → World → Prop
  | .returned c, w' => ∃ r G' R', Q r G' ∧ c = .bool r ∧ RepG E R' w' G' ∧ Step R w (fun _ => 0) noBox R' w' (fun _ => 0) noBox
  | _, _ => False

/-- A round of the loop that is this object: yield returns, and Q holds of what it returns and of the objects. -/
def ARound (E : Env) (id : Nat) (args : List AV) (G : List GO) (Q : Bool → List GO → Prop) : Prop :=
  ∀ (R : Realm) (w : World) (cs : List Value) (b : Nat), RepG E R w G → RelL R w args cs → nth R.obj id = some (.blk b) →
    ∃ r : Loop, w.heap[b]? = some (.loop r) ∧ cs.length = r.params.size ∧
      RoundIn Fence.wide 0 E.P b r.fn ((r.params.zip ⟨cs⟩).foldl (fun tmps (t, a) => tmps.setIfInBounds t a) r.tmps) r.assign r.body w (RoundOk E R w Q)

theorem ARound.mono {E : Env} {id : Nat} {args : List AV} {G : List GO} {Q Q' : Bool → List GO → Prop} (h : ARound E id args G Q) (hq : ∀ r G', Q r G' → Q' r G') : ARound E id args G Q' :=
  fun R w cs b hg hl hb => by
    obtain ⟨r, h1, h2, h3⟩ := h R w cs b hg hl hb
    refine ⟨r, h1, h2, h3.mono fun e w' he => ?_⟩
    cases e with
    | returned c => obtain ⟨r, G', R', k1, k2⟩ := he; exact ⟨r, G', R', hq _ _ k1, k2⟩
    | _ => exact he

def Plain (P : Program) (g : FuncId) : Prop := ∃ fn, P.funcs[g]? = some fn ∧ fn.body.isNone = false ∧ (fn.name == "runtime.NumGoroutine") = false

/-- A function, called with these arguments in these objects, returns, and Q holds of the result and of the objects. -/
def ACalls (E : Env) (g : FuncId) (args : List AV) (G : List GO) (Q : AV → List GO → Prop) : Prop :=
  Plain E.P g ∧ ∀ (R : Realm) (w : World) (cs : List Value), RepG E R w G → RelL R w args cs → CallsIn Fence.wide 0 E.P g ⟨cs⟩ w (RetOk E R w Q)

theorem ACalls.mono {E : Env} {g : FuncId} {args : List AV} {G : List GO} {Q Q' : AV → List GO → Prop} (h : ACalls E g args G Q) (hq : ∀ r G', Q r G' → Q' r G') : ACalls E g args G Q' :=
  ⟨h.1, fun R w cs hg hl => (h.2 R w cs hg hl).mono fun e _ he => by
    cases e with
    | returned c => obtain ⟨r, G', R', h1, h2⟩ := he; exact ⟨r, G', R', hq _ _ h1, h2⟩
    | _ => exact he⟩

theorem own_noBox {R : Realm} {β : Nat → Nat} {b : Nat} (h : Own R β noBox b) : Live R b := by
  rcases h with h | ⟨k, cs, hk, _⟩
  · exact h
  · simp [noBox, lkB] at hk

section calls
variable {E : Env} {R R' : Realm} {w w' : World} {β : Nat → Nat} {s : St} {a : Act} {o : Oper}

/-- The frame of a caller behind a call. -/
theorem Rep.afterCall (h : Rep E R w β s a) {G' : List GO} (hg : RepG E R' w' G') (st : Step R w (fun _ => 0) noBox R' w' (fun _ => 0) noBox) :
    Rep E R' w' β (s.inG G') a ∧ Step R w β s.boxes R' w' β s.boxes := by
  have hbox : ∀ k cs, lkB s.boxes k = some cs → β k < w.heap.size ∧ ¬ Live R (β k) := fun k cs hk => ⟨h.own_lt (.inr ⟨k, cs, hk, rfl⟩), (h.b.box k cs hk).2.2⟩
  have live : ∀ b, b < w.heap.size → Live R' b → Live R b := fun b hb hl => own_noBox (st.own b hb (.inl hl))
  refine ⟨⟨hg, h.b.keep st.ext (fun k cs hk => ?_) (fun k cs o hk hi => ?_) (fun k cs hk hl => live _ (hbox k cs hk).1 hl), h.t.mono st.ext, h.n, h.d.mono st.ext⟩, ?_⟩
  · obtain ⟨h1, h2⟩ := hbox k cs hk
    exact st.keep _ h1 (fun ho => h2 (own_noBox ho))
  · obtain ⟨h1, h2⟩ := hbox k cs hk
    exact st.im _ o hi h1 (fun ho => h2 (own_noBox ho))
  · refine ⟨st.ext, st.os, st.tape, st.output, st.size, fun b hb hn => st.keep b hb (fun ho => hn (.inl (own_noBox ho))), fun b hb ho => ?_, fun b o hi hb hn => st.im b o hi hb (fun ho => hn (.inl (own_noBox ho)))⟩
    rcases ho with ho | ho
    · exact .inl (live b hb ho)
    · exact .inr ho

theorem run_callFunc {P : Program} {g : FuncId} (h : Plain P g) (args : Array Value) (w : World) : (callFunc g args).run P w = .ok (.enter g args) w := by
  obtain ⟨fn, h1, h2, h3⟩ := h
  unfold callFunc
  simp only [Sem.run_bind, run_program, Result.andThen_ok, h1, h2, h3, Bool.false_eq_true, if_false, Sem.run_pure]

/-- What is to be shown of an operation that is carried out in a frame of the fence F. -/
def OpRes (E : Env) (R : Realm) (w : World) (β : Nat → Nat) (s : St) (K : St → Prop) (a' : Act) (w' : World) : Prop :=
  ∃ s' R' β', K s' ∧ Rep E R' w' β' s' a' ∧ Step R w β s.boxes R' w' β' s'.boxes ∧ s'.ro = s.ro

@[simp] theorem ro_put (s : St) (d : Option Tmp) (x : SV) : (s.put d x).ro = s.ro := by
  cases d with
  | none => rfl
  | some d =>
    simp only [St.put]
    split <;> rfl

theorem stepOp_ro {f : FuncId} {c : Bool} {s' : St} (h : stepOp E f s o = some (c, s')) : s'.ro = s.ro := by
  have alloc : ∀ {el : TypeId} {cs : List AV} {c : Bool} {s' : St}, allocA E f s o.dst el cs = some (c, s') → s'.ro = s.ro := by
    intro el cs c s' h
    unfold allocA at h
    repeat' (split at h)
    all_goals (first | (cases h; done) | skip)
    all_goals (injection h with h; injection h with _ h; subst h; simp [St.addG, St.inB, St.kill])
  have store : ∀ {t : TypeId} {p x : SV} {s' : St}, storeA E s t p x = some s' → s'.ro = s.ro := by
    intro t p x s' h
    unfold storeA at h
    repeat' (split at h)
    all_goals (first | (cases h; done) | skip)
    all_goals (injection h with h; subst h; rfl)
  have blt : ∀ {b : Builtin} {l : List AV} {tys : List TypeId} {c : Bool} {s' : St}, builtinA E s o.dst b l tys = some (c, s') → s'.ro = s.ro := by
    intro b l tys c s' h
    unfold builtinA at h
    repeat' (split at h)
    all_goals (first | (cases h; done) | skip)
    all_goals (injection h with h; injection h with _ h; subst h; simp [St.inG])
  have update : ∀ {t : TypeId} {m k x : SV} {s' : St}, updateA E s t m k x = some s' → s'.ro = s.ro := by
    intro t m k x s' h
    unfold updateA at h
    repeat' (split at h)
    all_goals (first | (cases h; done) | skip)
    all_goals (injection h with h; subst h; rfl)
  have next : ∀ {x : SV} {s' : St}, nextA s o.dst x = some s' → s'.ro = s.ro := by
    intro x s' h
    unfold nextA at h
    split at h
    · split at h
      · rename_i l pos hg
        cases hb : Nat.blt pos l.length <;> rw [hb] at h <;> simp only [cond_true, cond_false] at h <;> cases h <;> simp [St.inG]
      · cases h
    · cases h
  unfold stepOp at h
  repeat' (split at h)
  all_goals (first | (cases h; done) | exact alloc h | exact blt h | skip)
  all_goals (injection h with h; injection h with _ h; subst h)
  all_goals (first | (simp; done) | (simp [St.addG]; done) | skip)
  all_goals (first | exact store (by assumption) | exact update (by assumption) | exact next (by assumption))

theorem wpIn_stepOp {f : FuncId} {F : Fence} {s' : St} {K : St → Prop} {Qc : Exit → Act → World → Prop} (h : Rep E R w β s a) (hf : FenceOk R s.ro F) (hs : stepOp E f s o = some (true, s')) (hK : K s')
    (nd : ∀ c, o.op ≠ .defer c) (N : Act → World → Prop) (hN : ∀ a' w', OpRes E R w β s K a' w' → N a' w') : o.wpIn F 0 E.P a w N Qc := by
  obtain ⟨nx, x, w', R', β', h1, h2, h3, h4⟩ := stepOp_done h hs
  refine ⟨fun f _ => hf.fn f, ?_⟩
  rw [Oper.semAt_eq _ _ _ nd, h1]
  have : N (a.put o.dst x) w' := hN _ _ ⟨s', R', β', hK, h3, h4, stepOp_ro hs⟩
  rcases h2 with rfl | ⟨rfl, rfl⟩
  · exact this
  · exact this

theorem wpIn_call {F : Fence} {K : St → Prop} {Qc : Exit → Act → World → Prop} (h : Rep E R w β s a) (hf : FenceOk R s.ro F) {fo : Operand} {args : Array Operand} {tys : Array TypeId} (ho : o.op = .call { callee := .value fo, args := args, argTypes := tys })
    {g : FuncId} {first cap l : List AV} (hfo : evO E s.slots fo = .v (.fn g first cap)) (hl : evL E s.slots args.toList = some l)
    (hc : ACalls E g (first ++ l ++ cap) s.G (fun r G' => K ((s.inG G').put o.dst (.v r)))) (N : Act → World → Prop) (hN : ∀ a' w', OpRes E R w β s K a' w' → N a' w') : o.wpIn F 0 E.P a w N Qc := by
  refine ⟨fun f _ => hf.fn f, ?_⟩
  have rf := evO_rel h fo
  rw [hfo] at rf
  have rf' : Rel R w (.fn g first cap) (a.eval fo) := rf
  have rl := evL_rel h hl
  generalize hfv : a.eval fo = fv at rf'
  cases rf' with
  | @fn _ _ _ vs us h1 h2 =>
  have hrun : (o.semAt F.round a.eval).run E.P w = .ok (.enter g ⟨vs ++ args.toList.map a.eval ++ us⟩) w := by
    rw [Oper.semAt_eq _ _ _ (fun c e => by rw [ho] at e; cases e)]
    simp only [execOp, ho, resolve, hfv, Deferred.ofValue, Sem.run_bind, Sem.run_pure, Result.andThen_ok, invoke, array_map_eval]
    have := run_callFunc hc.1 (⟨vs⟩ ++ ⟨args.toList.map a.eval⟩ ++ ⟨us⟩) w
    simpa using this
  rw [hrun]
  refine ⟨fun e => by rw [hf.depth] at e; simp at e, hf.calls ?_⟩
  refine (hc.2 R w (vs ++ args.toList.map a.eval ++ us) h.g ((h1.append rl).append h2)).mono ?_
  intro e w'' he
  cases e with
  | returned c =>
    obtain ⟨r, G', R', hK, hr, hg, st⟩ := he
    obtain ⟨q1, q2⟩ := h.afterCall hg st
    exact hN _ _ ⟨_, R', β, hK, q1.put o.dst (x := .v r) hr, by rw [boxes_put]; exact q2, by rw [ro_put]; rfl⟩
  | panicked c => exact he.elim
  | outgrown => exact he.elim

theorem FenceOk.rounds {R : Realm} {ro : Option Nat} {F : Fence} (h : FenceOk R ro F) {n : Nat} {P : Program} {l : Nat} {f : FuncId} {tmps : Array Value} {as bd : Code} {w : World} {Q : Ending → World → Prop}
    (hc : RoundIn Fence.wide n P l f tmps as bd w Q) : RoundIn F n P l f tmps as bd w Q := by
  cases ro with
  | none => rw [show F = Fence.wide from h]; exact hc
  | some id => obtain ⟨b, _, h2⟩ := h; rw [h2]; exact hc

theorem wpIn_yield {F : Fence} {K : St → Prop} {Qc : Exit → Act → World → Prop} (h : Rep E R w β s a) (hf : FenceOk R s.ro F) {fo : Operand} {args : Array Operand} {tys : Array TypeId} (ho : o.op = .call { callee := .value fo, args := args, argTypes := tys })
    {id : Nat} {l : List AV} (hfo : evO E s.slots fo = .v (.yield id)) (hl : evL E s.slots args.toList = some l)
    (hc : ARound E id l s.G (fun b G' => K ((s.inG G').put o.dst (.v (.bool b))))) (N : Act → World → Prop) (hN : ∀ a' w', OpRes E R w β s K a' w' → N a' w') : o.wpIn F 0 E.P a w N Qc := by
  refine ⟨fun f _ => hf.fn f, ?_⟩
  have rf := evO_rel h fo
  rw [hfo] at rf
  have rf' : Rel R w (.yield id) (a.eval fo) := rf
  have rl := evL_rel h hl
  generalize hfv : a.eval fo = fv at rf'
  cases rf' with
  | @yield _ b hb =>
  obtain ⟨r, hr1, hr2, hr3⟩ := hc R w (args.toList.map a.eval) b h.g rl hb
  have hrun : (o.semAt F.round a.eval).run E.P w = .ok (.round b r.fn ((r.params.zip ⟨args.toList.map a.eval⟩).foldl (fun tmps (t, a) => tmps.setIfInBounds t a) r.tmps) r.assign r.body) w := by
    rw [Oper.semAt_eq _ _ _ (fun c e => by rw [ho] at e; cases e)]
    simp only [execOp, ho, resolve, hfv, Deferred.ofValue, Sem.run_bind, Sem.run_pure, Result.andThen_ok, invoke, array_map_eval]
    have := run_yield (P := E.P) hr1 (args := ⟨args.toList.map a.eval⟩) hr2
    simpa using this
  rw [hrun]
  refine ⟨fun e => by rw [hf.depth] at e; simp at e, hf.rounds (hr3.mono ?_)⟩
  intro e w'' he
  cases e with
  | returned c =>
    obtain ⟨r, G', R', hK, rfl, hg, st⟩ := he
    obtain ⟨q1, q2⟩ := h.afterCall hg st
    exact hN _ _ ⟨_, R', β, hK, q1.put o.dst (x := .v (.bool r)) (Rel.bool r), by rw [boxes_put]; exact q2, by rw [ro_put]; rfl⟩
  | panicked c => exact he.elim
  | outgrown => exact he.elim

end calls

/-! ### Regions -/

def dstOf (ops : List Oper) (j : Nat) : Option Tmp := match nth ops j with
  | some o => o.dst
  | none => none

/-- What an operation that may panic asks. -/
def condP : Bool → Prop → Prop
  | true, p => p
  | false, _ => False

theorem condP.mk {c : Bool} {p : Prop} (h : c = true) (hp : p) : condP c p := by subst h; exact hp
theorem condP.out {c : Bool} {p : Prop} (h : condP c p) : c = true ∧ p := by
  cases c
  · exact h.elim
  · exact ⟨rfl, h⟩

/-- One operation, a call or not. -/
def awOp (E : Env) (f : FuncId) (o : Oper) (K : St → Prop) (s : St) : Prop :=
  match o.op with
  | .call { callee := .value x, args, .. } => match evO E s.slots x, evL E s.slots args.toList with
    | .v (.fn g first cap), some l => ACalls E g (first ++ l ++ cap) s.G (fun r G' => K ((s.inG G').put o.dst (.v r)))
    | .v (.yield id), some l => ARound E id l s.G (fun b G' => K ((s.inG G').put o.dst (.v (.bool b))))
    | _, _ => False
  | .defer _ => False
  | _ => match stepOp E f s o with
    | some (c, s') => condP c (K s')
    | none => False

def awGuard (E : Env) (f : FuncId) (ops : List Oper) (o : Oper) (K : St → Prop) (s : St) : Prop :=
  match o.guard with
  | none => awOp E f o K s
  | some (j, want) => match dstOf ops j with
    | none => False
    | some d => match lk s.slots d with
      | .v (.bool b) => (b = want → awOp E f o K (s.put (some d) (.v (.bool want)))) ∧ (b = !want → K ((s.put (some d) (.v (.bool (!want)))).put o.dst (.v undefA)))
      | .v (.tup []) => K (s.put o.dst (.v undefA))
      | _ => False

/-- One operation of a region in text order. -/
def awGuardP (E : Env) (f : FuncId) (ops : List Oper) (o : Oper) (K : St → Prop) (s : St) : Prop :=
  match o.guard, buildSliceM E f s o with
  | none, some s' => K s'
  | _, _ => awGuard E f ops o K s

def awOps (E : Env) (f : FuncId) (ops : List Oper) : List Oper → (St → Prop) → St → Prop
  | [], K, s => K s
  | o :: rest, K, s => awGuardP E f ops o (awOps E f ops rest K) s

section regions
variable {E : Env} {R : Realm} {w : World} {β : Nat → Nat} {s : St} {a : Act}

theorem awOp_wpIn {f : FuncId} {o : Oper} {F : Fence} {K : St → Prop} {Qc : Exit → Act → World → Prop} (h : Rep E R w β s a) (hf : FenceOk R s.ro F) (ha : awOp E f o K s) (N : Act → World → Prop) (hN : ∀ a' w', OpRes E R w β s K a' w' → N a' w') :
    o.wpIn F 0 E.P a w N Qc := by
  unfold awOp at ha
  split at ha
  · rename_i x args tys ho
    split at ha
    · rename_i g first cap l h1 h2
      exact wpIn_call h hf ho h1 h2 ha N hN
    · rename_i id l h1 h2
      exact wpIn_yield h hf ho h1 h2 ha N hN
    · exact ha.elim
  · exact ha.elim
  · rename_i nc nd
    split at ha
    · rename_i c s' hs
      obtain ⟨rfl, hK⟩ := ha.out
      exact wpIn_stepOp h hf hs hK (fun c e => nd c e) N hN
    · exact ha.elim

theorem Rep.sameSlot (h : Rep E R w β s a) {d : Tmp} {b t : Bool} (hd : lk s.slots d = .v (.bool b)) (e : b = t) : Rep E R w β (s.put (some d) (.v (.bool t))) a := by
  subst e
  simp only [St.put]
  split
  · refine ⟨h.g, h.b, fun i hi => ?_, h.n, h.d⟩
    by_cases e : d = i
    · subst e
      rw [lk_put_self]
      have := h.t d (by rw [hd]; simp)
      rw [hd] at this
      exact this
    · rw [lk_put_ne e] at hi ⊢
      exact h.t i hi
  · exact h

theorem yielded_eq (h : Rep E R w β s a) {ops : Array Oper} {j : Nat} {d : Tmp} {b : Bool} (hj : dstOf ops.toList j = some d) (hd : lk s.slots d = .v (.bool b)) : yielded ops a.tmps j = some b := by
  unfold dstOf at hj
  split at hj
  · rename_i o ho
    rw [nth_eq] at ho
    have ho' : ops[j]? = some o := by simpa using ho
    obtain ⟨c, h1, h2⟩ := h.t d (by rw [hd]; simp)
    rw [hd] at h2
    have h2' : Rel R w (.bool b) c := h2
    cases h2'
    simp [yielded, ho', hj, h1]
  · cases hj

theorem yielded_undef (h : Rep E R w β s a) {ops : Array Oper} {j : Nat} {d : Tmp} (hj : dstOf ops.toList j = some d) (hd : lk s.slots d = .v (.tup [])) : yielded ops a.tmps j = none := by
  unfold dstOf at hj
  split at hj
  · rename_i o ho
    rw [nth_eq] at ho
    have ho' : ops[j]? = some o := by simpa using ho
    obtain ⟨c, h1, h2⟩ := h.t d (by rw [hd]; simp)
    rw [hd] at h2
    have h2' : Rel R w (.tup []) c := h2
    cases h2'
    simp [yielded, ho', hj, h1]
  · cases hj

/-- One operation with its guard. -/
theorem awGuard_wpIn {f : FuncId} {o : Oper} {F : Fence} {ops : Array Oper} {K : St → Prop} {Qc : Exit → Act → World → Prop} (h : Rep E R w β s a) (hf : FenceOk R s.ro F) (ha : awGuard E f ops.toList o K s) (N : Act → World → Prop) (hN : ∀ a' w', OpRes E R w β s K a' w' → N a' w') :
    (if Region.wanted o (yielded ops a.tmps) then o.wpIn F 0 E.P a w N Qc else (∀ f, o.about E.P w a.eval = some f → F.fn f) ∧ N (a.put o.dst undef) w) := by
  unfold awGuard at ha
  split at ha
  · rename_i hg
    have : Region.wanted o (yielded ops a.tmps) = true := by simp [Region.wanted, hg]
    rw [if_pos this]
    exact awOp_wpIn h hf ha N hN
  · rename_i j want hg
    split at ha
    · exact ha.elim
    · rename_i d hd
      split at ha
      · rename_i b hb
        have hy := yielded_eq h hd hb
        by_cases hw : b = want
        · have : Region.wanted o (yielded ops a.tmps) = true := by simp [Region.wanted, hg, hy, hw]
          rw [if_pos this]
          exact awOp_wpIn (h.sameSlot hb hw) (by rw [ro_put]; exact hf) (ha.1 hw) N (fun a' w' hh => hN a' w' (by
            obtain ⟨s', R', β', q1, q2, q3, q4⟩ := hh
            exact ⟨s', R', β', q1, q2, by rw [boxes_put] at q3; exact q3, by rw [ro_put] at q4; exact q4⟩))
        · have hbw : b = !want := by cases b <;> cases want <;> simp_all
          have : ¬ Region.wanted o (yielded ops a.tmps) = true := by simp [Region.wanted, hg, hy, hw]
          rw [if_neg this]
          refine ⟨fun f _ => hf.fn f, hN _ _ ⟨_, R, β, ha.2 hbw, (h.sameSlot hb hbw).put o.dst (x := .v undefA) (Rel.tup .nil), by rw [boxes_put, boxes_put]; exact Step.refl _ _ _ _, by rw [ro_put, ro_put]⟩⟩
      · rename_i hb
        have hy := yielded_undef h hd hb
        have : ¬ Region.wanted o (yielded ops a.tmps) = true := by simp [Region.wanted, hg, hy]
        rw [if_neg this]
        exact ⟨fun f _ => hf.fn f, hN _ _ ⟨_, R, β, ha, h.put o.dst (x := .v undefA) (Rel.tup .nil), by rw [boxes_put]; exact Step.refl _ _ _ _, by rw [ro_put]⟩⟩
      · exact ha.elim

theorem awGuardP_wpIn {f : FuncId} {o : Oper} {F : Fence} {ops : Array Oper} {K : St → Prop} {Qc : Exit → Act → World → Prop} (h : Rep E R w β s a) (hf : FenceOk R s.ro F) (ha : awGuardP E f ops.toList o K s) (N : Act → World → Prop) (hN : ∀ a' w', OpRes E R w β s K a' w' → N a' w') :
    (if Region.wanted o (yielded ops a.tmps) then o.wpIn F 0 E.P a w N Qc else (∀ f, o.about E.P w a.eval = some f → F.fn f) ∧ N (a.put o.dst undef) w) := by
  unfold awGuardP at ha
  split at ha
  · rename_i s' hg hb
    have : Region.wanted o (yielded ops a.tmps) = true := by simp [Region.wanted, hg]
    rw [if_pos this]
    unfold buildSliceM at hb
    split at hb
    · rename_i t len parts ho
      split at hb
      · rename_i d hd
        split at hb
        · split at hb
          · rename_i i hi
            split at hb
            · rename_i elem sz' ag by_ z esz es hk hv
              cases hb
              obtain ⟨nx, x, w', R', β', h1, h2, h3, h4⟩ := exec_buildSliceM h t len parts ho hv hi hk
              refine ⟨fun f _ => hf.fn f, ?_⟩
              rw [Oper.semAt_eq _ _ _ (fun c e => by rw [ho] at e; cases e), h1]
              rw [hd] at h3 h4
              have hfin : N (a.put o.dst x) w' := hN _ _ ⟨_, R', β', ha, by rw [hd]; exact h3, h4, by rw [ro_put]; rfl⟩
              rcases h2 with rfl | ⟨rfl, rfl⟩
              · exact hfin
              · exact hfin
            · cases hb
          · cases hb
        · split at hb
          · split at hb
            · rename_i i hi
              split at hb
              · rename_i elem sz' ag by_ z esz es hk hv
                split at hb
                · rename_i hle
                  cases hb
                  obtain ⟨nx, x, w', R', β', h1, h2, h3, h4⟩ := exec_buildSliceO h t len parts ho hv hi hk (Nat.le_of_ble_eq_true hle)
                  refine ⟨fun f _ => hf.fn f, ?_⟩
                  rw [Oper.semAt_eq _ _ _ (fun c e => by rw [ho] at e; cases e), h1]
                  rw [hd] at h3 h4
                  have hfin : N (a.put o.dst x) w' := hN _ _ ⟨_, R', β', ha, by rw [hd]; exact h3, h4, by rw [ro_put]; rfl⟩
                  rcases h2 with rfl | ⟨rfl, rfl⟩
                  · exact hfin
                  · exact hfin
                · cases hb
              · cases hb
            · cases hb
          · cases hb
      · cases hb
    · cases hb
  · exact awGuard_wpIn h hf ha N hN

theorem awOps_wpIn {f : FuncId} {F : Fence} {ops : Array Oper} {K : St → Prop} {Qc : Exit → Act → World → Prop} (hQ : ∀ a' w', OpRes E R w β s K a' w' → Qc .normal a' w') :
    ∀ (l : List Nat) (os : List Oper), l.map (fun i => ops[i]?) = os.map some → ∀ (R1 : Realm) (w1 : World) (β1 : Nat → Nat) (s1 : St) (a1 : Act), Rep E R1 w1 β1 s1 a1 → Step R w β s.boxes R1 w1 β1 s1.boxes → s1.ro = s.ro → FenceOk R1 s1.ro F →
      awOps E f ops.toList os K s1 → wpOpsIn F 0 E.P ops Qc l a1 w1
  | [], os, hm, R1, w1, β1, s1, a1, hr, hst, hro, _, ha => by
    have : os = [] := by simpa using hm.symm
    subst this
    exact hQ _ _ ⟨s1, R1, β1, ha, hr, hst, hro⟩
  | i :: l, [], hm, _, _, _, _, _, _, _, _, _, _ => by simp at hm
  | i :: l, o :: os, hm, R1, w1, β1, s1, a1, hr, hst, hro, hf, ha => by
    simp only [List.map_cons, List.cons.injEq] at hm
    obtain ⟨hi, hm⟩ := hm
    simp only [wpOpsIn, hi]
    refine awGuardP_wpIn hr hf (show awGuardP E f ops.toList o (awOps E f ops.toList os K) s1 from ha) _ ?_
    rintro a' w' ⟨s', R', β', q1, q2, q3, q4⟩
    exact awOps_wpIn hQ l os hm R' w' β' s' a' q2 (hst.trans q3) (q4.trans hro) (by rw [q4]; exact hf.mono q3.ext) q1

theorem range_ops (ops : Array Oper) : (List.range ops.size).map (fun i => ops[i]?) = ops.toList.map some := by
  apply List.ext_getElem?
  intro i
  simp only [List.getElem?_map]
  by_cases hi : i < ops.size
  · rw [List.getElem?_range hi]
    simp [hi]
  · rw [List.getElem?_eq_none (by simp; omega), List.getElem?_eq_none (by simp; omega)]
    rfl

theorem AWp.region {f : FuncId} {id : Nat} {ops : Array Oper} {Q : Exit → St → Prop} {s : St} (h : awOps E f ops.toList ops.toList (Q .normal) s) : AWp E (.region id ops false) Q s := fun R w β a F hr hf => by
  refine wpIn_region (awOps_wpIn (R := R) (w := w) (β := β) (s := s) (K := Q .normal) (f := f) ?_ _ _ (range_ops ops) R w β s a hr (Step.refl _ _ _ _) rfl hf h)
  rintro a' w' ⟨s', R', β', h1, h2⟩
  exact ⟨s', R', β', h1, h2⟩

end regions

end Go.Am
