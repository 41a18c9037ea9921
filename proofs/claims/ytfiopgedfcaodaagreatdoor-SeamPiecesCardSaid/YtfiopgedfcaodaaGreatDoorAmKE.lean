/- The abstract machine: what it does is what the model does: objects that are no rows; ranges over strings. -/
import Derived.Test.YtfiopgedfcaodaaGreatDoorAmKD
import Derived.Laws.RangeAny
import Derived.Laws.BytesString
import Derived.Laws.Cover4
set_option linter.all false
namespace Go.Am
open Go
def NoCells (x : Obj) : Prop := match x with
  | .cells .. => False
  | _ => True
theorem cell_noCells {w : World} {b : Nat} {x : Obj} (h : w.heap[b]? = some x) (hn : NoCells x) (o : Nat) : w.cell? ⟨b, o, none⟩ = none := by
  simp only [World.cell?, h]
  cases x <;> first | rfl | exact hn.elim
def World.put (w : World) (b : Nat) (x : Obj) : World := { w with heap := w.heap.setIfInBounds b x }
theorem put_other (w : World) (b k : Nat) (x : Obj) (h : k ≠ b) : (World.put w b x).heap[k]? = w.heap[k]? := Array.getElem?_setIfInBounds_ne (Ne.symm h)
theorem put_self (w : World) (b : Nat) (x : Obj) (h : b < w.heap.size) : (World.put w b x).heap[b]? = some x := by simp [World.put, h]
@[simp] theorem put_size (w : World) (b : Nat) (x : Obj) : (World.put w b x).heap.size = w.heap.size := by simp [World.put]
section setobj
variable {E : Env} {R : Realm} {w : World} {β : Nat → Nat} {s : St} {a : Act}
theorem ext_put {b : Nat} {x x' : Obj} (hx : w.heap[b]? = some x) (hn : NoCells x) (hn' : NoCells x') (hl : ∀ r, x = .loop r → ∃ r', x' = .loop r' ∧ SameLoop r r') : Ext R w R (World.put w b x') :=
  ⟨fun _ _ h => h, fun b' o h => by
    by_cases e : b' = b
    · subst e
      rw [cell_noCells hx hn, cell_noCells (put_self w b' x' (block_lt hx)) hn']
    · exact cell_of_block (put_other w b b' x' e) o, fun _ ro h => ⟨ro, h, RoLe.refl ro⟩, fun b' r hb => by
    by_cases e : b' = b
    · subst e
      rw [hx] at hb
      obtain ⟨r', rfl, h2⟩ := hl r (Option.some.inj hb)
      exact ⟨r', put_self w b' _ (block_lt hx), h2⟩
    · exact ⟨r, (put_other w b b' x' e).trans hb, rfl, rfl, rfl, rfl, rfl⟩⟩
theorem Rep.setObj (h : Rep E R w β s a) {id b : Nat} {x x' : Obj} {go' : GO} (hid : nth R.obj id = some (.blk b)) (hx : w.heap[b]? = some x) (hn : NoCells x) (hn' : NoCells x') (hl : ∀ r, x = .loop r → ∃ r', x' = .loop r' ∧ SameLoop r r') (hgo : RepO R (World.put w b x') go' (.blk b)) :
    Rep E R (World.put w b x') β (s.inG (setN s.G id go')) a ∧ Step R w β s.boxes R (World.put w b x') β s.boxes := by
  have hex := ext_put (R := R) hx hn hn' hl
  refine ⟨⟨⟨by simp [St.inG, h.g.len], fun id' go ro hg hr' => ?_, h.g.inj, fun b' o' hi' => by have := h.g.wf b' o' hi'; simpa using this, fun g cs' hg => (h.g.glob g cs' hg).mono hex, by first | exact h.g.lo | exact Nat.le_succ_of_le h.g.lo⟩, ?_, h.t.mono hex, h.n, h.d⟩, ?_⟩
  · rcases nth_setN hg with ⟨rfl, rfl, _⟩ | ⟨hne, hg'⟩
    · rw [hid] at hr'
      cases hr'
      exact hgo
    · refine (h.g.obj id' go ro hg' hr').mono hex (fun b' hb' => put_other w _ b' _ (fun e => hne ?_)) (fun _ _ _ hi => hi)
      subst e
      exact h.g.inj id id' _ _ b' hid hr' rfl hb'
  · exact h.b.keep hex (fun k cs' hk' => put_other w _ _ _ (h.ne_box hid hk')) (fun _ _ _ _ hi => hi) (fun _ _ _ hl => hl)
  · have hown : Own R β s.boxes b := .inl ⟨id, _, hid, rfl⟩
    exact ⟨hex, rfl, rfl, rfl, by simp, fun b' _ hn => put_other w _ b' _ (fun e => hn (e ▸ hown)), fun _ _ hb => hb, fun b o hi _ _ => hi⟩
end setobj
section maps
variable {E : Env} {R : Realm} {w : World} {β : Nat → Nat} {s : St} {a : Act} {o : Oper}
theorem ti_ek {t : TypeId} {i : TI} (hi : E.ti t = some i) : i.ek = ekTop E.P t := by
  have := E.tiOk t i hi
  unfold tiOf at this
  split at this
  · split at this
    · cases this; rfl
    · cases this
  · cases this
theorem eqK_eqA {e : EK} {a b : AV} {r : Bool} (h : eqK e a b = some r) : eqA e a b = some r := by
  unfold eqK at h
  split at h
  · rename_i he
    cases hc : (e.wide && !keySame a b) with
    | true => rw [hc] at h; cases h
    | false => rw [hc] at h; cases h; exact he
  · exact h
theorem eqK_same {e : EK} {a b : AV} (h : eqK e a b = some true) (he : e.wide = true) : keySame a b = true := by
  have := eqK_eqA h
  unfold eqK at h
  rw [this] at h
  simp only [he, Bool.true_and] at h
  cases hs : keySame a b with
  | true => rfl
  | false => rw [hs] at h; cases h
def KeyD (e : EK) (d : TypeDesc) : Prop := (e = .bool ∧ d = .bool) ∨ (e = .int ∧ ∃ k, d = .int k) ∨ (e = .str ∧ d = .string) ∨ (e.wide = true ∧ ((∃ fs, d = .struct fs) ∨ ∃ n t, d = .array n t))
theorem ekTop_plain {P : Program} {t : TypeId} (h : (ekTop P t).plain = true) : ∃ d, P.underlying t = some d ∧ KeyD (ekTop P t) d := by
  have key : ∀ {e : EK}, e = ekOf P 6 t → e.plain = true → ∃ d, P.underlying t = some d ∧ KeyD e d := by
    intro e he h
    unfold ekOf at he
    split at he
    · rename_i hu; exact ⟨_, hu, .inl ⟨he, rfl⟩⟩
    · rename_i k hu; exact ⟨_, hu, .inr (.inl ⟨he, k, rfl⟩)⟩
    · rename_i hu; exact ⟨_, hu, .inr (.inr (.inl ⟨he, rfl⟩))⟩
    · rename_i fs hu
      split at he
      · subst he; cases h
      · split at he
        · subst he; exact ⟨_, hu, .inr (.inr (.inr ⟨rfl, .inl ⟨_, rfl⟩⟩))⟩
        · subst he; cases h
    · rename_i m e' hu
      split at he
      · subst he; exact ⟨_, hu, .inr (.inr (.inr ⟨rfl, .inr ⟨_, _, rfl⟩⟩))⟩
      · subst he; cases h
    · subst he; cases h
  unfold ekTop at h ⊢
  split
  · rename_i l hl
    rw [hl] at h
    simp only at h
    split at h
    · simp [EK.plain] at h
    · rename_i hg
      rw [if_neg hg]
      exact key hl.symm rfl
  · rename_i k hk
    exact key rfl (by
      split at h
      · rename_i l hl; exact absurd hl (hk l)
      · exact h)
theorem keySameS_rel {a b : AV} (h : keySameS a b = true) {x y : Value} (hx : Rel R w a x) (hy : Rel R w b y) : x = y := by
  unfold keySameS at h
  split at h
  · cases hx; cases hy; rw [eq_of_beq h]
  · rw [Bool.and_eq_true, decide_eq_true_eq] at h
    cases hx; cases hy; rw [h.1, eq_of_beq h.2]
  · cases hx; cases hy; rw [eq_of_beq h]
  · cases h
theorem keySameL_rel : ∀ {xs ys : List AV} {vs us : List Value}, keySameL xs ys = true → RelL R w xs vs → RelL R w ys us → vs = us
  | [], [], _, _, _, .nil, .nil => rfl
  | a :: xs, b :: ys, _, _, h, .cons h1 h2, .cons h3 h4 => by
    unfold keySameL at h
    rw [Bool.and_eq_true] at h
    rw [keySameS_rel h.1 h1 h3, keySameL_rel h.2 h2 h4]
  | [], _ :: _, _, _, h, _, _ => by cases h
  | _ :: _, [], _, _, h, _, _ => by cases h
theorem keySame_rel {a b : AV} (h : keySame a b = true) {x y : Value} (hx : Rel R w a x) (hy : Rel R w b y) : x = y := by
  unfold keySame at h
  split at h
  · cases hx with
    | agg hx _ => cases hy with
      | agg hy _ => rw [keySameL_rel h hx hy]
  · cases h
theorem checkFs_run {ek : TypeId → EK} {d : Nat} {em : Bool} (ih : ∀ (t : TypeId) (a : AV) (r : Bool) (x : Value), eqA (ek t) a a = some r → Rel R w a x → (Instr.checkKey em d t x).run E.P w = .ok () w) {xs : List AV} {vs : List Value}
    (hx : RelL R w xs vs) (hx1 : ∀ x ∈ vs, x.oneCell' = true) :
    ∀ (fs : List Field) (l : EKs) (r : Bool), ekFs E.P ek fs = some l → eqFs l xs xs = some r →
      (do for f in fs do if f.name ≠ "_" then Instr.checkKey em d f.type (← part f.type ⟨vs⟩ f.offset) : Sem Unit).run E.P w = .ok () w
  | [], l, r, hl, hr => by simp
  | f :: fs, l, r, hl, hr => by
    unfold ekFs at hl
    split at hl
    · cases hl
    · rename_i hn
      split at hl
      · rename_i i u l' h1 h2 h3
        cases hl
        unfold eqFs at hr
        split at hr
        · rename_i a b ha hb
          rw [ha] at hb
          cases hb
          split at hr
          · rename_i p q hp hq
            obtain ⟨c, k1, k2⟩ := partA_run h1 h2 hx hx1 ha
            have hne : f.name ≠ "_" := by simpa using hn
            have hrest := checkFs_run ih hx hx1 fs l' q h3 hq
            simp only [List.forIn_cons, Sem.run_bind, if_pos hne, Result.andThen_ok, k1, ih f.type a p c hp k2, Sem.run_pure]
            simpa only [Sem.run_bind, Sem.run_pure] using hrest
          · cases hr
        · cases hr
      · cases hl
theorem checkArr_run {ek : EK} {d : Nat} {em : Bool} {e : TypeId} {i : TypeInfo} {u : TypeDesc} (h1 : E.P.info? e = some i) (h2 : E.P.underlying e = some u) (ih : ∀ (a : AV) (r : Bool) (x : Value), eqA ek a a = some r → Rel R w a x → (Instr.checkKey em d e x).run E.P w = .ok () w) {xs : List AV} {vs : List Value}
    (hx : RelL R w xs vs) (hx1 : ∀ x ∈ vs, x.oneCell' = true) :
    ∀ (m k : Nat) (r : Bool), eqFs (ekArr i.size (aggD u) ek m k) xs xs = some r →
      (do for j in List.range' k m do Instr.checkKey em d e (← part e ⟨vs⟩ (j * (← sizeOf e))) : Sem Unit).run E.P w = .ok () w
  | 0, k, r, hr => by simp
  | m + 1, k, r, hr => by
    unfold ekArr eqFs at hr
    split at hr
    · rename_i a b ha hb
      rw [ha] at hb
      cases hb
      split at hr
      · rename_i p q hp hq
        obtain ⟨c, k1, k2⟩ := partA_run h1 h2 hx hx1 ha
        have hrest := checkArr_run h1 h2 ih hx hx1 m (k + 1) q hq
        simp only [List.range'_succ, List.forIn_cons, Sem.run_bind, run_sizeOf w h1, Result.andThen_ok, k1, ih a p c hp k2, Sem.run_pure]
        simpa only [Sem.run_bind, Sem.run_pure] using hrest
      · cases hr
    · cases hr
theorem checkKey_run (em : Bool) : ∀ (n d : Nat), n ≤ d → ∀ (t : TypeId) (a : AV) (r : Bool) (x : Value), eqA (ekOf E.P n t) a a = some r → Rel R w a x → (Instr.checkKey em d t x).run E.P w = .ok () w
  | 0, _, _, t, a, r, x, h, _ => by simp [ekOf, eqA] at h
  | n + 1, 0, hd, _, _, _, _, _, _ => by omega
  | n + 1, d + 1, hd, t, a, r, x, h, hx => by
    unfold ekOf at h
    split at h
    · rename_i hu
      unfold eqA at h
      split at h
      all_goals (try contradiction)
      cases hx
      simp [Instr.checkKey, run_underlying hu]
    · rename_i k hu
      unfold eqA at h
      split at h
      all_goals (try contradiction)
      cases hx
      simp [Instr.checkKey, run_underlying hu]
    · rename_i hu
      unfold eqA at h
      split at h
      all_goals (try contradiction)
      cases hx
      simp [Instr.checkKey, run_underlying hu]
    · rename_i fs hu
      split at h
      · simp [eqA] at h
      · split at h
        · rename_i l hl
          unfold eqA at h
          split at h
          all_goals (try contradiction)
          rename_i fs' xs ys hk hys
          cases hk
          cases hys
          cases hx with
          | agg hx hx1 =>
          have := checkFs_run (em := em) (fun t a r x => checkKey_run em n d (by omega) t a r x) hx hx1 fs.toList _ r hl h
          rw [Instr.checkKey]
          simp only [Sem.run_bind, run_underlying hu, Result.andThen_ok]
          rw [← Array.forIn_toList]
          simp only [Sem.run_bind, Sem.run_pure] at this ⊢
          exact this
        · simp [eqA] at h
    · rename_i m e hu
      split at h
      · rename_i i ud g1 g2
        unfold eqA at h
        split at h
        all_goals (try contradiction)
        rename_i fs' xs ys hk hys
        cases hk
        cases hys
        cases hx with
        | agg hx hx1 =>
        have := checkArr_run (em := em) g1 g2 (fun a r x => checkKey_run em n d (by omega) e a r x) hx hx1 m 0 r h
        rw [Instr.checkKey]
        simp only [Sem.run_bind, run_underlying hu, Result.andThen_ok]
        simp only [Std.Legacy.Range.forIn_eq_forIn_range', Std.Legacy.Range.size, Nat.sub_zero, Nat.add_one_sub_one, Nat.div_one]
        simp only [Sem.run_bind, Sem.run_pure] at this ⊢
        exact this
      · simp [eqA] at h
    · simp [eqA] at h
theorem sameNow_rel {e : EK} {d : TypeDesc} (hd : (e = .bool ∧ d = .bool) ∨ (e = .int ∧ ∃ k, d = .int k) ∨ (e = .str ∧ d = .string)) {k k' : AV} {r : Bool} {x y : Value} (h : eqA e k k' = some r) (hx : Rel R w k x) (hy : Rel R w k' y) : Instr.sameNow d x y = some r ∧ (r = true → x = y) := by
  rcases hd with ⟨rfl, rfl⟩ | ⟨rfl, n, rfl⟩ | ⟨rfl, rfl⟩
  · unfold eqA at h
    split at h
    all_goals (try contradiction)
    cases hx; cases hy; cases h
    exact ⟨rfl, fun e => by rw [eq_of_beq e]⟩
  · unfold eqA at h
    split at h
    all_goals (try contradiction)
    split at h
    · rename_i hk
      subst hk
      cases hx; cases hy; cases h
      exact ⟨by simp [Instr.sameNow], fun e => by rw [eq_of_beq e]⟩
    · cases h
  · unfold eqA at h
    split at h
    all_goals (try contradiction)
    cases hx; cases hy; cases h
    refine ⟨?_, fun e => by rw [eq_of_beq e]⟩
    simp only [Instr.sameNow]
    rw [beq_toListBytes, ByteArray.toList_eq, ByteArray.toList_eq]
theorem find_rel {e : EK} {d : TypeDesc} (hd : (e = .bool ∧ d = .bool) ∨ (e = .int ∧ ∃ k, d = .int k) ∨ (e = .str ∧ d = .string)) {k : AV} {x : Value} (hx : Rel R w k x) : ∀ {es : List (AV × AV)} {ents : List MapEntry} {r : Option AV}, RelM R w es ents → mfind e k es = some r →
    ∀ i, match r with
      | none => Instr.findNow d x ents i = some none
      | some v => ∃ j c, Instr.findNow d x ents i = some (some (j, c)) ∧ Rel R w v c
  | [], [], r, _, h, i => by simp [mfind] at h; subst h; rfl
  | [], _ :: _, _, h, _, _ => h.elim
  | _ :: _, [], _, h, _, _ => h.elim
  | (k', v) :: es, en :: ents, r, h, hf, i => by
    unfold mfind at hf
    split at hf
    · rename_i he
      cases hf
      have h1 := (sameNow_rel hd (eqK_eqA he) hx h.1).1
      exact ⟨i, en.val, by simp [Instr.findNow, h1], h.2.1⟩
    · rename_i he
      have h1 := (sameNow_rel hd (eqK_eqA he) hx h.1).1
      have := find_rel hd hx h.2.2 hf (i + 1)
      split at this
      · simp only [Instr.findNow, h1]; exact this
      · obtain ⟨j, c, q1, q2⟩ := this
        exact ⟨j, c, by simp only [Instr.findNow, h1]; exact q1, q2⟩
    · cases hf
theorem put_rel {e : EK} {d : TypeDesc} (hd : (e = .bool ∧ d = .bool) ∨ (e = .int ∧ ∃ k, d = .int k) ∨ (e = .str ∧ d = .string)) {k v : AV} {x c : Value} (hx : Rel R w k x) (hv : Rel R w v c) : ∀ {es es' : List (AV × AV)} {ents : List MapEntry}, RelM R w es ents → mput e k v es = some es' →
    ∀ i, (Instr.findNow d x ents i = some none ∧ ∀ b, RelM R w es' (ents ++ [{ key := x, val := c, born := b }])) ∨
      ∃ j c', Instr.findNow d x ents i = some (some (i + j, c')) ∧ (∃ en, ents[j]? = some en ∧ en.key = x) ∧ RelM R w es' (ents.modify j fun e => { e with key := x, val := c })
  | [], es', [], _, h, i => by simp [mput] at h; subst h; exact .inl ⟨rfl, fun b => ⟨hx, hv, trivial⟩⟩
  | [], _, _ :: _, h, _, _ => h.elim
  | _ :: _, _, [], h, _, _ => h.elim
  | (k', v') :: es, es', en :: ents, h, hf, i => by
    unfold mput at hf
    split at hf
    · rename_i he
      cases hf
      obtain ⟨h1, h2⟩ := sameNow_rel hd (eqK_eqA he) hx h.1
      exact .inr ⟨0, en.val, by simp [Instr.findNow, h1], ⟨en, rfl, (h2 rfl).symm⟩, by simp only [List.modify_zero_cons]; exact ⟨hx, hv, h.2.2⟩⟩
    · rename_i he
      have h1 := (sameNow_rel hd (eqK_eqA he) hx h.1).1
      split at hf
      · rename_i r hr
        cases hf
        rcases put_rel hd hx hv h.2.2 hr (i + 1) with ⟨q1, q2⟩ | ⟨j, c', q1, q2, q3⟩
        · exact .inl ⟨by simp only [Instr.findNow, h1]; exact q1, fun b => ⟨h.1, h.2.1, q2 b⟩⟩
        · refine .inr ⟨j + 1, c', by simp only [Instr.findNow, h1]; rw [q1, Nat.add_assoc, Nat.add_comm 1 j], ?_, ?_⟩
          · obtain ⟨en', e1, e2⟩ := q2
            exact ⟨en', by simpa using e1, e2⟩
          · rw [List.modify_succ_cons]
            exact ⟨h.1, h.2.1, q3⟩
      · cases hf
    · cases hf
theorem asking_rel {kt : TypeId} {j : TI} (hj : E.ti kt = some j) {k : AV} {x : Value} (hx : Rel R w k x) : ∀ {es : List (AV × AV)} {ents : List MapEntry} {r : Option AV}, RelM R w es ents → mfind j.ek k es = some r →
    ∀ i, match r with
      | none => (Instr.findAsking kt x ents i).run E.P w = .ok none w
      | some v => ∃ n c, (Instr.findAsking kt x ents i).run E.P w = .ok (some (n, c)) w ∧ Rel R w v c
  | [], [], r, _, h, i => by simp [mfind] at h; subst h; simp [Instr.findAsking]
  | [], _ :: _, _, h, _, _ => h.elim
  | _ :: _, [], _, h, _, _ => h.elim
  | (k', v) :: es, en :: ents, r, h, hf, i => by
    unfold mfind at hf
    split at hf
    · rename_i he
      cases hf
      have h1 := (ekTop_run hj (eqK_eqA he) hx h.1).1
      exact ⟨i, en.val, by simp [Instr.findAsking, Op.equal, Op.maxDepth, h1], h.2.1⟩
    · rename_i he
      have h1 := (ekTop_run hj (eqK_eqA he) hx h.1).1
      have := asking_rel hj hx h.2.2 hf (i + 1)
      split at this
      · simp only [Instr.findAsking, Op.equal, Op.maxDepth, Sem.run_bind, h1, Result.andThen_ok]; exact this
      · obtain ⟨n, c, q1, q2⟩ := this
        exact ⟨n, c, by simp only [Instr.findAsking, Op.equal, Op.maxDepth, Sem.run_bind, h1, Result.andThen_ok]; exact q1, q2⟩
    · cases hf
theorem putAsking_rel {kt : TypeId} {j : TI} (hj : E.ti kt = some j) (hw : j.ek.wide = true) {k v : AV} {x c : Value} (hx : Rel R w k x) (hv : Rel R w v c) : ∀ {es es' : List (AV × AV)} {ents : List MapEntry}, RelM R w es ents → mput j.ek k v es = some es' →
    ∀ i, ((Instr.findAsking kt x ents i).run E.P w = .ok none w ∧ ∀ b, RelM R w es' (ents ++ [{ key := x, val := c, born := b }])) ∨
      ∃ n c', (Instr.findAsking kt x ents i).run E.P w = .ok (some (i + n, c')) w ∧ (∃ en, ents[n]? = some en ∧ en.key = x) ∧ RelM R w es' (ents.modify n fun e => { e with key := x, val := c })
  | [], es', [], _, h, i => by simp [mput] at h; subst h; exact .inl ⟨by simp [Instr.findAsking], fun b => ⟨hx, hv, trivial⟩⟩
  | [], _, _ :: _, h, _, _ => h.elim
  | _ :: _, _, [], h, _, _ => h.elim
  | (k', v') :: es, es', en :: ents, h, hf, i => by
    unfold mput at hf
    split at hf
    · rename_i he
      cases hf
      have h1 := (ekTop_run hj (eqK_eqA he) hx h.1).1
      have h2 := keySame_rel (eqK_same he hw) hx h.1
      exact .inr ⟨0, en.val, by simp [Instr.findAsking, Op.equal, Op.maxDepth, h1], ⟨en, rfl, h2.symm⟩, by simp only [List.modify_zero_cons]; exact ⟨hx, hv, h.2.2⟩⟩
    · rename_i he
      have h1 := (ekTop_run hj (eqK_eqA he) hx h.1).1
      split at hf
      · rename_i r hr
        cases hf
        rcases putAsking_rel hj hw hx hv h.2.2 hr (i + 1) with ⟨q1, q2⟩ | ⟨n, c', q1, q2, q3⟩
        · exact .inl ⟨by simp only [Instr.findAsking, Op.equal, Op.maxDepth, Sem.run_bind, h1, Result.andThen_ok]; exact q1, fun b => ⟨h.1, h.2.1, q2 b⟩⟩
        · refine .inr ⟨n + 1, c', ?_, ?_, ?_⟩
          · simp only [Instr.findAsking, Op.equal, Op.maxDepth, Sem.run_bind, h1, Result.andThen_ok]
            rw [show i + (n + 1) = i + 1 + n by omega]
            exact q1
          · obtain ⟨en', e1, e2⟩ := q2
            exact ⟨en', by simpa using e1, e2⟩
          · rw [List.modify_succ_cons]
            exact ⟨h.1, h.2.1, q3⟩
      · cases hf
    · cases hf
theorem findKey_wide {kt : TypeId} {d : TypeDesc} (hu : E.P.underlying kt = some d) (hd : (∃ fs, d = .struct fs) ∨ ∃ n t, d = .array n t) (x : Value) (es : List MapEntry) : (Instr.findKey kt x es).run E.P w = (Instr.findAsking kt x es).run E.P w := by
  cases es with
  | nil => simp [Instr.findKey, run_underlying hu, Instr.findNow, Instr.findAsking]
  | cons e es => rcases hd with ⟨fs, rfl⟩ | ⟨n, t, rfl⟩ <;> simp [Instr.findKey, run_underlying hu, Instr.findNow, Instr.sameNow]
theorem findKey_none {kt : TypeId} {j : TI} (hj : E.ti kt = some j) {d : TypeDesc} (hu : E.P.underlying kt = some d) (hd : KeyD j.ek d) {k : AV} {x : Value} (hx : Rel R w k x) {es : List (AV × AV)} {ents : List MapEntry} (hM : RelM R w es ents) (hf : mfind j.ek k es = some none) :
    (Instr.findKey kt x ents).run E.P w = .ok none w := by
  have goal : ((j.ek = .bool ∧ d = .bool) ∨ (j.ek = .int ∧ ∃ k, d = .int k) ∨ (j.ek = .str ∧ d = .string)) → (Instr.findKey kt x ents).run E.P w = .ok none w := fun hd => by
    have := find_rel hd hx hM hf 0
    simp [Instr.findKey, run_underlying hu, this]
  rcases hd with hd | hd | hd | ⟨_, hd⟩
  · exact goal (.inl hd)
  · exact goal (.inr (.inl hd))
  · exact goal (.inr (.inr hd))
  · rw [findKey_wide hu hd]
    exact asking_rel hj hx hM hf 0
theorem findKey_some {kt : TypeId} {j : TI} (hj : E.ti kt = some j) {d : TypeDesc} (hu : E.P.underlying kt = some d) (hd : KeyD j.ek d) {k : AV} {x : Value} (hx : Rel R w k x) {es : List (AV × AV)} {ents : List MapEntry} {v : AV} (hM : RelM R w es ents) (hf : mfind j.ek k es = some (some v)) :
    ∃ n c, (Instr.findKey kt x ents).run E.P w = .ok (some (n, c)) w ∧ Rel R w v c := by
  have goal : ((j.ek = .bool ∧ d = .bool) ∨ (j.ek = .int ∧ ∃ k, d = .int k) ∨ (j.ek = .str ∧ d = .string)) → ∃ n c, (Instr.findKey kt x ents).run E.P w = .ok (some (n, c)) w ∧ Rel R w v c := fun hd => by
    obtain ⟨n, c, q1, q2⟩ := find_rel hd hx hM hf 0
    exact ⟨n, c, by simp [Instr.findKey, run_underlying hu, q1], q2⟩
  rcases hd with hd | hd | hd | ⟨_, hd⟩
  · exact goal (.inl hd)
  · exact goal (.inr (.inl hd))
  · exact goal (.inr (.inr hd))
  · rw [findKey_wide hu hd]
    exact asking_rel hj hx hM hf 0
theorem putKey_rel {kt : TypeId} {j : TI} (hj : E.ti kt = some j) {d : TypeDesc} (hu : E.P.underlying kt = some d) (hd : KeyD j.ek d) {k v : AV} {x c : Value} (hx : Rel R w k x) (hv : Rel R w v c) {es es' : List (AV × AV)} {ents : List MapEntry} (hM : RelM R w es ents) (hf : mput j.ek k v es = some es') :
    ((Instr.findKey kt x ents).run E.P w = .ok none w ∧ ∀ b, RelM R w es' (ents ++ [{ key := x, val := c, born := b }])) ∨
      ∃ n c', (Instr.findKey kt x ents).run E.P w = .ok (some (n, c')) w ∧ (∃ en, ents[n]? = some en ∧ en.key = x) ∧ RelM R w es' (ents.modify n fun e => { e with key := x, val := c }) := by
  have goal : ((j.ek = .bool ∧ d = .bool) ∨ (j.ek = .int ∧ ∃ k, d = .int k) ∨ (j.ek = .str ∧ d = .string)) → ((Instr.findKey kt x ents).run E.P w = .ok none w ∧ ∀ b, RelM R w es' (ents ++ [{ key := x, val := c, born := b }])) ∨
      ∃ n c', (Instr.findKey kt x ents).run E.P w = .ok (some (n, c')) w ∧ (∃ en, ents[n]? = some en ∧ en.key = x) ∧ RelM R w es' (ents.modify n fun e => { e with key := x, val := c }) := fun hd => by
    rcases put_rel hd hx hv hM hf 0 with ⟨q1, q2⟩ | ⟨n, c', q1, q2, q3⟩
    · exact .inl ⟨by simp [Instr.findKey, run_underlying hu, q1], q2⟩
    · rw [Nat.zero_add] at q1
      exact .inr ⟨n, c', by simp [Instr.findKey, run_underlying hu, q1], q2, q3⟩
  rcases hd with hd | hd | hd | ⟨hw, hd⟩
  · exact goal (.inl hd)
  · exact goal (.inr (.inl hd))
  · exact goal (.inr (.inr hd))
  · rcases putAsking_rel hj hw hx hv hM hf 0 with ⟨q1, q2⟩ | ⟨n, c', q1, q2, q3⟩
    · exact .inl ⟨by rw [findKey_wide hu hd]; exact q1, q2⟩
    · rw [Nat.zero_add] at q1
      exact .inr ⟨n, c', by rw [findKey_wide hu hd]; exact q1, q2, q3⟩
theorem run_checkFlat {kt : TypeId} {d : TypeDesc} (hu : E.P.underlying kt = some d) (hd : d = .bool ∨ (∃ k, d = .int k) ∨ d = .string) (b : Bool) (x : Value) (n : Nat) : (Instr.checkKey b (n + 1) kt x).run E.P w = .ok () w := by
  rcases hd with rfl | ⟨k, rfl⟩ | rfl <;> simp [Instr.checkKey, run_underlying hu]
theorem run_checkKey {kt : TypeId} {j : TI} (hj : E.ti kt = some j) {d : TypeDesc} (hu : E.P.underlying kt = some d) (hd : KeyD j.ek d) {k : AV} (hk : keyFits j.ek k = true) {x : Value} (hx : Rel R w k x) (b : Bool) : (Instr.checkKey b 10000 kt x).run E.P w = .ok () w := by
  rcases hd with ⟨_, rfl⟩ | ⟨_, n, rfl⟩ | ⟨_, rfl⟩ | ⟨hw, _⟩
  · exact run_checkFlat hu (.inl rfl) b x 9999
  · exact run_checkFlat hu (.inr (.inl ⟨n, rfl⟩)) b x 9999
  · exact run_checkFlat hu (.inr (.inr rfl)) b x 9999
  · have hek := ti_ek hj
    obtain ⟨fs, hfs⟩ : ∃ fs, j.ek = .st fs := by
      cases he : j.ek with
      | st fs => exact ⟨fs, rfl⟩
      | _ => rw [he] at hw; cases hw
    rw [hfs] at hk
    unfold keyFits at hk
    split at hk
    all_goals (try contradiction)
    rename_i fs' cs h1
    cases h1
    rw [Bool.and_eq_true] at hk
    obtain ⟨r, hr⟩ := Option.isSome_iff_exists.1 hk.2
    have he : eqA (ekOf E.P 6 kt) (.agg cs) (.agg cs) = some r := by
      rw [hfs] at hek
      have : ekOf E.P 6 kt = .st fs := by
        unfold ekTop at hek
        split at hek
        · rename_i l hl
          split at hek
          · cases hek
          · rw [hl, hek]
        · rename_i k hk'
          exact absurd hek.symm (hk' fs)
      rw [this]
      unfold eqA
      exact hr
    exact checkKey_run b 6 10000 (by omega) kt (.agg cs) r x he hx
theorem mapOf_rel (h : Rep E R w β s a) {m : SV} {es : List (AV × AV)} {x : Value} (hm : mapOf s m = some es) (hx : RelS R w β m x) :
    ∃ ents, RelM R w es ents ∧ ((x = .map none ∧ ents = []) ∨ ∃ b es' clock, x = .map (some b) ∧ w.heap[b]? = some (.map es' clock) ∧ es'.toList = ents) := by
  unfold mapOf at hm
  split at hm
  · cases hm
    have hx' : Rel R w .nilm x := hx
    cases hx'
    exact ⟨[], trivial, .inl ⟨rfl, rfl⟩⟩
  · rename_i id
    have hx' : Rel R w (.map id) x := hx
    cases hx' with
    | map hb =>
    split at hm
    · rename_i es' hg
      cases hm
      obtain ⟨ents, clock, q1, q2, _⟩ := h.g.obj id _ _ hg hb
      exact ⟨ents.toList, q2, .inr ⟨_, ents, clock, rfl, q1, rfl⟩⟩
    · cases hm
  · cases hm
theorem zero_run {t : TypeId} {z : AV} {i : TypeInfo} (h1 : E.P.info? t = some i) (h2 : constOf i = some z) : ∃ c, (zeroValue t).run E.P w = .ok c w ∧ Rel R w z c := by
  obtain ⟨c, hc, hr⟩ := constOf_some h2
  exact ⟨c, by simp [zeroValue, typeInfo, run_program, h1, hc], hr R w⟩
theorem exec_lookup (h : Rep E R w β s a) (t : TypeId) (x y : Operand) (ok : Bool) (ho : o.op = .lookup t x y ok) {v : AV} {b : Bool} (hv : lookupA E s t (evO E s.slots x) (evO E s.slots y) = some (v, b)) :
    Done E R w β s a o (s.put o.dst (.v (if ok then .tup [v, .bool b] else v))) := by
  have rx := evO_rel h x
  have ry := evO_rel h y
  unfold lookupA at hv
  split at hv
  · rename_i i es k hi hm hk
    rw [hk] at ry
    have ry' : Rel R w k (a.eval y) := ry
    obtain ⟨ents, hM, hxv⟩ := mapOf_rel h hm rx
    obtain ⟨info, u, e1, e2, e3, e4, e5, e6⟩ := ti_info E hi
    split at hv
    · rename_i kt et z hik
      split at hv
      · rename_i j hj
        split at hv
        · rename_i hc
          rw [Bool.and_eq_true] at hc
          rw [hik] at e5
          obtain ⟨rfl, ie, g1, g2⟩ := tkOf_map e5
          have hek := ti_ek hj
          have hpl := hc.1
          rw [hek] at hpl
          obtain ⟨d, hu, hd⟩ : ∃ d, E.P.underlying kt = some d ∧ KeyD j.ek d := by
            rw [hek]
            exact ekTop_plain hpl
          have hck : ∀ b, (Instr.checkKey b 10000 kt (a.eval y)).run E.P w = .ok () w := fun b => run_checkKey hj hu hd hc.2 ry' b
          have fin : ∀ r, mfind j.ek k es = some r → r.getD z = v → r.isSome = b → Done E R w β s a o (s.put o.dst (.v (if ok then .tup [v, .bool b] else v))) := fun r hr q1 q2 => by
            subst q1 q2
            have rel : ∀ c, Rel R w (r.getD z) c → Rel R w (if ok then .tup [r.getD z, .bool r.isSome] else r.getD z) (if ok then .tuple #[c, .bool r.isSome] else c) := fun c k2 => by
              cases ok
              · exact k2
              · exact Rel.tup (vs := [c, .bool r.isSome]) (.cons k2 (.cons (.bool _) .nil))
            cases r with
            | none =>
              obtain ⟨c, k1, k2⟩ := zero_run (R := R) (w := w) g1 g2
              have hfk : (Instr.findKey kt (a.eval y) ents).run E.P w = .ok none w := findKey_none hj hu hd ry' hM hr
              refine done_value h (c := if ok then .tuple #[c, .bool false] else c) ?_ (rel c k2)
              rcases hxv with ⟨hx, rfl⟩ | ⟨b, es', clock, hx, hb, rfl⟩
              · simp [execOp, ho, Instr.lookup, hx, run_underlying e2, hck, hfk, k1]
              · simp [execOp, ho, Instr.lookup, hx, run_underlying e2, getObj, Sem.run, hb, hck, hfk, k1]
            | some v =>
              obtain ⟨j', c, q1, q2⟩ := findKey_some hj hu hd ry' hM hr
              have hfk : (Instr.findKey kt (a.eval y) ents).run E.P w = .ok (some (j', c)) w := q1
              refine done_value h (c := if ok then .tuple #[c, .bool true] else c) ?_ (rel c q2)
              rcases hxv with ⟨hx, rfl⟩ | ⟨b, es', clock, hx, hb, rfl⟩
              · simp [execOp, ho, Instr.lookup, hx, run_underlying e2, hck, hfk]
              · simp [execOp, ho, Instr.lookup, hx, run_underlying e2, getObj, Sem.run, hb, hck, hfk]
          split at hv
          · rename_i v' hr; cases hv; exact fin _ hr rfl rfl
          · rename_i hr; cases hv; exact fin _ hr rfl rfl
          · cases hv
        · cases hv
      · cases hv
    · cases hv
  · cases hv
theorem keyD_of {kt : TypeId} {j : TI} (hj : E.ti kt = some j) (hp : j.ek.plain = true) : ∃ d, E.P.underlying kt = some d ∧ KeyD j.ek d := by
  have hek := ti_ek hj
  rw [hek] at hp ⊢
  exact ekTop_plain hp
theorem beq_bytes (x : ByteArray) : (x == x) = true := by rw [beq_toListBytes]; simp
theorem sameBits_scalar {k : AV} {x : Value} (hp : scalarA k = true) (hx : Rel R w k x) (n : Nat) : Instr.sameBits n x x = true := by
  unfold scalarA at hp
  split at hp
  · cases hx; cases n <;> simp [Instr.sameBits]
  · cases hx; cases n <;> simp [Instr.sameBits]
  · cases hx; cases n <;> (simp only [Instr.sameBits]; exact beq_bytes _)
  · cases hp
theorem sameBits_all (n : Nat) : ∀ {cs : List AV} {vs : List Value}, cs.all scalarA = true → RelL R w cs vs → ((vs.zip vs).all fun (x, y) => Instr.sameBits n x y) = true
  | [], _, _, .nil => rfl
  | a :: cs, _, h, .cons h1 h2 => by
    rw [List.all_cons, Bool.and_eq_true] at h
    simp only [List.zip_cons_cons, List.all_cons, sameBits_scalar h.1 h1 n, sameBits_all n h.2 h2, Bool.and_self]
theorem sameBits_agg (n : Nat) {vs : Array Value} (h : ((vs.toList.zip vs.toList).all fun (x, y) => Instr.sameBits n x y) = true) : Instr.sameBits (n + 1) (.agg vs) (.agg vs) = true := by
  simp only [Instr.sameBits, beq_self_eq_true, Bool.true_and]
  exact h
theorem sameBits_plain {e : EK} {k : AV} {x : Value} (hp : keyFits e k = true) (hx : Rel R w k x) : Instr.sameBits 10000 x x = true := by
  unfold keyFits at hp
  split at hp
  · exact sameBits_scalar rfl hx _
  · exact sameBits_scalar rfl hx _
  · exact sameBits_scalar rfl hx _
  · rw [Bool.and_eq_true] at hp
    cases hx with
    | agg hx _ =>
    exact sameBits_agg 9999 (sameBits_all 9999 hp.1 hx)
  · cases hp
theorem born_modify {ents : List MapEntry} {clock : Nat} (h : ∀ e ∈ ents, e.born < clock) (x c : Value) : ∀ j, ∀ e ∈ ents.modify j (fun e => { e with key := x, val := c }), e.born < clock := by
  induction ents with
  | nil => intro j e he; simp at he
  | cons en ents ih =>
    intro j e he
    cases j with
    | zero =>
      simp only [List.modify_zero_cons, List.mem_cons] at he
      rcases he with rfl | he
      · exact h en (by simp)
      · exact h e (by simp [he])
    | succ j =>
      rw [List.modify_succ_cons, List.mem_cons] at he
      rcases he with rfl | he
      · exact h e (by simp)
      · exact ih (fun e he => h e (by simp [he])) j e he
theorem exec_mapUpdate (h : Rep E R w β s a) (t : TypeId) (x y z : Operand) (ho : o.op = .mapUpdate t x y z ∨ o.op = .insert t x y z) (hd : o.dst = none) {s' : St} (hv : updateA E s t (evO E s.slots x) (evO E s.slots y) (evO E s.slots z) = some s') :
    Done E R w β s a o s' := by
  have rx := evO_rel h x
  have ry := evO_rel h y
  have rz := evO_rel h z
  unfold updateA at hv
  split at hv
  · rename_i i id k v hi hm hk hz
    rw [hm] at rx
    rw [hk] at ry
    rw [hz] at rz
    have rx' : Rel R w (.map id) (a.eval x) := rx
    have ry' : Rel R w k (a.eval y) := ry
    have rz' : Rel R w v (a.eval z) := rz
    split at hv
    · rename_i kt et ez es hik hg
      split at hv
      · rename_i j hj
        split at hv
        · rename_i hc
          rw [Bool.and_eq_true] at hc
          split at hv
          · rename_i es' hput
            cases hv
            obtain ⟨info, u, e1, e2, e3, e4, e5, e6⟩ := ti_info E hi
            rw [hik] at e5
            obtain ⟨rfl, ie, g1, g2⟩ := tkOf_map e5
            obtain ⟨d, hu, hD⟩ := keyD_of hj hc.1
            generalize hxv : a.eval x = xv at rx'
            cases rx' with
            | @map _ b hb =>
            obtain ⟨ents, clock, q1, q2, q3⟩ := h.g.obj id _ _ hg hb
            have hlt := block_lt q1
            have hck : (Instr.checkKey false 10000 kt (a.eval y)).run E.P w = .ok () w := run_checkKey hj hu hD hc.2 ry' _
            have hget : (getObj b).run E.P w = .ok (.map ents clock) w := by simp [getObj, Sem.run, q1]
            have hset : ∀ o', (setObj b o').run E.P w = .ok () (World.put w b o') := fun o' => by
              simp [setObj, Sem.run, World.put, q1]
            have fin : ∀ ents' clock', RelM R w es' ents'.toList → (∀ e ∈ ents'.toList, e.born < clock') → (execOp a.eval o).run E.P w = .ok .skip (World.put w b (.map ents' clock')) →
                Done E R w β s a o (s.inG (setN s.G id (.map es'))) := fun ents' clock' k1 k2 k3 => by
              have hex := ext_put (R := R) (x' := .map ents' clock') q1 trivial trivial (fun _ e => by cases e)
              obtain ⟨p1, p2⟩ := h.setObj (x' := .map ents' clock') (go' := .map es') hb q1 trivial trivial (fun _ e => by cases e) ⟨ents', clock', put_self w b _ hlt, k1.mono hex, k2⟩
              refine ⟨.skip, undef, _, R, β, k3, .inr ⟨rfl, rfl⟩, ?_, p2⟩
              rw [hd]
              exact p1
            rcases putKey_rel hj hu hD ry' rz' q2 hput with ⟨k1, k2⟩ | ⟨n, c', k1, ⟨en, k2, k3⟩, k4⟩
            · have hfk : (Instr.findKey kt (a.eval y) ents.toList).run E.P w = .ok none w := k1
              refine fin (ents.push { key := a.eval y, val := a.eval z, born := clock }) (clock + 1) (by rw [Array.toList_push]; exact k2 clock) (fun e he => ?_) ?_
              · rw [Array.toList_push, List.mem_append] at he
                rcases he with he | he
                · exact Nat.lt_succ_of_lt (q3 e he)
                · simp at he; subst he; exact Nat.lt_succ_self _
              · rcases ho with ho | ho <;> simp [execOp, ho, Instr.mapUpdate, hxv, run_underlying e2, hget, hck, hfk, hset]
            · have hfk : (Instr.findKey kt (a.eval y) ents.toList).run E.P w = .ok (some (n, c')) w := k1
              have hen : ents[n]? = some en := by rw [← Array.getElem?_toList]; exact k2
              have hkeep : (Instr.keyThatStays (a.eval y) (a.eval y)).run E.P w = .ok (a.eval y) w := by simp [Instr.keyThatStays, sameBits_plain hc.2 ry']
              refine fin (ents.modify n fun e => { e with key := a.eval y, val := a.eval z }) clock (by rw [Array.toList_modify]; exact k4) (fun e he => ?_) ?_
              · rw [Array.toList_modify] at he
                exact born_modify q3 _ _ n e he
              · rcases ho with ho | ho <;> simp [execOp, ho, Instr.mapUpdate, hxv, run_underlying e2, hget, hck, hfk, hen, k3, hkeep, hset]
          · cases hv
        · cases hv
      · cases hv
    · cases hv
  · cases hv
theorem exec_range (h : Rep E R w β s a) (t : TypeId) (x : Operand) (ho : o.op = .range t x) {i : TI} {l : List UInt8} (hi : E.ti t = some i) (hk : i.k = .str) (hx : evO E s.slots x = .v (.str l)) :
    Done E R w β s a o ((s.addG (.siter l 0)).put o.dst (.v (.ptr s.G.length 0))) := by
  have rx := evO_rel h x
  rw [hx] at rx
  have rx' : Rel R w (.str l) (a.eval x) := rx
  obtain ⟨info, u, e1, e2, e3, e4, e5, e6⟩ := ti_info E hi
  rw [hk] at e5
  have hu := tkOf_str e5
  subst hu
  have hgo : RepO (R.add (.blk w.heap.size)) (w.alloc (.stringIter ⟨⟨l⟩⟩ 0)) (.siter l 0) (.blk w.heap.size) := heap_alloc_new w _
  refine ⟨_, .pointer (some ⟨w.heap.size, 0, none⟩), w.alloc (.stringIter ⟨⟨l⟩⟩ 0), R.add (.blk w.heap.size), β, ?_, .inl rfl, (h.addObj (.stringIter ⟨⟨l⟩⟩ 0) (.siter l 0) (.blk w.heap.size) rfl hgo).put o.dst (x := .v (.ptr s.G.length 0)) (Rel.ptr (nth_new h _)), by rw [boxes_put]; exact step_addObj h _ _ rfl⟩
  generalize hxv : a.eval x = xv at rx'
  cases rx'
  simp only [execOp, ho, hxv, Instr.range, Sem.run_bind, run_underlying e2, run_newObj, Result.andThen_ok, Sem.run_pure]
  rfl
theorem decodeA_eq (l : List UInt8) (pos : Nat) (h : pos < l.length) : decodeA l pos = Utf8.decode ⟨⟨l⟩⟩ pos := by
  unfold decodeA
  cases hb : Nat.blt (l.getD pos 0).toNat 128 with
  | false => rfl
  | true =>
    have hlt : (l.getD pos 0).toNat < 128 := Nat.le_of_ble_eq_true hb
    have e : (ByteArray.get! ⟨⟨l⟩⟩ (pos + 0)) = l.getD pos 0 := by
      simp [ByteArray.get!, h, List.getD_eq_getElem?_getD]
    simp only [cond_true, Utf8.decode, e]
    rw [if_pos (show (l.getD pos 0).toNat < 0x80 from hlt)]
theorem exec_next (h : Rep E R w β s a) (x : Operand) (ho : o.op = .next x true) {s' : St} (hv : nextA s o.dst (evO E s.slots x) = some s') : Done E R w β s a o s' := by
  have rx := evO_rel h x
  unfold nextA at hv
  split at hv
  · rename_i id hx
    rw [hx] at rx
    have rx' : Rel R w (.ptr id 0) (a.eval x) := rx
    generalize hxv : a.eval x = xv at rx'
    cases rx' with
    | @ptr _ _ b hb =>
    split at hv
    · rename_i l pos hg
      have q1 : w.heap[b]? = some (.stringIter ⟨⟨l⟩⟩ pos) := h.g.obj id _ _ hg hb
      have hlt := block_lt q1
      have hget : (getObj b).run E.P w = .ok (.stringIter ⟨⟨l⟩⟩ pos) w := by simp [getObj, Sem.run, q1]
      have hset : ∀ o', (setObj b o').run E.P w = .ok () (World.put w b o') := fun o' => by
        simp [setObj, Sem.run, World.put, q1]
      cases hb' : Nat.blt pos l.length with
      | true =>
        rw [hb'] at hv
        have hp : pos < l.length := Nat.le_of_ble_eq_true hb'
        simp only [cond_true] at hv
        generalize hdec : decodeA l pos = p at hv
        obtain ⟨c, n⟩ := p
        cases hv
        rw [decodeA_eq l pos hp] at hdec
        obtain ⟨p1, p2⟩ := h.setObj (x' := .stringIter ⟨⟨l⟩⟩ (pos + n)) (go' := .siter l (pos + n)) hb q1 trivial trivial (fun _ e => by cases e) (put_self w b _ hlt)
        have hsz : pos < (⟨⟨l⟩⟩ : ByteArray).size := hp
        refine ⟨.value (.tuple #[.bool true, .int .i64 pos, .int .i32 c]), _, _, R, β, ?_, .inl rfl, p1.put o.dst (x := .v (.tup [.bool true, .int .i64 pos, .int .i32 c])) (Rel.tup (vs := [.bool true, .int .i64 pos, .int .i32 c]) (.cons (.bool _) (.cons (.int _ _) (.cons (.int _ _) .nil)))), by rw [boxes_put]; exact p2⟩
        simp [execOp, ho, hxv, Instr.next, hget, hsz, hdec, hset, goInt]
      | false =>
        rw [hb'] at hv
        simp only [cond_false] at hv
        cases hv
        have hp : ¬ pos < l.length := fun hh => by
          have : Nat.blt pos l.length = true := Nat.ble_eq_true_of_le hh
          rw [hb'] at this; cases this
        have hsz : ¬ pos < (⟨⟨l⟩⟩ : ByteArray).size := hp
        refine done_value h (c := .tuple #[.bool false]) ?_ (Rel.tup (vs := [.bool false]) (.cons (.bool _) .nil))
        simp [execOp, ho, hxv, Instr.next, hget, hsz]
    · cases hv
  · cases hv
end maps
end Go.Am
namespace Go.Am
open Go
section ops
variable {E : Env} {R : Realm} {w : World} {β : Nat → Nat} {s : St} {a : Act} {o : Oper}
theorem allFit_int {k : IntKind} : ∀ {es : List AV}, allFit (Pat.fits (.int k)) es = true → es = (es.map AV.intD).map (AV.int k)
  | [], _ => rfl
  | e :: es, h => by
    simp only [allFit, Bool.and_eq_true] at h
    have hr := allFit_int h.2
    have he : e = .int k e.intD := by
      have h1 := h.1
      cases e <;> first | (cases h1; done) | skip
      have : k = _ := of_decide_eq_true (show kEq _ _ = true from h1)
      subst this
      rfl
    rw [List.map_cons, List.map_cons, ← he, ← hr]
theorem relL_ints {k : IntKind} : ∀ {ns : List Int} {vs : List Value}, RelL R w (ns.map (AV.int k)) vs → vs = ns.map (Value.int k)
  | [], _, .nil => rfl
  | n :: ns, _, .cons h t => by
    cases h
    rw [List.map_cons, ← relL_ints t]
theorem cellsL_ints {k : IntKind} : ∀ (ns : List Int), cellsL (ns.map (AV.int k)) = ns.map (AV.int k)
  | [] => rfl
  | n :: ns => by simp [cellsL, AV.cells, cellsL_ints ns]
theorem foldl_push (ns : List Int) : ∀ (l : List UInt8), ns.foldl (fun r n => r.push (UInt8.ofNat n.toNat)) (⟨⟨l⟩⟩ : ByteArray) = ⟨⟨l ++ ns.map fun n => UInt8.ofNat n.toNat⟩⟩ := by
  induction ns with
  | nil => intro l; simp
  | cons n ns ih =>
    intro l
    rw [List.foldl_cons]
    have : (⟨⟨l⟩⟩ : ByteArray).push (UInt8.ofNat n.toNat) = ⟨⟨l ++ [UInt8.ofNat n.toNat]⟩⟩ := by
      simp [ByteArray.push]
    rw [this, ih]
    simp
theorem foldl_runes (ns : List Int) : ∀ (l : List UInt8), ns.foldl (fun r n => r ++ Utf8.encode n) (⟨⟨l⟩⟩ : ByteArray) = ⟨⟨l ++ ns.flatMap fun n => (Utf8.encode n).data.toList⟩⟩ := by
  induction ns with
  | nil => intro l; simp
  | cons n ns ih =>
    intro l
    rw [List.foldl_cons]
    have : (⟨⟨l⟩⟩ : ByteArray) ++ Utf8.encode n = ⟨⟨l ++ (Utf8.encode n).data.toList⟩⟩ := by
      apply ByteArray.ext
      apply Array.ext'
      simp
    rw [this, ih]
    simp
theorem bytesD_eq {es : List AV} : bytesD es = (es.map AV.intD).map fun n => UInt8.ofNat n.toNat := by simp [bytesD, List.map_map, Function.comp_def]
theorem runesD_eq {es : List AV} : runesD es = (es.map AV.intD).flatMap fun n => (Utf8.encode n).data.toList := by simp [runesD, List.flatMap_map]
theorem run_bytes {a : Addr} {len cap : Nat} {ns : List Int} (h : (loadCells a len).run E.P w = .ok (ns.map (Value.int .u8)).toArray w) :
    (Conv.bytesToString (.slice (some a) len cap)).run E.P w = .ok (.string ⟨⟨ns.map fun n => UInt8.ofNat n.toNat⟩⟩) w := by
  rw [run_bytesToString w a len cap ns h]
  have := foldl_push ns []
  rw [List.nil_append] at this
  exact congrArg (fun x => Result.ok (Value.string x) w) this
theorem run_runes {a : Addr} {len cap : Nat} {ns : List Int} (h : (loadCells a len).run E.P w = .ok (ns.map (Value.int .i32)).toArray w) :
    (Conv.runesToString (.slice (some a) len cap)).run E.P w = .ok (.string ⟨⟨ns.flatMap fun n => (Utf8.encode n).data.toList⟩⟩) w := by
  rw [run_runesToString w a len cap ns h]
  have := foldl_runes ns []
  rw [List.nil_append] at this
  exact congrArg (fun x => Result.ok (Value.string x) w) this
theorem list_ints {k : IntKind} {lk : LK} {sz : Nat} {es : List AV} {c : Value} (h : Rel R w (.list lk sz es) c) (hs : (Nat.beq sz 1 || es.isEmpty) = true) (hf : allFit (Pat.fits (.int k)) es = true) :
    (es = [] ∧ c = .slice none 0 0) ∨ ∃ a cap, c = .slice (some a) es.length cap ∧ (loadCells a es.length).run E.P w = .ok ((es.map AV.intD).map (Value.int k)).toArray w := by
  obtain ⟨_, vs, h1, h2, h3, h4⟩ := list_cells (esz := 1) h (by
    simp only [Bool.or_eq_true] at hs
    rcases hs with hs | hs
    · exact .inr (Nat.eq_of_beq_eq_true hs)
    · exact .inl (by simpa using hs))
  rw [allFit_int hf, cellsL_ints] at h1
  have hv := relL_ints h1
  rcases h4 with ⟨he, _, ad, hc, _⟩ | ⟨b, o', cap, hc, _, _, hcell, _⟩
  · cases ad with
    | none => exact .inl ⟨he, hc⟩
    | some ad =>
      subst he
      exact .inr ⟨ad, 0, hc, by simp [loadCells, loadCellsFrom]⟩
  · refine .inr ⟨_, cap, hc, ?_⟩
    have := run_loadCells_list (P := E.P) w ⟨b, o', none⟩ vs hcell
    rw [h3, Nat.mul_one] at this
    rw [this, hv]
theorem exec_convert (h : Rep E R w β s a) (t u : TypeId) (x : Operand) (ho : o.op = .convert t u x) {v : AV} (hc : convertA E s t u (evO E s.slots x) = some (true, v)) :
    Done E R w β s a o (s.put o.dst (.v v)) := by
  have rx := evO_rel h x
  unfold convertA at hc
  split at hc
  · rename_i i j q hi hj hx
    rw [hx] at rx
    have rx' : Rel R w q (a.eval x) := rx
    generalize hxv : a.eval x = xv at rx'
    obtain ⟨info, ud, e1, e2, e3, e4, e5, e6⟩ := ti_info E hj
    obtain ⟨info', ud', e1', e2', e3', e4', e5', e6'⟩ := ti_info E hi
    split at hc
    · rename_i k _ n hk
      cases hc
      cases rx'
      rw [hk] at e5
      have := tkOf_int e5
      subst this
      refine done_value h (c := .int k (k.wrap n)) ?_ (Rel.int _ _)
      simp [execOp, ho, convert, run_underlying e2', run_underlying e2, hxv, Conv.intToInt]
    · rename_i lk sz es hk
      rw [hk] at e5
      have := tkOf_str e5
      subst this
      split at hc
      · rename_i elem ag eb z hik
        rw [hik] at e5'
        obtain ⟨ie, ue, rfl, _⟩ := tkOf_sl e5'
        split at hc
        · rename_i e he
          obtain ⟨info2, ud2, f1, f2, f3, f4, f5, f6⟩ := ti_info E he
          split at hc
          · rename_i hek
            injection hc with hc; injection hc with c1 c2
            subst c2
            rw [Bool.and_eq_true] at c1
            rw [hek] at f5
            have := tkOf_int f5
            subst this
            refine done_value h (c := .string ⟨⟨bytesD es⟩⟩) ?_ (Rel.str _)
            rcases list_ints (E := E) rx' c1.1 c1.2 with ⟨rfl, rfl⟩ | ⟨ad, cap, rfl, hl⟩
            · simp [execOp, ho, convert, run_underlying e2', run_underlying e2, run_underlying f2, hxv, Conv.bytesToString, bytesD]
              rfl
            · have hr := run_bytes (E := E) (cap := cap) hl
              rw [← bytesD_eq] at hr
              simp [execOp, ho, convert, run_underlying e2', run_underlying e2, run_underlying f2, hxv, hr]
          · rename_i hek
            injection hc with hc; injection hc with c1 c2
            subst c2
            rw [Bool.and_eq_true] at c1
            rw [hek] at f5
            have := tkOf_int f5
            subst this
            refine done_value h (c := .string ⟨⟨runesD es⟩⟩) ?_ (Rel.str _)
            rcases list_ints (E := E) rx' c1.1 c1.2 with ⟨rfl, rfl⟩ | ⟨ad, cap, rfl, hl⟩
            · simp [execOp, ho, convert, run_underlying e2', run_underlying e2, run_underlying f2, hxv, Conv.runesToString, runesD]
              rfl
            · have hr := run_runes (E := E) (cap := cap) hl
              rw [← runesD_eq] at hr
              simp [execOp, ho, convert, run_underlying e2', run_underlying e2, run_underlying f2, hxv, hr]
          · cases hc
        · cases hc
      · cases hc
    · rename_i id off len cap hk
      rw [hk] at e5
      have := tkOf_str e5
      subst this
      split at hc
      · rename_i elem ag eb z cs el hik hg
        rw [hik] at e5'
        obtain ⟨ie, ue, rfl, _⟩ := tkOf_sl e5'
        split at hc
        · rename_i e he
          obtain ⟨info2, ud2, f1, f2, f3, f4, f5, f6⟩ := ti_info E he
          split at hc
          · rename_i hek
            injection hc with hc; injection hc with c1 c2
            subst c2
            rw [Bool.and_eq_true] at c1
            rw [hek] at f5
            have := tkOf_int f5
            subst this
            cases rx' with
            | @msl _ _ _ _ _ b hb hcap =>
            obtain ⟨vs, b1, b2, b3, b4⟩ := h.g.obj id _ _ hg hb
            have hle := Nat.le_of_ble_eq_true c1.1
            have hsub : subA off (off + len) cs = (cs.drop off).take len := by
              unfold subA
              rw [List.drop_take]
              congr 1
              omega
            have hrel : RelL R w (subA off (off + len) cs) ((vs.drop off).take len) := by
              rw [hsub]
              exact (b2.drop off).take len
            have hlen : ((vs.drop off).take len).length = len := by
              rw [List.length_take, List.length_drop, ← b2.length]
              omega
            have hr2 := hrel
            rw [allFit_int c1.2] at hr2
            have hv := relL_ints hr2
            have hl := run_loadCells_list (P := E.P) w ⟨b, off, none⟩ ((vs.drop off).take len) (fun j v hj => by
              rw [addr_add, cell_row b1]
              rw [List.getElem?_take] at hj
              split at hj
              · rw [List.getElem?_drop] at hj; exact hj
              · cases hj)
            rw [hlen, hv] at hl
            have hr := run_bytes (E := E) (cap := cap) hl
            rw [← bytesD_eq] at hr
            refine done_value h (c := .string ⟨⟨bytesD (subA off (off + len) cs)⟩⟩) ?_ (Rel.str _)
            simp [execOp, ho, convert, run_underlying e2', run_underlying e2, run_underlying f2, hxv, hr]
          · cases hc
        · cases hc
      · cases hc
    · cases hc
  · cases hc
theorem exec_nilCheck (h : Rep E R w β s a) (x : Operand) (ho : o.op = .nilCheck x) {y : SV} (hx : evO E s.slots x = y) (hy : (∃ id off, y = .v (.ptr id off)) ∨ ∃ k off, y = .lp k off) :
    Done E R w β s a o (s.put o.dst y) := by
  have rx := evO_rel h x
  rw [hx] at rx
  rcases hy with ⟨id, off, rfl⟩ | ⟨k, off, rfl⟩
  · have rx' : Rel R w (.ptr id off) (a.eval x) := rx
    generalize hxv : a.eval x = xv at rx'
    cases rx' with
    | @ptr _ _ b hb =>
    refine done_value h (c := .pointer (some ⟨b, off, none⟩)) ?_ (Rel.ptr hb)
    simp [execOp, ho, hxv]
  · refine ⟨_, _, w, R, β, ?_, .inl rfl, h.put o.dst rx, by rw [boxes_put]; exact Step.refl _ _ _ _⟩
    have hxv : a.eval x = .pointer (some ⟨β k, off, none⟩) := rx
    simp [execOp, ho, hxv]
end ops
end Go.Am
