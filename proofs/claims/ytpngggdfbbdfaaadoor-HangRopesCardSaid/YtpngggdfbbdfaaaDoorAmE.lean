/- The abstract machine: lists of cells; what keeps a state's meaning; loads and stores. -/
import Derived.Test.YtpngggdfbbdfaaaDoorAmD
import Derived.Laws.CopyRow
import Derived.Laws.Slices
set_option linter.all false
namespace Go.Am
open Go

section lists
variable {α : Type}
theorem dropN_eq (n : Nat) (l : List α) : dropN n l = l.drop n := by
  induction n generalizing l with
  | zero => simp [dropN]
  | succ n ih => cases l <;> simp [dropN, ih]
theorem takeN_eq {n : Nat} {l r : List α} (h : takeN n l = some r) : r = l.take n ∧ r.length = n := by
  induction n generalizing l r with
  | zero => simp [takeN] at h; subst h; simp
  | succ n ih =>
    cases l with
    | nil => simp [takeN] at h
    | cons a l =>
      unfold takeN at h
      split at h
      · rename_i r' hr
        cases h
        obtain ⟨h1, h2⟩ := ih hr
        exact ⟨by simp [h1], by simp [h2]⟩
      · cases h
theorem seg_eq {off n : Nat} {l r : List α} (h : seg off n l = some r) : r = (l.drop off).take n ∧ r.length = n := by
  unfold seg at h
  rw [dropN_eq] at h
  exact takeN_eq h
theorem splice_eq (l : List α) (off : Nat) (ys : List α) (h : off + ys.length ≤ l.length) : splice l off ys = l.take off ++ ys ++ l.drop (off + ys.length) := by
  induction l generalizing off ys with
  | nil =>
    have hy : ys = [] := List.eq_nil_of_length_eq_zero (by rw [List.length_nil] at h; omega)
    subst hy
    simp [splice]
  | cons a l ih =>
    cases ys with
    | nil => simp [splice]
    | cons y ys =>
      cases off with
      | zero =>
        simp only [splice]
        rw [ih 0 ys (by simp at h ⊢; omega)]
        simp
      | succ n =>
        simp only [splice]
        rw [ih n (y :: ys) (by simp at h ⊢; omega)]
        rw [show n + 1 + (y :: ys).length = (n + (y :: ys).length) + 1 by omega]
        simp
theorem length_splice (l : List α) (off : Nat) (ys : List α) (h : off + ys.length ≤ l.length) : (splice l off ys).length = l.length := by
  rw [splice_eq l off ys h]
  simp
  omega
end lists

section rel
variable {R : Realm} {w : World}
theorem RelL.length {l : List AV} {vs : List Value} (h : RelL R w l vs) : l.length = vs.length := by
  induction l generalizing vs with
  | nil => cases h; rfl
  | cons a l ih => cases h with | cons h t => simp [ih t]
theorem RelL.get {l : List AV} {vs : List Value} (h : RelL R w l vs) {i : Nat} {a : AV} (ha : l[i]? = some a) : ∃ c, vs[i]? = some c ∧ Rel R w a c := by
  induction l generalizing vs i with
  | nil => simp at ha
  | cons x l ih =>
    cases h with
    | cons h t =>
      cases i with
      | zero => simp at ha; subst ha; exact ⟨_, by simp, h⟩
      | succ i => simp at ha; obtain ⟨c, h1, h2⟩ := ih t ha; exact ⟨c, by simpa using h1, h2⟩
theorem RelL.drop {l : List AV} {vs : List Value} (h : RelL R w l vs) (n : Nat) : RelL R w (l.drop n) (vs.drop n) := by
  induction n generalizing l vs with
  | zero => simpa using h
  | succ n ih => cases h with
    | nil => simpa using RelL.nil
    | cons h t => simpa using ih t
theorem RelL.take {l : List AV} {vs : List Value} (h : RelL R w l vs) (n : Nat) : RelL R w (l.take n) (vs.take n) := by
  induction n generalizing l vs with
  | zero => simpa using RelL.nil
  | succ n ih => cases h with
    | nil => simpa using RelL.nil
    | cons h t => simpa using RelL.cons h (ih t)
theorem RelL.append {l r : List AV} {vs us : List Value} (h : RelL R w l vs) (k : RelL R w r us) : RelL R w (l ++ r) (vs ++ us) := by
  induction l generalizing vs with
  | nil => cases h; simpa using k
  | cons a l ih => cases h with | cons h t => exact .cons h (ih t)
theorem RelL.one {a : AV} {c : Value} (h : Rel R w a c) : RelL R w [a] [c] := .cons h .nil
theorem Rel.cells {a : AV} {c : Value} (h : Rel R w a c) (ht : a.notTup = true) : RelL R w a.cells c.cells.toList ∧ ∀ v ∈ c.cells.toList, v.oneCell' = true := by
  cases h with
  | agg h h1 => exact ⟨h, h1⟩
  | tup h => simp [AV.notTup] at ht
  | bool => exact ⟨.one (.bool _), by simp [Value.cells, Value.oneCell']⟩
  | int => exact ⟨.one (.int _ _), by simp [Value.cells, Value.oneCell']⟩
  | str => exact ⟨.one (.str _), by simp [Value.cells, Value.oneCell']⟩
  | nilp => exact ⟨.one .nilp, by simp [Value.cells, Value.oneCell']⟩
  | ptr h => exact ⟨.one (.ptr h), by simp [Value.cells, Value.oneCell']⟩
  | ep h => exact ⟨.one (.ep h), by simp [Value.cells, Value.oneCell']⟩
  | lnil => exact ⟨.one .lnil, by simp [Value.cells, Value.oneCell']⟩
  | lopn => exact ⟨.one .lopn, by simp [Value.cells, Value.oneCell']⟩
  | lown h ho => exact ⟨.one (.lown h ho), by simp [Value.cells, Value.oneCell']⟩
  | list h hl hc hk => exact ⟨.one (.list h hl hc hk), by simp [Value.cells, Value.oneCell']⟩
  | msl h hc => exact ⟨.one (.msl h hc), by simp [Value.cells, Value.oneCell']⟩
  | nilm => exact ⟨.one .nilm, by simp [Value.cells, Value.oneCell']⟩
  | map h => exact ⟨.one (.map h), by simp [Value.cells, Value.oneCell']⟩
  | nilf => exact ⟨.one .nilf, by simp [Value.cells, Value.oneCell']⟩
  | fn h h' => exact ⟨.one (.fn h h'), by simp [Value.cells, Value.oneCell']⟩
  | yield h => exact ⟨.one (.yield h), by simp [Value.cells, Value.oneCell']⟩
  | nili => exact ⟨.one .nili, by simp [Value.cells, Value.oneCell']⟩
  | iface h => exact ⟨.one (.iface h), by simp [Value.cells, Value.oneCell']⟩
mutual
theorem Rel.weak : ∀ {a : AV} {c : Value}, Rel R w a c → Rel R w a.weak c
  | _, _, .bool b => .bool b
  | _, _, .int k n => .int k n
  | _, _, .str l => .str l
  | _, _, .agg h h1 => .agg h.weak h1
  | _, _, .tup h => .tup h.weak
  | _, _, .nilp => .nilp
  | _, _, .ptr h => .ptr h
  | _, _, .ep h => .ep h
  | _, _, .lnil => .lnil
  | _, _, .lopn => .lopn
  | _, _, .lown _ _ => .lopn
  | _, _, @Rel.list _ _ .nil _ _ _ _ _ _ h hl hc hk => .list h hl hc hk
  | _, _, @Rel.list _ _ .full _ _ _ _ _ _ h hl hc hk => .list h hl hc hk
  | _, _, @Rel.list _ _ .opn _ _ _ _ _ _ h hl hc hk => .list h hl hc hk
  | _, _, @Rel.list _ _ (.own _) _ _ _ _ _ _ h hl hc _ => .list h hl hc trivial
  | _, _, .msl h hc => .msl h hc
  | _, _, .nilm => .nilm
  | _, _, .map h => .map h
  | _, _, .nilf => .nilf
  | _, _, .fn h h' => .fn h h'
  | _, _, .yield h => .yield h
  | _, _, .nili => .nili
  | _, _, .iface h => .iface h
theorem RelL.weak : ∀ {l : List AV} {cs : List Value}, RelL R w l cs → RelL R w (weakL l) cs
  | _, _, .nil => .nil
  | _, _, .cons h t => .cons h.weak t.weak
end
theorem RelC.get {b o : Nat} {l : List AV} (h : RelC R w b o l) : ∃ vs, RelL R w l vs ∧ (∀ v ∈ vs, v.oneCell' = true) ∧ (∀ j v, vs[j]? = some v → w.cell? ⟨b, o + j, none⟩ = some v) ∧ ∀ j, j < l.length → R.I b (o + j) := by
  induction l generalizing o with
  | nil => exact ⟨[], .nil, by simp, by simp, by simp⟩
  | cons a l ih =>
    cases h with
    | @cons _ _ _ c _ hc h1 hi h t =>
      obtain ⟨vs, k1, k2, k3, k4⟩ := ih t
      refine ⟨c :: vs, .cons h k1, ?_, ?_, ?_⟩
      · intro v hv
        rcases List.mem_cons.1 hv with rfl | hv
        · exact h1
        · exact k2 v hv
      · intro j v hv
        cases j with
        | zero => simp at hv; subst hv; exact hc
        | succ j => simp at hv; have := k3 j v hv; rwa [show o + 1 + j = o + (j + 1) by omega] at this
      · intro j hj
        cases j with
        | zero => exact hi
        | succ j => have := k4 j (by simp at hj; omega); rwa [show o + 1 + j = o + (j + 1) by omega] at this
theorem RelC.make {b o : Nat} {l : List AV} {vs : List Value} (h : RelL R w l vs) (h1 : ∀ v ∈ vs, v.oneCell' = true) (hc : ∀ j v, vs[j]? = some v → w.cell? ⟨b, o + j, none⟩ = some v) (hi : ∀ j, j < l.length → R.I b (o + j)) : RelC R w b o l := by
  induction l generalizing vs o with
  | nil => exact .nil
  | cons a l ih =>
    cases h with
    | cons h t =>
      refine .cons (hc 0 _ (by simp)) (h1 _ (by simp)) (hi 0 (by simp)) h (ih t (fun v hv => h1 v (by simp [hv])) (fun j v hv => ?_) (fun j hj => ?_))
      · have := hc (j + 1) v (by simpa using hv); rwa [show o + (j + 1) = o + 1 + j by omega] at this
      · have := hi (j + 1) (by simpa using hj); rwa [show o + (j + 1) = o + 1 + j by omega] at this
theorem RelC.drop {b o : Nat} {l : List AV} (h : RelC R w b o l) (n : Nat) : RelC R w b (o + n) (l.drop n) := by
  induction n generalizing o l with
  | zero => simpa using h
  | succ n ih => cases h with
    | nil => simpa using RelC.nil
    | cons hc h1 hi h t => have := ih t; rw [show o + 1 + n = o + (n + 1) by omega] at this; simpa using this
end rel

theorem addr_add (b o n : Nat) : (⟨b, o, none⟩ : Addr).add n = ⟨b, o + n, none⟩ := by unfold Addr.add; split <;> simp_all

section keep
variable {E : Env} {R R' : Realm} {w w' : World} {β β' : Nat → Nat} {s : St} {a : Act}

theorem RelT.mono (e : Ext R w R' w') {sl : Slots} {tm : Array Value} (h : RelT R w β sl tm) : RelT R' w' β sl tm :=
  fun i hi => let ⟨c, h1, h2⟩ := h i hi; ⟨c, h1, h2.mono e⟩

theorem RelM.mono (e : Ext R w R' w') : ∀ {l : List (AV × AV)} {es : List MapEntry}, RelM R w l es → RelM R' w' l es
  | [], [], _ => trivial
  | (_, _) :: _, _ :: _, h => ⟨h.1.mono e, h.2.1.mono e, RelM.mono e h.2.2⟩
  | [], _ :: _, h => h.elim
  | _ :: _, [], h => h.elim

theorem size_of_get {w w' : World} {b : Nat} (h : b < w.heap.size) (e : w'.heap[b]? = w.heap[b]?) : b < w'.heap.size := by
  rw [Array.getElem?_eq_getElem h] at e
  exact (Array.getElem?_eq_some_iff.1 e).1

theorem RepO.mono (e : Ext R w R' w') {go : GO} {ro : RO} (h : RepO R w go ro) (hb : ∀ b, ro.block = some b → w'.heap[b]? = w.heap[b]?) (hi : ∀ b o, ro.block = some b → R'.I b o → R.I b o) : RepO R' w' go ro := by
  cases ro with
  | none => cases go <;> first | exact h | exact h.elim
  | nil0 => cases go <;> first | exact h | exact h.elim
  | blk b =>
    have hb' := hb b rfl
    cases go with
    | dead => exact size_of_get h hb'
    | row cs => obtain ⟨vs, el, h1, h2, h3, h4⟩ := h; exact ⟨vs, el, hb'.trans h1, h2.mono e, h3, fun o ho => h4 o (hi b o rfl ho)⟩
    | tok f sz el => exact h.elim
    | map es => obtain ⟨ents, clock, h1, h2, h3⟩ := h; exact ⟨ents, clock, hb'.trans h1, RelM.mono e h2, h3⟩
    | siter l pos => exact hb'.trans h
    | loop busy pending fn slots n params assign body defers done =>
      obtain ⟨⟨r, db, h1, h2, h3, h4, h5, h6, h7, h8, h9, h11⟩, h10⟩ := h
      exact ⟨⟨r, db, hb'.trans h1, h2, h3, h4.mono e, h5, h6, h7, h8, h9, e.blk h11⟩, h10⟩
    | defers o => exact hb'.trans h
  | tok f b c =>
    have hb' := hb b rfl
    cases go with
    | tok f' sz el =>
      obtain ⟨h0, cur, h1, h2, h3, h4, h5⟩ := h
      exact ⟨h0, cur, hb'.trans h1, h2, h3, h4, fun o ho hi' => h5 o ho (hi b o rfl hi')⟩
    | dead => exact size_of_get h hb'
    | row cs => exact h.elim
    | map es => exact h.elim
    | siter l pos => exact h.elim
    | loop => exact h.elim
    | defers o => exact h.elim

theorem Live.of {id b : Nat} {ro : RO} (h : nth R.obj id = some ro) (hb : ro.block = some b) : Live R b := ⟨id, ro, h, hb⟩

/-- The world turns, but nothing that the state owns. -/
theorem RepG.keep {G : List GO} (h : RepG E R w G) (e : Ext R w R' w') (ho : R'.obj = R.obj) (hb : ∀ b, Live R b → w'.heap[b]? = w.heap[b]?) (hi : ∀ b o, Live R b → R'.I b o → R.I b o) (wf : ∀ b o, R'.I b o → b < w'.heap.size) : RepG E R' w' G where
  len := by rw [ho]; exact h.len
  obj := fun id go ro hg hr => by
    rw [ho] at hr
    exact (h.obj id go ro hg hr).mono e (fun b hbb => hb b (.of hr hbb)) (fun b o hbb => hi b o (.of hr hbb))
  inj := fun i j ri rj b h1 h2 => by rw [ho] at h1 h2; exact h.inj i j ri rj b h1 h2
  wf := wf
  glob := fun g cs hg => (h.glob g cs hg).mono e

theorem RepB.keep {bx : Boxes} (h : RepB R w β bx) (e : Ext R w R' w') (hb : ∀ k cs, lkB bx k = some cs → w'.heap[β k]? = w.heap[β k]?) (hi : ∀ k cs o, lkB bx k = some cs → R'.I (β k) o → R.I (β k) o) (hl : ∀ k cs, lkB bx k = some cs → Live R' (β k) → Live R (β k)) : RepB R' w' β bx where
  box := fun k cs hk => by
    obtain ⟨⟨vs, el, h1, h2, h3⟩, h4, h5⟩ := h.box k cs hk
    exact ⟨⟨vs, el, (hb k cs hk).trans h1, h2.mono e, h3⟩, fun o ho => h4 o (hi k cs o hk ho), fun hlv => h5 (hl k cs hk hlv)⟩
  inj := h.inj

theorem RelD.mono (e : Ext R w R' w') : ∀ {l : List Nat} {ds : List Deferred}, RelD R l ds → RelD R' l ds
  | [], [], _ => trivial
  | _ :: _, _ :: _, h => let ⟨⟨b, h1, h2⟩, h3⟩ := h; ⟨⟨b, e.blk h1, h2⟩, RelD.mono e h3⟩
  | [], _ :: _, h => h.elim
  | _ :: _, [], h => h.elim

theorem Rep.keep (h : Rep E R w β s a) (e : Ext R w R' w') (ho : R'.obj = R.obj) (hb : ∀ b, Own R β s.boxes b → w'.heap[b]? = w.heap[b]?) (hi : ∀ b o, Own R β s.boxes b → R'.I b o → R.I b o) (wf : ∀ b o, R'.I b o → b < w'.heap.size) : Rep E R' w' β s a where
  g := h.g.keep e ho (fun b hl => hb b (.inl hl)) (fun b o hl => hi b o (.inl hl)) wf
  b := h.b.keep e (fun k cs hk => hb _ (.inr ⟨k, cs, hk, rfl⟩)) (fun k cs o hk => hi _ o (.inr ⟨k, cs, hk, rfl⟩)) (fun k cs _ hl => by obtain ⟨id, ro, h1, h2⟩ := hl; rw [ho] at h1; exact ⟨id, ro, h1, h2⟩)
  t := h.t.mono e
  n := h.n
  d := h.d.mono e

theorem block_lt {w : World} {b : Nat} {o : Obj} (h : w.heap[b]? = some o) : b < w.heap.size := (Array.getElem?_eq_some_iff.1 h).1

theorem RepO.lt {go : GO} {ro : RO} (h : RepO R w go ro) {b : Nat} (hb : ro.block = some b) : b < w.heap.size := by
  cases ro with
  | none => simp [RO.block] at hb
  | nil0 => simp [RO.block] at hb
  | blk x =>
    simp [RO.block] at hb
    subst hb
    cases go with
    | dead => exact h
    | row cs => obtain ⟨vs, el, h1, _⟩ := h; exact block_lt h1
    | tok f sz el => exact h.elim
    | map es => obtain ⟨ents, clock, h1, _⟩ := h; exact block_lt h1
    | siter l pos => exact block_lt h
    | loop => obtain ⟨⟨r, db, h1, _⟩, _⟩ := h; exact block_lt h1
    | defers o => exact block_lt h
  | tok f x c =>
    simp [RO.block] at hb
    subst hb
    cases go with
    | tok f' sz el => obtain ⟨_, cur, h1, _⟩ := h; exact block_lt h1
    | dead => exact h
    | row cs => exact h.elim
    | map es => exact h.elim
    | siter l pos => exact h.elim
    | loop => exact h.elim
    | defers o => exact h.elim

theorem RepG.live_lt {G : List GO} (h : RepG E R w G) {b : Nat} (hl : Live R b) : b < w.heap.size := by
  obtain ⟨id, ro, h1, h2⟩ := hl
  have hlt := nth_lt h1
  rw [h.len] at hlt
  obtain ⟨go, hgo⟩ : ∃ go, nth G id = some go := ⟨G[id], by rw [nth_eq]; exact List.getElem?_eq_getElem hlt⟩
  exact (h.obj id go ro hgo h1).lt h2

theorem Rep.own_lt (h : Rep E R w β s a) {b : Nat} (ho : Own R β s.boxes b) : b < w.heap.size := by
  rcases ho with hl | ⟨k, cs, hk, rfl⟩
  · exact h.g.live_lt hl
  · obtain ⟨⟨vs, el, h1, _⟩, _⟩ := h.b.box k cs hk
    exact block_lt h1

theorem cell_of_block {w w' : World} {b : Nat} (h : w'.heap[b]? = w.heap[b]?) (o : Nat) : w'.cell? ⟨b, o, none⟩ = w.cell? ⟨b, o, none⟩ := by simp [World.cell?, h]

theorem ext_alloc (wf : ∀ b o, R.I b o → b < w.heap.size) (x : Obj) : Ext R w R (w.alloc x) :=
  ⟨fun _ _ h => h, fun b o h => cell_of_block (heap_alloc_old w x b (wf b o h)) o, fun _ ro h => ⟨ro, h, RoLe.refl ro⟩, .old fun b hb => heap_alloc_old w x b hb⟩

/-- A new block that nobody knows. -/
theorem Rep.alloc (h : Rep E R w β s a) (x : Obj) : Rep E R (w.alloc x) β s a :=
  h.keep (ext_alloc h.g.wf x) rfl (fun b hb => heap_alloc_old w x b (h.own_lt hb)) (fun _ _ _ hi => hi) (fun b o hi => by have := h.g.wf b o hi; simp; omega)

theorem step_alloc (h : Rep E R w β s a) (x : Obj) : Step R w β s.boxes R (w.alloc x) β s.boxes :=
  ⟨ext_alloc h.g.wf x, rfl, rfl, rfl, by simp, fun b hb _ => heap_alloc_old w x b hb, fun _ _ ho => ho, fun _ _ hi _ _ => hi⟩
end keep

end Go.Am
