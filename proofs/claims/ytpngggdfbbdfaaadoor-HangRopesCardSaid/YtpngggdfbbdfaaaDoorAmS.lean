/- The abstract machine: what an operation does to a state is the same in a state that agrees with it. -/
import Derived.Test.YtpngggdfbbdfaaaDoorAmR
import Derived.OrdersIn
set_option linter.all false
namespace Go.Am
open Go

/-- A state with more in its slots and boxes, and these objects. -/
def St.eff (s : St) (pre : Slots) (preB : Boxes) (G : List GO) : St := ⟨pre ++ s.slots, preB ++ s.boxes, G, s.marks, s.ro, s.n⟩

/-- What an operation puts ahead of the slots; whether it makes a box anew. -/
def Pre (al : Bool) (dst : Option Tmp) (pre : Slots) : Prop :=
  pre = [] ∨ ∃ d x, dst = some d ∧ (pre = [.put d x] ∨ (al = true ∧ pre = [.put d x, .kill d]))

/-- An operation does the same in both states. -/
def SameEff (al w : Bool) (dst : Option Tmp) (s t s' t' : St) : Prop :=
  ∃ pre preB G, Pre al dst pre ∧ (w = false → preB = [] ∧ G = s.G ∧ ∃ x, s' = s.put dst x ∧ t' = t.put dst x) ∧ s' = s.eff pre preB G ∧ t' = t.eff pre preB G

section
variable {E : Env} {s t : St} {o : Oper}

theorem put_eff (s : St) (d : Tmp) (x : SV) : s.put (some d) x = bif Nat.blt d s.n then s.eff [.put d x] [] s.G else s := by
  cases h : Nat.blt d s.n <;> simp [St.put, h, St.eff]

theorem eff_nil (s : St) : s.eff [] [] s.G = s := rfl

theorem SameEff.put {al w : Bool} (hn : s.n = t.n) (hG : s.G = t.G) (dst : Option Tmp) (x : SV) : SameEff al w dst s t (s.put dst x) (t.put dst x) := by
  cases dst with
  | none => exact ⟨[], [], s.G, .inl rfl, fun _ => ⟨rfl, rfl, x, rfl, rfl⟩, rfl, by rw [hG]; rfl⟩
  | some d =>
    have hx : ∃ y, s.put (some d) x = s.put (some d) y ∧ t.put (some d) x = t.put (some d) y := ⟨x, rfl, rfl⟩
    revert hx
    generalize hs : s.put (some d) x = s'
    generalize ht : t.put (some d) x = t'
    intro hx
    rw [put_eff] at hs ht
    rw [← hn] at ht
    revert hs ht
    cases Nat.blt d s.n with
    | true => exact fun hs ht => ⟨[.put d x], [], s.G, .inr ⟨d, x, rfl, .inl rfl⟩, fun _ => ⟨rfl, rfl, hx⟩, hs.symm, by rw [hG]; exact ht.symm⟩
    | false => exact fun hs ht => ⟨[], [], s.G, .inl rfl, fun _ => ⟨rfl, rfl, hx⟩, hs.symm, by rw [hG]; exact ht.symm⟩

theorem SameEff.putG {al : Bool} (hn : s.n = t.n) (G : List GO) (dst : Option Tmp) (x : SV) : SameEff al true dst s t ((s.inG G).put dst x) ((t.inG G).put dst x) := by
  cases dst with
  | none => exact ⟨[], [], G, .inl rfl, fun h => (by cases h), rfl, rfl⟩
  | some d =>
    rw [put_eff, put_eff, show (t.inG G).n = (s.inG G).n from hn.symm]
    cases Nat.blt d (s.inG G).n with
    | true => exact ⟨[.put d x], [], G, .inr ⟨d, x, rfl, .inl rfl⟩, fun h => (by cases h), rfl, rfl⟩
    | false => exact ⟨[], [], G, .inl rfl, fun h => (by cases h), rfl, rfl⟩

theorem SameEff.inG {al : Bool} (G : List GO) (dst : Option Tmp) : SameEff al true dst s t (s.inG G) (t.inG G) := ⟨[], [], G, .inl rfl, fun h => (by cases h), rfl, rfl⟩
theorem SameEff.inB {al : Bool} (hG : s.G = t.G) (dst : Option Tmp) (d : Nat) (cs : List AV) : SameEff al true dst s t (s.inB d cs) (t.inB d cs) :=
  ⟨[], [(d, cs)], s.G, .inl rfl, fun h => (by cases h), rfl, (by rw [hG]; rfl)⟩

theorem evL_congr {a b : Slots} : ∀ {l : List Operand}, (∀ y ∈ l, evO E a y = evO E b y) → evL E a l = evL E b l
  | [], _ => rfl
  | x :: l, h => by
    simp only [evL]
    rw [h x (by simp), evL_congr (l := l) (fun y hy => h y (by simp [hy]))]

theorem evP_congr {a b : Slots} : ∀ {l : List (Nat × Operand)}, (∀ p ∈ l, evO E a p.2 = evO E b p.2) → evP E a l = evP E b l
  | [], _ => rfl
  | (i, x) :: l, h => by
    simp only [evP]
    rw [h (i, x) (by simp), evP_congr (l := l) (fun y hy => h y (by simp [hy]))]

theorem cellsAt_congr (hG : s.G = t.G) (hB : lkB s.boxes = lkB t.boxes) (p : SV) : cellsAt s p = cellsAt t p := by
  unfold cellsAt
  rw [hG, hB]

theorem loadA_congr (hG : s.G = t.G) (hB : lkB s.boxes = lkB t.boxes) (ty : TypeId) (p : SV) : loadA E s ty p = loadA E t ty p := by
  unfold loadA
  rw [cellsAt_congr hG hB]

theorem copyA_congr (hG : s.G = t.G) (esz : Nat) (d x : AV) : copyA s esz d x = copyA t esz d x := by
  unfold copyA
  rw [hG]

theorem allocA_same {f : FuncId} {dst : Option Tmp} {cs : List AV} {c : Bool} {s' : St} (hn : s.n = t.n) (hG : s.G = t.G) (h : allocA E f s dst cs = some (c, s')) :
    ∃ t', allocA E f t dst cs = some (c, t') ∧ SameEff true true dst s t s' t' := by
  unfold allocA at *
  cases dst with
  | none => cases h
  | some d =>
    simp only at *
    split at h
    · rename_i hg
      injection h with h
      injection h with h1 h2
      subst h1 h2
      rw [if_pos hg]
      refine ⟨_, rfl, ?_⟩
      have := SameEff.putG (al := true) hn (s.G ++ [.row cs]) (some d) (.v (.ptr s.G.length 0))
      rw [hG] at this
      have e : s.addG (.row cs) = s.inG (t.G ++ [.row cs]) := by rw [← hG]; rfl
      rw [e, hG]
      exact this
    · rename_i hg
      rw [if_neg hg, ← hn]
      split at h
      · rename_i hb
        injection h with h
        injection h with h1 h2
        subst h1 h2
        refine ⟨_, rfl, [.put d (.lp d 0), .kill d], [(d, cs)], s.G, .inr ⟨d, _, rfl, .inr ⟨rfl, rfl⟩⟩, fun h => (by cases h), ?_, ?_⟩
        · simp [St.put, St.inB, St.kill, hb, St.eff]
        · simp only [St.put, St.inB, St.kill, ← hn, hb, St.eff, hG]
          rfl
      · cases h

theorem storeA_same {ty : TypeId} {p x : SV} {s' : St} {al : Bool} {dst : Option Tmp} (hG : s.G = t.G) (hB : lkB s.boxes = lkB t.boxes) (h : storeA E s ty p x = some s') :
    ∃ t', storeA E t ty p x = some t' ∧ SameEff al true dst s t s' t' := by
  unfold storeA at *
  split at h
  · split at h
    · rename_i hc
      rw [if_pos hc]
      split at h
      · rw [← hB]
        split at h
        · split at h
          · rename_i hc2
            cases h
            simp only [hc2, if_true]
            exact ⟨_, rfl, .inB hG _ _ _⟩
          · cases h
        · cases h
      · rw [← hG]
        split at h
        · split at h
          · rename_i hc2
            cases h
            simp only [hc2, if_true]
            exact ⟨_, rfl, .inG _ _⟩
          · cases h
        · cases h
      · cases h
    · cases h
  · cases h

def isAlloc : Op → Bool
  | .alloc _ => true
  | .box _ _ => true
  | _ => false

/-- Whether an operation changes slots alone. -/
def isN : Op → Bool
  | .move _ | .assign _ | .pick _ _ _ | .build _ _ | .buildSlice _ _ _ | .load _ _ | .binOp _ _ _ _ _ | .unOp _ _ _ | .convert _ _ _ | .makeFunc _ _ _ | .fieldAddr _ _ _ | .field _ _ _
  | .indexAddr _ _ _ | .index _ _ _ | .slice _ _ _ _ _ | .extract _ _ | .lookup _ _ _ _ => true
  | .call { callee := .builtin .len, .. } => true
  | .call { callee := .builtin .max, .. } => true
  | .call { callee := .builtin .min, .. } => true
  | _ => false

/-- Whether an operation reads memory. -/
def isR : Op → Bool
  | .load _ _ => true
  | .lookup _ _ _ _ => true
  | .call _ => true
  | _ => false

def isWB : Builtin → Bool
  | .append | .copy => true
  | _ => false

theorem builtinA_same {dst : Option Tmp} {b : Builtin} {l : List AV} {tys : List TypeId} {c : Bool} {s' : St} {al : Bool} (hn : s.n = t.n) (hG : s.G = t.G) (h : builtinA E s dst b l tys = some (c, s')) :
    ∃ t', builtinA E t dst b l tys = some (c, t') ∧ SameEff al (isWB b) dst s t s' t' := by
  obtain ⟨sl, bx, G, m, ro, n⟩ := s
  obtain ⟨sl', bx', G', m', ro', n'⟩ := t
  have hc := fun esz d x => copyA_congr (s := ⟨sl, bx, G, m, ro, n⟩) (t := ⟨sl', bx', G', m', ro', n'⟩) hG esz d x
  simp only at hn hG
  subst hn hG
  unfold builtinA at h ⊢
  simp only [← hc]
  cases b
  all_goals (try (cases h; done))
  all_goals (try simp only at h ⊢)
  all_goals (try (split at h <;> first | (cases h; done) | simp only at h ⊢))
  all_goals (repeat' (split at h))
  all_goals (first | (cases h; done) | skip)
  all_goals (injection h with h; injection h with h1 h2; subst h1 h2)
  all_goals (try simp only [if_true, *])
  all_goals (first | exact ⟨_, rfl, .put (by rfl) (by rfl) _ _⟩ | exact ⟨_, rfl, .putG (by rfl) _ _ _⟩)

theorem lookupA_congr (hG : s.G = t.G) (ty : TypeId) (m k : SV) : lookupA E s ty m k = lookupA E t ty m k := by
  have : mapOf s = mapOf t := by funext m; unfold mapOf; rw [hG]
  unfold lookupA
  rw [this]

theorem updateA_same {ty : TypeId} {m k x : SV} {s' : St} {al : Bool} {dst : Option Tmp} (hG : s.G = t.G) (h : updateA E s ty m k x = some s') :
    ∃ t', updateA E t ty m k x = some t' ∧ SameEff al true dst s t s' t' := by
  unfold updateA at *
  rw [← hG]
  repeat' (split at h)
  all_goals (first | (cases h; done) | skip)
  cases h
  simp only [*]
  exact ⟨_, rfl, .inG _ _⟩

theorem nextA_same {dst : Option Tmp} {x : SV} {s' : St} {al : Bool} (hn : s.n = t.n) (hG : s.G = t.G) (h : nextA s dst x = some s') :
    ∃ t', nextA t dst x = some t' ∧ SameEff al true dst s t s' t' := by
  unfold nextA at *
  rw [← hG]
  split at h
  · split at h
    · rename_i l pos hg
      cases hb : Nat.blt pos l.length with
      | true =>
        rw [hb] at h
        simp only [cond_true] at h ⊢
        cases h
        exact ⟨_, rfl, .putG hn _ _ _⟩
      | false =>
        rw [hb] at h
        simp only [cond_false] at h ⊢
        cases h
        obtain ⟨pre, preB, G, p1, p2, p3⟩ := SameEff.put (al := al) (w := true) hn hG dst (.v (.tup [.bool false]))
        exact ⟨_, rfl, pre, preB, G, p1, p2, p3⟩
    · cases h
  · cases h

theorem stepOp_same {f : FuncId} {c : Bool} {s' : St} (hn : s.n = t.n) (hG : s.G = t.G) (hB : lkB s.boxes = lkB t.boxes) (hev : ∀ y ∈ o.op.operands, evO E s.slots y = evO E t.slots y)
    (h : stepOp E f s o = some (c, s')) : ∃ t', stepOp E f t o = some (c, t') ∧ SameEff (isAlloc o.op) (!isN o.op) o.dst s t s' t' := by
  obtain ⟨dst, op, ty, pos, after, guard⟩ := o
  cases op
  case move x =>
    simp only [stepOp, hev x (by simp [Op.operands])] at h ⊢
    split at h
    all_goals (injection h with h; injection h with h1 h2; subst h1 h2; (try simp only [*]); exact ⟨_, rfl, .put hn hG _ _⟩)
  case assign x =>
    simp only [stepOp, hev x (by simp [Op.operands])] at h ⊢
    split at h
    all_goals (injection h with h; injection h with h1 h2; subst h1 h2; (try simp only [*]); exact ⟨_, rfl, .put hn hG _ _⟩)
  case pick x y z =>
    simp only [stepOp, hev x (by simp [Op.operands]), hev y (by simp [Op.operands]), hev z (by simp [Op.operands])] at h ⊢
    split at h
    · injection h with h; injection h with h1 h2; subst h1 h2; (try simp only [*]); exact ⟨_, rfl, .put hn hG _ _⟩
    · cases h
  case alloc e =>
    simp only [stepOp] at h ⊢
    repeat' (split at h)
    all_goals (first | (cases h; done) | skip)
    simp only [*]
    exact allocA_same hn hG h
  case box e x =>
    simp only [stepOp, hev x (by simp [Op.operands])] at h ⊢
    repeat' (split at h)
    all_goals (first | (cases h; done) | skip)
    simp only [*]
    exact allocA_same hn hG h
  case build ty ps =>
    have he : buildA E s ty ps.toList = buildA E t ty ps.toList := by
      unfold buildA
      rw [evP_congr (fun p hp => hev p.2 (by simp only [Op.operands, List.mem_toArray, List.mem_map]; exact ⟨p, hp, rfl⟩))]
    simp only [stepOp, he] at h ⊢
    split at h
    · injection h with h; injection h with h1 h2; subst h1 h2; (try simp only [*]); exact ⟨_, rfl, .put hn hG _ _⟩
    · cases h
  case buildSlice ty len ps =>
    have he : buildSliceA E s ty len ps.toList = buildSliceA E t ty len ps.toList := by
      unfold buildSliceA
      rw [evP_congr (fun p hp => hev p.2 (by simp only [Op.operands, List.mem_toArray, List.mem_map]; exact ⟨p, hp, rfl⟩))]
    simp only [stepOp, he] at h ⊢
    split at h
    · injection h with h; injection h with h1 h2; subst h1 h2; (try simp only [*]); exact ⟨_, rfl, .put hn hG _ _⟩
    · cases h
  case load ty x =>
    simp only [stepOp, hev x (by simp [Op.operands]), loadA_congr hG hB] at h ⊢
    split at h
    · injection h with h; injection h with h1 h2; subst h1 h2; (try simp only [*]); exact ⟨_, rfl, .put hn hG _ _⟩
    · cases h
  case store ty x y =>
    simp only [stepOp, hev x (by simp [Op.operands]), hev y (by simp [Op.operands])] at h ⊢
    split at h
    · rename_i s1 hs
      injection h with h; injection h with h1 h2; subst h1 h2
      obtain ⟨t', h3, h4⟩ := storeA_same (al := false) (dst := none) hG hB hs
      rw [h3]
      exact ⟨_, rfl, h4⟩
    · cases h
  case binOp op a x y b =>
    simp only [stepOp, hev x (by simp [Op.operands]), hev y (by simp [Op.operands])] at h ⊢
    repeat' (split at h)
    all_goals (first | (cases h; done) | skip)
    all_goals (injection h with h; injection h with h1 h2; subst h1 h2; (try simp only [*]); exact ⟨_, rfl, .put hn hG _ _⟩)
  case unOp op a x =>
    simp only [stepOp, hev x (by simp [Op.operands])] at h ⊢
    repeat' (split at h)
    all_goals (first | (cases h; done) | skip)
    all_goals (injection h with h; injection h with h1 h2; subst h1 h2; (try simp only [*]); exact ⟨_, rfl, .put hn hG _ _⟩)
  case convert a b x =>
    simp only [stepOp, hev x (by simp [Op.operands])] at h ⊢
    repeat' (split at h)
    all_goals (first | (cases h; done) | skip)
    all_goals (injection h with h; injection h with h1 h2; subst h1 h2; (try simp only [*]); exact ⟨_, rfl, .put hn hG _ _⟩)
  case makeFunc fo a b =>
    cases fo with
    | func g =>
      have h1 : evL E s.slots a.toList = evL E t.slots a.toList := evL_congr fun y hy => hev y (by simp only [Op.operands, Array.mem_append]; exact .inl (by simpa using hy))
      have h2 : evL E s.slots b.toList = evL E t.slots b.toList := evL_congr fun y hy => hev y (by simp only [Op.operands, Array.mem_append]; exact .inr (by simpa using hy))
      simp only [stepOp, h1, h2] at h ⊢
      repeat' (split at h)
      all_goals (first | (cases h; done) | skip)
      all_goals (injection h with h; injection h with h1 h2; subst h1 h2; (try simp only [*]); exact ⟨_, rfl, .put hn hG _ _⟩)
    | _ => simp [stepOp] at h
  case fieldAddr a x j =>
    simp only [stepOp, hev x (by simp [Op.operands])] at h ⊢
    repeat' (split at h)
    all_goals (first | (cases h; done) | skip)
    all_goals (injection h with h; injection h with h1 h2; subst h1 h2; (try simp only [*]); exact ⟨_, rfl, .put hn hG _ _⟩)
  case field a x j =>
    simp only [stepOp, hev x (by simp [Op.operands])] at h ⊢
    repeat' (split at h)
    all_goals (first | (cases h; done) | skip)
    all_goals (injection h with h; injection h with h1 h2; subst h1 h2; (try simp only [*]); exact ⟨_, rfl, .put hn hG _ _⟩)
  case indexAddr a x y =>
    simp only [stepOp, hev x (by simp [Op.operands]), hev y (by simp [Op.operands])] at h ⊢
    repeat' (split at h)
    all_goals (first | (cases h; done) | skip)
    all_goals (injection h with h; injection h with h1 h2; subst h1 h2; (try simp only [*]); exact ⟨_, rfl, .put hn hG _ _⟩)
  case index a x y =>
    simp only [stepOp, hev x (by simp [Op.operands]), hev y (by simp [Op.operands])] at h ⊢
    repeat' (split at h)
    all_goals (first | (cases h; done) | skip)
    all_goals (injection h with h; injection h with h1 h2; subst h1 h2; (try simp only [*]); exact ⟨_, rfl, .put hn hG _ _⟩)
  case slice a x lo hi mx =>
    have h1 : optO E s.slots lo = optO E t.slots lo := by
      cases lo with
      | none => rfl
      | some y => simp only [optO]; rw [hev y (by simp [Op.operands])]
    have h2 : optO E s.slots hi = optO E t.slots hi := by
      cases hi with
      | none => rfl
      | some y => simp only [optO]; rw [hev y (by simp [Op.operands])]
    simp only [stepOp, hev x (by simp [Op.operands]), h1, h2] at h ⊢
    repeat' (split at h)
    all_goals (first | (cases h; done) | skip)
    all_goals (injection h with h; injection h with h1 h2; subst h1 h2; (try simp only [*]); exact ⟨_, rfl, .put hn hG _ _⟩)
  case extract x i =>
    simp only [stepOp, hev x (by simp [Op.operands])] at h ⊢
    repeat' (split at h)
    all_goals (first | (cases h; done) | skip)
    all_goals (injection h with h; injection h with h1 h2; subst h1 h2; (try simp only [*]); exact ⟨_, rfl, .put hn hG _ _⟩)
  case makeSlice ty x y =>
    simp only [stepOp, hev x (by simp [Op.operands]), hev y (by simp [Op.operands])] at h ⊢
    repeat' (split at h)
    all_goals (first | (cases h; done) | skip)
    injection h with h; injection h with h1 h2; subst h1 h2
    simp only [*]
    refine ⟨_, rfl, ?_⟩
    have e : ∀ o, t.addG o = t.inG (s.G ++ [o]) := fun o => by rw [hG]; rfl
    rw [e, ← hG]
    exact SameEff.putG (al := false) hn _ dst _
  case lookup ty x y ok =>
    simp only [stepOp, hev x (by simp [Op.operands]), hev y (by simp [Op.operands]), lookupA_congr hG] at h ⊢
    split at h
    · injection h with h; injection h with h1 h2; subst h1 h2; (try simp only [*]); exact ⟨_, rfl, .put hn hG _ _⟩
    · cases h
  case mapUpdate ty x y z =>
    simp only [stepOp, hev x (by simp [Op.operands]), hev y (by simp [Op.operands]), hev z (by simp [Op.operands])] at h ⊢
    split at h
    · rename_i s1 hs
      injection h with h; injection h with h1 h2; subst h1 h2
      obtain ⟨t', h3, h4⟩ := updateA_same (al := false) (dst := none) hG hs
      rw [h3]
      exact ⟨_, rfl, h4⟩
    · cases h
  case range ty x =>
    simp only [stepOp, hev x (by simp [Op.operands])] at h ⊢
    repeat' (split at h)
    all_goals (first | (cases h; done) | skip)
    injection h with h; injection h with h1 h2; subst h1 h2
    (try simp only [*])
    refine ⟨_, rfl, ?_⟩
    have e : ∀ o, t.addG o = t.inG (s.G ++ [o]) := fun o => by rw [hG]; rfl
    rw [e, ← hG]
    exact SameEff.putG (al := false) hn _ dst _
  case next x b =>
    cases b with
    | false => simp [stepOp] at h
    | true =>
      simp only [stepOp, hev x (by simp [Op.operands])] at h ⊢
      split at h
      · rename_i s1 hs
        injection h with h; injection h with h1 h2; subst h1 h2
        obtain ⟨t', h3, h4⟩ := nextA_same (al := false) hn hG hs
        rw [h3]
        exact ⟨_, rfl, h4⟩
      · cases h
  case makeMap ty r =>
    cases r with
    | none =>
      simp only [stepOp] at h ⊢
      injection h with h; injection h with h1 h2; subst h1 h2
      refine ⟨_, rfl, ?_⟩
      have := SameEff.putG (al := false) hn (s.G ++ [.map []]) dst (.v (.map s.G.length))
      have e : ∀ o, t.addG o = t.inG (s.G ++ [o]) := fun o => by rw [hG]; rfl
      rw [e, ← hG]
      exact this
    | some _ => simp [stepOp] at h
  case call cl =>
    obtain ⟨callee, args, tys⟩ := cl
    cases callee with
    | builtin b =>
      have h1 : evL E s.slots args.toList = evL E t.slots args.toList := evL_congr fun y hy => hev y (by simp [Op.operands, Call.operands]; simpa using hy)
      simp only [stepOp, h1] at h ⊢
      split at h
      · (try simp only [*])
        obtain ⟨t', h3, h4⟩ := builtinA_same (al := false) hn hG h
        refine ⟨t', h3, ?_⟩
        have : (!isN (.call { callee := .builtin b, args := args, argTypes := tys })) = isWB b ∨ isWB b = false := by cases b <;> simp [isN, isWB]
        rcases this with this | this
        · rw [this]; exact h4
        · obtain ⟨pre, preB, G, p1, p2, p3⟩ := h4
          exact ⟨pre, preB, G, p1, fun _ => p2 this, p3⟩
      · cases h
    | _ => simp [stepOp] at h
  all_goals (simp [stepOp] at h)

end
end Go.Am
