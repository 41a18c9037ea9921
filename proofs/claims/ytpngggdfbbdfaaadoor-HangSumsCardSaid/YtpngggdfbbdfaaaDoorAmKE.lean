/- The abstract machine: what an operation does to a state is the same in a state that agrees with it. -/
import Derived.Test.YtpngggdfbbdfaaaDoorAmKD
import Derived.OrdersIn
set_option linter.all false
namespace Go.Am
open Go

/-- A state with more in its slots and boxes, and these objects. -/
def St.eff (s : St) (pre : Slots) (preB : Boxes) (G : List GO) : St := ⟨pre ++ s.slots, preB ++ s.boxes, G, s.marks, s.ro, s.n⟩

/-- What an operation puts ahead of the slots; whether it makes a box anew. -/
def Pre (al : Bool) (dst : Option Tmp) (pre : Slots) : Prop :=
  pre = [] ∨ ∃ d x, dst = some d ∧ (pre = [.put d x] ∨ (al = true ∧ pre = [.put d x, .kill d]))

/-- An operation does the same in both states. -/
def SameEff (al w : Bool) (dst : Option Tmp) (s t s' t' : St) : Prop :=
  ∃ pre preB G, Pre al dst pre ∧ (w = false → preB = [] ∧ G = s.G ∧ ∃ x, s' = s.put dst x ∧ t' = t.put dst x) ∧ s' = s.eff pre preB G ∧ t' = t.eff pre preB G

section
variable {E : Env} {s t : St} {o : Oper}

theorem put_eff (s : St) (d : Tmp) (x : SV) : s.put (some d) x = bif Nat.blt d s.n then s.eff [.put d x] [] s.G else s := by
  cases h : Nat.blt d s.n <;> simp [St.put, h, St.eff]

theorem eff_nil (s : St) : s.eff [] [] s.G = s := rfl

theorem SameEff.put {al w : Bool} (hn : s.n = t.n) (hG : s.G = t.G) (dst : Option Tmp) (x : SV) : SameEff al w dst s t (s.put dst x) (t.put dst x) := by
  cases dst with
  | none => exact ⟨[], [], s.G, .inl rfl, fun _ => ⟨rfl, rfl, x, rfl, rfl⟩, rfl, by rw [hG]; rfl⟩
  | some d =>
    have hx : ∃ y, s.put (some d) x = s.put (some d) y ∧ t.put (some d) x = t.put (some d) y := ⟨x, rfl, rfl⟩
    revert hx
    generalize hs : s.put (some d) x = s'
    generalize ht : t.put (some d) x = t'
    intro hx
    rw [put_eff] at hs ht
    rw [← hn] at ht
    revert hs ht
    cases Nat.blt d s.n with
    | true => exact fun hs ht => ⟨[.put d x], [], s.G, .inr ⟨d, x, rfl, .inl rfl⟩, fun _ => ⟨rfl, rfl, hx⟩, hs.symm, by rw [hG]; exact ht.symm⟩
    | false => exact fun hs ht => ⟨[], [], s.G, .inl rfl, fun _ => ⟨rfl, rfl, hx⟩, hs.symm, by rw [hG]; exact ht.symm⟩

theorem SameEff.putG {al : Bool} (hn : s.n = t.n) (G : List GO) (dst : Option Tmp) (x : SV) : SameEff al true dst s t ((s.inG G).put dst x) ((t.inG G).put dst x) := by
  cases dst with
  | none => exact ⟨[], [], G, .inl rfl, fun h => (by cases h), rfl, rfl⟩
  | some d =>
    rw [put_eff, put_eff, show (t.inG G).n = (s.inG G).n from hn.symm]
    cases Nat.blt d (s.inG G).n with
    | true => exact ⟨[.put d x], [], G, .inr ⟨d, x, rfl, .inl rfl⟩, fun h => (by cases h), rfl, rfl⟩
    | false => exact ⟨[], [], G, .inl rfl, fun h => (by cases h), rfl, rfl⟩

theorem SameEff.inG {al : Bool} (G : List GO) (dst : Option Tmp) : SameEff al true dst s t (s.inG G) (t.inG G) := ⟨[], [], G, .inl rfl, fun h => (by cases h), rfl, rfl⟩
theorem SameEff.inB {al : Bool} (hG : s.G = t.G) (dst : Option Tmp) (d : Nat) (cs : List AV) : SameEff al true dst s t (s.inB d cs) (t.inB d cs) :=
  ⟨[], [(d, cs)], s.G, .inl rfl, fun h => (by cases h), rfl, (by rw [hG]; rfl)⟩

theorem evL_congr {a b : Slots} : ∀ {l : List Operand}, (∀ y ∈ l, evO E a y = evO E b y) → evL E a l = evL E b l
  | [], _ => rfl
  | x :: l, h => by
    simp only [evL]
    rw [h x (by simp), evL_congr (l := l) (fun y hy => h y (by simp [hy]))]

theorem evP_congr {a b : Slots} : ∀ {l : List (Nat × Operand)}, (∀ p ∈ l, evO E a p.2 = evO E b p.2) → evP E a l = evP E b l
  | [], _ => rfl
  | (i, x) :: l, h => by
    simp only [evP]
    rw [h (i, x) (by simp), evP_congr (l := l) (fun y hy => h y (by simp [hy]))]

theorem cellsAt_congr (hG : s.G = t.G) (hB : lkB s.boxes = lkB t.boxes) (p : SV) : cellsAt s p = cellsAt t p := by
  unfold cellsAt
  rw [hG, hB]

theorem loadA_congr (hG : s.G = t.G) (hB : lkB s.boxes = lkB t.boxes) (ty : TypeId) (p : SV) : loadA E s ty p = loadA E t ty p := by
  unfold loadA
  rw [cellsAt_congr hG hB]

theorem copyA_congr (hG : s.G = t.G) (esz : Nat) (d x : AV) : copyA s esz d x = copyA t esz d x := by
  unfold copyA
  rw [hG]

theorem allocA_same {f : FuncId} {dst : Option Tmp} {cs : List AV} {c : Bool} {s' : St} (hn : s.n = t.n) (hG : s.G = t.G) (h : allocA E f s dst cs = some (c, s')) :
    ∃ t', allocA E f t dst cs = some (c, t') ∧ SameEff true true dst s t s' t' := by
  unfold allocA at *
  cases dst with
  | none => cases h
  | some d =>
    simp only at *
    split at h
    · rename_i hg
      injection h with h
      injection h with h1 h2
      subst h1 h2
      rw [if_pos hg]
      refine ⟨_, rfl, ?_⟩
      have := SameEff.putG (al := true) hn (s.G ++ [.row cs]) (some d) (.v (.ptr s.G.length 0))
      rw [hG] at this
      have e : s.addG (.row cs) = s.inG (t.G ++ [.row cs]) := by rw [← hG]; rfl
      rw [e, hG]
      exact this
    · rename_i hg
      rw [if_neg hg, ← hn]
      split at h
      · rename_i hb
        injection h with h
        injection h with h1 h2
        subst h1 h2
        refine ⟨_, rfl, [.put d (.lp d 0), .kill d], [(d, cs)], s.G, .inr ⟨d, _, rfl, .inr ⟨rfl, rfl⟩⟩, fun h => (by cases h), ?_, ?_⟩
        · simp [St.put, St.inB, St.kill, hb, St.eff]
        · simp only [St.put, St.inB, St.kill, ← hn, hb, St.eff, hG]
          rfl
      · cases h

theorem storeA_same {ty : TypeId} {p x : SV} {s' : St} {al : Bool} {dst : Option Tmp} (hG : s.G = t.G) (hB : lkB s.boxes = lkB t.boxes) (h : storeA E s ty p x = some s') :
    ∃ t', storeA E t ty p x = some t' ∧ SameEff al true dst s t s' t' := by
  unfold storeA at *
  split at h
  · split at h
    · rename_i hc
      rw [if_pos hc]
      split at h
      · rw [← hB]
        split at h
        · split at h
          · rename_i hc2
            cases h
            simp only [hc2, if_true]
            exact ⟨_, rfl, .inB hG _ _ _⟩
          · cases h
        · cases h
      · rw [← hG]
        split at h
        · split at h
          · rename_i hc2
            cases h
            simp only [hc2, if_true]
            exact ⟨_, rfl, .inG _ _⟩
          · cases h
        · cases h
      · cases h
    · cases h
  · cases h

def isAlloc : Op → Bool
  | .alloc _ => true
  | .box _ _ => true
  | _ => false

/-- Whether an operation changes slots alone. -/
def isN : Op → Bool
  | .move _ | .assign _ | .pick _ _ _ | .build _ _ | .buildSlice _ _ _ | .load _ _ | .binOp _ _ _ _ _ | .unOp _ _ _ | .convert _ _ _ | .makeFunc _ _ _ | .fieldAddr _ _ _ | .field _ _ _
  | .indexAddr _ _ _ | .index _ _ _ | .slice _ _ _ _ _ | .extract _ _ | .lookup _ _ _ _ => true
  | .call { callee := .builtin .len, .. } => true
  | .call { callee := .builtin .max, .. } => true
  | .call { callee := .builtin .min, .. } => true
  | _ => false

/-- Whether an operation reads memory. -/
def isR : Op → Bool
  | .load _ _ => true
  | .lookup _ _ _ _ => true
  | .call _ => true
  | _ => false

def isWB : Builtin → Bool
  | .append | .copy => true
  | _ => false

theorem builtinA_same {dst : Option Tmp} {b : Builtin} {l : List AV} {tys : List TypeId} {c : Bool} {s' : St} {al : Bool} (hn : s.n = t.n) (hG : s.G = t.G) (h : builtinA E s dst b l tys = some (c, s')) :
    ∃ t', builtinA E t dst b l tys = some (c, t') ∧ SameEff al (isWB b) dst s t s' t' := by
  obtain ⟨sl, bx, G, m, ro, n⟩ := s
  obtain ⟨sl', bx', G', m', ro', n'⟩ := t
  have hc := fun esz d x => copyA_congr (s := ⟨sl, bx, G, m, ro, n⟩) (t := ⟨sl', bx', G', m', ro', n'⟩) hG esz d x
  simp only at hn hG
  subst hn hG
  unfold builtinA at h ⊢
  simp only [← hc]
  cases b
  all_goals (try (cases h; done))
  all_goals (try simp only at h ⊢)
  all_goals (try (split at h <;> first | (cases h; done) | simp only at h ⊢))
  all_goals (repeat' (split at h))
  all_goals (first | (cases h; done) | skip)
  all_goals (injection h with h; injection h with h1 h2; subst h1 h2)
  all_goals (try simp only [if_true, *])
  all_goals (first | exact ⟨_, rfl, .put (by rfl) (by rfl) _ _⟩ | exact ⟨_, rfl, .putG (by rfl) _ _ _⟩)

theorem lookupA_congr (hG : s.G = t.G) (ty : TypeId) (m k : SV) : lookupA E s ty m k = lookupA E t ty m k := by
  have : mapOf s = mapOf t := by funext m; unfold mapOf; rw [hG]
  unfold lookupA
  rw [this]

theorem updateA_same {ty : TypeId} {m k x : SV} {s' : St} {al : Bool} {dst : Option Tmp} (hG : s.G = t.G) (h : updateA E s ty m k x = some s') :
    ∃ t', updateA E t ty m k x = some t' ∧ SameEff al true dst s t s' t' := by
  unfold updateA at *
  rw [← hG]
  repeat' (split at h)
  all_goals (first | (cases h; done) | skip)
  cases h
  simp only [*]
  exact ⟨_, rfl, .inG _ _⟩

theorem nextA_same {dst : Option Tmp} {x : SV} {s' : St} {al : Bool} (hn : s.n = t.n) (hG : s.G = t.G) (h : nextA s dst x = some s') :
    ∃ t', nextA t dst x = some t' ∧ SameEff al true dst s t s' t' := by
  unfold nextA at *
  rw [← hG]
  split at h
  · split at h
    · rename_i l pos hg
      cases hb : Nat.blt pos l.length with
      | true =>
        rw [hb] at h
        simp only [cond_true] at h ⊢
        cases h
        exact ⟨_, rfl, .putG hn _ _ _⟩
      | false =>
        rw [hb] at h
        simp only [cond_false] at h ⊢
        cases h
        obtain ⟨pre, preB, G, p1, p2, p3⟩ := SameEff.put (al := al) (w := true) hn hG dst (.v (.tup [.bool false]))
        exact ⟨_, rfl, pre, preB, G, p1, p2, p3⟩
    · cases h
  · cases h

theorem stepOp_same {f : FuncId} {c : Bool} {s' : St} (hn : s.n = t.n) (hG : s.G = t.G) (hB : lkB s.boxes = lkB t.boxes) (hev : ∀ y ∈ o.op.operands, evO E s.slots y = evO E t.slots y)
    (h : stepOp E f s o = some (c, s')) : ∃ t', stepOp E f t o = some (c, t') ∧ SameEff (isAlloc o.op) (!isN o.op) o.dst s t s' t' := by
  obtain ⟨dst, op, ty, pos, after, guard⟩ := o
  cases op
  case move x =>
    simp only [stepOp, hev x (by simp [Op.operands])] at h ⊢
    split at h
    all_goals (injection h with h; injection h with h1 h2; subst h1 h2; (try simp only [*]); exact ⟨_, rfl, .put hn hG _ _⟩)
  case assign x =>
    simp only [stepOp, hev x (by simp [Op.operands])] at h ⊢
    split at h
    all_goals (injection h with h; injection h with h1 h2; subst h1 h2; (try simp only [*]); exact ⟨_, rfl, .put hn hG _ _⟩)
  case pick x y z =>
    simp only [stepOp, hev x (by simp [Op.operands]), hev y (by simp [Op.operands]), hev z (by simp [Op.operands])] at h ⊢
    split at h
    · injection h with h; injection h with h1 h2; subst h1 h2; (try simp only [*]); exact ⟨_, rfl, .put hn hG _ _⟩
    · cases h
  case alloc e =>
    simp only [stepOp] at h ⊢
    repeat' (split at h)
    all_goals (first | (cases h; done) | skip)
    simp only [*]
    exact allocA_same hn hG h
  case box e x =>
    simp only [stepOp, hev x (by simp [Op.operands])] at h ⊢
    repeat' (split at h)
    all_goals (first | (cases h; done) | skip)
    simp only [*]
    exact allocA_same hn hG h
  case build ty ps =>
    have he : buildA E s ty ps.toList = buildA E t ty ps.toList := by
      unfold buildA
      rw [evP_congr (fun p hp => hev p.2 (by simp only [Op.operands, List.mem_toArray, List.mem_map]; exact ⟨p, hp, rfl⟩))]
    simp only [stepOp, he] at h ⊢
    split at h
    · injection h with h; injection h with h1 h2; subst h1 h2; (try simp only [*]); exact ⟨_, rfl, .put hn hG _ _⟩
    · cases h
  case buildSlice ty len ps =>
    have he : buildSliceA E s ty len ps.toList = buildSliceA E t ty len ps.toList := by
      unfold buildSliceA
      rw [evP_congr (fun p hp => hev p.2 (by simp only [Op.operands, List.mem_toArray, List.mem_map]; exact ⟨p, hp, rfl⟩))]
    simp only [stepOp, he] at h ⊢
    split at h
    · injection h with h; injection h with h1 h2; subst h1 h2; (try simp only [*]); exact ⟨_, rfl, .put hn hG _ _⟩
    · cases h
  case load ty x =>
    simp only [stepOp, hev x (by simp [Op.operands]), loadA_congr hG hB] at h ⊢
    split at h
    · injection h with h; injection h with h1 h2; subst h1 h2; (try simp only [*]); exact ⟨_, rfl, .put hn hG _ _⟩
    · cases h
  case store ty x y =>
    simp only [stepOp, hev x (by simp [Op.operands]), hev y (by simp [Op.operands])] at h ⊢
    split at h
    · rename_i s1 hs
      injection h with h; injection h with h1 h2; subst h1 h2
      obtain ⟨t', h3, h4⟩ := storeA_same (al := false) (dst := none) hG hB hs
      rw [h3]
      exact ⟨_, rfl, h4⟩
    · cases h
  case binOp op a x y b =>
    simp only [stepOp, hev x (by simp [Op.operands]), hev y (by simp [Op.operands])] at h ⊢
    repeat' (split at h)
    all_goals (first | (cases h; done) | skip)
    all_goals (injection h with h; injection h with h1 h2; subst h1 h2; (try simp only [*]); exact ⟨_, rfl, .put hn hG _ _⟩)
  case unOp op a x =>
    simp only [stepOp, hev x (by simp [Op.operands])] at h ⊢
    repeat' (split at h)
    all_goals (first | (cases h; done) | skip)
    all_goals (injection h with h; injection h with h1 h2; subst h1 h2; (try simp only [*]); exact ⟨_, rfl, .put hn hG _ _⟩)
  case convert a b x =>
    simp only [stepOp, hev x (by simp [Op.operands])] at h ⊢
    repeat' (split at h)
    all_goals (first | (cases h; done) | skip)
    all_goals (injection h with h; injection h with h1 h2; subst h1 h2; (try simp only [*]); exact ⟨_, rfl, .put hn hG _ _⟩)
  case makeFunc fo a b =>
    cases fo with
    | func g =>
      have h1 : evL E s.slots a.toList = evL E t.slots a.toList := evL_congr fun y hy => hev y (by simp only [Op.operands, Array.mem_append]; exact .inl (by simpa using hy))
      have h2 : evL E s.slots b.toList = evL E t.slots b.toList := evL_congr fun y hy => hev y (by simp only [Op.operands, Array.mem_append]; exact .inr (by simpa using hy))
      simp only [stepOp, h1, h2] at h ⊢
      repeat' (split at h)
      all_goals (first | (cases h; done) | skip)
      all_goals (injection h with h; injection h with h1 h2; subst h1 h2; (try simp only [*]); exact ⟨_, rfl, .put hn hG _ _⟩)
    | _ => simp [stepOp] at h
  case fieldAddr a x j =>
    simp only [stepOp, hev x (by simp [Op.operands])] at h ⊢
    repeat' (split at h)
    all_goals (first | (cases h; done) | skip)
    all_goals (injection h with h; injection h with h1 h2; subst h1 h2; (try simp only [*]); exact ⟨_, rfl, .put hn hG _ _⟩)
  case field a x j =>
    simp only [stepOp, hev x (by simp [Op.operands])] at h ⊢
    repeat' (split at h)
    all_goals (first | (cases h; done) | skip)
    all_goals (injection h with h; injection h with h1 h2; subst h1 h2; (try simp only [*]); exact ⟨_, rfl, .put hn hG _ _⟩)
  case indexAddr a x y =>
    simp only [stepOp, hev x (by simp [Op.operands]), hev y (by simp [Op.operands])] at h ⊢
    repeat' (split at h)
    all_goals (first | (cases h; done) | skip)
    all_goals (injection h with h; injection h with h1 h2; subst h1 h2; (try simp only [*]); exact ⟨_, rfl, .put hn hG _ _⟩)
  case index a x y =>
    simp only [stepOp, hev x (by simp [Op.operands]), hev y (by simp [Op.operands])] at h ⊢
    repeat' (split at h)
    all_goals (first | (cases h; done) | skip)
    all_goals (injection h with h; injection h with h1 h2; subst h1 h2; (try simp only [*]); exact ⟨_, rfl, .put hn hG _ _⟩)
  case slice a x lo hi mx =>
    have h1 : optO E s.slots lo = optO E t.slots lo := by
      cases lo with
      | none => rfl
      | some y => simp only [optO]; rw [hev y (by simp [Op.operands])]
    have h2 : optO E s.slots hi = optO E t.slots hi := by
      cases hi with
      | none => rfl
      | some y => simp only [optO]; rw [hev y (by simp [Op.operands])]
    simp only [stepOp, hev x (by simp [Op.operands]), h1, h2] at h ⊢
    repeat' (split at h)
    all_goals (first | (cases h; done) | skip)
    all_goals (injection h with h; injection h with h1 h2; subst h1 h2; (try simp only [*]); exact ⟨_, rfl, .put hn hG _ _⟩)
  case extract x i =>
    simp only [stepOp, hev x (by simp [Op.operands])] at h ⊢
    repeat' (split at h)
    all_goals (first | (cases h; done) | skip)
    all_goals (injection h with h; injection h with h1 h2; subst h1 h2; (try simp only [*]); exact ⟨_, rfl, .put hn hG _ _⟩)
  case makeSlice ty x y =>
    simp only [stepOp, hev x (by simp [Op.operands]), hev y (by simp [Op.operands])] at h ⊢
    repeat' (split at h)
    all_goals (first | (cases h; done) | skip)
    injection h with h; injection h with h1 h2; subst h1 h2
    simp only [*]
    refine ⟨_, rfl, ?_⟩
    have e : ∀ o, t.addG o = t.inG (s.G ++ [o]) := fun o => by rw [hG]; rfl
    rw [e, ← hG]
    exact SameEff.putG (al := false) hn _ dst _
  case lookup ty x y ok =>
    simp only [stepOp, hev x (by simp [Op.operands]), hev y (by simp [Op.operands]), lookupA_congr hG] at h ⊢
    split at h
    · injection h with h; injection h with h1 h2; subst h1 h2; (try simp only [*]); exact ⟨_, rfl, .put hn hG _ _⟩
    · cases h
  case mapUpdate ty x y z =>
    simp only [stepOp, hev x (by simp [Op.operands]), hev y (by simp [Op.operands]), hev z (by simp [Op.operands])] at h ⊢
    split at h
    · rename_i s1 hs
      injection h with h; injection h with h1 h2; subst h1 h2
      obtain ⟨t', h3, h4⟩ := updateA_same (al := false) (dst := none) hG hs
      rw [h3]
      exact ⟨_, rfl, h4⟩
    · cases h
  case range ty x =>
    simp only [stepOp, hev x (by simp [Op.operands])] at h ⊢
    repeat' (split at h)
    all_goals (first | (cases h; done) | skip)
    injection h with h; injection h with h1 h2; subst h1 h2
    (try simp only [*])
    refine ⟨_, rfl, ?_⟩
    have e : ∀ o, t.addG o = t.inG (s.G ++ [o]) := fun o => by rw [hG]; rfl
    rw [e, ← hG]
    exact SameEff.putG (al := false) hn _ dst _
  case next x b =>
    cases b with
    | false => simp [stepOp] at h
    | true =>
      simp only [stepOp, hev x (by simp [Op.operands])] at h ⊢
      split at h
      · rename_i s1 hs
        injection h with h; injection h with h1 h2; subst h1 h2
        obtain ⟨t', h3, h4⟩ := nextA_same (al := false) hn hG hs
        rw [h3]
        exact ⟨_, rfl, h4⟩
      · cases h
  case makeMap ty r =>
    cases r with
    | none =>
      simp only [stepOp] at h ⊢
      injection h with h; injection h with h1 h2; subst h1 h2
      refine ⟨_, rfl, ?_⟩
      have := SameEff.putG (al := false) hn (s.G ++ [.map []]) dst (.v (.map s.G.length))
      have e : ∀ o, t.addG o = t.inG (s.G ++ [o]) := fun o => by rw [hG]; rfl
      rw [e, ← hG]
      exact this
    | some _ => simp [stepOp] at h
  case call cl =>
    obtain ⟨callee, args, tys⟩ := cl
    cases callee with
    | builtin b =>
      have h1 : evL E s.slots args.toList = evL E t.slots args.toList := evL_congr fun y hy => hev y (by simp [Op.operands, Call.operands]; simpa using hy)
      simp only [stepOp, h1] at h ⊢
      split at h
      · (try simp only [*])
        obtain ⟨t', h3, h4⟩ := builtinA_same (al := false) hn hG h
        refine ⟨t', h3, ?_⟩
        have : (!isN (.call { callee := .builtin b, args := args, argTypes := tys })) = isWB b ∨ isWB b = false := by cases b <;> simp [isN, isWB]
        rcases this with this | this
        · rw [this]; exact h4
        · obtain ⟨pre, preB, G, p1, p2, p3⟩ := h4
          exact ⟨pre, preB, G, p1, fun _ => p2 this, p3⟩
      · cases h
    | _ => simp [stepOp] at h
  all_goals (simp [stepOp] at h)

end
end Go.Am
namespace Go.Am
open Go

/-- Two states that answer alike. -/
structure Eqv (s t : St) : Prop where
  l : lk s.slots = lk t.slots
  b : lkB s.boxes = lkB t.boxes
  G : s.G = t.G
  m : s.marks = t.marks
  ro : s.ro = t.ro
  n : s.n = t.n

theorem Eqv.refl (s : St) : Eqv s s := ⟨rfl, rfl, rfl, rfl, rfl, rfl⟩
theorem Eqv.symm {s t : St} (h : Eqv s t) : Eqv t s := ⟨h.l.symm, h.b.symm, h.G.symm, h.m.symm, h.ro.symm, h.n.symm⟩
theorem Eqv.trans {s t u : St} (h : Eqv s t) (k : Eqv t u) : Eqv s u := ⟨h.l.trans k.l, h.b.trans k.b, h.G.trans k.G, h.m.trans k.m, h.ro.trans k.ro, h.n.trans k.n⟩

/-- A lookup behind more entries hangs on the lookup at this place alone. -/
theorem lk_append {a b : Slots} {e : Nat} (h : lk a e = lk b e) : ∀ pre : Slots, lk (pre ++ a) e = lk (pre ++ b) e
  | [] => h
  | .put d x :: pre => by
    simp only [List.cons_append, lk]
    rw [lk_append h pre]
  | .kill d :: pre => by
    simp only [List.cons_append, lk]
    rw [lk_append h pre]

theorem lkB_append {a b : Boxes} {e : Nat} (h : lkB a e = lkB b e) : ∀ pre : Boxes, lkB (pre ++ a) e = lkB (pre ++ b) e
  | [] => h
  | (d, x) :: pre => by
    simp only [List.cons_append, lkB]
    rw [lkB_append h pre]

theorem Eqv.eff {s t : St} (h : Eqv s t) (pre : Slots) (preB : Boxes) (G : List GO) : Eqv (s.eff pre preB G) (t.eff pre preB G) :=
  ⟨funext fun e => lk_append (by rw [h.l]) pre, funext fun e => lkB_append (by rw [h.b]) preB, rfl, h.m, h.ro, h.n⟩

theorem evO_lk {E : Env} {a b : Slots} {x : Operand} (h : ∀ t, x = .tmp t → lk a t = lk b t) : evO E a x = evO E b x := by
  cases x with
  | tmp t => exact h t rfl
  | _ => rfl

theorem Eqv.evO {E : Env} {s t : St} (h : Eqv s t) (x : Operand) : evO E s.slots x = evO E t.slots x := evO_lk fun e _ => by rw [h.l]

section rep
variable {E : Env} {R : Realm} {w : World} {β : Nat → Nat} {s t : St} {a : Act}

theorem Rep.eqv (h : Rep E R w β s a) (e : Eqv s t) : Rep E R w β t a where
  g := by rw [← e.G]; exact h.g
  b := ⟨fun k cs hk => h.b.box k cs (by rw [e.b]; exact hk), fun k k' c c' h1 h2 => h.b.inj k k' c c' (by rw [e.b]; exact h1) (by rw [e.b]; exact h2)⟩
  t := fun i hi => by
    rw [← e.l] at hi ⊢
    exact h.t i hi
  n := by rw [← e.n]; exact h.n
  d := by rw [← e.m]; exact h.d

theorem own_eqv {bx bx' : Boxes} (h : lkB bx = lkB bx') {b : Nat} (k : Own R β bx b) : Own R β bx' b := by
  rcases k with k | ⟨j, cs, h1, h2⟩
  · exact .inl k
  · exact .inr ⟨j, cs, by rw [← h]; exact h1, h2⟩

theorem Step.eqv {R' : Realm} {w' : World} {β' : Nat → Nat} {bx bx' cx cx' : Boxes} (h : Step R w β bx R' w' β' bx') (h1 : lkB bx = lkB cx) (h2 : lkB bx' = lkB cx') : Step R w β cx R' w' β' cx' :=
  ⟨h.ext, h.os, h.tape, h.output, h.size, fun b hb hn => h.keep b hb (fun ho => hn (own_eqv h1 ho)), fun b hb ho => own_eqv h1 (h.own b hb (own_eqv h2.symm ho)), fun b o hi hb hn => h.im b o hi hb (fun ho => hn (own_eqv h1 ho))⟩
end rep

section ops
variable {E : Env} {s t : St} {f : FuncId} {o : Oper} {K K' : St → Prop}

/-- Postconditions that ask for lookups alone. -/
def Inv (K : St → Prop) : Prop := ∀ s t, Eqv s t → K s → K t

theorem isN_noAlloc {op : Op} (h : isN op = true) : isAlloc op = false := by
  cases op <;> simp_all [isN, isAlloc]

theorem awOp_same (hn : s.n = t.n) (hG : s.G = t.G) (hB : lkB s.boxes = lkB t.boxes) (hev : ∀ y ∈ o.op.operands, evO E s.slots y = evO E t.slots y) (h : awOp E f o K s)
    (hK : ∀ pre preB G, Pre (isAlloc o.op) o.dst pre → (isN o.op = true → preB = [] ∧ G = s.G) → K (s.eff pre preB G) → K' (t.eff pre preB G)) : awOp E f o K' t := by
  unfold awOp at h ⊢
  split at h
  · rename_i x args tys ho
    have h1 : evO E s.slots x = evO E t.slots x := hev x (by rw [ho]; simp [Op.operands, Call.operands])
    have h2 : evL E s.slots args.toList = evL E t.slots args.toList := evL_congr fun y hy => hev y (by rw [ho]; simp [Op.operands, Call.operands]; exact .inr (by simpa using hy))
    try simp only [ho]
    rw [← h1, ← h2, ← hG]
    split at h
    · refine ACalls.mono h fun r G' hk => ?_
      obtain ⟨pre, preB, G, p1, p2, p3, p4⟩ := SameEff.putG (s := s) (t := t) (al := isAlloc o.op) hn G' o.dst (.v r)
      rw [p3] at hk
      rw [p4]
      exact hK pre preB G p1 (fun e => by rw [ho] at e; simp [isN] at e) hk
    · refine ARound.mono h fun r G' hk => ?_
      obtain ⟨pre, preB, G, p1, p2, p3, p4⟩ := SameEff.putG (s := s) (t := t) (al := isAlloc o.op) hn G' o.dst (.v (.bool r))
      rw [p3] at hk
      rw [p4]
      exact hK pre preB G p1 (fun e => by rw [ho] at e; simp [isN] at e) hk
    · exact h.elim
  · exact h.elim
  · split at h
    · rename_i c s' hs
      obtain ⟨t', h1, pre, preB, G, p1, p2, p3, p4⟩ := stepOp_same hn hG hB hev hs
      rw [h1]
      obtain ⟨rfl, hk⟩ := h.out
      refine condP.mk rfl ?_
      rw [p3] at hk
      rw [p4]
      exact hK pre preB G p1 (fun e => ⟨(p2 (by simp [e])).1, (p2 (by simp [e])).2.1⟩) hk
    · exact h.elim

theorem awOp_mono (h : awOp E f o K s) (hK : ∀ s, K s → K' s) : awOp E f o K' s :=
  awOp_same rfl rfl rfl (fun _ _ => rfl) h fun _ _ _ _ _ hk => hK _ hk

theorem awOp_eqv (h : awOp E f o K s) (e : Eqv s t) (hK : Inv K) : awOp E f o K t :=
  awOp_same e.n e.G e.b (fun y _ => e.evO y) h fun _ _ _ _ _ hk => hK _ _ (e.eff _ _ _) hk

/-- A guard's answer. -/
def gst (ops : List Oper) (s : St) (o : Oper) : Option Bool := match o.guard with
  | none => some true
  | some (j, want) => match dstOf ops j with
    | some d => match lk s.slots d with
      | .v (.bool b) => some (b == want)
      | .v (.tup []) => some false
      | _ => none
    | none => none

theorem put_same (s : St) {d : Tmp} {x : SV} (h : lk s.slots d = x) : Eqv s (s.put (some d) x) := by
  simp only [St.put]
  split
  · refine ⟨funext fun e => ?_, rfl, rfl, rfl, rfl, rfl⟩
    by_cases k : d = e
    · subst k; rw [lk_put_self]; exact h
    · rw [lk_put_ne k]
  · exact Eqv.refl s

theorem Eqv.put {s t : St} (h : Eqv s t) (d : Option Tmp) (x : SV) : Eqv (s.put d x) (t.put d x) := by
  obtain ⟨pre, preB, G, _, _, p3, p4⟩ := SameEff.put (s := s) (t := t) (al := false) (w := false) h.n h.G d x
  rw [p3, p4]
  exact h.eff _ _ _

theorem awGuard_iff {ops : List Oper} (hK : Inv K) : awGuard E f ops o K s ↔ (gst ops s o = some true ∧ awOp E f o K s) ∨ (gst ops s o = some false ∧ K (s.put o.dst (.v undefA))) := by
  unfold awGuard gst
  cases hg : o.guard with
  | none => simp
  | some p =>
    obtain ⟨j, want⟩ := p
    simp only
    cases hd : dstOf ops j with
    | none => simp
    | some d =>
      simp only
      cases hl : lk s.slots d with
      | none => simp
      | lp _ _ => simp
      | v a =>
        cases a with
        | bool b =>
          have e1 : b = want → Eqv s (s.put (some d) (.v (.bool want))) := fun e => put_same s (by rw [hl, e])
          have e2 : b = (!want) → Eqv s (s.put (some d) (.v (.bool (!want)))) := fun e => put_same s (by rw [hl, e])
          constructor
          · intro ⟨h1, h2⟩
            by_cases e : b = want
            · exact .inl ⟨by simp [e], awOp_eqv (h1 e) (e1 e).symm hK⟩
            · have e' : b = (!want) := by cases b <;> cases want <;> simp_all
              exact .inr ⟨by simp [e], hK _ _ ((e2 e').symm.put _ _) (h2 e')⟩
          · rintro (⟨h1, h2⟩ | ⟨h1, h2⟩)
            · have e : b = want := by simpa using h1
              exact ⟨fun e => awOp_eqv h2 (e1 e) hK, fun e' => by subst e; cases b <;> cases e'⟩
            · have e : ¬ b = want := by simpa using h1
              exact ⟨fun k => absurd k e, fun e' => hK _ _ ((e2 e').put _ _) h2⟩
        | tup vs => cases vs <;> simp
        | _ => simp

theorem awGuard_mono {ops : List Oper} (h : awGuard E f ops o K s) (hK : ∀ s, K s → K' s) : awGuard E f ops o K' s := by
  unfold awGuard at h ⊢
  split at h
  · exact awOp_mono h hK
  · split at h
    · exact h.elim
    · split at h
      · exact ⟨fun e => awOp_mono (h.1 e) hK, fun e => hK _ (h.2 e)⟩
      · exact hK _ h
      · exact h.elim

theorem gst_eqv {ops : List Oper} (e : Eqv s t) : gst ops s o = gst ops t o := by
  unfold gst
  rw [e.l]

theorem awGuard_eqv {ops : List Oper} (hK : Inv K) : Inv (awGuard E f ops o K) := fun s t e h => by
  rw [awGuard_iff hK] at h ⊢
  rcases h with ⟨h1, h2⟩ | ⟨h1, h2⟩
  · exact .inl ⟨by rw [← gst_eqv e]; exact h1, awOp_eqv h2 e hK⟩
  · exact .inr ⟨by rw [← gst_eqv e]; exact h1, hK _ _ (e.put _ _) h2⟩

end ops
end Go.Am
namespace Go.Am
open Go

def SameS (dst : Option Tmp) (s t s' t' : St) : Prop := ∃ x, s' = s.put dst x ∧ t' = t.put dst x

section
variable {E : Env} {s t : St} {o : Oper}

theorem SameS.put (_ : s.n = t.n) (dst : Option Tmp) (x : SV) : SameS dst s t (s.put dst x) (t.put dst x) := ⟨x, rfl, rfl⟩

theorem stepOp_slot {f : FuncId} {c : Bool} {s' : St} (hN : isN o.op = true) (hR : isR o.op = false) (hn : s.n = t.n) (hev : ∀ y ∈ o.op.operands, evO E s.slots y = evO E t.slots y)
    (h : stepOp E f s o = some (c, s')) : ∃ t', stepOp E f t o = some (c, t') ∧ SameS o.dst s t s' t' := by
  obtain ⟨dst, op, ty, pos, after, guard⟩ := o
  cases op
  case move x =>
    simp only [stepOp, hev x (by simp [Op.operands])] at h ⊢
    split at h
    all_goals (injection h with h; injection h with h1 h2; subst h1 h2; (try simp only [*]); exact ⟨_, rfl, .put hn _ _⟩)
  case assign x =>
    simp only [stepOp, hev x (by simp [Op.operands])] at h ⊢
    split at h
    all_goals (injection h with h; injection h with h1 h2; subst h1 h2; (try simp only [*]); exact ⟨_, rfl, .put hn _ _⟩)
  case pick x y z =>
    simp only [stepOp, hev x (by simp [Op.operands]), hev y (by simp [Op.operands]), hev z (by simp [Op.operands])] at h ⊢
    split at h
    · injection h with h; injection h with h1 h2; subst h1 h2; (try simp only [*]); exact ⟨_, rfl, .put hn _ _⟩
    · cases h
  case build ty ps =>
    have he : buildA E s ty ps.toList = buildA E t ty ps.toList := by
      unfold buildA
      rw [evP_congr (fun p hp => hev p.2 (by simp only [Op.operands, List.mem_toArray, List.mem_map]; exact ⟨p, hp, rfl⟩))]
    simp only [stepOp, he] at h ⊢
    split at h
    · injection h with h; injection h with h1 h2; subst h1 h2; (try simp only [*]); exact ⟨_, rfl, .put hn _ _⟩
    · cases h
  case buildSlice ty len ps =>
    have he : buildSliceA E s ty len ps.toList = buildSliceA E t ty len ps.toList := by
      unfold buildSliceA
      rw [evP_congr (fun p hp => hev p.2 (by simp only [Op.operands, List.mem_toArray, List.mem_map]; exact ⟨p, hp, rfl⟩))]
    simp only [stepOp, he] at h ⊢
    split at h
    · injection h with h; injection h with h1 h2; subst h1 h2; (try simp only [*]); exact ⟨_, rfl, .put hn _ _⟩
    · cases h
  case binOp op a x y b =>
    simp only [stepOp, hev x (by simp [Op.operands]), hev y (by simp [Op.operands])] at h ⊢
    repeat' (split at h)
    all_goals (first | (cases h; done) | skip)
    all_goals (injection h with h; injection h with h1 h2; subst h1 h2; (try simp only [*]); exact ⟨_, rfl, .put hn _ _⟩)
  case unOp op a x =>
    simp only [stepOp, hev x (by simp [Op.operands])] at h ⊢
    repeat' (split at h)
    all_goals (first | (cases h; done) | skip)
    all_goals (injection h with h; injection h with h1 h2; subst h1 h2; (try simp only [*]); exact ⟨_, rfl, .put hn _ _⟩)
  case convert a b x =>
    simp only [stepOp, hev x (by simp [Op.operands])] at h ⊢
    repeat' (split at h)
    all_goals (first | (cases h; done) | skip)
    all_goals (injection h with h; injection h with h1 h2; subst h1 h2; (try simp only [*]); exact ⟨_, rfl, .put hn _ _⟩)
  case makeFunc fo a b =>
    cases fo with
    | func g =>
      have h1 : evL E s.slots a.toList = evL E t.slots a.toList := evL_congr fun y hy => hev y (by simp only [Op.operands, Array.mem_append]; exact .inl (by simpa using hy))
      have h2 : evL E s.slots b.toList = evL E t.slots b.toList := evL_congr fun y hy => hev y (by simp only [Op.operands, Array.mem_append]; exact .inr (by simpa using hy))
      simp only [stepOp, h1, h2] at h ⊢
      repeat' (split at h)
      all_goals (first | (cases h; done) | skip)
      all_goals (injection h with h; injection h with h1 h2; subst h1 h2; (try simp only [*]); exact ⟨_, rfl, .put hn _ _⟩)
    | _ => simp [stepOp] at h
  case fieldAddr a x j =>
    simp only [stepOp, hev x (by simp [Op.operands])] at h ⊢
    repeat' (split at h)
    all_goals (first | (cases h; done) | skip)
    all_goals (injection h with h; injection h with h1 h2; subst h1 h2; (try simp only [*]); exact ⟨_, rfl, .put hn _ _⟩)
  case field a x j =>
    simp only [stepOp, hev x (by simp [Op.operands])] at h ⊢
    repeat' (split at h)
    all_goals (first | (cases h; done) | skip)
    all_goals (injection h with h; injection h with h1 h2; subst h1 h2; (try simp only [*]); exact ⟨_, rfl, .put hn _ _⟩)
  case indexAddr a x y =>
    simp only [stepOp, hev x (by simp [Op.operands]), hev y (by simp [Op.operands])] at h ⊢
    repeat' (split at h)
    all_goals (first | (cases h; done) | skip)
    all_goals (injection h with h; injection h with h1 h2; subst h1 h2; (try simp only [*]); exact ⟨_, rfl, .put hn _ _⟩)
  case index a x y =>
    simp only [stepOp, hev x (by simp [Op.operands]), hev y (by simp [Op.operands])] at h ⊢
    repeat' (split at h)
    all_goals (first | (cases h; done) | skip)
    all_goals (injection h with h; injection h with h1 h2; subst h1 h2; (try simp only [*]); exact ⟨_, rfl, .put hn _ _⟩)
  case slice a x lo hi mx =>
    have h1 : optO E s.slots lo = optO E t.slots lo := by
      cases lo with
      | none => rfl
      | some y => simp only [optO]; rw [hev y (by simp [Op.operands])]
    have h2 : optO E s.slots hi = optO E t.slots hi := by
      cases hi with
      | none => rfl
      | some y => simp only [optO]; rw [hev y (by simp [Op.operands])]
    simp only [stepOp, hev x (by simp [Op.operands]), h1, h2] at h ⊢
    repeat' (split at h)
    all_goals (first | (cases h; done) | skip)
    all_goals (injection h with h; injection h with h1 h2; subst h1 h2; (try simp only [*]); exact ⟨_, rfl, .put hn _ _⟩)
  case extract x i =>
    simp only [stepOp, hev x (by simp [Op.operands])] at h ⊢
    repeat' (split at h)
    all_goals (first | (cases h; done) | skip)
    all_goals (injection h with h; injection h with h1 h2; subst h1 h2; (try simp only [*]); exact ⟨_, rfl, .put hn _ _⟩)
  all_goals (first | (simp [isN] at hN; done) | (simp [isR] at hR; done))

end
end Go.Am
namespace Go.Am
open Go

section
variable {E : Env} {s t : St} {f : FuncId} {ops : Array Oper} {o oj oi : Oper} {d : Tmp} {x : SV} {K : St → Prop}

theorem dstOf_eq (ops : Array Oper) (j : Nat) : dstOf ops.toList j = (ops[j]?).bind (·.dst) := by
  unfold dstOf
  rw [nth_eq, Array.getElem?_toList]
  cases ops[j]? <;> rfl

theorem mem_looks_op {e : Tmp} (h : .tmp e ∈ o.op.operands) : e ∈ o.looksAt ops :=
  List.mem_append_left _ (List.mem_filterMap.2 ⟨.tmp e, by simpa using h, rfl⟩)

theorem mem_looks_guard {j : Nat} {want : Bool} {e : Tmp} (h : o.guard = some (j, want)) (he : dstOf ops.toList j = some e) : e ∈ o.looksAt ops := by
  rw [dstOf_eq] at he
  refine List.mem_append_right _ ?_
  rw [h]
  simp [he]

/-- The operands are the same where the slots that the operation looks at are. -/
theorem ev_looks (h : ∀ e ∈ o.looksAt ops, lk s.slots e = lk t.slots e) : ∀ y ∈ o.op.operands, evO E s.slots y = evO E t.slots y := fun _ hy =>
  evO_lk fun e he => h e (mem_looks_op (he ▸ hy))

theorem gst_looks (h : ∀ e ∈ o.looksAt ops, lk s.slots e = lk t.slots e) : gst ops.toList s o = gst ops.toList t o := by
  unfold gst
  split
  · rfl
  · rename_i j want hg
    split
    · rename_i e he
      rw [h e (mem_looks_guard hg he)]
    · rfl

theorem lk_putS (s : St) (d : Tmp) (x : SV) {e : Nat} (h : d ≠ e) : lk (s.put (some d) x).slots e = lk s.slots e := by
  simp only [St.put]
  split
  · exact lk_put_ne h
  · rfl

theorem boxes_putS (s : St) (d : Option Tmp) (x : SV) : (s.put d x).boxes = s.boxes ∧ (s.put d x).G = s.G ∧ (s.put d x).n = s.n ∧ (s.put d x).marks = s.marks ∧ (s.put d x).ro = s.ro := by
  cases d with
  | none => exact ⟨rfl, rfl, rfl, rfl, rfl⟩
  | some d =>
    simp only [St.put]
    split <;> exact ⟨rfl, rfl, rfl, rfl, rfl⟩

/-- What an operation that changes slots alone has come to. -/
def NExec (E : Env) (f : FuncId) (ops : Array Oper) (o : Oper) (s : St) (x : SV) : Prop :=
  (gst ops.toList s o = some true ∧ stepOp E f s o = some (true, s.put o.dst x)) ∨ (gst ops.toList s o = some false ∧ x = .v undefA)

theorem stepOp_N {c : Bool} {s' : St} (hN : isN o.op = true) (h : stepOp E f s o = some (c, s')) : ∃ x, s' = s.put o.dst x := by
  obtain ⟨t', _, pre, preB, G, _, h2, _, _⟩ := stepOp_same (t := s) rfl rfl rfl (fun _ _ => rfl) h
  obtain ⟨_, _, x, hx, _⟩ := h2 (by simp [hN])
  exact ⟨x, hx⟩

theorem awOp_N (hN : isN o.op = true) : awOp E f o K s ↔ ∃ s', stepOp E f s o = some (true, s') ∧ K s' := by
  unfold awOp
  split
  · rename_i h
    rw [h] at hN
    simp [isN] at hN
  · rename_i h
    rw [h] at hN
    simp [isN] at hN
  · split
    · rename_i c s' hs
      constructor
      · intro h
        obtain ⟨rfl, hk⟩ := h.out
        exact ⟨s', hs, hk⟩
      · rintro ⟨s'', h1, h2⟩
        rw [hs] at h1
        cases h1
        exact condP.mk rfl h2
    · rename_i hs
      constructor
      · exact fun h => h.elim
      · rintro ⟨s'', h1, _⟩
        rw [hs] at h1
        cases h1

theorem nexec_of_guard (hN : isN o.op = true) (hK : Inv K) (h : awGuard E f ops.toList o K s) : ∃ x, NExec E f ops o s x ∧ K (s.put o.dst x) := by
  rcases (awGuard_iff hK).1 h with ⟨h1, h2⟩ | ⟨h1, h2⟩
  · obtain ⟨s', h3, h4⟩ := (awOp_N hN).1 h2
    obtain ⟨x, rfl⟩ := stepOp_N hN h3
    exact ⟨x, .inl ⟨h1, h3⟩, h4⟩
  · exact ⟨_, .inr ⟨h1, rfl⟩, h2⟩

theorem guard_of_nexec (hN : isN o.op = true) (hK : Inv K) (hx : NExec E f ops o s x) (h : K (s.put o.dst x)) : awGuard E f ops.toList o K s := by
  rw [awGuard_iff hK]
  rcases hx with ⟨h1, h2⟩ | ⟨h1, rfl⟩
  · exact .inl ⟨h1, (awOp_N hN).2 ⟨_, h2, h⟩⟩
  · exact .inr ⟨h1, h⟩

theorem nexec_eqv (hN : isN o.op = true) (hx : NExec E f ops o s x) (e : Eqv s t) : NExec E f ops o t x ∨ ∃ y, NExec E f ops o t y ∧ s.put o.dst x = s.put o.dst y := by
  rcases hx with ⟨h1, h2⟩ | ⟨h1, rfl⟩
  · obtain ⟨t', h3, pre, preB, G, _, h4, _, _⟩ := stepOp_same e.n e.G e.b (fun y _ => e.evO y) h2
    obtain ⟨_, _, y, h5, h6⟩ := h4 (by simp [hN])
    rw [h6] at h3
    exact .inr ⟨y, .inl ⟨by rw [← gst_eqv e]; exact h1, h3⟩, h5⟩
  · exact .inl (.inr ⟨by rw [← gst_eqv e]; exact h1, rfl⟩)

/-- Carried out once more, the operation leaves its slot as it is. -/
def reG (E : Env) (f : FuncId) (ops : List Oper) (o : Oper) (s : St) : Prop := match gst ops s o with
  | some true => match o.dst, stepOp E f s o with
    | some d, some (c, s') => c = true ∧ lk s'.slots d = lk s.slots d
    | _, _ => False
  | some false => True
  | none => False

/-- States that differ in one slot that the operation has nothing to do with. -/
theorem reG_off (hN : isN o.op = true) (hd : d ∉ o.looksAt ops) (hne : o.dst ≠ some d) (he : ∀ e, d ≠ e → lk s.slots e = lk t.slots e) (hB : lkB s.boxes = lkB t.boxes) (hG : s.G = t.G) (hn : s.n = t.n)
    (h : reG E f ops.toList o s) : reG E f ops.toList o t := by
  have hl : ∀ e ∈ o.looksAt ops, lk s.slots e = lk t.slots e := fun e hm => he e fun k => hd (k ▸ hm)
  unfold reG at h ⊢
  rw [← gst_looks hl]
  split
  · rename_i hg
    rw [hg] at h
    simp only at h
    split at h
    · rename_i e c s' hdst hs
      obtain ⟨t', h3, pre, preB, G, _, h4, _, _⟩ := stepOp_same hn hG hB (ev_looks hl) hs
      obtain ⟨_, _, y, h5, h6⟩ := h4 (by simp [hN])
      rw [hdst, h3]
      refine ⟨h.1, ?_⟩
      have hde : d ≠ e := fun k => hne (by rw [hdst, k])
      have h7 := h.2
      rw [h5, hdst] at h7
      rw [h6, hdst, ← he e hde]
      simp only [St.put, ← hn] at h7 ⊢
      split
      · rename_i hb
        rw [hb] at h7
        simp only [lk_put_self] at h7 ⊢
        exact h7
      · exact (he e hde).symm
    · exact h.elim
  · trivial
  · rename_i hg
    rw [hg] at h
    exact h

theorem reG_eqv (hN : isN o.op = true) (e : Eqv s t) (h : reG E f ops.toList o s) : reG E f ops.toList o t := by
  unfold reG at h ⊢
  rw [← gst_eqv e]
  split
  · rename_i hg
    rw [hg] at h
    simp only at h
    split at h
    · rename_i d c s' hdst hs
      obtain ⟨t', h3, pre, preB, G, _, h4, _, _⟩ := stepOp_same e.n e.G e.b (fun y _ => e.evO y) hs
      obtain ⟨_, _, y, h5, h6⟩ := h4 (by simp [hN])
      rw [hdst, h3]
      refine ⟨h.1, ?_⟩
      rw [h6, ← (e.put o.dst y).l, ← h5, ← e.l]
      exact h.2
    · exact h.elim
  · trivial
  · rename_i hg
    rw [hg] at h
    exact h

/-- Whether the one operation's carrying out may turn what the other one has come to. -/
def disturbs (oj oi : Oper) : Bool := isAlloc oi.op || (isR oj.op && !isN oi.op)

theorem lk_pre {al : Bool} {dst : Option Tmp} {pre : Slots} (h : Pre al dst pre) {e : Nat} (he : dst ≠ some e) (l : Slots) : lk (pre ++ l) e = lk l e ∨ (al = true ∧ ∃ k off, lk l e = .lp k off) := by
  rcases h with rfl | ⟨d, y, rfl, rfl | ⟨rfl, rfl⟩⟩
  · exact .inl rfl
  · exact .inl (lk_put_ne fun k => he (by rw [k]))
  · simp only [List.cons_append, List.nil_append]
    rw [lk_put_ne (fun k => he (by rw [k]))]
    simp only [lk]
    cases hl : lk l e with
    | lp k off => exact .inr ⟨trivial, k, off, rfl⟩
    | _ => exact .inl rfl

theorem put_eff_comm {al : Bool} {pre : Slots} (preB : Boxes) (G : List GO) (h : Pre al oi.dst pre) (hne : oi.dst ≠ some d) (hx : al = false ∨ ∃ a, x = .v a) : Eqv ((s.put (some d) x).eff pre preB G) ((s.eff pre preB G).put (some d) x) := by
  have hb : ∀ b, Nat.blt d s.n = b → Eqv ((s.put (some d) x).eff pre preB G) ((s.eff pre preB G).put (some d) x) := fun b hb => by
    have hb' : Nat.blt d (s.eff pre preB G).n = b := hb
    rw [put_eff, put_eff, hb, hb']
    cases b with
    | false => exact Eqv.refl _
    | true =>
      refine ⟨funext fun e => ?_, rfl, rfl, rfl, rfl, rfl⟩
      simp only [cond_true, St.eff, List.cons_append, List.nil_append]
      by_cases k : d = e
      · subst k
        rw [lk_put_self]
        rcases lk_pre h hne (.put d x :: s.slots) with h1 | ⟨h1, k, off, h2⟩
        · rw [h1, lk_put_self]
        · rw [lk_put_self] at h2
          rcases hx with hx | ⟨a, hx⟩
          · rw [hx] at h1; cases h1
          · rw [hx] at h2; cases h2
      · rw [lk_put_ne k]
        exact lk_append (lk_put_ne k) pre
  exact hb _ rfl

theorem comm_core (hN : isN oj.op = true) (hdj : oj.dst = some d) (hself : d ∉ oj.looksAt ops) (hap : oj.apart ops oi = true) (hK : Inv K) (hx : NExec E f ops oj s x) {pre : Slots} {preB : Boxes} {G : List GO}
    (hpre : Pre (isAlloc oi.op) oi.dst pre) (hNi : isN oi.op = true → preB = [] ∧ G = s.G) (hk : K ((s.put (some d) x).eff pre preB G)) (hre : ∀ t', K t' → disturbs oj oi = true → reG E f ops.toList oj t') :
    ∃ x', NExec E f ops oj (s.eff pre preB G) x' ∧ K ((s.eff pre preB G).put (some d) x') := by
  obtain ⟨_, hne, hlo⟩ := Oper.apart_spec hap
  have hne' : oi.dst ≠ some d := hne d hdj
  have hoi : ∀ e ∈ oj.looksAt ops, oi.dst ≠ some e := fun e he k => hlo e k he
  have hlk : ∀ e ∈ oj.looksAt ops, (isAlloc oi.op = false ∨ ∃ b, lk s.slots e = .v b) → lk s.slots e = lk (s.eff pre preB G).slots e := fun e he ha => by
    rcases lk_pre hpre (hoi e he) s.slots with h1 | ⟨h1, k, off, h2⟩
    · exact h1.symm
    · rcases ha with ha | ⟨b, ha⟩
      · rw [ha] at h1; cases h1
      · rw [ha] at h2; cases h2
  have hgst : ∀ b, gst ops.toList s oj = some b → gst ops.toList (s.eff pre preB G) oj = some b := fun b hb => by
    unfold gst at hb ⊢
    split
    · rename_i hg; rw [hg] at hb; exact hb
    · rename_i j want hg
      rw [hg] at hb
      simp only at hb
      split
      · rename_i e he
        rw [he] at hb
        simp only at hb
        split at hb
        · rename_i b' hl
          have := hlk e (mem_looks_guard hg he) (.inr ⟨_, hl⟩)
          rw [← this, hl]
          exact hb
        · rename_i hl
          have := hlk e (mem_looks_guard hg he) (.inr ⟨_, hl⟩)
          rw [← this, hl]
          exact hb
        · cases hb
      · rename_i he; rw [he] at hb; cases hb
  rcases hx with ⟨h1, h2⟩ | ⟨h1, rfl⟩
  · rw [hdj] at h2
    by_cases hdis : disturbs oj oi = true
    · have hr := hre _ hk hdis
      -- the state with the slot, and the one without it
      have hoff : ∀ e, d ≠ e → lk ((s.put (some d) x).eff pre preB G).slots e = lk (s.eff pre preB G).slots e := fun e he => lk_append (lk_putS s d x he) pre
      have hB : lkB ((s.put (some d) x).eff pre preB G).boxes = lkB (s.eff pre preB G).boxes := by
        simp only [St.eff]; rw [(boxes_putS s _ x).1]
      have hn : ((s.put (some d) x).eff pre preB G).n = (s.eff pre preB G).n := (boxes_putS s _ x).2.2.1
      have hl2 : ∀ e ∈ oj.looksAt ops, lk ((s.put (some d) x).eff pre preB G).slots e = lk (s.eff pre preB G).slots e := fun e he => hoff e fun k => hself (k ▸ he)
      have hg2 : gst ops.toList ((s.put (some d) x).eff pre preB G) oj = some true := by rw [gst_looks hl2]; exact hgst _ h1
      unfold reG at hr
      rw [hg2] at hr
      simp only [hdj] at hr
      split at hr
      · rename_i d' c s' hd' hs
        cases hd'
        obtain ⟨rfl, hr⟩ := hr
        obtain ⟨t', h3, p, pB, G2, _, h4, _, _⟩ := stepOp_same (t := s.eff pre preB G) hn rfl hB (ev_looks hl2) hs
        obtain ⟨_, _, y, h5, h6⟩ := h4 (by simp [hN])
        rw [h6] at h3
        rw [h5, hdj] at hr
        refine ⟨y, .inl ⟨hgst _ h1, h3⟩, hK _ _ ?_ hk⟩
        have hmr : ((s.put (some d) x).eff pre preB G).marks = (s.eff pre preB G).marks ∧ ((s.put (some d) x).eff pre preB G).ro = (s.eff pre preB G).ro := (boxes_putS s _ x).2.2.2
        obtain ⟨q1, q2, q3, q4, q5⟩ := boxes_putS (s.eff pre preB G) (some d) y
        refine ⟨funext fun e => ?_, by rw [q1]; exact hB, by rw [q2]; rfl, by rw [q4]; exact hmr.1, by rw [q5]; exact hmr.2, by rw [q3]; exact hn⟩
        by_cases k : d = e
        · subst k
          rw [← hr]
          have hb : ∀ b, Nat.blt d s.n = b → lk (((s.put (some d) x).eff pre preB G).put (some d) y).slots d = lk ((s.eff pre preB G).put (some d) y).slots d := fun b hb => by
            have hb1 : Nat.blt d (s.eff pre preB G).n = b := hb
            have hb2 : Nat.blt d ((s.put (some d) x).eff pre preB G).n = b := by rw [hn]; exact hb
            rw [put_eff _ d y, put_eff _ d y, hb1, hb2]
            cases b with
            | true => simp [St.eff, lk_put_self]
            | false =>
              simp only [cond_false]
              rw [put_eff, hb]
              rfl
          exact hb _ rfl
        · rw [lk_putS _ _ _ k]
          exact hoff e k
      · exact hr.elim
    · have hal : isAlloc oi.op = false := by cases ha : isAlloc oi.op <;> simp_all [disturbs]
      have hl : ∀ e ∈ oj.looksAt ops, lk s.slots e = lk (s.eff pre preB G).slots e := fun e he => hlk e he (.inl hal)
      have fin : ∀ y, s.put (some d) x = s.put (some d) y → stepOp E f (s.eff pre preB G) oj = some (true, (s.eff pre preB G).put oj.dst y) →
          ∃ x', NExec E f ops oj (s.eff pre preB G) x' ∧ K ((s.eff pre preB G).put (some d) x') := fun y hy hs => by
        refine ⟨y, .inl ⟨hgst _ h1, hs⟩, hK _ _ (put_eff_comm (oi := oi) preB G hpre hne' (.inl hal)) ?_⟩
        rw [← hy]
        exact hk
      cases hNo : isN oi.op with
      | true =>
        obtain ⟨rfl, rfl⟩ := hNi hNo
        obtain ⟨t', h3, p, pB, G2, _, h4, _, _⟩ := stepOp_same (s := s) (t := s.eff pre [] s.G) rfl rfl rfl (ev_looks hl) h2
        obtain ⟨_, _, y, h5, h6⟩ := h4 (by simp [hN])
        rw [hdj] at h5
        exact fin y h5 (by rw [h3, h6])
      | false =>
        have hR : isR oj.op = false := by cases ha : isR oj.op <;> simp_all [disturbs]
        obtain ⟨t', h3, y, h5, h6⟩ := stepOp_slot (s := s) (t := s.eff pre preB G) hN hR rfl (ev_looks hl) h2
        rw [hdj] at h5
        exact fin y h5 (by rw [h3, h6])
  · exact ⟨_, .inr ⟨hgst _ h1, rfl⟩, hK _ _ (put_eff_comm (oi := oi) preB G hpre hne' (.inr ⟨_, rfl⟩)) hk⟩

end
end Go.Am
namespace Go.Am
open Go

section
variable {E : Env} {s t : St} {f : FuncId} {ops : Array Oper} {o oj oi : Oper} {d : Tmp} {x : SV} {K K' : St → Prop} {anc : Nat → List Nat} {C : List Nat}

/-- The answers that an operation may have turned. -/
def chk (E : Env) (f : FuncId) (ops : Array Oper) (anc : Nat → List Nat) (C : List Nat) (i : Nat) (s : St) : Prop :=
  ∀ j ∈ C, ∀ oj oi, ops[j]? = some oj → ops[i]? = some oi → disturbs oj oi = true → j ∉ anc i → reG E f ops.toList oj s

def NC (ops : Array Oper) (C : List Nat) : Prop := ∀ j ∈ C, ∀ oj, ops[j]? = some oj → isN oj.op = true

theorem chk_inv {i : Nat} (hC : NC ops C) : Inv (chk E f ops anc C i) := fun _ _ e h j hj oj oi h1 h2 h3 h4 => reG_eqv (hC j hj oj h1) e (h j hj oj oi h1 h2 h3 h4)

/-- All orders. -/
def awAny (E : Env) (f : FuncId) (ops : Array Oper) (anc : Nat → List Nat) (C : List Nat) (K : St → Prop) : Nat → Array Bool → St → Prop
  | 0, listed, s => Region.ready .any ops listed = [] ∧ K s
  | n + 1, listed, s => (Region.ready .any ops listed = [] → K s) ∧
      ∀ i ∈ Region.ready .any ops listed, ∀ oi, ops[i]? = some oi → awGuard E f ops.toList oi (fun s' => chk E f ops anc C i s' ∧ awAny E f ops anc C K n (listed.setIfInBounds i true) s') s

theorem awAny_inv (hC : NC ops C) (hK : Inv K) : ∀ n listed, Inv (awAny E f ops anc C K n listed)
  | 0, _ => fun s t e h => ⟨h.1, hK s t e h.2⟩
  | n + 1, _ => fun s t e h => ⟨fun h0 => hK s t e (h.1 h0), fun i hi oi hoi => awGuard_eqv (fun s t e h => ⟨chk_inv hC s t e h.1, awAny_inv hC hK n _ s t e h.2⟩) s t e (h.2 i hi oi hoi)⟩

/-- Fewer or more are looked at again. -/
theorem awAny_weak {C' : List Nat} : ∀ n (listed : Array Bool) (s : St),
    (∀ k ∈ C', k ∈ C ∨ ∀ i ok oi, ops[k]? = some ok → ops[i]? = some oi → listed.getD i true = false → disturbs ok oi = true → k ∈ anc i) →
    awAny E f ops anc C K n listed s → awAny E f ops anc C' K n listed s
  | 0, _, _, _, h => h
  | n + 1, listed, s, hk, h => ⟨h.1, fun i hi oi hoi => awGuard_mono (h.2 i hi oi hoi) fun s' h' => ⟨fun k hkC ok oi' h1 h2 h3 h4 => by
      rcases hk k hkC with h5 | h5
      · exact h'.1 k h5 ok oi' h1 h2 h3 h4
      · exact absurd (h5 i ok oi' h1 h2 (mem_ready.1 hi).1 h3) h4, awAny_weak n _ s' (fun k hkC => by
      rcases hk k hkC with h5 | h5
      · exact .inl h5
      · refine .inr fun i' ok oi' h1 h2 h3 h4 => h5 i' ok oi' h1 h2 ?_ h4
        by_cases e : i = i'
        · subst e; exact (mem_ready.1 hi).1
        · rw [getD_set_ne true e] at h3; exact h3) h'.2⟩⟩

def AncOk (ops : Array Oper) (anc : Nat → List Nat) : Prop := ∀ i oi a, ops[i]? = some oi → a ∈ anc i → ∃ e ∈ oi.after, Region.binds .any e = true ∧ (e.on = a ∨ a ∈ anc e.on)

def Closed (anc : Nat → List Nat) (listed : Array Bool) : Prop := ∀ i, listed.getD i false = true → ∀ a ∈ anc i, listed.getD a false = true

theorem Closed.ready {listed : Array Bool} (h : Closed anc listed) (ha : AncOk ops anc) {i : Nat} (hi : i ∈ Region.ready .any ops listed) : ∀ a ∈ anc i, listed.getD a false = true := fun a haa => by
  obtain ⟨_, o, ho, hall⟩ := mem_ready.1 hi
  obtain ⟨e, he, hb, h2⟩ := ha i o a ho haa
  rcases h2 with rfl | h2
  · exact hall e he hb
  · exact h _ (hall e he hb) a h2

theorem getD_true_false {listed : Array Bool} {i : Nat} (h : listed.getD i false = true) : listed.getD i true = true := by
  rw [Array.getD_eq_getD_getElem?] at *
  cases hl : listed[i]? with
  | none => rw [hl] at h; cases h
  | some b => rw [hl] at h; exact h

theorem Closed.add {listed : Array Bool} (h : Closed anc listed) (ha : AncOk ops anc) {i : Nat} (hi : i ∈ Region.ready .any ops listed) : Closed anc (listed.setIfInBounds i true) := fun k hk a haa => by
  by_cases e : i = k
  · subst e
    exact getD_set_true (h.ready ha hi a haa)
  · rw [getD_set_ne false e] at hk
    exact getD_set_true (h k hk a haa)

/-- An operation that changes slots alone is taken first. -/
theorem awAny_take (hA : AncOk ops anc) (hC : NC ops C) (hK : Inv K) {j : Nat} (hj : ops[j]? = some oj) (hN : isN oj.op = true) (hdj : oj.dst = some d) (hself : d ∉ oj.looksAt ops)
    (hCd : ∀ k ∈ C, ∀ ok, ops[k]? = some ok → d ∉ ok.looksAt ops ∧ ok.dst ≠ some d) : ∀ n (listed : Array Bool) (s : St) (x : SV), Closed anc listed →
      (∀ i oi, ops[i]? = some oi → i ≠ j → listed.getD i true = false → (∀ e ∈ oi.after, Region.binds .any e = true → e.on ≠ j) → oj.apart ops oi = true) →
      j ∈ Region.ready .any ops listed → NExec E f ops oj s x → awAny E f ops anc (j :: C) K n (listed.setIfInBounds j true) (s.put (some d) x) → awAny E f ops anc C K (n + 1) listed s := by
  have hNC : NC ops (j :: C) := fun k hk ok ho => by
    rcases List.mem_cons.1 hk with rfl | hk
    · rw [hj] at ho; cases ho; exact hN
    · exact hC k hk ok ho
  have self : ∀ n (listed : Array Bool) (s : St) (x : SV), NExec E f ops oj s x → awAny E f ops anc (j :: C) K n (listed.setIfInBounds j true) (s.put (some d) x) → ∀ oi, ops[j]? = some oi →
      awGuard E f ops.toList oi (fun s' => chk E f ops anc C j s' ∧ awAny E f ops anc C K n (listed.setIfInBounds j true) s') s := fun n listed s x hx h oi hoi => by
    rw [hj] at hoi
    cases hoi
    refine guard_of_nexec hN (fun s t e h => ⟨chk_inv hC s t e h.1, awAny_inv hC hK _ _ s t e h.2⟩) hx ?_
    rw [hdj]
    refine ⟨fun k _ ok oi' _ h2 h3 _ => ?_, awAny_weak n _ _ (fun k hk => .inl (List.mem_cons_of_mem _ hk)) h⟩
    rw [hj] at h2
    cases h2
    simp [disturbs, isN_noAlloc hN, hN] at h3
  intro n
  induction n with
  | zero =>
    intro listed s x _ _ hr hx h
    refine ⟨fun h0 => by rw [h0] at hr; simp at hr, fun i hi oi hoi => ?_⟩
    by_cases e : i = j
    · subst e; exact self 0 listed s x hx h oi hoi
    · have := ready_mono hi e
      rw [h.1] at this
      simp at this
  | succ n ih =>
    intro listed s x hcl hfree hr hx h
    refine ⟨fun h0 => by rw [h0] at hr; simp at hr, fun i hi oi hoi => ?_⟩
    by_cases e : i = j
    · subst e; exact self (n + 1) listed s x hx h oi hoi
    · have hun := (mem_ready.1 hi).1
      have hjun := (mem_ready.1 hr).1
      have hnot : ∀ ed ∈ oi.after, Region.binds .any ed = true → ed.on ≠ j := fun ed he hb heq => by
        obtain ⟨_, o, ho, hall⟩ := mem_ready.1 hi
        rw [hoi] at ho
        cases ho
        have h1 := getD_true_false (hall ed he hb)
        rw [heq, hjun] at h1
        cases h1
      have hap := hfree i oi hoi e hun hnot
      have hG := h.2 i (ready_mono hi e) oi hoi
      have hnanc : j ∉ anc i := fun hm => by
        have h1 := getD_true_false (hcl.ready hA hi j hm)
        rw [hjun] at h1
        cases h1
      have hKi : Inv (fun s' => chk E f ops anc (j :: C) i s' ∧ awAny E f ops anc (j :: C) K n ((listed.setIfInBounds j true).setIfInBounds i true) s') :=
        fun s t e h => ⟨chk_inv hNC s t e h.1, awAny_inv hNC hK _ _ s t e h.2⟩
      have hfree' : ∀ k ok, ops[k]? = some ok → k ≠ j → (listed.setIfInBounds i true).getD k true = false → (∀ e ∈ ok.after, Region.binds .any e = true → e.on ≠ j) → oj.apart ops ok = true := fun k ok hk hkj hku hno => by
        refine hfree k ok hk hkj ?_ hno
        by_cases e' : i = k
        · subst e'; exact hun
        · rw [getD_set_ne true e'] at hku; exact hku
      have core : ∀ {pre : Slots} {preB : Boxes} {G : List GO}, Pre (isAlloc oi.op) oi.dst pre → (isN oi.op = true → preB = [] ∧ G = s.G) →
          (chk E f ops anc (j :: C) i ((s.put (some d) x).eff pre preB G) ∧ awAny E f ops anc (j :: C) K n ((listed.setIfInBounds j true).setIfInBounds i true) ((s.put (some d) x).eff pre preB G)) →
          chk E f ops anc C i (s.eff pre preB G) ∧ awAny E f ops anc C K (n + 1) (listed.setIfInBounds i true) (s.eff pre preB G) := by
        intro pre preB G hpre hNi hk
        obtain ⟨x', hx', hk'⟩ := comm_core hN hdj hself hap hKi hx hpre hNi hk (fun t' ht' hd => ht'.1 j (List.mem_cons_self ..) oj oi hj hoi hd hnanc)
        refine ⟨fun k hkC ok oi' h1 h2 h3 h4 => ?_, ?_⟩
        · obtain ⟨q1, q2⟩ := hCd k hkC ok h1
          obtain ⟨b1, b2, b3, _⟩ := boxes_putS (s.eff pre preB G) (some d) x'
          exact reG_off (hC k hkC ok h1) q1 q2 (fun e he => lk_putS _ _ _ he) (by rw [b1]) b2 b3 (hk'.1 k (List.mem_cons_of_mem _ hkC) ok oi' h1 h2 h3 h4)
        · refine ih (listed.setIfInBounds i true) _ x' (hcl.add hA hi) hfree' (ready_mono hr (Ne.symm e)) hx' ?_
          rw [Array.setIfInBounds_comm _ _ e]
          exact hk'.2
      rw [awGuard_iff (fun s t e h => ⟨chk_inv hC s t e h.1, awAny_inv hC hK _ _ s t e h.2⟩)]
      obtain ⟨hl1, _, _⟩ := Oper.apart_spec hap
      have hlk : ∀ e ∈ oi.looksAt ops, lk (s.put (some d) x).slots e = lk s.slots e := fun e he => lk_putS s d x fun k => hl1 d hdj (k ▸ he)
      obtain ⟨b1, b2, b3, b4, b5⟩ := boxes_putS s (some d) x
      rcases (awGuard_iff hKi).1 hG with ⟨h1, h2⟩ | ⟨h1, h2⟩
      · refine .inl ⟨by rw [← gst_looks hlk]; exact h1, awOp_same b3 b2 (by rw [b1]) (ev_looks hlk) h2 fun pre preB G hp hNi hk => core hp (fun hh => ?_) hk⟩
        obtain ⟨q1, q2⟩ := hNi hh
        exact ⟨q1, by rw [q2, b2]⟩
      · refine .inr ⟨by rw [← gst_looks hlk]; exact h1, ?_⟩
        obtain ⟨pre, preB, G, p1, p2, p3, p4⟩ := SameEff.put (s := s.put (some d) x) (t := s) (al := isAlloc oi.op) (w := false) b3 b2 oi.dst (.v undefA)
        obtain ⟨q1, q2, _⟩ := p2 rfl
        rw [p3] at h2
        rw [p4]
        exact core p1 (fun _ => ⟨q1, by rw [q2, b2]⟩) h2

end

/-! ### Trees of choices -/

inductive DT where
  | done
  | take (j : Nat) (C : List Nat) (t : DT)
  | br (i : Nat) (re C : List Nat) (t : DT) (more : DT)
  | stop

/-- What the check asks of an operation: its slot; the slots that it looks at; what it follows; its kinds. -/
structure Inf where
  dst : Option Tmp
  lo : List Tmp
  pr : List Nat
  n : Bool
  r : Bool
  a : Bool

def memN (x : Nat) : List Nat → Bool
  | [] => false
  | y :: l => Nat.beq x y || memN x l

def predsOf : List Edge → List Nat
  | [] => []
  | e :: l => bif Region.binds .any e then e.on :: predsOf l else predsOf l

def infOf (ops : Array Oper) (o : Oper) : Inf := ⟨o.dst, o.looksAt ops, predsOf o.after.toList, isN o.op, isR o.op, isAlloc o.op⟩

def fNat {α : Type} (n : Nat) (K : Nat → α) : α := match n with
  | 0 => K 0
  | m + 1 => K (Nat.succ m)
def fNats {α : Type} : List Nat → (List Nat → α) → α
  | [], K => K []
  | a :: l, K => fNat a fun a => fNats l fun l => K (a :: l)
def fInf {α : Type} (i : Inf) (K : Inf → α) : α := match i with
  | ⟨d, lo, pr, n, r, a⟩ => fNats lo fun lo => fNats pr fun pr => (match d with
    | none => (fun (K : Option Tmp → α) => K none)
    | some d => (fun (K : Option Tmp → α) => fNat d fun d => K (some d))) fun d => (bif n then (fun (K : Bool → α) => K true) else fun K => K false) fun n =>
      (bif r then (fun (K : Bool → α) => K true) else fun K => K false) fun r => (bif a then (fun (K : Bool → α) => K true) else fun K => K false) fun a => K ⟨d, lo, pr, n, r, a⟩
def fInfs {α : Type} : List Inf → (List Inf → α) → α
  | [], K => K []
  | i :: l, K => fInf i fun i => fInfs l fun l => K (i :: l)

def apartI (x y : Inf) : Bool :=
  (match x.dst with
   | some d => !memN d y.lo && (match y.dst with | some e => !Nat.beq e d | none => true)
   | none => true) &&
  (match y.dst with
   | some d => !memN d x.lo
   | none => true)

/-- The operation j is apart from those from i on, but for those that follow it and those that are listed. -/
def cfRow (j : Nat) (x : Inf) (cf : List Nat) : Nat → List Inf → Bool
  | _, [] => true
  | i, y :: l => (Nat.beq i j || memN j y.pr || memN i cf || apartI x y) && cfRow j x cf (i + 1) l

def cfAll (I : List Inf) : Nat → List Inf → List (List Nat) → Bool
  | _, [], _ => true
  | j, x :: l, c :: cs => (!x.n || cfRow j x c 0 I) && cfAll I (j + 1) l cs
  | _, _, _ => false

def ancAll (anc : Nat → List Nat) : Nat → List Inf → Bool
  | _, [] => true
  | i, x :: l => (anc i).all (fun a => x.pr.any fun e => Nat.beq e a || memN a (anc e)) && ancAll anc (i + 1) l

def readyI (L : Nat) : Nat → List Inf → List Nat
  | _, [] => []
  | i, x :: l => bif !L.testBit i && x.pr.all (fun e => L.testBit e) then i :: readyI L (i + 1) l else readyI L (i + 1) l

def disturbsI (x y : Inf) : Bool := y.a || (x.r && !y.n)

def unneededI (anc : Nat → List Nat) (L k : Nat) (x : Inf) : Nat → List Inf → Bool
  | _, [] => true
  | i, y :: l => (L.testBit i || !disturbsI x y || memN k (anc i)) && unneededI anc L k x (i + 1) l

def coversI (I : List Inf) (anc : Nat → List Nat) (L : Nat) (C C' : List Nat) : Bool := C.all fun k => memN k C' || match nth I k with
  | none => false
  | some x => unneededI anc L k x 0 I

def reOkI (I : List Inf) (anc : Nat → List Nat) (C re : List Nat) (i : Nat) (y : Inf) : Bool := C.all fun k => memN k re || match nth I k with
  | none => false
  | some x => !disturbsI x y || memN k (anc i)

def allNI (I : List Inf) (C : List Nat) : Bool := C.all fun k => match nth I k with
  | some x => x.n
  | none => false

def dtOk (I : List Inf) (N : Nat) (anc : Nat → List Nat) (cf : List (List Nat)) : DT → Nat → List Nat → Nat → Option (List Nat) → Bool
  | .done, _, _, L, none => Nat.beq L N
  | .take j C' t, n + 1, C, L, none => match nth I j, nth cf j with
    | some x, some c => match x.dst with
      | none => false
      | some d => x.n && !memN d x.lo && (C.all fun k => match nth I k with
          | none => false
          | some y => !memN d y.lo && (match y.dst with | some e => !Nat.beq e d | none => true)) &&
        c.all (fun i => L.testBit i) && !L.testBit j && x.pr.all (fun e => L.testBit e) && allNI I C' &&
        fNat (L ||| 2 ^ j) fun L' => coversI I anc L' (j :: C) C' && dtOk I N anc cf t n C' L' none
    | _, _ => false
  | .br i re C' t more, n + 1, C, L, left => match nth I i with
    | none => false
    | some y => (match left with
      | none => fun (K : List Nat → Bool) => fNats (readyI L 0 I) K
      | some l => fun K => K l) fun l =>
        reOkI I anc C re i y && allNI I C' && memN i l && (fNat (L ||| 2 ^ i) fun L' => coversI I anc L' C C' && dtOk I N anc cf t n C' L' none) &&
          dtOk I N anc cf more (n + 1) C L (some (l.filter fun k => !Nat.beq k i))
  | .stop, _, _, _, some l => l.isEmpty
  | _, _, _, _, _ => false

def reAll (E : Env) (f : FuncId) (ops : List Oper) : List Nat → St → Prop
  | [], _ => True
  | k :: l, s => (match nth ops k with
    | some ok => reG E f ops ok s
    | none => True) ∧ reAll E f ops l s

def awT (E : Env) (f : FuncId) (ops : List Oper) : DT → (St → Prop) → St → Prop
  | .done, K, s => K s
  | .take j _ t, K, s => match nth ops j with
    | some oj => awGuard E f ops oj (awT E f ops t K) s
    | none => False
  | .br i re _ t more, K, s => (match nth ops i with
    | some oi => awGuard E f ops oi (fun s' => reAll E f ops re s' ∧ awT E f ops t K s') s
    | none => False) ∧ awT E f ops more K s
  | .stop, _, _ => True

def ancOf (l : List (List Nat)) (i : Nat) : List Nat := match nth l i with
  | some a => a
  | none => []

section
variable {E : Env} {s t : St} {f : FuncId} {ops : Array Oper} {K : St → Prop} {anc : Nat → List Nat}

theorem memN_iff {x : Nat} : ∀ {l : List Nat}, memN x l = true ↔ x ∈ l
  | [] => by simp [memN]
  | y :: l => by simp [memN, memN_iff (l := l)]

theorem fNat_eq {α : Type} (n : Nat) (K : Nat → α) : fNat n K = K n := by cases n <;> rfl
theorem fNats_eq {α : Type} : ∀ (l : List Nat) (K : List Nat → α), fNats l K = K l
  | [], _ => rfl
  | a :: l, K => by simp only [fNats, fNat_eq]; rw [fNats_eq]
theorem fInf_eq {α : Type} (i : Inf) (K : Inf → α) : fInf i K = K i := by
  obtain ⟨d, lo, pr, n, r, a⟩ := i
  cases d <;> cases n <;> cases r <;> cases a <;> simp [fInf, fNats_eq, fNat_eq]
theorem fInfs_eq {α : Type} : ∀ (l : List Inf) (K : List Inf → α), fInfs l K = K l
  | [], _ => rfl
  | a :: l, K => by simp only [fInfs, fInf_eq]; rw [fInfs_eq]

def infs (ops : Array Oper) : List Inf := ops.toList.map (infOf ops)

theorem nth_infs {k : Nat} {x : Inf} (h : nth (infs ops) k = some x) : ∃ o, ops[k]? = some o ∧ x = infOf ops o := by
  rw [nth_eq, infs, List.getElem?_map, Array.getElem?_toList] at h
  cases ho : ops[k]? with
  | none => rw [ho] at h; cases h
  | some o => rw [ho] at h; exact ⟨o, rfl, by simpa using h.symm⟩

theorem mem_preds {e : Nat} : ∀ {l : List Edge}, e ∈ predsOf l ↔ ∃ ed ∈ l, Region.binds .any ed = true ∧ ed.on = e
  | [] => by simp [predsOf]
  | x :: l => by
    unfold predsOf
    cases hb : Region.binds .any x with
    | true =>
      simp only [cond_true, List.mem_cons, mem_preds (l := l), exists_eq_or_imp, hb, true_and]
      constructor
      · rintro (h | h)
        · exact .inl h.symm
        · exact .inr h
      · rintro (h | h)
        · exact .inl h.symm
        · exact .inr h
    | false => simp only [cond_false, List.mem_cons, mem_preds (l := l), exists_eq_or_imp, hb, false_and, false_or, Bool.false_eq_true]

theorem apartI_eq {x y : Oper} (h : apartI (infOf ops x) (infOf ops y) = true) : x.apart ops y = true := by
  have hm : ∀ (d : Nat) (l : List Nat), memN d l = false → l.contains d = false := fun d l h => by
    cases hc : l.contains d with
    | false => rfl
    | true => rw [memN_iff.2 (by simpa using hc)] at h; cases h
  unfold apartI at h
  unfold Oper.apart
  simp only [infOf, Bool.and_eq_true] at h ⊢
  refine ⟨?_, ?_⟩
  · cases hx : x.dst with
    | none => rfl
    | some d =>
      rw [hx] at h
      simp only [Bool.and_eq_true, Bool.not_eq_true'] at h ⊢
      refine ⟨hm _ _ h.1.1, ?_⟩
      have h2 := h.1.2
      cases hy : y.dst with
      | none => rfl
      | some e =>
        rw [hy] at h2
        simp only [Bool.not_eq_true'] at h2
        have : e ≠ d := fun k => by rw [k, beq_self] at h2; cases h2
        simpa using this
  · cases hy : y.dst with
    | none => rfl
    | some d =>
      rw [hy] at h
      simp only [Bool.not_eq_true'] at h ⊢
      exact hm _ _ h.2

/-- A number's bits are the marks. -/
def Mask (ops : Array Oper) (L : Nat) (listed : Array Bool) : Prop := listed.size = ops.size ∧ ∀ i, i < ops.size → listed[i]? = some (L.testBit i)

theorem Mask.add {L : Nat} {listed : Array Bool} (h : Mask ops L listed) (j : Nat) : Mask ops (L ||| 2 ^ j) (listed.setIfInBounds j true) := by
  refine ⟨by simp [h.1], fun i hi => ?_⟩
  rw [Nat.testBit_or, Nat.testBit_two_pow]
  by_cases e : j = i
  · subst e
    rw [Array.getElem?_setIfInBounds_self_of_lt (by rw [h.1]; exact hi)]
    simp
  · rw [Array.getElem?_setIfInBounds_ne e, h.2 i hi]
    simp [e]

theorem Mask.getT {L : Nat} {listed : Array Bool} (h : Mask ops L listed) {i : Nat} (hi : i < ops.size) (b : Bool) : listed.getD i b = L.testBit i := by
  rw [Array.getD_eq_getD_getElem?, h.2 i hi]; rfl

theorem mask_ready {L : Nat} {listed : Array Bool} (h : Mask ops L listed) {j : Nat} {o : Oper} (ho : ops[j]? = some o) (h1 : L.testBit j = false) (h2 : ((infOf ops o).pr.all fun e => L.testBit e) = true)
    (hlt : ∀ e ∈ o.after, Region.binds .any e = true → e.on < ops.size) : j ∈ Region.ready .any ops listed := by
  have hj : j < ops.size := (Array.getElem?_eq_some_iff.1 ho).1
  refine mem_ready.2 ⟨by rw [h.getT hj]; exact h1, o, ho, fun e he hb => ?_⟩
  rw [h.getT (hlt e he hb)]
  exact List.all_eq_true.1 h2 e.on (mem_preds.2 ⟨e, by simpa using he, hb, rfl⟩)

def prLt (n : Nat) (I : List Inf) : Bool := I.all fun x => x.pr.all fun e => Nat.blt e n

theorem nth_infs_some {k : Nat} {o : Oper} (h : ops[k]? = some o) : nth (infs ops) k = some (infOf ops o) := by
  rw [nth_eq, infs, List.getElem?_map, Array.getElem?_toList, h]; rfl

theorem infs_get {k : Nat} {o : Oper} (h : ops[k]? = some o) : (infs ops)[k]? = some (infOf ops o) := by
  rw [← nth_eq]; exact nth_infs_some h

theorem prLt_spec (h : prLt ops.size (infs ops) = true) {k : Nat} {o : Oper} (ho : ops[k]? = some o) : ∀ e ∈ o.after, Region.binds .any e = true → e.on < ops.size := fun e he hb => by
  have h1 := List.all_eq_true.1 h (infOf ops o) (List.mem_of_getElem? (infs_get ho))
  have h2 := List.all_eq_true.1 h1 e.on (mem_preds.2 ⟨e, by simpa using he, hb, rfl⟩)
  exact Nat.le_of_ble_eq_true h2

theorem cfRow_spec {j : Nat} {x : Inf} {c : List Nat} : ∀ {l : List Inf} {i : Nat}, cfRow j x c i l = true → ∀ k y, l[k]? = some y → (Nat.beq (i + k) j || memN j y.pr || memN (i + k) c || apartI x y) = true
  | [], _, _, k, y, hk => by simp at hk
  | z :: l, i, h, k, y, hk => by
    unfold cfRow at h
    rw [Bool.and_eq_true] at h
    cases k with
    | zero => simp at hk; subst hk; exact h.1
    | succ k =>
      have := cfRow_spec h.2 k y (by simpa using hk)
      rw [show i + 1 + k = i + (k + 1) by omega] at this
      exact this

theorem cfAll_spec {I : List Inf} : ∀ {l : List Inf} {j : Nat} {cs : List (List Nat)}, cfAll I j l cs = true → ∀ k x c, l[k]? = some x → cs[k]? = some c → x.n = true → cfRow (j + k) x c 0 I = true
  | [], _, _, _, k, x, c, hk, _, _ => by simp at hk
  | z :: l, j, [], _, k, x, c, _, hc, _ => by simp at hc
  | z :: l, j, d :: cs, h, k, x, c, hk, hc, hn => by
    unfold cfAll at h
    rw [Bool.and_eq_true] at h
    cases k with
    | zero =>
      simp at hk hc
      subst hk hc
      have := h.1
      rw [hn] at this
      simpa using this
    | succ k =>
      have := cfAll_spec h.2 k x c (by simpa using hk) (by simpa using hc) hn
      rw [show j + 1 + k = j + (k + 1) by omega] at this
      exact this

theorem ancAll_spec : ∀ {l : List Inf} {i : Nat}, ancAll anc i l = true → ∀ k x, l[k]? = some x → ∀ a ∈ anc (i + k), ∃ e ∈ x.pr, e = a ∨ a ∈ anc e
  | [], _, _, k, x, hk => by simp at hk
  | z :: l, i, h, k, x, hk => by
    unfold ancAll at h
    rw [Bool.and_eq_true] at h
    cases k with
    | zero =>
      simp at hk
      subst hk
      intro a ha
      have h1 := List.all_eq_true.1 h.1 a ha
      obtain ⟨e, he, h2⟩ := List.any_eq_true.1 h1
      rw [Bool.or_eq_true] at h2
      refine ⟨e, he, ?_⟩
      rcases h2 with h2 | h2
      · exact .inl (Nat.eq_of_beq_eq_true h2)
      · exact .inr (memN_iff.1 h2)
    | succ k =>
      have := ancAll_spec h.2 k x (by simpa using hk)
      rw [show i + 1 + k = i + (k + 1) by omega] at this
      exact this

theorem ancOk_spec (h : ancAll anc 0 (infs ops) = true) : AncOk ops anc := fun i oi a hi ha => by
  have h1 := ancAll_spec h i _ (infs_get hi) a (by rw [Nat.zero_add]; exact ha)
  obtain ⟨e, he, h2⟩ := h1
  obtain ⟨ed, q1, q2, rfl⟩ := mem_preds.1 he
  exact ⟨ed, by simpa using q1, q2, h2⟩

theorem readyI_spec {L : Nat} : ∀ {l : List Inf} {i k : Nat}, k ∈ readyI L i l ↔ ∃ j x, k = i + j ∧ l[j]? = some x ∧ L.testBit k = false ∧ (x.pr.all fun e => L.testBit e) = true
  | [], i, k => by simp [readyI]
  | z :: l, i, k => by
    have ih := readyI_spec (L := L) (l := l) (i := i + 1) (k := k)
    have rest : (∃ j x, k = i + 1 + j ∧ l[j]? = some x ∧ L.testBit k = false ∧ (x.pr.all fun e => L.testBit e) = true) ↔ ∃ j x, k = i + (j + 1) ∧ (z :: l)[j + 1]? = some x ∧ L.testBit k = false ∧ (x.pr.all fun e => L.testBit e) = true := by
      constructor
      · rintro ⟨j, x, h1, h2⟩; exact ⟨j, x, by omega, by simpa using h2⟩
      · rintro ⟨j, x, h1, h2⟩; exact ⟨j, x, by omega, by simpa using h2⟩
    unfold readyI
    cases hc : (!L.testBit i && z.pr.all fun e => L.testBit e) with
    | true =>
      simp only [cond_true, List.mem_cons, ih, rest]
      rw [Bool.and_eq_true, Bool.not_eq_true'] at hc
      constructor
      · rintro (rfl | ⟨j, x, h⟩)
        · exact ⟨0, z, rfl, rfl, hc⟩
        · exact ⟨j + 1, x, h⟩
      · rintro ⟨j, x, h1, h2⟩
        cases j with
        | zero => exact .inl h1
        | succ j => exact .inr ⟨j, x, h1, h2⟩
    | false =>
      simp only [cond_false, ih, rest]
      constructor
      · rintro ⟨j, x, h⟩; exact ⟨j + 1, x, h⟩
      · rintro ⟨j, x, h1, h2, h3, h4⟩
        cases j with
        | zero =>
          simp at h2 h1
          subst h1 h2
          rw [h3, h4] at hc
          cases hc
        | succ j => exact ⟨j, x, h1, h2, h3, h4⟩

theorem unneededI_spec {L k : Nat} {x : Inf} : ∀ {l : List Inf} {i : Nat}, unneededI anc L k x i l = true → ∀ j y, l[j]? = some y → L.testBit (i + j) = false → disturbsI x y = true → k ∈ anc (i + j)
  | [], _, _, j, y, hj => by simp at hj
  | z :: l, i, h, j, y, hj => by
    unfold unneededI at h
    rw [Bool.and_eq_true] at h
    cases j with
    | zero =>
      simp at hj
      subst hj
      intro h1 h2
      have h3 := h.1
      rw [Nat.add_zero] at h1
      rw [h1, h2] at h3
      exact memN_iff.1 (by simpa using h3)
    | succ j =>
      have := unneededI_spec h.2 j y (by simpa using hj)
      rw [show i + 1 + j = i + (j + 1) by omega] at this
      exact this

theorem covers_spec {L : Nat} {listed : Array Bool} (hM : Mask ops L listed) {C C' : List Nat} (h : coversI (infs ops) anc L C C' = true) : ∀ k ∈ C, k ∈ C' ∨ ∀ i ok oi, ops[k]? = some ok → ops[i]? = some oi → listed.getD i true = false → disturbs ok oi = true → k ∈ anc i := fun k hk => by
  have h1 := List.all_eq_true.1 h k hk
  rw [Bool.or_eq_true] at h1
  rcases h1 with h1 | h1
  · exact .inl (memN_iff.1 h1)
  · refine .inr fun i ok oi q1 q2 q3 q4 => ?_
    rw [nth_infs_some q1] at h1
    have hi : i < ops.size := (Array.getElem?_eq_some_iff.1 q2).1
    have := unneededI_spec h1 i _ (infs_get q2) (by rw [Nat.zero_add, ← hM.getT hi]; exact q3) q4
    rw [Nat.zero_add] at this
    exact this

theorem allN_spec {C : List Nat} (h : allNI (infs ops) C = true) : NC ops C := fun k hk ok hok => by
  have := List.all_eq_true.1 h k hk
  rw [nth_infs_some hok] at this
  exact this

theorem dt_sound {cf : List (List Nat)} (hA : AncOk ops anc) (hP : prLt ops.size (infs ops) = true) (hF : cfAll (infs ops) 0 (infs ops) cf = true) (hK : Inv K) : ∀ (T : DT) (n : Nat) (C : List Nat) (listed : Array Bool) (L : Nat), NC ops C → Closed anc listed → Mask ops L listed →
    (dtOk (infs ops) (2 ^ ops.size - 1) anc cf T n C L none = true → ∀ s, awT E f ops.toList T K s → awAny E f ops anc C K n listed s) ∧
    (∀ m l, n = m + 1 → dtOk (infs ops) (2 ^ ops.size - 1) anc cf T n C L (some l) = true → ∀ s, awT E f ops.toList T K s → ∀ i ∈ l, i ∈ Region.ready .any ops listed → ∀ oi, ops[i]? = some oi →
      awGuard E f ops.toList oi (fun s' => chk E f ops anc C i s' ∧ awAny E f ops anc C K m (listed.setIfInBounds i true) s') s)
  | .done, n, C, listed, L, hC, hcl, hM => by
    refine ⟨fun h s hs => ?_, fun m l _ h => by simp [dtOk] at h⟩
    have hL : L = 2 ^ ops.size - 1 := Nat.eq_of_beq_eq_true (by simpa only [dtOk] using h)
    have hr : Region.ready .any ops listed = [] := by
      apply List.eq_nil_iff_forall_not_mem.2
      intro j hj
      obtain ⟨h1, o, ho, _⟩ := mem_ready.1 hj
      have hlt : j < ops.size := (Array.getElem?_eq_some_iff.1 ho).1
      rw [hM.getT hlt, hL, Nat.testBit_two_pow_sub_one] at h1
      simp [hlt] at h1
    cases n with
    | zero => exact ⟨hr, hs⟩
    | succ n => exact ⟨fun _ => hs, fun i hi => by rw [hr] at hi; simp at hi⟩
  | .stop, n, C, listed, L, hC, hcl, hM => by
    refine ⟨fun h => by cases n <;> simp [dtOk] at h, fun m l e h s _ i hi => ?_⟩
    subst e
    have : l = [] := by simpa [dtOk] using h
    rw [this] at hi
    simp at hi
  | .take j C' T, 0, C, listed, L, hC, hcl, hM => ⟨fun h => by simp [dtOk] at h, fun m l e => by cases e⟩
  | .take j C' T, n + 1, C, listed, L, hC, hcl, hM => by
    refine ⟨fun h s hs => ?_, fun m l _ h => by simp [dtOk] at h⟩
    unfold dtOk at h
    split at h
    · rename_i x c hx hc
      obtain ⟨oj, hj, rfl⟩ := nth_infs hx
      split at h
      · cases h
      · rename_i d hd
        simp only [fNat_eq, Bool.and_eq_true] at h
        obtain ⟨⟨⟨⟨⟨⟨⟨hN, hself⟩, hCd⟩, hcf⟩, hbit⟩, hpr⟩, hall⟩, hcov, hT⟩ := h
        have hN : isN oj.op = true := hN
        have hd : oj.dst = some d := hd
        have hready : j ∈ Region.ready .any ops listed := mask_ready hM hj (by simpa using hbit) hpr (prLt_spec hP hj)
        have hnm : ∀ {d : Nat} {l : List Nat}, (!memN d l) = true → d ∉ l := fun h hm => by rw [memN_iff.2 hm] at h; cases h
        have hself' : d ∉ oj.looksAt ops := hnm hself
        have hCd' : ∀ k ∈ C, ∀ ok, ops[k]? = some ok → d ∉ ok.looksAt ops ∧ ok.dst ≠ some d := fun k hk ok hok => by
          have := List.all_eq_true.1 hCd k hk
          rw [nth_infs_some hok] at this
          simp only [Bool.and_eq_true] at this
          refine ⟨hnm this.1, fun e => ?_⟩
          have h2 := this.2
          simp only [infOf, e, beq_self] at h2
          cases h2
        have hNC : NC ops (j :: C) := fun k hk ok ho => by
          rcases List.mem_cons.1 hk with rfl | hk
          · rw [hj] at ho; cases ho; exact hN
          · exact hC k hk ok ho
        have hcl' := hcl.add hA hready
        obtain ⟨ih, _⟩ := dt_sound hA hP hF hK T n C' (listed.setIfInBounds j true) (L ||| 2 ^ j) (allN_spec hall) hcl' (hM.add j)
        unfold awT at hs
        rw [nth_eq, Array.getElem?_toList, hj] at hs
        simp only at hs
        have hs' : awGuard E f ops.toList oj (awAny E f ops anc (j :: C) K n (listed.setIfInBounds j true)) s := awGuard_mono hs fun s' h' => awAny_weak n _ _ (covers_spec (hM.add j) hcov) (ih hT s' h')
        obtain ⟨x, hx', hk⟩ := nexec_of_guard hN (awAny_inv hNC hK _ _) hs'
        rw [hd] at hk
        refine awAny_take hA hC hK hj hN hd hself' hCd' n listed s x hcl (fun i oi hi hne hun hno => ?_) hready hx' hk
        have hrow := cfAll_spec hF j _ c (infs_get hj) (by rw [← nth_eq]; exact hc) hN
        have hcell := cfRow_spec hrow i _ (infs_get hi)
        rw [Nat.zero_add, Nat.zero_add] at hcell
        simp only [Bool.or_eq_true] at hcell
        have hilt : i < ops.size := (Array.getElem?_eq_some_iff.1 hi).1
        rcases hcell with ((h1 | h1) | h1) | h1
        · exact absurd (Nat.eq_of_beq_eq_true h1) hne
        · obtain ⟨e, q1, q2, q3⟩ := mem_preds.1 (memN_iff.1 h1)
          exact absurd q3 (hno e (by simpa using q1) q2)
        · have := List.all_eq_true.1 hcf i (memN_iff.1 h1)
          rw [hM.getT hilt, this] at hun
          cases hun
        · exact apartI_eq h1
    · cases h
  | .br i re C' T more, 0, C, listed, L, hC, hcl, hM => ⟨fun h => by simp [dtOk] at h, fun m l e => by cases e⟩
  | .br i re C' T more, n + 1, C, listed, L, hC, hcl, hM => by
    have main : ∀ left l, (match left with | none => readyI L 0 (infs ops) | some l => l) = l → dtOk (infs ops) (2 ^ ops.size - 1) anc cf (.br i re C' T more) (n + 1) C L left = true → ∀ s, awT E f ops.toList (.br i re C' T more) K s → i ∈ l ∧ ∀ k ∈ l, k ∈ Region.ready .any ops listed → ∀ ok, ops[k]? = some ok →
        awGuard E f ops.toList ok (fun s' => chk E f ops anc C k s' ∧ awAny E f ops anc C K n (listed.setIfInBounds k true) s') s := by
      intro left l hl h s hs
      unfold dtOk at h
      split at h
      · cases h
      · rename_i y hy
        obtain ⟨oi, hoi, rfl⟩ := nth_infs hy
        have h : (reOkI (infs ops) anc C re i (infOf ops oi) && allNI (infs ops) C' && memN i l && (coversI (infs ops) anc (L ||| 2 ^ i) C C' && dtOk (infs ops) (2 ^ ops.size - 1) anc cf T n C' (L ||| 2 ^ i) none) &&
          dtOk (infs ops) (2 ^ ops.size - 1) anc cf more (n + 1) C L (some (l.filter fun k => !Nat.beq k i))) = true := by
          cases left with
          | none => simp only at hl; subst hl; simp only [fNats_eq, fNat_eq] at h; exact h
          | some l' => simp only at hl; subst hl; simp only [fNat_eq] at h; exact h
        simp only [Bool.and_eq_true] at h
        obtain ⟨⟨⟨⟨hre, hall⟩, hmem⟩, hcov, hT⟩, hmore⟩ := h
        unfold awT at hs
        refine ⟨memN_iff.1 hmem, fun k hk hkr ok hok => ?_⟩
        by_cases e : k = i
        · subst e
          rw [hoi] at hok
          cases hok
          obtain ⟨ih, _⟩ := dt_sound hA hP hF hK T n C' (listed.setIfInBounds k true) (L ||| 2 ^ k) (allN_spec hall) (hcl.add hA hkr) (hM.add k)
          have h1 := hs.1
          rw [nth_eq, Array.getElem?_toList, hoi] at h1
          refine awGuard_mono h1 fun s' h' => ⟨fun c hc oc oi' q1 q2 q3 q4 => ?_, awAny_weak n _ _ (covers_spec (hM.add k) hcov) (ih hT s' h'.2)⟩
          rw [hoi] at q2
          cases q2
          have hr1 := List.all_eq_true.1 hre c hc
          rw [nth_infs_some q1] at hr1
          have q3' : disturbsI (infOf ops oc) (infOf ops oi) = true := q3
          simp only [q3', Bool.not_true, Bool.false_or, Bool.or_eq_true] at hr1
          rcases hr1 with hr1 | hr1
          · have hm : c ∈ re := memN_iff.1 hr1
            have : ∀ (re : List Nat), c ∈ re → reAll E f ops.toList re s' → reG E f ops.toList oc s' := by
              intro re
              induction re with
              | nil => intro hm; simp at hm
              | cons a re ihr =>
                intro hm ha
                rcases List.mem_cons.1 hm with rfl | hm
                · have := ha.1
                  rw [nth_eq, Array.getElem?_toList, q1] at this
                  exact this
                · exact ihr hm ha.2
            exact this re hm h'.1
          · exact absurd (memN_iff.1 hr1) q4
        · obtain ⟨_, ih⟩ := dt_sound hA hP hF hK more (n + 1) C listed L hC hcl hM
          refine ih n _ rfl hmore s hs.2 k ?_ hkr ok hok
          rw [List.mem_filter]
          exact ⟨hk, by rw [beq_ne e]; rfl⟩
    refine ⟨fun h s hs => ?_, fun m l e h s hs k hk hkr ok hok => ?_⟩
    · obtain ⟨m1, m2⟩ := main none _ rfl h s hs
      have back : ∀ k, k ∈ readyI L 0 (infs ops) → k ∈ Region.ready .any ops listed := fun k hk => by
        obtain ⟨j, x, q1, q2, q3, q4⟩ := readyI_spec.1 hk
        rw [Nat.zero_add] at q1
        subst q1
        rw [← nth_eq] at q2
        obtain ⟨o, ho, rfl⟩ := nth_infs q2
        exact mask_ready hM ho q3 q4 (prLt_spec hP ho)
      have forth : ∀ k, k ∈ Region.ready .any ops listed → k ∈ readyI L 0 (infs ops) := fun k hk => by
        obtain ⟨h1, o, ho, hall⟩ := mem_ready.1 hk
        have hlt : k < ops.size := (Array.getElem?_eq_some_iff.1 ho).1
        refine readyI_spec.2 ⟨k, infOf ops o, by omega, infs_get ho, by rw [← hM.getT hlt]; exact h1, List.all_eq_true.2 fun e he => ?_⟩
        obtain ⟨ed, q1, q2, rfl⟩ := mem_preds.1 he
        have h2 := hall ed (by simpa using q1) q2
        rw [hM.getT (prLt_spec hP ho ed (by simpa using q1) q2)] at h2
        exact h2
      refine ⟨fun h0 => ?_, fun k hk ok hok => m2 k (forth k hk) hk ok hok⟩
      have := back i m1
      rw [h0] at this
      simp at this
    · cases e
      exact (main (some l) l rfl h s hs).2 k hk hkr ok hok

/-! ### Into the model's machine -/

theorem awAny_wpIn {R : Realm} {w : World} {β : Nat → Nat} {F : Fence} {Qc : Exit → Act → World → Prop} {C : List Nat} (hQ : ∀ a' w', OpRes E R w β s K a' w' → Qc .normal a' w') :
    ∀ (n : Nat) (listed : Array Bool) (R1 : Realm) (w1 : World) (β1 : Nat → Nat) (s1 : St) (a1 : Act), Rep E R1 w1 β1 s1 a1 → Step R w β s.boxes R1 w1 β1 s1.boxes → s1.ro = s.ro → FenceOk R1 s1.ro F →
      awAny E f ops anc C K n listed s1 → wpAnyIn F 0 E.P .any ops Qc n listed a1 w1
  | 0, listed, R1, w1, β1, s1, a1, hr, hst, hro, _, ha => ⟨ha.1, hQ _ _ ⟨s1, R1, β1, ha.2, hr, hst, hro⟩⟩
  | n + 1, listed, R1, w1, β1, s1, a1, hr, hst, hro, hf, ha => by
    refine ⟨fun h0 => hQ _ _ ⟨s1, R1, β1, ha.1 h0, hr, hst, hro⟩, fun i hi => ?_⟩
    obtain ⟨_, o, ho, _⟩ := mem_ready.1 hi
    unfold wpOpIn
    simp only [ho]
    refine awGuard_wpIn hr hf (ha.2 i hi o ho) _ ?_
    rintro a' w' ⟨s', R', β', q1, q2, q3, q4⟩
    exact awAny_wpIn hQ n _ R' w' β' s' a' q2 (hst.trans q3) (q4.trans hro) (by rw [q4]; exact hf.mono q3.ext) q1.2

theorem awGuardT_mono {K' : St → Prop} (hK : ∀ s, K s → K' s) : ∀ (T : DT) (s : St), awT E f ops.toList T K s → awT E f ops.toList T K' s
  | .done, s, h => hK s h
  | .stop, _, _ => trivial
  | .take j C T, s, h => by
    unfold awT at h ⊢
    split
    · rename_i oj hj
      rw [hj] at h
      exact awGuard_mono h fun s' h' => awGuardT_mono hK T s' h'
    · rename_i hj
      rw [hj] at h
      exact h
  | .br i re C T more, s, h => by
    unfold awT at h ⊢
    refine ⟨?_, awGuardT_mono hK more s h.2⟩
    have h := h.1
    split
    · rename_i oj hj
      rw [hj] at h
      exact awGuard_mono h fun s' h' => ⟨h'.1, awGuardT_mono hK T s' h'.2⟩
    · rename_i hj
      rw [hj] at h
      exact h

/-- What was printed of a drawn region: what each operation follows at last; what it is not apart from; a tree of choices. -/
structure DrawPlan where
  anc : List (List Nat)
  cf : List (List Nat)
  T : DT

def drawOk (ops : Array Oper) (p : DrawPlan) : Bool := fInfs (ops.toList.map (infOf ops)) fun I =>
  fNat ops.size fun n => fNat (2 ^ n - 1) fun N => ancAll (ancOf p.anc) 0 I && prLt n I && cfAll I 0 I p.cf && dtOk I N (ancOf p.anc) p.cf p.T n [] 0 none

theorem Rep.drawn {R : Realm} {w : World} {β : Nat → Nat} {a : Act} (h : Rep E R w β s a) : Rep E R { w with drawn := w.drawn + 1 } β s a ∧ Step R w β s.boxes R { w with drawn := w.drawn + 1 } β s.boxes := by
  have e : Ext R w R { w with drawn := w.drawn + 1 } := ⟨fun _ _ h => h, fun _ _ _ => rfl, fun _ ro h => ⟨ro, h, RoLe.refl ro⟩, KeepLp.refl w⟩
  refine ⟨⟨⟨h.g.len, fun id go ro h1 h2 => (h.g.obj id go ro h1 h2).mono e (fun _ _ => rfl) (fun _ _ _ h => h), h.g.inj, h.g.wf, fun g cs hg => (h.g.glob g cs hg).mono e⟩, ?_, h.t.mono e, h.n, h.d⟩, ?_⟩
  · exact h.b.keep e (fun _ _ _ => rfl) (fun _ _ _ _ h => h) (fun _ _ _ h => h)
  · exact ⟨e, rfl, rfl, rfl, Nat.le_refl _, fun _ _ _ => rfl, fun _ _ h => h, fun _ _ h _ _ => h⟩

theorem AWp.draw {id : Nat} {p : DrawPlan} {Q : Exit → St → Prop} (hok : drawOk ops p = true) (h : awT E f ops.toList p.T (Q .normal) s) : AWp E (.region id ops true) Q s := fun R w β a F hr hf => by
  simp only [drawOk, fInfs_eq, fNat_eq, Bool.and_eq_true] at hok
  obtain ⟨⟨⟨hA, hP⟩, hF⟩, hT⟩ := hok
  refine wpIn_region_any E.mixed ?_
  obtain ⟨q1, q2⟩ := hr.drawn
  have hK : Inv (fun s => ∃ u, Eqv u s ∧ Q .normal u) := fun s t e ⟨u, h1, h2⟩ => ⟨u, h1.trans e, h2⟩
  have h' := awGuardT_mono (K' := fun s => ∃ u, Eqv u s ∧ Q .normal u) (fun s h => ⟨s, Eqv.refl s, h⟩) p.T s h
  have hcl : Closed (ancOf p.anc) (Array.replicate ops.size false) := fun i hi => by
    rw [Array.getD_eq_getD_getElem?, Array.getElem?_replicate] at hi
    split at hi <;> cases hi
  have hany := (dt_sound (E := E) (f := f) (ancOk_spec hA) hP hF hK p.T ops.size [] (Array.replicate ops.size false) 0 (fun k hk => by simp at hk) hcl ⟨by simp, fun i hi => by simp [hi]⟩).1 hT s h'
  refine awAny_wpIn (R := R) (w := w) (β := β) (s := s) (f := f) (K := fun s => ∃ u, Eqv u s ∧ Q .normal u) ?_ _ _ R _ β s a q1 q2 rfl hf hany
  rintro a' w' ⟨s', R', β', ⟨u, e, hu⟩, h2, h3, h4⟩
  exact ⟨u, R', β', hu, h2.eqv e.symm, h3.eqv rfl e.symm.b, e.ro.trans h4⟩

end
end Go.Am
