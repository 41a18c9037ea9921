/- The abstract machine: regions whose order the tape draws. -/
import Derived.Test.YtophnjjjmikmeaaGreatAmKI
set_option linter.all false
namespace Go.Am
open Go
def FJ (dst : Option Tmp) (s t s' t' : St) : Prop := ∃ x, s' = s.put dst x ∧ t' = t.put dst x
section
variable {E : Env} {s t : St} {o : Oper}
theorem FJ.put (_ : s.n = t.n) (dst : Option Tmp) (x : SV) : FJ dst s t (s.put dst x) (t.put dst x) := ⟨x, rfl, rfl⟩
theorem zC {f : FuncId} {c : Bool} {s' : St} (hN : pO o.op = true) (hR : Lk o.op = false) (hn : s.n = t.n) (dm : ∀ y ∈ o.op.operands, ba E s.ae y = ba E t.ae y)
    (h : ak E f s o = some (c, s')) : ∃ t', ak E f t o = some (c, t') ∧ FJ o.dst s t s' t' := by
  obtain ⟨dst, op, ty, pos, after, guard⟩ := o
  cases op
  case move x =>
    simp only [ak, dm x (by simp [Op.operands])] at h ⊢
    split at h
    all_goals (injection h with h; injection h with h1 h2; subst h1 h2; (try simp only [*]); exact ⟨_, rfl, .put hn _ _⟩)
  case assign x =>
    simp only [ak, dm x (by simp [Op.operands])] at h ⊢
    split at h
    all_goals (injection h with h; injection h with h1 h2; subst h1 h2; (try simp only [*]); exact ⟨_, rfl, .put hn _ _⟩)
  case pick x y z =>
    simp only [ak, dm x (by simp [Op.operands]), dm y (by simp [Op.operands]), dm z (by simp [Op.operands])] at h ⊢
    split at h
    · injection h with h; injection h with h1 h2; subst h1 h2; (try simp only [*]); exact ⟨_, rfl, .put hn _ _⟩
    · cases h
  case build ty ps =>
    have he : ku E s ty ps.toList = ku E t ty ps.toList := by
      unfold ku
      rw [ki (fun p hp => dm p.2 (by simp only [Op.operands, List.mem_toArray, List.mem_map]; exact ⟨p, hp, rfl⟩))]
    simp only [ak, he] at h ⊢
    split at h
    · injection h with h; injection h with h1 h2; subst h1 h2; (try simp only [*]); exact ⟨_, rfl, .put hn _ _⟩
    · cases h
  case buildSlice ty len ps =>
    have he : bN E s ty len ps.toList = bN E t ty len ps.toList := by
      unfold bN
      rw [ki (fun p hp => dm p.2 (by simp only [Op.operands, List.mem_toArray, List.mem_map]; exact ⟨p, hp, rfl⟩))]
    simp only [ak, he] at h ⊢
    split at h
    · injection h with h; injection h with h1 h2; subst h1 h2; (try simp only [*]); exact ⟨_, rfl, .put hn _ _⟩
    · cases h
  case binOp op a x y b =>
    simp only [ak, dm x (by simp [Op.operands]), dm y (by simp [Op.operands])] at h ⊢
    repeat' (split at h)
    all_goals (first | (cases h; done) | skip)
    all_goals (injection h with h; injection h with h1 h2; subst h1 h2; (try simp only [*]); exact ⟨_, rfl, .put hn _ _⟩)
  case unOp op a x =>
    simp only [ak, dm x (by simp [Op.operands])] at h ⊢
    repeat' (split at h)
    all_goals (first | (cases h; done) | skip)
    all_goals (injection h with h; injection h with h1 h2; subst h1 h2; (try simp only [*]); exact ⟨_, rfl, .put hn _ _⟩)
  case convert a b x => simp [Lk] at hR
  case nilCheck x =>
    simp only [ak, dm x (by simp [Op.operands])] at h ⊢
    repeat' (split at h)
    all_goals (first | (cases h; done) | skip)
    all_goals (injection h with h; injection h with h1 h2; subst h1 h2; (try simp only [*]); exact ⟨_, rfl, .put hn _ _⟩)
  case makeFunc fo a b =>
    cases fo with
    | func g =>
      have h1 : js E s.ae a.toList = js E t.ae a.toList := eN fun y hy => dm y (by simp only [Op.operands, Array.mem_append]; exact .inl (by simpa using hy))
      have h2 : js E s.ae b.toList = js E t.ae b.toList := eN fun y hy => dm y (by simp only [Op.operands, Array.mem_append]; exact .inr (by simpa using hy))
      simp only [ak, h1, h2] at h ⊢
      repeat' (split at h)
      all_goals (first | (cases h; done) | skip)
      all_goals (injection h with h; injection h with h1 h2; subst h1 h2; (try simp only [*]); exact ⟨_, rfl, .put hn _ _⟩)
    | _ => simp [ak] at h
  case fieldAddr a x j =>
    simp only [ak, dm x (by simp [Op.operands])] at h ⊢
    repeat' (split at h)
    all_goals (first | (cases h; done) | skip)
    all_goals (injection h with h; injection h with h1 h2; subst h1 h2; (try simp only [*]); exact ⟨_, rfl, .put hn _ _⟩)
  case field a x j =>
    simp only [ak, dm x (by simp [Op.operands])] at h ⊢
    repeat' (split at h)
    all_goals (first | (cases h; done) | skip)
    all_goals (injection h with h; injection h with h1 h2; subst h1 h2; (try simp only [*]); exact ⟨_, rfl, .put hn _ _⟩)
  case indexAddr a x y =>
    simp only [ak, dm x (by simp [Op.operands]), dm y (by simp [Op.operands])] at h ⊢
    repeat' (split at h)
    all_goals (first | (cases h; done) | skip)
    all_goals (injection h with h; injection h with h1 h2; subst h1 h2; (try simp only [*]); exact ⟨_, rfl, .put hn _ _⟩)
  case index a x y =>
    simp only [ak, dm x (by simp [Op.operands]), dm y (by simp [Op.operands])] at h ⊢
    repeat' (split at h)
    all_goals (first | (cases h; done) | skip)
    all_goals (injection h with h; injection h with h1 h2; subst h1 h2; (try simp only [*]); exact ⟨_, rfl, .put hn _ _⟩)
  case slice a x lo hi mx =>
    have h1 : jl E s.ae lo = jl E t.ae lo := by
      cases lo with
      | none => rfl
      | some y => simp only [jl]; rw [dm y (by simp [Op.operands])]
    have h2 : jl E s.ae hi = jl E t.ae hi := by
      cases hi with
      | none => rfl
      | some y => simp only [jl]; rw [dm y (by simp [Op.operands])]
    simp only [ak, dm x (by simp [Op.operands]), h1, h2] at h ⊢
    repeat' (split at h)
    all_goals (first | (cases h; done) | skip)
    all_goals (injection h with h; injection h with h1 h2; subst h1 h2; (try simp only [*]); exact ⟨_, rfl, .put hn _ _⟩)
  case extract x i =>
    simp only [ak, dm x (by simp [Op.operands])] at h ⊢
    repeat' (split at h)
    all_goals (first | (cases h; done) | skip)
    all_goals (injection h with h; injection h with h1 h2; subst h1 h2; (try simp only [*]); exact ⟨_, rfl, .put hn _ _⟩)
  all_goals (first | (simp [pO] at hN; done) | (simp [Lk] at hR; done))
end
end Go.Am
namespace Go.Am
open Go
section
variable {E : Env} {s t : St} {f : FuncId} {ops : Array Oper} {o oj oi : Oper} {d : Tmp} {x : SV} {K : St → Prop}
theorem FK (ops : Array Oper) (j : Nat) : lP ops.toList j = (ops[j]?).bind (·.dst) := by
  unfold lP
  rw [aD, Array.getElem?_toList]
  cases ops[j]? <;> rfl
theorem kL {e : Tmp} (h : .tmp e ∈ o.op.operands) : e ∈ o.looksAt ops :=
  List.mem_append_left _ (List.mem_filterMap.2 ⟨.tmp e, by simpa using h, rfl⟩)
theorem hH {j : Nat} {want : Bool} {e : Tmp} (h : o.guard = some (j, want)) (he : lP ops.toList j = some e) : e ∈ o.looksAt ops := by
  rw [FK] at he
  refine List.mem_append_right _ ?_
  rw [h]
  simp [he]
theorem iT (h : ∀ e ∈ o.looksAt ops, lk s.ae e = lk t.ae e) : ∀ y ∈ o.op.operands, ba E s.ae y = ba E t.ae y := fun _ hy =>
  FI fun e he => h e (kL (he ▸ hy))
theorem iD (h : ∀ e ∈ o.looksAt ops, lk s.ae e = lk t.ae e) : yG ops.toList s o = yG ops.toList t o := by
  unfold yG
  split
  · rfl
  · rename_i j want hg
    split
    · rename_i e he
      rw [h e (hH hg he)]
    · rfl
theorem sg (s : St) (d : Tmp) (x : SV) {e : Nat} (h : d ≠ e) : lk (s.put (some d) x).ae e = lk s.ae e := by
  simp only [St.put]
  split
  · exact aC h
  · rfl
theorem eB (s : St) (d : Option Tmp) (x : SV) : (s.put d x).boxes = s.boxes ∧ (s.put d x).G = s.G ∧ (s.put d x).n = s.n ∧ (s.put d x).marks = s.marks ∧ (s.put d x).ro = s.ro := by
  cases d with
  | none => exact ⟨rfl, rfl, rfl, rfl, rfl⟩
  | some d =>
    simp only [St.put]
    split <;> exact ⟨rfl, rfl, rfl, rfl, rfl⟩
def tH (E : Env) (f : FuncId) (ops : Array Oper) (o : Oper) (s : St) (x : SV) : Prop :=
  (yG ops.toList s o = some true ∧ ak E f s o = some (true, s.put o.dst x)) ∨ (yG ops.toList s o = some false ∧ x = .v ea)
theorem FL {c : Bool} {s' : St} (hN : pO o.op = true) (h : ak E f s o = some (c, s')) : ∃ x, s' = s.put o.dst x := by
  obtain ⟨t', _, pre, preB, G, _, h2, _, _⟩ := fB (t := s) rfl rfl rfl (fun _ _ => rfl) h
  obtain ⟨_, _, x, hx, _⟩ := h2 (by simp [hN])
  exact ⟨x, hx⟩
theorem FM (hN : pO o.op = true) : ir E f o K s ↔ ∃ s', ak E f s o = some (true, s') ∧ K s' := by
  unfold ir
  split
  · rename_i h
    rw [h] at hN
    simp [pO] at hN
  · rename_i h
    rw [h] at hN
    simp [pO] at hN
  · split
    · rename_i c s' hs
      constructor
      · intro h
        obtain ⟨rfl, hk⟩ := h.out
        exact ⟨s', hs, hk⟩
      · rintro ⟨xp, h1, h2⟩
        rw [hs] at h1
        cases h1
        exact cL.mk rfl h2
    · rename_i hs
      constructor
      · exact fun h => h.elim
      · rintro ⟨xp, h1, _⟩
        rw [hs] at h1
        cases h1
theorem tJ (hN : pO o.op = true) (hK : Inv K) (h : bO E f ops.toList o K s) : ∃ x, tH E f ops o s x ∧ K (s.put o.dst x) := by
  rcases (eA hK).1 h with ⟨h1, h2⟩ | ⟨h1, h2⟩
  · obtain ⟨s', h3, h4⟩ := (FM hN).1 h2
    obtain ⟨x, rfl⟩ := FL hN h3
    exact ⟨x, .inl ⟨h1, h3⟩, h4⟩
  · exact ⟨_, .inr ⟨h1, rfl⟩, h2⟩
theorem tK (hN : pO o.op = true) (hK : Inv K) (hx : tH E f ops o s x) (h : K (s.put o.dst x)) : bO E f ops.toList o K s := by
  rw [eA hK]
  rcases hx with ⟨h1, h2⟩ | ⟨h1, rfl⟩
  · exact .inl ⟨h1, (FM hN).2 ⟨_, h2, h⟩⟩
  · exact .inr ⟨h1, h⟩
def Bu (E : Env) (f : FuncId) (ops : List Oper) (o : Oper) (s : St) : Prop := match yG ops s o with
  | some true => match o.dst, ak E f s o with
    | some d, some (c, s') => c = true ∧ lk s'.ae d = lk s.ae d
    | _, _ => False
  | some false => True
  | none => False
theorem Io (hN : pO o.op = true) (hd : d ∉ o.looksAt ops) (bS : o.dst ≠ some d) (he : ∀ e, d ≠ e → lk s.ae e = lk t.ae e) (hB : cF s.boxes = cF t.boxes) (hG : s.G = t.G) (hn : s.n = t.n)
    (h : Bu E f ops.toList o s) : Bu E f ops.toList o t := by
  have hl : ∀ e ∈ o.looksAt ops, lk s.ae e = lk t.ae e := fun e hm => he e fun k => hd (k ▸ hm)
  unfold Bu at h ⊢
  rw [← iD hl]
  split
  · rename_i hg
    rw [hg] at h
    simp only at h
    split at h
    · rename_i e c s' D1 hs
      obtain ⟨t', h3, pre, preB, G, _, h4, _, _⟩ := fB hn hG hB (iT hl) hs
      obtain ⟨_, _, y, h5, h6⟩ := h4 (by simp [hN])
      rw [D1, h3]
      refine ⟨h.1, ?_⟩
      have Uc : d ≠ e := fun k => bS (by rw [D1, k])
      have h7 := h.2
      rw [h5, D1] at h7
      rw [h6, D1, ← he e Uc]
      simp only [St.put, ← hn] at h7 ⊢
      split
      · rename_i hb
        rw [hb] at h7
        simp only [ar] at h7 ⊢
        exact h7
      · exact (he e Uc).symm
    · exact h.elim
  · trivial
  · rename_i hg
    rw [hg] at h
    exact h
theorem Ip (hN : pO o.op = true) (e : mD s t) (h : Bu E f ops.toList o s) : Bu E f ops.toList o t := by
  unfold Bu at h ⊢
  rw [← xD e]
  split
  · rename_i hg
    rw [hg] at h
    simp only at h
    split at h
    · rename_i d c s' D1 hs
      obtain ⟨t', h3, pre, preB, G, _, h4, _, _⟩ := fB e.n e.G e.b (fun y _ => e.ba y) hs
      obtain ⟨_, _, y, h5, h6⟩ := h4 (by simp [hN])
      rw [D1, h3]
      refine ⟨h.1, ?_⟩
      rw [h6, ← (e.put o.dst y).l, ← h5, ← e.l]
      exact h.2
    · exact h.elim
  · trivial
  · rename_i hg
    rw [hg] at h
    exact h
def gI (oj oi : Oper) : Bool := bI oi.op || (Lk oj.op && !pO oi.op)
theorem FN {al : Bool} {dst : Option Tmp} {pre : aT} (h : Og al dst pre) {e : Nat} (he : dst ≠ some e) (l : aT) : lk (pre ++ l) e = lk l e ∨ (al = true ∧ ∃ k off, lk l e = .lp k off) := by
  rcases h with rfl | ⟨d, y, rfl, rfl | ⟨rfl, rfl⟩⟩
  · exact .inl rfl
  · exact .inl (aC fun k => he (by rw [k]))
  · simp only [List.cons_append, List.nil_append]
    rw [aC (fun k => he (by rw [k]))]
    simp only [lk]
    cases hl : lk l e with
    | lp k off => exact .inr ⟨trivial, k, off, rfl⟩
    | _ => exact .inl rfl
theorem oU {al : Bool} {pre : aT} (preB : bU) (G : List GO) (h : Og al oi.dst pre) (bS : oi.dst ≠ some d) (hx : al = false ∨ ∃ a, x = .v a) : mD ((s.put (some d) x).dO pre preB G) ((s.dO pre preB G).put (some d) x) := by
  have hb : ∀ b, Nat.blt d s.n = b → mD ((s.put (some d) x).dO pre preB G) ((s.dO pre preB G).put (some d) x) := fun b hb => by
    have gE : Nat.blt d (s.dO pre preB G).n = b := hb
    rw [jx, jx, hb, gE]
    cases b with
    | false => exact mD.refl _
    | true =>
      refine ⟨funext fun e => ?_, rfl, rfl, rfl, rfl, rfl⟩
      simp only [cond_true, St.dO, List.cons_append, List.nil_append]
      by_cases k : d = e
      · subst k
        rw [ar]
        rcases FN h bS (.put d x :: s.ae) with h1 | ⟨h1, k, off, h2⟩
        · rw [h1, ar]
        · rw [ar] at h2
          rcases hx with hx | ⟨a, hx⟩
          · rw [hx] at h1; cases h1
          · rw [hx] at h2; cases h2
      · rw [aC k]
        exact kj (aC k) pre
  exact hb _ rfl
theorem D2 (hN : pO oj.op = true) (CL : oj.dst = some d) (zD : d ∉ oj.looksAt ops) (Ig : oj.apart ops oi = true) (hK : Inv K) (hx : tH E f ops oj s x) {pre : aT} {preB : bU} {G : List GO}
    (zE : Og (bI oi.op) oi.dst pre) (Po : pO oi.op = true → preB = [] ∧ G = s.G) (hk : K ((s.put (some d) x).dO pre preB G)) (KX : ∀ t', K t' → gI oj oi = true → Bu E f ops.toList oj t') :
    ∃ x', tH E f ops oj (s.dO pre preB G) x' ∧ K ((s.dO pre preB G).put (some d) x') := by
  obtain ⟨_, bS, s6⟩ := Oper.apart_spec Ig
  have A4 : oi.dst ≠ some d := bS d CL
  have oV : ∀ e ∈ oj.looksAt ops, oi.dst ≠ some e := fun e he k => s6 e k he
  have qK : ∀ e ∈ oj.looksAt ops, (bI oi.op = false ∨ ∃ b, lk s.ae e = .v b) → lk s.ae e = lk (s.dO pre preB G).ae e := fun e he ha => by
    rcases FN zE (oV e he) s.ae with h1 | ⟨h1, k, off, h2⟩
    · exact h1.symm
    · rcases ha with ha | ⟨b, ha⟩
      · rw [ha] at h1; cases h1
      · rw [ha] at h2; cases h2
  have Iq : ∀ b, yG ops.toList s oj = some b → yG ops.toList (s.dO pre preB G) oj = some b := fun b hb => by
    unfold yG at hb ⊢
    split
    · rename_i hg; rw [hg] at hb; exact hb
    · rename_i j want hg
      rw [hg] at hb
      simp only at hb
      split
      · rename_i e he
        rw [he] at hb
        simp only at hb
        split at hb
        · rename_i b' hl
          have := qK e (hH hg he) (.inr ⟨_, hl⟩)
          rw [← this, hl]
          exact hb
        · rename_i hl
          have := qK e (hH hg he) (.inr ⟨_, hl⟩)
          rw [← this, hl]
          exact hb
        · cases hb
      · rename_i he; rw [he] at hb; cases hb
  rcases hx with ⟨h1, h2⟩ | ⟨h1, rfl⟩
  · rw [CL] at h2
    by_cases Sj : gI oj oi = true
    · have hr := KX _ hk Sj
      -- the state with the slot, and the one without it
      have qe : ∀ e, d ≠ e → lk ((s.put (some d) x).dO pre preB G).ae e = lk (s.dO pre preB G).ae e := fun e he => kj (sg s d x he) pre
      have hB : cF ((s.put (some d) x).dO pre preB G).boxes = cF (s.dO pre preB G).boxes := by
        simp only [St.dO]; rw [(eB s _ x).1]
      have hn : ((s.put (some d) x).dO pre preB G).n = (s.dO pre preB G).n := (eB s _ x).2.2.1
      have Ll : ∀ e ∈ oj.looksAt ops, lk ((s.put (some d) x).dO pre preB G).ae e = lk (s.dO pre preB G).ae e := fun e he => qe e fun k => zD (k ▸ he)
      have VY : yG ops.toList ((s.put (some d) x).dO pre preB G) oj = some true := by rw [iD Ll]; exact Iq _ h1
      unfold Bu at hr
      rw [VY] at hr
      simp only [CL] at hr
      split at hr
      · rename_i d' c s' Cq hs
        cases Cq
        obtain ⟨rfl, hr⟩ := hr
        obtain ⟨t', h3, p, pB, G2, _, h4, _, _⟩ := fB (t := s.dO pre preB G) hn rfl hB (iT Ll) hs
        obtain ⟨_, _, y, h5, h6⟩ := h4 (by simp [hN])
        rw [h6] at h3
        rw [h5, CL] at hr
        refine ⟨y, .inl ⟨Iq _ h1, h3⟩, hK _ _ ?_ hk⟩
        have Ud : ((s.put (some d) x).dO pre preB G).marks = (s.dO pre preB G).marks ∧ ((s.put (some d) x).dO pre preB G).ro = (s.dO pre preB G).ro := (eB s _ x).2.2.2
        obtain ⟨q1, q2, q3, q4, q5⟩ := eB (s.dO pre preB G) (some d) y
        refine ⟨funext fun e => ?_, by rw [q1]; exact hB, by rw [q2]; rfl, by rw [q4]; exact Ud.1, by rw [q5]; exact Ud.2, by rw [q3]; exact hn⟩
        by_cases k : d = e
        · subst k
          rw [← hr]
          have hb : ∀ b, Nat.blt d s.n = b → lk (((s.put (some d) x).dO pre preB G).put (some d) y).ae d = lk ((s.dO pre preB G).put (some d) y).ae d := fun b hb => by
            have Lm : Nat.blt d (s.dO pre preB G).n = b := hb
            have Bv : Nat.blt d ((s.put (some d) x).dO pre preB G).n = b := by rw [hn]; exact hb
            rw [jx _ d y, jx _ d y, Lm, Bv]
            cases b with
            | true => simp [St.dO, ar]
            | false =>
              simp only [cond_false]
              rw [jx, hb]
              rfl
          exact hb _ rfl
        · rw [sg _ _ _ k]
          exact qe e k
      · exact hr.elim
    · have D3 : bI oi.op = false := by cases ha : bI oi.op <;> simp_all [gI]
      have hl : ∀ e ∈ oj.looksAt ops, lk s.ae e = lk (s.dO pre preB G).ae e := fun e he => qK e he (.inl D3)
      have fin : ∀ y, s.put (some d) x = s.put (some d) y → ak E f (s.dO pre preB G) oj = some (true, (s.dO pre preB G).put oj.dst y) →
          ∃ x', tH E f ops oj (s.dO pre preB G) x' ∧ K ((s.dO pre preB G).put (some d) x') := fun y hy hs => by
        refine ⟨y, .inl ⟨Iq _ h1, hs⟩, hK _ _ (oU (oi := oi) preB G zE A4 (.inl D3)) ?_⟩
        rw [← hy]
        exact hk
      cases VZ : pO oi.op with
      | true =>
        obtain ⟨rfl, rfl⟩ := Po VZ
        obtain ⟨t', h3, p, pB, G2, _, h4, _, _⟩ := fB (s := s) (t := s.dO pre [] s.G) rfl rfl rfl (iT hl) h2
        obtain ⟨_, _, y, h5, h6⟩ := h4 (by simp [hN])
        rw [CL] at h5
        exact fin y h5 (by rw [h3, h6])
      | false =>
        have hR : Lk oj.op = false := by cases ha : Lk oj.op <;> simp_all [gI]
        obtain ⟨t', h3, y, h5, h6⟩ := zC (s := s) (t := s.dO pre preB G) hN hR rfl (iT hl) h2
        rw [CL] at h5
        exact fin y h5 (by rw [h3, h6])
  · exact ⟨_, .inr ⟨Iq _ h1, rfl⟩, hK _ _ (oU (oi := oi) preB G zE A4 (.inr ⟨_, rfl⟩)) hk⟩
end
end Go.Am
namespace Go.Am
open Go
section
variable {E : Env} {s t : St} {o : Oper}
def fC (E : Env) (s : St) (o : Oper) (s' : St) : Prop :=
  (s'.ae = s.ae ∨ ∃ d x, o.dst = some d ∧ (s'.ae = .put d x :: s.ae ∨ s'.ae = .put d x :: .kill d :: s.ae) ∧ ∀ k off, x = .lp k off → (∃ y ∈ o.op.operands, ∃ dT, ba E s.ae y = .lp k dT) ∨ (bI o.op = true ∧ k = d)) ∧
  (s'.boxes = s.boxes ∨ ∃ k cs, s'.boxes = (k, cs) :: s.boxes ∧ ((bI o.op = true ∧ o.dst = some k) ∨ ∃ y ∈ o.op.operands, ∃ off, ba E s.ae y = .lp k off))
theorem jy {s1 : St} (h1 : s1.ae = s.ae) (h2 : s1.boxes = s.boxes) {x : SV} (hx : ∀ k off, x = .lp k off → ∃ y ∈ o.op.operands, ∃ dT, ba E s.ae y = .lp k dT) : fC E s o (s1.put o.dst x) := by
  refine ⟨?_, .inl (by rw [(eB s1 o.dst x).1, h2])⟩
  cases hd : o.dst with
  | none => exact .inl h1
  | some d =>
    simp only [St.put]
    split
    · exact .inr ⟨d, x, rfl, .inl (by rw [h1]), fun k off h => .inl (hx k off h)⟩
    · exact .inl h1
theorem ib {s1 : St} (h1 : s1.ae = s.ae) (h2 : s1.boxes = s.boxes) (a : AV) : fC E s o (s1.put o.dst (.v a)) := jy h1 h2 fun k off h => by cases h
theorem gJ {s1 : St} (h1 : s1.ae = s.ae) (h2 : s1.boxes = s.boxes) : fC E s o s1 := ⟨.inl h1, .inl h2⟩
theorem Ir {k : Nat} {cs : List AV} (h : ∃ y ∈ o.op.operands, ∃ off, ba E s.ae y = .lp k off) : fC E s o (s.qC k cs) := ⟨.inl rfl, .inr ⟨k, cs, rfl, .inr h⟩⟩
theorem zF {n : Nat} {x : SV} {k off : Nat} (h : vI n x = some (.lp k off)) : ∃ dT, x = .lp k dT := by
  unfold vI at h
  split at h <;> cases h
  exact ⟨_, rfl⟩
theorem vA {ty : TypeId} {x : SV} {j k off : Nat} (h : iG E ty x j = some (.lp k off)) : ∃ dT, x = .lp k dT := by
  unfold iG at h
  repeat' (split at h)
  all_goals (first | (cases h; done) | exact zF h)
theorem vB {ty : TypeId} {x ix : SV} {c : Bool} {k off : Nat} (h : iF E ty x ix = some (c, .lp k off)) : ∃ dT, x = .lp k dT := by
  unfold iF at h
  repeat' (split at h)
  all_goals (first | (cases h; done) | skip)
  rename_i hm
  injection h with h; injection h with h1 h2; subst h2
  exact zF hm
theorem Bw {ty : TypeId} {p x : SV} {s' : St} (hp : ∀ k off, p = .lp k off → ∃ y ∈ o.op.operands, ∃ dT, ba E s.ae y = .lp k dT) (h : eU E s ty p x = some s') : fC E s o s' := by
  unfold eU at h
  repeat' (split at h)
  all_goals (first | (cases h; done) | skip)
  · cases h; exact Ir (hp _ _ rfl)
  · cases h; exact gJ rfl rfl
theorem Bx {ty : TypeId} {p x : SV} {c : Bool} {s' : St} (hp : ∀ k off, p = .lp k off → ∃ y ∈ o.op.operands, ∃ dT, ba E s.ae y = .lp k dT) (h : dy E s ty p x = some (c, s')) : fC E s o s' := by
  unfold dy at h
  repeat' (split at h)
  all_goals (first | (cases h; done) | skip)
  · injection h with h; injection h with h1 h2; subst h2; exact gJ rfl rfl
  · injection h with h; injection h with h1 h2; subst h2; exact gJ rfl rfl
  · injection h with h; injection h with h1 h2; subst h2; exact gJ rfl rfl
  · injection h with h; injection h with h1 h2; subst h2; exact gJ rfl rfl
  · rename_i hs
    injection h with h; injection h with h1 h2; subst h2; exact Bw hp hs
theorem By {ty : TypeId} {p x : SV} {c : Bool} {s' : St} (hp : ∀ k off, p = .lp k off → ∃ y ∈ o.op.operands, ∃ dT, ba E s.ae y = .lp k dT) (h : gT E s ty p x = some (c, s')) : fC E s o s' := by
  unfold gT at h
  split at h
  · rename_i hs
    injection h with h; injection h with e1 e2
    subst e2
    exact Bx (s := s.aX (nq s p x).2.2) hp hs
  · cases h
theorem qZ {ty : TypeId} {m k x : SV} {s' : St} (h : dI E s ty m k x = some s') : fC E s o s' := by
  unfold dI at h
  repeat' (split at h)
  all_goals (first | (cases h; done) | skip)
  cases h; exact gJ rfl rfl
theorem D4 {x : SV} {s' : St} (h : ju s o.dst x = some s') : fC E s o s' := by
  unfold ju at h
  split at h
  · split at h
    · rename_i l pos hg
      cases hb : Nat.blt pos l.length with
      | true =>
        rw [hb] at h
        simp only [cond_true] at h
        cases h
        exact ib rfl rfl _
      | false =>
        rw [hb] at h
        simp only [cond_false] at h
        cases h
        exact ib rfl rfl _
    · cases h
  · cases h
theorem xF {b : Builtin} {l : List AV} {tys : List TypeId} {c : Bool} {s' : St} (h : bG E s o.dst b l tys = some (c, s')) : fC E s o s' := by
  unfold bG at h
  cases b
  all_goals (try (cases h; done))
  all_goals (try simp only at h)
  all_goals (try (split at h <;> first | (cases h; done) | simp only at h))
  all_goals (repeat' (split at h))
  all_goals (first | (cases h; done) | skip)
  all_goals (injection h with h; injection h with h1 h2; subst h1 h2)
  all_goals (first | exact ib rfl rfl _ | exact gJ rfl rfl)
theorem D5 {f : FuncId} {c : Bool} {s' : St} (h : eY E f s o = some (c, s')) : fC E s o s' := by
  unfold eY at h
  repeat' (split at h)
  all_goals (first | (cases h; done) | skip)
  injection h with h; injection h with h2 h3
  subst h3
  exact ib rfl rfl _
theorem tL {f : FuncId} {el : TypeId} {cs : List AV} {c : Bool} {s' : St} (ha : bI o.op = true) (h : dH E f s o.dst el cs = some (c, s')) : fC E s o s' := by
  unfold dH at h
  split at h
  · cases h
  · rename_i d hd
    split at h
    · injection h with h; injection h with h1 h2; subst h2
      rw [← hd]
      exact ib rfl rfl _
    · split at h
      · rename_i hb
        injection h with h; injection h with h1 h2; subst h2
        refine ⟨.inr ⟨d, .lp d 0, hd, .inr ?_, fun k off h => by cases h; exact .inr ⟨ha, rfl⟩⟩, .inr ⟨d, cs, ?_, .inl ⟨ha, hd⟩⟩⟩
        · simp only [St.put, St.qC, St.kill, hb]
        · rw [(eB _ (some d) (.lp d 0)).1]; rfl
      · cases h
theorem Bz {f : FuncId} {c : Bool} {s' : St} (h : ak E f s o = some (c, s')) : fC E s o s' := by
  cases ho : o.op
  case move x =>
    simp only [ak, ho] at h
    split at h
    all_goals (injection h with h; injection h with h1 h2; subst h2)
    · exact ib rfl rfl _
    · rename_i k off hx
      exact jy rfl rfl fun k' dT e => by cases e; exact ⟨x, by rw [ho]; simp [Op.operands], _, hx⟩
    · exact jy rfl rfl fun k' dT e => by cases e
  case assign x =>
    simp only [ak, ho] at h
    split at h
    all_goals (injection h with h; injection h with h1 h2; subst h2)
    · exact ib rfl rfl _
    · rename_i k off hx
      exact jy rfl rfl fun k' dT e => by cases e; exact ⟨x, by rw [ho]; simp [Op.operands], _, hx⟩
    · exact jy rfl rfl fun k' dT e => by cases e
  case nilCheck x =>
    simp only [ak, ho] at h
    split at h
    · injection h with h; injection h with h1 h2; subst h2
      exact ib rfl rfl _
    · injection h with h; injection h with h1 h2; subst h2
      exact ib rfl rfl _
    · rename_i k off hx
      injection h with h; injection h with h1 h2; subst h2
      exact jy rfl rfl fun k' dT e => by cases e; exact ⟨x, by rw [ho]; simp [Op.operands], _, hx⟩
    · cases h
  case fieldAddr a x j =>
    simp only [ak, ho] at h
    split at h
    · rename_i p hp
      injection h with h; injection h with h1 h2; subst h2
      exact jy rfl rfl fun k' dT e => by subst e; exact ⟨x, by rw [ho]; simp [Op.operands], vA hp⟩
    · cases h
  case indexAddr a x y =>
    simp only [ak, ho] at h
    split at h
    · rename_i c' p hp
      injection h with h; injection h with h1 h2; subst h2
      exact jy rfl rfl fun k' dT e => by subst e; exact ⟨x, by rw [ho]; simp [Op.operands], vB hp⟩
    · cases h
  case alloc e =>
    simp only [ak, ho] at h
    repeat' (split at h)
    all_goals (first | (cases h; done) | skip)
    exact tL (by rw [ho]; rfl) h
  case box e x =>
    simp only [ak, ho] at h
    repeat' (split at h)
    all_goals (first | (cases h; done) | skip)
    exact tL (by rw [ho]; rfl) h
  case store ty x y =>
    simp only [ak, ho] at h
    split at h
    · rename_i hs
      injection h with h; injection h with h1 h2; subst h2
      exact By (fun k off e => ⟨x, by rw [ho]; simp [Op.operands], off, e⟩) hs
    · cases h
  case mapUpdate ty x y z =>
    simp only [ak, ho] at h
    split at h
    · rename_i hs
      injection h with h; injection h with h1 h2; subst h2
      exact qZ hs
    · cases h
  case insert ty x y z =>
    simp only [ak, ho] at h
    split at h
    · rename_i hs
      injection h with h; injection h with h1 h2; subst h2
      exact qZ hs
    · cases h
  case mapEntry ty x y =>
    simp only [ak, ho] at h
    split at h
    · rename_i hs
      injection h with h; injection h with h1 h2; subst h2
      unfold eE at hs
      repeat' (split at hs)
      all_goals (first | (cases hs; done) | skip)
      injection hs with hs; injection hs with h3 hs; injection hs with h4 h5
      subst h5
      exact ib rfl rfl _
    · cases h
  case entryStore ty x y z =>
    simp only [ak, ho] at h
    split at h
    · rename_i hs
      injection h with h; injection h with h1 h2; subst h2
      unfold dj at hs
      repeat' (split at hs)
      all_goals (first | (cases hs; done) | skip)
      injection hs with hs; injection hs with h3 h4
      subst h4
      exact gJ rfl rfl
    · cases h
  case next x b =>
    cases b with
    | false => simp [ak, ho] at h
    | true =>
      simp only [ak, ho] at h
      split at h
      · rename_i hs
        injection h with h; injection h with h1 h2; subst h2
        exact D4 hs
      · cases h
  case call cl =>
    obtain ⟨callee, args, tys⟩ := cl
    cases callee with
    | builtin b =>
      simp only [ak, ho] at h
      split at h
      · rename_i r hf
        cases h
        exact D5 hf
      · split at h
        · exact xF h
        · cases h
    | _ => simp [ak, ho] at h
  case makeFunc fo a b =>
    cases fo with
    | func g =>
      simp only [ak, ho] at h
      repeat' (split at h)
      all_goals (first | (cases h; done) | skip)
      injection h with h; injection h with h1 h2; subst h2
      exact ib rfl rfl _
    | _ => simp [ak, ho] at h
  case makeMap ty r =>
    cases r with
    | none =>
      simp only [ak, ho] at h
      injection h with h; injection h with h1 h2; subst h2
      exact ib rfl rfl _
    | some _ => simp [ak, ho] at h
  all_goals (first
    | (simp [ak, ho] at h; done)
    | (simp only [ak, kw, ho] at h; (repeat' (split at h)); (all_goals (first | (cases h; done) | skip)); (all_goals (injection h with h; injection h with h1 h2; subst h2)); (all_goals (exact ib rfl rfl _))))
def nJ (s : St) (d : Nat) (cs : List AV) : St := s.dO [.put d (.lp d 0), .kill d] [(d, cs)] s.G
theorem BA {f : FuncId} {d : Tmp} {c : Bool} {s1 : St} (D3 : bI o.op = true) (hd : o.dst = some d) (hg : E.sw f d = false) (h : ak E f s o = some (c, s1)) :
    c = true ∧ ∃ cs, s1 = nJ s d cs ∧ ∀ t : St, t.n = s.n → (∀ y ∈ o.op.operands, ∀ v, ba E s.ae y = .v v → ba E t.ae y = .v v) → ak E f t o = some (true, nJ t d cs) := by
  have key : ∀ (el : TypeId) (cs : List AV), dH E f s o.dst el cs = some (c, s1) → c = true ∧ s1 = nJ s d cs ∧ ∀ t : St, t.n = s.n → dH E f t o.dst el cs = some (true, nJ t d cs) := by
    intro el cs h
    unfold dH at h
    rw [hd] at h
    simp only [hg, Bool.false_eq_true, if_false] at h
    split at h
    · rename_i hb
      injection h with h; injection h with h1 h2; subst h1 h2
      refine ⟨rfl, ?_, fun t ht => ?_⟩
      · simp only [St.put, St.qC, St.kill, hb, nJ, St.dO]; rfl
      · unfold dH
        rw [hd]
        simp only [hg, Bool.false_eq_true, if_false, ht, hb]
        simp only [St.put, St.qC, St.kill, ht, hb, nJ, St.dO]; rfl
    · cases h
  cases ho : o.op
  case alloc e =>
    simp only [ak, ho] at h ⊢
    split at h
    · split at h
      · split at h
        · rename_i hi _ _ hz Dz
          obtain ⟨k1, k2, k3⟩ := key _ _ h
          refine ⟨k1, _, k2, fun t ht _ => ?_⟩
          simp only [hi, hz, Dz, if_true]
          exact k3 t ht
        · cases h
      · cases h
    · cases h
  case box e x =>
    simp only [ak, ho] at h ⊢
    split at h
    · split at h
      · rename_i v hv Dz
        obtain ⟨k1, k2, k3⟩ := key _ _ h
        refine ⟨k1, _, k2, fun t ht he => ?_⟩
        simp only [he x (by simp [Op.operands]) v hv, Dz, if_true]
        exact k3 t ht
      · cases h
    · cases h
  all_goals (rw [ho] at D3; simp [bI] at D3)
theorem CM {pre : aT} {preB : bU} {G : List GO} (h : fC E s o (s.dO pre preB G)) :
    (pre = [] ∨ ∃ d x, o.dst = some d ∧ (pre = [.put d x] ∨ pre = [.put d x, .kill d]) ∧ ∀ k off, x = .lp k off → (∃ y ∈ o.op.operands, ∃ dT, ba E s.ae y = .lp k dT) ∨ (bI o.op = true ∧ k = d)) ∧
    (preB = [] ∨ ∃ k cs, preB = [(k, cs)] ∧ ((bI o.op = true ∧ o.dst = some k) ∨ ∃ y ∈ o.op.operands, ∃ off, ba E s.ae y = .lp k off)) := by
  obtain ⟨h1, h2⟩ := h
  refine ⟨?_, ?_⟩
  · rcases h1 with h1 | ⟨d, x, hd, h1, hx⟩
    · exact .inl (by simpa [St.dO] using h1)
    · refine .inr ⟨d, x, hd, ?_, hx⟩
      rcases h1 with h1 | h1
      · left
        have h1 : pre ++ s.ae = [.put d x] ++ s.ae := h1
        exact List.append_cancel_right h1
      · right
        have h1 : pre ++ s.ae = [.put d x, .kill d] ++ s.ae := h1
        exact List.append_cancel_right h1
  · rcases h2 with h2 | ⟨k, cs, h2, hx⟩
    · exact .inl (by simpa [St.dO] using h2)
    · refine .inr ⟨k, cs, ?_, hx⟩
      have h2 : preB ++ s.boxes = [(k, cs)] ++ s.boxes := h2
      exact List.append_cancel_right h2
theorem gK (d e : Nat) (l : aT) : lk (.kill d :: l) e = (match lk l e with | .lp k off => bif Nat.beq k d then .none else .lp k off | x => x) := rfl
theorem tM {d e : Nat} {l : aT} (h : ∀ off, lk l e ≠ .lp d off) : lk (.kill d :: l) e = lk l e := by
  rw [gK]
  split
  · rename_i k off hk
    cases hb : Nat.beq k d with
    | true => exact absurd (by rw [hk, Nat.eq_of_beq_eq_true hb]) (h off)
    | false => rw [hk]; rfl
  · rfl
theorem D6 {d : Nat} {pre : aT} {preB : bU} {G : List GO} (cs : List AV) (Is : fC E s o (s.dO pre preB G)) (bS : o.dst ≠ some d) (D7 : ∀ y ∈ o.op.operands, ∀ off, ba E s.ae y ≠ .lp d off) :
    mD ((nJ s d cs).dO pre preB G) (nJ (s.dO pre preB G) d cs) := by
  obtain ⟨h1, h2⟩ := CM Is
  refine ⟨funext fun e => ?_, funext fun k => ?_, rfl, rfl, rfl, rfl⟩
  · show lk (pre ++ ([.put d (.lp d 0), .kill d] ++ s.ae)) e = lk ([.put d (.lp d 0), .kill d] ++ (pre ++ s.ae)) e
    rcases h1 with rfl | ⟨d', x, hd, hp, hx⟩
    · rfl
    · have QV : d' ≠ d := fun c => bS (by rw [hd, c])
      have qI : ∀ off, x ≠ .lp d off := fun off c => by
        rcases hx d off c with ⟨y, hy, dT, ho⟩ | ⟨_, h⟩
        · exact D7 y hy dT ho
        · exact QV h.symm
      by_cases c1 : d = e
      · subst c1
        rcases hp with rfl | rfl
        · simp only [List.cons_append, List.nil_append]
          rw [aC QV, ar, ar]
        · simp only [List.cons_append, List.nil_append]
          rw [aC QV, ar, tM (fun off => by rw [ar]; intro c; cases c; exact QV rfl), ar]
      · simp only [List.cons_append, List.nil_append]
        rw [aC c1]
        by_cases c2 : d' = e
        · subst c2
          rcases hp with rfl | rfl
          · simp only [List.cons_append, List.nil_append]
            rw [ar, tM (fun off => by rw [ar]; exact qI off), ar]
          · simp only [List.cons_append, List.nil_append]
            rw [ar, tM (fun off => by rw [ar]; exact qI off), ar]
        · rcases hp with rfl | rfl
          · simp only [List.cons_append, List.nil_append]
            rw [aC c2, aC c1, gK, gK, aC c2]
          · simp only [List.cons_append, List.nil_append]
            rw [aC c2, gK, aC c1, gK, gK, aC c2, gK]
            cases lk s.ae e with
            | lp k off => cases hb : Nat.beq k d <;> cases Bv : Nat.beq k d' <;> simp [hb, Bv]
            | _ => rfl
  · show cF (preB ++ ([(d, cs)] ++ s.boxes)) k = cF ([(d, cs)] ++ (preB ++ s.boxes)) k
    rcases h2 with rfl | ⟨k', di, rfl, hk⟩
    · rfl
    · have HD : k' ≠ d := fun c => by
        subst c
        rcases hk with ⟨_, hk⟩ | ⟨y, hy, off, ho⟩
        · exact bS hk
        · exact D7 y hy off ho
      simp only [List.cons_append, List.nil_append, cF]
      cases hb : Nat.beq k' k with
      | true =>
        have : Nat.beq d k = false := by
          cases Bv : Nat.beq d k with
          | true => exact absurd ((Nat.eq_of_beq_eq_true hb).trans (Nat.eq_of_beq_eq_true Bv).symm) HD
          | false => rfl
        rw [this]; rfl
      | false => rfl
end
section
variable {E : Env} {s t : St} {f : FuncId} {o : Oper} {K K' : St → Prop}
theorem BB (hn : s.n = t.n) (hG : s.G = t.G) (hB : ∀ k off, (∃ y ∈ o.op.operands, ba E s.ae y = .lp k off) → cF s.boxes k = cF t.boxes k) (dm : ∀ y ∈ o.op.operands, ba E s.ae y = ba E t.ae y) (h : ir E f o K s)
    (hK : ∀ pre preB G, fC E t o (t.dO pre preB G) → K (s.dO pre preB G) → K' (t.dO pre preB G)) : ir E f o K' t := by
  unfold ir at h ⊢
  split at h
  · rename_i x args tys ho
    have h1 : ba E s.ae x = ba E t.ae x := dm x (by rw [ho]; simp [Op.operands, Call.operands])
    have h2 : js E s.ae args.toList = js E t.ae args.toList := eN fun y hy => dm y (by rw [ho]; simp [Op.operands, Call.operands]; exact .inr (by simpa using hy))
    try simp only [ho]
    rw [← h1, ← h2, ← hG]
    split at h
    · refine cq.mono h fun r G' hk => ?_
      obtain ⟨pre, preB, G, p1, p2, p3, p4⟩ := bA.cB (s := s) (t := t) (al := bI o.op) hn G' o.dst (.v r)
      rw [p3] at hk
      have hO : fC E t o ((t.aX G').put o.dst (.v r)) := ib rfl rfl _
      rw [p4] at hO ⊢
      exact hK pre preB G hO hk
    · refine iS.mono h fun r G' hk => ?_
      obtain ⟨pre, preB, G, p1, p2, p3, p4⟩ := bA.cB (s := s) (t := t) (al := bI o.op) hn G' o.dst (.v (.bool r))
      rw [p3] at hk
      have hO : fC E t o ((t.aX G').put o.dst (.v (.bool r))) := ib rfl rfl _
      rw [p4] at hO ⊢
      exact hK pre preB G hO hk
    · exact h.elim
  · exact h.elim
  · split at h
    · rename_i c s' hs
      obtain ⟨t', h1, pre, preB, G, p1, p2, p3, p4⟩ := oS hn hG hB dm hs
      have hO := Bz h1
      rw [h1]
      obtain ⟨rfl, hk⟩ := h.out
      refine cL.mk rfl ?_
      rw [p3] at hk
      rw [p4] at hO ⊢
      exact hK pre preB G hO hk
    · exact h.elim
theorem CN (ha : bI o.op = true) : ir E f o K s ↔ ∃ s', ak E f s o = some (true, s') ∧ K s' := by
  unfold ir
  split
  · rename_i h
    rw [h] at ha
    simp [bI] at ha
  · rename_i h
    rw [h] at ha
    simp [bI] at ha
  · split
    · rename_i c s' hs
      constructor
      · intro h
        obtain ⟨rfl, hk⟩ := h.out
        exact ⟨s', hs, hk⟩
      · rintro ⟨xp, h1, h2⟩
        rw [hs] at h1
        cases h1
        exact cL.mk rfl h2
    · rename_i hs
      constructor
      · exact fun h => h.elim
      · rintro ⟨xp, h1, _⟩
        rw [hs] at h1
        cases h1
end
end Go.Am
namespace Go.Am
open Go
section
variable {E : Env} {s t : St} {f : FuncId} {ops : Array Oper} {o oj oi : Oper} {d : Tmp} {x : SV} {K K' : St → Prop} {cG : Nat → List Nat} {C : List Nat}
def BC (E : Env) (f : FuncId) (ops : Array Oper) (cG : Nat → List Nat) (C : List Nat) (i : Nat) (s : St) : Prop :=
  ∀ j ∈ C, ∀ oj oi, ops[j]? = some oj → ops[i]? = some oi → gI oj oi = true → j ∉ cG i → Bu E f ops.toList oj s
def NC (ops : Array Oper) (C : List Nat) : Prop := ∀ j ∈ C, ∀ oj, ops[j]? = some oj → pO oj.op = true
theorem mE {i : Nat} (hC : NC ops C) : Inv (BC E f ops cG C i) := fun _ _ e h j hj oj oi h1 h2 h3 h4 => Ip (hC j hj oj h1) e (h j hj oj oi h1 h2 h3 h4)
def dX (E : Env) (f : FuncId) (ops : Array Oper) (cG : Nat → List Nat) (C : List Nat) (K : St → Prop) : Nat → Array Bool → St → Prop
  | 0, listed, s => Region.ready .any ops listed = [] ∧ K s
  | n + 1, listed, s => (Region.ready .any ops listed = [] → K s) ∧
      ∀ i ∈ Region.ready .any ops listed, ∀ oi, ops[i]? = some oi → bO E f ops.toList oi (fun s' => BC E f ops cG C i s' ∧ dX E f ops cG C K n (listed.setIfInBounds i true) s') s
theorem fD (hC : NC ops C) (hK : Inv K) : ∀ n listed, Inv (dX E f ops cG C K n listed)
  | 0, _ => fun s t e h => ⟨h.1, hK s t e h.2⟩
  | n + 1, _ => fun s t e h => ⟨fun h0 => hK s t e (h.1 h0), fun i hi oi oV => zB (fun s t e h => ⟨mE hC s t e h.1, fD hC hK n _ s t e h.2⟩) s t e (h.2 i hi oi oV)⟩
theorem kM {C' : List Nat} : ∀ n (listed : Array Bool) (s : St),
    (∀ k ∈ C', k ∈ C ∨ ∀ i ok oi, ops[k]? = some ok → ops[i]? = some oi → listed.getD i true = false → gI ok oi = true → k ∈ cG i) →
    dX E f ops cG C K n listed s → dX E f ops cG C' K n listed s
  | 0, _, _, _, h => h
  | n + 1, listed, s, hk, h => ⟨h.1, fun i hi oi oV => bP (h.2 i hi oi oV) fun s' h' => ⟨fun k Ln ok Ka h1 h2 h3 h4 => by
      rcases hk k Ln with h5 | h5
      · exact h'.1 k h5 ok Ka h1 h2 h3 h4
      · exact absurd (h5 i ok Ka h1 h2 (mem_ready.1 hi).1 h3) h4, kM n _ s' (fun k Ln => by
      rcases hk k Ln with h5 | h5
      · exact .inl h5
      · refine .inr fun i' ok Ka h1 h2 h3 h4 => h5 i' ok Ka h1 h2 ?_ h4
        by_cases e : i = i'
        · subst e; exact (mem_ready.1 hi).1
        · rw [getD_set_ne true e] at h3; exact h3) h'.2⟩⟩
def wx (ops : Array Oper) (cG : Nat → List Nat) : Prop := ∀ i oi a, ops[i]? = some oi → a ∈ cG i → ∃ e ∈ oi.after, Region.binds .any e = true ∧ (e.on = a ∨ a ∈ cG e.on)
def kN (cG : Nat → List Nat) (listed : Array Bool) : Prop := ∀ i, listed.getD i false = true → ∀ a ∈ cG i, listed.getD a false = true
theorem kN.ready {listed : Array Bool} (h : kN cG listed) (ha : wx ops cG) {i : Nat} (hi : i ∈ Region.ready .any ops listed) : ∀ a ∈ cG i, listed.getD a false = true := fun a QW => by
  obtain ⟨_, o, ho, lS⟩ := mem_ready.1 hi
  obtain ⟨e, he, hb, h2⟩ := ha i o a ho QW
  rcases h2 with rfl | h2
  · exact lS e he hb
  · exact h _ (lS e he hb) a h2
theorem hJ {listed : Array Bool} {i : Nat} (h : listed.getD i false = true) : listed.getD i true = true := by
  rw [Array.getD_eq_getD_getElem?] at *
  cases hl : listed[i]? with
  | none => rw [hl] at h; cases h
  | some b => rw [hl] at h; exact h
theorem kN.add {listed : Array Bool} (h : kN cG listed) (ha : wx ops cG) {i : Nat} (hi : i ∈ Region.ready .any ops listed) : kN cG (listed.setIfInBounds i true) := fun k hk a QW => by
  by_cases e : i = k
  · subst e
    exact getD_set_true (h.ready ha hi a QW)
  · rw [getD_set_ne false e] at hk
    exact getD_set_true (h k hk a QW)
theorem BD (hA : wx ops cG) (hC : NC ops C) (hK : Inv K) {j : Nat} (hj : ops[j]? = some oj) (hN : pO oj.op = true) (CL : oj.dst = some d) (zD : d ∉ oj.looksAt ops)
    (Sk : ∀ k ∈ C, ∀ ok, ops[k]? = some ok → d ∉ ok.looksAt ops ∧ ok.dst ≠ some d) : ∀ n (listed : Array Bool) (s : St) (x : SV), kN cG listed →
      (∀ i oi, ops[i]? = some oi → i ≠ j → listed.getD i true = false → (∀ e ∈ oi.after, Region.binds .any e = true → e.on ≠ j) → oj.apart ops oi = true) →
      j ∈ Region.ready .any ops listed → tH E f ops oj s x → dX E f ops cG (j :: C) K n (listed.setIfInBounds j true) (s.put (some d) x) → dX E f ops cG C K (n + 1) listed s := by
  have HL : NC ops (j :: C) := fun k hk ok ho => by
    rcases List.mem_cons.1 hk with rfl | hk
    · rw [hj] at ho; cases ho; exact hN
    · exact hC k hk ok ho
  have self : ∀ n (listed : Array Bool) (s : St) (x : SV), tH E f ops oj s x → dX E f ops cG (j :: C) K n (listed.setIfInBounds j true) (s.put (some d) x) → ∀ oi, ops[j]? = some oi →
      bO E f ops.toList oi (fun s' => BC E f ops cG C j s' ∧ dX E f ops cG C K n (listed.setIfInBounds j true) s') s := fun n listed s x hx h oi oV => by
    rw [hj] at oV
    cases oV
    refine tK hN (fun s t e h => ⟨mE hC s t e h.1, fD hC hK _ _ s t e h.2⟩) hx ?_
    rw [CL]
    refine ⟨fun k _ ok Ka _ h2 h3 _ => ?_, kM n _ _ (fun k hk => .inl (List.mem_cons_of_mem _ hk)) h⟩
    rw [hj] at h2
    cases h2
    simp [gI, zz hN, hN] at h3
  intro n
  induction n with
  | zero =>
    intro listed s x _ _ hr hx h
    refine ⟨fun h0 => by rw [h0] at hr; simp at hr, fun i hi oi oV => ?_⟩
    by_cases e : i = j
    · subst e; exact self 0 listed s x hx h oi oV
    · have := ready_mono hi e
      rw [h.1] at this
      simp at this
  | succ n ih =>
    intro listed s x fK iM hr hx h
    refine ⟨fun h0 => by rw [h0] at hr; simp at hr, fun i hi oi oV => ?_⟩
    by_cases e : i = j
    · subst e; exact self (n + 1) listed s x hx h oi oV
    · have FO := (mem_ready.1 hi).1
      have It := (mem_ready.1 hr).1
      have KM : ∀ ed ∈ oi.after, Region.binds .any ed = true → ed.on ≠ j := fun ed he hb gR => by
        obtain ⟨_, o, ho, lS⟩ := mem_ready.1 hi
        rw [oV] at ho
        cases ho
        have h1 := hJ (lS ed he hb)
        rw [gR, It] at h1
        cases h1
      have Ig := iM i oi oV e FO KM
      have hG := h.2 i (ready_mono hi e) oi oV
      have FP : j ∉ cG i := fun hm => by
        have h1 := hJ (fK.ready hA hi j hm)
        rw [It] at h1
        cases h1
      have QX : Inv (fun s' => BC E f ops cG (j :: C) i s' ∧ dX E f ops cG (j :: C) K n ((listed.setIfInBounds j true).setIfInBounds i true) s') :=
        fun s t e h => ⟨mE HL s t e h.1, fD HL hK _ _ s t e h.2⟩
      have Lo : ∀ k ok, ops[k]? = some ok → k ≠ j → (listed.setIfInBounds i true).getD k true = false → (∀ e ∈ ok.after, Region.binds .any e = true → e.on ≠ j) → oj.apart ops ok = true := fun k ok hk Sl Pp lG => by
        refine iM k ok hk Sl ?_ lG
        by_cases e' : i = k
        · subst e'; exact FO
        · rw [getD_set_ne true e'] at Pp; exact Pp
      have core : ∀ {pre : aT} {preB : bU} {G : List GO}, Og (bI oi.op) oi.dst pre → (pO oi.op = true → preB = [] ∧ G = s.G) →
          (BC E f ops cG (j :: C) i ((s.put (some d) x).dO pre preB G) ∧ dX E f ops cG (j :: C) K n ((listed.setIfInBounds j true).setIfInBounds i true) ((s.put (some d) x).dO pre preB G)) →
          BC E f ops cG C i (s.dO pre preB G) ∧ dX E f ops cG C K (n + 1) (listed.setIfInBounds i true) (s.dO pre preB G) := by
        intro pre preB G zE Po hk
        obtain ⟨x', qI, eD⟩ := D2 hN CL zD Ig QX hx zE Po hk (fun t' oB hd => oB.1 j (List.mem_cons_self ..) oj oi hj oV hd FP)
        refine ⟨fun k Ln ok Ka h1 h2 h3 h4 => ?_, ?_⟩
        · obtain ⟨q1, q2⟩ := Sk k Ln ok h1
          obtain ⟨b1, b2, b3, _⟩ := eB (s.dO pre preB G) (some d) x'
          exact Io (hC k Ln ok h1) q1 q2 (fun e he => sg _ _ _ he) (by rw [b1]) b2 b3 (eD.1 k (List.mem_cons_of_mem _ Ln) ok Ka h1 h2 h3 h4)
        · refine ih (listed.setIfInBounds i true) _ x' (fK.add hA hi) Lo (ready_mono hr (Ne.symm e)) qI ?_
          rw [Array.setIfInBounds_comm _ _ e]
          exact eD.2
      rw [eA (fun s t e h => ⟨mE hC s t e h.1, fD hC hK _ _ s t e h.2⟩)]
      obtain ⟨HH, _, _⟩ := Oper.apart_spec Ig
      have qK : ∀ e ∈ oi.looksAt ops, lk (s.put (some d) x).ae e = lk s.ae e := fun e he => sg s d x fun k => HH d CL (k ▸ he)
      obtain ⟨b1, b2, b3, b4, b5⟩ := eB s (some d) x
      rcases (eA QX).1 hG with ⟨h1, h2⟩ | ⟨h1, h2⟩
      · refine .inl ⟨by rw [← iD qK]; exact h1, qm b3 b2 (by rw [b1]) (iT qK) h2 fun pre preB G hp Po hk => core hp (fun hh => ?_) hk⟩
        obtain ⟨q1, q2⟩ := Po hh
        exact ⟨q1, by rw [q2, b2]⟩
      · refine .inr ⟨by rw [← iD qK]; exact h1, ?_⟩
        obtain ⟨pre, preB, G, p1, p2, p3, p4⟩ := bA.put (s := s.put (some d) x) (t := s) (al := bI oi.op) (w := false) b3 b2 oi.dst (.v ea)
        obtain ⟨q1, q2, _⟩ := p2 rfl
        rw [p3] at h2
        rw [p4]
        exact core p1 (fun _ => ⟨q1, by rw [q2, b2]⟩) h2
theorem CO {i : Nat} {s : St} : BC E f ops cG [] i s := fun j hj => by cases hj
theorem Lp {y : Operand} {k off : Nat} (h : ba E s.ae y = .lp k off) : ∃ e, y = .tmp e ∧ lk s.ae e = .lp k off := by
  cases y with
  | tmp e => exact ⟨e, rfl, h⟩
  | const v => simp only [ba] at h; split at h <;> cases h
  | global g => simp only [ba] at h; split at h <;> cases h
  | func g => cases h
theorem FQ (hA : wx ops cG) (hK : Inv K) {j : Nat} (hj : ops[j]? = some oj) (hg : oj.guard = none) (CL : oj.dst = some d) (D3 : bI oj.op = true) (Lq : E.sw f d = false) : ∀ n (listed : Array Bool) (s s1 : St), kN cG listed →
    (∀ i oi, ops[i]? = some oi → i ≠ j → listed.getD i true = false → j ∉ cG i → oj.apart ops oi = true ∧ ∀ e ∈ oi.looksAt ops, ∀ off, lk s.ae e ≠ .lp d off) →
    j ∈ Region.ready .any ops listed → ak E f s oj = some (true, s1) → dX E f ops cG [] K n (listed.setIfInBounds j true) s1 → dX E f ops cG [] K (n + 1) listed s := by
  have HL : NC ops [] := fun k hk => by cases hk
  have self : ∀ n (listed : Array Bool) (s s1 : St), ak E f s oj = some (true, s1) → dX E f ops cG [] K n (listed.setIfInBounds j true) s1 → ∀ oi, ops[j]? = some oi →
      bO E f ops.toList oi (fun s' => BC E f ops cG [] j s' ∧ dX E f ops cG [] K n (listed.setIfInBounds j true) s') s := fun n listed s s1 hx h oi oV => by
    rw [hj] at oV
    cases oV
    unfold bO
    rw [hg]
    exact (CN D3).2 ⟨s1, hx, CO, h⟩
  intro n
  induction n with
  | zero =>
    intro listed s s1 _ _ hr hx h
    refine ⟨fun h0 => by rw [h0] at hr; simp at hr, fun i hi oi oV => ?_⟩
    by_cases e : i = j
    · subst e; exact self 0 listed s s1 hx h oi oV
    · have := ready_mono hi e
      rw [h.1] at this
      simp at this
  | succ n ih =>
    intro listed s s1 fK iM hr hx h
    refine ⟨fun h0 => by rw [h0] at hr; simp at hr, fun i hi oi oV => ?_⟩
    by_cases e : i = j
    · subst e; exact self (n + 1) listed s s1 hx h oi oV
    · have FO := (mem_ready.1 hi).1
      have It := (mem_ready.1 hr).1
      have FP : j ∉ cG i := fun hm => by
        have h1 := hJ (fK.ready hA hi j hm)
        rw [It] at h1
        cases h1
      obtain ⟨Ig, lG⟩ := iM i oi oV e FO FP
      obtain ⟨HH, bS, s6⟩ := Oper.apart_spec Ig
      have A4 : oi.dst ≠ some d := bS d CL
      obtain ⟨_, cs, rfl, CC⟩ := BA D3 CL Lq hx
      have hG := h.2 i (ready_mono hi e) oi oV
      have QX : Inv (fun s' => BC E f ops cG [] i s' ∧ dX E f ops cG [] K n ((listed.setIfInBounds j true).setIfInBounds i true) s') :=
        fun s t e h => ⟨mE HL s t e h.1, fD HL hK _ _ s t e h.2⟩
      have D7 : ∀ y ∈ oi.op.operands, ∀ off, ba E s.ae y ≠ .lp d off := fun y hy off hv => by
        obtain ⟨e', rfl, hv⟩ := Lp hv
        exact lG e' (kL hy) off hv
      have core : ∀ {pre : aT} {preB : bU} {G : List GO}, fC E s oi (s.dO pre preB G) →
          (BC E f ops cG [] i ((nJ s d cs).dO pre preB G) ∧ dX E f ops cG [] K n ((listed.setIfInBounds j true).setIfInBounds i true) ((nJ s d cs).dO pre preB G)) →
          BC E f ops cG [] i (s.dO pre preB G) ∧ dX E f ops cG [] K (n + 1) (listed.setIfInBounds i true) (s.dO pre preB G) := by
        intro pre preB G Is hk
        refine ⟨CO, ?_⟩
        obtain ⟨o1, o2⟩ := CM Is
        have qK : ∀ e' off, oi.dst ≠ some e' ∨ lk (s.dO pre preB G).ae e' = .lp d off → lk (s.dO pre preB G).ae e' = .lp d off → lk s.ae e' = .lp d off := by
          intro e' off _ hv
          have hv : lk (pre ++ s.ae) e' = .lp d off := hv
          rcases o1 with rfl | ⟨d', x, Cq, hp, Iu⟩
          · exact hv
          · have qI : ∀ off, x ≠ .lp d off := fun off c => by
              rcases Iu d off c with ⟨y, hy, dT, ho⟩ | ⟨_, h⟩
              · exact D7 y hy dT ho
              · exact A4 (by rw [Cq, h])
            by_cases c2 : d' = e'
            · subst c2
              rcases hp with rfl | rfl
              · simp only [List.cons_append, List.nil_append, ar] at hv; exact absurd hv (qI off)
              · simp only [List.cons_append, List.nil_append, ar] at hv; exact absurd hv (qI off)
            · rcases hp with rfl | rfl
              · simp only [List.cons_append, List.nil_append] at hv; rwa [aC c2] at hv
              · simp only [List.cons_append, List.nil_append] at hv
                rw [aC c2, gK] at hv
                cases hl : lk s.ae e' with
                | lp k dT =>
                  rw [hl] at hv
                  simp only at hv
                  cases hb : Nat.beq k d' with
                  | true => rw [hb] at hv; cases hv
                  | false => rw [hb] at hv; exact hv
                | v a => rw [hl] at hv; cases hv
                | none => rw [hl] at hv; cases hv
        refine ih (listed.setIfInBounds i true) _ _ (fK.add hA hi) ?_ (ready_mono hr (Ne.symm e)) (CC (s.dO pre preB G) rfl ?_) ?_
        · intro k ok eD Sl Pp Sm
          have Sn : listed.getD k true = false := by
            by_cases e' : i = k
            · subst e'; exact FO
            · rw [getD_set_ne true e'] at Pp; exact Pp
          obtain ⟨q1, q2⟩ := iM k ok eD Sl Sn Sm
          exact ⟨q1, fun e' QY off hv => q2 e' QY off (qK e' off (.inr hv) hv)⟩
        · intro y hy v hv
          cases y with
          | tmp e' =>
            have Cq : oi.dst ≠ some e' := fun c => s6 e' c (kL hy)
            have hv : lk s.ae e' = .v v := hv
            show lk (pre ++ s.ae) e' = .v v
            rcases o1 with rfl | ⟨d', x, Lc, hp, _⟩
            · exact hv
            · have c2 : d' ≠ e' := fun c => Cq (by rw [Lc, c])
              rcases hp with rfl | rfl
              · simp only [List.cons_append, List.nil_append]; rw [aC c2]; exact hv
              · simp only [List.cons_append, List.nil_append]
                rw [aC c2, tM (fun off => by rw [hv]; intro c; cases c)]; exact hv
          | const _ => exact hv
          | global _ => exact hv
          | func _ => exact hv
        · rw [Array.setIfInBounds_comm _ _ e]
          exact fD HL hK _ _ _ _ (D6 cs Is A4 D7) hk.2
      have xG : ∀ e' ∈ oi.looksAt ops, lk (nJ s d cs).ae e' = lk s.ae e' := fun e' QY => by
        have c1 : d ≠ e' := fun c => HH d CL (c ▸ QY)
        show lk (.put d (.lp d 0) :: .kill d :: s.ae) e' = _
        rw [aC c1, tM (lG e' QY)]
      have sU : ∀ k off, (∃ y ∈ oi.op.operands, ba E (nJ s d cs).ae y = .lp k off) → cF (nJ s d cs).boxes k = cF s.boxes k := by
        rintro k off ⟨y, hy, hv⟩
        rw [iT xG y hy] at hv
        have HD : d ≠ k := fun c => D7 y hy off (by rw [c]; exact hv)
        show cF ((d, cs) :: s.boxes) k = cF s.boxes k
        simp only [cF]
        cases hb : Nat.beq d k with
        | true => exact absurd (Nat.eq_of_beq_eq_true hb) HD
        | false => rfl
      rw [eA (fun s t e h => ⟨mE HL s t e h.1, fD HL hK _ _ s t e h.2⟩)]
      rcases (eA QX).1 hG with ⟨h1, h2⟩ | ⟨h1, h2⟩
      · exact .inl ⟨by rw [← iD xG]; exact h1, BB (s := nJ s d cs) (t := s) rfl rfl sU (iT xG) h2 fun pre preB G hO hk => core hO hk⟩
      · refine .inr ⟨by rw [← iD xG]; exact h1, ?_⟩
        obtain ⟨pre, preB, G, p1, p2, p3, p4⟩ := bA.put (s := nJ s d cs) (t := s) (al := bI oi.op) (w := false) rfl rfl oi.dst (.v ea)
        rw [p3] at h2
        have hO : fC E s oi (s.put oi.dst (.v ea)) := ib rfl rfl _
        rw [p4] at hO ⊢
        exact core hO h2
end
inductive DT where
  | done
  | take (j : Nat) (C : List Nat) (t : DT)
  | br (i : Nat) (re C : List Nat) (t : DT) (more : DT)
  | stop
  | al (j : Nat) (W : List Nat) (t : DT)
structure kO where
  dst : Option Tmp
  lo : List Tmp
  pr : List Nat
  n : Bool
  r : Bool
  a : Bool
def CP (d : Nat) (s : aT) : List Nat → Bool
  | [] => true
  | e :: l => (match lk s e with
    | .lp k _ => !Nat.beq k d
    | _ => true) && CP d s l
def Lr (E : Env) (f : FuncId) (o : Oper) (W : List Nat) (s : St) : Bool := match o.guard, o.dst with
  | none, some d => !E.sw f d && CP d s.ae W
  | _, _ => false
def hU (x : Nat) : List Nat → Bool
  | [] => false
  | y :: l => Nat.beq x y || hU x l
def mF : List Edge → List Nat
  | [] => []
  | e :: l => bif Region.binds .any e then e.on :: mF l else mF l
def iU (ops : Array Oper) (o : Oper) : kO := ⟨o.dst, o.looksAt ops, mF o.after.toList, pO o.op, Lk o.op, bI o.op⟩
def xH {α : Type} (n : Nat) (K : Nat → α) : α := match n with
  | 0 => K 0
  | m + 1 => K (Nat.succ m)
def wy {α : Type} : List Nat → (List Nat → α) → α
  | [], K => K []
  | a :: l, K => xH a fun a => wy l fun l => K (a :: l)
def Ls {α : Type} (i : kO) (K : kO → α) : α := match i with
  | ⟨d, lo, pr, n, r, a⟩ => wy lo fun lo => wy pr fun pr => (match d with
    | none => (fun (K : Option Tmp → α) => K none)
    | some d => (fun (K : Option Tmp → α) => xH d fun d => K (some d))) fun d => (bif n then (fun (K : Bool → α) => K true) else fun K => K false) fun n =>
      (bif r then (fun (K : Bool → α) => K true) else fun K => K false) fun r => (bif a then (fun (K : Bool → α) => K true) else fun K => K false) fun a => K ⟨d, lo, pr, n, r, a⟩
def CQ {α : Type} : List kO → (List kO → α) → α
  | [], K => K []
  | i :: l, K => Ls i fun i => CQ l fun l => K (i :: l)
def qo (x y : kO) : Bool :=
  (match x.dst with
   | some d => !hU d y.lo && (match y.dst with | some e => !Nat.beq e d | none => true)
   | none => true) &&
  (match y.dst with
   | some d => !hU d x.lo
   | none => true)
def zG (j : Nat) (x : kO) (cf : List Nat) : Nat → List kO → Bool
  | _, [] => true
  | i, y :: l => (Nat.beq i j || hU j y.pr || hU i cf || qo x y) && zG j x cf (i + 1) l
def zH (I : List kO) : Nat → List kO → List (List Nat) → Bool
  | _, [], _ => true
  | j, x :: l, c :: cs => (!x.n || zG j x c 0 I) && zH I (j + 1) l cs
  | _, _, _ => false
def tN (cG : Nat → List Nat) : Nat → List kO → Bool
  | _, [] => true
  | i, x :: l => (cG i).all (fun a => x.pr.any fun e => Nat.beq e a || hU a (cG e)) && tN cG (i + 1) l
def kP (L : Nat) : Nat → List kO → List Nat
  | _, [] => []
  | i, x :: l => bif !L.testBit i && x.pr.all (fun e => L.testBit e) then i :: kP L (i + 1) l else kP L (i + 1) l
def mG (x y : kO) : Bool := y.a || (x.r && !y.n)
def mH (cG : Nat → List Nat) (L k : Nat) (x : kO) : Nat → List kO → Bool
  | _, [] => true
  | i, y :: l => (L.testBit i || !mG x y || hU k (cG i)) && mH cG L k x (i + 1) l
def sh (I : List kO) (cG : Nat → List Nat) (L : Nat) (C C' : List Nat) : Bool := C.all fun k => hU k C' || match nth I k with
  | none => false
  | some x => mH cG L k x 0 I
def Kb (I : List kO) (cG : Nat → List Nat) (C re : List Nat) (i : Nat) (y : kO) : Bool := C.all fun k => hU k re || match nth I k with
  | none => false
  | some x => !mG x y || hU k (cG i)
def CR (cG : Nat → List Nat) (L : Nat) (W : List Nat) (j : Nat) (x : kO) : Nat → List kO → Bool
  | _, [] => true
  | i, y :: l => (Nat.beq i j || L.testBit i || hU j (cG i) || (qo x y && y.lo.all fun e => hU e W)) && CR cG L W j x (i + 1) l
def CS (I : List kO) (C : List Nat) : Bool := C.all fun k => match nth I k with
  | some x => x.n
  | none => false
def jo (I : List kO) (N : Nat) (cG : Nat → List Nat) (cf : List (List Nat)) : DT → Nat → List Nat → Nat → Option (List Nat) → Bool
  | .done, _, _, L, none => Nat.beq L N
  | .take j C' t, n + 1, C, L, none => match nth I j, nth cf j with
    | some x, some c => match x.dst with
      | none => false
      | some d => x.n && !hU d x.lo && (C.all fun k => match nth I k with
          | none => false
          | some y => !hU d y.lo && (match y.dst with | some e => !Nat.beq e d | none => true)) &&
        c.all (fun i => L.testBit i) && !L.testBit j && x.pr.all (fun e => L.testBit e) && CS I C' &&
        xH (L ||| 2 ^ j) fun L' => sh I cG L' (j :: C) C' && jo I N cG cf t n C' L' none
    | _, _ => false
  | .br i re C' t more, n + 1, C, L, left => match nth I i with
    | none => false
    | some y => (match left with
      | none => fun (K : List Nat → Bool) => wy (kP L 0 I) K
      | some l => fun K => K l) fun l =>
        Kb I cG C re i y && CS I C' && hU i l && (xH (L ||| 2 ^ i) fun L' => sh I cG L' C C' && jo I N cG cf t n C' L' none) &&
          jo I N cG cf more (n + 1) C L (some (l.filter fun k => !Nat.beq k i))
  | .stop, _, _, _, some l => l.isEmpty
  | .al j W t, n + 1, C, L, none => match nth I j with
    | some x => match x.dst with
      | none => false
      | some _ => C.isEmpty && x.a && !L.testBit j && x.pr.all (fun e => L.testBit e) && CR cG L W j x 0 I && xH (L ||| 2 ^ j) fun L' => jo I N cG cf t n [] L' none
    | none => false
  | _, _, _, _, _ => false
def wz (E : Env) (f : FuncId) (ops : List Oper) : List Nat → St → Prop
  | [], _ => True
  | k :: l, s => (match nth ops k with
    | some ok => Bu E f ops ok s
    | none => True) ∧ wz E f ops l s
def pP (E : Env) (f : FuncId) (ops : List Oper) : DT → (St → Prop) → St → Prop
  | .done, K, s => K s
  | .take j _ t, K, s => match nth ops j with
    | some oj => bO E f ops oj (pP E f ops t K) s
    | none => False
  | .br i re _ t more, K, s => (match nth ops i with
    | some oi => bO E f ops oi (fun s' => wz E f ops re s' ∧ pP E f ops t K s') s
    | none => False) ∧ pP E f ops more K s
  | .stop, _, _ => True
  | .al j W t, K, s => match nth ops j with
    | some oj => Lr E f oj W s = true ∧ bO E f ops oj (pP E f ops t K) s
    | none => False
def FR (l : List (List Nat)) (i : Nat) : List Nat := match nth l i with
  | some a => a
  | none => []
section
variable {E : Env} {s t : St} {f : FuncId} {ops : Array Oper} {K : St → Prop} {cG : Nat → List Nat}
theorem dC {x : Nat} : ∀ {l : List Nat}, hU x l = true ↔ x ∈ l
  | [] => by simp [hU]
  | y :: l => by simp [hU, dC (l := l)]
theorem kQ {α : Type} (n : Nat) (K : Nat → α) : xH n K = K n := by cases n <;> rfl
theorem tO {α : Type} : ∀ (l : List Nat) (K : List Nat → α), wy l K = K l
  | [], _ => rfl
  | a :: l, K => by simp only [wy, kQ]; rw [tO]
theorem Iv {α : Type} (i : kO) (K : kO → α) : Ls i K = K i := by
  obtain ⟨d, lo, pr, n, r, a⟩ := i
  cases d <;> cases n <;> cases r <;> cases a <;> simp [Ls, tO, kQ]
theorem zI {α : Type} : ∀ (l : List kO) (K : List kO → α), CQ l K = K l
  | [], _ => rfl
  | a :: l, K => by simp only [CQ, Iv]; rw [zI]
def iV (ops : Array Oper) : List kO := ops.toList.map (iU ops)
theorem oW {k : Nat} {x : kO} (h : nth (iV ops) k = some x) : ∃ o, ops[k]? = some o ∧ x = iU ops o := by
  rw [aD, iV, List.getElem?_map, Array.getElem?_toList] at h
  cases ho : ops[k]? with
  | none => rw [ho] at h; cases h
  | some o => rw [ho] at h; exact ⟨o, rfl, by simpa using h.symm⟩
theorem gv {e : Nat} : ∀ {l : List Edge}, e ∈ mF l ↔ ∃ ed ∈ l, Region.binds .any ed = true ∧ ed.on = e
  | [] => by simp [mF]
  | x :: l => by
    unfold mF
    cases hb : Region.binds .any x with
    | true =>
      simp only [cond_true, List.mem_cons, gv (l := l), exists_eq_or_imp, hb, true_and]
      constructor
      · rintro (h | h)
        · exact .inl h.symm
        · exact .inr h
      · rintro (h | h)
        · exact .inl h.symm
        · exact .inr h
    | false => simp only [cond_false, List.mem_cons, gv (l := l), exists_eq_or_imp, hb, false_and, false_or, Bool.false_eq_true]
theorem wA {x y : Oper} (h : qo (iU ops x) (iU ops y) = true) : x.apart ops y = true := by
  have hm : ∀ (d : Nat) (l : List Nat), hU d l = false → l.contains d = false := fun d l h => by
    cases hc : l.contains d with
    | false => rfl
    | true => rw [dC.2 (by simpa using hc)] at h; cases h
  unfold qo at h
  unfold Oper.apart
  simp only [iU, Bool.and_eq_true] at h ⊢
  refine ⟨?_, ?_⟩
  · cases hx : x.dst with
    | none => rfl
    | some d =>
      rw [hx] at h
      simp only [Bool.and_eq_true, Bool.not_eq_true'] at h ⊢
      refine ⟨hm _ _ h.1.1, ?_⟩
      have h2 := h.1.2
      cases hy : y.dst with
      | none => rfl
      | some e =>
        rw [hy] at h2
        simp only [Bool.not_eq_true'] at h2
        have : e ≠ d := fun k => by rw [k, oh] at h2; cases h2
        simpa using this
  · cases hy : y.dst with
    | none => rfl
    | some d =>
      rw [hy] at h
      simp only [Bool.not_eq_true'] at h ⊢
      exact hm _ _ h.2
def zJ (ops : Array Oper) (L : Nat) (listed : Array Bool) : Prop := listed.size = ops.size ∧ ∀ i, i < ops.size → listed[i]? = some (L.testBit i)
theorem zJ.add {L : Nat} {listed : Array Bool} (h : zJ ops L listed) (j : Nat) : zJ ops (L ||| 2 ^ j) (listed.setIfInBounds j true) := by
  refine ⟨by simp [h.1], fun i hi => ?_⟩
  rw [Nat.testBit_or, Nat.testBit_two_pow]
  by_cases e : j = i
  · subst e
    rw [Array.getElem?_setIfInBounds_self_of_lt (by rw [h.1]; exact hi)]
    simp
  · rw [Array.getElem?_setIfInBounds_ne e, h.2 i hi]
    simp [e]
theorem zJ.zK {L : Nat} {listed : Array Bool} (h : zJ ops L listed) {i : Nat} (hi : i < ops.size) (b : Bool) : listed.getD i b = L.testBit i := by
  rw [Array.getD_eq_getD_getElem?, h.2 i hi]; rfl
theorem nK {L : Nat} {listed : Array Bool} (h : zJ ops L listed) {j : Nat} {o : Oper} (ho : ops[j]? = some o) (h1 : L.testBit j = false) (h2 : ((iU ops o).pr.all fun e => L.testBit e) = true)
    (bR : ∀ e ∈ o.after, Region.binds .any e = true → e.on < ops.size) : j ∈ Region.ready .any ops listed := by
  have hj : j < ops.size := (Array.getElem?_eq_some_iff.1 ho).1
  refine mem_ready.2 ⟨by rw [h.zK hj]; exact h1, o, ho, fun e he hb => ?_⟩
  rw [h.zK (bR e he hb)]
  exact List.all_eq_true.1 h2 e.on (gv.2 ⟨e, by simpa using he, hb, rfl⟩)
def Lt (n : Nat) (I : List kO) : Bool := I.all fun x => x.pr.all fun e => Nat.blt e n
theorem fg {k : Nat} {o : Oper} (h : ops[k]? = some o) : nth (iV ops) k = some (iU ops o) := by
  rw [aD, iV, List.getElem?_map, Array.getElem?_toList, h]; rfl
theorem iW {k : Nat} {o : Oper} (h : ops[k]? = some o) : (iV ops)[k]? = some (iU ops o) := by
  rw [← aD]; exact fg h
theorem mI (h : Lt ops.size (iV ops) = true) {k : Nat} {o : Oper} (ho : ops[k]? = some o) : ∀ e ∈ o.after, Region.binds .any e = true → e.on < ops.size := fun e he hb => by
  have h1 := List.all_eq_true.1 h (iU ops o) (List.mem_of_getElem? (iW ho))
  have h2 := List.all_eq_true.1 h1 e.on (gv.2 ⟨e, by simpa using he, hb, rfl⟩)
  exact Nat.le_of_ble_eq_true h2
theorem tP {j : Nat} {x : kO} {c : List Nat} : ∀ {l : List kO} {i : Nat}, zG j x c i l = true → ∀ k y, l[k]? = some y → (Nat.beq (i + k) j || hU j y.pr || hU (i + k) c || qo x y) = true
  | [], _, _, k, y, hk => by simp at hk
  | z :: l, i, h, k, y, hk => by
    unfold zG at h
    rw [Bool.and_eq_true] at h
    cases k with
    | zero => simp at hk; subst hk; exact h.1
    | succ k =>
      have := tP h.2 k y (by simpa using hk)
      rw [show i + 1 + k = i + (k + 1) by omega] at this
      exact this
theorem tQ {I : List kO} : ∀ {l : List kO} {j : Nat} {cs : List (List Nat)}, zH I j l cs = true → ∀ k x c, l[k]? = some x → cs[k]? = some c → x.n = true → zG (j + k) x c 0 I = true
  | [], _, _, _, k, x, c, hk, _, _ => by simp at hk
  | z :: l, j, [], _, k, x, c, _, hc, _ => by simp at hc
  | z :: l, j, d :: cs, h, k, x, c, hk, hc, hn => by
    unfold zH at h
    rw [Bool.and_eq_true] at h
    cases k with
    | zero =>
      simp at hk hc
      subst hk hc
      have := h.1
      rw [hn] at this
      simpa using this
    | succ k =>
      have := tQ h.2 k x c (by simpa using hk) (by simpa using hc) hn
      rw [show j + 1 + k = j + (k + 1) by omega] at this
      exact this
theorem ra : ∀ {l : List kO} {i : Nat}, tN cG i l = true → ∀ k x, l[k]? = some x → ∀ a ∈ cG (i + k), ∃ e ∈ x.pr, e = a ∨ a ∈ cG e
  | [], _, _, k, x, hk => by simp at hk
  | z :: l, i, h, k, x, hk => by
    unfold tN at h
    rw [Bool.and_eq_true] at h
    cases k with
    | zero =>
      simp at hk
      subst hk
      intro a ha
      have h1 := List.all_eq_true.1 h.1 a ha
      obtain ⟨e, he, h2⟩ := List.any_eq_true.1 h1
      rw [Bool.or_eq_true] at h2
      refine ⟨e, he, ?_⟩
      rcases h2 with h2 | h2
      · exact .inl (Nat.eq_of_beq_eq_true h2)
      · exact .inr (dC.1 h2)
    | succ k =>
      have := ra h.2 k x (by simpa using hk)
      rw [show i + 1 + k = i + (k + 1) by omega] at this
      exact this
theorem BE (h : tN cG 0 (iV ops) = true) : wx ops cG := fun i oi a hi ha => by
  have h1 := ra h i _ (iW hi) a (by rw [Nat.zero_add]; exact ha)
  obtain ⟨e, he, h2⟩ := h1
  obtain ⟨ed, q1, q2, rfl⟩ := gv.1 he
  exact ⟨ed, by simpa using q1, q2, h2⟩
theorem lT {L : Nat} : ∀ {l : List kO} {i k : Nat}, k ∈ kP L i l ↔ ∃ j x, k = i + j ∧ l[j]? = some x ∧ L.testBit k = false ∧ (x.pr.all fun e => L.testBit e) = true
  | [], i, k => by simp [kP]
  | z :: l, i, k => by
    have ih := lT (L := L) (l := l) (i := i + 1) (k := k)
    have rest : (∃ j x, k = i + 1 + j ∧ l[j]? = some x ∧ L.testBit k = false ∧ (x.pr.all fun e => L.testBit e) = true) ↔ ∃ j x, k = i + (j + 1) ∧ (z :: l)[j + 1]? = some x ∧ L.testBit k = false ∧ (x.pr.all fun e => L.testBit e) = true := by
      constructor
      · rintro ⟨j, x, h1, h2⟩; exact ⟨j, x, by omega, by simpa using h2⟩
      · rintro ⟨j, x, h1, h2⟩; exact ⟨j, x, by omega, by simpa using h2⟩
    unfold kP
    cases hc : (!L.testBit i && z.pr.all fun e => L.testBit e) with
    | true =>
      simp only [cond_true, List.mem_cons, ih, rest]
      rw [Bool.and_eq_true, Bool.not_eq_true'] at hc
      constructor
      · rintro (rfl | ⟨j, x, h⟩)
        · exact ⟨0, z, rfl, rfl, hc⟩
        · exact ⟨j + 1, x, h⟩
      · rintro ⟨j, x, h1, h2⟩
        cases j with
        | zero => exact .inl h1
        | succ j => exact .inr ⟨j, x, h1, h2⟩
    | false =>
      simp only [cond_false, ih, rest]
      constructor
      · rintro ⟨j, x, h⟩; exact ⟨j + 1, x, h⟩
      · rintro ⟨j, x, h1, h2, h3, h4⟩
        cases j with
        | zero =>
          simp at h2 h1
          subst h1 h2
          rw [h3, h4] at hc
          cases hc
        | succ j => exact ⟨j, x, h1, h2, h3, h4⟩
theorem lU {L k : Nat} {x : kO} : ∀ {l : List kO} {i : Nat}, mH cG L k x i l = true → ∀ j y, l[j]? = some y → L.testBit (i + j) = false → mG x y = true → k ∈ cG (i + j)
  | [], _, _, j, y, hj => by simp at hj
  | z :: l, i, h, j, y, hj => by
    unfold mH at h
    rw [Bool.and_eq_true] at h
    cases j with
    | zero =>
      simp at hj
      subst hj
      intro h1 h2
      have h3 := h.1
      rw [Nat.add_zero] at h1
      rw [h1, h2] at h3
      exact dC.1 (by simpa using h3)
    | succ j =>
      have := lU h.2 j y (by simpa using hj)
      rw [show i + 1 + j = i + (j + 1) by omega] at this
      exact this
theorem rb {L : Nat} {listed : Array Bool} (hM : zJ ops L listed) {C C' : List Nat} (h : sh (iV ops) cG L C C' = true) : ∀ k ∈ C, k ∈ C' ∨ ∀ i ok oi, ops[k]? = some ok → ops[i]? = some oi → listed.getD i true = false → gI ok oi = true → k ∈ cG i := fun k hk => by
  have h1 := List.all_eq_true.1 h k hk
  rw [Bool.or_eq_true] at h1
  rcases h1 with h1 | h1
  · exact .inl (dC.1 h1)
  · refine .inr fun i ok oi q1 q2 q3 q4 => ?_
    rw [fg q1] at h1
    have hi : i < ops.size := (Array.getElem?_eq_some_iff.1 q2).1
    have := lU h1 i _ (iW q2) (by rw [Nat.zero_add, ← hM.zK hi]; exact q3) q4
    rw [Nat.zero_add] at this
    exact this
theorem wB {C : List Nat} (h : CS (iV ops) C = true) : NC ops C := fun k hk ok cD => by
  have := List.all_eq_true.1 h k hk
  rw [fg cD] at this
  exact this
theorem tR {L j : Nat} {x : kO} {W : List Nat} : ∀ {l : List kO} {i : Nat}, CR cG L W j x i l = true → ∀ k y, l[k]? = some y → (Nat.beq (i + k) j || L.testBit (i + k) || hU j (cG (i + k)) || (qo x y && y.lo.all fun e => hU e W)) = true
  | [], _, _, k, y, hk => by simp at hk
  | z :: l, i, h, k, y, hk => by
    unfold CR at h
    rw [Bool.and_eq_true] at h
    cases k with
    | zero => simp at hk; subst hk; exact h.1
    | succ k =>
      have := tR h.2 k y (by simpa using hk)
      rw [show i + 1 + k = i + (k + 1) by omega] at this
      exact this
theorem tS {d : Nat} {s : aT} : ∀ {l : List Nat}, CP d s l = true → ∀ e ∈ l, ∀ off, lk s e ≠ .lp d off
  | [], _, e, he, _ => by cases he
  | a :: l, h, e, he, off => by
    unfold CP at h
    rw [Bool.and_eq_true] at h
    rcases List.mem_cons.1 he with rfl | he
    · intro hv
      have h1 := h.1
      rw [hv] at h1
      simp only [oh] at h1
      cases h1
    · exact tS h.2 e he off
theorem lV {cf : List (List Nat)} (hA : wx ops cG) (hP : Lt ops.size (iV ops) = true) (hF : zH (iV ops) 0 (iV ops) cf = true) (hK : Inv K) : ∀ (T : DT) (n : Nat) (C : List Nat) (listed : Array Bool) (L : Nat), NC ops C → kN cG listed → zJ ops L listed →
    (jo (iV ops) (2 ^ ops.size - 1) cG cf T n C L none = true → ∀ s, pP E f ops.toList T K s → dX E f ops cG C K n listed s) ∧
    (∀ m l, n = m + 1 → jo (iV ops) (2 ^ ops.size - 1) cG cf T n C L (some l) = true → ∀ s, pP E f ops.toList T K s → ∀ i ∈ l, i ∈ Region.ready .any ops listed → ∀ oi, ops[i]? = some oi →
      bO E f ops.toList oi (fun s' => BC E f ops cG C i s' ∧ dX E f ops cG C K m (listed.setIfInBounds i true) s') s)
  | .done, n, C, listed, L, hC, fK, hM => by
    refine ⟨fun h s hs => ?_, fun m l _ h => by simp [jo] at h⟩
    have hL : L = 2 ^ ops.size - 1 := Nat.eq_of_beq_eq_true (by simpa only [jo] using h)
    have hr : Region.ready .any ops listed = [] := by
      apply List.eq_nil_iff_forall_not_mem.2
      intro j hj
      obtain ⟨h1, o, ho, _⟩ := mem_ready.1 hj
      have bR : j < ops.size := (Array.getElem?_eq_some_iff.1 ho).1
      rw [hM.zK bR, hL, Nat.testBit_two_pow_sub_one] at h1
      simp [bR] at h1
    cases n with
    | zero => exact ⟨hr, hs⟩
    | succ n => exact ⟨fun _ => hs, fun i hi => by rw [hr] at hi; simp at hi⟩
  | .stop, n, C, listed, L, hC, fK, hM => by
    refine ⟨fun h => by cases n <;> simp [jo] at h, fun m l e h s _ i hi => ?_⟩
    subst e
    have : l = [] := by simpa [jo] using h
    rw [this] at hi
    simp at hi
  | .al j W T, 0, C, listed, L, hC, fK, hM => ⟨fun h => by simp [jo] at h, fun m l e => by cases e⟩
  | .al j W T, n + 1, C, listed, L, hC, fK, hM => by
    refine ⟨fun h s hs => ?_, fun m l _ h => by simp [jo] at h⟩
    unfold jo at h
    split at h
    · rename_i x hx
      obtain ⟨oj, hj, rfl⟩ := oW hx
      split at h
      · cases h
      · rename_i d hd
        simp only [kQ, Bool.and_eq_true] at h
        obtain ⟨⟨⟨⟨⟨So, D3⟩, hbit⟩, Pq⟩, ik⟩, hT⟩ := h
        have So : C = [] := by simpa using So
        subst So
        have D3 : bI oj.op = true := D3
        have hd : oj.dst = some d := hd
        have tT : j ∈ Region.ready .any ops listed := nK hM hj (by simpa using hbit) Pq (mI hP hj)
        obtain ⟨ih, _⟩ := lV hA hP hF hK T n [] (listed.setIfInBounds j true) (L ||| 2 ^ j) (fun k hk => by cases hk) (fK.add hA tT) (hM.add j)
        unfold pP at hs
        rw [aD, Array.getElem?_toList, hj] at hs
        simp only at hs
        obtain ⟨cD, hs⟩ := hs
        unfold Lr at cD
        split at cD
        · rename_i _ d' hg Cq
          rw [hd] at Cq
          cases Cq
          rw [Bool.and_eq_true] at cD
          have Lq : E.sw f d = false := by simpa using cD.1
          have EE : bO E f ops.toList oj (dX E f ops cG [] K n (listed.setIfInBounds j true)) s := bP hs fun s' h' => ih hT s' h'
          unfold bO at EE
          rw [hg] at EE
          obtain ⟨s1, q1, q2⟩ := (CN D3).1 EE
          refine FQ hA hK hj hg hd D3 Lq n listed s s1 fK (fun i oi hi bS FO lG => ?_) tT q1 q2
          have eS := tR ik i _ (iW hi)
          rw [Nat.zero_add] at eS
          simp only [Bool.or_eq_true] at eS
          have Lu : i < ops.size := (Array.getElem?_eq_some_iff.1 hi).1
          rcases eS with ((h1 | h1) | h1) | h1
          · exact absurd (Nat.eq_of_beq_eq_true h1) bS
          · rw [hM.zK Lu, h1] at FO; cases FO
          · exact absurd (dC.1 h1) lG
          · rw [Bool.and_eq_true] at h1
            exact ⟨wA h1.1, fun e he off => tS cD.2 e (dC.1 (List.all_eq_true.1 h1.2 e he)) off⟩
        · cases cD
    · cases h
  | .take j C' T, 0, C, listed, L, hC, fK, hM => ⟨fun h => by simp [jo] at h, fun m l e => by cases e⟩
  | .take j C' T, n + 1, C, listed, L, hC, fK, hM => by
    refine ⟨fun h s hs => ?_, fun m l _ h => by simp [jo] at h⟩
    unfold jo at h
    split at h
    · rename_i x c hx hc
      obtain ⟨oj, hj, rfl⟩ := oW hx
      split at h
      · cases h
      · rename_i d hd
        simp only [kQ, Bool.and_eq_true] at h
        obtain ⟨⟨⟨⟨⟨⟨⟨hN, zD⟩, Sk⟩, hcf⟩, hbit⟩, Pq⟩, lS⟩, Lv, hT⟩ := h
        have hN : pO oj.op = true := hN
        have hd : oj.dst = some d := hd
        have tT : j ∈ Region.ready .any ops listed := nK hM hj (by simpa using hbit) Pq (mI hP hj)
        have HG : ∀ {d : Nat} {l : List Nat}, (!hU d l) = true → d ∉ l := fun h hm => by rw [dC.2 hm] at h; cases h
        have Lw : d ∉ oj.looksAt ops := HG zD
        have Sp : ∀ k ∈ C, ∀ ok, ops[k]? = some ok → d ∉ ok.looksAt ops ∧ ok.dst ≠ some d := fun k hk ok cD => by
          have := List.all_eq_true.1 Sk k hk
          rw [fg cD] at this
          simp only [Bool.and_eq_true] at this
          refine ⟨HG this.1, fun e => ?_⟩
          have h2 := this.2
          simp only [iU, e, oh] at h2
          cases h2
        have HL : NC ops (j :: C) := fun k hk ok ho => by
          rcases List.mem_cons.1 hk with rfl | hk
          · rw [hj] at ho; cases ho; exact hN
          · exact hC k hk ok ho
        have Sq := fK.add hA tT
        obtain ⟨ih, _⟩ := lV hA hP hF hK T n C' (listed.setIfInBounds j true) (L ||| 2 ^ j) (wB lS) Sq (hM.add j)
        unfold pP at hs
        rw [aD, Array.getElem?_toList, hj] at hs
        simp only at hs
        have EE : bO E f ops.toList oj (dX E f ops cG (j :: C) K n (listed.setIfInBounds j true)) s := bP hs fun s' h' => kM n _ _ (rb (hM.add j) Lv) (ih hT s' h')
        obtain ⟨x, qI, hk⟩ := tJ hN (fD HL hK _ _) EE
        rw [hd] at hk
        refine BD hA hC hK hj hN hd Lw Sp n listed s x fK (fun i oi hi bS FO lG => ?_) tT qI hk
        have ik := tQ hF j _ c (iW hj) (by rw [← aD]; exact hc) hN
        have eS := tP ik i _ (iW hi)
        rw [Nat.zero_add, Nat.zero_add] at eS
        simp only [Bool.or_eq_true] at eS
        have Lu : i < ops.size := (Array.getElem?_eq_some_iff.1 hi).1
        rcases eS with ((h1 | h1) | h1) | h1
        · exact absurd (Nat.eq_of_beq_eq_true h1) bS
        · obtain ⟨e, q1, q2, q3⟩ := gv.1 (dC.1 h1)
          exact absurd q3 (lG e (by simpa using q1) q2)
        · have := List.all_eq_true.1 hcf i (dC.1 h1)
          rw [hM.zK Lu, this] at FO
          cases FO
        · exact wA h1
    · cases h
  | .br i re C' T more, 0, C, listed, L, hC, fK, hM => ⟨fun h => by simp [jo] at h, fun m l e => by cases e⟩
  | .br i re C' T more, n + 1, C, listed, L, hC, fK, hM => by
    have main : ∀ left l, (match left with | none => kP L 0 (iV ops) | some l => l) = l → jo (iV ops) (2 ^ ops.size - 1) cG cf (.br i re C' T more) (n + 1) C L left = true → ∀ s, pP E f ops.toList (.br i re C' T more) K s → i ∈ l ∧ ∀ k ∈ l, k ∈ Region.ready .any ops listed → ∀ ok, ops[k]? = some ok →
        bO E f ops.toList ok (fun s' => BC E f ops cG C k s' ∧ dX E f ops cG C K n (listed.setIfInBounds k true) s') s := by
      intro left l hl h s hs
      unfold jo at h
      split at h
      · cases h
      · rename_i y hy
        obtain ⟨oi, oV, rfl⟩ := oW hy
        have h : (Kb (iV ops) cG C re i (iU ops oi) && CS (iV ops) C' && hU i l && (sh (iV ops) cG (L ||| 2 ^ i) C C' && jo (iV ops) (2 ^ ops.size - 1) cG cf T n C' (L ||| 2 ^ i) none) &&
          jo (iV ops) (2 ^ ops.size - 1) cG cf more (n + 1) C L (some (l.filter fun k => !Nat.beq k i))) = true := by
          cases left with
          | none => simp only at hl; subst hl; simp only [tO, kQ] at h; exact h
          | some l' => simp only at hl; subst hl; simp only [kQ] at h; exact h
        simp only [Bool.and_eq_true] at h
        obtain ⟨⟨⟨⟨KX, lS⟩, sX⟩, Lv, hT⟩, hmore⟩ := h
        unfold pP at hs
        refine ⟨dC.1 sX, fun k hk QZ ok cD => ?_⟩
        by_cases e : k = i
        · subst e
          rw [oV] at cD
          cases cD
          obtain ⟨ih, _⟩ := lV hA hP hF hK T n C' (listed.setIfInBounds k true) (L ||| 2 ^ k) (wB lS) (fK.add hA QZ) (hM.add k)
          have h1 := hs.1
          rw [aD, Array.getElem?_toList, oV] at h1
          refine bP h1 fun s' h' => ⟨fun c hc oc Ka q1 q2 q3 q4 => ?_, kM n _ _ (rb (hM.add k) Lv) (ih hT s' h'.2)⟩
          rw [oV] at q2
          cases q2
          have Ar := List.all_eq_true.1 KX c hc
          rw [fg q1] at Ar
          have V0 : mG (iU ops oc) (iU ops oi) = true := q3
          simp only [V0, Bool.not_true, Bool.false_or, Bool.or_eq_true] at Ar
          rcases Ar with Ar | Ar
          · have hm : c ∈ re := dC.1 Ar
            have : ∀ (re : List Nat), c ∈ re → wz E f ops.toList re s' → Bu E f ops.toList oc s' := by
              intro re
              induction re with
              | nil => intro hm; simp at hm
              | cons a re ihr =>
                intro hm ha
                rcases List.mem_cons.1 hm with rfl | hm
                · have := ha.1
                  rw [aD, Array.getElem?_toList, q1] at this
                  exact this
                · exact ihr hm ha.2
            exact this re hm h'.1
          · exact absurd (dC.1 Ar) q4
        · obtain ⟨_, ih⟩ := lV hA hP hF hK more (n + 1) C listed L hC fK hM
          refine ih n _ rfl hmore s hs.2 k ?_ QZ ok cD
          rw [List.mem_filter]
          exact ⟨hk, by rw [ky e]; rfl⟩
    refine ⟨fun h s hs => ?_, fun m l e h s hs k hk QZ ok cD => ?_⟩
    · obtain ⟨m1, m2⟩ := main none _ rfl h s hs
      have back : ∀ k, k ∈ kP L 0 (iV ops) → k ∈ Region.ready .any ops listed := fun k hk => by
        obtain ⟨j, x, q1, q2, q3, q4⟩ := lT.1 hk
        rw [Nat.zero_add] at q1
        subst q1
        rw [← aD] at q2
        obtain ⟨o, ho, rfl⟩ := oW q2
        exact nK hM ho q3 q4 (mI hP ho)
      have Pr : ∀ k, k ∈ Region.ready .any ops listed → k ∈ kP L 0 (iV ops) := fun k hk => by
        obtain ⟨h1, o, ho, lS⟩ := mem_ready.1 hk
        have bR : k < ops.size := (Array.getElem?_eq_some_iff.1 ho).1
        refine lT.2 ⟨k, iU ops o, by omega, iW ho, by rw [← hM.zK bR]; exact h1, List.all_eq_true.2 fun e he => ?_⟩
        obtain ⟨ed, q1, q2, rfl⟩ := gv.1 he
        have h2 := lS ed (by simpa using q1) q2
        rw [hM.zK (mI hP ho ed (by simpa using q1) q2)] at h2
        exact h2
      refine ⟨fun h0 => ?_, fun k hk ok cD => m2 k (Pr k hk) hk ok cD⟩
      have := back i m1
      rw [h0] at this
      simp at this
    · cases e
      exact (main (some l) l rfl h s hs).2 k hk QZ ok cD
theorem tU {R : af} {w : World} {β : Nat → Nat} {F : Fence} {Qc : Exit → Act → World → Prop} {C : List Nat} (hQ : ∀ a' w', lO E R w β s K a' w' → Qc .normal a' w') :
    ∀ (n : Nat) (listed : Array Bool) (R1 : af) (w1 : World) (β1 : Nat → Nat) (s1 : St) (a1 : Act), aJ E R1 w1 β1 s1 a1 → Step R w β s.boxes R1 w1 β1 s1.boxes → s1.ro = s.ro → bz R1 s1.ro F →
      dX E f ops cG C K n listed s1 → wpAnyIn F 0 E.P .any ops Qc n listed a1 w1
  | 0, listed, R1, w1, β1, s1, a1, hr, fb, aO, _, ha => ⟨ha.1, hQ _ _ ⟨s1, R1, β1, ha.2, hr, fb, aO⟩⟩
  | n + 1, listed, R1, w1, β1, s1, a1, hr, fb, aO, hf, ha => by
    refine ⟨fun h0 => hQ _ _ ⟨s1, R1, β1, ha.1 h0, hr, fb, aO⟩, fun i hi => ?_⟩
    obtain ⟨_, o, ho, _⟩ := mem_ready.1 hi
    unfold wpOpIn
    simp only [ho]
    refine oP hr hf (ha.2 i hi o ho) _ ?_
    rintro a' w' ⟨s', R', β', q1, q2, q3, q4⟩
    exact tU hQ n _ R' w' β' s' a' q2 (fb.trans q3) (q4.trans aO) (by rw [q4]; exact hf.mono q3.ext) q1.2
theorem dR {K' : St → Prop} (hK : ∀ s, K s → K' s) : ∀ (T : DT) (s : St), pP E f ops.toList T K s → pP E f ops.toList T K' s
  | .done, s, h => hK s h
  | .stop, _, _ => trivial
  | .take j C T, s, h => by
    unfold pP at h ⊢
    split
    · rename_i oj hj
      rw [hj] at h
      exact bP h fun s' h' => dR hK T s' h'
    · rename_i hj
      rw [hj] at h
      exact h
  | .al j W T, s, h => by
    unfold pP at h ⊢
    split
    · rename_i oj hj
      rw [hj] at h
      exact ⟨h.1, bP h.2 fun s' h' => dR hK T s' h'⟩
    · rename_i hj
      rw [hj] at h
      exact h
  | .br i re C T more, s, h => by
    unfold pP at h ⊢
    refine ⟨?_, dR hK more s h.2⟩
    have h := h.1
    split
    · rename_i oj hj
      rw [hj] at h
      exact bP h fun s' h' => ⟨h'.1, dR hK T s' h'.2⟩
    · rename_i hj
      rw [hj] at h
      exact h
structure ai where
  cG : List (List Nat)
  cf : List (List Nat)
  T : DT
def BF (ops : Array Oper) (p : ai) : Bool := CQ (ops.toList.map (iU ops)) fun I =>
  xH ops.size fun n => xH (2 ^ n - 1) fun N => tN (FR p.cG) 0 I && Lt n I && zH I 0 I p.cf && jo I N (FR p.cG) p.cf p.T n [] 0 none
theorem aJ.drawn {R : af} {w : World} {β : Nat → Nat} {a : Act} (h : aJ E R w β s a) : aJ E R { w with drawn := w.drawn + 1 } β s a ∧ Step R w β s.boxes R { w with drawn := w.drawn + 1 } β s.boxes := by
  have e : Ext R w R { w with drawn := w.drawn + 1 } := ⟨fun _ _ h => h, fun _ _ _ => rfl, fun _ ro h => ⟨ro, h, bF.refl ro⟩, dp.refl w⟩
  refine ⟨⟨⟨h.g.len, fun id go ro h1 h2 => (h.g.obj id go ro h1 h2).mono e (fun _ _ => rfl) (fun _ _ _ h => h), h.g.inj, h.g.wf, fun g cs hg => (h.g.cw g cs hg).mono e, Nat.le_succ_of_le h.g.lo⟩, ?_, h.t.mono e, h.n, h.d⟩, ?_⟩
  · exact h.b.bL e (fun _ _ _ => rfl) (fun _ _ _ _ h => h) (fun _ _ _ h => h)
  · exact ⟨e, rfl, rfl, rfl, Nat.le_refl _, fun _ _ _ => rfl, fun _ _ h => h, fun _ _ h _ _ => h⟩
theorem dE.draw {id : Nat} {p : ai} {Q : Exit → St → Prop} (cD : BF ops p = true) (h : pP E f ops.toList p.T (Q .normal) s) : dE E (.region id ops true) Q s := fun R w β a F hr hf => by
  simp only [BF, zI, kQ, Bool.and_eq_true] at cD
  obtain ⟨⟨⟨hA, hP⟩, hF⟩, hT⟩ := cD
  refine wpIn_region_any E.mixed ?_
  obtain ⟨q1, q2⟩ := hr.drawn
  have hK : Inv (fun s => ∃ u, mD u s ∧ Q .normal u) := fun s t e ⟨u, h1, h2⟩ => ⟨u, h1.trans e, h2⟩
  have h' := dR (K' := fun s => ∃ u, mD u s ∧ Q .normal u) (fun s h => ⟨s, mD.refl s, h⟩) p.T s h
  have fK : kN (FR p.cG) (Array.replicate ops.size false) := fun i hi => by
    rw [Array.getD_eq_getD_getElem?, Array.getElem?_replicate] at hi
    split at hi <;> cases hi
  have Lx := (lV (E := E) (f := f) (BE hA) hP hF hK p.T ops.size [] (Array.replicate ops.size false) 0 (fun k hk => by simp at hk) fK ⟨by simp, fun i hi => by simp [hi]⟩).1 hT s h'
  refine tU (R := R) (w := w) (β := β) (s := s) (f := f) (K := fun s => ∃ u, mD u s ∧ Q .normal u) ?_ _ _ R _ β s a q1 q2 rfl hf Lx
  rintro a' w' ⟨s', R', β', ⟨u, e, hu⟩, h2, h3, h4⟩
  exact ⟨u, R', β', hu, h2.eqv e.symm, h3.eqv rfl e.symm.b, e.ro.trans h4⟩
end
end Go.Am
