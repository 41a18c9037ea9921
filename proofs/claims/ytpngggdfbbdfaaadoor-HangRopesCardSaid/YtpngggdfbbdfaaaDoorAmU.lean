/- The abstract machine: regions whose order the tape draws. -/
import Derived.Test.YtpngggdfbbdfaaaDoorAmT
set_option linter.all false
namespace Go.Am
open Go

def SameS (dst : Option Tmp) (s t s' t' : St) : Prop := ∃ x, s' = s.put dst x ∧ t' = t.put dst x

section
variable {E : Env} {s t : St} {o : Oper}

theorem SameS.put (_ : s.n = t.n) (dst : Option Tmp) (x : SV) : SameS dst s t (s.put dst x) (t.put dst x) := ⟨x, rfl, rfl⟩

theorem stepOp_slot {f : FuncId} {c : Bool} {s' : St} (hN : isN o.op = true) (hR : isR o.op = false) (hn : s.n = t.n) (hev : ∀ y ∈ o.op.operands, evO E s.slots y = evO E t.slots y)
    (h : stepOp E f s o = some (c, s')) : ∃ t', stepOp E f t o = some (c, t') ∧ SameS o.dst s t s' t' := by
  obtain ⟨dst, op, ty, pos, after, guard⟩ := o
  cases op
  case move x =>
    simp only [stepOp, hev x (by simp [Op.operands])] at h ⊢
    split at h
    all_goals (injection h with h; injection h with h1 h2; subst h1 h2; (try simp only [*]); exact ⟨_, rfl, .put hn _ _⟩)
  case assign x =>
    simp only [stepOp, hev x (by simp [Op.operands])] at h ⊢
    split at h
    all_goals (injection h with h; injection h with h1 h2; subst h1 h2; (try simp only [*]); exact ⟨_, rfl, .put hn _ _⟩)
  case pick x y z =>
    simp only [stepOp, hev x (by simp [Op.operands]), hev y (by simp [Op.operands]), hev z (by simp [Op.operands])] at h ⊢
    split at h
    · injection h with h; injection h with h1 h2; subst h1 h2; (try simp only [*]); exact ⟨_, rfl, .put hn _ _⟩
    · cases h
  case build ty ps =>
    have he : buildA E s ty ps.toList = buildA E t ty ps.toList := by
      unfold buildA
      rw [evP_congr (fun p hp => hev p.2 (by simp only [Op.operands, List.mem_toArray, List.mem_map]; exact ⟨p, hp, rfl⟩))]
    simp only [stepOp, he] at h ⊢
    split at h
    · injection h with h; injection h with h1 h2; subst h1 h2; (try simp only [*]); exact ⟨_, rfl, .put hn _ _⟩
    · cases h
  case buildSlice ty len ps =>
    have he : buildSliceA E s ty len ps.toList = buildSliceA E t ty len ps.toList := by
      unfold buildSliceA
      rw [evP_congr (fun p hp => hev p.2 (by simp only [Op.operands, List.mem_toArray, List.mem_map]; exact ⟨p, hp, rfl⟩))]
    simp only [stepOp, he] at h ⊢
    split at h
    · injection h with h; injection h with h1 h2; subst h1 h2; (try simp only [*]); exact ⟨_, rfl, .put hn _ _⟩
    · cases h
  case binOp op a x y b =>
    simp only [stepOp, hev x (by simp [Op.operands]), hev y (by simp [Op.operands])] at h ⊢
    repeat' (split at h)
    all_goals (first | (cases h; done) | skip)
    all_goals (injection h with h; injection h with h1 h2; subst h1 h2; (try simp only [*]); exact ⟨_, rfl, .put hn _ _⟩)
  case unOp op a x =>
    simp only [stepOp, hev x (by simp [Op.operands])] at h ⊢
    repeat' (split at h)
    all_goals (first | (cases h; done) | skip)
    all_goals (injection h with h; injection h with h1 h2; subst h1 h2; (try simp only [*]); exact ⟨_, rfl, .put hn _ _⟩)
  case convert a b x =>
    simp only [stepOp, hev x (by simp [Op.operands])] at h ⊢
    repeat' (split at h)
    all_goals (first | (cases h; done) | skip)
    all_goals (injection h with h; injection h with h1 h2; subst h1 h2; (try simp only [*]); exact ⟨_, rfl, .put hn _ _⟩)
  case makeFunc fo a b =>
    cases fo with
    | func g =>
      have h1 : evL E s.slots a.toList = evL E t.slots a.toList := evL_congr fun y hy => hev y (by simp only [Op.operands, Array.mem_append]; exact .inl (by simpa using hy))
      have h2 : evL E s.slots b.toList = evL E t.slots b.toList := evL_congr fun y hy => hev y (by simp only [Op.operands, Array.mem_append]; exact .inr (by simpa using hy))
      simp only [stepOp, h1, h2] at h ⊢
      repeat' (split at h)
      all_goals (first | (cases h; done) | skip)
      all_goals (injection h with h; injection h with h1 h2; subst h1 h2; (try simp only [*]); exact ⟨_, rfl, .put hn _ _⟩)
    | _ => simp [stepOp] at h
  case fieldAddr a x j =>
    simp only [stepOp, hev x (by simp [Op.operands])] at h ⊢
    repeat' (split at h)
    all_goals (first | (cases h; done) | skip)
    all_goals (injection h with h; injection h with h1 h2; subst h1 h2; (try simp only [*]); exact ⟨_, rfl, .put hn _ _⟩)
  case field a x j =>
    simp only [stepOp, hev x (by simp [Op.operands])] at h ⊢
    repeat' (split at h)
    all_goals (first | (cases h; done) | skip)
    all_goals (injection h with h; injection h with h1 h2; subst h1 h2; (try simp only [*]); exact ⟨_, rfl, .put hn _ _⟩)
  case indexAddr a x y =>
    simp only [stepOp, hev x (by simp [Op.operands]), hev y (by simp [Op.operands])] at h ⊢
    repeat' (split at h)
    all_goals (first | (cases h; done) | skip)
    all_goals (injection h with h; injection h with h1 h2; subst h1 h2; (try simp only [*]); exact ⟨_, rfl, .put hn _ _⟩)
  case index a x y =>
    simp only [stepOp, hev x (by simp [Op.operands]), hev y (by simp [Op.operands])] at h ⊢
    repeat' (split at h)
    all_goals (first | (cases h; done) | skip)
    all_goals (injection h with h; injection h with h1 h2; subst h1 h2; (try simp only [*]); exact ⟨_, rfl, .put hn _ _⟩)
  case slice a x lo hi mx =>
    have h1 : optO E s.slots lo = optO E t.slots lo := by
      cases lo with
      | none => rfl
      | some y => simp only [optO]; rw [hev y (by simp [Op.operands])]
    have h2 : optO E s.slots hi = optO E t.slots hi := by
      cases hi with
      | none => rfl
      | some y => simp only [optO]; rw [hev y (by simp [Op.operands])]
    simp only [stepOp, hev x (by simp [Op.operands]), h1, h2] at h ⊢
    repeat' (split at h)
    all_goals (first | (cases h; done) | skip)
    all_goals (injection h with h; injection h with h1 h2; subst h1 h2; (try simp only [*]); exact ⟨_, rfl, .put hn _ _⟩)
  case extract x i =>
    simp only [stepOp, hev x (by simp [Op.operands])] at h ⊢
    repeat' (split at h)
    all_goals (first | (cases h; done) | skip)
    all_goals (injection h with h; injection h with h1 h2; subst h1 h2; (try simp only [*]); exact ⟨_, rfl, .put hn _ _⟩)
  all_goals (first | (simp [isN] at hN; done) | (simp [isR] at hR; done))

end
end Go.Am
