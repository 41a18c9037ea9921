/- The abstract machine: what is asked of bodies; values are brought to a short form. -/
import Derived.Test.YtpngggdfbbdfaaaDoorAmW
set_option linter.all false
namespace Go.Am
open Go

/-- Whether all regions of a body whose order is drawn have their trees. -/
def codeDraws (dt : Nat → Option DrawPlan) : Code → Bool
  | .region id ops true => match dt id with
    | some p => drawOk ops p
    | none => false
  | .seq x y => codeDraws dt x && codeDraws dt y
  | .cond _ x y => codeDraws dt x && codeDraws dt y
  | .block _ c => codeDraws dt c
  | .loop c => codeDraws dt c
  | .scope c => codeDraws dt c
  | .rangeFunc _ _ a b => codeDraws dt a && codeDraws dt b
  | _ => true

/-- The surroundings with the trees of the drawn regions. -/
structure EnvD extends Env where
  dt : FuncId → Nat → Option DrawPlan
  okF : FuncId → Bool
  draws : ∀ f fn c, okF f = true → P.funcs[f]? = some fn → fn.body = some c → codeDraws (dt f) c = true

/-! ### Values are brought to a short form -/

def forceNat {α : Type} (n : Nat) (K : Nat → α) : α := match n with
  | 0 => K 0
  | m + 1 => K (Nat.succ m)

def forceInt {α : Type} (n : Int) (K : Int → α) : α := match n with
  | .ofNat m => forceNat m fun m => K (.ofNat m)
  | .negSucc m => forceNat m fun m => K (.negSucc m)

def forceL {α β : Type} : List β → (List β → α) → α
  | [], K => K []
  | a :: l, K => forceL l fun l => K (a :: l)

def forceAV {α : Type} (v : AV) (K : AV → α) : α := match v with
  | .int k n => forceInt n fun n => K (.int k n)
  | .bool true => K (.bool true)
  | .bool false => K (.bool false)
  | .list k sz es => forceL es fun es => K (.list k sz es)
  | .str l => forceL l fun l => K (.str l)
  | .msl id off sz len cap => forceNat off fun off => forceNat len fun len => forceNat cap fun cap => K (.msl id off sz len cap)
  | .ptr id off => forceNat off fun off => K (.ptr id off)
  | .agg cs => forceL cs fun cs => K (.agg cs)
  | v => K v

def forceSl {α : Type} (l : Slots) (K : Slots → α) : α := match l with
  | .put d (.v a) :: l => forceAV a fun a => K (.put d (.v a) :: l)
  | .put d (.lp k off) :: l => forceNat off fun off => K (.put d (.lp k off) :: l)
  | l => K l

def forceBx {α : Type} (l : Boxes) (K : Boxes → α) : α := match l with
  | (d, cs) :: l => forceL cs fun cs => K ((d, cs) :: l)
  | [] => K []

def forceS {α : Type} (s : St) (K : St → α) : α := match s with
  | ⟨sl, bx, G, m, ro, n⟩ => forceSl sl fun sl => forceBx bx fun bx => forceL G fun G => K ⟨sl, bx, G, m, ro, n⟩

theorem forceNat_eq {α : Type} (n : Nat) (K : Nat → α) : forceNat n K = K n := by cases n <;> rfl
theorem forceInt_eq {α : Type} (n : Int) (K : Int → α) : forceInt n K = K n := by cases n <;> simp [forceInt, forceNat_eq]
theorem forceL_eq {α β : Type} : ∀ (l : List β) (K : List β → α), forceL l K = K l
  | [], _ => rfl
  | a :: l, K => by simp only [forceL]; rw [forceL_eq]
theorem forceAV_eq {α : Type} (v : AV) (K : AV → α) : forceAV v K = K v := by
  unfold forceAV
  split <;> simp [forceNat_eq, forceInt_eq, forceL_eq]
theorem forceSl_eq {α : Type} (l : Slots) (K : Slots → α) : forceSl l K = K l := by
  unfold forceSl
  split <;> simp [forceNat_eq, forceAV_eq]
theorem forceBx_eq {α : Type} (l : Boxes) (K : Boxes → α) : forceBx l K = K l := by
  unfold forceBx
  split <;> simp [forceL_eq]
theorem forceS_eq {α : Type} (s : St) (K : St → α) : forceS s K = K s := by
  obtain ⟨sl, bx, G, m, ro, n⟩ := s
  simp [forceS, forceSl_eq, forceBx_eq, forceL_eq]

def sameSV : SV → SV → Bool
  | .v a, .v b => sameA a b
  | .lp k o, .lp k' o' => Nat.beq k k' && Nat.beq o o'
  | _, _ => false

def bRe (E : Env) (f : FuncId) (ops : List Oper) (o : Oper) (s : St) : Bool := match gst ops s o with
  | some true => match o.dst, stepOp E f s o with
    | some d, some (c, s') => c && sameSV (lk s'.slots d) (lk s.slots d)
    | _, _ => false
  | some false => true
  | none => false

def bReAll (E : Env) (f : FuncId) (ops : List Oper) : List Nat → St → Bool
  | [], _ => true
  | k :: l, s => (match nth ops k with
    | some ok => bRe E f ops ok s
    | none => true) && bReAll E f ops l s

section
variable {E : Env} {f : FuncId} {s : St}

theorem sameSV_eq {a b : SV} (h : sameSV a b = true) : a = b := by
  unfold sameSV at h
  split at h
  · rw [sameA_eq h]
  · simp only [Bool.and_eq_true, Nat.beq_eq] at h; rw [h.1, h.2]
  · cases h

theorem bRe_sound {ops : List Oper} {o : Oper} (h : bRe E f ops o s = true) : reG E f ops o s := by
  unfold bRe at h
  unfold reG
  split at h
  · rename_i hg
    rw [hg]
    simp only
    split at h
    · rename_i d c s' hd hs
      rw [Bool.and_eq_true] at h
      obtain ⟨rfl, h⟩ := h
      rw [hd, hs]
      exact ⟨rfl, sameSV_eq h⟩
    · cases h
  · rename_i hg
    rw [hg]
    trivial
  · cases h

theorem bReAll_sound {ops : List Oper} : ∀ {l : List Nat} {s : St}, bReAll E f ops l s = true → reAll E f ops l s
  | [], _, _ => trivial
  | k :: l, s, h => by
    unfold bReAll at h
    unfold reAll
    rw [Bool.and_eq_true] at h
    refine ⟨?_, bReAll_sound h.2⟩
    have h := h.1
    split at h
    · rename_i hk
      rw [hk]
      exact bRe_sound h
    · rename_i hk
      rw [hk]
      trivial

end
end Go.Am
