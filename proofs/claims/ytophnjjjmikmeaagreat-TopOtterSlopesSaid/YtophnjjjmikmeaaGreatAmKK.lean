/- The abstract machine: what is asked of bodies; values are brought to a short form. -/
import Derived.Test.YtophnjjjmikmeaaGreatAmKJ
set_option linter.all false
namespace Go.Am
open Go
def bi (dt : Nat → Option ai) : Code → Bool
  | .region id ops true => match dt id with
    | some p => BF ops p
    | none => false
  | .seq x y => bi dt x && bi dt y
  | .cond _ x y => bi dt x && bi dt y
  | .block _ c => bi dt c
  | .loop c => bi dt c
  | .scope c => bi dt c
  | .rangeFunc _ _ a b => bi dt a && bi dt b
  | _ => true
structure Ly extends Env where
  dt : FuncId → Nat → Option ai
  okF : FuncId → Bool
  Kc : ∀ f fn c, okF f = true → P.funcs[f]? = some fn → fn.body = some c → bi (dt f) c = true
def gL {α : Type} (n : Nat) (K : Nat → α) : α := match n with
  | 0 => K 0
  | m + 1 => K (Nat.succ m)
def tV {α : Type} (n : Int) (K : Int → α) : α := match n with
  | .ofNat m => gL m fun m => K (.ofNat m)
  | .negSucc m => gL m fun m => K (.negSucc m)
def lW {α β : Type} : List β → (List β → α) → α
  | [], K => K []
  | a :: l, K => lW l fun l => K (a :: l)
def xI {α : Type} (v : AV) (K : AV → α) : α := match v with
  | .int k n => tV n fun n => K (.int k n)
  | .bool true => K (.bool true)
  | .bool false => K (.bool false)
  | .list k sz es => lW es fun es => K (.list k sz es)
  | .str l => lW l fun l => K (.str l)
  | .gb id off sz len cap => gL off fun off => gL len fun len => gL cap fun cap => K (.gb id off sz len cap)
  | .ptr id off => gL off fun off => K (.ptr id off)
  | .agg cs => lW cs fun cs => K (.agg cs)
  | v => K v
def xJ {α : Type} (l : aT) (K : aT → α) : α := match l with
  | .put d (.v a) :: l => xI a fun a => K (.put d (.v a) :: l)
  | .put d (.lp k off) :: l => gL off fun off => K (.put d (.lp k off) :: l)
  | l => K l
def xK {α : Type} (l : bU) (K : bU → α) : α := match l with
  | (d, cs) :: l => lW cs fun cs => K ((d, cs) :: l)
  | [] => K []
def BG {α : Type} (s : St) (K : St → α) : α := match s with
  | ⟨sl, bx, G, m, ro, n⟩ => xJ sl fun sl => xK bx fun bx => lW G fun G => K ⟨sl, bx, G, m, ro, n⟩
theorem lX {α : Type} (n : Nat) (K : Nat → α) : gL n K = K n := by cases n <;> rfl
theorem zL {α : Type} (n : Int) (K : Int → α) : tV n K = K n := by cases n <;> simp [tV, lX]
theorem mJ {α β : Type} : ∀ (l : List β) (K : List β → α), lW l K = K l
  | [], _ => rfl
  | a :: l, K => by simp only [lW]; rw [mJ]
theorem BH {α : Type} (v : AV) (K : AV → α) : xI v K = K v := by
  unfold xI
  split <;> simp [lX, zL, mJ]
theorem BI {α : Type} (l : aT) (K : aT → α) : xJ l K = K l := by
  unfold xJ
  split <;> simp [lX, BH]
theorem BJ {α : Type} (l : bU) (K : bU → α) : xK l K = K l := by
  unfold xK
  split <;> simp [mJ]
theorem D8 {α : Type} (s : St) (K : St → α) : BG s K = K s := by
  obtain ⟨sl, bx, G, m, ro, n⟩ := s
  simp [BG, BI, BJ, mJ]
def xL : SV → SV → Bool
  | .v a, .v b => df a b
  | .lp k o, .lp k' o' => Nat.beq k k' && Nat.beq o o'
  | _, _ => false
def Q0 (E : Env) (f : FuncId) (ops : List Oper) (o : Oper) (s : St) : Bool := match yG ops s o with
  | some true => match o.dst, ak E f s o with
    | some d, some (c, s') => c && xL (lk s'.ae d) (lk s.ae d)
    | _, _ => false
  | some false => true
  | none => false
section
variable {E : Env} {f : FuncId} {s : St}
theorem wC {a b : SV} (h : xL a b = true) : a = b := by
  unfold xL at h
  split at h
  · rw [fP h]
  · simp only [Bool.and_eq_true, Nat.beq_eq] at h; rw [h.1, h.2]
  · cases h
theorem wD {ops : List Oper} {o : Oper} (h : Q0 E f ops o s = true) : Bu E f ops o s := by
  unfold Q0 at h
  unfold Bu
  split at h
  · rename_i hg
    rw [hg]
    simp only
    split at h
    · rename_i d c s' hd hs
      rw [Bool.and_eq_true] at h
      obtain ⟨rfl, h⟩ := h
      rw [hd, hs]
      exact ⟨rfl, wC h⟩
    · cases h
  · rename_i hg
    rw [hg]
    trivial
  · cases h
end
end Go.Am
namespace Go.Am
open Go
mutual
def AV.under (n : Nat) : AV → Bool
  | .agg cs => aA n cs
  | .bC cs => aA n cs
  | .ep cs => aA n cs
  | .list (.own id) _ _ => Nat.blt id n
  | .list (.aG id _) _ _ => Nat.blt id n
  | .fn _ x y => aA n x && aA n y
  | .iface _ v => v.under n
  | .ptr id _ => Nat.blt id n
  | .gb id _ _ _ _ => Nat.blt id n
  | .cS id _ _ _ _ => Nat.blt id n
  | .gp id _ _ _ _ _ => Nat.blt id n
  | .eT id _ _ _ => Nat.blt id n
  | .rp id _ _ _ _ _ _ => Nat.blt id n
  | .map id => Nat.blt id n
  | .yield id => Nat.blt id n
  | _ => true
def aA (n : Nat) : List AV → Bool
  | [] => true
  | a :: l => a.under n && aA n l
end
mutual
theorem eO (n : Nat) : ∀ {a : AV}, a.closed = true → a.under n = true := fun {a} h => by
  cases a with
  | agg cs => simp only [AV.closed, AV.under] at *; exact bY n h
  | bC cs => simp only [AV.closed, AV.under] at *; exact bY n h
  | ep cs => simp only [AV.closed, AV.under] at *; exact bY n h
  | list k sz es => cases k <;> simp_all [AV.closed, AV.under, LK.closed]
  | fn f x y =>
    simp only [AV.closed, AV.under, Bool.and_eq_true] at *
    exact ⟨bY n h.1, bY n h.2⟩
  | iface t v => simp only [AV.closed, AV.under] at *; exact eO n h
  | _ => simp_all [AV.closed, AV.under]
theorem bY (n : Nat) : ∀ {l : List AV}, aN l = true → aA n l = true
  | [], _ => rfl
  | a :: l, h => by
    simp only [aN, aA, Bool.and_eq_true] at *
    exact ⟨eO n h.1, bY n h.2⟩
end
theorem jz {a b : Nat} (h : Nat.blt a b = true) : a < b := Nat.le_of_ble_eq_true h
mutual
theorem jQ : ∀ {a : AV}, a.under 0 = true → a.closed = true := fun {a} h => by
  cases a with
  | agg cs => simp only [AV.closed, AV.under] at *; exact dD h
  | bC cs => simp only [AV.closed, AV.under] at *; exact dD h
  | ep cs => simp only [AV.closed, AV.under] at *; exact dD h
  | list k sz es => cases k <;> first | rfl | (simp [AV.under] at h)
  | fn f x y =>
    simp only [AV.closed, AV.under, Bool.and_eq_true] at *
    exact ⟨dD h.1, dD h.2⟩
  | iface t v => simp only [AV.closed, AV.under] at *; exact jQ h
  | ptr id off => simp only [AV.under] at h; exact absurd (jz h) (Nat.not_lt_zero _)
  | gb id off sz len cap => simp only [AV.under] at h; exact absurd (jz h) (Nat.not_lt_zero _)
  | cS id f off sz len => simp only [AV.under] at h; exact absurd (jz h) (Nat.not_lt_zero _)
  | gp id f i off sz t => simp only [AV.under] at h; exact absurd (jz h) (Nat.not_lt_zero _)
  | eT id j sz len => simp only [AV.under] at h; exact absurd (jz h) (Nat.not_lt_zero _)
  | rp id j f i off sz t => simp only [AV.under] at h; exact absurd (jz h) (Nat.not_lt_zero _)
  | map id => simp only [AV.under] at h; exact absurd (jz h) (Nat.not_lt_zero _)
  | yield id => simp only [AV.under] at h; exact absurd (jz h) (Nat.not_lt_zero _)
  | _ => rfl
theorem dD : ∀ {l : List AV}, aA 0 l = true → aN l = true
  | [], _ => rfl
  | a :: l, h => by
    simp only [aA, aN, Bool.and_eq_true] at *
    exact ⟨jQ h.1, dD h.2⟩
end
section move
variable {R R2 : af} {w : World} {n : Nat}
structure Mv (R R2 : af) (n : Nat) : Prop where
  I : ∀ b o, R.I b o → R2.I b o
  obj : ∀ id ro, id < n → nth R.obj id = some ro → nth R2.obj id = some ro
theorem fu {a b : Nat} (h : Nat.blt a b = true) : a < b := Nat.le_of_ble_eq_true h
theorem fT {a b : Nat} (h : a < b) : Nat.blt a b = true := Nat.ble_eq_true_of_le h
theorem wY.move (m : Mv R R2 n) {k : LK} {b o len cap : Nat} (h : wY R k b o len cap) (hk : ∀ id, (k = .own id ∨ ∃ j, k = .aG id j) → id < n) : wY R2 k b o len cap := by
  cases k with
  | nil => exact h
  | full => exact h
  | fY => trivial
  | own id => obtain ⟨ro, h1, h2⟩ := h; exact ⟨ro, m.obj id ro (hk id (.inl rfl)) h1, h2⟩
  | aG id j => obtain ⟨ro, h1, h2⟩ := h; exact ⟨ro, m.obj id ro (hk id (.inr ⟨j, rfl⟩)) h1, h2⟩
mutual
theorem Rel.move (m : Mv R R2 n) : ∀ {a : AV} {c : Value}, a.under n = true → Rel R w a c → Rel R2 w a c
  | _, _, _, .bool b => .bool b
  | _, _, _, .int k i => .int k i
  | _, _, _, .str l => .str l
  | _, _, hb, .agg h h1 => .agg (h.move m (by simpa [AV.under] using hb)) h1
  | _, _, hb, .bC h => .bC (h.move m (by simpa [AV.under] using hb))
  | _, _, _, .gB => .gB
  | _, _, hb, .ptr h => .ptr (m.obj _ _ (fu (by simpa [AV.under] using hb)) h)
  | _, _, hb, .ep h => .ep (h.move m (by simpa [AV.under] using hb))
  | _, _, _, .gi => .gi
  | _, _, _, .fO => .fO
  | _, _, _, .jK => .jK
  | _, _, hb, .iH h ho => .iH (m.obj _ _ (fu (by simpa [AV.under] using hb)) h) ho
  | _, _, hb, .jm h ho => .jm (m.obj _ _ (fu (by simpa [AV.under] using hb)) h) ho
  | .list k sz es, _, hb, .list h hl hc hk => .list (h.move m) hl hc (hk.move m fun id e => by rcases e with e | ⟨j, e⟩ <;> subst e <;> exact fu (by simpa [AV.under] using hb))
  | _, _, hb, .gb h hc => .gb (m.obj _ _ (fu (by simpa [AV.under] using hb)) h) hc
  | _, _, hb, .fZ h ho => .fZ (m.obj _ _ (fu (by simpa [AV.under] using hb)) h) ho
  | _, _, hb, .cS h ho hc => .cS (m.obj _ _ (fu (by simpa [AV.under] using hb)) h) ho hc
  | _, _, hb, .gp h ho => .gp (m.obj _ _ (fu (by simpa [AV.under] using hb)) h) ho
  | _, _, hb, .oe h ho => .oe (m.obj _ _ (fu (by simpa [AV.under] using hb)) h) ho
  | _, _, hb, .eT h ho hc => .eT (m.obj _ _ (fu (by simpa [AV.under] using hb)) h) ho hc
  | _, _, hb, .rp h ho => .rp (m.obj _ _ (fu (by simpa [AV.under] using hb)) h) ho
  | _, _, _, .jW => .jW
  | _, _, hb, .map h => .map (m.obj _ _ (fu (by simpa [AV.under] using hb)) h)
  | _, _, _, .cV => .cV
  | _, _, hb, .fn h h' => .fn (h.move m (by simp only [AV.under, Bool.and_eq_true] at hb; exact hb.1)) (h'.move m (by simp only [AV.under, Bool.and_eq_true] at hb; exact hb.2))
  | _, _, hb, .yield h => .yield (m.obj _ _ (fu (by simpa [AV.under] using hb)) h)
  | _, _, _, .li => .li
  | _, _, hb, .iface h => .iface (h.move m (by simpa [AV.under] using hb))
theorem ay.move (m : Mv R R2 n) : ∀ {l : List AV} {cs : List Value}, ay R w l cs → aA n l = true → ay R2 w l cs
  | _, _, .nil, _ => .nil
  | _, _, .cons h t, hb => by
    simp only [aA, Bool.and_eq_true] at hb
    exact .cons (h.move m hb.1) (t.move m hb.2)
theorem eF.move (m : Mv R R2 n) : ∀ {b o sz : Nat} {l : List AV}, eF R w b o sz l → eF R2 w b o sz l
  | _, _, _, _, .nil => .nil
  | _, _, _, _, @eF.cons _ _ _ _ _ e _ hl ht hk h t => .cons hl ht hk (h.move m (by
      cases e with
      | agg cs => exact bY n (show aN cs = true by simpa [AV.closed] using hk)
      | bC cs => simp [AV.aH] at ht
      | _ => simp only [AV.cells, aA, Bool.and_true]; exact eO n hk)) (t.move m)
theorem du.move (m : Mv R R2 n) : ∀ {b o : Nat} {l : List AV}, du R w b o l → aA n l = true → du R2 w b o l
  | _, _, _, .nil, _ => .nil
  | _, _, _, .cons hc h1 hi h t, hb => by
    simp only [aA, Bool.and_eq_true] at hb
    exact .cons hc h1 (m.I _ _ hi) (h.move m hb.1) (t.move m hb.2)
end
theorem jL.move {E : Env} (m : Mv R R2 n) {g : Nat} {cs : List AV} (h : jL E R w g cs) (hu : aA n cs = true) : jL E R2 w g cs :=
  ⟨h.1.move m hu, fun hx => ⟨m.I _ _ (h.2 hx).1, (h.2 hx).2⟩⟩
mutual
theorem Rel.under (hn : R.obj.length ≤ n) : ∀ {a : AV} {c : Value}, Rel R w a c → a.under n = true
  | _, _, .bool _ | _, _, .int _ _ | _, _, .str _ | _, _, .gB | _, _, .gi | _, _, .fO | _, _, .jK | _, _, .jW | _, _, .cV | _, _, .li => by simp [AV.under]
  | _, _, .agg h _ => by simp only [AV.under]; exact h.under hn
  | _, _, .bC h => by simp only [AV.under]; exact h.under hn
  | _, _, .ptr h => by simp only [AV.under]; exact fT (Nat.lt_of_lt_of_le (aM h) hn)
  | _, _, .ep h => by simp only [AV.under]; exact h.under hn
  | _, _, .iH h _ => by simp only [AV.under]; exact fT (Nat.lt_of_lt_of_le (aM h) hn)
  | _, _, .jm h _ => by simp only [AV.under]; exact fT (Nat.lt_of_lt_of_le (aM h) hn)
  | _, _, @Rel.list _ _ k _ _ _ _ _ _ _ _ _ hk => by
    cases k with
    | own id => obtain ⟨ro, h1, _⟩ := hk; simp only [AV.under]; exact fT (Nat.lt_of_lt_of_le (aM h1) hn)
    | aG id j => obtain ⟨ro, h1, _⟩ := hk; simp only [AV.under]; exact fT (Nat.lt_of_lt_of_le (aM h1) hn)
    | _ => simp [AV.under]
  | _, _, .gb h _ => by simp only [AV.under]; exact fT (Nat.lt_of_lt_of_le (aM h) hn)
  | _, _, .fZ h _ => by simp only [AV.under]; exact fT (Nat.lt_of_lt_of_le (aM h) hn)
  | _, _, .cS h _ _ => by simp only [AV.under]; exact fT (Nat.lt_of_lt_of_le (aM h) hn)
  | _, _, .gp h _ => by simp only [AV.under]; exact fT (Nat.lt_of_lt_of_le (aM h) hn)
  | _, _, .oe h _ => by simp only [AV.under]; exact fT (Nat.lt_of_lt_of_le (aM h) hn)
  | _, _, .eT h _ _ => by simp only [AV.under]; exact fT (Nat.lt_of_lt_of_le (aM h) hn)
  | _, _, .rp h _ => by simp only [AV.under]; exact fT (Nat.lt_of_lt_of_le (aM h) hn)
  | _, _, .map h => by simp only [AV.under]; exact fT (Nat.lt_of_lt_of_le (aM h) hn)
  | _, _, .fn h h' => by simp only [AV.under, Bool.and_eq_true]; exact ⟨h.under hn, h'.under hn⟩
  | _, _, .yield h => by simp only [AV.under]; exact fT (Nat.lt_of_lt_of_le (aM h) hn)
  | _, _, .iface h => by simp only [AV.under]; exact h.under hn
theorem ay.under (hn : R.obj.length ≤ n) : ∀ {l : List AV} {cs : List Value}, ay R w l cs → aA n l = true
  | _, _, .nil => rfl
  | _, _, .cons h t => by simp only [aA, Bool.and_eq_true]; exact ⟨h.under hn, t.under hn⟩
theorem du.under (hn : R.obj.length ≤ n) : ∀ {b o : Nat} {l : List AV}, du R w b o l → aA n l = true
  | _, _, _, .nil => rfl
  | _, _, _, .cons _ _ _ h t => by simp only [aA, Bool.and_eq_true]; exact ⟨h.under hn, t.under hn⟩
end
end move
end Go.Am
namespace Go.Am
open Go
mutual
def aB.under (n : Nat) : aB → Bool
  | .agg ps => ps.under n
  | .bC ps => ps.under n
  | .own id _ _ => Nat.blt id n
  | .aG id _ _ => Nat.blt id n
  | .eT id _ => Nat.blt id n
  | .qB v => v.under n
  | .two u v => u.under n && v.under n
  | _ => true
def aF.under (n : Nat) : aF → Bool
  | .nil => true
  | .cons p ps => p.under n && ps.under n
end
mutual
theorem aB.cM {n : Nat} : ∀ (p : aB) (x : p.T), p.under n = true → (p.enc x).under n = true
  | .int k, x, _ => by simp [aB.enc, AV.under]
  | .bool, x, _ => by simp [aB.enc, AV.under]
  | .str, x, _ => by simp [aB.enc, AV.under]
  | .agg ps, x, h => by
    simp only [aB.enc, AV.under]
    exact ps.cM x h
  | .bC ps, x, h => by
    simp only [aB.enc, AV.under]
    exact ps.cM x h
  | .list sz p, x, _ => by simp [aB.enc, AV.under]
  | .own id sz p, x, h => by
    simp only [aB.enc, AV.under]
    exact h
  | .aG id sz p, x, h => by
    simp only [aB.enc, AV.under]
    exact h
  | .eT id sz, (x : Nat × Nat), h => by
    simp only [aB.enc, AV.under]
    exact h
  | .qB v, x, h => by
    simp only [aB.enc]
    exact h
  | .two u v, (x : Bool), h => by
    simp only [aB.under, Bool.and_eq_true] at h
    change AV.under n (bif x then v else u) = true
    cases x
    · exact h.1
    · exact h.2
theorem aF.cM {n : Nat} : ∀ (ps : aF) (x : ps.T), ps.under n = true → aA n (ps.enc x) = true
  | .nil, x, _ => rfl
  | .cons p .nil, x, h => by
    simp only [aF.under, Bool.and_true] at h
    simp only [aF.enc, aA, Bool.and_true]
    exact p.cM _ h
  | .cons p (.cons q ps), x, h => by
    rw [aF.under, Bool.and_eq_true] at h
    simp only [aF.enc, aA, Bool.and_eq_true]
    exact ⟨p.cM _ h.1, (aF.cons q ps).cM _ h.2⟩
end
mutual
def AV.exact : AV → Bool
  | .bool _ => true
  | .int _ _ => true
  | .str _ => true
  | .agg cs => dU cs
  | _ => false
def dU : List AV → Bool
  | [] => true
  | a :: l => a.exact && dU l
end
mutual
theorem aB.gM : ∀ (p : aB) {a : AV}, p.fits a = true → a.exact = true → p.enc (p.bf a) = a
  | .int k, a, h, e => by
    cases a with
    | int k' n => have hk : N8 k k' = true := h; rw [AH hk]; rfl
    | _ => cases h
  | .bool, a, h, e => by
    cases a with
    | bool b => rfl
    | _ => cases h
  | .str, a, h, e => by
    cases a with
    | str b => rfl
    | _ => cases h
  | .agg ps, a, h, e => by
    cases a with
    | agg cs =>
      have e' : dU cs = true := by simpa [AV.exact] using e
      show AV.agg (ps.enc (ps.bf cs)) = _
      rw [ps.gM (show ps.fits cs = true from h) e']
    | _ => cases h
  | .bC ps, a, h, e => by cases a <;> first | (cases h; done) | simp [AV.exact] at e
  | .list sz p, a, h, e => by cases a <;> first | (cases h; done) | simp [AV.exact] at e
  | .own id sz p, a, h, e => by cases a <;> first | (cases h; done) | simp [AV.exact] at e
  | .aG id sz p, a, h, e => by cases a <;> first | (cases h; done) | simp [AV.exact] at e
  | .eT id sz, a, h, e => by cases a <;> first | (cases h; done) | simp [AV.exact] at e
  | .qB u, a, h, e => (fP (show df a u = true from h)).symm
  | .two u v, a, h, _ => om h
theorem aF.gM : ∀ (ps : aF) {l : List AV}, ps.fits l = true → dU l = true → ps.enc (ps.bf l) = l
  | .nil, l, h, _ => by
    cases l with
    | nil => rfl
    | cons _ _ => cases h
  | .cons p .nil, l, h, e => by
    cases l with
    | nil => cases h
    | cons a l =>
      have h' : (p.fits a && l.isEmpty) = true := h
      simp only [Bool.and_eq_true, List.isEmpty_iff] at h'
      obtain ⟨h1, rfl⟩ := h'
      simp only [dU, Bool.and_true] at e
      show [p.enc (p.bf a)] = _
      rw [p.gM h1 e]
  | .cons p (.cons q ps), l, h, e => by
    cases l with
    | nil => cases h
    | cons a l =>
      have h' : (p.fits a && (aF.cons q ps).fits l) = true := h
      rw [Bool.and_eq_true] at h'
      simp only [dU, Bool.and_eq_true] at e
      show p.enc (p.bf a) :: (aF.cons q ps).enc ((aF.cons q ps).bf l) = _
      rw [p.gM h'.1 e.1, (aF.cons q ps).gM h'.2 e.2]
end
mutual
theorem kR : ∀ {a : AV}, a.exact = true → a.closed = true := fun {a} h => by
  cases a with
  | agg cs => simp only [AV.exact, AV.closed] at *; exact nf h
  | _ => simp_all [AV.exact, AV.closed]
theorem nf : ∀ {l : List AV}, dU l = true → aN l = true
  | [], _ => rfl
  | a :: l, h => by
    simp only [dU, aN, Bool.and_eq_true] at *
    exact ⟨kR h.1, nf h.2⟩
end
def bp : List (AV × AV) → List AV
  | [] => []
  | (k, v) :: l => .agg [k, v] :: bp l
def Ps : AV → AV × AV
  | .agg [k, v] => (k, v)
  | _ => (ea, ea)
def ax : List AV → List (AV × AV)
  | [] => []
  | a :: l => Ps a :: ax l
def AV.entries : AV → List (AV × AV)
  | .list _ _ es => ax es
  | _ => []
theorem lg : ∀ l : List (AV × AV), ax (bp l) = l
  | [] => rfl
  | (k, v) :: l => by simp only [bp, ax, lg l]; rfl
def AV.BK : AV → Bool
  | .list .fY _ es => dU es
  | _ => false
def hX : List AV → List AV → Prop
  | [], [] => True
  | a :: l, b :: r => eZ a b ∧ hX l r
  | _, _ => False
theorem hX.refl : ∀ l : List AV, hX l l
  | [] => trivial
  | a :: l => ⟨eZ.refl a, hX.refl l⟩
theorem hX.length : ∀ {l r : List AV}, hX l r → l.length = r.length
  | [], [], _ => rfl
  | _ :: _, _ :: _, h => by simp [hX.length h.2]
  | [], _ :: _, h => h.elim
  | _ :: _, [], h => h.elim
theorem hX.of {α : Type} {f : AV → Bool} {d : AV → α} {g : α → AV} (Cp : ∀ v, f v = true → eZ v (g (d v))) : ∀ {es : List AV}, allFit f es = true → hX es ((es.map d).map g)
  | [], _ => trivial
  | e :: es, h => by
    simp only [allFit, Bool.and_eq_true] at h
    exact ⟨Cp e h.1, hX.of Cp h.2⟩
theorem aB.zM (p : aB) {a : AV} (h : p.fits a = true) : hX a.bV (p.enc (p.bf a)).bV := by
  cases p with
  | list sz p =>
    cases a with
    | list k aQ es =>
      have hb : ((Nat.beq sz aQ || es.isEmpty) && allFit p.fits es) = true := h
      rw [Bool.and_eq_true] at hb
      exact hX.of (fun v hv => p.b9 hv) hb.2
    | _ => cases h
  | own id sz p =>
    cases a with
    | list k aQ es =>
      cases k with
      | own fJ =>
        have hb : ((Nat.beq id fJ && Nat.beq sz aQ) && allFit p.fits es) = true := h
        rw [Bool.and_eq_true] at hb
        exact hX.of (fun v hv => p.b9 hv) hb.2
      | _ => cases h
    | _ => cases h
  | aG id sz p =>
    cases a with
    | list k aQ es =>
      cases k with
      | aG fJ j =>
        have hb : ((Nat.beq id fJ && Nat.beq sz aQ) && allFit p.fits es) = true := h
        rw [Bool.and_eq_true] at hb
        exact hX.of (fun v hv => p.b9 hv) hb.2
      | _ => cases h
    | _ => cases h
  | qB u => rw [show a = u from fP (show df a u = true from h)]; exact hX.refl _
  | two u v => rw [om h]; exact hX.refl _
  | _ => cases a <;> first | (cases h; done) | exact hX.refl _
def tW : List AV → Bool
  | [] => true
  | a :: l => a.BK && tW l
def AV.FT : AV → Bool
  | .list .fY _ es => tW es
  | _ => false
def EJ : List AV → List AV → Prop
  | [], [] => True
  | a :: l, b :: r => (a.exact = true → b = a) ∧ ((a.BK = true → b.bV = a.bV) ∧ (a.FT = true → b.bV.map AV.bV = a.bV.map AV.bV)) ∧ hX a.bV b.bV ∧ EJ l r
  | _, _ => False
theorem tX {f : AV → Bool} {α : Type} {d : AV → α} {g : α → AV} (Cp : ∀ a, f a = true → a.exact = true → g (d a) = a) : ∀ {es : List AV}, allFit f es = true → dU es = true → (es.map d).map g = es
  | [], _, _ => rfl
  | a :: l, h, e => by
    simp only [allFit, dU, Bool.and_eq_true] at *
    simp only [List.map_cons, Cp a h.1 e.1, tX Cp h.2 e.2]
theorem aB.tY (p : aB) {a : AV} (h : p.fits a = true) (e : a.BK = true) : (p.enc (p.bf a)).bV = a.bV := by
  cases a with
  | list k aQ es =>
    cases k with
    | fY =>
      have e' : dU es = true := e
      cases p with
      | list sz p =>
        have hb : ((Nat.beq sz aQ || es.isEmpty) && allFit p.fits es) = true := h
        rw [Bool.and_eq_true] at hb
        show (es.map p.bf).map p.enc = _
        rw [tX (fun a => p.gM) hb.2 e']
        rfl
      | qB u => rw [show AV.list .fY aQ es = u from fP (show df _ u = true from h)]; rfl
      | two u v => rw [om h]
      | _ => cases h
    | _ => cases e
  | _ => cases e
theorem tZ {p : aB} : ∀ {es : List AV}, allFit p.fits es = true → tW es = true → ((es.map p.bf).map p.enc).map AV.bV = es.map AV.bV
  | [], _, _ => rfl
  | a :: l, h, e => by
    simp only [allFit, tW, Bool.and_eq_true] at *
    simp only [List.map_cons, p.tY h.1 e.1]
    rw [tZ h.2 e.2]
theorem aB.zN (p : aB) {a : AV} (h : p.fits a = true) (e : a.FT = true) : (p.enc (p.bf a)).bV.map AV.bV = a.bV.map AV.bV := by
  cases a with
  | list k aQ es =>
    cases k with
    | fY =>
      have e' : tW es = true := e
      cases p with
      | list sz p =>
        have hb : ((Nat.beq sz aQ || es.isEmpty) && allFit p.fits es) = true := h
        rw [Bool.and_eq_true] at hb
        show ((es.map p.bf).map p.enc).map AV.bV = _
        rw [tZ hb.2 e']
        rfl
      | qB u => rw [show AV.list .fY aQ es = u from fP (show df _ u = true from h)]; rfl
      | two u v => rw [om h]
      | _ => cases h
    | _ => cases e
  | _ => cases e
theorem aF.FU : ∀ (ps : aF) {l : List AV}, ps.fits l = true → EJ l (ps.enc (ps.bf l))
  | .nil, l, h => by
    cases l with
    | nil => trivial
    | cons _ _ => cases h
  | .cons p .nil, l, h => by
    cases l with
    | nil => cases h
    | cons a l =>
      have h' : (p.fits a && l.isEmpty) = true := h
      simp only [Bool.and_eq_true, List.isEmpty_iff] at h'
      obtain ⟨h1, rfl⟩ := h'
      exact ⟨p.gM h1, ⟨p.tY h1, p.zN h1⟩, p.zM h1, trivial⟩
  | .cons p (.cons q ps), l, h => by
    cases l with
    | nil => cases h
    | cons a l =>
      have h' : (p.fits a && (aF.cons q ps).fits l) = true := h
      rw [Bool.and_eq_true] at h'
      exact ⟨p.gM h'.1, ⟨p.tY h'.1, p.zN h'.1⟩, p.zM h'.1, (aF.cons q ps).FU h'.2⟩
theorem EJ.split : ∀ {l r l' : List AV}, EJ (l ++ r) l' → ∃ a b, l' = a ++ b ∧ EJ l a ∧ EJ r b ∧ a.length = l.length
  | [], r, l', h => ⟨[], l', rfl, trivial, h, rfl⟩
  | x :: l, r, [], h => h.elim
  | x :: l, r, y :: l', h => by
    obtain ⟨a, b, rfl, h2, h3, h4⟩ := EJ.split (l := l) (r := r) (l' := l') h.2.2.2
    exact ⟨y :: a, b, rfl, ⟨h.1, h.2.1, h.2.2.1, h2⟩, h3, by simp [h4]⟩
mutual
def AV.ua (L : Nat → Nat) : AV → AV
  | .cS id 0 0 sz 0 => .cS id (L id) 0 sz (L id)
  | .fn f x y => .fn f (FV L x) (FV L y)
  | v => v
def FV (L : Nat → Nat) : List AV → List AV
  | [] => []
  | a :: l => a.ua L :: FV L l
end
mutual
def aB.inst (L : Nat → Nat) : aB → aB
  | .agg ps => .agg (ps.inst L)
  | .bC ps => .bC (ps.inst L)
  | .qB v => .qB (v.ua L)
  | p => p
def aF.inst (L : Nat → Nat) : aF → aF
  | .nil => .nil
  | .cons p ps => .cons (p.inst L) (ps.inst L)
end
mutual
def aB.iX (L : Nat → Nat) : (p : aB) → p.T → AV
  | .int k, (n : Int) => .int k n
  | .bool, (b : Bool) => .bool b
  | .str, (s : List UInt8) => .str s
  | .agg ps, x => .agg (ps.iX L x)
  | .bC ps, x => .bC (ps.iX L x)
  | .list sz p, (xs : List p.T) => .list .fY sz (xs.map p.enc)
  | .own id sz p, (xs : List p.T) => .list (.own id) sz (xs.map p.enc)
  | .aG id sz p, (x : Nat × List p.T) => .list (.aG id x.1) sz (x.2.map p.enc)
  | .eT id sz, (x : Nat × Nat) => .eT id x.1 sz x.2
  | .qB v, _ => v.ua L
  | .two u v, (b : Bool) => bif b then v else u
def aF.iX (L : Nat → Nat) : (ps : aF) → ps.T → List AV
  | .nil, _ => []
  | .cons p .nil, x => [p.iX L x]
  | .cons p (.cons q ps), x => p.iX L x.1 :: (aF.cons q ps).iX L x.2
end
mutual
def aB.kl (L : Nat → Nat) : aB → AV → Bool
  | .int k, v => aB.fits (.int k) v
  | .bool, v => aB.fits .bool v
  | .str, v => aB.fits .str v
  | .agg ps, v => match v with
    | .agg cs => ps.kl L cs
    | _ => false
  | .bC ps, v => match v with
    | .bC cs => ps.kl L cs
    | _ => false
  | .list sz p, v => aB.fits (.list sz p) v
  | .own id sz p, v => aB.fits (.own id sz p) v
  | .aG id sz p, v => aB.fits (.aG id sz p) v
  | .eT id sz, v => aB.fits (.eT id sz) v
  | .qB v, u => df u (v.ua L)
  | .two u v, a => aB.fits (.two u v) a
def aF.kl (L : Nat → Nat) : aF → List AV → Bool
  | .nil, l => l.isEmpty
  | .cons p ps, l => match l with
    | a :: l => p.kl L a && ps.kl L l
    | [] => false
end
def aF.D9 (L : Nat → Nat) (ps : aF) (l : List AV) : Option ps.T := bif ps.kl L l then some (ps.bf l) else none
mutual
theorem aB.gw (L : Nat → Nat) : ∀ (p : aB) (a : AV), p.kl L a = (p.inst L).fits a
  | .int _, _ => rfl
  | .bool, _ => rfl
  | .str, _ => rfl
  | .agg ps, a => by
    simp only [aB.kl, aB.inst, aB.fits]
    cases a <;> first | rfl | exact ps.gw L _
  | .bC ps, a => by
    simp only [aB.kl, aB.inst, aB.fits]
    cases a <;> first | rfl | exact ps.gw L _
  | .list _ _, _ => rfl
  | .own _ _ _, _ => rfl
  | .aG _ _ _, _ => rfl
  | .eT _ _, _ => rfl
  | .qB _, _ => rfl
  | .two _ _, _ => rfl
theorem aF.gw (L : Nat → Nat) : ∀ (ps : aF) (l : List AV), ps.kl L l = (ps.inst L).fits l
  | .nil, _ => rfl
  | .cons p ps, l => by
    cases l with
    | nil => rfl
    | cons a l =>
      simp only [aF.kl, aF.inst, aF.fits]
      rw [p.gw L a, ps.gw L l]
end
mutual
theorem aB.fE (L : Nat → Nat) : ∀ (p : aB) (a : AV), p.iX L (p.bf a) = (p.inst L).enc ((p.inst L).bf a)
  | .int _, _ => rfl
  | .bool, _ => rfl
  | .str, _ => rfl
  | .agg ps, a => congrArg AV.agg (ps.fE L a.gS)
  | .bC ps, a => congrArg AV.bC (ps.fE L a.KC)
  | .list _ _, _ => rfl
  | .own _ _ _, _ => rfl
  | .aG _ _ _, _ => rfl
  | .eT _ _, _ => rfl
  | .qB _, _ => rfl
  | .two _ _, _ => rfl
theorem aF.fE (L : Nat → Nat) : ∀ (ps : aF) (l : List AV), ps.iX L (ps.bf l) = (ps.inst L).enc ((ps.inst L).bf l)
  | .nil, _ => rfl
  | .cons p .nil, l => by
    show [p.iX L (p.bf (cX l))] = [(p.inst L).enc ((p.inst L).bf (cX l))]
    rw [p.fE L]
  | .cons p (.cons q ps), l => by
    show p.iX L (p.bf (cX l)) :: (aF.cons q ps).iX L ((aF.cons q ps).bf (EO l)) = (p.inst L).enc ((p.inst L).bf (cX l)) :: ((aF.cons q ps).inst L).enc (((aF.cons q ps).inst L).bf (EO l))
    rw [p.fE L, (aF.cons q ps).fE L]
end
mutual
theorem AV.ub {n : Nat} (L : Nat → Nat) : ∀ {a : AV}, a.under n = true → (a.ua L).under n = true := fun {a} h => by
  cases a with
  | cS id f off sz len =>
    unfold AV.ua
    split
    · rename_i h1
      cases h1
      exact h
    · rename_i h1
      cases h1
    · exact h
  | fn f x y =>
    simp only [AV.ua, AV.under, Bool.and_eq_true] at *
    exact ⟨nL L h.1, nL L h.2⟩
  | _ => exact h
theorem nL {n : Nat} (L : Nat → Nat) : ∀ {l : List AV}, aA n l = true → aA n (FV L l) = true
  | [], _ => rfl
  | a :: l, h => by
    simp only [FV, aA, Bool.and_eq_true] at *
    exact ⟨AV.ub L h.1, nL L h.2⟩
end
mutual
theorem aB.gy {n : Nat} (L : Nat → Nat) : ∀ {p : aB}, p.under n = true → (p.inst L).under n = true
  | .int _, _ => rfl
  | .bool, _ => rfl
  | .str, _ => rfl
  | .agg ps, h => aF.gy L (ps := ps) h
  | .bC ps, h => aF.gy L (ps := ps) h
  | .list _ _, _ => rfl
  | .own _ _ _, h => h
  | .aG _ _ _, h => h
  | .eT _ _, h => h
  | .qB v, h => AV.ub L (a := v) h
  | .two _ _, h => h
theorem aF.gy {n : Nat} (L : Nat → Nat) : ∀ {ps : aF}, ps.under n = true → (ps.inst L).under n = true
  | .nil, _ => rfl
  | .cons p ps, h => by
    simp only [aF.inst, aF.under, Bool.and_eq_true] at *
    exact ⟨aB.gy L h.1, aF.gy L h.2⟩
end
theorem AV.wE (L : Nat → Nat) (v : AV) : (v.ua L).bV = v.bV := by
  unfold AV.ua
  split <;> rfl
def lq : List AV → List AV → Prop
  | [], [] => True
  | a :: l, b :: r => a.bV.length = b.bV.length ∧ lq l r
  | _, _ => False
theorem aB.lY (L L' : Nat → Nat) (p : aB) (x : p.T) : (p.iX L x).bV = (p.iX L' x).bV := by
  cases p with
  | qB v =>
    show (v.ua L).bV = (v.ua L').bV
    rw [AV.wE, AV.wE]
  | eT _ _ => rfl
  | _ => rfl
theorem aF.lY (L L' : Nat → Nat) : ∀ (ps : aF) (x : ps.T), lq (ps.iX L x) (ps.iX L' x)
  | .nil, _ => trivial
  | .cons p .nil, x => ⟨congrArg List.length (p.lY L L' x), trivial⟩
  | .cons p (.cons q ps), x => ⟨congrArg List.length (p.lY L L' x.1), (aF.cons q ps).lY L L' x.2⟩
theorem EJ.Pt : ∀ {l r : List AV}, EJ l r → lq l r
  | [], [], _ => trivial
  | _ :: _, _ :: _, h => ⟨h.2.2.1.length, h.2.2.2.Pt⟩
  | [], _ :: _, h => h.elim
  | _ :: _, [], h => h.elim
theorem lq.trans : ∀ {l r u : List AV}, lq l r → lq r u → lq l u
  | [], [], [], _, _ => trivial
  | _ :: _, _ :: _, _ :: _, h, k => ⟨h.1.trans k.1, h.2.trans k.2⟩
  | [], _ :: _, _, h, _ => h.elim
  | _ :: _, [], _, h, _ => h.elim
  | [], [], _ :: _, _, k => k.elim
  | _ :: _, _ :: _, [], _, k => k.elim
theorem lq.drop : ∀ {l r : List AV} (n : Nat), lq l r → lq (l.drop n) (r.drop n)
  | l, r, 0, h => by simpa using h
  | [], [], _ + 1, _ => by simp [lq]
  | _ :: _, _ :: _, n + 1, h => by simpa using lq.drop n h.2
  | [], _ :: _, _ + 1, h => h.elim
  | _ :: _, [], _ + 1, h => h.elim
theorem aF.Iw (L : Nat → Nat) (ps : aF) {l : List AV} {x : ps.T} (h : ps.D9 L l = some x) : bZ l (ps.iX L x) ∧ EJ l (ps.iX L x) := by
  unfold aF.D9 at h
  cases hf : ps.kl L l with
  | true =>
    rw [hf] at h
    cases h
    rw [ps.fE L]
    rw [ps.gw L] at hf
    have hd : (ps.inst L).dec l = some ((ps.inst L).bf l) := by unfold aF.dec; rw [hf]; rfl
    exact ⟨((ps.inst L).ny hd).1, (ps.inst L).FU hf⟩
  | false => rw [hf] at h; cases h
theorem aF.BL {n : Nat} (L : Nat → Nat) (ps : aF) (hp : ps.under n = true) (l : List AV) : aA n (ps.iX L (ps.bf l)) = true := by
  rw [ps.fE L]
  exact (ps.inst L).cM _ (aF.gy L hp)
theorem aF.Ea (L : Nat → Nat) (ps : aF) {l : List AV} {x : ps.T} (h : ps.D9 L l = some x) : x = ps.bf l := by
  unfold aF.D9 at h
  cases hf : ps.kl L l with
  | true => rw [hf] at h; cases h; rfl
  | false => rw [hf] at h; cases h
end Go.Am
