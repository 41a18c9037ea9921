/- The abstract machine: the evaluator is sound. -/
import Derived.Test.YtophnjjjmikmeaaGreatAmKN
import GoSem.ClaimJoined
import Derived.Below
import Derived.ChangeSame
import Derived.Carry
import Derived.RowKit
import Derived.FnData
import Derived.Lib.Builder
import Derived.Lib.UnsafeStr
set_option linter.all false
namespace Go.Am
open Go
section
variable {C : fF} {ih : Oo}
def qw (C : fF) (ih : Oo) : Prop := ∀ (f : FuncId) (p : Nat) (c : Code) (X : Type) (dG : Option X → Option X → Option X), rB dG → ∀ (K : Exit → St → Option X) (s : St) (x : X),
  bi (C.D.dt f) c = true → ih f p c X dG K s = some x → ia C.D.toEnv c (fun e s' => K e s' = some x) s
theorem kU {X : Type} : rB (vg (X := X)) := fun a b x h => by
  unfold vg at h
  by_cases e : a = b
  · rw [if_pos e] at h
    exact ⟨h, e ▸ h⟩
  · rw [if_neg e] at h
    cases h
theorem ml (hs : qw C ih) {X : Type} {dG : Option X → Option X → Option X} (hm : rB dG) : kT C.D.toEnv (zY C ih dG) := fun g args G K x h => by
  unfold zY at h
  obtain ⟨cD, h⟩ := aW h
  split at h
  · rename_i fn UB
    split at h
    · rename_i b hb
      obtain ⟨hn, h⟩ := aW h
      have fin : ∀ {K' : AV → List GO → Option X}, ih g 1 b X dG (Gb C.D.toEnv fn K') (St.init fn.ntmps args G) = some x → cq C.D.toEnv g args G (fun r G' => K' r G' = some x) := by
        intro K' h
        refine cq.intro UB hb (by simpa using hn) ((hs g 1 b X dG hm _ _ x (C.D.Kc g fn b cD UB hb) h).mono fun e s' hq => ?_)
        have hq := hq.1
        unfold Gb at hq
        unfold J9
        cases e <;> first | (cases hq; done) | skip
        all_goals (simp only at hq ⊢)
        all_goals (split at hq <;> first | (cases hq; done) | skip)
        all_goals (rename_i hl; rw [hl]; simp only)
        all_goals (split at hq <;> first | (cases hq; done) | skip)
        all_goals (rename_i Ll; rw [Ll]; exact hq)
      cases Q6 : C.D.sw g 131072 with
      | true => rw [Q6] at h; exact cq.Wd (fin h)
      | false => rw [Q6] at h; exact fin h
    · cases h
  · cases h
theorem z6 (B5 : ∀ g e, C.F9 g = some e → au C.D.toEnv g e) (hs : qw C ih) {X : Type} {dG : Option X → Option X → Option X} (hm : rB dG) : kT C.D.toEnv (wK C ih dG) := fun g args G K x h => by
  unfold wK at h
  split at h
  · rename_i e he
    obtain ⟨a, ha, h⟩ := bind_some h
    obtain ⟨y, hy, h⟩ := bind_some h
    refine cq.eX (e.ps.ny ha).1 (((B5 g e he a y hy) G).mono fun r G' hr => ?_)
    obtain ⟨rfl, rfl⟩ := hr
    exact h
  · split at h
    · rename_i e he
      split at h
      · rename_i c r G' hf
        obtain ⟨hc, h⟩ := aW h
        subst hc
        refine (e.ok args G r G' hf).mono fun r' Ol hh => ?_
        obtain ⟨rfl, rfl⟩ := hh
        exact h
      · cases h
    · split at h
      · rename_i e he
        obtain ⟨a, ha, h⟩ := bind_some h
        obtain ⟨y, hy, h⟩ := bind_some h
        refine cq.eX (e.ps.ny ha).1 ((e.ok a y hy G).mono fun r G' hr => ?_)
        obtain ⟨z, rfl, hr⟩ := hr
        exact (zW e.outs z hr).trans h
      · exact ml hs hm g args G K x h
theorem z7 {n : Nat} : ∀ {l : List Tmp}, ID n l = true → ∀ t ∈ l, t < n
  | [], _, t, ht => by simp at ht
  | a :: l, h, t, ht => by
    simp only [ID, Bool.and_eq_true] at h
    rcases List.mem_cons.1 ht with rfl | ht
    · exact fu h.1
    · exact z7 h.2 t ht
theorem B6 (hs : qw C ih) {X : Type} {dG : Option X → Option X → Option X} (hm : rB dG) : rC C.D.toEnv (IE C ih dG) := fun id args G K x h => by
  unfold IE at h
  split at h
  · rename_i p fp sl n ps nI bd d hG
    obtain ⟨hc, h⟩ := aW h
    simp only [Bool.and_eq_true] at hc
    obtain ⟨⟨⟨h1, h2⟩, h3⟩, h4⟩ := hc
    refine iS.intro hG (Nat.eq_of_beq_eq_true h1) (z7 h2) ((hs _ _ nI X dG hm _ _ x h3 h).mono fun e s1 hq => ?_)
    have hq := hq.1
    unfold xT
    cases e with
    | normal =>
      simp only at hq ⊢
      split at hq
      · rename_i p' fn Oh n' Pw Iz Ok d' SJ
        rw [SJ]
        simp only
        refine (hs _ _ bd X dG hm _ _ x h4 hq).mono fun e2 s2 ll => ?_
        have ll : BX id K e2 s2 = some x := ll.1
        unfold BX at ll
        unfold BQ
        split at ll
        · rename_i Pn
          rw [Pn]
          cases e2 <;> first | (cases ll; done) | exact ll
        · cases ll
      · cases hq
    | _ => cases hq
  · cases h
theorem ia.of {E : Env} {c : Code} {Q Q' : Exit → St → Prop} {s : St} (h : ia E c Q s) (hq : ∀ e s', Q e s' → aw s s' → Q' e s') : dE E c Q' s :=
  dE.mono h fun e s' hh => hq e s' hh.1 hh.2
theorem mO {s s' : St} {e : Exit} : ∀ {outs : List (XK × bw)} {o : JT outs}, fV s outs e s' = some o → ∃ (t : bw) (v : t.ps.T), t.dec s s' = some v ∧ ∀ (α : Type) (K : Exit → St → α), EL s outs o K = K e (t.st s v)
  | [], o, h => by cases h
  | [x], o, h => by
    obtain ⟨h1, h2⟩ := aW (show (bif x.1.is e then x.2.dec s s' else none) = some o from h)
    exact ⟨x.2, o, h2, fun _ K => by rw [XK.CT h1]; rfl⟩
  | x :: y :: l, o, h => by
    have h : (bif x.1.is e then (x.2.dec s s').bind fun v => some (.inl v) else (fV s (y :: l) e s').bind fun o => some (.inr o)) = some o := h
    cases hx : x.1.is e with
    | true =>
      rw [hx] at h
      obtain ⟨v, h1, h2⟩ := bind_some h
      cases h2
      exact ⟨x.2, v, h1, fun _ K => by rw [XK.CT hx]; rfl⟩
    | false =>
      rw [hx] at h
      obtain ⟨v, h1, h2⟩ := bind_some h
      cases h2
      obtain ⟨t, u, k1, k2⟩ := mO h1
      exact ⟨t, u, k1, fun α K => k2 α K⟩
theorem bw.ja (t : bw) (s : St) (v : t.ps.T) : aw s (t.st s v) := by
  have h1 : ∀ (W : List Tmp) (b : aT), ∃ pre, uj W b = pre ++ b := fun W b => by
    induction W with
    | nil => exact ⟨[], rfl⟩
    | cons t W ih => obtain ⟨p, hp⟩ := ih; exact ⟨.put t .none :: p, by simp [uj, hp]⟩
  have h2 : ∀ (ts : List Tmp) (l : List AV) (b : aT), ∃ pre, lZ ts l b = pre ++ b := fun ts => by
    induction ts with
    | nil => intro l b; exact ⟨[], by cases l <;> rfl⟩
    | cons t ts ih =>
      intro l b
      cases l with
      | nil => exact ⟨[], rfl⟩
      | cons a l => obtain ⟨p, hp⟩ := ih l b; exact ⟨.put t (.v a) :: p, by simp [lZ, hp]⟩
  have h3 : ∀ (bx : List (Nat × Nat)) (l : List AV) (b : bU), ∃ pre, rn bx l b = pre ++ b := fun bx => by
    induction bx with
    | nil => intro l b; exact ⟨[], rfl⟩
    | cons x bx ih =>
      obtain ⟨k, n⟩ := x
      intro l b
      obtain ⟨p, hp⟩ := ih (l.drop n) b
      exact ⟨(k, l.take n) :: p, by simp [rn, hp]⟩
  have h4 : ∀ (l : List (Tmp × Nat × Nat)) (b : aT), ∃ pre, ma l b = pre ++ b := fun l b => by
    induction l with
    | nil => exact ⟨[], rfl⟩
    | cons x l ih => obtain ⟨t, k, o⟩ := x; obtain ⟨p, hp⟩ := ih; exact ⟨.put t (.lp k o) :: p, by simp [ma, hp]⟩
  obtain ⟨p1, e1⟩ := h1 t.W s.ae
  obtain ⟨p2, e2⟩ := h2 t.sl (t.mU v) (uj t.W s.ae)
  obtain ⟨p3, e3⟩ := h3 t.bx ((t.mU v).drop t.sl.length) s.boxes
  obtain ⟨p4, e4⟩ := h4 t.Oi (p2 ++ (p1 ++ s.ae))
  exact ⟨⟨p4 ++ (p2 ++ p1), by rw [show (t.st s v).ae = ma t.Oi (lZ t.sl (t.mU v) (uj t.W s.ae)) from rfl, e2, e1, e4, List.append_assoc, List.append_assoc]⟩, ⟨p3, e3⟩, rfl⟩
theorem dE.PJ {E : Env} {c : Code} {s s1 : St} {gh : List (Loc × Nat × TypeId)} {head : bw} {outs : List (XK × bw)} {rd : head.ps.T → Option (head.ps.T ⊕ JT outs)} {N : Nat} {v0 : head.ps.T} {o : JT outs} {Q : Exit → St → Prop}
    (hg : Am.er gh s = some s1) (h0 : head.dec s1 s1 = some v0) (hr : ∀ v r, rd v = some r → ia E c (fun e s' => rA s1 head outs e s' = some r) (head.st s1 v))
    (hl : bQ rd N v0 = some o) (hQ : ∀ (t : bw) (v : t.ps.T) (e : Exit), (∀ (α : Type) (K : Exit → St → α), EL s1 outs o K = K e (t.st s1 v)) → Q e (t.st s1 v) ∧ aw s (t.st s1 v)) :
    ia E (.loop c) Q s := fun R0 w β a F HO pN => by
  obtain ⟨R, k1, k2, k3, _⟩ := gr HO hg
  have hf : bz R s1.ro F := by rw [k3]; exact pN.mono k2.ext
  obtain ⟨i1, i2⟩ := bw.yF (aw.refl s1) k1 k1 (Step.refl R w β s1.boxes) h0
  refine gu (fun m a' w' => ∃ v R' β', bQ rd m v = some o ∧ aJ E R' w' β' (head.st s1 v) a' ∧ Step R w β s1.boxes R' w' β' (head.st s1 v).boxes) ?_ ⟨v0, _, β, hl, i1, i2⟩
  rintro m a' w' ⟨v, R', β', hm, gk, fb⟩
  cases m with
  | zero => cases hm
  | succ m =>
    obtain ⟨r, h1, h2⟩ := bind_some (show ((rd v).bind fun o => Sum.elim (fun v' => bQ rd m v') (fun x => some x) o) = some o from hm)
    refine wpIn_mono (hr v r h1 R' w' β' a' F gk (hf.mono fb.ext)) ?_
    rintro e a2 w2 ⟨s2, R2, β2, ⟨hK, hx⟩, te, vG, xU⟩
    have yH : aw s1 s2 := (head.ja s1 v).trans hx
    have ru := fb.trans vG
    have out : ∀ {u : JT outs}, fV s1 outs e s2 = some u → r = .inr u → Le E R0 w β s (fun e s' => Q e s' ∧ aw s s') e a2 w2 := fun {u} hu hru => by
      subst hru
      cases h2
      obtain ⟨t, v', q1, q2⟩ := mO hu
      obtain ⟨j1, j2⟩ := bw.yF yH k1 te ru q1
      exact ⟨t.st s1 v', _, β2, hQ t v' e q2, j1, k2.trans j2, k3⟩
    cases e with
    | normal =>
      obtain ⟨v', q1, q2⟩ := bind_some (show ((head.dec s1 s2).bind fun v => some (.inl v)) = some r from hK)
      cases q2
      obtain ⟨j1, j2⟩ := bw.yF yH k1 te ru q1
      exact ⟨m, Nat.lt_succ_self m, v', _, β2, h2, j1, j2⟩
    | exit i => obtain ⟨u, q1, q2⟩ := bind_some (show ((fV s1 outs (.exit i) s2).bind fun o => some (.inr o)) = some r from hK); exact out q1 (Option.some.inj q2).symm
    | ret => obtain ⟨u, q1, q2⟩ := bind_some (show ((fV s1 outs .ret s2).bind fun o => some (.inr o)) = some r from hK); exact out q1 (Option.some.inj q2).symm
    | goto i => obtain ⟨u, q1, q2⟩ := bind_some (show ((fV s1 outs (.goto i) s2).bind fun o => some (.inr o)) = some r from hK); exact out q1 (Option.some.inj q2).symm
    | panic i => obtain ⟨u, q1, q2⟩ := bind_some (show ((fV s1 outs (.panic i) s2).bind fun o => some (.inr o)) = some r from hK); exact out q1 (Option.some.inj q2).symm
    | outgrown => obtain ⟨u, q1, q2⟩ := bind_some (show ((fV s1 outs .outgrown s2).bind fun o => some (.inr o)) = some r from hK); exact out q1 (Option.some.inj q2).symm
theorem dE.LR {E : Env} {c : Code} {s s1 : St} {gh : List (Loc × Nat × TypeId)} {head : bw} {outs : List (XK × bw)} {rd : (head.ps.T → Option (JT outs)) → head.ps.T → Option (JT outs)} {N : Nat} {v0 : head.ps.T} {o : JT outs} {Q : Exit → St → Prop}
    (hg : Am.er gh s = some s1) (h0 : head.dec s1 s1 = some v0) (hr : ∀ k v u, rd k v = some u → ia E c (fun e s' => Gd s1 head outs k e s' = some u) (head.st s1 v))
    (hl : km rd N v0 = some o) (hQ : ∀ (t : bw) (v : t.ps.T) (e : Exit), (∀ (α : Type) (K : Exit → St → α), EL s1 outs o K = K e (t.st s1 v)) → Q e (t.st s1 v) ∧ aw s (t.st s1 v)) :
    ia E (.loop c) Q s := fun R0 w β a F HO pN => by
  obtain ⟨R, k1, k2, k3, _⟩ := gr HO hg
  have hf : bz R s1.ro F := by rw [k3]; exact pN.mono k2.ext
  obtain ⟨i1, i2⟩ := bw.yF (aw.refl s1) k1 k1 (Step.refl R w β s1.boxes) h0
  refine gu (fun m a' w' => ∃ v R' β', km rd m v = some o ∧ aJ E R' w' β' (head.st s1 v) a' ∧ Step R w β s1.boxes R' w' β' (head.st s1 v).boxes) ?_ ⟨v0, _, β, hl, i1, i2⟩
  rintro m a' w' ⟨v, R', β', hm, gk, fb⟩
  cases m with
  | zero => cases hm
  | succ m =>
    refine wpIn_mono (hr (km rd m) v o hm R' w' β' a' F gk (hf.mono fb.ext)) ?_
    rintro e a2 w2 ⟨s2, R2, β2, ⟨hK, hx⟩, te, vG, xU⟩
    have yH : aw s1 s2 := (head.ja s1 v).trans hx
    have ru := fb.trans vG
    have out : fV s1 outs e s2 = some o → Le E R0 w β s (fun e s' => Q e s' ∧ aw s s') e a2 w2 := fun hu => by
      obtain ⟨t, v', q1, q2⟩ := mO hu
      obtain ⟨j1, j2⟩ := bw.yF yH k1 te ru q1
      exact ⟨t.st s1 v', _, β2, hQ t v' e q2, j1, k2.trans j2, k3⟩
    cases e with
    | normal =>
      obtain ⟨v', q1, q2⟩ := bind_some (show (head.dec s1 s2).bind (km rd m) = some o from hK)
      obtain ⟨j1, j2⟩ := bw.yF yH k1 te ru q1
      exact ⟨m, Nat.lt_succ_self m, v', _, β2, q2, j1, j2⟩
    | exit i => exact out hK
    | ret => exact out hK
    | goto i => exact out hK
    | panic i => exact out hK
    | outgrown => exact out hK
theorem dE.LS {E : Env} {X : Type} {c : Code} {s s1 : St} {gh : List (Loc × Nat × TypeId)} {head : bw} {K : Exit → St → Option X} {rd : (head.ps.T → Option X) → head.ps.T → Option X} {N : Nat} {v0 : head.ps.T} {o : X}
    (hg : Am.er gh s = some s1) (h0 : head.dec s1 s1 = some v0) (hr : ∀ k v u, rd k v = some u → ia E c (fun e s' => Gf s1 head K k e s' = some u) (head.st s1 v))
    (hl : km rd N v0 = some o) :
    ia E (.loop c) (fun e s' => K e s' = some o) s := fun R0 w β a F HO pN => by
  obtain ⟨R, k1, k2, k3, _⟩ := gr HO hg
  have hf : bz R s1.ro F := by rw [k3]; exact pN.mono k2.ext
  obtain ⟨i1, i2⟩ := bw.yF (aw.refl s1) k1 k1 (Step.refl R w β s1.boxes) h0
  refine gu (fun m a' w' => ∃ v R' β', km rd m v = some o ∧ aJ E R' w' β' (head.st s1 v) a' ∧ Step R w β s1.boxes R' w' β' (head.st s1 v).boxes) ?_ ⟨v0, _, β, hl, i1, i2⟩
  rintro m a' w' ⟨v, R', β', hm, gk, fb⟩
  cases m with
  | zero => cases hm
  | succ m =>
    refine wpIn_mono (hr (km rd m) v o hm R' w' β' a' F gk (hf.mono fb.ext)) ?_
    rintro e a2 w2 ⟨s2, R2, β2, ⟨hK, hx⟩, te, vG, xU⟩
    have yH : aw s1 s2 := (head.ja s1 v).trans hx
    have ru := fb.trans vG
    have out : K e s2 = some o → Le E R0 w β s (fun e s' => K e s' = some o ∧ aw s s') e a2 w2 := fun hu =>
      ⟨s2, R2, β2, ⟨hu, (iZ hg).trans yH⟩, te, k2.trans ru, xU.trans k3⟩
    cases e with
    | normal =>
      obtain ⟨v', q1, q2⟩ := bind_some (show (head.dec s1 s2).bind (km rd m) = some o from hK)
      obtain ⟨j1, j2⟩ := bw.yF yH k1 te ru q1
      exact ⟨m, Nat.lt_succ_self m, v', _, β2, q2, j1, j2⟩
    | exit i => exact out hK
    | ret => exact out hK
    | goto i => exact out hK
    | panic i => exact out hK
    | outgrown => exact out hK
theorem rD {s s' : St} {t : Tmp} {sz : Nat} {e : TypeId} {c : Bool} (h : pc s t sz e = some (c, s')) : s'.G.length = s.G.length ∧ aw s s' := by
  unfold pc at h
  repeat' (split at h)
  all_goals (first | (cases h; done) | skip)
  injection h with h
  injection h with _ h
  subst h
  exact ⟨cR _ _ _, ⟨⟨[_], rfl⟩, ⟨[], rfl⟩, rfl⟩⟩
theorem dE.F7 {E : Env} {c : Code} {s s1 : St} {tq : Tmp} {sz : Nat} {ty : TypeId} {head : bw} {outs : List (XK × bw)} {rd : head.ps.T → Option (head.ps.T ⊕ JT outs)} {N : Nat} {v0 : head.ps.T} {o : JT outs} {Q : Exit → St → Prop}
    (hg : pc s tq sz ty = some (true, s1)) (h0 : head.dec s1 s1 = some v0) (hr : ∀ v r, rd v = some r → ∃ s2, rv (head.st s1 v) tq sz ty = some s2 ∧ ia E c (fun e s' => Gh s1 head outs tq sz ty e s' = some r) s2)
    (hl : bQ rd N v0 = some o) (hQ : ∀ (t : bw) (v : t.ps.T) (e : Exit), (∀ (α : Type) (K : Exit → St → α), EL s1 outs o K = K e (t.st s1 v)) → Q e (t.st s1 v) ∧ aw s (t.st s1 v)) :
    ia E (.loop c) Q s := fun R0 w β a F HO pN => by
  obtain ⟨R1, cv, ro, es, k1, k2, k3, k4, k5, k6, k7, k8, k9⟩ := wH HO hg
  have UC : R0.obj.length = s1.G.length := by rw [HO.g.len, (rD hg).1]
  cases N with
  | zero => cases hl
  | succ N0 =>
  obtain ⟨r0, SY, _⟩ := bind_some (show ((rd v0).bind fun o => Sum.elim (fun v' => bQ rd N0 v') (fun x => some x) o) = some o from hl)
  obtain ⟨Wj, PK, _⟩ := hr v0 r0 SY
  obtain ⟨R4, i1, i2, i3, i4, i5⟩ := wI k1 UC (aw.refl s1) (Ext.refl R1 w) (Step.refl R0 w β s.boxes) k1 k2 k7 k8 k9 h0 PK
  refine gu (fun m a' w' => ∃ v R' β' s2, bQ rd m v = some o ∧ rv (head.st s1 v) tq sz ty = some s2 ∧ aJ E R' w' β' s2 a' ∧ Step R0 w β s.boxes R' w' β' s2.boxes ∧ Ext R1 w R' w' ∧ s2.ro = s1.ro ∧ aw s1 s2) ?_ ⟨v0, R4, β, Wj, hl, PK, i1, i2, i3, i4, (head.ja s1 v0).trans i5⟩
  rintro m a' w' ⟨v, R', β', s2, hm, QL, gk, fb, hE, aO, SZ⟩
  cases m with
  | zero => cases hm
  | succ m =>
    obtain ⟨r, h1, h2⟩ := bind_some (show ((rd v).bind fun o => Sum.elim (fun v' => bQ rd m v') (fun x => some x) o) = some o from hm)
    obtain ⟨Xo, PL, hw⟩ := hr v r h1
    rw [QL] at PL
    cases PL
    refine wpIn_mono (hw R' w' β' a' F gk (by rw [aO, k3]; exact pN.mono fb.ext)) ?_
    rintro e a2 w2 ⟨s3, R2, β2, ⟨hK, hx⟩, te, vG, xU⟩
    have yH : aw s1 s3 := SZ.trans hx
    have ru := fb.trans vG
    have UD := hE.trans vG.ext
    have out : ∀ {u : JT outs}, fV s1 outs e s3 = some u → r = .inr u → Le E R0 w β s (fun e s' => Q e s' ∧ aw s s') e a2 w2 := fun {u} hu hru => by
      subst hru
      cases h2
      obtain ⟨t, v', q1, q2⟩ := mO hu
      obtain ⟨j1, j2, j3⟩ := bw.LB yH k1 te UD q1
      refine ⟨t.st s1 v', _, β2, hQ t v' e q2, j1, ⟨⟨ru.ext.I, ru.ext.cell, fun id r aR => ?_, ru.ext.lp⟩, ru.os, ru.tape, ru.output, ru.size, ru.bL, fun b hb Bq => ?_, fun b o hi hb lG => ru.im b o hi hb lG⟩, k3⟩
      · obtain ⟨r', g1, g2⟩ := ru.ext.obj id r aR
        have := aM aR
        exact ⟨r', fU.2 ⟨by omega, g1⟩, g2⟩
      · rcases Bq with Bq | ⟨k, cs, hk, rfl⟩
        · exact ru.own b hb (.inl (mb Bq))
        · obtain ⟨di, eD⟩ := j3 k cs hk
          exact ru.own _ hb (.inr ⟨k, di, eD, rfl⟩)
    cases e with
    | normal =>
      have hK : (match pc s3 tq sz ty with
        | some (c, s2) => bif c then (head.dec s1 s2).bind fun v => some (.inl v) else none
        | none => none : Option (head.ps.T ⊕ JT outs)) = some r := hK
      cases hu : pc s3 tq sz ty with
      | none => rw [hu] at hK; cases hK
      | some x =>
        obtain ⟨cc, s4⟩ := x
        rw [hu] at hK
        cases cc with
        | false => cases hK
        | true =>
          obtain ⟨v', q1, q2⟩ := bind_some (show ((head.dec s1 s4).bind fun v => some (.inl v)) = some r from hK)
          cases q2
          obtain ⟨R3, Xp, Xq, Xr, m1, m2, m3, m4, m5, m6, m7, m8, m9⟩ := wH te hu
          have Wk : ∃ s5, rv (head.st s1 v') tq sz ty = some s5 := by
            cases m with
            | zero => cases h2
            | succ m0 =>
              obtain ⟨r9, Wl, _⟩ := bind_some (show ((rd v').bind fun o => Sum.elim (fun v' => bQ rd m0 v') (fun x => some x) o) = some o from h2)
              obtain ⟨s9, Wm, _⟩ := hr v' r9 Wl
              exact ⟨s9, Wm⟩
          obtain ⟨s5, UE⟩ := Wk
          obtain ⟨R5, j1, j2, j3, j4, j5⟩ := wI k1 UC (yH.trans m4) (UD.trans m2.ext) ru m1 m2 m7 m8 m9 q1 UE
          exact ⟨m, Nat.lt_succ_self m, v', R5, β2, s5, h2, UE, j1, j2, j3, j4, (head.ja s1 v').trans j5⟩
    | exit i => obtain ⟨u, q1, q2⟩ := bind_some (show ((fV s1 outs (.exit i) s3).bind fun o => some (.inr o)) = some r from hK); exact out q1 (Option.some.inj q2).symm
    | ret => obtain ⟨u, q1, q2⟩ := bind_some (show ((fV s1 outs .ret s3).bind fun o => some (.inr o)) = some r from hK); exact out q1 (Option.some.inj q2).symm
    | goto i => obtain ⟨u, q1, q2⟩ := bind_some (show ((fV s1 outs (.goto i) s3).bind fun o => some (.inr o)) = some r from hK); exact out q1 (Option.some.inj q2).symm
    | panic i => obtain ⟨u, q1, q2⟩ := bind_some (show ((fV s1 outs (.panic i) s3).bind fun o => some (.inr o)) = some r from hK); exact out q1 (Option.some.inj q2).symm
    | outgrown => obtain ⟨u, q1, q2⟩ := bind_some (show ((fV s1 outs .outgrown s3).bind fun o => some (.inr o)) = some r from hK); exact out q1 (Option.some.inj q2).symm
end
def nk (E : Env) : List Bool → Code → (Exit → St → Prop) → St → Prop
  | [], _, Q, s => Q .normal s
  | true :: k, .seq x y, Q, s => ia E x (qU (nk E k y Q) Q) s
  | false :: k, .seq x _, Q, s => nk E k x Q s
  | _ :: _, _, _, _ => False
def jb (E : Env) : List Bool → Code → (Exit → St → Prop) → St → Prop
  | [], c, Q, s => ia E c Q s
  | true :: k, .seq _ y, Q, s => jb E k y Q s
  | false :: k, .seq x y, Q, s => jb E k x (qU (ia E y Q) Q) s
  | _ :: _, _, _, _ => False
def C0 (F : Fence) (P : Program) : List Bool → Code → (Exit → Act → World → Prop) → Act → World → Prop
  | [], c, Q, a, w => c.wpIn F 0 P Q a w
  | true :: k, .seq _ y, Q, a, w => C0 F P k y Q a w
  | false :: k, .seq x y, Q, a, w => C0 F P k x (Exit.then (fun a' w' => y.wpIn F 0 P Q a' w') Q) a w
  | _ :: _, _, _, _, _ => False
section SX
variable {E : Env} {s1 : St} {R : af} {w : World} {β : Nat → Nat} {F : Fence}
def At (E : Env) (s1 : St) (R : af) (w : World) (β : Nat → Nat) (s : St) (a : Act) (w' : World) : Prop :=
  ∃ R' β', aw s1 s ∧ aJ E R' w' β' s a ∧ Step R w β s1.boxes R' w' β' s.boxes ∧ s.ro = s1.ro
theorem ia.at {c : Code} {Q : Exit → St → Prop} {s : St} {a : Act} {w' : World} {Φ : Exit → Act → World → Prop} (hf : bz R s1.ro F) (h : ia E c Q s) (ld : At E s1 R w β s a w') (hQ : ∀ e s' a' w', Q e s' → At E s1 R w β s' a' w' → Φ e a' w') : c.wpIn F 0 E.P Φ a w' := by
  obtain ⟨R', β', hx, hr, fb, aO⟩ := ld
  refine wpIn_mono (h R' w' β' a F hr (by rw [aO]; exact hf.mono fb.ext)) ?_
  rintro e a2 w2 ⟨s2, R2, β2, ⟨hq, yH⟩, te, vG, xU⟩
  exact hQ e s2 a2 w2 hq ⟨R2, β2, hx.trans yH, te, fb.trans vG, xU.trans aO⟩
theorem jb.at (hf : bz R s1.ro F) : ∀ (k : List Bool) (c : Code) {Q : Exit → St → Prop} {s : St} {a : Act} {w' : World} {Φ : Exit → Act → World → Prop}, jb E k c Q s → At E s1 R w β s a w' → (∀ e s' a' w', Q e s' → At E s1 R w β s' a' w' → Φ e a' w') → C0 F E.P k c Φ a w'
  | [], c, Q, s, a, w', Φ, h, ld, hQ => ia.at hf h ld hQ
  | true :: k, c, Q, s, a, w', Φ, h, ld, hQ => by
    cases c with
    | seq x y => exact jb.at hf k y h ld hQ
    | _ => exact h.elim
  | false :: k, c, Q, s, a, w', Φ, h, ld, hQ => by
    cases c with
    | seq x y =>
      refine jb.at hf k x (Q := qU (ia E y Q) Q) h ld fun e s' a' w' hq nN => ?_
      cases e with
      | normal => exact ia.at hf hq nN hQ
      | _ => exact hQ _ s' a' w' hq nN
    | _ => exact h.elim
theorem nk.at (hf : bz R s1.ro F) : ∀ (k : List Bool) (c : Code) {Q : Exit → St → Prop} {s : St} {a : Act} {w' : World} {Φ : Exit → Act → World → Prop}, nk E k c Q s → At E s1 R w β s a w' →
    (∀ s' a' w', Q .normal s' → At E s1 R w β s' a' w' → C0 F E.P k c Φ a' w') → (∀ e s' a' w', e ≠ .normal → Q e s' → At E s1 R w β s' a' w' → Φ e a' w') → c.wpIn F 0 E.P Φ a w'
  | [], c, Q, s, a, w', Φ, h, ld, hS, hQ => hS s a w' h ld
  | true :: k, c, Q, s, a, w', Φ, h, ld, hS, hQ => by
    cases c with
    | seq x y =>
      refine wpIn_seq (ia.at hf (show ia E x (qU (nk E k y Q) Q) s from h) ld fun e s' a' w' hq nN => ?_)
      cases e with
      | normal => exact nk.at hf k y hq nN hS hQ
      | exit i => exact hQ _ s' a' w' (by simp) hq nN
      | ret => exact hQ _ s' a' w' (by simp) hq nN
      | goto i => exact hQ _ s' a' w' (by simp) hq nN
      | panic i => exact hQ _ s' a' w' (by simp) hq nN
      | outgrown => exact hQ _ s' a' w' (by simp) hq nN
    | _ => exact h.elim
  | false :: k, c, Q, s, a, w', Φ, h, ld, hS, hQ => by
    cases c with
    | seq x y =>
      refine wpIn_seq (nk.at hf k x (Q := Q) h ld hS fun e s' a' w' bS hq nN => ?_)
      cases e with
      | normal => exact absurd rfl bS
      | exit i => exact hQ _ s' a' w' bS hq nN
      | ret => exact hQ _ s' a' w' bS hq nN
      | goto i => exact hQ _ s' a' w' bS hq nN
      | panic i => exact hQ _ s' a' w' bS hq nN
      | outgrown => exact hQ _ s' a' w' bS hq nN
    | _ => exact h.elim
end SX
theorem dE.IG {E : Env} {b : Code} {s s1 : St} {gh : List (Loc × Nat × TypeId)} {head : bw} {outs : List (XK × bw)} {pre : St → Option (head.ps.T ⊕ JT outs)} {rd : head.ps.T → Option (head.ps.T ⊕ JT outs)} {N : Nat} {k : List Bool} {r0 : head.ps.T ⊕ JT outs} {o : JT outs} {Q : Exit → St → Prop}
    (hg : Am.er gh s = some s1) (h0 : pre s1 = some r0)
    (hp : ∀ s2 r, pre s2 = some r → nk E k b (fun e s' => rA s1 head outs e s' = some r) s2)
    (hr : ∀ v r, rd v = some r → jb E k b (fun e s' => wJ pre (rA s1 head outs) e s' = some r) (head.st s1 v))
    (hl : Sum.elim (fun v => bQ rd N v) (fun x => some x) r0 = some o) (hQ : ∀ (t : bw) (v : t.ps.T) (e : Exit), (∀ (α : Type) (K : Exit → St → α), EL s1 outs o K = K e (t.st s1 v)) → Q e (t.st s1 v) ∧ aw s (t.st s1 v)) :
    ia E (.loop b) Q s := fun R0 w β a F HO pN => by
  obtain ⟨R, k1, k2, k3, _⟩ := gr HO hg
  have hf : bz R s1.ro F := by rw [k3]; exact pN.mono k2.ext
  refine gu (fun n a' w' => ∃ s2 r, pre s2 = some r ∧ Sum.elim (fun v => bQ rd n v) (fun x => some x) r = some o ∧ At E s1 R w β s2 a' w') ?_ ⟨s1, r0, h0, hl, R, β, aw.refl s1, k1, Step.refl _ _ _ _, rfl⟩
  rintro n a' w' ⟨s2, r, Pq, Q7, ld⟩
  -- a way out
  have out : ∀ {e : Exit} {s3 : St} {a3 : Act} {w3 : World} {r : head.ps.T ⊕ JT outs} {n : Nat}, e ≠ .normal → rA s1 head outs e s3 = some r → Sum.elim (fun v => bQ rd n v) (fun x => some x) r = some o → At E s1 R w β s3 a3 w3 → Le E R0 w β s (fun e s' => Q e s' ∧ aw s s') e a3 w3 := fun {e s3 a3 w3 r n} bS hK Q7 ld => by
    obtain ⟨R3, β3, S0, Pl, LU, S1⟩ := ld
    have key : ∀ {u : JT outs}, fV s1 outs e s3 = some u → r = .inr u → Le E R0 w β s (fun e s' => Q e s' ∧ aw s s') e a3 w3 := fun {u} hu hru => by
      subst hru
      obtain rfl := Option.some.inj Q7
      obtain ⟨t, v', q1, q2⟩ := mO hu
      obtain ⟨j1, j2⟩ := bw.yF S0 k1 Pl LU q1
      exact ⟨t.st s1 v', _, _, hQ t v' _ q2, j1, k2.trans j2, k3⟩
    cases e with
    | normal => exact absurd rfl bS
    | exit i => obtain ⟨u, q1, q2⟩ := bind_some (show ((fV s1 outs (.exit i) s3).bind fun o => some (.inr o)) = some r from hK); exact key q1 (Option.some.inj q2).symm
    | ret => obtain ⟨u, q1, q2⟩ := bind_some (show ((fV s1 outs .ret s3).bind fun o => some (.inr o)) = some r from hK); exact key q1 (Option.some.inj q2).symm
    | goto i => obtain ⟨u, q1, q2⟩ := bind_some (show ((fV s1 outs (.goto i) s3).bind fun o => some (.inr o)) = some r from hK); exact key q1 (Option.some.inj q2).symm
    | panic i => obtain ⟨u, q1, q2⟩ := bind_some (show ((fV s1 outs (.panic i) s3).bind fun o => some (.inr o)) = some r from hK); exact key q1 (Option.some.inj q2).symm
    | outgrown => obtain ⟨u, q1, q2⟩ := bind_some (show ((fV s1 outs .outgrown s3).bind fun o => some (.inr o)) = some r from hK); exact key q1 (Option.some.inj q2).symm
  refine nk.at hf k b (hp s2 r Pq) ld (fun s3 a3 w3 hK LV => ?_) (fun e s3 a3 w3 bS hK LV => ?_)
  · obtain ⟨v, q1, q2⟩ := bind_some (show ((head.dec s1 s3).bind fun v => some (.inl v)) = some r from hK)
    obtain rfl := Option.some.inj q2
    have nW : bQ rd n v = some o := Q7
    cases n with
    | zero => cases nW
    | succ n =>
      obtain ⟨r', h1, h2⟩ := bind_some (show ((rd v).bind fun o => Sum.elim (fun v' => bQ rd n v') (fun x => some x) o) = some o from nW)
      obtain ⟨R3, β3, S0, Pl, LU, S1⟩ := LV
      obtain ⟨j1, j2⟩ := bw.yF S0 k1 Pl LU q1
      refine jb.at hf k b (hr v r' h1) ⟨_, _, head.ja s1 v, j1, j2, rfl⟩ fun e s4 a4 w4 Oq Ek => ?_
      cases e with
      | normal => exact ⟨n, Nat.lt_succ_self n, s4, r', Oq, h2, Ek⟩
      | exit i => exact out (by simp) Oq h2 Ek
      | ret => exact out (by simp) Oq h2 Ek
      | goto i => exact out (by simp) Oq h2 Ek
      | panic i => exact out (by simp) Oq h2 Ek
      | outgrown => exact out (by simp) Oq h2 Ek
  · have := out bS hK Q7 LV
    cases e with
    | normal => exact absurd rfl bS
    | _ => exact this
theorem nO {C : fF} {ih : Oo} (hs : qw C ih) {X : Type} {f : FuncId} {K : Exit → St → Option X} : ∀ (k : List Bool) (q : Nat) (c : Code) (s : St) (x : X), bi (C.D.dt f) c = true → Gi ih vg f K k q c s = some x → nk C.D.toEnv k c (fun e s' => K e s' = some x) s
  | [], _, _, _, _, _, h => h
  | true :: k, q, c, s, x, hd, h => by
    cases c with
    | seq a b =>
      rw [bi, Bool.and_eq_true] at hd
      refine (hs f _ a X vg kU _ s x hd.1 h).of fun e s' hq hx => ?_
      cases e with
      | normal => exact ⟨nO hs k (2 * q + 1) b s' x hd.2 hq, hx⟩
      | _ => exact ⟨hq, hx⟩
    | _ => cases h
  | false :: k, q, c, s, x, hd, h => by
    cases c with
    | seq a b =>
      rw [bi, Bool.and_eq_true] at hd
      exact nO hs k (2 * q) a s x hd.1 h
    | _ => cases h
theorem jb.mono {E : Env} : ∀ (k : List Bool) (c : Code) {Q Q' : Exit → St → Prop} {s : St}, (∀ e s', Q e s' → Q' e s') → jb E k c Q s → jb E k c Q' s
  | [], c, Q, Q', s, hQ, h => dE.mono h fun e s' hh => ⟨hQ e s' hh.1, hh.2⟩
  | true :: k, c, Q, Q', s, hQ, h => by
    cases c with
    | seq x y => exact jb.mono k y hQ h
    | _ => exact h.elim
  | false :: k, c, Q, Q', s, hQ, h => by
    cases c with
    | seq x y =>
      refine jb.mono k x (Q := qU (ia E y Q) Q) (Q' := qU (ia E y Q') Q') (fun e s' hq => ?_) h
      cases e with
      | normal => exact dE.mono hq fun e s' hh => ⟨hQ e s' hh.1, hh.2⟩
      | _ => exact hQ _ s' hq
    | _ => exact h.elim
theorem nP {C : fF} {ih : Oo} (hs : qw C ih) {X : Type} {f : FuncId} : ∀ (k : List Bool) (q : Nat) (c : Code) (K : Exit → St → Option X) (s : St) (x : X), bi (C.D.dt f) c = true → IF ih vg f k q c K s = some x → jb C.D.toEnv k c (fun e s' => K e s' = some x) s
  | [], _, c, K, s, x, hd, h => hs f _ c X vg kU K s x hd h
  | true :: k, q, c, K, s, x, hd, h => by
    cases c with
    | seq a b =>
      rw [bi, Bool.and_eq_true] at hd
      exact nP hs k (2 * q + 1) b K s x hd.2 h
    | _ => cases h
  | false :: k, q, c, K, s, x, hd, h => by
    cases c with
    | seq a b =>
      rw [bi, Bool.and_eq_true] at hd
      refine jb.mono k a (fun e s' hq => ?_) (nP hs k (2 * q) a _ s x hd.1 h)
      cases e with
      | normal => exact hs f _ b X vg kU K s' x hd.2 hq
      | _ => exact hq
    | _ => cases h
theorem z8 {C : fF} (B5 : ∀ g e, C.F9 g = some e → au C.D.toEnv g e) (n : Nat) : qw C (ev C n) := by
  induction n using Nat.strongRecOn with
  | _ n ihn =>
  cases n with
  | zero => intro f p c X dG _ K s x _ h; cases h
  | succ n =>
    have hs := ihn n (Nat.lt_succ_self n)
    have plain : ∀ (f : FuncId) (p : Nat) (c : Code) (X : Type) (dG : Option X → Option X → Option X), rB dG → ∀ (K : Exit → St → Option X) (s : St) (x : X), ((∃ b, c = .loop b) → C.zX f p = none) →
        bi (C.D.dt f) c = true → uF C (ev C n) f p c X dG K s = some x → ia C.D.toEnv c (fun e s' => K e s' = some x) s := by
      intro f p c X dG hm K s x fK hd h
      have wF := z6 B5 hs hm
      have PM := B6 hs hm
      unfold uF at h
      cases c with
      | skip => exact dE.skip ⟨h, aw.refl s⟩
      | label l => exact dE.label ⟨h, aw.refl s⟩
      | exit id => exact dE.exit ⟨h, aw.refl s⟩
      | ret => exact dE.ret ⟨h, aw.refl s⟩
      | seq a b =>
        rw [bi, Bool.and_eq_true] at hd
        refine dE.seq ((hs f _ a X dG hm _ s x hd.1 h).of fun e s' hq hx => ?_)
        cases e with
        | normal => exact (hs f _ b X dG hm _ s' x hd.2 hq).of fun e s2 ll yH => ⟨ll, hx.trans yH⟩
        | _ => exact ⟨hq, hx⟩
      | cond co a b =>
        rw [bi, Bool.and_eq_true] at hd
        simp only at h
        split at h
        · rename_i t hb
          refine dE.cond hb (fun e => ?_) (fun e => ?_)
          · subst e; exact hs f _ a X dG hm _ s x hd.1 h
          · subst e; exact hs f _ b X dG hm _ s x hd.2 h
        · cases h
      | block id c =>
        refine dE.block ((hs f _ c X dG hm _ s x hd h).of fun e s' hq hx => ?_)
        cases e with
        | exit fJ =>
          simp only [Ga] at hq
          refine ⟨fun e => ?_, fun e => ?_⟩
          · subst e; rw [oh] at hq; exact ⟨hq, hx⟩
          · rw [ky e] at hq; exact ⟨hq, hx⟩
        | _ => exact ⟨hq, hx⟩
      | scope c =>
        refine dE.scope ((hs f _ c X dG hm _ s x hd h).of fun e s' hq hx => ?_)
        cases e with
        | goto l => cases hq
        | _ => exact ⟨hq, hx⟩
      | region id ops dr =>
        cases dr with
        | false => exact dE.region (f := f) (wL (uL wF PM h))
        | true =>
          simp only at h
          rw [bi] at hd
          split at h
          · rename_i pl hT
            rw [hT] at hd
            exact dE.draw (f := f) hd (pf (gO wF PM hm h))
          · cases h
      | loop b =>
        have Kr := fK ⟨b, rfl⟩
        refine dE.loop (fun m s' => m ≤ n + 1 ∧ ev C m f p (.loop b) X dG K s' = some x ∧ aw s s') ?_ (m := n + 1) ⟨Nat.le_refl _, ?_, aw.refl s⟩
        · rintro m s' ⟨HZ, hr, hx⟩
          cases m with
          | zero => cases hr
          | succ m =>
            have gk : uG C (ev C m) f p (.loop b) X dG K s' = some x := hr
            unfold uG at gk
            rw [Kr] at gk
            refine (ihn m (by omega) f _ b X dG hm _ s' x hd gk).of fun e s2 hq yH => ?_
            cases e with
            | normal => exact ⟨m, Nat.lt_succ_self m, by omega, hq, hx.trans yH⟩
            | _ => exact ⟨hq, hx.trans yH⟩
        · show uG C (ev C n) f p (.loop b) X dG K s = some x
          unfold uG
          rw [Kr]
          exact h
      | rangeFunc g ps nI bd =>
        simp only at h
        split at h
        · rename_i aO
          split at h
          · rename_i hf first cap hg
            refine dE.rangeFunc (4096 * p + f) aO hg ((wF _ _ _ _ _ h).mono fun r G' hq => ?_)
            unfold SB
            split at hq
            · rename_i busy pending fn sl nn pp aa bb dd done BN
              rw [BN]
              simp only
              obtain ⟨h1, h2⟩ := aW hq
              refine ⟨by cases busy <;> cases done <;> simp_all, ?_⟩
              have Iu : ∀ (G : List GO) (m : List Nat), aw s ⟨s.ae, s.boxes, G, m, s.ro, s.n⟩ := fun _ _ => ⟨⟨[], rfl⟩, ⟨[], rfl⟩, rfl⟩
              split at h2
              · rw [b6] at h2; exact ⟨h2, Iu _ _⟩
              · rw [b6] at h2; exact dE.ret ⟨h2, Iu _ _⟩
              · rw [b6] at h2; exact dE.exit ⟨h2, Iu _ _⟩
              · cases h2
            · cases hq
          · cases h
        · rename_i id aO
          split at h
          · rename_i Um p0 Un Uo n0 Up Uq Ur d0 Us S2
            split at h
            · rename_i hf first cap hg
              refine dE.BP (4096 * p + f) aO S2 hg ((wF _ _ _ _ _ h).mono fun r G' hq => ?_)
              unfold LC
              split at hq
              · rename_i busy pending fn sl nn pp aa bb dd done BN
                rw [BN]
                simp only
                obtain ⟨h1, h2⟩ := aW hq
                refine ⟨by cases busy <;> cases done <;> simp_all, ?_⟩
                have Iu : ∀ (G : List GO) (m : List Nat), aw s ⟨s.ae, s.boxes, G, m, s.ro, s.n⟩ := fun _ _ => ⟨⟨[], rfl⟩, ⟨[], rfl⟩, rfl⟩
                split at h2
                · rw [b6] at h2; exact ⟨h2, Iu _ _⟩
                · rw [b6] at h2; exact dE.ret ⟨h2, Iu _ _⟩
                · rw [b6] at h2; exact dE.exit ⟨h2, Iu _ _⟩
                · cases h2
              · cases hq
            · cases h
          · cases h
      | _ => cases h
    intro f p c X dG hm K s x hd h
    change uG C (ev C n) f p c X dG K s = some x at h
    unfold uG at h
    split at h
    · rename_i hc
      exact plain f p c X dG hm K s x (fun _ => hc) hd h
    · rename_i ct Xs
      split at h
      · rename_i pg hc
        generalize mi (fW c []) pg = outs at h
        cases Fv : Gc c with
        | true => rw [Fv] at h; cases h
        | false =>
        rw [Fv] at h
        obtain ⟨o, h1, h2⟩ := bind_some (show (uF C (ev C n) f p c (JT outs) vg (fV s outs) s).bind (fun o => EL s outs o K) = some x from h)
        have hp := plain f p c (JT outs) vg kU (fV s outs) s o (fun ⟨b, hb⟩ => by subst hb; cases Fv) hd h1
        refine dE.SP (s := s) (Q' := fun e s' => fV s outs e s' = some o) (dE.mono hp fun e s' hh => ⟨hh.2, hh.1⟩) fun e s' hq => ?_
        obtain ⟨t, v, q1, q2⟩ := mO hq
        exact ⟨t, v, q1, (q2 _ K).symm.trans h2, t.ja s v⟩
      · rename_i gh ph pg hc
        split at h
        · rename_i b
          split at h
          · rename_i s1 hg
            generalize mi (fW b []) pg = outs at h
            generalize mh (fW b []) ph = head at h
            unfold Kp at h
            obtain ⟨v0, h0, h⟩ := bind_some h
            obtain ⟨o, hl, h⟩ := bind_some h
            refine dE.PJ hg h0 (fun v r hr => hs f _ b _ vg kU _ _ r hd hr) hl fun t v e eI => ?_
            exact ⟨(eI _ K).symm.trans h, (iZ hg).trans (t.ja s1 v)⟩
          · cases h
        · cases h
      · rename_i k gh ph pg hc
        split at h
        · rename_i b
          split at h
          · rename_i s1 hg
            generalize mi (fW b []) pg = outs at h
            generalize mh (fW b []) ph = head at h
            unfold PI at h
            obtain ⟨o, hl, h⟩ := bind_some h
            obtain ⟨r0, h0, hl⟩ := bind_some hl
            refine dE.IG hg h0 (fun s2 r hr => nO hs k (2 * p) b s2 r hd hr) (fun v r hr => nP hs k (2 * p) b _ _ r hd hr) hl fun t v e eI => ?_
            exact ⟨(eI _ K).symm.trans h, (iZ hg).trans (t.ja s1 v)⟩
          · cases h
        · cases h
      · rename_i gh ph pg hc
        split at h
        · rename_i b
          split at h
          · rename_i s1 hg
            generalize mi (fW b []) pg = outs at h
            generalize mh (fW b []) ph = head at h
            unfold Ge at h
            obtain ⟨v0, h0, h⟩ := bind_some h
            obtain ⟨o, hl, h⟩ := bind_some h
            refine dE.LR hg h0 (fun k v u hu => hs f _ b _ vg kU _ _ u hd hu) hl fun t v e eI => ?_
            exact ⟨(eI _ K).symm.trans h, (iZ hg).trans (t.ja s1 v)⟩
          · cases h
        · cases h
      · rename_i gh ph hc
        split at h
        · rename_i b
          split at h
          · rename_i s1 hg
            generalize mh (fW b []) ph = head at h
            unfold Gg at h
            obtain ⟨v0, h0, hl⟩ := bind_some h
            exact dE.LS hg h0 (fun k v u hu => hs f _ b _ vg kU _ _ u hd hu) hl
          · cases h
        · cases h
      · rename_i tq sz ty ph pg hc
        split at h
        · rename_i b
          split at h
          · rename_i cc s1 hg
            cases cc with
            | false => cases h
            | true =>
            generalize mi (fW b []) pg = outs at h
            generalize mh (fW b []) ph = head at h
            have h : BZ C (ev C n) f p b s1 head outs tq sz ty K = some x := h
            unfold BZ at h
            obtain ⟨v0, h0, h⟩ := bind_some h
            obtain ⟨o, hl, h⟩ := bind_some h
            refine dE.F7 hg h0 (fun v r hr => ?_) hl fun t v e eI => ?_
            · cases aO : rv (head.st s1 v) tq sz ty with
              | none => rw [aO] at hr; cases hr
              | some s2 =>
                rw [aO] at hr
                exact ⟨s2, rfl, hs f _ b _ vg kU _ _ r hd hr⟩
            · exact ⟨(eI _ K).symm.trans h, (rD hg).2.trans (t.ja s1 v)⟩
          · cases h
        · cases h
      · cases h
end Go.Am
namespace Go.Am
open Go
noncomputable def fF.fn (C : fF) (n : Nat) (g : FuncId) (ps : aF) (p : aB) (x : ps.T) : Option p.T :=
  zY C (ev C n) vg g (ps.enc x) [] (fun r _ => p.dec r)
theorem fF.bT {C : fF} (B5 : ∀ g e, C.F9 g = some e → au C.D.toEnv g e) {n : Nat} {g : FuncId} {ps : aF} {p : aB} (h1 : ps.under 0 = true) (h2 : p.under 0 = true) :
    au C.D.toEnv g ⟨ps, p, C.fn n g ps p⟩ := fun x y h => by
  refine bK.mono (bK.of (p := p) (Q := fun z => z = y) (ps.cM x h1) h2 ((ml (z8 B5 n) kU g _ [] _ y h).mono fun r _ hr => ⟨y, hr, rfl⟩)) ?_
  rintro r ⟨z, rfl, rfl⟩
  rfl
theorem bK.env {E E' : Env} {g : FuncId} {args : List AV} {Q : AV → Prop} (hP : E.P = E'.P) (hg : E.cw = E'.cw) (h : bK E g args Q) (s6 : E.lo = E'.lo := by rfl) (PN : E.gx = E'.gx := by rfl) : bK E' g args Q := by
  have go : ∀ {R : af} {w : World} {x : Nat} {cs : List AV}, jL E R w x cs ↔ jL E' R w x cs := fun {R w x cs} => by unfold jL; rw [PN]
  have yF : ∀ {R : af} {w : World} {G : List GO}, dv E R w G ↔ dv E' R w G := fun {R w G} =>
    ⟨fun h => ⟨h.len, h.obj, h.inj, h.wf, fun g cs hh => go.1 (h.cw g cs (by rw [hg]; exact hh)), by rw [← s6]; exact h.lo⟩, fun h => ⟨h.len, h.obj, h.inj, h.wf, fun g cs hh => go.2 (h.cw g cs (by rw [← hg]; exact hh)), by rw [s6]; exact h.lo⟩⟩
  intro G
  obtain ⟨h1, h2⟩ := h G
  rw [hP] at h1 h2
  refine ⟨h1, fun R w cs hr hl => (h2 R w cs (yF.2 hr) hl).mono fun e w' he => ?_⟩
  cases e with
  | returned c => obtain ⟨r, G', R', k1, k2, k3, k4⟩ := he; exact ⟨r, G', R', k1, k2, yF.1 k3, k4⟩
  | panicked c => exact he
  | outgrown => exact he
theorem bK.more {E E' : Env} {g : FuncId} {args : List AV} {Q : AV → Prop} (hP : E.P = E'.P) (hg : ∀ g cs, E.cw g = some cs → E'.cw g = some cs) (h : bK E g args Q) (s6 : E.lo = E'.lo := by rfl) (PN : E.gx = fun _ => false := by rfl) : bK E' g args Q := by
  intro G
  obtain ⟨h1, h2⟩ := h G
  rw [hP] at h1 h2
  refine ⟨h1, fun R w cs hr hl => (h2 R w cs ⟨hr.len, hr.obj, hr.inj, hr.wf, fun g cs hh => ⟨(hr.cw g cs (hg g cs hh)).1, fun hx => by rw [PN] at hx; cases hx⟩, by rw [s6]; exact hr.lo⟩ hl).mono fun e w' he => ?_⟩
  cases e with
  | returned c =>
    obtain ⟨r, G', R', k1, k2, k3, k4⟩ := he
    exact ⟨r, G', R', k1, k2, ⟨k3.len, k3.obj, k3.inj, k3.wf, fun g cs hh => (hr.cw g cs hh).mono k4.ext, by rw [← s6]; exact k3.lo⟩, k4⟩
  | panicked c => exact he
  | outgrown => exact he
def B7 : List (Nat × a8) → FuncId → Option a8
  | [], _ => none
  | (a, e) :: l, g => bif Nat.beq a g then some e else B7 l g
theorem bt {E : Env} : ∀ {l : List (Nat × a8)}, (∀ a e, (a, e) ∈ l → au E a e) → ∀ g e, B7 l g = some e → au E g e
  | [], _, g, e, h => by cases h
  | (a, x) :: l, hl, g, e, h => by
    unfold B7 at h
    cases hb : Nat.beq a g with
    | true =>
      rw [hb] at h
      cases h
      rw [← Nat.eq_of_beq_eq_true hb]
      exact hl a _ (by simp)
    | false =>
      rw [hb] at h
      exact bt (fun a e hm => hl a e (by simp [hm])) g e h
def Ks : List (Nat × eV) → Nat → Option eV
  | [], _ => none
  | (a, c) :: l, p => bif Nat.beq a p then some c else Ks l p
def Kt : List (Nat × List (Nat × eV)) → FuncId → Nat → Option eV
  | [], _, _ => none
  | (a, c) :: l, g, p => bif Nat.beq a g then Ks c p else Kt l g p
def C1 : Option Unit → Option Unit → Option Unit
  | some _, some _ => some ()
  | _, _ => none
theorem B8 : rB C1 := fun a b x h => by
  cases a <;> cases b <;> first | (cases h; done) | exact ⟨rfl, rfl⟩
theorem gP {C : fF} (B5 : ∀ g e, C.F9 g = some e → au C.D.toEnv g e) {n : Nat} {g : FuncId} {args : List AV} {p : aB} {ok : p.T → Bool} (h1 : aA 0 args = true) (h2 : p.under 0 = true)
    (h : zY C (ev C n) C1 g args [] (fun r _ => bif p.fits r && ok (p.bf r) then some () else none) = some ()) : bK C.D.toEnv g args (fun r => ∃ y, r = p.enc y ∧ ok y = true) :=
  bK.of (p := p) (Q := fun y => ok y = true) h1 h2 ((ml (z8 B5 n) B8 g args [] _ () h).mono fun r _ hr => by
    obtain ⟨k, _⟩ := aW hr
    rw [Bool.and_eq_true] at k
    exact ⟨p.bf r, by simp [aB.dec, k.1], k.2⟩)
end Go.Am
namespace Go.Am
open Go
def nQ (w : World) : af := ⟨fun b _ => b < w.heap.size, []⟩
mutual
def aB.wf : (p : aB) → p.T → Prop
  | .int k, (n : Int) => k.min ≤ n ∧ n ≤ k.max
  | .bool, _ => True
  | .str, (s : List UInt8) => s.length ≤ maxLen
  | .agg ps, x => ps.wf x
  | .bC ps, x => ps.wf x
  | .list _ p, (xs : List p.T) => xs.length ≤ maxLen ∧ ∀ x ∈ xs, p.wf x
  | .own _ _ p, (xs : List p.T) => xs.length ≤ maxLen ∧ ∀ x ∈ xs, p.wf x
  | .aG _ _ p, (x : Nat × List p.T) => x.2.length ≤ maxLen ∧ ∀ y ∈ x.2, p.wf y
  | .eT _ _, _ => True
  | .qB _, _ => True
  | .two _ _, _ => True
def aF.wf : (ps : aF) → ps.T → Prop
  | .nil, _ => True
  | .cons p .nil, x => p.wf x
  | .cons p (.cons q ps), x => p.wf x.1 ∧ (aF.cons q ps).wf x.2
end
def jc : List aB → aF
  | [] => .nil
  | p :: l => .cons p (jc l)
def El {β : Type} (g : β → Option (List aB)) : List β → Option (List aB)
  | [] => some []
  | x :: l => match g x, El g l with
    | some a, some b => some (a ++ b)
    | _, _ => none
def pi {β : Type} (off len : β → Nat) : Nat → List β → Option Nat
  | o, [] => some o
  | o, x :: l => bif Nat.beq (off x) o then pi off len (o + len x) l else none
def isSome (n : Nat) : Option Nat → Bool
  | some m => Nat.beq m n
  | none => false
def pj (ag : Bool) (ps : List aB) : Option aB := match ag, ps with
  | true, ps => some (.agg (jc ps))
  | false, [p] => some p
  | _, _ => none
def Em (P : Program) : Nat → TypeId → Option (List aB)
  | 0, _ => none
  | n + 1, t => match P.underlying t with
    | some .bool => some [.bool]
    | some (.int k) => some [.int k]
    | some .string => some [.str]
    | some (.slice e) => match Em P n e, P.underlying e with
      | some ps, some u => match pj (Go.Am.gS u) ps with
        | some pe => bif Nat.blt 0 (P.cellsOf e) then some [.list (P.cellsOf e) pe] else none
        | none => none
      | _, _ => none
    | some (.struct fs) => bif isSome (P.cellsOf t) (pi Field.offset (fun f => P.cellsOf f.type) 0 fs.toList) then El (fun f => Em P n f.type) fs.toList else none
    | some (.array m e) => bif isSome (P.cellsOf t) (pi (fun i => i * P.cellsOf e) (fun _ => P.cellsOf e) 0 (List.range m)) then El (fun _ => Em P n e) (List.range m) else none
    | _ => none
def S3 (a : AV) : Prop := a.aH = true ∧ a.cells = [a] ∧ a.closed = true
def nR : List aB → List AV → Prop
  | [], [] => True
  | p :: ps, a :: jC => p.fits a = true ∧ (p.wf (p.bf a) ∧ S3 a) ∧ nR ps jC
  | _, _ => False
theorem nR.append : ∀ {ps qs : List aB} {jC bs : List AV}, nR ps jC → nR qs bs → nR (ps ++ qs) (jC ++ bs)
  | [], _, [], _, _, h => h
  | _ :: _, _, _ :: _, _, k, h => ⟨k.1, k.2.1, nR.append k.2.2 h⟩
  | [], _, _ :: _, _, h, _ => h.elim
  | _ :: _, _, [], _, h, _ => h.elim
theorem nR.mk : ∀ {ps : List aB} {jC : List AV}, nR ps jC → (jc ps).fits jC = true ∧ (jc ps).wf ((jc ps).bf jC)
  | [], [], _ => ⟨rfl, trivial⟩
  | [p], [a], h => ⟨by
      change (p.fits a && (List.isEmpty ([] : List AV))) = true
      rw [h.1]
      rfl, h.2.1.1⟩
  | p :: q :: ps, a :: jC, h => by
    obtain ⟨h1, h2⟩ := nR.mk (ps := q :: ps) h.2.2
    refine ⟨?_, h.2.1.1, h2⟩
    change (p.fits a && (jc (q :: ps)).fits jC) = true
    rw [h.1, h1]
    rfl
  | [], _ :: _, h => h.elim
  | _ :: _, [], h => h.elim
  | [_], _ :: _ :: _, h => h.2.2.elim
theorem Aa {ag : Bool} {ps : List aB} {pe : aB} (h : pj ag ps = some pe) {jC : List AV} (hf : nR ps jC) :
    ∃ e, (if ag then e = .agg jC else jC = [e]) ∧ pe.fits e = true ∧ pe.wf (pe.bf e) := by
  unfold pj at h
  split at h
  · cases h
    obtain ⟨h1, h2⟩ := hf.mk
    exact ⟨.agg jC, rfl, h1, h2⟩
  · rename_i p
    cases h
    match jC, hf with
    | [a], hf => exact ⟨a, rfl, hf.1, hf.2.1.1⟩
    | [], hf => exact hf.elim
    | _ :: _ :: _, hf => exact hf.2.2.elim
  · cases h
theorem C2 : ∀ {ps : List aB} {jC : List AV}, nR ps jC → ∀ a ∈ jC, a.aH = true ∧ a.cells = [a] ∧ a.closed = true
  | [], [], _, a, ha => by simp at ha
  | _ :: _, b :: jC, hf, a, ha => by
    rcases List.mem_cons.1 ha with rfl | ha
    · exact hf.2.1.2
    · exact C2 hf.2.2 a ha
  | [], _ :: _, h, _, _ => h.elim
  | _ :: _, [], h, _, _ => h.elim
theorem C3 {pe : aB} : ∀ {es : List AV}, (∀ x ∈ es, pe.fits x = true ∧ pe.wf (pe.bf x)) → allFit pe.fits es = true ∧ ∀ x ∈ es.map pe.bf, pe.wf x
  | [], _ => ⟨rfl, by simp⟩
  | a :: es, h => by
    obtain ⟨h1, h2⟩ := C3 (es := es) fun x hx => h x (by simp [hx])
    refine ⟨by simp only [allFit, Bool.and_eq_true]; exact ⟨(h a (by simp)).1, h1⟩, fun x hx => ?_⟩
    rcases List.mem_cons.1 hx with rfl | hx
    · exact (h a (by simp)).2
    · exact h2 x hx
section read
variable {H : Type} {enc : TypeId × Value → H} {P : Program} {w : World} {R : af} {base : Nat} {spare : Nat → Bool} {held : Bool}
theorem jd {α β : Type} {f : α → Option β} {x : α} {l : List α} {r : List β} (h : (x :: l).mapM f = some r) : ∃ y ys, f x = some y ∧ l.mapM f = some ys ∧ r = y :: ys := by
  rw [List.mapM_cons] at h
  cases hx : f x with
  | none => rw [hx] at h; cases h
  | some y =>
    rw [hx] at h
    cases hl : l.mapM f with
    | none => rw [hl] at h; cases h
    | some ys => rw [hl] at h; cases h; exact ⟨y, ys, rfl, rfl, rfl⟩
theorem uM {β : Type} {off len : β → Nat} {g : β → Option (List aB)} {cs : List Value} {f : β → Option (DataW H × List MemPlace)}
    (hf : ∀ x ps y, g x = some ps → f x = some y → ∃ jC, ay R w jC ((cs.drop (off x)).take (len x)) ∧ nR ps jC ∧ ∀ v ∈ (cs.drop (off x)).take (len x), v.oneCell' = true) :
    ∀ {L : List β} {o m : Nat} {ps : List aB} {ys : List (DataW H × List MemPlace)}, pi off len o L = some m → El g L = some ps → L.mapM f = some ys →
      o ≤ m ∧ ∃ jC, ay R w jC ((cs.drop o).take (m - o)) ∧ nR ps jC ∧ ∀ v ∈ (cs.drop o).take (m - o), v.oneCell' = true
  | [], o, m, ps, ys, ht, hp, _ => by
    simp only [pi] at ht
    simp only [El] at hp
    cases ht; cases hp
    exact ⟨Nat.le_refl _, [], by simpa using ay.nil, trivial, by simp⟩
  | x :: L, o, m, ps, ys, ht, hp, hm => by
    unfold pi at ht
    cases hb : Nat.beq (off x) o with
    | false => rw [hb] at ht; cases ht
    | true =>
      rw [hb] at ht
      have hb := Nat.eq_of_beq_eq_true hb
      unfold El at hp
      split at hp
      · rename_i pa pb h1 h2
        cases hp
        obtain ⟨y, Dt, k1, k2, rfl⟩ := jd hm
        obtain ⟨jC, q1, q2, q3⟩ := hf x pa y h1 k1
        obtain ⟨hle, bs, r1, r2, r3⟩ := uM hf (show pi off len (o + len x) L = some m from ht) h2 k2
        have e : (cs.drop o).take (m - o) = (cs.drop (off x)).take (len x) ++ (cs.drop (o + len x)).take (m - (o + len x)) := by
          rw [hb, show m - o = len x + (m - (o + len x)) by omega, List.take_add, List.drop_drop]
        rw [e]
        refine ⟨by omega, jC ++ bs, q1.append r1, q2.append r2, fun v hv => ?_⟩
        rcases List.mem_append.1 hv with hv | hv
        · exact q3 v hv
        · exact r3 v hv
      · cases hp
theorem ko {α β : Type} {f : α → Option β} : ∀ {l : List α} {r : List β}, l.mapM f = some r → ∀ (i : Nat) (x : α), l[i]? = some x → ∃ y, r[i]? = some y ∧ f x = some y
  | [], r, _, i, x, hx => by simp at hx
  | a :: l, r, h, i, x, hx => by
    obtain ⟨y, ys, h1, h2, rfl⟩ := jd h
    cases i with
    | zero => simp at hx; subst hx; exact ⟨y, by simp, h1⟩
    | succ i => obtain ⟨z, h3, h4⟩ := ko h2 i x (by simpa using hx); exact ⟨z, by simpa using h3, h4⟩
theorem rE {α β : Type} {f : α → Option β} : ∀ {l : List α} {r : List β}, l.mapM f = some r → r.length = l.length
  | [], r, h => by simp at h; subst h; rfl
  | a :: l, r, h => by
    obtain ⟨y, ys, h1, h2, rfl⟩ := jd h
    simp [rE h2]
theorem IH {a : Addr} {v : Value} (h : w.cell? a = some v) : a.block < w.heap.size := by
  unfold World.cell? at h
  split at h
  · rename_i hb; exact a7 hb
  · cases h
theorem wM {e : TypeId} {ps : List aB} {pe : aB} {ag : Bool} {pn : Nat} (hp : ∀ (cs : List Value) (y : DataW H × List MemPlace), DataW.trod enc P w base spare held pn e cs = some y → ∃ jC, ay (nQ w) w jC cs ∧ nR ps jC ∧ ∀ v ∈ cs, v.oneCell' = true) (he : pj ag ps = some pe) {b off len : Nat} {r : List (DataW H × List MemPlace)}
    (h : (List.range len).mapM (fun i => (w.cells? base ((⟨b, off, none⟩ : Addr).add (i * P.cellsOf e)) (P.cellsOf e)).bind (DataW.trod enc P w base spare held pn e)) = some r) :
    ∀ (m i : Nat), i + m = len → ∃ es, eF (nQ w) w b (off + i * P.cellsOf e) (P.cellsOf e) es ∧ es.length = m ∧ ∀ x ∈ es, pe.fits x = true ∧ pe.wf (pe.bf x)
  | 0, i, _ => ⟨[], .nil, rfl, by simp⟩
  | m + 1, i, hi => by
    obtain ⟨es, h1, h2, h3⟩ := wM hp he h m (i + 1) (by omega)
    obtain ⟨y, _, hy⟩ := ko h i i (by rw [List.getElem?_range (by omega)])
    obtain ⟨cs, hc, hy⟩ := bind_some hy
    obtain ⟨jC, q1, q2, q3⟩ := hp _ _ hy
    obtain ⟨x, hx, f1, f2⟩ := Aa he q2
    have jM : w.cells? base ((⟨b, off, none⟩ : Addr).add (i * P.cellsOf e)) (P.cellsOf e) = some cs := hc
    unfold World.cells? at jM
    split at jM
    · have hlen := rE jM
      rw [List.length_range] at hlen
      have fK : x.cells = jC ∧ x.aH = true ∧ x.closed = true := by
        have lS := C2 q2
        cases ag with
        | true =>
          simp only [if_true] at hx
          subst hx
          refine ⟨rfl, rfl, ?_⟩
          show aN jC = true
          clear h1 h2 h3 q1 q2 f1 f2
          induction jC with
          | nil => rfl
          | cons a jC ih => simp only [aN, Bool.and_eq_true]; exact ⟨(lS a (by simp)).2.2, ih (fun z hz => lS z (by simp [hz]))⟩
        | false =>
          simp only [Bool.false_eq_true, if_false] at hx
          subst hx
          obtain ⟨k1, k2, k3⟩ := lS x (by simp)
          exact ⟨k2, k1, k3⟩
      have ij : ∀ j v, cs[j]? = some v → w.cell? ⟨b, off + i * P.cellsOf e + j, none⟩ = some v := fun j v hv => by
        have hj : j < P.cellsOf e := by have := (List.getElem?_eq_some_iff.1 hv).1; omega
        obtain ⟨v', k1, k2⟩ := ko jM j j (by rw [List.getElem?_range hj])
        rw [hv] at k1
        cases k1
        rw [bJ, bJ] at k2
        exact k2
      refine ⟨x :: es, .cons ?_ fK.2.1 fK.2.2 ?_ ?_, by simp [h2], fun z hz => ?_⟩
      · rw [fK.1, q1.length, hlen]
      · rw [fK.1]
        refine du.make q1 q3 ij (fun j hj => ?_)
        have Ap : j < cs.length := by rw [← q1.length]; exact hj
        exact IH (ij j cs[j] (List.getElem?_eq_getElem Ap))
      · rw [show off + i * P.cellsOf e + P.cellsOf e = off + (i + 1) * P.cellsOf e by rw [Nat.add_mul]; omega]
        exact h1
      · rcases List.mem_cons.1 hz with rfl | hz
        · exact ⟨f1, f2⟩
        · exact h3 z hz
    · cases jM
theorem po (vo : ∀ b, spare b = true) : ∀ (n : Nat) {t : TypeId} {ps : List aB}, Em P n t = some ps → ∀ {pn : Nat} {cs : List Value} {y : DataW H × List MemPlace}, DataW.trod enc P w base spare held pn t cs = some y →
    ∃ jC, ay (nQ w) w jC cs ∧ nR ps jC ∧ ∀ v ∈ cs, v.oneCell' = true
  | 0, _, _, h, _, _, _, _ => by cases h
  | n + 1, t, ps, h, 0, _, _, hy => by cases hy
  | n + 1, t, ps, h, pn + 1, cs, y, hy => by
    unfold Em at h
    unfold DataW.trod at hy
    split at h
    · rename_i hu
      cases h
      rw [hu] at hy
      cases cs with
      | nil => cases hy
      | cons v l =>
        cases l with
        | cons v2 l => (cases v <;> first | (cases hy; done) | (rename_i a; cases a <;> cases hy; done) | (rename_i a b; cases a <;> cases hy; done) | (rename_i a b c; cases a <;> first | (cases hy; done) | (cases b <;> first | (cases hy; done) | (cases c <;> cases hy))))
        | nil =>
          cases v with
          | bool b => exact ⟨[.bool b], .one (.bool b), ⟨rfl, ⟨trivial, rfl, rfl, rfl⟩, trivial⟩, by simp [Value.oneCell']⟩
          | pointer a => cases a <;> cases hy
          | slice a b c => cases a <;> first | (cases hy; done) | (cases b <;> first | (cases hy; done) | (cases c <;> cases hy))
          | map a => cases a <;> cases hy
          | chan a => cases a <;> cases hy
          | _ => cases hy
    · rename_i k hu
      cases h
      rw [hu] at hy
      cases cs with
      | nil => cases hy
      | cons v l =>
        cases l with
        | cons v2 l => (cases v <;> first | (cases hy; done) | (rename_i a; cases a <;> cases hy; done) | (rename_i a b; cases a <;> cases hy; done) | (rename_i a b c; cases a <;> first | (cases hy; done) | (cases b <;> first | (cases hy; done) | (cases c <;> cases hy))))
        | nil =>
          cases v with
          | int k' i =>
            have hy : (if k' = k ∧ (Lit.int k i).wf = true then some (.lit (.int k i), []) else none) = some y := hy
            split at hy
            · rename_i hc
              obtain ⟨rfl, hw⟩ := hc
              exact ⟨[.int k' i], .one (.int k' i), ⟨decide_eq_true rfl, ⟨by have h := hw; simp [Lit.wf] at h; exact h, rfl, rfl, rfl⟩, trivial⟩, by simp [Value.oneCell']⟩
            · cases hy
          | pointer a => cases a <;> cases hy
          | slice a b c => cases a <;> first | (cases hy; done) | (cases b <;> first | (cases hy; done) | (cases c <;> cases hy))
          | map a => cases a <;> cases hy
          | chan a => cases a <;> cases hy
          | _ => cases hy
    · rename_i hu
      cases h
      rw [hu] at hy
      cases cs with
      | nil => cases hy
      | cons v l =>
        cases l with
        | cons v2 l => (cases v <;> first | (cases hy; done) | (rename_i a; cases a <;> cases hy; done) | (rename_i a b; cases a <;> cases hy; done) | (rename_i a b c; cases a <;> first | (cases hy; done) | (cases b <;> first | (cases hy; done) | (cases c <;> cases hy))))
        | nil =>
          cases v with
          | string s =>
            have hy : (if s.size ≤ maxLen then some (.lit (.string s.data.toList), []) else none) = some y := hy
            split at hy
            · rename_i hc
              exact ⟨[.str s.data.toList], .one (.str s.data.toList), ⟨rfl, ⟨by simpa [aB.wf, aB.bf, AV.KD] using hc, rfl, rfl, rfl⟩, trivial⟩, by simp [Value.oneCell']⟩
            · cases hy
          | pointer a => cases a <;> cases hy
          | slice a b c => cases a <;> first | (cases hy; done) | (cases b <;> first | (cases hy; done) | (cases c <;> cases hy))
          | map a => cases a <;> cases hy
          | chan a => cases a <;> cases hy
          | _ => cases hy
    · rename_i e hu
      rw [hu] at hy
      split at h
      · rename_i Pw u h1 h2
        split at h
        · rename_i pe h3
          obtain ⟨hz, h⟩ := aW h
          cases h
          have hz := Nat.le_of_ble_eq_true hz
          cases cs with
          | nil => cases hy
          | cons v l =>
            cases l with
            | cons v2 l => (cases v <;> first | (cases hy; done) | (rename_i a; cases a <;> cases hy; done) | (rename_i a b; cases a <;> cases hy; done) | (rename_i a b c; cases a <;> first | (cases hy; done) | (cases b <;> first | (cases hy; done) | (cases c <;> cases hy))))
            | nil =>
              cases v with
              | slice a len cap =>
                cases a with
                | none =>
                  have hz : len = 0 ∧ cap = 0 := by
                    cases len with
                    | zero => cases cap with
                      | zero => exact ⟨rfl, rfl⟩
                      | succ _ => cases hy
                    | succ _ => cases hy
                  obtain ⟨rfl, rfl⟩ := hz
                  exact ⟨[.list .fY (P.cellsOf e) []], .one .fO, ⟨by simp [aB.fits, allFit], ⟨⟨Nat.zero_le _, fun x hx => by change x ∈ ([] : List pe.T) at hx; cases hx⟩, rfl, rfl, rfl⟩, trivial⟩, by simp [Value.oneCell']⟩
                | some a =>
                  have hy : (if base ≤ a.block ∧ len ≤ cap ∧ cap ≤ maxLen then
                    ((List.range len).mapM (fun i => (w.cells? base (a.add (i * P.cellsOf e)) (P.cellsOf e)).bind (DataW.trod enc P w base spare held pn e))).bind fun C4 =>
                      (if spare a.block then (List.range (cap - len)).mapM (fun j => (w.cells? base (a.add ((len + j) * P.cellsOf e)) (P.cellsOf e)).bind (DataW.trod enc P w base spare held pn e)) else some []).map fun rest =>
                        (DataW.slice (C4.map (·.1)) (rest.map (·.1)), MemPlace.row a ((C4.length + rest.length) * P.cellsOf e) ++ (C4 ++ rest).flatMap (·.2))
                    else none) = some y := hy
                  split at hy
                  · rename_i hc
                    obtain ⟨C4, k1, hy⟩ := bind_some hy
                    rw [if_pos (vo _)] at hy
                    by_cases dA : cap = 0
                    · subst dA
                      have sa : len = 0 := Nat.le_zero.1 hc.2.1
                      subst sa
                      exact ⟨[.list .fY (P.cellsOf e) []], .one .jK, ⟨by simp [aB.fits, allFit], ⟨⟨Nat.zero_le _, fun x hx => by change x ∈ ([] : List pe.T) at hx; cases hx⟩, rfl, rfl, rfl⟩, trivial⟩, by simp [Value.oneCell']⟩
                    · have Gl : a.spot = none := by
                        have Lx : ∃ y, (w.cells? base (a.add (0 * P.cellsOf e)) (P.cellsOf e)).bind (DataW.trod enc P w base spare held pn e) = some y := by
                          by_cases sa : len = 0
                          · subst sa
                            cases hr : (List.range (cap - 0)).mapM (fun j => (w.cells? base (a.add ((0 + j) * P.cellsOf e)) (P.cellsOf e)).bind (DataW.trod enc P w base spare held pn e)) with
                            | none => rw [hr] at hy; cases hy
                            | some r =>
                              obtain ⟨z, _, hz⟩ := ko hr 0 0 (by rw [List.getElem?_range (by omega)])
                              exact ⟨z, hz⟩
                          · obtain ⟨z, _, hz⟩ := ko k1 0 0 (by rw [List.getElem?_range (by omega)])
                            exact ⟨z, hz⟩
                        obtain ⟨z, Wn⟩ := Lx
                        obtain ⟨cs, mS, _⟩ := bind_some Wn
                        unfold World.cells? at mS
                        split at mS
                        · obtain ⟨v, _, hv⟩ := ko mS 0 0 (by rw [List.getElem?_range (by omega)])
                          rw [Nat.zero_mul] at hv
                          unfold World.cell? at hv
                          split at hv
                          · split at hv
                            · cases hv
                            · rename_i hs
                              simpa [Addr.add] using hs
                          · cases hv
                        · cases mS
                      obtain ⟨b, off, spot⟩ := a
                      have Gl : spot = none := Gl
                      subst Gl
                      obtain ⟨es, q1, q2, q3⟩ := wM (fun cs y hy => po vo n h1 hy) h3 k1 len 0 (by omega)
                      rw [Nat.zero_mul, Nat.add_zero] at q1
                      obtain ⟨f1, f2⟩ := C3 q3
                      refine ⟨[.list .fY (P.cellsOf e) es], .one (.list q1 q2.symm hc.2.1 trivial), ⟨?_, ⟨⟨?_, f2⟩, rfl, rfl, rfl⟩, trivial⟩, by simp [Value.oneCell']⟩
                      · simp only [aB.fits, Bool.and_eq_true, Bool.or_eq_true]
                        exact ⟨.inl (Nat.beq_refl _), f1⟩
                      · have : es.length ≤ maxLen := by rw [q2]; omega
                        show (es.map pe.bf).length ≤ maxLen
                        rw [List.length_map]
                        exact this
                  · cases hy
              | pointer a => cases a <;> cases hy
              | map a => cases a <;> cases hy
              | chan a => cases a <;> cases hy
              | _ => cases hy
        · cases h
      · cases h
    · rename_i fs hu
      rw [hu] at hy
      have hy : (if cs.length = P.cellsOf t then (fs.toList.mapM fun f => DataW.trod enc P w base spare held pn f.type ((cs.drop f.offset).take (P.cellsOf f.type))).map fun xs => (.agg (xs.map (·.1)), xs.flatMap (·.2)) else none) = some y := hy
      split at hy
      · rename_i hl
        obtain ⟨h1, h2⟩ := aW h
        cases hm : fs.toList.mapM fun f => DataW.trod enc P w base spare held pn f.type ((cs.drop f.offset).take (P.cellsOf f.type)) with
        | none => rw [hm] at hy; cases hy
        | some ys =>
          cases ht : pi Field.offset (fun f => P.cellsOf f.type) 0 fs.toList with
          | none => rw [ht] at h1; cases h1
          | some m =>
            rw [ht] at h1
            have h1 := Nat.eq_of_beq_eq_true (show Nat.beq m (P.cellsOf t) = true from h1)
            obtain ⟨_, jC, q1, q2, q3⟩ := uM (R := nQ w) (w := w) (off := Field.offset) (len := fun f => P.cellsOf f.type) (cs := cs) (fun x ps y hx S4 => po vo n hx S4) ht h2 hm
            rw [h1, ← hl] at q1 q3
            simp only [List.drop_zero, Nat.sub_zero, List.take_length] at q1 q3
            exact ⟨jC, q1, q2, q3⟩
      · cases hy
    · rename_i m e hu
      rw [hu] at hy
      have hy : (if cs.length = P.cellsOf t then ((List.range m).mapM fun i => DataW.trod enc P w base spare held pn e ((cs.drop (i * P.cellsOf e)).take (P.cellsOf e))).map fun xs => (.agg (xs.map (·.1)), xs.flatMap (·.2)) else none) = some y := hy
      split at hy
      · rename_i hl
        obtain ⟨h1, h2⟩ := aW h
        cases hm : (List.range m).mapM fun i => DataW.trod enc P w base spare held pn e ((cs.drop (i * P.cellsOf e)).take (P.cellsOf e)) with
        | none => rw [hm] at hy; cases hy
        | some ys =>
          cases ht : pi (fun i => i * P.cellsOf e) (fun _ => P.cellsOf e) 0 (List.range m) with
          | none => rw [ht] at h1; cases h1
          | some k =>
            rw [ht] at h1
            have h1 := Nat.eq_of_beq_eq_true (show Nat.beq k (P.cellsOf t) = true from h1)
            obtain ⟨_, jC, q1, q2, q3⟩ := uM (R := nQ w) (w := w) (off := fun i => i * P.cellsOf e) (len := fun _ => P.cellsOf e) (cs := cs) (fun x ps y hx S4 => po vo n hx S4) ht h2 hm
            rw [h1, ← hl] at q1 q3
            simp only [List.drop_zero, Nat.sub_zero, List.take_length] at q1 q3
            exact ⟨jC, q1, q2, q3⟩
      · cases hy
    · cases h
def LW (P : Program) (n : Nat) (t : TypeId) : Option aB := match P.underlying t with
  | some u => match Em P n t with
    | some ps => pj (Go.Am.gS u) ps
    | none => none
  | none => none
theorem II (vo : ∀ b, spare b = true) {n : Nat} {t : TypeId} {p : aB} (hp : LW P n t = some p) {v : Value} {d : DataW H} {pl : List MemPlace} {r : Reach} {base' : Nat} (ht : DataW.Trod enc P w base spare held t v d pl) (cD : Value.okWide P w r base' t v) :
    ∃ x : p.T, Rel (nQ w) w (p.enc x) v ∧ p.wf x := by
  obtain ⟨pn, ht⟩ := ht
  have fin : ∀ {a : AV}, p.fits a = true → p.wf (p.bf a) → Rel (nQ w) w a v → ∃ x : p.T, Rel (nQ w) w (p.enc x) v ∧ p.wf x := fun {a} h1 h2 h3 => ⟨p.bf a, (p.b9 h1).eX _ _ _ h3, h2⟩
  unfold LW at hp
  split at hp
  · rename_i u hu
    split at hp
    · rename_i ps h1
      obtain ⟨jC, q1, q2, q3⟩ := po vo n h1 ht
      obtain ⟨x, hx, f1, f2⟩ := Aa hp q2
      cases xe : Go.Am.gS u with
      | true =>
        rw [xe] at hx
        simp only [if_true] at hx
        subst hx
        have : ∃ cs, v = .agg cs := by
          unfold Value.okWide at cD
          rw [hu] at cD
          cases u <;> first | (cases xe; done) | (obtain ⟨cs, h, _⟩ := cD; exact ⟨cs, h⟩)
        obtain ⟨⟨cs⟩, rfl⟩ := this
        exact fin f1 f2 (.agg q1 q3)
      | false =>
        rw [xe] at hx
        simp only [Bool.false_eq_true, if_false] at hx
        subst hx
        have hv : v.cells.toList = [v] := by
          cases v with
          | agg cs =>
            exfalso
            unfold Value.okWide at cD
            rw [hu] at cD
            cases u <;> first | (cases xe; done) | (simp [Cell.okWide, Cell.ok, hu] at cD)
          | _ => rfl
        rw [hv] at q1
        cases q1 with
        | cons q1 _ => exact fin f1 f2 q1
    · cases hp
  · cases hp
def Ab (P : Program) (n : Nat) : List TypeId → Option (List aB)
  | [] => some []
  | t :: l => match LW P n t, Ab P n l with
    | some p, some r => some (p :: r)
    | _, _ => none
theorem Ac (vo : ∀ b, spare b = true) {n : Nat} {r : Reach} {base' : Nat} : ∀ {ts : List TypeId} {ps : List aB} {vs : List Value} {ds : List (DataW H)} {pl : List MemPlace}, Ab P n ts = some ps → DataW.TrodAll enc P w base spare held ts vs ds pl →
    (∀ (j : Nat) t v, ts[j]? = some t → vs[j]? = some v → Value.okWide P w r base' t v) → ∃ x : (jc ps).T, ay (nQ w) w ((jc ps).enc x) vs ∧ (jc ps).wf x
  | [], ps, vs, ds, pl, hp, ht, _ => by
    simp only [Ab] at hp
    cases hp
    cases vs with
    | nil => exact ⟨(), .nil, trivial⟩
    | cons _ _ => cases ds <;> exact ht.elim
  | t :: ts, ps, vs, ds, pl, hp, ht, cD => by
    unfold Ab at hp
    split at hp
    · rename_i p r h1 h2
      cases hp
      cases vs with
      | nil => cases ds <;> exact ht.elim
      | cons v vs =>
        cases ds with
        | nil => exact ht.elim
        | cons d ds =>
          obtain ⟨p1, p2, k1, k2, _⟩ := ht
          obtain ⟨x, q1, q2⟩ := II vo h1 k1 (cD 0 t v rfl rfl)
          obtain ⟨y, q3, q4⟩ := Ac vo h2 k2 (fun j t v hj hv => cD (j + 1) t v (by simpa using hj) (by simpa using hv))
          cases r with
          | nil =>
            cases q3
            exact ⟨x, .one q1, q2⟩
          | cons p' r => exact ⟨(x, y), .cons q1 q3, q2, q4⟩
    · cases hp
end read
end Go.Am
namespace Go.Am
open Go Go.RowKit Go.WideShapes Go.ChangeShapes
section
variable {H : Type} {enc : TypeId × Value → H} {P : Program}
theorem B9 {f : Func} {s : ChangeSpec} {apart fresh handsOn again : Bool} {W W' : World} {args : Array Value} {v : Value} {ds gs : List (DataW H)} {before pa pv : List MemPlace}
    (hW : DataW.Whole enc P f.params.toList s.vars apart W args.toList ds gs before)
    (xC : ∀ (b : Nat) (sp : Nat → Bool) (hd : Bool), DataW.TrodAll enc P W' b sp hd f.resultTypes.toList (v.resultList f.resultTypes.size) (s.fn H (ds ++ gs)).results [])
    (lf : ∀ sp : Nat → Bool, (∀ p ∈ before, sp p.block = true) → DataW.TrodAll enc P W' 0 sp true f.params.toList args.toList (s.fn H (ds ++ gs)).args pa)
    (Ad : ∀ sp : Nat → Bool, (∀ p ∈ before, sp p.block = true) → DataW.TrodVars enc P W' sp s.vars (s.fn H (ds ++ gs)).vars pv)
    (EF : before = pa ++ pv) (hb : Below W.heap.size W W')
    (cD : ∀ (j : Nat) (t : TypeId) (r : Value), f.resultTypes[j]? = some t → (v.resultList f.resultTypes.size)[j]? = some r → Value.okWide P W' .any 0 t r) :
    s.post enc P f apart fresh handsOn again W args v W' := by
  have bR : ∀ p ∈ before, p.block < W.heap.size := fun p hp => hW.lt p hp
  have hold : ∀ p ∈ before, (fun b => decide (b < W.heap.size)) p.block = true := fun p hp => by simpa using bR p hp
  refine ⟨ds, gs, before, [], pa, pv, hW, xC _ _ _, lf _ hold, Ad _ hold, World.keptBut_mono (fun p hp => ⟨hp, ?_⟩) (hb.frame (· ∈ before)), fun _ => ?_⟩
  · rw [EF, List.mem_append] at hp
    exact Or.inr hp
  · obtain ⟨_, _, _, _, _, hz, hn⟩ := hW
    refine ⟨cD, _, _, ([] ++ pa) ++ pv, ⟨[] ++ pa, pv, trodAll_append (lf _ (fun _ _ => rfl)) (xC _ _ _), Ad _ (fun _ _ => rfl), rfl, ?_, ?_⟩, ?_⟩
    · intro b off hp
      have sR : MemPlace.cell b off ∈ before := by rw [EF]; simpa using hp
      rw [hb.frozen (bR _ sR)]
      exact hz b off sR
    · intro ha
      have := hn ha
      rw [EF] at this
      simpa using this
    · intro p hp _
      rw [EF]
      simpa using hp
theorem nl (hl : laidOutB P = true) {W W' : World} (hb : Below W.heap.size W W') {sp : Nat → Bool} : ∀ {ts : List TypeId} {vs : List Value} {ds : List (DataW H)} {pl : List MemPlace},
    (∀ t ∈ ts, P.readableRec t = true ∧ t < P.types.size) → DataW.TrodAll enc P W 0 (fun _ => true) true ts vs ds pl → (∀ p ∈ pl, p.block < W.heap.size) → (∀ p ∈ pl, sp p.block = true) →
    DataW.TrodAll enc P W' 0 sp true ts vs ds pl
  | [], [], [], _, _, h, _, _ => h
  | t :: ts, v :: vs, d :: ds, pl, hr, h, bR, vo => by
    obtain ⟨p, q, h1, h2, rfl⟩ := h
    refine ⟨p, q, ?_, nl hl hb (fun t ht => hr t (by simp [ht])) h2 (fun x hx => bR x (by simp [hx])) (fun x hx => vo x (by simp [hx])), rfl⟩
    exact WideElems.Trod_stays hl (hr t (by simp)).1 (hr t (by simp)).2 h1 (fun x hx => hb.same (bR x (by simp [hx]))) (fun x hx => vo x (by simp [hx]))
  | [], [], _ :: _, _, _, h, _, _ => h.elim
  | [], _ :: _, _, _, _, h, _, _ => h.elim
  | _ :: _, [], _, _, _, h, _, _ => h.elim
  | _ :: _, _ :: _, [], _, _, h, _, _ => h.elim
theorem En {E : Env} {f : FuncId} {fn : Func} {s : ChangeSpec} {ps : List aB} {apart fresh handsOn again : Bool} {W : World} {base : Nat} {args : Array Value} {ds gs : List (DataW H)} {before : List MemPlace} {n tb : Nat}
    (S5 : ∀ x, (jc ps).wf x → bK E f ((jc ps).enc x) (fun r => r = .bool true)) (PO : Ab E.P n fn.params.toList = some ps)
    (IJ : ∀ (j : Nat) t v, fn.params[j]? = some t → args[j]? = some v → Value.okWide E.P W .any base t v)
    (hW : DataW.Whole enc E.P fn.params.toList s.vars apart W args.toList ds gs before) (PP : ∀ g cs, E.cw g = some cs → du (nQ W) W g 0 cs)
    (Ad : s.vars = []) (vo : ∀ ds : List (DataW H), ds.length = fn.params.toList.length → s.fn H ds = { results := [.lit (.bool true)], args := ds })
    (xC : fn.resultTypes = #[tb]) (UF : E.P.underlying tb = some .bool) (hl : laidOutB E.P = true) (hr : ∀ t ∈ fn.params.toList, E.P.readableRec t = true ∧ t < E.P.types.size) (s6 : E.lo = 0 := by rfl) (PN : ∀ g cs, E.cw g = some cs → E.gx g = true → g < W.heap.size ∧ W.cell? ⟨g, cs.length, none⟩ = none := by intro _ _ _ h; exact Bool.noConfusion (show false = true from h)) :
    Calls E.P f args W fun e W' => ∃ v, e = .returned v ∧ s.post enc E.P fn apart fresh handsOn again W args v W' := by
  have S6 := hW
  obtain ⟨p, q, hA, hV, rfl, Q6, Wo⟩ := hW
  obtain ⟨rfl, rfl⟩ : gs = [] ∧ q = [] := by
    rw [Ad] at hV
    cases gs with
    | nil => exact ⟨rfl, hV⟩
    | cons g r => exact absurd hV (by intro h; cases h)
  obtain ⟨x, hx, UG⟩ := Ac (fun _ => rfl) (n := n) PO hA (r := .any) (base' := base) (fun j t v hj hv => IJ j t v (by simpa using hj) (by simpa using hv))
  have hlen : ds.length = fn.params.toList.length := by
    clear IJ Q6 Wo S6 hx UG vo PO hr
    revert hA
    generalize fn.params.toList = ts
    generalize args.toList = vs
    generalize p = pl
    clear p
    intro hA
    induction ts generalizing vs ds pl with
    | nil => cases vs <;> cases ds <;> first | rfl | exact hA.elim
    | cons t ts ih =>
      cases vs with
      | nil => cases ds <;> exact hA.elim
      | cons v vs =>
        cases ds with
        | nil => exact hA.elim
        | cons d ds =>
          obtain ⟨p, q, _, h2, _⟩ := hA
          simp [ih vs q h2]
  have hG : dv E (nQ W) W [] := ⟨rfl, fun id go ro h => by simp [nth] at h, fun i j ri rj b h => by simp [nQ, nth] at h, fun b o h => h, fun g cs hg => ⟨PP g cs hg, fun hx => PN g cs hg hx⟩, by rw [s6]; exact Nat.zero_le _⟩
  have hc := (S5 x UG [])
  refine (callsIn_wide.1 (hc.2 (nQ W) W args.toList hG hx)).mono fun e W' he => ?_
  cases e with
  | panicked c => exact he.elim
  | outgrown => exact he.elim
  | returned c =>
    obtain ⟨r, G', R', ⟨_, rfl⟩, cZ, _, st⟩ := he
    cases cZ
    have hb : Below W.heap.size W W' := ⟨st.os, st.tape, st.output, st.size, fun k hk => st.bL k hk fun ho => by
      obtain ⟨id, ro, h1, _⟩ := dQ ho
      simp [nQ, nth] at h1⟩
    have bR : ∀ y ∈ p, y.block < W.heap.size := fun y hy => by simpa using S6.lt y (by simpa using hy)
    have e1 : s.fn H (ds ++ []) = { results := [.lit (.bool true)], args := ds } := by rw [List.append_nil]; exact vo ds hlen
    refine ⟨_, rfl, B9 (pa := p) (pv := []) S6 ?_ ?_ ?_ rfl hb ?_⟩
    · intro b sp hd
      rw [e1, xC]
      exact trodAll_mk1 (shut_bool UF true)
    · intro sp S7
      rw [e1]
      exact nl hl hb hr hA bR (fun y hy => S7 y (by simpa using hy))
    · intro sp _
      rw [e1, Ad]
      rfl
    · intro j t r hj gk
      rw [xC] at hj gk
      cases j with
      | succ j => simp at hj
      | zero =>
        simp at hj
        subst hj
        have : r = .bool true := by simpa [Value.resultList] using gk.symm
        subst this
        simp [Value.okWide, Cell.okWide, Cell.ok, UF]
end
end Go.Am
namespace Go.Am
open Go
section
variable {P : Program} {W : World}
end
end Go.Am
namespace Go.Am
open Go
theorem jD {p : aB} (hp : p.plain = true) (l : List p.T) : allFit p.fits (List.map p.enc l) = true := by
  induction l with
  | nil => rfl
  | cons x l ih => simp [allFit, ih, (p.bW x hp).1]
theorem pq {p : aB} (hp : p.plain = true) (l : List p.T) : List.map p.bf (List.map p.enc l) = l := by
  induction l with
  | nil => rfl
  | cons x l ih => simp [ih, (p.bW x hp).2]
end Go.Am
namespace Go.Am
open Go Go.RowKit
section
variable {E : Env} {R : af} {w w' : World}
theorem Below.PQ (h : Below w.heap.size w w') (wf : ∀ b o, R.I b o → b < w.heap.size) : Ext R w R w' :=
  ⟨fun _ _ h => h, fun b o hi => bl (h.block b (wf b o hi)) o, fun _ ro h => ⟨ro, h, bF.refl ro⟩, .old fun b hb => h.block b hb⟩
theorem Below.S8 {G : List GO} (h : Below w.heap.size w w') (hg : dv E R w G) (hE : E.lo = 0) : dv E R w' G :=
  hg.bL (Below.PQ h hg.wf) rfl (fun b hb => h.block b (hg.bq hb)) (fun _ _ _ hi => hi) (fun b o hi => Nat.lt_of_lt_of_le (hg.wf b o hi) h.size) (fun _ => by rw [hE]; exact Nat.zero_le _)
theorem Below.PR {β : Nat → Nat} {bx : bU} (h : Below w.heap.size w w') (wf : ∀ b o, R.I b o → b < w.heap.size) : Step R w β bx R w' β bx :=
  ⟨Below.PQ h wf, h.os, h.tape, h.output, h.size, fun b hb _ => h.block b hb, fun _ _ ho => ho, fun _ _ hi _ _ => hi⟩
theorem bK.below {g : FuncId} {args : List AV} {r : AV} (hp : Plain E.P g)
    (h : ∀ (R : af) (w : World) (cs : List Value), ay R w args cs → Calls E.P g ⟨cs⟩ w (fun e w' => ∃ v, e = .returned v ∧ (∀ R, Rel R w' r v) ∧ Below w.heap.size w w')) (hE : E.lo = 0) : bK E g args (fun r' => r' = r) := fun G =>
  ⟨hp, fun R w cs hg hl => callsIn_wide.2 ((h R w cs hl).mono fun e w' ⟨v, he, hv, hb⟩ => by
    subst he
    exact ⟨r, G, R, ⟨rfl, rfl⟩, hv R, Below.S8 hb hg hE, Below.PR hb hg.wf⟩)⟩
theorem Plain.of {P : Program} {g : FuncId} {fn : Func} (h : P.funcs[g]? = some fn) (h1 : fn.body.isNone = false) (h2 : (fn.name == "runtime.NumGoroutine") = false) : Plain P g := ⟨fn, h, h1, h2⟩
end
def p2 (a b : aB) : aF := .cons a (.cons b .nil)
def p1 (a : aB) : aF := .cons a .nil
def ga (s : List UInt8) : Nat → List UInt8
  | 0 => []
  | n + 1 => s ++ ga s n
def sr (x : List UInt8 × Int) : Option (List UInt8) := bif decide (0 ≤ x.2) && decide (x.2 ≤ 9223372036854775807) && decide (x.1.length * x.2.toNat ≤ 140737488355328) then some (ga x.1 x.2.toNat) else none
def lh : List (List UInt8) → List UInt8 → List UInt8
  | [], _ => []
  | [a], _ => a
  | a :: l, sep => a ++ sep ++ lh l sep
def Gm (x : List (List UInt8) × List UInt8) : Option (List UInt8) := bif decide (x.1.length ≤ 140737488355328) && decide ((lh x.1 x.2).length ≤ 140737488355328) then some (lh x.1 x.2) else none
def yj : a8 := ⟨p2 .str (.int .i64), .str, sr⟩
def Ca : a8 := ⟨p2 (.list 1 .str) .str, .str, Gm⟩
section
variable {E : Env}
theorem uN {c : Bool} {a x : List UInt8} (h : (bif c then some a else none) = some x) : c = true ∧ a = x := by
  cases c
  · cases h
  · exact ⟨rfl, Option.some.inj h⟩
theorem Eo {g : FuncId} (hp : Plain E.P g)
    (h : ∀ (s : ByteArray) (c : Nat) (w : World), c ≤ 9223372036854775807 → s.size * c ≤ 140737488355328 → Calls E.P g #[.string s, .int .i64 c] w fun e w' => e = .returned (.string ⟨(ga s.data.toList c).toArray⟩) ∧ Below w.heap.size w w') (hE : E.lo = 0 := by rfl) : au E g yj := fun x y hT => by
  obtain ⟨s, n, rfl⟩ : ∃ (s : List UInt8) (n : Int), x = (s, n) := ⟨x.1, x.2, rfl⟩
  obtain ⟨h1, h2⟩ := uN (show (bif decide (0 ≤ n) && decide (n ≤ 9223372036854775807) && decide (s.length * n.toNat ≤ 140737488355328) then some (ga s n.toNat) else none) = some y from hT)
  subst h2
  rw [Bool.and_eq_true, Bool.and_eq_true] at h1
  have a := of_decide_eq_true h1.1.1
  have b := of_decide_eq_true h1.1.2
  have c := of_decide_eq_true h1.2
  obtain ⟨i, rfl⟩ : ∃ i : Nat, n = i := ⟨n.toNat, by omega⟩
  refine bK.below hp (fun R w cs hl => ?_) hE
  cases hl with
  | cons a1 hl =>
  cases hl with
  | cons a2 hl =>
  cases hl
  cases a1; cases a2
  refine (h ⟨⟨s⟩⟩ i w (by omega) c).mono ?_
  rintro e w' ⟨rfl, hb⟩
  exact ⟨_, rfl, fun _ => Rel.str _, hb⟩
theorem wN {R : af} {w : World} {b : Nat} : ∀ {xs : List (List UInt8)} {o : Nat}, eF R w b o 1 (xs.map (fun l => AV.str l)) → ∀ (j : Nat) x, (xs.map fun l => (⟨⟨l⟩⟩ : ByteArray))[j]? = some x → w.cell? ⟨b, o + j, none⟩ = some (.string x)
  | [], _, _, j, x, h => by simp at h
  | a :: xs, o, .cons _ _ _ hc t, 0, x, h => by
    cases hc with
    | cons h1 h2 h3 h4 h5 =>
    cases h4
    simp only [List.map_cons, List.getElem?_cons_zero] at h
    cases h
    exact h1
  | a :: xs, o, .cons _ _ _ hc t, j + 1, x, h => by
    simp only [List.map_cons, List.getElem?_cons_succ] at h
    have := wN t j x h
    rw [show o + (j + 1) = o + 1 + j by omega]
    exact this
theorem IK {g : FuncId} (hp : Plain E.P g)
    (h0 : ∀ (a : Option Addr) (c : Nat) (sep : ByteArray) (w : World), Calls E.P g #[.slice a 0 c, .string sep] w fun e w' => e = .returned (.string ⟨#[]⟩) ∧ w' = w)
    (h : ∀ (bk o c : Nat) (xs : List ByteArray) (sep : ByteArray) (w : World), (∀ (j : Nat) x, xs[j]? = some x → w.cell? ⟨bk, o + j, none⟩ = some (.string x)) → bk < w.heap.size → xs.length ≤ 140737488355328 → xs.length ≤ c → (lh (xs.map (·.data.toList)) sep.data.toList).length ≤ 140737488355328 →
      Calls E.P g #[.slice (some ⟨bk, o, none⟩) xs.length c, .string sep] w fun e w' => e = .returned (.string ⟨(lh (xs.map (·.data.toList)) sep.data.toList).toArray⟩) ∧ Below w.heap.size w w') (hE : E.lo = 0 := by rfl) : au E g Ca := fun x y hT => by
  obtain ⟨xs, sep, rfl⟩ : ∃ (xs : List (List UInt8)) (sep : List UInt8), x = (xs, sep) := ⟨x.1, x.2, rfl⟩
  obtain ⟨h1, h2⟩ := uN (show (bif decide (xs.length ≤ 140737488355328) && decide ((lh xs sep).length ≤ 140737488355328) then some (lh xs sep) else none) = some y from hT)
  subst h2
  rw [Bool.and_eq_true] at h1
  have b1 := of_decide_eq_true h1.1
  have b2 := of_decide_eq_true h1.2
  refine bK.below hp (fun R w cs hl => ?_) hE
  cases hl with
  | @cons _ c1 _ _ a1 hl =>
  cases hl with
  | cons a2 hl =>
  cases hl
  cases a2
  have key : (xs = [] ∧ ∃ a c', c1 = .slice a 0 c') ∨ ∃ bk o c', c1 = .slice (some ⟨bk, o, none⟩) xs.length c' ∧ xs.length ≤ c' ∧ eF R w bk o 1 (xs.map (fun l => AV.str l)) := by
    have UH : Rel R w (.list .fY 1 (xs.map (fun l => AV.str l))) c1 := a1
    generalize he : xs.map (fun l => AV.str l) = es at UH
    cases UH with
    | fO => exact .inl ⟨by simpa using he, none, 0, rfl⟩
    | @jK _ ad => exact .inl ⟨by simpa using he, some ad, 0, rfl⟩
    | list h hl hc hk =>
      rw [← he, List.length_map] at hl
      subst hl
      exact .inr ⟨_, _, _, rfl, hc, h⟩
  by_cases hx : xs = []
  · subst hx
    obtain ⟨a, c', rfl⟩ : ∃ a c', c1 = .slice a 0 c' := by
      rcases key with ⟨_, hk⟩ | ⟨bk, o, c', rfl, _⟩
      · exact hk
      · exact ⟨_, _, rfl⟩
    refine (h0 a c' ⟨⟨sep⟩⟩ w).mono ?_
    rintro e w' ⟨rfl, rfl⟩
    exact ⟨_, rfl, fun _ => Rel.str _, Below.refl _ _⟩
  · rcases key with ⟨hk, _⟩ | ⟨bk, o, c', rfl, hc, hE⟩
    · exact absurd hk hx
    · have eS := wN hE
      have RI : bk < w.heap.size := by
        match xs, hx with
        | x :: xs, _ =>
          have := eS 0 ⟨⟨x⟩⟩ rfl
          unfold World.cell? at this
          rcases Nat.lt_or_ge bk w.heap.size with h' | h'
          · exact h'
          · rw [Array.getElem?_eq_none (by simpa using h')] at this
            cases this
      have hm : (xs.map fun l => (⟨⟨l⟩⟩ : ByteArray)).map (fun x => x.data.toList) = xs := by simp [List.map_map, Function.comp_def]
      have := h bk o c' (xs.map fun l => (⟨⟨l⟩⟩ : ByteArray)) ⟨⟨sep⟩⟩ w eS RI (by rw [List.length_map]; exact b1) (by rw [List.length_map]; exact hc) (by rw [hm]; exact b2)
      rw [hm, List.length_map] at this
      refine this.mono ?_
      rintro e w' ⟨rfl, hb⟩
      exact ⟨_, rfl, fun _ => Rel.str _, hb⟩
end
end Go.Am
