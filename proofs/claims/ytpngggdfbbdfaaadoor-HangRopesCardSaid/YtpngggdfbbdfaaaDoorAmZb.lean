/- The abstract machine: the evaluator is sound. -/
import Derived.Test.YtpngggdfbbdfaaaDoorAmZa
set_option linter.all false
namespace Go.Am
open Go

section
variable {C : Ctx} {ih : EvT}

def SoundE (C : Ctx) (ih : EvT) : Prop := ∀ (f : FuncId) (p : Nat) (c : Code) (X : Type) (cmb : Option X → Option X → Option X), CmbOk cmb → ∀ (K : Exit → St → Option X) (s : St) (x : X),
  codeDraws (C.D.dt f) c = true → ih f p c X cmb K s = some x → AWpX C.D.toEnv c (fun e s' => K e s' = some x) s

theorem eqC_ok {X : Type} : CmbOk (eqC (X := X)) := fun a b x h => by
  unfold eqC at h
  by_cases e : a = b
  · rw [if_pos e] at h
    exact ⟨h, e ▸ h⟩
  · rw [if_neg e] at h
    cases h

theorem callI_sound (hs : SoundE C ih) {X : Type} {cmb : Option X → Option X → Option X} (hm : CmbOk cmb) : CallOk C.D.toEnv (callI C ih cmb) := fun g args G K x h => by
  unfold callI at h
  obtain ⟨hok, h⟩ := cond_some h
  split at h
  · rename_i fn hfn
    split at h
    · rename_i b hb
      obtain ⟨hn, h⟩ := cond_some h
      have fin : ∀ {K' : AV → List GO → Option X}, ih g 1 b X cmb (bodyO C.D.toEnv fn K') (St.init fn.ntmps args G) = some x → ACalls C.D.toEnv g args G (fun r G' => K' r G' = some x) := by
        intro K' h
        refine ACalls.intro hfn hb (by simpa using hn) ((hs g 1 b X cmb hm _ _ x (C.D.draws g fn b hok hfn hb) h).mono fun e s' hq => ?_)
        have hq := hq.1
        unfold bodyO at hq
        unfold bodyQ
        cases e <;> first | (cases hq; done) | skip
        all_goals (simp only at hq ⊢)
        all_goals (split at hq <;> first | (cases hq; done) | skip)
        all_goals (rename_i hl; rw [hl]; simp only)
        all_goals (split at hq <;> first | (cases hq; done) | skip)
        all_goals (rename_i hl2; rw [hl2]; exact hq)
      cases hfz : C.D.glb g 131072 with
      | true => rw [hfz] at h; exact ACalls.frz (fin h)
      | false => rw [hfz] at h; exact fin h
    · cases h
  · cases h

theorem callO_sound (htab : ∀ g e, C.tab g = some e → EntryOk C.D.toEnv g e) (hs : SoundE C ih) {X : Type} {cmb : Option X → Option X → Option X} (hm : CmbOk cmb) : CallOk C.D.toEnv (callO C ih cmb) := fun g args G K x h => by
  unfold callO at h
  split at h
  · rename_i e he
    obtain ⟨a, ha, h⟩ := bind_some h
    obtain ⟨y, hy, h⟩ := bind_some h
    refine ACalls.weak (e.ps.dec_ok ha).1 (((htab g e he a y hy) G).mono fun r G' hr => ?_)
    obtain ⟨rfl, rfl⟩ := hr
    exact h
  · exact callI_sound hs hm g args G K x h

theorem psOk_mem {n : Nat} : ∀ {l : List Tmp}, psOk n l = true → ∀ t ∈ l, t < n
  | [], _, t, ht => by simp at ht
  | a :: l, h, t, ht => by
    simp only [psOk, Bool.and_eq_true] at h
    rcases List.mem_cons.1 ht with rfl | ht
    · exact blt_lt h.1
    · exact psOk_mem h.2 t ht

theorem rndO_sound (hs : SoundE C ih) {X : Type} {cmb : Option X → Option X → Option X} (hm : CmbOk cmb) : RndOk C.D.toEnv (rndO C ih cmb) := fun id args G K x h => by
  unfold rndO at h
  split at h
  · rename_i p fp sl n ps as bd d hG
    obtain ⟨hc, h⟩ := cond_some h
    simp only [Bool.and_eq_true] at hc
    obtain ⟨⟨⟨h1, h2⟩, h3⟩, h4⟩ := hc
    refine ARound.intro hG (Nat.eq_of_beq_eq_true h1) (psOk_mem h2) ((hs _ _ as X cmb hm _ _ x h3 h).mono fun e s1 hq => ?_)
    have hq := hq.1
    unfold assignQ
    cases e with
    | normal =>
      simp only at hq ⊢
      split at hq
      · rename_i p' fn sl' n' ps' as' bd' d' hG1
        rw [hG1]
        simp only
        refine (hs _ _ bd X cmb hm _ _ x h4 hq).mono fun e2 s2 hq2 => ?_
        have hq2 : roundO id K e2 s2 = some x := hq2.1
        unfold roundO at hq2
        unfold roundQ
        split at hq2
        · rename_i hG2
          rw [hG2]
          cases e2 <;> first | (cases hq2; done) | exact hq2
        · cases hq2
      · cases hq
    | _ => cases hq
  · cases h

theorem AWpX.of {E : Env} {c : Code} {Q Q' : Exit → St → Prop} {s : St} (h : AWpX E c Q s) (hq : ∀ e s', Q e s' → Ext0 s s' → Q' e s') : AWp E c Q' s :=
  AWp.mono h fun e s' hh => hq e s' hh.1 hh.2

theorem decJ_go {s s' : St} {e : Exit} : ∀ {outs : List (XK × Tmpl)} {o : JT outs}, decJ s outs e s' = some o → ∃ (t : Tmpl) (v : t.ps.T), t.dec s s' = some v ∧ ∀ (α : Type) (K : Exit → St → α), goJ s outs o K = K e (t.st s v)
  | [], o, h => by cases h
  | [x], o, h => by
    obtain ⟨h1, h2⟩ := cond_some (show (bif x.1.is e then x.2.dec s s' else none) = some o from h)
    exact ⟨x.2, o, h2, fun _ K => by rw [XK.is_eq h1]; rfl⟩
  | x :: y :: l, o, h => by
    have h : (bif x.1.is e then (x.2.dec s s').bind fun v => some (.inl v) else (decJ s (y :: l) e s').bind fun o => some (.inr o)) = some o := h
    cases hx : x.1.is e with
    | true =>
      rw [hx] at h
      obtain ⟨v, h1, h2⟩ := bind_some h
      cases h2
      exact ⟨x.2, v, h1, fun _ K => by rw [XK.is_eq hx]; rfl⟩
    | false =>
      rw [hx] at h
      obtain ⟨v, h1, h2⟩ := bind_some h
      cases h2
      obtain ⟨t, u, k1, k2⟩ := decJ_go h1
      exact ⟨t, u, k1, fun α K => k2 α K⟩

theorem Tmpl.st_ext (t : Tmpl) (s : St) (v : t.ps.T) : Ext0 s (t.st s v) := by
  have h1 : ∀ (W : List Tmp) (b : Slots), ∃ pre, putW W b = pre ++ b := fun W b => by
    induction W with
    | nil => exact ⟨[], rfl⟩
    | cons t W ih => obtain ⟨p, hp⟩ := ih; exact ⟨.put t .none :: p, by simp [putW, hp]⟩
  have h2 : ∀ (ts : List Tmp) (l : List AV) (b : Slots), ∃ pre, putSl ts l b = pre ++ b := fun ts => by
    induction ts with
    | nil => intro l b; exact ⟨[], by cases l <;> rfl⟩
    | cons t ts ih =>
      intro l b
      cases l with
      | nil => exact ⟨[], rfl⟩
      | cons a l => obtain ⟨p, hp⟩ := ih l b; exact ⟨.put t (.v a) :: p, by simp [putSl, hp]⟩
  have h3 : ∀ (bx : List (Nat × Nat)) (l : List AV) (b : Boxes), ∃ pre, putBx bx l b = pre ++ b := fun bx => by
    induction bx with
    | nil => intro l b; exact ⟨[], rfl⟩
    | cons x bx ih =>
      obtain ⟨k, n⟩ := x
      intro l b
      obtain ⟨p, hp⟩ := ih (l.drop n) b
      exact ⟨(k, l.take n) :: p, by simp [putBx, hp]⟩
  have h4 : ∀ (l : List (Tmp × Nat × Nat)) (b : Slots), ∃ pre, putLps l b = pre ++ b := fun l b => by
    induction l with
    | nil => exact ⟨[], rfl⟩
    | cons x l ih => obtain ⟨t, k, o⟩ := x; obtain ⟨p, hp⟩ := ih; exact ⟨.put t (.lp k o) :: p, by simp [putLps, hp]⟩
  obtain ⟨p1, e1⟩ := h1 t.W s.slots
  obtain ⟨p2, e2⟩ := h2 t.sl (t.ps.enc v) (putW t.W s.slots)
  obtain ⟨p3, e3⟩ := h3 t.bx ((t.ps.enc v).drop t.sl.length) s.boxes
  obtain ⟨p4, e4⟩ := h4 t.lps (p2 ++ (p1 ++ s.slots))
  exact ⟨⟨p4 ++ (p2 ++ p1), by rw [show (t.st s v).slots = putLps t.lps (putSl t.sl (t.ps.enc v) (putW t.W s.slots)) from rfl, e2, e1, e4, List.append_assoc, List.append_assoc]⟩, ⟨p3, e3⟩, rfl⟩

/-- A loop whose rounds carry on what a form says. -/
theorem AWp.loopT {E : Env} {c : Code} {s s1 : St} {gh : List (Loc × Nat × TypeId)} {head : Tmpl} {outs : List (XK × Tmpl)} {rd : head.ps.T → Option (head.ps.T ⊕ JT outs)} {N : Nat} {v0 : head.ps.T} {o : JT outs} {Q : Exit → St → Prop}
    (hg : Am.ghosts gh s = some s1) (h0 : head.dec s1 s1 = some v0) (hr : ∀ v r, rd v = some r → AWpX E c (fun e s' => loopO s1 head outs e s' = some r) (head.st s1 v))
    (hl : loopR rd N v0 = some o) (hQ : ∀ (t : Tmpl) (v : t.ps.T) (e : Exit), (∀ (α : Type) (K : Exit → St → α), goJ s1 outs o K = K e (t.st s1 v)) → Q e (t.st s1 v) ∧ Ext0 s (t.st s1 v)) :
    AWpX E (.loop c) Q s := fun R0 w β a F hr0 hf0 => by
  obtain ⟨R, k1, k2, k3, _⟩ := ghosts_rep hr0 hg
  have hf : FenceOk R s1.ro F := by rw [k3]; exact hf0.mono k2.ext
  obtain ⟨i1, i2⟩ := Tmpl.rep (Ext0.refl s1) k1 k1 (Step.refl R w β s1.boxes) h0
  refine wpIn_loopN (fun m a' w' => ∃ v R' β', loopR rd m v = some o ∧ Rep E R' w' β' (head.st s1 v) a' ∧ Step R w β s1.boxes R' w' β' (head.st s1 v).boxes) ?_ ⟨v0, _, β, hl, i1, i2⟩
  rintro m a' w' ⟨v, R', β', hm, hr', hst⟩
  cases m with
  | zero => cases hm
  | succ m =>
    obtain ⟨r, h1, h2⟩ := bind_some (show ((rd v).bind fun o => Sum.elim (fun v' => loopR rd m v') (fun x => some x) o) = some o from hm)
    refine wpIn_mono (hr v r h1 R' w' β' a' F hr' (hf.mono hst.ext)) ?_
    rintro e a2 w2 ⟨s2, R2, β2, ⟨hK, hx⟩, hr2, hst2, hro2⟩
    have hx2 : Ext0 s1 s2 := (head.st_ext s1 v).trans hx
    have st2 := hst.trans hst2
    have out : ∀ {u : JT outs}, decJ s1 outs e s2 = some u → r = .inr u → Res E R0 w β s (fun e s' => Q e s' ∧ Ext0 s s') e a2 w2 := fun {u} hu hru => by
      subst hru
      cases h2
      obtain ⟨t, v', q1, q2⟩ := decJ_go hu
      obtain ⟨j1, j2⟩ := Tmpl.rep hx2 k1 hr2 st2 q1
      exact ⟨t.st s1 v', _, β2, hQ t v' e q2, j1, k2.trans j2, k3⟩
    cases e with
    | normal =>
      obtain ⟨v', q1, q2⟩ := bind_some (show ((head.dec s1 s2).bind fun v => some (.inl v)) = some r from hK)
      cases q2
      obtain ⟨j1, j2⟩ := Tmpl.rep hx2 k1 hr2 st2 q1
      exact ⟨m, Nat.lt_succ_self m, v', _, β2, h2, j1, j2⟩
    | exit i => obtain ⟨u, q1, q2⟩ := bind_some (show ((decJ s1 outs (.exit i) s2).bind fun o => some (.inr o)) = some r from hK); exact out q1 (Option.some.inj q2).symm
    | ret => obtain ⟨u, q1, q2⟩ := bind_some (show ((decJ s1 outs .ret s2).bind fun o => some (.inr o)) = some r from hK); exact out q1 (Option.some.inj q2).symm
    | goto i => obtain ⟨u, q1, q2⟩ := bind_some (show ((decJ s1 outs (.goto i) s2).bind fun o => some (.inr o)) = some r from hK); exact out q1 (Option.some.inj q2).symm
    | panic i => obtain ⟨u, q1, q2⟩ := bind_some (show ((decJ s1 outs (.panic i) s2).bind fun o => some (.inr o)) = some r from hK); exact out q1 (Option.some.inj q2).symm
    | outgrown => obtain ⟨u, q1, q2⟩ := bind_some (show ((decJ s1 outs .outgrown s2).bind fun o => some (.inr o)) = some r from hK); exact out q1 (Option.some.inj q2).symm

theorem ghosts_ext {gh : List (Loc × Nat × TypeId)} : ∀ {s s1 : St}, Am.ghosts gh s = some s1 → Ext0 s s1 := by
  induction gh with
  | nil => intro s s1 h; simp only [Am.ghosts] at h; cases h; exact Ext0.refl s
  | cons x gh ihg =>
    obtain ⟨l, sz, e⟩ := x
    intro s s1 h
    unfold Am.ghosts at h
    split at h
    · rename_i s2 h2
      refine Ext0.trans ?_ (ihg h)
      unfold ghostA at h2
      cases l with
      | slot t =>
        simp only at h2
        split at h2
        · cases h2; exact ⟨⟨[_], rfl⟩, ⟨[], rfl⟩, rfl⟩
        · cases h2
      | box k i =>
        simp only at h2
        split at h2
        · split at h2
          · cases h2; exact ⟨⟨[], rfl⟩, ⟨[_], rfl⟩, rfl⟩
          · cases h2
        · cases h2
      | row id i =>
        simp only at h2
        split at h2
        · split at h2
          · cases h2; exact ⟨⟨[], rfl⟩, ⟨[], rfl⟩, rfl⟩
          · cases h2
        · cases h2
    · cases h

end

/-- What the evaluator finds of code is so. -/
theorem ev_sound {C : Ctx} (htab : ∀ g e, C.tab g = some e → EntryOk C.D.toEnv g e) (n : Nat) : SoundE C (ev C n) := by
  induction n using Nat.strongRecOn with
  | _ n ihn =>
  cases n with
  | zero => intro f p c X cmb _ K s x _ h; cases h
  | succ n =>
    have hs := ihn n (Nat.lt_succ_self n)
    have plain : ∀ (f : FuncId) (p : Nat) (c : Code) (X : Type) (cmb : Option X → Option X → Option X), CmbOk cmb → ∀ (K : Exit → St → Option X) (s : St) (x : X), ((∃ b, c = .loop b) → C.cert f p = none) →
        codeDraws (C.D.dt f) c = true → plainO C (ev C n) f p c X cmb K s = some x → AWpX C.D.toEnv c (fun e s' => K e s' = some x) s := by
      intro f p c X cmb hm K s x hcl hd h
      have hcall := callO_sound htab hs hm
      have hrnd := rndO_sound hs hm
      unfold plainO at h
      cases c with
      | skip => exact AWp.skip ⟨h, Ext0.refl s⟩
      | label l => exact AWp.label ⟨h, Ext0.refl s⟩
      | exit id => exact AWp.exit ⟨h, Ext0.refl s⟩
      | ret => exact AWp.ret ⟨h, Ext0.refl s⟩
      | seq a b =>
        rw [codeDraws, Bool.and_eq_true] at hd
        refine AWp.seq ((hs f _ a X cmb hm _ s x hd.1 h).of fun e s' hq hx => ?_)
        cases e with
        | normal => exact (hs f _ b X cmb hm _ s' x hd.2 hq).of fun e s2 hq2 hx2 => ⟨hq2, hx.trans hx2⟩
        | _ => exact ⟨hq, hx⟩
      | cond co a b =>
        rw [codeDraws, Bool.and_eq_true] at hd
        simp only at h
        split at h
        · rename_i t hb
          refine AWp.cond hb (fun e => ?_) (fun e => ?_)
          · subst e; exact hs f _ a X cmb hm _ s x hd.1 h
          · subst e; exact hs f _ b X cmb hm _ s x hd.2 h
        · cases h
      | block id c =>
        refine AWp.block ((hs f _ c X cmb hm _ s x hd h).of fun e s' hq hx => ?_)
        cases e with
        | exit id' =>
          simp only [blockO] at hq
          refine ⟨fun e => ?_, fun e => ?_⟩
          · subst e; rw [beq_self] at hq; exact ⟨hq, hx⟩
          · rw [beq_ne e] at hq; exact ⟨hq, hx⟩
        | _ => exact ⟨hq, hx⟩
      | scope c =>
        refine AWp.scope ((hs f _ c X cmb hm _ s x hd h).of fun e s' hq hx => ?_)
        cases e with
        | goto l => cases hq
        | _ => exact ⟨hq, hx⟩
      | region id ops dr =>
        cases dr with
        | false => exact AWp.region (f := f) (awOps_ext (oOps_sound hcall hrnd h))
        | true =>
          simp only at h
          rw [codeDraws] at hd
          split at h
          · rename_i pl hT
            rw [hT] at hd
            exact AWp.draw (f := f) hd (awT_ext (oT_sound hcall hrnd hm h))
          · cases h
      | loop b =>
        have hcert := hcl ⟨b, rfl⟩
        refine AWp.loop (fun m s' => m ≤ n + 1 ∧ ev C m f p (.loop b) X cmb K s' = some x ∧ Ext0 s s') ?_ (m := n + 1) ⟨Nat.le_refl _, ?_, Ext0.refl s⟩
        · rintro m s' ⟨hm', hr, hx⟩
          cases m with
          | zero => cases hr
          | succ m =>
            have hr' : stepE C (ev C m) f p (.loop b) X cmb K s' = some x := hr
            unfold stepE at hr'
            rw [hcert] at hr'
            refine (ihn m (by omega) f _ b X cmb hm _ s' x hd hr').of fun e s2 hq hx2 => ?_
            cases e with
            | normal => exact ⟨m, Nat.lt_succ_self m, by omega, hq, hx.trans hx2⟩
            | _ => exact ⟨hq, hx.trans hx2⟩
        · show stepE C (ev C n) f p (.loop b) X cmb K s = some x
          unfold stepE
          rw [hcert]
          exact h
      | rangeFunc g ps as bd =>
        simp only at h
        split at h
        · rename_i hro
          split at h
          · rename_i hf first cap hg
            refine AWp.rangeFunc (4096 * p + f) hro hg ((hcall _ _ _ _ _ h).mono fun r G' hq => ?_)
            unfold rfQ
            split at hq
            · rename_i busy pending fn sl nn pp aa bb dd done hnth
              rw [hnth]
              simp only
              obtain ⟨h1, h2⟩ := cond_some hq
              refine ⟨by cases busy <;> cases done <;> simp_all, ?_⟩
              have hxx : ∀ (G : List GO) (m : List Nat), Ext0 s ⟨s.slots, s.boxes, G, m, s.ro, s.n⟩ := fun _ _ => ⟨⟨[], rfl⟩, ⟨[], rfl⟩, rfl⟩
              split at h2
              · rw [frc_eq] at h2; exact ⟨h2, hxx _ _⟩
              · rw [frc_eq] at h2; exact AWp.ret ⟨h2, hxx _ _⟩
              · rw [frc_eq] at h2; exact AWp.exit ⟨h2, hxx _ _⟩
              · cases h2
            · cases hq
          · cases h
        · cases h
      | _ => cases h
    intro f p c X cmb hm K s x hd h
    change stepE C (ev C n) f p c X cmb K s = some x at h
    unfold stepE at h
    split at h
    · rename_i hc
      exact plain f p c X cmb hm K s x (fun _ => hc) hd h
    · rename_i outs0 hc
      generalize fillW (asgC c []) outs0 = outs at h
      cases hil : isLoop c with
      | true => rw [hil] at h; cases h
      | false =>
      rw [hil] at h
      obtain ⟨o, h1, h2⟩ := bind_some (show (plainO C (ev C n) f p c (JT outs) eqC (decJ s outs) s).bind (fun o => goJ s outs o K) = some x from h)
      have hp := plain f p c (JT outs) eqC eqC_ok (decJ s outs) s o (fun ⟨b, hb⟩ => by subst hb; cases hil) hd h1
      refine AWp.tmpl (s := s) (Q' := fun e s' => decJ s outs e s' = some o) (AWp.mono hp fun e s' hh => ⟨hh.2, hh.1⟩) fun e s' hq => ?_
      obtain ⟨t, v, q1, q2⟩ := decJ_go hq
      exact ⟨t, v, q1, (q2 _ K).symm.trans h2, t.st_ext s v⟩
    · rename_i gh head0 outs0 hc
      split at h
      · rename_i b
        split at h
        · rename_i s1 hg
          generalize fillW (asgC b []) outs0 = outs at h
          generalize fillT (asgC b []) head0 = head at h
          unfold loopE at h
          obtain ⟨v0, h0, h⟩ := bind_some h
          obtain ⟨o, hl, h⟩ := bind_some h
          refine AWp.loopT hg h0 (fun v r hr => hs f _ b _ eqC eqC_ok _ _ r hd hr) hl fun t v e hgo => ?_
          exact ⟨(hgo _ K).symm.trans h, (ghosts_ext hg).trans (t.st_ext s1 v)⟩
        · cases h
      · cases h

end Go.Am
