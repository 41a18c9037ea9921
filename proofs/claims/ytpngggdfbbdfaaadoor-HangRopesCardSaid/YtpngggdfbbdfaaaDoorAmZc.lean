/- The abstract machine: functions by what they compute. -/
import Derived.Test.YtpngggdfbbdfaaaDoorAmZb
set_option linter.all false
namespace Go.Am
open Go

/-- What a function computes of its arguments' leaves: its result's leaves. -/
noncomputable def Ctx.fn (C : Ctx) (n : Nat) (g : FuncId) (ps : Pats) (p : Pat) (x : ps.T) : Option p.T :=
  callI C (ev C n) eqC g (ps.enc x) [] (fun r _ => p.dec r)

theorem Ctx.fn_ok {C : Ctx} (htab : ∀ g e, C.tab g = some e → EntryOk C.D.toEnv g e) {n : Nat} {g : FuncId} {ps : Pats} {p : Pat} (h1 : ps.under 0 = true) (h2 : p.under 0 = true) :
    EntryOk C.D.toEnv g ⟨ps, p, C.fn n g ps p⟩ := fun x y h => by
  refine PCalls.mono (PCalls.of (p := p) (Q := fun z => z = y) (ps.enc_under x h1) h2 ((callI_sound (ev_sound htab n) eqC_ok g _ [] _ y h).mono fun r _ hr => ⟨y, hr, rfl⟩)) ?_
  rintro r ⟨z, rfl, rfl⟩
  rfl

/-- A contract speaks of the program and of its variables alone. -/
theorem PCalls.env {E E' : Env} {g : FuncId} {args : List AV} {Q : AV → Prop} (hP : E.P = E'.P) (hg : E.glob = E'.glob) (h : PCalls E g args Q) : PCalls E' g args Q := by
  have rep : ∀ {R : Realm} {w : World} {G : List GO}, RepG E R w G ↔ RepG E' R w G := fun {R w G} =>
    ⟨fun h => ⟨h.len, h.obj, h.inj, h.wf, fun g cs hh => h.glob g cs (by rw [hg]; exact hh)⟩, fun h => ⟨h.len, h.obj, h.inj, h.wf, fun g cs hh => h.glob g cs (by rw [← hg]; exact hh)⟩⟩
  intro G
  obtain ⟨h1, h2⟩ := h G
  rw [hP] at h1 h2
  refine ⟨h1, fun R w cs hr hl => (h2 R w cs (rep.2 hr) hl).mono fun e w' he => ?_⟩
  cases e with
  | returned c => obtain ⟨r, G', R', k1, k2, k3, k4⟩ := he; exact ⟨r, G', R', k1, k2, rep.1 k3, k4⟩
  | panicked c => exact he
  | outgrown => exact he

/-- A table of functions. -/
def tabF : List (Nat × Entry) → FuncId → Option Entry
  | [], _ => none
  | (a, e) :: l, g => bif Nat.beq a g then some e else tabF l g

theorem tabF_ok {E : Env} : ∀ {l : List (Nat × Entry)}, (∀ a e, (a, e) ∈ l → EntryOk E a e) → ∀ g e, tabF l g = some e → EntryOk E g e
  | [], _, g, e, h => by cases h
  | (a, x) :: l, hl, g, e, h => by
    unfold tabF at h
    cases hb : Nat.beq a g with
    | true =>
      rw [hb] at h
      cases h
      rw [← Nat.eq_of_beq_eq_true hb]
      exact hl a _ (by simp)
    | false =>
      rw [hb] at h
      exact tabF_ok (fun a e hm => hl a e (by simp [hm])) g e h

/-- The marks of loops and joins of functions: a tree by places would be quicker, but there are few. -/
def certL : List (Nat × Cert) → Nat → Option Cert
  | [], _ => none
  | (a, c) :: l, p => bif Nat.beq a p then some c else certL l p
def certF : List (Nat × List (Nat × Cert)) → FuncId → Nat → Option Cert
  | [], _, _ => none
  | (a, c) :: l, g, p => bif Nat.beq a g then certL c p else certF l g p

def unitCmb : Option Unit → Option Unit → Option Unit
  | some _, some _ => some ()
  | _, _ => none
theorem unitCmb_ok : CmbOk unitCmb := fun a b x h => by
  cases a <;> cases b <;> first | (cases h; done) | exact ⟨rfl, rfl⟩

/-- A closed call. -/
theorem closed_call {C : Ctx} (htab : ∀ g e, C.tab g = some e → EntryOk C.D.toEnv g e) {n : Nat} {g : FuncId} {args : List AV} {p : Pat} {ok : p.T → Bool} (h1 : underL 0 args = true) (h2 : p.under 0 = true)
    (h : callI C (ev C n) unitCmb g args [] (fun r _ => bif p.fits r && ok (p.decD r) then some () else none) = some ()) : PCalls C.D.toEnv g args (fun r => ∃ y, r = p.enc y ∧ ok y = true) :=
  PCalls.of (p := p) (Q := fun y => ok y = true) h1 h2 ((callI_sound (ev_sound htab n) unitCmb_ok g args [] _ () h).mono fun r _ hr => by
    obtain ⟨k, _⟩ := cond_some hr
    rw [Bool.and_eq_true] at k
    exact ⟨p.decD r, by simp [Pat.dec, k.1], k.2⟩)

end Go.Am
