/- The abstract machine: a function's contract out of its body. -/
import Derived.Test.YtpngggdfbbdfaaaDoorAmQ
set_option linter.all false
namespace Go.Am
open Go

section intro
variable {E : Env} {R R' : Realm} {w w' : World} {β β' : Nat → Nat}

theorem step_noBox {bx bx' : Boxes} (h : Step R w β bx R' w' β' bx') (hn : ∀ k cs, lkB bx k ≠ some cs) : Step R w (fun _ => 0) noBox R' w' (fun _ => 0) noBox := by
  have own : ∀ b, Own R β bx b → Live R b := fun b ho => by
    rcases ho with ho | ⟨k, cs, hk, _⟩
    · exact ho
    · exact absurd hk (hn k cs)
  exact ⟨h.ext, h.os, h.tape, h.output, h.size, fun b hb hno => h.keep b hb (fun ho => hno (.inl (own b ho))), fun b hb ho => .inl (own b (h.own b hb (.inl (own_noBox ho)))), fun b o hi hb hno => h.im b o hi hb (fun ho => hno (.inl (own b ho)))⟩

theorem vsl_lk : ∀ {l : List AV} {n i : Nat}, (i < n ∨ n + l.length ≤ i → lk (vsl n l) i = .none) ∧ (∀ a, l[i - n]? = some a → n ≤ i → lk (vsl n l) i = .v a)
  | [], n, i => ⟨fun _ => rfl, fun a h => by simp at h⟩
  | b :: l, n, i => by
    obtain ⟨h1, h2⟩ := vsl_lk (l := l) (n := n + 1) (i := i)
    refine ⟨fun h => ?_, fun a h hn => ?_⟩
    · simp only [List.length_cons] at h
      simp only [vsl]
      rw [lk_put_ne (by omega)]
      exact h1 (by omega)
    · simp only [vsl]
      by_cases e : n = i
      · subst e
        rw [lk_put_self]
        simp at h
        rw [h]
      · rw [lk_put_ne e]
        refine h2 a ?_ (by omega)
        have : i - n = (i - (n + 1)) + 1 := by omega
        rw [this] at h
        simpa using h

theorem init_rep {ntmps : Nat} {args : List AV} {cs : List Value} {G : List GO} (hg : RepG E R w G) (hl : RelL R w args cs) :
    Rep E R w (fun _ => 0) (St.init ntmps args G) { tmps := ⟨cs⟩ ++ Array.replicate (ntmps - (⟨cs⟩ : Array Value).size) undef, defers := [] } := by
  have hlen := hl.length
  refine ⟨hg, ⟨fun k c hk => ?_, fun k k' c c' hk _ _ => ?_⟩, fun i hi => ?_, ?_, trivial⟩
  · simp [St.init, lkB] at hk
  · simp [St.init, lkB] at hk
  · simp only [St.init] at hi ⊢
    obtain ⟨h1, h2⟩ := vsl_lk (l := args) (n := 0) (i := i)
    by_cases hlt : i < args.length
    · have hy : args[i]? = some args[i] := List.getElem?_eq_getElem hlt
      obtain ⟨c, k1, k2⟩ := hl.get hy
      rw [h2 _ (by rw [Nat.sub_zero]; exact hy) (Nat.zero_le _)]
      refine ⟨c, ?_, k2⟩
      rw [Array.getElem?_append_left (by simp; omega)]
      simpa using k1
    · exact absurd (h1 (by omega)) hi
  · simp [St.init]
    omega

theorem init_noBox {ntmps : Nat} {args : List AV} {G : List GO} (k : Nat) (cs : List AV) : lkB (St.init ntmps args G).boxes k ≠ some cs := by
  simp [St.init, lkB]

/-- A contract out of the body. -/
theorem ACalls.intro {g : FuncId} {fn : Func} {c : Code} {args : List AV} {G : List GO} {Q : AV → List GO → Prop} (hf : E.P.funcs[g]? = some fn) (hb : fn.body = some c) (hn : (fn.name == "runtime.NumGoroutine") = false)
    (h : AWp E c (bodyQ E fn Q) (St.init fn.ntmps args G)) : ACalls E g args G Q := by
  refine ⟨⟨fn, hf, by simp [hb], hn⟩, fun R w cs hg hl => ?_⟩
  refine callsIn_of_wp_marks hf hb trivial (wpIn_mono (h R w (fun _ => 0) _ Fence.wide (init_rep hg hl) rfl) ?_)
  rintro e a' w' ⟨s', R', β', hq, hr, hst, hro⟩
  have fin : (match leaveA s'.marks s'.G with
    | some G => match resA E (s'.inG G) fn with
      | some r => Q r G
      | none => False
    | none => False) → LeavesInM Fence.wide 0 E.P fn a'.tmps (RetOk E R w Q) a'.defers .returning w' := by
    intro hq
    split at hq
    · rename_i G2 hG2
      split at hq
      · rename_i r hres
        refine leave_run fn (RetOk E R w Q) (s := s') (G := s'.G) hr hr.d hG2 (fun w'' hr'' hst'' => ?_)
        obtain ⟨v, h1, h2⟩ := resA_run hr'' hres
        exact ⟨v, h1, r, G2, R', hq, h2, hr''.g, step_noBox (hst.trans hst'') init_noBox⟩
      · exact hq.elim
    · exact hq.elim
  cases e with
  | normal => exact fin hq
  | ret => exact fin hq
  | exit _ => exact hq.elim
  | goto _ => exact hq.elim
  | panic _ => exact hq.elim
  | outgrown => exact hq.elim

end intro

/-- Code as a proposition that computes; loops and what is not treated stay. -/
def awp (E : Env) (f : FuncId) : Code → (Exit → St → Prop) → St → Prop
  | .skip, Q, s => Q .normal s
  | .label _, Q, s => Q .normal s
  | .seq x y, Q, s => awp E f x (thenQ (awp E f y Q) Q) s
  | .cond c x y, Q, s => match evO E s.slots c with
    | .v (.bool b) => (b = true → awp E f x Q s) ∧ (b = false → awp E f y Q s)
    | _ => False
  | .block id c, Q, s => awp E f c (blockQ id Q) s
  | .scope c, Q, s => awp E f c (scopeQ Q) s
  | .exit id, Q, s => Q (.exit id) s
  | .ret, Q, s => Q .ret s
  | .region _ ops false, Q, s => awOps E f ops.toList ops.toList (Q .normal) s
  | c, Q, s => AWp E c Q s

theorem awp_sound {E : Env} {f : FuncId} : ∀ {c : Code} {Q : Exit → St → Prop} {s : St}, awp E f c Q s → AWp E c Q s
  | .skip, _, _, h => AWp.skip h
  | .label _, _, _, h => AWp.label h
  | .seq x y, Q, s, h => AWp.seq ((awp_sound (c := x) h).mono fun e s' hq => by
    cases e with
    | normal => exact awp_sound (c := y) hq
    | _ => exact hq)
  | .cond c x y, Q, s, h => by
    unfold awp at h
    split at h
    · rename_i b hb
      exact AWp.cond hb (fun e => awp_sound (c := x) (h.1 e)) (fun e => awp_sound (c := y) (h.2 e))
    · exact h.elim
  | .block id c, _, _, h => AWp.block (awp_sound (c := c) h)
  | .exit _, _, _, h => AWp.exit h
  | .ret, _, _, h => AWp.ret h
  | .region _ ops false, _, _, h => AWp.region (f := f) h
  | .region _ ops true, _, _, h => h
  | .loop _, _, _, h => h
  | .rangeFunc .., _, _, h => h
  | .scope c, _, _, h => AWp.scope (awp_sound (c := c) h)
  | .goto _, _, _, h => h
  | .refuse _, _, _, h => h

theorem ACalls.intro' {E : Env} {g : FuncId} {fn : Func} {c : Code} {args : List AV} {G : List GO} {Q : AV → List GO → Prop} (hf : E.P.funcs[g]? = some fn) (hb : fn.body = some c) (hn : (fn.name == "runtime.NumGoroutine") = false)
    (h : awp E g c (bodyQ E fn Q) (St.init fn.ntmps args G)) : ACalls E g args G Q := ACalls.intro hf hb hn (awp_sound h)

end Go.Am
