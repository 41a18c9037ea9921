/- The abstract machine: an evaluator of code on states with leaves. -/
import Derived.Test.YtpngggdfbbdfaaaDoorAmYg
set_option linter.all false
namespace Go.Am
open Go

/-- A function that is taken by its contract: the forms of its arguments and of its result, and what it computes. -/
structure Entry where
  ps : Pats
  p : Pat
  T : ps.T → Option p.T

def EntryOk (E : Env) (g : FuncId) (e : Entry) : Prop := ∀ x y, e.T x = some y → PCalls E g (e.ps.enc x) (fun r => r = e.p.enc y)

/-- How a piece of code is left. -/
inductive XK
  | norm
  | ret
  | ex (id : Nat)

def XK.is : XK → Exit → Bool
  | .norm, .normal => true
  | .ret, .ret => true
  | .ex i, .exit j => Nat.beq i j
  | _, _ => false
def XK.exit : XK → Exit
  | .norm => .normal
  | .ret => .ret
  | .ex i => .exit i

theorem XK.is_eq {k : XK} {e : Exit} (h : k.is e = true) : e = k.exit := by
  cases k <;> cases e <;> simp_all [XK.is, XK.exit]

def JT : List (XK × Tmpl) → Type
  | [] => Empty
  | [x] => x.2.ps.T
  | x :: y :: l => x.2.ps.T ⊕ JT (y :: l)

def decJ (s : St) : (outs : List (XK × Tmpl)) → Exit → St → Option (JT outs)
  | [], _, _ => none
  | [x], e, s' => bif x.1.is e then x.2.dec s s' else none
  | x :: y :: l, e, s' => bif x.1.is e then (x.2.dec s s').bind fun v => some (.inl v) else (decJ s (y :: l) e s').bind fun o => some (.inr o)

def goJ {α : Type} (s : St) : (outs : List (XK × Tmpl)) → JT outs → (Exit → St → α) → α
  | [], o, _ => Empty.rec (fun _ => α) o
  | [x], o, K => K x.1.exit (x.2.st s o)
  | x :: y :: l, o, K => Sum.elim (fun v => K x.1.exit (x.2.st s v)) (fun o => goJ s (y :: l) o K) o

/-- At the nodes of a body: a loop with what its rounds carry on, or code whose ways out are brought together. -/
inductive Cert
  | loop (gh : List (Loc × Nat × TypeId)) (head : Tmpl) (outs : List (XK × Tmpl))
  | join (outs : List (XK × Tmpl))

/-- Rounds, at most so many. -/
def loopR {V X : Type} (rd : V → Option (V ⊕ X)) : Nat → V → Option X
  | 0, _ => none
  | n + 1, v => (rd v).bind fun o => Sum.elim (fun v' => loopR rd n v') (fun x => some x) o

structure Ctx where
  D : EnvD
  tab : FuncId → Option Entry
  cert : FuncId → Nat → Option Cert
  fz : Bool
  N : Nat

def frc {α : Type} (fz : Bool) (s : St) (K : St → α) : α := match fz with
  | true => forceS s K
  | false => match s with
    | ⟨sl, bx, G, m, ro, n⟩ => K ⟨sl, bx, G, m, ro, n⟩

theorem frc_eq {α : Type} (fz : Bool) (s : St) (K : St → α) : frc fz s K = K s := by
  cases fz
  · rfl
  · exact forceS_eq s K

abbrev CallO (X : Type) := FuncId → List AV → List GO → (AV → List GO → Option X) → Option X
abbrev RoundO (X : Type) := Nat → List AV → List GO → (Bool → List GO → Option X) → Option X

section ev
variable {X : Type}

def oOp (E : Env) (fz : Bool) (call : CallO X) (rnd : RoundO X) (f : FuncId) (o : Oper) (K : St → Option X) (s : St) : Option X :=
  match o.op with
  | .call { callee := .value x, args, .. } => match evO E s.slots x, evL E s.slots args.toList with
    | .v (.fn g first cap), some l => call g (first ++ l ++ cap) s.G (fun r G' => frc fz ((s.inG G').put o.dst (.v r)) K)
    | .v (.yield id), some l => rnd id l s.G (fun b G' => frc fz ((s.inG G').put o.dst (.v (.bool b))) K)
    | _, _ => none
  | .defer _ => none
  | .next x true => match nextB s o.dst (evO E s.slots x) with
    | some (b, s1, s2) => bif b then frc fz s1 K else frc fz s2 K
    | none => none
  | .lookup t m k ok => match lookupB E s t (evO E s.slots m) (evO E s.slots k) with
    | some (c, v, b) => bif c then frc fz (s.put o.dst (.v (if ok then .tup [v, .bool b] else v))) K else none
    | none => match stepOp E f s o with
      | some (c, s') => bif c then frc fz s' K else none
      | _ => none
  | .mapUpdate t m k x => match o.dst, updateB E s t (evO E s.slots m) (evO E s.slots k) (evO E s.slots x) with
    | none, some (c, s') => bif c then frc fz s' K else none
    | _, _ => none
  | .call { callee := .builtin .append, args, argTypes } => match evL E s.slots args.toList with
    | some l => match appendB E s o.dst l argTypes.toList with
      | some (b, s1, c, s2) => bif b then frc fz s1 K else bif c then frc fz s2 K else none
      | none => match stepOp E f s o with
        | some (c, s') => bif c then frc fz s' K else none
        | _ => none
    | none => none
  | .call { callee := .builtin .copy, args, argTypes } => match evL E s.slots args.toList with
    | some l => match copyB E s o.dst l argTypes.toList with
      | some (c, s') => bif c then frc fz s' K else none
      | none => match stepOp E f s o with
        | some (c, s') => bif c then frc fz s' K else none
        | _ => none
    | none => none
  | _ => match stepOp E f s o with
    | some (c, s') => bif c then frc fz s' K else none
    | _ => none

def oGuard (E : Env) (fz : Bool) (call : CallO X) (rnd : RoundO X) (f : FuncId) (ops : List Oper) (o : Oper) (K : St → Option X) (s : St) : Option X :=
  match o.guard with
  | none => oOp E fz call rnd f o K s
  | some (j, want) => match dstOf ops j with
    | none => none
    | some d => match lk s.slots d with
      | .v (.bool b) => match want with
        | true => bif b then frc fz (s.put (some d) (.v (.bool true))) (oOp E fz call rnd f o K) else frc fz ((s.put (some d) (.v (.bool false))).put o.dst (.v undefA)) K
        | false => bif b then frc fz ((s.put (some d) (.v (.bool true))).put o.dst (.v undefA)) K else frc fz (s.put (some d) (.v (.bool false))) (oOp E fz call rnd f o K)
      | .v (.tup []) => frc fz (s.put o.dst (.v undefA)) K
      | _ => none

def oOps (E : Env) (fz : Bool) (call : CallO X) (rnd : RoundO X) (f : FuncId) (ops : List Oper) : List Oper → (St → Option X) → St → Option X
  | [], K, s => K s
  | o :: rest, K, s => match o.guard, buildSliceM E f s o with
    | none, some s' => frc fz s' (oOps E fz call rnd f ops rest K)
    | _, _ => oGuard E fz call rnd f ops o (oOps E fz call rnd f ops rest K) s

def oT (E : Env) (fz : Bool) (call : CallO X) (rnd : RoundO X) (cmb : Option X → Option X → Option X) (f : FuncId) (ops : List Oper) : DT → (St → Option X) → St → Option X
  | .done, K, s => K s
  | .take j _ t, K, s => match nth ops j with
    | some oj => oGuard E fz call rnd f ops oj (oT E fz call rnd cmb f ops t K) s
    | none => none
  | .br i re _ t .stop, K, s => match nth ops i with
    | some oi => oGuard E fz call rnd f ops oi (fun s' => bif bReAll E f ops re s' then oT E fz call rnd cmb f ops t K s' else none) s
    | none => none
  | .br i re _ t more, K, s => cmb (match nth ops i with
    | some oi => oGuard E fz call rnd f ops oi (fun s' => bif bReAll E f ops re s' then oT E fz call rnd cmb f ops t K s' else none) s
    | none => none) (oT E fz call rnd cmb f ops more K s)
  | .stop, _, _ => none

end ev

def thenO {X : Type} (N : St → Option X) (Q : Exit → St → Option X) : Exit → St → Option X
  | .normal, s => N s
  | e, s => Q e s
def blockO {X : Type} (id : Nat) (Q : Exit → St → Option X) : Exit → St → Option X
  | .exit id', s => bif Nat.beq id' id then Q .normal s else Q (.exit id') s
  | e, s => Q e s
def scopeO {X : Type} (Q : Exit → St → Option X) : Exit → St → Option X
  | .goto _, _ => none
  | e, s => Q e s
def bodyO {X : Type} (E : Env) (fn : Func) (K : AV → List GO → Option X) : Exit → St → Option X
  | .normal, s | .ret, s => match leaveA s.marks s.G with
    | some G => match resA E (s.inG G) fn with
      | some r => K r G
      | none => none
    | none => none
  | _, _ => none
def loopO (s : St) (head : Tmpl) (outs : List (XK × Tmpl)) : Exit → St → Option (head.ps.T ⊕ JT outs)
  | .normal, s' => (head.dec s s').bind fun v => some (.inl v)
  | e, s' => (decJ s outs e s').bind fun o => some (.inr o)
/-- Two ways that come to the same. -/
noncomputable def eqC {X : Type} (a b : Option X) : Option X := @ite _ (a = b) (Classical.propDecidable _) a none
theorem eqC_self {X : Type} (a : Option X) : eqC a a = a := by unfold eqC; rw [if_pos rfl]
def CmbOk {X : Type} (cmb : Option X → Option X → Option X) : Prop := ∀ a b x, cmb a b = some x → a = some x ∧ b = some x

def roundO {X : Type} (id : Nat) (K : Bool → List GO → Option X) : Exit → St → Option X := fun e s => match nth s.G id with
  | some (.loop _ _ fn sl n ps as bd d _) => match e with
    | .normal => K true (setN s.G id (.loop false none fn sl n ps as bd d false))
    | .ret => K false (setN s.G id (.loop false (some .ret) fn sl n ps as bd d true))
    | .exit i => K false (setN s.G id (.loop false (some (.exit i)) fn sl n ps as bd d true))
    | _ => none
  | _ => none

/-- A loop's number: its function and its place. -/
def fpF (fp : Nat) : Nat := fp % 4096
def fpP (fp : Nat) : Nat := fp / 4096

abbrev EvT := FuncId → Nat → Code → (X : Type) → (Option X → Option X → Option X) → (Exit → St → Option X) → St → Option X

section
variable (C : Ctx) (ih : EvT)

def callI {X : Type} (cmb : Option X → Option X → Option X) : CallO X := fun g args G K =>
  bif C.D.okF g then match C.D.P.funcs[g]? with
      | some fn => match fn.body with
        | some b => bif !(fn.name == "runtime.NumGoroutine") then ih g 1 b X cmb (bodyO C.D.toEnv fn (bif C.D.glb g 131072 then frzK C.D.toEnv fn.resultTypes.toList K else K)) (St.init fn.ntmps args G) else none
        | none => none
      | none => none
    else none

def callO {X : Type} (cmb : Option X → Option X → Option X) : CallO X := fun g args G K =>
  match C.tab g with
  | some e => (e.ps.dec args).bind fun x => (e.T x).bind fun y => K (e.p.enc y) G
  | none => callI C ih cmb g args G K

def psOk (n : Nat) : List Tmp → Bool
  | [] => true
  | t :: l => Nat.blt t n && psOk n l

def rndO {X : Type} (cmb : Option X → Option X → Option X) : RoundO X := fun id args G K => match nth G id with
  | some (.loop false _ fp sl n ps as bd _ false) =>
    bif Nat.beq args.length ps.length && psOk n ps && codeDraws (C.D.dt (fpF fp)) as && codeDraws (C.D.dt (fpF fp)) bd then
      ih (fpF fp) (2 * fpP fp) as X cmb (fun e s1 => match e with
        | .normal => match nth s1.G id with
          | some (.loop false p fn sl n ps as bd' d false) => ih (fpF fp) (2 * fpP fp + 1) bd X cmb (roundO id K) (s1.inG (setN s1.G id (.loop true p fn sl n ps as bd' d false)))
          | _ => none
        | _ => none) (St.round id (putPs ps args sl) n G)
    else none
  | _ => none

def plainO (f : FuncId) (p : Nat) (c : Code) (X : Type) (cmb : Option X → Option X → Option X) (K : Exit → St → Option X) (s : St) : Option X :=
  match c with
  | .skip => K .normal s
  | .label _ => K .normal s
  | .seq x y => ih f (2 * p) x X cmb (thenO (ih f (2 * p + 1) y X cmb K) K) s
  | .cond c x y => match evO C.D.toEnv s.slots c with
    | .v (.bool b) => bif b then ih f (2 * p) x X cmb K s else ih f (2 * p + 1) y X cmb K s
    | _ => none
  | .block id c => ih f (2 * p) c X cmb (blockO id K) s
  | .exit id => K (.exit id) s
  | .ret => K .ret s
  | .region _ ops false => oOps C.D.toEnv C.fz (callO C ih cmb) (rndO C ih cmb) f ops.toList ops.toList (K .normal) s
  | .region id ops true => match C.D.dt f id with
    | some pl => oT C.D.toEnv C.fz (callO C ih cmb) (rndO C ih cmb) cmb f ops.toList pl.T (K .normal) s
    | none => none
  | .scope c => ih f (2 * p) c X cmb (scopeO K) s
  | .loop c => ih f (2 * p) c X cmb (thenO (ih f p (.loop c) X cmb K) K) s
  | .rangeFunc g ps as bd => match s.ro with
    | none => match evO C.D.toEnv s.slots g with
      | .v (.fn h first cap) => callO C ih cmb h (first ++ [.yield (s.G.length + 1)] ++ cap) (s.G ++ [.defers true] ++ [.loop false none (4096 * p + f) (dropLp s.slots) s.n ps.toList as bd s.G.length false])
        (fun _ G' => match nth G' (s.G.length + 1) with
          | some (.loop busy pending _ _ _ _ _ _ _ done) => bif !busy || done then
              match pending with
              | none => frc C.fz ⟨s.slots, s.boxes, setN G' (s.G.length + 1) .dead, s.G.length :: s.marks, s.ro, s.n⟩ (K .normal)
              | some .ret => frc C.fz ⟨s.slots, s.boxes, setN G' (s.G.length + 1) .dead, s.G.length :: s.marks, s.ro, s.n⟩ (K .ret)
              | some (.exit i) => frc C.fz ⟨s.slots, s.boxes, setN G' (s.G.length + 1) .dead, s.G.length :: s.marks, s.ro, s.n⟩ (K (.exit i))
              | _ => none
            else none
          | _ => none)
      | _ => none
    | some _ => none
  | _ => none

/-- The slots that code writes. -/
def asgOps : List Oper → List Tmp
  | [] => []
  | o :: l => match o.dst with
    | some d => d :: asgOps l
    | none => asgOps l
def asgC : Code → List Tmp → List Tmp
  | .region _ ops _, r => asgOps ops.toList ++ r
  | .seq x y, r => asgC x (asgC y r)
  | .cond _ x y, r => asgC x (asgC y r)
  | .block _ c, r => asgC c r
  | .scope c, r => asgC c r
  | .loop c, r => asgC c r
  | .rangeFunc _ ps a b, r => ps.toList ++ asgC a (asgC b r)
  | _, r => r
def fillT (W : List Tmp) (t : Tmpl) : Tmpl := ⟨t.ps, t.sl, W, t.bx, t.g, t.lps⟩
def fillW (W : List Tmp) : List (XK × Tmpl) → List (XK × Tmpl)
  | [] => []
  | (k, t) :: l => (k, fillT W t) :: fillW W l

def isLoop : Code → Bool
  | .loop _ => true
  | _ => false

noncomputable def joinE {X : Type} (f : FuncId) (p : Nat) (c : Code) (outs : List (XK × Tmpl)) (K : Exit → St → Option X) (s : St) : Option X :=
  (plainO C ih f p c (JT outs) eqC (decJ s outs) s).bind fun o => goJ s outs o K
noncomputable def loopE {X : Type} (f : FuncId) (p : Nat) (b : Code) (s1 : St) (head : Tmpl) (outs : List (XK × Tmpl)) (K : Exit → St → Option X) : Option X :=
  (head.dec s1 s1).bind fun v0 => (loopR (fun v => ih f (2 * p) b (head.ps.T ⊕ JT outs) eqC (loopO s1 head outs) (head.st s1 v)) C.N v0).bind fun o => goJ s1 outs o K

noncomputable def stepE (f : FuncId) (p : Nat) (c : Code) (X : Type) (cmb : Option X → Option X → Option X) (K : Exit → St → Option X) (s : St) : Option X :=
  match C.cert f p with
  | none => plainO C ih f p c X cmb K s
  | some (.join outs) => bif isLoop c then none else joinE C ih f p c (fillW (asgC c []) outs) K s
  | some (.loop gh head outs) => match c with
    | .loop b => match ghosts gh s with
      | some s1 => loopE C ih f p b s1 (fillT (asgC b []) head) (fillW (asgC b []) outs) K
      | none => none
    | _ => none
end

noncomputable def ev (C : Ctx) : Nat → EvT := Nat.rec (fun _ _ _ _ _ _ _ => none) (fun _ ih => stepE C ih)

end Go.Am
