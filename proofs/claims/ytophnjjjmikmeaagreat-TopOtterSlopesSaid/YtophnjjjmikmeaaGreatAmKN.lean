/- The abstract machine: an evaluator of code on states with leaves. -/
import Derived.Test.YtophnjjjmikmeaaGreatAmKM
set_option linter.all false
namespace Go.Am
open Go
structure a8 where
  ps : aF
  p : aB
  T : ps.T → Option p.T
def au (E : Env) (g : FuncId) (e : a8) : Prop := ∀ x y, e.T x = some y → bK E g (e.ps.enc x) (fun r => r = e.p.enc y)
inductive XK
  | norm
  | ret
  | ex (id : Nat)
def XK.is : XK → Exit → Bool
  | .norm, .normal => true
  | .ret, .ret => true
  | .ex i, .exit j => Nat.beq i j
  | _, _ => false
def XK.exit : XK → Exit
  | .norm => .normal
  | .ret => .ret
  | .ex i => .exit i
theorem XK.CT {k : XK} {e : Exit} (h : k.is e = true) : e = k.exit := by
  cases k <;> cases e <;> simp_all [XK.is, XK.exit]
def JT : List (XK × bw) → Type
  | [] => Empty
  | [x] => x.2.ps.T
  | x :: y :: l => x.2.ps.T ⊕ JT (y :: l)
def fV (s : St) : (outs : List (XK × bw)) → Exit → St → Option (JT outs)
  | [], _, _ => none
  | [x], e, s' => bif x.1.is e then x.2.dec s s' else none
  | x :: y :: l, e, s' => bif x.1.is e then (x.2.dec s s').bind fun v => some (.inl v) else (fV s (y :: l) e s').bind fun o => some (.inr o)
def EL {α : Type} (s : St) : (outs : List (XK × bw)) → JT outs → (Exit → St → α) → α
  | [], o, _ => Empty.rec (fun _ => α) o
  | [x], o, K => K x.1.exit (x.2.st s o)
  | x :: y :: l, o, K => Sum.elim (fun v => K x.1.exit (x.2.st s v)) (fun o => EL s (y :: l) o K) o
inductive eV
  | loop (gh : List (Loc × Nat × TypeId)) (head : bw) (outs : List (XK × bw))
  | join (outs : List (XK × bw))
  | SX (k : List Bool) (gh : List (Loc × Nat × TypeId)) (head : bw) (outs : List (XK × bw))
  | Uz (n : Nat) (a b : eV)
  | km (gh : List (Loc × Nat × TypeId)) (head : bw) (outs : List (XK × bw))
  | PF (gh : List (Loc × Nat × TypeId)) (head : bw)
  | F7 (t : Tmp) (sz : Nat) (e : TypeId) (head : bw) (outs : List (XK × bw))
def F8 (n : Nat) : eV → eV
  | .Uz m a b => bif Nat.beq n m then F8 n a else F8 n b
  | c => c
def bQ {V X : Type} (rd : V → Option (V ⊕ X)) : Nat → V → Option X
  | 0, _ => none
  | n + 1, v => (rd v).bind fun o => Sum.elim (fun v' => bQ rd n v') (fun x => some x) o
def km {V X : Type} (rd : (V → Option X) → V → Option X) : Nat → V → Option X
  | 0, _ => none
  | n + 1, v => rd (km rd n) v
structure LM (E : Env) (g : FuncId) where
  f : List AV → List GO → Option (Bool × AV × List GO)
  ok : ∀ args G r G', f args G = some (true, r, G') → cq E g args G (fun r' Ol => r' = r ∧ Ol = G')
structure LN (E : Env) (g : FuncId) where
  ps : aF
  outs : List RF
  T : ps.T → Option (XT outs)
  ok : ∀ x y, T x = some y → uB E g (ps.enc x) outs (fun z => z = y)
structure fF where
  D : Ly
  F9 : FuncId → Option a8
  zX : FuncId → Nat → Option eV
  fz : Bool
  N : Nat
  gt : (g : FuncId) → Option (LM D.toEnv g) := fun _ => none
  xt : (g : FuncId) → Option (LN D.toEnv g) := fun _ => none
def mM {α : Type} (fz : Bool) (s : St) (K : St → α) : α := match fz with
  | true => BG s K
  | false => match s with
    | ⟨sl, bx, G, m, ro, n⟩ => K ⟨sl, bx, G, m, ro, n⟩
theorem b6 {α : Type} (fz : Bool) (s : St) (K : St → α) : mM fz s K = K s := by
  cases fz
  · rfl
  · exact D8 s K
abbrev mf (X : Type) := FuncId → List AV → List GO → (AV → List GO → Option X) → Option X
abbrev jR (X : Type) := Nat → List AV → List GO → (Bool → List GO → Option X) → Option X
section ev
variable {X : Type}
def ye (E : Env) (s : St) (o : Oper) : Option (Int × Nat × (Nat → Oper)) := match o.op with
  | .index t x (.tmp y) => match ba E s.ae (.tmp y), E.ti t with
    | .v (.int k n), some i => match i.k with
      | .arr len _ _ => some (n, len, fun j => { o with op := .index t x (.const (.int k j)) })
      | _ => none
    | _, _ => none
  | .indexAddr t x (.tmp y) => match ba E s.ae (.tmp y), E.ti t with
    | .v (.int k n), some i => match i.k with
      | .arr len _ _ => match ba E s.ae x with
        | .v (.ep _) => match E.HR t with
          | some _ => none
          | none => some (n, len, fun j => { o with op := .indexAddr t x (.const (.int k j)) })
        | _ => some (n, len, fun j => { o with op := .indexAddr t x (.const (.int k j)) })
      | _ => none
    | _, _ => none
  | _ => none
def so (E : Env) (fz : Bool) (f : FuncId) (g : Nat → Oper) (n : Int) (K : St → Option X) (s : St) : Nat → Nat → Option X
  | 0, _ => none
  | m + 1, j => bif decide (n = (j : Int)) then (match ak E f s (g j) with
      | some (c, s') => bif c then mM fz s' K else none
      | _ => none) else so E fz f g n K s m (j + 1)
def LO (E : Env) (fz : Bool) (call : mf X) (jA : jR X) (f : FuncId) (o : Oper) (K : St → Option X) (s : St) : Option X :=
  match o.op with
  | .call { callee := .value x, args, .. } => match ba E s.ae x, js E s.ae args.toList with
    | .v (.fn g first cap), some l => call g (first ++ l ++ cap) s.G (fun r G' => mM fz ((s.aX G').put o.dst (.v r)) K)
    | .v (.yield id), some l => jA id l s.G (fun b G' => mM fz ((s.aX G').put o.dst (.v (.bool b))) K)
    | _, _ => none
  | .defer _ => none
  | .next x true => match F0 s o.dst (ba E s.ae x) with
    | some (b, s1, s2) => bif b then mM fz s1 K else mM fz s2 K
    | none => none
  | .lookup t m k ok => match sj E s t (ba E s.ae m) (ba E s.ae k) with
    | some (c, v, b) => bif c then mM fz (s.put o.dst (.v (if ok then .bC [v, .bool b] else v))) K else none
    | none => match ak E f s o with
      | some (c, s') => bif c then mM fz s' K else none
      | _ => none
  | .mapUpdate t m k x => match o.dst, sk E s t (ba E s.ae m) (ba E s.ae k) (ba E s.ae x) with
    | none, some (c, s') => bif c then mM fz s' K else none
    | _, _ => none
  | .insert t m k x => match o.dst, sk E s t (ba E s.ae m) (ba E s.ae k) (ba E s.ae x) with
    | none, some (c, s') => bif c then mM fz s' K else none
    | _, _ => none
  | .call { callee := .builtin .append, args, argTypes } => match eY E f s o with
    | some (c, s') => bif c then mM fz s' K else none
    | none => match js E s.ae args.toList with
      | some l => match xW E s o.dst l argTypes.toList with
        | some (b, s1, c, s2) => bif b then mM fz s1 K else bif c then mM fz s2 K else none
        | none => match ak E f s o with
          | some (c, s') => bif c then mM fz s' K else none
          | _ => none
      | none => none
  | .call { callee := .builtin .copy, args, argTypes } => match js E s.ae args.toList with
    | some l => match F2 E s o.dst l argTypes.toList with
      | some (c, s') => bif c then mM fz s' K else none
      | none => match ak E f s o with
        | some (c, s') => bif c then mM fz s' K else none
        | _ => none
    | none => none
  | _ => match ye E s o with
    | some (n, len, g) => so E fz f g n K s len 0
    | none => match ak E f s o with
      | some (c, s') => bif c then mM fz s' K else none
      | _ => none
def mg (E : Env) (fz : Bool) (call : mf X) (jA : jR X) (f : FuncId) (ops : List Oper) (o : Oper) (K : St → Option X) (s : St) : Option X :=
  match o.guard with
  | none => LO E fz call jA f o K s
  | some (j, want) => match lP ops j with
    | none => none
    | some d => match lk s.ae d with
      | .v (.bool b) => match want with
        | true => bif b then mM fz (s.put (some d) (.v (.bool true))) (LO E fz call jA f o K) else mM fz ((s.put (some d) (.v (.bool false))).put o.dst (.v ea)) K
        | false => bif b then mM fz ((s.put (some d) (.v (.bool true))).put o.dst (.v ea)) K else mM fz (s.put (some d) (.v (.bool false))) (LO E fz call jA f o K)
      | .v (.bC []) => mM fz (s.put o.dst (.v ea)) K
      | _ => none
def yf (E : Env) (fz : Bool) (call : mf X) (jA : jR X) (f : FuncId) (ops : List Oper) (o : Oper) (K : St → Option X) (s : St) : Option X :=
  match o.guard, gD E f s o with
  | none, some s' => mM fz s' K
  | _, _ => mg E fz call jA f ops o K s
noncomputable def PG {X : Type} (l : List Nat) (F : Nat → Option X) : Option X := match l with
  | [] => none
  | i :: r => @ite _ (∀ j ∈ r, F j = F i) (Classical.propDecidable _) (F i) none
theorem Ef {X : Type} {l : List Nat} {F : Nat → Option X} {x : X} (h : PG l F = some x) : ∀ i ∈ l, F i = some x := by
  cases l with
  | nil => cases h
  | cons i r =>
    have h : @ite _ (∀ j ∈ r, F j = F i) (Classical.propDecidable _) (F i) none = some x := h
    by_cases hr : ∀ j ∈ r, F j = F i
    · rw [if_pos hr] at h
      intro j hj
      rcases List.mem_cons.1 hj with rfl | hj
      · exact h
      · rw [hr j hj]; exact h
    · rw [if_neg hr] at h
      cases h
noncomputable def sq (E : Env) (fz : Bool) (call : mf X) (jA : jR X) (f : FuncId) (ops : List Oper) (o : Oper) (K : St → Option X) (s : St) : Option X :=
  match o.guard, qF E f s o, pT E s o with
  | none, some (c, s'), _ => bif c then mM fz s' K else none
  | none, none, some (c, s0, left, g) => bif c then (bif left.isEmpty then mM fz s0 K else PG left fun i => bif (g i).1 then mM fz (g i).2 K else none) else none
  | _, _, _ => yf E fz call jA f ops o K s
noncomputable def yg (E : Env) (fz : Bool) (call : mf X) (jA : jR X) (f : FuncId) (ops : List Oper) (o : Oper) (K : St → Option X) (s : St) : Option X :=
  match Dr E f s o with
  | some (c, s') => bif c then sq E fz call jA f ops o K s' else none
  | none => sq E fz call jA f ops o K s
noncomputable def IC (E : Env) (fz : Bool) (call : mf X) (jA : jR X) (f : FuncId) (ops : List Oper) : List Oper → (St → Option X) → St → Option X
  | [], K, s => K s
  | o :: rest, K, s => yg E fz call jA f ops o (fun s' => match wq E f o s' with
    | some (c, s2) => bif c then IC E fz call jA f ops rest K s2 else none
    | none => none) s
def LP (E : Env) (f : FuncId) (ops : List Oper) (o : Oper) (s : St) : Bool := match o.op, o.dst with
  | .lookup t m k ok, some d => match yG ops s o, sj E s t (ba E s.ae m) (ba E s.ae k) with
    | some true, some (c, v, b) => c && xL (.v (if ok then .bC [v, .bool b] else v)) (lk s.ae d)
    | _, _ => Q0 E f ops o s
  | _, _ => Q0 E f ops o s
def mN (E : Env) (f : FuncId) (ops : List Oper) : List Nat → St → Bool
  | [], _ => true
  | k :: l, s => (match nth ops k with
    | some ok => LP E f ops ok s
    | none => true) && mN E f ops l s
def oT (E : Env) (fz : Bool) (call : mf X) (jA : jR X) (dG : Option X → Option X → Option X) (f : FuncId) (ops : List Oper) : DT → (St → Option X) → St → Option X
  | .done, K, s => K s
  | .take j _ t, K, s => match nth ops j with
    | some oj => mg E fz call jA f ops oj (oT E fz call jA dG f ops t K) s
    | none => none
  | .br i re _ t .stop, K, s => match nth ops i with
    | some oi => mg E fz call jA f ops oi (fun s' => bif mN E f ops re s' then oT E fz call jA dG f ops t K s' else none) s
    | none => none
  | .br i re _ t more, K, s => dG (match nth ops i with
    | some oi => mg E fz call jA f ops oi (fun s' => bif mN E f ops re s' then oT E fz call jA dG f ops t K s' else none) s
    | none => none) (oT E fz call jA dG f ops more K s)
  | .stop, _, _ => none
  | .al j W t, K, s => match nth ops j with
    | some oj => bif Lr E f oj W s then mg E fz call jA f ops oj (oT E fz call jA dG f ops t K) s else none
    | none => none
end ev
def wJ {X : Type} (N : St → Option X) (Q : Exit → St → Option X) : Exit → St → Option X
  | .normal, s => N s
  | e, s => Q e s
def Ga {X : Type} (id : Nat) (Q : Exit → St → Option X) : Exit → St → Option X
  | .exit fJ, s => bif Nat.beq fJ id then Q .normal s else Q (.exit fJ) s
  | e, s => Q e s
def LQ {X : Type} (Q : Exit → St → Option X) : Exit → St → Option X
  | .goto _, _ => none
  | e, s => Q e s
def Gb {X : Type} (E : Env) (fn : Func) (K : AV → List GO → Option X) : Exit → St → Option X
  | .normal, s | .ret, s => match lR s.marks s.G with
    | some G => match FE E (s.aX G) fn with
      | some r => K r G
      | none => none
    | none => none
  | _, _ => none
def rA (s : St) (head : bw) (outs : List (XK × bw)) : Exit → St → Option (head.ps.T ⊕ JT outs)
  | .normal, s' => (head.dec s s').bind fun v => some (.inl v)
  | e, s' => (fV s outs e s').bind fun o => some (.inr o)
noncomputable def vg {X : Type} (a b : Option X) : Option X := @ite _ (a = b) (Classical.propDecidable _) a none
def rB {X : Type} (dG : Option X → Option X → Option X) : Prop := ∀ a b x, dG a b = some x → a = some x ∧ b = some x
def BX {X : Type} (id : Nat) (K : Bool → List GO → Option X) : Exit → St → Option X := fun e s => match nth s.G id with
  | some (.loop _ _ fn sl n ps nI bd d _) => match e with
    | .normal => K true (aq s.G id (.loop false none fn sl n ps nI bd d false))
    | .ret => K false (aq s.G id (.loop false (some .ret) fn sl n ps nI bd d true))
    | .exit i => K false (aq s.G id (.loop false (some (.exit i)) fn sl n ps nI bd d true))
    | _ => none
  | _ => none
def Q4 (fp : Nat) : Nat := fp % 4096
def UA (fp : Nat) : Nat := fp / 4096
abbrev Oo := FuncId → Nat → Code → (X : Type) → (Option X → Option X → Option X) → (Exit → St → Option X) → St → Option X
section
variable (C : fF) (ih : Oo)
def zY {X : Type} (dG : Option X → Option X → Option X) : mf X := fun g args G K =>
  bif C.D.okF g then match C.D.P.funcs[g]? with
      | some fn => match fn.body with
        | some b => bif !(fn.name == "runtime.NumGoroutine") then ih g 1 b X dG (Gb C.D.toEnv fn (bif C.D.sw g 131072 then LH C.D.toEnv (C.D.sw g 131073) (C.D.sw g 131074) fn.resultTypes.toList K else K)) (St.init fn.ntmps args G) else none
        | none => none
      | none => none
    else none
def wK {X : Type} (dG : Option X → Option X → Option X) : mf X := fun g args G K =>
  match C.F9 g with
  | some e => (e.ps.dec args).bind fun x => (e.T x).bind fun y => K (e.p.enc y) G
  | none => match C.gt g with
    | some e => match e.f args G with
      | some (c, r, G') => bif c then K r G' else none
      | none => none
    | none => match C.xt g with
      | some e => (e.ps.dec args).bind fun x => (e.T x).bind fun o => Om G K e.outs o
      | none => zY C ih dG g args G K
def ID (n : Nat) : List Tmp → Bool
  | [] => true
  | t :: l => Nat.blt t n && ID n l
def IE {X : Type} (dG : Option X → Option X → Option X) : jR X := fun id args G K => match nth G id with
  | some (.loop false _ fp sl n ps nI bd _ false) =>
    bif Nat.beq args.length ps.length && ID n ps && bi (C.D.dt (Q4 fp)) nI && bi (C.D.dt (Q4 fp)) bd then
      ih (Q4 fp) (2 * UA fp) nI X dG (fun e s1 => match e with
        | .normal => match nth s1.G id with
          | some (.loop false p fn sl n ps nI Ok d false) => ih (Q4 fp) (2 * UA fp + 1) bd X dG (BX id K) (s1.aX (aq s1.G id (.loop true p fn sl n ps nI Ok d false)))
          | _ => none
        | _ => none) (St.round id (uw ps args sl) n G)
    else none
  | _ => none
noncomputable def uF (f : FuncId) (p : Nat) (c : Code) (X : Type) (dG : Option X → Option X → Option X) (K : Exit → St → Option X) (s : St) : Option X :=
  match c with
  | .skip => K .normal s
  | .label _ => K .normal s
  | .seq x y => ih f (2 * p) x X dG (wJ (ih f (2 * p + 1) y X dG K) K) s
  | .cond c x y => match ba C.D.toEnv s.ae c with
    | .v (.bool b) => bif b then ih f (2 * p) x X dG K s else ih f (2 * p + 1) y X dG K s
    | _ => none
  | .block id c => ih f (2 * p) c X dG (Ga id K) s
  | .exit id => K (.exit id) s
  | .ret => K .ret s
  | .region _ ops false => IC C.D.toEnv C.fz (wK C ih dG) (IE C ih dG) f ops.toList ops.toList (K .normal) s
  | .region id ops true => match C.D.dt f id with
    | some pl => oT C.D.toEnv C.fz (wK C ih dG) (IE C ih dG) dG f ops.toList pl.T (K .normal) s
    | none => none
  | .scope c => ih f (2 * p) c X dG (LQ K) s
  | .loop c => ih f (2 * p) c X dG (wJ (ih f p (.loop c) X dG K) K) s
  | .rangeFunc g ps nI bd => match s.ro with
    | none => match ba C.D.toEnv s.ae g with
      | .v (.fn h first cap) => wK C ih dG h (first ++ [.yield (s.G.length + 1)] ++ cap) (s.G ++ [.defers true] ++ [.loop false none (4096 * p + f) (dL s.ae) s.n ps.toList nI bd s.G.length false])
        (fun _ G' => match nth G' (s.G.length + 1) with
          | some (.loop busy pending _ _ _ _ _ _ _ done) => bif !busy || done then
              match pending with
              | none => mM C.fz ⟨s.ae, s.boxes, aq G' (s.G.length + 1) .dead, s.G.length :: s.marks, s.ro, s.n⟩ (K .normal)
              | some .ret => mM C.fz ⟨s.ae, s.boxes, aq G' (s.G.length + 1) .dead, s.G.length :: s.marks, s.ro, s.n⟩ (K .ret)
              | some (.exit i) => mM C.fz ⟨s.ae, s.boxes, aq G' (s.G.length + 1) .dead, s.G.length :: s.marks, s.ro, s.n⟩ (K (.exit i))
              | _ => none
            else none
          | _ => none)
      | _ => none
    | some id => match nth s.G id with
      | some (.loop _ _ _ _ _ _ _ _ d0 _) => match ba C.D.toEnv s.ae g with
        | .v (.fn h first cap) => wK C ih dG h (first ++ [.yield s.G.length] ++ cap) (s.G ++ [.loop false none (4096 * p + f) (dL s.ae) s.n ps.toList nI bd d0 false])
          (fun _ G' => match nth G' s.G.length with
            | some (.loop busy pending _ _ _ _ _ _ _ done) => bif !busy || done then
                match pending with
                | none => mM C.fz ⟨s.ae, s.boxes, aq G' s.G.length .dead, s.marks, s.ro, s.n⟩ (K .normal)
                | some .ret => mM C.fz ⟨s.ae, s.boxes, aq G' s.G.length .dead, s.marks, s.ro, s.n⟩ (K .ret)
                | some (.exit i) => mM C.fz ⟨s.ae, s.boxes, aq G' s.G.length .dead, s.marks, s.ro, s.n⟩ (K (.exit i))
                | _ => none
              else none
            | _ => none)
        | _ => none
      | _ => none
  | _ => none
def BY : List Oper → List Tmp
  | [] => []
  | o :: l => match o.dst with
    | some d => d :: BY l
    | none => BY l
def fW : Code → List Tmp → List Tmp
  | .region _ ops _, r => BY ops.toList ++ r
  | .seq x y, r => fW x (fW y r)
  | .cond _ x y, r => fW x (fW y r)
  | .block _ c, r => fW c r
  | .scope c, r => fW c r
  | .loop c, r => fW c r
  | .rangeFunc _ ps a b, r => ps.toList ++ fW a (fW b r)
  | _, r => r
def mh (W : List Tmp) (t : bw) : bw := ⟨t.ps, t.sl, W, t.bx, t.g, t.Oi⟩
def mi (W : List Tmp) : List (XK × bw) → List (XK × bw)
  | [] => []
  | (k, t) :: l => (k, mh W t) :: mi W l
def Gc : Code → Bool
  | .loop _ => true
  | _ => false
noncomputable def PH {X : Type} (f : FuncId) (p : Nat) (c : Code) (outs : List (XK × bw)) (K : Exit → St → Option X) (s : St) : Option X :=
  (uF C ih f p c (JT outs) vg (fV s outs) s).bind fun o => EL s outs o K
noncomputable def Kp {X : Type} (f : FuncId) (p : Nat) (b : Code) (s1 : St) (head : bw) (outs : List (XK × bw)) (K : Exit → St → Option X) : Option X :=
  (head.dec s1 s1).bind fun v0 => (bQ (fun v => ih f (2 * p) b (head.ps.T ⊕ JT outs) vg (rA s1 head outs) (head.st s1 v)) C.N v0).bind fun o => EL s1 outs o K
def Gd (s : St) (head : bw) (outs : List (XK × bw)) (k : head.ps.T → Option (JT outs)) : Exit → St → Option (JT outs)
  | .normal, s' => (head.dec s s').bind k
  | e, s' => fV s outs e s'
noncomputable def Ge {X : Type} (f : FuncId) (p : Nat) (b : Code) (s1 : St) (head : bw) (outs : List (XK × bw)) (K : Exit → St → Option X) : Option X :=
  (head.dec s1 s1).bind fun v0 => (km (fun k v => ih f (2 * p) b (JT outs) vg (Gd s1 head outs k) (head.st s1 v)) C.N v0).bind fun o => EL s1 outs o K
def Gf {X : Type} (s : St) (head : bw) (K : Exit → St → Option X) (k : head.ps.T → Option X) : Exit → St → Option X
  | .normal, s' => (head.dec s s').bind k
  | e, s' => K e s'
noncomputable def Gg {X : Type} (f : FuncId) (p : Nat) (b : Code) (s1 : St) (head : bw) (K : Exit → St → Option X) : Option X :=
  (head.dec s1 s1).bind fun v0 => km (fun k v => ih f (2 * p) b X vg (Gf s1 head K k) (head.st s1 v)) C.N v0
def Gh (s : St) (head : bw) (outs : List (XK × bw)) (t : Tmp) (sz : Nat) (e : TypeId) : Exit → St → Option (head.ps.T ⊕ JT outs)
  | .normal, s' => match pc s' t sz e with
    | some (c, s2) => bif c then (head.dec s s2).bind fun v => some (.inl v) else none
    | none => none
  | x, s' => (fV s outs x s').bind fun o => some (.inr o)
noncomputable def BZ {X : Type} (f : FuncId) (p : Nat) (b : Code) (s1 : St) (head : bw) (outs : List (XK × bw)) (t : Tmp) (sz : Nat) (e : TypeId) (K : Exit → St → Option X) : Option X :=
  (head.dec s1 s1).bind fun v0 => (bQ (fun v => match rv (head.st s1 v) t sz e with
    | some s2 => ih f (2 * p) b (head.ps.T ⊕ JT outs) vg (Gh s1 head outs t sz e) s2
    | none => none) C.N v0).bind fun o => EL s1 outs o K
def Gi {X : Type} (dG : Option X → Option X → Option X) (f : FuncId) (K : Exit → St → Option X) : List Bool → Nat → Code → St → Option X
  | [], _, _, s => K .normal s
  | true :: k, q, .seq x y, s => ih f (2 * q) x X dG (wJ (Gi dG f K k (2 * q + 1) y) K) s
  | false :: k, q, .seq x _, s => Gi dG f K k (2 * q) x s
  | _ :: _, _, _, _ => none
def IF {X : Type} (dG : Option X → Option X → Option X) (f : FuncId) : List Bool → Nat → Code → (Exit → St → Option X) → St → Option X
  | [], q, c, K, s => ih f q c X dG K s
  | true :: k, q, .seq _ y, K, s => IF dG f k (2 * q + 1) y K s
  | false :: k, q, .seq x y, K, s => IF dG f k (2 * q) x (wJ (ih f (2 * q + 1) y X dG K) K) s
  | _ :: _, _, _, _, _ => none
noncomputable def PI {X : Type} (f : FuncId) (p : Nat) (b : Code) (k : List Bool) (s1 : St) (head : bw) (outs : List (XK × bw)) (K : Exit → St → Option X) : Option X :=
  ((Gi ih vg f (rA s1 head outs) k (2 * p) b s1).bind fun r0 =>
    Sum.elim (fun v0 => bQ (fun v => IF ih vg f k (2 * p) b (wJ (Gi ih vg f (rA s1 head outs) k (2 * p) b) (rA s1 head outs)) (head.st s1 v)) C.N v0) (fun x => some x) r0).bind fun o => EL s1 outs o K
noncomputable def uG (f : FuncId) (p : Nat) (c : Code) (X : Type) (dG : Option X → Option X → Option X) (K : Exit → St → Option X) (s : St) : Option X :=
  match C.zX f p with
  | none => uF C ih f p c X dG K s
  | some ct => match F8 s.G.length ct with
    | .join outs => bif Gc c then none else PH C ih f p c (mi (fW c []) outs) K s
    | .loop gh head outs => match c with
      | .loop b => match er gh s with
        | some s1 => Kp C ih f p b s1 (mh (fW b []) head) (mi (fW b []) outs) K
        | none => none
      | _ => none
    | .SX k gh head outs => match c with
      | .loop b => match er gh s with
        | some s1 => PI C ih f p b k s1 (mh (fW b []) head) (mi (fW b []) outs) K
        | none => none
      | _ => none
    | .km gh head outs => match c with
      | .loop b => match er gh s with
        | some s1 => Ge C ih f p b s1 (mh (fW b []) head) (mi (fW b []) outs) K
        | none => none
      | _ => none
    | .PF gh head => match c with
      | .loop b => match er gh s with
        | some s1 => Gg C ih f p b s1 (mh (fW b []) head) K
        | none => none
      | _ => none
    | .F7 t sz e head outs => match c with
      | .loop b => match pc s t sz e with
        | some (cc, s1) => bif cc then BZ C ih f p b s1 (mh (fW b []) head) (mi (fW b []) outs) t sz e K else none
        | none => none
      | _ => none
    | .Uz _ _ _ => none
end
noncomputable def ev (C : fF) : Nat → Oo := Nat.rec (fun _ _ _ _ _ _ _ => none) (fun _ ih => uG C ih)
end Go.Am
namespace Go.Am
open Go
section ext
variable {E : Env} {f : FuncId} {s s' : St} {o : Oper}
theorem aw.put (s : St) (d : Option Tmp) (x : SV) : aw s (s.put d x) := by
  cases d with
  | none => exact aw.refl s
  | some d =>
    simp only [St.put]
    split
    · exact ⟨⟨[_], rfl⟩, ⟨[], rfl⟩, rfl⟩
    · exact aw.refl s
theorem aw.aX (s : St) (G : List GO) : aw s (s.aX G) := ⟨⟨[], rfl⟩, ⟨[], rfl⟩, rfl⟩
theorem aw.cI (s : St) (o : GO) : aw s (s.cI o) := ⟨⟨[], rfl⟩, ⟨[], rfl⟩, rfl⟩
theorem aw.qC (s : St) (d : Nat) (cs : List AV) : aw s (s.qC d cs) := ⟨⟨[], rfl⟩, ⟨[_], rfl⟩, rfl⟩
theorem aw.kill (s : St) (d : Nat) : aw s (s.kill d) := ⟨⟨[_], rfl⟩, ⟨[], rfl⟩, rfl⟩
theorem Eg {c : Bool} {s' : St} (h : eY E f s o = some (c, s')) : aw s s' := by
  unfold eY at h
  repeat' (split at h)
  all_goals (first | (cases h; done) | skip)
  all_goals (injection h with h; injection h with _ h; subst h; exact (aw.aX _ _).trans (aw.put _ _ _))
theorem B0 {t : TypeId} {p x : SV} {c : Bool} {s' : St} (h : dy E s t p x = some (c, s')) : aw s s' := by
  have store : ∀ {t : TypeId} {p x : SV} {s' : St}, eU E s t p x = some s' → aw s s' := by
    intro t p x s' h
    unfold eU at h
    repeat' (split at h)
    all_goals (first | (cases h; done) | skip)
    all_goals (injection h with h; subst h)
    · exact aw.qC _ _ _
    · exact aw.aX _ _
  unfold dy at h
  repeat' (split at h)
  all_goals (first | (cases h; done) | skip)
  all_goals (injection h with h; injection h with _ h; subst h)
  all_goals (first | exact aw.aX _ _ | exact store (by assumption))
theorem B1 {t : TypeId} {p x : SV} {c : Bool} {s' : St} (h : gT E s t p x = some (c, s')) : aw s s' := by
  unfold gT at h
  split at h
  · rename_i hs
    injection h with h; injection h with _ h
    subst h
    exact (aw.aX s (nq s p x).2.2).trans (B0 (s := s.aX (nq s p x).2.2) hs)
  · cases h
theorem B2 {c : Bool} (h : ak E f s o = some (c, s')) : aw s s' := by
  have alloc : ∀ {el : TypeId} {cs : List AV} {c : Bool} {s' : St}, dH E f s o.dst el cs = some (c, s') → aw s s' := by
    intro el cs c s' h
    unfold dH at h
    repeat' (split at h)
    all_goals (first | (cases h; done) | skip)
    · injection h with h; injection h with _ h; subst h; exact (aw.cI _ _).trans (aw.put _ _ _)
    · injection h with h; injection h with _ h; subst h; exact ((aw.kill _ _).trans (aw.qC _ _ _)).trans (aw.put _ _ _)
  have store : ∀ {t : TypeId} {p x : SV} {s' : St}, eU E s t p x = some s' → aw s s' := by
    intro t p x s' h
    unfold eU at h
    repeat' (split at h)
    all_goals (first | (cases h; done) | skip)
    all_goals (injection h with h; subst h)
    · exact aw.qC _ _ _
    · exact aw.aX _ _
  have Lh : ∀ {t : TypeId} {p x : SV} {c : Bool} {s' : St}, dy E s t p x = some (c, s') → aw s s' := by
    intro t p x c s' h
    unfold dy at h
    repeat' (split at h)
    all_goals (first | (cases h; done) | skip)
    all_goals (injection h with h; injection h with _ h; subst h)
    all_goals (first | exact aw.aX _ _ | exact store (by assumption))
  have blt : ∀ {b : Builtin} {l : List AV} {tys : List TypeId} {c : Bool} {s' : St}, bG E s o.dst b l tys = some (c, s') → aw s s' := by
    intro b l tys c s' h
    unfold bG at h
    repeat' (split at h)
    all_goals (first | (cases h; done) | skip)
    all_goals (injection h with h; injection h with _ h; subst h)
    all_goals (first | exact aw.put _ _ _ | exact (aw.aX _ _).trans (aw.put _ _ _) | exact aw.aX _ _)
  have update : ∀ {t : TypeId} {m k x : SV} {s' : St}, dI E s t m k x = some s' → aw s s' := by
    intro t m k x s' h
    unfold dI at h
    repeat' (split at h)
    all_goals (first | (cases h; done) | skip)
    all_goals (injection h with h; subst h; exact aw.aX _ _)
  have next : ∀ {x : SV} {s' : St}, ju s o.dst x = some s' → aw s s' := by
    intro x s' h
    unfold ju at h
    split at h
    · split at h
      · rename_i l pos hg
        cases hb : Nat.blt pos l.length <;> rw [hb] at h <;> simp only [cond_true, cond_false] at h <;> cases h
        · exact aw.put _ _ _
        · exact (aw.aX _ _).trans (aw.put _ _ _)
      · cases h
    · cases h
  have Bl : ∀ {t : TypeId} {m k : SV} {c : Bool} {v : AV} {s' : St}, eE E s t m k = some (c, v, s') → aw s s' := by
    intro t m k c v s' h
    unfold eE at h
    repeat' (split at h)
    all_goals (first | (cases h; done) | skip)
    all_goals (injection h with h; injection h with _ h; injection h with _ h; subst h; exact aw.aX _ _)
  have Bm : ∀ {m st x : SV} {c : Bool} {s' : St}, dj s m st x = some (c, s') → aw s s' := by
    intro m st x c s' h
    unfold dj at h
    repeat' (split at h)
    all_goals (first | (cases h; done) | skip)
    all_goals (injection h with h; injection h with _ h; subst h; exact aw.aX _ _)
  unfold ak kw at h
  repeat' (split at h)
  all_goals (first | (cases h; done) | exact alloc h | exact blt h | (rename_i hf; cases h; exact Eg hf) | skip)
  all_goals (injection h with h; injection h with _ h; subst h)
  all_goals (first | exact aw.put _ _ _ | exact (aw.cI _ _).trans (aw.put _ _ _) | exact (aw.aX _ _).trans (aw.put _ _ _) | skip)
  all_goals (first | exact B1 (by assumption) | exact update (by assumption) | exact (Bl (by assumption)).trans (aw.put _ _ _) | exact Bm (by assumption) | exact next (by assumption))
theorem cq.eX {g : FuncId} {args Kq : List AV} {G : List GO} {Q : AV → List GO → Prop} (hw : bZ args Kq) (h : cq E g Kq G Q) : cq E g args G Q :=
  ⟨h.1, fun R w cs hg hl => h.2 R w cs hg (hw.rel hl)⟩
theorem zZ {K : St → Prop} (h : ir E f o K s) : ir E f o (fun s' => K s' ∧ aw s s') s := by
  unfold ir at *
  split
  · rename_i x args tys ho
    rw [ho] at h
    simp only at h
    split at h
    · exact h.mono fun r G' hk => ⟨hk, (aw.aX _ _).trans (aw.put _ _ _)⟩
    · exact h.mono fun r G' hk => ⟨hk, (aw.aX _ _).trans (aw.put _ _ _)⟩
    · exact h
  · rename_i ho
    rw [ho] at h
    exact h
  · rename_i nc nd
    split at h
    · rename_i ho
      exact absurd ho (nc _ _ _)
    · exact h.elim
    · split at h
      · rename_i c s' hs
        obtain ⟨hc, hk⟩ := h.out
        exact cL.mk hc ⟨hk, B2 hs⟩
      · exact h.elim
theorem jB {K : St → Prop} {ops : List Oper} (h : bO E f ops o K s) : bO E f ops o (fun s' => K s' ∧ aw s s') s := by
  unfold bO at *
  split
  · rename_i hg
    rw [hg] at h
    exact zZ h
  · rename_i j want hg
    rw [hg] at h
    simp only at h
    split
    · rename_i hd
      rw [hd] at h
      exact h
    · rename_i d hd
      rw [hd] at h
      simp only at h
      split
      · rename_i b hb
        rw [hb] at h
        simp only at h
        refine ⟨fun e => ?_, fun e => ⟨h.2 e, (aw.put _ _ _).trans (aw.put _ _ _)⟩⟩
        exact qn (zZ (h.1 e)) fun s' hh => ⟨hh.1, (aw.put _ _ _).trans hh.2⟩
      · rename_i hb
        rw [hb] at h
        exact ⟨h, aw.put _ _ _⟩
      · rename_i hb gE
        split at h
        · rename_i b Bv
          exact absurd Bv (hb b)
        · rename_i Bv
          exact absurd Bv gE
        · exact h
theorem vD {K K' : St → Prop} {ops : List Oper} (h : eu E f ops o K s) (hK : ∀ s, K s → K' s) : eu E f ops o K' s := by
  unfold eu at *
  split
  · rename_i s' h1 h2
    rw [h1, h2] at h
    exact hK _ h
  · rename_i hn
    split at h
    · rename_i s' h1 h2
      exact absurd h2 (hn s' h1)
    · exact bP h hK
theorem rY {s' : St} (h : gD E f s o = some s') : aw s s' := by
  unfold gD at h
  repeat' (split at h)
  all_goals (first | (cases h; done) | skip)
  all_goals (injection h with h; subst h; exact (aw.cI _ _).trans (aw.put _ _ _))
theorem yh {K : St → Prop} {ops : List Oper} (h : eu E f ops o K s) : eu E f ops o (fun s' => K s' ∧ aw s s') s := by
  unfold eu at *
  split
  · rename_i s' h1 h2
    rw [h1, h2] at h
    exact ⟨h, rY h2⟩
  · rename_i hn
    split at h
    · rename_i s' h1 h2
      exact absurd h2 (hn s' h1)
    · exact jB h
theorem jS {K K' : St → Prop} {ops : List Oper} (h : dM E f ops o K s) (hK : ∀ s, K s → K' s) : dM E f ops o K' s := by
  unfold dM at *
  split at h
  · obtain ⟨h1, h2⟩ := h.out
    exact cL.mk h1 (hK _ h2)
  · obtain ⟨h1, h2, h3⟩ := h.out
    exact cL.mk h1 ⟨fun e => hK _ (h2 e), fun i hi => let ⟨k1, k2⟩ := (h3 i hi).out; cL.mk k1 (hK _ k2)⟩
  · exact vD h hK
theorem B3 {c : Bool} {s' : St} (h : nu E f s o = some (c, s')) : aw s s' := by
  unfold nu at h
  repeat' (split at h)
  all_goals (first | (cases h; done) | skip)
  all_goals (injection h with h; injection h with _ h; subst h; exact (aw.aX _ _).trans (aw.put _ _ _))
theorem Gj {c : Bool} {s' : St} (h : AF E f s o = some (c, s')) : aw s s' := by
  unfold AF at h
  repeat' (split at h)
  all_goals (first | (cases h; done) | skip)
  all_goals (injection h with h; injection h with _ h; subst h; exact (aw.aX _ _).trans (aw.put _ _ _))
theorem Eh {c : Bool} {s' : St} (h : qF E f s o = some (c, s')) : aw s s' := by
  unfold qF at h
  split at h
  · rename_i r hr
    cases h
    exact Gj hr
  · exact B3 h
theorem B4 {c : Bool} {s0 : St} {left : List Nat} {g : Nat → Bool × St} (h : pT E s o = some (c, s0, left, g)) : aw s s0 ∧ ∀ i, aw s (g i).2 := by
  unfold pT at h
  split at h
  · unfold vL at h
    split at h
    · split at h
      · split at h
        · cases h
          exact ⟨aw.put _ _ _, fun i => (aw.aX _ _).trans (aw.put _ _ _)⟩
        · cases h
      · cases h
    · cases h
  · cases h
theorem pd {K : St → Prop} {ops : List Oper} (h : dM E f ops o K s) : dM E f ops o (fun s' => K s' ∧ aw s s') s := by
  unfold dM at *
  split at h
  · rename_i hb
    obtain ⟨h1, h2⟩ := h.out
    exact cL.mk h1 ⟨h2, Eh hb⟩
  · rename_i hb
    obtain ⟨h1, h2, h3⟩ := h.out
    obtain ⟨k1, k2⟩ := B4 hb
    exact cL.mk h1 ⟨fun e => ⟨h2 e, k1⟩, fun i hi => let ⟨q1, q2⟩ := (h3 i hi).out; cL.mk q1 ⟨q2, k2 i⟩⟩
  · exact yh h
theorem jT {K K' : St → Prop} {ops : List Oper} (h : dN E f ops o K s) (hK : ∀ s, K s → K' s) : dN E f ops o K' s := by
  unfold dN at *
  split at h
  · exact ⟨h.1, jS h.2 hK⟩
  · exact jS h hK
theorem fG {cut wk : Bool} : ∀ {l : List Operand} {s s' : St} {c : Bool}, fj cut wk l s = (c, s') → aw s s'
  | [], s, s', c, h => by
    simp only [fj] at h
    cases h
    exact aw.refl _
  | .tmp t :: l, s, s', c, h => by
    unfold fj at h
    split at h
    · rename_i c1 s1 h1
      cases h2 : fj cut wk l s1 with
      | mk c2 s2 =>
      rw [h2] at h
      simp only [Prod.mk.injEq] at h
      obtain ⟨_, rfl⟩ := h
      exact (gH h1).trans (fG h2)
    · exact fG h
  | .const _ :: l, s, s', c, h => fG (l := l) h
  | .global _ :: l, s, s', c, h => fG (l := l) h
  | .func _ :: l, s, s', c, h => fG (l := l) h
theorem Gk {s s' : St} {o : Oper} {c : Bool} (h : Dr E f s o = some (c, s')) : aw s s' := by
  unfold Dr at h
  split at h
  · split at h
    · injection h with h
      exact fG h
    · cases h
  · cases h
theorem yi {K : St → Prop} {ops : List Oper} (h : dN E f ops o K s) : dN E f ops o (fun s' => K s' ∧ aw s s') s := by
  unfold dN at *
  split at h
  · rename_i c s' hz
    exact ⟨h.1, jS (pd h.2) fun s2 h2 => ⟨h2.1, (Gk hz).trans h2.2⟩⟩
  · exact pd h
theorem uH {s s' : St} {l : Loc} {sz : Nat} {e : TypeId} (h : qk s l sz e = some s') : aw s s' := by
  unfold qk at h
  split at h
  · cases h; exact aw.cI _ _
  unfold oN at h
  cases Bg : Nat.ble 196608 sz with
  | true => rw [Bg] at h; cases h; exact aw.cI _ _
  | false =>
  rw [Bg] at h
  cases l with
  | slot t =>
    simp only at h
    split at h
    · cases h; exact ⟨⟨[_], rfl⟩, ⟨[], rfl⟩, rfl⟩
    · cases h
  | box k i =>
    simp only at h
    split at h
    · split at h
      · cases h; exact ⟨⟨[], rfl⟩, ⟨[_], rfl⟩, rfl⟩
      · cases h
    · cases h
  | row id i =>
    simp only at h
    split at h
    · split at h
      · cases h; exact ⟨⟨[], rfl⟩, ⟨[], rfl⟩, rfl⟩
      · cases h
    · cases h
theorem iZ : ∀ {l : List (Loc × Nat × TypeId)} {s s' : St}, er l s = some s' → aw s s'
  | [], s, s', h => by
    simp only [er] at h
    cases h
    exact aw.refl _
  | (l, sz, e) :: r, s, s', h => by
    unfold er at h
    split at h
    · rename_i s1 h1
      exact (uH h1).trans (iZ h)
    · cases h
theorem mj : ∀ {l : List (Loc × Nat × TypeId)} {s : St}, aw s (gz l s)
  | [], s => aw.refl _
  | (l, sz, e) :: r, s => by
    unfold gz
    split
    · rename_i s1 h1
      exact (uH h1).trans mj
    · exact mj
theorem Ei {s s' : St} {o : Oper} {c : Bool} (h : wq E f o s = some (c, s')) : aw s s' := by
  unfold wq at h
  split at h
  · cases h; exact aw.refl _
  · split at h
    · exact gH h
    · split at h
      · cases h; exact aw.refl _
      · split at h
        · exact zp h
        · split at h
          · cases h; exact mj
          · cases h
theorem uI {K K' : St → Prop} {ops : List Oper} (hK : ∀ s, K s → K' s) : ∀ {l : List Oper} {s : St}, lQ E f ops l K s → lQ E f ops l K' s
  | [], s, h => hK s h
  | _ :: _, _, h => jT h fun s' h' => by
    unfold wu at *
    split at h'
    · exact ⟨h'.1, uI hK h'.2⟩
    · exact h'.elim
theorem uJ {K K' : St → Prop} {ops : List Oper} (hK : ∀ s, K s → K' s) {T : DT} {s : St} (h : pP E f ops T K s) : pP E f ops T K' s :=
  dR (ops := ⟨ops⟩) hK T s h
theorem wL {K : St → Prop} {ops : List Oper} : ∀ {l : List Oper} {s : St}, lQ E f ops l K s → lQ E f ops l (fun s' => K s' ∧ aw s s') s
  | [], s, h => ⟨h, aw.refl s⟩
  | o :: l, s, h => by
    simp only [lQ] at *
    refine jT (yi h) fun s' hh => ?_
    obtain ⟨h1, h2⟩ := hh
    unfold wu at *
    split at h1
    · rename_i c s2 hp
      exact ⟨h1.1, uI (fun s3 h3 => ⟨h3.1, (h2.trans (Ei hp)).trans h3.2⟩) (wL h1.2)⟩
    · exact h1.elim
theorem pf {K : St → Prop} {ops : List Oper} : ∀ {T : DT} {s : St}, pP E f ops T K s → pP E f ops T (fun s' => K s' ∧ aw s s') s
  | .done, s, h => ⟨h, aw.refl s⟩
  | .stop, _, _ => trivial
  | .take j C T, s, h => by
    unfold pP at h ⊢
    split
    · rename_i oj hj
      rw [hj] at h
      exact bP (jB h) fun s' hh => uJ (fun s2 h2 => ⟨h2.1, hh.2.trans h2.2⟩) (pf hh.1)
    · rename_i hj
      rw [hj] at h
      exact h
  | .al j W T, s, h => by
    unfold pP at h ⊢
    split
    · rename_i oj hj
      rw [hj] at h
      exact ⟨h.1, bP (jB h.2) fun s' hh => uJ (fun s2 h2 => ⟨h2.1, hh.2.trans h2.2⟩) (pf hh.1)⟩
    · rename_i hj
      rw [hj] at h
      exact h
  | .br i re C T more, s, h => by
    unfold pP at h ⊢
    refine ⟨?_, pf h.2⟩
    have h := h.1
    split
    · rename_i oj hj
      rw [hj] at h
      exact bP (jB h) fun s' hh => ⟨hh.1.1, uJ (fun s2 h2 => ⟨h2.1, hh.2.trans h2.2⟩) (pf hh.1.2)⟩
    · rename_i hj
      rw [hj] at h
      exact h
end ext
def ia (E : Env) (c : Code) (Q : Exit → St → Prop) (s : St) : Prop := dE E c (fun e s' => Q e s' ∧ aw s s') s
section sound
variable {E : Env} {f : FuncId} {s : St} {X : Type} {fz : Bool} {call : mf X} {jA : jR X} {dG : Option X → Option X → Option X} {x : X}
def kT (E : Env) (call : mf X) : Prop := ∀ g args G K x, call g args G K = some x → cq E g args G (fun r G' => K r G' = some x)
def rC (E : Env) (jA : jR X) : Prop := ∀ id args G K x, jA id args G K = some x → iS E id args G (fun b G' => K b G' = some x)
theorem aW {α : Type} {c : Bool} {a : Option α} {x : α} (h : (bif c then a else none) = some x) : c = true ∧ a = some x := by
  cases c
  · cases h
  · exact ⟨rfl, h⟩
theorem bind_some {α β : Type} {a : Option α} {k : α → Option β} {x : β} (h : a.bind k = some x) : ∃ y, a = some y ∧ k y = some x := by
  cases a with
  | none => cases h
  | some y => exact ⟨y, rfl, h⟩
theorem Ej {o : Oper} {n : Int} {len : Nat} {g : Nat → Oper} (h : ye E s o = some (n, len, g)) {j : Nat} (hj : n = (j : Int)) : ak E f s (g j) = ak E f s o := by
  subst hj
  unfold ye at h
  have OI : ∀ k : IntKind, ba E s.ae (.const (.int k (j : Int))) = .v (.int k j) := fun k => rfl
  split at h
  · rename_i t x y ho
    split at h
    · rename_i k n i h1 h2
      split at h
      · injection h with h; injection h with e1 h; injection h with e2 h
        subst h; subst e1
        simp only [ak, ho, OI, h1]
      · cases h
    · cases h
  · rename_i t x y ho
    split at h
    · rename_i k n i h1 h2
      split at h
      · split at h
        · split at h
          · cases h
          · injection h with h; injection h with e1 h; injection h with e2 h
            subst h; subst e1
            simp only [ak, ho, OI, h1]
        · injection h with h; injection h with e1 h; injection h with e2 h
          subst h; subst e1
          simp only [ak, ho, OI, h1]
      · cases h
    · cases h
  · cases h
theorem nh {o : Oper} {n : Int} {len : Nat} {g : Nat → Oper} (hi : ye E s o = some (n, len, g)) {K : St → Option X} : ∀ (m j : Nat), so E fz f g n K s m j = some x → ∃ c s', ak E f s o = some (c, s') ∧ c = true ∧ K s' = some x
  | 0, _, h => by cases h
  | m + 1, j, h => by
    unfold so at h
    by_cases hn : n = (j : Int)
    · rw [decide_eq_true hn, cond_true, Ej hi hn] at h
      split at h
      · rename_i c s' hs
        obtain ⟨h1, h2⟩ := aW h
        rw [b6] at h2
        exact ⟨c, s', hs, h1, h2⟩
      · cases h
    · rw [decide_eq_false hn, cond_false] at h
      exact nh hi m (j + 1) h
theorem uK {ops : List Oper} {o : Oper} (h : LP E f ops o s = true) : Bu E f ops o s := by
  unfold LP at h
  split at h
  · rename_i t m k ok d ho hd
    split at h
    · rename_i c v b hg hs
      rw [Bool.and_eq_true] at h
      obtain ⟨rfl, h⟩ := h
      have hn := oY hs
      unfold Bu
      rw [hg]
      simp only
      have e : ak E f s o = some (true, s.put o.dst (.v (if ok then .bC [v, .bool b] else v))) := by simp only [ak, ho, hn]
      rw [hd] at e
      rw [hd, e]
      refine ⟨rfl, ?_⟩
      unfold St.put
      simp only
      split
      · rw [ar]
        exact wC h
      · rfl
    · exact wD h
  · exact wD h
theorem ni {ops : List Oper} : ∀ {l : List Nat} {s : St}, mN E f ops l s = true → wz E f ops l s
  | [], _, _ => trivial
  | k :: l, s, h => by
    unfold mN at h
    unfold wz
    rw [Bool.and_eq_true] at h
    refine ⟨?_, ni h.2⟩
    have h := h.1
    split at h
    · rename_i hk
      first
        | exact uK h
        | rw [hk]; exact uK h
    · rename_i hk
      first
        | trivial
        | rw [hk]; trivial
theorem qv (hc : kT E call) (hr : rC E jA) {o : Oper} {K : St → Option X} (h : LO E fz call jA f o K s = some x) : ir E f o (fun s => K s = some x) s := by
  unfold ir
  split
  · rename_i y args tys ho
    unfold LO at h
    rw [ho] at h
    simp only at h
    split at h
    · rename_i h1 h2
      rw [h1, h2]
      refine (hc _ _ _ _ _ h).mono fun r G' hk => ?_
      rw [b6] at hk
      exact hk
    · rename_i h1 h2
      rw [h1, h2]
      refine (hr _ _ _ _ _ h).mono fun r G' hk => ?_
      rw [b6] at hk
      exact hk
    · cases h
  · rename_i ho
    unfold LO at h
    rw [ho] at h
    cases h
  · rename_i nc nd
    unfold LO at h
    split at h
    · rename_i ho
      exact absurd ho (nc _ _ _)
    · cases h
    · rename_i y ho
      split at h
      · rename_i b s1 s2 hs
        have hn := BS hs
        have e : ak E f s o = some (true, bif b then s1 else s2) := by simp only [ak, ho, hn]
        rw [e]
        refine cL.mk rfl ?_
        rw [b6, b6] at h
        cases b <;> exact h
      · cases h
    · rename_i t m k ok ho
      split at h
      · rename_i c v b hs
        obtain ⟨h1, h2⟩ := aW h
        subst h1
        rw [b6] at h2
        have hn := oY hs
        have e : ak E f s o = some (true, s.put o.dst (.v (if ok then .bC [v, .bool b] else v))) := by simp only [ak, ho, hn]
        rw [e]
        exact cL.mk rfl h2
      · split at h
        · rename_i c s' hs
          obtain ⟨h1, h2⟩ := aW h
          rw [b6] at h2
          rw [hs]
          exact cL.mk h1 h2
        · cases h
    · rename_i t m k z ho
      split at h
      · rename_i c s' hd hs
        obtain ⟨h1, h2⟩ := aW h
        subst h1
        rw [b6] at h2
        have hn := oZ hs
        have e : ak E f s o = some (true, s') := by simp only [ak, ho, hd, hn]
        rw [e]
        exact cL.mk rfl h2
      · cases h
    · rename_i t m k z ho
      split at h
      · rename_i c s' hd hs
        obtain ⟨h1, h2⟩ := aW h
        subst h1
        rw [b6] at h2
        have hn := oZ hs
        have e : ak E f s o = some (true, s') := by simp only [ak, ho, hd, hn]
        rw [e]
        exact cL.mk rfl h2
      · cases h
    · rename_i args tys ho
      split at h
      · rename_i c s' hf
        obtain ⟨h1, h2⟩ := aW h
        rw [b6] at h2
        have e : ak E f s o = some (c, s') := by simp only [ak, ho, hf]
        rw [e]
        exact cL.mk h1 h2
      · rename_i hf
        split at h
        · rename_i l hl
          split at h
          · rename_i b s1 c s2 hs
            have A3 : b = false → c = true := fun e => by subst e; exact (aW (show (bif c then mM fz s2 K else none) = some x from h)).1
            have hn := xY hs A3
            have e : ak E f s o = some (true, bif b then s1 else s2) := by simp only [ak, ho, hf, hl, hn]
            rw [e]
            refine cL.mk rfl ?_
            cases b with
            | true =>
              show K s1 = some x
              rw [← b6 fz s1 K]
              exact h
            | false =>
              obtain ⟨h1, h2⟩ := aW (show (bif c then mM fz s2 K else none) = some x from h)
              rw [b6] at h2
              exact h2
          · split at h
            · rename_i c s' hs
              obtain ⟨h1, h2⟩ := aW h
              rw [b6] at h2
              rw [hs]
              exact cL.mk h1 h2
            · cases h
        · cases h
    · rename_i args tys ho
      split at h
      · rename_i l hl
        split at h
        · rename_i c s' hs
          obtain ⟨h1, h2⟩ := aW h
          subst h1
          rw [b6] at h2
          have hn := BT hs
          have hf : eY E f s o = none := by
            cases hf : eY E f s o with
            | none => rfl
            | some r =>
              obtain ⟨_, _, h2⟩ := kK hf
              rw [ho] at h2
              cases h2
          have e : ak E f s o = some (true, s') := by simp only [ak, ho, hf, hl, hn]
          rw [e]
          exact cL.mk rfl h2
        · split at h
          · rename_i c s' hs
            obtain ⟨h1, h2⟩ := aW h
            rw [b6] at h2
            rw [hs]
            exact cL.mk h1 h2
          · cases h
      · cases h
    · split at h
      · rename_i n len g hi
        obtain ⟨c, s', hs, h1, h2⟩ := nh hi _ _ h
        rw [hs]
        exact cL.mk h1 h2
      · split at h
        · rename_i c s' hs
          obtain ⟨h1, h2⟩ := aW h
          rw [b6] at h2
          rw [hs]
          exact cL.mk h1 h2
        · cases h
theorem iw (hc : kT E call) (hr : rC E jA) {ops : List Oper} {o : Oper} {K : St → Option X} (h : mg E fz call jA f ops o K s = some x) : bO E f ops o (fun s => K s = some x) s := by
  unfold mg at h
  unfold bO
  split at h
  · rename_i hg
    rw [hg]
    exact qv hc hr h
  · rename_i j want hg
    rw [hg]
    simp only
    split at h
    · cases h
    · rename_i d hd
      rw [hd]
      simp only
      split at h
      · rename_i b hb
        rw [hb]
        simp only
        cases want with
        | true =>
          simp only at h
          rw [b6, b6] at h
          refine ⟨fun e => ?_, fun e => ?_⟩
          · subst e
            exact qv hc hr h
          · have e : b = false := by simpa using e
            subst e
            exact h
        | false =>
          simp only at h
          rw [b6, b6] at h
          refine ⟨fun e => ?_, fun e => ?_⟩
          · subst e
            exact qv hc hr h
          · have e : b = true := by simpa using e
            subst e
            exact h
      · rename_i hb
        rw [hb]
        rw [b6] at h
        exact h
      · cases h
theorem vE (hc : kT E call) (hr : rC E jA) {ops : List Oper} {o : Oper} {K : St → Option X} (h : yf E fz call jA f ops o K s = some x) : eu E f ops o (fun s => K s = some x) s := by
  unfold yf at h
  unfold eu
  split at h
  · rename_i s' h1 h2
    rw [h1, h2]
    rw [b6] at h
    exact h
  · rename_i hn
    split
    · rename_i s' h1 h2
      exact absurd h2 (hn s' h1)
    · exact iw hc hr h
theorem nj (hc : kT E call) (hr : rC E jA) {ops : List Oper} {o : Oper} {K : St → Option X} (h : sq E fz call jA f ops o K s = some x) : dM E f ops o (fun s => K s = some x) s := by
  unfold sq at h
  unfold dM
  split at h
  · rename_i c s' h1 h2
    rw [h1, h2]
    obtain ⟨q1, q2⟩ := aW h
    rw [b6] at q2
    exact cL.mk q1 q2
  · rename_i c s0 left g h1 h2 h3
    rw [h1, h2, h3]
    obtain ⟨q1, q2⟩ := aW h
    refine cL.mk q1 ?_
    cases left with
    | nil =>
      simp only [List.isEmpty_nil, cond_true, b6] at q2
      exact ⟨fun _ => q2, fun i hi => by simp at hi⟩
    | cons i0 l =>
      simp only [List.isEmpty_cons, cond_false] at q2
      refine ⟨fun e => (by cases e), fun i hi => ?_⟩
      obtain ⟨r1, r2⟩ := aW (Ef q2 i hi)
      rw [b6] at r2
      exact cL.mk r1 r2
  · rename_i AN Q5
    split
    · rename_i c s' h1 h2
      first
        | exact absurd h2 (AN c s' h1)
        | exact absurd h2 (Q5 c s' h1)
    · rename_i c s0 left g h1 h2 h3
      first
        | exact absurd h3 (Q5 c s0 left g h1 h2)
        | exact absurd h3 (AN c s0 left g h1 h2)
    · exact vE hc hr h
theorem vF (hc : kT E call) (hr : rC E jA) {ops : List Oper} {o : Oper} {K : St → Option X} (h : yg E fz call jA f ops o K s = some x) : dN E f ops o (fun s => K s = some x) s := by
  unfold yg at h
  unfold dN
  split at h
  · rename_i c s' hz
    rw [hz]
    obtain ⟨h1, h2⟩ := aW h
    exact ⟨h1, nj hc hr h2⟩
  · rename_i hz
    rw [hz]
    exact nj hc hr h
theorem uL (hc : kT E call) (hr : rC E jA) {ops : List Oper} : ∀ {l : List Oper} {K : St → Option X} {s : St}, IC E fz call jA f ops l K s = some x → lQ E f ops l (fun s => K s = some x) s
  | [], _, _, h => h
  | o :: l, K, s, h => by
    unfold IC at h
    unfold lQ
    refine jT (vF hc hr h) fun s' h' => ?_
    unfold wu
    split at h'
    · rename_i c s2 hp
      rw [hp]
      cases c with
      | true => exact ⟨rfl, uL hc hr h'⟩
      | false => cases h'
    · cases h'
theorem gO (hc : kT E call) (hr : rC E jA) (hm : rB dG) {ops : List Oper} : ∀ {T : DT} {K : St → Option X} {s : St} {x : X}, oT E fz call jA dG f ops T K s = some x → pP E f ops T (fun s => K s = some x) s
  | .done, _, _, _, h => h
  | .stop, _, _, _, _ => trivial
  | .take j C T, K, s, x, h => by
    unfold oT at h
    unfold pP
    split at h
    · rename_i hk
      rw [hk]
      exact bP (iw hc hr h) fun s' h' => gO hc hr hm h'
    · cases h
  | .al j W T, K, s, x, h => by
    unfold oT at h
    unfold pP
    split at h
    · rename_i hk
      obtain ⟨h1, h2⟩ := aW h
      rw [hk]
      exact ⟨h1, bP (iw hc hr h2) fun s' h' => gO hc hr hm h'⟩
    · cases h
  | .br i re C T more, K, s, x, h => by
    have first : ∀ {x : X}, (match nth ops i with
      | some oi => mg E fz call jA f ops oi (fun s' => bif mN E f ops re s' then oT E fz call jA dG f ops T K s' else none) s
      | none => none) = some x → (match nth ops i with
      | some oi => bO E f ops oi (fun s' => wz E f ops re s' ∧ pP E f ops T (fun s => K s = some x) s') s
      | none => False) := by
      intro x h
      split at h
      · rename_i hk
        refine bP (iw hc hr h) fun s' h' => ?_
        obtain ⟨h1, h2⟩ := aW h'
        exact ⟨ni h1, gO hc hr hm h2⟩
      · cases h
    unfold pP
    cases more with
    | stop => exact ⟨first h, trivial⟩
    | done => obtain ⟨h1, h2⟩ := hm _ _ _ h; exact ⟨first h1, gO (T := .done) hc hr hm h2⟩
    | take a b c => obtain ⟨h1, h2⟩ := hm _ _ _ h; exact ⟨first h1, gO hc hr hm h2⟩
    | br a b c d e => obtain ⟨h1, h2⟩ := hm _ _ _ h; exact ⟨first h1, gO hc hr hm h2⟩
    | al a b c => obtain ⟨h1, h2⟩ := hm _ _ _ h; exact ⟨first h1, gO hc hr hm h2⟩
end sound
end Go.Am
