/- The abstract machine: its values, its state, and what each operation does (definitions alone). -/
import Derived.CallsIn
import Derived.RangeFuncLeaves
import Derived.Laws.AppendOwn
set_option linter.all false
namespace Go.Am
open Go
inductive LK where
  | nil | full | fY | own (id : Nat) | aG (id j : Nat)
inductive AV where
  | bool (b : Bool)
  | int (k : IntKind) (n : Int)
  | str (s : List UInt8)
  | agg (cs : List AV)
  | bC (vs : List AV)
  | gB
  | ptr (id off : Nat)
  | ep (cs : List AV)
  | list (k : LK) (sz : Nat) (es : List AV)
  | gb (id off sz len cap : Nat)
  | cS (id f off sz len : Nat)
  | gp (id f i off sz : Nat) (t : TypeId)
  | eT (id j sz len : Nat)
  | rp (id j f i off sz : Nat) (t : TypeId)
  | jW
  | map (id : Nat)
  | cV
  | fn (f : FuncId) (first cap : List AV)
  | yield (id : Nat)
  | li
  | iface (t : TypeId) (v : AV)
def LK.closed : LK → Bool
  | .own _ => false
  | .aG _ _ => false
  | _ => true
mutual
def AV.closed : AV → Bool
  | .agg cs => aN cs
  | .bC cs => aN cs
  | .ep cs => aN cs
  | .list k _ _ => k.closed
  | .fn _ x y => aN x && aN y
  | .iface _ v => v.closed
  | .ptr _ _ => false
  | .gb _ _ _ _ _ => false
  | .cS _ _ _ _ _ => false
  | .gp _ _ _ _ _ _ => false
  | .eT _ _ _ _ => false
  | .rp _ _ _ _ _ _ _ => false
  | .map _ => false
  | .yield _ => false
  | _ => true
def aN : List AV → Bool
  | [] => true
  | a :: l => a.closed && aN l
end
mutual
def AV.eX : AV → AV
  | .agg cs => .agg (jr cs)
  | .bC cs => .bC (jr cs)
  | .list (.own _) sz es => .list .fY sz es
  | .list (.aG _ _) sz es => .list .fY sz es
  | v => v
def jr : List AV → List AV
  | [] => []
  | a :: l => a.eX :: jr l
end
inductive SV where
  | none
  | v (a : AV)
  | lp (key off : Nat)
inductive Vo where
  | put (d : Nat) (x : SV)
  | kill (d : Nat)
abbrev aT := List Vo
abbrev bU := List (Nat × List AV)
def lk : aT → Nat → SV
  | [], _ => .none
  | .put d x :: l, t => bif Nat.beq d t then x else lk l t
  | .kill d :: l, t => match lk l t with
    | .lp k off => bif Nat.beq k d then .none else .lp k off
    | x => x
def cF : bU → Nat → Option (List AV)
  | [], _ => none
  | (d, cs) :: l, k => bif Nat.beq d k then some cs else cF l k
inductive GO where
  | dead
  | row (cs : List AV) (el : TypeId)
  | tok (f sz : Nat) (e : TypeId)
  | aG (fs : List Nat) (sz : Nat) (e : TypeId)
  | ls (eC n : Nat) (left : List Nat) (cur : Option Nat) (t : TypeId)
  | cW (es : List AV) (sz : Nat) (el : TypeId)
  | fI (rows : List (List AV)) (sz : Nat) (el : TypeId)
  | map (es : List (AV × AV))
  | eR (s : List UInt8) (pos : Nat)
  | loop (busy : Bool) (pending : Option Code) (fn : FuncId) (ae : aT) (n : Nat) (params : List Tmp) (assign body : Code) (defers : Nat) (done : Bool)
  | defers (open_ : Bool)
structure St where
  ae : aT
  boxes : bU
  G : List GO
  marks : List Nat
  ro : Option Nat
  n : Nat
def nth {α : Type} : List α → Nat → Option α
  | [], _ => none
  | a :: _, 0 => some a
  | _ :: l, n + 1 => nth l n
def aq {α : Type} : List α → Nat → α → List α
  | [], _, _ => []
  | _ :: l, 0, x => x :: l
  | a :: l, n + 1, x => a :: aq l n x
def takeN {α : Type} : Nat → List α → Option (List α)
  | 0, _ => some []
  | _ + 1, [] => none
  | n + 1, a :: l => match takeN n l with
    | some r => some (a :: r)
    | none => none
def dF {α : Type} : Nat → List α → List α
  | 0, l => l
  | _ + 1, [] => []
  | n + 1, _ :: l => dF n l
def Aw {α : Type} (off n : Nat) (l : List α) : Option (List α) := takeN n (dF off l)
def bu {α : Type} : List α → Nat → List α → List α
  | l, _, [] => l
  | [], _, _ :: _ => []
  | _ :: l, 0, y :: ys => y :: bu l 0 ys
  | a :: l, n + 1, y :: ys => a :: bu l n (y :: ys)
def AV.cells : AV → List AV
  | .agg cs => cs
  | v => [v]
def AV.one : AV → Bool
  | .agg _ => false
  | .bC _ => false
  | _ => true
def nY : Value → Option AV
  | .bool b => some (.bool b)
  | .int k n => some (.int k n)
  | .string s => some (.str s.data.toList)
  | .slice none 0 0 => some (.list .nil 0 [])
  | .pointer none => some .gB
  | .map none => some .jW
  | .nilFunc => some .cV
  | .nilIface => some .li
  | _ => none
def jX : List Value → Option (List AV)
  | [] => some []
  | v :: vs => match nY v, jX vs with
    | some a, some l => some (a :: l)
    | _, _ => none
def nZ : Value → Option AV
  | .agg cs => match jX cs.toList with
    | some l => some (.agg l)
    | none => none
  | .tuple cs => match jX cs.toList with
    | some l => some (.bC l)
    | none => none
  | v => nY v
inductive TK where
  | sc
  | int (k : IntKind)
  | str
  | st (fs : List (Nat × Nat × Bool))
  | arr (len esz : Nat) (Rw : Bool)
  | sl (elem esz : Nat) (Rw : Bool) (aS : Nat) (OA : Option AV)
  | map (key elem : TypeId) (OA : Option AV)
mutual
inductive EK where
  | no
  | bool
  | int
  | str
  | st (fs : KB)
inductive KB where
  | nil
  | cons (off sz : Nat) (ag : Bool) (k : EK) (rest : KB)
end
structure TI where
  k : TK
  size : Nat
  agg : Bool
  zero : Option AV
  ek : EK
def gS : TypeDesc → Bool
  | .struct _ => true
  | .array _ _ => true
  | _ => false
def fieldsOf (P : Program) : List Field → Option (List (Nat × Nat × Bool))
  | [] => some []
  | f :: fs => match P.info? f.type, P.underlying f.type, fieldsOf P fs with
    | some i, some u, some l => some ((f.offset, i.size, gS u) :: l)
    | _, _, _ => none
def dW (i : TypeInfo) : Option AV := match i.zero with
  | some z => nZ z
  | none => none
def mP (P : Program) : TypeDesc → Option TK
  | .int k => some (.int k)
  | .string => some .str
  | .struct fs => match fieldsOf P fs.toList with
    | some l => some (.st l)
    | none => none
  | .array n e => match P.info? e, P.underlying e with
    | some i, some u => some (.arr n i.size (gS u))
    | _, _ => none
  | .slice e => match P.info? e, P.underlying e with
    | some i, some u => some (.sl e i.size (gS u) i.bytes (dW i))
    | _, _ => none
  | .map k e => match P.info? e with
    | some i => some (.map k e (dW i))
    | none => none
  | _ => some .sc
def Ax (P : Program) (ek : TypeId → EK) : List Field → Option KB
  | [] => some .nil
  | f :: fs => if f.name == "_" then none else match P.info? f.type, P.underlying f.type, Ax P ek fs with
    | some i, some u, some l => some (.cons f.offset i.size (gS u) (ek f.type) l)
    | _, _, _ => none
def su (sz : Nat) (ag : Bool) (k : EK) : Nat → Nat → KB
  | 0, _ => .nil
  | n + 1, i => .cons (i * sz) sz ag k (su sz ag k n (i + 1))
def mQ (P : Program) : Nat → TypeId → EK
  | 0, _ => .no
  | n + 1, t => match P.underlying t with
    | some .bool => .bool
    | some (.int _) => .int
    | some .string => .str
    | some (.struct fs) => if P.stoodInHeld t then .no else match Ax P (mQ P n) fs.toList with
      | some l => .st l
      | none => .no
    | some (.array m e) => match P.info? e, P.underlying e with
      | some i, some u => .st (su i.size (gS u) (mQ P n e) m 0)
      | _, _ => .no
    | _ => .no
def qA (P : Program) (t : TypeId) : EK := match mQ P 6 t with
  | .st l => if P.eqGuardType P.depth t then .no else .st l
  | k => k
def Dk (P : Program) (t : TypeId) : Option TI :=
  match P.info? t, P.underlying t with
  | some i, some u => match mP P u with
    | some k => some { k := k, size := i.size, agg := gS u, zero := dW i, ek := qA P t }
    | none => none
  | _, _ => none
def EN : AV → AV → Bool
  | .bool a, .bool b => a == b
  | .int k a, .int k' b => (k == k') && a == b
  | .str a, .str b => a == b
  | .gB, .gB => true
  | .ptr i o, .ptr i' o' => Nat.beq i i' && Nat.beq o o'
  | .jW, .jW => true
  | .map i, .map i' => Nat.beq i i'
  | .cV, .cV => true
  | .li, .li => true
  | .gb a b c d e, .gb a' b' c' d' e' => Nat.beq a a' && Nat.beq b b' && Nat.beq c c' && Nat.beq d d' && Nat.beq e e'
  | .cS a b c d e, .cS a' b' c' d' e' => Nat.beq a a' && Nat.beq c c' && Nat.beq d d' && (Nat.beq b b' && Nat.beq e e')
  | .gp a b c d e t, .gp a' b' c' d' e' t' => Nat.beq a a' && Nat.beq b b' && Nat.beq c c' && Nat.beq d d' && Nat.beq e e' && Nat.beq t t'
  | .eT a b c d, .eT a' b' c' d' => Nat.beq a a' && Nat.beq b b' && Nat.beq c c' && Nat.beq d d'
  | .rp a b c d e f t, .rp a' b' c' d' e' f' t' => Nat.beq a a' && Nat.beq b b' && Nat.beq c c' && Nat.beq d d' && Nat.beq e e' && Nat.beq f f' && Nat.beq t t'
  | _, _ => false
mutual
def df : AV → AV → Bool
  | .fn f x y, .fn f' x' y' => Nat.beq f f' && jY x x' && jY y y'
  | .agg cs, .agg di => jY cs di
  | .ep cs, .ep di => jY cs di
  | .bC cs, .bC di => jY cs di
  | .list .nil a es, .list .nil a' es' => Nat.beq a a' && jY es es'
  | .list .full a es, .list .full a' es' => Nat.beq a a' && jY es es'
  | .list .fY a es, .list .fY a' es' => Nat.beq a a' && jY es es'
  | .list (.own i) a es, .list (.own i') a' es' => Nat.beq i i' && Nat.beq a a' && jY es es'
  | .list (.aG i j) a es, .list (.aG i' j') a' es' => Nat.beq i i' && Nat.beq j j' && Nat.beq a a' && jY es es'
  | a, b => EN a b
def jY : List AV → List AV → Bool
  | [], [] => true
  | a :: l, b :: r => df a b && jY l r
  | _, _ => false
end
mutual
inductive aB
  | int (k : IntKind)
  | bool
  | str
  | agg (ps : aF)
  | bC (ps : aF)
  | list (sz : Nat) (p : aB)
  | own (id sz : Nat) (p : aB)
  | aG (id sz : Nat) (p : aB)
  | eT (id sz : Nat)
  | qB (v : AV)
  | two (u v : AV)
inductive aF
  | nil
  | cons (p : aB) (ps : aF)
end
def OB (s : Bool) (α β : Type) : Type := match s with
  | true => α
  | false => α × β
def aF.isNil : aF → Bool
  | .nil => true
  | .cons _ _ => false
mutual
def aB.T : aB → Type
  | .int _ => Int
  | .bool => Bool
  | .str => List UInt8
  | .agg ps => ps.T
  | .bC ps => ps.T
  | .list _ p => List p.T
  | .own _ _ p => List p.T
  | .aG _ _ p => Nat × List p.T
  | .eT _ _ => Nat × Nat
  | .qB _ => Unit
  | .two _ _ => Bool
def aF.T : aF → Type
  | .nil => Unit
  | .cons p ps => OB ps.isNil p.T ps.T
end
mutual
def aB.enc : (p : aB) → p.T → AV
  | .int k, (n : Int) => .int k n
  | .bool, (b : Bool) => .bool b
  | .str, (s : List UInt8) => .str s
  | .agg ps, x => .agg (ps.enc x)
  | .bC ps, x => .bC (ps.enc x)
  | .list sz p, (xs : List p.T) => .list .fY sz (xs.map p.enc)
  | .own id sz p, (xs : List p.T) => .list (.own id) sz (xs.map p.enc)
  | .aG id sz p, (x : Nat × List p.T) => .list (.aG id x.1) sz (x.2.map p.enc)
  | .eT id sz, (x : Nat × Nat) => .eT id x.1 sz x.2
  | .qB v, _ => v
  | .two u v, (b : Bool) => bif b then v else u
def aF.enc : (ps : aF) → ps.T → List AV
  | .nil, _ => []
  | .cons p .nil, x => [p.enc x]
  | .cons p (.cons q ps), x => p.enc x.1 :: (aF.cons q ps).enc x.2
end
def N8 : IntKind → IntKind → Bool := fun a b => decide (a = b)
def AV.gS : AV → List AV
  | .agg cs => cs
  | _ => []
def AV.KC : AV → List AV
  | .bC cs => cs
  | _ => []
def AV.bV : AV → List AV
  | .list _ _ es => es
  | _ => []
def AV.Rx : AV → Nat
  | .list (.aG _ j) _ _ => j
  | _ => 0
def AV.Ry : AV → Nat × Nat
  | .eT _ j _ len => (j, len)
  | _ => (0, 0)
def AV.np : AV → Int
  | .int _ n => n
  | _ => 0
def AV.OC : AV → Bool
  | .bool b => b
  | _ => false
def AV.KD : AV → List UInt8
  | .str s => s
  | _ => []
def cX : List AV → AV
  | a :: _ => a
  | [] => .gB
def EO : List AV → List AV
  | _ :: l => l
  | [] => []
mutual
def aB.bf : (p : aB) → AV → p.T
  | .int _, v => v.np
  | .bool, v => v.OC
  | .str, v => v.KD
  | .agg ps, v => ps.bf v.gS
  | .bC ps, v => ps.bf v.KC
  | .list _ p, v => v.bV.map p.bf
  | .own _ _ p, v => v.bV.map p.bf
  | .aG _ _ p, v => (v.Rx, v.bV.map p.bf)
  | .eT _ _, v => v.Ry
  | .qB _, _ => ()
  | .two _ v, a => df a v
def aF.bf : (ps : aF) → List AV → ps.T
  | .nil, _ => ()
  | .cons p .nil, l => p.bf (cX l)
  | .cons p (.cons q ps), l => (p.bf (cX l), (aF.cons q ps).bf (EO l))
end
def allFit (f : AV → Bool) : List AV → Bool
  | [] => true
  | a :: l => f a && allFit f l
mutual
def aB.fits : aB → AV → Bool
  | .int k, v => match v with
    | .int k' _ => N8 k k'
    | _ => false
  | .bool, v => match v with
    | .bool _ => true
    | _ => false
  | .str, v => match v with
    | .str _ => true
    | _ => false
  | .agg ps, v => match v with
    | .agg cs => ps.fits cs
    | _ => false
  | .bC ps, v => match v with
    | .bC cs => ps.fits cs
    | _ => false
  | .list sz p, v => match v with
    | .list _ aQ es => (Nat.beq sz aQ || es.isEmpty) && allFit p.fits es
    | _ => false
  | .own id sz p, v => match v with
    | .list (.own fJ) aQ es => (Nat.beq id fJ && Nat.beq sz aQ) && allFit p.fits es
    | _ => false
  | .aG id sz p, v => match v with
    | .list (.aG fJ _) aQ es => (Nat.beq id fJ && Nat.beq sz aQ) && allFit p.fits es
    | _ => false
  | .eT id sz, v => match v with
    | .eT fJ _ aQ _ => Nat.beq id fJ && Nat.beq sz aQ
    | _ => false
  | .qB v, u => df u v
  | .two u v, a => df a u || df a v
def aF.fits : aF → List AV → Bool
  | .nil, l => l.isEmpty
  | .cons p ps, l => match l with
    | a :: l => p.fits a && ps.fits l
    | [] => false
end
def aB.dec (p : aB) (v : AV) : Option p.T := bif p.fits v then some (p.bf v) else none
def aF.dec (ps : aF) (l : List AV) : Option ps.T := bif ps.fits l then some (ps.bf l) else none
structure Env where
  P : Program
  ti : TypeId → Option TI
  cw : Nat → Option (List AV)
  sw : FuncId → Tmp → Bool
  HR : TypeId → Option aB
  lo : Nat := 0
  TN : FuncId → Tmp → List (Option Nat × Nat × TypeId) := fun _ _ => []
  QH : TypeId → Option aB := fun _ => none
  gx : Nat → Bool := fun _ => false
  Dl : ∀ t i, ti t = some i → Dk P t = some i
  mixed : P.follows .mixedOrders = true
  wT : ∀ g cs, cw g = some cs → aN cs = true
def ba (E : Env) (ae : aT) : Operand → SV
  | .tmp t => lk ae t
  | .const v => match nZ v with
    | some a => .v a
    | none => .none
  | .global g => match E.cw g with
    | some cs => .v (.ep cs)
    | none => .none
  | .func f => .v (.fn f [] [])
def St.put (s : St) (dst : Option Tmp) (x : SV) : St := match dst with
  | some d => match Nat.blt d s.n with
    | true => ⟨.put d x :: s.ae, s.boxes, s.G, s.marks, s.ro, s.n⟩
    | false => s
  | none => s
def ea : AV := .bC []
def n5 (agg : Bool) (cs : List AV) : Option AV :=
  if agg then some (.agg cs) else match cs with
    | [c] => some c
    | _ => none
def ks (s : St) : SV → Option (List AV × Nat)
  | .lp k off => match cF s.boxes k with
    | some cs => some (cs, off)
    | none => none
  | .v (.ptr id off) => match nth s.G id with
    | some (.row cs _) => some (cs, off)
    | _ => none
  | .v (.ep cs) => some (cs, 0)
  | _ => none
def vI (n : Nat) : SV → Option SV
  | .lp k off => some (.lp k (off + n))
  | .v (.ptr id off) => some (.v (.ptr id (off + n)))
  | .v (.ep cs) => some (.v (.ep (dF n cs)))
  | .v (.gp id f i off sz t) => some (.v (.gp id f i (off + n) sz t))
  | .v (.rp id j f i off sz t) => some (.v (.rp id j f i (off + n) sz t))
  | _ => none
def wU (t : Bool) : AV → AV → AV
  | .bool x, .bool y => .bool (bif t then x else y)
  | .int k x, .int k' y => if k = k' then .int k (bif t then x else y) else (bif t then .int k x else .int k' y)
  | a, b => bif t then a else b
def Cl (ag : Bool) (off sz : Nat) (cs : List AV) : Option AV :=
  if ag then (match Aw off sz cs with | some l => n5 true l | none => none) else (match Aw off 1 cs with | some l => n5 false l | none => none)
mutual
def jH : EK → AV → AV → Option Bool
  | .bool, .bool a, .bool b => some (a == b)
  | .int, .int k a, .int k' b => if k = k' then some (a == b) else none
  | .str, .str a, .str b => some (a == b)
  | .st fs, .agg xs, .agg ys => pR fs xs ys
  | _, _, _ => none
def pR : KB → List AV → List AV → Option Bool
  | .nil, _, _ => some true
  | .cons off sz ag k rest, xs, ys => match Cl ag off sz xs, Cl ag off sz ys with
    | some a, some b => match jH k a b, pR rest xs ys with
      | some t, some u => some (t && u)
      | _, _ => none
    | _, _ => none
end
def Dm (k : IntKind) (a b : Int) : Int := k.wrap (BitVec.ofInt k.bits a &&& BitVec.ofInt k.bits b).toNat
def Rz (k : IntKind) (a b : Int) : Int := k.wrap (BitVec.ofInt k.bits a ||| BitVec.ofInt k.bits b).toNat
def Dn (k : IntKind) (a b : Int) : Int := k.wrap (BitVec.ofInt k.bits a ^^^ BitVec.ofInt k.bits b).toNat
def yJ (op : BinOp) (x y : AV) : Option (Bool × AV) :=
  match x, y with
  | .int k a, .int k' b =>
    match op with
    | .shl => some (decide (0 ≤ b), .int k (k.wrap (a * 2 ^ (min b.toNat k.bits))))
    | .shr => some (decide (0 ≤ b), .int k (a.fdiv (2 ^ (min b.toNat k.bits))))
    | _ => if k = k' then
        match op with
        | .add => some (true, .int k (k.wrap (a + b)))
        | .sub => some (true, .int k (k.wrap (a - b)))
        | .mul => some (true, .int k (k.wrap (a * b)))
        | .quo => some (!(decide (b = 0)), .int k (k.wrap (a.tdiv b)))
        | .rem => some (!(decide (b = 0)), .int k (a.tmod b))
        | .and => some (true, .int k (Dm k a b))
        | .or => some (true, .int k (Rz k a b))
        | .xor => some (true, .int k (Dn k a b))
        | .eql => some (true, .bool (a == b))
        | .neq => some (true, .bool (a != b))
        | .lss => some (true, .bool (a < b))
        | .leq => some (true, .bool (a ≤ b))
        | .gtr => some (true, .bool (a > b))
        | .geq => some (true, .bool (a ≥ b))
        | _ => none
      else none
  | .str a, .str b =>
    match op with
    | .add => some (decide (a.length + b.length ≤ 9223372036854775807), .str (a ++ b))
    | .eql => some (true, .bool (a == b))
    | .neq => some (true, .bool (!(a == b)))
    | .lss => some (true, .bool (Op.bytesLess a b))
    | .leq => some (true, .bool (Op.bytesLess a b || a == b))
    | .gtr => some (true, .bool (!(Op.bytesLess a b || a == b)))
    | .geq => some (true, .bool (!(Op.bytesLess a b)))
    | _ => none
  | _, _ => none
end Go.Am
namespace Go.Am
open Go
def St.kill (s : St) (d : Nat) : St := ⟨.kill d :: s.ae, s.boxes, s.G, s.marks, s.ro, s.n⟩
def AV.aH : AV → Bool
  | .bC _ => false
  | _ => true
def St.cI (s : St) (o : GO) : St := ⟨s.ae, s.boxes, s.G ++ [o], s.marks, s.ro, s.n⟩
def St.aX (s : St) (G : List GO) : St := ⟨s.ae, s.boxes, G, s.marks, s.ro, s.n⟩
def St.qC (s : St) (d : Nat) (cs : List AV) : St := ⟨s.ae, (d, cs) :: s.boxes, s.G, s.marks, s.ro, s.n⟩
def dH (E : Env) (f : FuncId) (s : St) (dst : Option Tmp) (el : TypeId) (cs : List AV) : Option (Bool × St) :=
  match dst with
  | none => none
  | some d =>
    if E.sw f d then some (true, (s.cI (.row cs el)).put (some d) (.v (.ptr s.G.length 0)))
    else match Nat.blt d s.n with
      | true => some (true, ((s.kill d).qC d cs).put (some d) (.lp d 0))
      | false => none
def js (E : Env) (ae : aT) : List Operand → Option (List AV)
  | [] => some []
  | x :: l => match ba E ae x, js E ae l with
    | .v a, some r => some (a :: r)
    | _, _ => none
def HB (E : Env) (ae : aT) : List (Nat × Operand) → Option (List (Nat × AV))
  | [] => some []
  | (i, x) :: l => match ba E ae x, HB E ae l with
    | .v a, some r => some ((i, a) :: r)
    | _, _ => none
def placeOf : TK → Nat → Option (Nat × Nat)
  | .st fs, j => match nth fs j with
    | some (o, sz, _) => some (o, sz)
    | none => none
  | .arr _ esz _, j => some (j * esz, esz)
  | _, _ => none
def qD (place : Nat → Option (Nat × Nat)) (cells : List AV) : List (Nat × AV) → Option (List AV)
  | [] => some cells
  | (i, v) :: rest => match place i with
    | none => none
    | some (off, sz) =>
      if v.aH && Nat.beq v.cells.length sz && Nat.ble (off + sz) cells.length then qD place (bu cells off v.cells) rest else none
def yK (esz : Nat) (es : List AV) : List (Nat × AV) → Option (List AV)
  | [] => some es
  | (i, v) :: rest =>
    if v.aH && Nat.beq v.cells.length esz && Nat.ble (i + 1) es.length && v.closed then yK esz (aq es i v) rest else none
def ku (E : Env) (s : St) (t : TypeId) (parts : List (Nat × Operand)) : Option AV :=
  match E.ti t, HB E s.ae parts with
  | some i, some ps => match i.zero with
    | some z => match qD (placeOf i.k) z.cells ps with
      | some cs => if i.agg && z.aH then some (.agg cs) else none
      | none => none
    | none => none
  | _, _ => none
def vJ : List (Nat × AV) → List (Nat × AV)
  | [] => []
  | (i, v) :: l => (i, v.eX) :: vJ l
def bN (E : Env) (s : St) (t : TypeId) (len : Nat) (parts : List (Nat × Operand)) : Option AV :=
  match E.ti t, HB E s.ae parts with
  | some i, some ps => match i.k with
    | .sl _ esz _ _ (some z) =>
        if Nat.beq z.cells.length esz && Nat.ble 1 esz && Nat.ble (len * esz) 16777216 && z.aH && z.closed then
          match yK esz (List.replicate len z) (vJ ps) with
          | some es => some (.list .full esz es)
          | none => none
        else none
    | _ => none
  | _, _ => none
def n6 (E : Env) (s : St) (t : TypeId) (p : SV) : Option AV :=
  match E.ti t, ks s p with
  | some i, some (cs, off) => match Aw off i.size cs with
    | some l => n5 i.agg l
    | none => none
  | _, _ => none
def eU (E : Env) (s : St) (t : TypeId) (p x : SV) : Option St :=
  match E.ti t, x with
  | some i, .v v =>
    if v.aH && Nat.beq v.cells.length i.size then
      match p with
      | .lp k off => match cF s.boxes k with
        | some cs => if Nat.ble (off + v.cells.length) cs.length then some (s.qC k (bu cs off v.cells)) else none
        | none => none
      | .v (.ptr id off) => match nth s.G id with
        | some (.row cs el) => if Nat.ble (off + v.cells.length) cs.length then some (s.aX (aq s.G id (.row (bu cs off v.cells) el))) else none
        | _ => none
      | _ => none
    else none
  | _, _ => none
def aY (es : List AV) (n : Nat) : AV := match nth es n with
  | some e => e
  | none => ea
def fL : List GO → Nat → TypeId → Nat → Option Nat
  | [], _, _, _ => none
  | .aG _ sz e :: G, aQ, e', i => match fL G aQ e' (i + 1) with
    | some j => some j
    | none => bif Nat.beq sz aQ && Nat.beq e e' then some i else none
  | _ :: G, aQ, e', i => fL G aQ e' (i + 1)
def n7 : List GO → Nat → TypeId → Nat → Option Nat
  | [], _, _, _ => none
  | .fI _ sz e :: G, aQ, e', i => match n7 G aQ e' (i + 1) with
    | some j => some j
    | none => bif Nat.beq sz aQ && Nat.beq e e' then some i else none
  | _ :: G, aQ, e', i => n7 G aQ e' (i + 1)
def aB.Vp (p : aB) (sz : Nat) (_ : TypeId) : aB := .list sz p
def aB.fin (G : List GO) : aB → aB
  | .aG e sz p => match n7 G sz e 0 with
    | some id => .eT id sz
    | none => match fL G sz e 0 with
      | some id => .aG id sz p
      | none => p.Vp sz e
  | .agg ps => .agg (OD ps)
  | p => p
where
  OD : aF → aF
    | .nil => .nil
    | .cons p ps => .cons (match p with
      | .aG e sz q => match fL G sz e 0 with
        | some id => .aG id sz q
        | none => .aG e sz q
      | p => p) (OD ps)
def EP (E : Env) (G : List GO) (t : TypeId) : Option aB := match E.QH t with
  | some p => some (p.fin G)
  | none => E.HR t
def sx (E : Env) (s : St) (id f i sz : Nat) (t : TypeId) : Option (Bool × AV) := match nth s.G id with
  | some (.cW es aQ _) => match EP E s.G t with
    | some p => if Nat.beq sz aQ then some (decide (f = es.length) && decide (i < es.length) && p.fits (aY es i), p.enc (p.bf (aY es i))) else none
    | none => if Nat.beq sz aQ then some (decide (f = es.length) && decide (i < es.length), aY es i) else none
  | _ => none
def rowOf (rows : List (List AV)) (j : Nat) : List AV := match nth rows j with
  | some r => r
  | none => []
def sy (E : Env) (s : St) (id j f i sz : Nat) (t : TypeId) : Option (Bool × AV) := match nth s.G id with
  | some (.fI rows aQ _) => match EP E s.G t with
    | some p => if Nat.beq sz aQ then some (decide (f = (rowOf rows j).length) && decide (i < (rowOf rows j).length) && p.fits (aY (rowOf rows j) i), p.enc (p.bf (aY (rowOf rows j) i))) else none
    | none => if Nat.beq sz aQ then some (decide (f = (rowOf rows j).length) && decide (i < (rowOf rows j).length), aY (rowOf rows j) i) else none
  | _ => none
def vK (E : Env) (s : St) (t : TypeId) (p : SV) : Option (Bool × AV) := match p with
  | .v (.gp id f i off sz ty) => match E.ti t, sx E s id f i sz ty with
    | some ti, some (c, v) => match Aw off ti.size v.cells with
      | some l => match n5 ti.agg l with
        | some r => some (c, r)
        | none => none
      | none => none
    | _, _ => none
  | .v (.rp id j f i off sz ty) => match E.ti t, sy E s id j f i sz ty with
    | some ti, some (c, v) => match Aw off ti.size v.cells with
      | some l => match n5 ti.agg l with
        | some r => some (c, r)
        | none => none
      | none => none
    | _, _ => none
  | p => match n6 E s t p with
    | some v => some (true, v)
    | none => none
def dy (E : Env) (s : St) (t : TypeId) (p x : SV) : Option (Bool × St) := match p with
  | .v (.gp id f i off sz ty) => match E.ti t, x, nth s.G id with
    | some ti, .v x, some (.cW es aQ el) =>
      if x.aH && Nat.beq x.cells.length ti.size && Nat.beq sz aQ then
        if Nat.beq off 0 && Nat.beq ti.size sz then some (decide (f = es.length) && decide (i < es.length), s.aX (aq s.G id (.cW (aq es i x) aQ el)))
        else match sx E s id f i sz ty with
          | some (c, .agg cs) => if Nat.ble (off + ti.size) cs.length && Nat.beq cs.length sz then some (c, s.aX (aq s.G id (.cW (aq es i (.agg (bu cs off x.cells))) aQ el))) else none
          | _ => none
      else none
    | _, _, _ => none
  | .v (.rp id j f i off sz ty) => match E.ti t, x, nth s.G id with
    | some ti, .v x, some (.fI rows aQ el) =>
      if x.aH && Nat.beq x.cells.length ti.size && Nat.beq sz aQ then
        if Nat.beq off 0 && Nat.beq ti.size sz then some (decide (f = (rowOf rows j).length) && decide (i < (rowOf rows j).length) && x.closed, s.aX (aq s.G id (.fI (aq rows j (aq (rowOf rows j) i x)) aQ el)))
        else match sy E s id j f i sz ty with
          | some (c, .agg cs) => if Nat.ble (off + ti.size) cs.length && Nat.beq cs.length sz then some (c && (AV.agg (bu cs off x.cells)).closed, s.aX (aq s.G id (.fI (aq rows j (aq (rowOf rows j) i (.agg (bu cs off x.cells)))) aQ el))) else none
          | _ => none
      else none
    | _, _, _ => none
  | p => match eU E s t p x with
    | some s' => some (true, s')
    | none => none
def nq (s : St) (p x : SV) : Bool × SV × List GO := match p, x with
  | .v (.gp _ _ _ 0 1 _), .v (.cS id f 0 sz len) => match nth s.G id with
    | some (.cW es aQ _) => (decide (f = es.length) && decide (len = es.length) && Nat.beq sz aQ && aN es, .v (.list .fY sz es), aq s.G id .dead)
    | _ => (true, x, s.G)
  | _, _ => (true, x, s.G)
def gT (E : Env) (s : St) (t : TypeId) (p x : SV) : Option (Bool × St) := match dy E (s.aX (nq s p x).2.2) t p (nq s p x).2.1 with
  | some (c, s') => some ((nq s p x).1 && c, s')
  | none => none
def iF (E : Env) (t : TypeId) (x ix : SV) : Option (Bool × SV) :=
  match E.ti t, ix with
  | some i, .v (.int _ n) => match i.k, x with
    | .sl _ esz _ _ _, .v (.list _ sz es) => if Nat.beq sz esz || es.isEmpty then
        match E.HR t with
        | some p => some (decide (0 ≤ n ∧ n < es.length) && p.fits (aY es n.toNat), .v (.ep (p.enc (p.bf (aY es n.toNat))).cells))
        | none => some (decide (0 ≤ n ∧ n < es.length), .v (.ep (aY es n.toNat).cells))
      else none
    | .sl _ esz _ _ _, .v (.gb id off sz len _) => if Nat.beq sz esz then some (decide (0 ≤ n ∧ n < len), .v (.ptr id (off + n.toNat * sz))) else none
    | .sl _ esz _ _ _, .v (.cS id f off sz len) => if Nat.beq sz esz then some (decide (0 ≤ n ∧ n < len), .v (.gp id f (off + n.toNat) 0 sz t)) else none
    | .sl _ esz _ _ _, .v (.eT id j sz len) => if Nat.beq sz esz then some (decide (0 ≤ n ∧ n < len), .v (.rp id j len n.toNat 0 sz t)) else none
    | .arr len esz _, .v (.ep cs) => match E.HR t with
      | some p => if Nat.beq esz 1 && Nat.ble len cs.length then some (decide (0 ≤ n ∧ n < len) && p.fits (aY cs n.toNat), .v (.ep [p.enc (p.bf (aY cs n.toNat))])) else none
      | none => some (decide (0 ≤ n ∧ n < len), .v (.ep (dF (n.toNat * esz) cs)))
    | .arr len esz _, p => match vI (n.toNat * esz) p with
      | some q => some (decide (0 ≤ n ∧ n < len), q)
      | none => none
    | _, _ => none
  | _, _ => none
def iG (E : Env) (t : TypeId) (x : SV) (j : Nat) : Option SV :=
  match E.ti t with
  | some i => match i.k with
    | .st fs => match nth fs j with
      | some (o, sz, _) => if Nat.ble 1 sz then vI o x else none
      | none => none
    | _ => none
  | none => none
def Ay (E : Env) (t : TypeId) (x : SV) (j : Nat) : Option AV :=
  match E.ti t, x with
  | some i, .v (.agg cs) => match i.k with
    | .st fs => match nth fs j with
      | some (o, sz, ag) => if ag then (match Aw o sz cs with | some l => n5 true l | none => none) else (match Aw o 1 cs with | some l => n5 false l | none => none)
      | none => none
    | _ => none
  | _, _ => none
def Az (E : Env) (t : TypeId) (x ix : SV) : Option (Bool × AV) :=
  match E.ti t, x, ix with
  | some i, .v (.str l), .v (.int _ n) => match i.k with
    | .str => some (decide (0 ≤ n ∧ n < l.length), .int .u8 (l.getD n.toNat 0).toNat)
    | _ => none
  | some i, .v (.agg cs), .v (.int _ n) => match i.k with
    | .arr len esz ag => match (if ag then (match Aw (n.toNat * esz) esz cs with | some l => n5 true l | none => none) else (match Aw (n.toNat * esz) 1 cs with | some l => n5 false l | none => none)) with
      | some v => some (decide (0 ≤ n ∧ n < len), v)
      | none => none
    | _ => none
  | _, _, _ => none
def sA (y : Nat) : SV → Option (Bool × Nat)
  | .v (.int _ n) => some (decide (0 ≤ n ∧ n ≤ y), n.toNat)
  | _ => none
def nr {α : Type} (lo hi : Nat) (l : List α) : List α := (l.take hi).drop lo
def jl (E : Env) (ae : aT) : Option Operand → Option (Option SV)
  | none => some none
  | some x => some (some (ba E ae x))
def wV (len : Nat) (lo hi : Option SV) : Option (Bool × Nat × Nat) :=
  match (match hi with | none => some (true, len) | some h => sA len h) with
  | none => none
  | some (c1, h) => match (match lo with | none => some (true, 0) | some l => sA h l) with
    | none => none
    | some (c2, l) => some (c1 && c2, l, h)
def OE (agg : Bool) (l : List AV) : AV := match agg with
  | true => .agg l
  | false => cX l
def fq (agg : Bool) (sz : Nat) : Nat → List AV → List AV
  | 0, _ => []
  | n + 1, cs => OE agg (cs.take sz) :: fq agg sz n (cs.drop sz)
def AA (ag : Bool) (e : AV) : Bool := e.aH && (ag || e.one) && e.closed
def wW (E : Env) (t : TypeId) (x : SV) (lo hi : Option SV) (mx : Option Operand) : Option (Bool × AV) :=
  match E.ti t, mx with
  | some i, none => match i.k, x with
    | .str, .v (.str l) => match wV l.length lo hi with
      | some (c, a, b) => some (c, .str (nr a b l))
      | none => none
    | .sl _ esz _ _ _, .v (.list k sz es) =>
      if Nat.beq sz esz || es.isEmpty then
        match wV es.length lo hi with
        | some (c, a, b) => some (c, .list (match k with | .nil => .nil | .full => (match hi with | none => .full | some _ => .fY) | _ => .fY) esz (nr a b es))
        | none => none
      else none
    | .sl _ esz _ _ _, .v (.gb id off sz len cap) =>
      if Nat.beq sz esz then
        match wV len lo hi with
        | some (c, a, b) => some (c, .gb id (bif Nat.beq cap a then off else off + a * sz) sz (b - a) (cap - a))
        | none => none
      else none
    | .sl _ esz _ _ _, .v (.cS id f off sz len) =>
      if Nat.beq sz esz then
        match wV len lo hi with
        | some (c, a, b) => some (c, .cS id f (off + a) sz (b - a))
        | none => none
      else none
    | .arr len esz ag, .v (.ep cs) => match lo, hi with
      | none, none => if Nat.ble (len * esz) cs.length && Nat.ble 1 esz && (ag || Nat.beq esz 1) && allFit (AA ag) (fq ag esz len cs) then some (true, .list .full esz (fq ag esz len cs)) else none
      | _, _ => none
    | _, _ => none
  | _, _ => none
def EQ (G : List GO) (id n : Nat) (f sz : Nat) (e : TypeId) : List GO := aq G id (.tok (f + n) sz e)
def Dp (fs : List Nat) (j n : Nat) : List Nat := bif Nat.beq j fs.length then fs ++ [n] else aq fs j n
def HS (fs : List Nat) (j n : Nat) : Bool := decide (nth fs j = some n) || (Nat.beq j fs.length && Nat.beq n 0)
def dc (G : List GO) (elem esz aS : Nat) (x : AV) (ys : List AV) : Option (Bool × AV × List GO) :=
  match x, ys with
  | .list k sz es, [] => match k with
    | .nil => some (true, .list .nil sz es, G)
    | k => some (true, .list k sz es, G)
  | .list k sz es, y :: ys =>
    match k with
    | .nil => some (decide ((es.length + (y :: ys).length) * aS ≤ 140737488355328), .list (.own G.length) esz (es ++ (y :: ys)), G ++ [.tok (es.length + (y :: ys).length) esz elem])
    | .full => if Nat.beq sz esz then some (decide ((es.length + (y :: ys).length) * aS ≤ 140737488355328), .list (.own G.length) esz (es ++ (y :: ys)), G ++ [.tok (es.length + (y :: ys).length) esz elem]) else none
    | .own id => match nth G id with
      | some (.tok f aQ e') => if Nat.beq aQ esz && Nat.beq e' elem && Nat.beq sz esz then
          some (decide (f = es.length) && decide ((es.length + (y :: ys).length) * aS ≤ 140737488355328), .list (.own id) esz (es ++ (y :: ys)), EQ G id (y :: ys).length f esz elem) else none
      | _ => none
    | .aG id j => match nth G id with
      | some (.aG fs aQ e') => if Nat.beq aQ esz && Nat.beq e' elem && Nat.beq sz esz then
          some (HS fs j es.length && decide ((es.length + (y :: ys).length) * aS ≤ 140737488355328), .list (.aG id j) esz (es ++ (y :: ys)), aq G id (.aG (Dp fs j (es.length + (y :: ys).length)) esz elem)) else none
      | _ => none
    | .fY => none
  | .cS id f off sz len, [] => some (true, .cS id f off sz len, G)
  | .cS id f off sz len, y :: ys => match nth G id with
    | some (.cW es aQ e') => if Nat.beq aQ esz && Nat.beq e' elem && Nat.beq sz esz then
        some (decide (f = es.length) && decide (off = 0) && decide (len = f) && decide ((es.length + (y :: ys).length) * aS ≤ 140737488355328), .cS id (es.length + (y :: ys).length) 0 esz (es.length + (y :: ys).length), aq G id (.cW (es ++ (y :: ys)) esz elem)) else none
    | _ => none
  | .eT id j sz len, [] => some (true, .eT id j sz len, G)
  | .eT id j sz len, y :: ys => match nth G id with
    | some (.fI rows aQ e') => if Nat.beq aQ esz && Nat.beq e' elem && Nat.beq sz esz then
        some (decide (j < rows.length) && decide (len = (rowOf rows j).length) && decide (((rowOf rows j).length + (y :: ys).length) * aS ≤ 140737488355328), .eT id j esz (len + (y :: ys).length), aq G id (.fI (aq rows j (rowOf rows j ++ (y :: ys))) esz elem)) else none
    | _ => none
  | _, _ => none
def n8 (b : UInt8) : AV := .int .u8 b.toNat
def nt (es : List AV) : List UInt8 := es.map fun a => UInt8.ofNat a.np.toNat
def sB (es : List AV) : List UInt8 := es.flatMap fun a => (Utf8.encode a.np).data.toList
def Dq : AV → List AV → Option AV
  | x, [] => some x
  | .int k x, .int k' y :: l => if k = k' then Dq (.int k (if y > x then y else x)) l else none
  | _, _ => none
def AB : AV → List AV → Option AV
  | x, [] => some x
  | .int k x, .int k' y :: l => if k = k' then AB (.int k (if y < x then y else x)) l else none
  | .str x, .str y :: l => AB (.str (bif Op.bytesLess x y || x == y then x else y)) l
  | _, _ => none
def ap : List AV → List AV
  | [] => []
  | e :: es => e.cells ++ ap es
def oa (s : St) (esz : Nat) (d x : AV) : Option (Nat × List GO) :=
  match d with
  | .gb id off sz len _ => match nth s.G id with
    | some (.row cs el) =>
      if Nat.beq sz esz then
        match x with
        | .list _ aQ es => if Nat.beq aQ esz || es.isEmpty then
            let n := Nat.min es.length len
            let l := ap (es.take n)
            if Nat.ble (off + l.length) cs.length then some (n, aq s.G id (.row (bu cs off l) el)) else none
          else none
        | .str bs =>
            if Nat.beq esz 1 && Nat.ble (off + (bs.take (Nat.min bs.length len)).length) cs.length then some (Nat.min bs.length len, aq s.G id (.row (bu cs off ((bs.take (Nat.min bs.length len)).map n8)) el)) else none
        | .gb fJ dT aQ AD _ => match nth s.G fJ with
          | some (.row di _) =>
            let n := Nat.min AD len
            match Aw dT (n * esz) di with
            | some l => if Nat.beq aQ esz && Nat.ble (off + l.length) cs.length then some (n, aq s.G id (.row (bu cs off l) el)) else none
            | none => none
          | _ => none
        | _ => none
      else none
    | _ => none
  | .cS id f off sz len => match nth s.G id, x with
    | some (.cW es aQ el), .list _ RA xs => if Nat.beq sz esz && Nat.beq aQ sz && (Nat.beq RA esz || xs.isEmpty) && Nat.ble f es.length && Nat.ble es.length f && Nat.ble (off + Nat.min xs.length len) es.length then
        some (Nat.min xs.length len, aq s.G id (.cW (bu es off (xs.take (Nat.min xs.length len))) aQ el)) else none
    | _, _ => none
  | _ => none
def bG (E : Env) (s : St) (dst : Option Tmp) (b : Builtin) (args : List AV) (tys : List TypeId) : Option (Bool × St) :=
  match b, args with
  | .len, [x] => match tys with
    | t :: _ => match E.ti t with
      | some i => match i.k, x with
        | .str, .str l => some (true, s.put dst (.v (.int .i64 l.length)))
        | .sl .., .list _ _ es => some (true, s.put dst (.v (.int .i64 es.length)))
        | .sl .., .gb _ _ _ len _ => some (true, s.put dst (.v (.int .i64 len)))
        | .sl .., .cS _ _ _ _ len => some (true, s.put dst (.v (.int .i64 len)))
        | .sl .., .eT _ _ _ len => some (true, s.put dst (.v (.int .i64 len)))
        | .arr n _ _, _ => some (true, s.put dst (.v (.int .i64 n)))
        | .map .., .jW => some (true, s.put dst (.v (.int .i64 0)))
        | .map .., .map id => match nth s.G id with
          | some (.map es) => some (true, s.put dst (.v (.int .i64 es.length)))
          | _ => none
        | _, _ => none
      | none => none
    | _ => none
  | .append, [x, .list _ sz ys] => match tys with
    | [t, u] => match E.ti t with
      | some i => match i.k with
        | .sl elem esz _ aS (some z) =>
          if (Nat.beq sz esz || ys.isEmpty) && Nat.beq t u && Nat.ble 1 esz && Nat.ble 1 aS && Nat.beq z.cells.length esz && z.aH then
            match dc s.G elem esz aS x ys with
            | some (c, v, G') => some (c, (s.aX G').put dst (.v v))
            | none => none
          else none
        | _ => none
      | none => none
    | _ => none
  | .append, [x, .str bs] => match tys with
    | [t, u] => match E.ti t, E.ti u with
      | some i, some j => match i.k, j.k with
        | .sl elem esz _ aS (some z), .str =>
          if Nat.beq esz 1 && Nat.ble 1 aS && Nat.beq z.cells.length esz && z.aH then
            match dc s.G elem esz aS x (bs.map n8) with
            | some (c, v, G') => some (c, (s.aX G').put dst (.v v))
            | none => none
          else none
        | _, _ => none
      | _, _ => none
    | _ => none
  | .append, [.cS id f off sz len, .gb N9 0 1 1 _] => match nth s.G N9, tys with
    | some (.row [.eT y1 y2 y3 y4] _), [t, u] => match E.ti t with
      | some i => match i.k with
        | .sl elem esz _ aS (some z) =>
          if Nat.beq esz 1 && Nat.beq t u && Nat.ble 1 aS && Nat.beq z.cells.length esz && z.aH then
            match dc s.G elem esz aS (.cS id f off sz len) [.eT y1 y2 y3 y4] with
            | some (c, v, G') => some (c, (s.aX G').put dst (.v v))
            | none => none
          else none
        | _ => none
      | none => none
    | _, _ => none
  | .append, [x, .cS id f 0 sz len] => match nth s.G id, tys with
    | some (.cW ys aQ _), [t, u] => match E.ti t with
      | some i => match i.k with
        | .sl elem esz _ aS (some z) =>
          if Nat.beq sz aQ && Nat.beq sz esz && Nat.beq f ys.length && Nat.beq len ys.length && aN ys && Nat.beq t u && Nat.ble 1 esz && Nat.ble 1 aS && Nat.beq z.cells.length esz && z.aH then
            match dc s.G elem esz aS x ys with
            | some (c, v, G') => some (c, (s.aX G').put dst (.v v))
            | none => none
          else none
        | _ => none
      | none => none
    | _, _ => none
  | .copy, [d, x] => match tys with
    | t :: _ => match E.ti t with
      | some i => match i.k with
        | .sl _ esz _ _ _ => match oa s esz d x with
          | some (n, G') => some (true, (s.aX G').put dst (.v (.int .i64 n)))
          | none => none
        | _ => none
      | none => none
    | _ => none
  | .clear, [x] => match dst, tys, x with
    | none, [t], .cS id f off sz len => match E.ti t, nth s.G id with
      | some i, some (.cW es aQ el) => match i.k with
        | .sl elem esz _ _ (some z) => if Nat.beq sz esz && Nat.beq aQ sz && Nat.beq el elem && Nat.beq z.cells.length esz && z.aH && z.closed then
            some (decide (f = es.length) && decide (off + len ≤ es.length), s.aX (aq s.G id (.cW (bu es off (List.replicate len z)) aQ el))) else none
        | _ => none
      | _, _ => none
    | _, _, _ => none
  | .max, x :: l => match Dq x l with
    | some v => some (true, s.put dst (.v v))
    | none => none
  | .min, x :: l => match AB x l with
    | some v => some (true, s.put dst (.v v))
    | none => none
  | _, _ => none
def EK.plain : EK → Bool
  | .bool | .int | .str => true
  | .st _ => true
  | _ => false
def EK.wide : EK → Bool
  | .st _ => true
  | _ => false
def rZ : AV → Bool
  | .bool _ => true
  | .int _ _ => true
  | .str _ => true
  | _ => false
def sC : AV → AV → Bool
  | .bool a, .bool b => a == b
  | .int k a, .int l b => decide (k = l) && a == b
  | .str a, .str b => a == b
  | _, _ => false
def ob : List AV → List AV → Bool
  | [], [] => true
  | a :: l, b :: r => sC a b && ob l r
  | _, _ => false
def mz : AV → AV → Bool
  | .agg xs, .agg ys => ob xs ys
  | _, _ => false
def HC (e : EK) (a b : AV) : Option Bool := match jH e a b with
  | some true => bif e.wide && !mz a b then none else some true
  | r => r
def gd (e : EK) (k : AV) : List (AV × AV) → Option (Option AV)
  | [] => some none
  | (k', v) :: l => match HC e k k' with
    | some true => some (some v)
    | some false => gd e k l
    | none => none
def pS (e : EK) (k v : AV) : List (AV × AV) → Option (List (AV × AV))
  | [] => some [(k, v)]
  | (k', v') :: l => match HC e k k' with
    | some true => some ((k, v) :: l)
    | some false => match pS e k v l with
      | some r => some ((k', v') :: r)
      | none => none
    | none => none
def fM : EK → AV → Bool
  | .bool, .bool _ => true
  | .int, .int _ _ => true
  | .str, .str _ => true
  | .st fs, .agg cs => cs.all rZ && (pR fs cs cs).isSome
  | _, _ => false
def mapOf (s : St) : SV → Option (List (AV × AV))
  | .v .jW => some []
  | .v (.map id) => match nth s.G id with
    | some (.map es) => some es
    | _ => none
  | _ => none
def fN (G : List GO) (id : Nat) : List Nat := match nth G id with
  | some (.aG fs _ _) => fs
  | _ => []
def yL (E : Env) (G : List GO) (t : TypeId) (z : AV) : AV := match E.QH t, z with
  | some (.aG e sz _), .list .nil _ [] => match fL G sz e 0 with
    | some id => .list (.aG id (fN G id).length) sz []
    | none => z
  | _, _ => z
def gC (E : Env) (s : St) (t : TypeId) (m k : SV) : Option (AV × Bool) := match E.ti t, mapOf s m, k with
  | some i, some es, .v k => match i.k with
    | .map kt _ (some z) => match E.ti kt with
      | some j => if j.ek.plain && fM j.ek k then match gd j.ek k es with
          | some (some v) => some (v, true)
          | some none => some (z, false)
          | none => none
        else none
      | none => none
    | _ => none
  | _, _, _ => none
def jt (E : Env) (s : St) (t : TypeId) (m k : SV) : Option (AV × Bool) := match gC E s t m k with
  | some (v, false) => some (yL E s.G t v, false)
  | r => r
def dI (E : Env) (s : St) (t : TypeId) (m k x : SV) : Option St := match E.ti t, m, k, x with
  | some i, .v (.map id), .v k, .v x => match i.k, nth s.G id with
    | .map kt _ _, some (.map es) => match E.ti kt with
      | some j => if j.ek.plain && fM j.ek k then match pS j.ek k x es with
          | some es' => some (s.aX (aq s.G id (.map es')))
          | none => none
        else none
      | none => none
    | _, _ => none
  | _, _, _, _ => none
def aZ (l : List UInt8) (pos : Nat) : Nat × Nat :=
  bif Nat.blt (l.getD pos 0).toNat 128 then ((l.getD pos 0).toNat, 1) else Utf8.decode ⟨⟨l⟩⟩ pos
def ju (s : St) (dst : Option Tmp) (x : SV) : Option St := match x with
  | .v (.ptr id 0) => match nth s.G id with
    | some (.eR l pos) => bif Nat.blt pos l.length then
        match aZ l pos with
        | (c, n) => some ((s.aX (aq s.G id (.eR l (pos + n)))).put dst (.v (.bC [.bool true, .int .i64 pos, .int .i32 c])))
      else some (s.put dst (.v (.bC [.bool false])))
    | _ => none
  | _ => none
def vk (es : List (AV × AV)) (i : Nat) : AV × AV := match nth es i with
  | some e => e
  | none => (ea, ea)
def KE (E : Env) (kt : TypeId) : Option aB := match E.HR kt with
  | some p => some p
  | none => match E.ti kt with
    | some i => match i.k with
      | .int k => some (.int k)
      | .str => some .str
      | _ => none
    | none => none
def od (E : Env) (t : TypeId) (e : AV × AV) : Bool × AV × AV := match E.ti t with
  | some i => match i.k with
    | .map kt _ _ => match E.HR t, KE E kt with
      | some pv, some pk => (pk.fits e.1 && pv.fits e.2, pk.enc (pk.bf e.1), pv.enc (pv.bf e.2))
      | _, _ => (true, e.1, e.2)
    | _ => (true, e.1, e.2)
  | none => (true, e.1, e.2)
def vL (E : Env) (s : St) (dst : Option Tmp) (x : SV) : Option (Bool × St × List Nat × (Nat → Bool × St)) := match x with
  | .v (.ptr id 0) => match nth s.G id with
    | some (.ls eC n left _ t) => match nth s.G eC with
      | some (.map es) => some (decide (es.length = n), s.put dst (.v (.bC [.bool false])), left,
          fun i => ((od E t (vk es i)).1, (s.aX (aq s.G id (.ls eC n (left.erase i) (some i) t))).put dst (.v (.bC [.bool true, (od E t (vk es i)).2.1, (od E t (vk es i)).2.2]))))
      | _ => none
    | _ => none
  | _ => none
def pT (E : Env) (s : St) (o : Oper) : Option (Bool × St × List Nat × (Nat → Bool × St)) := match o.op with
  | .next x false => vL E s o.dst (ba E s.ae x)
  | _ => none
def HT : AV → Option Bool
  | .list .nil _ _ => some true
  | .list .full _ _ => some false
  | .list _ _ (_ :: _) => some false
  | .gb _ _ _ _ _ => some false
  | .cS _ _ _ _ (_ + 1) => some false
  | .gB => some true
  | .ptr _ _ => some false
  | .ep _ => some false
  | _ => none
def AE : AV → Option Bool
  | .list .nil _ [] => some true
  | .gB => some false
  | _ => none
def KF (P : Program) (t : TypeId) : Bool := match P.underlying t with
  | some (.slice _) => true
  | _ => false
def KG (P : Program) (t : TypeId) : Bool := match P.underlying t with
  | some (.pointer _) => true
  | _ => false
def QI : AV → Bool
  | .list _ _ _ => true
  | .gb _ _ _ _ _ => true
  | .cS _ _ _ _ _ => true
  | _ => false
def qE (P : Program) (t : TypeId) (a b : AV) : Bool := match AE b with
  | some true => QI a && KF P t
  | some false => !QI a && KG P t
  | none => false
def KH (E : Env) (op : BinOp) (t : TypeId) (a b : AV) : Option Bool := match op, HT a with
  | .eql, some r => bif qE E.P t a b then some r else none
  | .neq, some r => bif qE E.P t a b then some (!r) else none
  | _, _ => none
def RB (E : Env) (op : BinOp) (t : TypeId) (a b : AV) : Option Bool := match op, E.ti t with
  | .eql, some i => jH i.ek a b
  | .neq, some i => match jH i.ek a b with
    | some r => some (!r)
    | none => none
  | _, _ => none
def ig (E : Env) (s : St) (t : TypeId) (len : Nat) (parts : List (Nat × Operand)) : Option (List AV) :=
  match E.ti t, HB E s.ae parts with
  | some i, some ps => match i.k with
    | .sl _ esz _ _ (some z) =>
        if Nat.beq z.cells.length esz && Nat.ble 1 esz && Nat.ble (len * esz) 16777216 && z.aH then
          qD (fun i => some (i * esz, esz)) (ap (List.replicate len z)) (vJ ps)
        else none
    | _ => none
  | _, _ => none
def gD (E : Env) (f : FuncId) (s : St) (o : Oper) : Option St := match o.op with
  | .buildSlice t len parts => match o.dst with
    | some d => if E.sw f d then match E.ti t with
        | some i => match i.k, bN E s t len parts.toList with
          | .sl elem _ _ _ _, some (.list _ esz es) => some ((s.cI (.row (ap es) elem)).put (some d) (.v (.gb s.G.length 0 esz len len)))
          | .sl elem esz _ _ _, none => match ig E s t len parts.toList with
            | some cs => some ((s.cI (.row cs elem)).put (some d) (.v (.gb s.G.length 0 esz len len)))
            | none => none
          | _, _ => none
        | none => none
      else if E.sw f (d + 196608) then match E.ti t with
        | some i => match i.k, bN E s t len parts.toList with
          | .sl elem _ _ _ _, some (.list _ esz es) => if Nat.ble len 65536 then some ((s.cI (.cW es esz elem)).put (some d) (.v (.cS s.G.length len 0 esz len))) else none
          | _, _ => none
        | none => none
      else if E.sw f (d + 65536) then match E.ti t with
        | some i => match i.k, bN E s t len parts.toList with
          | .sl elem _ _ _ _, some (.list _ esz es) => if Nat.ble len 65536 then some ((s.cI (.tok len esz elem)).put (some d) (.v (.list (.own s.G.length) esz es))) else none
          | _, _ => none
        | none => none
      else none
    | none => none
  | _ => none
def vM (wk : Bool) (es : List AV) : List AV := match wk with
  | true => es.map AV.eX
  | false => es
def jZ (wk : Bool) : List AV → List GO → Bool × List AV × List GO
  | [], G => (true, [], G)
  | .cS id f 0 sz len :: l, G => match nth G id with
    | some (.cW es aQ _) => match jZ wk l (aq G id .dead) with
      | (c, r, G') => (decide (f = es.length) && decide (len = es.length) && Nat.beq sz aQ && aN (vM wk es) && c, .list .fY sz (vM wk es) :: r, G')
    | _ => match jZ wk l G with
      | (_, r, G') => (false, r, G')
  | a :: l, G => match jZ wk l G with
    | (c, r, G') => (c, a :: r, G')
def kv (cut wk : Bool) (s : St) (t : Tmp) : Option (Bool × St) := match lk s.ae t with
  | .v (.cS id f off sz len) => match nth s.G id with
    | some (.cW es aQ _) => if Nat.beq off 0 && Nat.beq sz aQ then
        some (decide (f = es.length) && (bif cut then decide (len ≤ es.length) else decide (len = es.length)) && aN (vM wk es), ⟨.put t (.v (.list .fY sz (vM wk (bif cut then es.take len else es)))) :: s.ae, s.boxes, aq s.G id .dead, s.marks, s.ro, s.n⟩) else none
    | _ => none
  | .v (.ptr id 0) => match nth s.G id with
    | some (.row cs _) => some (aN cs, ⟨.put t (.v (.ep cs)) :: s.ae, s.boxes, aq s.G id .dead, s.marks, s.ro, s.n⟩)
    | _ => none
  | .v (.agg cs) => match jZ wk cs s.G with
    | (c, di, G') => some (c, ⟨.put t (.v (.agg di)) :: s.ae, s.boxes, G', s.marks, s.ro, s.n⟩)
  | _ => none
def fj (cut wk : Bool) : List Operand → St → Bool × St
  | [], s => (true, s)
  | .tmp t :: l, s => match kv cut wk s t with
    | some (c, s') => match fj cut wk l s' with
      | (c', s2) => (c && c', s2)
    | none => fj cut wk l s
  | _ :: l, s => fj cut wk l s
def Dr (E : Env) (f : FuncId) (s : St) (o : Oper) : Option (Bool × St) := match o.dst with
  | some d => if E.sw f (d + 262144) then some (fj (E.sw f (d + 393216)) (E.sw f (d + 458752)) o.op.operands.toList s) else none
  | none => none
def j6 (E : Env) (s : St) (a b : TypeId) (x : SV) : Option (Bool × AV) :=
  match E.ti a, E.ti b, x with
  | some i, some j, .v x => match j.k, x with
    | .int k, .int _ n => some (true, .int k (k.wrap n))
    | .str, .list _ sz es => match i.k with
      | .sl elem 1 _ _ _ => match E.ti elem with
        | some e => match e.k with
          | .int .u8 => some ((Nat.beq sz 1 || es.isEmpty) && allFit (aB.fits (.int .u8)) es, .str (nt es))
          | .int .i32 => some ((Nat.beq sz 1 || es.isEmpty) && allFit (aB.fits (.int .i32)) es, .str (sB es))
          | _ => none
        | none => none
      | _ => none
    | .str, .gb id off 1 len _ => match i.k, nth s.G id with
      | .sl elem 1 _ _ _, some (.row cs _) => match E.ti elem with
        | some e => match e.k with
          | .int .u8 => some (Nat.ble (off + len) cs.length && allFit (aB.fits (.int .u8)) (nr off (off + len) cs), .str (nt (nr off (off + len) cs)))
          | _ => none
        | none => none
      | _, _ => none
    | _, _ => none
  | _, _, _ => none
def Ds (id sz : Nat) : List AV → List Nat → Option (List AV × List Nat)
  | [], fs => some ([], fs)
  | .list .nil _ [] :: l, fs => match Ds id sz l (fs ++ [0]) with
    | some (r, wX) => some (.list (.aG id fs.length) sz [] :: r, wX)
    | none => none
  | .list .full aQ es :: l, fs => if Nat.beq sz aQ then match Ds id sz l (fs ++ [es.length]) with
      | some (r, wX) => some (.list (.aG id fs.length) sz es :: r, wX)
      | none => none
    else none
  | _ :: _, _ => none
def yA (e : EK) (k k' : AV) : Bool := match HC e k k' with
  | some b => b
  | none => false
def cQ (e : EK) (k : AV) : List (AV × AV) → Bool
  | [] => true
  | (k', _) :: l => (HC e k k').isSome && cQ e k l
def ec (e : EK) (k : AV) : List (AV × AV) → Option AV
  | [] => none
  | (k', v) :: l => bif yA e k k' then some v else ec e k l
def a6 (e : EK) (k v : AV) : List (AV × AV) → List (AV × AV)
  | [] => [(k, v)]
  | (k', v') :: l => bif yA e k k' then (k, v) :: l else (k', v') :: a6 e k v l
def cg (e : EK) (k z : AV) (es : List (AV × AV)) : AV := (ec e k es).getD z
def jI (e : EK) (k : AV) : List (AV × AV) → Nat
  | [] => 0
  | (k', _) :: l => bif yA e k k' then 0 else jI e k l + 1
def lx : List (AV × AV) → Nat → AV → List (AV × AV)
  | [], _, _ => []
  | (k, _) :: l, 0, x => (k, x) :: l
  | e :: l, n + 1, x => e :: lx l n x
def pU (E : Env) (s : St) (x : SV) : Option (Bool × AV) := match x with
  | .v (.ptr id 0) => match nth s.G id with
    | some (.ls eC n _ (some i) t) => match nth s.G eC with
      | some (.map es) => some (decide (es.length = n) && decide (i < n) && (od E t (vk es i)).1, .bC [(od E t (vk es i)).2.1, (od E t (vk es i)).2.2])
      | _ => none
    | _ => none
  | _ => none
def eE (E : Env) (s : St) (t : TypeId) (m k : SV) : Option (Bool × AV × St) := match E.ti t, m, k with
  | some i, .v (.map id), .v k => match i.k, nth s.G id with
    | .map kt _ (some z), some (.map es) => match E.ti kt with
      | some j => if j.ek.plain && fM j.ek k then
          some (cQ j.ek k es, .bC [cg j.ek k z es, .int .i64 (jI j.ek k es : Nat)], s.aX (aq s.G id (.map (a6 j.ek k (cg j.ek k z es) es)))) else none
      | none => none
    | _, _ => none
  | _, _, _ => none
def dj (s : St) (m st x : SV) : Option (Bool × St) := match m, st, x with
  | .v (.map id), .v (.int .i64 n), .v v => match nth s.G id with
    | some (.map es) => some (decide (0 ≤ n) && decide (n.toNat < es.length), s.aX (aq s.G id (.map (lx es n.toNat v))))
    | _ => none
  | _, _, _ => none
def eY (E : Env) (f : FuncId) (s : St) (o : Oper) : Option (Bool × St) := match o.dst with
  | some d => if E.sw f (d + 524288) then match o.op with
      | .call { callee := .builtin .append, args, argTypes } => match js E s.ae args.toList, argTypes.toList with
        | some [.cS id g off sz len, .list k TO (y :: ys)], [t, u] => match E.ti t with
          | some i => match i.k with
            | .sl elem esz _ aS (some z) => match E.ti elem with
              | some j => match j.k with
                | .sl e2 nV _ _ _ => match fL s.G nV e2 0 with
                  | some gf => match Ds gf nV (y :: ys) (fN s.G gf), nth s.G id with
                    | some (Dt, wX), some (.cW es aQ e') =>
                      if Nat.beq TO esz && Nat.beq aQ esz && Nat.beq e' elem && Nat.beq sz esz && Nat.beq t u && Nat.ble 1 esz && Nat.ble 1 aS && Nat.beq z.cells.length esz && z.aH then
                        some (decide (g = es.length) && decide (off = 0) && decide (len = g) && decide ((es.length + (y :: ys).length) * aS ≤ 140737488355328),
                          (s.aX (aq (aq s.G gf (.aG wX nV e2)) id (.cW (es ++ Dt) esz elem))).put o.dst (.v (.cS id (es.length + (y :: ys).length) 0 esz (es.length + (y :: ys).length))))
                      else none
                    | _, _ => none
                  | none => none
                | _ => none
              | none => none
            | _ => none
          | none => none
        | _, _ => none
      | _ => none
    else none
  | none => none
def nu (E : Env) (f : FuncId) (s : St) (o : Oper) : Option (Bool × St) := match o.dst with
  | some d => if E.sw f (d + 524288) then match o.op with
      | .lookup t m k ok => match E.QH t, E.ti t, ba E s.ae m, ba E s.ae k with
        | some (.aG e sz p), some i, .v (.map id), .v k => match i.k, nth s.G id with
          | .map kt _ (some (.list .nil _ [])), some (.map es) => match E.ti kt, fL s.G sz e 0 with
            | some j, some gf => if j.ek.plain && fM j.ek k then
                some (cQ j.ek k es && (aB.aG gf sz p).fits (cg j.ek k (.list (.aG gf (fN s.G gf).length) sz []) es),
                  (s.aX (aq s.G gf (.aG (fN s.G gf ++ [0]) sz e))).put o.dst (.v (if ok then .bC [(aB.aG gf sz p).enc ((aB.aG gf sz p).bf (cg j.ek k (.list (.aG gf (fN s.G gf).length) sz []) es)), .bool (ec j.ek k es).isSome]
                    else (aB.aG gf sz p).enc ((aB.aG gf sz p).bf (cg j.ek k (.list (.aG gf (fN s.G gf).length) sz []) es)))))
              else none
            | _, _ => none
          | _, _ => none
        | _, _, _, _ => none
      | _ => none
    else none
  | none => none
def AF (E : Env) (f : FuncId) (s : St) (o : Oper) : Option (Bool × St) := match o.op, o.dst with
  | .slice t x (some lo) none none, some d => if E.sw f (d + 524288) then match E.ti t, ba E s.ae x, ba E s.ae lo with
      | some i, .v (.list (.own id) sz es), .v (.int _ n) => match i.k, nth s.G id with
        | .sl _ esz _ _ _, some (.tok f0 aQ e) =>
          if Nat.beq sz esz && Nat.beq aQ sz then
            some (decide (f0 = es.length) && (decide (0 < es.length) && decide (0 ≤ n ∧ n ≤ es.length)), (s.aX (aq s.G id .dead ++ [.tok (es.length - n.toNat) sz e])).put (some d) (.v (.list (.own s.G.length) sz (es.drop n.toNat))))
          else none
        | _, _ => none
      | _, _, _ => none
    else none
  | _, _ => none
def qF (E : Env) (f : FuncId) (s : St) (o : Oper) : Option (Bool × St) := match AF E f s o with
  | some r => some r
  | none => nu E f s o
def RC (E : Env) (f : FuncId) (d : Option Tmp) : Bool := match d with
  | some d => E.sw f (d + 196608)
  | none => false
def mA : List GO → Nat → TypeId → Nat → Option Nat
  | [], _, _, _ => none
  | .cW es sz e :: G, aQ, e', i => match mA G aQ e' (i + 1) with
    | some j => some j
    | none => bif Nat.beq sz aQ && Nat.beq e e' then (match es with
      | [] => some i
      | _ => none) else none
  | _ :: G, aQ, e', i => mA G aQ e' (i + 1)
def RD (E : Env) (f : FuncId) (d : Option Tmp) : Bool := match d with
  | some d => E.sw f (d + 589824)
  | none => false
def kw (s : St) (dst : Option Tmp) (elem esz aS : Nat) (z : AV) (n m : Int) : Option (Bool × St) := match mA s.G esz elem 0 with
  | some id => if z.closed then some (decide (1 ≤ n ∧ n ≤ m ∧ m ≤ 140737488355328 ∧ m * aS ≤ 140737488355328), (s.aX (aq s.G id (.cW (List.replicate n.toNat z) esz elem))).put dst (.v (.cS id n.toNat 0 esz n.toNat))) else none
  | none => none
def ak (E : Env) (f : FuncId) (s : St) (o : Oper) : Option (Bool × St) :=
  match o.op with
  | .move x => match ba E s.ae x with
    | .v a => some (true, s.put o.dst (.v a))
    | .lp k off => some (true, s.put o.dst (.lp k off))
    | .none => some (true, s.put o.dst .none)
  | .assign x => match ba E s.ae x with
    | .v a => some (true, s.put o.dst (.v a))
    | .lp k off => some (true, s.put o.dst (.lp k off))
    | .none => some (true, s.put o.dst .none)
  | .pick c a b => match ba E s.ae c, ba E s.ae a, ba E s.ae b with
    | .v (.bool t), .v x, .v y => some (true, s.put o.dst (.v (wU t x y)))
    | _, _, _ => none
  | .alloc e => match E.ti e with
    | some i => match i.zero with
      | some z => if z.aH then dH E f s o.dst e z.cells else none
      | none => none
    | none => none
  | .box t x => match ba E s.ae x with
    | .v v => if v.aH then dH E f s o.dst t v.cells else none
    | _ => none
  | .build t parts => match ku E s t parts.toList with
    | some v => some (true, s.put o.dst (.v v))
    | none => none
  | .buildSlice t len parts => match bN E s t len parts.toList with
    | some v => some (true, s.put o.dst (.v v))
    | none => none
  | .load t a => match vK E s t (ba E s.ae a) with
    | some (c, v) => some (c, s.put o.dst (.v v))
    | none => none
  | .store t a x => match o.dst, gT E s t (ba E s.ae a) (ba E s.ae x) with
    | none, some (c, s') => some (c, s')
    | _, _ => none
  | .binOp op t x y _ => match ba E s.ae x, ba E s.ae y with
    | .v a, .v b => match yJ op a b with
      | some (c, v) => some (c, s.put o.dst (.v v))
      | none => match RB E op t a b with
        | some r => some (true, s.put o.dst (.v (.bool r)))
        | none => match KH E op t a b with
          | some r => some (true, s.put o.dst (.v (.bool r)))
          | none => none
    | _, _ => none
  | .unOp op _ x => match op, ba E s.ae x with
    | .not, .v (.bool b) => some (true, s.put o.dst (.v (.bool (!b))))
    | .neg, .v (.int k n) => some (true, s.put o.dst (.v (.int k (k.wrap (0 - n)))))
    | _, _ => none
  | .convert a b x => match j6 E s a b (ba E s.ae x) with
    | some (c, v) => some (c, s.put o.dst (.v v))
    | none => none
  | .nilCheck x => match ba E s.ae x with
    | .v (.ptr id off) => some (true, s.put o.dst (.v (.ptr id off)))
    | .v (.ep cs) => some (true, s.put o.dst (.v (.ep cs)))
    | .lp k off => some (true, s.put o.dst (.lp k off))
    | _ => none
  | .makeFunc (.func g) first captured => match js E s.ae first.toList, js E s.ae captured.toList with
    | some x, some y => some (true, s.put o.dst (.v (.fn g x y)))
    | _, _ => none
  | .fieldAddr t x j => match iG E t (ba E s.ae x) j with
    | some p => some (true, s.put o.dst p)
    | none => none
  | .field t x j => match Ay E t (ba E s.ae x) j with
    | some v => some (true, s.put o.dst (.v v))
    | none => none
  | .indexAddr t x ix => match iF E t (ba E s.ae x) (ba E s.ae ix) with
    | some (c, p) => some (c, s.put o.dst p)
    | none => none
  | .index t x ix => match Az E t (ba E s.ae x) (ba E s.ae ix) with
    | some (c, v) => some (c, s.put o.dst (.v v))
    | none => none
  | .slice t x lo hi mx => match jl E s.ae lo, jl E s.ae hi with
    | some l, some h => match wW E t (ba E s.ae x) l h mx with
      | some (c, v) => some (c, s.put o.dst (.v v))
      | none => none
    | _, _ => none
  | .extract x i => match ba E s.ae x with
    | .v (.bC vs) => match nth vs i with
      | some v => some (true, s.put o.dst (.v v))
      | none => none
    | _ => none
  | .makeSlice t l c => match E.ti t, ba E s.ae l, ba E s.ae c with
    | some i, .v (.int _ n), .v (.int _ m) => match i.k with
      | .sl elem esz _ aS (some z) =>
        if Nat.beq z.cells.length esz && Nat.ble 1 esz && z.aH then
          if RD E f o.dst then kw s o.dst elem esz aS z n m
          else if RC E f o.dst then (if z.closed then some (decide (0 ≤ n ∧ n ≤ m ∧ m ≤ 140737488355328 ∧ m * aS ≤ 140737488355328),
            (s.cI (.cW (List.replicate n.toNat z) esz elem)).put o.dst (.v (.cS s.G.length n.toNat 0 esz n.toNat))) else none)
          else some (decide (0 ≤ n ∧ n ≤ m ∧ m ≤ 140737488355328 ∧ m * aS ≤ 140737488355328),
            (s.cI (.row (ap (List.replicate m.toNat z)) elem)).put o.dst (.v (.gb s.G.length 0 esz n.toNat m.toNat)))
        else none
      | _ => none
    | _, _, _ => none
  | .lookup t m k ok => match jt E s t (ba E s.ae m) (ba E s.ae k) with
    | some (v, b) => some (true, s.put o.dst (.v (if ok then .bC [v, .bool b] else v)))
    | none => none
  | .mapUpdate t m k x => match o.dst, dI E s t (ba E s.ae m) (ba E s.ae k) (ba E s.ae x) with
    | none, some s' => some (true, s')
    | _, _ => none
  | .insert t m k x => match o.dst, dI E s t (ba E s.ae m) (ba E s.ae k) (ba E s.ae x) with
    | none, some s' => some (true, s')
    | _, _ => none
  | .entry x => match pU E s (ba E s.ae x) with
    | some (c, v) => some (c, s.put o.dst (.v v))
    | none => none
  | .mapEntry t m k => match eE E s t (ba E s.ae m) (ba E s.ae k) with
    | some (c, v, s') => some (c, s'.put o.dst (.v v))
    | none => none
  | .entryStore _ m st x => match o.dst, dj s (ba E s.ae m) (ba E s.ae st) (ba E s.ae x) with
    | none, some (c, s') => some (c, s')
    | _, _ => none
  | .range t x => match E.ti t, ba E s.ae x with
    | some i, .v (.str l) => match i.k with
      | .str => some (true, (s.cI (.eR l 0)).put o.dst (.v (.ptr s.G.length 0)))
      | _ => none
    | some i, .v (.map id) => match i.k, nth s.G id with
      | .map _ _ _, some (.map es) => some (true, (s.cI (.ls id es.length (List.range es.length) none t)).put o.dst (.v (.ptr s.G.length 0)))
      | _, _ => none
    | _, _ => none
  | .next x true => match ju s o.dst (ba E s.ae x) with
    | some s' => some (true, s')
    | none => none
  | .makeMap _ none => some (true, (s.cI (.map [])).put o.dst (.v (.map s.G.length)))
  | .call { callee := .builtin b, args, argTypes } => match eY E f s o with
    | some r => some r
    | none => match js E s.ae args.toList with
      | some l => bG E s o.dst b l argTypes.toList
      | none => none
  | _ => none
end Go.Am
namespace Go.Am
open Go
inductive TR where
  | aK
  | full (f : Nat)
  | tok (f b c : Nat)
inductive RO where
  | none
  | aK
  | bh (b : Nat)
  | tok (f b c k : Nat)
  | aG (ts : List TR)
def RO.has : RO → Nat → Prop
  | .none, _ => False
  | .aK, _ => False
  | .bh b, x => x = b
  | .tok _ b _ _, x => x = b
  | .aG ts, x => ∃ j f c, nth ts j = some (.tok f x c)
def dZ (sz : Nat) (es : List AV) : Prop := ∀ e ∈ es, e.cells.length = sz ∧ e.aH = true ∧ e.closed = true
def cK (sz : Nat) (es : List AV) : Prop := ∀ e ∈ es, e.cells.length = sz ∧ e.aH = true
theorem dZ.g {sz : Nat} {es : List AV} (h : dZ sz es) : cK sz es := fun e he => ⟨(h e he).1, (h e he).2.1⟩
structure af where
  I : Nat → Nat → Prop
  obj : List RO
def ER (b o len cap : Nat) : RO → Prop
  | .none => True
  | .aK => False
  | .bh _ => False
  | .tok f b' c' k' => len ≤ f ∧ (len = f → b = b' ∧ (o = k' ∨ cap = 0) ∧ cap = c')
  | .aG _ => False
def AG (b o len cap : Nat) : TR → Prop
  | .aK => False
  | .full f => len ≤ f ∧ (len = f → cap = len)
  | .tok f b' c' => len ≤ f ∧ (len = f → b = b' ∧ (o = 0 ∨ cap = 0) ∧ cap = c')
def yM (b o len cap j : Nat) : RO → Prop
  | .none => True
  | .aK => False
  | .bh _ => False
  | .tok _ _ _ _ => False
  | .aG ts => ∃ t, nth ts j = some t ∧ AG b o len cap t
def HU (b o f i off sz : Nat) : TR → Prop
  | .aK => False
  | .full f' => f ≤ f'
  | .tok f' b' _ => f ≤ f' ∧ (f = f' → b = b' ∧ o = i * sz + off)
def ES (b o j f i off sz : Nat) : RO → Prop
  | .none => True
  | .aK => False
  | .bh _ => False
  | .tok _ _ _ _ => False
  | .aG ts => ∃ t, nth ts j = some t ∧ HU b o f i off sz t
def nv : RO → Prop
  | .none => True
  | .aK => False
  | .bh _ => False
  | .tok _ _ _ _ => False
  | .aG _ => True
def jJ : RO → Prop
  | .none => True
  | .aK => True
  | .bh _ => False
  | .tok f _ _ _ => 1 ≤ f
  | .aG _ => False
def Du (b o f off sz cap : Nat) : RO → Prop
  | .none => True
  | .aK => False
  | .bh _ => False
  | .tok f' b' c' _ => f ≤ f' ∧ (f = f' → b = b' ∧ off + cap = c' ∧ (o = off * sz ∨ cap = 0))
  | .aG _ => False
def ET (b o f i off sz : Nat) : RO → Prop
  | .none => True
  | .aK => False
  | .bh _ => False
  | .tok f' b' _ _ => f ≤ f' ∧ (f = f' → b = b' ∧ o = i * sz + off)
  | .aG _ => False
def wY (R : af) (k : LK) (b o len cap : Nat) : Prop := match k with
  | .nil => False
  | .full => cap = len
  | .fY => True
  | .own id => ∃ ro, nth R.obj id = some ro ∧ ER b o len cap ro
  | .aG id j => ∃ ro, nth R.obj id = some ro ∧ yM b o len cap j ro
mutual
inductive Rel (R : af) (w : World) : AV → Value → Prop
  | bool (b : Bool) : Rel R w (.bool b) (.bool b)
  | int (k : IntKind) (n : Int) : Rel R w (.int k n) (.int k n)
  | str (l : List UInt8) : Rel R w (.str l) (.string ⟨⟨l⟩⟩)
  | agg {cs : List AV} {vs : List Value} (h : ay R w cs vs) (h1 : ∀ v ∈ vs, v.oneCell' = true) : Rel R w (.agg cs) (.agg ⟨vs⟩)
  | bC {cs : List AV} {vs : List Value} (h : ay R w cs vs) : Rel R w (.bC cs) (.tuple ⟨vs⟩)
  | gB : Rel R w .gB (.pointer none)
  | ptr {id off b : Nat} (h : nth R.obj id = some (.bh b)) : Rel R w (.ptr id off) (.pointer (some ⟨b, off, none⟩))
  | ep {cs : List AV} {b o : Nat} (h : du R w b o cs) : Rel R w (.ep cs) (.pointer (some ⟨b, o, none⟩))
  | gi {sz : Nat} : Rel R w (.list .nil sz []) (.slice none 0 0)
  | fO {sz : Nat} : Rel R w (.list .fY sz []) (.slice none 0 0)
  | jK {sz : Nat} {a : Addr} : Rel R w (.list .fY sz []) (.slice (some a) 0 0)
  | iH {id sz : Nat} {ro : RO} (h : nth R.obj id = some ro) (ho : jJ ro) : Rel R w (.list (.own id) sz []) (.slice none 0 0)
  | jm {id j sz : Nat} {ro : RO} (h : nth R.obj id = some ro) (ho : nv ro) : Rel R w (.list (.aG id j) sz []) (.slice none 0 0)
  | list {k : LK} {sz : Nat} {es : List AV} {b o len cap : Nat} (h : eF R w b o sz es) (hl : len = es.length) (hc : len ≤ cap) (hk : wY R k b o len cap) : Rel R w (.list k sz es) (.slice (some ⟨b, o, none⟩) len cap)
  | gb {id off sz len cap b : Nat} (h : nth R.obj id = some (.bh b)) (hc : len ≤ cap) : Rel R w (.gb id off sz len cap) (.slice (some ⟨b, off, none⟩) len cap)
  | fZ {id sz : Nat} {ro : RO} (h : nth R.obj id = some ro) (ho : jJ ro) : Rel R w (.cS id 0 0 sz 0) (.slice none 0 0)
  | cS {id f off sz len cap b o : Nat} {ro : RO} (h : nth R.obj id = some ro) (ho : Du b o f off sz cap ro) (hc : len ≤ cap) : Rel R w (.cS id f off sz len) (.slice (some ⟨b, o, none⟩) len cap)
  | gp {id f i off sz b o : Nat} {t : TypeId} {ro : RO} (h : nth R.obj id = some ro) (ho : ET b o f i off sz ro) : Rel R w (.gp id f i off sz t) (.pointer (some ⟨b, o, none⟩))
  | oe {id j sz : Nat} {ro : RO} (h : nth R.obj id = some ro) (ho : nv ro) : Rel R w (.eT id j sz 0) (.slice none 0 0)
  | eT {id j sz len cap b o : Nat} {ro : RO} (h : nth R.obj id = some ro) (ho : yM b o len cap j ro) (hc : len ≤ cap) : Rel R w (.eT id j sz len) (.slice (some ⟨b, o, none⟩) len cap)
  | rp {id j f i off sz b o : Nat} {t : TypeId} {ro : RO} (h : nth R.obj id = some ro) (ho : ES b o j f i off sz ro) : Rel R w (.rp id j f i off sz t) (.pointer (some ⟨b, o, none⟩))
  | jW : Rel R w .jW (.map none)
  | map {id b : Nat} (h : nth R.obj id = some (.bh b)) : Rel R w (.map id) (.map (some b))
  | cV : Rel R w .cV .nilFunc
  | fn {f : FuncId} {xs ys : List AV} {vs us : List Value} (h : ay R w xs vs) (h' : ay R w ys us) : Rel R w (.fn f xs ys) (.func (.func f) ⟨vs⟩ ⟨us⟩)
  | yield {id b : Nat} (h : nth R.obj id = some (.bh b)) : Rel R w (.yield id) (.func (.yield b) #[] #[])
  | li : Rel R w .li .nilIface
  | iface {t : TypeId} {v : AV} {c : Value} (h : Rel R w v c) : Rel R w (.iface t v) (.iface t c)
inductive ay (R : af) (w : World) : List AV → List Value → Prop
  | nil : ay R w [] []
  | cons {a : AV} {c : Value} {l : List AV} {cs : List Value} (h : Rel R w a c) (t : ay R w l cs) : ay R w (a :: l) (c :: cs)
inductive eF (R : af) (w : World) : Nat → Nat → Nat → List AV → Prop
  | nil {b o sz : Nat} : eF R w b o sz []
  | cons {b o sz : Nat} {e : AV} {es : List AV} (hl : e.cells.length = sz) (ht : e.aH = true) (hk : e.closed = true) (h : du R w b o e.cells) (t : eF R w b (o + sz) sz es) : eF R w b o sz (e :: es)
inductive du (R : af) (w : World) : Nat → Nat → List AV → Prop
  | nil {b o : Nat} : du R w b o []
  | cons {b o : Nat} {a : AV} {c : Value} {l : List AV} (hc : w.cell? ⟨b, o, none⟩ = some c) (h1 : c.oneCell' = true) (hi : R.I b o) (h : Rel R w a c) (t : du R w b (o + 1) l) : du R w b o (a :: l)
end
def eG : TR → TR → Prop
  | .aK, .aK => True
  | .aK, .full _ => False
  | .aK, .tok f _ _ => 1 ≤ f
  | .full _, .aK => False
  | .full f, .full f' => f' = f
  | .full f, .tok f' _ _ => f < f'
  | .tok _ _ _, .aK => False
  | .tok _ _ _, .full _ => False
  | .tok f b c, .tok f' b' c' => f ≤ f' ∧ (f' = f → b' = b ∧ c' = c)
theorem eG.refl (t : TR) : eG t t := by cases t <;> simp [eG]
theorem eG.trans {a b c : TR} (h : eG a b) (k : eG b c) : eG a c := by
  cases a <;> cases b <;> cases c <;> simp only [eG] at * <;> omega
def og (ts JX : List TR) : Prop := ∀ j t, nth ts j = some t → ∃ t', nth JX j = some t' ∧ eG t t'
theorem og.refl (ts : List TR) : og ts ts := fun _ t h => ⟨t, h, eG.refl t⟩
theorem og.trans {a b c : List TR} (h : og a b) (k : og b c) : og a c := fun j t hj =>
  let ⟨_, h1, h2⟩ := h j t hj
  let ⟨t2, k1, k2⟩ := k j _ h1
  ⟨t2, k1, h2.trans k2⟩
def bF : RO → RO → Prop
  | .none, r => r = .none
  | .bh b, r => r = .bh b
  | .aK, .none => True
  | .aK, .aK => True
  | .aK, .bh _ => False
  | .aK, .tok f _ _ _ => 1 ≤ f
  | .tok _ _ _ _, .none => True
  | .tok _ _ _ _, .aK => False
  | .tok _ _ _ _, .bh _ => False
  | .tok f b c k, .tok f' b' c' k' => f ≤ f' ∧ (f' = f → b' = b ∧ c' = c ∧ k' = k)
  | .aK, .aG _ => False
  | .tok _ _ _ _, .aG _ => False
  | .aG _, .none => True
  | .aG _, .aK => False
  | .aG _, .bh _ => False
  | .aG _, .tok _ _ _ _ => False
  | .aG ts, .aG JX => og ts JX
theorem bF.refl (r : RO) : bF r r := by cases r <;> simp [bF, og.refl]
theorem bF.trans {a b c : RO} (h : bF a b) (k : bF b c) : bF a c := by
  cases a with
  | none => simp only [bF] at h; subst h; exact k
  | bh x => simp only [bF] at h; subst h; exact k
  | aK =>
    cases b with
    | none => simp only [bF] at k; subst k; trivial
    | aK => exact k
    | bh z => exact h.elim
    | tok f' x' y' z' =>
      cases c with
      | none => trivial
      | aK => exact k.elim
      | bh z => exact k.elim
      | aG _ => exact k.elim
      | tok f'' x'' y'' z'' => simp only [bF] at *; omega
    | aG _ => exact h.elim
  | tok f x y z0 =>
    cases b with
    | none => simp only [bF] at k; subst k; trivial
    | aK => exact h.elim
    | bh z => exact h.elim
    | tok f' x' y' z' =>
      cases c with
      | none => trivial
      | aK => exact k.elim
      | bh z => exact k.elim
      | tok f'' x'' y'' z'' =>
        simp only [bF] at *
        refine ⟨Nat.le_trans h.1 k.1, fun e => ?_⟩
        obtain ⟨h1, h2⟩ := h; obtain ⟨k1, k2⟩ := k
        have e1 : f' = f := by omega
        have e2 : f'' = f' := by omega
        exact ⟨(k2 e2).1.trans (h2 e1).1, (k2 e2).2.1.trans (h2 e1).2.1, (k2 e2).2.2.trans (h2 e1).2.2⟩
      | aG _ => exact k.elim
    | aG _ => exact h.elim
  | aG ts =>
    cases b with
    | none => simp only [bF] at k; subst k; trivial
    | aK => exact h.elim
    | bh z => exact h.elim
    | tok f' x' y' z' => exact h.elim
    | aG JX =>
      cases c with
      | none => trivial
      | aK => exact k.elim
      | bh z => exact k.elim
      | tok f' x' y' z' => exact k.elim
      | aG ts'' => exact og.trans h k
def ly (r r' : Loop) : Prop := r'.tmps = r.tmps ∧ r'.params = r.params ∧ r'.assign = r.assign ∧ r'.body = r.body ∧ r'.defers = r.defers
def dp (w w' : World) : Prop := ∀ (b : Nat) (r : Loop), w.heap[b]? = some (Obj.loop r) → ∃ r', w'.heap[b]? = some (Obj.loop r') ∧ ly r r'
theorem dp.refl (w : World) : dp w w := fun _ r h => ⟨r, h, rfl, rfl, rfl, rfl, rfl⟩
theorem dp.trans {w w1 w2 : World} (h : dp w w1) (k : dp w1 w2) : dp w w2 := fun b r hb =>
  let ⟨_, h1, h2, h3, h4, h5, h6⟩ := h b r hb
  let ⟨r2, k1, k2, k3, k4, k5, k6⟩ := k b _ h1
  ⟨r2, k1, k2.trans h2, k3.trans h3, k4.trans h4, k5.trans h5, k6.trans h6⟩
theorem dp.old {w w' : World} (h : ∀ b, b < w.heap.size → w'.heap[b]? = w.heap[b]?) : dp w w' := fun b r hb =>
  ⟨r, (h b (by
    rcases Nat.lt_or_ge b w.heap.size with bR | vN
    · exact bR
    · rw [Array.getElem?_eq_none vN] at hb; cases hb)).trans hb, rfl, rfl, rfl, rfl, rfl⟩
structure Ext (R : af) (w : World) (R' : af) (w' : World) : Prop where
  I : ∀ b o, R.I b o → R'.I b o
  cell : ∀ b o, R.I b o → w'.cell? ⟨b, o, none⟩ = w.cell? ⟨b, o, none⟩
  obj : ∀ id ro, nth R.obj id = some ro → ∃ gU, nth R'.obj id = some gU ∧ bF ro gU
  lp : dp w w'
theorem Ext.refl (R : af) (w : World) : Ext R w R w := ⟨fun _ _ h => h, fun _ _ _ => rfl, fun _ ro h => ⟨ro, h, bF.refl ro⟩, dp.refl w⟩
theorem Ext.trans {R R' EU : af} {w w' HV : World} (h : Ext R w R' w') (k : Ext R' w' EU HV) : Ext R w EU HV :=
  ⟨fun b o hi => k.I b o (h.I b o hi), fun b o hi => (k.cell b o (h.I b o hi)).trans (h.cell b o hi), fun id ro hr =>
    let ⟨_, h1, h2⟩ := h.obj id ro hr
    let ⟨r2, h3, h4⟩ := k.obj id _ h1
    ⟨r2, h3, h2.trans h4⟩, h.lp.trans k.lp⟩
theorem Ext.bh {R R' : af} {w w' : World} (h : Ext R w R' w') {id b : Nat} (hb : nth R.obj id = some (.bh b)) : nth R'.obj id = some (.bh b) := by
  obtain ⟨r, h1, h2⟩ := h.obj id _ hb
  simp only [bF] at h2
  subst h2
  exact h1
theorem wY.mono {R R' : af} {w w' : World} (e : Ext R w R' w') {k : LK} {b o len cap : Nat} (h : wY R k b o len cap) : wY R' k b o len cap := by
  cases k with
  | nil => exact h
  | full => exact h
  | fY => trivial
  | own id =>
    obtain ⟨ro, h1, h2⟩ := h
    obtain ⟨gU, h3, h4⟩ := e.obj id ro h1
    refine ⟨gU, h3, ?_⟩
    cases ro with
    | none => simp only [bF] at h4; subst h4; trivial
    | aK => exact h2.elim
    | bh x => exact h2.elim
    | tok f x y z0 =>
      cases gU with
      | none => trivial
      | aK => exact h4.elim
      | bh z => exact h4.elim
      | tok f' x' y' z' =>
        simp only [bF, ER] at *
        refine ⟨by omega, fun e => ?_⟩
        have e1 : f' = f := by omega
        have h5 := h2.2 (by omega)
        have h6 := h4.2 e1
        exact ⟨h5.1.trans h6.1.symm, h5.2.1.imp (fun q => q.trans h6.2.2.symm) (fun q => q), h5.2.2.trans h6.2.1.symm⟩
      | aG _ => exact h4.elim
    | aG _ => exact h2.elim
  | aG id j =>
    obtain ⟨ro, h1, h2⟩ := h
    obtain ⟨gU, h3, h4⟩ := e.obj id ro h1
    refine ⟨gU, h3, ?_⟩
    cases ro with
    | none => simp only [bF] at h4; subst h4; trivial
    | aK => exact h2.elim
    | bh x => exact h2.elim
    | tok _ _ _ _ => exact h2.elim
    | aG ts =>
      cases gU with
      | none => trivial
      | aK => exact h4.elim
      | bh z => exact h4.elim
      | tok _ _ _ _ => exact h4.elim
      | aG JX =>
        obtain ⟨t, k1, k2⟩ := h2
        obtain ⟨t', k3, k4⟩ := h4 j t k1
        refine ⟨t', k3, ?_⟩
        cases t with
        | aK => exact k2.elim
        | full f =>
          cases t' with
          | aK => exact k4.elim
          | full f' => simp only [eG, AG] at *; subst k4; exact k2
          | tok f' x' y' => simp only [eG, AG] at *; exact ⟨by omega, fun e => by omega⟩
        | tok f x y =>
          cases t' with
          | aK => exact k4.elim
          | full f' => exact k4.elim
          | tok f' x' y' =>
            simp only [eG, AG] at *
            refine ⟨by omega, fun e => ?_⟩
            have e1 : f' = f := by omega
            have h5 := k2.2 (by omega)
            have h6 := k4.2 e1
            exact ⟨h5.1.trans h6.1.symm, h5.2.1, h5.2.2.trans h6.2.symm⟩
theorem jJ.mono {ro gU : RO} (h : jJ ro) (e : bF ro gU) : jJ gU := by
  cases ro with
  | none => simp only [bF] at e; subst e; trivial
  | aK => cases gU <;> first | trivial | exact e.elim | exact e
  | bh _ => exact h.elim
  | tok f x y z0 =>
    cases gU with
    | none => trivial
    | aK => exact e.elim
    | bh z => exact e.elim
    | tok f' x' y' z' => simp only [bF, jJ] at *; omega
    | aG _ => exact e.elim
  | aG _ => exact h.elim
theorem nv.mono {ro gU : RO} (h : nv ro) (e : bF ro gU) : nv gU := by
  cases ro with
  | none => simp only [bF] at e; subst e; trivial
  | aK => exact h.elim
  | bh _ => exact h.elim
  | tok _ _ _ _ => exact h.elim
  | aG ts =>
    cases gU with
    | none => trivial
    | aK => exact e.elim
    | bh z => exact e.elim
    | tok _ _ _ _ => exact e.elim
    | aG JX => trivial
theorem Du.mono {b o f off sz cap : Nat} {ro gU : RO} (h : Du b o f off sz cap ro) (e : bF ro gU) : Du b o f off sz cap gU := by
  cases ro with
  | none => simp only [bF] at e; subst e; trivial
  | aK => exact h.elim
  | bh _ => exact h.elim
  | tok f1 x y z0 =>
    cases gU with
    | none => trivial
    | aK => exact e.elim
    | bh z => exact e.elim
    | tok f' x' y' z' =>
      simp only [bF, Du] at *
      refine ⟨by omega, fun k => ?_⟩
      obtain ⟨e1, e2, _⟩ := e.2 (by omega)
      obtain ⟨h1, h2, h3⟩ := h.2 (by omega)
      exact ⟨h1.trans e1.symm, h2.trans e2.symm, h3⟩
    | aG _ => exact e.elim
  | aG _ => exact h.elim
theorem ET.mono {b o f i off sz : Nat} {ro gU : RO} (h : ET b o f i off sz ro) (e : bF ro gU) : ET b o f i off sz gU := by
  cases ro with
  | none => simp only [bF] at e; subst e; trivial
  | aK => exact h.elim
  | bh _ => exact h.elim
  | tok f1 x y z0 =>
    cases gU with
    | none => trivial
    | aK => exact e.elim
    | bh z => exact e.elim
    | tok f' x' y' z' =>
      simp only [bF, ET] at *
      refine ⟨by omega, fun k => ?_⟩
      obtain ⟨e1, e2, _⟩ := e.2 (by omega)
      obtain ⟨h1, h2⟩ := h.2 (by omega)
      exact ⟨h1.trans e1.symm, h2⟩
    | aG _ => exact e.elim
  | aG _ => exact h.elim
theorem yM.mono {b o len cap j : Nat} {ro gU : RO} (h : yM b o len cap j ro) (h4 : bF ro gU) : yM b o len cap j gU := by
  cases ro with
  | none => simp only [bF] at h4; subst h4; trivial
  | aK => exact h.elim
  | bh x => exact h.elim
  | tok _ _ _ _ => exact h.elim
  | aG ts =>
    cases gU with
    | none => trivial
    | aK => exact h4.elim
    | bh z => exact h4.elim
    | tok _ _ _ _ => exact h4.elim
    | aG JX =>
      obtain ⟨t, k1, k2⟩ := h
      obtain ⟨t', k3, k4⟩ := h4 j t k1
      refine ⟨t', k3, ?_⟩
      cases t with
      | aK => exact k2.elim
      | full f =>
        cases t' with
        | aK => exact k4.elim
        | full f' => simp only [eG, AG] at *; subst k4; exact k2
        | tok f' x' y' => simp only [eG, AG] at *; exact ⟨by omega, fun e => by omega⟩
      | tok f x y =>
        cases t' with
        | aK => exact k4.elim
        | full f' => exact k4.elim
        | tok f' x' y' =>
          simp only [eG, AG] at *
          refine ⟨by omega, fun e => ?_⟩
          have e1 : f' = f := by omega
          have h5 := k2.2 (by omega)
          have h6 := k4.2 e1
          exact ⟨h5.1.trans h6.1.symm, h5.2.1, h5.2.2.trans h6.2.symm⟩
theorem ES.mono {b o j f i off sz : Nat} {ro gU : RO} (h : ES b o j f i off sz ro) (h4 : bF ro gU) : ES b o j f i off sz gU := by
  cases ro with
  | none => simp only [bF] at h4; subst h4; trivial
  | aK => exact h.elim
  | bh x => exact h.elim
  | tok _ _ _ _ => exact h.elim
  | aG ts =>
    cases gU with
    | none => trivial
    | aK => exact h4.elim
    | bh z => exact h4.elim
    | tok _ _ _ _ => exact h4.elim
    | aG JX =>
      obtain ⟨t, k1, k2⟩ := h
      obtain ⟨t', k3, k4⟩ := h4 j t k1
      refine ⟨t', k3, ?_⟩
      cases t with
      | aK => exact k2.elim
      | full f1 =>
        cases t' with
        | aK => exact k4.elim
        | full f' => simp only [eG, HU] at *; omega
        | tok f' x' y' => simp only [eG, HU] at *; exact ⟨by omega, fun e => by omega⟩
      | tok f1 x y =>
        cases t' with
        | aK => exact k4.elim
        | full f' => exact k4.elim
        | tok f' x' y' =>
          simp only [eG, HU] at *
          refine ⟨by omega, fun e => ?_⟩
          have h5 := k2.2 (by omega)
          have h6 := k4.2 (by omega)
          exact ⟨h5.1.trans h6.1.symm, h5.2⟩
mutual
theorem Rel.mono {R R' : af} {w w' : World} (e : Ext R w R' w') : ∀ {a : AV} {c : Value}, Rel R w a c → Rel R' w' a c
  | _, _, .bool b => .bool b
  | _, _, .int k n => .int k n
  | _, _, .str l => .str l
  | _, _, .agg h h1 => .agg (h.mono e) h1
  | _, _, .bC h => .bC (h.mono e)
  | _, _, .gB => .gB
  | _, _, .ptr h => .ptr (e.bh h)
  | _, _, .ep h => .ep (h.mono e)
  | _, _, .gi => .gi
  | _, _, .fO => .fO
  | _, _, .jK => .jK
  | _, _, .iH h ho => let ⟨_, h3, h4⟩ := e.obj _ _ h; .iH h3 (ho.mono h4)
  | _, _, .jm h ho => let ⟨_, h3, h4⟩ := e.obj _ _ h; .jm h3 (ho.mono h4)
  | _, _, .list h hl hc hk => .list (h.mono e) hl hc (hk.mono e)
  | _, _, .gb h hc => .gb (e.bh h) hc
  | _, _, .fZ h ho => let ⟨_, h3, h4⟩ := e.obj _ _ h; .fZ h3 (ho.mono h4)
  | _, _, .cS h ho hc => let ⟨_, h3, h4⟩ := e.obj _ _ h; .cS h3 (ho.mono h4) hc
  | _, _, .gp h ho => let ⟨_, h3, h4⟩ := e.obj _ _ h; .gp h3 (ho.mono h4)
  | _, _, .oe h ho => let ⟨_, h3, h4⟩ := e.obj _ _ h; .oe h3 (ho.mono h4)
  | _, _, .eT h ho hc => let ⟨_, h3, h4⟩ := e.obj _ _ h; .eT h3 (ho.mono h4) hc
  | _, _, .rp h ho => let ⟨_, h3, h4⟩ := e.obj _ _ h; .rp h3 (ho.mono h4)
  | _, _, .jW => .jW
  | _, _, .map h => .map (e.bh h)
  | _, _, .cV => .cV
  | _, _, .fn h h' => .fn (h.mono e) (h'.mono e)
  | _, _, .yield h => .yield (e.bh h)
  | _, _, .li => .li
  | _, _, .iface h => .iface (h.mono e)
theorem ay.mono {R R' : af} {w w' : World} (e : Ext R w R' w') : ∀ {l : List AV} {cs : List Value}, ay R w l cs → ay R' w' l cs
  | _, _, .nil => .nil
  | _, _, .cons h t => .cons (h.mono e) (t.mono e)
theorem eF.mono {R R' : af} {w w' : World} (e : Ext R w R' w') : ∀ {b o sz : Nat} {l : List AV}, eF R w b o sz l → eF R' w' b o sz l
  | _, _, _, _, .nil => .nil
  | _, _, _, _, .cons hl ht hk h t => .cons hl ht hk (h.mono e) (t.mono e)
theorem du.mono {R R' : af} {w w' : World} (e : Ext R w R' w') : ∀ {b o : Nat} {l : List AV}, du R w b o l → du R' w' b o l
  | _, _, _, .nil => .nil
  | _, _, _, .cons hc h1 hi h t => .cons ((e.cell _ _ hi).trans hc) h1 (e.I _ _ hi) (h.mono e) (t.mono e)
end
end Go.Am
