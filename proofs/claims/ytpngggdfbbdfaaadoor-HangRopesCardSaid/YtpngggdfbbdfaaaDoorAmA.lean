/- The abstract machine: its values, its state, and what each operation does (definitions alone). -/
import Derived.CallsIn
import Derived.RangeFuncLeaves
import Derived.Laws.AppendOwn
set_option linter.all false
namespace Go.Am
open Go

/-- What is known of a list's capacity: nil; as long as the list; nothing; the list of a token. -/
inductive LK where
  | nil | full | opn | own (id : Nat)

/-- Abstract values. A list is a slice whose cells never change again; a heap slice (msl) lies in an object. -/
inductive AV where
  | bool (b : Bool)
  | int (k : IntKind) (n : Int)
  | str (s : List UInt8)
  | agg (cs : List AV)
  | tup (vs : List AV)
  | nilp
  | ptr (id off : Nat)
  | ep (cs : List AV)
  | list (k : LK) (sz : Nat) (es : List AV)
  | msl (id off sz len cap : Nat)
  | nilm
  | map (id : Nat)
  | nilf
  | fn (f : FuncId) (first cap : List AV)
  | yield (id : Nat)
  | nili
  | iface (t : TypeId) (v : AV)

def LK.closed : LK → Bool
  | .own _ => false
  | _ => true

mutual
/-- A value that mentions no object. -/
def AV.closed : AV → Bool
  | .agg cs => closedL cs
  | .tup cs => closedL cs
  | .ep cs => closedL cs
  | .list k _ _ => k.closed
  | .fn _ x y => closedL x && closedL y
  | .iface _ v => v.closed
  | .ptr _ _ => false
  | .msl _ _ _ _ _ => false
  | .map _ => false
  | .yield _ => false
  | _ => true
def closedL : List AV → Bool
  | [] => true
  | a :: l => a.closed && closedL l
end

mutual
/-- The value with no claim to what lies behind a list's end. -/
def AV.weak : AV → AV
  | .agg cs => .agg (weakL cs)
  | .tup cs => .tup (weakL cs)
  | .list (.own _) sz es => .list .opn sz es
  | v => v
def weakL : List AV → List AV
  | [] => []
  | a :: l => a.weak :: weakL l
end

/-- What a slot holds: nothing known; a value; a pointer to a local box. -/
inductive SV where
  | none
  | v (a : AV)
  | lp (key off : Nat)

/-- What has been put into the slots, the newest first; and which boxes were made anew. -/
inductive Ent where
  | put (d : Nat) (x : SV)
  | kill (d : Nat)

abbrev Slots := List Ent
abbrev Boxes := List (Nat × List AV)

def lk : Slots → Nat → SV
  | [], _ => .none
  | .put d x :: l, t => bif Nat.beq d t then x else lk l t
  | .kill d :: l, t => match lk l t with
    | .lp k off => bif Nat.beq k d then .none else .lp k off
    | x => x

def lkB : Boxes → Nat → Option (List AV)
  | [], _ => none
  | (d, cs) :: l, k => bif Nat.beq d k then some cs else lkB l k

/-- Objects. -/
inductive GO where
  | dead
  | row (cs : List AV)
  | tok (f sz : Nat) (e : TypeId)
  | map (es : List (AV × AV))
  | siter (s : List UInt8) (pos : Nat)
  | loop (busy : Bool) (pending : Option Code) (fn : FuncId) (slots : Slots) (n : Nat) (params : List Tmp) (assign body : Code) (defers : Nat) (done : Bool)
  | defers (open_ : Bool)

/-- marks: the blocks for the deferred calls of ranges over functions; ro: the loop whose round this is. -/
structure St where
  slots : Slots
  boxes : Boxes
  G : List GO
  marks : List Nat
  ro : Option Nat
  n : Nat

def nth {α : Type} : List α → Nat → Option α
  | [], _ => none
  | a :: _, 0 => some a
  | _ :: l, n + 1 => nth l n

def setN {α : Type} : List α → Nat → α → List α
  | [], _, _ => []
  | _ :: l, 0, x => x :: l
  | a :: l, n + 1, x => a :: setN l n x

/-- The n elements from place 'off' on, if there are so many. -/
def takeN {α : Type} : Nat → List α → Option (List α)
  | 0, _ => some []
  | _ + 1, [] => none
  | n + 1, a :: l => match takeN n l with
    | some r => some (a :: r)
    | none => none

def dropN {α : Type} : Nat → List α → List α
  | 0, l => l
  | _ + 1, [] => []
  | n + 1, _ :: l => dropN n l

def seg {α : Type} (off n : Nat) (l : List α) : Option (List α) := takeN n (dropN off l)

/-- The list with the elements from place 'off' on replaced by others. -/
def splice {α : Type} : List α → Nat → List α → List α
  | l, _, [] => l
  | [], _, _ :: _ => []
  | _ :: l, 0, y :: ys => y :: splice l 0 ys
  | a :: l, n + 1, y :: ys => a :: splice l n (y :: ys)

def AV.cells : AV → List AV
  | .agg cs => cs
  | v => [v]

def AV.one : AV → Bool
  | .agg _ => false
  | .tup _ => false
  | _ => true

def ofConst0 : Value → Option AV
  | .bool b => some (.bool b)
  | .int k n => some (.int k n)
  | .string s => some (.str s.data.toList)
  | .slice none 0 0 => some (.list .nil 0 [])
  | .pointer none => some .nilp
  | .map none => some .nilm
  | .nilFunc => some .nilf
  | .nilIface => some .nili
  | _ => none

def ofConsts : List Value → Option (List AV)
  | [] => some []
  | v :: vs => match ofConst0 v, ofConsts vs with
    | some a, some l => some (a :: l)
    | _, _ => none

def ofConst : Value → Option AV
  | .agg cs => match ofConsts cs.toList with
    | some l => some (.agg l)
    | none => none
  | .tuple cs => match ofConsts cs.toList with
    | some l => some (.tup l)
    | none => none
  | v => ofConst0 v

/-- A type, as far as the abstract machine asks. -/
inductive TK where
  | sc
  | int (k : IntKind)
  | str
  | st (fs : List (Nat × Nat × Bool))
  | arr (len esz : Nat) (eagg : Bool)
  | sl (elem esz : Nat) (eagg : Bool) (ebytes : Nat) (ezero : Option AV)
  | map (key elem : TypeId) (ezero : Option AV)

mutual
/-- How values of a type are compared. -/
inductive EK where
  | no
  | bool
  | int
  | str
  | st (fs : EKs)
inductive EKs where
  | nil
  | cons (off sz : Nat) (ag : Bool) (k : EK) (rest : EKs)
end

structure TI where
  k : TK
  size : Nat
  agg : Bool
  zero : Option AV
  ek : EK

def aggD : TypeDesc → Bool
  | .struct _ => true
  | .array _ _ => true
  | _ => false

def fieldsOf (P : Program) : List Field → Option (List (Nat × Nat × Bool))
  | [] => some []
  | f :: fs => match P.info? f.type, P.underlying f.type, fieldsOf P fs with
    | some i, some u, some l => some ((f.offset, i.size, aggD u) :: l)
    | _, _, _ => none

def constOf (i : TypeInfo) : Option AV := match i.zero with
  | some z => ofConst z
  | none => none

def tkOf (P : Program) : TypeDesc → Option TK
  | .int k => some (.int k)
  | .string => some .str
  | .struct fs => match fieldsOf P fs.toList with
    | some l => some (.st l)
    | none => none
  | .array n e => match P.info? e, P.underlying e with
    | some i, some u => some (.arr n i.size (aggD u))
    | _, _ => none
  | .slice e => match P.info? e, P.underlying e with
    | some i, some u => some (.sl e i.size (aggD u) i.bytes (constOf i))
    | _, _ => none
  | .map k e => match P.info? e with
    | some i => some (.map k e (constOf i))
    | none => none
  | _ => some .sc

def ekFs (P : Program) (ek : TypeId → EK) : List Field → Option EKs
  | [] => some .nil
  | f :: fs => if f.name == "_" then none else match P.info? f.type, P.underlying f.type, ekFs P ek fs with
    | some i, some u, some l => some (.cons f.offset i.size (aggD u) (ek f.type) l)
    | _, _, _ => none

def ekOf (P : Program) : Nat → TypeId → EK
  | 0, _ => .no
  | n + 1, t => match P.underlying t with
    | some .bool => .bool
    | some (.int _) => .int
    | some .string => .str
    | some (.struct fs) => if P.stoodInHeld t then .no else match ekFs P (ekOf P n) fs.toList with
      | some l => .st l
      | none => .no
    | _ => .no

def ekTop (P : Program) (t : TypeId) : EK := match ekOf P 6 t with
  | .st l => if P.eqGuardType P.depth t then .no else .st l
  | k => k

def tiOf (P : Program) (t : TypeId) : Option TI :=
  match P.info? t, P.underlying t with
  | some i, some u => match tkOf P u with
    | some k => some { k := k, size := i.size, agg := aggD u, zero := constOf i, ek := ekTop P t }
    | none => none
  | _, _ => none

/-- Whether two values are the same, as far as it can be told quickly. -/
def same0 : AV → AV → Bool
  | .bool a, .bool b => a == b
  | .int k a, .int k' b => (k == k') && a == b
  | .str a, .str b => a == b
  | .nilp, .nilp => true
  | .ptr i o, .ptr i' o' => Nat.beq i i' && Nat.beq o o'
  | .nilm, .nilm => true
  | .map i, .map i' => Nat.beq i i'
  | .nilf, .nilf => true
  | .nili, .nili => true
  | .msl a b c d e, .msl a' b' c' d' e' => Nat.beq a a' && Nat.beq b b' && Nat.beq c c' && Nat.beq d d' && Nat.beq e e'
  | _, _ => false

mutual
def sameA : AV → AV → Bool
  | .fn f x y, .fn f' x' y' => Nat.beq f f' && sameL x x' && sameL y y'
  | .agg cs, .agg cs' => sameL cs cs'
  | .ep cs, .ep cs' => sameL cs cs'
  | .tup cs, .tup cs' => sameL cs cs'
  | .list .nil a es, .list .nil a' es' => Nat.beq a a' && sameL es es'
  | .list .full a es, .list .full a' es' => Nat.beq a a' && sameL es es'
  | .list .opn a es, .list .opn a' es' => Nat.beq a a' && sameL es es'
  | .list (.own i) a es, .list (.own i') a' es' => Nat.beq i i' && Nat.beq a a' && sameL es es'
  | a, b => same0 a b
def sameL : List AV → List AV → Bool
  | [], [] => true
  | a :: l, b :: r => sameA a b && sameL l r
  | _, _ => false
end

/-! ### Patterns -/

mutual
/-- The form of a value whose leaves are numbers, truth values, strings and lists. -/
inductive Pat
  | int (k : IntKind)
  | bool
  | str
  | agg (ps : Pats)
  | tup (ps : Pats)
  | list (sz : Nat) (p : Pat)
  | own (id sz : Nat) (p : Pat)
  | cst (v : AV)
inductive Pats
  | nil
  | cons (p : Pat) (ps : Pats)
end

def PairT (s : Bool) (α β : Type) : Type := match s with
  | true => α
  | false => α × β

def Pats.isNil : Pats → Bool
  | .nil => true
  | .cons _ _ => false

mutual
/-- The leaves. -/
def Pat.T : Pat → Type
  | .int _ => Int
  | .bool => Bool
  | .str => List UInt8
  | .agg ps => ps.T
  | .tup ps => ps.T
  | .list _ p => List p.T
  | .own _ _ p => List p.T
  | .cst _ => Unit
def Pats.T : Pats → Type
  | .nil => Unit
  | .cons p ps => PairT ps.isNil p.T ps.T
end

mutual
def Pat.enc : (p : Pat) → p.T → AV
  | .int k, (n : Int) => .int k n
  | .bool, (b : Bool) => .bool b
  | .str, (s : List UInt8) => .str s
  | .agg ps, x => .agg (ps.enc x)
  | .tup ps, x => .tup (ps.enc x)
  | .list sz p, (xs : List p.T) => .list .opn sz (xs.map p.enc)
  | .own id sz p, (xs : List p.T) => .list (.own id) sz (xs.map p.enc)
  | .cst v, _ => v
def Pats.enc : (ps : Pats) → ps.T → List AV
  | .nil, _ => []
  | .cons p .nil, x => [p.enc x]
  | .cons p (.cons q ps), x => p.enc x.1 :: (Pats.cons q ps).enc x.2
end

def kEq : IntKind → IntKind → Bool := fun a b => decide (a = b)

def AV.aggD : AV → List AV
  | .agg cs => cs
  | _ => []
def AV.tupD : AV → List AV
  | .tup cs => cs
  | _ => []
def AV.listD : AV → List AV
  | .list _ _ es => es
  | _ => []
def AV.intD : AV → Int
  | .int _ n => n
  | _ => 0
def AV.boolD : AV → Bool
  | .bool b => b
  | _ => false
def AV.strD : AV → List UInt8
  | .str s => s
  | _ => []
def headA : List AV → AV
  | a :: _ => a
  | [] => .nilp
def tailA : List AV → List AV
  | _ :: l => l
  | [] => []

mutual
/-- The leaves of a value of this form. -/
def Pat.decD : (p : Pat) → AV → p.T
  | .int _, v => v.intD
  | .bool, v => v.boolD
  | .str, v => v.strD
  | .agg ps, v => ps.decD v.aggD
  | .tup ps, v => ps.decD v.tupD
  | .list _ p, v => v.listD.map p.decD
  | .own _ _ p, v => v.listD.map p.decD
  | .cst _, _ => ()
def Pats.decD : (ps : Pats) → List AV → ps.T
  | .nil, _ => ()
  | .cons p .nil, l => p.decD (headA l)
  | .cons p (.cons q ps), l => (p.decD (headA l), (Pats.cons q ps).decD (tailA l))
end

def allFit (f : AV → Bool) : List AV → Bool
  | [] => true
  | a :: l => f a && allFit f l

mutual
/-- Whether a value is of this form. -/
def Pat.fits : Pat → AV → Bool
  | .int k, v => match v with
    | .int k' _ => kEq k k'
    | _ => false
  | .bool, v => match v with
    | .bool _ => true
    | _ => false
  | .str, v => match v with
    | .str _ => true
    | _ => false
  | .agg ps, v => match v with
    | .agg cs => ps.fits cs
    | _ => false
  | .tup ps, v => match v with
    | .tup cs => ps.fits cs
    | _ => false
  | .list sz p, v => match v with
    | .list _ sz' es => (Nat.beq sz sz' || es.isEmpty) && allFit p.fits es
    | _ => false
  | .own id sz p, v => match v with
    | .list (.own id') sz' es => (Nat.beq id id' && Nat.beq sz sz') && allFit p.fits es
    | _ => false
  | .cst v, u => sameA u v
def Pats.fits : Pats → List AV → Bool
  | .nil, l => l.isEmpty
  | .cons p ps, l => match l with
    | a :: l => p.fits a && ps.fits l
    | [] => false
end

def Pat.dec (p : Pat) (v : AV) : Option p.T := bif p.fits v then some (p.decD v) else none
def Pats.dec (ps : Pats) (l : List AV) : Option ps.T := bif ps.fits l then some (ps.decD l) else none

/-- The machine's surroundings: the program, its types as a table, its package-level variables, and which boxes are objects. -/
structure Env where
  P : Program
  ti : TypeId → Option TI
  glob : Nat → Option (List AV)
  glb : FuncId → Tmp → Bool
  elp : TypeId → Option Pat
  tiOk : ∀ t i, ti t = some i → tiOf P t = some i
  mixed : P.follows .mixedOrders = true
  globOk : ∀ g cs, glob g = some cs → closedL cs = true

def evO (E : Env) (slots : Slots) : Operand → SV
  | .tmp t => lk slots t
  | .const v => match ofConst v with
    | some a => .v a
    | none => .none
  | .global g => match E.glob g with
    | some cs => .v (.ep cs)
    | none => .none
  | .func f => .v (.fn f [] [])

def St.put (s : St) (dst : Option Tmp) (x : SV) : St := match dst with
  | some d => match Nat.blt d s.n with
    | true => ⟨.put d x :: s.slots, s.boxes, s.G, s.marks, s.ro, s.n⟩
    | false => s
  | none => s

def undefA : AV := .tup []

/-- One cell as it is, or several as one value. -/
def mkOf (agg : Bool) (cs : List AV) : Option AV :=
  if agg then some (.agg cs) else match cs with
    | [c] => some c
    | _ => none

/-- The cells behind a pointer. -/
def cellsAt (s : St) : SV → Option (List AV × Nat)
  | .lp k off => match lkB s.boxes k with
    | some cs => some (cs, off)
    | none => none
  | .v (.ptr id off) => match nth s.G id with
    | some (.row cs) => some (cs, off)
    | _ => none
  | .v (.ep cs) => some (cs, 0)
  | _ => none

def moveP (n : Nat) : SV → Option SV
  | .lp k off => some (.lp k (off + n))
  | .v (.ptr id off) => some (.v (.ptr id (off + n)))
  | .v (.ep cs) => some (.v (.ep (dropN n cs)))
  | _ => none

def bmerge (t : Bool) : AV → AV → AV
  | .bool x, .bool y => .bool (bif t then x else y)
  | .int k x, .int k' y => if k = k' then .int k (bif t then x else y) else (bif t then .int k x else .int k' y)
  | a, b => bif t then a else b

/-- Two values that are compared cell by cell. -/
def eqCells : List AV → List AV → Option Bool
  | [], [] => some true
  | .int k a :: l, .int k' b :: r => match k, k' with
    | .i64, .i64 | .u8, .u8 | .i32, .i32 => match eqCells l r with
      | some t => some ((a == b) && t)
      | none => none
    | _, _ => none
  | .bool a :: l, .bool b :: r => match eqCells l r with
    | some t => some ((a == b) && t)
    | none => none
  | .str a :: l, .str b :: r => match eqCells l r with
    | some t => some ((a == b) && t)
    | none => none
  | _, _ => none

/-- A part of a struct by value. -/
def partA (ag : Bool) (off sz : Nat) (cs : List AV) : Option AV :=
  if ag then (match seg off sz cs with | some l => mkOf true l | none => none) else (match seg off 1 cs with | some l => mkOf false l | none => none)

mutual
/-- Whether two values of a type are equal. -/
def eqA : EK → AV → AV → Option Bool
  | .bool, .bool a, .bool b => some (a == b)
  | .int, .int k a, .int k' b => if k = k' then some (a == b) else none
  | .str, .str a, .str b => some (a == b)
  | .st fs, .agg xs, .agg ys => eqFs fs xs ys
  | _, _, _ => none
def eqFs : EKs → List AV → List AV → Option Bool
  | .nil, _, _ => some true
  | .cons off sz ag k rest, xs, ys => match partA ag off sz xs, partA ag off sz ys with
    | some a, some b => match eqA k a b, eqFs rest xs ys with
      | some t, some u => some (t && u)
      | _, _ => none
    | _, _ => none
end

def abin (op : BinOp) (x y : AV) : Option (Bool × AV) :=
  match x, y with
  | .int k a, .int k' b =>
    match op with
    | .shl => some (decide (0 ≤ b), .int k (k.wrap (a * 2 ^ (min b.toNat k.bits))))
    | .shr => some (decide (0 ≤ b), .int k (a.fdiv (2 ^ (min b.toNat k.bits))))
    | _ => if k = k' then
        match op with
        | .add => some (true, .int k (k.wrap (a + b)))
        | .sub => some (true, .int k (k.wrap (a - b)))
        | .mul => some (true, .int k (k.wrap (a * b)))
        | .quo => some (!(decide (b = 0)), .int k (k.wrap (a.tdiv b)))
        | .rem => some (!(decide (b = 0)), .int k (a.tmod b))
        | .eql => some (true, .bool (a == b))
        | .neq => some (true, .bool (a != b))
        | .lss => some (true, .bool (a < b))
        | .leq => some (true, .bool (a ≤ b))
        | .gtr => some (true, .bool (a > b))
        | .geq => some (true, .bool (a ≥ b))
        | _ => none
      else none
  | .str a, .str b =>
    match op with
    | .add => some (decide (a.length + b.length ≤ 9223372036854775807), .str (a ++ b))
    | .eql => some (true, .bool (a == b))
    | .neq => some (true, .bool (!(a == b)))
    | .lss => some (true, .bool (Op.bytesLess a b))
    | .leq => some (true, .bool (Op.bytesLess a b || a == b))
    | .gtr => some (true, .bool (!(Op.bytesLess a b || a == b)))
    | .geq => some (true, .bool (!(Op.bytesLess a b)))
    | _ => none
  | _, _ => none

end Go.Am
