/- The abstract machine: one operation (definitions alone). -/
import Derived.Test.YtpngggdfbbdfaaaDoorAmA
set_option linter.all false
namespace Go.Am
open Go

def St.kill (s : St) (d : Nat) : St := ⟨.kill d :: s.slots, s.boxes, s.G, s.marks, s.ro, s.n⟩

def AV.notTup : AV → Bool
  | .tup _ => false
  | _ => true

def St.addG (s : St) (o : GO) : St := ⟨s.slots, s.boxes, s.G ++ [o], s.marks, s.ro, s.n⟩
def St.inG (s : St) (G : List GO) : St := ⟨s.slots, s.boxes, G, s.marks, s.ro, s.n⟩
def St.inB (s : St) (d : Nat) (cs : List AV) : St := ⟨s.slots, (d, cs) :: s.boxes, s.G, s.marks, s.ro, s.n⟩

def allocA (E : Env) (f : FuncId) (s : St) (dst : Option Tmp) (cs : List AV) : Option (Bool × St) :=
  match dst with
  | none => none
  | some d =>
    if E.glb f d then some (true, (s.addG (.row cs)).put (some d) (.v (.ptr s.G.length 0)))
    else match Nat.blt d s.n with
      | true => some (true, ((s.kill d).inB d cs).put (some d) (.lp d 0))
      | false => none

/-- The values of a list of operands. -/
def evL (E : Env) (slots : Slots) : List Operand → Option (List AV)
  | [] => some []
  | x :: l => match evO E slots x, evL E slots l with
    | .v a, some r => some (a :: r)
    | _, _ => none

def evP (E : Env) (slots : Slots) : List (Nat × Operand) → Option (List (Nat × AV))
  | [] => some []
  | (i, x) :: l => match evO E slots x, evP E slots l with
    | .v a, some r => some ((i, a) :: r)
    | _, _ => none

def placeOf : TK → Nat → Option (Nat × Nat)
  | .st fs, j => match nth fs j with
    | some (o, sz, _) => some (o, sz)
    | none => none
  | .arr _ esz _, j => some (j * esz, esz)
  | _, _ => none

def fillA (place : Nat → Option (Nat × Nat)) (cells : List AV) : List (Nat × AV) → Option (List AV)
  | [] => some cells
  | (i, v) :: rest => match place i with
    | none => none
    | some (off, sz) =>
      if v.notTup && Nat.beq v.cells.length sz && Nat.ble (off + sz) cells.length then fillA place (splice cells off v.cells) rest else none

def fillE (esz : Nat) (es : List AV) : List (Nat × AV) → Option (List AV)
  | [] => some es
  | (i, v) :: rest =>
    if v.notTup && Nat.beq v.cells.length esz && Nat.ble (i + 1) es.length && v.closed then fillE esz (setN es i v) rest else none

def buildA (E : Env) (s : St) (t : TypeId) (parts : List (Nat × Operand)) : Option AV :=
  match E.ti t, evP E s.slots parts with
  | some i, some ps => match i.zero with
    | some z => match fillA (placeOf i.k) z.cells ps with
      | some cs => if i.agg && z.notTup then some (.agg cs) else none
      | none => none
    | none => none
  | _, _ => none

def weakP : List (Nat × AV) → List (Nat × AV)
  | [] => []
  | (i, v) :: l => (i, v.weak) :: weakP l

def buildSliceA (E : Env) (s : St) (t : TypeId) (len : Nat) (parts : List (Nat × Operand)) : Option AV :=
  match E.ti t, evP E s.slots parts with
  | some i, some ps => match i.k with
    | .sl _ esz _ _ (some z) =>
        if Nat.beq z.cells.length esz && Nat.ble 1 esz && Nat.ble (len * esz) 16777216 && z.notTup && z.closed then
          match fillE esz (List.replicate len z) (weakP ps) with
          | some es => some (.list .full esz es)
          | none => none
        else none
    | _ => none
  | _, _ => none

def loadA (E : Env) (s : St) (t : TypeId) (p : SV) : Option AV :=
  match E.ti t, cellsAt s p with
  | some i, some (cs, off) => match seg off i.size cs with
    | some l => mkOf i.agg l
    | none => none
  | _, _ => none

def storeA (E : Env) (s : St) (t : TypeId) (p x : SV) : Option St :=
  match E.ti t, x with
  | some i, .v v =>
    if v.notTup && Nat.beq v.cells.length i.size then
      match p with
      | .lp k off => match lkB s.boxes k with
        | some cs => if Nat.ble (off + v.cells.length) cs.length then some (s.inB k (splice cs off v.cells)) else none
        | none => none
      | .v (.ptr id off) => match nth s.G id with
        | some (.row cs) => if Nat.ble (off + v.cells.length) cs.length then some (s.inG (setN s.G id (.row (splice cs off v.cells)))) else none
        | _ => none
      | _ => none
    else none
  | _, _ => none

def nthD (es : List AV) (n : Nat) : AV := match nth es n with
  | some e => e
  | none => undefA

def indexAddrA (E : Env) (t : TypeId) (x ix : SV) : Option (Bool × SV) :=
  match E.ti t, ix with
  | some i, .v (.int _ n) => match i.k, x with
    | .sl _ esz _ _ _, .v (.list _ sz es) => if Nat.beq sz esz || es.isEmpty then
        match E.elp t with
        | some p => some (decide (0 ≤ n ∧ n < es.length) && p.fits (nthD es n.toNat), .v (.ep (p.enc (p.decD (nthD es n.toNat))).cells))
        | none => some (decide (0 ≤ n ∧ n < es.length), .v (.ep (nthD es n.toNat).cells))
      else none
    | .sl _ esz _ _ _, .v (.msl id off sz len _) => if Nat.beq sz esz then some (decide (0 ≤ n ∧ n < len), .v (.ptr id (off + n.toNat * sz))) else none
    | .arr len esz _, .v (.ep cs) => match E.elp t with
      | some p => if Nat.beq esz 1 && Nat.ble len cs.length then some (decide (0 ≤ n ∧ n < len) && p.fits (nthD cs n.toNat), .v (.ep [p.enc (p.decD (nthD cs n.toNat))])) else none
      | none => some (decide (0 ≤ n ∧ n < len), .v (.ep (dropN (n.toNat * esz) cs)))
    | .arr len esz _, p => match moveP (n.toNat * esz) p with
      | some q => some (decide (0 ≤ n ∧ n < len), q)
      | none => none
    | _, _ => none
  | _, _ => none

def fieldAddrA (E : Env) (t : TypeId) (x : SV) (j : Nat) : Option SV :=
  match E.ti t with
  | some i => match i.k with
    | .st fs => match nth fs j with
      | some (o, sz, _) => if Nat.ble 1 sz then moveP o x else none
      | none => none
    | _ => none
  | none => none

def fieldA (E : Env) (t : TypeId) (x : SV) (j : Nat) : Option AV :=
  match E.ti t, x with
  | some i, .v (.agg cs) => match i.k with
    | .st fs => match nth fs j with
      | some (o, sz, ag) => if ag then (match seg o sz cs with | some l => mkOf true l | none => none) else (match seg o 1 cs with | some l => mkOf false l | none => none)
      | none => none
    | _ => none
  | _, _ => none

def indexA (E : Env) (t : TypeId) (x ix : SV) : Option (Bool × AV) :=
  match E.ti t, x, ix with
  | some i, .v (.str l), .v (.int _ n) => match i.k with
    | .str => some (decide (0 ≤ n ∧ n < l.length), .int .u8 (l.getD n.toNat 0).toNat)
    | _ => none
  | some i, .v (.agg cs), .v (.int _ n) => match i.k with
    | .arr len esz ag => match (if ag then (match seg (n.toNat * esz) esz cs with | some l => mkOf true l | none => none) else (match seg (n.toNat * esz) 1 cs with | some l => mkOf false l | none => none)) with
      | some v => some (decide (0 ≤ n ∧ n < len), v)
      | none => none
    | _ => none
  | _, _, _ => none

/-- A bound of a slice: its value, and whether it is from 0 to y. -/
def boundA (y : Nat) : SV → Option (Bool × Nat)
  | .v (.int _ n) => some (decide (0 ≤ n ∧ n ≤ y), n.toNat)
  | _ => none

/-- x[lo:hi] of a list (as far as its length is known to reach). -/
def subA {α : Type} (lo hi : Nat) (l : List α) : List α := (l.take hi).drop lo

def optO (E : Env) (slots : Slots) : Option Operand → Option (Option SV)
  | none => some none
  | some x => some (some (evO E slots x))

def lohi (len : Nat) (lo hi : Option SV) : Option (Bool × Nat × Nat) :=
  match (match hi with | none => some (true, len) | some h => boundA len h) with
  | none => none
  | some (c1, h) => match (match lo with | none => some (true, 0) | some l => boundA h l) with
    | none => none
    | some (c2, l) => some (c1 && c2, l, h)

def sliceA (E : Env) (t : TypeId) (x : SV) (lo hi : Option SV) (mx : Option Operand) : Option (Bool × AV) :=
  match E.ti t, mx with
  | some i, none => match i.k, x with
    | .str, .v (.str l) => match lohi l.length lo hi with
      | some (c, a, b) => some (c, .str (subA a b l))
      | none => none
    | .sl _ esz _ _ _, .v (.list k sz es) =>
      if Nat.beq sz esz || es.isEmpty then
        match lohi es.length lo hi with
        | some (c, a, b) => some (c, .list (match k with | .nil => .nil | .full => (match hi with | none => .full | some _ => .opn) | _ => .opn) esz (subA a b es))
        | none => none
      else none
    | .sl _ esz _ _ _, .v (.msl id off sz len cap) =>
      if Nat.beq sz esz then
        match lohi len lo hi with
        | some (c, a, b) => some (c && decide (a < cap), .msl id (off + a * sz) sz (b - a) (cap - a))
        | none => none
      else none
    | _, _ => none
  | _, _ => none

def tokUp (G : List GO) (id n : Nat) (f sz : Nat) (e : TypeId) : List GO := setN G id (.tok (f + n) sz e)

/-- append(x, ys...) on a list: the list, and the objects. -/
def appendA (G : List GO) (elem esz ebytes : Nat) (x : AV) (ys : List AV) : Option (Bool × AV × List GO) :=
  match x, ys with
  | .list k sz es, [] => match k with
    | .nil => some (true, .list .nil sz es, G)
    | k => some (true, .list k sz es, G)
  | .list k sz es, y :: ys =>
    match k with
    | .nil => some (decide ((es.length + (y :: ys).length) * ebytes ≤ 140737488355328), .list (.own G.length) esz (es ++ (y :: ys)), G ++ [.tok (es.length + (y :: ys).length) esz elem])
    | .full => if Nat.beq sz esz then some (decide ((es.length + (y :: ys).length) * ebytes ≤ 140737488355328), .list (.own G.length) esz (es ++ (y :: ys)), G ++ [.tok (es.length + (y :: ys).length) esz elem]) else none
    | .own id => match nth G id with
      | some (.tok f sz' e') => if Nat.beq sz' esz && Nat.beq e' elem && Nat.beq sz esz then
          some (decide (f = es.length) && decide ((es.length + (y :: ys).length) * ebytes ≤ 140737488355328), .list (.own id) esz (es ++ (y :: ys)), tokUp G id (y :: ys).length f esz elem) else none
      | _ => none
    | .opn => none
  | _, _ => none

def maxA : AV → List AV → Option AV
  | x, [] => some x
  | .int k x, .int k' y :: l => if k = k' then maxA (.int k (if y > x then y else x)) l else none
  | _, _ => none

def minA : AV → List AV → Option AV
  | x, [] => some x
  | .int k x, .int k' y :: l => if k = k' then minA (.int k (if y < x then y else x)) l else none
  | _, _ => none

/-- The elements that a row of cells holds, from a place on. -/
def elemsAt (agg : Bool) (esz : Nat) : Nat → List AV → Option (List AV)
  | 0, _ => some []
  | n + 1, cs => match takeN esz cs, elemsAt agg esz n (dropN esz cs) with
    | some l, some r => match mkOf agg l with
      | some v => some (v :: r)
      | none => none
    | _, _ => none

def cellsL : List AV → List AV
  | [] => []
  | e :: es => e.cells ++ cellsL es

/-- copy(dst, src): how many, and the objects. -/
def copyA (s : St) (esz : Nat) (d x : AV) : Option (Nat × List GO) :=
  match d with
  | .msl id off sz len _ => match nth s.G id with
    | some (.row cs) =>
      if Nat.beq sz esz then
        match x with
        | .list _ sz' es => if Nat.beq sz' esz || es.isEmpty then
            let n := Nat.min es.length len
            let l := cellsL (es.take n)
            if Nat.ble (off + l.length) cs.length then some (n, setN s.G id (.row (splice cs off l))) else none
          else none
        | .msl id' off' sz' len' _ => match nth s.G id' with
          | some (.row cs') =>
            let n := Nat.min len' len
            match seg off' (n * esz) cs' with
            | some l => if Nat.beq sz' esz && Nat.ble (off + l.length) cs.length then some (n, setN s.G id (.row (splice cs off l))) else none
            | none => none
          | _ => none
        | _ => none
      else none
    | _ => none
  | _ => none

def builtinA (E : Env) (s : St) (dst : Option Tmp) (b : Builtin) (args : List AV) (tys : List TypeId) : Option (Bool × St) :=
  match b, args with
  | .len, [x] => match tys with
    | t :: _ => match E.ti t with
      | some i => match i.k, x with
        | .str, .str l => some (true, s.put dst (.v (.int .i64 l.length)))
        | .sl .., .list _ _ es => some (true, s.put dst (.v (.int .i64 es.length)))
        | .sl .., .msl _ _ _ len _ => some (true, s.put dst (.v (.int .i64 len)))
        | .arr n _ _, _ => some (true, s.put dst (.v (.int .i64 n)))
        | .map .., .nilm => some (true, s.put dst (.v (.int .i64 0)))
        | .map .., .map id => match nth s.G id with
          | some (.map es) => some (true, s.put dst (.v (.int .i64 es.length)))
          | _ => none
        | _, _ => none
      | none => none
    | _ => none
  | .append, [x, .list _ sz ys] => match tys with
    | [t, u] => match E.ti t with
      | some i => match i.k with
        | .sl elem esz _ ebytes (some z) =>
          if (Nat.beq sz esz || ys.isEmpty) && Nat.beq t u && Nat.ble 1 esz && Nat.ble 1 ebytes && Nat.beq z.cells.length esz && z.notTup then
            match appendA s.G elem esz ebytes x ys with
            | some (c, v, G') => some (c, (s.inG G').put dst (.v v))
            | none => none
          else none
        | _ => none
      | none => none
    | _ => none
  | .copy, [d, x] => match tys with
    | t :: _ => match E.ti t with
      | some i => match i.k with
        | .sl _ esz _ _ _ => match copyA s esz d x with
          | some (n, G') => some (true, (s.inG G').put dst (.v (.int .i64 n)))
          | none => none
        | _ => none
      | none => none
    | _ => none
  | .max, x :: l => match maxA x l with
    | some v => some (true, s.put dst (.v v))
    | none => none
  | .min, x :: l => match minA x l with
    | some v => some (true, s.put dst (.v v))
    | none => none
  | _, _ => none

/-- The kinds of keys that are compared by their bits. -/
def EK.plain : EK → Bool
  | .bool | .int | .str => true
  | _ => false

def mfind (e : EK) (k : AV) : List (AV × AV) → Option (Option AV)
  | [] => some none
  | (k', v) :: l => match eqA e k k' with
    | some true => some (some v)
    | some false => mfind e k l
    | none => none

def mput (e : EK) (k v : AV) : List (AV × AV) → Option (List (AV × AV))
  | [] => some [(k, v)]
  | (k', v') :: l => match eqA e k k' with
    | some true => some ((k, v) :: l)
    | some false => match mput e k v l with
      | some r => some ((k', v') :: r)
      | none => none
    | none => none

def keyFits : EK → AV → Bool
  | .bool, .bool _ => true
  | .int, .int _ _ => true
  | .str, .str _ => true
  | _, _ => false

def mapOf (s : St) : SV → Option (List (AV × AV))
  | .v .nilm => some []
  | .v (.map id) => match nth s.G id with
    | some (.map es) => some es
    | _ => none
  | _ => none

/-- m[k]: the value, and whether it is there. -/
def lookupA (E : Env) (s : St) (t : TypeId) (m k : SV) : Option (AV × Bool) := match E.ti t, mapOf s m, k with
  | some i, some es, .v k => match i.k with
    | .map kt _ (some z) => match E.ti kt with
      | some j => if j.ek.plain && keyFits j.ek k then match mfind j.ek k es with
          | some (some v) => some (v, true)
          | some none => some (z, false)
          | none => none
        else none
      | none => none
    | _ => none
  | _, _, _ => none

def updateA (E : Env) (s : St) (t : TypeId) (m k x : SV) : Option St := match E.ti t, m, k, x with
  | some i, .v (.map id), .v k, .v x => match i.k, nth s.G id with
    | .map kt _ _, some (.map es) => match E.ti kt with
      | some j => if j.ek.plain && keyFits j.ek k then match mput j.ek k x es with
          | some es' => some (s.inG (setN s.G id (.map es')))
          | none => none
        else none
      | none => none
    | _, _ => none
  | _, _, _, _ => none

/-- The rune at a place of a string, and how many bytes it takes. -/
def decodeA (l : List UInt8) (pos : Nat) : Nat × Nat :=
  bif Nat.blt (l.getD pos 0).toNat 128 then ((l.getD pos 0).toNat, 1) else Utf8.decode ⟨⟨l⟩⟩ pos

def nextA (s : St) (dst : Option Tmp) (x : SV) : Option St := match x with
  | .v (.ptr id 0) => match nth s.G id with
    | some (.siter l pos) => bif Nat.blt pos l.length then
        match decodeA l pos with
        | (c, n) => some ((s.inG (setN s.G id (.siter l (pos + n)))).put dst (.v (.tup [.bool true, .int .i64 pos, .int .i32 c])))
      else some (s.put dst (.v (.tup [.bool false])))
    | _ => none
  | _ => none

/-- Whether one of two compared values is nil decides. -/
def nilEq : AV → AV → Option Bool
  | .list .nil _ _, .list .nil _ _ => some true
  | .list .nil _ _, .list _ _ _ => some false
  | .list _ _ _, .list .nil _ _ => some false
  | .msl .., .list .nil _ _ => some false
  | .nilf, .nilf => some true
  | .fn .., .nilf => some false
  | .nilp, .nilp => some true
  | .ptr .., .nilp => some false
  | .nilm, .nilm => some true
  | .map _, .nilm => some false
  | .nili, .nili => some true
  | .iface .., .nili => some false
  | _, _ => none

/-- A comparison of two values that are no integers and no strings. -/
def eqO (E : Env) (op : BinOp) (t : TypeId) (a b : AV) : Option Bool := match op, E.ti t with
  | .eql, some i => eqA i.ek a b
  | .neq, some i => match eqA i.ek a b with
    | some r => some (!r)
    | none => none
  | _, _ => none

/-- A slice that is built to be written, or to be appended to. -/
def buildSliceM (E : Env) (f : FuncId) (s : St) (o : Oper) : Option St := match o.op with
  | .buildSlice t len parts => match o.dst with
    | some d => if E.glb f d then match buildSliceA E s t len parts.toList with
        | some (.list _ esz es) => some ((s.addG (.row (cellsL es))).put (some d) (.v (.msl s.G.length 0 esz len len)))
        | _ => none
      else if E.glb f (d + 65536) then match E.ti t with
        | some i => match i.k, buildSliceA E s t len parts.toList with
          | .sl elem _ _ _ _, some (.list _ esz es) => if Nat.ble len 65536 then some ((s.addG (.tok len esz elem)).put (some d) (.v (.list (.own s.G.length) esz es))) else none
          | _, _ => none
        | none => none
      else none
    | none => none
  | _ => none

/-- One operation that is neither a call of a function nor one of those that ask the tape. -/
def stepOp (E : Env) (f : FuncId) (s : St) (o : Oper) : Option (Bool × St) :=
  match o.op with
  | .move x => match evO E s.slots x with
    | .v a => some (true, s.put o.dst (.v a))
    | .lp k off => some (true, s.put o.dst (.lp k off))
    | .none => some (true, s.put o.dst .none)
  | .assign x => match evO E s.slots x with
    | .v a => some (true, s.put o.dst (.v a))
    | .lp k off => some (true, s.put o.dst (.lp k off))
    | .none => some (true, s.put o.dst .none)
  | .pick c a b => match evO E s.slots c, evO E s.slots a, evO E s.slots b with
    | .v (.bool t), .v x, .v y => some (true, s.put o.dst (.v (bmerge t x y)))
    | _, _, _ => none
  | .alloc e => match E.ti e with
    | some i => match i.zero with
      | some z => if z.notTup then allocA E f s o.dst z.cells else none
      | none => none
    | none => none
  | .box _ x => match evO E s.slots x with
    | .v v => if v.notTup then allocA E f s o.dst v.cells else none
    | _ => none
  | .build t parts => match buildA E s t parts.toList with
    | some v => some (true, s.put o.dst (.v v))
    | none => none
  | .buildSlice t len parts => match buildSliceA E s t len parts.toList with
    | some v => some (true, s.put o.dst (.v v))
    | none => none
  | .load t a => match loadA E s t (evO E s.slots a) with
    | some v => some (true, s.put o.dst (.v v))
    | none => none
  | .store t a x => match o.dst, storeA E s t (evO E s.slots a) (evO E s.slots x) with
    | none, some s' => some (true, s')
    | _, _ => none
  | .binOp op t x y _ => match evO E s.slots x, evO E s.slots y with
    | .v a, .v b => match abin op a b with
      | some (c, v) => some (c, s.put o.dst (.v v))
      | none => match eqO E op t a b with
        | some r => some (true, s.put o.dst (.v (.bool r)))
        | none => none
    | _, _ => none
  | .unOp op _ x => match op, evO E s.slots x with
    | .not, .v (.bool b) => some (true, s.put o.dst (.v (.bool (!b))))
    | .neg, .v (.int k n) => some (true, s.put o.dst (.v (.int k (k.wrap (0 - n)))))
    | _, _ => none
  | .convert a b x => match E.ti a, E.ti b, evO E s.slots x with
    | some _, some j, .v (.int _ n) => match j.k with
      | .int k => some (true, s.put o.dst (.v (.int k (k.wrap n))))
      | _ => none
    | _, _, _ => none
  | .makeFunc (.func g) first captured => match evL E s.slots first.toList, evL E s.slots captured.toList with
    | some x, some y => some (true, s.put o.dst (.v (.fn g x y)))
    | _, _ => none
  | .fieldAddr t x j => match fieldAddrA E t (evO E s.slots x) j with
    | some p => some (true, s.put o.dst p)
    | none => none
  | .field t x j => match fieldA E t (evO E s.slots x) j with
    | some v => some (true, s.put o.dst (.v v))
    | none => none
  | .indexAddr t x ix => match indexAddrA E t (evO E s.slots x) (evO E s.slots ix) with
    | some (c, p) => some (c, s.put o.dst p)
    | none => none
  | .index t x ix => match indexA E t (evO E s.slots x) (evO E s.slots ix) with
    | some (c, v) => some (c, s.put o.dst (.v v))
    | none => none
  | .slice t x lo hi mx => match optO E s.slots lo, optO E s.slots hi with
    | some l, some h => match sliceA E t (evO E s.slots x) l h mx with
      | some (c, v) => some (c, s.put o.dst (.v v))
      | none => none
    | _, _ => none
  | .extract x i => match evO E s.slots x with
    | .v (.tup vs) => match nth vs i with
      | some v => some (true, s.put o.dst (.v v))
      | none => none
    | _ => none
  | .makeSlice t l c => match E.ti t, evO E s.slots l, evO E s.slots c with
    | some i, .v (.int _ n), .v (.int _ m) => match i.k with
      | .sl _ esz _ ebytes (some z) =>
        if Nat.beq z.cells.length esz && Nat.ble 1 esz && z.notTup then
          some (decide (0 ≤ n ∧ n ≤ m ∧ m ≤ 140737488355328 ∧ m * ebytes ≤ 140737488355328),
            (s.addG (.row (cellsL (List.replicate m.toNat z)))).put o.dst (.v (.msl s.G.length 0 esz n.toNat m.toNat)))
        else none
      | _ => none
    | _, _, _ => none
  | .lookup t m k ok => match lookupA E s t (evO E s.slots m) (evO E s.slots k) with
    | some (v, b) => some (true, s.put o.dst (.v (if ok then .tup [v, .bool b] else v)))
    | none => none
  | .mapUpdate t m k x => match o.dst, updateA E s t (evO E s.slots m) (evO E s.slots k) (evO E s.slots x) with
    | none, some s' => some (true, s')
    | _, _ => none
  | .range t x => match E.ti t, evO E s.slots x with
    | some i, .v (.str l) => match i.k with
      | .str => some (true, (s.addG (.siter l 0)).put o.dst (.v (.ptr s.G.length 0)))
      | _ => none
    | _, _ => none
  | .next x true => match nextA s o.dst (evO E s.slots x) with
    | some s' => some (true, s')
    | none => none
  | .makeMap _ none => some (true, (s.addG (.map [])).put o.dst (.v (.map s.G.length)))
  | .call { callee := .builtin b, args, argTypes } => match evL E s.slots args.toList with
    | some l => builtinA E s o.dst b l argTypes.toList
    | none => none
  | _ => none

end Go.Am
