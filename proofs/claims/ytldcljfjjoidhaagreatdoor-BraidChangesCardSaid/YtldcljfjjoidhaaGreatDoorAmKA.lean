/- The abstract machine: its values,its state,and what each operation does (definitions alone). -/
import Derived.CallsIn
import Derived.RangeFuncLeaves
import Derived.Laws.AppendOwn
set_option linter.all false
namespace Go.Am
open Go
inductive LK where
 | nil | full | dP | own (id:Nat) | aU (id j:Nat)
inductive AV where
 | bool (b:Bool)
 | int (k:IntKind) (n:Int)
 | str (s:List UInt8)
 | agg (cs:List AV)
 | aX (vs:List AV)
 | gi
 | ptr (id off:Nat)
 | ep (cs:List AV)
 | list (k:LK) (sz:Nat) (es:List AV)
 | iL (id off sz len cap:Nat)
 | dC (id f off sz len:Nat)
 | gp (id f i off sz:Nat) (t:TypeId)
 | jc
 | map (id:Nat)
 | bX
 | fn (f:FuncId) (first cap:List AV)
 | yield (id:Nat)
 | lY
 | iface (t:TypeId) (v:AV)
def LK.closed:LK→Bool
 | .own _=>false
 | .aU _ _=>false
 | _=>true
mutual
def AV.closed:AV→Bool
 | .agg cs=>aS cs
 | .aX cs=>aS cs
 | .ep cs=>aS cs
 | .list k _ _=>k.closed
 | .fn _ x y=>aS x&&aS y
 | .iface _ v=>v.closed
 | .ptr _ _=>false
 | .iL _ _ _ _ _=>false
 | .dC _ _ _ _ _=>false
 | .gp _ _ _ _ _ _=>false
 | .map _=>false
 | .yield _=>false
 | _=>true
def aS:List AV→Bool
 | []=>true
 | a :: l=>a.closed&&aS l
end
mutual
def AV.ft:AV→AV
 | .agg cs=>.agg (jQ cs)
 | .aX cs=>.aX (jQ cs)
 | .list (.own _) sz es=>.list .dP sz es
 | .list (.aU _ _) sz es=>.list .dP sz es
 | v=>v
def jQ:List AV→List AV
 | []=>[]
 | a :: l=>a.ft :: jQ l
end
inductive SV where
 | none
 | v (a:AV)
 | lp (key off:Nat)
inductive Zj where
 | put (d:Nat) (x:SV)
 | kill (d:Nat)
abbrev aT:=List Zj
abbrev b8:=List (Nat × List AV)
def lk:aT→Nat→SV
 | [],_=>.none
 | .put d x :: l,t=>bif Nat.beq d t then x else lk l t
 | .kill d :: l,t=>match lk l t with
  | .lp k off=>bif Nat.beq k d then .none else .lp k off
  | x=>x
def cG:b8→Nat→Option (List AV)
 | [],_=>none
 | (d,cs) :: l,k=>bif Nat.beq d k then some cs else cG l k
inductive GO where
 | dead
 | row (cs:List AV) (el:TypeId)
 | tok (f sz:Nat) (e:TypeId)
 | aU (fs:List Nat) (sz:Nat) (e:TypeId)
 | lS (ot n:Nat) (left:List Nat) (cur:Option Nat) (t:TypeId)
 | dm (es:List AV) (sz:Nat) (el:TypeId)
 | map (es:List (AV × AV))
 | fk (s:List UInt8) (pos:Nat)
 | loop (busy:Bool) (pending:Option Code) (fn:FuncId) (ae:aT) (n:Nat) (params:List Tmp) (assign body:Code) (defers:Nat) (done:Bool)
 | defers (open_:Bool)
structure St where
 ae:aT
 boxes:b8
 G:List GO
 marks:List Nat
 ro:Option Nat
 n:Nat
def nth {α:Type}:List α→Nat→Option α
 | [],_=>none
 | a :: _,0=>some a
 | _ :: l,n+1=>nth l n
def aw {α:Type}:List α→Nat→α→List α
 | [],_,_=>[]
 | _ :: l,0,x=>x :: l
 | a :: l,n+1,x=>a :: aw l n x
def takeN {α:Type}:Nat→List α→Option (List α)
 | 0,_=>some []
 | _+1,[]=>none
 | n+1,a :: l=>match takeN n l with
  | some r=>some (a :: r)
  | none=>none
def er {α:Type}:Nat→List α→List α
 | 0,l=>l
 | _+1,[]=>[]
 | n+1,_ :: l=>er n l
def C0 {α:Type} (off n:Nat) (l:List α):Option (List α):=takeN n (er off l)
def bz {α:Type}:List α→Nat→List α→List α
 | l,_,[]=>l
 | [],_,_ :: _=>[]
 | _ :: l,0,y :: ys=>y :: bz l 0 ys
 | a :: l,n+1,y :: ys=>a :: bz l n (y :: ys)
def AV.cells:AV→List AV
 | .agg cs=>cs
 | v=>[v]
def AV.one:AV→Bool
 | .agg _=>false
 | .aX _=>false
 | _=>true
def ph:Value→Option AV
 | .bool b=>some (.bool b)
 | .int k n=>some (.int k n)
 | .string s=>some (.str s.data.toList)
 | .slice none 0 0=>some (.list .nil 0 [])
 | .pointer none=>some .gi
 | .map none=>some .jc
 | .nilFunc=>some .bX
 | .nilIface=>some .lY
 | _=>none
def ku:List Value→Option (List AV)
 | []=>some []
 | v :: vs=>match ph v,ku vs with
  | some a,some l=>some (a :: l)
  | _,_=>none
def pj:Value→Option AV
 | .agg cs=>match ku cs.toList with
  | some l=>some (.agg l)
  | none=>none
 | .tuple cs=>match ku cs.toList with
  | some l=>some (.aX l)
  | none=>none
 | v=>ph v
inductive TK where
 | sc
 | int (k:IntKind)
 | str
 | st (fs:List (Nat × Nat × Bool))
 | arr (len esz:Nat) (Ve:Bool)
 | sl (elem esz:Nat) (Ve:Bool) (bh:Nat) (RH:Option AV)
 | map (key elem:TypeId) (RH:Option AV)
mutual
inductive EK where
 | no
 | bool
 | int
 | str
 | st (fs:N4)
inductive N4 where
 | nil
 | cons (off sz:Nat) (ag:Bool) (k:EK) (rest:N4)
end
structure TI where
 k:TK
 size:Nat
 agg:Bool
 zero:Option AV
 ek:EK
def iy:TypeDesc→Bool
 | .struct _=>true
 | .array _ _=>true
 | _=>false
def fieldsOf (P:Program):List Field→Option (List (Nat × Nat × Bool))
 | []=>some []
 | f :: fs=>match P.info? f.type,P.underlying f.type,fieldsOf P fs with
  | some i,some u,some l=>some ((f.offset,i.size,iy u) :: l)
  | _,_,_=>none
def eV (i:TypeInfo):Option AV:=match i.zero with
 | some z=>pj z
 | none=>none
def nL (P:Program):TypeDesc→Option TK
 | .int k=>some (.int k)
 | .string=>some .str
 | .struct fs=>match fieldsOf P fs.toList with
  | some l=>some (.st l)
  | none=>none
 | .array n e=>match P.info? e,P.underlying e with
  | some i,some u=>some (.arr n i.size (iy u))
  | _,_=>none
 | .slice e=>match P.info? e,P.underlying e with
  | some i,some u=>some (.sl e i.size (iy u) i.bytes (eV i))
  | _,_=>none
 | .map k e=>match P.info? e with
  | some i=>some (.map k e (eV i))
  | none=>none
 | _=>some .sc
def Bk (P:Program) (ek:TypeId→EK):List Field→Option N4
 | []=>some .nil
 | f :: fs => if f.name == "_" then none else match P.info? f.type, P.underlying f.type, Bk P ek fs with
  | some i,some u,some l=>some (.cons f.offset i.size (iy u) (ek f.type) l)
  | _,_,_=>none
def td (sz:Nat) (ag:Bool) (k:EK):Nat→Nat→N4
 | 0,_=>.nil
 | n+1,i=>.cons (i * sz) sz ag k (td sz ag k n (i+1))
def nN (P:Program):Nat→TypeId→EK
 | 0,_=>.no
 | n+1,t=>match P.underlying t with
  | some .bool=>.bool
  | some (.int _)=>.int
  | some .string=>.str
  | some (.struct fs)=>if P.stoodInHeld t then .no else match Bk P (nN P n) fs.toList with
   | some l=>.st l
   | none=>.no
  | some (.array m e)=>match P.info? e,P.underlying e with
   | some i,some u=>.st (td i.size (iy u) (nN P n e) m 0)
   | _,_=>.no
  | _=>.no
def rm (P:Program) (t:TypeId):EK:=match nN P 6 t with
 | .st l=>if P.eqGuardType P.depth t then .no else .st l
 | k=>k
def D2 (P:Program) (t:TypeId):Option TI:=
 match P.info? t,P.underlying t with
 | some i,some u=>match nL P u with
  | some k=>some { k:=k,size:=i.size,agg:=iy u,zero:=eV i,ek:=rm P t }
  | none=>none
 | _,_=>none
def Ft:AV→AV→Bool
 | .bool a,.bool b=>a == b
 | .int k a,.int k' b=>(k == k')&&a == b
 | .str a,.str b=>a == b
 | .gi,.gi=>true
 | .ptr i o,.ptr i' o'=>Nat.beq i i'&&Nat.beq o o'
 | .jc,.jc=>true
 | .map i,.map i'=>Nat.beq i i'
 | .bX,.bX=>true
 | .lY,.lY=>true
 | .iL a b c d e,.iL a' b' c' d' e'=>Nat.beq a a'&&Nat.beq b b'&&Nat.beq c c'&&Nat.beq d d'&&Nat.beq e e'
 | .dC a b c d e,.dC a' b' c' d' e'=>Nat.beq a a'&&Nat.beq c c'&&Nat.beq d d'&&(Nat.beq b b'&&Nat.beq e e')
 | .gp a b c d e t,.gp a' b' c' d' e' t'=>Nat.beq a a'&&Nat.beq b b'&&Nat.beq c c'&&Nat.beq d d'&&Nat.beq e e'&&Nat.beq t t'
 | _,_=>false
mutual
def dp:AV→AV→Bool
 | .fn f x y,.fn f' x' y'=>Nat.beq f f'&&kv x x'&&kv y y'
 | .agg cs,.agg cs'=>kv cs cs'
 | .ep cs,.ep cs'=>kv cs cs'
 | .aX cs,.aX cs'=>kv cs cs'
 | .list .nil a es,.list .nil a' es'=>Nat.beq a a'&&kv es es'
 | .list .full a es,.list .full a' es'=>Nat.beq a a'&&kv es es'
 | .list .dP a es,.list .dP a' es'=>Nat.beq a a'&&kv es es'
 | .list (.own i) a es,.list (.own i') a' es'=>Nat.beq i i'&&Nat.beq a a'&&kv es es'
 | .list (.aU i j) a es,.list (.aU i' j') a' es'=>Nat.beq i i'&&Nat.beq j j'&&Nat.beq a a'&&kv es es'
 | a,b=>Ft a b
def kv:List AV→List AV→Bool
 | [],[]=>true
 | a :: l,b :: r=>dp a b&&kv l r
 | _,_=>false
end
mutual
inductive an
 | int (k:IntKind)
 | bool
 | str
 | agg (ps:aF)
 | aX (ps:aF)
 | list (sz:Nat) (p:an)
 | own (id sz:Nat) (p:an)
 | aU (id sz:Nat) (p:an)
 | iq (v:AV)
 | two (u v:AV)
inductive aF
 | nil
 | cons (p:an) (ps:aF)
end
def RI (s:Bool) (α β:Type):Type:=match s with
 | true=>α
 | false=>α × β
def aF.isNil:aF→Bool
 | .nil=>true
 | .cons _ _=>false
mutual
def an.T:an→Type
 | .int _=>Int
 | .bool=>Bool
 | .str=>List UInt8
 | .agg ps=>ps.T
 | .aX ps=>ps.T
 | .list _ p=>List p.T
 | .own _ _ p=>List p.T
 | .aU _ _ p=>Nat × List p.T
 | .iq _=>Unit
 | .two _ _=>Bool
def aF.T:aF→Type
 | .nil=>Unit
 | .cons p ps=>RI ps.isNil p.T ps.T
end
mutual
def an.enc:(p:an)→p.T→AV
 | .int k,(n:Int)=>.int k n
 | .bool,(b:Bool)=>.bool b
 | .str,(s:List UInt8)=>.str s
 | .agg ps,x=>.agg (ps.enc x)
 | .aX ps,x=>.aX (ps.enc x)
 | .list sz p,(xs:List p.T)=>.list .dP sz (xs.map p.enc)
 | .own id sz p,(xs:List p.T)=>.list (.own id) sz (xs.map p.enc)
 | .aU id sz p,(x:Nat × List p.T)=>.list (.aU id x.1) sz (x.2.map p.enc)
 | .iq v,_=>v
 | .two u v,(b:Bool)=>bif b then v else u
def aF.enc:(ps:aF)→ps.T→List AV
 | .nil,_=>[]
 | .cons p .nil,x=>[p.enc x]
 | .cons p (.cons q ps),x=>p.enc x.1 :: (aF.cons q ps).enc x.2
end
def N5:IntKind→IntKind→Bool:=fun a b=>decide (a=b)
def AV.iy:AV→List AV
 | .agg cs=>cs
 | _=>[]
def AV.N6:AV→List AV
 | .aX cs=>cs
 | _=>[]
def AV.cY:AV→List AV
 | .list _ _ es=>es
 | _=>[]
def AV.Vf:AV→Nat
 | .list (.aU _ j) _ _=>j
 | _=>0
def AV.jL:AV→Int
 | .int _ n=>n
 | _=>0
def AV.RJ:AV→Bool
 | .bool b=>b
 | _=>false
def AV.N7:AV→List UInt8
 | .str s=>s
 | _=>[]
def dq:List AV→AV
 | a :: _=>a
 | []=>.gi
def Fu:List AV→List AV
 | _ :: l=>l
 | []=>[]
mutual
def an.bf:(p:an)→AV→p.T
 | .int _,v=>v.jL
 | .bool,v=>v.RJ
 | .str,v=>v.N7
 | .agg ps,v=>ps.bf v.iy
 | .aX ps,v=>ps.bf v.N6
 | .list _ p,v=>v.cY.map p.bf
 | .own _ _ p,v=>v.cY.map p.bf
 | .aU _ _ p,v=>(v.Vf,v.cY.map p.bf)
 | .iq _,_=>()
 | .two _ v,a=>dp a v
def aF.bf:(ps:aF)→List AV→ps.T
 | .nil,_=>()
 | .cons p .nil,l=>p.bf (dq l)
 | .cons p (.cons q ps),l=>(p.bf (dq l),(aF.cons q ps).bf (Fu l))
end
def allFit (f:AV→Bool):List AV→Bool
 | []=>true
 | a :: l=>f a&&allFit f l
mutual
def an.fits:an→AV→Bool
 | .int k,v=>match v with
  | .int k' _=>N5 k k'
  | _=>false
 | .bool,v=>match v with
  | .bool _=>true
  | _=>false
 | .str,v=>match v with
  | .str _=>true
  | _=>false
 | .agg ps,v=>match v with
  | .agg cs=>ps.fits cs
  | _=>false
 | .aX ps,v=>match v with
  | .aX cs=>ps.fits cs
  | _=>false
 | .list sz p,v=>match v with
  | .list _ bp es=>(Nat.beq sz bp || es.isEmpty)&&allFit p.fits es
  | _=>false
 | .own id sz p,v=>match v with
  | .list (.own iu) bp es=>(Nat.beq id iu&&Nat.beq sz bp)&&allFit p.fits es
  | _=>false
 | .aU id sz p,v=>match v with
  | .list (.aU iu _) bp es=>(Nat.beq id iu&&Nat.beq sz bp)&&allFit p.fits es
  | _=>false
 | .iq v,u=>dp u v
 | .two u v,a=>dp a u || dp a v
def aF.fits:aF→List AV→Bool
 | .nil,l=>l.isEmpty
 | .cons p ps,l=>match l with
  | a :: l=>p.fits a&&ps.fits l
  | []=>false
end
def an.dec (p:an) (v:AV):Option p.T:=bif p.fits v then some (p.bf v) else none
def aF.dec (ps:aF) (l:List AV):Option ps.T:=bif ps.fits l then some (ps.bf l) else none
structure Env where
 P:Program
 ti:TypeId→Option TI
 bN:Nat→Option (List AV)
 vI:FuncId→Tmp→Bool
 M6:TypeId→Option an
 lo:Nat:=0
 X5:FuncId→Tmp→List (Option Nat × Nat × TypeId):=fun _ _=>[]
 Uy:TypeId→Option an:=fun _=>none
 gx:Nat→Bool:=fun _=>false
 D3:∀ t i,ti t=some i→D2 P t=some i
 mixed:P.follows .mixedOrders=true
 me:∀ g cs,bN g=some cs→aS cs=true
def bk (E:Env) (ae:aT):Operand→SV
 | .tmp t=>lk ae t
 | .const v=>match pj v with
  | some a=>.v a
  | none=>.none
 | .global g=>match E.bN g with
  | some cs=>.v (.ep cs)
  | none=>.none
 | .func f=>.v (.fn f [] [])
def St.put (s:St) (dst:Option Tmp) (x:SV):St:=match dst with
 | some d=>match Nat.blt d s.n with
  | true=>⟨.put d x :: s.ae,s.boxes,s.G,s.marks,s.ro,s.n⟩
  | false=>s
 | none=>s
def eE:AV:=.aX []
def qq (agg:Bool) (cs:List AV):Option AV:=
 if agg then some (.agg cs) else match cs with
  | [c]=>some c
  | _=>none
def kR (s:St):SV→Option (List AV × Nat)
 | .lp k off=>match cG s.boxes k with
  | some cs=>some (cs,off)
  | none=>none
 | .v (.ptr id off)=>match nth s.G id with
  | some (.row cs _)=>some (cs,off)
  | _=>none
 | .v (.ep cs)=>some (cs,0)
 | _=>none
def wi (n:Nat):SV→Option SV
 | .lp k off=>some (.lp k (off+n))
 | .v (.ptr id off)=>some (.v (.ptr id (off+n)))
 | .v (.ep cs)=>some (.v (.ep (er n cs)))
 | .v (.gp id f i off sz t)=>some (.v (.gp id f i (off+n) sz t))
 | _=>none
def xB (t:Bool):AV→AV→AV
 | .bool x,.bool y=>.bool (bif t then x else y)
 | .int k x,.int k' y=>if k=k' then .int k (bif t then x else y) else (bif t then .int k x else .int k' y)
 | a,b=>bif t then a else b
def C1 (ag:Bool) (off sz:Nat) (cs:List AV):Option AV:=
 if ag then (match C0 off sz cs with | some l=>qq true l | none=>none) else (match C0 off 1 cs with | some l=>qq false l | none=>none)
mutual
def jM:EK→AV→AV→Option Bool
 | .bool,.bool a,.bool b=>some (a == b)
 | .int,.int k a,.int k' b=>if k=k' then some (a == b) else none
 | .str,.str a,.str b=>some (a == b)
 | .st fs,.agg xs,.agg ys=>qt fs xs ys
 | _,_,_=>none
def qt:N4→List AV→List AV→Option Bool
 | .nil,_,_=>some true
 | .cons off sz ag k rest,xs,ys=>match C1 ag off sz xs,C1 ag off sz ys with
  | some a,some b=>match jM k a b,qt rest xs ys with
   | some t,some u=>some (t&&u)
   | _,_=>none
  | _,_=>none
end
def D4 (k:IntKind) (a b:Int):Int:=k.wrap (BitVec.ofInt k.bits a &&& BitVec.ofInt k.bits b).toNat
def Vg (k:IntKind) (a b:Int):Int:=k.wrap (BitVec.ofInt k.bits a ||| BitVec.ofInt k.bits b).toNat
def D5 (k:IntKind) (a b:Int):Int:=k.wrap (BitVec.ofInt k.bits a ^^^ BitVec.ofInt k.bits b).toNat
def zo (op:BinOp) (x y:AV):Option (Bool × AV):=
 match x,y with
 | .int k a,.int k' b=>
  match op with
  | .shl=>some (decide (0≤b),.int k (k.wrap (a * 2 ^ (min b.toNat k.bits))))
  | .shr=>some (decide (0≤b),.int k (a.fdiv (2 ^ (min b.toNat k.bits))))
  | _=>if k=k' then
    match op with
    | .add=>some (true,.int k (k.wrap (a+b)))
    | .sub=>some (true,.int k (k.wrap (a - b)))
    | .mul=>some (true,.int k (k.wrap (a * b)))
    | .quo=>some (!(decide (b=0)),.int k (k.wrap (a.tdiv b)))
    | .rem=>some (!(decide (b=0)),.int k (a.tmod b))
    | .and=>some (true,.int k (D4 k a b))
    | .or=>some (true,.int k (Vg k a b))
    | .xor=>some (true,.int k (D5 k a b))
    | .eql=>some (true,.bool (a == b))
    | .neq=>some (true,.bool (a != b))
    | .lss=>some (true,.bool (a < b))
    | .leq=>some (true,.bool (a≤b))
    | .gtr=>some (true,.bool (a > b))
    | .geq=>some (true,.bool (a≥b))
    | _=>none
   else none
 | .str a,.str b=>
  match op with
  | .add=>some (decide (a.length+b.length≤9223372036854775807),.str (a++b))
  | .eql=>some (true,.bool (a == b))
  | .neq=>some (true,.bool (!(a == b)))
  | .lss=>some (true,.bool (Op.bytesLess a b))
  | .leq=>some (true,.bool (Op.bytesLess a b || a == b))
  | .gtr=>some (true,.bool (!(Op.bytesLess a b || a == b)))
  | .geq=>some (true,.bool (!(Op.bytesLess a b)))
  | _=>none
 | _,_=>none
end Go.Am
namespace Go.Am
open Go
def St.kill (s:St) (d:Nat):St:=⟨.kill d :: s.ae,s.boxes,s.G,s.marks,s.ro,s.n⟩
def AV.aL:AV→Bool
 | .aX _=>false
 | _=>true
def St.cV (s:St) (o:GO):St:=⟨s.ae,s.boxes,s.G++[o],s.marks,s.ro,s.n⟩
def St.bL (s:St) (G:List GO):St:=⟨s.ae,s.boxes,G,s.marks,s.ro,s.n⟩
def St.se (s:St) (d:Nat) (cs:List AV):St:=⟨s.ae,(d,cs) :: s.boxes,s.G,s.marks,s.ro,s.n⟩
def dQ (E:Env) (f:FuncId) (s:St) (dst:Option Tmp) (el:TypeId) (cs:List AV):Option (Bool × St):=
 match dst with
 | none=>none
 | some d=>
  if E.vI f d then some (true,(s.cV (.row cs el)).put (some d) (.v (.ptr s.G.length 0)))
  else match Nat.blt d s.n with
   | true=>some (true,((s.kill d).se d cs).put (some d) (.lp d 0))
   | false=>none
def kr (E:Env) (ae:aT):List Operand→Option (List AV)
 | []=>some []
 | x :: l=>match bk E ae x,kr E ae l with
  | .v a,some r=>some (a :: r)
  | _,_=>none
def I7 (E:Env) (ae:aT):List (Nat × Operand)→Option (List (Nat × AV))
 | []=>some []
 | (i,x) :: l=>match bk E ae x,I7 E ae l with
  | .v a,some r=>some ((i,a) :: r)
  | _,_=>none
def placeOf:TK→Nat→Option (Nat × Nat)
 | .st fs,j=>match nth fs j with
  | some (o,sz,_)=>some (o,sz)
  | none=>none
 | .arr _ esz _,j=>some (j * esz,esz)
 | _,_=>none
def rn (place:Nat→Option (Nat × Nat)) (cells:List AV):List (Nat × AV)→Option (List AV)
 | []=>some cells
 | (i,v) :: rest=>match place i with
  | none=>none
  | some (off,sz)=>
   if v.aL&&Nat.beq v.cells.length sz&&Nat.ble (off+sz) cells.length then rn place (bz cells off v.cells) rest else none
def zp (esz:Nat) (es:List AV):List (Nat × AV)→Option (List AV)
 | []=>some es
 | (i,v) :: rest=>
  if v.aL&&Nat.beq v.cells.length esz&&Nat.ble (i+1) es.length&&v.closed then zp esz (aw es i v) rest else none
def kS (E:Env) (s:St) (t:TypeId) (parts:List (Nat × Operand)):Option AV:=
 match E.ti t,I7 E s.ae parts with
 | some i,some ps=>match i.zero with
  | some z=>match rn (placeOf i.k) z.cells ps with
   | some cs=>if i.agg&&z.aL then some (.agg cs) else none
   | none=>none
  | none=>none
 | _,_=>none
def wj:List (Nat × AV)→List (Nat × AV)
 | []=>[]
 | (i,v) :: l=>(i,v.ft) :: wj l
def bM (E:Env) (s:St) (t:TypeId) (len:Nat) (parts:List (Nat × Operand)):Option AV:=
 match E.ti t,I7 E s.ae parts with
 | some i,some ps=>match i.k with
  | .sl _ esz _ _ (some z)=>
    if Nat.beq z.cells.length esz&&Nat.ble 1 esz&&Nat.ble (len * esz) 16777216&&z.aL&&z.closed then
     match zp esz (List.replicate len z) (wj ps) with
     | some es=>some (.list .full esz es)
     | none=>none
    else none
  | _=>none
 | _,_=>none
def pn (E:Env) (s:St) (t:TypeId) (p:SV):Option AV:=
 match E.ti t,kR s p with
 | some i,some (cs,off)=>match C0 off i.size cs with
  | some l=>qq i.agg l
  | none=>none
 | _,_=>none
def iz (E:Env) (s:St) (t:TypeId) (p x:SV):Option St:=
 match E.ti t,x with
 | some i,.v v=>
  if v.aL&&Nat.beq v.cells.length i.size then
   match p with
   | .lp k off=>match cG s.boxes k with
    | some cs=>if Nat.ble (off+v.cells.length) cs.length then some (s.se k (bz cs off v.cells)) else none
    | none=>none
   | .v (.ptr id off)=>match nth s.G id with
    | some (.row cs el)=>if Nat.ble (off+v.cells.length) cs.length then some (s.bL (aw s.G id (.row (bz cs off v.cells) el))) else none
    | _=>none
   | _=>none
  else none
 | _,_=>none
def ah (es:List AV) (n:Nat):AV:=match nth es n with
 | some e=>e
 | none=>eE
def gQ:List GO→Nat→TypeId→Nat→Option Nat
 | [],_,_,_=>none
 | .aU _ sz e :: G,bp,e',i=>match gQ G bp e' (i+1) with
  | some j=>some j
  | none=>bif Nat.beq sz bp&&Nat.beq e e' then some i else none
 | _ :: G,bp,e',i=>gQ G bp e' (i+1)
def an.fin (G:List GO):an→an
 | .aU e sz p=>match gQ G sz e 0 with
  | some id=>.aU id sz p
  | none=>.aU e sz p
 | .agg ps=>.agg (RL ps)
 | p=>p
where
 RL:aF→aF
  | .nil=>.nil
  | .cons p ps=>.cons (match p with
   | .aU e sz q=>match gQ G sz e 0 with
    | some id=>.aU id sz q
    | none=>.aU e sz q
   | p=>p) (RL ps)
def M7 (E:Env) (G:List GO) (t:TypeId):Option an:=match E.Uy t with
 | some p=>some (p.fin G)
 | none=>E.M6 t
def te (E:Env) (s:St) (id f i sz:Nat) (t:TypeId):Option (Bool × AV):=match nth s.G id with
 | some (.dm es bp _)=>match M7 E s.G t with
  | some p=>if Nat.beq sz bp then some (decide (f=es.length)&&decide (i < es.length)&&p.fits (ah es i),p.enc (p.bf (ah es i))) else none
  | none=>if Nat.beq sz bp then some (decide (f=es.length)&&decide (i < es.length),ah es i) else none
 | _=>none
def wo (E:Env) (s:St) (t:TypeId) (p:SV):Option (Bool × AV):=match p with
 | .v (.gp id f i off sz ty)=>match E.ti t,te E s id f i sz ty with
  | some ti,some (c,v)=>match C0 off ti.size v.cells with
   | some l=>match qq ti.agg l with
    | some r=>some (c,r)
    | none=>none
   | none=>none
  | _,_=>none
 | p=>match pn E s t p with
  | some v=>some (true,v)
  | none=>none
def iA (E:Env) (s:St) (t:TypeId) (p x:SV):Option (Bool × St):=match p with
 | .v (.gp id f i off sz ty)=>match E.ti t,x,nth s.G id with
  | some ti,.v x,some (.dm es bp el)=>
   if x.aL&&Nat.beq x.cells.length ti.size&&Nat.beq sz bp then
    if Nat.beq off 0&&Nat.beq ti.size sz then some (decide (f=es.length)&&decide (i < es.length),s.bL (aw s.G id (.dm (aw es i x) bp el)))
    else match te E s id f i sz ty with
     | some (c,.agg cs)=>if Nat.ble (off+ti.size) cs.length&&Nat.beq cs.length sz then some (c,s.bL (aw s.G id (.dm (aw es i (.agg (bz cs off x.cells))) bp el))) else none
     | _=>none
   else none
  | _,_,_=>none
 | p=>match iz E s t p x with
  | some s'=>some (true,s')
  | none=>none
def jd (E:Env) (t:TypeId) (x ix:SV):Option (Bool × SV):=
 match E.ti t,ix with
 | some i,.v (.int _ n)=>match i.k,x with
  | .sl _ esz _ _ _,.v (.list _ sz es)=>if Nat.beq sz esz || es.isEmpty then
    match E.M6 t with
    | some p=>some (decide (0≤n∧n < es.length)&&p.fits (ah es n.toNat),.v (.ep (p.enc (p.bf (ah es n.toNat))).cells))
    | none=>some (decide (0≤n∧n < es.length),.v (.ep (ah es n.toNat).cells))
   else none
  | .sl _ esz _ _ _,.v (.iL id off sz len _)=>if Nat.beq sz esz then some (decide (0≤n∧n < len),.v (.ptr id (off+n.toNat * sz))) else none
  | .sl _ esz _ _ _,.v (.dC id f off sz len)=>if Nat.beq sz esz then some (decide (0≤n∧n < len),.v (.gp id f (off+n.toNat) 0 sz t)) else none
  | .arr len esz _,.v (.ep cs)=>match E.M6 t with
   | some p=>if Nat.beq esz 1&&Nat.ble len cs.length then some (decide (0≤n∧n < len)&&p.fits (ah cs n.toNat),.v (.ep [p.enc (p.bf (ah cs n.toNat))])) else none
   | none=>some (decide (0≤n∧n < len),.v (.ep (er (n.toNat * esz) cs)))
  | .arr len esz _,p=>match wi (n.toNat * esz) p with
   | some q=>some (decide (0≤n∧n < len),q)
   | none=>none
  | _,_=>none
 | _,_=>none
def je (E:Env) (t:TypeId) (x:SV) (j:Nat):Option SV:=
 match E.ti t with
 | some i=>match i.k with
  | .st fs=>match nth fs j with
   | some (o,sz,_)=>if Nat.ble 1 sz then wi o x else none
   | none=>none
  | _=>none
 | none=>none
def Bl (E:Env) (t:TypeId) (x:SV) (j:Nat):Option AV:=
 match E.ti t,x with
 | some i,.v (.agg cs)=>match i.k with
  | .st fs=>match nth fs j with
   | some (o,sz,ag)=>if ag then (match C0 o sz cs with | some l=>qq true l | none=>none) else (match C0 o 1 cs with | some l=>qq false l | none=>none)
   | none=>none
  | _=>none
 | _,_=>none
def Bm (E:Env) (t:TypeId) (x ix:SV):Option (Bool × AV):=
 match E.ti t,x,ix with
 | some i,.v (.str l),.v (.int _ n)=>match i.k with
  | .str=>some (decide (0≤n∧n < l.length),.int .u8 (l.getD n.toNat 0).toNat)
  | _=>none
 | some i,.v (.agg cs),.v (.int _ n)=>match i.k with
  | .arr len esz ag=>match (if ag then (match C0 (n.toNat * esz) esz cs with | some l=>qq true l | none=>none) else (match C0 (n.toNat * esz) 1 cs with | some l=>qq false l | none=>none)) with
   | some v=>some (decide (0≤n∧n < len),v)
   | none=>none
  | _=>none
 | _,_,_=>none
def xC (y:Nat):SV→Option (Bool × Nat)
 | .v (.int _ n)=>some (decide (0≤n∧n≤y),n.toNat)
 | _=>none
def kT {α:Type} (lo hi:Nat) (l:List α):List α:=(l.take hi).drop lo
def kU (E:Env) (ae:aT):Option Operand→Option (Option SV)
 | none=>some none
 | some x=>some (some (bk E ae x))
def Bn (len:Nat) (lo hi:Option SV):Option (Bool × Nat × Nat):=
 match (match hi with | none=>some (true,len) | some h=>xC len h) with
 | none=>none
 | some (c1,h)=>match (match lo with | none=>some (true,0) | some l=>xC h l) with
  | none=>none
  | some (c2,l)=>some (c1&&c2,l,h)
def RM (agg:Bool) (l:List AV):AV:=match agg with
 | true=>.agg l
 | false=>dq l
def fM (agg:Bool) (sz:Nat):Nat→List AV→List AV
 | 0,_=>[]
 | n+1,cs=>RM agg (cs.take sz) :: fM agg sz n (cs.drop sz)
def Bo (ag:Bool) (e:AV):Bool:=e.aL&&(ag || e.one)&&e.closed
def xD (E:Env) (t:TypeId) (x:SV) (lo hi:Option SV) (mx:Option Operand):Option (Bool × AV):=
 match E.ti t,mx with
 | some i,none=>match i.k,x with
  | .str,.v (.str l)=>match Bn l.length lo hi with
   | some (c,a,b)=>some (c,.str (kT a b l))
   | none=>none
  | .sl _ esz _ _ _,.v (.list k sz es)=>
   if Nat.beq sz esz || es.isEmpty then
    match Bn es.length lo hi with
    | some (c,a,b)=>some (c,.list (match k with | .nil=>.nil | .full=>(match hi with | none=>.full | some _=>.dP) | _=>.dP) esz (kT a b es))
    | none=>none
   else none
  | .sl _ esz _ _ _,.v (.iL id off sz len cap)=>
   if Nat.beq sz esz then
    match Bn len lo hi with
    | some (c,a,b)=>some (c,.iL id (bif Nat.beq cap a then off else off+a * sz) sz (b - a) (cap - a))
    | none=>none
   else none
  | .sl _ esz _ _ _,.v (.dC id f off sz len)=>
   if Nat.beq sz esz then
    match Bn len lo hi with
    | some (c,a,b)=>some (c,.dC id f (off+a) sz (b - a))
    | none=>none
   else none
  | .arr len esz ag,.v (.ep cs)=>match lo,hi with
   | none,none=>if Nat.ble (len * esz) cs.length&&Nat.ble 1 esz&&(ag || Nat.beq esz 1)&&allFit (Bo ag) (fM ag esz len cs) then some (true,.list .full esz (fM ag esz len cs)) else none
   | _,_=>none
  | _,_=>none
 | _,_=>none
def Fv (G:List GO) (id n:Nat) (f sz:Nat) (e:TypeId):List GO:=aw G id (.tok (f+n) sz e)
def D6 (fs:List Nat) (j n:Nat):List Nat:=bif Nat.beq j fs.length then fs++[n] else aw fs j n
def Jr (fs:List Nat) (j n:Nat):Bool:=decide (nth fs j=some n) || (Nat.beq j fs.length&&Nat.beq n 0)
def eX (G:List GO) (elem esz bh:Nat) (x:AV) (ys:List AV):Option (Bool × AV × List GO):=
 match x,ys with
 | .list k sz es,[]=>match k with
  | .nil=>some (true,.list .nil sz es,G)
  | k=>some (true,.list k sz es,G)
 | .list k sz es,y :: ys=>
  match k with
  | .nil=>some (decide ((es.length+(y :: ys).length) * bh≤140737488355328),.list (.own G.length) esz (es++(y :: ys)),G++[.tok (es.length+(y :: ys).length) esz elem])
  | .full=>if Nat.beq sz esz then some (decide ((es.length+(y :: ys).length) * bh≤140737488355328),.list (.own G.length) esz (es++(y :: ys)),G++[.tok (es.length+(y :: ys).length) esz elem]) else none
  | .own id=>match nth G id with
   | some (.tok f bp e')=>if Nat.beq bp esz&&Nat.beq e' elem&&Nat.beq sz esz then
     some (decide (f=es.length)&&decide ((es.length+(y :: ys).length) * bh≤140737488355328),.list (.own id) esz (es++(y :: ys)),Fv G id (y :: ys).length f esz elem) else none
   | _=>none
  | .aU id j=>match nth G id with
   | some (.aU fs bp e')=>if Nat.beq bp esz&&Nat.beq e' elem&&Nat.beq sz esz then
     some (Jr fs j es.length&&decide ((es.length+(y :: ys).length) * bh≤140737488355328),.list (.aU id j) esz (es++(y :: ys)),aw G id (.aU (D6 fs j (es.length+(y :: ys).length)) esz elem)) else none
   | _=>none
  | .dP=>none
 | .dC id f off sz len,[]=>some (true,.dC id f off sz len,G)
 | .dC id f off sz len,y :: ys=>match nth G id with
  | some (.dm es bp e')=>if Nat.beq bp esz&&Nat.beq e' elem&&Nat.beq sz esz then
    some (decide (f=es.length)&&decide (off=0)&&decide (len=f)&&decide ((es.length+(y :: ys).length) * bh≤140737488355328),.dC id (es.length+(y :: ys).length) 0 esz (es.length+(y :: ys).length),aw G id (.dm (es++(y :: ys)) esz elem)) else none
  | _=>none
 | _,_=>none
def po (b:UInt8):AV:=.int .u8 b.toNat
def gj (es:List AV):List UInt8:=es.map fun a=>UInt8.ofNat a.jL.toNat
def tf (es:List AV):List UInt8:=es.flatMap fun a=>(Utf8.encode a.jL).data.toList
def D7:AV→List AV→Option AV
 | x,[]=>some x
 | .int k x,.int k' y :: l=>if k=k' then D7 (.int k (if y > x then y else x)) l else none
 | _,_=>none
def Bp:AV→List AV→Option AV
 | x,[]=>some x
 | .int k x,.int k' y :: l=>if k=k' then Bp (.int k (if y < x then y else x)) l else none
 | .str x,.str y :: l=>Bp (.str (bif Op.bytesLess x y || x == y then x else y)) l
 | _,_=>none
def ar:List AV→List AV
 | []=>[]
 | e :: es=>e.cells++ar es
def pq (s:St) (esz:Nat) (d x:AV):Option (Nat × List GO):=
 match d with
 | .iL id off sz len _=>match nth s.G id with
  | some (.row cs el)=>
   if Nat.beq sz esz then
    match x with
    | .list _ bp es=>if Nat.beq bp esz || es.isEmpty then
      let n:=Nat.min es.length len
      let l:=ar (es.take n)
      if Nat.ble (off+l.length) cs.length then some (n,aw s.G id (.row (bz cs off l) el)) else none
     else none
    | .str bs=>
      if Nat.beq esz 1&&Nat.ble (off+(bs.take (Nat.min bs.length len)).length) cs.length then some (Nat.min bs.length len,aw s.G id (.row (bz cs off ((bs.take (Nat.min bs.length len)).map po)) el)) else none
    | .iL iu eF bp Bq _=>match nth s.G iu with
     | some (.row cs' _)=>
      let n:=Nat.min Bq len
      match C0 eF (n * esz) cs' with
      | some l=>if Nat.beq bp esz&&Nat.ble (off+l.length) cs.length then some (n,aw s.G id (.row (bz cs off l) el)) else none
      | none=>none
     | _=>none
    | _=>none
   else none
  | _=>none
 | .dC id f off sz len=>match nth s.G id,x with
  | some (.dm es bp el),.list _ Vh xs=>if Nat.beq sz esz&&Nat.beq bp sz&&(Nat.beq Vh esz || xs.isEmpty)&&Nat.ble f es.length&&Nat.ble es.length f&&Nat.ble (off+Nat.min xs.length len) es.length then
    some (Nat.min xs.length len,aw s.G id (.dm (bz es off (xs.take (Nat.min xs.length len))) bp el)) else none
  | _,_=>none
 | _=>none
def bB (E:Env) (s:St) (dst:Option Tmp) (b:Builtin) (args:List AV) (tys:List TypeId):Option (Bool × St):=
 match b,args with
 | .len,[x]=>match tys with
  | t :: _=>match E.ti t with
   | some i=>match i.k,x with
    | .str,.str l=>some (true,s.put dst (.v (.int .i64 l.length)))
    | .sl ..,.list _ _ es=>some (true,s.put dst (.v (.int .i64 es.length)))
    | .sl ..,.iL _ _ _ len _=>some (true,s.put dst (.v (.int .i64 len)))
    | .sl ..,.dC _ _ _ _ len=>some (true,s.put dst (.v (.int .i64 len)))
    | .arr n _ _,_=>some (true,s.put dst (.v (.int .i64 n)))
    | .map ..,.jc=>some (true,s.put dst (.v (.int .i64 0)))
    | .map ..,.map id=>match nth s.G id with
     | some (.map es)=>some (true,s.put dst (.v (.int .i64 es.length)))
     | _=>none
    | _,_=>none
   | none=>none
  | _=>none
 | .append,[x,.list _ sz ys]=>match tys with
  | [t,u]=>match E.ti t with
   | some i=>match i.k with
    | .sl elem esz _ bh (some z)=>
     if (Nat.beq sz esz || ys.isEmpty)&&Nat.beq t u&&Nat.ble 1 esz&&Nat.ble 1 bh&&Nat.beq z.cells.length esz&&z.aL then
      match eX s.G elem esz bh x ys with
      | some (c,v,G')=>some (c,(s.bL G').put dst (.v v))
      | none=>none
     else none
    | _=>none
   | none=>none
  | _=>none
 | .append,[x,.str bs]=>match tys with
  | [t,u]=>match E.ti t,E.ti u with
   | some i,some j=>match i.k,j.k with
    | .sl elem esz _ bh (some z),.str=>
     if Nat.beq esz 1&&Nat.ble 1 bh&&Nat.beq z.cells.length esz&&z.aL then
      match eX s.G elem esz bh x (bs.map po) with
      | some (c,v,G')=>some (c,(s.bL G').put dst (.v v))
      | none=>none
     else none
    | _,_=>none
   | _,_=>none
  | _=>none
 | .copy,[d,x]=>match tys with
  | t :: _=>match E.ti t with
   | some i=>match i.k with
    | .sl _ esz _ _ _=>match pq s esz d x with
     | some (n,G')=>some (true,(s.bL G').put dst (.v (.int .i64 n)))
     | none=>none
    | _=>none
   | none=>none
  | _=>none
 | .clear,[x]=>match dst,tys,x with
  | none,[t],.dC id f off sz len=>match E.ti t,nth s.G id with
   | some i,some (.dm es bp el)=>match i.k with
    | .sl elem esz _ _ (some z)=>if Nat.beq sz esz&&Nat.beq bp sz&&Nat.beq el elem&&Nat.beq z.cells.length esz&&z.aL&&z.closed then
      some (decide (f=es.length)&&decide (off+len≤es.length),s.bL (aw s.G id (.dm (bz es off (List.replicate len z)) bp el))) else none
    | _=>none
   | _,_=>none
  | _,_,_=>none
 | .max,x :: l=>match D7 x l with
  | some v=>some (true,s.put dst (.v v))
  | none=>none
 | .min,x :: l=>match Bp x l with
  | some v=>some (true,s.put dst (.v v))
  | none=>none
 | _,_=>none
def EK.plain:EK→Bool
 | .bool | .int | .str=>true
 | .st _=>true
 | _=>false
def EK.wide:EK→Bool
 | .st _=>true
 | _=>false
def eY:AV→Bool
 | .bool _=>true
 | .int _ _=>true
 | .str _=>true
 | _=>false
def mf:AV→AV→Bool
 | .bool a,.bool b=>a == b
 | .int k a,.int l b=>decide (k=l)&&a == b
 | .str a,.str b=>a == b
 | _,_=>false
def kw:List AV→List AV→Bool
 | [],[]=>true
 | a :: l,b :: r=>mf a b&&kw l r
 | _,_=>false
def jR:AV→AV→Bool
 | .agg xs,.agg ys=>kw xs ys
 | _,_=>false
def Bb (e:EK) (a b:AV):Option Bool:=match jM e a b with
 | some true=>bif e.wide&&!jR a b then none else some true
 | r=>r
def gD (e:EK) (k:AV):List (AV × AV)→Option (Option AV)
 | []=>some none
 | (k',v) :: l=>match Bb e k k' with
  | some true=>some (some v)
  | some false=>gD e k l
  | none=>none
def qu (e:EK) (k v:AV):List (AV × AV)→Option (List (AV × AV))
 | []=>some [(k,v)]
 | (k',v') :: l=>match Bb e k k' with
  | some true=>some ((k,v) :: l)
  | some false=>match qu e k v l with
   | some r=>some ((k',v') :: r)
   | none=>none
  | none=>none
def gk:EK→AV→Bool
 | .bool,.bool _=>true
 | .int,.int _ _=>true
 | .str,.str _=>true
 | .st fs,.agg cs=>cs.all eY&&(qt fs cs cs).isSome
 | _,_=>false
def mapOf (s:St):SV→Option (List (AV × AV))
 | .v .jc=>some []
 | .v (.map id)=>match nth s.G id with
  | some (.map es)=>some es
  | _=>none
 | _=>none
def j9 (G:List GO) (id:Nat):List Nat:=match nth G id with
 | some (.aU fs _ _)=>fs
 | _=>[]
def zq (E:Env) (G:List GO) (t:TypeId) (z:AV):AV:=match E.Uy t,z with
 | some (.aU e sz _),.list .nil _ []=>match gQ G sz e 0 with
  | some id=>.list (.aU id (j9 G id).length) sz []
  | none=>z
 | _,_=>z
def gS (E:Env) (s:St) (t:TypeId) (m k:SV):Option (AV × Bool):=match E.ti t,mapOf s m,k with
 | some i,some es,.v k=>match i.k with
  | .map kt _ (some z)=>match E.ti kt with
   | some j=>if j.ek.plain&&gk j.ek k then match gD j.ek k es with
     | some (some v)=>some (v,true)
     | some none=>some (z,false)
     | none=>none
    else none
   | none=>none
  | _=>none
 | _,_,_=>none
def jS (E:Env) (s:St) (t:TypeId) (m k:SV):Option (AV × Bool):=match gS E s t m k with
 | some (v,false)=>some (zq E s.G t v,false)
 | r=>r
def dR (E:Env) (s:St) (t:TypeId) (m k x:SV):Option St:=match E.ti t,m,k,x with
 | some i,.v (.map id),.v k,.v x=>match i.k,nth s.G id with
  | .map kt _ _,some (.map es)=>match E.ti kt with
   | some j=>if j.ek.plain&&gk j.ek k then match qu j.ek k x es with
     | some es'=>some (s.bL (aw s.G id (.map es')))
     | none=>none
    else none
   | none=>none
  | _,_=>none
 | _,_,_,_=>none
def nh (l:List UInt8) (pos:Nat):Nat × Nat:=
 bif Nat.blt (l.getD pos 0).toNat 128 then ((l.getD pos 0).toNat,1) else Utf8.decode ⟨⟨l⟩⟩ pos
def jT (s:St) (dst:Option Tmp) (x:SV):Option St:=match x with
 | .v (.ptr id 0)=>match nth s.G id with
  | some (.fk l pos)=>bif Nat.blt pos l.length then
    match nh l pos with
    | (c,n)=>some ((s.bL (aw s.G id (.fk l (pos+n)))).put dst (.v (.aX [.bool true,.int .i64 pos,.int .i32 c])))
   else some (s.put dst (.v (.aX [.bool false])))
  | _=>none
 | _=>none
def cZ (es:List (AV × AV)) (i:Nat):AV × AV:=match nth es i with
 | some e=>e
 | none=>(eE,eE)
def N8 (E:Env) (kt:TypeId):Option an:=match E.M6 kt with
 | some p=>some p
 | none=>match E.ti kt with
  | some i=>match i.k with
   | .int k=>some (.int k)
   | .str=>some .str
   | _=>none
  | none=>none
def pt (E:Env) (t:TypeId) (e:AV × AV):Bool × AV × AV:=match E.ti t with
 | some i=>match i.k with
  | .map kt _ _=>match E.M6 t,N8 E kt with
   | some pv,some pk=>(pk.fits e.1&&pv.fits e.2,pk.enc (pk.bf e.1),pv.enc (pv.bf e.2))
   | _,_=>(true,e.1,e.2)
  | _=>(true,e.1,e.2)
 | none=>(true,e.1,e.2)
def wq (E:Env) (s:St) (dst:Option Tmp) (x:SV):Option (Bool × St × List Nat × (Nat→Bool × St)):=match x with
 | .v (.ptr id 0)=>match nth s.G id with
  | some (.lS ot n left _ t)=>match nth s.G ot with
   | some (.map es)=>some (decide (es.length=n),s.put dst (.v (.aX [.bool false])),left,
     fun i=>((pt E t (cZ es i)).1,(s.bL (aw s.G id (.lS ot n (left.erase i) (some i) t))).put dst (.v (.aX [.bool true,(pt E t (cZ es i)).2.1,(pt E t (cZ es i)).2.2]))))
   | _=>none
  | _=>none
 | _=>none
def qv (E:Env) (s:St) (o:Oper):Option (Bool × St × List Nat × (Nat→Bool × St)):=match o.op with
 | .next x false=>wq E s o.dst (bk E s.ae x)
 | _=>none
def Vi (E:Env) (op:BinOp) (t:TypeId) (a b:AV):Option Bool:=match op,E.ti t with
 | .eql,some i=>jM i.ek a b
 | .neq,some i=>match jM i.ek a b with
  | some r=>some (!r)
  | none=>none
 | _,_=>none
def iM (E:Env) (s:St) (t:TypeId) (len:Nat) (parts:List (Nat × Operand)):Option (List AV):=
 match E.ti t,I7 E s.ae parts with
 | some i,some ps=>match i.k with
  | .sl _ esz _ _ (some z)=>
    if Nat.beq z.cells.length esz&&Nat.ble 1 esz&&Nat.ble (len * esz) 16777216&&z.aL then
     rn (fun i=>some (i * esz,esz)) (ar (List.replicate len z)) (wj ps)
    else none
  | _=>none
 | _,_=>none
def gT (E:Env) (f:FuncId) (s:St) (o:Oper):Option St:=match o.op with
 | .buildSlice t len parts=>match o.dst with
  | some d=>if E.vI f d then match E.ti t with
    | some i=>match i.k,bM E s t len parts.toList with
     | .sl elem _ _ _ _,some (.list _ esz es)=>some ((s.cV (.row (ar es) elem)).put (some d) (.v (.iL s.G.length 0 esz len len)))
     | .sl elem esz _ _ _,none=>match iM E s t len parts.toList with
      | some cs=>some ((s.cV (.row cs elem)).put (some d) (.v (.iL s.G.length 0 esz len len)))
      | none=>none
     | _,_=>none
    | none=>none
   else if E.vI f (d+196608) then match E.ti t with
    | some i=>match i.k,bM E s t len parts.toList with
     | .sl elem _ _ _ _,some (.list _ esz es)=>if Nat.ble len 65536 then some ((s.cV (.dm es esz elem)).put (some d) (.v (.dC s.G.length len 0 esz len))) else none
     | _,_=>none
    | none=>none
   else if E.vI f (d+65536) then match E.ti t with
    | some i=>match i.k,bM E s t len parts.toList with
     | .sl elem _ _ _ _,some (.list _ esz es)=>if Nat.ble len 65536 then some ((s.cV (.tok len esz elem)).put (some d) (.v (.list (.own s.G.length) esz es))) else none
     | _,_=>none
    | none=>none
   else none
  | none=>none
 | _=>none
def wu (wk:Bool) (es:List AV):List AV:=match wk with
 | true=>es.map AV.ft
 | false=>es
def ky (wk:Bool):List AV→List GO→Bool × List AV × List GO
 | [],G=>(true,[],G)
 | .dC id f 0 sz len :: l,G=>match nth G id with
  | some (.dm es bp _)=>match ky wk l (aw G id .dead) with
   | (c,r,G')=>(decide (f=es.length)&&decide (len=es.length)&&Nat.beq sz bp&&aS (wu wk es)&&c,.list .dP sz (wu wk es) :: r,G')
  | _=>match ky wk l G with
   | (_,r,G')=>(false,r,G')
 | a :: l,G=>match ky wk l G with
  | (c,r,G')=>(c,a :: r,G')
def ni (cut wk:Bool) (s:St) (t:Tmp):Option (Bool × St):=match lk s.ae t with
 | .v (.dC id f off sz len)=>match nth s.G id with
  | some (.dm es bp _)=>if Nat.beq off 0&&Nat.beq sz bp then
    some (decide (f=es.length)&&(bif cut then decide (len≤es.length) else decide (len=es.length))&&aS (wu wk es),⟨.put t (.v (.list .dP sz (wu wk (bif cut then es.take len else es)))) :: s.ae,s.boxes,aw s.G id .dead,s.marks,s.ro,s.n⟩) else none
  | _=>none
 | .v (.ptr id 0)=>match nth s.G id with
  | some (.row cs _)=>some (aS cs,⟨.put t (.v (.ep cs)) :: s.ae,s.boxes,aw s.G id .dead,s.marks,s.ro,s.n⟩)
  | _=>none
 | .v (.agg cs)=>match ky wk cs s.G with
  | (c,cs',G')=>some (c,⟨.put t (.v (.agg cs')) :: s.ae,s.boxes,G',s.marks,s.ro,s.n⟩)
 | _=>none
def fG (cut wk:Bool):List Operand→St→Bool × St
 | [],s=>(true,s)
 | .tmp t :: l,s=>match ni cut wk s t with
  | some (c,s')=>match fG cut wk l s' with
   | (c',s2)=>(c&&c',s2)
  | none=>fG cut wk l s
 | _ :: l,s=>fG cut wk l s
def D8 (E:Env) (f:FuncId) (s:St) (o:Oper):Option (Bool × St):=match o.dst with
 | some d=>if E.vI f (d+262144) then some (fG (E.vI f (d+393216)) (E.vI f (d+458752)) o.op.operands.toList s) else none
 | none=>none
def kz (E:Env) (s:St) (a b:TypeId) (x:SV):Option (Bool × AV):=
 match E.ti a,E.ti b,x with
 | some i,some j,.v x=>match j.k,x with
  | .int k,.int _ n=>some (true,.int k (k.wrap n))
  | .str,.list _ sz es=>match i.k with
   | .sl elem 1 _ _ _=>match E.ti elem with
    | some e=>match e.k with
     | .int .u8=>some ((Nat.beq sz 1 || es.isEmpty)&&allFit (an.fits (.int .u8)) es,.str (gj es))
     | .int .i32=>some ((Nat.beq sz 1 || es.isEmpty)&&allFit (an.fits (.int .i32)) es,.str (tf es))
     | _=>none
    | none=>none
   | _=>none
  | .str,.iL id off 1 len _=>match i.k,nth s.G id with
   | .sl elem 1 _ _ _,some (.row cs _)=>match E.ti elem with
    | some e=>match e.k with
     | .int .u8=>some (Nat.ble (off+len) cs.length&&allFit (an.fits (.int .u8)) (kT off (off+len) cs),.str (gj (kT off (off+len) cs)))
     | _=>none
    | none=>none
   | _,_=>none
  | _,_=>none
 | _,_,_=>none
def D9 (id sz:Nat):List AV→List Nat→Option (List AV × List Nat)
 | [],fs=>some ([],fs)
 | .list .nil _ [] :: l,fs=>match D9 id sz l (fs++[0]) with
  | some (r,xF)=>some (.list (.aU id fs.length) sz [] :: r,xF)
  | none=>none
 | .list .full bp es :: l,fs=>if Nat.beq sz bp then match D9 id sz l (fs++[es.length]) with
   | some (r,xF)=>some (.list (.aU id fs.length) sz es :: r,xF)
   | none=>none
  else none
 | _ :: _,_=>none
def sI (e:EK) (k k':AV):Bool:=match Bb e k k' with
 | some b=>b
 | none=>false
def eH (e:EK) (k:AV):List (AV × AV)→Bool
 | []=>true
 | (k',_) :: l=>(Bb e k k').isSome&&eH e k l
def dV (e:EK) (k:AV):List (AV × AV)→Option AV
 | []=>none
 | (k',v) :: l=>bif sI e k k' then some v else dV e k l
def dD (e:EK) (k v:AV):List (AV × AV)→List (AV × AV)
 | []=>[(k,v)]
 | (k',v') :: l=>bif sI e k k' then (k,v) :: l else (k',v') :: dD e k v l
def b9 (e:EK) (k z:AV) (es:List (AV × AV)):AV:=(dV e k es).getD z
def fu (e:EK) (k:AV):List (AV × AV)→Nat
 | []=>0
 | (k',_) :: l=>bif sI e k k' then 0 else fu e k l+1
def gl:List (AV × AV)→Nat→AV→List (AV × AV)
 | [],_,_=>[]
 | (k,_) :: l,0,x=>(k,x) :: l
 | e :: l,n+1,x=>e :: gl l n x
def qw (E:Env) (s:St) (x:SV):Option (Bool × AV):=match x with
 | .v (.ptr id 0)=>match nth s.G id with
  | some (.lS ot n _ (some i) t)=>match nth s.G ot with
   | some (.map es)=>some (decide (es.length=n)&&decide (i < n)&&(pt E t (cZ es i)).1,.aX [(pt E t (cZ es i)).2.1,(pt E t (cZ es i)).2.2])
   | _=>none
  | _=>none
 | _=>none
def eZ (E:Env) (s:St) (t:TypeId) (m k:SV):Option (Bool × AV × St):=match E.ti t,m,k with
 | some i,.v (.map id),.v k=>match i.k,nth s.G id with
  | .map kt _ (some z),some (.map es)=>match E.ti kt with
   | some j=>if j.ek.plain&&gk j.ek k then
     some (eH j.ek k es,.aX [b9 j.ek k z es,.int .i64 (fu j.ek k es:Nat)],s.bL (aw s.G id (.map (dD j.ek k (b9 j.ek k z es) es)))) else none
   | none=>none
  | _,_=>none
 | _,_,_=>none
def du (s:St) (m st x:SV):Option (Bool × St):=match m,st,x with
 | .v (.map id),.v (.int .i64 n),.v v=>match nth s.G id with
  | some (.map es)=>some (decide (0≤n)&&decide (n.toNat < es.length),s.bL (aw s.G id (.map (gl es n.toNat v))))
  | _=>none
 | _,_,_=>none
def fw (E:Env) (f:FuncId) (s:St) (o:Oper):Option (Bool × St):=match o.dst with
 | some d=>if E.vI f (d+524288) then match o.op with
   | .call { callee:=.builtin .append,args,argTypes }=>match kr E s.ae args.toList,argTypes.toList with
    | some [.dC id g off sz len,.list k X6 (y :: ys)],[t,u]=>match E.ti t with
     | some i=>match i.k with
      | .sl elem esz _ bh (some z)=>match E.ti elem with
       | some j=>match j.k with
        | .sl e2 kV _ _ _=>match gQ s.G kV e2 0 with
         | some jK=>match D9 jK kV (y :: ys) (j9 s.G jK),nth s.G id with
          | some (Ea,xF),some (.dm es bp e')=>
           if Nat.beq X6 esz&&Nat.beq bp esz&&Nat.beq e' elem&&Nat.beq sz esz&&Nat.beq t u&&Nat.ble 1 esz&&Nat.ble 1 bh&&Nat.beq z.cells.length esz&&z.aL then
            some (decide (g=es.length)&&decide (off=0)&&decide (len=g)&&decide ((es.length+(y :: ys).length) * bh≤140737488355328),
             (s.bL (aw (aw s.G jK (.aU xF kV e2)) id (.dm (es++Ea) esz elem))).put o.dst (.v (.dC id (es.length+(y :: ys).length) 0 esz (es.length+(y :: ys).length))))
           else none
          | _,_=>none
         | none=>none
        | _=>none
       | none=>none
      | _=>none
     | none=>none
    | _,_=>none
   | _=>none
  else none
 | none=>none
def rq (E:Env) (f:FuncId) (s:St) (o:Oper):Option (Bool × St):=match o.dst with
 | some d=>if E.vI f (d+524288) then match o.op with
   | .lookup t m k ok=>match E.Uy t,E.ti t,bk E s.ae m,bk E s.ae k with
    | some (.aU e sz p),some i,.v (.map id),.v k=>match i.k,nth s.G id with
     | .map kt _ (some (.list .nil _ [])),some (.map es)=>match E.ti kt,gQ s.G sz e 0 with
      | some j,some jK=>if j.ek.plain&&gk j.ek k then
        some (eH j.ek k es&&(an.aU jK sz p).fits (b9 j.ek k (.list (.aU jK (j9 s.G jK).length) sz []) es),
         (s.bL (aw s.G jK (.aU (j9 s.G jK++[0]) sz e))).put o.dst (.v (if ok then .aX [(an.aU jK sz p).enc ((an.aU jK sz p).bf (b9 j.ek k (.list (.aU jK (j9 s.G jK).length) sz []) es)),.bool (dV j.ek k es).isSome]
          else (an.aU jK sz p).enc ((an.aU jK sz p).bf (b9 j.ek k (.list (.aU jK (j9 s.G jK).length) sz []) es)))))
       else none
      | _,_=>none
     | _,_=>none
    | _,_,_,_=>none
   | _=>none
  else none
 | none=>none
def Vj (E:Env) (f:FuncId) (d:Option Tmp):Bool:=match d with
 | some d=>E.vI f (d+196608)
 | none=>false
def ap (E:Env) (f:FuncId) (s:St) (o:Oper):Option (Bool × St):=
 match o.op with
 | .move x=>match bk E s.ae x with
  | .v a=>some (true,s.put o.dst (.v a))
  | .lp k off=>some (true,s.put o.dst (.lp k off))
  | .none=>some (true,s.put o.dst .none)
 | .assign x=>match bk E s.ae x with
  | .v a=>some (true,s.put o.dst (.v a))
  | .lp k off=>some (true,s.put o.dst (.lp k off))
  | .none=>some (true,s.put o.dst .none)
 | .pick c a b=>match bk E s.ae c,bk E s.ae a,bk E s.ae b with
  | .v (.bool t),.v x,.v y=>some (true,s.put o.dst (.v (xB t x y)))
  | _,_,_=>none
 | .alloc e=>match E.ti e with
  | some i=>match i.zero with
   | some z=>if z.aL then dQ E f s o.dst e z.cells else none
   | none=>none
  | none=>none
 | .box t x=>match bk E s.ae x with
  | .v v=>if v.aL then dQ E f s o.dst t v.cells else none
  | _=>none
 | .build t parts=>match kS E s t parts.toList with
  | some v=>some (true,s.put o.dst (.v v))
  | none=>none
 | .buildSlice t len parts=>match bM E s t len parts.toList with
  | some v=>some (true,s.put o.dst (.v v))
  | none=>none
 | .load t a=>match wo E s t (bk E s.ae a) with
  | some (c,v)=>some (c,s.put o.dst (.v v))
  | none=>none
 | .store t a x=>match o.dst,iA E s t (bk E s.ae a) (bk E s.ae x) with
  | none,some (c,s')=>some (c,s')
  | _,_=>none
 | .binOp op t x y _=>match bk E s.ae x,bk E s.ae y with
  | .v a,.v b=>match zo op a b with
   | some (c,v)=>some (c,s.put o.dst (.v v))
   | none=>match Vi E op t a b with
    | some r=>some (true,s.put o.dst (.v (.bool r)))
    | none=>none
  | _,_=>none
 | .unOp op _ x=>match op,bk E s.ae x with
  | .not,.v (.bool b)=>some (true,s.put o.dst (.v (.bool (!b))))
  | .neg,.v (.int k n)=>some (true,s.put o.dst (.v (.int k (k.wrap (0 - n)))))
  | _,_=>none
 | .convert a b x=>match kz E s a b (bk E s.ae x) with
  | some (c,v)=>some (c,s.put o.dst (.v v))
  | none=>none
 | .nilCheck x=>match bk E s.ae x with
  | .v (.ptr id off)=>some (true,s.put o.dst (.v (.ptr id off)))
  | .lp k off=>some (true,s.put o.dst (.lp k off))
  | _=>none
 | .makeFunc (.func g) first captured=>match kr E s.ae first.toList,kr E s.ae captured.toList with
  | some x,some y=>some (true,s.put o.dst (.v (.fn g x y)))
  | _,_=>none
 | .fieldAddr t x j=>match je E t (bk E s.ae x) j with
  | some p=>some (true,s.put o.dst p)
  | none=>none
 | .field t x j=>match Bl E t (bk E s.ae x) j with
  | some v=>some (true,s.put o.dst (.v v))
  | none=>none
 | .indexAddr t x ix=>match jd E t (bk E s.ae x) (bk E s.ae ix) with
  | some (c,p)=>some (c,s.put o.dst p)
  | none=>none
 | .index t x ix=>match Bm E t (bk E s.ae x) (bk E s.ae ix) with
  | some (c,v)=>some (c,s.put o.dst (.v v))
  | none=>none
 | .slice t x lo hi mx=>match kU E s.ae lo,kU E s.ae hi with
  | some l,some h=>match xD E t (bk E s.ae x) l h mx with
   | some (c,v)=>some (c,s.put o.dst (.v v))
   | none=>none
  | _,_=>none
 | .extract x i=>match bk E s.ae x with
  | .v (.aX vs)=>match nth vs i with
   | some v=>some (true,s.put o.dst (.v v))
   | none=>none
  | _=>none
 | .makeSlice t l c=>match E.ti t,bk E s.ae l,bk E s.ae c with
  | some i,.v (.int _ n),.v (.int _ m)=>match i.k with
   | .sl elem esz _ bh (some z)=>
    if Nat.beq z.cells.length esz&&Nat.ble 1 esz&&z.aL then
     if Vj E f o.dst then (if z.closed then some (decide (0≤n∧n≤m∧m≤140737488355328∧m * bh≤140737488355328),
      (s.cV (.dm (List.replicate n.toNat z) esz elem)).put o.dst (.v (.dC s.G.length n.toNat 0 esz n.toNat))) else none)
     else some (decide (0≤n∧n≤m∧m≤140737488355328∧m * bh≤140737488355328),
      (s.cV (.row (ar (List.replicate m.toNat z)) elem)).put o.dst (.v (.iL s.G.length 0 esz n.toNat m.toNat)))
    else none
   | _=>none
  | _,_,_=>none
 | .lookup t m k ok=>match jS E s t (bk E s.ae m) (bk E s.ae k) with
  | some (v,b)=>some (true,s.put o.dst (.v (if ok then .aX [v,.bool b] else v)))
  | none=>none
 | .mapUpdate t m k x=>match o.dst,dR E s t (bk E s.ae m) (bk E s.ae k) (bk E s.ae x) with
  | none,some s'=>some (true,s')
  | _,_=>none
 | .insert t m k x=>match o.dst,dR E s t (bk E s.ae m) (bk E s.ae k) (bk E s.ae x) with
  | none,some s'=>some (true,s')
  | _,_=>none
 | .entry x=>match qw E s (bk E s.ae x) with
  | some (c,v)=>some (c,s.put o.dst (.v v))
  | none=>none
 | .mapEntry t m k=>match eZ E s t (bk E s.ae m) (bk E s.ae k) with
  | some (c,v,s')=>some (c,s'.put o.dst (.v v))
  | none=>none
 | .entryStore _ m st x=>match o.dst,du s (bk E s.ae m) (bk E s.ae st) (bk E s.ae x) with
  | none,some (c,s')=>some (c,s')
  | _,_=>none
 | .range t x=>match E.ti t,bk E s.ae x with
  | some i,.v (.str l)=>match i.k with
   | .str=>some (true,(s.cV (.fk l 0)).put o.dst (.v (.ptr s.G.length 0)))
   | _=>none
  | some i,.v (.map id)=>match i.k,nth s.G id with
   | .map _ _ _,some (.map es)=>some (true,(s.cV (.lS id es.length (List.range es.length) none t)).put o.dst (.v (.ptr s.G.length 0)))
   | _,_=>none
  | _,_=>none
 | .next x true=>match jT s o.dst (bk E s.ae x) with
  | some s'=>some (true,s')
  | none=>none
 | .makeMap _ none=>some (true,(s.cV (.map [])).put o.dst (.v (.map s.G.length)))
 | .call { callee:=.builtin b,args,argTypes }=>match fw E f s o with
  | some r=>some r
  | none=>match kr E s.ae args.toList with
   | some l=>bB E s o.dst b l argTypes.toList
   | none=>none
 | _=>none
end Go.Am
namespace Go.Am
open Go
inductive TR where
 | bl
 | full (f:Nat)
 | tok (f b c:Nat)
inductive RO where
 | none
 | bl
 | bJ (b:Nat)
 | tok (f b c:Nat)
 | aU (ts:List TR)
def RO.has:RO→Nat→Prop
 | .none,_=>False
 | .bl,_=>False
 | .bJ b,x=>x=b
 | .tok _ b _,x=>x=b
 | .aU ts,x=>∃ j f c,nth ts j=some (.tok f x c)
def gU (sz:Nat) (es:List AV):Prop:=∀ e∈es,e.cells.length=sz∧e.aL=true∧e.closed=true
def cK (sz:Nat) (es:List AV):Prop:=∀ e∈es,e.cells.length=sz∧e.aL=true
theorem gU.g {sz:Nat} {es:List AV} (h:gU sz es):cK sz es:=fun e he=>⟨(h e he).1,(h e he).2.1⟩
structure ai where
 I:Nat→Nat→Prop
 obj:List RO
def M8 (b o len cap:Nat):RO→Prop
 | .none=>True
 | .bl=>False
 | .bJ _=>False
 | .tok f b' c'=>len≤f∧(len=f→b=b'∧o=0∧cap=c')
 | .aU _=>False
def Js (b o len cap:Nat):TR→Prop
 | .bl=>False
 | .full f=>len≤f∧(len=f→cap=len)
 | .tok f b' c'=>len≤f∧(len=f→b=b'∧o=0∧cap=c')
def RN (b o len cap j:Nat):RO→Prop
 | .none=>True
 | .bl=>False
 | .bJ _=>False
 | .tok _ _ _=>False
 | .aU ts=>∃ t,nth ts j=some t∧Js b o len cap t
def qx:RO→Prop
 | .none=>True
 | .bl=>False
 | .bJ _=>False
 | .tok _ _ _=>False
 | .aU _=>True
def kW:RO→Prop
 | .none=>True
 | .bl=>True
 | .bJ _=>False
 | .tok f _ _=>1≤f
 | .aU _=>False
def Eb (b o f off sz cap:Nat):RO→Prop
 | .none=>True
 | .bl=>False
 | .bJ _=>False
 | .tok f' b' c'=>f≤f'∧(f=f'→b=b'∧off+cap=c'∧(o=off * sz∨cap=0))
 | .aU _=>False
def Fw (b o f i off sz:Nat):RO→Prop
 | .none=>True
 | .bl=>False
 | .bJ _=>False
 | .tok f' b' _=>f≤f'∧(f=f'→b=b'∧o=i * sz+off)
 | .aU _=>False
def xG (R:ai) (k:LK) (b o len cap:Nat):Prop:=match k with
 | .nil=>False
 | .full=>cap=len
 | .dP=>True
 | .own id=>∃ ro,nth R.obj id=some ro∧M8 b o len cap ro
 | .aU id j=>∃ ro,nth R.obj id=some ro∧RN b o len cap j ro
mutual
inductive Rel (R:ai) (w:World):AV→Value→Prop
 | bool (b:Bool):Rel R w (.bool b) (.bool b)
 | int (k:IntKind) (n:Int):Rel R w (.int k n) (.int k n)
 | str (l:List UInt8):Rel R w (.str l) (.string ⟨⟨l⟩⟩)
 | agg {cs:List AV} {vs:List Value} (h:aD R w cs vs) (h1:∀ v∈vs,v.oneCell'=true):Rel R w (.agg cs) (.agg ⟨vs⟩)
 | aX {cs:List AV} {vs:List Value} (h:aD R w cs vs):Rel R w (.aX cs) (.tuple ⟨vs⟩)
 | gi:Rel R w .gi (.pointer none)
 | ptr {id off b:Nat} (h:nth R.obj id=some (.bJ b)):Rel R w (.ptr id off) (.pointer (some ⟨b,off,none⟩))
 | ep {cs:List AV} {b o:Nat} (h:cW R w b o cs):Rel R w (.ep cs) (.pointer (some ⟨b,o,none⟩))
 | iB {sz:Nat}:Rel R w (.list .nil sz []) (.slice none 0 0)
 | gF {sz:Nat}:Rel R w (.list .dP sz []) (.slice none 0 0)
 | kX {sz:Nat} {a:Addr}:Rel R w (.list .dP sz []) (.slice (some a) 0 0)
 | kA {id sz:Nat} {ro:RO} (h:nth R.obj id=some ro) (ho:kW ro):Rel R w (.list (.own id) sz []) (.slice none 0 0)
 | ka {id j sz:Nat} {ro:RO} (h:nth R.obj id=some ro) (ho:qx ro):Rel R w (.list (.aU id j) sz []) (.slice none 0 0)
 | list {k:LK} {sz:Nat} {es:List AV} {b o len cap:Nat} (h:e7 R w b o sz es) (hl:len=es.length) (hc:len≤cap) (hk:xG R k b o len cap):Rel R w (.list k sz es) (.slice (some ⟨b,o,none⟩) len cap)
 | iL {id off sz len cap b:Nat} (h:nth R.obj id=some (.bJ b)) (hc:len≤cap):Rel R w (.iL id off sz len cap) (.slice (some ⟨b,off,none⟩) len cap)
 | gA {id sz:Nat} {ro:RO} (h:nth R.obj id=some ro) (ho:kW ro):Rel R w (.dC id 0 0 sz 0) (.slice none 0 0)
 | dC {id f off sz len cap b o:Nat} {ro:RO} (h:nth R.obj id=some ro) (ho:Eb b o f off sz cap ro) (hc:len≤cap):Rel R w (.dC id f off sz len) (.slice (some ⟨b,o,none⟩) len cap)
 | gp {id f i off sz b o:Nat} {t:TypeId} {ro:RO} (h:nth R.obj id=some ro) (ho:Fw b o f i off sz ro):Rel R w (.gp id f i off sz t) (.pointer (some ⟨b,o,none⟩))
 | jc:Rel R w .jc (.map none)
 | map {id b:Nat} (h:nth R.obj id=some (.bJ b)):Rel R w (.map id) (.map (some b))
 | bX:Rel R w .bX .nilFunc
 | fn {f:FuncId} {xs ys:List AV} {vs us:List Value} (h:aD R w xs vs) (h':aD R w ys us):Rel R w (.fn f xs ys) (.func (.func f) ⟨vs⟩ ⟨us⟩)
 | yield {id b:Nat} (h:nth R.obj id=some (.bJ b)):Rel R w (.yield id) (.func (.yield b) #[] #[])
 | lY:Rel R w .lY .nilIface
 | iface {t:TypeId} {v:AV} {c:Value} (h:Rel R w v c):Rel R w (.iface t v) (.iface t c)
inductive aD (R:ai) (w:World):List AV→List Value→Prop
 | nil:aD R w [] []
 | cons {a:AV} {c:Value} {l:List AV} {cs:List Value} (h:Rel R w a c) (t:aD R w l cs):aD R w (a :: l) (c :: cs)
inductive e7 (R:ai) (w:World):Nat→Nat→Nat→List AV→Prop
 | nil {b o sz:Nat}:e7 R w b o sz []
 | cons {b o sz:Nat} {e:AV} {es:List AV} (hl:e.cells.length=sz) (ht:e.aL=true) (hk:e.closed=true) (h:cW R w b o e.cells) (t:e7 R w b (o+sz) sz es):e7 R w b o sz (e :: es)
inductive cW (R:ai) (w:World):Nat→Nat→List AV→Prop
 | nil {b o:Nat}:cW R w b o []
 | cons {b o:Nat} {a:AV} {c:Value} {l:List AV} (hc:w.cell? ⟨b,o,none⟩=some c) (h1:c.oneCell'=true) (hi:R.I b o) (h:Rel R w a c) (t:cW R w b (o+1) l):cW R w b o (a :: l)
end
def kb:TR→TR→Prop
 | .bl,.bl=>True
 | .bl,.full _=>False
 | .bl,.tok f _ _=>1≤f
 | .full _,.bl=>False
 | .full f,.full f'=>f'=f
 | .full f,.tok f' _ _=>f < f'
 | .tok _ _ _,.bl=>False
 | .tok _ _ _,.full _=>False
 | .tok f b c,.tok f' b' c'=>f≤f'∧(f'=f→b'=b∧c'=c)
theorem kb.refl (t:TR):kb t t:=by cases t <;> simp [kb]
theorem kb.trans {a b c:TR} (h:kb a b) (k:kb b c):kb a c:=by
 cases a <;> cases b <;> cases c <;> simp only [kb] at * <;> omega
def qy (ts Ra:List TR):Prop:=∀ j t,nth ts j=some t→∃ t',nth Ra j=some t'∧kb t t'
theorem qy.refl (ts:List TR):qy ts ts:=fun _ t h=>⟨t,h,kb.refl t⟩
theorem qy.trans {a b c:List TR} (h:qy a b) (k:qy b c):qy a c:=fun j t hj=>
 let ⟨_,h1,h2⟩:=h j t hj
 let ⟨t2,k1,k2⟩:=k j _ h1
 ⟨t2,k1,h2.trans k2⟩
def bW:RO→RO→Prop
 | .none,r=>r=.none
 | .bJ b,r=>r=.bJ b
 | .bl,.none=>True
 | .bl,.bl=>True
 | .bl,.bJ _=>False
 | .bl,.tok f _ _=>1≤f
 | .tok _ _ _,.none=>True
 | .tok _ _ _,.bl=>False
 | .tok _ _ _,.bJ _=>False
 | .tok f b c,.tok f' b' c'=>f≤f'∧(f'=f→b'=b∧c'=c)
 | .bl,.aU _=>False
 | .tok _ _ _,.aU _=>False
 | .aU _,.none=>True
 | .aU _,.bl=>False
 | .aU _,.bJ _=>False
 | .aU _,.tok _ _ _=>False
 | .aU ts,.aU Ra=>qy ts Ra
theorem bW.refl (r:RO):bW r r:=by cases r <;> simp [bW,qy.refl]
theorem bW.trans {a b c:RO} (h:bW a b) (k:bW b c):bW a c:=by
 cases a with
 | none=>simp only [bW] at h; subst h; exact k
 | bJ x=>simp only [bW] at h; subst h; exact k
 | bl=>
  cases b with
  | none=>simp only [bW] at k; subst k; trivial
  | bl=>exact k
  | bJ z=>exact h.elim
  | tok f' x' y'=>
   cases c with
   | none=>trivial
   | bl=>exact k.elim
   | bJ z=>exact k.elim
   | aU _=>exact k.elim
   | tok f'' x'' y''=>simp only [bW] at *; omega
  | aU _=>exact h.elim
 | tok f x y=>
  cases b with
  | none=>simp only [bW] at k; subst k; trivial
  | bl=>exact h.elim
  | bJ z=>exact h.elim
  | tok f' x' y'=>
   cases c with
   | none=>trivial
   | bl=>exact k.elim
   | bJ z=>exact k.elim
   | tok f'' x'' y''=>
    simp only [bW] at *
    refine ⟨Nat.le_trans h.1 k.1,fun e=>?_⟩
    obtain ⟨h1,h2⟩:=h; obtain ⟨k1,k2⟩:=k
    have e1:f'=f:=by omega
    have e2:f''=f':=by omega
    exact ⟨(k2 e2).1.trans (h2 e1).1,(k2 e2).2.trans (h2 e1).2⟩
   | aU _=>exact k.elim
  | aU _=>exact h.elim
 | aU ts=>
  cases b with
  | none=>simp only [bW] at k; subst k; trivial
  | bl=>exact h.elim
  | bJ z=>exact h.elim
  | tok f' x' y'=>exact h.elim
  | aU Ra=>
   cases c with
   | none=>trivial
   | bl=>exact k.elim
   | bJ z=>exact k.elim
   | tok f' x' y'=>exact k.elim
   | aU ts''=>exact qy.trans h k
def pu (r r':Loop):Prop:=r'.tmps=r.tmps∧r'.params=r.params∧r'.assign=r.assign∧r'.body=r.body∧r'.defers=r.defers
def fm (w w':World):Prop:=∀ (b:Nat) (r:Loop),w.heap[b]?=some (Obj.loop r)→∃ r',w'.heap[b]?=some (Obj.loop r')∧pu r r'
theorem fm.refl (w:World):fm w w:=fun _ r h=>⟨r,h,rfl,rfl,rfl,rfl,rfl⟩
theorem fm.trans {w w1 w2:World} (h:fm w w1) (k:fm w1 w2):fm w w2:=fun b r hb=>
 let ⟨_,h1,h2,h3,h4,h5,h6⟩:=h b r hb
 let ⟨r2,k1,k2,k3,k4,k5,k6⟩:=k b _ h1
 ⟨r2,k1,k2.trans h2,k3.trans h3,k4.trans h4,k5.trans h5,k6.trans h6⟩
theorem fm.old {w w':World} (h:∀ b,b < w.heap.size→w'.heap[b]?=w.heap[b]?):fm w w':=fun b r hb=>
 ⟨r,(h b (by
  rcases Nat.lt_or_ge b w.heap.size with bT | pd
  ·exact bT
  ·rw [Array.getElem?_eq_none pd] at hb; cases hb)).trans hb,rfl,rfl,rfl,rfl,rfl⟩
structure Ext (R:ai) (w:World) (R':ai) (w':World):Prop where
 I:∀ b o,R.I b o→R'.I b o
 cell:∀ b o,R.I b o→w'.cell? ⟨b,o,none⟩=w.cell? ⟨b,o,none⟩
 obj:∀ id ro,nth R.obj id=some ro→∃ ks,nth R'.obj id=some ks∧bW ro ks
 lp:fm w w'
theorem Ext.refl (R:ai) (w:World):Ext R w R w:=⟨fun _ _ h=>h,fun _ _ _=>rfl,fun _ ro h=>⟨ro,h,bW.refl ro⟩,fm.refl w⟩
theorem Ext.trans {R R' Jt:ai} {w w' M9:World} (h:Ext R w R' w') (k:Ext R' w' Jt M9):Ext R w Jt M9:=
 ⟨fun b o hi=>k.I b o (h.I b o hi),fun b o hi=>(k.cell b o (h.I b o hi)).trans (h.cell b o hi),fun id ro hr=>
  let ⟨_,h1,h2⟩:=h.obj id ro hr
  let ⟨r2,h3,h4⟩:=k.obj id _ h1
  ⟨r2,h3,h2.trans h4⟩,h.lp.trans k.lp⟩
theorem Ext.bJ {R R':ai} {w w':World} (h:Ext R w R' w') {id b:Nat} (hb:nth R.obj id=some (.bJ b)):nth R'.obj id=some (.bJ b):=by
 obtain ⟨r,h1,h2⟩:=h.obj id _ hb
 simp only [bW] at h2
 subst h2
 exact h1
theorem xG.mono {R R':ai} {w w':World} (e:Ext R w R' w') {k:LK} {b o len cap:Nat} (h:xG R k b o len cap):xG R' k b o len cap:=by
 cases k with
 | nil=>exact h
 | full=>exact h
 | dP=>trivial
 | own id=>
  obtain ⟨ro,h1,h2⟩:=h
  obtain ⟨ks,h3,h4⟩:=e.obj id ro h1
  refine ⟨ks,h3,?_⟩
  cases ro with
  | none=>simp only [bW] at h4; subst h4; trivial
  | bl=>exact h2.elim
  | bJ x=>exact h2.elim
  | tok f x y=>
   cases ks with
   | none=>trivial
   | bl=>exact h4.elim
   | bJ z=>exact h4.elim
   | tok f' x' y'=>
    simp only [bW,M8] at *
    refine ⟨by omega,fun e=>?_⟩
    have e1:f'=f:=by omega
    have h5:=h2.2 (by omega)
    have h6:=h4.2 e1
    exact ⟨h5.1.trans h6.1.symm,h5.2.1,h5.2.2.trans h6.2.symm⟩
   | aU _=>exact h4.elim
  | aU _=>exact h2.elim
 | aU id j=>
  obtain ⟨ro,h1,h2⟩:=h
  obtain ⟨ks,h3,h4⟩:=e.obj id ro h1
  refine ⟨ks,h3,?_⟩
  cases ro with
  | none=>simp only [bW] at h4; subst h4; trivial
  | bl=>exact h2.elim
  | bJ x=>exact h2.elim
  | tok _ _ _=>exact h2.elim
  | aU ts=>
   cases ks with
   | none=>trivial
   | bl=>exact h4.elim
   | bJ z=>exact h4.elim
   | tok _ _ _=>exact h4.elim
   | aU Ra=>
    obtain ⟨t,k1,k2⟩:=h2
    obtain ⟨t',k3,k4⟩:=h4 j t k1
    refine ⟨t',k3,?_⟩
    cases t with
    | bl=>exact k2.elim
    | full f=>
     cases t' with
     | bl=>exact k4.elim
     | full f'=>simp only [kb,Js] at *; subst k4; exact k2
     | tok f' x' y'=>simp only [kb,Js] at *; exact ⟨by omega,fun e=>by omega⟩
    | tok f x y=>
     cases t' with
     | bl=>exact k4.elim
     | full f'=>exact k4.elim
     | tok f' x' y'=>
      simp only [kb,Js] at *
      refine ⟨by omega,fun e=>?_⟩
      have e1:f'=f:=by omega
      have h5:=k2.2 (by omega)
      have h6:=k4.2 e1
      exact ⟨h5.1.trans h6.1.symm,h5.2.1,h5.2.2.trans h6.2.symm⟩
theorem kW.mono {ro ks:RO} (h:kW ro) (e:bW ro ks):kW ks:=by
 cases ro with
 | none=>simp only [bW] at e; subst e; trivial
 | bl=>cases ks <;> first | trivial | exact e.elim | exact e
 | bJ _=>exact h.elim
 | tok f x y=>
  cases ks with
  | none=>trivial
  | bl=>exact e.elim
  | bJ z=>exact e.elim
  | tok f' x' y'=>simp only [bW,kW] at *; omega
  | aU _=>exact e.elim
 | aU _=>exact h.elim
theorem qx.mono {ro ks:RO} (h:qx ro) (e:bW ro ks):qx ks:=by
 cases ro with
 | none=>simp only [bW] at e; subst e; trivial
 | bl=>exact h.elim
 | bJ _=>exact h.elim
 | tok _ _ _=>exact h.elim
 | aU ts=>
  cases ks with
  | none=>trivial
  | bl=>exact e.elim
  | bJ z=>exact e.elim
  | tok _ _ _=>exact e.elim
  | aU Ra=>trivial
theorem Eb.mono {b o f off sz cap:Nat} {ro ks:RO} (h:Eb b o f off sz cap ro) (e:bW ro ks):Eb b o f off sz cap ks:=by
 cases ro with
 | none=>simp only [bW] at e; subst e; trivial
 | bl=>exact h.elim
 | bJ _=>exact h.elim
 | tok f1 x y=>
  cases ks with
  | none=>trivial
  | bl=>exact e.elim
  | bJ z=>exact e.elim
  | tok f' x' y'=>
   simp only [bW,Eb] at *
   refine ⟨by omega,fun k=>?_⟩
   obtain ⟨e1,e2⟩:=e.2 (by omega)
   obtain ⟨h1,h2,h3⟩:=h.2 (by omega)
   exact ⟨h1.trans e1.symm,h2.trans e2.symm,h3⟩
  | aU _=>exact e.elim
 | aU _=>exact h.elim
theorem Fw.mono {b o f i off sz:Nat} {ro ks:RO} (h:Fw b o f i off sz ro) (e:bW ro ks):Fw b o f i off sz ks:=by
 cases ro with
 | none=>simp only [bW] at e; subst e; trivial
 | bl=>exact h.elim
 | bJ _=>exact h.elim
 | tok f1 x y=>
  cases ks with
  | none=>trivial
  | bl=>exact e.elim
  | bJ z=>exact e.elim
  | tok f' x' y'=>
   simp only [bW,Fw] at *
   refine ⟨by omega,fun k=>?_⟩
   obtain ⟨e1,e2⟩:=e.2 (by omega)
   obtain ⟨h1,h2⟩:=h.2 (by omega)
   exact ⟨h1.trans e1.symm,h2⟩
  | aU _=>exact e.elim
 | aU _=>exact h.elim
mutual
theorem Rel.mono {R R':ai} {w w':World} (e:Ext R w R' w'):∀ {a:AV} {c:Value},Rel R w a c→Rel R' w' a c
 | _,_,.bool b=>.bool b
 | _,_,.int k n=>.int k n
 | _,_,.str l=>.str l
 | _,_,.agg h h1=>.agg (h.mono e) h1
 | _,_,.aX h=>.aX (h.mono e)
 | _,_,.gi=>.gi
 | _,_,.ptr h=>.ptr (e.bJ h)
 | _,_,.ep h=>.ep (h.mono e)
 | _,_,.iB=>.iB
 | _,_,.gF=>.gF
 | _,_,.kX=>.kX
 | _,_,.kA h ho=>let ⟨_,h3,h4⟩:=e.obj _ _ h; .kA h3 (ho.mono h4)
 | _,_,.ka h ho=>let ⟨_,h3,h4⟩:=e.obj _ _ h; .ka h3 (ho.mono h4)
 | _,_,.list h hl hc hk=>.list (h.mono e) hl hc (hk.mono e)
 | _,_,.iL h hc=>.iL (e.bJ h) hc
 | _,_,.gA h ho=>let ⟨_,h3,h4⟩:=e.obj _ _ h; .gA h3 (ho.mono h4)
 | _,_,.dC h ho hc=>let ⟨_,h3,h4⟩:=e.obj _ _ h; .dC h3 (ho.mono h4) hc
 | _,_,.gp h ho=>let ⟨_,h3,h4⟩:=e.obj _ _ h; .gp h3 (ho.mono h4)
 | _,_,.jc=>.jc
 | _,_,.map h=>.map (e.bJ h)
 | _,_,.bX=>.bX
 | _,_,.fn h h'=>.fn (h.mono e) (h'.mono e)
 | _,_,.yield h=>.yield (e.bJ h)
 | _,_,.lY=>.lY
 | _,_,.iface h=>.iface (h.mono e)
theorem aD.mono {R R':ai} {w w':World} (e:Ext R w R' w'):∀ {l:List AV} {cs:List Value},aD R w l cs→aD R' w' l cs
 | _,_,.nil=>.nil
 | _,_,.cons h t=>.cons (h.mono e) (t.mono e)
theorem e7.mono {R R':ai} {w w':World} (e:Ext R w R' w'):∀ {b o sz:Nat} {l:List AV},e7 R w b o sz l→e7 R' w' b o sz l
 | _,_,_,_,.nil=>.nil
 | _,_,_,_,.cons hl ht hk h t=>.cons hl ht hk (h.mono e) (t.mono e)
theorem cW.mono {R R':ai} {w w':World} (e:Ext R w R' w'):∀ {b o:Nat} {l:List AV},cW R w b o l→cW R' w' b o l
 | _,_,_,.nil=>.nil
 | _,_,_,.cons hc h1 hi h t=>.cons ((e.cell _ _ hi).trans hc) h1 (e.I _ _ hi) (h.mono e) (t.mono e)
end
end Go.Am
namespace Go.Am
open Go
section lists
variable {α:Type}
theorem aR (l:List α) (n:Nat):nth l n=l[n]?:=by
 induction l generalizing n with
 | nil=>simp [nth]
 | cons a l ih=>cases n <;> simp [nth,ih]
theorem e9 (l:List α) (n:Nat) (x:α):aw l n x=l.set n x:=by
 induction l generalizing n with
 | nil=>simp [aw]
 | cons a l ih=>cases n <;> simp [aw,ih]
theorem bu {l:List α} {n:Nat} {x:α} (h:nth l n=some x):n < l.length:=by
 rw [aR] at h
 exact (List.getElem?_eq_some_iff.1 h).1
theorem aC {l:List α} {n:Nat} {x y:α} (h:nth l n=some y):nth (aw l n x) n=some x:=by
 have:=bu h
 rw [aR,e9,List.getElem?_set_self this]
theorem bo {l:List α} {n m:Nat} {x:α} (h:n≠m):nth (aw l n x) m=nth l m:=by
 rw [aR,e9,aR,List.getElem?_set_ne h]
theorem cD {l:List α} {n m:Nat} {x y:α} (h:nth (aw l n x) m=some y):(n=m∧y=x∧m < l.length)∨(n≠m∧nth l m=some y):=by
 by_cases e:n=m
 ·subst e
  have hl:=bu h
  rw [e9,List.length_set] at hl
  rw [aR,e9,List.getElem?_set_self hl] at h
  exact .inl ⟨rfl,(Option.some.inj h).symm,hl⟩
 ·rw [bo e] at h
  exact .inr ⟨e,h⟩
@[simp] theorem fU (l:List α) (n:Nat) (x:α):(aw l n x).length=l.length:=by rw [e9,List.length_set]
theorem dH (l:List α) (x:α):nth (l++[x]) l.length=some x:=by rw [aR]; simp
theorem cE {l:List α} {n:Nat} {y x:α} (h:nth l n=some y):nth (l++[x]) n=some y:=by
 have:=bu h
 rw [aR] at *
 rw [List.getElem?_append_left this]
 exact h
theorem av {l:List α} {n:Nat} {y x:α} (h:nth (l++[x]) n=some y):nth l n=some y∨(n=l.length∧y=x):=by
 rw [aR] at *
 by_cases e:n < l.length
 ·rw [List.getElem?_append_left e] at h; exact .inl h
 ·rw [List.getElem?_append_right (by omega)] at h
  have hl:=(List.getElem?_eq_some_iff.1 h).1
  simp at hl
  have:n - l.length=0:=by omega
  rw [this] at h
  simp at h
  exact .inr ⟨by omega,h.symm⟩
theorem gV:∀ {l:List α} {n:Nat} {x:α},nth l n=some x→aw l n x=l
 | [],_,_,h=>by cases h
 | a :: l,0,x,h=>by cases h; rfl
 | a :: l,n+1,x,h=>by
  show a :: aw l n x=a :: l
  rw [gV (show nth l n=some x from h)]
end lists
def N9 (R:ai) (w:World) (RQ:aT→Array Value→Prop) (busy:Bool) (pending:Option Code) (ae:aT) (n:Nat) (params:List Tmp) (assign body:Code) (defers:Nat) (done:Bool) (b:Nat):Prop:=
 ∃ (r:Loop) (db:Nat),w.heap[b]?=some (.loop r)∧r.state=(if done then .done else if busy then .busy else .ready)∧r.pending=pending ∧
  RQ ae r.tmps∧r.tmps.size=n∧r.params=⟨params⟩∧r.assign=assign∧r.body=body∧r.defers=db∧nth R.obj defers=some (.bJ db)
def nO (R:ai) (w:World) (β:Nat→Nat):SV→Value→Prop
 | .none,_=>True
 | .v a,c=>Rel R w a c
 | .lp k off,c=>c=.pointer (some ⟨β k,off,none⟩)
def mg (R:ai) (w:World) (β:Nat→Nat) (ae:aT) (tmps:Array Value):Prop:=
 ∀ i,lk ae i≠.none→∃ c,tmps[i]?=some c∧nO R w β (lk ae i) c
def C2:aT→Bool
 | []=>true
 | .put _ (.lp _ _) :: _=>false
 | _ :: l=>C2 l
def cH (R:ai) (w:World):List (AV × AV)→List MapEntry→Prop
 | [],[]=>True
 | (k,v) :: l,e :: es=>Rel R w k e.key∧Rel R w v e.val∧cH R w l es
 | _,_=>False
def wv (R:ai) (w:World) (sz:Nat) (e:TypeId) (f:Nat):TR→Prop
 | .bl=>f=0
 | .full f'=>f'=f
 | .tok f' b c=>f'=f∧∃ cur,w.heap[b]?=some (.cells cur e (0,0))∧f≤c∧c≤maxLen∧cur.size=c * sz∧∀ o,f * sz≤o→¬ R.I b o
def RR (ts:List TR):Prop:=∀ i j f b c f' c',nth ts i=some (.tok f b c)→nth ts j=some (.tok f' b c')→i=j
def tg (R:ai) (w:World) (sz:Nat) (e:TypeId) (fs:List Nat) (ts:List TR):Prop:=
 ts.length=fs.length∧RR ts∧∀ j f t,nth fs j=some f→nth ts j=some t→wv R w sz e f t
def iC (ax:Array MapEntry) (clock:Nat):Prop:=clock=ax.size∧∀ (i:Nat) (e:MapEntry),ax.toList[i]?=some e→e.born=i
def RS (R:ai) (w:World) (ot n:Nat) (left:List Nat) (cur:Option Nat) (b:Nat):Prop:=
 ∃ bm seen c0,nth R.obj ot=some (.bJ bm)∧w.heap[b]?=some (.mapIter (some bm) n seen c0)∧(∀ i,i < n→(i∈left↔seen.contains i=false))∧(∀ i∈left,i < n)∧left.Nodup∧n≤c0∧∀ i,cur=some i→seen.back?=some i∧c0=n
def fx (R:ai) (w:World):GO→RO→Prop
 | .dead,.none=>True
 | .dead,.bl=>True
 | .dead,.bJ b=>b < w.heap.size
 | .dead,.tok _ b _=>b < w.heap.size
 | .dead,.aU ts=>∀ j f b c,nth ts j=some (.tok f b c)→b < w.heap.size
 | .aU fs sz e,.aU ts=>tg R w sz e fs ts
 | .lS ot n left cur _,.bJ b=>RS R w ot n left cur b
 | .tok f _ _,.bl=>f=0
 | .row cs el,.bJ b=>∃ vs,w.heap[b]?=some (.cells ⟨vs⟩ el (0,0))∧aD R w cs vs∧(∀ v∈vs,v.oneCell'=true)∧∀ o,¬ R.I b o
 | .tok f sz e,.tok f' b c=>f'=f∧∃ cur,w.heap[b]?=some (.cells cur e (0,0))∧f≤c∧c≤maxLen∧cur.size=c * sz∧∀ o,f * sz≤o→¬ R.I b o
 | .dm es _ _,.bl=>es=[]
 | .dm es sz e,.tok f b c=>f=es.length∧cK sz es∧∃ cur vs,w.heap[b]?=some (.cells cur e (0,0))∧f≤c∧c≤maxLen∧cur.size=c * sz∧(∀ o,¬ R.I b o)∧aD R w (ar es) vs∧(∀ v∈vs,v.oneCell'=true)∧cur.toList.take (f * sz)=vs
 | .map es,.bJ b=>∃ ax clock,w.heap[b]?=some (.map ax clock)∧cH R w es ax.toList∧iC ax clock
 | .fk l pos,.bJ b=>w.heap[b]?=some (.stringIter ⟨⟨l⟩⟩ pos)
 | .loop busy pending _ ae n params assign body defers done,.bJ b=>N9 R w (mg R w (fun _=>0)) busy pending ae n params assign body defers done b∧C2 ae=true
 | .defers o,.bJ b=>w.heap[b]?=some (.deferred (if o then some [] else none))
 | _,_=>False
def iD (E:Env) (R:ai) (w:World) (g:Nat) (cs:List AV):Prop:=
 cW R w g 0 cs∧(E.gx g=true→R.I g cs.length∧w.cell? ⟨g,cs.length,none⟩=none)
theorem iD.mono {E:Env} {R R':ai} {w w':World} {g:Nat} {cs:List AV} (h:iD E R w g cs) (e:Ext R w R' w'):iD E R' w' g cs:=
 ⟨h.1.mono e,fun hx=>⟨e.I _ _ (h.2 hx).1,(e.cell _ _ (h.2 hx).1).trans (h.2 hx).2⟩⟩
structure cI (E:Env) (R:ai) (w:World) (G:List GO):Prop where
 len:R.obj.length=G.length
 obj:∀ id go ro,nth G id=some go→nth R.obj id=some ro→fx R w go ro
 inj:∀ i j ri rj b,nth R.obj i=some ri→nth R.obj j=some rj→ri.has b→rj.has b→i=j
 wf:∀ b o,R.I b o→b < w.heap.size
 bN:∀ g cs,E.bN g=some cs→iD E R w g cs
 lo:E.lo≤w.drawn
def Live (R:ai) (b:Nat):Prop:=∃ id ro,nth R.obj id=some ro∧ro.has b
structure Ju (R:ai) (w:World) (β:Nat→Nat) (boxes:b8):Prop where
 box:∀ k cs,cG boxes k=some cs→(∃ vs el,w.heap[β k]?=some (.cells ⟨vs⟩ el (0,0))∧aD R w cs vs∧(∀ v∈vs,v.oneCell'=true))∧(∀ o,¬ R.I (β k) o)∧¬ Live R (β k)
 inj:∀ k k' cs cs',cG boxes k=some cs→cG boxes k'=some cs'→β k=β k'→k=k'
def nP (R:ai):List Nat→List Deferred→Prop
 | [],[]=>True
 | id :: l,d :: ds=>(∃ b,nth R.obj id=some (.bJ b)∧d={ target:=.collected b,args:=#[] })∧nP R l ds
 | _,_=>False
structure aY (E:Env) (R:ai) (w:World) (β:Nat→Nat) (s:St) (a:Act):Prop where
 g:cI E R w s.G
 b:Ju R w β s.boxes
 t:mg R w β s.ae a.tmps
 n:a.tmps.size=s.n
 d:nP R s.marks a.defers
def Own (R:ai) (β:Nat→Nat) (boxes:b8) (b:Nat):Prop:=
 Live R b∨∃ k cs,cG boxes k=some cs∧β k=b
structure Step (R:ai) (w:World) (β:Nat→Nat) (bx:b8) (R':ai) (w':World) (β':Nat→Nat) (Fx:b8):Prop where
 ext:Ext R w R' w'
 os:w'.os=w.os
 tape:w'.tape=w.tape
 output:w'.output=w.output
 size:w.heap.size≤w'.heap.size
 bq:∀ b,b < w.heap.size→¬ Own R β bx b→w'.heap[b]?=w.heap[b]?
 own:∀ b,b < w.heap.size→Own R' β' Fx b→Own R β bx b
 im:∀ b o,R'.I b o→b < w.heap.size→¬ Own R β bx b→R.I b o
theorem Step.refl (R:ai) (w:World) (β:Nat→Nat) (bx:b8):Step R w β bx R w β bx:=
 ⟨Ext.refl R w,rfl,rfl,rfl,Nat.le_refl _,fun _ _ _=>rfl,fun _ _ h=>h,fun _ _ h _ _=>h⟩
theorem Step.trans {R R1 R2:ai} {w w1 w2:World} {β β1 β2:Nat→Nat} {x x1 x2:b8}
  (h:Step R w β x R1 w1 β1 x1) (k:Step R1 w1 β1 x1 R2 w2 β2 x2):Step R w β x R2 w2 β2 x2 where
 ext:=h.ext.trans k.ext
 os:=k.os.trans h.os
 tape:=k.tape.trans h.tape
 output:=k.output.trans h.output
 size:=Nat.le_trans h.size k.size
 bq:=fun b hb hn=>(k.bq b (Nat.lt_of_lt_of_le hb h.size) (fun ho=>hn (h.own b hb ho))).trans (h.bq b hb hn)
 own:=fun b hb ho=>h.own b hb (k.own b (Nat.lt_of_lt_of_le hb h.size) ho)
 im:=fun b o hi hb hn=>h.im b o (k.im b o hi (Nat.lt_of_lt_of_le hb h.size) (fun ho=>hn (h.own b hb ho))) hb hn
theorem nO.mono {R R':ai} {w w':World} {β:Nat→Nat} (e:Ext R w R' w') {x:SV} {c:Value} (h:nO R w β x c):nO R' w' β x c:=by
 cases x with
 | none=>trivial
 | v a=>exact Rel.mono e h
 | lp k off=>exact h
theorem pw (n:Nat):Nat.beq n n=true:=Nat.beq_refl n
theorem kY {n m:Nat} (h:n≠m):Nat.beq n m=false:=by
 cases hb:Nat.beq n m with
 | true=>exact absurd (Nat.eq_of_beq_eq_true hb) h
 | false=>rfl
theorem ay (l:aT) (d:Nat) (x:SV):lk (.put d x :: l) d=x:=by simp [lk]
theorem aH {l:aT} {d t:Nat} {x:SV} (h:d≠t):lk (.put d x :: l) t=lk l t:=by simp [lk,kY h]
theorem C3 {l:aT} {d t:Nat}:(lk (.kill d :: l) t=lk l t∧∀ k off,lk l t=.lp k off→k≠d)∨lk (.kill d :: l) t=.none:=by
 simp only [lk]
 cases h:lk l t with
 | none=>exact .inr rfl
 | v a=>exact .inl ⟨rfl,fun _ _ e=>by cases e⟩
 | lp k off=>
  by_cases hk:k=d
  ·subst hk
   exact .inr (by simp)
  ·exact .inl ⟨by simp [kY hk],fun k' eF e=>by cases e; exact hk⟩
theorem Fy (l:b8) (d:Nat) (cs:List AV):cG ((d,cs) :: l) d=some cs:=by simp [cG]
theorem dI {l:b8} {d k:Nat} {cs cs':List AV} (h:cG ((d,cs) :: l) k=some cs'):(d=k∧cs'=cs)∨(d≠k∧cG l k=some cs'):=by
 by_cases e:d=k
 ·subst e
  rw [Fy] at h
  exact .inl ⟨rfl,(Option.some.inj h).symm⟩
 ·simp only [cG,kY e,cond_false] at h
  exact .inr ⟨e,h⟩
theorem Jv {l:b8} (h:l.all (fun p=>aS p.2)=true) {k:Nat} {cs:List AV} (hk:cG l k=some cs):aS cs=true:=by
 induction l with
 | nil=>simp [cG] at hk
 | cons x l ih=>
  obtain ⟨d,c⟩:=x
  simp only [List.all_cons,Bool.and_eq_true] at h
  rcases dI hk with ⟨_,rfl⟩ | ⟨_,hk⟩
  ·exact h.1
  ·exact ih h.2 hk
theorem mg.put {R:ai} {w:World} {β:Nat→Nat} {ae:aT} {a:Act} (h:mg R w β ae a.tmps) {d:Tmp} {x:SV} {c:Value} (hd:d < a.tmps.size) (hx:nO R w β x c) :
  mg R w β (.put d x :: ae) (a.put (some d) c).tmps:=by
 intro i hi
 by_cases e:d=i
 ·subst e
  rw [ay]
  exact ⟨c,by simp [Act.put,hd],hx⟩
 ·rw [aH e] at hi ⊢
  obtain ⟨c',h1,h2⟩:=h i hi
  refine ⟨c',?_,h2⟩
  simp only [Act.put]
  rw [Array.getElem?_setIfInBounds_ne e]
  exact h1
theorem aY.put {E:Env} {R:ai} {w:World} {β:Nat→Nat} {s:St} {a:Act} (h:aY E R w β s a) (dst:Option Tmp) {x:SV} {c:Value} (hx:nO R w β x c) :
  aY E R w β (s.put dst x) (a.put dst c):=by
 cases dst with
 | none=>exact h
 | some d=>
  simp only [St.put]
  cases hb:Nat.blt d s.n with
  | true=>
   have hd:d < a.tmps.size:=by rw [h.n]; exact Nat.le_of_ble_eq_true hb
   exact ⟨h.g,h.b,h.t.put hd hx,by simp [Act.put,h.n],h.d⟩
  | false=>
   have hd:¬ d < a.tmps.size:=by
    rw [h.n]
    intro bT
    have:Nat.blt d s.n=true:=Nat.ble_eq_true_of_le bT
    rw [this] at hb
    cases hb
   have he:a.put (some d) c=a:=by
    simp only [Act.put]
    rw [Array.setIfInBounds_eq_of_size_le (Nat.not_lt.1 hd)]
   rw [he]
   exact h
theorem px {R:ai} {w:World} {v:Value} {a:AV} (h:ph v=some a):Rel R w a v∧v.oneCell'=true:=by
 unfold ph at h
 split at h <;> cases h
 ·exact ⟨.bool _,rfl⟩
 ·exact ⟨.int _ _,rfl⟩
 ·rename_i s
  exact ⟨.str s.data.toList,rfl⟩
 ·exact ⟨.iB,rfl⟩
 ·exact ⟨.gi,rfl⟩
 ·exact ⟨.jc,rfl⟩
 ·exact ⟨.bX,rfl⟩
 ·exact ⟨.lY,rfl⟩
theorem kZ {R:ai} {w:World}:∀ {vs:List Value} {l:List AV},ku vs=some l→aD R w l vs∧∀ v∈vs,v.oneCell'=true
 | [],l,h=>by simp [ku] at h; subst h; exact ⟨.nil,by simp⟩
 | v :: vs,l,h=>by
  unfold ku at h
  split at h
  ·rename_i a r h1 h2
   cases h
   obtain ⟨k1,k2⟩:=px (R:=R) (w:=w) h1
   obtain ⟨k3,k4⟩:=kZ (R:=R) (w:=w) h2
   exact ⟨.cons k1 k3,by simp [k2]; exact k4⟩
  ·cases h
theorem rr {R:ai} {w:World} {v:Value} {a:AV} (h:pj v=some a):Rel R w a v:=by
 unfold pj at h
 split at h
 ·rename_i cs
  split at h
  ·rename_i l hl
   cases h
   obtain ⟨k1,k2⟩:=kZ (R:=R) (w:=w) hl
   exact .agg (vs:=cs.toList) k1 k2
  ·cases h
 ·rename_i cs
  split at h
  ·rename_i l hl
   cases h
   obtain ⟨k1,_⟩:=kZ (R:=R) (w:=w) hl
   exact .aX (vs:=cs.toList) k1
  ·cases h
 ·exact (px h).1
theorem aI {E:Env} {R:ai} {w:World} {β:Nat→Nat} {s:St} {a:Act} (h:aY E R w β s a) (x:Operand):nO R w β (bk E s.ae x) (a.eval x):=by
 cases x with
 | tmp t=>
  simp only [bk,Act.eval]
  by_cases hn:lk s.ae t=.none
  ·rw [hn]; trivial
  ·obtain ⟨c,h1,h2⟩:=h.t t hn
   have:a.tmps.getD t undef=c:=by simp [Array.getD_eq_getD_getElem?,h1]
   rw [this]
   exact h2
 | const v=>
  simp only [bk,Act.eval]
  cases hc:pj v with
  | none=>trivial
  | some y=>exact rr hc
 | global g=>
  simp only [bk,Act.eval]
  cases hg:E.bN g with
  | none=>trivial
  | some cs=>exact Rel.ep (h.g.bN g cs hg).1
 | func f=>exact Rel.fn .nil .nil
end Go.Am
