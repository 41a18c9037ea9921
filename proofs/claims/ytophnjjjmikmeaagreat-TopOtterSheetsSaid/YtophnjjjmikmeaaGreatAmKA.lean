/- The abstract machine: its values,its state,and what each operation does (definitions alone). -/
import Derived.CallsIn
import Derived.RangeFuncLeaves
import Derived.Laws.AppendOwn
set_option linter.all false
namespace Go.Am
open Go
inductive LK where
 | nil | full | gA | own (id:Nat) | aH (id j:Nat)
inductive AV where
 | bool (b:Bool)
 | int (k:IntKind) (n:Int)
 | str (s:List UInt8)
 | agg (cs:List AV)
 | bt (vs:List AV)
 | gW
 | ptr (id off:Nat)
 | ep (cs:List AV)
 | list (k:LK) (sz:Nat) (es:List AV)
 | gC (id off sz len cap:Nat)
 | cL (id f off sz len:Nat)
 | gp (id f i off sz:Nat) (t:TypeId)
 | fx (id j sz len:Nat)
 | rp (id j f i off sz:Nat) (t:TypeId)
 | ke
 | map (id:Nat)
 | dz
 | fn (f:FuncId) (first cap:List AV)
 | yield (id:Nat)
 | lY
 | iface (t:TypeId) (v:AV)
def LK.closed:LK→Bool
 | .own _=>false
 | .aH _ _=>false
 | _=>true
mutual
def AV.closed:AV→Bool
 | .agg cs=>aJ cs
 | .bt cs=>aJ cs
 | .ep cs=>aJ cs
 | .list k _ _=>k.closed
 | .fn _ x y=>aJ x&&aJ y
 | .iface _ v=>v.closed
 | .ptr _ _=>false
 | .gC _ _ _ _ _=>false
 | .cL _ _ _ _ _=>false
 | .gp _ _ _ _ _ _=>false
 | .fx _ _ _ _=>false
 | .rp _ _ _ _ _ _ _=>false
 | .map _=>false
 | .yield _=>false
 | _=>true
def aJ:List AV→Bool
 | []=>true
 | a :: l=>a.closed&&aJ l
end
mutual
def AV.fB:AV→AV
 | .agg cs=>.agg (jS cs)
 | .bt cs=>.bt (jS cs)
 | .list (.own _) sz es=>.list .gA sz es
 | .list (.aH _ _) sz es=>.list .gA sz es
 | v=>v
def jS:List AV→List AV
 | []=>[]
 | a :: l=>a.fB :: jS l
end
inductive SV where
 | none
 | v (a:AV)
 | lp (key off:Nat)
inductive XX where
 | put (d:Nat) (x:SV)
 | kill (d:Nat)
abbrev aV:=List XX
abbrev bX:=List (Nat × List AV)
def lk:aV→Nat→SV
 | [],_=>.none
 | .put d x :: l,t=>bif Nat.beq d t then x else lk l t
 | .kill d :: l,t=>match lk l t with
  | .lp k off=>bif Nat.beq k d then .none else .lp k off
  | x=>x
def cO:bX→Nat→Option (List AV)
 | [],_=>none
 | (d,cs) :: l,k=>bif Nat.beq d k then some cs else cO l k
inductive GO where
 | dead
 | row (cs:List AV) (el:TypeId)
 | tok (f sz:Nat) (e:TypeId)
 | aH (fs:List Nat) (sz:Nat) (e:TypeId)
 | mg (eW n:Nat) (left:List Nat) (cur:Option Nat) (t:TypeId)
 | cP (es:List AV) (sz:Nat) (el:TypeId)
 | ga (rows:List (List AV)) (sz:Nat) (el:TypeId)
 | map (es:List (AV × AV))
 | fu (s:List UInt8) (pos:Nat)
 | loop (busy:Bool) (pending:Option Code) (fn:FuncId) (ab:aV) (n:Nat) (params:List Tmp) (assign body:Code) (defers:Nat) (done:Bool)
 | defers (open_:Bool)
structure St where
 ab:aV
 boxes:bX
 G:List GO
 marks:List Nat
 ro:Option Nat
 n:Nat
def nth {α:Type}:List α→Nat→Option α
 | [],_=>none
 | a :: _,0=>some a
 | _ :: l,n+1=>nth l n
def au {α:Type}:List α→Nat→α→List α
 | [],_,_=>[]
 | _ :: l,0,x=>x :: l
 | a :: l,n+1,x=>a :: au l n x
def takeN {α:Type}:Nat→List α→Option (List α)
 | 0,_=>some []
 | _+1,[]=>none
 | n+1,a :: l=>match takeN n l with
  | some r=>some (a :: r)
  | none=>none
def ef {α:Type}:Nat→List α→List α
 | 0,l=>l
 | _+1,[]=>[]
 | n+1,_ :: l=>ef n l
def BX {α:Type} (off n:Nat) (l:List α):Option (List α):=takeN n (ef off l)
def bu {α:Type}:List α→Nat→List α→List α
 | l,_,[]=>l
 | [],_,_ :: _=>[]
 | _ :: l,0,y :: ys=>y :: bu l 0 ys
 | a :: l,n+1,y :: ys=>a :: bu l n (y :: ys)
def AV.cells:AV→List AV
 | .agg cs=>cs
 | v=>[v]
def AV.one:AV→Bool
 | .agg _=>false
 | .bt _=>false
 | _=>true
def ph:Value→Option AV
 | .bool b=>some (.bool b)
 | .int k n=>some (.int k n)
 | .string s=>some (.str s.data.toList)
 | .slice none 0 0=>some (.list .nil 0 [])
 | .pointer none=>some .gW
 | .map none=>some .ke
 | .nilFunc=>some .dz
 | .nilIface=>some .lY
 | _=>none
def kA:List Value→Option (List AV)
 | []=>some []
 | v :: vs=>match ph v,kA vs with
  | some a,some l=>some (a :: l)
  | _,_=>none
def pj:Value→Option AV
 | .agg cs=>match kA cs.toList with
  | some l=>some (.agg l)
  | none=>none
 | .tuple cs=>match kA cs.toList with
  | some l=>some (.bt l)
  | none=>none
 | v=>ph v
inductive TK where
 | sc
 | int (k:IntKind)
 | str
 | st (fs:List (Nat × Nat × Bool))
 | arr (len esz:Nat) (T1:Bool)
 | sl (elem esz:Nat) (T1:Bool) (aU:Nat) (QE:Option AV)
 | map (key elem:TypeId) (QE:Option AV)
mutual
inductive EK where
 | no
 | bool
 | int
 | str
 | st (fs:MJ)
inductive MJ where
 | nil
 | cons (off sz:Nat) (ag:Bool) (k:EK) (rest:MJ)
end
structure TI where
 k:TK
 size:Nat
 agg:Bool
 zero:Option AV
 ek:EK
def iy:TypeDesc→Bool
 | .struct _=>true
 | .array _ _=>true
 | _=>false
def fieldsOf (P:Program):List Field→Option (List (Nat × Nat × Bool))
 | []=>some []
 | f :: fs=>match P.info? f.type,P.underlying f.type,fieldsOf P fs with
  | some i,some u,some l=>some ((f.offset,i.size,iy u) :: l)
  | _,_,_=>none
def eJ (i:TypeInfo):Option AV:=match i.zero with
 | some z=>pj z
 | none=>none
def nP (P:Program):TypeDesc→Option TK
 | .int k=>some (.int k)
 | .string=>some .str
 | .struct fs=>match fieldsOf P fs.toList with
  | some l=>some (.st l)
  | none=>none
 | .array n e=>match P.info? e,P.underlying e with
  | some i,some u=>some (.arr n i.size (iy u))
  | _,_=>none
 | .slice e=>match P.info? e,P.underlying e with
  | some i,some u=>some (.sl e i.size (iy u) i.bytes (eJ i))
  | _,_=>none
 | .map k e=>match P.info? e with
  | some i=>some (.map k e (eJ i))
  | none=>none
 | _=>some .sc
def BY (P:Program) (ek:TypeId→EK):List Field→Option MJ
 | []=>some .nil
 | f :: fs => if f.name == "_" then none else match P.info? f.type, P.underlying f.type, BY P ek fs with
  | some i,some u,some l=>some (.cons f.offset i.size (iy u) (ek f.type) l)
  | _,_,_=>none
def tV (sz:Nat) (ag:Bool) (k:EK):Nat→Nat→MJ
 | 0,_=>.nil
 | n+1,i=>.cons (i * sz) sz ag k (tV sz ag k n (i+1))
def nQ (P:Program):Nat→TypeId→EK
 | 0,_=>.no
 | n+1,t=>match P.underlying t with
  | some .bool=>.bool
  | some (.int _)=>.int
  | some .string=>.str
  | some (.struct fs)=>if P.stoodInHeld t then .no else match BY P (nQ P n) fs.toList with
   | some l=>.st l
   | none=>.no
  | some (.array m e)=>match P.info? e,P.underlying e with
   | some i,some u=>.st (tV i.size (iy u) (nQ P n e) m 0)
   | _,_=>.no
  | _=>.no
def rZ (P:Program) (t:TypeId):EK:=match nQ P 6 t with
 | .st l=>if P.eqGuardType P.depth t then .no else .st l
 | k=>k
def EF (P:Program) (t:TypeId):Option TI:=
 match P.info? t,P.underlying t with
 | some i,some u=>match nP P u with
  | some k=>some { k:=k,size:=i.size,agg:=iy u,zero:=eJ i,ek:=rZ P t }
  | none=>none
 | _,_=>none
def Gg:AV→AV→Bool
 | .bool a,.bool b=>a == b
 | .int k a,.int k' b=>(k == k')&&a == b
 | .str a,.str b=>a == b
 | .gW,.gW=>true
 | .ptr i o,.ptr i' o'=>Nat.beq i i'&&Nat.beq o o'
 | .ke,.ke=>true
 | .map i,.map i'=>Nat.beq i i'
 | .dz,.dz=>true
 | .lY,.lY=>true
 | .gC a b c d e,.gC a' b' c' d' e'=>Nat.beq a a'&&Nat.beq b b'&&Nat.beq c c'&&Nat.beq d d'&&Nat.beq e e'
 | .cL a b c d e,.cL a' b' c' d' e'=>Nat.beq a a'&&Nat.beq c c'&&Nat.beq d d'&&(Nat.beq b b'&&Nat.beq e e')
 | .gp a b c d e t,.gp a' b' c' d' e' t'=>Nat.beq a a'&&Nat.beq b b'&&Nat.beq c c'&&Nat.beq d d'&&Nat.beq e e'&&Nat.beq t t'
 | .fx a b c d,.fx a' b' c' d'=>Nat.beq a a'&&Nat.beq b b'&&Nat.beq c c'&&Nat.beq d d'
 | .rp a b c d e f t,.rp a' b' c' d' e' f' t'=>Nat.beq a a'&&Nat.beq b b'&&Nat.beq c c'&&Nat.beq d d'&&Nat.beq e e'&&Nat.beq f f'&&Nat.beq t t'
 | _,_=>false
mutual
def dA:AV→AV→Bool
 | .fn f x y,.fn f' x' y'=>Nat.beq f f'&&kB x x'&&kB y y'
 | .agg cs,.agg dB=>kB cs dB
 | .ep cs,.ep dB=>kB cs dB
 | .bt cs,.bt dB=>kB cs dB
 | .list .nil a es,.list .nil a' es'=>Nat.beq a a'&&kB es es'
 | .list .full a es,.list .full a' es'=>Nat.beq a a'&&kB es es'
 | .list .gA a es,.list .gA a' es'=>Nat.beq a a'&&kB es es'
 | .list (.own i) a es,.list (.own i') a' es'=>Nat.beq i i'&&Nat.beq a a'&&kB es es'
 | .list (.aH i j) a es,.list (.aH i' j') a' es'=>Nat.beq i i'&&Nat.beq j j'&&Nat.beq a a'&&kB es es'
 | a,b=>Gg a b
def kB:List AV→List AV→Bool
 | [],[]=>true
 | a :: l,b :: r=>dA a b&&kB l r
 | _,_=>false
end
mutual
inductive aq
 | int (k:IntKind)
 | bool
 | str
 | agg (ps:aG)
 | bt (ps:aG)
 | list (sz:Nat) (p:aq)
 | own (id sz:Nat) (p:aq)
 | aH (id sz:Nat) (p:aq)
 | fx (id sz:Nat)
 | lg (v:AV)
 | two (u v:AV)
inductive aG
 | nil
 | cons (p:aq) (ps:aG)
end
def QF (s:Bool) (α β:Type):Type:=match s with
 | true=>α
 | false=>α × β
def aG.isNil:aG→Bool
 | .nil=>true
 | .cons _ _=>false
mutual
def aq.T:aq→Type
 | .int _=>Int
 | .bool=>Bool
 | .str=>List UInt8
 | .agg ps=>ps.T
 | .bt ps=>ps.T
 | .list _ p=>List p.T
 | .own _ _ p=>List p.T
 | .aH _ _ p=>Nat × List p.T
 | .fx _ _=>Nat × Nat
 | .lg _=>Unit
 | .two _ _=>Bool
def aG.T:aG→Type
 | .nil=>Unit
 | .cons p ps=>QF ps.isNil p.T ps.T
end
mutual
def aq.enc:(p:aq)→p.T→AV
 | .int k,(n:Int)=>.int k n
 | .bool,(b:Bool)=>.bool b
 | .str,(s:List UInt8)=>.str s
 | .agg ps,x=>.agg (ps.enc x)
 | .bt ps,x=>.bt (ps.enc x)
 | .list sz p,(xs:List p.T)=>.list .gA sz (xs.map p.enc)
 | .own id sz p,(xs:List p.T)=>.list (.own id) sz (xs.map p.enc)
 | .aH id sz p,(x:Nat × List p.T)=>.list (.aH id x.1) sz (x.2.map p.enc)
 | .fx id sz,(x:Nat × Nat)=>.fx id x.1 sz x.2
 | .lg v,_=>v
 | .two u v,(b:Bool)=>bif b then v else u
def aG.enc:(ps:aG)→ps.T→List AV
 | .nil,_=>[]
 | .cons p .nil,x=>[p.enc x]
 | .cons p (.cons q ps),x=>p.enc x.1 :: (aG.cons q ps).enc x.2
end
def Qg:IntKind→IntKind→Bool:=fun a b=>decide (a=b)
def AV.iy:AV→List AV
 | .agg cs=>cs
 | _=>[]
def AV.MK:AV→List AV
 | .bt cs=>cs
 | _=>[]
def AV.bY:AV→List AV
 | .list _ _ es=>es
 | _=>[]
def AV.T2:AV→Nat
 | .list (.aH _ j) _ _=>j
 | _=>0
def AV.T3:AV→Nat × Nat
 | .fx _ j _ len=>(j,len)
 | _=>(0,0)
def AV.ow:AV→Int
 | .int _ n=>n
 | _=>0
def AV.QG:AV→Bool
 | .bool b=>b
 | _=>false
def AV.ML:AV→List UInt8
 | .str s=>s
 | _=>[]
def dm:List AV→AV
 | a :: _=>a
 | []=>.gW
def Gh:List AV→List AV
 | _ :: l=>l
 | []=>[]
mutual
def aq.bc:(p:aq)→AV→p.T
 | .int _,v=>v.ow
 | .bool,v=>v.QG
 | .str,v=>v.ML
 | .agg ps,v=>ps.bc v.iy
 | .bt ps,v=>ps.bc v.MK
 | .list _ p,v=>v.bY.map p.bc
 | .own _ _ p,v=>v.bY.map p.bc
 | .aH _ _ p,v=>(v.T2,v.bY.map p.bc)
 | .fx _ _,v=>v.T3
 | .lg _,_=>()
 | .two _ v,a=>dA a v
def aG.bc:(ps:aG)→List AV→ps.T
 | .nil,_=>()
 | .cons p .nil,l=>p.bc (dm l)
 | .cons p (.cons q ps),l=>(p.bc (dm l),(aG.cons q ps).bc (Gh l))
end
def allFit (f:AV→Bool):List AV→Bool
 | []=>true
 | a :: l=>f a&&allFit f l
mutual
def aq.fits:aq→AV→Bool
 | .int k,v=>match v with
  | .int k' _=>Qg k k'
  | _=>false
 | .bool,v=>match v with
  | .bool _=>true
  | _=>false
 | .str,v=>match v with
  | .str _=>true
  | _=>false
 | .agg ps,v=>match v with
  | .agg cs=>ps.fits cs
  | _=>false
 | .bt ps,v=>match v with
  | .bt cs=>ps.fits cs
  | _=>false
 | .list sz p,v=>match v with
  | .list _ aT es=>(Nat.beq sz aT || es.isEmpty)&&allFit p.fits es
  | _=>false
 | .own id sz p,v=>match v with
  | .list (.own gb) aT es=>(Nat.beq id gb&&Nat.beq sz aT)&&allFit p.fits es
  | _=>false
 | .aH id sz p,v=>match v with
  | .list (.aH gb _) aT es=>(Nat.beq id gb&&Nat.beq sz aT)&&allFit p.fits es
  | _=>false
 | .fx id sz,v=>match v with
  | .fx gb _ aT _=>Nat.beq id gb&&Nat.beq sz aT
  | _=>false
 | .lg v,u=>dA u v
 | .two u v,a=>dA a u || dA a v
def aG.fits:aG→List AV→Bool
 | .nil,l=>l.isEmpty
 | .cons p ps,l=>match l with
  | a :: l=>p.fits a&&ps.fits l
  | []=>false
end
def aq.dec (p:aq) (v:AV):Option p.T:=bif p.fits v then some (p.bc v) else none
def aG.dec (ps:aG) (l:List AV):Option ps.T:=bif ps.fits l then some (ps.bc l) else none
structure Env where
 P:Program
 ti:TypeId→Option TI
 cG:Nat→Option (List AV)
 tW:FuncId→Tmp→Bool
 JB:TypeId→Option aq
 lo:Nat:=0
 Wl:FuncId→Tmp→List (Option Nat × Nat × TypeId):=fun _ _=>[]
 S4:TypeId→Option aq:=fun _=>none
 gx:Nat→Bool:=fun _=>false
 EG:∀ t i,ti t=some i→EF P t=some i
 mixed:P.follows .mixedOrders=true
 yK:∀ g cs,cG g=some cs→aJ cs=true
def ba (E:Env) (ab:aV):Operand→SV
 | .tmp t=>lk ab t
 | .const v=>match pj v with
  | some a=>.v a
  | none=>.none
 | .global g=>match E.cG g with
  | some cs=>.v (.ep cs)
  | none=>.none
 | .func f=>.v (.fn f [] [])
def St.put (s:St) (dst:Option Tmp) (x:SV):St:=match dst with
 | some d=>match Nat.blt d s.n with
  | true=>⟨.put d x :: s.ab,s.boxes,s.G,s.marks,s.ro,s.n⟩
  | false=>s
 | none=>s
def eN:AV:=.bt []
def pn (agg:Bool) (cs:List AV):Option AV:=
 if agg then some (.agg cs) else match cs with
  | [c]=>some c
  | _=>none
def lh (s:St):SV→Option (List AV × Nat)
 | .lp k off=>match cO s.boxes k with
  | some cs=>some (cs,off)
  | none=>none
 | .v (.ptr id off)=>match nth s.G id with
  | some (.row cs _)=>some (cs,off)
  | _=>none
 | .v (.ep cs)=>some (cs,0)
 | _=>none
def xu (n:Nat):SV→Option SV
 | .lp k off=>some (.lp k (off+n))
 | .v (.ptr id off)=>some (.v (.ptr id (off+n)))
 | .v (.ep cs)=>some (.v (.ep (ef n cs)))
 | .v (.gp id f i off sz t)=>some (.v (.gp id f i (off+n) sz t))
 | .v (.rp id j f i off sz t)=>some (.v (.rp id j f i (off+n) sz t))
 | _=>none
def yL (t:Bool):AV→AV→AV
 | .bool x,.bool y=>.bool (bif t then x else y)
 | .int k x,.int k' y=>if k=k' then .int k (bif t then x else y) else (bif t then .int k x else .int k' y)
 | a,b=>bif t then a else b
def DL (ag:Bool) (off sz:Nat) (cs:List AV):Option AV:=
 if ag then (match BX off sz cs with | some l=>pn true l | none=>none) else (match BX off 1 cs with | some l=>pn false l | none=>none)
mutual
def jT:EK→AV→AV→Option Bool
 | .bool,.bool a,.bool b=>some (a == b)
 | .int,.int k a,.int k' b=>if k=k' then some (a == b) else none
 | .str,.str a,.str b=>some (a == b)
 | .st fs,.agg xs,.agg ys=>qX fs xs ys
 | _,_,_=>none
def qX:MJ→List AV→List AV→Option Bool
 | .nil,_,_=>some true
 | .cons off sz ag k rest,xs,ys=>match DL ag off sz xs,DL ag off sz ys with
  | some a,some b=>match jT k a b,qX rest xs ys with
   | some t,some u=>some (t&&u)
   | _,_=>none
  | _,_=>none
end
def EH (k:IntKind) (a b:Int):Int:=k.wrap (BitVec.ofInt k.bits a &&& BitVec.ofInt k.bits b).toNat
def T5 (k:IntKind) (a b:Int):Int:=k.wrap (BitVec.ofInt k.bits a ||| BitVec.ofInt k.bits b).toNat
def EI (k:IntKind) (a b:Int):Int:=k.wrap (BitVec.ofInt k.bits a ^^^ BitVec.ofInt k.bits b).toNat
def Al (op:BinOp) (x y:AV):Option (Bool × AV):=
 match x,y with
 | .int k a,.int k' b=>
  match op with
  | .shl=>some (decide (0≤b),.int k (k.wrap (a * 2 ^ (min b.toNat k.bits))))
  | .shr=>some (decide (0≤b),.int k (a.fdiv (2 ^ (min b.toNat k.bits))))
  | _=>if k=k' then
    match op with
    | .add=>some (true,.int k (k.wrap (a+b)))
    | .sub=>some (true,.int k (k.wrap (a - b)))
    | .mul=>some (true,.int k (k.wrap (a * b)))
    | .quo=>some (!(decide (b=0)),.int k (k.wrap (a.tdiv b)))
    | .rem=>some (!(decide (b=0)),.int k (a.tmod b))
    | .and=>some (true,.int k (EH k a b))
    | .or=>some (true,.int k (T5 k a b))
    | .xor=>some (true,.int k (EI k a b))
    | .eql=>some (true,.bool (a == b))
    | .neq=>some (true,.bool (a != b))
    | .lss=>some (true,.bool (a < b))
    | .leq=>some (true,.bool (a≤b))
    | .gtr=>some (true,.bool (a > b))
    | .geq=>some (true,.bool (a≥b))
    | _=>none
   else none
 | .str a,.str b=>
  match op with
  | .add=>some (decide (a.length+b.length≤9223372036854775807),.str (a++b))
  | .eql=>some (true,.bool (a == b))
  | .neq=>some (true,.bool (!(a == b)))
  | .lss=>some (true,.bool (Op.bytesLess a b))
  | .leq=>some (true,.bool (Op.bytesLess a b || a == b))
  | .gtr=>some (true,.bool (!(Op.bytesLess a b || a == b)))
  | .geq=>some (true,.bool (!(Op.bytesLess a b)))
  | _=>none
 | _,_=>none
end Go.Am
namespace Go.Am
open Go
def St.kill (s:St) (d:Nat):St:=⟨.kill d :: s.ab,s.boxes,s.G,s.marks,s.ro,s.n⟩
def AV.aI:AV→Bool
 | .bt _=>false
 | _=>true
def St.cU (s:St) (o:GO):St:=⟨s.ab,s.boxes,s.G++[o],s.marks,s.ro,s.n⟩
def St.aZ (s:St) (G:List GO):St:=⟨s.ab,s.boxes,G,s.marks,s.ro,s.n⟩
def St.r7 (s:St) (d:Nat) (cs:List AV):St:=⟨s.ab,(d,cs) :: s.boxes,s.G,s.marks,s.ro,s.n⟩
def ej (E:Env) (f:FuncId) (s:St) (dst:Option Tmp) (el:TypeId) (cs:List AV):Option (Bool × St):=
 match dst with
 | none=>none
 | some d=>
  if E.tW f d then some (true,(s.cU (.row cs el)).put (some d) (.v (.ptr s.G.length 0)))
  else match Nat.blt d s.n with
   | true=>some (true,((s.kill d).r7 d cs).put (some d) (.lp d 0))
   | false=>none
def jU (E:Env) (ab:aV):List Operand→Option (List AV)
 | []=>some []
 | x :: l=>match ba E ab x,jU E ab l with
  | .v a,some r=>some (a :: r)
  | _,_=>none
def Jf (E:Env) (ab:aV):List (Nat × Operand)→Option (List (Nat × AV))
 | []=>some []
 | (i,x) :: l=>match ba E ab x,Jf E ab l with
  | .v a,some r=>some ((i,a) :: r)
  | _,_=>none
def placeOf:TK→Nat→Option (Nat × Nat)
 | .st fs,j=>match nth fs j with
  | some (o,sz,_)=>some (o,sz)
  | none=>none
 | .arr _ esz _,j=>some (j * esz,esz)
 | _,_=>none
def r8 (place:Nat→Option (Nat × Nat)) (cells:List AV):List (Nat × AV)→Option (List AV)
 | []=>some cells
 | (i,v) :: rest=>match place i with
  | none=>none
  | some (off,sz)=>
   if v.aI&&Nat.beq v.cells.length sz&&Nat.ble (off+sz) cells.length then r8 place (bu cells off v.cells) rest else none
def An (esz:Nat) (es:List AV):List (Nat × AV)→Option (List AV)
 | []=>some es
 | (i,v) :: rest=>
  if v.aI&&Nat.beq v.cells.length esz&&Nat.ble (i+1) es.length&&v.closed then An esz (au es i v) rest else none
def li (E:Env) (s:St) (t:TypeId) (parts:List (Nat × Operand)):Option AV:=
 match E.ti t,Jf E s.ab parts with
 | some i,some ps=>match i.zero with
  | some z=>match r8 (placeOf i.k) z.cells ps with
   | some cs=>if i.agg&&z.aI then some (.agg cs) else none
   | none=>none
  | none=>none
 | _,_=>none
def xw:List (Nat × AV)→List (Nat × AV)
 | []=>[]
 | (i,v) :: l=>(i,v.fB) :: xw l
def bR (E:Env) (s:St) (t:TypeId) (len:Nat) (parts:List (Nat × Operand)):Option AV:=
 match E.ti t,Jf E s.ab parts with
 | some i,some ps=>match i.k with
  | .sl _ esz _ _ (some z)=>
    if Nat.beq z.cells.length esz&&Nat.ble 1 esz&&Nat.ble (len * esz) 16777216&&z.aI&&z.closed then
     match An esz (List.replicate len z) (xw ps) with
     | some es=>some (.list .full esz es)
     | none=>none
    else none
  | _=>none
 | _,_=>none
def po (E:Env) (s:St) (t:TypeId) (p:SV):Option AV:=
 match E.ti t,lh s p with
 | some i,some (cs,off)=>match BX off i.size cs with
  | some l=>pn i.agg l
  | none=>none
 | _,_=>none
def fy (E:Env) (s:St) (t:TypeId) (p x:SV):Option St:=
 match E.ti t,x with
 | some i,.v v=>
  if v.aI&&Nat.beq v.cells.length i.size then
   match p with
   | .lp k off=>match cO s.boxes k with
    | some cs=>if Nat.ble (off+v.cells.length) cs.length then some (s.r7 k (bu cs off v.cells)) else none
    | none=>none
   | .v (.ptr id off)=>match nth s.G id with
    | some (.row cs el)=>if Nat.ble (off+v.cells.length) cs.length then some (s.aZ (au s.G id (.row (bu cs off v.cells) el))) else none
    | _=>none
   | _=>none
  else none
 | _,_=>none
def av (es:List AV) (n:Nat):AV:=match nth es n with
 | some e=>e
 | none=>eN
def gi:List GO→Nat→TypeId→Nat→Option Nat
 | [],_,_,_=>none
 | .aH _ sz e :: G,aT,e',i=>match gi G aT e' (i+1) with
  | some j=>some j
  | none=>bif Nat.beq sz aT&&Nat.beq e e' then some i else none
 | _ :: G,aT,e',i=>gi G aT e' (i+1)
def pq:List GO→Nat→TypeId→Nat→Option Nat
 | [],_,_,_=>none
 | .ga _ sz e :: G,aT,e',i=>match pq G aT e' (i+1) with
  | some j=>some j
  | none=>bif Nat.beq sz aT&&Nat.beq e e' then some i else none
 | _ :: G,aT,e',i=>pq G aT e' (i+1)
def aq.XY (p:aq) (sz:Nat) (_:TypeId):aq:=.list sz p
def aq.fin (G:List GO):aq→aq
 | .aH e sz p=>match pq G sz e 0 with
  | some id=>.fx id sz
  | none=>match gi G sz e 0 with
   | some id=>.aH id sz p
   | none=>p.XY sz e
 | .agg ps=>.agg (QH ps)
 | p=>p
where
 QH:aG→aG
  | .nil=>.nil
  | .cons p ps=>.cons (match p with
   | .aH e sz q=>match gi G sz e 0 with
    | some id=>.aH id sz q
    | none=>.aH e sz q
   | p=>p) (QH ps)
def Gi (E:Env) (G:List GO) (t:TypeId):Option aq:=match E.S4 t with
 | some p=>some (p.fin G)
 | none=>E.JB t
def tX (E:Env) (s:St) (id f i sz:Nat) (t:TypeId):Option (Bool × AV):=match nth s.G id with
 | some (.cP es aT _)=>match Gi E s.G t with
  | some p=>if Nat.beq sz aT then some (decide (f=es.length)&&decide (i < es.length)&&p.fits (av es i),p.enc (p.bc (av es i))) else none
  | none=>if Nat.beq sz aT then some (decide (f=es.length)&&decide (i < es.length),av es i) else none
 | _=>none
def rowOf (rows:List (List AV)) (j:Nat):List AV:=match nth rows j with
 | some r=>r
 | none=>[]
def tY (E:Env) (s:St) (id j f i sz:Nat) (t:TypeId):Option (Bool × AV):=match nth s.G id with
 | some (.ga rows aT _)=>match Gi E s.G t with
  | some p=>if Nat.beq sz aT then some (decide (f=(rowOf rows j).length)&&decide (i < (rowOf rows j).length)&&p.fits (av (rowOf rows j) i),p.enc (p.bc (av (rowOf rows j) i))) else none
  | none=>if Nat.beq sz aT then some (decide (f=(rowOf rows j).length)&&decide (i < (rowOf rows j).length),av (rowOf rows j) i) else none
 | _=>none
def xx (E:Env) (s:St) (t:TypeId) (p:SV):Option (Bool × AV):=match p with
 | .v (.gp id f i off sz ty)=>match E.ti t,tX E s id f i sz ty with
  | some ti,some (c,v)=>match BX off ti.size v.cells with
   | some l=>match pn ti.agg l with
    | some r=>some (c,r)
    | none=>none
   | none=>none
  | _,_=>none
 | .v (.rp id j f i off sz ty)=>match E.ti t,tY E s id j f i sz ty with
  | some ti,some (c,v)=>match BX off ti.size v.cells with
   | some l=>match pn ti.agg l with
    | some r=>some (c,r)
    | none=>none
   | none=>none
  | _,_=>none
 | p=>match po E s t p with
  | some v=>some (true,v)
  | none=>none
def dU (E:Env) (s:St) (t:TypeId) (p x:SV):Option (Bool × St):=match p with
 | .v (.gp id f i off sz ty)=>match E.ti t,x,nth s.G id with
  | some ti,.v x,some (.cP es aT el)=>
   if x.aI&&Nat.beq x.cells.length ti.size&&Nat.beq sz aT then
    if Nat.beq off 0&&Nat.beq ti.size sz then some (decide (f=es.length)&&decide (i < es.length),s.aZ (au s.G id (.cP (au es i x) aT el)))
    else match tX E s id f i sz ty with
     | some (c,.agg cs)=>if Nat.ble (off+ti.size) cs.length&&Nat.beq cs.length sz then some (c,s.aZ (au s.G id (.cP (au es i (.agg (bu cs off x.cells))) aT el))) else none
     | _=>none
   else none
  | _,_,_=>none
 | .v (.rp id j f i off sz ty)=>match E.ti t,x,nth s.G id with
  | some ti,.v x,some (.ga rows aT el)=>
   if x.aI&&Nat.beq x.cells.length ti.size&&Nat.beq sz aT then
    if Nat.beq off 0&&Nat.beq ti.size sz then some (decide (f=(rowOf rows j).length)&&decide (i < (rowOf rows j).length)&&x.closed,s.aZ (au s.G id (.ga (au rows j (au (rowOf rows j) i x)) aT el)))
    else match tY E s id j f i sz ty with
     | some (c,.agg cs)=>if Nat.ble (off+ti.size) cs.length&&Nat.beq cs.length sz then some (c&&(AV.agg (bu cs off x.cells)).closed,s.aZ (au s.G id (.ga (au rows j (au (rowOf rows j) i (.agg (bu cs off x.cells)))) aT el))) else none
     | _=>none
   else none
  | _,_,_=>none
 | p=>match fy E s t p x with
  | some s'=>some (true,s')
  | none=>none
def ox (s:St) (p x:SV):Bool × SV × List GO:=match p,x with
 | .v (.gp _ _ _ 0 1 _),.v (.cL id f 0 sz len)=>match nth s.G id with
  | some (.cP es aT _)=>(decide (f=es.length)&&decide (len=es.length)&&Nat.beq sz aT&&aJ es,.v (.list .gA sz es),au s.G id .dead)
  | _=>(true,x,s.G)
 | _,_=>(true,x,s.G)
def iz (E:Env) (s:St) (t:TypeId) (p x:SV):Option (Bool × St):=match dU E (s.aZ (ox s p x).2.2) t p (ox s p x).2.1 with
 | some (c,s')=>some ((ox s p x).1&&c,s')
 | none=>none
def jj (E:Env) (t:TypeId) (x ix:SV):Option (Bool × SV):=
 match E.ti t,ix with
 | some i,.v (.int _ n)=>match i.k,x with
  | .sl _ esz _ _ _,.v (.list _ sz es)=>if Nat.beq sz esz || es.isEmpty then
    match E.JB t with
    | some p=>some (decide (0≤n∧n < es.length)&&p.fits (av es n.toNat),.v (.ep (p.enc (p.bc (av es n.toNat))).cells))
    | none=>some (decide (0≤n∧n < es.length),.v (.ep (av es n.toNat).cells))
   else none
  | .sl _ esz _ _ _,.v (.gC id off sz len _)=>if Nat.beq sz esz then some (decide (0≤n∧n < len),.v (.ptr id (off+n.toNat * sz))) else none
  | .sl _ esz _ _ _,.v (.cL id f off sz len)=>if Nat.beq sz esz then some (decide (0≤n∧n < len),.v (.gp id f (off+n.toNat) 0 sz t)) else none
  | .sl _ esz _ _ _,.v (.fx id j sz len)=>if Nat.beq sz esz then some (decide (0≤n∧n < len),.v (.rp id j len n.toNat 0 sz t)) else none
  | .arr len esz _,.v (.ep cs)=>match E.JB t with
   | some p=>if Nat.beq esz 1&&Nat.ble len cs.length then some (decide (0≤n∧n < len)&&p.fits (av cs n.toNat),.v (.ep [p.enc (p.bc (av cs n.toNat))])) else none
   | none=>some (decide (0≤n∧n < len),.v (.ep (ef (n.toNat * esz) cs)))
  | .arr len esz _,p=>match xu (n.toNat * esz) p with
   | some q=>some (decide (0≤n∧n < len),q)
   | none=>none
  | _,_=>none
 | _,_=>none
def jk (E:Env) (t:TypeId) (x:SV) (j:Nat):Option SV:=
 match E.ti t with
 | some i=>match i.k with
  | .st fs=>match nth fs j with
   | some (o,sz,_)=>if Nat.ble 1 sz then xu o x else none
   | none=>none
  | _=>none
 | none=>none
def BZ (E:Env) (t:TypeId) (x:SV) (j:Nat):Option AV:=
 match E.ti t,x with
 | some i,.v (.agg cs)=>match i.k with
  | .st fs=>match nth fs j with
   | some (o,sz,ag)=>if ag then (match BX o sz cs with | some l=>pn true l | none=>none) else (match BX o 1 cs with | some l=>pn false l | none=>none)
   | none=>none
  | _=>none
 | _,_=>none
def B0 (E:Env) (t:TypeId) (x ix:SV):Option (Bool × AV):=
 match E.ti t,x,ix with
 | some i,.v (.str l),.v (.int _ n)=>match i.k with
  | .str=>some (decide (0≤n∧n < l.length),.int .u8 (l.getD n.toNat 0).toNat)
  | _=>none
 | some i,.v (.agg cs),.v (.int _ n)=>match i.k with
  | .arr len esz ag=>match (if ag then (match BX (n.toNat * esz) esz cs with | some l=>pn true l | none=>none) else (match BX (n.toNat * esz) 1 cs with | some l=>pn false l | none=>none)) with
   | some v=>some (decide (0≤n∧n < len),v)
   | none=>none
  | _=>none
 | _,_,_=>none
def tZ (y:Nat):SV→Option (Bool × Nat)
 | .v (.int _ n)=>some (decide (0≤n∧n≤y),n.toNat)
 | _=>none
def iA {α:Type} (lo hi:Nat) (l:List α):List α:=(l.take hi).drop lo
def jN (E:Env) (ab:aV):Option Operand→Option (Option SV)
 | none=>some none
 | some x=>some (some (ba E ab x))
def yM (len:Nat) (lo hi:Option SV):Option (Bool × Nat × Nat):=
 match (match hi with | none=>some (true,len) | some h=>tZ len h) with
 | none=>none
 | some (c1,h)=>match (match lo with | none=>some (true,0) | some l=>tZ h l) with
  | none=>none
  | some (c2,l)=>some (c1&&c2,l,h)
def QI (agg:Bool) (l:List AV):AV:=match agg with
 | true=>.agg l
 | false=>dm l
def fM (agg:Bool) (sz:Nat):Nat→List AV→List AV
 | 0,_=>[]
 | n+1,cs=>QI agg (cs.take sz) :: fM agg sz n (cs.drop sz)
def B1 (ag:Bool) (e:AV):Bool:=e.aI&&(ag || e.one)&&e.closed
def yN (E:Env) (t:TypeId) (x:SV) (lo hi:Option SV) (mx:Option Operand):Option (Bool × AV):=
 match E.ti t,mx with
 | some i,none=>match i.k,x with
  | .str,.v (.str l)=>match yM l.length lo hi with
   | some (c,a,b)=>some (c,.str (iA a b l))
   | none=>none
  | .sl _ esz _ _ _,.v (.list k sz es)=>
   if Nat.beq sz esz || es.isEmpty then
    match yM es.length lo hi with
    | some (c,a,b)=>some (c,.list (match k with | .nil=>.nil | .full=>(match hi with | none=>.full | some _=>.gA) | _=>.gA) esz (iA a b es))
    | none=>none
   else none
  | .sl _ esz _ _ _,.v (.gC id off sz len cap)=>
   if Nat.beq sz esz then
    match yM len lo hi with
    | some (c,a,b)=>some (c,.gC id (bif Nat.beq cap a then off else off+a * sz) sz (b - a) (cap - a))
    | none=>none
   else none
  | .sl _ esz _ _ _,.v (.cL id f off sz len)=>
   if Nat.beq sz esz then
    match yM len lo hi with
    | some (c,a,b)=>some (c,.cL id f (off+a) sz (b - a))
    | none=>none
   else none
  | .arr len esz ag,.v (.ep cs)=>match lo,hi with
   | none,none=>if Nat.ble (len * esz) cs.length&&Nat.ble 1 esz&&(ag || Nat.beq esz 1)&&allFit (B1 ag) (fM ag esz len cs) then some (true,.list .full esz (fM ag esz len cs)) else none
   | _,_=>none
  | _,_=>none
 | _,_=>none
def Gj (G:List GO) (id n:Nat) (f sz:Nat) (e:TypeId):List GO:=au G id (.tok (f+n) sz e)
def EJ (fs:List Nat) (j n:Nat):List Nat:=bif Nat.beq j fs.length then fs++[n] else au fs j n
def JC (fs:List Nat) (j n:Nat):Bool:=decide (nth fs j=some n) || (Nat.beq j fs.length&&Nat.beq n 0)
def dx (G:List GO) (elem esz aU:Nat) (x:AV) (ys:List AV):Option (Bool × AV × List GO):=
 match x,ys with
 | .list k sz es,[]=>match k with
  | .nil=>some (true,.list .nil sz es,G)
  | k=>some (true,.list k sz es,G)
 | .list k sz es,y :: ys=>
  match k with
  | .nil=>some (decide ((es.length+(y :: ys).length) * aU≤140737488355328),.list (.own G.length) esz (es++(y :: ys)),G++[.tok (es.length+(y :: ys).length) esz elem])
  | .full=>if Nat.beq sz esz then some (decide ((es.length+(y :: ys).length) * aU≤140737488355328),.list (.own G.length) esz (es++(y :: ys)),G++[.tok (es.length+(y :: ys).length) esz elem]) else none
  | .own id=>match nth G id with
   | some (.tok f aT e')=>if Nat.beq aT esz&&Nat.beq e' elem&&Nat.beq sz esz then
     some (decide (f=es.length)&&decide ((es.length+(y :: ys).length) * aU≤140737488355328),.list (.own id) esz (es++(y :: ys)),Gj G id (y :: ys).length f esz elem) else none
   | _=>none
  | .aH id j=>match nth G id with
   | some (.aH fs aT e')=>if Nat.beq aT esz&&Nat.beq e' elem&&Nat.beq sz esz then
     some (JC fs j es.length&&decide ((es.length+(y :: ys).length) * aU≤140737488355328),.list (.aH id j) esz (es++(y :: ys)),au G id (.aH (EJ fs j (es.length+(y :: ys).length)) esz elem)) else none
   | _=>none
  | .gA=>none
 | .cL id f off sz len,[]=>some (true,.cL id f off sz len,G)
 | .cL id f off sz len,y :: ys=>match nth G id with
  | some (.cP es aT e')=>if Nat.beq aT esz&&Nat.beq e' elem&&Nat.beq sz esz then
    some (decide (f=es.length)&&decide (off=0)&&decide (len=f)&&decide ((es.length+(y :: ys).length) * aU≤140737488355328),.cL id (es.length+(y :: ys).length) 0 esz (es.length+(y :: ys).length),au G id (.cP (es++(y :: ys)) esz elem)) else none
  | _=>none
 | .fx id j sz len,[]=>some (true,.fx id j sz len,G)
 | .fx id j sz len,y :: ys=>match nth G id with
  | some (.ga rows aT e')=>if Nat.beq aT esz&&Nat.beq e' elem&&Nat.beq sz esz then
    some (decide (j < rows.length)&&decide (len=(rowOf rows j).length)&&decide (((rowOf rows j).length+(y :: ys).length) * aU≤140737488355328),.fx id j esz (len+(y :: ys).length),au G id (.ga (au rows j (rowOf rows j++(y :: ys))) esz elem)) else none
  | _=>none
 | _,_=>none
def pt (b:UInt8):AV:=.int .u8 b.toNat
def oz (es:List AV):List UInt8:=es.map fun a=>UInt8.ofNat a.ow.toNat
def ua (es:List AV):List UInt8:=es.flatMap fun a=>(Utf8.encode a.ow).data.toList
def EL:AV→List AV→Option AV
 | x,[]=>some x
 | .int k x,.int k' y :: l=>if k=k' then EL (.int k (if y > x then y else x)) l else none
 | _,_=>none
def B2:AV→List AV→Option AV
 | x,[]=>some x
 | .int k x,.int k' y :: l=>if k=k' then B2 (.int k (if y < x then y else x)) l else none
 | .str x,.str y :: l=>B2 (.str (bif Op.bytesLess x y || x == y then x else y)) l
 | _,_=>none
def ar:List AV→List AV
 | []=>[]
 | e :: es=>e.cells++ar es
def pu (s:St) (esz:Nat) (d x:AV):Option (Nat × List GO):=
 match d with
 | .gC id off sz len _=>match nth s.G id with
  | some (.row cs el)=>
   if Nat.beq sz esz then
    match x with
    | .list _ aT es=>if Nat.beq aT esz || es.isEmpty then
      let n:=Nat.min es.length len
      let l:=ar (es.take n)
      if Nat.ble (off+l.length) cs.length then some (n,au s.G id (.row (bu cs off l) el)) else none
     else none
    | .str bs=>
      if Nat.beq esz 1&&Nat.ble (off+(bs.take (Nat.min bs.length len)).length) cs.length then some (Nat.min bs.length len,au s.G id (.row (bu cs off ((bs.take (Nat.min bs.length len)).map pt)) el)) else none
    | .gC gb eI aT B3 _=>match nth s.G gb with
     | some (.row dB _)=>
      let n:=Nat.min B3 len
      match BX eI (n * esz) dB with
      | some l=>if Nat.beq aT esz&&Nat.ble (off+l.length) cs.length then some (n,au s.G id (.row (bu cs off l) el)) else none
      | none=>none
     | _=>none
    | _=>none
   else none
  | _=>none
 | .cL id f off sz len=>match nth s.G id,x with
  | some (.cP es aT el),.list _ Ua xs=>if Nat.beq sz esz&&Nat.beq aT sz&&(Nat.beq Ua esz || xs.isEmpty)&&Nat.ble f es.length&&Nat.ble es.length f&&Nat.ble (off+Nat.min xs.length len) es.length then
    some (Nat.min xs.length len,au s.G id (.cP (bu es off (xs.take (Nat.min xs.length len))) aT el)) else none
  | _,_=>none
 | _=>none
def bJ (E:Env) (s:St) (dst:Option Tmp) (b:Builtin) (args:List AV) (tys:List TypeId):Option (Bool × St):=
 match b,args with
 | .len,[x]=>match tys with
  | t :: _=>match E.ti t with
   | some i=>match i.k,x with
    | .str,.str l=>some (true,s.put dst (.v (.int .i64 l.length)))
    | .sl ..,.list _ _ es=>some (true,s.put dst (.v (.int .i64 es.length)))
    | .sl ..,.gC _ _ _ len _=>some (true,s.put dst (.v (.int .i64 len)))
    | .sl ..,.cL _ _ _ _ len=>some (true,s.put dst (.v (.int .i64 len)))
    | .sl ..,.fx _ _ _ len=>some (true,s.put dst (.v (.int .i64 len)))
    | .arr n _ _,_=>some (true,s.put dst (.v (.int .i64 n)))
    | .map ..,.ke=>some (true,s.put dst (.v (.int .i64 0)))
    | .map ..,.map id=>match nth s.G id with
     | some (.map es)=>some (true,s.put dst (.v (.int .i64 es.length)))
     | _=>none
    | _,_=>none
   | none=>none
  | _=>none
 | .append,[x,.list _ sz ys]=>match tys with
  | [t,u]=>match E.ti t with
   | some i=>match i.k with
    | .sl elem esz _ aU (some z)=>
     if (Nat.beq sz esz || ys.isEmpty)&&Nat.beq t u&&Nat.ble 1 esz&&Nat.ble 1 aU&&Nat.beq z.cells.length esz&&z.aI then
      match dx s.G elem esz aU x ys with
      | some (c,v,G')=>some (c,(s.aZ G').put dst (.v v))
      | none=>none
     else none
    | _=>none
   | none=>none
  | _=>none
 | .append,[x,.str bs]=>match tys with
  | [t,u]=>match E.ti t,E.ti u with
   | some i,some j=>match i.k,j.k with
    | .sl elem esz _ aU (some z),.str=>
     if Nat.beq esz 1&&Nat.ble 1 aU&&Nat.beq z.cells.length esz&&z.aI then
      match dx s.G elem esz aU x (bs.map pt) with
      | some (c,v,G')=>some (c,(s.aZ G').put dst (.v v))
      | none=>none
     else none
    | _,_=>none
   | _,_=>none
  | _=>none
 | .append,[.cL id f off sz len,.gC Qh 0 1 1 _]=>match nth s.G Qh,tys with
  | some (.row [.fx y1 y2 y3 y4] _),[t,u]=>match E.ti t with
   | some i=>match i.k with
    | .sl elem esz _ aU (some z)=>
     if Nat.beq esz 1&&Nat.beq t u&&Nat.ble 1 aU&&Nat.beq z.cells.length esz&&z.aI then
      match dx s.G elem esz aU (.cL id f off sz len) [.fx y1 y2 y3 y4] with
      | some (c,v,G')=>some (c,(s.aZ G').put dst (.v v))
      | none=>none
     else none
    | _=>none
   | none=>none
  | _,_=>none
 | .append,[x,.cL id f 0 sz len]=>match nth s.G id,tys with
  | some (.cP ys aT _),[t,u]=>match E.ti t with
   | some i=>match i.k with
    | .sl elem esz _ aU (some z)=>
     if Nat.beq sz aT&&Nat.beq sz esz&&Nat.beq f ys.length&&Nat.beq len ys.length&&aJ ys&&Nat.beq t u&&Nat.ble 1 esz&&Nat.ble 1 aU&&Nat.beq z.cells.length esz&&z.aI then
      match dx s.G elem esz aU x ys with
      | some (c,v,G')=>some (c,(s.aZ G').put dst (.v v))
      | none=>none
     else none
    | _=>none
   | none=>none
  | _,_=>none
 | .copy,[d,x]=>match tys with
  | t :: _=>match E.ti t with
   | some i=>match i.k with
    | .sl _ esz _ _ _=>match pu s esz d x with
     | some (n,G')=>some (true,(s.aZ G').put dst (.v (.int .i64 n)))
     | none=>none
    | _=>none
   | none=>none
  | _=>none
 | .clear,[x]=>match dst,tys,x with
  | none,[t],.cL id f off sz len=>match E.ti t,nth s.G id with
   | some i,some (.cP es aT el)=>match i.k with
    | .sl elem esz _ _ (some z)=>if Nat.beq sz esz&&Nat.beq aT sz&&Nat.beq el elem&&Nat.beq z.cells.length esz&&z.aI&&z.closed then
      some (decide (f=es.length)&&decide (off+len≤es.length),s.aZ (au s.G id (.cP (bu es off (List.replicate len z)) aT el))) else none
    | _=>none
   | _,_=>none
  | _,_,_=>none
 | .max,x :: l=>match EL x l with
  | some v=>some (true,s.put dst (.v v))
  | none=>none
 | .min,x :: l=>match B2 x l with
  | some v=>some (true,s.put dst (.v v))
  | none=>none
 | _,_=>none
def EK.plain:EK→Bool
 | .bool | .int | .str=>true
 | .st _=>true
 | _=>false
def EK.wide:EK→Bool
 | .st _=>true
 | _=>false
def tz:AV→Bool
 | .bool _=>true
 | .int _ _=>true
 | .str _=>true
 | _=>false
def pw:AV→AV→Bool
 | .bool a,.bool b=>a == b
 | .int k a,.int l b=>decide (k=l)&&a == b
 | .str a,.str b=>a == b
 | _,_=>false
def mi:List AV→List AV→Bool
 | [],[]=>true
 | a :: l,b :: r=>pw a b&&mi l r
 | _,_=>false
def lj:AV→AV→Bool
 | .agg xs,.agg ys=>mi xs ys
 | _,_=>false
def DM (e:EK) (a b:AV):Option Bool:=match jT e a b with
 | some true=>bif e.wide&&!lj a b then none else some true
 | r=>r
def gD (e:EK) (k:AV):List (AV × AV)→Option (Option AV)
 | []=>some none
 | (k',v) :: l=>match DM e k k' with
  | some true=>some (some v)
  | some false=>gD e k l
  | none=>none
def qY (e:EK) (k v:AV):List (AV × AV)→Option (List (AV × AV))
 | []=>some [(k,v)]
 | (k',v') :: l=>match DM e k k' with
  | some true=>some ((k,v) :: l)
  | some false=>match qY e k v l with
   | some r=>some ((k',v') :: r)
   | none=>none
  | none=>none
def gj:EK→AV→Bool
 | .bool,.bool _=>true
 | .int,.int _ _=>true
 | .str,.str _=>true
 | .st fs,.agg cs=>cs.all tz&&(qX fs cs cs).isSome
 | _,_=>false
def mapOf (s:St):SV→Option (List (AV × AV))
 | .v .ke=>some []
 | .v (.map id)=>match nth s.G id with
  | some (.map es)=>some es
  | _=>none
 | _=>none
def gk (G:List GO) (id:Nat):List Nat:=match nth G id with
 | some (.aH fs _ _)=>fs
 | _=>[]
def Ao (E:Env) (G:List GO) (t:TypeId) (z:AV):AV:=match E.S4 t,z with
 | some (.aH e sz _),.list .nil _ []=>match gi G sz e 0 with
  | some id=>.list (.aH id (gk G id).length) sz []
  | none=>z
 | _,_=>z
def gX (E:Env) (s:St) (t:TypeId) (m k:SV):Option (AV × Bool):=match E.ti t,mapOf s m,k with
 | some i,some es,.v k=>match i.k with
  | .map kt _ (some z)=>match E.ti kt with
   | some j=>if j.ek.plain&&gj j.ek k then match gD j.ek k es with
     | some (some v)=>some (v,true)
     | some none=>some (z,false)
     | none=>none
    else none
   | none=>none
  | _=>none
 | _,_,_=>none
def jV (E:Env) (s:St) (t:TypeId) (m k:SV):Option (AV × Bool):=match gX E s t m k with
 | some (v,false)=>some (Ao E s.G t v,false)
 | r=>r
def eo (E:Env) (s:St) (t:TypeId) (m k x:SV):Option St:=match E.ti t,m,k,x with
 | some i,.v (.map id),.v k,.v x=>match i.k,nth s.G id with
  | .map kt _ _,some (.map es)=>match E.ti kt with
   | some j=>if j.ek.plain&&gj j.ek k then match qY j.ek k x es with
     | some es'=>some (s.aZ (au s.G id (.map es')))
     | none=>none
    else none
   | none=>none
  | _,_=>none
 | _,_,_,_=>none
def bA (l:List UInt8) (pos:Nat):Nat × Nat:=
 bif Nat.blt (l.getD pos 0).toNat 128 then ((l.getD pos 0).toNat,1) else Utf8.decode ⟨⟨l⟩⟩ pos
def jW (s:St) (dst:Option Tmp) (x:SV):Option St:=match x with
 | .v (.ptr id 0)=>match nth s.G id with
  | some (.fu l pos)=>bif Nat.blt pos l.length then
    match bA l pos with
    | (c,n)=>some ((s.aZ (au s.G id (.fu l (pos+n)))).put dst (.v (.bt [.bool true,.int .i64 pos,.int .i32 c])))
   else some (s.put dst (.v (.bt [.bool false])))
  | _=>none
 | _=>none
def wO (es:List (AV × AV)) (i:Nat):AV × AV:=match nth es i with
 | some e=>e
 | none=>(eN,eN)
def MM (E:Env) (kt:TypeId):Option aq:=match E.JB kt with
 | some p=>some p
 | none=>match E.ti kt with
  | some i=>match i.k with
   | .int k=>some (.int k)
   | .str=>some .str
   | _=>none
  | none=>none
def px (E:Env) (t:TypeId) (e:AV × AV):Bool × AV × AV:=match E.ti t with
 | some i=>match i.k with
  | .map kt _ _=>match E.JB t,MM E kt with
   | some pv,some pk=>(pk.fits e.1&&pv.fits e.2,pk.enc (pk.bc e.1),pv.enc (pv.bc e.2))
   | _,_=>(true,e.1,e.2)
  | _=>(true,e.1,e.2)
 | none=>(true,e.1,e.2)
def xy (E:Env) (s:St) (dst:Option Tmp) (x:SV):Option (Bool × St × List Nat × (Nat→Bool × St)):=match x with
 | .v (.ptr id 0)=>match nth s.G id with
  | some (.mg eW n left _ t)=>match nth s.G eW with
   | some (.map es)=>some (decide (es.length=n),s.put dst (.v (.bt [.bool false])),left,
     fun i=>((px E t (wO es i)).1,(s.aZ (au s.G id (.mg eW n (left.erase i) (some i) t))).put dst (.v (.bt [.bool true,(px E t (wO es i)).2.1,(px E t (wO es i)).2.2]))))
   | _=>none
  | _=>none
 | _=>none
def qZ (E:Env) (s:St) (o:Oper):Option (Bool × St × List Nat × (Nat→Bool × St)):=match o.op with
 | .next x false=>xy E s o.dst (ba E s.ab x)
 | _=>none
def JD:AV→Option Bool
 | .list .nil _ _=>some true
 | .list .full _ _=>some false
 | .list _ _ (_ :: _)=>some false
 | .gC _ _ _ _ _=>some false
 | .cL _ _ _ _ (_+1)=>some false
 | .gW=>some true
 | .ptr _ _=>some false
 | .ep _=>some false
 | _=>none
def B4:AV→Option Bool
 | .list .nil _ []=>some true
 | .gW=>some false
 | _=>none
def MN (P:Program) (t:TypeId):Bool:=match P.underlying t with
 | some (.slice _)=>true
 | _=>false
def MO (P:Program) (t:TypeId):Bool:=match P.underlying t with
 | some (.pointer _)=>true
 | _=>false
def S5:AV→Bool
 | .list _ _ _=>true
 | .gC _ _ _ _ _=>true
 | .cL _ _ _ _ _=>true
 | _=>false
def sa (P:Program) (t:TypeId) (a b:AV):Bool:=match B4 b with
 | some true=>S5 a&&MN P t
 | some false=>!S5 a&&MO P t
 | none=>false
def MP (E:Env) (op:BinOp) (t:TypeId) (a b:AV):Option Bool:=match op,JD a with
 | .eql,some r=>bif sa E.P t a b then some r else none
 | .neq,some r=>bif sa E.P t a b then some (!r) else none
 | _,_=>none
def Ub (E:Env) (op:BinOp) (t:TypeId) (a b:AV):Option Bool:=match op,E.ti t with
 | .eql,some i=>jT i.ek a b
 | .neq,some i=>match jT i.ek a b with
  | some r=>some (!r)
  | none=>none
 | _,_=>none
def iU (E:Env) (s:St) (t:TypeId) (len:Nat) (parts:List (Nat × Operand)):Option (List AV):=
 match E.ti t,Jf E s.ab parts with
 | some i,some ps=>match i.k with
  | .sl _ esz _ _ (some z)=>
    if Nat.beq z.cells.length esz&&Nat.ble 1 esz&&Nat.ble (len * esz) 16777216&&z.aI then
     r8 (fun i=>some (i * esz,esz)) (ar (List.replicate len z)) (xw ps)
    else none
  | _=>none
 | _,_=>none
def gY (E:Env) (f:FuncId) (s:St) (o:Oper):Option St:=match o.op with
 | .buildSlice t len parts=>match o.dst with
  | some d=>if E.tW f d then match E.ti t with
    | some i=>match i.k,bR E s t len parts.toList with
     | .sl elem _ _ _ _,some (.list _ esz es)=>some ((s.cU (.row (ar es) elem)).put (some d) (.v (.gC s.G.length 0 esz len len)))
     | .sl elem esz _ _ _,none=>match iU E s t len parts.toList with
      | some cs=>some ((s.cU (.row cs elem)).put (some d) (.v (.gC s.G.length 0 esz len len)))
      | none=>none
     | _,_=>none
    | none=>none
   else if E.tW f (d+196608) then match E.ti t with
    | some i=>match i.k,bR E s t len parts.toList with
     | .sl elem _ _ _ _,some (.list _ esz es)=>if Nat.ble len 65536 then some ((s.cU (.cP es esz elem)).put (some d) (.v (.cL s.G.length len 0 esz len))) else none
     | _,_=>none
    | none=>none
   else if E.tW f (d+65536) then match E.ti t with
    | some i=>match i.k,bR E s t len parts.toList with
     | .sl elem _ _ _ _,some (.list _ esz es)=>if Nat.ble len 65536 then some ((s.cU (.tok len esz elem)).put (some d) (.v (.list (.own s.G.length) esz es))) else none
     | _,_=>none
    | none=>none
   else none
  | none=>none
 | _=>none
def xz (wk:Bool) (es:List AV):List AV:=match wk with
 | true=>es.map AV.fB
 | false=>es
def kC (wk:Bool):List AV→List GO→Bool × List AV × List GO
 | [],G=>(true,[],G)
 | .cL id f 0 sz len :: l,G=>match nth G id with
  | some (.cP es aT _)=>match kC wk l (au G id .dead) with
   | (c,r,G')=>(decide (f=es.length)&&decide (len=es.length)&&Nat.beq sz aT&&aJ (xz wk es)&&c,.list .gA sz (xz wk es) :: r,G')
  | _=>match kC wk l G with
   | (_,r,G')=>(false,r,G')
 | a :: l,G=>match kC wk l G with
  | (c,r,G')=>(c,a :: r,G')
def lm (cut wk:Bool) (s:St) (t:Tmp):Option (Bool × St):=match lk s.ab t with
 | .v (.cL id f off sz len)=>match nth s.G id with
  | some (.cP es aT _)=>if Nat.beq off 0&&Nat.beq sz aT then
    some (decide (f=es.length)&&(bif cut then decide (len≤es.length) else decide (len=es.length))&&aJ (xz wk es),⟨.put t (.v (.list .gA sz (xz wk (bif cut then es.take len else es)))) :: s.ab,s.boxes,au s.G id .dead,s.marks,s.ro,s.n⟩) else none
  | _=>none
 | .v (.ptr id 0)=>match nth s.G id with
  | some (.row cs _)=>some (aJ cs,⟨.put t (.v (.ep cs)) :: s.ab,s.boxes,au s.G id .dead,s.marks,s.ro,s.n⟩)
  | _=>none
 | .v (.agg cs)=>match kC wk cs s.G with
  | (c,dB,G')=>some (c,⟨.put t (.v (.agg dB)) :: s.ab,s.boxes,G',s.marks,s.ro,s.n⟩)
 | _=>none
def fJ (cut wk:Bool):List Operand→St→Bool × St
 | [],s=>(true,s)
 | .tmp t :: l,s=>match lm cut wk s t with
  | some (c,s')=>match fJ cut wk l s' with
   | (c',s2)=>(c&&c',s2)
  | none=>fJ cut wk l s
 | _ :: l,s=>fJ cut wk l s
def EM (E:Env) (f:FuncId) (s:St) (o:Oper):Option (Bool × St):=match o.dst with
 | some d=>if E.tW f (d+262144) then some (fJ (E.tW f (d+393216)) (E.tW f (d+458752)) o.op.operands.toList s) else none
 | none=>none
def kD (E:Env) (s:St) (a b:TypeId) (x:SV):Option (Bool × AV):=
 match E.ti a,E.ti b,x with
 | some i,some j,.v x=>match j.k,x with
  | .int k,.int _ n=>some (true,.int k (k.wrap n))
  | .str,.list _ sz es=>match i.k with
   | .sl elem 1 _ _ _=>match E.ti elem with
    | some e=>match e.k with
     | .int .u8=>some ((Nat.beq sz 1 || es.isEmpty)&&allFit (aq.fits (.int .u8)) es,.str (oz es))
     | .int .i32=>some ((Nat.beq sz 1 || es.isEmpty)&&allFit (aq.fits (.int .i32)) es,.str (ua es))
     | _=>none
    | none=>none
   | _=>none
  | .str,.gC id off 1 len _=>match i.k,nth s.G id with
   | .sl elem 1 _ _ _,some (.row cs _)=>match E.ti elem with
    | some e=>match e.k with
     | .int .u8=>some (Nat.ble (off+len) cs.length&&allFit (aq.fits (.int .u8)) (iA off (off+len) cs),.str (oz (iA off (off+len) cs)))
     | _=>none
    | none=>none
   | _,_=>none
  | _,_=>none
 | _,_,_=>none
def EN (id sz:Nat):List AV→List Nat→Option (List AV × List Nat)
 | [],fs=>some ([],fs)
 | .list .nil _ [] :: l,fs=>match EN id sz l (fs++[0]) with
  | some (r,yO)=>some (.list (.aH id fs.length) sz [] :: r,yO)
  | none=>none
 | .list .full aT es :: l,fs=>if Nat.beq sz aT then match EN id sz l (fs++[es.length]) with
   | some (r,yO)=>some (.list (.aH id fs.length) sz es :: r,yO)
   | none=>none
  else none
 | _ :: _,_=>none
def wK (e:EK) (k k':AV):Bool:=match DM e k k' with
 | some b=>b
 | none=>false
def dc (e:EK) (k:AV):List (AV × AV)→Bool
 | []=>true
 | (k',_) :: l=>(DM e k k').isSome&&dc e k l
def eB (e:EK) (k:AV):List (AV × AV)→Option AV
 | []=>none
 | (k',v) :: l=>bif wK e k k' then some v else eB e k l
def bz (e:EK) (k v:AV):List (AV × AV)→List (AV × AV)
 | []=>[(k,v)]
 | (k',v') :: l=>bif wK e k k' then (k,v) :: l else (k',v') :: bz e k v l
def b8 (e:EK) (k z:AV) (es:List (AV × AV)):AV:=(eB e k es).getD z
def kf (e:EK) (k:AV):List (AV × AV)→Nat
 | []=>0
 | (k',_) :: l=>bif wK e k k' then 0 else kf e k l+1
def mj:List (AV × AV)→Nat→AV→List (AV × AV)
 | [],_,_=>[]
 | (k,_) :: l,0,x=>(k,x) :: l
 | e :: l,n+1,x=>e :: mj l n x
def ra (E:Env) (s:St) (x:SV):Option (Bool × AV):=match x with
 | .v (.ptr id 0)=>match nth s.G id with
  | some (.mg eW n _ (some i) t)=>match nth s.G eW with
   | some (.map es)=>some (decide (es.length=n)&&decide (i < n)&&(px E t (wO es i)).1,.bt [(px E t (wO es i)).2.1,(px E t (wO es i)).2.2])
   | _=>none
  | _=>none
 | _=>none
def eX (E:Env) (s:St) (t:TypeId) (m k:SV):Option (Bool × AV × St):=match E.ti t,m,k with
 | some i,.v (.map id),.v k=>match i.k,nth s.G id with
  | .map kt _ (some z),some (.map es)=>match E.ti kt with
   | some j=>if j.ek.plain&&gj j.ek k then
     some (dc j.ek k es,.bt [b8 j.ek k z es,.int .i64 (kf j.ek k es:Nat)],s.aZ (au s.G id (.map (bz j.ek k (b8 j.ek k z es) es)))) else none
   | none=>none
  | _,_=>none
 | _,_,_=>none
def dC (s:St) (m st x:SV):Option (Bool × St):=match m,st,x with
 | .v (.map id),.v (.int .i64 n),.v v=>match nth s.G id with
  | some (.map es)=>some (decide (0≤n)&&decide (n.toNat < es.length),s.aZ (au s.G id (.map (mj es n.toNat v))))
  | _=>none
 | _,_,_=>none
def fC (E:Env) (f:FuncId) (s:St) (o:Oper):Option (Bool × St):=match o.dst with
 | some d=>if E.tW f (d+524288) then match o.op with
   | .call { callee:=.builtin .append,args,argTypes }=>match jU E s.ab args.toList,argTypes.toList with
    | some [.cL id g off sz len,.list k Wm (y :: ys)],[t,u]=>match E.ti t with
     | some i=>match i.k with
      | .sl elem esz _ aU (some z)=>match E.ti elem with
       | some j=>match j.k with
        | .sl e2 pd _ _ _=>match gi s.G pd e2 0 with
         | some gE=>match EN gE pd (y :: ys) (gk s.G gE),nth s.G id with
          | some (EO,yO),some (.cP es aT e')=>
           if Nat.beq Wm esz&&Nat.beq aT esz&&Nat.beq e' elem&&Nat.beq sz esz&&Nat.beq t u&&Nat.ble 1 esz&&Nat.ble 1 aU&&Nat.beq z.cells.length esz&&z.aI then
            some (decide (g=es.length)&&decide (off=0)&&decide (len=g)&&decide ((es.length+(y :: ys).length) * aU≤140737488355328),
             (s.aZ (au (au s.G gE (.aH yO pd e2)) id (.cP (es++EO) esz elem))).put o.dst (.v (.cL id (es.length+(y :: ys).length) 0 esz (es.length+(y :: ys).length))))
           else none
          | _,_=>none
         | none=>none
        | _=>none
       | none=>none
      | _=>none
     | none=>none
    | _,_=>none
   | _=>none
  else none
 | none=>none
def oA (E:Env) (f:FuncId) (s:St) (o:Oper):Option (Bool × St):=match o.dst with
 | some d=>if E.tW f (d+524288) then match o.op with
   | .lookup t m k ok=>match E.S4 t,E.ti t,ba E s.ab m,ba E s.ab k with
    | some (.aH e sz p),some i,.v (.map id),.v k=>match i.k,nth s.G id with
     | .map kt _ (some (.list .nil _ [])),some (.map es)=>match E.ti kt,gi s.G sz e 0 with
      | some j,some gE=>if j.ek.plain&&gj j.ek k then
        some (dc j.ek k es&&(aq.aH gE sz p).fits (b8 j.ek k (.list (.aH gE (gk s.G gE).length) sz []) es),
         (s.aZ (au s.G gE (.aH (gk s.G gE++[0]) sz e))).put o.dst (.v (if ok then .bt [(aq.aH gE sz p).enc ((aq.aH gE sz p).bc (b8 j.ek k (.list (.aH gE (gk s.G gE).length) sz []) es)),.bool (eB j.ek k es).isSome]
          else (aq.aH gE sz p).enc ((aq.aH gE sz p).bc (b8 j.ek k (.list (.aH gE (gk s.G gE).length) sz []) es)))))
       else none
      | _,_=>none
     | _,_=>none
    | _,_,_,_=>none
   | _=>none
  else none
 | none=>none
def B5 (E:Env) (f:FuncId) (s:St) (o:Oper):Option (Bool × St):=match o.op,o.dst with
 | .slice t x (some lo) none none,some d=>if E.tW f (d+524288) then match E.ti t,ba E s.ab x,ba E s.ab lo with
   | some i,.v (.list (.own id) sz es),.v (.int _ n)=>match i.k,nth s.G id with
    | .sl _ esz _ _ _,some (.tok f0 aT e)=>
     if Nat.beq sz esz&&Nat.beq aT sz then
      some (decide (f0=es.length)&&(decide (0 < es.length)&&decide (0≤n∧n≤es.length)),(s.aZ (au s.G id .dead++[.tok (es.length - n.toNat) sz e])).put (some d) (.v (.list (.own s.G.length) sz (es.drop n.toNat))))
     else none
    | _,_=>none
   | _,_,_=>none
  else none
 | _,_=>none
def sb (E:Env) (f:FuncId) (s:St) (o:Oper):Option (Bool × St):=match B5 E f s o with
 | some r=>some r
 | none=>oA E f s o
def Uc (E:Env) (f:FuncId) (d:Option Tmp):Bool:=match d with
 | some d=>E.tW f (d+196608)
 | none=>false
def ny:List GO→Nat→TypeId→Nat→Option Nat
 | [],_,_,_=>none
 | .cP es sz e :: G,aT,e',i=>match ny G aT e' (i+1) with
  | some j=>some j
  | none=>bif Nat.beq sz aT&&Nat.beq e e' then (match es with
   | []=>some i
   | _=>none) else none
 | _ :: G,aT,e',i=>ny G aT e' (i+1)
def Ud (E:Env) (f:FuncId) (d:Option Tmp):Bool:=match d with
 | some d=>E.tW f (d+589824)
 | none=>false
def ln (s:St) (dst:Option Tmp) (elem esz aU:Nat) (z:AV) (n m:Int):Option (Bool × St):=match ny s.G esz elem 0 with
 | some id=>if z.closed then some (decide (1≤n∧n≤m∧m≤140737488355328∧m * aU≤140737488355328),(s.aZ (au s.G id (.cP (List.replicate n.toNat z) esz elem))).put dst (.v (.cL id n.toNat 0 esz n.toNat))) else none
 | none=>none
def ak (E:Env) (f:FuncId) (s:St) (o:Oper):Option (Bool × St):=
 match o.op with
 | .move x=>match ba E s.ab x with
  | .v a=>some (true,s.put o.dst (.v a))
  | .lp k off=>some (true,s.put o.dst (.lp k off))
  | .none=>some (true,s.put o.dst .none)
 | .assign x=>match ba E s.ab x with
  | .v a=>some (true,s.put o.dst (.v a))
  | .lp k off=>some (true,s.put o.dst (.lp k off))
  | .none=>some (true,s.put o.dst .none)
 | .pick c a b=>match ba E s.ab c,ba E s.ab a,ba E s.ab b with
  | .v (.bool t),.v x,.v y=>some (true,s.put o.dst (.v (yL t x y)))
  | _,_,_=>none
 | .alloc e=>match E.ti e with
  | some i=>match i.zero with
   | some z=>if z.aI then ej E f s o.dst e z.cells else none
   | none=>none
  | none=>none
 | .box t x=>match ba E s.ab x with
  | .v v=>if v.aI then ej E f s o.dst t v.cells else none
  | _=>none
 | .build t parts=>match li E s t parts.toList with
  | some v=>some (true,s.put o.dst (.v v))
  | none=>none
 | .buildSlice t len parts=>match bR E s t len parts.toList with
  | some v=>some (true,s.put o.dst (.v v))
  | none=>none
 | .load t a=>match xx E s t (ba E s.ab a) with
  | some (c,v)=>some (c,s.put o.dst (.v v))
  | none=>none
 | .store t a x=>match o.dst,iz E s t (ba E s.ab a) (ba E s.ab x) with
  | none,some (c,s')=>some (c,s')
  | _,_=>none
 | .binOp op t x y _=>match ba E s.ab x,ba E s.ab y with
  | .v a,.v b=>match Al op a b with
   | some (c,v)=>some (c,s.put o.dst (.v v))
   | none=>match Ub E op t a b with
    | some r=>some (true,s.put o.dst (.v (.bool r)))
    | none=>match MP E op t a b with
     | some r=>some (true,s.put o.dst (.v (.bool r)))
     | none=>none
  | _,_=>none
 | .unOp op _ x=>match op,ba E s.ab x with
  | .not,.v (.bool b)=>some (true,s.put o.dst (.v (.bool (!b))))
  | .neg,.v (.int k n)=>some (true,s.put o.dst (.v (.int k (k.wrap (0 - n)))))
  | _,_=>none
 | .convert a b x=>match kD E s a b (ba E s.ab x) with
  | some (c,v)=>some (c,s.put o.dst (.v v))
  | none=>none
 | .nilCheck x=>match ba E s.ab x with
  | .v (.ptr id off)=>some (true,s.put o.dst (.v (.ptr id off)))
  | .v (.ep cs)=>some (true,s.put o.dst (.v (.ep cs)))
  | .lp k off=>some (true,s.put o.dst (.lp k off))
  | _=>none
 | .makeFunc (.func g) first captured=>match jU E s.ab first.toList,jU E s.ab captured.toList with
  | some x,some y=>some (true,s.put o.dst (.v (.fn g x y)))
  | _,_=>none
 | .fieldAddr t x j=>match jk E t (ba E s.ab x) j with
  | some p=>some (true,s.put o.dst p)
  | none=>none
 | .field t x j=>match BZ E t (ba E s.ab x) j with
  | some v=>some (true,s.put o.dst (.v v))
  | none=>none
 | .indexAddr t x ix=>match jj E t (ba E s.ab x) (ba E s.ab ix) with
  | some (c,p)=>some (c,s.put o.dst p)
  | none=>none
 | .index t x ix=>match B0 E t (ba E s.ab x) (ba E s.ab ix) with
  | some (c,v)=>some (c,s.put o.dst (.v v))
  | none=>none
 | .slice t x lo hi mx=>match jN E s.ab lo,jN E s.ab hi with
  | some l,some h=>match yN E t (ba E s.ab x) l h mx with
   | some (c,v)=>some (c,s.put o.dst (.v v))
   | none=>none
  | _,_=>none
 | .extract x i=>match ba E s.ab x with
  | .v (.bt vs)=>match nth vs i with
   | some v=>some (true,s.put o.dst (.v v))
   | none=>none
  | _=>none
 | .makeSlice t l c=>match E.ti t,ba E s.ab l,ba E s.ab c with
  | some i,.v (.int _ n),.v (.int _ m)=>match i.k with
   | .sl elem esz _ aU (some z)=>
    if Nat.beq z.cells.length esz&&Nat.ble 1 esz&&z.aI then
     if Ud E f o.dst then ln s o.dst elem esz aU z n m
     else if Uc E f o.dst then (if z.closed then some (decide (0≤n∧n≤m∧m≤140737488355328∧m * aU≤140737488355328),
      (s.cU (.cP (List.replicate n.toNat z) esz elem)).put o.dst (.v (.cL s.G.length n.toNat 0 esz n.toNat))) else none)
     else some (decide (0≤n∧n≤m∧m≤140737488355328∧m * aU≤140737488355328),
      (s.cU (.row (ar (List.replicate m.toNat z)) elem)).put o.dst (.v (.gC s.G.length 0 esz n.toNat m.toNat)))
    else none
   | _=>none
  | _,_,_=>none
 | .lookup t m k ok=>match jV E s t (ba E s.ab m) (ba E s.ab k) with
  | some (v,b)=>some (true,s.put o.dst (.v (if ok then .bt [v,.bool b] else v)))
  | none=>none
 | .mapUpdate t m k x=>match o.dst,eo E s t (ba E s.ab m) (ba E s.ab k) (ba E s.ab x) with
  | none,some s'=>some (true,s')
  | _,_=>none
 | .insert t m k x=>match o.dst,eo E s t (ba E s.ab m) (ba E s.ab k) (ba E s.ab x) with
  | none,some s'=>some (true,s')
  | _,_=>none
 | .entry x=>match ra E s (ba E s.ab x) with
  | some (c,v)=>some (c,s.put o.dst (.v v))
  | none=>none
 | .mapEntry t m k=>match eX E s t (ba E s.ab m) (ba E s.ab k) with
  | some (c,v,s')=>some (c,s'.put o.dst (.v v))
  | none=>none
 | .entryStore _ m st x=>match o.dst,dC s (ba E s.ab m) (ba E s.ab st) (ba E s.ab x) with
  | none,some (c,s')=>some (c,s')
  | _,_=>none
 | .range t x=>match E.ti t,ba E s.ab x with
  | some i,.v (.str l)=>match i.k with
   | .str=>some (true,(s.cU (.fu l 0)).put o.dst (.v (.ptr s.G.length 0)))
   | _=>none
  | some i,.v (.map id)=>match i.k,nth s.G id with
   | .map _ _ _,some (.map es)=>some (true,(s.cU (.mg id es.length (List.range es.length) none t)).put o.dst (.v (.ptr s.G.length 0)))
   | _,_=>none
  | _,_=>none
 | .next x true=>match jW s o.dst (ba E s.ab x) with
  | some s'=>some (true,s')
  | none=>none
 | .makeMap _ none=>some (true,(s.cU (.map [])).put o.dst (.v (.map s.G.length)))
 | .call { callee:=.builtin b,args,argTypes }=>match fC E f s o with
  | some r=>some r
  | none=>match jU E s.ab args.toList with
   | some l=>bJ E s o.dst b l argTypes.toList
   | none=>none
 | _=>none
end Go.Am
namespace Go.Am
open Go
inductive TR where
 | aN
 | full (f:Nat)
 | tok (f b c:Nat)
inductive RO where
 | none
 | aN
 | bi (b:Nat)
 | tok (f b c k:Nat)
 | aH (ts:List TR)
def RO.has:RO→Nat→Prop
 | .none,_=>False
 | .aN,_=>False
 | .bi b,x=>x=b
 | .tok _ b _ _,x=>x=b
 | .aH ts,x=>∃ j f c,nth ts j=some (.tok f x c)
def eM (sz:Nat) (es:List AV):Prop:=∀ e∈es,e.cells.length=sz∧e.aI=true∧e.closed=true
def cW (sz:Nat) (es:List AV):Prop:=∀ e∈es,e.cells.length=sz∧e.aI=true
theorem eM.g {sz:Nat} {es:List AV} (h:eM sz es):cW sz es:=fun e he=>⟨(h e he).1,(h e he).2.1⟩
structure af where
 I:Nat→Nat→Prop
 obj:List RO
def Gk (b o len cap:Nat):RO→Prop
 | .none=>True
 | .aN=>False
 | .bi _=>False
 | .tok f b' c' k'=>len≤f∧(len=f→b=b'∧(o=k'∨cap=0)∧cap=c')
 | .aH _=>False
def B6 (b o len cap:Nat):TR→Prop
 | .aN=>False
 | .full f=>len≤f∧(len=f→cap=len)
 | .tok f b' c'=>len≤f∧(len=f→b=b'∧(o=0∨cap=0)∧cap=c')
def Ap (b o len cap j:Nat):RO→Prop
 | .none=>True
 | .aN=>False
 | .bi _=>False
 | .tok _ _ _ _=>False
 | .aH ts=>∃ t,nth ts j=some t∧B6 b o len cap t
def JE (b o f i off sz:Nat):TR→Prop
 | .aN=>False
 | .full f'=>f≤f'
 | .tok f' b' _=>f≤f'∧(f=f'→b=b'∧o=i * sz+off)
def Gl (b o j f i off sz:Nat):RO→Prop
 | .none=>True
 | .aN=>False
 | .bi _=>False
 | .tok _ _ _ _=>False
 | .aH ts=>∃ t,nth ts j=some t∧JE b o f i off sz t
def oB:RO→Prop
 | .none=>True
 | .aN=>False
 | .bi _=>False
 | .tok _ _ _ _=>False
 | .aH _=>True
def kh:RO→Prop
 | .none=>True
 | .aN=>True
 | .bi _=>False
 | .tok f _ _ _=>1≤f
 | .aH _=>False
def EP (b o f off sz cap:Nat):RO→Prop
 | .none=>True
 | .aN=>False
 | .bi _=>False
 | .tok f' b' c' _=>f≤f'∧(f=f'→b=b'∧off+cap=c'∧(o=off * sz∨cap=0))
 | .aH _=>False
def Gm (b o f i off sz:Nat):RO→Prop
 | .none=>True
 | .aN=>False
 | .bi _=>False
 | .tok f' b' _ _=>f≤f'∧(f=f'→b=b'∧o=i * sz+off)
 | .aH _=>False
def yP (R:af) (k:LK) (b o len cap:Nat):Prop:=match k with
 | .nil=>False
 | .full=>cap=len
 | .gA=>True
 | .own id=>∃ ro,nth R.obj id=some ro∧Gk b o len cap ro
 | .aH id j=>∃ ro,nth R.obj id=some ro∧Ap b o len cap j ro
mutual
inductive Rel (R:af) (w:World):AV→Value→Prop
 | bool (b:Bool):Rel R w (.bool b) (.bool b)
 | int (k:IntKind) (n:Int):Rel R w (.int k n) (.int k n)
 | str (l:List UInt8):Rel R w (.str l) (.string ⟨⟨l⟩⟩)
 | agg {cs:List AV} {vs:List Value} (h:aA R w cs vs) (h1:∀ v∈vs,v.oneCell'=true):Rel R w (.agg cs) (.agg ⟨vs⟩)
 | bt {cs:List AV} {vs:List Value} (h:aA R w cs vs):Rel R w (.bt cs) (.tuple ⟨vs⟩)
 | gW:Rel R w .gW (.pointer none)
 | ptr {id off b:Nat} (h:nth R.obj id=some (.bi b)):Rel R w (.ptr id off) (.pointer (some ⟨b,off,none⟩))
 | ep {cs:List AV} {b o:Nat} (h:dN R w b o cs):Rel R w (.ep cs) (.pointer (some ⟨b,o,none⟩))
 | gF {sz:Nat}:Rel R w (.list .nil sz []) (.slice none 0 0)
 | gl {sz:Nat}:Rel R w (.list .gA sz []) (.slice none 0 0)
 | ki {sz:Nat} {a:Addr}:Rel R w (.list .gA sz []) (.slice (some a) 0 0)
 | jl {id sz:Nat} {ro:RO} (h:nth R.obj id=some ro) (ho:kh ro):Rel R w (.list (.own id) sz []) (.slice none 0 0)
 | jO {id j sz:Nat} {ro:RO} (h:nth R.obj id=some ro) (ho:oB ro):Rel R w (.list (.aH id j) sz []) (.slice none 0 0)
 | list {k:LK} {sz:Nat} {es:List AV} {b o len cap:Nat} (h:eY R w b o sz es) (hl:len=es.length) (hc:len≤cap) (hk:yP R k b o len cap):Rel R w (.list k sz es) (.slice (some ⟨b,o,none⟩) len cap)
 | gC {id off sz len cap b:Nat} (h:nth R.obj id=some (.bi b)) (hc:len≤cap):Rel R w (.gC id off sz len cap) (.slice (some ⟨b,off,none⟩) len cap)
 | gB {id sz:Nat} {ro:RO} (h:nth R.obj id=some ro) (ho:kh ro):Rel R w (.cL id 0 0 sz 0) (.slice none 0 0)
 | cL {id f off sz len cap b o:Nat} {ro:RO} (h:nth R.obj id=some ro) (ho:EP b o f off sz cap ro) (hc:len≤cap):Rel R w (.cL id f off sz len) (.slice (some ⟨b,o,none⟩) len cap)
 | gp {id f i off sz b o:Nat} {t:TypeId} {ro:RO} (h:nth R.obj id=some ro) (ho:Gm b o f i off sz ro):Rel R w (.gp id f i off sz t) (.pointer (some ⟨b,o,none⟩))
 | py {id j sz:Nat} {ro:RO} (h:nth R.obj id=some ro) (ho:oB ro):Rel R w (.fx id j sz 0) (.slice none 0 0)
 | fx {id j sz len cap b o:Nat} {ro:RO} (h:nth R.obj id=some ro) (ho:Ap b o len cap j ro) (hc:len≤cap):Rel R w (.fx id j sz len) (.slice (some ⟨b,o,none⟩) len cap)
 | rp {id j f i off sz b o:Nat} {t:TypeId} {ro:RO} (h:nth R.obj id=some ro) (ho:Gl b o j f i off sz ro):Rel R w (.rp id j f i off sz t) (.pointer (some ⟨b,o,none⟩))
 | ke:Rel R w .ke (.map none)
 | map {id b:Nat} (h:nth R.obj id=some (.bi b)):Rel R w (.map id) (.map (some b))
 | dz:Rel R w .dz .nilFunc
 | fn {f:FuncId} {xs ys:List AV} {vs us:List Value} (h:aA R w xs vs) (h':aA R w ys us):Rel R w (.fn f xs ys) (.func (.func f) ⟨vs⟩ ⟨us⟩)
 | yield {id b:Nat} (h:nth R.obj id=some (.bi b)):Rel R w (.yield id) (.func (.yield b) #[] #[])
 | lY:Rel R w .lY .nilIface
 | iface {t:TypeId} {v:AV} {c:Value} (h:Rel R w v c):Rel R w (.iface t v) (.iface t c)
inductive aA (R:af) (w:World):List AV→List Value→Prop
 | nil:aA R w [] []
 | cons {a:AV} {c:Value} {l:List AV} {cs:List Value} (h:Rel R w a c) (t:aA R w l cs):aA R w (a :: l) (c :: cs)
inductive eY (R:af) (w:World):Nat→Nat→Nat→List AV→Prop
 | nil {b o sz:Nat}:eY R w b o sz []
 | cons {b o sz:Nat} {e:AV} {es:List AV} (hl:e.cells.length=sz) (ht:e.aI=true) (hk:e.closed=true) (h:dN R w b o e.cells) (t:eY R w b (o+sz) sz es):eY R w b o sz (e :: es)
inductive dN (R:af) (w:World):Nat→Nat→List AV→Prop
 | nil {b o:Nat}:dN R w b o []
 | cons {b o:Nat} {a:AV} {c:Value} {l:List AV} (hc:w.cell? ⟨b,o,none⟩=some c) (h1:c.oneCell'=true) (hi:R.I b o) (h:Rel R w a c) (t:dN R w b (o+1) l):dN R w b o (a :: l)
end
def eZ:TR→TR→Prop
 | .aN,.aN=>True
 | .aN,.full _=>False
 | .aN,.tok f _ _=>1≤f
 | .full _,.aN=>False
 | .full f,.full f'=>f'=f
 | .full f,.tok f' _ _=>f < f'
 | .tok _ _ _,.aN=>False
 | .tok _ _ _,.full _=>False
 | .tok f b c,.tok f' b' c'=>f≤f'∧(f'=f→b'=b∧c'=c)
theorem eZ.refl (t:TR):eZ t t:=by cases t <;> simp [eZ]
theorem eZ.trans {a b c:TR} (h:eZ a b) (k:eZ b c):eZ a c:=by
 cases a <;> cases b <;> cases c <;> simp only [eZ] at * <;> omega
def pz (ts LV:List TR):Prop:=∀ j t,nth ts j=some t→∃ t',nth LV j=some t'∧eZ t t'
theorem pz.refl (ts:List TR):pz ts ts:=fun _ t h=>⟨t,h,eZ.refl t⟩
theorem pz.trans {a b c:List TR} (h:pz a b) (k:pz b c):pz a c:=fun j t hj=>
 let ⟨_,h1,h2⟩:=h j t hj
 let ⟨t2,k1,k2⟩:=k j _ h1
 ⟨t2,k1,h2.trans k2⟩
def bI:RO→RO→Prop
 | .none,r=>r=.none
 | .bi b,r=>r=.bi b
 | .aN,.none=>True
 | .aN,.aN=>True
 | .aN,.bi _=>False
 | .aN,.tok f _ _ _=>1≤f
 | .tok _ _ _ _,.none=>True
 | .tok _ _ _ _,.aN=>False
 | .tok _ _ _ _,.bi _=>False
 | .tok f b c k,.tok f' b' c' k'=>f≤f'∧(f'=f→b'=b∧c'=c∧k'=k)
 | .aN,.aH _=>False
 | .tok _ _ _ _,.aH _=>False
 | .aH _,.none=>True
 | .aH _,.aN=>False
 | .aH _,.bi _=>False
 | .aH _,.tok _ _ _ _=>False
 | .aH ts,.aH LV=>pz ts LV
theorem bI.refl (r:RO):bI r r:=by cases r <;> simp [bI,pz.refl]
theorem bI.trans {a b c:RO} (h:bI a b) (k:bI b c):bI a c:=by
 cases a with
 | none=>simp only [bI] at h; subst h; exact k
 | bi x=>simp only [bI] at h; subst h; exact k
 | aN=>
  cases b with
  | none=>simp only [bI] at k; subst k; trivial
  | aN=>exact k
  | bi z=>exact h.elim
  | tok f' x' y' z'=>
   cases c with
   | none=>trivial
   | aN=>exact k.elim
   | bi z=>exact k.elim
   | aH _=>exact k.elim
   | tok f'' x'' y'' z''=>simp only [bI] at *; omega
  | aH _=>exact h.elim
 | tok f x y z0=>
  cases b with
  | none=>simp only [bI] at k; subst k; trivial
  | aN=>exact h.elim
  | bi z=>exact h.elim
  | tok f' x' y' z'=>
   cases c with
   | none=>trivial
   | aN=>exact k.elim
   | bi z=>exact k.elim
   | tok f'' x'' y'' z''=>
    simp only [bI] at *
    refine ⟨Nat.le_trans h.1 k.1,fun e=>?_⟩
    obtain ⟨h1,h2⟩:=h; obtain ⟨k1,k2⟩:=k
    have e1:f'=f:=by omega
    have e2:f''=f':=by omega
    exact ⟨(k2 e2).1.trans (h2 e1).1,(k2 e2).2.1.trans (h2 e1).2.1,(k2 e2).2.2.trans (h2 e1).2.2⟩
   | aH _=>exact k.elim
  | aH _=>exact h.elim
 | aH ts=>
  cases b with
  | none=>simp only [bI] at k; subst k; trivial
  | aN=>exact h.elim
  | bi z=>exact h.elim
  | tok f' x' y' z'=>exact h.elim
  | aH LV=>
   cases c with
   | none=>trivial
   | aN=>exact k.elim
   | bi z=>exact k.elim
   | tok f' x' y' z'=>exact k.elim
   | aH ts''=>exact pz.trans h k
def mm (r r':Loop):Prop:=r'.tmps=r.tmps∧r'.params=r.params∧r'.assign=r.assign∧r'.body=r.body∧r'.defers=r.defers
def dI (w w':World):Prop:=∀ (b:Nat) (r:Loop),w.heap[b]?=some (Obj.loop r)→∃ r',w'.heap[b]?=some (Obj.loop r')∧mm r r'
theorem dI.refl (w:World):dI w w:=fun _ r h=>⟨r,h,rfl,rfl,rfl,rfl,rfl⟩
theorem dI.trans {w w1 w2:World} (h:dI w w1) (k:dI w1 w2):dI w w2:=fun b r hb=>
 let ⟨_,h1,h2,h3,h4,h5,h6⟩:=h b r hb
 let ⟨r2,k1,k2,k3,k4,k5,k6⟩:=k b _ h1
 ⟨r2,k1,k2.trans h2,k3.trans h3,k4.trans h4,k5.trans h5,k6.trans h6⟩
theorem dI.old {w w':World} (h:∀ b,b < w.heap.size→w'.heap[b]?=w.heap[b]?):dI w w':=fun b r hb=>
 ⟨r,(h b (by
  rcases Nat.lt_or_ge b w.heap.size with bM | qS
  ·exact bM
  ·rw [Array.getElem?_eq_none qS] at hb; cases hb)).trans hb,rfl,rfl,rfl,rfl,rfl⟩
structure Ext (R:af) (w:World) (R':af) (w':World):Prop where
 I:∀ b o,R.I b o→R'.I b o
 cell:∀ b o,R.I b o→w'.cell? ⟨b,o,none⟩=w.cell? ⟨b,o,none⟩
 obj:∀ id ro,nth R.obj id=some ro→∃ iB,nth R'.obj id=some iB∧bI ro iB
 lp:dI w w'
theorem Ext.refl (R:af) (w:World):Ext R w R w:=⟨fun _ _ h=>h,fun _ _ _=>rfl,fun _ ro h=>⟨ro,h,bI.refl ro⟩,dI.refl w⟩
theorem Ext.trans {R R' Gn:af} {w w' JF:World} (h:Ext R w R' w') (k:Ext R' w' Gn JF):Ext R w Gn JF:=
 ⟨fun b o hi=>k.I b o (h.I b o hi),fun b o hi=>(k.cell b o (h.I b o hi)).trans (h.cell b o hi),fun id ro hr=>
  let ⟨_,h1,h2⟩:=h.obj id ro hr
  let ⟨r2,h3,h4⟩:=k.obj id _ h1
  ⟨r2,h3,h2.trans h4⟩,h.lp.trans k.lp⟩
theorem Ext.bi {R R':af} {w w':World} (h:Ext R w R' w') {id b:Nat} (hb:nth R.obj id=some (.bi b)):nth R'.obj id=some (.bi b):=by
 obtain ⟨r,h1,h2⟩:=h.obj id _ hb
 simp only [bI] at h2
 subst h2
 exact h1
theorem yP.mono {R R':af} {w w':World} (e:Ext R w R' w') {k:LK} {b o len cap:Nat} (h:yP R k b o len cap):yP R' k b o len cap:=by
 cases k with
 | nil=>exact h
 | full=>exact h
 | gA=>trivial
 | own id=>
  obtain ⟨ro,h1,h2⟩:=h
  obtain ⟨iB,h3,h4⟩:=e.obj id ro h1
  refine ⟨iB,h3,?_⟩
  cases ro with
  | none=>simp only [bI] at h4; subst h4; trivial
  | aN=>exact h2.elim
  | bi x=>exact h2.elim
  | tok f x y z0=>
   cases iB with
   | none=>trivial
   | aN=>exact h4.elim
   | bi z=>exact h4.elim
   | tok f' x' y' z'=>
    simp only [bI,Gk] at *
    refine ⟨by omega,fun e=>?_⟩
    have e1:f'=f:=by omega
    have h5:=h2.2 (by omega)
    have h6:=h4.2 e1
    exact ⟨h5.1.trans h6.1.symm,h5.2.1.imp (fun q=>q.trans h6.2.2.symm) (fun q=>q),h5.2.2.trans h6.2.1.symm⟩
   | aH _=>exact h4.elim
  | aH _=>exact h2.elim
 | aH id j=>
  obtain ⟨ro,h1,h2⟩:=h
  obtain ⟨iB,h3,h4⟩:=e.obj id ro h1
  refine ⟨iB,h3,?_⟩
  cases ro with
  | none=>simp only [bI] at h4; subst h4; trivial
  | aN=>exact h2.elim
  | bi x=>exact h2.elim
  | tok _ _ _ _=>exact h2.elim
  | aH ts=>
   cases iB with
   | none=>trivial
   | aN=>exact h4.elim
   | bi z=>exact h4.elim
   | tok _ _ _ _=>exact h4.elim
   | aH LV=>
    obtain ⟨t,k1,k2⟩:=h2
    obtain ⟨t',k3,k4⟩:=h4 j t k1
    refine ⟨t',k3,?_⟩
    cases t with
    | aN=>exact k2.elim
    | full f=>
     cases t' with
     | aN=>exact k4.elim
     | full f'=>simp only [eZ,B6] at *; subst k4; exact k2
     | tok f' x' y'=>simp only [eZ,B6] at *; exact ⟨by omega,fun e=>by omega⟩
    | tok f x y=>
     cases t' with
     | aN=>exact k4.elim
     | full f'=>exact k4.elim
     | tok f' x' y'=>
      simp only [eZ,B6] at *
      refine ⟨by omega,fun e=>?_⟩
      have e1:f'=f:=by omega
      have h5:=k2.2 (by omega)
      have h6:=k4.2 e1
      exact ⟨h5.1.trans h6.1.symm,h5.2.1,h5.2.2.trans h6.2.symm⟩
theorem kh.mono {ro iB:RO} (h:kh ro) (e:bI ro iB):kh iB:=by
 cases ro with
 | none=>simp only [bI] at e; subst e; trivial
 | aN=>cases iB <;> first | trivial | exact e.elim | exact e
 | bi _=>exact h.elim
 | tok f x y z0=>
  cases iB with
  | none=>trivial
  | aN=>exact e.elim
  | bi z=>exact e.elim
  | tok f' x' y' z'=>simp only [bI,kh] at *; omega
  | aH _=>exact e.elim
 | aH _=>exact h.elim
theorem oB.mono {ro iB:RO} (h:oB ro) (e:bI ro iB):oB iB:=by
 cases ro with
 | none=>simp only [bI] at e; subst e; trivial
 | aN=>exact h.elim
 | bi _=>exact h.elim
 | tok _ _ _ _=>exact h.elim
 | aH ts=>
  cases iB with
  | none=>trivial
  | aN=>exact e.elim
  | bi z=>exact e.elim
  | tok _ _ _ _=>exact e.elim
  | aH LV=>trivial
theorem EP.mono {b o f off sz cap:Nat} {ro iB:RO} (h:EP b o f off sz cap ro) (e:bI ro iB):EP b o f off sz cap iB:=by
 cases ro with
 | none=>simp only [bI] at e; subst e; trivial
 | aN=>exact h.elim
 | bi _=>exact h.elim
 | tok f1 x y z0=>
  cases iB with
  | none=>trivial
  | aN=>exact e.elim
  | bi z=>exact e.elim
  | tok f' x' y' z'=>
   simp only [bI,EP] at *
   refine ⟨by omega,fun k=>?_⟩
   obtain ⟨e1,e2,_⟩:=e.2 (by omega)
   obtain ⟨h1,h2,h3⟩:=h.2 (by omega)
   exact ⟨h1.trans e1.symm,h2.trans e2.symm,h3⟩
  | aH _=>exact e.elim
 | aH _=>exact h.elim
theorem Gm.mono {b o f i off sz:Nat} {ro iB:RO} (h:Gm b o f i off sz ro) (e:bI ro iB):Gm b o f i off sz iB:=by
 cases ro with
 | none=>simp only [bI] at e; subst e; trivial
 | aN=>exact h.elim
 | bi _=>exact h.elim
 | tok f1 x y z0=>
  cases iB with
  | none=>trivial
  | aN=>exact e.elim
  | bi z=>exact e.elim
  | tok f' x' y' z'=>
   simp only [bI,Gm] at *
   refine ⟨by omega,fun k=>?_⟩
   obtain ⟨e1,e2,_⟩:=e.2 (by omega)
   obtain ⟨h1,h2⟩:=h.2 (by omega)
   exact ⟨h1.trans e1.symm,h2⟩
  | aH _=>exact e.elim
 | aH _=>exact h.elim
theorem Ap.mono {b o len cap j:Nat} {ro iB:RO} (h:Ap b o len cap j ro) (h4:bI ro iB):Ap b o len cap j iB:=by
 cases ro with
 | none=>simp only [bI] at h4; subst h4; trivial
 | aN=>exact h.elim
 | bi x=>exact h.elim
 | tok _ _ _ _=>exact h.elim
 | aH ts=>
  cases iB with
  | none=>trivial
  | aN=>exact h4.elim
  | bi z=>exact h4.elim
  | tok _ _ _ _=>exact h4.elim
  | aH LV=>
   obtain ⟨t,k1,k2⟩:=h
   obtain ⟨t',k3,k4⟩:=h4 j t k1
   refine ⟨t',k3,?_⟩
   cases t with
   | aN=>exact k2.elim
   | full f=>
    cases t' with
    | aN=>exact k4.elim
    | full f'=>simp only [eZ,B6] at *; subst k4; exact k2
    | tok f' x' y'=>simp only [eZ,B6] at *; exact ⟨by omega,fun e=>by omega⟩
   | tok f x y=>
    cases t' with
    | aN=>exact k4.elim
    | full f'=>exact k4.elim
    | tok f' x' y'=>
     simp only [eZ,B6] at *
     refine ⟨by omega,fun e=>?_⟩
     have e1:f'=f:=by omega
     have h5:=k2.2 (by omega)
     have h6:=k4.2 e1
     exact ⟨h5.1.trans h6.1.symm,h5.2.1,h5.2.2.trans h6.2.symm⟩
theorem Gl.mono {b o j f i off sz:Nat} {ro iB:RO} (h:Gl b o j f i off sz ro) (h4:bI ro iB):Gl b o j f i off sz iB:=by
 cases ro with
 | none=>simp only [bI] at h4; subst h4; trivial
 | aN=>exact h.elim
 | bi x=>exact h.elim
 | tok _ _ _ _=>exact h.elim
 | aH ts=>
  cases iB with
  | none=>trivial
  | aN=>exact h4.elim
  | bi z=>exact h4.elim
  | tok _ _ _ _=>exact h4.elim
  | aH LV=>
   obtain ⟨t,k1,k2⟩:=h
   obtain ⟨t',k3,k4⟩:=h4 j t k1
   refine ⟨t',k3,?_⟩
   cases t with
   | aN=>exact k2.elim
   | full f1=>
    cases t' with
    | aN=>exact k4.elim
    | full f'=>simp only [eZ,JE] at *; omega
    | tok f' x' y'=>simp only [eZ,JE] at *; exact ⟨by omega,fun e=>by omega⟩
   | tok f1 x y=>
    cases t' with
    | aN=>exact k4.elim
    | full f'=>exact k4.elim
    | tok f' x' y'=>
     simp only [eZ,JE] at *
     refine ⟨by omega,fun e=>?_⟩
     have h5:=k2.2 (by omega)
     have h6:=k4.2 (by omega)
     exact ⟨h5.1.trans h6.1.symm,h5.2⟩
mutual
theorem Rel.mono {R R':af} {w w':World} (e:Ext R w R' w'):∀ {a:AV} {c:Value},Rel R w a c→Rel R' w' a c
 | _,_,.bool b=>.bool b
 | _,_,.int k n=>.int k n
 | _,_,.str l=>.str l
 | _,_,.agg h h1=>.agg (h.mono e) h1
 | _,_,.bt h=>.bt (h.mono e)
 | _,_,.gW=>.gW
 | _,_,.ptr h=>.ptr (e.bi h)
 | _,_,.ep h=>.ep (h.mono e)
 | _,_,.gF=>.gF
 | _,_,.gl=>.gl
 | _,_,.ki=>.ki
 | _,_,.jl h ho=>let ⟨_,h3,h4⟩:=e.obj _ _ h; .jl h3 (ho.mono h4)
 | _,_,.jO h ho=>let ⟨_,h3,h4⟩:=e.obj _ _ h; .jO h3 (ho.mono h4)
 | _,_,.list h hl hc hk=>.list (h.mono e) hl hc (hk.mono e)
 | _,_,.gC h hc=>.gC (e.bi h) hc
 | _,_,.gB h ho=>let ⟨_,h3,h4⟩:=e.obj _ _ h; .gB h3 (ho.mono h4)
 | _,_,.cL h ho hc=>let ⟨_,h3,h4⟩:=e.obj _ _ h; .cL h3 (ho.mono h4) hc
 | _,_,.gp h ho=>let ⟨_,h3,h4⟩:=e.obj _ _ h; .gp h3 (ho.mono h4)
 | _,_,.py h ho=>let ⟨_,h3,h4⟩:=e.obj _ _ h; .py h3 (ho.mono h4)
 | _,_,.fx h ho hc=>let ⟨_,h3,h4⟩:=e.obj _ _ h; .fx h3 (ho.mono h4) hc
 | _,_,.rp h ho=>let ⟨_,h3,h4⟩:=e.obj _ _ h; .rp h3 (ho.mono h4)
 | _,_,.ke=>.ke
 | _,_,.map h=>.map (e.bi h)
 | _,_,.dz=>.dz
 | _,_,.fn h h'=>.fn (h.mono e) (h'.mono e)
 | _,_,.yield h=>.yield (e.bi h)
 | _,_,.lY=>.lY
 | _,_,.iface h=>.iface (h.mono e)
theorem aA.mono {R R':af} {w w':World} (e:Ext R w R' w'):∀ {l:List AV} {cs:List Value},aA R w l cs→aA R' w' l cs
 | _,_,.nil=>.nil
 | _,_,.cons h t=>.cons (h.mono e) (t.mono e)
theorem eY.mono {R R':af} {w w':World} (e:Ext R w R' w'):∀ {b o sz:Nat} {l:List AV},eY R w b o sz l→eY R' w' b o sz l
 | _,_,_,_,.nil=>.nil
 | _,_,_,_,.cons hl ht hk h t=>.cons hl ht hk (h.mono e) (t.mono e)
theorem dN.mono {R R':af} {w w':World} (e:Ext R w R' w'):∀ {b o:Nat} {l:List AV},dN R w b o l→dN R' w' b o l
 | _,_,_,.nil=>.nil
 | _,_,_,.cons hc h1 hi h t=>.cons ((e.cell _ _ hi).trans hc) h1 (e.I _ _ hi) (h.mono e) (t.mono e)
end
end Go.Am
namespace Go.Am
open Go
section lists
variable {α:Type}
theorem aE (l:List α) (n:Nat):nth l n=l[n]?:=by
 induction l generalizing n with
 | nil=>simp [nth]
 | cons a l ih=>cases n <;> simp [nth,ih]
theorem dy (l:List α) (n:Nat) (x:α):au l n x=l.set n x:=by
 induction l generalizing n with
 | nil=>simp [au]
 | cons a l ih=>cases n <;> simp [au,ih]
theorem aQ {l:List α} {n:Nat} {x:α} (h:nth l n=some x):n < l.length:=by
 rw [aE] at h
 exact (List.getElem?_eq_some_iff.1 h).1
theorem aj {l:List α} {n:Nat} {x y:α} (h:nth l n=some y):nth (au l n x) n=some x:=by
 have:=aQ h
 rw [aE,dy,List.getElem?_set_self this]
theorem aB {l:List α} {n m:Nat} {x:α} (h:n≠m):nth (au l n x) m=nth l m:=by
 rw [aE,dy,aE,List.getElem?_set_ne h]
theorem bK {l:List α} {n m:Nat} {x y:α} (h:nth (au l n x) m=some y):(n=m∧y=x∧m < l.length)∨(n≠m∧nth l m=some y):=by
 by_cases e:n=m
 ·subst e
  have hl:=aQ h
  rw [dy,List.length_set] at hl
  rw [aE,dy,List.getElem?_set_self hl] at h
  exact .inl ⟨rfl,(Option.some.inj h).symm,hl⟩
 ·rw [aB e] at h
  exact .inr ⟨e,h⟩
@[simp] theorem de (l:List α) (n:Nat) (x:α):(au l n x).length=l.length:=by rw [dy,List.length_set]
theorem dp (l:List α) (x:α):nth (l++[x]) l.length=some x:=by rw [aE]; simp
theorem bf {l:List α} {n:Nat} {y x:α} (h:nth l n=some y):nth (l++[x]) n=some y:=by
 have:=aQ h
 rw [aE] at *
 rw [List.getElem?_append_left this]
 exact h
theorem ah {l:List α} {n:Nat} {y x:α} (h:nth (l++[x]) n=some y):nth l n=some y∨(n=l.length∧y=x):=by
 rw [aE] at *
 by_cases e:n < l.length
 ·rw [List.getElem?_append_left e] at h; exact .inl h
 ·rw [List.getElem?_append_right (by omega)] at h
  have hl:=(List.getElem?_eq_some_iff.1 h).1
  simp at hl
  have:n - l.length=0:=by omega
  rw [this] at h
  simp at h
  exact .inr ⟨by omega,h.symm⟩
theorem mn:∀ {l:List α} {n:Nat} {x:α},nth l n=some x→au l n x=l
 | [],_,_,h=>by cases h
 | a :: l,0,x,h=>by cases h; rfl
 | a :: l,n+1,x,h=>by
  show a :: au l n x=a :: l
  rw [mn (show nth l n=some x from h)]
end lists
def MQ (R:af) (w:World) (QJ:aV→Array Value→Prop) (busy:Bool) (pending:Option Code) (ab:aV) (n:Nat) (params:List Tmp) (assign body:Code) (defers:Nat) (done:Bool) (b:Nat):Prop:=
 ∃ (r:Loop) (db:Nat),w.heap[b]?=some (.loop r)∧r.state=(if done then .done else if busy then .busy else .ready)∧r.pending=pending ∧
  QJ ab r.tmps∧r.tmps.size=n∧r.params=⟨params⟩∧r.assign=assign∧r.body=body∧r.defers=db∧nth R.obj defers=some (.bi db)
def lZ (R:af) (w:World) (β:Nat→Nat):SV→Value→Prop
 | .none,_=>True
 | .v a,c=>Rel R w a c
 | .lp k off,c=>c=.pointer (some ⟨β k,off,none⟩)
def mo (R:af) (w:World) (β:Nat→Nat) (ab:aV) (tmps:Array Value):Prop:=
 ∀ i,lk ab i≠.none→∃ c,tmps[i]?=some c∧lZ R w β (lk ab i) c
def DN:aV→Bool
 | []=>true
 | .put _ (.lp _ _) :: _=>false
 | _ :: l=>DN l
def cV (R:af) (w:World):List (AV × AV)→List MapEntry→Prop
 | [],[]=>True
 | (k,v) :: l,e :: es=>Rel R w k e.key∧Rel R w v e.val∧cV R w l es
 | _,_=>False
def xA (R:af) (w:World) (sz:Nat) (e:TypeId) (f:Nat):TR→Prop
 | .aN=>f=0
 | .full f'=>f'=f
 | .tok f' b c=>f'=f∧∃ cur,w.heap[b]?=some (.cells cur e (0,0))∧f≤c∧c≤maxLen∧cur.size=c * sz∧∀ o,f * sz≤o→¬ R.I b o
def LW (ts:List TR):Prop:=∀ i j f b c f' c',nth ts i=some (.tok f b c)→nth ts j=some (.tok f' b c')→i=j
def ub (R:af) (w:World) (sz:Nat) (e:TypeId) (fs:List Nat) (ts:List TR):Prop:=
 ts.length=fs.length∧LW ts∧∀ j f t,nth fs j=some f→nth ts j=some t→xA R w sz e f t
def xB (R:af) (w:World) (sz:Nat) (e:TypeId) (row:List AV):TR→Prop
 | .aN=>row=[]
 | .full _=>False
 | .tok f b c=>f=row.length∧eM sz row∧∃ cur vs,w.heap[b]?=some (.cells cur e (0,0))∧f≤c∧c≤maxLen∧cur.size=c * sz∧(∀ o,¬ R.I b o)∧aA R w (ar row) vs∧(∀ v∈vs,v.oneCell'=true)∧cur.toList.take (f * sz)=vs
def QK (R:af) (w:World) (sz:Nat) (e:TypeId) (rows:List (List AV)) (ts:List TR):Prop:=
 ts.length=rows.length∧LW ts∧∀ j row t,nth rows j=some row→nth ts j=some t→xB R w sz e row t
def iC (ay:Array MapEntry) (clock:Nat):Prop:=clock=ay.size∧∀ (i:Nat) (e:MapEntry),ay.toList[i]?=some e→e.born=i
def QL (R:af) (w:World) (eW n:Nat) (left:List Nat) (cur:Option Nat) (b:Nat):Prop:=
 ∃ bm seen c0,nth R.obj eW=some (.bi bm)∧w.heap[b]?=some (.mapIter (some bm) n seen c0)∧(∀ i,i < n→(i∈left↔seen.contains i=false))∧(∀ i∈left,i < n)∧left.Nodup∧n≤c0∧∀ i,cur=some i→seen.back?=some i∧c0=n
def fa (R:af) (w:World):GO→RO→Prop
 | .dead,.none=>True
 | .dead,.aN=>True
 | .dead,.bi b=>b < w.heap.size
 | .dead,.tok _ b _ _=>b < w.heap.size
 | .dead,.aH ts=>∀ j f b c,nth ts j=some (.tok f b c)→b < w.heap.size
 | .aH fs sz e,.aH ts=>ub R w sz e fs ts
 | .ga rows sz e,.aH ts=>QK R w sz e rows ts
 | .mg eW n left cur _,.bi b=>QL R w eW n left cur b
 | .tok f _ _,.aN=>f=0
 | .row cs el,.bi b=>∃ vs,w.heap[b]?=some (.cells ⟨vs⟩ el (0,0))∧aA R w cs vs∧(∀ v∈vs,v.oneCell'=true)∧∀ o,¬ R.I b o
 | .tok f sz e,.tok f' b c k=>f'=f∧∃ cur,w.heap[b]?=some (.cells cur e (0,0))∧f≤c∧c≤maxLen∧cur.size=k+c * sz∧∀ o,k+f * sz≤o→¬ R.I b o
 | .cP es _ _,.aN=>es=[]
 | .cP es sz e,.tok f b c k=>k=0∧f=es.length∧cW sz es∧∃ cur vs,w.heap[b]?=some (.cells cur e (0,0))∧f≤c∧c≤maxLen∧cur.size=c * sz∧(∀ o,¬ R.I b o)∧aA R w (ar es) vs∧(∀ v∈vs,v.oneCell'=true)∧cur.toList.take (f * sz)=vs
 | .map es,.bi b=>∃ ay clock,w.heap[b]?=some (.map ay clock)∧cV R w es ay.toList∧iC ay clock
 | .fu l pos,.bi b=>w.heap[b]?=some (.stringIter ⟨⟨l⟩⟩ pos)
 | .loop busy pending _ ab n params assign body defers done,.bi b=>MQ R w (mo R w (fun _=>0)) busy pending ab n params assign body defers done b∧DN ab=true
 | .defers o,.bi b=>w.heap[b]?=some (.deferred (if o then some [] else none))
 | _,_=>False
def kj (E:Env) (R:af) (w:World) (g:Nat) (cs:List AV):Prop:=
 dN R w g 0 cs∧(E.gx g=true→R.I g cs.length∧w.cell? ⟨g,cs.length,none⟩=none)
theorem kj.mono {E:Env} {R R':af} {w w':World} {g:Nat} {cs:List AV} (h:kj E R w g cs) (e:Ext R w R' w'):kj E R' w' g cs:=
 ⟨h.1.mono e,fun hx=>⟨e.I _ _ (h.2 hx).1,(e.cell _ _ (h.2 hx).1).trans (h.2 hx).2⟩⟩
structure dO (E:Env) (R:af) (w:World) (G:List GO):Prop where
 len:R.obj.length=G.length
 obj:∀ id go ro,nth G id=some go→nth R.obj id=some ro→fa R w go ro
 inj:∀ i j ri rj b,nth R.obj i=some ri→nth R.obj j=some rj→ri.has b→rj.has b→i=j
 wf:∀ b o,R.I b o→b < w.heap.size
 cG:∀ g cs,E.cG g=some cs→kj E R w g cs
 lo:E.lo≤w.drawn
def Live (R:af) (b:Nat):Prop:=∃ id ro,nth R.obj id=some ro∧ro.has b
structure JG (R:af) (w:World) (β:Nat→Nat) (boxes:bX):Prop where
 box:∀ k cs,cO boxes k=some cs→(∃ vs el,w.heap[β k]?=some (.cells ⟨vs⟩ el (0,0))∧aA R w cs vs∧(∀ v∈vs,v.oneCell'=true))∧(∀ o,¬ R.I (β k) o)∧¬ Live R (β k)
 inj:∀ k k' cs dB,cO boxes k=some cs→cO boxes k'=some dB→β k=β k'→k=k'
def nR (R:af):List Nat→List Deferred→Prop
 | [],[]=>True
 | id :: l,d :: ds=>(∃ b,nth R.obj id=some (.bi b)∧d={ target:=.collected b,args:=#[] })∧nR R l ds
 | _,_=>False
structure aL (E:Env) (R:af) (w:World) (β:Nat→Nat) (s:St) (a:Act):Prop where
 g:dO E R w s.G
 b:JG R w β s.boxes
 t:mo R w β s.ab a.tmps
 n:a.tmps.size=s.n
 d:nR R s.marks a.defers
def Own (R:af) (β:Nat→Nat) (boxes:bX) (b:Nat):Prop:=
 Live R b∨∃ k cs,cO boxes k=some cs∧β k=b
structure Step (R:af) (w:World) (β:Nat→Nat) (bx:bX) (R':af) (w':World) (β':Nat→Nat) (DO:bX):Prop where
 ext:Ext R w R' w'
 os:w'.os=w.os
 tape:w'.tape=w.tape
 output:w'.output=w.output
 size:w.heap.size≤w'.heap.size
 bl:∀ b,b < w.heap.size→¬ Own R β bx b→w'.heap[b]?=w.heap[b]?
 own:∀ b,b < w.heap.size→Own R' β' DO b→Own R β bx b
 im:∀ b o,R'.I b o→b < w.heap.size→¬ Own R β bx b→R.I b o
theorem Step.refl (R:af) (w:World) (β:Nat→Nat) (bx:bX):Step R w β bx R w β bx:=
 ⟨Ext.refl R w,rfl,rfl,rfl,Nat.le_refl _,fun _ _ _=>rfl,fun _ _ h=>h,fun _ _ h _ _=>h⟩
theorem Step.trans {R R1 R2:af} {w w1 w2:World} {β β1 β2:Nat→Nat} {x x1 x2:bX}
  (h:Step R w β x R1 w1 β1 x1) (k:Step R1 w1 β1 x1 R2 w2 β2 x2):Step R w β x R2 w2 β2 x2 where
 ext:=h.ext.trans k.ext
 os:=k.os.trans h.os
 tape:=k.tape.trans h.tape
 output:=k.output.trans h.output
 size:=Nat.le_trans h.size k.size
 bl:=fun b hb hn=>(k.bl b (Nat.lt_of_lt_of_le hb h.size) (fun ho=>hn (h.own b hb ho))).trans (h.bl b hb hn)
 own:=fun b hb ho=>h.own b hb (k.own b (Nat.lt_of_lt_of_le hb h.size) ho)
 im:=fun b o hi hb hn=>h.im b o (k.im b o hi (Nat.lt_of_lt_of_le hb h.size) (fun ho=>hn (h.own b hb ho))) hb hn
theorem lZ.mono {R R':af} {w w':World} {β:Nat→Nat} (e:Ext R w R' w') {x:SV} {c:Value} (h:lZ R w β x c):lZ R' w' β x c:=by
 cases x with
 | none=>trivial
 | v a=>exact Rel.mono e h
 | lp k off=>exact h
theorem pA (n:Nat):Nat.beq n n=true:=Nat.beq_refl n
theorem lq {n m:Nat} (h:n≠m):Nat.beq n m=false:=by
 cases hb:Nat.beq n m with
 | true=>exact absurd (Nat.eq_of_beq_eq_true hb) h
 | false=>rfl
theorem aw (l:aV) (d:Nat) (x:SV):lk (.put d x :: l) d=x:=by simp [lk]
theorem aD {l:aV} {d t:Nat} {x:SV} (h:d≠t):lk (.put d x :: l) t=lk l t:=by simp [lk,lq h]
theorem DP {l:aV} {d t:Nat}:(lk (.kill d :: l) t=lk l t∧∀ k off,lk l t=.lp k off→k≠d)∨lk (.kill d :: l) t=.none:=by
 simp only [lk]
 cases h:lk l t with
 | none=>exact .inr rfl
 | v a=>exact .inl ⟨rfl,fun _ _ e=>by cases e⟩
 | lp k off=>
  by_cases hk:k=d
  ·subst hk
   exact .inr (by simp)
  ·exact .inl ⟨by simp [lq hk],fun k' eI e=>by cases e; exact hk⟩
theorem Gp (l:bX) (d:Nat) (cs:List AV):cO ((d,cs) :: l) d=some cs:=by simp [cO]
theorem dV {l:bX} {d k:Nat} {cs dB:List AV} (h:cO ((d,cs) :: l) k=some dB):(d=k∧dB=cs)∨(d≠k∧cO l k=some dB):=by
 by_cases e:d=k
 ·subst e
  rw [Gp] at h
  exact .inl ⟨rfl,(Option.some.inj h).symm⟩
 ·simp only [cO,lq e,cond_false] at h
  exact .inr ⟨e,h⟩
theorem JH {l:bX} (h:l.all (fun p=>aJ p.2)=true) {k:Nat} {cs:List AV} (hk:cO l k=some cs):aJ cs=true:=by
 induction l with
 | nil=>simp [cO] at hk
 | cons x l ih=>
  obtain ⟨d,c⟩:=x
  simp only [List.all_cons,Bool.and_eq_true] at h
  rcases dV hk with ⟨_,rfl⟩ | ⟨_,hk⟩
  ·exact h.1
  ·exact ih h.2 hk
theorem mo.put {R:af} {w:World} {β:Nat→Nat} {ab:aV} {a:Act} (h:mo R w β ab a.tmps) {d:Tmp} {x:SV} {c:Value} (hd:d < a.tmps.size) (hx:lZ R w β x c) :
  mo R w β (.put d x :: ab) (a.put (some d) c).tmps:=by
 intro i hi
 by_cases e:d=i
 ·subst e
  rw [aw]
  exact ⟨c,by simp [Act.put,hd],hx⟩
 ·rw [aD e] at hi ⊢
  obtain ⟨c',h1,h2⟩:=h i hi
  refine ⟨c',?_,h2⟩
  simp only [Act.put]
  rw [Array.getElem?_setIfInBounds_ne e]
  exact h1
theorem aL.put {E:Env} {R:af} {w:World} {β:Nat→Nat} {s:St} {a:Act} (h:aL E R w β s a) (dst:Option Tmp) {x:SV} {c:Value} (hx:lZ R w β x c) :
  aL E R w β (s.put dst x) (a.put dst c):=by
 cases dst with
 | none=>exact h
 | some d=>
  simp only [St.put]
  cases hb:Nat.blt d s.n with
  | true=>
   have hd:d < a.tmps.size:=by rw [h.n]; exact Nat.le_of_ble_eq_true hb
   exact ⟨h.g,h.b,h.t.put hd hx,by simp [Act.put,h.n],h.d⟩
  | false=>
   have hd:¬ d < a.tmps.size:=by
    rw [h.n]
    intro bM
    have:Nat.blt d s.n=true:=Nat.ble_eq_true_of_le bM
    rw [this] at hb
    cases hb
   have he:a.put (some d) c=a:=by
    simp only [Act.put]
    rw [Array.setIfInBounds_eq_of_size_le (Nat.not_lt.1 hd)]
   rw [he]
   exact h
theorem pC {R:af} {w:World} {v:Value} {a:AV} (h:ph v=some a):Rel R w a v∧v.oneCell'=true:=by
 unfold ph at h
 split at h <;> cases h
 ·exact ⟨.bool _,rfl⟩
 ·exact ⟨.int _ _,rfl⟩
 ·rename_i s
  exact ⟨.str s.data.toList,rfl⟩
 ·exact ⟨.gF,rfl⟩
 ·exact ⟨.gW,rfl⟩
 ·exact ⟨.ke,rfl⟩
 ·exact ⟨.dz,rfl⟩
 ·exact ⟨.lY,rfl⟩
theorem lr {R:af} {w:World}:∀ {vs:List Value} {l:List AV},kA vs=some l→aA R w l vs∧∀ v∈vs,v.oneCell'=true
 | [],l,h=>by simp [kA] at h; subst h; exact ⟨.nil,by simp⟩
 | v :: vs,l,h=>by
  unfold kA at h
  split at h
  ·rename_i a r h1 h2
   cases h
   obtain ⟨k1,k2⟩:=pC (R:=R) (w:=w) h1
   obtain ⟨k3,k4⟩:=lr (R:=R) (w:=w) h2
   exact ⟨.cons k1 k3,by simp [k2]; exact k4⟩
  ·cases h
theorem se {R:af} {w:World} {v:Value} {a:AV} (h:pj v=some a):Rel R w a v:=by
 unfold pj at h
 split at h
 ·rename_i cs
  split at h
  ·rename_i l hl
   cases h
   obtain ⟨k1,k2⟩:=lr (R:=R) (w:=w) hl
   exact .agg (vs:=cs.toList) k1 k2
  ·cases h
 ·rename_i cs
  split at h
  ·rename_i l hl
   cases h
   obtain ⟨k1,_⟩:=lr (R:=R) (w:=w) hl
   exact .bt (vs:=cs.toList) k1
  ·cases h
 ·exact (pC h).1
theorem aF {E:Env} {R:af} {w:World} {β:Nat→Nat} {s:St} {a:Act} (h:aL E R w β s a) (x:Operand):lZ R w β (ba E s.ab x) (a.eval x):=by
 cases x with
 | tmp t=>
  simp only [ba,Act.eval]
  by_cases hn:lk s.ab t=.none
  ·rw [hn]; trivial
  ·obtain ⟨c,h1,h2⟩:=h.t t hn
   have:a.tmps.getD t undef=c:=by simp [Array.getD_eq_getD_getElem?,h1]
   rw [this]
   exact h2
 | const v=>
  simp only [ba,Act.eval]
  cases hc:pj v with
  | none=>trivial
  | some y=>exact se hc
 | global g=>
  simp only [ba,Act.eval]
  cases hg:E.cG g with
  | none=>trivial
  | some cs=>exact Rel.ep (h.g.cG g cs hg).1
 | func f=>exact Rel.fn .nil .nil
end Go.Am
