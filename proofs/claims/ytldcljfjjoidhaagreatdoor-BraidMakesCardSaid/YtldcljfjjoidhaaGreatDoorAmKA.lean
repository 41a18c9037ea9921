/- The abstract machine: its values,its state,and what each operation does (definitions alone). -/
import Derived.CallsIn
import Derived.RangeFuncLeaves
import Derived.Laws.AppendOwn
import Derived.Laws.CopyRow
import Derived.Laws.Slices
set_option linter.all false
open Array renaming getElem?_eq_some_iff→abo
open BitVec renaming ofInt→aaO
open Go.Op renaming bytesLess→abi
open Go.Value renaming oneCell'→aao, cells→aau
open List renaming replicate→aaY, getElem?_eq_some_iff→abp, getElem?_append_left→abq, getElem?_eq_getElem→abr, getElem?_set_self→abt
open Nat renaming beq→aad, ble→aaB, min→abj, lt_of_lt_of_le→abn, blt→abu
open Option.some renaming inj→abz
namespace Go.Am
open Go
inductive LK where
 |nil | full | lM | own (id:Nat) | bF (id j:Nat)
inductive AV where
 |bool (b:Bool)
 |int (k:IntKind) (n:Int)
 |str (s:List UInt8)
 |agg (cs:List AV)
 |bu (vs:List AV)
 |jI
 |ptr (id off:Nat)
 |ep (cs:List AV)
 |list (k:LK) (sz:Nat) (es:List AV)
 |lz (id off sz len cap:Nat)
 |dM (id f off sz len:Nat)
 |gp (id f i off sz:Nat) (t:TypeId)
 |lX
 |map (id:Nat)
 |cY
 |fn (f:FuncId) (first cap:List AV)
 |yield (id:Nat)
 |qb
 |iface (t:TypeId) (v:AV)
def LK.closed:LK→Bool
 |.own _=>false
 |.bF _ _=>false
 |_=>true
mutual
def AV.closed:AV→Bool
 |.agg cs=>bg cs
 |.bu cs=>bg cs
 |.ep cs=>bg cs
 |.list k _ _=>k.closed
 |.fn _ x y=>bg x&&bg y
 |.iface _ v=>v.closed
 |.ptr _ _=>false
 |.lz _ _ _ _ _=>false
 |.dM _ _ _ _ _=>false
 |.gp _ _ _ _ _ _=>false
 |.map _=>false
 |.yield _=>false
 |_=>true
def bg:List AV→Bool
 |[]=>true
 |a :: l=>a.closed&&bg l
end
mutual
def AV.jc:AV→AV
 |.agg cs=>.agg (mY cs)
 |.bu cs=>.bu (mY cs)
 |.list (.own _) sz es=>.list .lM sz es
 |.list (.bF _ _) sz es=>.list .lM sz es
 |v=>v
def mY:List AV→List AV
 |[]=>[]
 |a :: l=>a.jc :: mY l
end
inductive SV where
 |none
 |v (a:AV)
 |lp (key off:Nat)
inductive Ent where
 |put (d:Nat) (x:SV)
 |kill (d:Nat)
abbrev bk:=List Ent
abbrev dc:=List (Nat × List AV)
def lk:bk→Nat→SV
 |[],_=>.none
 |.put d x :: l,t=>bif aad d t then x else lk l t
 |.kill d :: l,t=>match lk l t with
  |.lp k off=>bif aad k d then .none else .lp k off
  |x=>x
def eF:dc→Nat→Option (List AV)
 |[],_=>none
 |(d,cs) :: l,k=>bif aad d k then some cs else eF l k
inductive GO where
 |dead
 |row (cs:List AV) (el:TypeId)
 |tok (f sz:Nat) (e:TypeId)
 |bF (fs:List Nat) (sz:Nat) (e:TypeId)
 |pY (sR n:Nat) (left:List Nat) (cur:Option Nat) (t:TypeId)
 |dv (es:List AV) (sz:Nat) (el:TypeId)
 |map (es:List (AV × AV))
 |iI (s:List UInt8) (pos:Nat)
 |loop (busy:Bool) (pending:Option Code) (fn:FuncId) (ab:bk) (n:Nat) (params:List Tmp) (assign body:Code) (defers:Nat) (done:Bool)
 |defers (open_:Bool)
structure St where
 ab:bk
 boxes:dc
 G:List GO
 marks:List Nat
 ro:Option Nat
 n:Nat
def nth {α:Type}:List α→Nat→Option α
 |[],_=>none
 |a :: _,0=>some a
 |_ :: l,n+1=>nth l n
def aG {α:Type}:List α→Nat→α→List α
 |[],_,_=>[]
 |_ :: l,0,x=>x :: l
 |a :: l,n+1,x=>a :: aG l n x
def takeN {α:Type}:Nat→List α→Option (List α)
 |0,_=>some []
 |_+1,[]=>none
 |n+1,a :: l=>match takeN n l with
  |some r=>some (a :: r)
  |none=>none
def gM {α:Type}:Nat→List α→List α
 |0,l=>l
 |_+1,[]=>[]
 |n+1,_ :: l=>gM n l
def Ji {α:Type} (off n:Nat) (l:List α):Option (List α):=takeN n (gM off l)
def cu {α:Type}:List α→Nat→List α→List α
 |l,_,[]=>l
 |[],_,_ :: _=>[]
 |_ :: l,0,y :: ys=>y :: cu l 0 ys
 |a :: l,n+1,y :: ys=>a :: cu l n (y :: ys)
def AV.cells:AV→List AV
 |.agg cs=>cs
 |v=>[v]
def AV.one:AV→Bool
 |.agg _=>false
 |.bu _=>false
 |_=>true
def tJ:Value→Option AV
 |.bool b=>some (.bool b)
 |.int k n=>some (.int k n)
 |.string s=>some (.str s.data.toList)
 |.slice none 0 0=>some (.list .nil 0 [])
 |.pointer none=>some .jI
 |.map none=>some .lX
 |.nilFunc=>some .cY
 |.nilIface=>some .qb
 |_=>none
def nY:List Value→Option (List AV)
 |[]=>some []
 |v :: vs=>match tJ v,nY vs with
  |some a,some l=>some (a :: l)
  |_,_=>none
def tK:Value→Option AV
 |.agg cs=>match nY cs.toList with
  |some l=>some (.agg l)
  |none=>none
 |.tuple cs=>match nY cs.toList with
  |some l=>some (.bu l)
  |none=>none
 |v=>tJ v
inductive TK where
 |sc
 |int (k:IntKind)
 |str
 |st (fs:List (Nat × Nat × Bool))
 |arr (len esz:Nat) (aga:Bool)
 |sl (elem esz:Nat) (aga:Bool) (bR:Nat) (ab7:Option AV)
 |map (key elem:TypeId) (ab7:Option AV)
mutual
inductive EK where
 |no
 |bool
 |int
 |str
 |st (fs:Wy)
inductive Wy where
 |nil
 |cons (off sz:Nat) (ag:Bool) (k:EK) (rest:Wy)
end
structure TI where
 k:TK
 size:Nat
 agg:Bool
 zero:Option AV
 ek:EK
def kX:TypeDesc→Bool
 |.struct _=>true
 |.array _ _=>true
 |_=>false
def fieldsOf (P:Program):List Field→Option (List (Nat × Nat × Bool))
 |[]=>some []
 |f :: fs=>match P.info? f.type,P.underlying f.type,fieldsOf P fs with
  |some i,some u,some l=>some ((f.offset,i.size,kX u) :: l)
  |_,_,_=>none
def ij (i:TypeInfo):Option AV:=match i.zero with
 |some z=>tK z
 |none=>none
def sf (P:Program):TypeDesc→Option TK
 |.int k=>some (.int k)
 |.string=>some .str
 |.struct fs=>match fieldsOf P fs.toList with
  |some l=>some (.st l)
  |none=>none
 |.array n e=>match P.info? e,P.underlying e with
  |some i,some u=>some (.arr n i.size (kX u))
  |_,_=>none
 |.slice e=>match P.info? e,P.underlying e with
  |some i,some u=>some (.sl e i.size (kX u) i.bytes (ij i))
  |_,_=>none
 |.map k e=>match P.info? e with
  |some i=>some (.map k e (ij i))
  |none=>none
 |_=>some .sc
def Hk (P:Program) (ek:TypeId→EK):List Field→Option Wy
 |[]=>some .nil
 | f :: fs => if f.name == "_" then none else match P.info? f.type, P.underlying f.type, Hk P ek fs with
  |some i,some u,some l=>some (.cons f.offset i.size (kX u) (ek f.type) l)
  |_,_,_=>none
def yT (sz:Nat) (ag:Bool) (k:EK):Nat→Nat→Wy
 |0,_=>.nil
 |n+1,i=>.cons (i * sz) sz ag k (yT sz ag k n (i+1))
def sh (P:Program):Nat→TypeId→EK
 |0,_=>.no
 |n+1,t=>match P.underlying t with
  |some .bool=>.bool
  |some (.int _)=>.int
  |some .string=>.str
  |some (.struct fs)=>if P.stoodInHeld t then .no else match Hk P (sh P n) fs.toList with
   |some l=>.st l
   |none=>.no
  |some (.array m e)=>match P.info? e,P.underlying e with
   |some i,some u=>.st (yT i.size (kX u) (sh P n e) m 0)
   |_,_=>.no
  |_=>.no
def wH (P:Program) (t:TypeId):EK:=match sh P 6 t with
 |.st l=>if P.eqGuardType P.depth t then .no else .st l
 |k=>k
def KP (P:Program) (t:TypeId):Option TI:=
 match P.info? t,P.underlying t with
 |some i,some u=>match sf P u with
  |some k=>some { k:=k,size:=i.size,agg:=kX u,zero:=ij i,ek:=wH P t }
  |none=>none
 |_,_=>none
def Jj:AV→AV→Bool
 |.bool a,.bool b=>a == b
 |.int k a,.int k' b=>(k == k')&&a == b
 |.str a,.str b=>a == b
 |.jI,.jI=>true
 |.ptr i o,.ptr i' o'=>aad i i'&&aad o o'
 |.lX,.lX=>true
 |.map i,.map i'=>aad i i'
 |.cY,.cY=>true
 |.qb,.qb=>true
 |.lz a b c d e,.lz a' b' c' d' e'=>aad a a'&&aad b b'&&aad c c'&&aad d d'&&aad e e'
 |.dM a b c d e,.dM a' b' c' d' e'=>aad a a'&&aad c c'&&aad d d'&&(aad b b'&&aad e e')
 |.gp a b c d e t,.gp a' b' c' d' e' t'=>aad a a'&&aad b b'&&aad c c'&&aad d d'&&aad e e'&&aad t t'
 |_,_=>false
mutual
def fa:AV→AV→Bool
 |.fn f x y,.fn f' x' y'=>aad f f'&&jo x x'&&jo y y'
 |.agg cs,.agg cs'=>jo cs cs'
 |.ep cs,.ep cs'=>jo cs cs'
 |.bu cs,.bu cs'=>jo cs cs'
 |.list .nil a es,.list .nil a' es'=>aad a a'&&jo es es'
 |.list .full a es,.list .full a' es'=>aad a a'&&jo es es'
 |.list .lM a es,.list .lM a' es'=>aad a a'&&jo es es'
 |.list (.own i) a es,.list (.own i') a' es'=>aad i i'&&aad a a'&&jo es es'
 |.list (.bF i j) a es,.list (.bF i' j') a' es'=>aad i i'&&aad j j'&&aad a a'&&jo es es'
 |a,b=>Jj a b
def jo:List AV→List AV→Bool
 |[],[]=>true
 |a :: l,b :: r=>fa a b&&jo l r
 |_,_=>false
end
mutual
inductive aO
 |int (k:IntKind)
 |bool
 |str
 |agg (ps:aQ)
 |bu (ps:aQ)
 |list (sz:Nat) (p:aO)
 |own (id sz:Nat) (p:aO)
 |bF (id sz:Nat) (p:aO)
 |dO (v:AV)
 |two (u v:AV)
inductive aQ
 |nil
 |cons (p:aO) (ps:aQ)
end
abbrev aQ.ci (r:aQ):aQ:=.cons (.int .i64) r
def ab8 (s:Bool) (α β:Type):Type:=match s with
 |true=>α
 |false=>α × β
def aQ.isNil:aQ→Bool
 |.nil=>true
 |.cons _ _=>false
mutual
def aO.T:aO→Type
 |.int _=>Int
 |.bool=>Bool
 |.str=>List UInt8
 |.agg ps=>ps.T
 |.bu ps=>ps.T
 |.list _ p=>List p.T
 |.own _ _ p=>List p.T
 |.bF _ _ p=>Nat × List p.T
 |.dO _=>Unit
 |.two _ _=>Bool
def aQ.T:aQ→Type
 |.nil=>Unit
 |.cons p ps=>ab8 ps.isNil p.T ps.T
end
mutual
def aO.enc:(p:aO)→p.T→AV
 |.int k,(n:Int)=>.int k n
 |.bool,(b:Bool)=>.bool b
 |.str,(s:List UInt8)=>.str s
 |.agg ps,x=>.agg (ps.enc x)
 |.bu ps,x=>.bu (ps.enc x)
 |.list sz p,(xs:List p.T)=>.list .lM sz (xs.map p.enc)
 |.own id sz p,(xs:List p.T)=>.list (.own id) sz (xs.map p.enc)
 |.bF id sz p,(x:Nat × List p.T)=>.list (.bF id x.1) sz (x.2.map p.enc)
 |.dO v,_=>v
 |.two u v,(b:Bool)=>bif b then v else u
def aQ.enc:(ps:aQ)→ps.T→List AV
 |.nil,_=>[]
 |.cons p .nil,x=>[p.enc x]
 |.cons p (.cons q ps),x=>p.enc x.1 :: (aQ.cons q ps).enc x.2
end
def XF:IntKind→IntKind→Bool:=fun a b=>decide (a=b)
def AV.kX:AV→List AV
 |.agg cs=>cs
 |_=>[]
def AV.XG:AV→List AV
 |.bu cs=>cs
 |_=>[]
def AV.ft:AV→List AV
 |.list _ _ es=>es
 |_=>[]
def AV.agb:AV→Nat
 |.list (.bF _ j) _ _=>j
 |_=>0
def AV.mN:AV→Int
 |.int _ n=>n
 |_=>0
def AV.ab9:AV→Bool
 |.bool b=>b
 |_=>false
def AV.XH:AV→List UInt8
 |.str s=>s
 |_=>[]
def fH:List AV→AV
 |a :: _=>a
 |[]=>.jI
def ME:List AV→List AV
 |_ :: l=>l
 |[]=>[]
mutual
def aO.bC:(p:aO)→AV→p.T
 |.int _,v=>v.mN
 |.bool,v=>v.ab9
 |.str,v=>v.XH
 |.agg ps,v=>ps.bC v.kX
 |.bu ps,v=>ps.bC v.XG
 |.list _ p,v=>v.ft.map p.bC
 |.own _ _ p,v=>v.ft.map p.bC
 |.bF _ _ p,v=>(v.agb,v.ft.map p.bC)
 |.dO _,_=>()
 |.two _ v,a=>fa a v
def aQ.bC:(ps:aQ)→List AV→ps.T
 |.nil,_=>()
 |.cons p .nil,l=>p.bC (fH l)
 |.cons p (.cons q ps),l=>(p.bC (fH l),(aQ.cons q ps).bC (ME l))
end
def allFit (f:AV→Bool):List AV→Bool
 |[]=>true
 |a :: l=>f a&&allFit f l
mutual
def aO.fits:aO→AV→Bool
 |.int k,v=>match v with
  |.int k' _=>XF k k'
  |_=>false
 |.bool,v=>match v with
  |.bool _=>true
  |_=>false
 |.str,v=>match v with
  |.str _=>true
  |_=>false
 |.agg ps,v=>match v with
  |.agg cs=>ps.fits cs
  |_=>false
 |.bu ps,v=>match v with
  |.bu cs=>ps.fits cs
  |_=>false
 |.list sz p,v=>match v with
  |.list _ bT es=>(aad sz bT || es.isEmpty)&&allFit p.fits es
  |_=>false
 |.own id sz p,v=>match v with
  |.list (.own kV) bT es=>(aad id kV&&aad sz bT)&&allFit p.fits es
  |_=>false
 |.bF id sz p,v=>match v with
  |.list (.bF kV _) bT es=>(aad id kV&&aad sz bT)&&allFit p.fits es
  |_=>false
 |.dO v,u=>fa u v
 |.two u v,a=>fa a u || fa a v
def aQ.fits:aQ→List AV→Bool
 |.nil,l=>l.isEmpty
 |.cons p ps,l=>match l with
  |a :: l=>p.fits a&&ps.fits l
  |[]=>false
end
def aO.dec (p:aO) (v:AV):Option p.T:=bif p.fits v then some (p.bC v) else none
def aQ.dec (ps:aQ) (l:List AV):Option ps.T:=bif ps.fits l then some (ps.bC l) else none
structure Env where
 P:Program
 ti:TypeId→Option TI
 cw:Nat→Option (List AV)
 Dt:FuncId→Tmp→Bool
 RM:TypeId→Option aO
 lo:Nat:=0
 gho:FuncId→Tmp→List (Option Nat × Nat × TypeId):=fun _ _=>[]
 elg:TypeId→Option aO:=fun _=>none
 gx:Nat→Bool:=fun _=>false
 KQ:∀ t i,ti t=some i→KP P t=some i
 mixed:P.follows .mixedOrders=true
 qh:∀ g cs,cw g=some cs→bg cs=true
def bQ (E:Env) (ab:bk):Operand→SV
 |.tmp t=>lk ab t
 |.const v=>match tK v with
  |some a=>.v a
  |none=>.none
 |.global g=>match E.cw g with
  |some cs=>.v (.ep cs)
  |none=>.none
 |.func f=>.v (.fn f [] [])
def St.put (s:St) (dst:Option Tmp) (x:SV):St:=match dst with
 |some d=>match abu d s.n with
  |true=>⟨.put d x :: s.ab,s.boxes,s.G,s.marks,s.ro,s.n⟩
  |false=>s
 |none=>s
def gW:AV:=.bu []
def vk (agg:Bool) (cs:List AV):Option AV:=
 if agg then some (.agg cs) else match cs with
  |[c]=>some c
  |_=>none
def oQ (s:St):SV→Option (List AV × Nat)
 |.lp k off=>match eF s.boxes k with
  |some cs=>some (cs,off)
  |none=>none
 |.v (.ptr id off)=>match nth s.G id with
  |some (.row cs _)=>some (cs,off)
  |_=>none
 |.v (.ep cs)=>some (cs,0)
 |_=>none
def Cb (n:Nat):SV→Option SV
 |.lp k off=>some (.lp k (off+n))
 |.v (.ptr id off)=>some (.v (.ptr id (off+n)))
 |.v (.ep cs)=>some (.v (.ep (gM n cs)))
 |.v (.gp id f i off sz t)=>some (.v (.gp id f i (off+n) sz t))
 |_=>none
def Du (t:Bool):AV→AV→AV
 |.bool x,.bool y=>.bool (bif t then x else y)
 |.int k x,.int k' y=>if k=k' then .int k (bif t then x else y) else (bif t then .int k x else .int k' y)
 |a,b=>bif t then a else b
def Jk (ag:Bool) (off sz:Nat) (cs:List AV):Option AV:=
 if ag then (match Ji off sz cs with | some l=>vk true l | none=>none) else (match Ji off 1 cs with | some l=>vk false l | none=>none)
mutual
def mO:EK→AV→AV→Option Bool
 |.bool,.bool a,.bool b=>some (a == b)
 |.int,.int k a,.int k' b=>if k=k' then some (a == b) else none
 |.str,.str a,.str b=>some (a == b)
 |.st fs,.agg xs,.agg ys=>vl fs xs ys
 |_,_,_=>none
def vl:Wy→List AV→List AV→Option Bool
 |.nil,_,_=>some true
 |.cons off sz ag k rest,xs,ys=>match Jk ag off sz xs,Jk ag off sz ys with
  |some a,some b=>match mO k a b,vl rest xs ys with
   |some t,some u=>some (t&&u)
   |_,_=>none
  |_,_=>none
end
def BE (k:IntKind) (a b:Int):Int:=k.wrap (aaO k.bits a &&& aaO k.bits b).toNat
def orI (k:IntKind) (a b:Int):Int:=k.wrap (aaO k.bits a ||| aaO k.bits b).toNat
def KR (k:IntKind) (a b:Int):Int:=k.wrap (aaO k.bits a ^^^ aaO k.bits b).toNat
def EY (op:BinOp) (x y:AV):Option (Bool × AV):=
 match x,y with
 |.int k a,.int k' b=>
  match op with
  |.shl=>some (decide (0≤b),.int k (k.wrap (a * 2 ^ (min b.toNat k.bits))))
  |.shr=>some (decide (0≤b),.int k (a.fdiv (2 ^ (min b.toNat k.bits))))
  |_=>if k=k' then
    match op with
    |.add=>some (true,.int k (k.wrap (a+b)))
    |.sub=>some (true,.int k (k.wrap (a - b)))
    |.mul=>some (true,.int k (k.wrap (a * b)))
    |.quo=>some (!(decide (b=0)),.int k (k.wrap (a.tdiv b)))
    |.rem=>some (!(decide (b=0)),.int k (a.tmod b))
    |.and=>some (true,.int k (BE k a b))
    |.or=>some (true,.int k (orI k a b))
    |.xor=>some (true,.int k (KR k a b))
    |.eql=>some (true,.bool (a == b))
    |.neq=>some (true,.bool (a != b))
    |.lss=>some (true,.bool (a < b))
    |.leq=>some (true,.bool (a≤b))
    |.gtr=>some (true,.bool (a > b))
    |.geq=>some (true,.bool (a≥b))
    |_=>none
   else none
 |.str a,.str b=>
  match op with
  |.add=>some (decide (a.length+b.length≤9223372036854775807),.str (a++b))
  |.eql=>some (true,.bool (a == b))
  |.neq=>some (true,.bool (!(a == b)))
  |.lss=>some (true,.bool (abi a b))
  |.leq=>some (true,.bool (abi a b || a == b))
  |.gtr=>some (true,.bool (!(abi a b || a == b)))
  |.geq=>some (true,.bool (!(abi a b)))
  |_=>none
 |_,_=>none
end Go.Am
namespace Go.Am
open Go
def St.kill (s:St) (d:Nat):St:=⟨.kill d :: s.ab,s.boxes,s.G,s.marks,s.ro,s.n⟩
def AV.ba:AV→Bool
 |.bu _=>false
 |_=>true
def St.fj (s:St) (o:GO):St:=⟨s.ab,s.boxes,s.G++[o],s.marks,s.ro,s.n⟩
def St.cP (s:St) (G:List GO):St:=⟨s.ab,s.boxes,G,s.marks,s.ro,s.n⟩
def St.xI (s:St) (d:Nat) (cs:List AV):St:=⟨s.ab,(d,cs) :: s.boxes,s.G,s.marks,s.ro,s.n⟩
def gq (E:Env) (f:FuncId) (s:St) (dst:Option Tmp) (el:TypeId) (cs:List AV):Option (Bool × St):=
 match dst with
 |none=>none
 |some d=>
  if E.Dt f d then some (true,(s.fj (.row cs el)).put (some d) (.v (.ptr s.G.length 0)))
  else match abu d s.n with
   |true=>some (true,((s.kill d).xI d cs).put (some d) (.lp d 0))
   |false=>none
def oR (E:Env) (ab:bk):List Operand→Option (List AV)
 |[]=>some []
 |x :: l=>match bQ E ab x,oR E ab l with
  |.v a,some r=>some (a :: r)
  |_,_=>none
def Rj (E:Env) (ab:bk):List (Nat × Operand)→Option (List (Nat × AV))
 |[]=>some []
 |(i,x) :: l=>match bQ E ab x,Rj E ab l with
  |.v a,some r=>some ((i,a) :: r)
  |_,_=>none
def placeOf:TK→Nat→Option (Nat × Nat)
 |.st fs,j=>match nth fs j with
  |some (o,sz,_)=>some (o,sz)
  |none=>none
 |.arr _ esz _,j=>some (j * esz,esz)
 |_,_=>none
def wI (place:Nat→Option (Nat × Nat)) (cells:List AV):List (Nat × AV)→Option (List AV)
 |[]=>some cells
 |(i,v) :: rest=>match place i with
  |none=>none
  |some (off,sz)=>
   if v.ba&&aad v.cells.length sz&&aaB (off+sz) cells.length then wI place (cu cells off v.cells) rest else none
def EZ (esz:Nat) (es:List AV):List (Nat × AV)→Option (List AV)
 |[]=>some es
 |(i,v) :: rest=>
  if v.ba&&aad v.cells.length esz&&aaB (i+1) es.length&&v.closed then EZ esz (aG es i v) rest else none
def oS (E:Env) (s:St) (t:TypeId) (parts:List (Nat × Operand)):Option AV:=
 match E.ti t,Rj E s.ab parts with
 |some i,some ps=>match i.zero with
  |some z=>match wI (placeOf i.k) z.cells ps with
   |some cs=>if i.agg&&z.ba then some (.agg cs) else none
   |none=>none
  |none=>none
 |_,_=>none
def Cc:List (Nat × AV)→List (Nat × AV)
 |[]=>[]
 |(i,v) :: l=>(i,v.jc) :: Cc l
def cn (E:Env) (s:St) (t:TypeId) (len:Nat) (parts:List (Nat × Operand)):Option AV:=
 match E.ti t,Rj E s.ab parts with
 |some i,some ps=>match i.k with
  |.sl _ esz _ _ (some z)=>
    if aad z.cells.length esz&&aaB 1 esz&&aaB (len * esz) 16777216&&z.ba&&z.closed then
     match EZ esz (aaY len z) (Cc ps) with
     |some es=>some (.list .full esz es)
     |none=>none
    else none
  |_=>none
 |_,_=>none
def tL (E:Env) (s:St) (t:TypeId) (p:SV):Option AV:=
 match E.ti t,oQ s p with
 |some i,some (cs,off)=>match Ji off i.size cs with
  |some l=>vk i.agg l
  |none=>none
 |_,_=>none
def kY (E:Env) (s:St) (t:TypeId) (p x:SV):Option St:=
 match E.ti t,x with
 |some i,.v v=>
  if v.ba&&aad v.cells.length i.size then
   match p with
   |.lp k off=>match eF s.boxes k with
    |some cs=>if aaB (off+v.cells.length) cs.length then some (s.xI k (cu cs off v.cells)) else none
    |none=>none
   |.v (.ptr id off)=>match nth s.G id with
    |some (.row cs el)=>if aaB (off+v.cells.length) cs.length then some (s.cP (aG s.G id (.row (cu cs off v.cells) el))) else none
    |_=>none
   |_=>none
  else none
 |_,_=>none
def ae (es:List AV) (n:Nat):AV:=match nth es n with
 |some e=>e
 |none=>gW
def mZ:List GO→Nat→TypeId→Nat→Option Nat
 |[],_,_,_=>none
 |.bF _ sz e :: G,bT,e',i=>match mZ G bT e' (i+1) with
  |some j=>some j
  |none=>bif aad sz bT&&aad e e' then some i else none
 |_ :: G,bT,e',i=>mZ G bT e' (i+1)
def aO.fin (G:List GO):aO→aO
 |.bF e sz p=>match mZ G sz e 0 with
  |some id=>.bF id sz p
  |none=>.bF e sz p
 |.agg ps=>.agg (aca ps)
 |p=>p
where
 aca:aQ→aQ
  |.nil=>.nil
  |.cons p ps=>.cons (match p with
   |.bF e sz q=>match mZ G sz e 0 with
    |some id=>.bF id sz q
    |none=>.bF e sz q
   |p=>p) (aca ps)
def Wz (E:Env) (G:List GO) (t:TypeId):Option aO:=match E.elg t with
 |some p=>some (p.fin G)
 |none=>E.RM t
def yU (E:Env) (s:St) (id f i sz:Nat) (t:TypeId):Option (Bool × AV):=match nth s.G id with
 |some (.dv es bT _)=>match Wz E s.G t with
  |some p=>if aad sz bT then some (decide (f=es.length)&&decide (i < es.length)&&p.fits (ae es i),p.enc (p.bC (ae es i))) else none
  |none=>if aad sz bT then some (decide (f=es.length)&&decide (i < es.length),ae es i) else none
 |_=>none
def Cd (E:Env) (s:St) (t:TypeId) (p:SV):Option (Bool × AV):=match p with
 |.v (.gp id f i off sz ty)=>match E.ti t,yU E s id f i sz ty with
  |some ti,some (c,v)=>match Ji off ti.size v.cells with
   |some l=>match vk ti.agg l with
    |some r=>some (c,r)
    |none=>none
   |none=>none
  |_,_=>none
 |p=>match tL E s t p with
  |some v=>some (true,v)
  |none=>none
def kZ (E:Env) (s:St) (t:TypeId) (p x:SV):Option (Bool × St):=match p with
 |.v (.gp id f i off sz ty)=>match E.ti t,x,nth s.G id with
  |some ti,.v x,some (.dv es bT el)=>
   if x.ba&&aad x.cells.length ti.size&&aad sz bT then
    if aad off 0&&aad ti.size sz then some (decide (f=es.length)&&decide (i < es.length),s.cP (aG s.G id (.dv (aG es i x) bT el)))
    else match yU E s id f i sz ty with
     |some (c,.agg cs)=>if aaB (off+ti.size) cs.length&&aad cs.length sz then some (c,s.cP (aG s.G id (.dv (aG es i (.agg (cu cs off x.cells))) bT el))) else none
     |_=>none
   else none
  |_,_,_=>none
 |p=>match kY E s t p x with
  |some s'=>some (true,s')
  |none=>none
def lY (E:Env) (t:TypeId) (x ix:SV):Option (Bool × SV):=
 match E.ti t,ix with
 |some i,.v (.int _ n)=>match i.k,x with
  |.sl _ esz _ _ _,.v (.list _ sz es)=>if aad sz esz || es.isEmpty then
    match E.RM t with
    |some p=>some (decide (0≤n∧n < es.length)&&p.fits (ae es n.toNat),.v (.ep (p.enc (p.bC (ae es n.toNat))).cells))
    |none=>some (decide (0≤n∧n < es.length),.v (.ep (ae es n.toNat).cells))
   else none
  |.sl _ esz _ _ _,.v (.lz id off sz len _)=>if aad sz esz then some (decide (0≤n∧n < len),.v (.ptr id (off+n.toNat * sz))) else none
  |.sl _ esz _ _ _,.v (.dM id f off sz len)=>if aad sz esz then some (decide (0≤n∧n < len),.v (.gp id f (off+n.toNat) 0 sz t)) else none
  |.arr len esz _,.v (.ep cs)=>match E.RM t with
   |some p=>if aad esz 1&&aaB len cs.length then some (decide (0≤n∧n < len)&&p.fits (ae cs n.toNat),.v (.ep [p.enc (p.bC (ae cs n.toNat))])) else none
   |none=>some (decide (0≤n∧n < len),.v (.ep (gM (n.toNat * esz) cs)))
  |.arr len esz _,p=>match Cb (n.toNat * esz) p with
   |some q=>some (decide (0≤n∧n < len),q)
   |none=>none
  |_,_=>none
 |_,_=>none
def lZ (E:Env) (t:TypeId) (x:SV) (j:Nat):Option SV:=
 match E.ti t with
 |some i=>match i.k with
  |.st fs=>match nth fs j with
   |some (o,sz,_)=>if aaB 1 sz then Cb o x else none
   |none=>none
  |_=>none
 |none=>none
def Hl (E:Env) (t:TypeId) (x:SV) (j:Nat):Option AV:=
 match E.ti t,x with
 |some i,.v (.agg cs)=>match i.k with
  |.st fs=>match nth fs j with
   |some (o,sz,ag)=>if ag then (match Ji o sz cs with | some l=>vk true l | none=>none) else (match Ji o 1 cs with | some l=>vk false l | none=>none)
   |none=>none
  |_=>none
 |_,_=>none
def Hm (E:Env) (t:TypeId) (x ix:SV):Option (Bool × AV):=
 match E.ti t,x,ix with
 |some i,.v (.str l),.v (.int _ n)=>match i.k with
  |.str=>some (decide (0≤n∧n < l.length),.int .u8 (l.getD n.toNat 0).toNat)
  |_=>none
 |some i,.v (.agg cs),.v (.int _ n)=>match i.k with
  |.arr len esz ag=>match (if ag then (match Ji (n.toNat * esz) esz cs with | some l=>vk true l | none=>none) else (match Ji (n.toNat * esz) 1 cs with | some l=>vk false l | none=>none)) with
   |some v=>some (decide (0≤n∧n < len),v)
   |none=>none
  |_=>none
 |_,_,_=>none
def Dv (y:Nat):SV→Option (Bool × Nat)
 |.v (.int _ n)=>some (decide (0≤n∧n≤y),n.toNat)
 |_=>none
def gJ {α:Type} (lo hi:Nat) (l:List α):List α:=(l.take hi).drop lo
def oU (E:Env) (ab:bk):Option Operand→Option (Option SV)
 |none=>some none
 |some x=>some (some (bQ E ab x))
def Hn (len:Nat) (lo hi:Option SV):Option (Bool × Nat × Nat):=
 match (match hi with | none=>some (true,len) | some h=>Dv len h) with
 |none=>none
 |some (c1,h)=>match (match lo with | none=>some (true,0) | some l=>Dv h l) with
  |none=>none
  |some (c2,l)=>some (c1&&c2,l,h)
def mkD (agg:Bool) (l:List AV):AV:=match agg with
 |true=>.agg l
 |false=>fH l
def jd (agg:Bool) (sz:Nat):Nat→List AV→List AV
 |0,_=>[]
 |n+1,cs=>mkD agg (cs.take sz) :: jd agg sz n (cs.drop sz)
def Ho (ag:Bool) (e:AV):Bool:=e.ba&&(ag || e.one)&&e.closed
def Dw (E:Env) (t:TypeId) (x:SV) (lo hi:Option SV) (mx:Option Operand):Option (Bool × AV):=
 match E.ti t,mx with
 |some i,none=>match i.k,x with
  |.str,.v (.str l)=>match Hn l.length lo hi with
   |some (c,a,b)=>some (c,.str (gJ a b l))
   |none=>none
  |.sl _ esz _ _ _,.v (.list k sz es)=>
   if aad sz esz || es.isEmpty then
    match Hn es.length lo hi with
    |some (c,a,b)=>some (c,.list (match k with | .nil=>.nil | .full=>(match hi with | none=>.full | some _=>.lM) | _=>.lM) esz (gJ a b es))
    |none=>none
   else none
  |.sl _ esz _ _ _,.v (.lz id off sz len cap)=>
   if aad sz esz then
    match Hn len lo hi with
    |some (c,a,b)=>some (c,.lz id (bif aad cap a then off else off+a * sz) sz (b - a) (cap - a))
    |none=>none
   else none
  |.sl _ esz _ _ _,.v (.dM id f off sz len)=>
   if aad sz esz then
    match Hn len lo hi with
    |some (c,a,b)=>some (c,.dM id f (off+a) sz (b - a))
    |none=>none
   else none
  |.arr len esz ag,.v (.ep cs)=>match lo,hi with
   |none,none=>if aaB (len * esz) cs.length&&aaB 1 esz&&(ag || aad esz 1)&&allFit (Ho ag) (jd ag esz len cs) then some (true,.list .full esz (jd ag esz len cs)) else none
   |_,_=>none
  |_,_=>none
 |_,_=>none
def MF (G:List GO) (id n:Nat) (f sz:Nat) (e:TypeId):List GO:=aG G id (.tok (f+n) sz e)
def KS (fs:List Nat) (j n:Nat):List Nat:=bif aad j fs.length then fs++[n] else aG fs j n
def RN (fs:List Nat) (j n:Nat):Bool:=decide (nth fs j=some n) || (aad j fs.length&&aad n 0)
def ik (G:List GO) (elem esz bR:Nat) (x:AV) (ys:List AV):Option (Bool × AV × List GO):=
 match x,ys with
 |.list k sz es,[]=>match k with
  |.nil=>some (true,.list .nil sz es,G)
  |k=>some (true,.list k sz es,G)
 |.list k sz es,y :: ys=>
  match k with
  |.nil=>some (decide ((es.length+(y :: ys).length) * bR≤140737488355328),.list (.own G.length) esz (es++(y :: ys)),G++[.tok (es.length+(y :: ys).length) esz elem])
  |.full=>if aad sz esz then some (decide ((es.length+(y :: ys).length) * bR≤140737488355328),.list (.own G.length) esz (es++(y :: ys)),G++[.tok (es.length+(y :: ys).length) esz elem]) else none
  |.own id=>match nth G id with
   |some (.tok f bT e')=>if aad bT esz&&aad e' elem&&aad sz esz then
     some (decide (f=es.length)&&decide ((es.length+(y :: ys).length) * bR≤140737488355328),.list (.own id) esz (es++(y :: ys)),MF G id (y :: ys).length f esz elem) else none
   |_=>none
  |.bF id j=>match nth G id with
   |some (.bF fs bT e')=>if aad bT esz&&aad e' elem&&aad sz esz then
     some (RN fs j es.length&&decide ((es.length+(y :: ys).length) * bR≤140737488355328),.list (.bF id j) esz (es++(y :: ys)),aG G id (.bF (KS fs j (es.length+(y :: ys).length)) esz elem)) else none
   |_=>none
  |.lM=>none
 |.dM id f off sz len,[]=>some (true,.dM id f off sz len,G)
 |.dM id f off sz len,y :: ys=>match nth G id with
  |some (.dv es bT e')=>if aad bT esz&&aad e' elem&&aad sz esz then
    some (decide (f=es.length)&&decide (off=0)&&decide (len=f)&&decide ((es.length+(y :: ys).length) * bR≤140737488355328),.dM id (es.length+(y :: ys).length) 0 esz (es.length+(y :: ys).length),aG G id (.dv (es++(y :: ys)) esz elem)) else none
  |_=>none
 |_,_=>none
def tM (b:UInt8):AV:=.int .u8 b.toNat
def jJ (es:List AV):List UInt8:=es.map fun a=>UInt8.ofNat a.mN.toNat
def yV (es:List AV):List UInt8:=es.flatMap fun a=>(Utf8.encode a.mN).data.toList
def KT:AV→List AV→Option AV
 |x,[]=>some x
 |.int k x,.int k' y :: l=>if k=k' then KT (.int k (if y > x then y else x)) l else none
 |_,_=>none
def Hp:AV→List AV→Option AV
 |x,[]=>some x
 |.int k x,.int k' y :: l=>if k=k' then Hp (.int k (if y < x then y else x)) l else none
 |.str x,.str y :: l=>Hp (.str (bif abi x y || x == y then x else y)) l
 |_,_=>none
def aq:List AV→List AV
 |[]=>[]
 |e :: es=>e.cells++aq es
def tN (s:St) (esz:Nat) (d x:AV):Option (Nat × List GO):=
 match d with
 |.lz id off sz len _=>match nth s.G id with
  |some (.row cs el)=>
   if aad sz esz then
    match x with
    |.list _ bT es=>if aad bT esz || es.isEmpty then
      let n:=abj es.length len
      let l:=aq (es.take n)
      if aaB (off+l.length) cs.length then some (n,aG s.G id (.row (cu cs off l) el)) else none
     else none
    |.str bs=>
      if aad esz 1&&aaB (off+(bs.take (abj bs.length len)).length) cs.length then some (abj bs.length len,aG s.G id (.row (cu cs off ((bs.take (abj bs.length len)).map tM)) el)) else none
    |.lz kV gX bT Hq _=>match nth s.G kV with
     |some (.row cs' _)=>
      let n:=abj Hq len
      match Ji gX (n * esz) cs' with
      |some l=>if aad bT esz&&aaB (off+l.length) cs.length then some (n,aG s.G id (.row (cu cs off l) el)) else none
      |none=>none
     |_=>none
    |_=>none
   else none
  |_=>none
 |.dM id f off sz len=>match nth s.G id,x with
  |some (.dv es bT el),.list _ szx xs=>if aad sz esz&&aad bT sz&&(aad szx esz || xs.isEmpty)&&aaB f es.length&&aaB es.length f&&aaB (off+abj xs.length len) es.length then
    some (abj xs.length len,aG s.G id (.dv (cu es off (xs.take (abj xs.length len))) bT el)) else none
  |_,_=>none
 |_=>none
def bU (E:Env) (s:St) (dst:Option Tmp) (b:Builtin) (args:List AV) (tys:List TypeId):Option (Bool × St):=
 match b,args with
 |.len,[x]=>match tys with
  |t :: _=>match E.ti t with
   |some i=>match i.k,x with
    |.str,.str l=>some (true,s.put dst (.v (.int .i64 l.length)))
    |.sl ..,.list _ _ es=>some (true,s.put dst (.v (.int .i64 es.length)))
    |.sl ..,.lz _ _ _ len _=>some (true,s.put dst (.v (.int .i64 len)))
    |.sl ..,.dM _ _ _ _ len=>some (true,s.put dst (.v (.int .i64 len)))
    |.arr n _ _,_=>some (true,s.put dst (.v (.int .i64 n)))
    |.map ..,.lX=>some (true,s.put dst (.v (.int .i64 0)))
    |.map ..,.map id=>match nth s.G id with
     |some (.map es)=>some (true,s.put dst (.v (.int .i64 es.length)))
     |_=>none
    |_,_=>none
   |none=>none
  |_=>none
 |.append,[x,.list _ sz ys]=>match tys with
  |[t,u]=>match E.ti t with
   |some i=>match i.k with
    |.sl elem esz _ bR (some z)=>
     if (aad sz esz || ys.isEmpty)&&aad t u&&aaB 1 esz&&aaB 1 bR&&aad z.cells.length esz&&z.ba then
      match ik s.G elem esz bR x ys with
      |some (c,v,G')=>some (c,(s.cP G').put dst (.v v))
      |none=>none
     else none
    |_=>none
   |none=>none
  |_=>none
 |.append,[x,.str bs]=>match tys with
  |[t,u]=>match E.ti t,E.ti u with
   |some i,some j=>match i.k,j.k with
    |.sl elem esz _ bR (some z),.str=>
     if aad esz 1&&aaB 1 bR&&aad z.cells.length esz&&z.ba then
      match ik s.G elem esz bR x (bs.map tM) with
      |some (c,v,G')=>some (c,(s.cP G').put dst (.v v))
      |none=>none
     else none
    |_,_=>none
   |_,_=>none
  |_=>none
 |.copy,[d,x]=>match tys with
  |t :: _=>match E.ti t with
   |some i=>match i.k with
    |.sl _ esz _ _ _=>match tN s esz d x with
     |some (n,G')=>some (true,(s.cP G').put dst (.v (.int .i64 n)))
     |none=>none
    |_=>none
   |none=>none
  |_=>none
 |.clear,[x]=>match dst,tys,x with
  |none,[t],.dM id f off sz len=>match E.ti t,nth s.G id with
   |some i,some (.dv es bT el)=>match i.k with
    |.sl elem esz _ _ (some z)=>if aad sz esz&&aad bT sz&&aad el elem&&aad z.cells.length esz&&z.ba&&z.closed then
      some (decide (f=es.length)&&decide (off+len≤es.length),s.cP (aG s.G id (.dv (cu es off (aaY len z)) bT el))) else none
    |_=>none
   |_,_=>none
  |_,_,_=>none
 |.max,x :: l=>match KT x l with
  |some v=>some (true,s.put dst (.v v))
  |none=>none
 |.min,x :: l=>match Hp x l with
  |some v=>some (true,s.put dst (.v v))
  |none=>none
 |_,_=>none
def EK.plain:EK→Bool
 |.bool | .int | .str=>true
 |.st _=>true
 |_=>false
def EK.wide:EK→Bool
 |.st _=>true
 |_=>false
def il:AV→Bool
 |.bool _=>true
 |.int _ _=>true
 |.str _=>true
 |_=>false
def qi:AV→AV→Bool
 |.bool a,.bool b=>a == b
 |.int k a,.int l b=>decide (k=l)&&a == b
 |.str a,.str b=>a == b
 |_,_=>false
def nZ:List AV→List AV→Bool
 |[],[]=>true
 |a :: l,b :: r=>qi a b&&nZ l r
 |_,_=>false
def na:AV→AV→Bool
 |.agg xs,.agg ys=>nZ xs ys
 |_,_=>false
def Ha (e:EK) (a b:AV):Option Bool:=match mO e a b with
 |some true=>bif e.wide&&!na a b then none else some true
 |r=>r
def lx (e:EK) (k:AV):List (AV × AV)→Option (Option AV)
 |[]=>some none
 |(k',v) :: l=>match Ha e k k' with
  |some true=>some (some v)
  |some false=>lx e k l
  |none=>none
def vm (e:EK) (k v:AV):List (AV × AV)→Option (List (AV × AV))
 |[]=>some [(k,v)]
 |(k',v') :: l=>match Ha e k k' with
  |some true=>some ((k,v) :: l)
  |some false=>match vm e k v l with
   |some r=>some ((k',v') :: r)
   |none=>none
  |none=>none
def kr:EK→AV→Bool
 |.bool,.bool _=>true
 |.int,.int _ _=>true
 |.str,.str _=>true
 |.st fs,.agg cs=>cs.all il&&(vl fs cs cs).isSome
 |_,_=>false
def mapOf (s:St):SV→Option (List (AV × AV))
 |.v .lX=>some []
 |.v (.map id)=>match nth s.G id with
  |some (.map es)=>some es
  |_=>none
 |_=>none
def XI (G:List GO) (id:Nat):List Nat:=match nth G id with
 |some (.bF fs _ _)=>fs
 |_=>[]
def E0 (E:Env) (G:List GO) (t:TypeId) (z:AV):AV:=match E.elg t,z with
 |some (.bF e sz _),.list .nil _ []=>match mZ G sz e 0 with
  |some id=>.list (.bF id (XI G id).length) sz []
  |none=>z
 |_,_=>z
def n3 (E:Env) (s:St) (t:TypeId) (m k:SV):Option (AV × Bool):=match E.ti t,mapOf s m,k with
 |some i,some es,.v k=>match i.k with
  |.map kt _ (some z)=>match E.ti kt with
   |some j=>if j.ek.plain&&kr j.ek k then match lx j.ek k es with
     |some (some v)=>some (v,true)
     |some none=>some (z,false)
     |none=>none
    else none
   |none=>none
  |_=>none
 |_,_,_=>none
def nb (E:Env) (s:St) (t:TypeId) (m k:SV):Option (AV × Bool):=match n3 E s t m k with
 |some (v,false)=>some (E0 E s.G t v,false)
 |r=>r
def gr (E:Env) (s:St) (t:TypeId) (m k x:SV):Option St:=match E.ti t,m,k,x with
 |some i,.v (.map id),.v k,.v x=>match i.k,nth s.G id with
  |.map kt _ _,some (.map es)=>match E.ti kt with
   |some j=>if j.ek.plain&&kr j.ek k then match vm j.ek k x es with
     |some es'=>some (s.cP (aG s.G id (.map es')))
     |none=>none
    else none
   |none=>none
  |_,_=>none
 |_,_,_,_=>none
def rF (l:List UInt8) (pos:Nat):Nat × Nat:=
 bif abu (l.getD pos 0).toNat 128 then ((l.getD pos 0).toNat,1) else Utf8.decode ⟨⟨l⟩⟩ pos
def nf (s:St) (dst:Option Tmp) (x:SV):Option St:=match x with
 |.v (.ptr id 0)=>match nth s.G id with
  |some (.iI l pos)=>bif abu pos l.length then
    match rF l pos with
    |(c,n)=>some ((s.cP (aG s.G id (.iI l (pos+n)))).put dst (.v (.bu [.bool true,.int .i64 pos,.int .i32 c])))
   else some (s.put dst (.v (.bu [.bool false])))
  |_=>none
 |_=>none
def fu (es:List (AV × AV)) (i:Nat):AV × AV:=match nth es i with
 |some e=>e
 |none=>(gW,gW)
def XJ (E:Env) (kt:TypeId):Option aO:=match E.RM kt with
 |some p=>some p
 |none=>match E.ti kt with
  |some i=>match i.k with
   |.int k=>some (.int k)
   |.str=>some .str
   |_=>none
  |none=>none
def tO (E:Env) (t:TypeId) (e:AV × AV):Bool × AV × AV:=match E.ti t with
 |some i=>match i.k with
  |.map kt _ _=>match E.RM t,XJ E kt with
   |some pv,some pk=>(pk.fits e.1&&pv.fits e.2,pk.enc (pk.bC e.1),pv.enc (pv.bC e.2))
   |_,_=>(true,e.1,e.2)
  |_=>(true,e.1,e.2)
 |none=>(true,e.1,e.2)
def Ce (E:Env) (s:St) (dst:Option Tmp) (x:SV):Option (Bool × St × List Nat × (Nat→Bool × St)):=match x with
 |.v (.ptr id 0)=>match nth s.G id with
  |some (.pY sR n left _ t)=>match nth s.G sR with
   |some (.map es)=>some (decide (es.length=n),s.put dst (.v (.bu [.bool false])),left,
     fun i=>((tO E t (fu es i)).1,(s.cP (aG s.G id (.pY sR n (left.erase i) (some i) t))).put dst (.v (.bu [.bool true,(tO E t (fu es i)).2.1,(tO E t (fu es i)).2.2]))))
   |_=>none
  |_=>none
 |_=>none
def vn (E:Env) (s:St) (o:Oper):Option (Bool × St × List Nat × (Nat→Bool × St)):=match o.op with
 |.next x false=>Ce E s o.dst (bQ E s.ab x)
 |_=>none
def eqO (E:Env) (op:BinOp) (t:TypeId) (a b:AV):Option Bool:=match op,E.ti t with
 |.eql,some i=>mO i.ek a b
 |.neq,some i=>match mO i.ek a b with
  |some r=>some (!r)
  |none=>none
 |_,_=>none
def lA (E:Env) (s:St) (t:TypeId) (len:Nat) (parts:List (Nat × Operand)):Option (List AV):=
 match E.ti t,Rj E s.ab parts with
 |some i,some ps=>match i.k with
  |.sl _ esz _ _ (some z)=>
    if aad z.cells.length esz&&aaB 1 esz&&aaB (len * esz) 16777216&&z.ba then
     wI (fun i=>some (i * esz,esz)) (aq (aaY len z)) (Cc ps)
    else none
  |_=>none
 |_,_=>none
def ky (E:Env) (f:FuncId) (s:St) (o:Oper):Option St:=match o.op with
 |.buildSlice t len parts=>match o.dst with
  |some d=>if E.Dt f d then match E.ti t with
    |some i=>match i.k,cn E s t len parts.toList with
     |.sl elem _ _ _ _,some (.list _ esz es)=>some ((s.fj (.row (aq es) elem)).put (some d) (.v (.lz s.G.length 0 esz len len)))
     |.sl elem esz _ _ _,none=>match lA E s t len parts.toList with
      |some cs=>some ((s.fj (.row cs elem)).put (some d) (.v (.lz s.G.length 0 esz len len)))
      |none=>none
     |_,_=>none
    |none=>none
   else if E.Dt f (d+196608) then match E.ti t with
    |some i=>match i.k,cn E s t len parts.toList with
     |.sl elem _ _ _ _,some (.list _ esz es)=>if aaB len 65536 then some ((s.fj (.dv es esz elem)).put (some d) (.v (.dM s.G.length len 0 esz len))) else none
     |_,_=>none
    |none=>none
   else if E.Dt f (d+65536) then match E.ti t with
    |some i=>match i.k,cn E s t len parts.toList with
     |.sl elem _ _ _ _,some (.list _ esz es)=>if aaB len 65536 then some ((s.fj (.tok len esz elem)).put (some d) (.v (.list (.own s.G.length) esz es))) else none
     |_,_=>none
    |none=>none
   else none
  |none=>none
 |_=>none
def Cf (wk:Bool) (es:List AV):List AV:=match wk with
 |true=>es.map AV.jc
 |false=>es
def n5 (wk:Bool):List AV→List GO→Bool × List AV × List GO
 |[],G=>(true,[],G)
 |.dM id f 0 sz len :: l,G=>match nth G id with
  |some (.dv es bT _)=>match n5 wk l (aG G id .dead) with
   |(c,r,G')=>(decide (f=es.length)&&decide (len=es.length)&&aad sz bT&&bg (Cf wk es)&&c,.list .lM sz (Cf wk es) :: r,G')
  |_=>match n5 wk l G with
   |(_,r,G')=>(false,r,G')
 |a :: l,G=>match n5 wk l G with
  |(c,r,G')=>(c,a :: r,G')
def rG (cut wk:Bool) (s:St) (t:Tmp):Option (Bool × St):=match lk s.ab t with
 |.v (.dM id f off sz len)=>match nth s.G id with
  |some (.dv es bT _)=>if aad off 0&&aad sz bT then
    some (decide (f=es.length)&&(bif cut then decide (len≤es.length) else decide (len=es.length))&&bg (Cf wk es),⟨.put t (.v (.list .lM sz (Cf wk (bif cut then es.take len else es)))) :: s.ab,s.boxes,aG s.G id .dead,s.marks,s.ro,s.n⟩) else none
  |_=>none
 |.v (.ptr id 0)=>match nth s.G id with
  |some (.row cs _)=>some (bg cs,⟨.put t (.v (.ep cs)) :: s.ab,s.boxes,aG s.G id .dead,s.marks,s.ro,s.n⟩)
  |_=>none
 |.v (.agg cs)=>match n5 wk cs s.G with
  |(c,cs',G')=>some (c,⟨.put t (.v (.agg cs')) :: s.ab,s.boxes,G',s.marks,s.ro,s.n⟩)
 |_=>none
def iU (cut wk:Bool):List Operand→St→Bool × St
 |[],s=>(true,s)
 |.tmp t :: l,s=>match rG cut wk s t with
  |some (c,s')=>match iU cut wk l s' with
   |(c',s2)=>(c&&c',s2)
  |none=>iU cut wk l s
 |_ :: l,s=>iU cut wk l s
def KU (E:Env) (f:FuncId) (s:St) (o:Oper):Option (Bool × St):=match o.dst with
 |some d=>if E.Dt f (d+262144) then some (iU (E.Dt f (d+393216)) (E.Dt f (d+458752)) o.op.operands.toList s) else none
 |none=>none
def n9 (E:Env) (s:St) (a b:TypeId) (x:SV):Option (Bool × AV):=
 match E.ti a,E.ti b,x with
 |some i,some j,.v x=>match j.k,x with
  |.int k,.int _ n=>some (true,.int k (k.wrap n))
  |.str,.list _ sz es=>match i.k with
   |.sl elem 1 _ _ _=>match E.ti elem with
    |some e=>match e.k with
     |.int .u8=>some ((aad sz 1 || es.isEmpty)&&allFit (aO.fits (.int .u8)) es,.str (jJ es))
     |.int .i32=>some ((aad sz 1 || es.isEmpty)&&allFit (aO.fits (.int .i32)) es,.str (yV es))
     |_=>none
    |none=>none
   |_=>none
  |.str,.lz id off 1 len _=>match i.k,nth s.G id with
   |.sl elem 1 _ _ _,some (.row cs _)=>match E.ti elem with
    |some e=>match e.k with
     |.int .u8=>some (aaB (off+len) cs.length&&allFit (aO.fits (.int .u8)) (gJ off (off+len) cs),.str (jJ (gJ off (off+len) cs)))
     |_=>none
    |none=>none
   |_,_=>none
  |_,_=>none
 |_,_,_=>none
def yW (e:EK) (k k':AV):Bool:=match Ha e k k' with
 |some b=>b
 |none=>false
def fI (e:EK) (k:AV):List (AV × AV)→Bool
 |[]=>true
 |(k',_) :: l=>(Ha e k k').isSome&&fI e k l
def ma (e:EK) (k:AV):List (AV × AV)→Option AV
 |[]=>none
 |(k',v) :: l=>bif yW e k k' then some v else ma e k l
def fJ (e:EK) (k v:AV):List (AV × AV)→List (AV × AV)
 |[]=>[(k,v)]
 |(k',v') :: l=>bif yW e k k' then (k,v) :: l else (k',v') :: fJ e k v l
def dV (e:EK) (k z:AV) (es:List (AV × AV)):AV:=(ma e k es).getD z
def jE (e:EK) (k:AV):List (AV × AV)→Nat
 |[]=>0
 |(k',_) :: l=>bif yW e k k' then 0 else jE e k l+1
def k9:List (AV × AV)→Nat→AV→List (AV × AV)
 |[],_,_=>[]
 |(k,_) :: l,0,x=>(k,x) :: l
 |e :: l,n+1,x=>e :: k9 l n x
def vo (E:Env) (s:St) (x:SV):Option (Bool × AV):=match x with
 |.v (.ptr id 0)=>match nth s.G id with
  |some (.pY sR n _ (some i) t)=>match nth s.G sR with
   |some (.map es)=>some (decide (es.length=n)&&decide (i < n)&&(tO E t (fu es i)).1,.bu [(tO E t (fu es i)).2.1,(tO E t (fu es i)).2.2])
   |_=>none
  |_=>none
 |_=>none
def iq (E:Env) (s:St) (t:TypeId) (m k:SV):Option (Bool × AV × St):=match E.ti t,m,k with
 |some i,.v (.map id),.v k=>match i.k,nth s.G id with
  |.map kt _ (some z),some (.map es)=>match E.ti kt with
   |some j=>if j.ek.plain&&kr j.ek k then
     some (fI j.ek k es,.bu [dV j.ek k z es,.int .i64 (jE j.ek k es:Nat)],s.cP (aG s.G id (.map (fJ j.ek k (dV j.ek k z es) es)))) else none
   |none=>none
  |_,_=>none
 |_,_,_=>none
def fK (s:St) (m st x:SV):Option (Bool × St):=match m,st,x with
 |.v (.map id),.v (.int .i64 n),.v v=>match nth s.G id with
  |some (.map es)=>some (decide (0≤n)&&decide (n.toNat < es.length),s.cP (aG s.G id (.map (k9 es n.toNat v))))
  |_=>none
 |_,_,_=>none
def jq (E:Env) (f:FuncId) (s:St) (o:Oper):Option (Bool × St):=none
def wJ (E:Env) (f:FuncId) (s:St) (o:Oper):Option (Bool × St):=none
def agh (E:Env) (f:FuncId) (d:Option Tmp):Bool:=match d with
 |some d=>E.Dt f (d+196608)
 |none=>false
def an (E:Env) (f:FuncId) (s:St) (o:Oper):Option (Bool × St):=
 match o.op with
 |.move x=>match bQ E s.ab x with
  |.v a=>some (true,s.put o.dst (.v a))
  |.lp k off=>some (true,s.put o.dst (.lp k off))
  |.none=>some (true,s.put o.dst .none)
 |.assign x=>match bQ E s.ab x with
  |.v a=>some (true,s.put o.dst (.v a))
  |.lp k off=>some (true,s.put o.dst (.lp k off))
  |.none=>some (true,s.put o.dst .none)
 |.pick c a b=>match bQ E s.ab c,bQ E s.ab a,bQ E s.ab b with
  |.v (.bool t),.v x,.v y=>some (true,s.put o.dst (.v (Du t x y)))
  |_,_,_=>none
 |.alloc e=>match E.ti e with
  |some i=>match i.zero with
   |some z=>if z.ba then gq E f s o.dst e z.cells else none
   |none=>none
  |none=>none
 |.box t x=>match bQ E s.ab x with
  |.v v=>if v.ba then gq E f s o.dst t v.cells else none
  |_=>none
 |.build t parts=>match oS E s t parts.toList with
  |some v=>some (true,s.put o.dst (.v v))
  |none=>none
 |.buildSlice t len parts=>match cn E s t len parts.toList with
  |some v=>some (true,s.put o.dst (.v v))
  |none=>none
 |.load t a=>match Cd E s t (bQ E s.ab a) with
  |some (c,v)=>some (c,s.put o.dst (.v v))
  |none=>none
 |.store t a x=>match o.dst,kZ E s t (bQ E s.ab a) (bQ E s.ab x) with
  |none,some (c,s')=>some (c,s')
  |_,_=>none
 |.binOp op t x y _=>match bQ E s.ab x,bQ E s.ab y with
  |.v a,.v b=>match EY op a b with
   |some (c,v)=>some (c,s.put o.dst (.v v))
   |none=>match eqO E op t a b with
    |some r=>some (true,s.put o.dst (.v (.bool r)))
    |none=>none
  |_,_=>none
 |.unOp op _ x=>match op,bQ E s.ab x with
  |.not,.v (.bool b)=>some (true,s.put o.dst (.v (.bool (!b))))
  |.neg,.v (.int k n)=>some (true,s.put o.dst (.v (.int k (k.wrap (0 - n)))))
  |_,_=>none
 |.convert a b x=>match n9 E s a b (bQ E s.ab x) with
  |some (c,v)=>some (c,s.put o.dst (.v v))
  |none=>none
 |.nilCheck x=>match bQ E s.ab x with
  |.v (.ptr id off)=>some (true,s.put o.dst (.v (.ptr id off)))
  |.lp k off=>some (true,s.put o.dst (.lp k off))
  |_=>none
 |.makeFunc (.func g) first captured=>match oR E s.ab first.toList,oR E s.ab captured.toList with
  |some x,some y=>some (true,s.put o.dst (.v (.fn g x y)))
  |_,_=>none
 |.fieldAddr t x j=>match lZ E t (bQ E s.ab x) j with
  |some p=>some (true,s.put o.dst p)
  |none=>none
 |.field t x j=>match Hl E t (bQ E s.ab x) j with
  |some v=>some (true,s.put o.dst (.v v))
  |none=>none
 |.indexAddr t x ix=>match lY E t (bQ E s.ab x) (bQ E s.ab ix) with
  |some (c,p)=>some (c,s.put o.dst p)
  |none=>none
 |.index t x ix=>match Hm E t (bQ E s.ab x) (bQ E s.ab ix) with
  |some (c,v)=>some (c,s.put o.dst (.v v))
  |none=>none
 |.slice t x lo hi mx=>match oU E s.ab lo,oU E s.ab hi with
  |some l,some h=>match Dw E t (bQ E s.ab x) l h mx with
   |some (c,v)=>some (c,s.put o.dst (.v v))
   |none=>none
  |_,_=>none
 |.extract x i=>match bQ E s.ab x with
  |.v (.bu vs)=>match nth vs i with
   |some v=>some (true,s.put o.dst (.v v))
   |none=>none
  |_=>none
 |.makeSlice t l c=>match E.ti t,bQ E s.ab l,bQ E s.ab c with
  |some i,.v (.int _ n),.v (.int _ m)=>match i.k with
   |.sl elem esz _ bR (some z)=>
    if aad z.cells.length esz&&aaB 1 esz&&z.ba then
     if agh E f o.dst then (if z.closed then some (decide (0≤n∧n≤m∧m≤140737488355328∧m * bR≤140737488355328),
      (s.fj (.dv (aaY n.toNat z) esz elem)).put o.dst (.v (.dM s.G.length n.toNat 0 esz n.toNat))) else none)
     else some (decide (0≤n∧n≤m∧m≤140737488355328∧m * bR≤140737488355328),
      (s.fj (.row (aq (aaY m.toNat z)) elem)).put o.dst (.v (.lz s.G.length 0 esz n.toNat m.toNat)))
    else none
   |_=>none
  |_,_,_=>none
 |.lookup t m k ok=>match nb E s t (bQ E s.ab m) (bQ E s.ab k) with
  |some (v,b)=>some (true,s.put o.dst (.v (if ok then .bu [v,.bool b] else v)))
  |none=>none
 |.mapUpdate t m k x=>match o.dst,gr E s t (bQ E s.ab m) (bQ E s.ab k) (bQ E s.ab x) with
  |none,some s'=>some (true,s')
  |_,_=>none
 |.insert t m k x=>match o.dst,gr E s t (bQ E s.ab m) (bQ E s.ab k) (bQ E s.ab x) with
  |none,some s'=>some (true,s')
  |_,_=>none
 |.entry x=>match vo E s (bQ E s.ab x) with
  |some (c,v)=>some (c,s.put o.dst (.v v))
  |none=>none
 |.mapEntry t m k=>match iq E s t (bQ E s.ab m) (bQ E s.ab k) with
  |some (c,v,s')=>some (c,s'.put o.dst (.v v))
  |none=>none
 |.entryStore _ m st x=>match o.dst,fK s (bQ E s.ab m) (bQ E s.ab st) (bQ E s.ab x) with
  |none,some (c,s')=>some (c,s')
  |_,_=>none
 |.range t x=>match E.ti t,bQ E s.ab x with
  |some i,.v (.str l)=>match i.k with
   |.str=>some (true,(s.fj (.iI l 0)).put o.dst (.v (.ptr s.G.length 0)))
   |_=>none
  |some i,.v (.map id)=>match i.k,nth s.G id with
   |.map _ _ _,some (.map es)=>some (true,(s.fj (.pY id es.length (List.range es.length) none t)).put o.dst (.v (.ptr s.G.length 0)))
   |_,_=>none
  |_,_=>none
 |.next x true=>match nf s o.dst (bQ E s.ab x) with
  |some s'=>some (true,s')
  |none=>none
 |.makeMap _ none=>some (true,(s.fj (.map [])).put o.dst (.v (.map s.G.length)))
 |.call { callee:=.builtin b,args,argTypes }=>match jq E f s o with
  |some r=>some r
  |none=>match oR E s.ab args.toList with
   |some l=>bU E s o.dst b l argTypes.toList
   |none=>none
 |_=>none
end Go.Am
namespace Go.Am
open Go
inductive TR where
 |bS
 |full (f:Nat)
 |tok (f b c:Nat)
inductive RO where
 |none
 |bS
 |ck (b:Nat)
 |tok (f b c:Nat)
 |bF (ts:List TR)
def RO.has:RO→Nat→Prop
 |.none,_=>False
 |.bS,_=>False
 |.ck b,x=>x=b
 |.tok _ b _,x=>x=b
 |.bF ts,x=>∃ j f c,nth ts j=some (.tok f x c)
def kz (sz:Nat) (es:List AV):Prop:=∀ e∈es,e.cells.length=sz∧e.ba=true∧e.closed=true
def fc (sz:Nat) (es:List AV):Prop:=∀ e∈es,e.cells.length=sz∧e.ba=true
theorem kz.g {sz:Nat} {es:List AV} (h:kz sz es):fc sz es:=fun e he=>⟨(h e he).1,(h e he).2.1⟩
structure ak where
 I:Nat→Nat→Prop
 obj:List RO
def WA (b o len cap:Nat):RO→Prop
 |.none=>True
 |.bS=>False
 |.ck _=>False
 |.tok f b' c'=>len≤f∧(len=f→b=b'∧o=0∧cap=c')
 |.bF _=>False
def RQ (b o len cap:Nat):TR→Prop
 |.bS=>False
 |.full f=>len≤f∧(len=f→cap=len)
 |.tok f b' c'=>len≤f∧(len=f→b=b'∧o=0∧cap=c')
def acd (b o len cap j:Nat):RO→Prop
 |.none=>True
 |.bS=>False
 |.ck _=>False
 |.tok _ _ _=>False
 |.bF ts=>∃ t,nth ts j=some t∧RQ b o len cap t
def yX:RO→Prop
 |.none=>True
 |.bS=>False
 |.ck _=>False
 |.tok _ _ _=>False
 |.bF _=>True
def oV:RO→Prop
 |.none=>True
 |.bS=>True
 |.ck _=>False
 |.tok f _ _=>1≤f
 |.bF _=>False
def KV (b o f off sz cap:Nat):RO→Prop
 |.none=>True
 |.bS=>False
 |.ck _=>False
 |.tok f' b' c'=>f≤f'∧(f=f'→b=b'∧off+cap=c'∧(o=off * sz∨cap=0))
 |.bF _=>False
def MG (b o f i off sz:Nat):RO→Prop
 |.none=>True
 |.bS=>False
 |.ck _=>False
 |.tok f' b' _=>f≤f'∧(f=f'→b=b'∧o=i * sz+off)
 |.bF _=>False
def Dx (R:ak) (k:LK) (b o len cap:Nat):Prop:=match k with
 |.nil=>False
 |.full=>cap=len
 |.lM=>True
 |.own id=>∃ ro,nth R.obj id=some ro∧WA b o len cap ro
 |.bF id j=>∃ ro,nth R.obj id=some ro∧acd b o len cap j ro
mutual
inductive Rel (R:ak) (w:World):AV→Value→Prop
 |bool (b:Bool):Rel R w (.bool b) (.bool b)
 |int (k:IntKind) (n:Int):Rel R w (.int k n) (.int k n)
 |str (l:List UInt8):Rel R w (.str l) (.string ⟨⟨l⟩⟩)
 |agg {cs:List AV} {vs:List Value} (h:aP R w cs vs) (h1:∀ v∈vs,v.oneCell'=true):Rel R w (.agg cs) (.agg ⟨vs⟩)
 |bu {cs:List AV} {vs:List Value} (h:aP R w cs vs):Rel R w (.bu cs) (.tuple ⟨vs⟩)
 |jI:Rel R w .jI (.pointer none)
 |ptr {id off b:Nat} (h:nth R.obj id=some (.ck b)):Rel R w (.ptr id off) (.pointer (some ⟨b,off,none⟩))
 |ep {cs:List AV} {b o:Nat} (h:fk R w b o cs):Rel R w (.ep cs) (.pointer (some ⟨b,o,none⟩))
 |mb {sz:Nat}:Rel R w (.list .nil sz []) (.slice none 0 0)
 |j9 {sz:Nat}:Rel R w (.list .lM sz []) (.slice none 0 0)
 |oW {sz:Nat} {a:Addr}:Rel R w (.list .lM sz []) (.slice (some a) 0 0)
 |oa {id sz:Nat} {ro:RO} (h:nth R.obj id=some ro) (ho:oV ro):Rel R w (.list (.own id) sz []) (.slice none 0 0)
 |oX {id j sz:Nat} {ro:RO} (h:nth R.obj id=some ro) (ho:yX ro):Rel R w (.list (.bF id j) sz []) (.slice none 0 0)
 |list {k:LK} {sz:Nat} {es:List AV} {b o len cap:Nat} (h:iu R w b o sz es) (hl:len=es.length) (hc:len≤cap) (hk:Dx R k b o len cap):Rel R w (.list k sz es) (.slice (some ⟨b,o,none⟩) len cap)
 |lz {id off sz len cap b:Nat} (h:nth R.obj id=some (.ck b)) (hc:len≤cap):Rel R w (.lz id off sz len cap) (.slice (some ⟨b,off,none⟩) len cap)
 |jX {id sz:Nat} {ro:RO} (h:nth R.obj id=some ro) (ho:oV ro):Rel R w (.dM id 0 0 sz 0) (.slice none 0 0)
 |dM {id f off sz len cap b o:Nat} {ro:RO} (h:nth R.obj id=some ro) (ho:KV b o f off sz cap ro) (hc:len≤cap):Rel R w (.dM id f off sz len) (.slice (some ⟨b,o,none⟩) len cap)
 |gp {id f i off sz b o:Nat} {t:TypeId} {ro:RO} (h:nth R.obj id=some ro) (ho:MG b o f i off sz ro):Rel R w (.gp id f i off sz t) (.pointer (some ⟨b,o,none⟩))
 |lX:Rel R w .lX (.map none)
 |map {id b:Nat} (h:nth R.obj id=some (.ck b)):Rel R w (.map id) (.map (some b))
 |cY:Rel R w .cY .nilFunc
 |fn {f:FuncId} {xs ys:List AV} {vs us:List Value} (h:aP R w xs vs) (h':aP R w ys us):Rel R w (.fn f xs ys) (.func (.func f) ⟨vs⟩ ⟨us⟩)
 |yield {id b:Nat} (h:nth R.obj id=some (.ck b)):Rel R w (.yield id) (.func (.yield b) #[] #[])
 |qb:Rel R w .qb .nilIface
 |iface {t:TypeId} {v:AV} {c:Value} (h:Rel R w v c):Rel R w (.iface t v) (.iface t c)
inductive aP (R:ak) (w:World):List AV→List Value→Prop
 |nil:aP R w [] []
 |cons {a:AV} {c:Value} {l:List AV} {cs:List Value} (h:Rel R w a c) (t:aP R w l cs):aP R w (a :: l) (c :: cs)
inductive iu (R:ak) (w:World):Nat→Nat→Nat→List AV→Prop
 |nil {b o sz:Nat}:iu R w b o sz []
 |cons {b o sz:Nat} {e:AV} {es:List AV} (hl:e.cells.length=sz) (ht:e.ba=true) (hk:e.closed=true) (h:fk R w b o e.cells) (t:iu R w b (o+sz) sz es):iu R w b o sz (e :: es)
inductive fk (R:ak) (w:World):Nat→Nat→List AV→Prop
 |nil {b o:Nat}:fk R w b o []
 |cons {b o:Nat} {a:AV} {c:Value} {l:List AV} (hc:w.cell? ⟨b,o,none⟩=some c) (h1:c.oneCell'=true) (hi:R.I b o) (h:Rel R w a c) (t:fk R w b (o+1) l):fk R w b o (a :: l)
end
def nD:TR→TR→Prop
 |.bS,.bS=>True
 |.bS,.full _=>False
 |.bS,.tok f _ _=>1≤f
 |.full _,.bS=>False
 |.full f,.full f'=>f'=f
 |.full f,.tok f' _ _=>f < f'
 |.tok _ _ _,.bS=>False
 |.tok _ _ _,.full _=>False
 |.tok f b c,.tok f' b' c'=>f≤f'∧(f'=f→b'=b∧c'=c)
theorem nD.refl (t:TR):nD t t:=by cases t <;> simp [nD]
theorem nD.trans {a b c:TR} (h:nD a b) (k:nD b c):nD a c:=by
 cases a <;> cases b <;> cases c <;> simp only [nD] at * <;> omega
def vp (ts ts':List TR):Prop:=∀ j t,nth ts j=some t→∃ t',nth ts' j=some t'∧nD t t'
theorem vp.refl (ts:List TR):vp ts ts:=fun _ t h=>⟨t,h,nD.refl t⟩
theorem vp.trans {a b c:List TR} (h:vp a b) (k:vp b c):vp a c:=fun j t hj=>
 let ⟨_,h1,h2⟩:=h j t hj
 let ⟨t2,k1,k2⟩:=k j _ h1
 ⟨t2,k1,h2.trans k2⟩
def cV:RO→RO→Prop
 |.none,r=>r=.none
 |.ck b,r=>r=.ck b
 |.bS,.none=>True
 |.bS,.bS=>True
 |.bS,.ck _=>False
 |.bS,.tok f _ _=>1≤f
 |.tok _ _ _,.none=>True
 |.tok _ _ _,.bS=>False
 |.tok _ _ _,.ck _=>False
 |.tok f b c,.tok f' b' c'=>f≤f'∧(f'=f→b'=b∧c'=c)
 |.bS,.bF _=>False
 |.tok _ _ _,.bF _=>False
 |.bF _,.none=>True
 |.bF _,.bS=>False
 |.bF _,.ck _=>False
 |.bF _,.tok _ _ _=>False
 |.bF ts,.bF ts'=>vp ts ts'
theorem cV.refl (r:RO):cV r r:=by cases r <;> simp [cV,vp.refl]
theorem cV.trans {a b c:RO} (h:cV a b) (k:cV b c):cV a c:=by
 cases a with
 |none=>simp only [cV] at h; subst h; exact k
 |ck x=>simp only [cV] at h; subst h; exact k
 |bS=>
  cases b with
  |none=>simp only [cV] at k; subst k; trivial
  |bS=>exact k
  |ck z=>exact h.elim
  |tok f' x' y'=>
   cases c with
   |none=>trivial
   |bS=>exact k.elim
   |ck z=>exact k.elim
   |bF _=>exact k.elim
   |tok f'' x'' y''=>simp only [cV] at *; omega
  |bF _=>exact h.elim
 |tok f x y=>
  cases b with
  |none=>simp only [cV] at k; subst k; trivial
  |bS=>exact h.elim
  |ck z=>exact h.elim
  |tok f' x' y'=>
   cases c with
   |none=>trivial
   |bS=>exact k.elim
   |ck z=>exact k.elim
   |tok f'' x'' y''=>
    simp only [cV] at *;refine ⟨Nat.le_trans h.1 k.1,fun e=>?_⟩;obtain ⟨h1,h2⟩:=h; obtain ⟨k1,k2⟩:=k;have e1:f'=f:=by omega
    have e2:f''=f':=by omega
    exact ⟨(k2 e2).1.trans (h2 e1).1,(k2 e2).2.trans (h2 e1).2⟩
   |bF _=>exact k.elim
  |bF _=>exact h.elim
 |bF ts=>
  cases b with
  |none=>simp only [cV] at k; subst k; trivial
  |bS=>exact h.elim
  |ck z=>exact h.elim
  |tok f' x' y'=>exact h.elim
  |bF ts'=>
   cases c with
   |none=>trivial
   |bS=>exact k.elim
   |ck z=>exact k.elim
   |tok f' x' y'=>exact k.elim
   |bF ts''=>exact vp.trans h k
def tP (r r':Loop):Prop:=r'.tmps=r.tmps∧r'.params=r.params∧r'.assign=r.assign∧r'.body=r.body∧r'.defers=r.defers
def iJ (w w':World):Prop:=∀ (b:Nat) (r:Loop),w.heap[b]?=some (Obj.loop r)→∃ r',w'.heap[b]?=some (Obj.loop r')∧tP r r'
theorem iJ.refl (w:World):iJ w w:=fun _ r h=>⟨r,h,rfl,rfl,rfl,rfl,rfl⟩
theorem iJ.trans {w w1 w2:World} (h:iJ w w1) (k:iJ w1 w2):iJ w w2:=fun b r hb=>
 let ⟨_,h1,h2,h3,h4,h5,h6⟩:=h b r hb
 let ⟨r2,k1,k2,k3,k4,k5,k6⟩:=k b _ h1
 ⟨r2,k1,k2.trans h2,k3.trans h3,k4.trans h4,k5.trans h5,k6.trans h6⟩
theorem iJ.old {w w':World} (h:∀ b,b < w.heap.size→w'.heap[b]?=w.heap[b]?):iJ w w':=fun b r hb=>
 ⟨r,(h b (by
  rcases Nat.lt_or_ge b w.heap.size with bY|oP
  ·exact bY
  ·rw [Array.getElem?_eq_none oP] at hb; cases hb)).trans hb,rfl,rfl,rfl,rfl,rfl⟩
structure Ext (R:ak) (w:World) (R':ak) (w':World):Prop where
 I:∀ b o,R.I b o→R'.I b o
 cell:∀ b o,R.I b o→w'.cell? ⟨b,o,none⟩=w.cell? ⟨b,o,none⟩
 obj:∀ id ro,nth R.obj id=some ro→∃ od,nth R'.obj id=some od∧cV ro od
 lp:iJ w w'
theorem Ext.refl (R:ak) (w:World):Ext R w R w:=⟨fun _ _ h=>h,fun _ _ _=>rfl,fun _ ro h=>⟨ro,h,cV.refl ro⟩,iJ.refl w⟩
theorem Ext.trans {R R' RR:ak} {w w' WB:World} (h:Ext R w R' w') (k:Ext R' w' RR WB):Ext R w RR WB:=
 ⟨fun b o hi=>k.I b o (h.I b o hi),fun b o hi=>(k.cell b o (h.I b o hi)).trans (h.cell b o hi),fun id ro hr=>
  let ⟨_,h1,h2⟩:=h.obj id ro hr
  let ⟨r2,h3,h4⟩:=k.obj id _ h1
  ⟨r2,h3,h2.trans h4⟩,h.lp.trans k.lp⟩
theorem Ext.ck {R R':ak} {w w':World} (h:Ext R w R' w') {id b:Nat} (hb:nth R.obj id=some (.ck b)):nth R'.obj id=some (.ck b):=by
 obtain ⟨r,h1,h2⟩:=h.obj id _ hb;simp only [cV] at h2;subst h2;exact h1
theorem Dx.mono {R R':ak} {w w':World} (e:Ext R w R' w') {k:LK} {b o len cap:Nat} (h:Dx R k b o len cap):Dx R' k b o len cap:=by
 cases k with
 |nil=>exact h
 |full=>exact h
 |lM=>trivial
 |own id=>
  obtain ⟨ro,h1,h2⟩:=h;obtain ⟨od,h3,h4⟩:=e.obj id ro h1;refine ⟨od,h3,?_⟩;cases ro with
  |none=>simp only [cV] at h4; subst h4; trivial
  |bS=>exact h2.elim
  |ck x=>exact h2.elim
  |tok f x y=>
   cases od with
   |none=>trivial
   |bS=>exact h4.elim
   |ck z=>exact h4.elim
   |tok f' x' y'=>
    simp only [cV,WA] at *;refine ⟨by omega,fun e=>?_⟩;have e1:f'=f:=by omega
    have h5:=h2.2 (by omega);have h6:=h4.2 e1;exact ⟨h5.1.trans h6.1.symm,h5.2.1,h5.2.2.trans h6.2.symm⟩
   |bF _=>exact h4.elim
  |bF _=>exact h2.elim
 |bF id j=>
  obtain ⟨ro,h1,h2⟩:=h;obtain ⟨od,h3,h4⟩:=e.obj id ro h1;refine ⟨od,h3,?_⟩;cases ro with
  |none=>simp only [cV] at h4; subst h4; trivial
  |bS=>exact h2.elim
  |ck x=>exact h2.elim
  |tok _ _ _=>exact h2.elim
  |bF ts=>
   cases od with
   |none=>trivial
   |bS=>exact h4.elim
   |ck z=>exact h4.elim
   |tok _ _ _=>exact h4.elim
   |bF ts'=>
    obtain ⟨t,k1,k2⟩:=h2;obtain ⟨t',k3,k4⟩:=h4 j t k1;refine ⟨t',k3,?_⟩;cases t with
    |bS=>exact k2.elim
    |full f=>
     cases t' with
     |bS=>exact k4.elim
     |full f'=>simp only [nD,RQ] at *; subst k4; exact k2
     |tok f' x' y'=>simp only [nD,RQ] at *; exact ⟨by omega,fun e=>by omega⟩
    |tok f x y=>
     cases t' with
     |bS=>exact k4.elim
     |full f'=>exact k4.elim
     |tok f' x' y'=>
      simp only [nD,RQ] at *;refine ⟨by omega,fun e=>?_⟩;have e1:f'=f:=by omega
      have h5:=k2.2 (by omega);have h6:=k4.2 e1;exact ⟨h5.1.trans h6.1.symm,h5.2.1,h5.2.2.trans h6.2.symm⟩
theorem oV.mono {ro od:RO} (h:oV ro) (e:cV ro od):oV od:=by
 cases ro with
 |none=>simp only [cV] at e; subst e; trivial
 |bS=>cases od <;> first | trivial | exact e.elim | exact e
 |ck _=>exact h.elim
 |tok f x y=>
  cases od with
  |none=>trivial
  |bS=>exact e.elim
  |ck z=>exact e.elim
  |tok f' x' y'=>simp only [cV,oV] at *; omega
  |bF _=>exact e.elim
 |bF _=>exact h.elim
theorem yX.mono {ro od:RO} (h:yX ro) (e:cV ro od):yX od:=by
 cases ro with
 |none=>simp only [cV] at e; subst e; trivial
 |bS=>exact h.elim
 |ck _=>exact h.elim
 |tok _ _ _=>exact h.elim
 |bF ts=>
  cases od with
  |none=>trivial
  |bS=>exact e.elim
  |ck z=>exact e.elim
  |tok _ _ _=>exact e.elim
  |bF ts'=>trivial
theorem KV.mono {b o f off sz cap:Nat} {ro od:RO} (h:KV b o f off sz cap ro) (e:cV ro od):KV b o f off sz cap od:=by
 cases ro with
 |none=>simp only [cV] at e; subst e; trivial
 |bS=>exact h.elim
 |ck _=>exact h.elim
 |tok f1 x y=>
  cases od with
  |none=>trivial
  |bS=>exact e.elim
  |ck z=>exact e.elim
  |tok f' x' y'=>
   simp only [cV,KV] at *;refine ⟨by omega,fun k=>?_⟩;obtain ⟨e1,e2⟩:=e.2 (by omega);obtain ⟨h1,h2,h3⟩:=h.2 (by omega);exact ⟨h1.trans e1.symm,h2.trans e2.symm,h3⟩
  |bF _=>exact e.elim
 |bF _=>exact h.elim
theorem MG.mono {b o f i off sz:Nat} {ro od:RO} (h:MG b o f i off sz ro) (e:cV ro od):MG b o f i off sz od:=by
 cases ro with
 |none=>simp only [cV] at e; subst e; trivial
 |bS=>exact h.elim
 |ck _=>exact h.elim
 |tok f1 x y=>
  cases od with
  |none=>trivial
  |bS=>exact e.elim
  |ck z=>exact e.elim
  |tok f' x' y'=>
   simp only [cV,MG] at *;refine ⟨by omega,fun k=>?_⟩;obtain ⟨e1,e2⟩:=e.2 (by omega);obtain ⟨h1,h2⟩:=h.2 (by omega);exact ⟨h1.trans e1.symm,h2⟩
  |bF _=>exact e.elim
 |bF _=>exact h.elim
mutual
theorem Rel.mono {R R':ak} {w w':World} (e:Ext R w R' w'):∀ {a:AV} {c:Value},Rel R w a c→Rel R' w' a c
 |_,_,.bool b=>.bool b
 |_,_,.int k n=>.int k n
 |_,_,.str l=>.str l
 |_,_,.agg h h1=>.agg (h.mono e) h1
 |_,_,.bu h=>.bu (h.mono e)
 |_,_,.jI=>.jI
 |_,_,.ptr h=>.ptr (e.ck h)
 |_,_,.ep h=>.ep (h.mono e)
 |_,_,.mb=>.mb
 |_,_,.j9=>.j9
 |_,_,.oW=>.oW
 |_,_,.oa h ho=>let ⟨_,h3,h4⟩:=e.obj _ _ h; .oa h3 (ho.mono h4)
 |_,_,.oX h ho=>let ⟨_,h3,h4⟩:=e.obj _ _ h; .oX h3 (ho.mono h4)
 |_,_,.list h hl hc hk=>.list (h.mono e) hl hc (hk.mono e)
 |_,_,.lz h hc=>.lz (e.ck h) hc
 |_,_,.jX h ho=>let ⟨_,h3,h4⟩:=e.obj _ _ h; .jX h3 (ho.mono h4)
 |_,_,.dM h ho hc=>let ⟨_,h3,h4⟩:=e.obj _ _ h; .dM h3 (ho.mono h4) hc
 |_,_,.gp h ho=>let ⟨_,h3,h4⟩:=e.obj _ _ h; .gp h3 (ho.mono h4)
 |_,_,.lX=>.lX
 |_,_,.map h=>.map (e.ck h)
 |_,_,.cY=>.cY
 |_,_,.fn h h'=>.fn (h.mono e) (h'.mono e)
 |_,_,.yield h=>.yield (e.ck h)
 |_,_,.qb=>.qb
 |_,_,.iface h=>.iface (h.mono e)
theorem aP.mono {R R':ak} {w w':World} (e:Ext R w R' w'):∀ {l:List AV} {cs:List Value},aP R w l cs→aP R' w' l cs
 |_,_,.nil=>.nil
 |_,_,.cons h t=>.cons (h.mono e) (t.mono e)
theorem iu.mono {R R':ak} {w w':World} (e:Ext R w R' w'):∀ {b o sz:Nat} {l:List AV},iu R w b o sz l→iu R' w' b o sz l
 |_,_,_,_,.nil=>.nil
 |_,_,_,_,.cons hl ht hk h t=>.cons hl ht hk (h.mono e) (t.mono e)
theorem fk.mono {R R':ak} {w w':World} (e:Ext R w R' w'):∀ {b o:Nat} {l:List AV},fk R w b o l→fk R' w' b o l
 |_,_,_,.nil=>.nil
 |_,_,_,.cons hc h1 hi h t=>.cons ((e.cell _ _ hi).trans hc) h1 (e.I _ _ hi) (h.mono e) (t.mono e)
end
end Go.Am
namespace Go.Am
open Go
section lists
variable {α:Type}
theorem bj (l:List α) (n:Nat):nth l n=l[n]?:=by
 induction l generalizing n with
 |nil=>simp [nth]
 |cons a l ih=>cases n <;> simp [nth,ih]
theorem iw (l:List α) (n:Nat) (x:α):aG l n x=l.set n x:=by
 induction l generalizing n with
 |nil=>simp [aG]
 |cons a l ih=>cases n <;> simp [aG,ih]
theorem cg {l:List α} {n:Nat} {x:α} (h:nth l n=some x):n < l.length:=by
 rw [bj] at h;exact (abp.1 h).1
theorem aV {l:List α} {n:Nat} {x y:α} (h:nth l n=some y):nth (aG l n x) n=some x:=by
 have:=cg h;rw [bj,iw,abt this]
theorem cp {l:List α} {n m:Nat} {x:α} (h:n≠m):nth (aG l n x) m=nth l m:=by
 rw [bj,iw,bj,List.getElem?_set_ne h]
theorem dW {l:List α} {n m:Nat} {x y:α} (h:nth (aG l n x) m=some y):(n=m∧y=x∧m < l.length)∨(n≠m∧nth l m=some y):=by
 by_cases e:n=m
 ·subst e;have hl:=cg h;rw [iw,List.length_set] at hl;rw [bj,iw,abt hl] at h;exact .inl ⟨rfl,(abz h).symm,hl⟩
 ·rw [cp e] at h;exact .inr ⟨e,h⟩
@[simp] theorem jr (l:List α) (n:Nat) (x:α):(aG l n x).length=l.length:=by rw [iw,List.length_set]
theorem fW (l:List α) (x:α):nth (l++[x]) l.length=some x:=by rw [bj]; simp
theorem dX {l:List α} {n:Nat} {y x:α} (h:nth l n=some y):nth (l++[x]) n=some y:=by
 have:=cg h;rw [bj] at *;rw [abq this];exact h
theorem av {l:List α} {n:Nat} {y x:α} (h:nth (l++[x]) n=some y):nth l n=some y∨(n=l.length∧y=x):=by
 rw [bj] at *;by_cases e:n < l.length
 ·rw [abq e] at h; exact .inl h
 ·rw [List.getElem?_append_right (by omega)] at h;have hl:=(abp.1 h).1;simp at hl;have:n - l.length=0:=by omega
  rw [this] at h;simp at h;exact .inr ⟨by omega,h.symm⟩
theorem kA:∀ {l:List α} {n:Nat} {x:α},nth l n=some x→aG l n x=l
 |[],_,_,h=>by cases h
 |a :: l,0,x,h=>by cases h; rfl
 |a :: l,n+1,x,h=>by
  show a :: aG l n x=a :: l;rw [kA (show nth l n=some x from h)]
end lists
def XL (R:ak) (w:World) (ace:bk→Array Value→Prop) (busy:Bool) (pending:Option Code) (ab:bk) (n:Nat) (params:List Tmp) (assign body:Code) (defers:Nat) (done:Bool) (b:Nat):Prop:=
 ∃ (r:Loop) (db:Nat),w.heap[b]?=some (.loop r)∧r.state=(if done then .done else if busy then .busy else .ready)∧r.pending=pending ∧
  ace ab r.tmps∧r.tmps.size=n∧r.params=⟨params⟩∧r.assign=assign∧r.body=body∧r.defers=db∧nth R.obj defers=some (.ck db)
def si (R:ak) (w:World) (β:Nat→Nat):SV→Value→Prop
 |.none,_=>True
 |.v a,c=>Rel R w a c
 |.lp k off,c=>c=.pointer (some ⟨β k,off,none⟩)
def qj (R:ak) (w:World) (β:Nat→Nat) (ab:bk) (tmps:Array Value):Prop:=
 ∀ i,lk ab i≠.none→∃ c,tmps[i]?=some c∧si R w β (lk ab i) c
def Jl:bk→Bool
 |[]=>true
 |.put _ (.lp _ _) :: _=>false
 |_ :: l=>Jl l
def eH (R:ak) (w:World):List (AV × AV)→List MapEntry→Prop
 |[],[]=>True
 |(k,v) :: l,e :: es=>Rel R w k e.key∧Rel R w v e.val∧eH R w l es
 |_,_=>False
def Cg (R:ak) (w:World) (sz:Nat) (e:TypeId) (f:Nat):TR→Prop
 |.bS=>f=0
 |.full f'=>f'=f
 |.tok f' b c=>f'=f∧∃ cur,w.heap[b]?=some (.cells cur e (0,0))∧f≤c∧c≤maxLen∧cur.size=c * sz∧∀ o,f * sz≤o→¬ R.I b o
def acf (ts:List TR):Prop:=∀ i j f b c f' c',nth ts i=some (.tok f b c)→nth ts j=some (.tok f' b c')→i=j
def yY (R:ak) (w:World) (sz:Nat) (e:TypeId) (fs:List Nat) (ts:List TR):Prop:=
 ts.length=fs.length∧acf ts∧∀ j f t,nth fs j=some f→nth ts j=some t→Cg R w sz e f t
def lf (ax:Array MapEntry) (clock:Nat):Prop:=clock=ax.size∧∀ (i:Nat) (e:MapEntry),ax.toList[i]?=some e→e.born=i
def acg (R:ak) (w:World) (sR n:Nat) (left:List Nat) (cur:Option Nat) (b:Nat):Prop:=
 ∃ bm seen c0,nth R.obj sR=some (.ck bm)∧w.heap[b]?=some (.mapIter (some bm) n seen c0)∧(∀ i,i < n→(i∈left↔seen.contains i=false))∧(∀ i∈left,i < n)∧left.Nodup∧n≤c0∧∀ i,cur=some i→seen.back?=some i∧c0=n
def iP (R:ak) (w:World):GO→RO→Prop
 |.dead,.none=>True
 |.dead,.bS=>True
 |.dead,.ck b=>b < w.heap.size
 |.dead,.tok _ b _=>b < w.heap.size
 |.dead,.bF ts=>∀ j f b c,nth ts j=some (.tok f b c)→b < w.heap.size
 |.bF fs sz e,.bF ts=>yY R w sz e fs ts
 |.pY sR n left cur _,.ck b=>acg R w sR n left cur b
 |.tok f _ _,.bS=>f=0
 |.row cs el,.ck b=>∃ vs,w.heap[b]?=some (.cells ⟨vs⟩ el (0,0))∧aP R w cs vs∧(∀ v∈vs,v.oneCell'=true)∧∀ o,¬ R.I b o
 |.tok f sz e,.tok f' b c=>f'=f∧∃ cur,w.heap[b]?=some (.cells cur e (0,0))∧f≤c∧c≤maxLen∧cur.size=c * sz∧∀ o,f * sz≤o→¬ R.I b o
 |.dv es _ _,.bS=>es=[]
 |.dv es sz e,.tok f b c=>f=es.length∧fc sz es∧∃ cur vs,w.heap[b]?=some (.cells cur e (0,0))∧f≤c∧c≤maxLen∧cur.size=c * sz∧(∀ o,¬ R.I b o)∧aP R w (aq es) vs∧(∀ v∈vs,v.oneCell'=true)∧cur.toList.take (f * sz)=vs
 |.map es,.ck b=>∃ ax clock,w.heap[b]?=some (.map ax clock)∧eH R w es ax.toList∧lf ax clock
 |.iI l pos,.ck b=>w.heap[b]?=some (.stringIter ⟨⟨l⟩⟩ pos)
 |.loop busy pending _ ab n params assign body defers done,.ck b=>XL R w (qj R w (fun _=>0)) busy pending ab n params assign body defers done b∧Jl ab=true
 |.defers o,.ck b=>w.heap[b]?=some (.deferred (if o then some [] else none))
 |_,_=>False
def lg (E:Env) (R:ak) (w:World) (g:Nat) (cs:List AV):Prop:=
 fk R w g 0 cs∧(E.gx g=true→R.I g cs.length∧w.cell? ⟨g,cs.length,none⟩=none)
theorem lg.mono {E:Env} {R R':ak} {w w':World} {g:Nat} {cs:List AV} (h:lg E R w g cs) (e:Ext R w R' w'):lg E R' w' g cs:=
 ⟨h.1.mono e,fun hx=>⟨e.I _ _ (h.2 hx).1,(e.cell _ _ (h.2 hx).1).trans (h.2 hx).2⟩⟩
structure eI (E:Env) (R:ak) (w:World) (G:List GO):Prop where
 len:R.obj.length=G.length
 obj:∀ id go ro,nth G id=some go→nth R.obj id=some ro→iP R w go ro
 inj:∀ i j ri rj b,nth R.obj i=some ri→nth R.obj j=some rj→ri.has b→rj.has b→i=j
 wf:∀ b o,R.I b o→b < w.heap.size
 cw:∀ g cs,E.cw g=some cs→lg E R w g cs
 lo:E.lo≤w.drawn
def Live (R:ak) (b:Nat):Prop:=∃ id ro,nth R.obj id=some ro∧ro.has b
structure RS (R:ak) (w:World) (β:Nat→Nat) (boxes:dc):Prop where
 box:∀ k cs,eF boxes k=some cs→(∃ vs el,w.heap[β k]?=some (.cells ⟨vs⟩ el (0,0))∧aP R w cs vs∧(∀ v∈vs,v.oneCell'=true))∧(∀ o,¬ R.I (β k) o)∧¬ Live R (β k)
 inj:∀ k k' cs cs',eF boxes k=some cs→eF boxes k'=some cs'→β k=β k'→k=k'
def sj (R:ak):List Nat→List Deferred→Prop
 |[],[]=>True
 |id :: l,d :: ds=>(∃ b,nth R.obj id=some (.ck b)∧d={ target:=.collected b,args:=#[] })∧sj R l ds
 |_,_=>False
structure bq (E:Env) (R:ak) (w:World) (β:Nat→Nat) (s:St) (a:Act):Prop where
 g:eI E R w s.G
 b:RS R w β s.boxes
 t:qj R w β s.ab a.tmps
 n:a.tmps.size=s.n
 d:sj R s.marks a.defers
def Own (R:ak) (β:Nat→Nat) (boxes:dc) (b:Nat):Prop:=
 Live R b∨∃ k cs,eF boxes k=some cs∧β k=b
structure Step (R:ak) (w:World) (β:Nat→Nat) (bx:dc) (R':ak) (w':World) (β':Nat→Nat) (MH:dc):Prop where
 ext:Ext R w R' w'
 os:w'.os=w.os
 tape:w'.tape=w.tape
 output:w'.output=w.output
 size:w.heap.size≤w'.heap.size
 bJ:∀ b,b < w.heap.size→¬ Own R β bx b→w'.heap[b]?=w.heap[b]?
 own:∀ b,b < w.heap.size→Own R' β' MH b→Own R β bx b
 im:∀ b o,R'.I b o→b < w.heap.size→¬ Own R β bx b→R.I b o
theorem Step.refl (R:ak) (w:World) (β:Nat→Nat) (bx:dc):Step R w β bx R w β bx:=
 ⟨Ext.refl R w,rfl,rfl,rfl,Nat.le_refl _,fun _ _ _=>rfl,fun _ _ h=>h,fun _ _ h _ _=>h⟩
theorem Step.trans {R R1 R2:ak} {w w1 w2:World} {β β1 β2:Nat→Nat} {x x1 x2:dc}
  (h:Step R w β x R1 w1 β1 x1) (k:Step R1 w1 β1 x1 R2 w2 β2 x2):Step R w β x R2 w2 β2 x2 where
 ext:=h.ext.trans k.ext
 os:=k.os.trans h.os
 tape:=k.tape.trans h.tape
 output:=k.output.trans h.output
 size:=Nat.le_trans h.size k.size
 bJ:=fun b hb hn=>(k.bJ b (abn hb h.size) (fun ho=>hn (h.own b hb ho))).trans (h.bJ b hb hn)
 own:=fun b hb ho=>h.own b hb (k.own b (abn hb h.size) ho)
 im:=fun b o hi hb hn=>h.im b o (k.im b o hi (abn hb h.size) (fun ho=>hn (h.own b hb ho))) hb hn
theorem si.mono {R R':ak} {w w':World} {β:Nat→Nat} (e:Ext R w R' w') {x:SV} {c:Value} (h:si R w β x c):si R' w' β x c:=by
 cases x with
 |none=>trivial
 |v a=>exact Rel.mono e h
 |lp k off=>exact h
theorem tQ (n:Nat):aad n n=true:=Nat.beq_refl n
theorem oY {n m:Nat} (h:n≠m):aad n m=false:=by
 cases hb:aad n m with
 |true=>exact absurd (Nat.eq_of_beq_eq_true hb) h
 |false=>rfl
theorem aC (l:bk) (d:Nat) (x:SV):lk (.put d x :: l) d=x:=by simp [lk]
theorem aW {l:bk} {d t:Nat} {x:SV} (h:d≠t):lk (.put d x :: l) t=lk l t:=by simp [lk,oY h]
theorem Jm {l:bk} {d t:Nat}:(lk (.kill d :: l) t=lk l t∧∀ k off,lk l t=.lp k off→k≠d)∨lk (.kill d :: l) t=.none:=by
 simp only [lk];cases h:lk l t with
 |none=>exact .inr rfl
 |v a=>exact .inl ⟨rfl,fun _ _ e=>by cases e⟩
 |lp k off=>
  by_cases hk:k=d
  ·subst hk;exact .inr (by simp)
  ·exact .inl ⟨by simp [oY hk],fun k' gX e=>by cases e; exact hk⟩
theorem MI (l:dc) (d:Nat) (cs:List AV):eF ((d,cs) :: l) d=some cs:=by simp [eF]
theorem fX {l:dc} {d k:Nat} {cs cs':List AV} (h:eF ((d,cs) :: l) k=some cs'):(d=k∧cs'=cs)∨(d≠k∧eF l k=some cs'):=by
 by_cases e:d=k
 ·subst e;rw [MI] at h;exact .inl ⟨rfl,(abz h).symm⟩
 ·simp only [eF,oY e,cond_false] at h;exact .inr ⟨e,h⟩
theorem RT {l:dc} (h:l.all (fun p=>bg p.2)=true) {k:Nat} {cs:List AV} (hk:eF l k=some cs):bg cs=true:=by
 induction l with
 |nil=>simp [eF] at hk
 |cons x l ih=>
  obtain ⟨d,c⟩:=x;simp only [List.all_cons,Bool.and_eq_true] at h;rcases fX hk with ⟨_,rfl⟩|⟨_,hk⟩
  ·exact h.1
  ·exact ih h.2 hk
theorem qj.put {R:ak} {w:World} {β:Nat→Nat} {ab:bk} {a:Act} (h:qj R w β ab a.tmps) {d:Tmp} {x:SV} {c:Value} (hd:d < a.tmps.size) (hx:si R w β x c) :
  qj R w β (.put d x :: ab) (a.put (some d) c).tmps:=by
 intro i hi;by_cases e:d=i
 ·subst e;rw [aC];exact ⟨c,by simp [Act.put,hd],hx⟩
 ·rw [aW e] at hi ⊢;obtain ⟨c',h1,h2⟩:=h i hi;refine ⟨c',?_,h2⟩;simp only [Act.put];rw [Array.getElem?_setIfInBounds_ne e];exact h1
theorem bq.put {E:Env} {R:ak} {w:World} {β:Nat→Nat} {s:St} {a:Act} (h:bq E R w β s a) (dst:Option Tmp) {x:SV} {c:Value} (hx:si R w β x c) :
  bq E R w β (s.put dst x) (a.put dst c):=by
 cases dst with
 |none=>exact h
 |some d=>
  simp only [St.put];cases hb:abu d s.n with
  |true=>
   have hd:d < a.tmps.size:=by rw [h.n]; exact Nat.le_of_ble_eq_true hb
   exact ⟨h.g,h.b,h.t.put hd hx,by simp [Act.put,h.n],h.d⟩
  |false=>
   have hd:¬ d < a.tmps.size:=by
    rw [h.n];intro bY;have:abu d s.n=true:=Nat.ble_eq_true_of_le bY;rw [this] at hb;cases hb
   have he:a.put (some d) c=a:=by
    simp only [Act.put];rw [Array.setIfInBounds_eq_of_size_le (Nat.not_lt.1 hd)]
   rw [he];exact h
theorem tR {R:ak} {w:World} {v:Value} {a:AV} (h:tJ v=some a):Rel R w a v∧v.oneCell'=true:=by
 unfold tJ at h;split at h <;> cases h
 ·exact ⟨.bool _,rfl⟩
 ·exact ⟨.int _ _,rfl⟩
 ·rename_i s;exact ⟨.str s.data.toList,rfl⟩
 ·exact ⟨.mb,rfl⟩
 ·exact ⟨.jI,rfl⟩
 ·exact ⟨.lX,rfl⟩
 ·exact ⟨.cY,rfl⟩
 ·exact ⟨.qb,rfl⟩
theorem oZ {R:ak} {w:World}:∀ {vs:List Value} {l:List AV},nY vs=some l→aP R w l vs∧∀ v∈vs,v.oneCell'=true
 |[],l,h=>by simp [nY] at h; subst h; exact ⟨.nil,by simp⟩
 |v :: vs,l,h=>by
  unfold nY at h;split at h
  ·rename_i a r h1 h2;cases h;obtain ⟨k1,k2⟩:=tR (R:=R) (w:=w) h1;obtain ⟨k3,k4⟩:=oZ (R:=R) (w:=w) h2;exact ⟨.cons k1 k3,by simp [k2]; exact k4⟩
  ·cases h
theorem wK {R:ak} {w:World} {v:Value} {a:AV} (h:tK v=some a):Rel R w a v:=by
 unfold tK at h;split at h
 ·rename_i cs;split at h
  ·rename_i l hl;cases h;obtain ⟨k1,k2⟩:=oZ (R:=R) (w:=w) hl;exact .agg (vs:=cs.toList) k1 k2
  ·cases h
 ·rename_i cs;split at h
  ·rename_i l hl;cases h;obtain ⟨k1,_⟩:=oZ (R:=R) (w:=w) hl;exact .bu (vs:=cs.toList) k1
  ·cases h
 ·exact (tR h).1
theorem aY {E:Env} {R:ak} {w:World} {β:Nat→Nat} {s:St} {a:Act} (h:bq E R w β s a) (x:Operand):si R w β (bQ E s.ab x) (a.eval x):=by
 cases x with
 |tmp t=>
  simp only [bQ,Act.eval];by_cases hn:lk s.ab t=.none
  ·rw [hn]; trivial
  ·obtain ⟨c,h1,h2⟩:=h.t t hn;have:a.tmps.getD t undef=c:=by simp [Array.getD_eq_getD_getElem?,h1]
   rw [this];exact h2
 |const v=>
  simp only [bQ,Act.eval];cases hc:tK v with
  |none=>trivial
  |some y=>exact wK hc
 |global g=>
  simp only [bQ,Act.eval];cases hg:E.cw g with
  |none=>trivial
  |some cs=>exact Rel.ep (h.g.cw g cs hg).1
 |func f=>exact Rel.fn .nil .nil
end Go.Am
namespace Go.Am
open Go
section lists
variable {α:Type}
theorem yZ (n:Nat) (l:List α):gM n l=l.drop n:=by
 induction n generalizing l with
 |zero=>simp [gM]
 |succ n ih=>cases l <;> simp [gM,ih]
theorem MJ {n:Nat} {l r:List α} (h:takeN n l=some r):r=l.take n∧r.length=n:=by
 induction n generalizing l r with
 |zero=>simp [takeN] at h; subst h; simp
 |succ n ih=>
  cases l with
  |nil=>simp [takeN] at h
  |cons a l=>
   unfold takeN at h;split at h
   ·rename_i r' hr;cases h;obtain ⟨h1,h2⟩:=ih hr;exact ⟨by simp [h1],by simp [h2]⟩
   ·cases h
theorem XM {off n:Nat} {l r:List α} (h:Ji off n l=some r):r=(l.drop off).take n∧r.length=n:=by
 unfold Ji at h;rw [yZ] at h;exact MJ h
theorem fY (l:List α) (off:Nat) (ys:List α) (h:off+ys.length≤l.length):cu l off ys=l.take off++ys++l.drop (off+ys.length):=by
 induction l generalizing off ys with
 |nil=>
  have hy:ys=[]:=List.eq_nil_of_length_eq_zero (by rw [List.length_nil] at h; omega);subst hy;simp [cu]
 |cons a l ih=>
  cases ys with
  |nil=>simp [cu]
  |cons y ys=>
   cases off with
   |zero=>
    simp only [cu];rw [ih 0 ys (by simp at h ⊢; omega)];simp
   |succ n=>
    simp only [cu];rw [ih n (y :: ys) (by simp at h ⊢; omega)];rw [show n+1+(y :: ys).length=(n+(y :: ys).length)+1 by omega];simp
theorem BF (l:List α) (off:Nat) (ys:List α) (h:off+ys.length≤l.length):(cu l off ys).length=l.length:=by
 rw [fY l off ys h];simp;omega
end lists
section rel
variable {R:ak} {w:World}
theorem aP.length {l:List AV} {vs:List Value} (h:aP R w l vs):l.length=vs.length:=by
 induction l generalizing vs with
 |nil=>cases h; rfl
 |cons a l ih=>cases h with | cons h t=>simp [ih t]
theorem aP.get {l:List AV} {vs:List Value} (h:aP R w l vs) {i:Nat} {a:AV} (ha:l[i]?=some a):∃ c,vs[i]?=some c∧Rel R w a c:=by
 induction l generalizing vs i with
 |nil=>simp at ha
 |cons x l ih=>
  cases h with
  |cons h t=>
   cases i with
   |zero=>simp at ha; subst ha; exact ⟨_,by simp,h⟩
   |succ i=>simp at ha; obtain ⟨c,h1,h2⟩:=ih t ha; exact ⟨c,by simpa using h1,h2⟩
theorem aP.drop {l:List AV} {vs:List Value} (h:aP R w l vs) (n:Nat):aP R w (l.drop n) (vs.drop n):=by
 induction n generalizing l vs with
 |zero=>simpa using h
 |succ n ih=>cases h with
  |nil=>simpa using aP.nil
  |cons h t=>simpa using ih t
theorem aP.take {l:List AV} {vs:List Value} (h:aP R w l vs) (n:Nat):aP R w (l.take n) (vs.take n):=by
 induction n generalizing l vs with
 |zero=>simpa using aP.nil
 |succ n ih=>cases h with
  |nil=>simpa using aP.nil
  |cons h t=>simpa using aP.cons h (ih t)
theorem aP.append {l r:List AV} {vs us:List Value} (h:aP R w l vs) (k:aP R w r us):aP R w (l++r) (vs++us):=by
 induction l generalizing vs with
 |nil=>cases h; simpa using k
 |cons a l ih=>cases h with | cons h t=>exact .cons h (ih t)
theorem aP.one {a:AV} {c:Value} (h:Rel R w a c):aP R w [a] [c]:=.cons h .nil
theorem Rel.cells {a:AV} {c:Value} (h:Rel R w a c) (ht:a.ba=true):aP R w a.cells c.cells.toList∧∀ v∈c.cells.toList,v.oneCell'=true:=by
 cases h with
 |agg h h1=>exact ⟨h,h1⟩
 |bu h=>simp [AV.ba] at ht
 |bool=>exact ⟨.one (.bool _),by simp [aau,aao]⟩
 |int=>exact ⟨.one (.int _ _),by simp [aau,aao]⟩
 |str=>exact ⟨.one (.str _),by simp [aau,aao]⟩
 |jI=>exact ⟨.one .jI,by simp [aau,aao]⟩
 |ptr h=>exact ⟨.one (.ptr h),by simp [aau,aao]⟩
 |ep h=>exact ⟨.one (.ep h),by simp [aau,aao]⟩
 |mb=>exact ⟨.one .mb,by simp [aau,aao]⟩
 |j9=>exact ⟨.one .j9,by simp [aau,aao]⟩
 |oW=>exact ⟨.one .oW,by simp [aau,aao]⟩
 |oa h ho=>exact ⟨.one (.oa h ho),by simp [aau,aao]⟩
 |oX h ho=>exact ⟨.one (.oX h ho),by simp [aau,aao]⟩
 |list h hl hc hk=>exact ⟨.one (.list h hl hc hk),by simp [aau,aao]⟩
 |lz h hc=>exact ⟨.one (.lz h hc),by simp [aau,aao]⟩
 |jX h ho=>exact ⟨.one (.jX h ho),by simp [aau,aao]⟩
 |dM h ho hc=>exact ⟨.one (.dM h ho hc),by simp [aau,aao]⟩
 |gp h ho=>exact ⟨.one (.gp h ho),by simp [aau,aao]⟩
 |lX=>exact ⟨.one .lX,by simp [aau,aao]⟩
 |map h=>exact ⟨.one (.map h),by simp [aau,aao]⟩
 |cY=>exact ⟨.one .cY,by simp [aau,aao]⟩
 |fn h h'=>exact ⟨.one (.fn h h'),by simp [aau,aao]⟩
 |yield h=>exact ⟨.one (.yield h),by simp [aau,aao]⟩
 |qb=>exact ⟨.one .qb,by simp [aau,aao]⟩
 |iface h=>exact ⟨.one (.iface h),by simp [aau,aao]⟩
mutual
theorem Rel.jc:∀ {a:AV} {c:Value},Rel R w a c→Rel R w a.jc c
 |_,_,.bool b=>.bool b
 |_,_,.int k n=>.int k n
 |_,_,.str l=>.str l
 |_,_,.agg h h1=>.agg h.jc h1
 |_,_,.bu h=>.bu h.jc
 |_,_,.jI=>.jI
 |_,_,.ptr h=>.ptr h
 |_,_,.ep h=>.ep h
 |_,_,.mb=>.mb
 |_,_,.j9=>.j9
 |_,_,.oW=>.oW
 |_,_,.oa _ _=>.j9
 |_,_,.oX _ _=>.j9
 |_,_,@Rel.list _ _ .nil _ _ _ _ _ _ h hl hc hk=>.list h hl hc hk
 |_,_,@Rel.list _ _ .full _ _ _ _ _ _ h hl hc hk=>.list h hl hc hk
 |_,_,@Rel.list _ _ .lM _ _ _ _ _ _ h hl hc hk=>.list h hl hc hk
 |_,_,@Rel.list _ _ (.own _) _ _ _ _ _ _ h hl hc _=>.list h hl hc trivial
 |_,_,@Rel.list _ _ (.bF _ _) _ _ _ _ _ _ h hl hc _=>.list h hl hc trivial
 |_,_,.lz h hc=>.lz h hc
 |_,_,.jX h ho=>.jX h ho
 |_,_,.dM h ho hc=>.dM h ho hc
 |_,_,.gp h ho=>.gp h ho
 |_,_,.lX=>.lX
 |_,_,.map h=>.map h
 |_,_,.cY=>.cY
 |_,_,.fn h h'=>.fn h h'
 |_,_,.yield h=>.yield h
 |_,_,.qb=>.qb
 |_,_,.iface h=>.iface h
theorem aP.jc:∀ {l:List AV} {cs:List Value},aP R w l cs→aP R w (mY l) cs
 |_,_,.nil=>.nil
 |_,_,.cons h t=>.cons h.jc t.jc
end
theorem fk.get {b o:Nat} {l:List AV} (h:fk R w b o l):∃ vs,aP R w l vs∧(∀ v∈vs,v.oneCell'=true)∧(∀ j v,vs[j]?=some v→w.cell? ⟨b,o+j,none⟩=some v)∧∀ j,j < l.length→R.I b (o+j):=by
 induction l generalizing o with
 |nil=>exact ⟨[],.nil,by simp,by simp,by simp⟩
 |cons a l ih=>
  cases h with
  | @cons _ _ _ c _ hc h1 hi h t=>
   obtain ⟨vs,k1,k2,k3,k4⟩:=ih t;refine ⟨c :: vs,.cons h k1,?_,?_,?_⟩
   ·intro v hv;rcases List.mem_cons.1 hv with rfl|hv
    ·exact h1
    ·exact k2 v hv
   ·intro j v hv;cases j with
    |zero=>simp at hv; subst hv; exact hc
    |succ j=>simp at hv; have:=k3 j v hv; rwa [show o+1+j=o+(j+1) by omega] at this
   ·intro j hj;cases j with
    |zero=>exact hi
    |succ j=>have:=k4 j (by simp at hj; omega); rwa [show o+1+j=o+(j+1) by omega] at this
theorem fk.make {b o:Nat} {l:List AV} {vs:List Value} (h:aP R w l vs) (h1:∀ v∈vs,v.oneCell'=true) (hc:∀ j v,vs[j]?=some v→w.cell? ⟨b,o+j,none⟩=some v) (hi:∀ j,j < l.length→R.I b (o+j)):fk R w b o l:=by
 induction l generalizing vs o with
 |nil=>exact .nil
 |cons a l ih=>
  cases h with
  |cons h t=>
   refine .cons (hc 0 _ (by simp)) (h1 _ (by simp)) (hi 0 (by simp)) h (ih t (fun v hv=>h1 v (by simp [hv])) (fun j v hv=>?_) (fun j hj=>?_))
   ·have:=hc (j+1) v (by simpa using hv); rwa [show o+(j+1)=o+1+j by omega] at this
   ·have:=hi (j+1) (by simpa using hj); rwa [show o+(j+1)=o+1+j by omega] at this
theorem fk.drop {b o:Nat} {l:List AV} (h:fk R w b o l) (n:Nat):fk R w b (o+n) (l.drop n):=by
 induction n generalizing o l with
 |zero=>simpa using h
 |succ n ih=>cases h with
  |nil=>simpa using fk.nil
  |cons hc h1 hi h t=>have:=ih t; rw [show o+1+n=o+(n+1) by omega] at this; simpa using this
end rel
theorem cZ (b o n:Nat):(⟨b,o,none⟩:Addr).add n=⟨b,o+n,none⟩:=by unfold Addr.add; split <;> simp_all
section bJ
variable {E:Env} {R R':ak} {w w':World} {β β':Nat→Nat} {s:St} {a:Act}
theorem qj.mono (e:Ext R w R' w') {sl:bk} {tm:Array Value} (h:qj R w β sl tm):qj R' w' β sl tm:=
 fun i hi=>let ⟨c,h1,h2⟩:=h i hi; ⟨c,h1,h2.mono e⟩
theorem eH.mono (e:Ext R w R' w'):∀ {l:List (AV × AV)} {es:List MapEntry},eH R w l es→eH R' w' l es
 |[],[],_=>trivial
 |(_,_) :: _,_ :: _,h=>⟨h.1.mono e,h.2.1.mono e,eH.mono e h.2.2⟩
 |[],_ :: _,h=>h.elim
 |_ :: _,[],h=>h.elim
theorem qk {w w':World} {b:Nat} (h:b < w.heap.size) (e:w'.heap[b]?=w.heap[b]?):b < w'.heap.size:=by
 rw [Array.getElem?_eq_getElem h] at e;exact (abo.1 e).1
theorem iP.mono (e:Ext R w R' w') {go:GO} {ro:RO} (h:iP R w go ro) (hb:∀ b,ro.has b→w'.heap[b]?=w.heap[b]?) (hi:∀ b o,ro.has b→R'.I b o→R.I b o):iP R' w' go ro:=by
 cases ro with
 |none=>cases go <;> first | exact h | exact h.elim
 |bS=>cases go <;> first | exact h | exact h.elim
 |ck b=>
  have ka:=hb b rfl;cases go with
  |dead=>exact qk h ka
  |row cs el=>obtain ⟨vs,h1,h2,h3,h4⟩:=h; exact ⟨vs,ka.trans h1,h2.mono e,h3,fun o ho=>h4 o (hi b o rfl ho)⟩
  |tok f sz el=>exact h.elim
  |bF _ _ _=>exact h.elim
  |pY sR n left _=>obtain ⟨bm,seen,c0,h1,h2,h3⟩:=h; exact ⟨bm,seen,c0,e.ck h1,ka.trans h2,h3⟩
  |dv es sz el=>exact h.elim
  |map es=>obtain ⟨ax,clock,h1,h2,h3⟩:=h; exact ⟨ax,clock,ka.trans h1,eH.mono e h2,h3⟩
  |iI l pos=>exact ka.trans h
  |loop busy pending fn ab n params assign body defers done=>
   obtain ⟨⟨r,db,h1,h2,h3,h4,h5,h6,h7,h8,h9,h11⟩,h10⟩:=h;exact ⟨⟨r,db,ka.trans h1,h2,h3,h4.mono e,h5,h6,h7,h8,h9,e.ck h11⟩,h10⟩
  |defers o=>exact ka.trans h
 |tok f b c=>
  have ka:=hb b rfl;cases go with
  |tok f' sz el=>
   obtain ⟨h0,cur,h1,h2,h3,h4,h5⟩:=h;exact ⟨h0,cur,ka.trans h1,h2,h3,h4,fun o ho sS=>h5 o ho (hi b o rfl sS)⟩
  |dv es sz el=>
   obtain ⟨h0,rH,cur,vs,h1,h2,h3,h4,h5,h6,h7,h8⟩:=h;exact ⟨h0,rH,cur,vs,ka.trans h1,h2,h3,h4,fun o ho=>h5 o (hi b o rfl ho),h6.mono e,h7,h8⟩
  |dead=>exact qk h ka
  |row cs=>exact h.elim
  |bF _ _ _=>exact h.elim
  |pY _ _ _ _=>exact h.elim
  |map es=>exact h.elim
  |iI l pos=>exact h.elim
  |loop=>exact h.elim
  |defers o=>exact h.elim
 |bF ts=>
  cases go with
  |bF fs sz el=>
   obtain ⟨h1,h2,h3⟩:=h;refine ⟨h1,h2,fun j f t hf ht=>?_⟩;have h4:=h3 j f t hf ht;cases t with
   |bS=>exact h4
   |full f'=>exact h4
   |tok f' b c=>
    obtain ⟨h5,cur,k1,k2,k3,k4,k5⟩:=h4;have hh:RO.has (.bF ts) b:=⟨j,f',c,ht⟩;exact ⟨h5,cur,(hb b hh).trans k1,k2,k3,k4,fun o ho sS=>k5 o ho (hi b o hh sS)⟩
  |dead=>exact fun j f b c ht=>qk (h j f b c ht) (hb b ⟨j,f,c,ht⟩)
  |_=>exact h.elim
theorem Live.of {id b:Nat} {ro:RO} (h:nth R.obj id=some ro) (hb:ro.has b):Live R b:=⟨id,ro,h,hb⟩
theorem eI.bJ {G:List GO} (h:eI E R w G) (e:Ext R w R' w') (ho:R'.obj=R.obj) (hb:∀ b,Live R b→w'.heap[b]?=w.heap[b]?) (hi:∀ b o,Live R b→R'.I b o→R.I b o) (wf:∀ b o,R'.I b o→b < w'.heap.size) (hd:E.lo≤w.drawn→E.lo≤w'.drawn:=by first | exact fun h=>h | exact fun h=>Nat.le_succ_of_le h):eI E R' w' G where
 lo:=hd h.lo
 len:=by rw [ho]; exact h.len
 obj:=fun id go ro hg hr=>by
  rw [ho] at hr;exact (h.obj id go ro hg hr).mono e (fun b WC=>hb b (.of hr WC)) (fun b o WC=>hi b o (.of hr WC))
 inj:=fun i j ri rj b h1 h2=>by rw [ho] at h1 h2; exact h.inj i j ri rj b h1 h2
 wf:=wf
 cw:=fun g cs hg=>(h.cw g cs hg).mono e
theorem RS.bJ {bx:dc} (h:RS R w β bx) (e:Ext R w R' w') (hb:∀ k cs,eF bx k=some cs→w'.heap[β k]?=w.heap[β k]?) (hi:∀ k cs o,eF bx k=some cs→R'.I (β k) o→R.I (β k) o) (hl:∀ k cs,eF bx k=some cs→Live R' (β k)→Live R (β k)):RS R' w' β bx where
 box:=fun k cs hk=>by
  obtain ⟨⟨vs,el,h1,h2,h3⟩,h4,h5⟩:=h.box k cs hk;exact ⟨⟨vs,el,(hb k cs hk).trans h1,h2.mono e,h3⟩,fun o ho=>h4 o (hi k cs o hk ho),fun ER=>h5 (hl k cs hk ER)⟩
 inj:=h.inj
theorem sj.mono (e:Ext R w R' w'):∀ {l:List Nat} {ds:List Deferred},sj R l ds→sj R' l ds
 |[],[],_=>trivial
 |_ :: _,_ :: _,h=>let ⟨⟨b,h1,h2⟩,h3⟩:=h; ⟨⟨b,e.ck h1,h2⟩,sj.mono e h3⟩
 |[],_ :: _,h=>h.elim
 |_ :: _,[],h=>h.elim
theorem bq.bJ (h:bq E R w β s a) (e:Ext R w R' w') (ho:R'.obj=R.obj) (hb:∀ b,Own R β s.boxes b→w'.heap[b]?=w.heap[b]?) (hi:∀ b o,Own R β s.boxes b→R'.I b o→R.I b o) (wf:∀ b o,R'.I b o→b < w'.heap.size) (hd:E.lo≤w.drawn→E.lo≤w'.drawn:=by first | exact fun h=>h | exact fun h=>Nat.le_succ_of_le h):bq E R' w' β s a where
 g:=h.g.bJ e ho (fun b hl=>hb b (.inl hl)) (fun b o hl=>hi b o (.inl hl)) wf hd
 b:=h.b.bJ e (fun k cs hk=>hb _ (.inr ⟨k,cs,hk,rfl⟩)) (fun k cs o hk=>hi _ o (.inr ⟨k,cs,hk,rfl⟩)) (fun k cs _ hl=>by obtain ⟨id,ro,h1,h2⟩:=hl; rw [ho] at h1; exact ⟨id,ro,h1,h2⟩)
 t:=h.t.mono e
 n:=h.n
 d:=h.d.mono e
theorem bo {w:World} {b:Nat} {o:Obj} (h:w.heap[b]?=some o):b < w.heap.size:=(abo.1 h).1
theorem iP.lt {go:GO} {ro:RO} (h:iP R w go ro) {b:Nat} (hb:ro.has b):b < w.heap.size:=by
 cases ro with
 |none=>exact hb.elim
 |bS=>exact hb.elim
 |ck x=>
  have hb:b=x:=hb;subst hb;cases go with
  |dead=>exact h
  |row cs el=>obtain ⟨vs,h1,_⟩:=h; exact bo h1
  |tok f sz el=>exact h.elim
  |bF _ _ _=>exact h.elim
  |pY sR n left _=>obtain ⟨bm,seen,c0,_,h2,_⟩:=h; exact bo h2
  |dv es sz el=>exact h.elim
  |map es=>obtain ⟨ax,clock,h1,_⟩:=h; exact bo h1
  |iI l pos=>exact bo h
  |loop=>obtain ⟨⟨r,db,h1,_⟩,_⟩:=h; exact bo h1
  |defers o=>exact bo h
 |tok f x c=>
  have hb:b=x:=hb;subst hb;cases go with
  |tok f' sz el=>obtain ⟨_,cur,h1,_⟩:=h; exact bo h1
  |dv es sz el=>obtain ⟨_,_,cur,vs,h1,_⟩:=h; exact bo h1
  |dead=>exact h
  |row cs=>exact h.elim
  |bF _ _ _=>exact h.elim
  |pY _ _ _ _=>exact h.elim
  |map es=>exact h.elim
  |iI l pos=>exact h.elim
  |loop=>exact h.elim
  |defers o=>exact h.elim
 |bF ts=>
  obtain ⟨j,f,c,ht⟩:=hb;cases go with
  |bF fs sz el=>
   obtain ⟨h1,h2,h3⟩:=h;have bY:=cg ht;rw [h1] at bY;obtain ⟨f',hf⟩:∃ f',nth fs j=some f':=⟨fs[j],by rw [bj]; exact abr bY⟩;obtain ⟨_,cur,k1,_⟩:=h3 j f' _ hf ht;exact bo k1
  |dead=>exact h j f b c ht
  |_=>exact h.elim
theorem eI.cj {G:List GO} (h:eI E R w G) {b:Nat} (hl:Live R b):b < w.heap.size:=by
 obtain ⟨id,ro,h1,h2⟩:=hl;have bY:=cg h1;rw [h.len] at bY;obtain ⟨go,jH⟩:∃ go,nth G id=some go:=⟨G[id],by rw [bj]; exact abr bY⟩;exact (h.obj id go ro jH h1).lt h2
theorem bq.fE (h:bq E R w β s a) {b:Nat} (ho:Own R β s.boxes b):b < w.heap.size:=by
 rcases ho with hl|⟨k,cs,hk,rfl⟩
 ·exact h.g.cj hl
 ·obtain ⟨⟨vs,el,h1,_⟩,_⟩:=h.b.box k cs hk;exact bo h1
theorem cm {w w':World} {b:Nat} (h:w'.heap[b]?=w.heap[b]?) (o:Nat):w'.cell? ⟨b,o,none⟩=w.cell? ⟨b,o,none⟩:=by simp [World.cell?,h]
theorem vq (wf:∀ b o,R.I b o→b < w.heap.size) (x:Obj):Ext R w R (w.alloc x):=
 ⟨fun _ _ h=>h,fun b o h=>cm (heap_alloc_old w x b (wf b o h)) o,fun _ ro h=>⟨ro,h,cV.refl ro⟩,.old fun b hb=>heap_alloc_old w x b hb⟩
theorem bq.alloc (h:bq E R w β s a) (x:Obj):bq E R (w.alloc x) β s a:=
 h.bJ (vq h.g.wf x) rfl (fun b hb=>heap_alloc_old w x b (h.fE hb)) (fun _ _ _ hi=>hi) (fun b o hi=>by have:=h.g.wf b o hi; simp; omega)
end bJ
end Go.Am
