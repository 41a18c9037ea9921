/- The abstract machine: its values,its state,and what each operation does (definitions alone). -/
import Derived.CallsIn
import Derived.RangeFuncLeaves
import Derived.Laws.AppendOwn
set_option linter.all false
open BitVec renaming ofInt→aaq
open Go.Op renaming bytesLess→aas
open List renaming replicate→aap, getElem?_eq_some_iff→aaI, getElem?_append_left→aaK, getElem?_set_self→aaL
open Nat renaming beq→aal, ble→aao, min→aav, lt_of_lt_of_le→aax, blt→aaM
open Option.some renaming inj→aaR
namespace Go.Am
open Go
inductive LK where
 |nil | full | gQ | own (id:Nat) | aX (id j:Nat)
inductive AV where
 |bool (b:Bool)
 |int (k:IntKind) (n:Int)
 |str (s:List UInt8)
 |agg (cs:List AV)
 |bP (vs:List AV)
 |oW
 |ptr (id off:Nat)
 |ep (cs:List AV)
 |list (k:LK) (sz:Nat) (es:List AV)
 |jV (id off sz len cap:Nat)
 |de (id f off sz len:Nat)
 |gp (id f i off sz:Nat) (t:TypeId)
 |eX (id j sz len:Nat)
 |rp (id j f i off sz:Nat) (t:TypeId)
 |mb
 |map (id:Nat)
 |eV
 |fn (f:FuncId) (first cap:List AV)
 |yield (id:Nat)
 |sM
 |iface (t:TypeId) (v:AV)
def LK.closed:LK→Bool
 |.own _=>false
 |.aX _ _=>false
 |_=>true
mutual
def AV.closed:AV→Bool
 |.agg cs=>aF cs
 |.bP cs=>aF cs
 |.ep cs=>aF cs
 |.list k _ _=>k.closed
 |.fn _ x y=>aF x&&aF y
 |.iface _ v=>v.closed
 |.ptr _ _=>false
 |.jV _ _ _ _ _=>false
 |.de _ _ _ _ _=>false
 |.gp _ _ _ _ _ _=>false
 |.eX _ _ _ _=>false
 |.rp _ _ _ _ _ _ _=>false
 |.map _=>false
 |.yield _=>false
 |_=>true
def aF:List AV→Bool
 |[]=>true
 |a :: l=>a.closed&&aF l
end
mutual
def AV.hJ:AV→AV
 |.agg cs=>.agg (nV cs)
 |.bP cs=>.bP (nV cs)
 |.list (.own _) sz es=>.list .gQ sz es
 |.list (.aX _ _) sz es=>.list .gQ sz es
 |v=>v
def nV:List AV→List AV
 |[]=>[]
 |a :: l=>a.hJ :: nV l
end
inductive SV where
 |none
 |v (a:AV)
 |lp (key off:Nat)
inductive Ent where
 |put (d:Nat) (x:SV)
 |kill (d:Nat)
abbrev bo:=List Ent
abbrev cX:=List (Nat × List AV)
def lk:bo→Nat→SV
 |[],_=>.none
 |.put d x :: l,t=>bif aal d t then x else lk l t
 |.kill d :: l,t=>match lk l t with
  |.lp k off=>bif aal k d then .none else .lp k off
  |x=>x
def dR:cX→Nat→Option (List AV)
 |[],_=>none
 |(d,cs) :: l,k=>bif aal d k then some cs else dR l k
inductive GO where
 |dead
 |row (cs:List AV) (el:TypeId)
 |tok (f sz:Nat) (e:TypeId)
 |aX (fs:List Nat) (sz:Nat) (e:TypeId)
 |jQ (mid n:Nat) (left:List Nat) (cur:Option Nat) (t:TypeId)
 |cg (es:List AV) (sz:Nat) (el:TypeId)
 |gT (rows:List (List AV)) (sz:Nat) (el:TypeId)
 |map (es:List (AV × AV))
 |iO (s:List UInt8) (pos:Nat)
 |loop (busy:Bool) (pending:Option Code) (fn:FuncId) (ab:bo) (n:Nat) (params:List Tmp) (assign body:Code) (defers:Nat) (done:Bool)
 |defers (open_:Bool)
structure St where
 ab:bo
 boxes:cX
 G:List GO
 marks:List Nat
 ro:Option Nat
 n:Nat
def nth {α:Type}:List α→Nat→Option α
 |[],_=>none
 |a :: _,0=>some a
 |_ :: l,n+1=>nth l n
def ak {α:Type}:List α→Nat→α→List α
 |[],_,_=>[]
 |_ :: l,0,x=>x :: l
 |a :: l,n+1,x=>a :: ak l n x
def takeN {α:Type}:Nat→List α→Option (List α)
 |0,_=>some []
 |_+1,[]=>none
 |n+1,a :: l=>match takeN n l with
  |some r=>some (a :: r)
  |none=>none
def gm {α:Type}:Nat→List α→List α
 |0,l=>l
 |_+1,[]=>[]
 |n+1,_ :: l=>gm n l
def GP {α:Type} (off n:Nat) (l:List α):Option (List α):=takeN n (gm off l)
def bu {α:Type}:List α→Nat→List α→List α
 |l,_,[]=>l
 |[],_,_ :: _=>[]
 |_ :: l,0,y :: ys=>y :: bu l 0 ys
 |a :: l,n+1,y :: ys=>a :: bu l n (y :: ys)
def AV.cells:AV→List AV
 |.agg cs=>cs
 |v=>[v]
def AV.one:AV→Bool
 |.agg _=>false
 |.bP _=>false
 |_=>true
def ug:Value→Option AV
 |.bool b=>some (.bool b)
 |.int k n=>some (.int k n)
 |.string s=>some (.str s.data.toList)
 |.slice none 0 0=>some (.list .nil 0 [])
 |.pointer none=>some .oW
 |.map none=>some .mb
 |.nilFunc=>some .eV
 |.nilIface=>some .sM
 |_=>none
def oX:List Value→Option (List AV)
 |[]=>some []
 |v :: vs=>match ug v,oX vs with
  |some a,some l=>some (a :: l)
  |_,_=>none
def uh:Value→Option AV
 |.agg cs=>match oX cs.toList with
  |some l=>some (.agg l)
  |none=>none
 |.tuple cs=>match oX cs.toList with
  |some l=>some (.bP l)
  |none=>none
 |v=>ug v
inductive TK where
 |sc
 |int (k:IntKind)
 |str
 |st (fs:List (Nat × Nat × Bool))
 |arr (len esz:Nat) (aby:Bool)
 |sl (elem esz:Nat) (aby:Bool) (bk:Nat) (X5:Option AV)
 |map (key elem:TypeId) (X5:Option AV)
mutual
inductive EK where
 |no
 |bool
 |int
 |str
 |st (fs:Sw)
inductive Sw where
 |nil
 |cons (off sz:Nat) (ag:Bool) (k:EK) (rest:Sw)
end
structure TI where
 k:TK
 size:Nat
 agg:Bool
 zero:Option AV
 ek:EK
def lC:TypeDesc→Bool
 |.struct _=>true
 |.array _ _=>true
 |_=>false
def fieldsOf (P:Program):List Field→Option (List (Nat × Nat × Bool))
 |[]=>some []
 |f :: fs=>match P.info? f.type,P.underlying f.type,fieldsOf P fs with
  |some i,some u,some l=>some ((f.offset,i.size,lC u) :: l)
  |_,_,_=>none
def gU (i:TypeInfo):Option AV:=match i.zero with
 |some z=>uh z
 |none=>none
def sN (P:Program):TypeDesc→Option TK
 |.int k=>some (.int k)
 |.string=>some .str
 |.struct fs=>match fieldsOf P fs.toList with
  |some l=>some (.st l)
  |none=>none
 |.array n e=>match P.info? e,P.underlying e with
  |some i,some u=>some (.arr n i.size (lC u))
  |_,_=>none
 |.slice e=>match P.info? e,P.underlying e with
  |some i,some u=>some (.sl e i.size (lC u) i.bytes (gU i))
  |_,_=>none
 |.map k e=>match P.info? e with
  |some i=>some (.map k e (gU i))
  |none=>none
 |_=>some .sc
def GQ (P:Program) (ek:TypeId→EK):List Field→Option Sw
 |[]=>some .nil
 | f :: fs => if f.name == "_" then none else match P.info? f.type, P.underlying f.type, GQ P ek fs with
  |some i,some u,some l=>some (.cons f.offset i.size (lC u) (ek f.type) l)
  |_,_,_=>none
def zf (sz:Nat) (ag:Bool) (k:EK):Nat→Nat→Sw
 |0,_=>.nil
 |n+1,i=>.cons (i * sz) sz ag k (zf sz ag k n (i+1))
def sO (P:Program):Nat→TypeId→EK
 |0,_=>.no
 |n+1,t=>match P.underlying t with
  |some .bool=>.bool
  |some (.int _)=>.int
  |some .string=>.str
  |some (.struct fs)=>if P.stoodInHeld t then .no else match GQ P (sO P n) fs.toList with
   |some l=>.st l
   |none=>.no
  |some (.array m e)=>match P.info? e,P.underlying e with
   |some i,some u=>.st (zf i.size (lC u) (sO P n e) m 0)
   |_,_=>.no
  |_=>.no
def xh (P:Program) (t:TypeId):EK:=match sO P 6 t with
 |.st l=>if P.eqGuardType P.depth t then .no else .st l
 |k=>k
def Ke (P:Program) (t:TypeId):Option TI:=
 match P.info? t,P.underlying t with
 |some i,some u=>match sN P u with
  |some k=>some { k:=k,size:=i.size,agg:=lC u,zero:=gU i,ek:=xh P t }
  |none=>none
 |_,_=>none
def ui:AV→AV→Bool
 |.bool a,.bool b=>a == b
 |.int k a,.int k' b=>(k == k')&&a == b
 |.str a,.str b=>a == b
 |.oW,.oW=>true
 |.ptr i o,.ptr i' o'=>aal i i'&&aal o o'
 |.mb,.mb=>true
 |.map i,.map i'=>aal i i'
 |.eV,.eV=>true
 |.sM,.sM=>true
 |.jV a b c d e,.jV a' b' c' d' e'=>aal a a'&&aal b b'&&aal c c'&&aal d d'&&aal e e'
 |.de a b c d e,.de a' b' c' d' e'=>aal a a'&&aal c c'&&aal d d'&&(aal b b'&&aal e e')
 |.gp a b c d e t,.gp a' b' c' d' e' t'=>aal a a'&&aal b b'&&aal c c'&&aal d d'&&aal e e'&&aal t t'
 |.eX a b c d,.eX a' b' c' d'=>aal a a'&&aal b b'&&aal c c'&&aal d d'
 |.rp a b c d e f t,.rp a' b' c' d' e' f' t'=>aal a a'&&aal b b'&&aal c c'&&aal d d'&&aal e e'&&aal f f'&&aal t t'
 |_,_=>false
mutual
def eu:AV→AV→Bool
 |.fn f x y,.fn f' x' y'=>aal f f'&&bD x x'&&bD y y'
 |.agg cs,.agg eZ=>bD cs eZ
 |.ep cs,.ep eZ=>bD cs eZ
 |.bP cs,.bP eZ=>bD cs eZ
 |.list .nil a es,.list .nil a' es'=>aal a a'&&bD es es'
 |.list .full a es,.list .full a' es'=>aal a a'&&bD es es'
 |.list .gQ a es,.list .gQ a' es'=>aal a a'&&bD es es'
 |.list (.own i) a es,.list (.own i') a' es'=>aal i i'&&aal a a'&&bD es es'
 |.list (.aX i j) a es,.list (.aX i' j') a' es'=>aal i i'&&aal j j'&&aal a a'&&bD es es'
 |a,b=>ui a b
def bD:List AV→List AV→Bool
 |[],[]=>true
 |a :: l,b :: r=>eu a b&&bD l r
 |_,_=>false
end
mutual
inductive aP
 |int (k:IntKind)
 |bool
 |str
 |agg (ps:aQ)
 |bP (ps:aQ)
 |list (sz:Nat) (p:aP)
 |own (id sz:Nat) (p:aP)
 |aX (id sz:Nat) (p:aP)
 |eX (id sz:Nat)
 |oD (v:AV)
 |two (u v:AV)
inductive aQ
 |nil
 |cons (p:aP) (ps:aQ)
end
abbrev aQ.ci (r:aQ):aQ:=.cons (.int .i64) r
def X6 (s:Bool) (α β:Type):Type:=match s with
 |true=>α
 |false=>α × β
def aQ.isNil:aQ→Bool
 |.nil=>true
 |.cons _ _=>false
mutual
def aP.T:aP→Type
 |.int _=>Int
 |.bool=>Bool
 |.str=>List UInt8
 |.agg ps=>ps.T
 |.bP ps=>ps.T
 |.list _ p=>List p.T
 |.own _ _ p=>List p.T
 |.aX _ _ p=>Nat × List p.T
 |.eX _ _=>Nat × Nat
 |.oD _=>Unit
 |.two _ _=>Bool
def aQ.T:aQ→Type
 |.nil=>Unit
 |.cons p ps=>X6 ps.isNil p.T ps.T
end
mutual
def aP.enc:(p:aP)→p.T→AV
 |.int k,(n:Int)=>.int k n
 |.bool,(b:Bool)=>.bool b
 |.str,(s:List UInt8)=>.str s
 |.agg ps,x=>.agg (ps.enc x)
 |.bP ps,x=>.bP (ps.enc x)
 |.list sz p,(xs:List p.T)=>.list .gQ sz (xs.map p.enc)
 |.own id sz p,(xs:List p.T)=>.list (.own id) sz (xs.map p.enc)
 |.aX id sz p,(x:Nat × List p.T)=>.list (.aX id x.1) sz (x.2.map p.enc)
 |.eX id sz,(x:Nat × Nat)=>.eX id x.1 sz x.2
 |.oD v,_=>v
 |.two u v,(b:Bool)=>bif b then v else u
def aQ.enc:(ps:aQ)→ps.T→List AV
 |.nil,_=>[]
 |.cons p .nil,x=>[p.enc x]
 |.cons p (.cons q ps),x=>p.enc x.1 :: (aQ.cons q ps).enc x.2
end
def TM:IntKind→IntKind→Bool:=fun a b=>decide (a=b)
def AV.lC:AV→List AV
 |.agg cs=>cs
 |_=>[]
def AV.TN:AV→List AV
 |.bP cs=>cs
 |_=>[]
def AV.cY:AV→List AV
 |.list _ _ es=>es
 |_=>[]
def AV.abz:AV→Nat
 |.list (.aX _ j) _ _=>j
 |_=>0
def AV.abA:AV→Nat × Nat
 |.eX _ j _ len=>(j,len)
 |_=>(0,0)
def AV.pM:AV→Int
 |.int _ n=>n
 |_=>0
def AV.X7:AV→Bool
 |.bool b=>b
 |_=>false
def AV.TO:AV→List UInt8
 |.str s=>s
 |_=>[]
def fa:List AV→AV
 |a :: _=>a
 |[]=>.oW
def L9:List AV→List AV
 |_ :: l=>l
 |[]=>[]
mutual
def aP.bw:(p:aP)→AV→p.T
 |.int _,v=>v.pM
 |.bool,v=>v.X7
 |.str,v=>v.TO
 |.agg ps,v=>ps.bw v.lC
 |.bP ps,v=>ps.bw v.TN
 |.list _ p,v=>v.cY.map p.bw
 |.own _ _ p,v=>v.cY.map p.bw
 |.aX _ _ p,v=>(v.abz,v.cY.map p.bw)
 |.eX _ _,v=>v.abA
 |.oD _,_=>()
 |.two _ v,a=>eu a v
def aQ.bw:(ps:aQ)→List AV→ps.T
 |.nil,_=>()
 |.cons p .nil,l=>p.bw (fa l)
 |.cons p (.cons q ps),l=>(p.bw (fa l),(aQ.cons q ps).bw (L9 l))
end
def allFit (f:AV→Bool):List AV→Bool
 |[]=>true
 |a :: l=>f a&&allFit f l
mutual
def aP.fits:aP→AV→Bool
 |.int k,v=>match v with
  |.int k' _=>TM k k'
  |_=>false
 |.bool,v=>match v with
  |.bool _=>true
  |_=>false
 |.str,v=>match v with
  |.str _=>true
  |_=>false
 |.agg ps,v=>match v with
  |.agg cs=>ps.fits cs
  |_=>false
 |.bP ps,v=>match v with
  |.bP cs=>ps.fits cs
  |_=>false
 |.list sz p,v=>match v with
  |.list _ bh es=>(aal sz bh || es.isEmpty)&&allFit p.fits es
  |_=>false
 |.own id sz p,v=>match v with
  |.list (.own iU) bh es=>(aal id iU&&aal sz bh)&&allFit p.fits es
  |_=>false
 |.aX id sz p,v=>match v with
  |.list (.aX iU _) bh es=>(aal id iU&&aal sz bh)&&allFit p.fits es
  |_=>false
 |.eX id sz,v=>match v with
  |.eX iU _ bh _=>aal id iU&&aal sz bh
  |_=>false
 |.oD v,u=>eu u v
 |.two u v,a=>eu a u || eu a v
def aQ.fits:aQ→List AV→Bool
 |.nil,l=>l.isEmpty
 |.cons p ps,l=>match l with
  |a :: l=>p.fits a&&ps.fits l
  |[]=>false
end
def aP.dec (p:aP) (v:AV):Option p.T:=bif p.fits v then some (p.bw v) else none
def aQ.dec (ps:aQ) (l:List AV):Option ps.T:=bif ps.fits l then some (ps.bw l) else none
structure Env where
 P:Program
 ti:TypeId→Option TI
 dF:Nat→Option (List AV)
 zg:FuncId→Tmp→Bool
 Pm:TypeId→Option aP
 lo:Nat:=0
 gho:FuncId→Tmp→List (Option Nat × Nat × TypeId):=fun _ _=>[]
 elg:TypeId→Option aP:=fun _=>none
 gx:Nat→Bool:=fun _=>false
 Kf:∀ t i,ti t=some i→Ke P t=some i
 mixed:P.follows .mixedOrders=true
 Dm:∀ g cs,dF g=some cs→aF cs=true
def bG (E:Env) (ab:bo):Operand→SV
 |.tmp t=>lk ab t
 |.const v=>match uh v with
  |some a=>.v a
  |none=>.none
 |.global g=>match E.dF g with
  |some cs=>.v (.ep cs)
  |none=>.none
 |.func f=>.v (.fn f [] [])
def St.put (s:St) (dst:Option Tmp) (x:SV):St:=match dst with
 |some d=>match aaM d s.n with
  |true=>⟨.put d x :: s.ab,s.boxes,s.G,s.marks,s.ro,s.n⟩
  |false=>s
 |none=>s
def hZ:AV:=.bP []
def uj (agg:Bool) (cs:List AV):Option AV:=
 if agg then some (.agg cs) else match cs with
  |[c]=>some c
  |_=>none
def pN (s:St):SV→Option (List AV × Nat)
 |.lp k off=>match dR s.boxes k with
  |some cs=>some (cs,off)
  |none=>none
 |.v (.ptr id off)=>match nth s.G id with
  |some (.row cs _)=>some (cs,off)
  |_=>none
 |.v (.ep cs)=>some (cs,0)
 |_=>none
def Cc (n:Nat):SV→Option SV
 |.lp k off=>some (.lp k (off+n))
 |.v (.ptr id off)=>some (.v (.ptr id (off+n)))
 |.v (.ep cs)=>some (.v (.ep (gm n cs)))
 |.v (.gp id f i off sz t)=>some (.v (.gp id f i (off+n) sz t))
 |.v (.rp id j f i off sz t)=>some (.v (.rp id j f i (off+n) sz t))
 |_=>none
def Dn (t:Bool):AV→AV→AV
 |.bool x,.bool y=>.bool (bif t then x else y)
 |.int k x,.int k' y=>if k=k' then .int k (bif t then x else y) else (bif t then .int k x else .int k' y)
 |a,b=>bif t then a else b
def IV (ag:Bool) (off sz:Nat) (cs:List AV):Option AV:=
 if ag then (match GP off sz cs with | some l=>uj true l | none=>none) else (match GP off 1 cs with | some l=>uj false l | none=>none)
mutual
def nK:EK→AV→AV→Option Bool
 |.bool,.bool a,.bool b=>some (a == b)
 |.int,.int k a,.int k' b=>if k=k' then some (a == b) else none
 |.str,.str a,.str b=>some (a == b)
 |.st fs,.agg xs,.agg ys=>vW fs xs ys
 |_,_,_=>none
def vW:Sw→List AV→List AV→Option Bool
 |.nil,_,_=>some true
 |.cons off sz ag k rest,xs,ys=>match IV ag off sz xs,IV ag off sz ys with
  |some a,some b=>match nK k a b,vW rest xs ys with
   |some t,some u=>some (t&&u)
   |_,_=>none
  |_,_=>none
end
def TP (k:IntKind) (a b:Int):Int:=k.wrap (aaq k.bits a &&& aaq k.bits b).toNat
def orI (k:IntKind) (a b:Int):Int:=k.wrap (aaq k.bits a ||| aaq k.bits b).toNat
def TQ (k:IntKind) (a b:Int):Int:=k.wrap (aaq k.bits a ^^^ aaq k.bits b).toNat
def EM (op:BinOp) (x y:AV):Option (Bool × AV):=
 match x,y with
 |.int k a,.int k' b=>
  match op with
  |.shl=>some (decide (0≤b),.int k (k.wrap (a * 2 ^ (min b.toNat k.bits))))
  |.shr=>some (decide (0≤b),.int k (a.fdiv (2 ^ (min b.toNat k.bits))))
  |_=>if k=k' then
    match op with
    |.add=>some (true,.int k (k.wrap (a+b)))
    |.sub=>some (true,.int k (k.wrap (a - b)))
    |.mul=>some (true,.int k (k.wrap (a * b)))
    |.quo=>some (!(decide (b=0)),.int k (k.wrap (a.tdiv b)))
    |.rem=>some (!(decide (b=0)),.int k (a.tmod b))
    |.and=>some (true,.int k (TP k a b))
    |.or=>some (true,.int k (orI k a b))
    |.xor=>some (true,.int k (TQ k a b))
    |.eql=>some (true,.bool (a == b))
    |.neq=>some (true,.bool (a != b))
    |.lss=>some (true,.bool (a < b))
    |.leq=>some (true,.bool (a≤b))
    |.gtr=>some (true,.bool (a > b))
    |.geq=>some (true,.bool (a≥b))
    |_=>none
   else none
 |.str a,.str b=>
  match op with
  |.add=>some (decide (a.length+b.length≤9223372036854775807),.str (a++b))
  |.eql=>some (true,.bool (a == b))
  |.neq=>some (true,.bool (!(a == b)))
  |.lss=>some (true,.bool (aas a b))
  |.leq=>some (true,.bool (aas a b || a == b))
  |.gtr=>some (true,.bool (!(aas a b || a == b)))
  |.geq=>some (true,.bool (!(aas a b)))
  |_=>none
 |_,_=>none
end Go.Am
namespace Go.Am
open Go
def St.kill (s:St) (d:Nat):St:=⟨.kill d :: s.ab,s.boxes,s.G,s.marks,s.ro,s.n⟩
def AV.aR:AV→Bool
 |.bP _=>false
 |_=>true
def St.eF (s:St) (o:GO):St:=⟨s.ab,s.boxes,s.G++[o],s.marks,s.ro,s.n⟩
def St.bq (s:St) (G:List GO):St:=⟨s.ab,s.boxes,G,s.marks,s.ro,s.n⟩
def St.xi (s:St) (d:Nat) (cs:List AV):St:=⟨s.ab,(d,cs) :: s.boxes,s.G,s.marks,s.ro,s.n⟩
def gv (E:Env) (f:FuncId) (s:St) (dst:Option Tmp) (el:TypeId) (cs:List AV):Option (Bool × St):=
 match dst with
 |none=>none
 |some d=>
  if E.zg f d then some (true,(s.eF (.row cs el)).put (some d) (.v (.ptr s.G.length 0)))
  else match aaM d s.n with
   |true=>some (true,((s.kill d).xi d cs).put (some d) (.lp d 0))
   |false=>none
def nL (E:Env) (ab:bo):List Operand→Option (List AV)
 |[]=>some []
 |x :: l=>match bG E ab x,nL E ab l with
  |.v a,some r=>some (a :: r)
  |_,_=>none
def O0 (E:Env) (ab:bo):List (Nat × Operand)→Option (List (Nat × AV))
 |[]=>some []
 |(i,x) :: l=>match bG E ab x,O0 E ab l with
  |.v a,some r=>some ((i,a) :: r)
  |_,_=>none
def placeOf:TK→Nat→Option (Nat × Nat)
 |.st fs,j=>match nth fs j with
  |some (o,sz,_)=>some (o,sz)
  |none=>none
 |.arr _ esz _,j=>some (j * esz,esz)
 |_,_=>none
def xj (place:Nat→Option (Nat × Nat)) (cells:List AV):List (Nat × AV)→Option (List AV)
 |[]=>some cells
 |(i,v) :: rest=>match place i with
  |none=>none
  |some (off,sz)=>
   if v.aR&&aal v.cells.length sz&&aao (off+sz) cells.length then xj place (bu cells off v.cells) rest else none
def EN (esz:Nat) (es:List AV):List (Nat × AV)→Option (List AV)
 |[]=>some es
 |(i,v) :: rest=>
  if v.aR&&aal v.cells.length esz&&aao (i+1) es.length&&v.closed then EN esz (ak es i v) rest else none
def pO (E:Env) (s:St) (t:TypeId) (parts:List (Nat × Operand)):Option AV:=
 match E.ti t,O0 E s.ab parts with
 |some i,some ps=>match i.zero with
  |some z=>match xj (placeOf i.k) z.cells ps with
   |some cs=>if i.agg&&z.aR then some (.agg cs) else none
   |none=>none
  |none=>none
 |_,_=>none
def Cd:List (Nat × AV)→List (Nat × AV)
 |[]=>[]
 |(i,v) :: l=>(i,v.hJ) :: Cd l
def cG (E:Env) (s:St) (t:TypeId) (len:Nat) (parts:List (Nat × Operand)):Option AV:=
 match E.ti t,O0 E s.ab parts with
 |some i,some ps=>match i.k with
  |.sl _ esz _ _ (some z)=>
    if aal z.cells.length esz&&aao 1 esz&&aao (len * esz) 16777216&&z.aR&&z.closed then
     match EN esz (aap len z) (Cd ps) with
     |some es=>some (.list .full esz es)
     |none=>none
    else none
  |_=>none
 |_,_=>none
def uk (E:Env) (s:St) (t:TypeId) (p:SV):Option AV:=
 match E.ti t,pN s p with
 |some i,some (cs,off)=>match GP off i.size cs with
  |some l=>uj i.agg l
  |none=>none
 |_,_=>none
def iQ (E:Env) (s:St) (t:TypeId) (p x:SV):Option St:=
 match E.ti t,x with
 |some i,.v v=>
  if v.aR&&aal v.cells.length i.size then
   match p with
   |.lp k off=>match dR s.boxes k with
    |some cs=>if aao (off+v.cells.length) cs.length then some (s.xi k (bu cs off v.cells)) else none
    |none=>none
   |.v (.ptr id off)=>match nth s.G id with
    |some (.row cs el)=>if aao (off+v.cells.length) cs.length then some (s.bq (ak s.G id (.row (bu cs off v.cells) el))) else none
    |_=>none
   |_=>none
  else none
 |_,_=>none
def ae (es:List AV) (n:Nat):AV:=match nth es n with
 |some e=>e
 |none=>hZ
def jW:List GO→Nat→TypeId→Nat→Option Nat
 |[],_,_,_=>none
 |.aX _ sz e :: G,bh,e',i=>match jW G bh e' (i+1) with
  |some j=>some j
  |none=>bif aal sz bh&&aal e e' then some i else none
 |_ :: G,bh,e',i=>jW G bh e' (i+1)
def nW:List GO→Nat→TypeId→Nat→Option Nat
 |[],_,_,_=>none
 |.gT _ sz e :: G,bh,e',i=>match nW G bh e' (i+1) with
  |some j=>some j
  |none=>bif aal sz bh&&aal e e' then some i else none
 |_ :: G,bh,e',i=>nW G bh e' (i+1)
def aP.lst (p:aP) (sz:Nat) (_:TypeId):aP:=.list sz p
def aP.fin (G:List GO):aP→aP
 |.aX e sz p=>match nW G sz e 0 with
  |some id=>.eX id sz
  |none=>match jW G sz e 0 with
   |some id=>.aX id sz p
   |none=>p.lst sz e
 |.agg ps=>.agg (X8 ps)
 |p=>p
where
 X8:aQ→aQ
  |.nil=>.nil
  |.cons p ps=>.cons (match p with
   |.aX e sz q=>match nW G sz e 0 with
    |some id=>.eX id sz
    |none=>match jW G sz e 0 with
     |some id=>.aX id sz q
     |none=>q.lst sz e
   |p=>p) (X8 ps)
def Ma (E:Env) (G:List GO) (t:TypeId):Option aP:=match E.elg t with
 |some p=>some (p.fin G)
 |none=>E.Pm t
def zh (E:Env) (s:St) (id f i sz:Nat) (t:TypeId):Option (Bool × AV):=match nth s.G id with
 |some (.cg es bh _)=>match Ma E s.G t with
  |some p=>if aal sz bh then some (decide (f=es.length)&&decide (i < es.length)&&p.fits (ae es i),p.enc (p.bw (ae es i))) else none
  |none=>if aal sz bh then some (decide (f=es.length)&&decide (i < es.length),ae es i) else none
 |_=>none
def rowOf (rows:List (List AV)) (j:Nat):List AV:=match nth rows j with
 |some r=>r
 |none=>[]
def zi (E:Env) (s:St) (id j f i sz:Nat) (t:TypeId):Option (Bool × AV):=match nth s.G id with
 |some (.gT rows bh _)=>match Ma E s.G t with
  |some p=>if aal sz bh then some (decide (f=(rowOf rows j).length)&&decide (i < (rowOf rows j).length)&&p.fits (ae (rowOf rows j) i),p.enc (p.bw (ae (rowOf rows j) i))) else none
  |none=>if aal sz bh then some (decide (f=(rowOf rows j).length)&&decide (i < (rowOf rows j).length),ae (rowOf rows j) i) else none
 |_=>none
def Ce (E:Env) (s:St) (t:TypeId) (p:SV):Option (Bool × AV):=match p with
 |.v (.gp id f i off sz ty)=>match E.ti t,zh E s id f i sz ty with
  |some ti,some (c,v)=>match GP off ti.size v.cells with
   |some l=>match uj ti.agg l with
    |some r=>some (c,r)
    |none=>none
   |none=>none
  |_,_=>none
 |.v (.rp id j f i off sz ty)=>match E.ti t,zi E s id j f i sz ty with
  |some ti,some (c,v)=>match GP off ti.size v.cells with
   |some l=>match uj ti.agg l with
    |some r=>some (c,r)
    |none=>none
   |none=>none
  |_,_=>none
 |p=>match uk E s t p with
  |some v=>some (true,v)
  |none=>none
def fQ (E:Env) (s:St) (t:TypeId) (p x:SV):Option (Bool × St):=match p with
 |.v (.gp id f i off sz ty)=>match E.ti t,x,nth s.G id with
  |some ti,.v x,some (.cg es bh el)=>
   if x.aR&&aal x.cells.length ti.size&&aal sz bh then
    if aal off 0&&aal ti.size sz then some (decide (f=es.length)&&decide (i < es.length),s.bq (ak s.G id (.cg (ak es i x) bh el)))
    else match zh E s id f i sz ty with
     |some (c,.agg cs)=>if aao (off+ti.size) cs.length&&aal cs.length sz then some (c,s.bq (ak s.G id (.cg (ak es i (.agg (bu cs off x.cells))) bh el))) else none
     |_=>none
   else none
  |_,_,_=>none
 |.v (.rp id j f i off sz ty)=>match E.ti t,x,nth s.G id with
  |some ti,.v x,some (.gT rows bh el)=>
   if x.aR&&aal x.cells.length ti.size&&aal sz bh then
    if aal off 0&&aal ti.size sz then some (decide (f=(rowOf rows j).length)&&decide (i < (rowOf rows j).length)&&x.closed,s.bq (ak s.G id (.gT (ak rows j (ak (rowOf rows j) i x)) bh el)))
    else match zi E s id j f i sz ty with
     |some (c,.agg cs)=>if aao (off+ti.size) cs.length&&aal cs.length sz then some (c&&(AV.agg (bu cs off x.cells)).closed,s.bq (ak s.G id (.gT (ak rows j (ak (rowOf rows j) i (.agg (bu cs off x.cells)))) bh el))) else none
     |_=>none
   else none
  |_,_,_=>none
 |p=>match iQ E s t p x with
  |some s'=>some (true,s')
  |none=>none
def tA (s:St) (p x:SV):Bool × SV × List GO:=match p,x with
 |.v (.gp _ _ _ 0 1 _),.v (.de id f 0 sz len)=>match nth s.G id with
  |some (.cg es bh _)=>(decide (f=es.length)&&decide (len=es.length)&&aal sz bh&&aF es,.v (.list .gQ sz es),ak s.G id .dead)
  |_=>(true,x,s.G)
 |_,_=>(true,x,s.G)
def lD (E:Env) (s:St) (t:TypeId) (p x:SV):Option (Bool × St):=match fQ E (s.bq (tA s p x).2.2) t p (tA s p x).2.1 with
 |some (c,s')=>some ((tA s p x).1&&c,s')
 |none=>none
def mH (E:Env) (t:TypeId) (x ix:SV):Option (Bool × SV):=
 match E.ti t,ix with
 |some i,.v (.int _ n)=>match i.k,x with
  |.sl _ esz _ _ _,.v (.list _ sz es)=>if aal sz esz || es.isEmpty then
    match E.Pm t with
    |some p=>some (decide (0≤n∧n < es.length)&&p.fits (ae es n.toNat),.v (.ep (p.enc (p.bw (ae es n.toNat))).cells))
    |none=>some (decide (0≤n∧n < es.length),.v (.ep (ae es n.toNat).cells))
   else none
  |.sl _ esz _ _ _,.v (.jV id off sz len _)=>if aal sz esz then some (decide (0≤n∧n < len),.v (.ptr id (off+n.toNat * sz))) else none
  |.sl _ esz _ _ _,.v (.de id f off sz len)=>if aal sz esz then some (decide (0≤n∧n < len),.v (.gp id f (off+n.toNat) 0 sz t)) else none
  |.sl _ esz _ _ _,.v (.eX id j sz len)=>if aal sz esz then some (decide (0≤n∧n < len),.v (.rp id j len n.toNat 0 sz t)) else none
  |.arr len esz _,.v (.ep cs)=>match E.Pm t with
   |some p=>if aal esz 1&&aao len cs.length then some (decide (0≤n∧n < len)&&p.fits (ae cs n.toNat),.v (.ep [p.enc (p.bw (ae cs n.toNat))])) else none
   |none=>some (decide (0≤n∧n < len),.v (.ep (gm (n.toNat * esz) cs)))
  |.arr len esz _,p=>match Cc (n.toNat * esz) p with
   |some q=>some (decide (0≤n∧n < len),q)
   |none=>none
  |_,_=>none
 |_,_=>none
def mI (E:Env) (t:TypeId) (x:SV) (j:Nat):Option SV:=
 match E.ti t with
 |some i=>match i.k with
  |.st fs=>match nth fs j with
   |some (o,sz,_)=>if aao 1 sz then Cc o x else none
   |none=>none
  |_=>none
 |none=>none
def GR (E:Env) (t:TypeId) (x:SV) (j:Nat):Option AV:=
 match E.ti t,x with
 |some i,.v (.agg cs)=>match i.k with
  |.st fs=>match nth fs j with
   |some (o,sz,ag)=>if ag then (match GP o sz cs with | some l=>uj true l | none=>none) else (match GP o 1 cs with | some l=>uj false l | none=>none)
   |none=>none
  |_=>none
 |_,_=>none
def GS (E:Env) (t:TypeId) (x ix:SV):Option (Bool × AV):=
 match E.ti t,x,ix with
 |some i,.v (.str l),.v (.int _ n)=>match i.k with
  |.str=>some (decide (0≤n∧n < l.length),.int .u8 (l.getD n.toNat 0).toNat)
  |_=>none
 |some i,.v (.agg cs),.v (.int _ n)=>match i.k with
  |.arr len esz ag=>match (if ag then (match GP (n.toNat * esz) esz cs with | some l=>uj true l | none=>none) else (match GP (n.toNat * esz) 1 cs with | some l=>uj false l | none=>none)) with
   |some v=>some (decide (0≤n∧n < len),v)
   |none=>none
  |_=>none
 |_,_,_=>none
def zj (y:Nat):SV→Option (Bool × Nat)
 |.v (.int _ n)=>some (decide (0≤n∧n≤y),n.toNat)
 |_=>none
def kv {α:Type} (lo hi:Nat) (l:List α):List α:=(l.take hi).drop lo
def nN (E:Env) (ab:bo):Option Operand→Option (Option SV)
 |none=>some none
 |some x=>some (some (bG E ab x))
def Dp (len:Nat) (lo hi:Option SV):Option (Bool × Nat × Nat):=
 match (match hi with | none=>some (true,len) | some h=>zj len h) with
 |none=>none
 |some (c1,h)=>match (match lo with | none=>some (true,0) | some l=>zj h l) with
  |none=>none
  |some (c2,l)=>some (c1&&c2,l,h)
def X9 (agg:Bool) (l:List AV):AV:=match agg with
 |true=>.agg l
 |false=>fa l
def jn (agg:Bool) (sz:Nat):Nat→List AV→List AV
 |0,_=>[]
 |n+1,cs=>X9 agg (cs.take sz) :: jn agg sz n (cs.drop sz)
def GU (ag:Bool) (e:AV):Bool:=e.aR&&(ag || e.one)&&e.closed
def Dq (E:Env) (t:TypeId) (x:SV) (lo hi:Option SV) (mx:Option Operand):Option (Bool × AV):=
 match E.ti t,mx with
 |some i,none=>match i.k,x with
  |.str,.v (.str l)=>match Dp l.length lo hi with
   |some (c,a,b)=>some (c,.str (kv a b l))
   |none=>none
  |.sl _ esz _ _ _,.v (.list k sz es)=>
   if aal sz esz || es.isEmpty then
    match Dp es.length lo hi with
    |some (c,a,b)=>some (c,.list (match k with | .nil=>.nil | .full=>(match hi with | none=>.full | some _=>.gQ) | _=>.gQ) esz (kv a b es))
    |none=>none
   else none
  |.sl _ esz _ _ _,.v (.jV id off sz len cap)=>
   if aal sz esz then
    match Dp len lo hi with
    |some (c,a,b)=>some (c,.jV id (bif aal cap a then off else off+a * sz) sz (b - a) (cap - a))
    |none=>none
   else none
  |.sl _ esz _ _ _,.v (.de id f off sz len)=>
   if aal sz esz then
    match Dp len lo hi with
    |some (c,a,b)=>some (c,.de id f (off+a) sz (b - a))
    |none=>none
   else none
  |.arr len esz ag,.v (.ep cs)=>match lo,hi with
   |none,none=>if aao (len * esz) cs.length&&aao 1 esz&&(ag || aal esz 1)&&allFit (GU ag) (jn ag esz len cs) then some (true,.list .full esz (jn ag esz len cs)) else none
   |_,_=>none
  |_,_=>none
 |_,_=>none
def Mb (G:List GO) (id n:Nat) (f sz:Nat) (e:TypeId):List GO:=ak G id (.tok (f+n) sz e)
def Kg (fs:List Nat) (j n:Nat):List Nat:=bif aal j fs.length then fs++[n] else ak fs j n
def Pn (fs:List Nat) (j n:Nat):Bool:=decide (nth fs j=some n) || (aal j fs.length&&aal n 0)
def ew (G:List GO) (elem esz bk:Nat) (x:AV) (ys:List AV):Option (Bool × AV × List GO):=
 match x,ys with
 |.list k sz es,[]=>match k with
  |.nil=>some (true,.list .nil sz es,G)
  |k=>some (true,.list k sz es,G)
 |.list k sz es,y :: ys=>
  match k with
  |.nil=>some (decide ((es.length+(y :: ys).length) * bk≤140737488355328),.list (.own G.length) esz (es++(y :: ys)),G++[.tok (es.length+(y :: ys).length) esz elem])
  |.full=>if aal sz esz then some (decide ((es.length+(y :: ys).length) * bk≤140737488355328),.list (.own G.length) esz (es++(y :: ys)),G++[.tok (es.length+(y :: ys).length) esz elem]) else none
  |.own id=>match nth G id with
   |some (.tok f bh e')=>if aal bh esz&&aal e' elem&&aal sz esz then
     some (decide (f=es.length)&&decide ((es.length+(y :: ys).length) * bk≤140737488355328),.list (.own id) esz (es++(y :: ys)),Mb G id (y :: ys).length f esz elem) else none
   |_=>none
  |.aX id j=>match nth G id with
   |some (.aX fs bh e')=>if aal bh esz&&aal e' elem&&aal sz esz then
     some (Pn fs j es.length&&decide ((es.length+(y :: ys).length) * bk≤140737488355328),.list (.aX id j) esz (es++(y :: ys)),ak G id (.aX (Kg fs j (es.length+(y :: ys).length)) esz elem)) else none
   |_=>none
  |.gQ=>none
 |.de id f off sz len,[]=>some (true,.de id f off sz len,G)
 |.de id f off sz len,y :: ys=>match nth G id with
  |some (.cg es bh e')=>if aal bh esz&&aal e' elem&&aal sz esz then
    some (decide (f=es.length)&&decide (off=0)&&decide (len=f)&&decide ((es.length+(y :: ys).length) * bk≤140737488355328),.de id (es.length+(y :: ys).length) 0 esz (es.length+(y :: ys).length),ak G id (.cg (es++(y :: ys)) esz elem)) else none
  |_=>none
 |.eX id j sz len,[]=>some (true,.eX id j sz len,G)
 |.eX id j sz len,y :: ys=>match nth G id with
  |some (.gT rows bh e')=>if aal bh esz&&aal e' elem&&aal sz esz then
    some (decide (j < rows.length)&&decide (len=(rowOf rows j).length)&&decide (((rowOf rows j).length+(y :: ys).length) * bk≤140737488355328),.eX id j esz (len+(y :: ys).length),ak G id (.gT (ak rows j (rowOf rows j++(y :: ys))) esz elem)) else none
  |_=>none
 |_,_=>none
def um (b:UInt8):AV:=.int .u8 b.toNat
def tC (es:List AV):List UInt8:=es.map fun a=>UInt8.ofNat a.pM.toNat
def zk (es:List AV):List UInt8:=es.flatMap fun a=>(Utf8.encode a.pM).data.toList
def Kh:AV→List AV→Option AV
 |x,[]=>some x
 |.int k x,.int k' y :: l=>if k=k' then Kh (.int k (if y > x then y else x)) l else none
 |_,_=>none
def GV:AV→List AV→Option AV
 |x,[]=>some x
 |.int k x,.int k' y :: l=>if k=k' then GV (.int k (if y < x then y else x)) l else none
 |.str x,.str y :: l=>GV (.str (bif aas x y || x == y then x else y)) l
 |_,_=>none
def an:List AV→List AV
 |[]=>[]
 |e :: es=>e.cells++an es
def uo (s:St) (esz:Nat) (d x:AV):Option (Nat × List GO):=
 match d with
 |.jV id off sz len _=>match nth s.G id with
  |some (.row cs el)=>
   if aal sz esz then
    match x with
    |.list _ bh es=>if aal bh esz || es.isEmpty then
      let n:=aav es.length len
      let l:=an (es.take n)
      if aao (off+l.length) cs.length then some (n,ak s.G id (.row (bu cs off l) el)) else none
     else none
    |.str bs=>
      if aal esz 1&&aao (off+(bs.take (aav bs.length len)).length) cs.length then some (aav bs.length len,ak s.G id (.row (bu cs off ((bs.take (aav bs.length len)).map um)) el)) else none
    |.jV iU gR bh GW _=>match nth s.G iU with
     |some (.row eZ _)=>
      let n:=aav GW len
      match GP gR (n * esz) eZ with
      |some l=>if aal bh esz&&aao (off+l.length) cs.length then some (n,ak s.G id (.row (bu cs off l) el)) else none
      |none=>none
     |_=>none
    |_=>none
   else none
  |_=>none
 |.de id f off sz len=>match nth s.G id,x with
  |some (.cg es bh el),.list _ szx xs=>if aal sz esz&&aal bh sz&&(aal szx esz || xs.isEmpty)&&aao f es.length&&aao es.length f&&aao (off+aav xs.length len) es.length then
    some (aav xs.length len,ak s.G id (.cg (bu es off (xs.take (aav xs.length len))) bh el)) else none
  |_,_=>none
 |_=>none
def cu (E:Env) (s:St) (dst:Option Tmp) (b:Builtin) (args:List AV) (tys:List TypeId):Option (Bool × St):=
 match b,args with
 |.len,[x]=>match tys with
  |t :: _=>match E.ti t with
   |some i=>match i.k,x with
    |.str,.str l=>some (true,s.put dst (.v (.int .i64 l.length)))
    |.sl ..,.list _ _ es=>some (true,s.put dst (.v (.int .i64 es.length)))
    |.sl ..,.jV _ _ _ len _=>some (true,s.put dst (.v (.int .i64 len)))
    |.sl ..,.de _ _ _ _ len=>some (true,s.put dst (.v (.int .i64 len)))
    |.sl ..,.eX _ _ _ len=>some (true,s.put dst (.v (.int .i64 len)))
    |.arr n _ _,_=>some (true,s.put dst (.v (.int .i64 n)))
    |.map ..,.mb=>some (true,s.put dst (.v (.int .i64 0)))
    |.map ..,.map id=>match nth s.G id with
     |some (.map es)=>some (true,s.put dst (.v (.int .i64 es.length)))
     |_=>none
    |_,_=>none
   |none=>none
  |_=>none
 |.append,[x,.list _ sz ys]=>match tys with
  |[t,u]=>match E.ti t with
   |some i=>match i.k with
    |.sl elem esz _ bk (some z)=>
     if (aal sz esz || ys.isEmpty)&&aal t u&&aao 1 esz&&aao 1 bk&&aal z.cells.length esz&&z.aR then
      match ew s.G elem esz bk x ys with
      |some (c,v,G')=>some (c,(s.bq G').put dst (.v v))
      |none=>none
     else none
    |_=>none
   |none=>none
  |_=>none
 |.append,[x,.str bs]=>match tys with
  |[t,u]=>match E.ti t,E.ti u with
   |some i,some j=>match i.k,j.k with
    |.sl elem esz _ bk (some z),.str=>
     if aal esz 1&&aao 1 bk&&aal z.cells.length esz&&z.aR then
      match ew s.G elem esz bk x (bs.map um) with
      |some (c,v,G')=>some (c,(s.bq G').put dst (.v v))
      |none=>none
     else none
    |_,_=>none
   |_,_=>none
  |_=>none
 |.append,[.de id f off sz len,.jV Ki 0 1 1 _]=>match nth s.G Ki,tys with
  |some (.row [.eX y1 y2 y3 y4] _),[t,u]=>match E.ti t with
   |some i=>match i.k with
    |.sl elem esz _ bk (some z)=>
     if aal esz 1&&aal t u&&aao 1 bk&&aal z.cells.length esz&&z.aR then
      match ew s.G elem esz bk (.de id f off sz len) [.eX y1 y2 y3 y4] with
      |some (c,v,G')=>some (c,(s.bq G').put dst (.v v))
      |none=>none
     else none
    |_=>none
   |none=>none
  |_,_=>none
 |.append,[.de id f off sz len,.jV Ki 0 msz 1 _]=>match nth s.G Ki,tys with
  |some (.row cs _),[t,u]=>match E.ti t with
   |some i=>match i.k with
    |.sl elem esz true bk (some z)=>
     if aal cs.length esz&&aal msz esz&&aal t u&&aao 1 bk&&aal z.cells.length esz&&z.aR then
      match ew s.G elem esz bk (.de id f off sz len) [.agg cs] with
      |some (c,v,G')=>some (c,(s.bq G').put dst (.v v))
      |none=>none
     else none
    |_=>none
   |none=>none
  |_,_=>none
 |.append,[x,.de id f 0 sz len]=>match nth s.G id,tys with
  |some (.cg ys bh _),[t,u]=>match E.ti t with
   |some i=>match i.k with
    |.sl elem esz _ bk (some z)=>
     if aal sz bh&&aal sz esz&&aal f ys.length&&aal len ys.length&&aF ys&&aal t u&&aao 1 esz&&aao 1 bk&&aal z.cells.length esz&&z.aR then
      match ew s.G elem esz bk x ys with
      |some (c,v,G')=>some (c,(s.bq G').put dst (.v v))
      |none=>none
     else none
    |_=>none
   |none=>none
  |_,_=>none
 |.copy,[d,x]=>match tys with
  |t :: _=>match E.ti t with
   |some i=>match i.k with
    |.sl _ esz _ _ _=>match uo s esz d x with
     |some (n,G')=>some (true,(s.bq G').put dst (.v (.int .i64 n)))
     |none=>none
    |_=>none
   |none=>none
  |_=>none
 |.clear,[x]=>match dst,tys,x with
  |none,[t],.de id f off sz len=>match E.ti t,nth s.G id with
   |some i,some (.cg es bh el)=>match i.k with
    |.sl elem esz _ _ (some z)=>if aal sz esz&&aal bh sz&&aal el elem&&aal z.cells.length esz&&z.aR&&z.closed then
      some (decide (f=es.length)&&decide (off+len≤es.length),s.bq (ak s.G id (.cg (bu es off (aap len z)) bh el))) else none
    |_=>none
   |_,_=>none
  |_,_,_=>none
 |.max,x :: l=>match Kh x l with
  |some v=>some (true,s.put dst (.v v))
  |none=>none
 |.min,x :: l=>match GV x l with
  |some v=>some (true,s.put dst (.v v))
  |none=>none
 |_,_=>none
def EK.plain:EK→Bool
 |.bool | .int | .str=>true
 |.st _=>true
 |_=>false
def EK.wide:EK→Bool
 |.st _=>true
 |_=>false
def yK:AV→Bool
 |.bool _=>true
 |.int _ _=>true
 |.str _=>true
 |_=>false
def uq:AV→AV→Bool
 |.bool a,.bool b=>a == b
 |.int k a,.int l b=>decide (k=l)&&a == b
 |.str a,.str b=>a == b
 |_,_=>false
def qS:List AV→List AV→Bool
 |[],[]=>true
 |a :: l,b :: r=>uq a b&&qS l r
 |_,_=>false
def pP:AV→AV→Bool
 |.agg xs,.agg ys=>qS xs ys
 |_,_=>false
def GC (e:EK) (a b:AV):Option Bool:=match nK e a b with
 |some true=>bif e.wide&&!pP a b then none else some true
 |r=>r
def kp (e:EK) (k:AV):List (AV × AV)→Option (Option AV)
 |[]=>some none
 |(k',v) :: l=>match GC e k k' with
  |some true=>some (some v)
  |some false=>kp e k l
  |none=>none
def vX (e:EK) (k v:AV):List (AV × AV)→Option (List (AV × AV))
 |[]=>some [(k,v)]
 |(k',v') :: l=>match GC e k k' with
  |some true=>some ((k,v) :: l)
  |some false=>match vX e k v l with
   |some r=>some ((k',v') :: r)
   |none=>none
  |none=>none
def jX:EK→AV→Bool
 |.bool,.bool _=>true
 |.int,.int _ _=>true
 |.str,.str _=>true
 |.st fs,.agg cs=>cs.all yK&&(vW fs cs cs).isSome
 |_,_=>false
def mapOf (s:St):SV→Option (List (AV × AV))
 |.v .mb=>some []
 |.v (.map id)=>match nth s.G id with
  |some (.map es)=>some es
  |_=>none
 |_=>none
def jY (G:List GO) (id:Nat):List Nat:=match nth G id with
 |some (.aX fs _ _)=>fs
 |_=>[]
def EO (E:Env) (G:List GO) (t:TypeId) (z:AV):AV:=match E.elg t,z with
 |some (.aX e sz _),.list .nil _ []=>match jW G sz e 0 with
  |some id=>.list (.aX id (jY G id).length) sz []
  |none=>z
 |_,_=>z
def kV (E:Env) (s:St) (t:TypeId) (m k:SV):Option (AV × Bool):=match E.ti t,mapOf s m,k with
 |some i,some es,.v k=>match i.k with
  |.map kt _ (some z)=>match E.ti kt with
   |some j=>if j.ek.plain&&jX j.ek k then match kp j.ek k es with
     |some (some v)=>some (v,true)
     |some none=>some (z,false)
     |none=>none
    else none
   |none=>none
  |_=>none
 |_,_,_=>none
def nX (E:Env) (s:St) (t:TypeId) (m k:SV):Option (AV × Bool):=match kV E s t m k with
 |some (v,false)=>some (EO E s.G t v,false)
 |r=>r
def gw (E:Env) (s:St) (t:TypeId) (m k x:SV):Option St:=match E.ti t,m,k,x with
 |some i,.v (.map id),.v k,.v x=>match i.k,nth s.G id with
  |.map kt _ _,some (.map es)=>match E.ti kt with
   |some j=>if j.ek.plain&&jX j.ek k then match vX j.ek k x es with
     |some es'=>some (s.bq (ak s.G id (.map es')))
     |none=>none
    else none
   |none=>none
  |_,_=>none
 |_,_,_,_=>none
def cQ (l:List UInt8) (pos:Nat):Nat × Nat:=
 bif aaM (l.getD pos 0).toNat 128 then ((l.getD pos 0).toNat,1) else Utf8.decode ⟨⟨l⟩⟩ pos
def nY (s:St) (dst:Option Tmp) (x:SV):Option St:=match x with
 |.v (.ptr id 0)=>match nth s.G id with
  |some (.iO l pos)=>bif aaM pos l.length then
    match cQ l pos with
    |(c,n)=>some ((s.bq (ak s.G id (.iO l (pos+n)))).put dst (.v (.bP [.bool true,.int .i64 pos,.int .i32 c])))
   else some (s.put dst (.v (.bP [.bool false])))
  |_=>none
 |_=>none
def cE (es:List (AV × AV)) (i:Nat):AV × AV:=match nth es i with
 |some e=>e
 |none=>(hZ,hZ)
def TS (E:Env) (kt:TypeId):Option aP:=match E.Pm kt with
 |some p=>some p
 |none=>match E.ti kt with
  |some i=>match i.k with
   |.int k=>some (.int k)
   |.str=>some .str
   |_=>none
  |none=>none
def ur (E:Env) (t:TypeId) (e:AV × AV):Bool × AV × AV:=match E.ti t with
 |some i=>match i.k with
  |.map kt _ _=>match E.Pm t,TS E kt with
   |some pv,some pk=>(pk.fits e.1&&pv.fits e.2,pk.enc (pk.bw e.1),pv.enc (pv.bw e.2))
   |_,_=>(true,e.1,e.2)
  |_=>(true,e.1,e.2)
 |none=>(true,e.1,e.2)
def Cf (E:Env) (s:St) (dst:Option Tmp) (x:SV):Option (Bool × St × List Nat × (Nat→Bool × St)):=match x with
 |.v (.ptr id 0)=>match nth s.G id with
  |some (.jQ mid n left _ t)=>match nth s.G mid with
   |some (.map es)=>some (decide (es.length=n),s.put dst (.v (.bP [.bool false])),left,
     fun i=>((ur E t (cE es i)).1,(s.bq (ak s.G id (.jQ mid n (left.erase i) (some i) t))).put dst (.v (.bP [.bool true,(ur E t (cE es i)).2.1,(ur E t (cE es i)).2.2]))))
   |_=>none
  |_=>none
 |_=>none
def vY (E:Env) (s:St) (o:Oper):Option (Bool × St × List Nat × (Nat→Bool × St)):=match o.op with
 |.next x false=>Cf E s o.dst (bG E s.ab x)
 |_=>none
def Po:AV→Option Bool
 |.list .nil _ _=>some true
 |.list .full _ _=>some false
 |.list _ _ (_ :: _)=>some false
 |.jV _ _ _ _ _=>some false
 |.de _ _ _ _ (_+1)=>some false
 |.oW=>some true
 |.ptr _ _=>some false
 |.ep _=>some false
 |_=>none
def GX:AV→Option Bool
 |.list .nil _ []=>some true
 |.oW=>some false
 |_=>none
def TT (P:Program) (t:TypeId):Bool:=match P.underlying t with
 |some (.slice _)=>true
 |_=>false
def TU (P:Program) (t:TypeId):Bool:=match P.underlying t with
 |some (.pointer _)=>true
 |_=>false
def slA:AV→Bool
 |.list _ _ _=>true
 |.jV _ _ _ _ _=>true
 |.de _ _ _ _ _=>true
 |_=>false
def xl (P:Program) (t:TypeId) (a b:AV):Bool:=match GX b with
 |some true=>slA a&&TT P t
 |some false=>!slA a&&TU P t
 |none=>false
def TV (E:Env) (op:BinOp) (t:TypeId) (a b:AV):Option Bool:=match op,Po a with
 |.eql,some r=>bif xl E.P t a b then some r else none
 |.neq,some r=>bif xl E.P t a b then some (!r) else none
 |_,_=>none
def eqO (E:Env) (op:BinOp) (t:TypeId) (a b:AV):Option Bool:=match op,E.ti t with
 |.eql,some i=>nK i.ek a b
 |.neq,some i=>match nK i.ek a b with
  |some r=>some (!r)
  |none=>none
 |_,_=>none
def mc (E:Env) (s:St) (t:TypeId) (len:Nat) (parts:List (Nat × Operand)):Option (List AV):=
 match E.ti t,O0 E s.ab parts with
 |some i,some ps=>match i.k with
  |.sl _ esz _ _ (some z)=>
    if aal z.cells.length esz&&aao 1 esz&&aao (len * esz) 16777216&&z.aR then
     xj (fun i=>some (i * esz,esz)) (an (aap len z)) (Cd ps)
    else none
  |_=>none
 |_,_=>none
def kW (E:Env) (f:FuncId) (s:St) (o:Oper):Option St:=match o.op with
 |.buildSlice t len parts=>match o.dst with
  |some d=>if E.zg f d then match E.ti t with
    |some i=>match i.k,cG E s t len parts.toList with
     |.sl elem _ _ _ _,some (.list _ esz es)=>some ((s.eF (.row (an es) elem)).put (some d) (.v (.jV s.G.length 0 esz len len)))
     |.sl elem esz _ _ _,none=>match mc E s t len parts.toList with
      |some cs=>some ((s.eF (.row cs elem)).put (some d) (.v (.jV s.G.length 0 esz len len)))
      |none=>none
     |_,_=>none
    |none=>none
   else if E.zg f (d+196608) then match E.ti t with
    |some i=>match i.k,cG E s t len parts.toList with
     |.sl elem _ _ _ _,some (.list _ esz es)=>if aao len 65536 then some ((s.eF (.cg es esz elem)).put (some d) (.v (.de s.G.length len 0 esz len))) else none
     |_,_=>none
    |none=>none
   else if E.zg f (d+65536) then match E.ti t with
    |some i=>match i.k,cG E s t len parts.toList with
     |.sl elem _ _ _ _,some (.list _ esz es)=>if aao len 65536 then some ((s.eF (.tok len esz elem)).put (some d) (.v (.list (.own s.G.length) esz es))) else none
     |_,_=>none
    |none=>none
   else none
  |none=>none
 |_=>none
def Cg (wk:Bool) (es:List AV):List AV:=match wk with
 |true=>es.map AV.hJ
 |false=>es
def oY (wk:Bool):List AV→List GO→Bool × List AV × List GO
 |[],G=>(true,[],G)
 |.de id f 0 sz len :: l,G=>match nth G id with
  |some (.cg es bh _)=>match oY wk l (ak G id .dead) with
   |(c,r,G')=>(decide (f=es.length)&&decide (len=es.length)&&aal sz bh&&aF (Cg wk es)&&c,.list .gQ sz (Cg wk es) :: r,G')
  |_=>match oY wk l G with
   |(_,r,G')=>(false,r,G')
 |a :: l,G=>match oY wk l G with
  |(c,r,G')=>(c,a :: r,G')
def pQ (cut wk:Bool) (s:St) (t:Tmp):Option (Bool × St):=match lk s.ab t with
 |.v (.de id f off sz len)=>match nth s.G id with
  |some (.cg es bh _)=>if aal off 0&&aal sz bh then
    some (decide (f=es.length)&&(bif cut then decide (len≤es.length) else decide (len=es.length))&&aF (Cg wk es),⟨.put t (.v (.list .gQ sz (Cg wk (bif cut then es.take len else es)))) :: s.ab,s.boxes,ak s.G id .dead,s.marks,s.ro,s.n⟩) else none
  |_=>none
 |.v (.ptr id 0)=>match nth s.G id with
  |some (.row cs _)=>some (aF cs,⟨.put t (.v (.ep cs)) :: s.ab,s.boxes,ak s.G id .dead,s.marks,s.ro,s.n⟩)
  |_=>none
 |.v (.agg cs)=>match oY wk cs s.G with
  |(c,eZ,G')=>some (c,⟨.put t (.v (.agg eZ)) :: s.ab,s.boxes,G',s.marks,s.ro,s.n⟩)
 |_=>none
def jg (cut wk:Bool):List Operand→St→Bool × St
 |[],s=>(true,s)
 |.tmp t :: l,s=>match pQ cut wk s t with
  |some (c,s')=>match jg cut wk l s' with
   |(c',s2)=>(c&&c',s2)
  |none=>jg cut wk l s
 |_ :: l,s=>jg cut wk l s
def Kj (E:Env) (f:FuncId) (s:St) (o:Oper):Option (Bool × St):=match o.dst with
 |some d=>if E.zg f (d+262144) then some (jg (E.zg f (d+393216)) (E.zg f (d+458752)) o.op.operands.toList s) else none
 |none=>none
def oZ (E:Env) (s:St) (a b:TypeId) (x:SV):Option (Bool × AV):=
 match E.ti a,E.ti b,x with
 |some i,some j,.v x=>match j.k,x with
  |.int k,.int _ n=>some (true,.int k (k.wrap n))
  |.str,.list _ sz es=>match i.k with
   |.sl elem 1 _ _ _=>match E.ti elem with
    |some e=>match e.k with
     |.int .u8=>some ((aal sz 1 || es.isEmpty)&&allFit (aP.fits (.int .u8)) es,.str (tC es))
     |.int .i32=>some ((aal sz 1 || es.isEmpty)&&allFit (aP.fits (.int .i32)) es,.str (zk es))
     |_=>none
    |none=>none
   |_=>none
  |.str,.jV id off 1 len _=>match i.k,nth s.G id with
   |.sl elem 1 _ _ _,some (.row cs _)=>match E.ti elem with
    |some e=>match e.k with
     |.int .u8=>some (aao (off+len) cs.length&&allFit (aP.fits (.int .u8)) (kv off (off+len) cs),.str (tC (kv off (off+len) cs)))
     |_=>none
    |none=>none
   |_,_=>none
  |_,_=>none
 |_,_,_=>none
def Kk (id sz:Nat):List AV→List Nat→Option (List AV × List Nat)
 |[],fs=>some ([],fs)
 |.list .nil _ [] :: l,fs=>match Kk id sz l (fs++[0]) with
  |some (r,Dr)=>some (.list (.aX id fs.length) sz [] :: r,Dr)
  |none=>none
 |.list .full bh es :: l,fs=>if aal sz bh then match Kk id sz l (fs++[es.length]) with
   |some (r,Dr)=>some (.list (.aX id fs.length) sz es :: r,Dr)
   |none=>none
  else none
 |_ :: _,_=>none
def BE (e:EK) (k k':AV):Bool:=match GC e k k' with
 |some b=>b
 |none=>false
def du (e:EK) (k:AV):List (AV × AV)→Bool
 |[]=>true
 |(k',_) :: l=>(GC e k k').isSome&&du e k l
def fL (e:EK) (k:AV):List (AV × AV)→Option AV
 |[]=>none
 |(k',v) :: l=>bif BE e k k' then some v else fL e k l
def dS (e:EK) (k v:AV):List (AV × AV)→List (AV × AV)
 |[]=>[(k,v)]
 |(k',v') :: l=>bif BE e k k' then (k,v) :: l else (k',v') :: dS e k v l
def cF (e:EK) (k z:AV) (es:List (AV × AV)):AV:=(fL e k es).getD z
def oE (e:EK) (k:AV):List (AV × AV)→Nat
 |[]=>0
 |(k',_) :: l=>bif BE e k k' then 0 else oE e k l+1
def qT:List (AV × AV)→Nat→AV→List (AV × AV)
 |[],_,_=>[]
 |(k,_) :: l,0,x=>(k,x) :: l
 |e :: l,n+1,x=>e :: qT l n x
def vZ (E:Env) (s:St) (x:SV):Option (Bool × AV):=match x with
 |.v (.ptr id 0)=>match nth s.G id with
  |some (.jQ mid n _ (some i) t)=>match nth s.G mid with
   |some (.map es)=>some (decide (es.length=n)&&decide (i < n)&&(ur E t (cE es i)).1,.bP [(ur E t (cE es i)).2.1,(ur E t (cE es i)).2.2])
   |_=>none
  |_=>none
 |_=>none
def iC (E:Env) (s:St) (t:TypeId) (m k:SV):Option (Bool × AV × St):=match E.ti t,m,k with
 |some i,.v (.map id),.v k=>match i.k,nth s.G id with
  |.map kt _ (some z),some (.map es)=>match E.ti kt with
   |some j=>if j.ek.plain&&jX j.ek k then
     some (du j.ek k es,.bP [cF j.ek k z es,.int .i64 (oE j.ek k es:Nat)],s.bq (ak s.G id (.map (dS j.ek k (cF j.ek k z es) es)))) else none
   |none=>none
  |_,_=>none
 |_,_,_=>none
def fy (s:St) (m st x:SV):Option (Bool × St):=match m,st,x with
 |.v (.map id),.v (.int .i64 n),.v v=>match nth s.G id with
  |some (.map es)=>some (decide (0≤n)&&decide (n.toNat < es.length),s.bq (ak s.G id (.map (qT es n.toNat v))))
  |_=>none
 |_,_,_=>none
def iV (E:Env) (f:FuncId) (s:St) (o:Oper):Option (Bool × St):=match o.dst with
 |some d=>if E.zg f (d+524288) then match o.op with
   |.call { callee:=.builtin .append,args,argTypes }=>match nL E s.ab args.toList,argTypes.toList with
    |some [.de id g off sz len,.list k szy (y :: ys)],[t,u]=>match E.ti t with
     |some i=>match i.k with
      |.sl elem esz _ bk (some z)=>match E.ti elem with
       |some j=>match j.k with
        |.sl e2 gK _ _ _=>match jW s.G gK e2 0 with
         |some kq=>match Kk kq gK (y :: ys) (jY s.G kq),nth s.G id with
          |some (Kl,Dr),some (.cg es bh e')=>
           if aal szy esz&&aal bh esz&&aal e' elem&&aal sz esz&&aal t u&&aao 1 esz&&aao 1 bk&&aal z.cells.length esz&&z.aR then
            some (decide (g=es.length)&&decide (off=0)&&decide (len=g)&&decide ((es.length+(y :: ys).length) * bk≤140737488355328),
             (s.bq (ak (ak s.G kq (.aX Dr gK e2)) id (.cg (es++Kl) esz elem))).put o.dst (.v (.de id (es.length+(y :: ys).length) 0 esz (es.length+(y :: ys).length))))
           else none
          |_,_=>none
         |none=>none
        |_=>none
       |none=>none
      |_=>none
     |none=>none
    |_,_=>none
   |_=>none
  else none
 |none=>none
def tD (E:Env) (f:FuncId) (s:St) (o:Oper):Option (Bool × St):=match o.dst with
 |some d=>if E.zg f (d+524288) then match o.op with
   |.lookup t m k ok=>match E.elg t,E.ti t,bG E s.ab m,bG E s.ab k with
    |some (.aX e sz p),some i,.v (.map id),.v k=>match i.k,nth s.G id with
     |.map kt _ (some (.list .nil _ [])),some (.map es)=>match E.ti kt,jW s.G sz e 0 with
      |some j,some kq=>if j.ek.plain&&jX j.ek k then
        some (du j.ek k es&&(aP.aX kq sz p).fits (cF j.ek k (.list (.aX kq (jY s.G kq).length) sz []) es),
         (s.bq (ak s.G kq (.aX (jY s.G kq++[0]) sz e))).put o.dst (.v (if ok then .bP [(aP.aX kq sz p).enc ((aP.aX kq sz p).bw (cF j.ek k (.list (.aX kq (jY s.G kq).length) sz []) es)),.bool (fL j.ek k es).isSome]
          else (aP.aX kq sz p).enc ((aP.aX kq sz p).bw (cF j.ek k (.list (.aX kq (jY s.G kq).length) sz []) es)))))
       else none
      |_,_=>none
     |_,_=>none
    |_,_,_,_=>none
   |_=>none
  else none
 |none=>none
def GY (E:Env) (f:FuncId) (s:St) (o:Oper):Option (Bool × St):=match o.op,o.dst with
 |.slice t x (some lo) none none,some d=>if E.zg f (d+524288) then match E.ti t,bG E s.ab x,bG E s.ab lo with
   |some i,.v (.list (.own id) sz es),.v (.int _ n)=>match i.k,nth s.G id with
    |.sl _ esz _ _ _,some (.tok f0 bh e)=>
     if aal sz esz&&aal bh sz then
      some (decide (f0=es.length)&&(decide (0 < es.length)&&decide (0≤n∧n≤es.length)),(s.bq (ak s.G id .dead++[.tok (es.length - n.toNat) sz e])).put (some d) (.v (.list (.own s.G.length) sz (es.drop n.toNat))))
     else none
    |_,_=>none
   |_,_,_=>none
  else none
 |_,_=>none
def xm (E:Env) (f:FuncId) (s:St) (o:Oper):Option (Bool × St):=match GY E f s o with
 |some r=>some r
 |none=>tD E f s o
def abE (E:Env) (f:FuncId) (d:Option Tmp):Bool:=match d with
 |some d=>E.zg f (d+196608)
 |none=>false
def si:List GO→Nat→TypeId→Nat→Option Nat
 |[],_,_,_=>none
 |.cg es sz e :: G,bh,e',i=>match si G bh e' (i+1) with
  |some j=>some j
  |none=>bif aal sz bh&&aal e e' then (match es with
   |[]=>some i
   |_=>none) else none
 |_ :: G,bh,e',i=>si G bh e' (i+1)
def abF (E:Env) (f:FuncId) (d:Option Tmp):Bool:=match d with
 |some d=>E.zg f (d+589824)
 |none=>false
def pR (s:St) (dst:Option Tmp) (elem esz bk:Nat) (z:AV) (n m:Int):Option (Bool × St):=match si s.G esz elem 0 with
 |some id=>if z.closed then some (decide (1≤n∧n≤m∧m≤140737488355328∧m * bk≤140737488355328),(s.bq (ak s.G id (.cg (aap n.toNat z) esz elem))).put dst (.v (.de id n.toNat 0 esz n.toNat))) else none
 |none=>none
def ao (E:Env) (f:FuncId) (s:St) (o:Oper):Option (Bool × St):=
 match o.op with
 |.move x=>match bG E s.ab x with
  |.v a=>some (true,s.put o.dst (.v a))
  |.lp k off=>some (true,s.put o.dst (.lp k off))
  |.none=>some (true,s.put o.dst .none)
 |.assign x=>match bG E s.ab x with
  |.v a=>some (true,s.put o.dst (.v a))
  |.lp k off=>some (true,s.put o.dst (.lp k off))
  |.none=>some (true,s.put o.dst .none)
 |.pick c a b=>match bG E s.ab c,bG E s.ab a,bG E s.ab b with
  |.v (.bool t),.v x,.v y=>some (true,s.put o.dst (.v (Dn t x y)))
  |_,_,_=>none
 |.alloc e=>match E.ti e with
  |some i=>match i.zero with
   |some z=>if z.aR then gv E f s o.dst e z.cells else none
   |none=>none
  |none=>none
 |.box t x=>match bG E s.ab x with
  |.v v=>if v.aR then gv E f s o.dst t v.cells else none
  |_=>none
 |.build t parts=>match pO E s t parts.toList with
  |some v=>some (true,s.put o.dst (.v v))
  |none=>none
 |.buildSlice t len parts=>match cG E s t len parts.toList with
  |some v=>some (true,s.put o.dst (.v v))
  |none=>none
 |.load t a=>match Ce E s t (bG E s.ab a) with
  |some (c,v)=>some (c,s.put o.dst (.v v))
  |none=>none
 |.store t a x=>match o.dst,lD E s t (bG E s.ab a) (bG E s.ab x) with
  |none,some (c,s')=>some (c,s')
  |_,_=>none
 |.binOp op t x y _=>match bG E s.ab x,bG E s.ab y with
  |.v a,.v b=>match EM op a b with
   |some (c,v)=>some (c,s.put o.dst (.v v))
   |none=>match eqO E op t a b with
    |some r=>some (true,s.put o.dst (.v (.bool r)))
    |none=>match TV E op t a b with
     |some r=>some (true,s.put o.dst (.v (.bool r)))
     |none=>none
  |_,_=>none
 |.unOp op _ x=>match op,bG E s.ab x with
  |.not,.v (.bool b)=>some (true,s.put o.dst (.v (.bool (!b))))
  |.neg,.v (.int k n)=>some (true,s.put o.dst (.v (.int k (k.wrap (0 - n)))))
  |_,_=>none
 |.convert a b x=>match oZ E s a b (bG E s.ab x) with
  |some (c,v)=>some (c,s.put o.dst (.v v))
  |none=>none
 |.nilCheck x=>match bG E s.ab x with
  |.v (.ptr id off)=>some (true,s.put o.dst (.v (.ptr id off)))
  |.v (.ep cs)=>some (true,s.put o.dst (.v (.ep cs)))
  |.lp k off=>some (true,s.put o.dst (.lp k off))
  |_=>none
 |.makeFunc (.func g) first captured=>match nL E s.ab first.toList,nL E s.ab captured.toList with
  |some x,some y=>some (true,s.put o.dst (.v (.fn g x y)))
  |_,_=>none
 |.fieldAddr t x j=>match mI E t (bG E s.ab x) j with
  |some p=>some (true,s.put o.dst p)
  |none=>none
 |.field t x j=>match GR E t (bG E s.ab x) j with
  |some v=>some (true,s.put o.dst (.v v))
  |none=>none
 |.indexAddr t x ix=>match mH E t (bG E s.ab x) (bG E s.ab ix) with
  |some (c,p)=>some (c,s.put o.dst p)
  |none=>none
 |.index t x ix=>match GS E t (bG E s.ab x) (bG E s.ab ix) with
  |some (c,v)=>some (c,s.put o.dst (.v v))
  |none=>none
 |.slice t x lo hi mx=>match nN E s.ab lo,nN E s.ab hi with
  |some l,some h=>match Dq E t (bG E s.ab x) l h mx with
   |some (c,v)=>some (c,s.put o.dst (.v v))
   |none=>none
  |_,_=>none
 |.extract x i=>match bG E s.ab x with
  |.v (.bP vs)=>match nth vs i with
   |some v=>some (true,s.put o.dst (.v v))
   |none=>none
  |_=>none
 |.makeSlice t l c=>match E.ti t,bG E s.ab l,bG E s.ab c with
  |some i,.v (.int _ n),.v (.int _ m)=>match i.k with
   |.sl elem esz _ bk (some z)=>
    if aal z.cells.length esz&&aao 1 esz&&z.aR then
     if abF E f o.dst then pR s o.dst elem esz bk z n m
     else if abE E f o.dst then (if z.closed then some (decide (0≤n∧n≤m∧m≤140737488355328∧m * bk≤140737488355328),
      (s.eF (.cg (aap n.toNat z) esz elem)).put o.dst (.v (.de s.G.length n.toNat 0 esz n.toNat))) else none)
     else some (decide (0≤n∧n≤m∧m≤140737488355328∧m * bk≤140737488355328),
      (s.eF (.row (an (aap m.toNat z)) elem)).put o.dst (.v (.jV s.G.length 0 esz n.toNat m.toNat)))
    else none
   |_=>none
  |_,_,_=>none
 |.lookup t m k ok=>match nX E s t (bG E s.ab m) (bG E s.ab k) with
  |some (v,b)=>some (true,s.put o.dst (.v (if ok then .bP [v,.bool b] else v)))
  |none=>none
 |.mapUpdate t m k x=>match o.dst,gw E s t (bG E s.ab m) (bG E s.ab k) (bG E s.ab x) with
  |none,some s'=>some (true,s')
  |_,_=>none
 |.insert t m k x=>match o.dst,gw E s t (bG E s.ab m) (bG E s.ab k) (bG E s.ab x) with
  |none,some s'=>some (true,s')
  |_,_=>none
 |.entry x=>match vZ E s (bG E s.ab x) with
  |some (c,v)=>some (c,s.put o.dst (.v v))
  |none=>none
 |.mapEntry t m k=>match iC E s t (bG E s.ab m) (bG E s.ab k) with
  |some (c,v,s')=>some (c,s'.put o.dst (.v v))
  |none=>none
 |.entryStore _ m st x=>match o.dst,fy s (bG E s.ab m) (bG E s.ab st) (bG E s.ab x) with
  |none,some (c,s')=>some (c,s')
  |_,_=>none
 |.range t x=>match E.ti t,bG E s.ab x with
  |some i,.v (.str l)=>match i.k with
   |.str=>some (true,(s.eF (.iO l 0)).put o.dst (.v (.ptr s.G.length 0)))
   |_=>none
  |some i,.v (.map id)=>match i.k,nth s.G id with
   |.map _ _ _,some (.map es)=>some (true,(s.eF (.jQ id es.length (List.range es.length) none t)).put o.dst (.v (.ptr s.G.length 0)))
   |_,_=>none
  |_,_=>none
 |.next x true=>match nY s o.dst (bG E s.ab x) with
  |some s'=>some (true,s')
  |none=>none
 |.makeMap _ none=>some (true,(s.eF (.map [])).put o.dst (.v (.map s.G.length)))
 |.call { callee:=.builtin b,args,argTypes }=>match iV E f s o with
  |some r=>some r
  |none=>match nL E s.ab args.toList with
   |some l=>cu E s o.dst b l argTypes.toList
   |none=>none
 |_=>none
end Go.Am
namespace Go.Am
open Go
inductive TR where
 |a8
 |full (f:Nat)
 |tok (f b c:Nat)
inductive RO where
 |none
 |a8
 |bE (b:Nat)
 |tok (f b c k:Nat)
 |aX (ts:List TR)
def RO.has:RO→Nat→Prop
 |.none,_=>False
 |.a8,_=>False
 |.bE b,x=>x=b
 |.tok _ b _ _,x=>x=b
 |.aX ts,x=>∃ j f c,nth ts j=some (.tok f x c)
def gD (sz:Nat) (es:List AV):Prop:=∀ e∈es,e.cells.length=sz∧e.aR=true∧e.closed=true
def dX (sz:Nat) (es:List AV):Prop:=∀ e∈es,e.cells.length=sz∧e.aR=true
theorem gD.g {sz:Nat} {es:List AV} (h:gD sz es):dX sz es:=fun e he=>⟨(h e he).1,(h e he).2.1⟩
structure ai where
 I:Nat→Nat→Prop
 obj:List RO
def Mc (b o len cap:Nat):RO→Prop
 |.none=>True
 |.a8=>False
 |.bE _=>False
 |.tok f b' c' k'=>len≤f∧(len=f→b=b'∧(o=k'∨cap=0)∧cap=c')
 |.aX _=>False
def GZ (b o len cap:Nat):TR→Prop
 |.a8=>False
 |.full f=>len≤f∧(len=f→cap=len)
 |.tok f b' c'=>len≤f∧(len=f→b=b'∧(o=0∨cap=0)∧cap=c')
def EP (b o len cap j:Nat):RO→Prop
 |.none=>True
 |.a8=>False
 |.bE _=>False
 |.tok _ _ _ _=>False
 |.aX ts=>∃ t,nth ts j=some t∧GZ b o len cap t
def Pp (b o f i off sz:Nat):TR→Prop
 |.a8=>False
 |.full f'=>f≤f'
 |.tok f' b' _=>f≤f'∧(f=f'→b=b'∧o=i * sz+off)
def Md (b o j f i off sz:Nat):RO→Prop
 |.none=>True
 |.a8=>False
 |.bE _=>False
 |.tok _ _ _ _=>False
 |.aX ts=>∃ t,nth ts j=some t∧Pp b o f i off sz t
def tE:RO→Prop
 |.none=>True
 |.a8=>False
 |.bE _=>False
 |.tok _ _ _ _=>False
 |.aX _=>True
def oF:RO→Prop
 |.none=>True
 |.a8=>True
 |.bE _=>False
 |.tok f _ _ _=>1≤f
 |.aX _=>False
def Km (b o f off sz cap:Nat):RO→Prop
 |.none=>True
 |.a8=>False
 |.bE _=>False
 |.tok f' b' c' _=>f≤f'∧(f=f'→b=b'∧off+cap=c'∧(o=off * sz∨cap=0))
 |.aX _=>False
def Me (b o f i off sz:Nat):RO→Prop
 |.none=>True
 |.a8=>False
 |.bE _=>False
 |.tok f' b' _ _=>f≤f'∧(f=f'→b=b'∧o=i * sz+off)
 |.aX _=>False
def Ds (R:ai) (k:LK) (b o len cap:Nat):Prop:=match k with
 |.nil=>False
 |.full=>cap=len
 |.gQ=>True
 |.own id=>∃ ro,nth R.obj id=some ro∧Mc b o len cap ro
 |.aX id j=>∃ ro,nth R.obj id=some ro∧EP b o len cap j ro
mutual
inductive Rel (R:ai) (w:World):AV→Value→Prop
 |bool (b:Bool):Rel R w (.bool b) (.bool b)
 |int (k:IntKind) (n:Int):Rel R w (.int k n) (.int k n)
 |str (l:List UInt8):Rel R w (.str l) (.string ⟨⟨l⟩⟩)
 |agg {cs:List AV} {vs:List Value} (h:aL R w cs vs) (h1:∀ v∈vs,v.oneCell'=true):Rel R w (.agg cs) (.agg ⟨vs⟩)
 |bP {cs:List AV} {vs:List Value} (h:aL R w cs vs):Rel R w (.bP cs) (.tuple ⟨vs⟩)
 |oW:Rel R w .oW (.pointer none)
 |ptr {id off b:Nat} (h:nth R.obj id=some (.bE b)):Rel R w (.ptr id off) (.pointer (some ⟨b,off,none⟩))
 |ep {cs:List AV} {b o:Nat} (h:fN R w b o cs):Rel R w (.ep cs) (.pointer (some ⟨b,o,none⟩))
 |jZ {sz:Nat}:Rel R w (.list .nil sz []) (.slice none 0 0)
 |jN {sz:Nat}:Rel R w (.list .gQ sz []) (.slice none 0 0)
 |oG {sz:Nat} {a:Addr}:Rel R w (.list .gQ sz []) (.slice (some a) 0 0)
 |me {id sz:Nat} {ro:RO} (h:nth R.obj id=some ro) (ho:oF ro):Rel R w (.list (.own id) sz []) (.slice none 0 0)
 |mJ {id j sz:Nat} {ro:RO} (h:nth R.obj id=some ro) (ho:tE ro):Rel R w (.list (.aX id j) sz []) (.slice none 0 0)
 |list {k:LK} {sz:Nat} {es:List AV} {b o len cap:Nat} (h:iW R w b o sz es) (hl:len=es.length) (hc:len≤cap) (hk:Ds R k b o len cap):Rel R w (.list k sz es) (.slice (some ⟨b,o,none⟩) len cap)
 |jV {id off sz len cap b:Nat} (h:nth R.obj id=some (.bE b)) (hc:len≤cap):Rel R w (.jV id off sz len cap) (.slice (some ⟨b,off,none⟩) len cap)
 |jO {id sz:Nat} {ro:RO} (h:nth R.obj id=some ro) (ho:oF ro):Rel R w (.de id 0 0 sz 0) (.slice none 0 0)
 |de {id f off sz len cap b o:Nat} {ro:RO} (h:nth R.obj id=some ro) (ho:Km b o f off sz cap ro) (hc:len≤cap):Rel R w (.de id f off sz len) (.slice (some ⟨b,o,none⟩) len cap)
 |gp {id f i off sz b o:Nat} {t:TypeId} {ro:RO} (h:nth R.obj id=some ro) (ho:Me b o f i off sz ro):Rel R w (.gp id f i off sz t) (.pointer (some ⟨b,o,none⟩))
 |tF {id j sz:Nat} {ro:RO} (h:nth R.obj id=some ro) (ho:tE ro):Rel R w (.eX id j sz 0) (.slice none 0 0)
 |eX {id j sz len cap b o:Nat} {ro:RO} (h:nth R.obj id=some ro) (ho:EP b o len cap j ro) (hc:len≤cap):Rel R w (.eX id j sz len) (.slice (some ⟨b,o,none⟩) len cap)
 |rp {id j f i off sz b o:Nat} {t:TypeId} {ro:RO} (h:nth R.obj id=some ro) (ho:Md b o j f i off sz ro):Rel R w (.rp id j f i off sz t) (.pointer (some ⟨b,o,none⟩))
 |mb:Rel R w .mb (.map none)
 |map {id b:Nat} (h:nth R.obj id=some (.bE b)):Rel R w (.map id) (.map (some b))
 |eV:Rel R w .eV .nilFunc
 |fn {f:FuncId} {xs ys:List AV} {vs us:List Value} (h:aL R w xs vs) (h':aL R w ys us):Rel R w (.fn f xs ys) (.func (.func f) ⟨vs⟩ ⟨us⟩)
 |yield {id b:Nat} (h:nth R.obj id=some (.bE b)):Rel R w (.yield id) (.func (.yield b) #[] #[])
 |sM:Rel R w .sM .nilIface
 |iface {t:TypeId} {v:AV} {c:Value} (h:Rel R w v c):Rel R w (.iface t v) (.iface t c)
inductive aL (R:ai) (w:World):List AV→List Value→Prop
 |nil:aL R w [] []
 |cons {a:AV} {c:Value} {l:List AV} {cs:List Value} (h:Rel R w a c) (t:aL R w l cs):aL R w (a :: l) (c :: cs)
inductive iW (R:ai) (w:World):Nat→Nat→Nat→List AV→Prop
 |nil {b o sz:Nat}:iW R w b o sz []
 |cons {b o sz:Nat} {e:AV} {es:List AV} (hl:e.cells.length=sz) (ht:e.aR=true) (hk:e.closed=true) (h:fN R w b o e.cells) (t:iW R w b (o+sz) sz es):iW R w b o sz (e :: es)
inductive fN (R:ai) (w:World):Nat→Nat→List AV→Prop
 |nil {b o:Nat}:fN R w b o []
 |cons {b o:Nat} {a:AV} {c:Value} {l:List AV} (hc:w.cell? ⟨b,o,none⟩=some c) (h1:c.oneCell'=true) (hi:R.I b o) (h:Rel R w a c) (t:fN R w b (o+1) l):fN R w b o (a :: l)
end
def iD:TR→TR→Prop
 |.a8,.a8=>True
 |.a8,.full _=>False
 |.a8,.tok f _ _=>1≤f
 |.full _,.a8=>False
 |.full f,.full f'=>f'=f
 |.full f,.tok f' _ _=>f < f'
 |.tok _ _ _,.a8=>False
 |.tok _ _ _,.full _=>False
 |.tok f b c,.tok f' b' c'=>f≤f'∧(f'=f→b'=b∧c'=c)
theorem iD.refl (t:TR):iD t t:=by cases t <;> simp [iD]
theorem iD.trans {a b c:TR} (h:iD a b) (k:iD b c):iD a c:=by
 cases a <;> cases b <;> cases c <;> simp only [iD] at * <;> omega
def uu (ts Sx:List TR):Prop:=∀ j t,nth ts j=some t→∃ t',nth Sx j=some t'∧iD t t'
theorem uu.refl (ts:List TR):uu ts ts:=fun _ t h=>⟨t,h,iD.refl t⟩
theorem uu.trans {a b c:List TR} (h:uu a b) (k:uu b c):uu a c:=fun j t hj=>
 let ⟨_,h1,h2⟩:=h j t hj
 let ⟨t2,k1,k2⟩:=k j _ h1
 ⟨t2,k1,h2.trans k2⟩
def cj:RO→RO→Prop
 |.none,r=>r=.none
 |.bE b,r=>r=.bE b
 |.a8,.none=>True
 |.a8,.a8=>True
 |.a8,.bE _=>False
 |.a8,.tok f _ _ _=>1≤f
 |.tok _ _ _ _,.none=>True
 |.tok _ _ _ _,.a8=>False
 |.tok _ _ _ _,.bE _=>False
 |.tok f b c k,.tok f' b' c' k'=>f≤f'∧(f'=f→b'=b∧c'=c∧k'=k)
 |.a8,.aX _=>False
 |.tok _ _ _ _,.aX _=>False
 |.aX _,.none=>True
 |.aX _,.a8=>False
 |.aX _,.bE _=>False
 |.aX _,.tok _ _ _ _=>False
 |.aX ts,.aX Sx=>uu ts Sx
theorem cj.refl (r:RO):cj r r:=by cases r <;> simp [cj,uu.refl]
theorem cj.trans {a b c:RO} (h:cj a b) (k:cj b c):cj a c:=by
 cases a with
 |none=>simp only [cj] at h; subst h; exact k
 |bE x=>simp only [cj] at h; subst h; exact k
 |a8=>
  cases b with
  |none=>simp only [cj] at k; subst k; trivial
  |a8=>exact k
  |bE z=>exact h.elim
  |tok f' x' y' z'=>
   cases c with
   |none=>trivial
   |a8=>exact k.elim
   |bE z=>exact k.elim
   |aX _=>exact k.elim
   |tok f'' x'' y'' z''=>simp only [cj] at *; omega
  |aX _=>exact h.elim
 |tok f x y z0=>
  cases b with
  |none=>simp only [cj] at k; subst k; trivial
  |a8=>exact h.elim
  |bE z=>exact h.elim
  |tok f' x' y' z'=>
   cases c with
   |none=>trivial
   |a8=>exact k.elim
   |bE z=>exact k.elim
   |tok f'' x'' y'' z''=>
    simp only [cj] at *;refine ⟨Nat.le_trans h.1 k.1,fun e=>?_⟩;obtain ⟨h1,h2⟩:=h; obtain ⟨k1,k2⟩:=k;have e1:f'=f:=by omega
    have e2:f''=f':=by omega
    exact ⟨(k2 e2).1.trans (h2 e1).1,(k2 e2).2.1.trans (h2 e1).2.1,(k2 e2).2.2.trans (h2 e1).2.2⟩
   |aX _=>exact k.elim
  |aX _=>exact h.elim
 |aX ts=>
  cases b with
  |none=>simp only [cj] at k; subst k; trivial
  |a8=>exact h.elim
  |bE z=>exact h.elim
  |tok f' x' y' z'=>exact h.elim
  |aX Sx=>
   cases c with
   |none=>trivial
   |a8=>exact k.elim
   |bE z=>exact k.elim
   |tok f' x' y' z'=>exact k.elim
   |aX ts''=>exact uu.trans h k
def qU (r r':Loop):Prop:=r'.tmps=r.tmps∧r'.params=r.params∧r'.assign=r.assign∧r'.body=r.body∧r'.defers=r.defers
def fb (w w':World):Prop:=∀ (b:Nat) (r:Loop),w.heap[b]?=some (Obj.loop r)→∃ r',w'.heap[b]?=some (Obj.loop r')∧qU r r'
theorem fb.refl (w:World):fb w w:=fun _ r h=>⟨r,h,rfl,rfl,rfl,rfl,rfl⟩
theorem fb.trans {w w1 w2:World} (h:fb w w1) (k:fb w1 w2):fb w w2:=fun b r hb=>
 let ⟨_,h1,h2,h3,h4,h5,h6⟩:=h b r hb
 let ⟨r2,k1,k2,k3,k4,k5,k6⟩:=k b _ h1
 ⟨r2,k1,k2.trans h2,k3.trans h3,k4.trans h4,k5.trans h5,k6.trans h6⟩
theorem fb.old {w w':World} (h:∀ b,b < w.heap.size→w'.heap[b]?=w.heap[b]?):fb w w':=fun b r hb=>
 ⟨r,(h b (by
  rcases Nat.lt_or_ge b w.heap.size with bW|BM
  ·exact bW
  ·rw [Array.getElem?_eq_none BM] at hb; cases hb)).trans hb,rfl,rfl,rfl,rfl,rfl⟩
structure Ext (R:ai) (w:World) (R':ai) (w':World):Prop where
 I:∀ b o,R.I b o→R'.I b o
 cell:∀ b o,R.I b o→w'.cell? ⟨b,o,none⟩=w.cell? ⟨b,o,none⟩
 obj:∀ id ro,nth R.obj id=some ro→∃ jR,nth R'.obj id=some jR∧cj ro jR
 lp:fb w w'
theorem Ext.refl (R:ai) (w:World):Ext R w R w:=⟨fun _ _ h=>h,fun _ _ _=>rfl,fun _ ro h=>⟨ro,h,cj.refl ro⟩,fb.refl w⟩
theorem Ext.trans {R R' Mf:ai} {w w' Pq:World} (h:Ext R w R' w') (k:Ext R' w' Mf Pq):Ext R w Mf Pq:=
 ⟨fun b o hi=>k.I b o (h.I b o hi),fun b o hi=>(k.cell b o (h.I b o hi)).trans (h.cell b o hi),fun id ro hr=>
  let ⟨_,h1,h2⟩:=h.obj id ro hr
  let ⟨r2,h3,h4⟩:=k.obj id _ h1
  ⟨r2,h3,h2.trans h4⟩,h.lp.trans k.lp⟩
theorem Ext.bE {R R':ai} {w w':World} (h:Ext R w R' w') {id b:Nat} (hb:nth R.obj id=some (.bE b)):nth R'.obj id=some (.bE b):=by
 obtain ⟨r,h1,h2⟩:=h.obj id _ hb;simp only [cj] at h2;subst h2;exact h1
theorem Ds.mono {R R':ai} {w w':World} (e:Ext R w R' w') {k:LK} {b o len cap:Nat} (h:Ds R k b o len cap):Ds R' k b o len cap:=by
 cases k with
 |nil=>exact h
 |full=>exact h
 |gQ=>trivial
 |own id=>
  obtain ⟨ro,h1,h2⟩:=h;obtain ⟨jR,h3,h4⟩:=e.obj id ro h1;refine ⟨jR,h3,?_⟩;cases ro with
  |none=>simp only [cj] at h4; subst h4; trivial
  |a8=>exact h2.elim
  |bE x=>exact h2.elim
  |tok f x y z0=>
   cases jR with
   |none=>trivial
   |a8=>exact h4.elim
   |bE z=>exact h4.elim
   |tok f' x' y' z'=>
    simp only [cj,Mc] at *;refine ⟨by omega,fun e=>?_⟩;have e1:f'=f:=by omega
    have h5:=h2.2 (by omega);have h6:=h4.2 e1;exact ⟨h5.1.trans h6.1.symm,h5.2.1.imp (fun q=>q.trans h6.2.2.symm) (fun q=>q),h5.2.2.trans h6.2.1.symm⟩
   |aX _=>exact h4.elim
  |aX _=>exact h2.elim
 |aX id j=>
  obtain ⟨ro,h1,h2⟩:=h;obtain ⟨jR,h3,h4⟩:=e.obj id ro h1;refine ⟨jR,h3,?_⟩;cases ro with
  |none=>simp only [cj] at h4; subst h4; trivial
  |a8=>exact h2.elim
  |bE x=>exact h2.elim
  |tok _ _ _ _=>exact h2.elim
  |aX ts=>
   cases jR with
   |none=>trivial
   |a8=>exact h4.elim
   |bE z=>exact h4.elim
   |tok _ _ _ _=>exact h4.elim
   |aX Sx=>
    obtain ⟨t,k1,k2⟩:=h2;obtain ⟨t',k3,k4⟩:=h4 j t k1;refine ⟨t',k3,?_⟩;cases t with
    |a8=>exact k2.elim
    |full f=>
     cases t' with
     |a8=>exact k4.elim
     |full f'=>simp only [iD,GZ] at *; subst k4; exact k2
     |tok f' x' y'=>simp only [iD,GZ] at *; exact ⟨by omega,fun e=>by omega⟩
    |tok f x y=>
     cases t' with
     |a8=>exact k4.elim
     |full f'=>exact k4.elim
     |tok f' x' y'=>
      simp only [iD,GZ] at *;refine ⟨by omega,fun e=>?_⟩;have e1:f'=f:=by omega
      have h5:=k2.2 (by omega);have h6:=k4.2 e1;exact ⟨h5.1.trans h6.1.symm,h5.2.1,h5.2.2.trans h6.2.symm⟩
theorem oF.mono {ro jR:RO} (h:oF ro) (e:cj ro jR):oF jR:=by
 cases ro with
 |none=>simp only [cj] at e; subst e; trivial
 |a8=>cases jR <;> first | trivial | exact e.elim | exact e
 |bE _=>exact h.elim
 |tok f x y z0=>
  cases jR with
  |none=>trivial
  |a8=>exact e.elim
  |bE z=>exact e.elim
  |tok f' x' y' z'=>simp only [cj,oF] at *; omega
  |aX _=>exact e.elim
 |aX _=>exact h.elim
theorem tE.mono {ro jR:RO} (h:tE ro) (e:cj ro jR):tE jR:=by
 cases ro with
 |none=>simp only [cj] at e; subst e; trivial
 |a8=>exact h.elim
 |bE _=>exact h.elim
 |tok _ _ _ _=>exact h.elim
 |aX ts=>
  cases jR with
  |none=>trivial
  |a8=>exact e.elim
  |bE z=>exact e.elim
  |tok _ _ _ _=>exact e.elim
  |aX Sx=>trivial
theorem Km.mono {b o f off sz cap:Nat} {ro jR:RO} (h:Km b o f off sz cap ro) (e:cj ro jR):Km b o f off sz cap jR:=by
 cases ro with
 |none=>simp only [cj] at e; subst e; trivial
 |a8=>exact h.elim
 |bE _=>exact h.elim
 |tok f1 x y z0=>
  cases jR with
  |none=>trivial
  |a8=>exact e.elim
  |bE z=>exact e.elim
  |tok f' x' y' z'=>
   simp only [cj,Km] at *;refine ⟨by omega,fun k=>?_⟩;obtain ⟨e1,e2,_⟩:=e.2 (by omega);obtain ⟨h1,h2,h3⟩:=h.2 (by omega);exact ⟨h1.trans e1.symm,h2.trans e2.symm,h3⟩
  |aX _=>exact e.elim
 |aX _=>exact h.elim
theorem Me.mono {b o f i off sz:Nat} {ro jR:RO} (h:Me b o f i off sz ro) (e:cj ro jR):Me b o f i off sz jR:=by
 cases ro with
 |none=>simp only [cj] at e; subst e; trivial
 |a8=>exact h.elim
 |bE _=>exact h.elim
 |tok f1 x y z0=>
  cases jR with
  |none=>trivial
  |a8=>exact e.elim
  |bE z=>exact e.elim
  |tok f' x' y' z'=>
   simp only [cj,Me] at *;refine ⟨by omega,fun k=>?_⟩;obtain ⟨e1,e2,_⟩:=e.2 (by omega);obtain ⟨h1,h2⟩:=h.2 (by omega);exact ⟨h1.trans e1.symm,h2⟩
  |aX _=>exact e.elim
 |aX _=>exact h.elim
theorem EP.mono {b o len cap j:Nat} {ro jR:RO} (h:EP b o len cap j ro) (h4:cj ro jR):EP b o len cap j jR:=by
 cases ro with
 |none=>simp only [cj] at h4; subst h4; trivial
 |a8=>exact h.elim
 |bE x=>exact h.elim
 |tok _ _ _ _=>exact h.elim
 |aX ts=>
  cases jR with
  |none=>trivial
  |a8=>exact h4.elim
  |bE z=>exact h4.elim
  |tok _ _ _ _=>exact h4.elim
  |aX Sx=>
   obtain ⟨t,k1,k2⟩:=h;obtain ⟨t',k3,k4⟩:=h4 j t k1;refine ⟨t',k3,?_⟩;cases t with
   |a8=>exact k2.elim
   |full f=>
    cases t' with
    |a8=>exact k4.elim
    |full f'=>simp only [iD,GZ] at *; subst k4; exact k2
    |tok f' x' y'=>simp only [iD,GZ] at *; exact ⟨by omega,fun e=>by omega⟩
   |tok f x y=>
    cases t' with
    |a8=>exact k4.elim
    |full f'=>exact k4.elim
    |tok f' x' y'=>
     simp only [iD,GZ] at *;refine ⟨by omega,fun e=>?_⟩;have e1:f'=f:=by omega
     have h5:=k2.2 (by omega);have h6:=k4.2 e1;exact ⟨h5.1.trans h6.1.symm,h5.2.1,h5.2.2.trans h6.2.symm⟩
theorem Md.mono {b o j f i off sz:Nat} {ro jR:RO} (h:Md b o j f i off sz ro) (h4:cj ro jR):Md b o j f i off sz jR:=by
 cases ro with
 |none=>simp only [cj] at h4; subst h4; trivial
 |a8=>exact h.elim
 |bE x=>exact h.elim
 |tok _ _ _ _=>exact h.elim
 |aX ts=>
  cases jR with
  |none=>trivial
  |a8=>exact h4.elim
  |bE z=>exact h4.elim
  |tok _ _ _ _=>exact h4.elim
  |aX Sx=>
   obtain ⟨t,k1,k2⟩:=h;obtain ⟨t',k3,k4⟩:=h4 j t k1;refine ⟨t',k3,?_⟩;cases t with
   |a8=>exact k2.elim
   |full f1=>
    cases t' with
    |a8=>exact k4.elim
    |full f'=>simp only [iD,Pp] at *; omega
    |tok f' x' y'=>simp only [iD,Pp] at *; exact ⟨by omega,fun e=>by omega⟩
   |tok f1 x y=>
    cases t' with
    |a8=>exact k4.elim
    |full f'=>exact k4.elim
    |tok f' x' y'=>
     simp only [iD,Pp] at *;refine ⟨by omega,fun e=>?_⟩;have h5:=k2.2 (by omega);have h6:=k4.2 (by omega);exact ⟨h5.1.trans h6.1.symm,h5.2⟩
mutual
theorem Rel.mono {R R':ai} {w w':World} (e:Ext R w R' w'):∀ {a:AV} {c:Value},Rel R w a c→Rel R' w' a c
 |_,_,.bool b=>.bool b
 |_,_,.int k n=>.int k n
 |_,_,.str l=>.str l
 |_,_,.agg h h1=>.agg (h.mono e) h1
 |_,_,.bP h=>.bP (h.mono e)
 |_,_,.oW=>.oW
 |_,_,.ptr h=>.ptr (e.bE h)
 |_,_,.ep h=>.ep (h.mono e)
 |_,_,.jZ=>.jZ
 |_,_,.jN=>.jN
 |_,_,.oG=>.oG
 |_,_,.me h ho=>let ⟨_,h3,h4⟩:=e.obj _ _ h; .me h3 (ho.mono h4)
 |_,_,.mJ h ho=>let ⟨_,h3,h4⟩:=e.obj _ _ h; .mJ h3 (ho.mono h4)
 |_,_,.list h hl hc hk=>.list (h.mono e) hl hc (hk.mono e)
 |_,_,.jV h hc=>.jV (e.bE h) hc
 |_,_,.jO h ho=>let ⟨_,h3,h4⟩:=e.obj _ _ h; .jO h3 (ho.mono h4)
 |_,_,.de h ho hc=>let ⟨_,h3,h4⟩:=e.obj _ _ h; .de h3 (ho.mono h4) hc
 |_,_,.gp h ho=>let ⟨_,h3,h4⟩:=e.obj _ _ h; .gp h3 (ho.mono h4)
 |_,_,.tF h ho=>let ⟨_,h3,h4⟩:=e.obj _ _ h; .tF h3 (ho.mono h4)
 |_,_,.eX h ho hc=>let ⟨_,h3,h4⟩:=e.obj _ _ h; .eX h3 (ho.mono h4) hc
 |_,_,.rp h ho=>let ⟨_,h3,h4⟩:=e.obj _ _ h; .rp h3 (ho.mono h4)
 |_,_,.mb=>.mb
 |_,_,.map h=>.map (e.bE h)
 |_,_,.eV=>.eV
 |_,_,.fn h h'=>.fn (h.mono e) (h'.mono e)
 |_,_,.yield h=>.yield (e.bE h)
 |_,_,.sM=>.sM
 |_,_,.iface h=>.iface (h.mono e)
theorem aL.mono {R R':ai} {w w':World} (e:Ext R w R' w'):∀ {l:List AV} {cs:List Value},aL R w l cs→aL R' w' l cs
 |_,_,.nil=>.nil
 |_,_,.cons h t=>.cons (h.mono e) (t.mono e)
theorem iW.mono {R R':ai} {w w':World} (e:Ext R w R' w'):∀ {b o sz:Nat} {l:List AV},iW R w b o sz l→iW R' w' b o sz l
 |_,_,_,_,.nil=>.nil
 |_,_,_,_,.cons hl ht hk h t=>.cons hl ht hk (h.mono e) (t.mono e)
theorem fN.mono {R R':ai} {w w':World} (e:Ext R w R' w'):∀ {b o:Nat} {l:List AV},fN R w b o l→fN R' w' b o l
 |_,_,_,.nil=>.nil
 |_,_,_,.cons hc h1 hi h t=>.cons ((e.cell _ _ hi).trans hc) h1 (e.I _ _ hi) (h.mono e) (t.mono e)
end
end Go.Am
namespace Go.Am
open Go
section lists
variable {α:Type}
theorem aN (l:List α) (n:Nat):nth l n=l[n]?:=by
 induction l generalizing n with
 |nil=>simp [nth]
 |cons a l ih=>cases n <;> simp [nth,ih]
theorem dV (l:List α) (n:Nat) (x:α):ak l n x=l.set n x:=by
 induction l generalizing n with
 |nil=>simp [ak]
 |cons a l ih=>cases n <;> simp [ak,ih]
theorem aU {l:List α} {n:Nat} {x:α} (h:nth l n=some x):n < l.length:=by
 rw [aN] at h;exact (aaI.1 h).1
theorem aj {l:List α} {n:Nat} {x y:α} (h:nth l n=some y):nth (ak l n x) n=some x:=by
 have:=aU h;rw [aN,dV,aaL this]
theorem aJ {l:List α} {n m:Nat} {x:α} (h:n≠m):nth (ak l n x) m=nth l m:=by
 rw [aN,dV,aN,List.getElem?_set_ne h]
theorem b8 {l:List α} {n m:Nat} {x y:α} (h:nth (ak l n x) m=some y):(n=m∧y=x∧m < l.length)∨(n≠m∧nth l m=some y):=by
 by_cases e:n=m
 ·subst e;have hl:=aU h;rw [dV,List.length_set] at hl;rw [aN,dV,aaL hl] at h;exact .inl ⟨rfl,(aaR h).symm,hl⟩
 ·rw [aJ e] at h;exact .inr ⟨e,h⟩
@[simp] theorem cw (l:List α) (n:Nat) (x:α):(ak l n x).length=l.length:=by rw [dV,List.length_set]
theorem bS (l:List α) (x:α):nth (l++[x]) l.length=some x:=by rw [aN]; simp
theorem bn {l:List α} {n:Nat} {y x:α} (h:nth l n=some y):nth (l++[x]) n=some y:=by
 have:=aU h;rw [aN] at *;rw [aaK this];exact h
theorem ah {l:List α} {n:Nat} {y x:α} (h:nth (l++[x]) n=some y):nth l n=some y∨(n=l.length∧y=x):=by
 rw [aN] at *;by_cases e:n < l.length
 ·rw [aaK e] at h; exact .inl h
 ·rw [List.getElem?_append_right (by omega)] at h;have hl:=(aaI.1 h).1;simp at hl;have:n - l.length=0:=by omega
  rw [this] at h;simp at h;exact .inr ⟨by omega,h.symm⟩
theorem qV:∀ {l:List α} {n:Nat} {x:α},nth l n=some x→ak l n x=l
 |[],_,_,h=>by cases h
 |a :: l,0,x,h=>by cases h; rfl
 |a :: l,n+1,x,h=>by
  show a :: ak l n x=a :: l;rw [qV (show nth l n=some x from h)]
end lists
def TW (R:ai) (w:World) (Ya:bo→Array Value→Prop) (busy:Bool) (pending:Option Code) (ab:bo) (n:Nat) (params:List Tmp) (assign body:Code) (defers:Nat) (done:Bool) (b:Nat):Prop:=
 ∃ (r:Loop) (db:Nat),w.heap[b]?=some (.loop r)∧r.state=(if done then .done else if busy then .busy else .ready)∧r.pending=pending ∧
  Ya ab r.tmps∧r.tmps.size=n∧r.params=⟨params⟩∧r.assign=assign∧r.body=body∧r.defers=db∧nth R.obj defers=some (.bE db)
def qJ (R:ai) (w:World) (β:Nat→Nat):SV→Value→Prop
 |.none,_=>True
 |.v a,c=>Rel R w a c
 |.lp k off,c=>c=.pointer (some ⟨β k,off,none⟩)
def qW (R:ai) (w:World) (β:Nat→Nat) (ab:bo) (tmps:Array Value):Prop:=
 ∀ i,lk ab i≠.none→∃ c,tmps[i]?=some c∧qJ R w β (lk ab i) c
def IW:bo→Bool
 |[]=>true
 |.put _ (.lp _ _) :: _=>false
 |_ :: l=>IW l
def eL (R:ai) (w:World):List (AV × AV)→List MapEntry→Prop
 |[],[]=>True
 |(k,v) :: l,e :: es=>Rel R w k e.key∧Rel R w v e.val∧eL R w l es
 |_,_=>False
def Ch (R:ai) (w:World) (sz:Nat) (e:TypeId) (f:Nat):TR→Prop
 |.a8=>f=0
 |.full f'=>f'=f
 |.tok f' b c=>f'=f∧∃ cur,w.heap[b]?=some (.cells cur e (0,0))∧f≤c∧c≤maxLen∧cur.size=c * sz∧∀ o,f * sz≤o→¬ R.I b o
def Sy (ts:List TR):Prop:=∀ i j f b c f' c',nth ts i=some (.tok f b c)→nth ts j=some (.tok f' b c')→i=j
def zl (R:ai) (w:World) (sz:Nat) (e:TypeId) (fs:List Nat) (ts:List TR):Prop:=
 ts.length=fs.length∧Sy ts∧∀ j f t,nth fs j=some f→nth ts j=some t→Ch R w sz e f t
def zm (R:ai) (w:World) (sz:Nat) (e:TypeId) (row:List AV):TR→Prop
 |.a8=>row=[]
 |.full _=>False
 |.tok f b c=>f=row.length∧gD sz row∧∃ cur vs,w.heap[b]?=some (.cells cur e (0,0))∧f≤c∧c≤maxLen∧cur.size=c * sz∧(∀ o,¬ R.I b o)∧aL R w (an row) vs∧(∀ v∈vs,v.oneCell'=true)∧cur.toList.take (f * sz)=vs
def Yb (R:ai) (w:World) (sz:Nat) (e:TypeId) (rows:List (List AV)) (ts:List TR):Prop:=
 ts.length=rows.length∧Sy ts∧∀ j row t,nth rows j=some row→nth ts j=some t→zm R w sz e row t
def lE (aH:Array MapEntry) (clock:Nat):Prop:=clock=aH.size∧∀ (i:Nat) (e:MapEntry),aH.toList[i]?=some e→e.born=i
def Yc (R:ai) (w:World) (mid n:Nat) (left:List Nat) (cur:Option Nat) (b:Nat):Prop:=
 ∃ bm seen c0,nth R.obj mid=some (.bE bm)∧w.heap[b]?=some (.mapIter (some bm) n seen c0)∧(∀ i,i < n→(i∈left↔seen.contains i=false))∧(∀ i∈left,i < n)∧left.Nodup∧n≤c0∧∀ i,cur=some i→seen.back?=some i∧c0=n
def iE (R:ai) (w:World):GO→RO→Prop
 |.dead,.none=>True
 |.dead,.a8=>True
 |.dead,.bE b=>b < w.heap.size
 |.dead,.tok _ b _ _=>b < w.heap.size
 |.dead,.aX ts=>∀ j f b c,nth ts j=some (.tok f b c)→b < w.heap.size
 |.aX fs sz e,.aX ts=>zl R w sz e fs ts
 |.gT rows sz e,.aX ts=>Yb R w sz e rows ts
 |.jQ mid n left cur _,.bE b=>Yc R w mid n left cur b
 |.tok f _ _,.a8=>f=0
 |.row cs el,.bE b=>∃ vs,w.heap[b]?=some (.cells ⟨vs⟩ el (0,0))∧aL R w cs vs∧(∀ v∈vs,v.oneCell'=true)∧∀ o,¬ R.I b o
 |.tok f sz e,.tok f' b c k=>f'=f∧∃ cur,w.heap[b]?=some (.cells cur e (0,0))∧f≤c∧c≤maxLen∧cur.size=k+c * sz∧∀ o,k+f * sz≤o→¬ R.I b o
 |.cg es _ _,.a8=>es=[]
 |.cg es sz e,.tok f b c k=>k=0∧f=es.length∧dX sz es∧∃ cur vs,w.heap[b]?=some (.cells cur e (0,0))∧f≤c∧c≤maxLen∧cur.size=c * sz∧(∀ o,¬ R.I b o)∧aL R w (an es) vs∧(∀ v∈vs,v.oneCell'=true)∧cur.toList.take (f * sz)=vs
 |.map es,.bE b=>∃ aH clock,w.heap[b]?=some (.map aH clock)∧eL R w es aH.toList∧lE aH clock
 |.iO l pos,.bE b=>w.heap[b]?=some (.stringIter ⟨⟨l⟩⟩ pos)
 |.loop busy pending _ ab n params assign body defers done,.bE b=>TW R w (qW R w (fun _=>0)) busy pending ab n params assign body defers done b∧IW ab=true
 |.defers o,.bE b=>w.heap[b]?=some (.deferred (if o then some [] else none))
 |_,_=>False
def oH (E:Env) (R:ai) (w:World) (g:Nat) (cs:List AV):Prop:=
 fN R w g 0 cs∧(E.gx g=true→R.I g cs.length∧w.cell? ⟨g,cs.length,none⟩=none)
theorem oH.mono {E:Env} {R R':ai} {w w':World} {g:Nat} {cs:List AV} (h:oH E R w g cs) (e:Ext R w R' w'):oH E R' w' g cs:=
 ⟨h.1.mono e,fun hx=>⟨e.I _ _ (h.2 hx).1,(e.cell _ _ (h.2 hx).1).trans (h.2 hx).2⟩⟩
structure eY (E:Env) (R:ai) (w:World) (G:List GO):Prop where
 len:R.obj.length=G.length
 obj:∀ id go ro,nth G id=some go→nth R.obj id=some ro→iE R w go ro
 inj:∀ i j ri rj b,nth R.obj i=some ri→nth R.obj j=some rj→ri.has b→rj.has b→i=j
 wf:∀ b o,R.I b o→b < w.heap.size
 dF:∀ g cs,E.dF g=some cs→oH E R w g cs
 lo:E.lo≤w.drawn
def Live (R:ai) (b:Nat):Prop:=∃ id ro,nth R.obj id=some ro∧ro.has b
structure Pr (R:ai) (w:World) (β:Nat→Nat) (boxes:cX):Prop where
 box:∀ k cs,dR boxes k=some cs→(∃ vs el,w.heap[β k]?=some (.cells ⟨vs⟩ el (0,0))∧aL R w cs vs∧(∀ v∈vs,v.oneCell'=true))∧(∀ o,¬ R.I (β k) o)∧¬ Live R (β k)
 inj:∀ k k' cs eZ,dR boxes k=some cs→dR boxes k'=some eZ→β k=β k'→k=k'
def sP (R:ai):List Nat→List Deferred→Prop
 |[],[]=>True
 |id :: l,d :: ds=>(∃ b,nth R.obj id=some (.bE b)∧d={ target:=.collected b,args:=#[] })∧sP R l ds
 |_,_=>False
structure aY (E:Env) (R:ai) (w:World) (β:Nat→Nat) (s:St) (a:Act):Prop where
 g:eY E R w s.G
 b:Pr R w β s.boxes
 t:qW R w β s.ab a.tmps
 n:a.tmps.size=s.n
 d:sP R s.marks a.defers
def Own (R:ai) (β:Nat→Nat) (boxes:cX) (b:Nat):Prop:=
 Live R b∨∃ k cs,dR boxes k=some cs∧β k=b
structure Step (R:ai) (w:World) (β:Nat→Nat) (bx:cX) (R':ai) (w':World) (β':Nat→Nat) (IX:cX):Prop where
 ext:Ext R w R' w'
 os:w'.os=w.os
 tape:w'.tape=w.tape
 output:w'.output=w.output
 size:w.heap.size≤w'.heap.size
 keep:∀ b,b < w.heap.size→¬ Own R β bx b→w'.heap[b]?=w.heap[b]?
 own:∀ b,b < w.heap.size→Own R' β' IX b→Own R β bx b
 im:∀ b o,R'.I b o→b < w.heap.size→¬ Own R β bx b→R.I b o
theorem Step.refl (R:ai) (w:World) (β:Nat→Nat) (bx:cX):Step R w β bx R w β bx:=
 ⟨Ext.refl R w,rfl,rfl,rfl,Nat.le_refl _,fun _ _ _=>rfl,fun _ _ h=>h,fun _ _ h _ _=>h⟩
theorem Step.trans {R R1 R2:ai} {w w1 w2:World} {β β1 β2:Nat→Nat} {x x1 x2:cX}
  (h:Step R w β x R1 w1 β1 x1) (k:Step R1 w1 β1 x1 R2 w2 β2 x2):Step R w β x R2 w2 β2 x2 where
 ext:=h.ext.trans k.ext
 os:=k.os.trans h.os
 tape:=k.tape.trans h.tape
 output:=k.output.trans h.output
 size:=Nat.le_trans h.size k.size
 keep:=fun b hb hn=>(k.keep b (aax hb h.size) (fun ho=>hn (h.own b hb ho))).trans (h.keep b hb hn)
 own:=fun b hb ho=>h.own b hb (k.own b (aax hb h.size) ho)
 im:=fun b o hi hb hn=>h.im b o (k.im b o hi (aax hb h.size) (fun ho=>hn (h.own b hb ho))) hb hn
theorem qJ.mono {R R':ai} {w w':World} {β:Nat→Nat} (e:Ext R w R' w') {x:SV} {c:Value} (h:qJ R w β x c):qJ R' w' β x c:=by
 cases x with
 |none=>trivial
 |v a=>exact Rel.mono e h
 |lp k off=>exact h
theorem uv (n:Nat):aal n n=true:=Nat.beq_refl n
theorem pS {n m:Nat} (h:n≠m):aal n m=false:=by
 cases hb:aal n m with
 |true=>exact absurd (Nat.eq_of_beq_eq_true hb) h
 |false=>rfl
theorem aD (l:bo) (d:Nat) (x:SV):lk (.put d x :: l) d=x:=by simp [lk]
theorem aT {l:bo} {d t:Nat} {x:SV} (h:d≠t):lk (.put d x :: l) t=lk l t:=by simp [lk,pS h]
theorem IY {l:bo} {d t:Nat}:(lk (.kill d :: l) t=lk l t∧∀ k off,lk l t=.lp k off→k≠d)∨lk (.kill d :: l) t=.none:=by
 simp only [lk];cases h:lk l t with
 |none=>exact .inr rfl
 |v a=>exact .inl ⟨rfl,fun _ _ e=>by cases e⟩
 |lp k off=>
  by_cases hk:k=d
  ·subst hk;exact .inr (by simp)
  ·exact .inl ⟨by simp [pS hk],fun k' gR e=>by cases e; exact hk⟩
theorem Mg (l:cX) (d:Nat) (cs:List AV):dR ((d,cs) :: l) d=some cs:=by simp [dR]
theorem fR {l:cX} {d k:Nat} {cs eZ:List AV} (h:dR ((d,cs) :: l) k=some eZ):(d=k∧eZ=cs)∨(d≠k∧dR l k=some eZ):=by
 by_cases e:d=k
 ·subst e;rw [Mg] at h;exact .inl ⟨rfl,(aaR h).symm⟩
 ·simp only [dR,pS e,cond_false] at h;exact .inr ⟨e,h⟩
theorem Ps {l:cX} (h:l.all (fun p=>aF p.2)=true) {k:Nat} {cs:List AV} (hk:dR l k=some cs):aF cs=true:=by
 induction l with
 |nil=>simp [dR] at hk
 |cons x l ih=>
  obtain ⟨d,c⟩:=x;simp only [List.all_cons,Bool.and_eq_true] at h;rcases fR hk with ⟨_,rfl⟩|⟨_,hk⟩
  ·exact h.1
  ·exact ih h.2 hk
theorem qW.put {R:ai} {w:World} {β:Nat→Nat} {ab:bo} {a:Act} (h:qW R w β ab a.tmps) {d:Tmp} {x:SV} {c:Value} (hd:d < a.tmps.size) (hx:qJ R w β x c) :
  qW R w β (.put d x :: ab) (a.put (some d) c).tmps:=by
 intro i hi;by_cases e:d=i
 ·subst e;rw [aD];exact ⟨c,by simp [Act.put,hd],hx⟩
 ·rw [aT e] at hi ⊢;obtain ⟨c',h1,h2⟩:=h i hi;refine ⟨c',?_,h2⟩;simp only [Act.put];rw [Array.getElem?_setIfInBounds_ne e];exact h1
theorem aY.put {E:Env} {R:ai} {w:World} {β:Nat→Nat} {s:St} {a:Act} (h:aY E R w β s a) (dst:Option Tmp) {x:SV} {c:Value} (hx:qJ R w β x c) :
  aY E R w β (s.put dst x) (a.put dst c):=by
 cases dst with
 |none=>exact h
 |some d=>
  simp only [St.put];cases hb:aaM d s.n with
  |true=>
   have hd:d < a.tmps.size:=by rw [h.n]; exact Nat.le_of_ble_eq_true hb
   exact ⟨h.g,h.b,h.t.put hd hx,by simp [Act.put,h.n],h.d⟩
  |false=>
   have hd:¬ d < a.tmps.size:=by
    rw [h.n];intro bW;have:aaM d s.n=true:=Nat.ble_eq_true_of_le bW;rw [this] at hb;cases hb
   have he:a.put (some d) c=a:=by
    simp only [Act.put];rw [Array.setIfInBounds_eq_of_size_le (Nat.not_lt.1 hd)]
   rw [he];exact h
theorem uw {R:ai} {w:World} {v:Value} {a:AV} (h:ug v=some a):Rel R w a v∧v.oneCell'=true:=by
 unfold ug at h;split at h <;> cases h
 ·exact ⟨.bool _,rfl⟩
 ·exact ⟨.int _ _,rfl⟩
 ·rename_i s;exact ⟨.str s.data.toList,rfl⟩
 ·exact ⟨.jZ,rfl⟩
 ·exact ⟨.oW,rfl⟩
 ·exact ⟨.mb,rfl⟩
 ·exact ⟨.eV,rfl⟩
 ·exact ⟨.sM,rfl⟩
theorem pT {R:ai} {w:World}:∀ {vs:List Value} {l:List AV},oX vs=some l→aL R w l vs∧∀ v∈vs,v.oneCell'=true
 |[],l,h=>by simp [oX] at h; subst h; exact ⟨.nil,by simp⟩
 |v :: vs,l,h=>by
  unfold oX at h;split at h
  ·rename_i a r h1 h2;cases h;obtain ⟨k1,k2⟩:=uw (R:=R) (w:=w) h1;obtain ⟨k3,k4⟩:=pT (R:=R) (w:=w) h2;exact ⟨.cons k1 k3,by simp [k2]; exact k4⟩
  ·cases h
theorem xn {R:ai} {w:World} {v:Value} {a:AV} (h:uh v=some a):Rel R w a v:=by
 unfold uh at h;split at h
 ·rename_i cs;split at h
  ·rename_i l hl;cases h;obtain ⟨k1,k2⟩:=pT (R:=R) (w:=w) hl;exact .agg (vs:=cs.toList) k1 k2
  ·cases h
 ·rename_i cs;split at h
  ·rename_i l hl;cases h;obtain ⟨k1,_⟩:=pT (R:=R) (w:=w) hl;exact .bP (vs:=cs.toList) k1
  ·cases h
 ·exact (uw h).1
theorem aV {E:Env} {R:ai} {w:World} {β:Nat→Nat} {s:St} {a:Act} (h:aY E R w β s a) (x:Operand):qJ R w β (bG E s.ab x) (a.eval x):=by
 cases x with
 |tmp t=>
  simp only [bG,Act.eval];by_cases hn:lk s.ab t=.none
  ·rw [hn]; trivial
  ·obtain ⟨c,h1,h2⟩:=h.t t hn;have:a.tmps.getD t undef=c:=by simp [Array.getD_eq_getD_getElem?,h1]
   rw [this];exact h2
 |const v=>
  simp only [bG,Act.eval];cases hc:uh v with
  |none=>trivial
  |some y=>exact xn hc
 |global g=>
  simp only [bG,Act.eval];cases hg:E.dF g with
  |none=>trivial
  |some cs=>exact Rel.ep (h.g.dF g cs hg).1
 |func f=>exact Rel.fn .nil .nil
end Go.Am
