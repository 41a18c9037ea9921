/- The abstract machine: its values,its state,and what each operation does (definitions alone). -/
import Derived.CallsIn
import Derived.RangeFuncLeaves
import Derived.Laws.AppendOwn
set_option linter.all false
open BitVec renaming ofInt→aak
open Go.Op renaming bytesLess→aaq
open List renaming replicate→aah, getElem?_eq_some_iff→aas, getElem?_append_left→aaF, getElem?_set_self→aaG
open Nat renaming beq→aaa, ble→aag, lt_of_lt_of_le→aar, blt→aaN
open Option.some renaming inj→abu
namespace Go.Am
open Go
inductive LK where
 |nil | full | iu | own (id:Nat) | aY (id j:Nat)
inductive AV where
 |bool (b:Bool)
 |int (k:IntKind) (n:Int)
 |str (s:List UInt8)
 |agg (cs:List AV)
 |bW (vs:List AV)
 |ra
 |ptr (id off:Nat)
 |ep (cs:List AV)
 |list (k:LK) (sz:Nat) (es:List AV)
 |ob (id off sz len cap:Nat)
 |ey (id f off sz len:Nat)
 |gp (id f i off sz:Nat) (t:TypeId)
 |gH (id j sz len:Nat)
 |rp (id j f i off sz:Nat) (t:TypeId)
 |nQ
 |map (id:Nat)
 |gq
 |fn (f:FuncId) (first cap:List AV)
 |yield (id:Nat)
 |vY
 |iface (t:TypeId) (v:AV)
def LK.closed:LK→Bool
 |.own _=>false
 |.aY _ _=>false
 |_=>true
mutual
def AV.closed:AV→Bool
 |.agg cs=>aZ cs
 |.bW cs=>aZ cs
 |.ep cs=>aZ cs
 |.list k _ _=>k.closed
 |.fn _ x y=>aZ x&&aZ y
 |.iface _ v=>v.closed
 |.ptr _ _=>false
 |.ob _ _ _ _ _=>false
 |.ey _ _ _ _ _=>false
 |.gp _ _ _ _ _ _=>false
 |.gH _ _ _ _=>false
 |.rp _ _ _ _ _ _ _=>false
 |.map _=>false
 |.yield _=>false
 |_=>true
def aZ:List AV→Bool
 |[]=>true
 |a :: l=>a.closed&&aZ l
end
mutual
def AV.jB:AV→AV
 |.agg cs=>.agg (qg cs)
 |.bW cs=>.bW (qg cs)
 |.list (.own _) sz es=>.list .iu sz es
 |.list (.aY _ _) sz es=>.list .iu sz es
 |v=>v
def qg:List AV→List AV
 |[]=>[]
 |a :: l=>a.jB :: qg l
end
inductive SV where
 |none
 |v (a:AV)
 |lp (key off:Nat)
inductive Ent where
 |put (d:Nat) (x:SV)
 |kill (d:Nat)
abbrev bz:=List Ent
abbrev dX:=List (Nat × List AV)
def lk:bz→Nat→SV
 |[],_=>.none
 |.put d x :: l,t=>bif aaa d t then x else lk l t
 |.kill d :: l,t=>match lk l t with
  |.lp k off=>bif aaa k d then .none else .lp k off
  |x=>x
def fh:dX→Nat→Option (List AV)
 |[],_=>none
 |(d,cs) :: l,k=>bif aaa d k then some cs else fh l k
inductive GO where
 |dead
 |row (cs:List AV) (el:TypeId)
 |tok (f sz:Nat) (e:TypeId)
 |aY (fs:List Nat) (sz:Nat) (e:TypeId)
 |lD (jR n:Nat) (left:List Nat) (cur:Option Nat) (t:TypeId)
 |da (es:List AV) (sz:Nat) (el:TypeId)
 |iP (rows:List (List AV)) (sz:Nat) (el:TypeId)
 |map (es:List (AV × AV))
 |ke (s:List UInt8) (pos:Nat)
 |loop (busy:Bool) (pending:Option Code) (fn:FuncId) (ab:bz) (n:Nat) (params:List Tmp) (assign body:Code) (defers:Nat) (done:Bool)
 |defers (open_:Bool)
structure St where
 ab:bz
 boxes:dX
 G:List GO
 marks:List Nat
 ro:Option Nat
 n:Nat
def nth {α:Type}:List α→Nat→Option α
 |[],_=>none
 |a :: _,0=>some a
 |_ :: l,n+1=>nth l n
def aC {α:Type}:List α→Nat→α→List α
 |[],_,_=>[]
 |_ :: l,0,x=>x :: l
 |a :: l,n+1,x=>a :: aC l n x
def takeN {α:Type}:Nat→List α→Option (List α)
 |0,_=>some []
 |_+1,[]=>none
 |n+1,a :: l=>match takeN n l with
  |some r=>some (a :: r)
  |none=>none
def iQ {α:Type}:Nat→List α→List α
 |0,l=>l
 |_+1,[]=>[]
 |n+1,_ :: l=>iQ n l
def Nw {α:Type} (off n:Nat) (l:List α):Option (List α):=takeN n (iQ off l)
def eC {α:Type}:List α→Nat→List α→List α
 |l,_,[]=>l
 |[],_,_ :: _=>[]
 |_ :: l,0,y :: ys=>y :: eC l 0 ys
 |a :: l,n+1,y :: ys=>a :: eC l n (y :: ys)
def AV.cells:AV→List AV
 |.agg cs=>cs
 |v=>[v]
def AV.one:AV→Bool
 |.agg _=>false
 |.bW _=>false
 |_=>true
def xH:Value→Option AV
 |.bool b=>some (.bool b)
 |.int k n=>some (.int k n)
 |.string s=>some (.str s.data.toList)
 |.slice none 0 0=>some (.list .nil 0 [])
 |.pointer none=>some .ra
 |.map none=>some .nQ
 |.nilFunc=>some .gq
 |.nilIface=>some .vY
 |_=>none
def rb:List Value→Option (List AV)
 |[]=>some []
 |v :: vs=>match xH v,rb vs with
  |some a,some l=>some (a :: l)
  |_,_=>none
def xI:Value→Option AV
 |.agg cs=>match rb cs.toList with
  |some l=>some (.agg l)
  |none=>none
 |.tuple cs=>match rb cs.toList with
  |some l=>some (.bW l)
  |none=>none
 |v=>xH v
inductive TK where
 |sc
 |int (k:IntKind)
 |str
 |st (fs:List (Nat × Nat × Bool))
 |arr (len esz:Nat) (ah3:Bool)
 |sl (elem esz:Nat) (ah3:Bool) (bG:Nat) (aee:Option AV)
 |map (key elem:TypeId) (aee:Option AV)
mutual
inductive EK where
 |no
 |bool
 |int
 |str
 |st (fs:Yk)
inductive Yk where
 |nil
 |cons (off sz:Nat) (ag:Bool) (k:EK) (rest:Yk)
end
structure TI where
 k:TK
 size:Nat
 agg:Bool
 zero:Option AV
 ek:EK
def nR:TypeDesc→Bool
 |.struct _=>true
 |.array _ _=>true
 |_=>false
def fieldsOf (P:Program):List Field→Option (List (Nat × Nat × Bool))
 |[]=>some []
 |f :: fs=>match P.info? f.type,P.underlying f.type,fieldsOf P fs with
  |some i,some u,some l=>some ((f.offset,i.size,nR u) :: l)
  |_,_,_=>none
def jx (i:TypeInfo):Option AV:=match i.zero with
 |some z=>xI z
 |none=>none
def xJ (P:Program):TypeDesc→Option TK
 |.int k=>some (.int k)
 |.string=>some .str
 |.struct fs=>match fieldsOf P fs.toList with
  |some l=>some (.st l)
  |none=>none
 |.array n e=>match P.info? e,P.underlying e with
  |some i,some u=>some (.arr n i.size (nR u))
  |_,_=>none
 |.slice e=>match P.info? e,P.underlying e with
  |some i,some u=>some (.sl e i.size (nR u) i.bytes (jx i))
  |_,_=>none
 |.map k e=>match P.info? e with
  |some i=>some (.map k e (jx i))
  |none=>none
 |_=>some .sc
def K5 (P:Program) (ek:TypeId→EK):List Field→Option Yk
 |[]=>some .nil
 | f :: fs => if f.name == "_" then none else match P.info? f.type, P.underlying f.type, K5 P ek fs with
  |some i,some u,some l=>some (.cons f.offset i.size (nR u) (ek f.type) l)
  |_,_,_=>none
def Cw (sz:Nat) (ag:Bool) (k:EK):Nat→Nat→Yk
 |0,_=>.nil
 |n+1,i=>.cons (i * sz) sz ag k (Cw sz ag k n (i+1))
def vZ (P:Program):Nat→TypeId→EK
 |0,_=>.no
 |n+1,t=>match P.underlying t with
  |some .bool=>.bool
  |some (.int _)=>.int
  |some .string=>.str
  |some (.struct fs)=>if P.stoodInHeld t then .no else match K5 P (vZ P n) fs.toList with
   |some l=>.st l
   |none=>.no
  |some (.array m e)=>match P.info? e,P.underlying e with
   |some i,some u=>.st (Cw i.size (nR u) (vZ P n e) m 0)
   |_,_=>.no
  |_=>.no
def AY (P:Program) (t:TypeId):EK:=match vZ P 6 t with
 |.st l=>if P.eqGuardType P.depth t then .no else .st l
 |k=>k
def O9 (P:Program) (t:TypeId):Option TI:=
 match P.info? t,P.underlying t with
 |some i,some u=>match xJ P u with
  |some k=>some { k:=k,size:=i.size,agg:=nR u,zero:=jx i,ek:=AY P t }
  |none=>none
 |_,_=>none
def xK:AV→AV→Bool
 |.bool a,.bool b=>a == b
 |.int k a,.int k' b=>(k == k')&&a == b
 |.str a,.str b=>a == b
 |.ra,.ra=>true
 |.ptr i o,.ptr i' o'=>aaa i i'&&aaa o o'
 |.nQ,.nQ=>true
 |.map i,.map i'=>aaa i i'
 |.gq,.gq=>true
 |.vY,.vY=>true
 |.ob a b c d e,.ob a' b' c' d' e'=>aaa a a'&&aaa b b'&&aaa c c'&&aaa d d'&&aaa e e'
 |.ey a b c d e,.ey a' b' c' d' e'=>aaa a a'&&aaa c c'&&aaa d d'&&(aaa b b'&&aaa e e')
 |.gp a b c d e t,.gp a' b' c' d' e' t'=>aaa a a'&&aaa b b'&&aaa c c'&&aaa d d'&&aaa e e'&&aaa t t'
 |.gH a b c d,.gH a' b' c' d'=>aaa a a'&&aaa b b'&&aaa c c'&&aaa d d'
 |.rp a b c d e f t,.rp a' b' c' d' e' f' t'=>aaa a a'&&aaa b b'&&aaa c c'&&aaa d d'&&aaa e e'&&aaa f f'&&aaa t t'
 |_,_=>false
mutual
def fy:AV→AV→Bool
 |.fn f x y,.fn f' x' y'=>aaa f f'&&aT x x'&&aT y y'
 |.agg cs,.agg ig=>aT cs ig
 |.ep cs,.ep ig=>aT cs ig
 |.bW cs,.bW ig=>aT cs ig
 |.list .nil a es,.list .nil a' es'=>aaa a a'&&aT es es'
 |.list .full a es,.list .full a' es'=>aaa a a'&&aT es es'
 |.list .iu a es,.list .iu a' es'=>aaa a a'&&aT es es'
 |.list (.own i) a es,.list (.own i') a' es'=>aaa i i'&&aaa a a'&&aT es es'
 |.list (.aY i j) a es,.list (.aY i' j') a' es'=>aaa i i'&&aaa j j'&&aaa a a'&&aT es es'
 |a,b=>xK a b
def aT:List AV→List AV→Bool
 |[],[]=>true
 |a :: l,b :: r=>fy a b&&aT l r
 |_,_=>false
end
mutual
inductive aM
 |int (k:IntKind)
 |bool
 |str
 |agg (ps:aR)
 |bW (ps:aR)
 |list (sz:Nat) (p:aM)
 |own (id sz:Nat) (p:aM)
 |aY (id sz:Nat) (p:aM)
 |gH (id sz:Nat)
 |kQ (v:AV)
 |two (u v:AV)
inductive aR
 |nil
 |cons (p:aM) (ps:aR)
end
abbrev aR.ci (r:aR):aR:=.cons (.int .i64) r
def aef (s:Bool) (α β:Type):Type:=match s with
 |true=>α
 |false=>α × β
def aR.isNil:aR→Bool
 |.nil=>true
 |.cons _ _=>false
mutual
def aM.T:aM→Type
 |.int _=>Int
 |.bool=>Bool
 |.str=>List UInt8
 |.agg ps=>ps.T
 |.bW ps=>ps.T
 |.list _ p=>List p.T
 |.own _ _ p=>List p.T
 |.aY _ _ p=>Nat × List p.T
 |.gH _ _=>Nat × Nat
 |.kQ _=>Unit
 |.two _ _=>Bool
def aR.T:aR→Type
 |.nil=>Unit
 |.cons p ps=>aef ps.isNil p.T ps.T
end
mutual
def aM.enc:(p:aM)→p.T→AV
 |.int k,(n:Int)=>.int k n
 |.bool,(b:Bool)=>.bool b
 |.str,(s:List UInt8)=>.str s
 |.agg ps,x=>.agg (ps.enc x)
 |.bW ps,x=>.bW (ps.enc x)
 |.list sz p,(xs:List p.T)=>.list .iu sz (xs.map p.enc)
 |.own id sz p,(xs:List p.T)=>.list (.own id) sz (xs.map p.enc)
 |.aY id sz p,(x:Nat × List p.T)=>.list (.aY id x.1) sz (x.2.map p.enc)
 |.gH id sz,(x:Nat × Nat)=>.gH id x.1 sz x.2
 |.kQ v,_=>v
 |.two u v,(b:Bool)=>bif b then v else u
def aR.enc:(ps:aR)→ps.T→List AV
 |.nil,_=>[]
 |.cons p .nil,x=>[p.enc x]
 |.cons p (.cons q ps),x=>p.enc x.1 :: (aR.cons q ps).enc x.2
end
def kEq:IntKind→IntKind→Bool:=fun a b=>decide (a=b)
def AV.nR:AV→List AV
 |.agg cs=>cs
 |_=>[]
def AV.ZH:AV→List AV
 |.bW cs=>cs
 |_=>[]
def AV.dO:AV→List AV
 |.list _ _ es=>es
 |_=>[]
def AV.ah4:AV→Nat
 |.list (.aY _ j) _ _=>j
 |_=>0
def AV.ah5:AV→Nat × Nat
 |.gH _ j _ len=>(j,len)
 |_=>(0,0)
def AV.BD:AV→Int
 |.int _ n=>n
 |_=>0
def AV.aeg:AV→Bool
 |.bool b=>b
 |_=>false
def AV.ZI:AV→List UInt8
 |.str s=>s
 |_=>[]
def gr:List AV→AV
 |a :: _=>a
 |[]=>.ra
def Q9:List AV→List AV
 |_ :: l=>l
 |[]=>[]
mutual
def aM.bC:(p:aM)→AV→p.T
 |.int _,v=>v.BD
 |.bool,v=>v.aeg
 |.str,v=>v.ZI
 |.agg ps,v=>ps.bC v.nR
 |.bW ps,v=>ps.bC v.ZH
 |.list _ p,v=>v.dO.map p.bC
 |.own _ _ p,v=>v.dO.map p.bC
 |.aY _ _ p,v=>(v.ah4,v.dO.map p.bC)
 |.gH _ _,v=>v.ah5
 |.kQ _,_=>()
 |.two _ v,a=>fy a v
def aR.bC:(ps:aR)→List AV→ps.T
 |.nil,_=>()
 |.cons p .nil,l=>p.bC (gr l)
 |.cons p (.cons q ps),l=>(p.bC (gr l),(aR.cons q ps).bC (Q9 l))
end
def allFit (f:AV→Bool):List AV→Bool
 |[]=>true
 |a :: l=>f a&&allFit f l
mutual
def aM.fits:aM→AV→Bool
 |.int k,v=>match v with
  |.int k' _=>kEq k k'
  |_=>false
 |.bool,v=>match v with
  |.bool _=>true
  |_=>false
 |.str,v=>match v with
  |.str _=>true
  |_=>false
 |.agg ps,v=>match v with
  |.agg cs=>ps.fits cs
  |_=>false
 |.bW ps,v=>match v with
  |.bW cs=>ps.fits cs
  |_=>false
 |.list sz p,v=>match v with
  |.list _ bP es=>(aaa sz bP || es.isEmpty)&&allFit p.fits es
  |_=>false
 |.own id sz p,v=>match v with
  |.list (.own mc) bP es=>(aaa id mc&&aaa sz bP)&&allFit p.fits es
  |_=>false
 |.aY id sz p,v=>match v with
  |.list (.aY mc _) bP es=>(aaa id mc&&aaa sz bP)&&allFit p.fits es
  |_=>false
 |.gH id sz,v=>match v with
  |.gH mc _ bP _=>aaa id mc&&aaa sz bP
  |_=>false
 |.kQ v,u=>fy u v
 |.two u v,a=>fy a u || fy a v
def aR.fits:aR→List AV→Bool
 |.nil,l=>l.isEmpty
 |.cons p ps,l=>match l with
  |a :: l=>p.fits a&&ps.fits l
  |[]=>false
end
def aM.dec (p:aM) (v:AV):Option p.T:=bif p.fits v then some (p.bC v) else none
def aR.dec (ps:aR) (l:List AV):Option ps.T:=bif ps.fits l then some (ps.bC l) else none
structure Env where
 P:Program
 ti:TypeId→Option TI
 ft:Nat→Option (List AV)
 E0:FuncId→Tmp→Bool
 U1:TypeId→Option aM
 lo:Nat:=0
 gho:FuncId→Tmp→List (Option Nat × Nat × TypeId):=fun _ _=>[]
 elg:TypeId→Option aM:=fun _=>none
 gx:Nat→Bool:=fun _=>false
 Pa:∀ t i,ti t=some i→O9 P t=some i
 mixed:P.follows .mixedOrders=true
 GV:∀ g cs,ft g=some cs→aZ cs=true
def bO (E:Env) (ab:bz):Operand→SV
 |.tmp t=>lk ab t
 |.const v=>match xI v with
  |some a=>.v a
  |none=>.none
 |.global g=>match E.ft g with
  |some cs=>.v (.ep cs)
  |none=>.none
 |.func f=>.v (.fn f [] [])
def St.put (s:St) (dst:Option Tmp) (x:SV):St:=match dst with
 |some d=>match aaN d s.n with
  |true=>⟨.put d x :: s.ab,s.boxes,s.G,s.marks,s.ro,s.n⟩
  |false=>s
 |none=>s
def jE:AV:=.bW []
def xL (agg:Bool) (cs:List AV):Option AV:=
 if agg then some (.agg cs) else match cs with
  |[c]=>some c
  |_=>none
def sH (s:St):SV→Option (List AV × Nat)
 |.lp k off=>match fh s.boxes k with
  |some cs=>some (cs,off)
  |none=>none
 |.v (.ptr id off)=>match nth s.G id with
  |some (.row cs _)=>some (cs,off)
  |_=>none
 |.v (.ep cs)=>some (cs,0)
 |_=>none
def Fw (n:Nat):SV→Option SV
 |.lp k off=>some (.lp k (off+n))
 |.v (.ptr id off)=>some (.v (.ptr id (off+n)))
 |.v (.ep cs)=>some (.v (.ep (iQ n cs)))
 |.v (.gp id f i off sz t)=>some (.v (.gp id f i (off+n) sz t))
 |.v (.rp id j f i off sz t)=>some (.v (.rp id j f i (off+n) sz t))
 |_=>none
def GW (t:Bool):AV→AV→AV
 |.bool x,.bool y=>.bool (bif t then x else y)
 |.int k x,.int k' y=>if k=k' then .int k (bif t then x else y) else (bif t then .int k x else .int k' y)
 |a,b=>bif t then a else b
def Nx (ag:Bool) (off sz:Nat) (cs:List AV):Option AV:=
 if ag then (match Nw off sz cs with | some l=>xL true l | none=>none) else (match Nw off 1 cs with | some l=>xL false l | none=>none)
mutual
def pY:EK→AV→AV→Option Bool
 |.bool,.bool a,.bool b=>some (a == b)
 |.int,.int k a,.int k' b=>if k=k' then some (a == b) else none
 |.str,.str a,.str b=>some (a == b)
 |.st fs,.agg xs,.agg ys=>zQ fs xs ys
 |_,_,_=>none
def zQ:Yk→List AV→List AV→Option Bool
 |.nil,_,_=>some true
 |.cons off sz ag k rest,xs,ys=>match Nx ag off sz xs,Nx ag off sz ys with
  |some a,some b=>match pY k a b,zQ rest xs ys with
   |some t,some u=>some (t&&u)
   |_,_=>none
  |_,_=>none
end
def ZJ (k:IntKind) (a b:Int):Int:=k.wrap (aak k.bits a &&& aak k.bits b).toNat
def orI (k:IntKind) (a b:Int):Int:=k.wrap (aak k.bits a ||| aak k.bits b).toNat
def ZK (k:IntKind) (a b:Int):Int:=k.wrap (aak k.bits a ^^^ aak k.bits b).toNat
def Iw (op:BinOp) (x y:AV):Option (Bool × AV):=
 match x,y with
 |.int k a,.int k' b=>
  match op with
  |.shl=>some (decide (0≤b),.int k (k.wrap (a * 2 ^ (min b.toNat k.bits))))
  |.shr=>some (decide (0≤b),.int k (a.fdiv (2 ^ (min b.toNat k.bits))))
  |_=>if k=k' then
    match op with
    |.add=>some (true,.int k (k.wrap (a+b)))
    |.sub=>some (true,.int k (k.wrap (a - b)))
    |.mul=>some (true,.int k (k.wrap (a * b)))
    |.quo=>some (!(decide (b=0)),.int k (k.wrap (a.tdiv b)))
    |.rem=>some (!(decide (b=0)),.int k (a.tmod b))
    |.and=>some (true,.int k (ZJ k a b))
    |.or=>some (true,.int k (orI k a b))
    |.xor=>some (true,.int k (ZK k a b))
    |.eql=>some (true,.bool (a == b))
    |.neq=>some (true,.bool (a != b))
    |.lss=>some (true,.bool (a < b))
    |.leq=>some (true,.bool (a≤b))
    |.gtr=>some (true,.bool (a > b))
    |.geq=>some (true,.bool (a≥b))
    |_=>none
   else none
 |.str a,.str b=>
  match op with
  |.add=>some (decide (a.length+b.length≤9223372036854775807),.str (a++b))
  |.eql=>some (true,.bool (a == b))
  |.neq=>some (true,.bool (!(a == b)))
  |.lss=>some (true,.bool (aaq a b))
  |.leq=>some (true,.bool (aaq a b || a == b))
  |.gtr=>some (true,.bool (!(aaq a b || a == b)))
  |.geq=>some (true,.bool (!(aaq a b)))
  |_=>none
 |_,_=>none
end Go.Am
namespace Go.Am
open Go
def St.kill (s:St) (d:Nat):St:=⟨.kill d :: s.ab,s.boxes,s.G,s.marks,s.ro,s.n⟩
def AV.ba:AV→Bool
 |.bW _=>false
 |_=>true
def St.fL (s:St) (o:GO):St:=⟨s.ab,s.boxes,s.G++[o],s.marks,s.ro,s.n⟩
def St.bM (s:St) (G:List GO):St:=⟨s.ab,s.boxes,G,s.marks,s.ro,s.n⟩
def St.AZ (s:St) (d:Nat) (cs:List AV):St:=⟨s.ab,(d,cs) :: s.boxes,s.G,s.marks,s.ro,s.n⟩
def iU (E:Env) (f:FuncId) (s:St) (dst:Option Tmp) (el:TypeId) (cs:List AV):Option (Bool × St):=
 match dst with
 |none=>none
 |some d=>
  if E.E0 f d then some (true,(s.fL (.row cs el)).put (some d) (.v (.ptr s.G.length 0)))
  else match aaN d s.n with
   |true=>some (true,((s.kill d).AZ d cs).put (some d) (.lp d 0))
   |false=>none
def rk (E:Env) (ab:bz):List Operand→Option (List AV)
 |[]=>some []
 |x :: l=>match bO E ab x,rk E ab l with
  |.v a,some r=>some (a :: r)
  |_,_=>none
def UG (E:Env) (ab:bz):List (Nat × Operand)→Option (List (Nat × AV))
 |[]=>some []
 |(i,x) :: l=>match bO E ab x,UG E ab l with
  |.v a,some r=>some ((i,a) :: r)
  |_,_=>none
def placeOf:TK→Nat→Option (Nat × Nat)
 |.st fs,j=>match nth fs j with
  |some (o,sz,_)=>some (o,sz)
  |none=>none
 |.arr _ esz _,j=>some (j * esz,esz)
 |_,_=>none
def A0 (place:Nat→Option (Nat × Nat)) (cells:List AV):List (Nat × AV)→Option (List AV)
 |[]=>some cells
 |(i,v) :: rest=>match place i with
  |none=>none
  |some (off,sz)=>
   if v.ba&&aaa v.cells.length sz&&aag (off+sz) cells.length then A0 place (eC cells off v.cells) rest else none
def Ix (esz:Nat) (es:List AV):List (Nat × AV)→Option (List AV)
 |[]=>some es
 |(i,v) :: rest=>
  if v.ba&&aaa v.cells.length esz&&aag (i+1) es.length&&v.closed then Ix esz (aC es i v) rest else none
def sI (E:Env) (s:St) (t:TypeId) (parts:List (Nat × Operand)):Option AV:=
 match E.ti t,UG E s.ab parts with
 |some i,some ps=>match i.zero with
  |some z=>match A0 (placeOf i.k) z.cells ps with
   |some cs=>if i.agg&&z.ba then some (.agg cs) else none
   |none=>none
  |none=>none
 |_,_=>none
def Fx:List (Nat × AV)→List (Nat × AV)
 |[]=>[]
 |(i,v) :: l=>(i,v.jB) :: Fx l
def cV (E:Env) (s:St) (t:TypeId) (len:Nat) (parts:List (Nat × Operand)):Option AV:=
 match E.ti t,UG E s.ab parts with
 |some i,some ps=>match i.k with
  |.sl _ esz _ _ (some z)=>
    if aaa z.cells.length esz&&aag 1 esz&&aag (len * esz) 16777216&&z.ba&&z.closed then
     match Ix esz (aah len z) (Fx ps) with
     |some es=>some (.list .full esz es)
     |none=>none
    else none
  |_=>none
 |_,_=>none
def xM (E:Env) (s:St) (t:TypeId) (p:SV):Option AV:=
 match E.ti t,sH s p with
 |some i,some (cs,off)=>match Nw off i.size cs with
  |some l=>xL i.agg l
  |none=>none
 |_,_=>none
def kj (E:Env) (s:St) (t:TypeId) (p x:SV):Option St:=
 match E.ti t,x with
 |some i,.v v=>
  if v.ba&&aaa v.cells.length i.size then
   match p with
   |.lp k off=>match fh s.boxes k with
    |some cs=>if aag (off+v.cells.length) cs.length then some (s.AZ k (eC cs off v.cells)) else none
    |none=>none
   |.v (.ptr id off)=>match nth s.G id with
    |some (.row cs el)=>if aag (off+v.cells.length) cs.length then some (s.bM (aC s.G id (.row (eC cs off v.cells) el))) else none
    |_=>none
   |_=>none
  else none
 |_,_=>none
def af (es:List AV) (n:Nat):AV:=match nth es n with
 |some e=>e
 |none=>jE
def mM:List GO→Nat→TypeId→Nat→Option Nat
 |[],_,_,_=>none
 |.aY _ sz e :: G,bP,e',i=>match mM G bP e' (i+1) with
  |some j=>some j
  |none=>bif aaa sz bP&&aaa e e' then some i else none
 |_ :: G,bP,e',i=>mM G bP e' (i+1)
def xN:List GO→Nat→TypeId→Nat→Option Nat
 |[],_,_,_=>none
 |.iP _ sz e :: G,bP,e',i=>match xN G bP e' (i+1) with
  |some j=>some j
  |none=>bif aaa sz bP&&aaa e e' then some i else none
 |_ :: G,bP,e',i=>xN G bP e' (i+1)
def aM.lst (p:aM) (sz:Nat) (_:TypeId):aM:=.list sz p
def aM.fin (G:List GO):aM→aM
 |.aY e sz p=>match xN G sz e 0 with
  |some id=>.gH id sz
  |none=>match mM G sz e 0 with
   |some id=>.aY id sz p
   |none=>p.lst sz e
 |.agg ps=>.agg (aeh ps)
 |p=>p
where
 aeh:aR→aR
  |.nil=>.nil
  |.cons p ps=>.cons (match p with
   |.aY e sz q=>match mM G sz e 0 with
    |some id=>.aY id sz q
    |none=>.aY e sz q
   |p=>p) (aeh ps)
def Ra (E:Env) (G:List GO) (t:TypeId):Option aM:=match E.elg t with
 |some p=>some (p.fin G)
 |none=>E.U1 t
def Cx (E:Env) (s:St) (id f i sz:Nat) (t:TypeId):Option (Bool × AV):=match nth s.G id with
 |some (.da es bP _)=>match Ra E s.G t with
  |some p=>if aaa sz bP then some (decide (f=es.length)&&decide (i < es.length)&&p.fits (af es i),p.enc (p.bC (af es i))) else none
  |none=>if aaa sz bP then some (decide (f=es.length)&&decide (i < es.length),af es i) else none
 |_=>none
def rowOf (rows:List (List AV)) (j:Nat):List AV:=match nth rows j with
 |some r=>r
 |none=>[]
def Cy (E:Env) (s:St) (id j f i sz:Nat) (t:TypeId):Option (Bool × AV):=match nth s.G id with
 |some (.iP rows bP _)=>match Ra E s.G t with
  |some p=>if aaa sz bP then some (decide (f=(rowOf rows j).length)&&decide (i < (rowOf rows j).length)&&p.fits (af (rowOf rows j) i),p.enc (p.bC (af (rowOf rows j) i))) else none
  |none=>if aaa sz bP then some (decide (f=(rowOf rows j).length)&&decide (i < (rowOf rows j).length),af (rowOf rows j) i) else none
 |_=>none
def Fy (E:Env) (s:St) (t:TypeId) (p:SV):Option (Bool × AV):=match p with
 |.v (.gp id f i off sz ty)=>match E.ti t,Cx E s id f i sz ty with
  |some ti,some (c,v)=>match Nw off ti.size v.cells with
   |some l=>match xL ti.agg l with
    |some r=>some (c,r)
    |none=>none
   |none=>none
  |_,_=>none
 |.v (.rp id j f i off sz ty)=>match E.ti t,Cy E s id j f i sz ty with
  |some ti,some (c,v)=>match Nw off ti.size v.cells with
   |some l=>match xL ti.agg l with
    |some r=>some (c,r)
    |none=>none
   |none=>none
  |_,_=>none
 |p=>match xM E s t p with
  |some v=>some (true,v)
  |none=>none
def iz (E:Env) (s:St) (t:TypeId) (p x:SV):Option (Bool × St):=match p with
 |.v (.gp id f i off sz ty)=>match E.ti t,x,nth s.G id with
  |some ti,.v x,some (.da es bP el)=>
   if x.ba&&aaa x.cells.length ti.size&&aaa sz bP then
    if aaa off 0&&aaa ti.size sz then some (decide (f=es.length)&&decide (i < es.length),s.bM (aC s.G id (.da (aC es i x) bP el)))
    else match Cx E s id f i sz ty with
     |some (c,.agg cs)=>if aag (off+ti.size) cs.length&&aaa cs.length sz then some (c,s.bM (aC s.G id (.da (aC es i (.agg (eC cs off x.cells))) bP el))) else none
     |_=>none
   else none
  |_,_,_=>none
 |.v (.rp id j f i off sz ty)=>match E.ti t,x,nth s.G id with
  |some ti,.v x,some (.iP rows bP el)=>
   if x.ba&&aaa x.cells.length ti.size&&aaa sz bP then
    if aaa off 0&&aaa ti.size sz then some (decide (f=(rowOf rows j).length)&&decide (i < (rowOf rows j).length)&&x.closed,s.bM (aC s.G id (.iP (aC rows j (aC (rowOf rows j) i x)) bP el)))
    else match Cy E s id j f i sz ty with
     |some (c,.agg cs)=>if aag (off+ti.size) cs.length&&aaa cs.length sz then some (c&&(AV.agg (eC cs off x.cells)).closed,s.bM (aC s.G id (.iP (aC rows j (aC (rowOf rows j) i (.agg (eC cs off x.cells)))) bP el))) else none
     |_=>none
   else none
  |_,_,_=>none
 |p=>match kj E s t p x with
  |some s'=>some (true,s')
  |none=>none
def wR (s:St) (p x:SV):Bool × SV × List GO:=match p,x with
 |.v (.gp _ _ _ 0 1 _),.v (.ey id f 0 sz len)=>match nth s.G id with
  |some (.da es bP _)=>(decide (f=es.length)&&decide (len=es.length)&&aaa sz bP&&aZ es,.v (.list .iu sz es),aC s.G id .dead)
  |_=>(true,x,s.G)
 |_,_=>(true,x,s.G)
def nS (E:Env) (s:St) (t:TypeId) (p x:SV):Option (Bool × St):=match iz E (s.bM (wR s p x).2.2) t p (wR s p x).2.1 with
 |some (c,s')=>some ((wR s p x).1&&c,s')
 |none=>none
def oQ (E:Env) (t:TypeId) (x ix:SV):Option (Bool × SV):=
 match E.ti t,ix with
 |some i,.v (.int _ n)=>match i.k,x with
  |.sl _ esz _ _ _,.v (.list _ sz es)=>if aaa sz esz || es.isEmpty then
    match E.U1 t with
    |some p=>some (decide (0≤n∧n < es.length)&&p.fits (af es n.toNat),.v (.ep (p.enc (p.bC (af es n.toNat))).cells))
    |none=>some (decide (0≤n∧n < es.length),.v (.ep (af es n.toNat).cells))
   else none
  |.sl _ esz _ _ _,.v (.ob id off sz len _)=>if aaa sz esz then some (decide (0≤n∧n < len),.v (.ptr id (off+n.toNat * sz))) else none
  |.sl _ esz _ _ _,.v (.ey id f off sz len)=>if aaa sz esz then some (decide (0≤n∧n < len),.v (.gp id f (off+n.toNat) 0 sz t)) else none
  |.sl _ esz _ _ _,.v (.gH id j sz len)=>if aaa sz esz then some (decide (0≤n∧n < len),.v (.rp id j len n.toNat 0 sz t)) else none
  |.arr len esz _,.v (.ep cs)=>match E.U1 t with
   |some p=>if aaa esz 1&&aag len cs.length then some (decide (0≤n∧n < len)&&p.fits (af cs n.toNat),.v (.ep [p.enc (p.bC (af cs n.toNat))])) else none
   |none=>some (decide (0≤n∧n < len),.v (.ep (iQ (n.toNat * esz) cs)))
  |.arr len esz _,p=>match Fw (n.toNat * esz) p with
   |some q=>some (decide (0≤n∧n < len),q)
   |none=>none
  |_,_=>none
 |_,_=>none
def oR (E:Env) (t:TypeId) (x:SV) (j:Nat):Option SV:=
 match E.ti t with
 |some i=>match i.k with
  |.st fs=>match nth fs j with
   |some (o,sz,_)=>if aag 1 sz then Fw o x else none
   |none=>none
  |_=>none
 |none=>none
def K6 (E:Env) (t:TypeId) (x:SV) (j:Nat):Option AV:=
 match E.ti t,x with
 |some i,.v (.agg cs)=>match i.k with
  |.st fs=>match nth fs j with
   |some (o,sz,ag)=>if ag then (match Nw o sz cs with | some l=>xL true l | none=>none) else (match Nw o 1 cs with | some l=>xL false l | none=>none)
   |none=>none
  |_=>none
 |_,_=>none
def K7 (E:Env) (t:TypeId) (x ix:SV):Option (Bool × AV):=
 match E.ti t,x,ix with
 |some i,.v (.str l),.v (.int _ n)=>match i.k with
  |.str=>some (decide (0≤n∧n < l.length),.int .u8 (l.getD n.toNat 0).toNat)
  |_=>none
 |some i,.v (.agg cs),.v (.int _ n)=>match i.k with
  |.arr len esz ag=>match (if ag then (match Nw (n.toNat * esz) esz cs with | some l=>xL true l | none=>none) else (match Nw (n.toNat * esz) 1 cs with | some l=>xL false l | none=>none)) with
   |some v=>some (decide (0≤n∧n < len),v)
   |none=>none
  |_=>none
 |_,_,_=>none
def Cz (y:Nat):SV→Option (Bool × Nat)
 |.v (.int _ n)=>some (decide (0≤n∧n≤y),n.toNat)
 |_=>none
def qH {α:Type} (lo hi:Nat) (l:List α):List α:=(l.take hi).drop lo
def pZ (E:Env) (ab:bz):Option Operand→Option (Option SV)
 |none=>some none
 |some x=>some (some (bO E ab x))
def GX (len:Nat) (lo hi:Option SV):Option (Bool × Nat × Nat):=
 match (match hi with | none=>some (true,len) | some h=>Cz len h) with
 |none=>none
 |some (c1,h)=>match (match lo with | none=>some (true,0) | some l=>Cz h l) with
  |none=>none
  |some (c2,l)=>some (c1&&c2,l,h)
def mkD (agg:Bool) (l:List AV):AV:=match agg with
 |true=>.agg l
 |false=>gr l
def kJ (agg:Bool) (sz:Nat):Nat→List AV→List AV
 |0,_=>[]
 |n+1,cs=>mkD agg (cs.take sz) :: kJ agg sz n (cs.drop sz)
def K8 (ag:Bool) (e:AV):Bool:=e.ba&&(ag || e.one)&&e.closed
def GY (E:Env) (t:TypeId) (x:SV) (lo hi:Option SV) (mx:Option Operand):Option (Bool × AV):=
 match E.ti t,mx with
 |some i,none=>match i.k,x with
  |.str,.v (.str l)=>match GX l.length lo hi with
   |some (c,a,b)=>some (c,.str (qH a b l))
   |none=>none
  |.sl _ esz _ _ _,.v (.list k sz es)=>
   if aaa sz esz || es.isEmpty then
    match GX es.length lo hi with
    |some (c,a,b)=>some (c,.list (match k with | .nil=>.nil | .full=>(match hi with | none=>.full | some _=>.iu) | _=>.iu) esz (qH a b es))
    |none=>none
   else none
  |.sl _ esz _ _ _,.v (.ob id off sz len cap)=>
   if aaa sz esz then
    match GX len lo hi with
    |some (c,a,b)=>some (c,.ob id (bif aaa cap a then off else off+a * sz) sz (b - a) (cap - a))
    |none=>none
   else none
  |.sl _ esz _ _ _,.v (.ey id f off sz len)=>
   if aaa sz esz then
    match GX len lo hi with
    |some (c,a,b)=>some (c,.ey id f (off+a) sz (b - a))
    |none=>none
   else none
  |.arr len esz ag,.v (.ep cs)=>match lo,hi with
   |none,none=>if aag (len * esz) cs.length&&aag 1 esz&&(ag || aaa esz 1)&&allFit (K8 ag) (kJ ag esz len cs) then some (true,.list .full esz (kJ ag esz len cs)) else none
   |_,_=>none
  |_,_=>none
 |_,_=>none
def Rb (G:List GO) (id n:Nat) (f sz:Nat) (e:TypeId):List GO:=aC G id (.tok (f+n) sz e)
def CA (fs:List Nat) (j n:Nat):List Nat:=bif aaa j fs.length then fs++[n] else aC fs j n
def K9 (fs:List Nat) (j n:Nat):Bool:=decide (nth fs j=some n) || (aaa j fs.length&&aaa n 0)
def gD (G:List GO) (elem esz bG:Nat) (x:AV) (ys:List AV):Option (Bool × AV × List GO):=
 match x,ys with
 |.list k sz es,[]=>match k with
  |.nil=>some (true,.list .nil sz es,G)
  |k=>some (true,.list k sz es,G)
 |.list k sz es,y :: ys=>
  match k with
  |.nil=>some (decide ((es.length+(y :: ys).length) * bG≤140737488355328),.list (.own G.length) esz (es++(y :: ys)),G++[.tok (es.length+(y :: ys).length) esz elem])
  |.full=>if aaa sz esz then some (decide ((es.length+(y :: ys).length) * bG≤140737488355328),.list (.own G.length) esz (es++(y :: ys)),G++[.tok (es.length+(y :: ys).length) esz elem]) else none
  |.own id=>match nth G id with
   |some (.tok f bP e')=>if aaa bP esz&&aaa e' elem&&aaa sz esz then
     some (decide (f=es.length)&&decide ((es.length+(y :: ys).length) * bG≤140737488355328),.list (.own id) esz (es++(y :: ys)),Rb G id (y :: ys).length f esz elem) else none
   |_=>none
  |.aY id j=>match nth G id with
   |some (.aY fs bP e')=>if aaa bP esz&&aaa e' elem&&aaa sz esz then
     some (K9 fs j es.length&&decide ((es.length+(y :: ys).length) * bG≤140737488355328),.list (.aY id j) esz (es++(y :: ys)),aC G id (.aY (CA fs j (es.length+(y :: ys).length)) esz elem)) else none
   |_=>none
  |.iu=>none
 |.ey id f off sz len,[]=>some (true,.ey id f off sz len,G)
 |.ey id f off sz len,y :: ys=>match nth G id with
  |some (.da es bP e')=>if aaa bP esz&&aaa e' elem&&aaa sz esz then
    some (decide (f=es.length)&&decide (off=0)&&decide (len=f)&&decide ((es.length+(y :: ys).length) * bG≤140737488355328),.ey id (es.length+(y :: ys).length) 0 esz (es.length+(y :: ys).length),aC G id (.da (es++(y :: ys)) esz elem)) else none
  |_=>none
 |.gH id j sz len,[]=>some (true,.gH id j sz len,G)
 |.gH id j sz len,y :: ys=>match nth G id with
  |some (.iP rows bP e')=>if aaa bP esz&&aaa e' elem&&aaa sz esz then
    some (decide (j < rows.length)&&decide (len=(rowOf rows j).length)&&decide (((rowOf rows j).length+(y :: ys).length) * bG≤140737488355328),.gH id j esz (len+(y :: ys).length),aC G id (.iP (aC rows j (rowOf rows j++(y :: ys))) esz elem)) else none
  |_=>none
 |_,_=>none
def Iy (b:UInt8):AV:=.int .u8 b.toNat
def Pb:AV→List AV→Option AV
 |x,[]=>some x
 |.int k x,.int k' y :: l=>if k=k' then Pb (.int k (if y > x then y else x)) l else none
 |_,_=>none
def La:AV→List AV→Option AV
 |x,[]=>some x
 |.int k x,.int k' y :: l=>if k=k' then La (.int k (if y < x then y else x)) l else none
 |.str x,.str y :: l=>La (.str (bif aaq x y || x == y then x else y)) l
 |_,_=>none
def aE:List AV→List AV
 |[]=>[]
 |e :: es=>e.cells++aE es
def Iz (s:St) (esz:Nat) (d x:AV):Option (Nat × List GO):=none
def dG (E:Env) (s:St) (dst:Option Tmp) (b:Builtin) (args:List AV) (tys:List TypeId):Option (Bool × St):=
 match b,args with
 |.len,[x]=>match tys with
  |t :: _=>match E.ti t with
   |some i=>match i.k,x with
    |.str,.str l=>some (true,s.put dst (.v (.int .i64 l.length)))
    |.sl ..,.list _ _ es=>some (true,s.put dst (.v (.int .i64 es.length)))
    |.sl ..,.ob _ _ _ len _=>some (true,s.put dst (.v (.int .i64 len)))
    |.sl ..,.ey _ _ _ _ len=>some (true,s.put dst (.v (.int .i64 len)))
    |.sl ..,.gH _ _ _ len=>some (true,s.put dst (.v (.int .i64 len)))
    |.arr n _ _,_=>some (true,s.put dst (.v (.int .i64 n)))
    |.map ..,.nQ=>some (true,s.put dst (.v (.int .i64 0)))
    |.map ..,.map id=>match nth s.G id with
     |some (.map es)=>some (true,s.put dst (.v (.int .i64 es.length)))
     |_=>none
    |_,_=>none
   |none=>none
  |_=>none
 |.append,[x,.list _ sz ys]=>match tys with
  |[t,u]=>match E.ti t with
   |some i=>match i.k with
    |.sl elem esz _ bG (some z)=>
     if (aaa sz esz || ys.isEmpty)&&aaa t u&&aag 1 esz&&aag 1 bG&&aaa z.cells.length esz&&z.ba then
      match gD s.G elem esz bG x ys with
      |some (c,v,G')=>some (c,(s.bM G').put dst (.v v))
      |none=>none
     else none
    |_=>none
   |none=>none
  |_=>none
 |.append,[x,.str bs]=>match tys with
  |[t,u]=>match E.ti t,E.ti u with
   |some i,some j=>match i.k,j.k with
    |.sl elem esz _ bG (some z),.str=>
     if aaa esz 1&&aag 1 bG&&aaa z.cells.length esz&&z.ba then
      match gD s.G elem esz bG x (bs.map Iy) with
      |some (c,v,G')=>some (c,(s.bM G').put dst (.v v))
      |none=>none
     else none
    |_,_=>none
   |_,_=>none
  |_=>none
 |.append,[.ey id f off sz len,.ob rid 0 1 1 _]=>match nth s.G rid,tys with
  |some (.row [.gH y1 y2 y3 y4] _),[t,u]=>match E.ti t with
   |some i=>match i.k with
    |.sl elem esz _ bG (some z)=>
     if aaa esz 1&&aaa t u&&aag 1 bG&&aaa z.cells.length esz&&z.ba then
      match gD s.G elem esz bG (.ey id f off sz len) [.gH y1 y2 y3 y4] with
      |some (c,v,G')=>some (c,(s.bM G').put dst (.v v))
      |none=>none
     else none
    |_=>none
   |none=>none
  |_,_=>none
 |.append,[x,.ey id f 0 sz len]=>match nth s.G id,tys with
  |some (.da ys bP _),[t,u]=>match E.ti t with
   |some i=>match i.k with
    |.sl elem esz _ bG (some z)=>
     if aaa sz bP&&aaa sz esz&&aaa f ys.length&&aaa len ys.length&&aZ ys&&aaa t u&&aag 1 esz&&aag 1 bG&&aaa z.cells.length esz&&z.ba then
      match gD s.G elem esz bG x ys with
      |some (c,v,G')=>some (c,(s.bM G').put dst (.v v))
      |none=>none
     else none
    |_=>none
   |none=>none
  |_,_=>none
 |.copy,[d,x]=>match tys with
  |t :: _=>match E.ti t with
   |some i=>match i.k with
    |.sl _ esz _ _ _=>match Iz s esz d x with
     |some (n,G')=>some (true,(s.bM G').put dst (.v (.int .i64 n)))
     |none=>none
    |_=>none
   |none=>none
  |_=>none
 |.clear,[x]=>match dst,tys,x with
  |none,[t],.ey id f off sz len=>match E.ti t,nth s.G id with
   |some i,some (.da es bP el)=>match i.k with
    |.sl elem esz _ _ (some z)=>if aaa sz esz&&aaa bP sz&&aaa el elem&&aaa z.cells.length esz&&z.ba&&z.closed then
      some (decide (f=es.length)&&decide (off+len≤es.length),s.bM (aC s.G id (.da (eC es off (aah len z)) bP el))) else none
    |_=>none
   |_,_=>none
  |_,_,_=>none
 |.max,x :: l=>match Pb x l with
  |some v=>some (true,s.put dst (.v v))
  |none=>none
 |.min,x :: l=>match La x l with
  |some v=>some (true,s.put dst (.v v))
  |none=>none
 |_,_=>none
def EK.plain:EK→Bool
 |.bool | .int | .str=>true
 |.st _=>true
 |_=>false
def EK.wide:EK→Bool
 |.st _=>true
 |_=>false
def B2:AV→Bool
 |.bool _=>true
 |.int _ _=>true
 |.str _=>true
 |_=>false
def xO:AV→AV→Bool
 |.bool a,.bool b=>a == b
 |.int k a,.int l b=>decide (k=l)&&a == b
 |.str a,.str b=>a == b
 |_,_=>false
def tZ:List AV→List AV→Bool
 |[],[]=>true
 |a :: l,b :: r=>xO a b&&tZ l r
 |_,_=>false
def sJ:AV→AV→Bool
 |.agg xs,.agg ys=>tZ xs ys
 |_,_=>false
def KR (e:EK) (a b:AV):Option Bool:=match pY e a b with
 |some true=>bif e.wide&&!sJ a b then none else some true
 |r=>r
def me (e:EK) (k:AV):List (AV × AV)→Option (Option AV)
 |[]=>some none
 |(k',v) :: l=>match KR e k k' with
  |some true=>some (some v)
  |some false=>me e k l
  |none=>none
def zS (e:EK) (k v:AV):List (AV × AV)→Option (List (AV × AV))
 |[]=>some [(k,v)]
 |(k',v') :: l=>match KR e k k' with
  |some true=>some ((k,v) :: l)
  |some false=>match zS e k v l with
   |some r=>some ((k',v') :: r)
   |none=>none
  |none=>none
def lG:EK→AV→Bool
 |.bool,.bool _=>true
 |.int,.int _ _=>true
 |.str,.str _=>true
 |.st fs,.agg cs=>cs.all B2&&(zQ fs cs cs).isSome
 |_,_=>false
def mapOf (s:St):SV→Option (List (AV × AV))
 |.v .nQ=>some []
 |.v (.map id)=>match nth s.G id with
  |some (.map es)=>some es
  |_=>none
 |_=>none
def oS (G:List GO) (id:Nat):List Nat:=match nth G id with
 |some (.aY fs _ _)=>fs
 |_=>[]
def IA (E:Env) (G:List GO) (t:TypeId) (z:AV):AV:=match E.elg t,z with
 |some (.aY e sz _),.list .nil _ []=>match mM G sz e 0 with
  |some id=>.list (.aY id (oS G id).length) sz []
  |none=>z
 |_,_=>z
def mU (E:Env) (s:St) (t:TypeId) (m k:SV):Option (AV × Bool):=match E.ti t,mapOf s m,k with
 |some i,some es,.v k=>match i.k with
  |.map kt _ (some z)=>match E.ti kt with
   |some j=>if j.ek.plain&&lG j.ek k then match me j.ek k es with
     |some (some v)=>some (v,true)
     |some none=>some (z,false)
     |none=>none
    else none
   |none=>none
  |_=>none
 |_,_,_=>none
def qh (E:Env) (s:St) (t:TypeId) (m k:SV):Option (AV × Bool):=match mU E s t m k with
 |some (v,false)=>some (IA E s.G t v,false)
 |r=>r
def iV (E:Env) (s:St) (t:TypeId) (m k x:SV):Option St:=match E.ti t,m,k,x with
 |some i,.v (.map id),.v k,.v x=>match i.k,nth s.G id with
  |.map kt _ _,some (.map es)=>match E.ti kt with
   |some j=>if j.ek.plain&&lG j.ek k then match zS j.ek k x es with
     |some es'=>some (s.bM (aC s.G id (.map es')))
     |none=>none
    else none
   |none=>none
  |_,_=>none
 |_,_,_,_=>none
def dE (l:List UInt8) (pos:Nat):Nat × Nat:=
 bif aaN (l.getD pos 0).toNat 128 then ((l.getD pos 0).toNat,1) else Utf8.decode ⟨⟨l⟩⟩ pos
def qi (s:St) (dst:Option Tmp) (x:SV):Option St:=match x with
 |.v (.ptr id 0)=>match nth s.G id with
  |some (.ke l pos)=>bif aaN pos l.length then
    match dE l pos with
    |(c,n)=>some ((s.bM (aC s.G id (.ke l (pos+n)))).put dst (.v (.bW [.bool true,.int .i64 pos,.int .i32 c])))
   else some (s.put dst (.v (.bW [.bool false])))
  |_=>none
 |_=>none
def cP (es:List (AV × AV)) (i:Nat):AV × AV:=match nth es i with
 |some e=>e
 |none=>(jE,jE)
def ZL (E:Env) (kt:TypeId):Option aM:=match E.U1 kt with
 |some p=>some p
 |none=>match E.ti kt with
  |some i=>match i.k with
   |.int k=>some (.int k)
   |.str=>some .str
   |_=>none
  |none=>none
def xP (E:Env) (t:TypeId) (e:AV × AV):Bool × AV × AV:=match E.ti t with
 |some i=>match i.k with
  |.map kt _ _=>match E.U1 t,ZL E kt with
   |some pv,some pk=>(pk.fits e.1&&pv.fits e.2,pk.enc (pk.bC e.1),pv.enc (pv.bC e.2))
   |_,_=>(true,e.1,e.2)
  |_=>(true,e.1,e.2)
 |none=>(true,e.1,e.2)
def Fz (E:Env) (s:St) (dst:Option Tmp) (x:SV):Option (Bool × St × List Nat × (Nat→Bool × St)):=match x with
 |.v (.ptr id 0)=>match nth s.G id with
  |some (.lD jR n left _ t)=>match nth s.G jR with
   |some (.map es)=>some (decide (es.length=n),s.put dst (.v (.bW [.bool false])),left,
     fun i=>((xP E t (cP es i)).1,(s.bM (aC s.G id (.lD jR n (left.erase i) (some i) t))).put dst (.v (.bW [.bool true,(xP E t (cP es i)).2.1,(xP E t (cP es i)).2.2]))))
   |_=>none
  |_=>none
 |_=>none
def zT (E:Env) (s:St) (o:Oper):Option (Bool × St × List Nat × (Nat→Bool × St)):=match o.op with
 |.next x false=>Fz E s o.dst (bO E s.ab x)
 |_=>none
def U2:AV→Option Bool
 |.list .nil _ _=>some true
 |.list .full _ _=>some false
 |.list _ _ (_ :: _)=>some false
 |.ob _ _ _ _ _=>some false
 |.ey _ _ _ _ (_+1)=>some false
 |.ra=>some true
 |.ptr _ _=>some false
 |.ep _=>some false
 |_=>none
def Lb:AV→Option Bool
 |.list .nil _ []=>some true
 |.ra=>some false
 |_=>none
def ZM (P:Program) (t:TypeId):Bool:=match P.underlying t with
 |some (.slice _)=>true
 |_=>false
def ZN (P:Program) (t:TypeId):Bool:=match P.underlying t with
 |some (.pointer _)=>true
 |_=>false
def slA:AV→Bool
 |.list _ _ _=>true
 |.ob _ _ _ _ _=>true
 |.ey _ _ _ _ _=>true
 |_=>false
def A1 (P:Program) (t:TypeId) (a b:AV):Bool:=match Lb b with
 |some true=>slA a&&ZM P t
 |some false=>!slA a&&ZN P t
 |none=>false
def ZO (E:Env) (op:BinOp) (t:TypeId) (a b:AV):Option Bool:=match op,U2 a with
 |.eql,some r=>bif A1 E.P t a b then some r else none
 |.neq,some r=>bif A1 E.P t a b then some (!r) else none
 |_,_=>none
def eqO (E:Env) (op:BinOp) (t:TypeId) (a b:AV):Option Bool:=match op,E.ti t with
 |.eql,some i=>pY i.ek a b
 |.neq,some i=>match pY i.ek a b with
  |some r=>some (!r)
  |none=>none
 |_,_=>none
def og (E:Env) (s:St) (t:TypeId) (len:Nat) (parts:List (Nat × Operand)):Option (List AV):=
 match E.ti t,UG E s.ab parts with
 |some i,some ps=>match i.k with
  |.sl _ esz _ _ (some z)=>
    if aaa z.cells.length esz&&aag 1 esz&&aag (len * esz) 16777216&&z.ba then
     A0 (fun i=>some (i * esz,esz)) (aE (aah len z)) (Fx ps)
    else none
  |_=>none
 |_,_=>none
def mV (E:Env) (f:FuncId) (s:St) (o:Oper):Option St:=match o.op with
 |.buildSlice t len parts=>match o.dst with
  |some d=>if E.E0 f d then match E.ti t with
    |some i=>match i.k,cV E s t len parts.toList with
     |.sl elem _ _ _ _,some (.list _ esz es)=>some ((s.fL (.row (aE es) elem)).put (some d) (.v (.ob s.G.length 0 esz len len)))
     |.sl elem esz _ _ _,none=>match og E s t len parts.toList with
      |some cs=>some ((s.fL (.row cs elem)).put (some d) (.v (.ob s.G.length 0 esz len len)))
      |none=>none
     |_,_=>none
    |none=>none
   else if E.E0 f (d+196608) then match E.ti t with
    |some i=>match i.k,cV E s t len parts.toList with
     |.sl elem _ _ _ _,some (.list _ esz es)=>if aag len 65536 then some ((s.fL (.da es esz elem)).put (some d) (.v (.ey s.G.length len 0 esz len))) else none
     |_,_=>none
    |none=>none
   else if E.E0 f (d+65536) then match E.ti t with
    |some i=>match i.k,cV E s t len parts.toList with
     |.sl elem _ _ _ _,some (.list _ esz es)=>if aag len 65536 then some ((s.fL (.tok len esz elem)).put (some d) (.v (.list (.own s.G.length) esz es))) else none
     |_,_=>none
    |none=>none
   else none
  |none=>none
 |_=>none
def FC (wk:Bool) (es:List AV):List AV:=match wk with
 |true=>es.map AV.jB
 |false=>es
def rq (wk:Bool):List AV→List GO→Bool × List AV × List GO
 |[],G=>(true,[],G)
 |.ey id f 0 sz len :: l,G=>match nth G id with
  |some (.da es bP _)=>match rq wk l (aC G id .dead) with
   |(c,r,G')=>(decide (f=es.length)&&decide (len=es.length)&&aaa sz bP&&aZ (FC wk es)&&c,.list .iu sz (FC wk es) :: r,G')
  |_=>match rq wk l G with
   |(_,r,G')=>(false,r,G')
 |a :: l,G=>match rq wk l G with
  |(c,r,G')=>(c,a :: r,G')
def sL (cut wk:Bool) (s:St) (t:Tmp):Option (Bool × St):=match lk s.ab t with
 |.v (.ey id f off sz len)=>match nth s.G id with
  |some (.da es bP _)=>if aaa off 0&&aaa sz bP then
    some (decide (f=es.length)&&(bif cut then decide (len≤es.length) else decide (len=es.length))&&aZ (FC wk es),⟨.put t (.v (.list .iu sz (FC wk (bif cut then es.take len else es)))) :: s.ab,s.boxes,aC s.G id .dead,s.marks,s.ro,s.n⟩) else none
  |_=>none
 |.v (.ptr id 0)=>match nth s.G id with
  |some (.row cs _)=>some (aZ cs,⟨.put t (.v (.ep cs)) :: s.ab,s.boxes,aC s.G id .dead,s.marks,s.ro,s.n⟩)
  |_=>none
 |.v (.agg cs)=>match rq wk cs s.G with
  |(c,ig,G')=>some (c,⟨.put t (.v (.agg ig)) :: s.ab,s.boxes,G',s.marks,s.ro,s.n⟩)
 |_=>none
def kD (cut wk:Bool):List Operand→St→Bool × St
 |[],s=>(true,s)
 |.tmp t :: l,s=>match sL cut wk s t with
  |some (c,s')=>match kD cut wk l s' with
   |(c',s2)=>(c&&c',s2)
  |none=>kD cut wk l s
 |_ :: l,s=>kD cut wk l s
def Pc (E:Env) (f:FuncId) (s:St) (o:Oper):Option (Bool × St):=match o.dst with
 |some d=>if E.E0 f (d+262144) then some (kD (E.E0 f (d+393216)) (E.E0 f (d+458752)) o.op.operands.toList s) else none
 |none=>none
def ua (E:Env) (s:St) (a b:TypeId) (x:SV):Option (Bool × AV):=none
def E1 (e:EK) (k k':AV):Bool:=match KR e k k' with
 |some b=>b
 |none=>false
def cW (e:EK) (k:AV):List (AV × AV)→Bool
 |[]=>true
 |(k',_) :: l=>(KR e k k').isSome&&cW e k l
def ij (e:EK) (k:AV):List (AV × AV)→Option AV
 |[]=>none
 |(k',v) :: l=>bif E1 e k k' then some v else ij e k l
def eu (e:EK) (k v:AV):List (AV × AV)→List (AV × AV)
 |[]=>[(k,v)]
 |(k',v') :: l=>bif E1 e k k' then (k,v) :: l else (k',v') :: eu e k v l
def bS (e:EK) (k z:AV) (es:List (AV × AV)):AV:=(ij e k es).getD z
def qI (e:EK) (k:AV):List (AV × AV)→Nat
 |[]=>0
 |(k',_) :: l=>bif E1 e k k' then 0 else qI e k l+1
def ub:List (AV × AV)→Nat→AV→List (AV × AV)
 |[],_,_=>[]
 |(k,_) :: l,0,x=>(k,x) :: l
 |e :: l,n+1,x=>e :: ub l n x
def zU (E:Env) (s:St) (x:SV):Option (Bool × AV):=match x with
 |.v (.ptr id 0)=>match nth s.G id with
  |some (.lD jR n _ (some i) t)=>match nth s.G jR with
   |some (.map es)=>some (decide (es.length=n)&&decide (i < n)&&(xP E t (cP es i)).1,.bW [(xP E t (cP es i)).2.1,(xP E t (cP es i)).2.2])
   |_=>none
  |_=>none
 |_=>none
def jU (E:Env) (s:St) (t:TypeId) (m k:SV):Option (Bool × AV × St):=match E.ti t,m,k with
 |some i,.v (.map id),.v k=>match i.k,nth s.G id with
  |.map kt _ (some z),some (.map es)=>match E.ti kt with
   |some j=>if j.ek.plain&&lG j.ek k then
     some (cW j.ek k es,.bW [bS j.ek k z es,.int .i64 (qI j.ek k es:Nat)],s.bM (aC s.G id (.map (eu j.ek k (bS j.ek k z es) es)))) else none
   |none=>none
  |_,_=>none
 |_,_,_=>none
def gU (s:St) (m st x:SV):Option (Bool × St):=match m,st,x with
 |.v (.map id),.v (.int .i64 n),.v v=>match nth s.G id with
  |some (.map es)=>some (decide (0≤n)&&decide (n.toNat < es.length),s.bM (aC s.G id (.map (ub es n.toNat v))))
  |_=>none
 |_,_,_=>none
def kR (E:Env) (f:FuncId) (s:St) (o:Oper):Option (Bool × St):=none
def wS (E:Env) (f:FuncId) (s:St) (o:Oper):Option (Bool × St):=match o.dst with
 |some d=>if E.E0 f (d+524288) then match o.op with
   |.lookup t m k ok=>match E.elg t,E.ti t,bO E s.ab m,bO E s.ab k with
    |some (.aY e sz p),some i,.v (.map id),.v k=>match i.k,nth s.G id with
     |.map kt _ (some (.list .nil _ [])),some (.map es)=>match E.ti kt,mM s.G sz e 0 with
      |some j,some p9=>if j.ek.plain&&lG j.ek k then
        some (cW j.ek k es&&(aM.aY p9 sz p).fits (bS j.ek k (.list (.aY p9 (oS s.G p9).length) sz []) es),
         (s.bM (aC s.G p9 (.aY (oS s.G p9++[0]) sz e))).put o.dst (.v (if ok then .bW [(aM.aY p9 sz p).enc ((aM.aY p9 sz p).bC (bS j.ek k (.list (.aY p9 (oS s.G p9).length) sz []) es)),.bool (ij j.ek k es).isSome]
          else (aM.aY p9 sz p).enc ((aM.aY p9 sz p).bC (bS j.ek k (.list (.aY p9 (oS s.G p9).length) sz []) es)))))
       else none
      |_,_=>none
     |_,_=>none
    |_,_,_,_=>none
   |_=>none
  else none
 |none=>none
def Lc (E:Env) (f:FuncId) (s:St) (o:Oper):Option (Bool × St):=match o.op,o.dst with
 |.slice t x (some lo) none none,some d=>if E.E0 f (d+524288) then match E.ti t,bO E s.ab x,bO E s.ab lo with
   |some i,.v (.list (.own id) sz es),.v (.int _ n)=>match i.k,nth s.G id with
    |.sl _ esz _ _ _,some (.tok f0 bP e)=>
     if aaa sz esz&&aaa bP sz then
      some (decide (f0=es.length)&&(decide (0 < es.length)&&decide (0≤n∧n≤es.length)),(s.bM (aC s.G id .dead++[.tok (es.length - n.toNat) sz e])).put (some d) (.v (.list (.own s.G.length) sz (es.drop n.toNat))))
     else none
    |_,_=>none
   |_,_,_=>none
  else none
 |_,_=>none
def A2 (E:Env) (f:FuncId) (s:St) (o:Oper):Option (Bool × St):=match Lc E f s o with
 |some r=>some r
 |none=>wS E f s o
def ah8 (E:Env) (f:FuncId) (d:Option Tmp):Bool:=match d with
 |some d=>E.E0 f (d+196608)
 |none=>false
def vt:List GO→Nat→TypeId→Nat→Option Nat
 |[],_,_,_=>none
 |.da es sz e :: G,bP,e',i=>match vt G bP e' (i+1) with
  |some j=>some j
  |none=>bif aaa sz bP&&aaa e e' then (match es with
   |[]=>some i
   |_=>none) else none
 |_ :: G,bP,e',i=>vt G bP e' (i+1)
def ah9 (E:Env) (f:FuncId) (d:Option Tmp):Bool:=match d with
 |some d=>E.E0 f (d+589824)
 |none=>false
def sM (s:St) (dst:Option Tmp) (elem esz bG:Nat) (z:AV) (n m:Int):Option (Bool × St):=match vt s.G esz elem 0 with
 |some id=>if z.closed then some (decide (1≤n∧n≤m∧m≤140737488355328∧m * bG≤140737488355328),(s.bM (aC s.G id (.da (aah n.toNat z) esz elem))).put dst (.v (.ey id n.toNat 0 esz n.toNat))) else none
 |none=>none
def aq (E:Env) (f:FuncId) (s:St) (o:Oper):Option (Bool × St):=
 match o.op with
 |.move x=>match bO E s.ab x with
  |.v a=>some (true,s.put o.dst (.v a))
  |.lp k off=>some (true,s.put o.dst (.lp k off))
  |.none=>some (true,s.put o.dst .none)
 |.assign x=>match bO E s.ab x with
  |.v a=>some (true,s.put o.dst (.v a))
  |.lp k off=>some (true,s.put o.dst (.lp k off))
  |.none=>some (true,s.put o.dst .none)
 |.pick c a b=>match bO E s.ab c,bO E s.ab a,bO E s.ab b with
  |.v (.bool t),.v x,.v y=>some (true,s.put o.dst (.v (GW t x y)))
  |_,_,_=>none
 |.alloc e=>match E.ti e with
  |some i=>match i.zero with
   |some z=>if z.ba then iU E f s o.dst e z.cells else none
   |none=>none
  |none=>none
 |.box t x=>match bO E s.ab x with
  |.v v=>if v.ba then iU E f s o.dst t v.cells else none
  |_=>none
 |.build t parts=>match sI E s t parts.toList with
  |some v=>some (true,s.put o.dst (.v v))
  |none=>none
 |.buildSlice t len parts=>match cV E s t len parts.toList with
  |some v=>some (true,s.put o.dst (.v v))
  |none=>none
 |.load t a=>match Fy E s t (bO E s.ab a) with
  |some (c,v)=>some (c,s.put o.dst (.v v))
  |none=>none
 |.store t a x=>match o.dst,nS E s t (bO E s.ab a) (bO E s.ab x) with
  |none,some (c,s')=>some (c,s')
  |_,_=>none
 |.binOp op t x y _=>match bO E s.ab x,bO E s.ab y with
  |.v a,.v b=>match Iw op a b with
   |some (c,v)=>some (c,s.put o.dst (.v v))
   |none=>match eqO E op t a b with
    |some r=>some (true,s.put o.dst (.v (.bool r)))
    |none=>match ZO E op t a b with
     |some r=>some (true,s.put o.dst (.v (.bool r)))
     |none=>none
  |_,_=>none
 |.unOp op _ x=>match op,bO E s.ab x with
  |.not,.v (.bool b)=>some (true,s.put o.dst (.v (.bool (!b))))
  |.neg,.v (.int k n)=>some (true,s.put o.dst (.v (.int k (k.wrap (0 - n)))))
  |_,_=>none
 |.convert a b x=>match ua E s a b (bO E s.ab x) with
  |some (c,v)=>some (c,s.put o.dst (.v v))
  |none=>none
 |.nilCheck x=>match bO E s.ab x with
  |.v (.ptr id off)=>some (true,s.put o.dst (.v (.ptr id off)))
  |.v (.ep cs)=>some (true,s.put o.dst (.v (.ep cs)))
  |.lp k off=>some (true,s.put o.dst (.lp k off))
  |_=>none
 |.makeFunc (.func g) first captured=>match rk E s.ab first.toList,rk E s.ab captured.toList with
  |some x,some y=>some (true,s.put o.dst (.v (.fn g x y)))
  |_,_=>none
 |.fieldAddr t x j=>match oR E t (bO E s.ab x) j with
  |some p=>some (true,s.put o.dst p)
  |none=>none
 |.field t x j=>match K6 E t (bO E s.ab x) j with
  |some v=>some (true,s.put o.dst (.v v))
  |none=>none
 |.indexAddr t x ix=>match oQ E t (bO E s.ab x) (bO E s.ab ix) with
  |some (c,p)=>some (c,s.put o.dst p)
  |none=>none
 |.index t x ix=>match K7 E t (bO E s.ab x) (bO E s.ab ix) with
  |some (c,v)=>some (c,s.put o.dst (.v v))
  |none=>none
 |.slice t x lo hi mx=>match pZ E s.ab lo,pZ E s.ab hi with
  |some l,some h=>match GY E t (bO E s.ab x) l h mx with
   |some (c,v)=>some (c,s.put o.dst (.v v))
   |none=>none
  |_,_=>none
 |.extract x i=>match bO E s.ab x with
  |.v (.bW vs)=>match nth vs i with
   |some v=>some (true,s.put o.dst (.v v))
   |none=>none
  |_=>none
 |.makeSlice t l c=>match E.ti t,bO E s.ab l,bO E s.ab c with
  |some i,.v (.int _ n),.v (.int _ m)=>match i.k with
   |.sl elem esz _ bG (some z)=>
    if aaa z.cells.length esz&&aag 1 esz&&z.ba then
     if ah9 E f o.dst then sM s o.dst elem esz bG z n m
     else if ah8 E f o.dst then (if z.closed then some (decide (0≤n∧n≤m∧m≤140737488355328∧m * bG≤140737488355328),
      (s.fL (.da (aah n.toNat z) esz elem)).put o.dst (.v (.ey s.G.length n.toNat 0 esz n.toNat))) else none)
     else some (decide (0≤n∧n≤m∧m≤140737488355328∧m * bG≤140737488355328),
      (s.fL (.row (aE (aah m.toNat z)) elem)).put o.dst (.v (.ob s.G.length 0 esz n.toNat m.toNat)))
    else none
   |_=>none
  |_,_,_=>none
 |.lookup t m k ok=>match qh E s t (bO E s.ab m) (bO E s.ab k) with
  |some (v,b)=>some (true,s.put o.dst (.v (if ok then .bW [v,.bool b] else v)))
  |none=>none
 |.mapUpdate t m k x=>match o.dst,iV E s t (bO E s.ab m) (bO E s.ab k) (bO E s.ab x) with
  |none,some s'=>some (true,s')
  |_,_=>none
 |.insert t m k x=>match o.dst,iV E s t (bO E s.ab m) (bO E s.ab k) (bO E s.ab x) with
  |none,some s'=>some (true,s')
  |_,_=>none
 |.entry x=>match zU E s (bO E s.ab x) with
  |some (c,v)=>some (c,s.put o.dst (.v v))
  |none=>none
 |.mapEntry t m k=>match jU E s t (bO E s.ab m) (bO E s.ab k) with
  |some (c,v,s')=>some (c,s'.put o.dst (.v v))
  |none=>none
 |.entryStore _ m st x=>match o.dst,gU s (bO E s.ab m) (bO E s.ab st) (bO E s.ab x) with
  |none,some (c,s')=>some (c,s')
  |_,_=>none
 |.range t x=>match E.ti t,bO E s.ab x with
  |some i,.v (.str l)=>match i.k with
   |.str=>some (true,(s.fL (.ke l 0)).put o.dst (.v (.ptr s.G.length 0)))
   |_=>none
  |some i,.v (.map id)=>match i.k,nth s.G id with
   |.map _ _ _,some (.map es)=>some (true,(s.fL (.lD id es.length (List.range es.length) none t)).put o.dst (.v (.ptr s.G.length 0)))
   |_,_=>none
  |_,_=>none
 |.next x true=>match qi s o.dst (bO E s.ab x) with
  |some s'=>some (true,s')
  |none=>none
 |.makeMap _ none=>some (true,(s.fL (.map [])).put o.dst (.v (.map s.G.length)))
 |.call { callee:=.builtin b,args,argTypes }=>match kR E f s o with
  |some r=>some r
  |none=>match rk E s.ab args.toList with
   |some l=>dG E s o.dst b l argTypes.toList
   |none=>none
 |_=>none
end Go.Am
namespace Go.Am
open Go
inductive TR where
 |bj
 |full (f:Nat)
 |tok (f b c:Nat)
inductive RO where
 |none
 |bj
 |bZ (b:Nat)
 |tok (f b c k:Nat)
 |aY (ts:List TR)
def RO.has:RO→Nat→Prop
 |.none,_=>False
 |.bj,_=>False
 |.bZ b,x=>x=b
 |.tok _ b _ _,x=>x=b
 |.aY ts,x=>∃ j f c,nth ts j=some (.tok f x c)
def jF (sz:Nat) (es:List AV):Prop:=∀ e∈es,e.cells.length=sz∧e.ba=true∧e.closed=true
def ga (sz:Nat) (es:List AV):Prop:=∀ e∈es,e.cells.length=sz∧e.ba=true
theorem jF.g {sz:Nat} {es:List AV} (h:jF sz es):ga sz es:=fun e he=>⟨(h e he).1,(h e he).2.1⟩
structure aj where
 I:Nat→Nat→Prop
 obj:List RO
def Rc (b o len cap:Nat):RO→Prop
 |.none=>True
 |.bj=>False
 |.bZ _=>False
 |.tok f b' c' k'=>len≤f∧(len=f→b=b'∧(o=k'∨cap=0)∧cap=c')
 |.aY _=>False
def Ld (b o len cap:Nat):TR→Prop
 |.bj=>False
 |.full f=>len≤f∧(len=f→cap=len)
 |.tok f b' c'=>len≤f∧(len=f→b=b'∧(o=0∨cap=0)∧cap=c')
def IB (b o len cap j:Nat):RO→Prop
 |.none=>True
 |.bj=>False
 |.bZ _=>False
 |.tok _ _ _ _=>False
 |.aY ts=>∃ t,nth ts j=some t∧Ld b o len cap t
def U3 (b o f i off sz:Nat):TR→Prop
 |.bj=>False
 |.full f'=>f≤f'
 |.tok f' b' _=>f≤f'∧(f=f'→b=b'∧o=i * sz+off)
def Rd (b o j f i off sz:Nat):RO→Prop
 |.none=>True
 |.bj=>False
 |.bZ _=>False
 |.tok _ _ _ _=>False
 |.aY ts=>∃ t,nth ts j=some t∧U3 b o f i off sz t
def wT:RO→Prop
 |.none=>True
 |.bj=>False
 |.bZ _=>False
 |.tok _ _ _ _=>False
 |.aY _=>True
def sN:RO→Prop
 |.none=>True
 |.bj=>True
 |.bZ _=>False
 |.tok f _ _ _=>1≤f
 |.aY _=>False
def Pd (b o f off sz cap:Nat):RO→Prop
 |.none=>True
 |.bj=>False
 |.bZ _=>False
 |.tok f' b' c' _=>f≤f'∧(f=f'→b=b'∧off+cap=c'∧(o=off * sz∨cap=0))
 |.aY _=>False
def Re (b o f i off sz:Nat):RO→Prop
 |.none=>True
 |.bj=>False
 |.bZ _=>False
 |.tok f' b' _ _=>f≤f'∧(f=f'→b=b'∧o=i * sz+off)
 |.aY _=>False
def GZ (R:aj) (k:LK) (b o len cap:Nat):Prop:=match k with
 |.nil=>False
 |.full=>cap=len
 |.iu=>True
 |.own id=>∃ ro,nth R.obj id=some ro∧Rc b o len cap ro
 |.aY id j=>∃ ro,nth R.obj id=some ro∧IB b o len cap j ro
mutual
inductive Rel (R:aj) (w:World):AV→Value→Prop
 |bool (b:Bool):Rel R w (.bool b) (.bool b)
 |int (k:IntKind) (n:Int):Rel R w (.int k n) (.int k n)
 |str (l:List UInt8):Rel R w (.str l) (.string ⟨⟨l⟩⟩)
 |agg {cs:List AV} {vs:List Value} (h:aQ R w cs vs) (h1:∀ v∈vs,v.oneCell'=true):Rel R w (.agg cs) (.agg ⟨vs⟩)
 |bW {cs:List AV} {vs:List Value} (h:aQ R w cs vs):Rel R w (.bW cs) (.tuple ⟨vs⟩)
 |ra:Rel R w .ra (.pointer none)
 |ptr {id off b:Nat} (h:nth R.obj id=some (.bZ b)):Rel R w (.ptr id off) (.pointer (some ⟨b,off,none⟩))
 |ep {cs:List AV} {b o:Nat} (h:ik R w b o cs):Rel R w (.ep cs) (.pointer (some ⟨b,o,none⟩))
 |lY {sz:Nat}:Rel R w (.list .nil sz []) (.slice none 0 0)
 |lZ {sz:Nat}:Rel R w (.list .iu sz []) (.slice none 0 0)
 |rv {sz:Nat} {a:Addr}:Rel R w (.list .iu sz []) (.slice (some a) 0 0)
 |qJ {id sz:Nat} {ro:RO} (h:nth R.obj id=some ro) (ho:sN ro):Rel R w (.list (.own id) sz []) (.slice none 0 0)
 |qa {id j sz:Nat} {ro:RO} (h:nth R.obj id=some ro) (ho:wT ro):Rel R w (.list (.aY id j) sz []) (.slice none 0 0)
 |list {k:LK} {sz:Nat} {es:List AV} {b o len cap:Nat} (h:kn R w b o sz es) (hl:len=es.length) (hc:len≤cap) (hk:GZ R k b o len cap):Rel R w (.list k sz es) (.slice (some ⟨b,o,none⟩) len cap)
 |ob {id off sz len cap b:Nat} (h:nth R.obj id=some (.bZ b)) (hc:len≤cap):Rel R w (.ob id off sz len cap) (.slice (some ⟨b,off,none⟩) len cap)
 |mh {id sz:Nat} {ro:RO} (h:nth R.obj id=some ro) (ho:sN ro):Rel R w (.ey id 0 0 sz 0) (.slice none 0 0)
 |ey {id f off sz len cap b o:Nat} {ro:RO} (h:nth R.obj id=some ro) (ho:Pd b o f off sz cap ro) (hc:len≤cap):Rel R w (.ey id f off sz len) (.slice (some ⟨b,o,none⟩) len cap)
 |gp {id f i off sz b o:Nat} {t:TypeId} {ro:RO} (h:nth R.obj id=some ro) (ho:Re b o f i off sz ro):Rel R w (.gp id f i off sz t) (.pointer (some ⟨b,o,none⟩))
 |xQ {id j sz:Nat} {ro:RO} (h:nth R.obj id=some ro) (ho:wT ro):Rel R w (.gH id j sz 0) (.slice none 0 0)
 |gH {id j sz len cap b o:Nat} {ro:RO} (h:nth R.obj id=some ro) (ho:IB b o len cap j ro) (hc:len≤cap):Rel R w (.gH id j sz len) (.slice (some ⟨b,o,none⟩) len cap)
 |rp {id j f i off sz b o:Nat} {t:TypeId} {ro:RO} (h:nth R.obj id=some ro) (ho:Rd b o j f i off sz ro):Rel R w (.rp id j f i off sz t) (.pointer (some ⟨b,o,none⟩))
 |nQ:Rel R w .nQ (.map none)
 |map {id b:Nat} (h:nth R.obj id=some (.bZ b)):Rel R w (.map id) (.map (some b))
 |gq:Rel R w .gq .nilFunc
 |fn {f:FuncId} {xs ys:List AV} {vs us:List Value} (h:aQ R w xs vs) (h':aQ R w ys us):Rel R w (.fn f xs ys) (.func (.func f) ⟨vs⟩ ⟨us⟩)
 |yield {id b:Nat} (h:nth R.obj id=some (.bZ b)):Rel R w (.yield id) (.func (.yield b) #[] #[])
 |vY:Rel R w .vY .nilIface
 |iface {t:TypeId} {v:AV} {c:Value} (h:Rel R w v c):Rel R w (.iface t v) (.iface t c)
inductive aQ (R:aj) (w:World):List AV→List Value→Prop
 |nil:aQ R w [] []
 |cons {a:AV} {c:Value} {l:List AV} {cs:List Value} (h:Rel R w a c) (t:aQ R w l cs):aQ R w (a :: l) (c :: cs)
inductive kn (R:aj) (w:World):Nat→Nat→Nat→List AV→Prop
 |nil {b o sz:Nat}:kn R w b o sz []
 |cons {b o sz:Nat} {e:AV} {es:List AV} (hl:e.cells.length=sz) (ht:e.ba=true) (hk:e.closed=true) (h:ik R w b o e.cells) (t:kn R w b (o+sz) sz es):kn R w b o sz (e :: es)
inductive ik (R:aj) (w:World):Nat→Nat→List AV→Prop
 |nil {b o:Nat}:ik R w b o []
 |cons {b o:Nat} {a:AV} {c:Value} {l:List AV} (hc:w.cell? ⟨b,o,none⟩=some c) (h1:c.oneCell'=true) (hi:R.I b o) (h:Rel R w a c) (t:ik R w b (o+1) l):ik R w b o (a :: l)
end
def jV:TR→TR→Prop
 |.bj,.bj=>True
 |.bj,.full _=>False
 |.bj,.tok f _ _=>1≤f
 |.full _,.bj=>False
 |.full f,.full f'=>f'=f
 |.full f,.tok f' _ _=>f < f'
 |.tok _ _ _,.bj=>False
 |.tok _ _ _,.full _=>False
 |.tok f b c,.tok f' b' c'=>f≤f'∧(f'=f→b'=b∧c'=c)
theorem jV.refl (t:TR):jV t t:=by cases t <;> simp [jV]
theorem jV.trans {a b c:TR} (h:jV a b) (k:jV b c):jV a c:=by
 cases a <;> cases b <;> cases c <;> simp only [jV] at * <;> omega
def xR (ts Yl:List TR):Prop:=∀ j t,nth ts j=some t→∃ t',nth Yl j=some t'∧jV t t'
theorem xR.refl (ts:List TR):xR ts ts:=fun _ t h=>⟨t,h,jV.refl t⟩
theorem xR.trans {a b c:List TR} (h:xR a b) (k:xR b c):xR a c:=fun j t hj=>
 let ⟨_,h1,h2⟩:=h j t hj
 let ⟨t2,k1,k2⟩:=k j _ h1
 ⟨t2,k1,h2.trans k2⟩
def cQ:RO→RO→Prop
 |.none,r=>r=.none
 |.bZ b,r=>r=.bZ b
 |.bj,.none=>True
 |.bj,.bj=>True
 |.bj,.bZ _=>False
 |.bj,.tok f _ _ _=>1≤f
 |.tok _ _ _ _,.none=>True
 |.tok _ _ _ _,.bj=>False
 |.tok _ _ _ _,.bZ _=>False
 |.tok f b c k,.tok f' b' c' k'=>f≤f'∧(f'=f→b'=b∧c'=c∧k'=k)
 |.bj,.aY _=>False
 |.tok _ _ _ _,.aY _=>False
 |.aY _,.none=>True
 |.aY _,.bj=>False
 |.aY _,.bZ _=>False
 |.aY _,.tok _ _ _ _=>False
 |.aY ts,.aY Yl=>xR ts Yl
theorem cQ.refl (r:RO):cQ r r:=by cases r <;> simp [cQ,xR.refl]
theorem cQ.trans {a b c:RO} (h:cQ a b) (k:cQ b c):cQ a c:=by
 cases a with
 |none=>simp only [cQ] at h; subst h; exact k
 |bZ x=>simp only [cQ] at h; subst h; exact k
 |bj=>
  cases b with
  |none=>simp only [cQ] at k; subst k; trivial
  |bj=>exact k
  |bZ z=>exact h.elim
  |tok f' x' y' z'=>
   cases c with
   |none=>trivial
   |bj=>exact k.elim
   |bZ z=>exact k.elim
   |aY _=>exact k.elim
   |tok f'' x'' y'' z''=>simp only [cQ] at *; omega
  |aY _=>exact h.elim
 |tok f x y z0=>
  cases b with
  |none=>simp only [cQ] at k; subst k; trivial
  |bj=>exact h.elim
  |bZ z=>exact h.elim
  |tok f' x' y' z'=>
   cases c with
   |none=>trivial
   |bj=>exact k.elim
   |bZ z=>exact k.elim
   |tok f'' x'' y'' z''=>
    simp only [cQ] at *;refine ⟨Nat.le_trans h.1 k.1,fun e=>?_⟩;obtain ⟨h1,h2⟩:=h; obtain ⟨k1,k2⟩:=k;have e1:f'=f:=by omega
    have e2:f''=f':=by omega
    exact ⟨(k2 e2).1.trans (h2 e1).1,(k2 e2).2.1.trans (h2 e1).2.1,(k2 e2).2.2.trans (h2 e1).2.2⟩
   |aY _=>exact k.elim
  |aY _=>exact h.elim
 |aY ts=>
  cases b with
  |none=>simp only [cQ] at k; subst k; trivial
  |bj=>exact h.elim
  |bZ z=>exact h.elim
  |tok f' x' y' z'=>exact h.elim
  |aY Yl=>
   cases c with
   |none=>trivial
   |bj=>exact k.elim
   |bZ z=>exact k.elim
   |tok f' x' y' z'=>exact k.elim
   |aY ts''=>exact xR.trans h k
def uc (r r':Loop):Prop:=r'.tmps=r.tmps∧r'.params=r.params∧r'.assign=r.assign∧r'.body=r.body∧r'.defers=r.defers
def ju (w w':World):Prop:=∀ (b:Nat) (r:Loop),w.heap[b]?=some (Obj.loop r)→∃ r',w'.heap[b]?=some (Obj.loop r')∧uc r r'
theorem ju.refl (w:World):ju w w:=fun _ r h=>⟨r,h,rfl,rfl,rfl,rfl,rfl⟩
theorem ju.trans {w w1 w2:World} (h:ju w w1) (k:ju w1 w2):ju w w2:=fun b r hb=>
 let ⟨_,h1,h2,h3,h4,h5,h6⟩:=h b r hb
 let ⟨r2,k1,k2,k3,k4,k5,k6⟩:=k b _ h1
 ⟨r2,k1,k2.trans h2,k3.trans h3,k4.trans h4,k5.trans h5,k6.trans h6⟩
theorem ju.old {w w':World} (h:∀ b,b < w.heap.size→w'.heap[b]?=w.heap[b]?):ju w w':=fun b r hb=>
 ⟨r,(h b (by
  rcases Nat.lt_or_ge b w.heap.size with cE|E6
  ·exact cE
  ·rw [Array.getElem?_eq_none E6] at hb; cases hb)).trans hb,rfl,rfl,rfl,rfl,rfl⟩
structure Ext (R:aj) (w:World) (R':aj) (w':World):Prop where
 I:∀ b o,R.I b o→R'.I b o
 cell:∀ b o,R.I b o→w'.cell? ⟨b,o,none⟩=w.cell? ⟨b,o,none⟩
 obj:∀ id ro,nth R.obj id=some ro→∃ nT,nth R'.obj id=some nT∧cQ ro nT
 lp:ju w w'
theorem Ext.refl (R:aj) (w:World):Ext R w R w:=⟨fun _ _ h=>h,fun _ _ _=>rfl,fun _ ro h=>⟨ro,h,cQ.refl ro⟩,ju.refl w⟩
theorem Ext.trans {R R' Rf:aj} {w w' U4:World} (h:Ext R w R' w') (k:Ext R' w' Rf U4):Ext R w Rf U4:=
 ⟨fun b o hi=>k.I b o (h.I b o hi),fun b o hi=>(k.cell b o (h.I b o hi)).trans (h.cell b o hi),fun id ro hr=>
  let ⟨_,h1,h2⟩:=h.obj id ro hr
  let ⟨r2,h3,h4⟩:=k.obj id _ h1
  ⟨r2,h3,h2.trans h4⟩,h.lp.trans k.lp⟩
theorem Ext.bZ {R R':aj} {w w':World} (h:Ext R w R' w') {id b:Nat} (hb:nth R.obj id=some (.bZ b)):nth R'.obj id=some (.bZ b):=by
 obtain ⟨r,h1,h2⟩:=h.obj id _ hb;simp only [cQ] at h2;subst h2;exact h1
theorem GZ.mono {R R':aj} {w w':World} (e:Ext R w R' w') {k:LK} {b o len cap:Nat} (h:GZ R k b o len cap):GZ R' k b o len cap:=by
 cases k with
 |nil=>exact h
 |full=>exact h
 |iu=>trivial
 |own id=>
  obtain ⟨ro,h1,h2⟩:=h;obtain ⟨nT,h3,h4⟩:=e.obj id ro h1;refine ⟨nT,h3,?_⟩;cases ro with
  |none=>simp only [cQ] at h4; subst h4; trivial
  |bj=>exact h2.elim
  |bZ x=>exact h2.elim
  |tok f x y z0=>
   cases nT with
   |none=>trivial
   |bj=>exact h4.elim
   |bZ z=>exact h4.elim
   |tok f' x' y' z'=>
    simp only [cQ,Rc] at *;refine ⟨by omega,fun e=>?_⟩;have e1:f'=f:=by omega
    have h5:=h2.2 (by omega);have h6:=h4.2 e1;exact ⟨h5.1.trans h6.1.symm,h5.2.1.imp (fun q=>q.trans h6.2.2.symm) (fun q=>q),h5.2.2.trans h6.2.1.symm⟩
   |aY _=>exact h4.elim
  |aY _=>exact h2.elim
 |aY id j=>
  obtain ⟨ro,h1,h2⟩:=h;obtain ⟨nT,h3,h4⟩:=e.obj id ro h1;refine ⟨nT,h3,?_⟩;cases ro with
  |none=>simp only [cQ] at h4; subst h4; trivial
  |bj=>exact h2.elim
  |bZ x=>exact h2.elim
  |tok _ _ _ _=>exact h2.elim
  |aY ts=>
   cases nT with
   |none=>trivial
   |bj=>exact h4.elim
   |bZ z=>exact h4.elim
   |tok _ _ _ _=>exact h4.elim
   |aY Yl=>
    obtain ⟨t,k1,k2⟩:=h2;obtain ⟨t',k3,k4⟩:=h4 j t k1;refine ⟨t',k3,?_⟩;cases t with
    |bj=>exact k2.elim
    |full f=>
     cases t' with
     |bj=>exact k4.elim
     |full f'=>simp only [jV,Ld] at *; subst k4; exact k2
     |tok f' x' y'=>simp only [jV,Ld] at *; exact ⟨by omega,fun e=>by omega⟩
    |tok f x y=>
     cases t' with
     |bj=>exact k4.elim
     |full f'=>exact k4.elim
     |tok f' x' y'=>
      simp only [jV,Ld] at *;refine ⟨by omega,fun e=>?_⟩;have e1:f'=f:=by omega
      have h5:=k2.2 (by omega);have h6:=k4.2 e1;exact ⟨h5.1.trans h6.1.symm,h5.2.1,h5.2.2.trans h6.2.symm⟩
theorem sN.mono {ro nT:RO} (h:sN ro) (e:cQ ro nT):sN nT:=by
 cases ro with
 |none=>simp only [cQ] at e; subst e; trivial
 |bj=>cases nT <;> first | trivial | exact e.elim | exact e
 |bZ _=>exact h.elim
 |tok f x y z0=>
  cases nT with
  |none=>trivial
  |bj=>exact e.elim
  |bZ z=>exact e.elim
  |tok f' x' y' z'=>simp only [cQ,sN] at *; omega
  |aY _=>exact e.elim
 |aY _=>exact h.elim
theorem wT.mono {ro nT:RO} (h:wT ro) (e:cQ ro nT):wT nT:=by
 cases ro with
 |none=>simp only [cQ] at e; subst e; trivial
 |bj=>exact h.elim
 |bZ _=>exact h.elim
 |tok _ _ _ _=>exact h.elim
 |aY ts=>
  cases nT with
  |none=>trivial
  |bj=>exact e.elim
  |bZ z=>exact e.elim
  |tok _ _ _ _=>exact e.elim
  |aY Yl=>trivial
theorem Pd.mono {b o f off sz cap:Nat} {ro nT:RO} (h:Pd b o f off sz cap ro) (e:cQ ro nT):Pd b o f off sz cap nT:=by
 cases ro with
 |none=>simp only [cQ] at e; subst e; trivial
 |bj=>exact h.elim
 |bZ _=>exact h.elim
 |tok f1 x y z0=>
  cases nT with
  |none=>trivial
  |bj=>exact e.elim
  |bZ z=>exact e.elim
  |tok f' x' y' z'=>
   simp only [cQ,Pd] at *;refine ⟨by omega,fun k=>?_⟩;obtain ⟨e1,e2,_⟩:=e.2 (by omega);obtain ⟨h1,h2,h3⟩:=h.2 (by omega);exact ⟨h1.trans e1.symm,h2.trans e2.symm,h3⟩
  |aY _=>exact e.elim
 |aY _=>exact h.elim
theorem Re.mono {b o f i off sz:Nat} {ro nT:RO} (h:Re b o f i off sz ro) (e:cQ ro nT):Re b o f i off sz nT:=by
 cases ro with
 |none=>simp only [cQ] at e; subst e; trivial
 |bj=>exact h.elim
 |bZ _=>exact h.elim
 |tok f1 x y z0=>
  cases nT with
  |none=>trivial
  |bj=>exact e.elim
  |bZ z=>exact e.elim
  |tok f' x' y' z'=>
   simp only [cQ,Re] at *;refine ⟨by omega,fun k=>?_⟩;obtain ⟨e1,e2,_⟩:=e.2 (by omega);obtain ⟨h1,h2⟩:=h.2 (by omega);exact ⟨h1.trans e1.symm,h2⟩
  |aY _=>exact e.elim
 |aY _=>exact h.elim
theorem IB.mono {b o len cap j:Nat} {ro nT:RO} (h:IB b o len cap j ro) (h4:cQ ro nT):IB b o len cap j nT:=by
 cases ro with
 |none=>simp only [cQ] at h4; subst h4; trivial
 |bj=>exact h.elim
 |bZ x=>exact h.elim
 |tok _ _ _ _=>exact h.elim
 |aY ts=>
  cases nT with
  |none=>trivial
  |bj=>exact h4.elim
  |bZ z=>exact h4.elim
  |tok _ _ _ _=>exact h4.elim
  |aY Yl=>
   obtain ⟨t,k1,k2⟩:=h;obtain ⟨t',k3,k4⟩:=h4 j t k1;refine ⟨t',k3,?_⟩;cases t with
   |bj=>exact k2.elim
   |full f=>
    cases t' with
    |bj=>exact k4.elim
    |full f'=>simp only [jV,Ld] at *; subst k4; exact k2
    |tok f' x' y'=>simp only [jV,Ld] at *; exact ⟨by omega,fun e=>by omega⟩
   |tok f x y=>
    cases t' with
    |bj=>exact k4.elim
    |full f'=>exact k4.elim
    |tok f' x' y'=>
     simp only [jV,Ld] at *;refine ⟨by omega,fun e=>?_⟩;have e1:f'=f:=by omega
     have h5:=k2.2 (by omega);have h6:=k4.2 e1;exact ⟨h5.1.trans h6.1.symm,h5.2.1,h5.2.2.trans h6.2.symm⟩
theorem Rd.mono {b o j f i off sz:Nat} {ro nT:RO} (h:Rd b o j f i off sz ro) (h4:cQ ro nT):Rd b o j f i off sz nT:=by
 cases ro with
 |none=>simp only [cQ] at h4; subst h4; trivial
 |bj=>exact h.elim
 |bZ x=>exact h.elim
 |tok _ _ _ _=>exact h.elim
 |aY ts=>
  cases nT with
  |none=>trivial
  |bj=>exact h4.elim
  |bZ z=>exact h4.elim
  |tok _ _ _ _=>exact h4.elim
  |aY Yl=>
   obtain ⟨t,k1,k2⟩:=h;obtain ⟨t',k3,k4⟩:=h4 j t k1;refine ⟨t',k3,?_⟩;cases t with
   |bj=>exact k2.elim
   |full f1=>
    cases t' with
    |bj=>exact k4.elim
    |full f'=>simp only [jV,U3] at *; omega
    |tok f' x' y'=>simp only [jV,U3] at *; exact ⟨by omega,fun e=>by omega⟩
   |tok f1 x y=>
    cases t' with
    |bj=>exact k4.elim
    |full f'=>exact k4.elim
    |tok f' x' y'=>
     simp only [jV,U3] at *;refine ⟨by omega,fun e=>?_⟩;have h5:=k2.2 (by omega);have h6:=k4.2 (by omega);exact ⟨h5.1.trans h6.1.symm,h5.2⟩
mutual
theorem Rel.mono {R R':aj} {w w':World} (e:Ext R w R' w'):∀ {a:AV} {c:Value},Rel R w a c→Rel R' w' a c
 |_,_,.bool b=>.bool b
 |_,_,.int k n=>.int k n
 |_,_,.str l=>.str l
 |_,_,.agg h h1=>.agg (h.mono e) h1
 |_,_,.bW h=>.bW (h.mono e)
 |_,_,.ra=>.ra
 |_,_,.ptr h=>.ptr (e.bZ h)
 |_,_,.ep h=>.ep (h.mono e)
 |_,_,.lY=>.lY
 |_,_,.lZ=>.lZ
 |_,_,.rv=>.rv
 |_,_,.qJ h ho=>let ⟨_,h3,h4⟩:=e.obj _ _ h; .qJ h3 (ho.mono h4)
 |_,_,.qa h ho=>let ⟨_,h3,h4⟩:=e.obj _ _ h; .qa h3 (ho.mono h4)
 |_,_,.list h hl hc hk=>.list (h.mono e) hl hc (hk.mono e)
 |_,_,.ob h hc=>.ob (e.bZ h) hc
 |_,_,.mh h ho=>let ⟨_,h3,h4⟩:=e.obj _ _ h; .mh h3 (ho.mono h4)
 |_,_,.ey h ho hc=>let ⟨_,h3,h4⟩:=e.obj _ _ h; .ey h3 (ho.mono h4) hc
 |_,_,.gp h ho=>let ⟨_,h3,h4⟩:=e.obj _ _ h; .gp h3 (ho.mono h4)
 |_,_,.xQ h ho=>let ⟨_,h3,h4⟩:=e.obj _ _ h; .xQ h3 (ho.mono h4)
 |_,_,.gH h ho hc=>let ⟨_,h3,h4⟩:=e.obj _ _ h; .gH h3 (ho.mono h4) hc
 |_,_,.rp h ho=>let ⟨_,h3,h4⟩:=e.obj _ _ h; .rp h3 (ho.mono h4)
 |_,_,.nQ=>.nQ
 |_,_,.map h=>.map (e.bZ h)
 |_,_,.gq=>.gq
 |_,_,.fn h h'=>.fn (h.mono e) (h'.mono e)
 |_,_,.yield h=>.yield (e.bZ h)
 |_,_,.vY=>.vY
 |_,_,.iface h=>.iface (h.mono e)
theorem aQ.mono {R R':aj} {w w':World} (e:Ext R w R' w'):∀ {l:List AV} {cs:List Value},aQ R w l cs→aQ R' w' l cs
 |_,_,.nil=>.nil
 |_,_,.cons h t=>.cons (h.mono e) (t.mono e)
theorem kn.mono {R R':aj} {w w':World} (e:Ext R w R' w'):∀ {b o sz:Nat} {l:List AV},kn R w b o sz l→kn R' w' b o sz l
 |_,_,_,_,.nil=>.nil
 |_,_,_,_,.cons hl ht hk h t=>.cons hl ht hk (h.mono e) (t.mono e)
theorem ik.mono {R R':aj} {w w':World} (e:Ext R w R' w'):∀ {b o:Nat} {l:List AV},ik R w b o l→ik R' w' b o l
 |_,_,_,.nil=>.nil
 |_,_,_,.cons hc h1 hi h t=>.cons ((e.cell _ _ hi).trans hc) h1 (e.I _ _ hi) (h.mono e) (t.mono e)
end
end Go.Am
namespace Go.Am
open Go
section lists
variable {α:Type}
theorem aV (l:List α) (n:Nat):nth l n=l[n]?:=by
 induction l generalizing n with
 |nil=>simp [nth]
 |cons a l ih=>cases n <;> simp [nth,ih]
theorem fg (l:List α) (n:Nat) (x:α):aC l n x=l.set n x:=by
 induction l generalizing n with
 |nil=>simp [aC]
 |cons a l ih=>cases n <;> simp [aC,ih]
theorem bl {l:List α} {n:Nat} {x:α} (h:nth l n=some x):n < l.length:=by
 rw [aV] at h;exact (aas.1 h).1
theorem au {l:List α} {n:Nat} {x y:α} (h:nth l n=some y):nth (aC l n x) n=some x:=by
 have:=bl h;rw [aV,fg,aaG this]
theorem aX {l:List α} {n m:Nat} {x:α} (h:n≠m):nth (aC l n x) m=nth l m:=by
 rw [aV,fg,aV,List.getElem?_set_ne h]
theorem cJ {l:List α} {n m:Nat} {x y:α} (h:nth (aC l n x) m=some y):(n=m∧y=x∧m < l.length)∨(n≠m∧nth l m=some y):=by
 by_cases e:n=m
 ·subst e;have hl:=bl h;rw [fg,List.length_set] at hl;rw [aV,fg,aaG hl] at h;exact .inl ⟨rfl,(abu h).symm,hl⟩
 ·rw [aX e] at h;exact .inr ⟨e,h⟩
@[simp] theorem gV (l:List α) (n:Nat) (x:α):(aC l n x).length=l.length:=by rw [fg,List.length_set]
theorem eS (l:List α) (x:α):nth (l++[x]) l.length=some x:=by rw [aV]; simp
theorem cF {l:List α} {n:Nat} {y x:α} (h:nth l n=some y):nth (l++[x]) n=some y:=by
 have:=bl h;rw [aV] at *;rw [aaF this];exact h
theorem ak {l:List α} {n:Nat} {y x:α} (h:nth (l++[x]) n=some y):nth l n=some y∨(n=l.length∧y=x):=by
 rw [aV] at *;by_cases e:n < l.length
 ·rw [aaF e] at h; exact .inl h
 ·rw [List.getElem?_append_right (by omega)] at h;have hl:=(aas.1 h).1;simp at hl;have:n - l.length=0:=by omega
  rw [this] at h;simp at h;exact .inr ⟨by omega,h.symm⟩
theorem xS:∀ {l:List α} {n:Nat} {x:α},nth l n=some x→aC l n x=l
 |[],_,_,h=>by cases h
 |a :: l,0,x,h=>by cases h; rfl
 |a :: l,n+1,x,h=>by
  show a :: aC l n x=a :: l;rw [xS (show nth l n=some x from h)]
end lists
def ZP (R:aj) (w:World) (aej:bz→Array Value→Prop) (busy:Bool) (pending:Option Code) (ab:bz) (n:Nat) (params:List Tmp) (assign body:Code) (defers:Nat) (done:Bool) (b:Nat):Prop:=
 ∃ (r:Loop) (db:Nat),w.heap[b]?=some (.loop r)∧r.state=(if done then .done else if busy then .busy else .ready)∧r.pending=pending ∧
  aej ab r.tmps∧r.tmps.size=n∧r.params=⟨params⟩∧r.assign=assign∧r.body=body∧r.defers=db∧nth R.obj defers=some (.bZ db)
def tR (R:aj) (w:World) (β:Nat→Nat):SV→Value→Prop
 |.none,_=>True
 |.v a,c=>Rel R w a c
 |.lp k off,c=>c=.pointer (some ⟨β k,off,none⟩)
def uf (R:aj) (w:World) (β:Nat→Nat) (ab:bz) (tmps:Array Value):Prop:=
 ∀ i,lk ab i≠.none→∃ c,tmps[i]?=some c∧tR R w β (lk ab i) c
def Ny:bz→Bool
 |[]=>true
 |.put _ (.lp _ _) :: _=>false
 |_ :: l=>Ny l
def fS (R:aj) (w:World):List (AV × AV)→List MapEntry→Prop
 |[],[]=>True
 |(k,v) :: l,e :: es=>Rel R w k e.key∧Rel R w v e.val∧fS R w l es
 |_,_=>False
def FD (R:aj) (w:World) (sz:Nat) (e:TypeId) (f:Nat):TR→Prop
 |.bj=>f=0
 |.full f'=>f'=f
 |.tok f' b c=>f'=f∧∃ cur,w.heap[b]?=some (.cells cur e (0,0))∧f≤c∧c≤maxLen∧cur.size=c * sz∧∀ o,f * sz≤o→¬ R.I b o
def Ym (ts:List TR):Prop:=∀ i j f b c f' c',nth ts i=some (.tok f b c)→nth ts j=some (.tok f' b c')→i=j
def CB (R:aj) (w:World) (sz:Nat) (e:TypeId) (fs:List Nat) (ts:List TR):Prop:=
 ts.length=fs.length∧Ym ts∧∀ j f t,nth fs j=some f→nth ts j=some t→FD R w sz e f t
def FE (R:aj) (w:World) (sz:Nat) (e:TypeId) (row:List AV):TR→Prop
 |.bj=>row=[]
 |.full _=>False
 |.tok f b c=>f=row.length∧jF sz row∧∃ cur vs,w.heap[b]?=some (.cells cur e (0,0))∧f≤c∧c≤maxLen∧cur.size=c * sz∧(∀ o,¬ R.I b o)∧aQ R w (aE row) vs∧(∀ v∈vs,v.oneCell'=true)∧cur.toList.take (f * sz)=vs
def aek (R:aj) (w:World) (sz:Nat) (e:TypeId) (rows:List (List AV)) (ts:List TR):Prop:=
 ts.length=rows.length∧Ym ts∧∀ j row t,nth rows j=some row→nth ts j=some t→FE R w sz e row t
def nU (aL:Array MapEntry) (clock:Nat):Prop:=clock=aL.size∧∀ (i:Nat) (e:MapEntry),aL.toList[i]?=some e→e.born=i
def ael (R:aj) (w:World) (jR n:Nat) (left:List Nat) (cur:Option Nat) (b:Nat):Prop:=
 ∃ bm seen c0,nth R.obj jR=some (.bZ bm)∧w.heap[b]?=some (.mapIter (some bm) n seen c0)∧(∀ i,i < n→(i∈left↔seen.contains i=false))∧(∀ i∈left,i < n)∧left.Nodup∧n≤c0∧∀ i,cur=some i→seen.back?=some i∧c0=n
def jW (R:aj) (w:World):GO→RO→Prop
 |.dead,.none=>True
 |.dead,.bj=>True
 |.dead,.bZ b=>b < w.heap.size
 |.dead,.tok _ b _ _=>b < w.heap.size
 |.dead,.aY ts=>∀ j f b c,nth ts j=some (.tok f b c)→b < w.heap.size
 |.aY fs sz e,.aY ts=>CB R w sz e fs ts
 |.iP rows sz e,.aY ts=>aek R w sz e rows ts
 |.lD jR n left cur _,.bZ b=>ael R w jR n left cur b
 |.tok f _ _,.bj=>f=0
 |.row cs el,.bZ b=>∃ vs,w.heap[b]?=some (.cells ⟨vs⟩ el (0,0))∧aQ R w cs vs∧(∀ v∈vs,v.oneCell'=true)∧∀ o,¬ R.I b o
 |.tok f sz e,.tok f' b c k=>f'=f∧∃ cur,w.heap[b]?=some (.cells cur e (0,0))∧f≤c∧c≤maxLen∧cur.size=k+c * sz∧∀ o,k+f * sz≤o→¬ R.I b o
 |.da es _ _,.bj=>es=[]
 |.da es sz e,.tok f b c k=>k=0∧f=es.length∧ga sz es∧∃ cur vs,w.heap[b]?=some (.cells cur e (0,0))∧f≤c∧c≤maxLen∧cur.size=c * sz∧(∀ o,¬ R.I b o)∧aQ R w (aE es) vs∧(∀ v∈vs,v.oneCell'=true)∧cur.toList.take (f * sz)=vs
 |.map es,.bZ b=>∃ aL clock,w.heap[b]?=some (.map aL clock)∧fS R w es aL.toList∧nU aL clock
 |.ke l pos,.bZ b=>w.heap[b]?=some (.stringIter ⟨⟨l⟩⟩ pos)
 |.loop busy pending _ ab n params assign body defers done,.bZ b=>ZP R w (uf R w (fun _=>0)) busy pending ab n params assign body defers done b∧Ny ab=true
 |.defers o,.bZ b=>w.heap[b]?=some (.deferred (if o then some [] else none))
 |_,_=>False
def qK (E:Env) (R:aj) (w:World) (g:Nat) (cs:List AV):Prop:=
 ik R w g 0 cs∧(E.gx g=true→R.I g cs.length∧w.cell? ⟨g,cs.length,none⟩=none)
theorem qK.mono {E:Env} {R R':aj} {w w':World} {g:Nat} {cs:List AV} (h:qK E R w g cs) (e:Ext R w R' w'):qK E R' w' g cs:=
 ⟨h.1.mono e,fun hx=>⟨e.I _ _ (h.2 hx).1,(e.cell _ _ (h.2 hx).1).trans (h.2 hx).2⟩⟩
structure il (E:Env) (R:aj) (w:World) (G:List GO):Prop where
 len:R.obj.length=G.length
 obj:∀ id go ro,nth G id=some go→nth R.obj id=some ro→jW R w go ro
 inj:∀ i j ri rj b,nth R.obj i=some ri→nth R.obj j=some rj→ri.has b→rj.has b→i=j
 wf:∀ b o,R.I b o→b < w.heap.size
 ft:∀ g cs,E.ft g=some cs→qK E R w g cs
 lo:E.lo≤w.drawn
def Live (R:aj) (b:Nat):Prop:=∃ id ro,nth R.obj id=some ro∧ro.has b
structure U5 (R:aj) (w:World) (β:Nat→Nat) (boxes:dX):Prop where
 box:∀ k cs,fh boxes k=some cs→(∃ vs el,w.heap[β k]?=some (.cells ⟨vs⟩ el (0,0))∧aQ R w cs vs∧(∀ v∈vs,v.oneCell'=true))∧(∀ o,¬ R.I (β k) o)∧¬ Live R (β k)
 inj:∀ k k' cs ig,fh boxes k=some cs→fh boxes k'=some ig→β k=β k'→k=k'
def we (R:aj):List Nat→List Deferred→Prop
 |[],[]=>True
 |id :: l,d :: ds=>(∃ b,nth R.obj id=some (.bZ b)∧d={ target:=.collected b,args:=#[] })∧we R l ds
 |_,_=>False
structure bi (E:Env) (R:aj) (w:World) (β:Nat→Nat) (s:St) (a:Act):Prop where
 g:il E R w s.G
 b:U5 R w β s.boxes
 t:uf R w β s.ab a.tmps
 n:a.tmps.size=s.n
 d:we R s.marks a.defers
def Own (R:aj) (β:Nat→Nat) (boxes:dX) (b:Nat):Prop:=
 Live R b∨∃ k cs,fh boxes k=some cs∧β k=b
structure Step (R:aj) (w:World) (β:Nat→Nat) (bx:dX) (R':aj) (w':World) (β':Nat→Nat) (Nz:dX):Prop where
 ext:Ext R w R' w'
 os:w'.os=w.os
 tape:w'.tape=w.tape
 output:w'.output=w.output
 size:w.heap.size≤w'.heap.size
 bD:∀ b,b < w.heap.size→¬ Own R β bx b→w'.heap[b]?=w.heap[b]?
 own:∀ b,b < w.heap.size→Own R' β' Nz b→Own R β bx b
 im:∀ b o,R'.I b o→b < w.heap.size→¬ Own R β bx b→R.I b o
theorem Step.refl (R:aj) (w:World) (β:Nat→Nat) (bx:dX):Step R w β bx R w β bx:=
 ⟨Ext.refl R w,rfl,rfl,rfl,Nat.le_refl _,fun _ _ _=>rfl,fun _ _ h=>h,fun _ _ h _ _=>h⟩
theorem Step.trans {R R1 R2:aj} {w w1 w2:World} {β β1 β2:Nat→Nat} {x x1 x2:dX}
  (h:Step R w β x R1 w1 β1 x1) (k:Step R1 w1 β1 x1 R2 w2 β2 x2):Step R w β x R2 w2 β2 x2 where
 ext:=h.ext.trans k.ext
 os:=k.os.trans h.os
 tape:=k.tape.trans h.tape
 output:=k.output.trans h.output
 size:=Nat.le_trans h.size k.size
 bD:=fun b hb hn=>(k.bD b (aar hb h.size) (fun ho=>hn (h.own b hb ho))).trans (h.bD b hb hn)
 own:=fun b hb ho=>h.own b hb (k.own b (aar hb h.size) ho)
 im:=fun b o hi hb hn=>h.im b o (k.im b o hi (aar hb h.size) (fun ho=>hn (h.own b hb ho))) hb hn
theorem tR.mono {R R':aj} {w w':World} {β:Nat→Nat} (e:Ext R w R' w') {x:SV} {c:Value} (h:tR R w β x c):tR R' w' β x c:=by
 cases x with
 |none=>trivial
 |v a=>exact Rel.mono e h
 |lp k off=>exact h
theorem xT (n:Nat):aaa n n=true:=Nat.beq_refl n
theorem sO {n m:Nat} (h:n≠m):aaa n m=false:=by
 cases hb:aaa n m with
 |true=>exact absurd (Nat.eq_of_beq_eq_true hb) h
 |false=>rfl
theorem aN (l:bz) (d:Nat) (x:SV):lk (.put d x :: l) d=x:=by simp [lk]
theorem a8 {l:bz} {d t:Nat} {x:SV} (h:d≠t):lk (.put d x :: l) t=lk l t:=by simp [lk,sO h]
theorem NA {l:bz} {d t:Nat}:(lk (.kill d :: l) t=lk l t∧∀ k off,lk l t=.lp k off→k≠d)∨lk (.kill d :: l) t=.none:=by
 simp only [lk];cases h:lk l t with
 |none=>exact .inr rfl
 |v a=>exact .inl ⟨rfl,fun _ _ e=>by cases e⟩
 |lp k off=>
  by_cases hk:k=d
  ·subst hk;exact .inr (by simp)
  ·exact .inl ⟨by simp [sO hk],fun k' ko e=>by cases e; exact hk⟩
theorem Rg (l:dX) (d:Nat) (cs:List AV):fh ((d,cs) :: l) d=some cs:=by simp [fh]
theorem iA {l:dX} {d k:Nat} {cs ig:List AV} (h:fh ((d,cs) :: l) k=some ig):(d=k∧ig=cs)∨(d≠k∧fh l k=some ig):=by
 by_cases e:d=k
 ·subst e;rw [Rg] at h;exact .inl ⟨rfl,(abu h).symm⟩
 ·simp only [fh,sO e,cond_false] at h;exact .inr ⟨e,h⟩
theorem U6 {l:dX} (h:l.all (fun p=>aZ p.2)=true) {k:Nat} {cs:List AV} (hk:fh l k=some cs):aZ cs=true:=by
 induction l with
 |nil=>simp [fh] at hk
 |cons x l ih=>
  obtain ⟨d,c⟩:=x;simp only [List.all_cons,Bool.and_eq_true] at h;rcases iA hk with ⟨_,rfl⟩|⟨_,hk⟩
  ·exact h.1
  ·exact ih h.2 hk
theorem uf.put {R:aj} {w:World} {β:Nat→Nat} {ab:bz} {a:Act} (h:uf R w β ab a.tmps) {d:Tmp} {x:SV} {c:Value} (hd:d < a.tmps.size) (hx:tR R w β x c) :
  uf R w β (.put d x :: ab) (a.put (some d) c).tmps:=by
 intro i hi;by_cases e:d=i
 ·subst e;rw [aN];exact ⟨c,by simp [Act.put,hd],hx⟩
 ·rw [a8 e] at hi ⊢;obtain ⟨c',h1,h2⟩:=h i hi;refine ⟨c',?_,h2⟩;simp only [Act.put];rw [Array.getElem?_setIfInBounds_ne e];exact h1
theorem bi.put {E:Env} {R:aj} {w:World} {β:Nat→Nat} {s:St} {a:Act} (h:bi E R w β s a) (dst:Option Tmp) {x:SV} {c:Value} (hx:tR R w β x c) :
  bi E R w β (s.put dst x) (a.put dst c):=by
 cases dst with
 |none=>exact h
 |some d=>
  simp only [St.put];cases hb:aaN d s.n with
  |true=>
   have hd:d < a.tmps.size:=by rw [h.n]; exact Nat.le_of_ble_eq_true hb
   exact ⟨h.g,h.b,h.t.put hd hx,by simp [Act.put,h.n],h.d⟩
  |false=>
   have hd:¬ d < a.tmps.size:=by
    rw [h.n];intro cE;have:aaN d s.n=true:=Nat.ble_eq_true_of_le cE;rw [this] at hb;cases hb
   have he:a.put (some d) c=a:=by
    simp only [Act.put];rw [Array.setIfInBounds_eq_of_size_le (Nat.not_lt.1 hd)]
   rw [he];exact h
theorem xU {R:aj} {w:World} {v:Value} {a:AV} (h:xH v=some a):Rel R w a v∧v.oneCell'=true:=by
 unfold xH at h;split at h <;> cases h
 ·exact ⟨.bool _,rfl⟩
 ·exact ⟨.int _ _,rfl⟩
 ·rename_i s;exact ⟨.str s.data.toList,rfl⟩
 ·exact ⟨.lY,rfl⟩
 ·exact ⟨.ra,rfl⟩
 ·exact ⟨.nQ,rfl⟩
 ·exact ⟨.gq,rfl⟩
 ·exact ⟨.vY,rfl⟩
theorem sP {R:aj} {w:World}:∀ {vs:List Value} {l:List AV},rb vs=some l→aQ R w l vs∧∀ v∈vs,v.oneCell'=true
 |[],l,h=>by simp [rb] at h; subst h; exact ⟨.nil,by simp⟩
 |v :: vs,l,h=>by
  unfold rb at h;split at h
  ·rename_i a r h1 h2;cases h;obtain ⟨k1,k2⟩:=xU (R:=R) (w:=w) h1;obtain ⟨k3,k4⟩:=sP (R:=R) (w:=w) h2;exact ⟨.cons k1 k3,by simp [k2]; exact k4⟩
  ·cases h
theorem A3 {R:aj} {w:World} {v:Value} {a:AV} (h:xI v=some a):Rel R w a v:=by
 unfold xI at h;split at h
 ·rename_i cs;split at h
  ·rename_i l hl;cases h;obtain ⟨k1,k2⟩:=sP (R:=R) (w:=w) hl;exact .agg (vs:=cs.toList) k1 k2
  ·cases h
 ·rename_i cs;split at h
  ·rename_i l hl;cases h;obtain ⟨k1,_⟩:=sP (R:=R) (w:=w) hl;exact .bW (vs:=cs.toList) k1
  ·cases h
 ·exact (xU h).1
theorem a6 {E:Env} {R:aj} {w:World} {β:Nat→Nat} {s:St} {a:Act} (h:bi E R w β s a) (x:Operand):tR R w β (bO E s.ab x) (a.eval x):=by
 cases x with
 |tmp t=>
  simp only [bO,Act.eval];by_cases hn:lk s.ab t=.none
  ·rw [hn]; trivial
  ·obtain ⟨c,h1,h2⟩:=h.t t hn;have:a.tmps.getD t undef=c:=by simp [Array.getD_eq_getD_getElem?,h1]
   rw [this];exact h2
 |const v=>
  simp only [bO,Act.eval];cases hc:xI v with
  |none=>trivial
  |some y=>exact A3 hc
 |global g=>
  simp only [bO,Act.eval];cases hg:E.ft g with
  |none=>trivial
  |some cs=>exact Rel.ep (h.g.ft g cs hg).1
 |func f=>exact Rel.fn .nil .nil
end Go.Am
