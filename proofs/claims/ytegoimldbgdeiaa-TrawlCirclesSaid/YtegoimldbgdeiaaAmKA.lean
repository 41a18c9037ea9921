/- The abstract machine: its values,its state,and what each operation does (definitions alone). -/
import Derived.CallsIn
import Derived.RangeFuncLeaves
import Derived.Laws.AppendOwn
set_option linter.all false
open BitVec renaming ofInt→aat
open Go.Op renaming bytesLess→aau
open List renaming replicate→aas, getElem?_eq_some_iff→aax, getElem?_append_left→aay, getElem?_set_self→aaA
open Nat renaming beq→aae, ble→aal, lt_of_lt_of_le→aav, blt→aaK
open Option.some renaming inj→aa0
namespace Go.Am
open Go
inductive LK where
 |nil | full | gZ | own (id:Nat) | bt (id j:Nat)
inductive AV where
 |bool (b:Bool)
 |int (k:IntKind) (n:Int)
 |str (s:List UInt8)
 |agg (cs:List AV)
 |bG (vs:List AV)
 |ql
 |ptr (id off:Nat)
 |ep (cs:List AV)
 |list (k:LK) (sz:Nat) (es:List AV)
 |oA (id off sz len cap:Nat)
 |eH (id f off sz len:Nat)
 |gp (id f i off sz:Nat) (t:TypeId)
 |nL
 |map (id:Nat)
 |fC
 |fn (f:FuncId) (first cap:List AV)
 |yield (id:Nat)
 |vz
 |iface (t:TypeId) (v:AV)
def LK.closed:LK→Bool
 |.own _=>false
 |.bt _ _=>false
 |_=>true
mutual
def AV.closed:AV→Bool
 |.agg cs=>aN cs
 |.bG cs=>aN cs
 |.ep cs=>aN cs
 |.list k _ _=>k.closed
 |.fn _ x y=>aN x&&aN y
 |.iface _ v=>v.closed
 |.ptr _ _=>false
 |.oA _ _ _ _ _=>false
 |.eH _ _ _ _ _=>false
 |.gp _ _ _ _ _ _=>false
 |.map _=>false
 |.yield _=>false
 |_=>true
def aN:List AV→Bool
 |[]=>true
 |a :: l=>a.closed&&aN l
end
mutual
def AV.jM:AV→AV
 |.agg cs=>.agg (pS cs)
 |.bG cs=>.bG (pS cs)
 |.list (.own _) sz es=>.list .gZ sz es
 |.list (.bt _ _) sz es=>.list .gZ sz es
 |v=>v
def pS:List AV→List AV
 |[]=>[]
 |a :: l=>a.jM :: pS l
end
inductive SV where
 |none
 |v (a:AV)
 |lp (key off:Nat)
inductive Ent where
 |put (d:Nat) (x:SV)
 |kill (d:Nat)
abbrev bp:=List Ent
abbrev dy:=List (Nat × List AV)
def lk:bp→Nat→SV
 |[],_=>.none
 |.put d x :: l,t=>bif aae d t then x else lk l t
 |.kill d :: l,t=>match lk l t with
  |.lp k off=>bif aae k d then .none else .lp k off
  |x=>x
def eJ:dy→Nat→Option (List AV)
 |[],_=>none
 |(d,cs) :: l,k=>bif aae d k then some cs else eJ l k
inductive GO where
 |dead
 |row (cs:List AV) (el:TypeId)
 |tok (f sz:Nat) (e:TypeId)
 |bt (fs:List Nat) (sz:Nat) (e:TypeId)
 |kP (wj n:Nat) (left:List Nat) (cur:Option Nat) (t:TypeId)
 |bF (es:List AV) (sz:Nat) (el:TypeId)
 |map (es:List (AV × AV))
 |jF (s:List UInt8) (pos:Nat)
 |loop (busy:Bool) (pending:Option Code) (fn:FuncId) (af:bp) (n:Nat) (params:List Tmp) (assign body:Code) (defers:Nat) (done:Bool)
 |defers (open_:Bool)
structure St where
 af:bp
 boxes:dy
 G:List GO
 marks:List Nat
 ro:Option Nat
 n:Nat
def nth {α:Type}:List α→Nat→Option α
 |[],_=>none
 |a :: _,0=>some a
 |_ :: l,n+1=>nth l n
def aE {α:Type}:List α→Nat→α→List α
 |[],_,_=>[]
 |_ :: l,0,x=>x :: l
 |a :: l,n+1,x=>a :: aE l n x
def takeN {α:Type}:Nat→List α→Option (List α)
 |0,_=>some []
 |_+1,[]=>none
 |n+1,a :: l=>match takeN n l with
  |some r=>some (a :: r)
  |none=>none
def iU {α:Type}:Nat→List α→List α
 |0,l=>l
 |_+1,[]=>[]
 |n+1,_ :: l=>iU n l
def Oq {α:Type} (off n:Nat) (l:List α):Option (List α):=takeN n (iU off l)
def eT {α:Type}:List α→Nat→List α→List α
 |l,_,[]=>l
 |[],_,_ :: _=>[]
 |_ :: l,0,y :: ys=>y :: eT l 0 ys
 |a :: l,n+1,y :: ys=>a :: eT l n (y :: ys)
def AV.cells:AV→List AV
 |.agg cs=>cs
 |v=>[v]
def AV.one:AV→Bool
 |.agg _=>false
 |.bG _=>false
 |_=>true
def xd:Value→Option AV
 |.bool b=>some (.bool b)
 |.int k n=>some (.int k n)
 |.string s=>some (.str s.data.toList)
 |.slice none 0 0=>some (.list .nil 0 [])
 |.pointer none=>some .ql
 |.map none=>some .nL
 |.nilFunc=>some .fC
 |.nilIface=>some .vz
 |_=>none
def qO:List Value→Option (List AV)
 |[]=>some []
 |v :: vs=>match xd v,qO vs with
  |some a,some l=>some (a :: l)
  |_,_=>none
def xe:Value→Option AV
 |.agg cs=>match qO cs.toList with
  |some l=>some (.agg l)
  |none=>none
 |.tuple cs=>match qO cs.toList with
  |some l=>some (.bG l)
  |none=>none
 |v=>xd v
inductive TK where
 |sc
 |int (k:IntKind)
 |str
 |st (fs:List (Nat × Nat × Bool))
 |arr (len esz:Nat) (aha:Bool)
 |sl (elem esz:Nat) (aha:Bool) (bz:Nat) (adj:Option AV)
 |map (key elem:TypeId) (adj:Option AV)
mutual
inductive EK where
 |no
 |bool
 |int
 |str
 |st (fs:Xf)
inductive Xf where
 |nil
 |cons (off sz:Nat) (ag:Bool) (k:EK) (rest:Xf)
end
structure TI where
 k:TK
 size:Nat
 agg:Bool
 zero:Option AV
 ek:EK
def mZ:TypeDesc→Bool
 |.struct _=>true
 |.array _ _=>true
 |_=>false
def fieldsOf (P:Program):List Field→Option (List (Nat × Nat × Bool))
 |[]=>some []
 |f :: fs=>match P.info? f.type,P.underlying f.type,fieldsOf P fs with
  |some i,some u,some l=>some ((f.offset,i.size,mZ u) :: l)
  |_,_,_=>none
def ju (i:TypeInfo):Option AV:=match i.zero with
 |some z=>xe z
 |none=>none
def xf (P:Program):TypeDesc→Option TK
 |.int k=>some (.int k)
 |.string=>some .str
 |.struct fs=>match fieldsOf P fs.toList with
  |some l=>some (.st l)
  |none=>none
 |.array n e=>match P.info? e,P.underlying e with
  |some i,some u=>some (.arr n i.size (mZ u))
  |_,_=>none
 |.slice e=>match P.info? e,P.underlying e with
  |some i,some u=>some (.sl e i.size (mZ u) i.bytes (ju i))
  |_,_=>none
 |.map k e=>match P.info? e with
  |some i=>some (.map k e (ju i))
  |none=>none
 |_=>some .sc
def Ku (P:Program) (ek:TypeId→EK):List Field→Option Xf
 |[]=>some .nil
 | f :: fs => if f.name == "_" then none else match P.info? f.type, P.underlying f.type, Ku P ek fs with
  |some i,some u,some l=>some (.cons f.offset i.size (mZ u) (ek f.type) l)
  |_,_,_=>none
def B6 (sz:Nat) (ag:Bool) (k:EK):Nat→Nat→Xf
 |0,_=>.nil
 |n+1,i=>.cons (i * sz) sz ag k (B6 sz ag k n (i+1))
def vA (P:Program):Nat→TypeId→EK
 |0,_=>.no
 |n+1,t=>match P.underlying t with
  |some .bool=>.bool
  |some (.int _)=>.int
  |some .string=>.str
  |some (.struct fs)=>if P.stoodInHeld t then .no else match Ku P (vA P n) fs.toList with
   |some l=>.st l
   |none=>.no
  |some (.array m e)=>match P.info? e,P.underlying e with
   |some i,some u=>.st (B6 i.size (mZ u) (vA P n e) m 0)
   |_,_=>.no
  |_=>.no
def Ae (P:Program) (t:TypeId):EK:=match vA P 6 t with
 |.st l=>if P.eqGuardType P.depth t then .no else .st l
 |k=>k
def Ot (P:Program) (t:TypeId):Option TI:=
 match P.info? t,P.underlying t with
 |some i,some u=>match xf P u with
  |some k=>some { k:=k,size:=i.size,agg:=mZ u,zero:=ju i,ek:=Ae P t }
  |none=>none
 |_,_=>none
def xg:AV→AV→Bool
 |.bool a,.bool b=>a == b
 |.int k a,.int k' b=>(k == k')&&a == b
 |.str a,.str b=>a == b
 |.ql,.ql=>true
 |.ptr i o,.ptr i' o'=>aae i i'&&aae o o'
 |.nL,.nL=>true
 |.map i,.map i'=>aae i i'
 |.fC,.fC=>true
 |.vz,.vz=>true
 |.oA a b c d e,.oA a' b' c' d' e'=>aae a a'&&aae b b'&&aae c c'&&aae d d'&&aae e e'
 |.eH a b c d e,.eH a' b' c' d' e'=>aae a a'&&aae c c'&&aae d d'&&(aae b b'&&aae e e')
 |.gp a b c d e t,.gp a' b' c' d' e' t'=>aae a a'&&aae b b'&&aae c c'&&aae d d'&&aae e e'&&aae t t'
 |_,_=>false
mutual
def eV:AV→AV→Bool
 |.fn f x y,.fn f' x' y'=>aae f f'&&bR x x'&&bR y y'
 |.agg cs,.agg gr=>bR cs gr
 |.ep cs,.ep gr=>bR cs gr
 |.bG cs,.bG gr=>bR cs gr
 |.list .nil a es,.list .nil a' es'=>aae a a'&&bR es es'
 |.list .full a es,.list .full a' es'=>aae a a'&&bR es es'
 |.list .gZ a es,.list .gZ a' es'=>aae a a'&&bR es es'
 |.list (.own i) a es,.list (.own i') a' es'=>aae i i'&&aae a a'&&bR es es'
 |.list (.bt i j) a es,.list (.bt i' j') a' es'=>aae i i'&&aae j j'&&aae a a'&&bR es es'
 |a,b=>xg a b
def bR:List AV→List AV→Bool
 |[],[]=>true
 |a :: l,b :: r=>eV a b&&bR l r
 |_,_=>false
end
mutual
inductive aL
 |int (k:IntKind)
 |bool
 |str
 |agg (ps:aU)
 |bG (ps:aU)
 |list (sz:Nat) (p:aL)
 |own (id sz:Nat) (p:aL)
 |bt (id sz:Nat) (p:aL)
 |mw (v:AV)
 |two (u v:AV)
inductive aU
 |nil
 |cons (p:aL) (ps:aU)
end
abbrev aU.ci (r:aU):aU:=.cons (.int .i64) r
def adk (s:Bool) (α β:Type):Type:=match s with
 |true=>α
 |false=>α × β
def aU.isNil:aU→Bool
 |.nil=>true
 |.cons _ _=>false
mutual
def aL.T:aL→Type
 |.int _=>Int
 |.bool=>Bool
 |.str=>List UInt8
 |.agg ps=>ps.T
 |.bG ps=>ps.T
 |.list _ p=>List p.T
 |.own _ _ p=>List p.T
 |.bt _ _ p=>Nat × List p.T
 |.mw _=>Unit
 |.two _ _=>Bool
def aU.T:aU→Type
 |.nil=>Unit
 |.cons p ps=>adk ps.isNil p.T ps.T
end
mutual
def aL.enc:(p:aL)→p.T→AV
 |.int k,(n:Int)=>.int k n
 |.bool,(b:Bool)=>.bool b
 |.str,(s:List UInt8)=>.str s
 |.agg ps,x=>.agg (ps.enc x)
 |.bG ps,x=>.bG (ps.enc x)
 |.list sz p,(xs:List p.T)=>.list .gZ sz (xs.map p.enc)
 |.own id sz p,(xs:List p.T)=>.list (.own id) sz (xs.map p.enc)
 |.bt id sz p,(x:Nat × List p.T)=>.list (.bt id x.1) sz (x.2.map p.enc)
 |.mw v,_=>v
 |.two u v,(b:Bool)=>bif b then v else u
def aU.enc:(ps:aU)→ps.T→List AV
 |.nil,_=>[]
 |.cons p .nil,x=>[p.enc x]
 |.cons p (.cons q ps),x=>p.enc x.1 :: (aU.cons q ps).enc x.2
end
def kEq:IntKind→IntKind→Bool:=fun a b=>decide (a=b)
def AV.mZ:AV→List AV
 |.agg cs=>cs
 |_=>[]
def AV.YA:AV→List AV
 |.bG cs=>cs
 |_=>[]
def AV.fK:AV→List AV
 |.list _ _ es=>es
 |_=>[]
def AV.ahb:AV→Nat
 |.list (.bt _ j) _ _=>j
 |_=>0
def AV.AZ:AV→Int
 |.int _ n=>n
 |_=>0
def AV.adl:AV→Bool
 |.bool b=>b
 |_=>false
def AV.YB:AV→List UInt8
 |.str s=>s
 |_=>[]
def fU:List AV→AV
 |a :: _=>a
 |[]=>.ql
def Qz:List AV→List AV
 |_ :: l=>l
 |[]=>[]
mutual
def aL.bB:(p:aL)→AV→p.T
 |.int _,v=>v.AZ
 |.bool,v=>v.adl
 |.str,v=>v.YB
 |.agg ps,v=>ps.bB v.mZ
 |.bG ps,v=>ps.bB v.YA
 |.list _ p,v=>v.fK.map p.bB
 |.own _ _ p,v=>v.fK.map p.bB
 |.bt _ _ p,v=>(v.ahb,v.fK.map p.bB)
 |.mw _,_=>()
 |.two _ v,a=>eV a v
def aU.bB:(ps:aU)→List AV→ps.T
 |.nil,_=>()
 |.cons p .nil,l=>p.bB (fU l)
 |.cons p (.cons q ps),l=>(p.bB (fU l),(aU.cons q ps).bB (Qz l))
end
def allFit (f:AV→Bool):List AV→Bool
 |[]=>true
 |a :: l=>f a&&allFit f l
mutual
def aL.fits:aL→AV→Bool
 |.int k,v=>match v with
  |.int k' _=>kEq k k'
  |_=>false
 |.bool,v=>match v with
  |.bool _=>true
  |_=>false
 |.str,v=>match v with
  |.str _=>true
  |_=>false
 |.agg ps,v=>match v with
  |.agg cs=>ps.fits cs
  |_=>false
 |.bG ps,v=>match v with
  |.bG cs=>ps.fits cs
  |_=>false
 |.list sz p,v=>match v with
  |.list _ cL es=>(aae sz cL || es.isEmpty)&&allFit p.fits es
  |_=>false
 |.own id sz p,v=>match v with
  |.list (.own nN) cL es=>(aae id nN&&aae sz cL)&&allFit p.fits es
  |_=>false
 |.bt id sz p,v=>match v with
  |.list (.bt nN _) cL es=>(aae id nN&&aae sz cL)&&allFit p.fits es
  |_=>false
 |.mw v,u=>eV u v
 |.two u v,a=>eV a u || eV a v
def aU.fits:aU→List AV→Bool
 |.nil,l=>l.isEmpty
 |.cons p ps,l=>match l with
  |a :: l=>p.fits a&&ps.fits l
  |[]=>false
end
def aL.dec (p:aL) (v:AV):Option p.T:=bif p.fits v then some (p.bB v) else none
def aU.dec (ps:aU) (l:List AV):Option ps.T:=bif ps.fits l then some (ps.bB l) else none
structure Env where
 P:Program
 ti:TypeId→Option TI
 fm:Nat→Option (List AV)
 B7:FuncId→Tmp→Bool
 Uo:TypeId→Option aL
 lo:Nat:=0
 gho:FuncId→Tmp→List (Option Nat × Nat × TypeId):=fun _ _=>[]
 elg:TypeId→Option aL:=fun _=>none
 gx:Nat→Bool:=fun _=>false
 Ou:∀ t i,ti t=some i→Ot P t=some i
 mixed:P.follows .mixedOrders=true
 Gt:∀ g cs,fm g=some cs→aN cs=true
def bJ (E:Env) (af:bp):Operand→SV
 |.tmp t=>lk af t
 |.const v=>match xe v with
  |some a=>.v a
  |none=>.none
 |.global g=>match E.fm g with
  |some cs=>.v (.ep cs)
  |none=>.none
 |.func f=>.v (.fn f [] [])
def St.put (s:St) (dst:Option Tmp) (x:SV):St:=match dst with
 |some d=>match aaK d s.n with
  |true=>⟨.put d x :: s.af,s.boxes,s.G,s.marks,s.ro,s.n⟩
  |false=>s
 |none=>s
def jd:AV:=.bG []
def ze (agg:Bool) (cs:List AV):Option AV:=
 if agg then some (.agg cs) else match cs with
  |[c]=>some c
  |_=>none
def rR (s:St):SV→Option (List AV × Nat)
 |.lp k off=>match eJ s.boxes k with
  |some cs=>some (cs,off)
  |none=>none
 |.v (.ptr id off)=>match nth s.G id with
  |some (.row cs _)=>some (cs,off)
  |_=>none
 |.v (.ep cs)=>some (cs,0)
 |_=>none
def E7 (n:Nat):SV→Option SV
 |.lp k off=>some (.lp k (off+n))
 |.v (.ptr id off)=>some (.v (.ptr id (off+n)))
 |.v (.ep cs)=>some (.v (.ep (iU n cs)))
 |.v (.gp id f i off sz t)=>some (.v (.gp id f i (off+n) sz t))
 |_=>none
def Gu (t:Bool):AV→AV→AV
 |.bool x,.bool y=>.bool (bif t then x else y)
 |.int k x,.int k' y=>if k=k' then .int k (bif t then x else y) else (bif t then .int k x else .int k' y)
 |a,b=>bif t then a else b
def ME (ag:Bool) (off sz:Nat) (cs:List AV):Option AV:=
 if ag then (match Oq off sz cs with | some l=>ze true l | none=>none) else (match Oq off 1 cs with | some l=>ze false l | none=>none)
mutual
def pN:EK→AV→AV→Option Bool
 |.bool,.bool a,.bool b=>some (a == b)
 |.int,.int k a,.int k' b=>if k=k' then some (a == b) else none
 |.str,.str a,.str b=>some (a == b)
 |.st fs,.agg xs,.agg ys=>zg fs xs ys
 |_,_,_=>none
def zg:Xf→List AV→List AV→Option Bool
 |.nil,_,_=>some true
 |.cons off sz ag k rest,xs,ys=>match ME ag off sz xs,ME ag off sz ys with
  |some a,some b=>match pN k a b,zg rest xs ys with
   |some t,some u=>some (t&&u)
   |_,_=>none
  |_,_=>none
end
def YC (k:IntKind) (a b:Int):Int:=k.wrap (aat k.bits a &&& aat k.bits b).toNat
def orI (k:IntKind) (a b:Int):Int:=k.wrap (aat k.bits a ||| aat k.bits b).toNat
def YD (k:IntKind) (a b:Int):Int:=k.wrap (aat k.bits a ^^^ aat k.bits b).toNat
def HZ (op:BinOp) (x y:AV):Option (Bool × AV):=
 match x,y with
 |.int k a,.int k' b=>
  match op with
  |.shl=>some (decide (0≤b),.int k (k.wrap (a * 2 ^ (min b.toNat k.bits))))
  |.shr=>some (decide (0≤b),.int k (a.fdiv (2 ^ (min b.toNat k.bits))))
  |_=>if k=k' then
    match op with
    |.add=>some (true,.int k (k.wrap (a+b)))
    |.sub=>some (true,.int k (k.wrap (a - b)))
    |.mul=>some (true,.int k (k.wrap (a * b)))
    |.quo=>some (!(decide (b=0)),.int k (k.wrap (a.tdiv b)))
    |.rem=>some (!(decide (b=0)),.int k (a.tmod b))
    |.and=>some (true,.int k (YC k a b))
    |.or=>some (true,.int k (orI k a b))
    |.xor=>some (true,.int k (YD k a b))
    |.eql=>some (true,.bool (a == b))
    |.neq=>some (true,.bool (a != b))
    |.lss=>some (true,.bool (a < b))
    |.leq=>some (true,.bool (a≤b))
    |.gtr=>some (true,.bool (a > b))
    |.geq=>some (true,.bool (a≥b))
    |_=>none
   else none
 |.str a,.str b=>
  match op with
  |.add=>some (decide (a.length+b.length≤9223372036854775807),.str (a++b))
  |.eql=>some (true,.bool (a == b))
  |.neq=>some (true,.bool (!(a == b)))
  |.lss=>some (true,.bool (aau a b))
  |.leq=>some (true,.bool (aau a b || a == b))
  |.gtr=>some (true,.bool (!(aau a b || a == b)))
  |.geq=>some (true,.bool (!(aau a b)))
  |_=>none
 |_,_=>none
end Go.Am
namespace Go.Am
open Go
def St.kill (s:St) (d:Nat):St:=⟨.kill d :: s.af,s.boxes,s.G,s.marks,s.ro,s.n⟩
def AV.ba:AV→Bool
 |.bG _=>false
 |_=>true
def St.fq (s:St) (o:GO):St:=⟨s.af,s.boxes,s.G++[o],s.marks,s.ro,s.n⟩
def St.cj (s:St) (G:List GO):St:=⟨s.af,s.boxes,G,s.marks,s.ro,s.n⟩
def St.Af (s:St) (d:Nat) (cs:List AV):St:=⟨s.af,(d,cs) :: s.boxes,s.G,s.marks,s.ro,s.n⟩
def hY (E:Env) (f:FuncId) (s:St) (dst:Option Tmp) (el:TypeId) (cs:List AV):Option (Bool × St):=
 match dst with
 |none=>none
 |some d=>
  if E.B7 f d then some (true,(s.fq (.row cs el)).put (some d) (.v (.ptr s.G.length 0)))
  else match aaK d s.n with
   |true=>some (true,((s.kill d).Af d cs).put (some d) (.lp d 0))
   |false=>none
def qm (E:Env) (af:bp):List Operand→Option (List AV)
 |[]=>some []
 |x :: l=>match bJ E af x,qm E af l with
  |.v a,some r=>some (a :: r)
  |_,_=>none
def TQ (E:Env) (af:bp):List (Nat × Operand)→Option (List (Nat × AV))
 |[]=>some []
 |(i,x) :: l=>match bJ E af x,TQ E af l with
  |.v a,some r=>some ((i,a) :: r)
  |_,_=>none
def placeOf:TK→Nat→Option (Nat × Nat)
 |.st fs,j=>match nth fs j with
  |some (o,sz,_)=>some (o,sz)
  |none=>none
 |.arr _ esz _,j=>some (j * esz,esz)
 |_,_=>none
def Ag (place:Nat→Option (Nat × Nat)) (cells:List AV):List (Nat × AV)→Option (List AV)
 |[]=>some cells
 |(i,v) :: rest=>match place i with
  |none=>none
  |some (off,sz)=>
   if v.ba&&aae v.cells.length sz&&aal (off+sz) cells.length then Ag place (eT cells off v.cells) rest else none
def H0 (esz:Nat) (es:List AV):List (Nat × AV)→Option (List AV)
 |[]=>some es
 |(i,v) :: rest=>
  if v.ba&&aae v.cells.length esz&&aal (i+1) es.length&&v.closed then H0 esz (aE es i v) rest else none
def rS (E:Env) (s:St) (t:TypeId) (parts:List (Nat × Operand)):Option AV:=
 match E.ti t,TQ E s.af parts with
 |some i,some ps=>match i.zero with
  |some z=>match Ag (placeOf i.k) z.cells ps with
   |some cs=>if i.agg&&z.ba then some (.agg cs) else none
   |none=>none
  |none=>none
 |_,_=>none
def E8:List (Nat × AV)→List (Nat × AV)
 |[]=>[]
 |(i,v) :: l=>(i,v.jM) :: E8 l
def cV (E:Env) (s:St) (t:TypeId) (len:Nat) (parts:List (Nat × Operand)):Option AV:=
 match E.ti t,TQ E s.af parts with
 |some i,some ps=>match i.k with
  |.sl _ esz _ _ (some z)=>
    if aae z.cells.length esz&&aal 1 esz&&aal (len * esz) 16777216&&z.ba&&z.closed then
     match H0 esz (aas len z) (E8 ps) with
     |some es=>some (.list .full esz es)
     |none=>none
    else none
  |_=>none
 |_,_=>none
def xh (E:Env) (s:St) (t:TypeId) (p:SV):Option AV:=
 match E.ti t,rR s p with
 |some i,some (cs,off)=>match Oq off i.size cs with
  |some l=>ze i.agg l
  |none=>none
 |_,_=>none
def jI (E:Env) (s:St) (t:TypeId) (p x:SV):Option St:=
 match E.ti t,x with
 |some i,.v v=>
  if v.ba&&aae v.cells.length i.size then
   match p with
   |.lp k off=>match eJ s.boxes k with
    |some cs=>if aal (off+v.cells.length) cs.length then some (s.Af k (eT cs off v.cells)) else none
    |none=>none
   |.v (.ptr id off)=>match nth s.G id with
    |some (.row cs el)=>if aal (off+v.cells.length) cs.length then some (s.cj (aE s.G id (.row (eT cs off v.cells) el))) else none
    |_=>none
   |_=>none
  else none
 |_,_=>none
def ae (es:List AV) (n:Nat):AV:=match nth es n with
 |some e=>e
 |none=>jd
def ml:List GO→Nat→TypeId→Nat→Option Nat
 |[],_,_,_=>none
 |.bt _ sz e :: G,cL,e',i=>match ml G cL e' (i+1) with
  |some j=>some j
  |none=>bif aae sz cL&&aae e e' then some i else none
 |_ :: G,cL,e',i=>ml G cL e' (i+1)
def aL.fin (G:List GO):aL→aL
 |.bt e sz p=>match ml G sz e 0 with
  |some id=>.bt id sz p
  |none=>.bt e sz p
 |.agg ps=>.agg (adm ps)
 |p=>p
where
 adm:aU→aU
  |.nil=>.nil
  |.cons p ps=>.cons (match p with
   |.bt e sz q=>match ml G sz e 0 with
    |some id=>.bt id sz q
    |none=>.bt e sz q
   |p=>p) (adm ps)
def Xg (E:Env) (G:List GO) (t:TypeId):Option aL:=match E.elg t with
 |some p=>some (p.fin G)
 |none=>E.Uo t
def B8 (E:Env) (s:St) (id f i sz:Nat) (t:TypeId):Option (Bool × AV):=match nth s.G id with
 |some (.bF es cL _)=>match Xg E s.G t with
  |some p=>if aae sz cL then some (decide (f=es.length)&&decide (i < es.length)&&p.fits (ae es i),p.enc (p.bB (ae es i))) else none
  |none=>if aae sz cL then some (decide (f=es.length)&&decide (i < es.length),ae es i) else none
 |_=>none
def E9 (E:Env) (s:St) (t:TypeId) (p:SV):Option (Bool × AV):=match p with
 |.v (.gp id f i off sz ty)=>match E.ti t,B8 E s id f i sz ty with
  |some ti,some (c,v)=>match Oq off ti.size v.cells with
   |some l=>match ze ti.agg l with
    |some r=>some (c,r)
    |none=>none
   |none=>none
  |_,_=>none
 |p=>match xh E s t p with
  |some v=>some (true,v)
  |none=>none
def iS (E:Env) (s:St) (t:TypeId) (p x:SV):Option (Bool × St):=match p with
 |.v (.gp id f i off sz ty)=>match E.ti t,x,nth s.G id with
  |some ti,.v x,some (.bF es cL el)=>
   if x.ba&&aae x.cells.length ti.size&&aae sz cL then
    if aae off 0&&aae ti.size sz then some (decide (f=es.length)&&decide (i < es.length),s.cj (aE s.G id (.bF (aE es i x) cL el)))
    else match B8 E s id f i sz ty with
     |some (c,.agg cs)=>if aal (off+ti.size) cs.length&&aae cs.length sz then some (c,s.cj (aE s.G id (.bF (aE es i (.agg (eT cs off x.cells))) cL el))) else none
     |_=>none
   else none
  |_,_,_=>none
 |p=>match jI E s t p x with
  |some s'=>some (true,s')
  |none=>none
def wo (s:St) (p x:SV):Bool × SV × List GO:=match p,x with
 |.v (.gp _ _ _ 0 1 _),.v (.eH id f 0 sz len)=>match nth s.G id with
  |some (.bF es cL _)=>(decide (f=es.length)&&decide (len=es.length)&&aae sz cL&&aN es,.v (.list .gZ sz es),aE s.G id .dead)
  |_=>(true,x,s.G)
 |_,_=>(true,x,s.G)
def nf (E:Env) (s:St) (t:TypeId) (p x:SV):Option (Bool × St):=match iS E (s.cj (wo s p x).2.2) t p (wo s p x).2.1 with
 |some (c,s')=>some ((wo s p x).1&&c,s')
 |none=>none
def oB (E:Env) (t:TypeId) (x ix:SV):Option (Bool × SV):=
 match E.ti t,ix with
 |some i,.v (.int _ n)=>match i.k,x with
  |.sl _ esz _ _ _,.v (.list _ sz es)=>if aae sz esz || es.isEmpty then
    match E.Uo t with
    |some p=>some (decide (0≤n∧n < es.length)&&p.fits (ae es n.toNat),.v (.ep (p.enc (p.bB (ae es n.toNat))).cells))
    |none=>some (decide (0≤n∧n < es.length),.v (.ep (ae es n.toNat).cells))
   else none
  |.sl _ esz _ _ _,.v (.oA id off sz len _)=>if aae sz esz then some (decide (0≤n∧n < len),.v (.ptr id (off+n.toNat * sz))) else none
  |.sl _ esz _ _ _,.v (.eH id f off sz len)=>if aae sz esz then some (decide (0≤n∧n < len),.v (.gp id f (off+n.toNat) 0 sz t)) else none
  |.arr len esz _,.v (.ep cs)=>match E.Uo t with
   |some p=>if aae esz 1&&aal len cs.length then some (decide (0≤n∧n < len)&&p.fits (ae cs n.toNat),.v (.ep [p.enc (p.bB (ae cs n.toNat))])) else none
   |none=>some (decide (0≤n∧n < len),.v (.ep (iU (n.toNat * esz) cs)))
  |.arr len esz _,p=>match E7 (n.toNat * esz) p with
   |some q=>some (decide (0≤n∧n < len),q)
   |none=>none
  |_,_=>none
 |_,_=>none
def oC (E:Env) (t:TypeId) (x:SV) (j:Nat):Option SV:=
 match E.ti t with
 |some i=>match i.k with
  |.st fs=>match nth fs j with
   |some (o,sz,_)=>if aal 1 sz then E7 o x else none
   |none=>none
  |_=>none
 |none=>none
def Kv (E:Env) (t:TypeId) (x:SV) (j:Nat):Option AV:=
 match E.ti t,x with
 |some i,.v (.agg cs)=>match i.k with
  |.st fs=>match nth fs j with
   |some (o,sz,ag)=>if ag then (match Oq o sz cs with | some l=>ze true l | none=>none) else (match Oq o 1 cs with | some l=>ze false l | none=>none)
   |none=>none
  |_=>none
 |_,_=>none
def Kw (E:Env) (t:TypeId) (x ix:SV):Option (Bool × AV):=
 match E.ti t,x,ix with
 |some i,.v (.str l),.v (.int _ n)=>match i.k with
  |.str=>some (decide (0≤n∧n < l.length),.int .u8 (l.getD n.toNat 0).toNat)
  |_=>none
 |some i,.v (.agg cs),.v (.int _ n)=>match i.k with
  |.arr len esz ag=>match (if ag then (match Oq (n.toNat * esz) esz cs with | some l=>ze true l | none=>none) else (match Oq (n.toNat * esz) 1 cs with | some l=>ze false l | none=>none)) with
   |some v=>some (decide (0≤n∧n < len),v)
   |none=>none
  |_=>none
 |_,_,_=>none
def B9 (y:Nat):SV→Option (Bool × Nat)
 |.v (.int _ n)=>some (decide (0≤n∧n≤y),n.toNat)
 |_=>none
def qn {α:Type} (lo hi:Nat) (l:List α):List α:=(l.take hi).drop lo
def pO (E:Env) (af:bp):Option Operand→Option (Option SV)
 |none=>some none
 |some x=>some (some (bJ E af x))
def Gv (len:Nat) (lo hi:Option SV):Option (Bool × Nat × Nat):=
 match (match hi with | none=>some (true,len) | some h=>B9 len h) with
 |none=>none
 |some (c1,h)=>match (match lo with | none=>some (true,0) | some l=>B9 h l) with
  |none=>none
  |some (c2,l)=>some (c1&&c2,l,h)
def mkD (agg:Bool) (l:List AV):AV:=match agg with
 |true=>.agg l
 |false=>fU l
def kh (agg:Bool) (sz:Nat):Nat→List AV→List AV
 |0,_=>[]
 |n+1,cs=>mkD agg (cs.take sz) :: kh agg sz n (cs.drop sz)
def Kx (ag:Bool) (e:AV):Bool:=e.ba&&(ag || e.one)&&e.closed
def Gw (E:Env) (t:TypeId) (x:SV) (lo hi:Option SV) (mx:Option Operand):Option (Bool × AV):=
 match E.ti t,mx with
 |some i,none=>match i.k,x with
  |.str,.v (.str l)=>match Gv l.length lo hi with
   |some (c,a,b)=>some (c,.str (qn a b l))
   |none=>none
  |.sl _ esz _ _ _,.v (.list k sz es)=>
   if aae sz esz || es.isEmpty then
    match Gv es.length lo hi with
    |some (c,a,b)=>some (c,.list (match k with | .nil=>.nil | .full=>(match hi with | none=>.full | some _=>.gZ) | _=>.gZ) esz (qn a b es))
    |none=>none
   else none
  |.sl _ esz _ _ _,.v (.oA id off sz len cap)=>
   if aae sz esz then
    match Gv len lo hi with
    |some (c,a,b)=>some (c,.oA id (bif aae cap a then off else off+a * sz) sz (b - a) (cap - a))
    |none=>none
   else none
  |.sl _ esz _ _ _,.v (.eH id f off sz len)=>
   if aae sz esz then
    match Gv len lo hi with
    |some (c,a,b)=>some (c,.eH id f (off+a) sz (b - a))
    |none=>none
   else none
  |.arr len esz ag,.v (.ep cs)=>match lo,hi with
   |none,none=>if aal (len * esz) cs.length&&aal 1 esz&&(ag || aae esz 1)&&allFit (Kx ag) (kh ag esz len cs) then some (true,.list .full esz (kh ag esz len cs)) else none
   |_,_=>none
  |_,_=>none
 |_,_=>none
def QA (G:List GO) (id n:Nat) (f sz:Nat) (e:TypeId):List GO:=aE G id (.tok (f+n) sz e)
def Ov (fs:List Nat) (j n:Nat):List Nat:=bif aae j fs.length then fs++[n] else aE fs j n
def Up (fs:List Nat) (j n:Nat):Bool:=decide (nth fs j=some n) || (aae j fs.length&&aae n 0)
def hZ (G:List GO) (elem esz bz:Nat) (x:AV) (ys:List AV):Option (Bool × AV × List GO):=
 match x,ys with
 |.list k sz es,[]=>match k with
  |.nil=>some (true,.list .nil sz es,G)
  |k=>some (true,.list k sz es,G)
 |.list k sz es,y :: ys=>
  match k with
  |.nil=>some (decide ((es.length+(y :: ys).length) * bz≤140737488355328),.list (.own G.length) esz (es++(y :: ys)),G++[.tok (es.length+(y :: ys).length) esz elem])
  |.full=>if aae sz esz then some (decide ((es.length+(y :: ys).length) * bz≤140737488355328),.list (.own G.length) esz (es++(y :: ys)),G++[.tok (es.length+(y :: ys).length) esz elem]) else none
  |.own id=>match nth G id with
   |some (.tok f cL e')=>if aae cL esz&&aae e' elem&&aae sz esz then
     some (decide (f=es.length)&&decide ((es.length+(y :: ys).length) * bz≤140737488355328),.list (.own id) esz (es++(y :: ys)),QA G id (y :: ys).length f esz elem) else none
   |_=>none
  |.bt id j=>match nth G id with
   |some (.bt fs cL e')=>if aae cL esz&&aae e' elem&&aae sz esz then
     some (Up fs j es.length&&decide ((es.length+(y :: ys).length) * bz≤140737488355328),.list (.bt id j) esz (es++(y :: ys)),aE G id (.bt (Ov fs j (es.length+(y :: ys).length)) esz elem)) else none
   |_=>none
  |.gZ=>none
 |.eH id f off sz len,[]=>some (true,.eH id f off sz len,G)
 |.eH id f off sz len,y :: ys=>match nth G id with
  |some (.bF es cL e')=>if aae cL esz&&aae e' elem&&aae sz esz then
    some (decide (f=es.length)&&decide (off=0)&&decide (len=f)&&decide ((es.length+(y :: ys).length) * bz≤140737488355328),.eH id (es.length+(y :: ys).length) 0 esz (es.length+(y :: ys).length),aE G id (.bF (es++(y :: ys)) esz elem)) else none
  |_=>none
 |_,_=>none
def H3 (b:UInt8):AV:=.int .u8 b.toNat
def Ow:AV→List AV→Option AV
 |x,[]=>some x
 |.int k x,.int k' y :: l=>if k=k' then Ow (.int k (if y > x then y else x)) l else none
 |_,_=>none
def Ky:AV→List AV→Option AV
 |x,[]=>some x
 |.int k x,.int k' y :: l=>if k=k' then Ky (.int k (if y < x then y else x)) l else none
 |.str x,.str y :: l=>Ky (.str (bif aau x y || x == y then x else y)) l
 |_,_=>none
def aC:List AV→List AV
 |[]=>[]
 |e :: es=>e.cells++aC es
def H4 (s:St) (esz:Nat) (d x:AV):Option (Nat × List GO):=none
def dm (E:Env) (s:St) (dst:Option Tmp) (b:Builtin) (args:List AV) (tys:List TypeId):Option (Bool × St):=
 match b,args with
 |.len,[x]=>match tys with
  |t :: _=>match E.ti t with
   |some i=>match i.k,x with
    |.str,.str l=>some (true,s.put dst (.v (.int .i64 l.length)))
    |.sl ..,.list _ _ es=>some (true,s.put dst (.v (.int .i64 es.length)))
    |.sl ..,.oA _ _ _ len _=>some (true,s.put dst (.v (.int .i64 len)))
    |.sl ..,.eH _ _ _ _ len=>some (true,s.put dst (.v (.int .i64 len)))
    |.arr n _ _,_=>some (true,s.put dst (.v (.int .i64 n)))
    |.map ..,.nL=>some (true,s.put dst (.v (.int .i64 0)))
    |.map ..,.map id=>match nth s.G id with
     |some (.map es)=>some (true,s.put dst (.v (.int .i64 es.length)))
     |_=>none
    |_,_=>none
   |none=>none
  |_=>none
 |.append,[x,.list _ sz ys]=>match tys with
  |[t,u]=>match E.ti t with
   |some i=>match i.k with
    |.sl elem esz _ bz (some z)=>
     if (aae sz esz || ys.isEmpty)&&aae t u&&aal 1 esz&&aal 1 bz&&aae z.cells.length esz&&z.ba then
      match hZ s.G elem esz bz x ys with
      |some (c,v,G')=>some (c,(s.cj G').put dst (.v v))
      |none=>none
     else none
    |_=>none
   |none=>none
  |_=>none
 |.append,[x,.str bs]=>match tys with
  |[t,u]=>match E.ti t,E.ti u with
   |some i,some j=>match i.k,j.k with
    |.sl elem esz _ bz (some z),.str=>
     if aae esz 1&&aal 1 bz&&aae z.cells.length esz&&z.ba then
      match hZ s.G elem esz bz x (bs.map H3) with
      |some (c,v,G')=>some (c,(s.cj G').put dst (.v v))
      |none=>none
     else none
    |_,_=>none
   |_,_=>none
  |_=>none
 |.append,[x,.eH id f 0 sz len]=>match nth s.G id,tys with
  |some (.bF ys cL _),[t,u]=>match E.ti t with
   |some i=>match i.k with
    |.sl elem esz _ bz (some z)=>
     if aae sz cL&&aae sz esz&&aae f ys.length&&aae len ys.length&&aN ys&&aae t u&&aal 1 esz&&aal 1 bz&&aae z.cells.length esz&&z.ba then
      match hZ s.G elem esz bz x ys with
      |some (c,v,G')=>some (c,(s.cj G').put dst (.v v))
      |none=>none
     else none
    |_=>none
   |none=>none
  |_,_=>none
 |.copy,[d,x]=>match tys with
  |t :: _=>match E.ti t with
   |some i=>match i.k with
    |.sl _ esz _ _ _=>match H4 s esz d x with
     |some (n,G')=>some (true,(s.cj G').put dst (.v (.int .i64 n)))
     |none=>none
    |_=>none
   |none=>none
  |_=>none
 |.clear,[x]=>match dst,tys,x with
  |none,[t],.eH id f off sz len=>match E.ti t,nth s.G id with
   |some i,some (.bF es cL el)=>match i.k with
    |.sl elem esz _ _ (some z)=>if aae sz esz&&aae cL sz&&aae el elem&&aae z.cells.length esz&&z.ba&&z.closed then
      some (decide (f=es.length)&&decide (off+len≤es.length),s.cj (aE s.G id (.bF (eT es off (aas len z)) cL el))) else none
    |_=>none
   |_,_=>none
  |_,_,_=>none
 |.max,x :: l=>match Ow x l with
  |some v=>some (true,s.put dst (.v v))
  |none=>none
 |.min,x :: l=>match Ky x l with
  |some v=>some (true,s.put dst (.v v))
  |none=>none
 |_,_=>none
def EK.plain:EK→Bool
 |.bool | .int | .str=>true
 |.st _=>true
 |_=>false
def EK.wide:EK→Bool
 |.st _=>true
 |_=>false
def By:AV→Bool
 |.bool _=>true
 |.int _ _=>true
 |.str _=>true
 |_=>false
def xi:AV→AV→Bool
 |.bool a,.bool b=>a == b
 |.int k a,.int l b=>decide (k=l)&&a == b
 |.str a,.str b=>a == b
 |_,_=>false
def tx:List AV→List AV→Bool
 |[],[]=>true
 |a :: l,b :: r=>xi a b&&tx l r
 |_,_=>false
def rT:AV→AV→Bool
 |.agg xs,.agg ys=>tx xs ys
 |_,_=>false
def Kg (e:EK) (a b:AV):Option Bool:=match pN e a b with
 |some true=>bif e.wide&&!rT a b then none else some true
 |r=>r
def lB (e:EK) (k:AV):List (AV × AV)→Option (Option AV)
 |[]=>some none
 |(k',v) :: l=>match Kg e k k' with
  |some true=>some (some v)
  |some false=>lB e k l
  |none=>none
def zh (e:EK) (k v:AV):List (AV × AV)→Option (List (AV × AV))
 |[]=>some [(k,v)]
 |(k',v') :: l=>match Kg e k k' with
  |some true=>some ((k,v) :: l)
  |some false=>match zh e k v l with
   |some r=>some ((k',v') :: r)
   |none=>none
  |none=>none
def kR:EK→AV→Bool
 |.bool,.bool _=>true
 |.int,.int _ _=>true
 |.str,.str _=>true
 |.st fs,.agg cs=>cs.all By&&(zg fs cs cs).isSome
 |_,_=>false
def mapOf (s:St):SV→Option (List (AV × AV))
 |.v .nL=>some []
 |.v (.map id)=>match nth s.G id with
  |some (.map es)=>some es
  |_=>none
 |_=>none
def qo (G:List GO) (id:Nat):List Nat:=match nth G id with
 |some (.bt fs _ _)=>fs
 |_=>[]
def H5 (E:Env) (G:List GO) (t:TypeId) (z:AV):AV:=match E.elg t,z with
 |some (.bt e sz _),.list .nil _ []=>match ml G sz e 0 with
  |some id=>.list (.bt id (qo G id).length) sz []
  |none=>z
 |_,_=>z
def my (E:Env) (s:St) (t:TypeId) (m k:SV):Option (AV × Bool):=match E.ti t,mapOf s m,k with
 |some i,some es,.v k=>match i.k with
  |.map kt _ (some z)=>match E.ti kt with
   |some j=>if j.ek.plain&&kR j.ek k then match lB j.ek k es with
     |some (some v)=>some (v,true)
     |some none=>some (z,false)
     |none=>none
    else none
   |none=>none
  |_=>none
 |_,_,_=>none
def pT (E:Env) (s:St) (t:TypeId) (m k:SV):Option (AV × Bool):=match my E s t m k with
 |some (v,false)=>some (H5 E s.G t v,false)
 |r=>r
def ia (E:Env) (s:St) (t:TypeId) (m k x:SV):Option St:=match E.ti t,m,k,x with
 |some i,.v (.map id),.v k,.v x=>match i.k,nth s.G id with
  |.map kt _ _,some (.map es)=>match E.ti kt with
   |some j=>if j.ek.plain&&kR j.ek k then match zh j.ek k x es with
     |some es'=>some (s.cj (aE s.G id (.map es')))
     |none=>none
    else none
   |none=>none
  |_,_=>none
 |_,_,_,_=>none
def dj (l:List UInt8) (pos:Nat):Nat × Nat:=
 bif aaK (l.getD pos 0).toNat 128 then ((l.getD pos 0).toNat,1) else Utf8.decode ⟨⟨l⟩⟩ pos
def pU (s:St) (dst:Option Tmp) (x:SV):Option St:=match x with
 |.v (.ptr id 0)=>match nth s.G id with
  |some (.jF l pos)=>bif aaK pos l.length then
    match dj l pos with
    |(c,n)=>some ((s.cj (aE s.G id (.jF l (pos+n)))).put dst (.v (.bG [.bool true,.int .i64 pos,.int .i32 c])))
   else some (s.put dst (.v (.bG [.bool false])))
  |_=>none
 |_=>none
def cR (es:List (AV × AV)) (i:Nat):AV × AV:=match nth es i with
 |some e=>e
 |none=>(jd,jd)
def YE (E:Env) (kt:TypeId):Option aL:=match E.Uo kt with
 |some p=>some p
 |none=>match E.ti kt with
  |some i=>match i.k with
   |.int k=>some (.int k)
   |.str=>some .str
   |_=>none
  |none=>none
def xj (E:Env) (t:TypeId) (e:AV × AV):Bool × AV × AV:=match E.ti t with
 |some i=>match i.k with
  |.map kt _ _=>match E.Uo t,YE E kt with
   |some pv,some pk=>(pk.fits e.1&&pv.fits e.2,pk.enc (pk.bB e.1),pv.enc (pv.bB e.2))
   |_,_=>(true,e.1,e.2)
  |_=>(true,e.1,e.2)
 |none=>(true,e.1,e.2)
def Fa (E:Env) (s:St) (dst:Option Tmp) (x:SV):Option (Bool × St × List Nat × (Nat→Bool × St)):=match x with
 |.v (.ptr id 0)=>match nth s.G id with
  |some (.kP wj n left _ t)=>match nth s.G wj with
   |some (.map es)=>some (decide (es.length=n),s.put dst (.v (.bG [.bool false])),left,
     fun i=>((xj E t (cR es i)).1,(s.cj (aE s.G id (.kP wj n (left.erase i) (some i) t))).put dst (.v (.bG [.bool true,(xj E t (cR es i)).2.1,(xj E t (cR es i)).2.2]))))
   |_=>none
  |_=>none
 |_=>none
def zi (E:Env) (s:St) (o:Oper):Option (Bool × St × List Nat × (Nat→Bool × St)):=match o.op with
 |.next x false=>Fa E s o.dst (bJ E s.af x)
 |_=>none
def Uq:AV→Option Bool
 |.list .nil _ _=>some true
 |.list .full _ _=>some false
 |.list _ _ (_ :: _)=>some false
 |.oA _ _ _ _ _=>some false
 |.eH _ _ _ _ (_+1)=>some false
 |.ql=>some true
 |.ptr _ _=>some false
 |.ep _=>some false
 |_=>none
def Kz:AV→Option Bool
 |.list .nil _ []=>some true
 |.ql=>some false
 |_=>none
def YF (P:Program) (t:TypeId):Bool:=match P.underlying t with
 |some (.slice _)=>true
 |_=>false
def YG (P:Program) (t:TypeId):Bool:=match P.underlying t with
 |some (.pointer _)=>true
 |_=>false
def slA:AV→Bool
 |.list _ _ _=>true
 |.oA _ _ _ _ _=>true
 |.eH _ _ _ _ _=>true
 |_=>false
def Ah (P:Program) (t:TypeId) (a b:AV):Bool:=match Kz b with
 |some true=>slA a&&YF P t
 |some false=>!slA a&&YG P t
 |none=>false
def YH (E:Env) (op:BinOp) (t:TypeId) (a b:AV):Option Bool:=match op,Uq a with
 |.eql,some r=>bif Ah E.P t a b then some r else none
 |.neq,some r=>bif Ah E.P t a b then some (!r) else none
 |_,_=>none
def eqO (E:Env) (op:BinOp) (t:TypeId) (a b:AV):Option Bool:=match op,E.ti t with
 |.eql,some i=>pN i.ek a b
 |.neq,some i=>match pN i.ek a b with
  |some r=>some (!r)
  |none=>none
 |_,_=>none
def nO (E:Env) (s:St) (t:TypeId) (len:Nat) (parts:List (Nat × Operand)):Option (List AV):=
 match E.ti t,TQ E s.af parts with
 |some i,some ps=>match i.k with
  |.sl _ esz _ _ (some z)=>
    if aae z.cells.length esz&&aal 1 esz&&aal (len * esz) 16777216&&z.ba then
     Ag (fun i=>some (i * esz,esz)) (aC (aas len z)) (E8 ps)
    else none
  |_=>none
 |_,_=>none
def mz (E:Env) (f:FuncId) (s:St) (o:Oper):Option St:=match o.op with
 |.buildSlice t len parts=>match o.dst with
  |some d=>if E.B7 f d then match E.ti t with
    |some i=>match i.k,cV E s t len parts.toList with
     |.sl elem _ _ _ _,some (.list _ esz es)=>some ((s.fq (.row (aC es) elem)).put (some d) (.v (.oA s.G.length 0 esz len len)))
     |.sl elem esz _ _ _,none=>match nO E s t len parts.toList with
      |some cs=>some ((s.fq (.row cs elem)).put (some d) (.v (.oA s.G.length 0 esz len len)))
      |none=>none
     |_,_=>none
    |none=>none
   else if E.B7 f (d+196608) then match E.ti t with
    |some i=>match i.k,cV E s t len parts.toList with
     |.sl elem _ _ _ _,some (.list _ esz es)=>if aal len 65536 then some ((s.fq (.bF es esz elem)).put (some d) (.v (.eH s.G.length len 0 esz len))) else none
     |_,_=>none
    |none=>none
   else if E.B7 f (d+65536) then match E.ti t with
    |some i=>match i.k,cV E s t len parts.toList with
     |.sl elem _ _ _ _,some (.list _ esz es)=>if aal len 65536 then some ((s.fq (.tok len esz elem)).put (some d) (.v (.list (.own s.G.length) esz es))) else none
     |_,_=>none
    |none=>none
   else none
  |none=>none
 |_=>none
def Fb (wk:Bool) (es:List AV):List AV:=match wk with
 |true=>es.map AV.jM
 |false=>es
def qP (wk:Bool):List AV→List GO→Bool × List AV × List GO
 |[],G=>(true,[],G)
 |.eH id f 0 sz len :: l,G=>match nth G id with
  |some (.bF es cL _)=>match qP wk l (aE G id .dead) with
   |(c,r,G')=>(decide (f=es.length)&&decide (len=es.length)&&aae sz cL&&aN (Fb wk es)&&c,.list .gZ sz (Fb wk es) :: r,G')
  |_=>match qP wk l G with
   |(_,r,G')=>(false,r,G')
 |a :: l,G=>match qP wk l G with
  |(c,r,G')=>(c,a :: r,G')
def rU (cut wk:Bool) (s:St) (t:Tmp):Option (Bool × St):=match lk s.af t with
 |.v (.eH id f off sz len)=>match nth s.G id with
  |some (.bF es cL _)=>if aae off 0&&aae sz cL then
    some (decide (f=es.length)&&(bif cut then decide (len≤es.length) else decide (len=es.length))&&aN (Fb wk es),⟨.put t (.v (.list .gZ sz (Fb wk (bif cut then es.take len else es)))) :: s.af,s.boxes,aE s.G id .dead,s.marks,s.ro,s.n⟩) else none
  |_=>none
 |.v (.ptr id 0)=>match nth s.G id with
  |some (.row cs _)=>some (aN cs,⟨.put t (.v (.ep cs)) :: s.af,s.boxes,aE s.G id .dead,s.marks,s.ro,s.n⟩)
  |_=>none
 |.v (.agg cs)=>match qP wk cs s.G with
  |(c,gr,G')=>some (c,⟨.put t (.v (.agg gr)) :: s.af,s.boxes,G',s.marks,s.ro,s.n⟩)
 |_=>none
def j8 (cut wk:Bool):List Operand→St→Bool × St
 |[],s=>(true,s)
 |.tmp t :: l,s=>match rU cut wk s t with
  |some (c,s')=>match j8 cut wk l s' with
   |(c',s2)=>(c&&c',s2)
  |none=>j8 cut wk l s
 |_ :: l,s=>j8 cut wk l s
def Ox (E:Env) (f:FuncId) (s:St) (o:Oper):Option (Bool × St):=match o.dst with
 |some d=>if E.B7 f (d+262144) then some (j8 (E.B7 f (d+393216)) (E.B7 f (d+458752)) o.op.operands.toList s) else none
 |none=>none
def tA (E:Env) (s:St) (a b:TypeId) (x:SV):Option (Bool × AV):=none
def Oy (id sz:Nat):List AV→List Nat→Option (List AV × List Nat)
 |[],fs=>some ([],fs)
 |.list .nil _ [] :: l,fs=>match Oy id sz l (fs++[0]) with
  |some (r,Gx)=>some (.list (.bt id fs.length) sz [] :: r,Gx)
  |none=>none
 |.list .full cL es :: l,fs=>if aae sz cL then match Oy id sz l (fs++[es.length]) with
   |some (r,Gx)=>some (.list (.bt id fs.length) sz es :: r,Gx)
   |none=>none
  else none
 |_ :: _,_=>none
def Bz (e:EK) (k k':AV):Bool:=match Kg e k k' with
 |some b=>b
 |none=>false
def cX (e:EK) (k:AV):List (AV × AV)→Bool
 |[]=>true
 |(k',_) :: l=>(Kg e k k').isSome&&cX e k l
def gu (e:EK) (k:AV):List (AV × AV)→Option AV
 |[]=>none
 |(k',v) :: l=>bif Bz e k k' then some v else gu e k l
def dq (e:EK) (k v:AV):List (AV × AV)→List (AV × AV)
 |[]=>[(k,v)]
 |(k',v') :: l=>bif Bz e k k' then (k,v) :: l else (k',v') :: dq e k v l
def bK (e:EK) (k z:AV) (es:List (AV × AV)):AV:=(gu e k es).getD z
def kI (e:EK) (k:AV):List (AV × AV)→Nat
 |[]=>0
 |(k',_) :: l=>bif Bz e k k' then 0 else kI e k l+1
def ng:List (AV × AV)→Nat→AV→List (AV × AV)
 |[],_,_=>[]
 |(k,_) :: l,0,x=>(k,x) :: l
 |e :: l,n+1,x=>e :: ng l n x
def zj (E:Env) (s:St) (x:SV):Option (Bool × AV):=match x with
 |.v (.ptr id 0)=>match nth s.G id with
  |some (.kP wj n _ (some i) t)=>match nth s.G wj with
   |some (.map es)=>some (decide (es.length=n)&&decide (i < n)&&(xj E t (cR es i)).1,.bG [(xj E t (cR es i)).2.1,(xj E t (cR es i)).2.2])
   |_=>none
  |_=>none
 |_=>none
def jv (E:Env) (s:St) (t:TypeId) (m k:SV):Option (Bool × AV × St):=match E.ti t,m,k with
 |some i,.v (.map id),.v k=>match i.k,nth s.G id with
  |.map kt _ (some z),some (.map es)=>match E.ti kt with
   |some j=>if j.ek.plain&&kR j.ek k then
     some (cX j.ek k es,.bG [bK j.ek k z es,.int .i64 (kI j.ek k es:Nat)],s.cj (aE s.G id (.map (dq j.ek k (bK j.ek k z es) es)))) else none
   |none=>none
  |_,_=>none
 |_,_,_=>none
def fV (s:St) (m st x:SV):Option (Bool × St):=match m,st,x with
 |.v (.map id),.v (.int .i64 n),.v v=>match nth s.G id with
  |some (.map es)=>some (decide (0≤n)&&decide (n.toNat < es.length),s.cj (aE s.G id (.map (ng es n.toNat v))))
  |_=>none
 |_,_,_=>none
def jN (E:Env) (f:FuncId) (s:St) (o:Oper):Option (Bool × St):=match o.dst with
 |some d=>if E.B7 f (d+524288) then match o.op with
   |.call { callee:=.builtin .append,args,argTypes }=>match qm E s.af args.toList,argTypes.toList with
    |some [.eH id g off sz len,.list k szy (y :: ys)],[t,u]=>match E.ti t with
     |some i=>match i.k with
      |.sl elem esz _ bz (some z)=>match E.ti elem with
       |some j=>match j.k with
        |.sl e2 MF _ _ _=>match ml s.G MF e2 0 with
         |some pI=>match Oy pI MF (y :: ys) (qo s.G pI),nth s.G id with
          |some (Oz,Gx),some (.bF es cL e')=>
           if aae szy esz&&aae cL esz&&aae e' elem&&aae sz esz&&aae t u&&aal 1 esz&&aal 1 bz&&aae z.cells.length esz&&z.ba then
            some (decide (g=es.length)&&decide (off=0)&&decide (len=g)&&decide ((es.length+(y :: ys).length) * bz≤140737488355328),
             (s.cj (aE (aE s.G pI (.bt Gx MF e2)) id (.bF (es++Oz) esz elem))).put o.dst (.v (.eH id (es.length+(y :: ys).length) 0 esz (es.length+(y :: ys).length))))
           else none
          |_,_=>none
         |none=>none
        |_=>none
       |none=>none
      |_=>none
     |none=>none
    |_,_=>none
   |_=>none
  else none
 |none=>none
def wq (E:Env) (f:FuncId) (s:St) (o:Oper):Option (Bool × St):=match o.dst with
 |some d=>if E.B7 f (d+524288) then match o.op with
   |.lookup t m k ok=>match E.elg t,E.ti t,bJ E s.af m,bJ E s.af k with
    |some (.bt e sz p),some i,.v (.map id),.v k=>match i.k,nth s.G id with
     |.map kt _ (some (.list .nil _ [])),some (.map es)=>match E.ti kt,ml s.G sz e 0 with
      |some j,some pI=>if j.ek.plain&&kR j.ek k then
        some (cX j.ek k es&&(aL.bt pI sz p).fits (bK j.ek k (.list (.bt pI (qo s.G pI).length) sz []) es),
         (s.cj (aE s.G pI (.bt (qo s.G pI++[0]) sz e))).put o.dst (.v (if ok then .bG [(aL.bt pI sz p).enc ((aL.bt pI sz p).bB (bK j.ek k (.list (.bt pI (qo s.G pI).length) sz []) es)),.bool (gu j.ek k es).isSome]
          else (aL.bt pI sz p).enc ((aL.bt pI sz p).bB (bK j.ek k (.list (.bt pI (qo s.G pI).length) sz []) es)))))
       else none
      |_,_=>none
     |_,_=>none
    |_,_,_,_=>none
   |_=>none
  else none
 |none=>none
def KA (E:Env) (f:FuncId) (s:St) (o:Oper):Option (Bool × St):=match o.op,o.dst with
 |.slice t x (some lo) none none,some d=>if E.B7 f (d+524288) then match E.ti t,bJ E s.af x,bJ E s.af lo with
   |some i,.v (.list (.own id) sz es),.v (.int _ n)=>match i.k,nth s.G id with
    |.sl _ esz _ _ _,some (.tok f0 cL e)=>
     if aae sz esz&&aae cL sz then
      some (decide (f0=es.length)&&(decide (0 < es.length)&&decide (0≤n∧n≤es.length)),(s.cj (aE s.G id .dead++[.tok (es.length - n.toNat) sz e])).put (some d) (.v (.list (.own s.G.length) sz (es.drop n.toNat))))
     else none
    |_,_=>none
   |_,_,_=>none
  else none
 |_,_=>none
def Ai (E:Env) (f:FuncId) (s:St) (o:Oper):Option (Bool × St):=match KA E f s o with
 |some r=>some r
 |none=>wq E f s o
def ahe (E:Env) (f:FuncId) (d:Option Tmp):Bool:=match d with
 |some d=>E.B7 f (d+196608)
 |none=>false
def uT:List GO→Nat→TypeId→Nat→Option Nat
 |[],_,_,_=>none
 |.bF es sz e :: G,cL,e',i=>match uT G cL e' (i+1) with
  |some j=>some j
  |none=>bif aae sz cL&&aae e e' then (match es with
   |[]=>some i
   |_=>none) else none
 |_ :: G,cL,e',i=>uT G cL e' (i+1)
def ahf (E:Env) (f:FuncId) (d:Option Tmp):Bool:=match d with
 |some d=>E.B7 f (d+589824)
 |none=>false
def rV (s:St) (dst:Option Tmp) (elem esz bz:Nat) (z:AV) (n m:Int):Option (Bool × St):=match uT s.G esz elem 0 with
 |some id=>if z.closed then some (decide (1≤n∧n≤m∧m≤140737488355328∧m * bz≤140737488355328),(s.cj (aE s.G id (.bF (aas n.toNat z) esz elem))).put dst (.v (.eH id n.toNat 0 esz n.toNat))) else none
 |none=>none
def an (E:Env) (f:FuncId) (s:St) (o:Oper):Option (Bool × St):=
 match o.op with
 |.move x=>match bJ E s.af x with
  |.v a=>some (true,s.put o.dst (.v a))
  |.lp k off=>some (true,s.put o.dst (.lp k off))
  |.none=>some (true,s.put o.dst .none)
 |.assign x=>match bJ E s.af x with
  |.v a=>some (true,s.put o.dst (.v a))
  |.lp k off=>some (true,s.put o.dst (.lp k off))
  |.none=>some (true,s.put o.dst .none)
 |.pick c a b=>match bJ E s.af c,bJ E s.af a,bJ E s.af b with
  |.v (.bool t),.v x,.v y=>some (true,s.put o.dst (.v (Gu t x y)))
  |_,_,_=>none
 |.alloc e=>match E.ti e with
  |some i=>match i.zero with
   |some z=>if z.ba then hY E f s o.dst e z.cells else none
   |none=>none
  |none=>none
 |.box t x=>match bJ E s.af x with
  |.v v=>if v.ba then hY E f s o.dst t v.cells else none
  |_=>none
 |.build t parts=>match rS E s t parts.toList with
  |some v=>some (true,s.put o.dst (.v v))
  |none=>none
 |.buildSlice t len parts=>match cV E s t len parts.toList with
  |some v=>some (true,s.put o.dst (.v v))
  |none=>none
 |.load t a=>match E9 E s t (bJ E s.af a) with
  |some (c,v)=>some (c,s.put o.dst (.v v))
  |none=>none
 |.store t a x=>match o.dst,nf E s t (bJ E s.af a) (bJ E s.af x) with
  |none,some (c,s')=>some (c,s')
  |_,_=>none
 |.binOp op t x y _=>match bJ E s.af x,bJ E s.af y with
  |.v a,.v b=>match HZ op a b with
   |some (c,v)=>some (c,s.put o.dst (.v v))
   |none=>match eqO E op t a b with
    |some r=>some (true,s.put o.dst (.v (.bool r)))
    |none=>match YH E op t a b with
     |some r=>some (true,s.put o.dst (.v (.bool r)))
     |none=>none
  |_,_=>none
 |.unOp op _ x=>match op,bJ E s.af x with
  |.not,.v (.bool b)=>some (true,s.put o.dst (.v (.bool (!b))))
  |.neg,.v (.int k n)=>some (true,s.put o.dst (.v (.int k (k.wrap (0 - n)))))
  |_,_=>none
 |.convert a b x=>match tA E s a b (bJ E s.af x) with
  |some (c,v)=>some (c,s.put o.dst (.v v))
  |none=>none
 |.nilCheck x=>match bJ E s.af x with
  |.v (.ptr id off)=>some (true,s.put o.dst (.v (.ptr id off)))
  |.v (.ep cs)=>some (true,s.put o.dst (.v (.ep cs)))
  |.lp k off=>some (true,s.put o.dst (.lp k off))
  |_=>none
 |.makeFunc (.func g) first captured=>match qm E s.af first.toList,qm E s.af captured.toList with
  |some x,some y=>some (true,s.put o.dst (.v (.fn g x y)))
  |_,_=>none
 |.fieldAddr t x j=>match oC E t (bJ E s.af x) j with
  |some p=>some (true,s.put o.dst p)
  |none=>none
 |.field t x j=>match Kv E t (bJ E s.af x) j with
  |some v=>some (true,s.put o.dst (.v v))
  |none=>none
 |.indexAddr t x ix=>match oB E t (bJ E s.af x) (bJ E s.af ix) with
  |some (c,p)=>some (c,s.put o.dst p)
  |none=>none
 |.index t x ix=>match Kw E t (bJ E s.af x) (bJ E s.af ix) with
  |some (c,v)=>some (c,s.put o.dst (.v v))
  |none=>none
 |.slice t x lo hi mx=>match pO E s.af lo,pO E s.af hi with
  |some l,some h=>match Gw E t (bJ E s.af x) l h mx with
   |some (c,v)=>some (c,s.put o.dst (.v v))
   |none=>none
  |_,_=>none
 |.extract x i=>match bJ E s.af x with
  |.v (.bG vs)=>match nth vs i with
   |some v=>some (true,s.put o.dst (.v v))
   |none=>none
  |_=>none
 |.makeSlice t l c=>match E.ti t,bJ E s.af l,bJ E s.af c with
  |some i,.v (.int _ n),.v (.int _ m)=>match i.k with
   |.sl elem esz _ bz (some z)=>
    if aae z.cells.length esz&&aal 1 esz&&z.ba then
     if ahf E f o.dst then rV s o.dst elem esz bz z n m
     else if ahe E f o.dst then (if z.closed then some (decide (0≤n∧n≤m∧m≤140737488355328∧m * bz≤140737488355328),
      (s.fq (.bF (aas n.toNat z) esz elem)).put o.dst (.v (.eH s.G.length n.toNat 0 esz n.toNat))) else none)
     else some (decide (0≤n∧n≤m∧m≤140737488355328∧m * bz≤140737488355328),
      (s.fq (.row (aC (aas m.toNat z)) elem)).put o.dst (.v (.oA s.G.length 0 esz n.toNat m.toNat)))
    else none
   |_=>none
  |_,_,_=>none
 |.lookup t m k ok=>match pT E s t (bJ E s.af m) (bJ E s.af k) with
  |some (v,b)=>some (true,s.put o.dst (.v (if ok then .bG [v,.bool b] else v)))
  |none=>none
 |.mapUpdate t m k x=>match o.dst,ia E s t (bJ E s.af m) (bJ E s.af k) (bJ E s.af x) with
  |none,some s'=>some (true,s')
  |_,_=>none
 |.insert t m k x=>match o.dst,ia E s t (bJ E s.af m) (bJ E s.af k) (bJ E s.af x) with
  |none,some s'=>some (true,s')
  |_,_=>none
 |.entry x=>match zj E s (bJ E s.af x) with
  |some (c,v)=>some (c,s.put o.dst (.v v))
  |none=>none
 |.mapEntry t m k=>match jv E s t (bJ E s.af m) (bJ E s.af k) with
  |some (c,v,s')=>some (c,s'.put o.dst (.v v))
  |none=>none
 |.entryStore _ m st x=>match o.dst,fV s (bJ E s.af m) (bJ E s.af st) (bJ E s.af x) with
  |none,some (c,s')=>some (c,s')
  |_,_=>none
 |.range t x=>match E.ti t,bJ E s.af x with
  |some i,.v (.str l)=>match i.k with
   |.str=>some (true,(s.fq (.jF l 0)).put o.dst (.v (.ptr s.G.length 0)))
   |_=>none
  |some i,.v (.map id)=>match i.k,nth s.G id with
   |.map _ _ _,some (.map es)=>some (true,(s.fq (.kP id es.length (List.range es.length) none t)).put o.dst (.v (.ptr s.G.length 0)))
   |_,_=>none
  |_,_=>none
 |.next x true=>match pU s o.dst (bJ E s.af x) with
  |some s'=>some (true,s')
  |none=>none
 |.makeMap _ none=>some (true,(s.fq (.map [])).put o.dst (.v (.map s.G.length)))
 |.call { callee:=.builtin b,args,argTypes }=>match jN E f s o with
  |some r=>some r
  |none=>match qm E s.af args.toList with
   |some l=>dm E s o.dst b l argTypes.toList
   |none=>none
 |_=>none
end Go.Am
namespace Go.Am
open Go
inductive TR where
 |bL
 |full (f:Nat)
 |tok (f b c:Nat)
inductive RO where
 |none
 |bL
 |cu (b:Nat)
 |tok (f b c k:Nat)
 |bt (ts:List TR)
def RO.has:RO→Nat→Prop
 |.none,_=>False
 |.bL,_=>False
 |.cu b,x=>x=b
 |.tok _ b _ _,x=>x=b
 |.bt ts,x=>∃ j f c,nth ts j=some (.tok f x c)
def ly (sz:Nat) (es:List AV):Prop:=∀ e∈es,e.cells.length=sz∧e.ba=true∧e.closed=true
def eW (sz:Nat) (es:List AV):Prop:=∀ e∈es,e.cells.length=sz∧e.ba=true
theorem ly.g {sz:Nat} {es:List AV} (h:ly sz es):eW sz es:=fun e he=>⟨(h e he).1,(h e he).2.1⟩
structure aj where
 I:Nat→Nat→Prop
 obj:List RO
def QB (b o len cap:Nat):RO→Prop
 |.none=>True
 |.bL=>False
 |.cu _=>False
 |.tok f b' c' k'=>len≤f∧(len=f→b=b'∧(o=k'∨cap=0)∧cap=c')
 |.bt _=>False
def Ur (b o len cap:Nat):TR→Prop
 |.bL=>False
 |.full f=>len≤f∧(len=f→cap=len)
 |.tok f b' c'=>len≤f∧(len=f→b=b'∧o=0∧cap=c')
def ado (b o len cap j:Nat):RO→Prop
 |.none=>True
 |.bL=>False
 |.cu _=>False
 |.tok _ _ _ _=>False
 |.bt ts=>∃ t,nth ts j=some t∧Ur b o len cap t
def zk:RO→Prop
 |.none=>True
 |.bL=>False
 |.cu _=>False
 |.tok _ _ _ _=>False
 |.bt _=>True
def qp:RO→Prop
 |.none=>True
 |.bL=>True
 |.cu _=>False
 |.tok f _ _ _=>1≤f
 |.bt _=>False
def OA (b o f off sz cap:Nat):RO→Prop
 |.none=>True
 |.bL=>False
 |.cu _=>False
 |.tok f' b' c' _=>f≤f'∧(f=f'→b=b'∧off+cap=c'∧(o=off * sz∨cap=0))
 |.bt _=>False
def QC (b o f i off sz:Nat):RO→Prop
 |.none=>True
 |.bL=>False
 |.cu _=>False
 |.tok f' b' _ _=>f≤f'∧(f=f'→b=b'∧o=i * sz+off)
 |.bt _=>False
def Gy (R:aj) (k:LK) (b o len cap:Nat):Prop:=match k with
 |.nil=>False
 |.full=>cap=len
 |.gZ=>True
 |.own id=>∃ ro,nth R.obj id=some ro∧QB b o len cap ro
 |.bt id j=>∃ ro,nth R.obj id=some ro∧ado b o len cap j ro
mutual
inductive Rel (R:aj) (w:World):AV→Value→Prop
 |bool (b:Bool):Rel R w (.bool b) (.bool b)
 |int (k:IntKind) (n:Int):Rel R w (.int k n) (.int k n)
 |str (l:List UInt8):Rel R w (.str l) (.string ⟨⟨l⟩⟩)
 |agg {cs:List AV} {vs:List Value} (h:aW R w cs vs) (h1:∀ v∈vs,v.oneCell'=true):Rel R w (.agg cs) (.agg ⟨vs⟩)
 |bG {cs:List AV} {vs:List Value} (h:aW R w cs vs):Rel R w (.bG cs) (.tuple ⟨vs⟩)
 |ql:Rel R w .ql (.pointer none)
 |ptr {id off b:Nat} (h:nth R.obj id=some (.cu b)):Rel R w (.ptr id off) (.pointer (some ⟨b,off,none⟩))
 |ep {cs:List AV} {b o:Nat} (h:gz R w b o cs):Rel R w (.ep cs) (.pointer (some ⟨b,o,none⟩))
 |lF {sz:Nat}:Rel R w (.list .nil sz []) (.slice none 0 0)
 |kS {sz:Nat}:Rel R w (.list .gZ sz []) (.slice none 0 0)
 |qt {sz:Nat} {a:Addr}:Rel R w (.list .gZ sz []) (.slice (some a) 0 0)
 |nP {id sz:Nat} {ro:RO} (h:nth R.obj id=some ro) (ho:qp ro):Rel R w (.list (.own id) sz []) (.slice none 0 0)
 |pP {id j sz:Nat} {ro:RO} (h:nth R.obj id=some ro) (ho:zk ro):Rel R w (.list (.bt id j) sz []) (.slice none 0 0)
 |list {k:LK} {sz:Nat} {es:List AV} {b o len cap:Nat} (h:jO R w b o sz es) (hl:len=es.length) (hc:len≤cap) (hk:Gy R k b o len cap):Rel R w (.list k sz es) (.slice (some ⟨b,o,none⟩) len cap)
 |oA {id off sz len cap b:Nat} (h:nth R.obj id=some (.cu b)) (hc:len≤cap):Rel R w (.oA id off sz len cap) (.slice (some ⟨b,off,none⟩) len cap)
 |nh {id sz:Nat} {ro:RO} (h:nth R.obj id=some ro) (ho:qp ro):Rel R w (.eH id 0 0 sz 0) (.slice none 0 0)
 |eH {id f off sz len cap b o:Nat} {ro:RO} (h:nth R.obj id=some ro) (ho:OA b o f off sz cap ro) (hc:len≤cap):Rel R w (.eH id f off sz len) (.slice (some ⟨b,o,none⟩) len cap)
 |gp {id f i off sz b o:Nat} {t:TypeId} {ro:RO} (h:nth R.obj id=some ro) (ho:QC b o f i off sz ro):Rel R w (.gp id f i off sz t) (.pointer (some ⟨b,o,none⟩))
 |nL:Rel R w .nL (.map none)
 |map {id b:Nat} (h:nth R.obj id=some (.cu b)):Rel R w (.map id) (.map (some b))
 |fC:Rel R w .fC .nilFunc
 |fn {f:FuncId} {xs ys:List AV} {vs us:List Value} (h:aW R w xs vs) (h':aW R w ys us):Rel R w (.fn f xs ys) (.func (.func f) ⟨vs⟩ ⟨us⟩)
 |yield {id b:Nat} (h:nth R.obj id=some (.cu b)):Rel R w (.yield id) (.func (.yield b) #[] #[])
 |vz:Rel R w .vz .nilIface
 |iface {t:TypeId} {v:AV} {c:Value} (h:Rel R w v c):Rel R w (.iface t v) (.iface t c)
inductive aW (R:aj) (w:World):List AV→List Value→Prop
 |nil:aW R w [] []
 |cons {a:AV} {c:Value} {l:List AV} {cs:List Value} (h:Rel R w a c) (t:aW R w l cs):aW R w (a :: l) (c :: cs)
inductive jO (R:aj) (w:World):Nat→Nat→Nat→List AV→Prop
 |nil {b o sz:Nat}:jO R w b o sz []
 |cons {b o sz:Nat} {e:AV} {es:List AV} (hl:e.cells.length=sz) (ht:e.ba=true) (hk:e.closed=true) (h:gz R w b o e.cells) (t:jO R w b (o+sz) sz es):jO R w b o sz (e :: es)
inductive gz (R:aj) (w:World):Nat→Nat→List AV→Prop
 |nil {b o:Nat}:gz R w b o []
 |cons {b o:Nat} {a:AV} {c:Value} {l:List AV} (hc:w.cell? ⟨b,o,none⟩=some c) (h1:c.oneCell'=true) (hi:R.I b o) (h:Rel R w a c) (t:gz R w b (o+1) l):gz R w b o (a :: l)
end
def qv:TR→TR→Prop
 |.bL,.bL=>True
 |.bL,.full _=>False
 |.bL,.tok f _ _=>1≤f
 |.full _,.bL=>False
 |.full f,.full f'=>f'=f
 |.full f,.tok f' _ _=>f < f'
 |.tok _ _ _,.bL=>False
 |.tok _ _ _,.full _=>False
 |.tok f b c,.tok f' b' c'=>f≤f'∧(f'=f→b'=b∧c'=c)
theorem qv.refl (t:TR):qv t t:=by cases t <;> simp [qv]
theorem qv.trans {a b c:TR} (h:qv a b) (k:qv b c):qv a c:=by
 cases a <;> cases b <;> cases c <;> simp only [qv] at * <;> omega
def zl (ts ts':List TR):Prop:=∀ j t,nth ts j=some t→∃ t',nth ts' j=some t'∧qv t t'
theorem zl.refl (ts:List TR):zl ts ts:=fun _ t h=>⟨t,h,qv.refl t⟩
theorem zl.trans {a b c:List TR} (h:zl a b) (k:zl b c):zl a c:=fun j t hj=>
 let ⟨_,h1,h2⟩:=h j t hj
 let ⟨t2,k1,k2⟩:=k j _ h1
 ⟨t2,k1,h2.trans k2⟩
def di:RO→RO→Prop
 |.none,r=>r=.none
 |.cu b,r=>r=.cu b
 |.bL,.none=>True
 |.bL,.bL=>True
 |.bL,.cu _=>False
 |.bL,.tok f _ _ _=>1≤f
 |.tok _ _ _ _,.none=>True
 |.tok _ _ _ _,.bL=>False
 |.tok _ _ _ _,.cu _=>False
 |.tok f b c k,.tok f' b' c' k'=>f≤f'∧(f'=f→b'=b∧c'=c∧k'=k)
 |.bL,.bt _=>False
 |.tok _ _ _ _,.bt _=>False
 |.bt _,.none=>True
 |.bt _,.bL=>False
 |.bt _,.cu _=>False
 |.bt _,.tok _ _ _ _=>False
 |.bt ts,.bt ts'=>zl ts ts'
theorem di.refl (r:RO):di r r:=by cases r <;> simp [di,zl.refl]
theorem di.trans {a b c:RO} (h:di a b) (k:di b c):di a c:=by
 cases a with
 |none=>simp only [di] at h; subst h; exact k
 |cu x=>simp only [di] at h; subst h; exact k
 |bL=>
  cases b with
  |none=>simp only [di] at k; subst k; trivial
  |bL=>exact k
  |cu z=>exact h.elim
  |tok f' x' y' z'=>
   cases c with
   |none=>trivial
   |bL=>exact k.elim
   |cu z=>exact k.elim
   |bt _=>exact k.elim
   |tok f'' x'' y'' z''=>simp only [di] at *; omega
  |bt _=>exact h.elim
 |tok f x y z0=>
  cases b with
  |none=>simp only [di] at k; subst k; trivial
  |bL=>exact h.elim
  |cu z=>exact h.elim
  |tok f' x' y' z'=>
   cases c with
   |none=>trivial
   |bL=>exact k.elim
   |cu z=>exact k.elim
   |tok f'' x'' y'' z''=>
    simp only [di] at *;refine ⟨Nat.le_trans h.1 k.1,fun e=>?_⟩;obtain ⟨h1,h2⟩:=h; obtain ⟨k1,k2⟩:=k;have e1:f'=f:=by omega
    have e2:f''=f':=by omega
    exact ⟨(k2 e2).1.trans (h2 e1).1,(k2 e2).2.1.trans (h2 e1).2.1,(k2 e2).2.2.trans (h2 e1).2.2⟩
   |bt _=>exact k.elim
  |bt _=>exact h.elim
 |bt ts=>
  cases b with
  |none=>simp only [di] at k; subst k; trivial
  |bL=>exact h.elim
  |cu z=>exact h.elim
  |tok f' x' y' z'=>exact h.elim
  |bt ts'=>
   cases c with
   |none=>trivial
   |bL=>exact k.elim
   |cu z=>exact k.elim
   |tok f' x' y' z'=>exact k.elim
   |bt ts''=>exact zl.trans h k
def tC (r r':Loop):Prop:=r'.tmps=r.tmps∧r'.params=r.params∧r'.assign=r.assign∧r'.body=r.body∧r'.defers=r.defers
def gF (w w':World):Prop:=∀ (b:Nat) (r:Loop),w.heap[b]?=some (Obj.loop r)→∃ r',w'.heap[b]?=some (Obj.loop r')∧tC r r'
theorem gF.refl (w:World):gF w w:=fun _ r h=>⟨r,h,rfl,rfl,rfl,rfl,rfl⟩
theorem gF.trans {w w1 w2:World} (h:gF w w1) (k:gF w1 w2):gF w w2:=fun b r hb=>
 let ⟨_,h1,h2,h3,h4,h5,h6⟩:=h b r hb
 let ⟨r2,k1,k2,k3,k4,k5,k6⟩:=k b _ h1
 ⟨r2,k1,k2.trans h2,k3.trans h3,k4.trans h4,k5.trans h5,k6.trans h6⟩
theorem gF.old {w w':World} (h:∀ b,b < w.heap.size→w'.heap[b]?=w.heap[b]?):gF w w':=fun b r hb=>
 ⟨r,(h b (by
  rcases Nat.lt_or_ge b w.heap.size with cI|Fc
  ·exact cI
  ·rw [Array.getElem?_eq_none Fc] at hb; cases hb)).trans hb,rfl,rfl,rfl,rfl,rfl⟩
structure Ext (R:aj) (w:World) (R':aj) (w':World):Prop where
 I:∀ b o,R.I b o→R'.I b o
 cell:∀ b o,R.I b o→w'.cell? ⟨b,o,none⟩=w.cell? ⟨b,o,none⟩
 obj:∀ id ro,nth R.obj id=some ro→∃ qM,nth R'.obj id=some qM∧di ro qM
 lp:gF w w'
theorem Ext.refl (R:aj) (w:World):Ext R w R w:=⟨fun _ _ h=>h,fun _ _ _=>rfl,fun _ ro h=>⟨ro,h,di.refl ro⟩,gF.refl w⟩
theorem Ext.trans {R R' QD:aj} {w w' Us:World} (h:Ext R w R' w') (k:Ext R' w' QD Us):Ext R w QD Us:=
 ⟨fun b o hi=>k.I b o (h.I b o hi),fun b o hi=>(k.cell b o (h.I b o hi)).trans (h.cell b o hi),fun id ro hr=>
  let ⟨_,h1,h2⟩:=h.obj id ro hr
  let ⟨r2,h3,h4⟩:=k.obj id _ h1
  ⟨r2,h3,h2.trans h4⟩,h.lp.trans k.lp⟩
theorem Ext.cu {R R':aj} {w w':World} (h:Ext R w R' w') {id b:Nat} (hb:nth R.obj id=some (.cu b)):nth R'.obj id=some (.cu b):=by
 obtain ⟨r,h1,h2⟩:=h.obj id _ hb;simp only [di] at h2;subst h2;exact h1
theorem Gy.mono {R R':aj} {w w':World} (e:Ext R w R' w') {k:LK} {b o len cap:Nat} (h:Gy R k b o len cap):Gy R' k b o len cap:=by
 cases k with
 |nil=>exact h
 |full=>exact h
 |gZ=>trivial
 |own id=>
  obtain ⟨ro,h1,h2⟩:=h;obtain ⟨qM,h3,h4⟩:=e.obj id ro h1;refine ⟨qM,h3,?_⟩;cases ro with
  |none=>simp only [di] at h4; subst h4; trivial
  |bL=>exact h2.elim
  |cu x=>exact h2.elim
  |tok f x y z0=>
   cases qM with
   |none=>trivial
   |bL=>exact h4.elim
   |cu z=>exact h4.elim
   |tok f' x' y' z'=>
    simp only [di,QB] at *;refine ⟨by omega,fun e=>?_⟩;have e1:f'=f:=by omega
    have h5:=h2.2 (by omega);have h6:=h4.2 e1;exact ⟨h5.1.trans h6.1.symm,h5.2.1.imp (fun q=>q.trans h6.2.2.symm) (fun q=>q),h5.2.2.trans h6.2.1.symm⟩
   |bt _=>exact h4.elim
  |bt _=>exact h2.elim
 |bt id j=>
  obtain ⟨ro,h1,h2⟩:=h;obtain ⟨qM,h3,h4⟩:=e.obj id ro h1;refine ⟨qM,h3,?_⟩;cases ro with
  |none=>simp only [di] at h4; subst h4; trivial
  |bL=>exact h2.elim
  |cu x=>exact h2.elim
  |tok _ _ _ _=>exact h2.elim
  |bt ts=>
   cases qM with
   |none=>trivial
   |bL=>exact h4.elim
   |cu z=>exact h4.elim
   |tok _ _ _ _=>exact h4.elim
   |bt ts'=>
    obtain ⟨t,k1,k2⟩:=h2;obtain ⟨t',k3,k4⟩:=h4 j t k1;refine ⟨t',k3,?_⟩;cases t with
    |bL=>exact k2.elim
    |full f=>
     cases t' with
     |bL=>exact k4.elim
     |full f'=>simp only [qv,Ur] at *; subst k4; exact k2
     |tok f' x' y'=>simp only [qv,Ur] at *; exact ⟨by omega,fun e=>by omega⟩
    |tok f x y=>
     cases t' with
     |bL=>exact k4.elim
     |full f'=>exact k4.elim
     |tok f' x' y'=>
      simp only [qv,Ur] at *;refine ⟨by omega,fun e=>?_⟩;have e1:f'=f:=by omega
      have h5:=k2.2 (by omega);have h6:=k4.2 e1;exact ⟨h5.1.trans h6.1.symm,h5.2.1,h5.2.2.trans h6.2.symm⟩
theorem qp.mono {ro qM:RO} (h:qp ro) (e:di ro qM):qp qM:=by
 cases ro with
 |none=>simp only [di] at e; subst e; trivial
 |bL=>cases qM <;> first | trivial | exact e.elim | exact e
 |cu _=>exact h.elim
 |tok f x y z0=>
  cases qM with
  |none=>trivial
  |bL=>exact e.elim
  |cu z=>exact e.elim
  |tok f' x' y' z'=>simp only [di,qp] at *; omega
  |bt _=>exact e.elim
 |bt _=>exact h.elim
theorem zk.mono {ro qM:RO} (h:zk ro) (e:di ro qM):zk qM:=by
 cases ro with
 |none=>simp only [di] at e; subst e; trivial
 |bL=>exact h.elim
 |cu _=>exact h.elim
 |tok _ _ _ _=>exact h.elim
 |bt ts=>
  cases qM with
  |none=>trivial
  |bL=>exact e.elim
  |cu z=>exact e.elim
  |tok _ _ _ _=>exact e.elim
  |bt ts'=>trivial
theorem OA.mono {b o f off sz cap:Nat} {ro qM:RO} (h:OA b o f off sz cap ro) (e:di ro qM):OA b o f off sz cap qM:=by
 cases ro with
 |none=>simp only [di] at e; subst e; trivial
 |bL=>exact h.elim
 |cu _=>exact h.elim
 |tok f1 x y z0=>
  cases qM with
  |none=>trivial
  |bL=>exact e.elim
  |cu z=>exact e.elim
  |tok f' x' y' z'=>
   simp only [di,OA] at *;refine ⟨by omega,fun k=>?_⟩;obtain ⟨e1,e2,_⟩:=e.2 (by omega);obtain ⟨h1,h2,h3⟩:=h.2 (by omega);exact ⟨h1.trans e1.symm,h2.trans e2.symm,h3⟩
  |bt _=>exact e.elim
 |bt _=>exact h.elim
theorem QC.mono {b o f i off sz:Nat} {ro qM:RO} (h:QC b o f i off sz ro) (e:di ro qM):QC b o f i off sz qM:=by
 cases ro with
 |none=>simp only [di] at e; subst e; trivial
 |bL=>exact h.elim
 |cu _=>exact h.elim
 |tok f1 x y z0=>
  cases qM with
  |none=>trivial
  |bL=>exact e.elim
  |cu z=>exact e.elim
  |tok f' x' y' z'=>
   simp only [di,QC] at *;refine ⟨by omega,fun k=>?_⟩;obtain ⟨e1,e2,_⟩:=e.2 (by omega);obtain ⟨h1,h2⟩:=h.2 (by omega);exact ⟨h1.trans e1.symm,h2⟩
  |bt _=>exact e.elim
 |bt _=>exact h.elim
mutual
theorem Rel.mono {R R':aj} {w w':World} (e:Ext R w R' w'):∀ {a:AV} {c:Value},Rel R w a c→Rel R' w' a c
 |_,_,.bool b=>.bool b
 |_,_,.int k n=>.int k n
 |_,_,.str l=>.str l
 |_,_,.agg h h1=>.agg (h.mono e) h1
 |_,_,.bG h=>.bG (h.mono e)
 |_,_,.ql=>.ql
 |_,_,.ptr h=>.ptr (e.cu h)
 |_,_,.ep h=>.ep (h.mono e)
 |_,_,.lF=>.lF
 |_,_,.kS=>.kS
 |_,_,.qt=>.qt
 |_,_,.nP h ho=>let ⟨_,h3,h4⟩:=e.obj _ _ h; .nP h3 (ho.mono h4)
 |_,_,.pP h ho=>let ⟨_,h3,h4⟩:=e.obj _ _ h; .pP h3 (ho.mono h4)
 |_,_,.list h hl hc hk=>.list (h.mono e) hl hc (hk.mono e)
 |_,_,.oA h hc=>.oA (e.cu h) hc
 |_,_,.nh h ho=>let ⟨_,h3,h4⟩:=e.obj _ _ h; .nh h3 (ho.mono h4)
 |_,_,.eH h ho hc=>let ⟨_,h3,h4⟩:=e.obj _ _ h; .eH h3 (ho.mono h4) hc
 |_,_,.gp h ho=>let ⟨_,h3,h4⟩:=e.obj _ _ h; .gp h3 (ho.mono h4)
 |_,_,.nL=>.nL
 |_,_,.map h=>.map (e.cu h)
 |_,_,.fC=>.fC
 |_,_,.fn h h'=>.fn (h.mono e) (h'.mono e)
 |_,_,.yield h=>.yield (e.cu h)
 |_,_,.vz=>.vz
 |_,_,.iface h=>.iface (h.mono e)
theorem aW.mono {R R':aj} {w w':World} (e:Ext R w R' w'):∀ {l:List AV} {cs:List Value},aW R w l cs→aW R' w' l cs
 |_,_,.nil=>.nil
 |_,_,.cons h t=>.cons (h.mono e) (t.mono e)
theorem jO.mono {R R':aj} {w w':World} (e:Ext R w R' w'):∀ {b o sz:Nat} {l:List AV},jO R w b o sz l→jO R' w' b o sz l
 |_,_,_,_,.nil=>.nil
 |_,_,_,_,.cons hl ht hk h t=>.cons hl ht hk (h.mono e) (t.mono e)
theorem gz.mono {R R':aj} {w w':World} (e:Ext R w R' w'):∀ {b o:Nat} {l:List AV},gz R w b o l→gz R' w' b o l
 |_,_,_,.nil=>.nil
 |_,_,_,.cons hc h1 hi h t=>.cons ((e.cell _ _ hi).trans hc) h1 (e.I _ _ hi) (h.mono e) (t.mono e)
end
end Go.Am
namespace Go.Am
open Go
section lists
variable {α:Type}
theorem bg (l:List α) (n:Nat):nth l n=l[n]?:=by
 induction l generalizing n with
 |nil=>simp [nth]
 |cons a l ih=>cases n <;> simp [nth,ih]
theorem fh (l:List α) (n:Nat) (x:α):aE l n x=l.set n x:=by
 induction l generalizing n with
 |nil=>simp [aE]
 |cons a l ih=>cases n <;> simp [aE,ih]
theorem bA {l:List α} {n:Nat} {x:α} (h:nth l n=some x):n < l.length:=by
 rw [bg] at h;exact (aax.1 h).1
theorem aB {l:List α} {n:Nat} {x y:α} (h:nth l n=some y):nth (aE l n x) n=some x:=by
 have:=bA h;rw [bg,fh,aaA this]
theorem bn {l:List α} {n m:Nat} {x:α} (h:n≠m):nth (aE l n x) m=nth l m:=by
 rw [bg,fh,bg,List.getElem?_set_ne h]
theorem fA {l:List α} {n m:Nat} {x y:α} (h:nth (aE l n x) m=some y):(n=m∧y=x∧m < l.length)∨(n≠m∧nth l m=some y):=by
 by_cases e:n=m
 ·subst e;have hl:=bA h;rw [fh,List.length_set] at hl;rw [bg,fh,aaA hl] at h;exact .inl ⟨rfl,(aa0 h).symm,hl⟩
 ·rw [bn e] at h;exact .inr ⟨e,h⟩
@[simp] theorem kr (l:List α) (n:Nat) (x:α):(aE l n x).length=l.length:=by rw [fh,List.length_set]
theorem dH (l:List α) (x:α):nth (l++[x]) l.length=some x:=by rw [bg]; simp
theorem bM {l:List α} {n:Nat} {y x:α} (h:nth l n=some y):nth (l++[x]) n=some y:=by
 have:=bA h;rw [bg] at *;rw [aay this];exact h
theorem ak {l:List α} {n:Nat} {y x:α} (h:nth (l++[x]) n=some y):nth l n=some y∨(n=l.length∧y=x):=by
 rw [bg] at *;by_cases e:n < l.length
 ·rw [aay e] at h; exact .inl h
 ·rw [List.getElem?_append_right (by omega)] at h;have hl:=(aax.1 h).1;simp at hl;have:n - l.length=0:=by omega
  rw [this] at h;simp at h;exact .inr ⟨by omega,h.symm⟩
theorem xl:∀ {l:List α} {n:Nat} {x:α},nth l n=some x→aE l n x=l
 |[],_,_,h=>by cases h
 |a :: l,0,x,h=>by cases h; rfl
 |a :: l,n+1,x,h=>by
  show a :: aE l n x=a :: l;rw [xl (show nth l n=some x from h)]
end lists
def YI (R:aj) (w:World) (adp:bp→Array Value→Prop) (busy:Bool) (pending:Option Code) (af:bp) (n:Nat) (params:List Tmp) (assign body:Code) (defers:Nat) (done:Bool) (b:Nat):Prop:=
 ∃ (r:Loop) (db:Nat),w.heap[b]?=some (.loop r)∧r.state=(if done then .done else if busy then .busy else .ready)∧r.pending=pending ∧
  adp af r.tmps∧r.tmps.size=n∧r.params=⟨params⟩∧r.assign=assign∧r.body=body∧r.defers=db∧nth R.obj defers=some (.cu db)
def tD (R:aj) (w:World) (β:Nat→Nat):SV→Value→Prop
 |.none,_=>True
 |.v a,c=>Rel R w a c
 |.lp k off,c=>c=.pointer (some ⟨β k,off,none⟩)
def tE (R:aj) (w:World) (β:Nat→Nat) (af:bp) (tmps:Array Value):Prop:=
 ∀ i,lk af i≠.none→∃ c,tmps[i]?=some c∧tD R w β (lk af i) c
def MG:bp→Bool
 |[]=>true
 |.put _ (.lp _ _) :: _=>false
 |_ :: l=>MG l
def fc (R:aj) (w:World):List (AV × AV)→List MapEntry→Prop
 |[],[]=>True
 |(k,v) :: l,e :: es=>Rel R w k e.key∧Rel R w v e.val∧fc R w l es
 |_,_=>False
def Fe (R:aj) (w:World) (sz:Nat) (e:TypeId) (f:Nat):TR→Prop
 |.bL=>f=0
 |.full f'=>f'=f
 |.tok f' b c=>f'=f∧∃ cur,w.heap[b]?=some (.cells cur e (0,0))∧f≤c∧c≤maxLen∧cur.size=c * sz∧∀ o,f * sz≤o→¬ R.I b o
def adq (ts:List TR):Prop:=∀ i j f b c f' c',nth ts i=some (.tok f b c)→nth ts j=some (.tok f' b c')→i=j
def Ca (R:aj) (w:World) (sz:Nat) (e:TypeId) (fs:List Nat) (ts:List TR):Prop:=
 ts.length=fs.length∧adq ts∧∀ j f t,nth fs j=some f→nth ts j=some t→Fe R w sz e f t
def ni (aI:Array MapEntry) (clock:Nat):Prop:=clock=aI.size∧∀ (i:Nat) (e:MapEntry),aI.toList[i]?=some e→e.born=i
def adr (R:aj) (w:World) (wj n:Nat) (left:List Nat) (cur:Option Nat) (b:Nat):Prop:=
 ∃ bm seen c0,nth R.obj wj=some (.cu bm)∧w.heap[b]?=some (.mapIter (some bm) n seen c0)∧(∀ i,i < n→(i∈left↔seen.contains i=false))∧(∀ i∈left,i < n)∧left.Nodup∧n≤c0∧∀ i,cur=some i→seen.back?=some i∧c0=n
def jw (R:aj) (w:World):GO→RO→Prop
 |.dead,.none=>True
 |.dead,.bL=>True
 |.dead,.cu b=>b < w.heap.size
 |.dead,.tok _ b _ _=>b < w.heap.size
 |.dead,.bt ts=>∀ j f b c,nth ts j=some (.tok f b c)→b < w.heap.size
 |.bt fs sz e,.bt ts=>Ca R w sz e fs ts
 |.kP wj n left cur _,.cu b=>adr R w wj n left cur b
 |.tok f _ _,.bL=>f=0
 |.row cs el,.cu b=>∃ vs,w.heap[b]?=some (.cells ⟨vs⟩ el (0,0))∧aW R w cs vs∧(∀ v∈vs,v.oneCell'=true)∧∀ o,¬ R.I b o
 |.tok f sz e,.tok f' b c k=>f'=f∧∃ cur,w.heap[b]?=some (.cells cur e (0,0))∧f≤c∧c≤maxLen∧cur.size=k+c * sz∧∀ o,k+f * sz≤o→¬ R.I b o
 |.bF es _ _,.bL=>es=[]
 |.bF es sz e,.tok f b c k=>k=0∧f=es.length∧eW sz es∧∃ cur vs,w.heap[b]?=some (.cells cur e (0,0))∧f≤c∧c≤maxLen∧cur.size=c * sz∧(∀ o,¬ R.I b o)∧aW R w (aC es) vs∧(∀ v∈vs,v.oneCell'=true)∧cur.toList.take (f * sz)=vs
 |.map es,.cu b=>∃ aI clock,w.heap[b]?=some (.map aI clock)∧fc R w es aI.toList∧ni aI clock
 |.jF l pos,.cu b=>w.heap[b]?=some (.stringIter ⟨⟨l⟩⟩ pos)
 |.loop busy pending _ af n params assign body defers done,.cu b=>YI R w (tE R w (fun _=>0)) busy pending af n params assign body defers done b∧MG af=true
 |.defers o,.cu b=>w.heap[b]?=some (.deferred (if o then some [] else none))
 |_,_=>False
def qw (E:Env) (R:aj) (w:World) (g:Nat) (cs:List AV):Prop:=
 gz R w g 0 cs∧(E.gx g=true→R.I g cs.length∧w.cell? ⟨g,cs.length,none⟩=none)
theorem qw.mono {E:Env} {R R':aj} {w w':World} {g:Nat} {cs:List AV} (h:qw E R w g cs) (e:Ext R w R' w'):qw E R' w' g cs:=
 ⟨h.1.mono e,fun hx=>⟨e.I _ _ (h.2 hx).1,(e.cell _ _ (h.2 hx).1).trans (h.2 hx).2⟩⟩
structure gG (E:Env) (R:aj) (w:World) (G:List GO):Prop where
 len:R.obj.length=G.length
 obj:∀ id go ro,nth G id=some go→nth R.obj id=some ro→jw R w go ro
 inj:∀ i j ri rj b,nth R.obj i=some ri→nth R.obj j=some rj→ri.has b→rj.has b→i=j
 wf:∀ b o,R.I b o→b < w.heap.size
 fm:∀ g cs,E.fm g=some cs→qw E R w g cs
 lo:E.lo≤w.drawn
def Live (R:aj) (b:Nat):Prop:=∃ id ro,nth R.obj id=some ro∧ro.has b
structure Ut (R:aj) (w:World) (β:Nat→Nat) (boxes:dy):Prop where
 box:∀ k cs,eJ boxes k=some cs→(∃ vs el,w.heap[β k]?=some (.cells ⟨vs⟩ el (0,0))∧aW R w cs vs∧(∀ v∈vs,v.oneCell'=true))∧(∀ o,¬ R.I (β k) o)∧¬ Live R (β k)
 inj:∀ k k' cs gr,eJ boxes k=some cs→eJ boxes k'=some gr→β k=β k'→k=k'
def vB (R:aj):List Nat→List Deferred→Prop
 |[],[]=>True
 |id :: l,d :: ds=>(∃ b,nth R.obj id=some (.cu b)∧d={ target:=.collected b,args:=#[] })∧vB R l ds
 |_,_=>False
structure bk (E:Env) (R:aj) (w:World) (β:Nat→Nat) (s:St) (a:Act):Prop where
 g:gG E R w s.G
 b:Ut R w β s.boxes
 t:tE R w β s.af a.tmps
 n:a.tmps.size=s.n
 d:vB R s.marks a.defers
def Own (R:aj) (β:Nat→Nat) (boxes:dy) (b:Nat):Prop:=
 Live R b∨∃ k cs,eJ boxes k=some cs∧β k=b
structure Step (R:aj) (w:World) (β:Nat→Nat) (bx:dy) (R':aj) (w':World) (β':Nat→Nat) (MH:dy):Prop where
 ext:Ext R w R' w'
 os:w'.os=w.os
 tape:w'.tape=w.tape
 output:w'.output=w.output
 size:w.heap.size≤w'.heap.size
 bh:∀ b,b < w.heap.size→¬ Own R β bx b→w'.heap[b]?=w.heap[b]?
 own:∀ b,b < w.heap.size→Own R' β' MH b→Own R β bx b
 im:∀ b o,R'.I b o→b < w.heap.size→¬ Own R β bx b→R.I b o
theorem Step.refl (R:aj) (w:World) (β:Nat→Nat) (bx:dy):Step R w β bx R w β bx:=
 ⟨Ext.refl R w,rfl,rfl,rfl,Nat.le_refl _,fun _ _ _=>rfl,fun _ _ h=>h,fun _ _ h _ _=>h⟩
theorem Step.trans {R R1 R2:aj} {w w1 w2:World} {β β1 β2:Nat→Nat} {x x1 x2:dy}
  (h:Step R w β x R1 w1 β1 x1) (k:Step R1 w1 β1 x1 R2 w2 β2 x2):Step R w β x R2 w2 β2 x2 where
 ext:=h.ext.trans k.ext
 os:=k.os.trans h.os
 tape:=k.tape.trans h.tape
 output:=k.output.trans h.output
 size:=Nat.le_trans h.size k.size
 bh:=fun b hb hn=>(k.bh b (aav hb h.size) (fun ho=>hn (h.own b hb ho))).trans (h.bh b hb hn)
 own:=fun b hb ho=>h.own b hb (k.own b (aav hb h.size) ho)
 im:=fun b o hi hb hn=>h.im b o (k.im b o hi (aav hb h.size) (fun ho=>hn (h.own b hb ho))) hb hn
theorem tD.mono {R R':aj} {w w':World} {β:Nat→Nat} (e:Ext R w R' w') {x:SV} {c:Value} (h:tD R w β x c):tD R' w' β x c:=by
 cases x with
 |none=>trivial
 |v a=>exact Rel.mono e h
 |lp k off=>exact h
theorem xn (n:Nat):aae n n=true:=Nat.beq_refl n
theorem rW {n m:Nat} (h:n≠m):aae n m=false:=by
 cases hb:aae n m with
 |true=>exact absurd (Nat.eq_of_beq_eq_true hb) h
 |false=>rfl
theorem aG (l:bp) (d:Nat) (x:SV):lk (.put d x :: l) d=x:=by simp [lk]
theorem aX {l:bp} {d t:Nat} {x:SV} (h:d≠t):lk (.put d x :: l) t=lk l t:=by simp [lk,rW h]
theorem MI {l:bp} {d t:Nat}:(lk (.kill d :: l) t=lk l t∧∀ k off,lk l t=.lp k off→k≠d)∨lk (.kill d :: l) t=.none:=by
 simp only [lk];cases h:lk l t with
 |none=>exact .inr rfl
 |v a=>exact .inl ⟨rfl,fun _ _ e=>by cases e⟩
 |lp k off=>
  by_cases hk:k=d
  ·subst hk;exact .inr (by simp)
  ·exact .inl ⟨by simp [rW hk],fun k' jP e=>by cases e; exact hk⟩
theorem QE (l:dy) (d:Nat) (cs:List AV):eJ ((d,cs) :: l) d=some cs:=by simp [eJ]
theorem gH {l:dy} {d k:Nat} {cs gr:List AV} (h:eJ ((d,cs) :: l) k=some gr):(d=k∧gr=cs)∨(d≠k∧eJ l k=some gr):=by
 by_cases e:d=k
 ·subst e;rw [QE] at h;exact .inl ⟨rfl,(aa0 h).symm⟩
 ·simp only [eJ,rW e,cond_false] at h;exact .inr ⟨e,h⟩
theorem Uu {l:dy} (h:l.all (fun p=>aN p.2)=true) {k:Nat} {cs:List AV} (hk:eJ l k=some cs):aN cs=true:=by
 induction l with
 |nil=>simp [eJ] at hk
 |cons x l ih=>
  obtain ⟨d,c⟩:=x;simp only [List.all_cons,Bool.and_eq_true] at h;rcases gH hk with ⟨_,rfl⟩|⟨_,hk⟩
  ·exact h.1
  ·exact ih h.2 hk
theorem tE.put {R:aj} {w:World} {β:Nat→Nat} {af:bp} {a:Act} (h:tE R w β af a.tmps) {d:Tmp} {x:SV} {c:Value} (hd:d < a.tmps.size) (hx:tD R w β x c) :
  tE R w β (.put d x :: af) (a.put (some d) c).tmps:=by
 intro i hi;by_cases e:d=i
 ·subst e;rw [aG];exact ⟨c,by simp [Act.put,hd],hx⟩
 ·rw [aX e] at hi ⊢;obtain ⟨c',h1,h2⟩:=h i hi;refine ⟨c',?_,h2⟩;simp only [Act.put];rw [Array.getElem?_setIfInBounds_ne e];exact h1
theorem bk.put {E:Env} {R:aj} {w:World} {β:Nat→Nat} {s:St} {a:Act} (h:bk E R w β s a) (dst:Option Tmp) {x:SV} {c:Value} (hx:tD R w β x c) :
  bk E R w β (s.put dst x) (a.put dst c):=by
 cases dst with
 |none=>exact h
 |some d=>
  simp only [St.put];cases hb:aaK d s.n with
  |true=>
   have hd:d < a.tmps.size:=by rw [h.n]; exact Nat.le_of_ble_eq_true hb
   exact ⟨h.g,h.b,h.t.put hd hx,by simp [Act.put,h.n],h.d⟩
  |false=>
   have hd:¬ d < a.tmps.size:=by
    rw [h.n];intro cI;have:aaK d s.n=true:=Nat.ble_eq_true_of_le cI;rw [this] at hb;cases hb
   have he:a.put (some d) c=a:=by
    simp only [Act.put];rw [Array.setIfInBounds_eq_of_size_le (Nat.not_lt.1 hd)]
   rw [he];exact h
theorem xo {R:aj} {w:World} {v:Value} {a:AV} (h:xd v=some a):Rel R w a v∧v.oneCell'=true:=by
 unfold xd at h;split at h <;> cases h
 ·exact ⟨.bool _,rfl⟩
 ·exact ⟨.int _ _,rfl⟩
 ·rename_i s;exact ⟨.str s.data.toList,rfl⟩
 ·exact ⟨.lF,rfl⟩
 ·exact ⟨.ql,rfl⟩
 ·exact ⟨.nL,rfl⟩
 ·exact ⟨.fC,rfl⟩
 ·exact ⟨.vz,rfl⟩
theorem rX {R:aj} {w:World}:∀ {vs:List Value} {l:List AV},qO vs=some l→aW R w l vs∧∀ v∈vs,v.oneCell'=true
 |[],l,h=>by simp [qO] at h; subst h; exact ⟨.nil,by simp⟩
 |v :: vs,l,h=>by
  unfold qO at h;split at h
  ·rename_i a r h1 h2;cases h;obtain ⟨k1,k2⟩:=xo (R:=R) (w:=w) h1;obtain ⟨k3,k4⟩:=rX (R:=R) (w:=w) h2;exact ⟨.cons k1 k3,by simp [k2]; exact k4⟩
  ·cases h
theorem Aj {R:aj} {w:World} {v:Value} {a:AV} (h:xe v=some a):Rel R w a v:=by
 unfold xe at h;split at h
 ·rename_i cs;split at h
  ·rename_i l hl;cases h;obtain ⟨k1,k2⟩:=rX (R:=R) (w:=w) hl;exact .agg (vs:=cs.toList) k1 k2
  ·cases h
 ·rename_i cs;split at h
  ·rename_i l hl;cases h;obtain ⟨k1,_⟩:=rX (R:=R) (w:=w) hl;exact .bG (vs:=cs.toList) k1
  ·cases h
 ·exact (xo h).1
theorem aY {E:Env} {R:aj} {w:World} {β:Nat→Nat} {s:St} {a:Act} (h:bk E R w β s a) (x:Operand):tD R w β (bJ E s.af x) (a.eval x):=by
 cases x with
 |tmp t=>
  simp only [bJ,Act.eval];by_cases hn:lk s.af t=.none
  ·rw [hn]; trivial
  ·obtain ⟨c,h1,h2⟩:=h.t t hn;have:a.tmps.getD t undef=c:=by simp [Array.getD_eq_getD_getElem?,h1]
   rw [this];exact h2
 |const v=>
  simp only [bJ,Act.eval];cases hc:xe v with
  |none=>trivial
  |some y=>exact Aj hc
 |global g=>
  simp only [bJ,Act.eval];cases hg:E.fm g with
  |none=>trivial
  |some cs=>exact Rel.ep (h.g.fm g cs hg).1
 |func f=>exact Rel.fn .nil .nil
end Go.Am
