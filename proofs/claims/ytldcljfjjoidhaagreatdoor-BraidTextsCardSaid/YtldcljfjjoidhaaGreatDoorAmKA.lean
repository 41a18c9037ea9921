/- The abstract machine: its values,its state,and what each operation does (definitions alone). -/
import Derived.CallsIn
import Derived.RangeFuncLeaves
import Derived.Laws.AppendOwn
import Derived.Laws.CopyRow
import Derived.Laws.Slices
set_option linter.all false
open Array renaming getElem?_eq_some_iff→aap
open BitVec renaming ofInt→aaf
open Go.Op renaming bytesLess→aah
open Go.Value renaming oneCell'→aac, cells→aad
open List renaming replicate→aag, getElem?_eq_some_iff→aaF, getElem?_append_left→aaZ, getElem?_eq_getElem→aa0, getElem?_set_self→aa1
open Nat renaming beq→aab, ble→aae, min→aai, lt_of_lt_of_le→aao, blt→aa2
open Option.some renaming inj→aa7
namespace Go.Am
open Go
inductive LK where
 |nil | full | ly | own (id:Nat) | bK (id j:Nat)
inductive AV where
 |bool (b:Bool)
 |int (k:IntKind) (n:Int)
 |str (s:List UInt8)
 |agg (cs:List AV)
 |bq (vs:List AV)
 |fj
 |ptr (id off:Nat)
 |ep (cs:List AV)
 |list (k:LK) (sz:Nat) (es:List AV)
 |j7 (id off sz len cap:Nat)
 |eF (id f off sz len:Nat)
 |gp (id f i off sz:Nat) (t:TypeId)
 |ky
 |map (id:Nat)
 |cL
 |fn (f:FuncId) (first cap:List AV)
 |yield (id:Nat)
 |oV
 |iface (t:TypeId) (v:AV)
def LK.closed:LK→Bool
 |.own _=>false
 |.bK _ _=>false
 |_=>true
mutual
def AV.closed:AV→Bool
 |.agg cs=>aF cs
 |.bq cs=>aF cs
 |.ep cs=>aF cs
 |.list k _ _=>k.closed
 |.fn _ x y=>aF x&&aF y
 |.iface _ v=>v.closed
 |.ptr _ _=>false
 |.j7 _ _ _ _ _=>false
 |.eF _ _ _ _ _=>false
 |.gp _ _ _ _ _ _=>false
 |.map _=>false
 |.yield _=>false
 |_=>true
def aF:List AV→Bool
 |[]=>true
 |a :: l=>a.closed&&aF l
end
mutual
def AV.hY:AV→AV
 |.agg cs=>.agg (lH cs)
 |.bq cs=>.bq (lH cs)
 |.list (.own _) sz es=>.list .ly sz es
 |.list (.bK _ _) sz es=>.list .ly sz es
 |v=>v
def lH:List AV→List AV
 |[]=>[]
 |a :: l=>a.hY :: lH l
end
inductive SV where
 |none
 |v (a:AV)
 |lp (key off:Nat)
inductive Ent where
 |put (d:Nat) (x:SV)
 |kill (d:Nat)
abbrev bj:=List Ent
abbrev cV:=List (Nat × List AV)
def lk:bj→Nat→SV
 |[],_=>.none
 |.put d x :: l,t=>bif aab d t then x else lk l t
 |.kill d :: l,t=>match lk l t with
  |.lp k off=>bif aab k d then .none else .lp k off
  |x=>x
def dA:cV→Nat→Option (List AV)
 |[],_=>none
 |(d,cs) :: l,k=>bif aab d k then some cs else dA l k
inductive GO where
 |dead
 |row (cs:List AV) (el:TypeId)
 |tok (f sz:Nat) (e:TypeId)
 |bK (fs:List Nat) (sz:Nat) (e:TypeId)
 |oQ (rT n:Nat) (left:List Nat) (cur:Option Nat) (t:TypeId)
 |dZ (es:List AV) (sz:Nat) (el:TypeId)
 |map (es:List (AV × AV))
 |gy (s:List UInt8) (pos:Nat)
 |loop (busy:Bool) (pending:Option Code) (fn:FuncId) (ae:bj) (n:Nat) (params:List Tmp) (assign body:Code) (defers:Nat) (done:Bool)
 |defers (open_:Bool)
structure St where
 ae:bj
 boxes:cV
 G:List GO
 marks:List Nat
 ro:Option Nat
 n:Nat
def nth {α:Type}:List α→Nat→Option α
 |[],_=>none
 |a :: _,0=>some a
 |_ :: l,n+1=>nth l n
def aI {α:Type}:List α→Nat→α→List α
 |[],_,_=>[]
 |_ :: l,0,x=>x :: l
 |a :: l,n+1,x=>a :: aI l n x
def takeN {α:Type}:Nat→List α→Option (List α)
 |0,_=>some []
 |_+1,[]=>none
 |n+1,a :: l=>match takeN n l with
  |some r=>some (a :: r)
  |none=>none
def fF {α:Type}:Nat→List α→List α
 |0,l=>l
 |_+1,[]=>[]
 |n+1,_ :: l=>fF n l
def HK {α:Type} (off n:Nat) (l:List α):Option (List α):=takeN n (fF off l)
def bh {α:Type}:List α→Nat→List α→List α
 |l,_,[]=>l
 |[],_,_ :: _=>[]
 |_ :: l,0,y :: ys=>y :: bh l 0 ys
 |a :: l,n+1,y :: ys=>a :: bh l n (y :: ys)
def AV.cells:AV→List AV
 |.agg cs=>cs
 |v=>[v]
def AV.one:AV→Bool
 |.agg _=>false
 |.bq _=>false
 |_=>true
def sN:Value→Option AV
 |.bool b=>some (.bool b)
 |.int k n=>some (.int k n)
 |.string s=>some (.str s.data.toList)
 |.slice none 0 0=>some (.list .nil 0 [])
 |.pointer none=>some .fj
 |.map none=>some .ky
 |.nilFunc=>some .cL
 |.nilIface=>some .oV
 |_=>none
def mH:List Value→Option (List AV)
 |[]=>some []
 |v :: vs=>match sN v,mH vs with
  |some a,some l=>some (a :: l)
  |_,_=>none
def sO:Value→Option AV
 |.agg cs=>match mH cs.toList with
  |some l=>some (.agg l)
  |none=>none
 |.tuple cs=>match mH cs.toList with
  |some l=>some (.bq l)
  |none=>none
 |v=>sN v
inductive TK where
 |sc
 |int (k:IntKind)
 |str
 |st (fs:List (Nat × Nat × Bool))
 |arr (len esz:Nat) (adO:Bool)
 |sl (elem esz:Nat) (adO:Bool) (bR:Nat) (Zr:Option AV)
 |map (key elem:TypeId) (Zr:Option AV)
mutual
inductive EK where
 |no
 |bool
 |int
 |str
 |st (fs:Uf)
inductive Uf where
 |nil
 |cons (off sz:Nat) (ag:Bool) (k:EK) (rest:Uf)
end
structure TI where
 k:TK
 size:Nat
 agg:Bool
 zero:Option AV
 ek:EK
def jQ:TypeDesc→Bool
 |.struct _=>true
 |.array _ _=>true
 |_=>false
def fieldsOf (P:Program):List Field→Option (List (Nat × Nat × Bool))
 |[]=>some []
 |f :: fs=>match P.info? f.type,P.underlying f.type,fieldsOf P fs with
  |some i,some u,some l=>some ((f.offset,i.size,jQ u) :: l)
  |_,_,_=>none
def gb (i:TypeInfo):Option AV:=match i.zero with
 |some z=>sO z
 |none=>none
def ra (P:Program):TypeDesc→Option TK
 |.int k=>some (.int k)
 |.string=>some .str
 |.struct fs=>match fieldsOf P fs.toList with
  |some l=>some (.st l)
  |none=>none
 |.array n e=>match P.info? e,P.underlying e with
  |some i,some u=>some (.arr n i.size (jQ u))
  |_,_=>none
 |.slice e=>match P.info? e,P.underlying e with
  |some i,some u=>some (.sl e i.size (jQ u) i.bytes (gb i))
  |_,_=>none
 |.map k e=>match P.info? e with
  |some i=>some (.map k e (gb i))
  |none=>none
 |_=>some .sc
def FB (P:Program) (ek:TypeId→EK):List Field→Option Uf
 |[]=>some .nil
 | f :: fs => if f.name == "_" then none else match P.info? f.type, P.underlying f.type, FB P ek fs with
  |some i,some u,some l=>some (.cons f.offset i.size (jQ u) (ek f.type) l)
  |_,_,_=>none
def xy (sz:Nat) (ag:Bool) (k:EK):Nat→Nat→Uf
 |0,_=>.nil
 |n+1,i=>.cons (i * sz) sz ag k (xy sz ag k n (i+1))
def rk (P:Program):Nat→TypeId→EK
 |0,_=>.no
 |n+1,t=>match P.underlying t with
  |some .bool=>.bool
  |some (.int _)=>.int
  |some .string=>.str
  |some (.struct fs)=>if P.stoodInHeld t then .no else match FB P (rk P n) fs.toList with
   |some l=>.st l
   |none=>.no
  |some (.array m e)=>match P.info? e,P.underlying e with
   |some i,some u=>.st (xy i.size (jQ u) (rk P n e) m 0)
   |_,_=>.no
  |_=>.no
def vp (P:Program) (t:TypeId):EK:=match rk P 6 t with
 |.st l=>if P.eqGuardType P.depth t then .no else .st l
 |k=>k
def I6 (P:Program) (t:TypeId):Option TI:=
 match P.info? t,P.underlying t with
 |some i,some u=>match ra P u with
  |some k=>some { k:=k,size:=i.size,agg:=jQ u,zero:=gb i,ek:=vp P t }
  |none=>none
 |_,_=>none
def KV:AV→AV→Bool
 |.bool a,.bool b=>a == b
 |.int k a,.int k' b=>(k == k')&&a == b
 |.str a,.str b=>a == b
 |.fj,.fj=>true
 |.ptr i o,.ptr i' o'=>aab i i'&&aab o o'
 |.ky,.ky=>true
 |.map i,.map i'=>aab i i'
 |.cL,.cL=>true
 |.oV,.oV=>true
 |.j7 a b c d e,.j7 a' b' c' d' e'=>aab a a'&&aab b b'&&aab c c'&&aab d d'&&aab e e'
 |.eF a b c d e,.eF a' b' c' d' e'=>aab a a'&&aab c c'&&aab d d'&&(aab b b'&&aab e e')
 |.gp a b c d e t,.gp a' b' c' d' e' t'=>aab a a'&&aab b b'&&aab c c'&&aab d d'&&aab e e'&&aab t t'
 |_,_=>false
mutual
def dE:AV→AV→Bool
 |.fn f x y,.fn f' x' y'=>aab f f'&&mI x x'&&mI y y'
 |.agg cs,.agg cs'=>mI cs cs'
 |.ep cs,.ep cs'=>mI cs cs'
 |.bq cs,.bq cs'=>mI cs cs'
 |.list .nil a es,.list .nil a' es'=>aab a a'&&mI es es'
 |.list .full a es,.list .full a' es'=>aab a a'&&mI es es'
 |.list .ly a es,.list .ly a' es'=>aab a a'&&mI es es'
 |.list (.own i) a es,.list (.own i') a' es'=>aab i i'&&aab a a'&&mI es es'
 |.list (.bK i j) a es,.list (.bK i' j') a' es'=>aab i i'&&aab j j'&&aab a a'&&mI es es'
 |a,b=>KV a b
def mI:List AV→List AV→Bool
 |[],[]=>true
 |a :: l,b :: r=>dE a b&&mI l r
 |_,_=>false
end
mutual
inductive aP
 |int (k:IntKind)
 |bool
 |str
 |agg (ps:aM)
 |bq (ps:aM)
 |list (sz:Nat) (p:aP)
 |own (id sz:Nat) (p:aP)
 |bK (id sz:Nat) (p:aP)
 |bT (v:AV)
 |two (u v:AV)
inductive aM
 |nil
 |cons (p:aP) (ps:aM)
end
abbrev aM.ci (r:aM):aM:=.cons (.int .i64) r
def Zs (s:Bool) (α β:Type):Type:=match s with
 |true=>α
 |false=>α × β
def aM.isNil:aM→Bool
 |.nil=>true
 |.cons _ _=>false
mutual
def aP.T:aP→Type
 |.int _=>Int
 |.bool=>Bool
 |.str=>List UInt8
 |.agg ps=>ps.T
 |.bq ps=>ps.T
 |.list _ p=>List p.T
 |.own _ _ p=>List p.T
 |.bK _ _ p=>Nat × List p.T
 |.bT _=>Unit
 |.two _ _=>Bool
def aM.T:aM→Type
 |.nil=>Unit
 |.cons p ps=>Zs ps.isNil p.T ps.T
end
mutual
def aP.enc:(p:aP)→p.T→AV
 |.int k,(n:Int)=>.int k n
 |.bool,(b:Bool)=>.bool b
 |.str,(s:List UInt8)=>.str s
 |.agg ps,x=>.agg (ps.enc x)
 |.bq ps,x=>.bq (ps.enc x)
 |.list sz p,(xs:List p.T)=>.list .ly sz (xs.map p.enc)
 |.own id sz p,(xs:List p.T)=>.list (.own id) sz (xs.map p.enc)
 |.bK id sz p,(x:Nat × List p.T)=>.list (.bK id x.1) sz (x.2.map p.enc)
 |.bT v,_=>v
 |.two u v,(b:Bool)=>bif b then v else u
def aM.enc:(ps:aM)→ps.T→List AV
 |.nil,_=>[]
 |.cons p .nil,x=>[p.enc x]
 |.cons p (.cons q ps),x=>p.enc x.1 :: (aM.cons q ps).enc x.2
end
def Vc:IntKind→IntKind→Bool:=fun a b=>decide (a=b)
def AV.jQ:AV→List AV
 |.agg cs=>cs
 |_=>[]
def AV.Vd:AV→List AV
 |.bq cs=>cs
 |_=>[]
def AV.ea:AV→List AV
 |.list _ _ es=>es
 |_=>[]
def AV.adP:AV→Nat
 |.list (.bK _ j) _ _=>j
 |_=>0
def AV.lz:AV→Int
 |.int _ n=>n
 |_=>0
def AV.Zt:AV→Bool
 |.bool b=>b
 |_=>false
def AV.Ve:AV→List UInt8
 |.str s=>s
 |_=>[]
def eH:List AV→AV
 |a :: _=>a
 |[]=>.fj
def KW:List AV→List AV
 |_ :: l=>l
 |[]=>[]
mutual
def aP.bJ:(p:aP)→AV→p.T
 |.int _,v=>v.lz
 |.bool,v=>v.Zt
 |.str,v=>v.Ve
 |.agg ps,v=>ps.bJ v.jQ
 |.bq ps,v=>ps.bJ v.Vd
 |.list _ p,v=>v.ea.map p.bJ
 |.own _ _ p,v=>v.ea.map p.bJ
 |.bK _ _ p,v=>(v.adP,v.ea.map p.bJ)
 |.bT _,_=>()
 |.two _ v,a=>dE a v
def aM.bJ:(ps:aM)→List AV→ps.T
 |.nil,_=>()
 |.cons p .nil,l=>p.bJ (eH l)
 |.cons p (.cons q ps),l=>(p.bJ (eH l),(aM.cons q ps).bJ (KW l))
end
def allFit (f:AV→Bool):List AV→Bool
 |[]=>true
 |a :: l=>f a&&allFit f l
mutual
def aP.fits:aP→AV→Bool
 |.int k,v=>match v with
  |.int k' _=>Vc k k'
  |_=>false
 |.bool,v=>match v with
  |.bool _=>true
  |_=>false
 |.str,v=>match v with
  |.str _=>true
  |_=>false
 |.agg ps,v=>match v with
  |.agg cs=>ps.fits cs
  |_=>false
 |.bq ps,v=>match v with
  |.bq cs=>ps.fits cs
  |_=>false
 |.list sz p,v=>match v with
  |.list _ bV es=>(aab sz bV || es.isEmpty)&&allFit p.fits es
  |_=>false
 |.own id sz p,v=>match v with
  |.list (.own jP) bV es=>(aab id jP&&aab sz bV)&&allFit p.fits es
  |_=>false
 |.bK id sz p,v=>match v with
  |.list (.bK jP _) bV es=>(aab id jP&&aab sz bV)&&allFit p.fits es
  |_=>false
 |.bT v,u=>dE u v
 |.two u v,a=>dE a u || dE a v
def aM.fits:aM→List AV→Bool
 |.nil,l=>l.isEmpty
 |.cons p ps,l=>match l with
  |a :: l=>p.fits a&&ps.fits l
  |[]=>false
end
def aP.dec (p:aP) (v:AV):Option p.T:=bif p.fits v then some (p.bJ v) else none
def aM.dec (ps:aM) (l:List AV):Option ps.T:=bif ps.fits l then some (ps.bJ l) else none
structure Env where
 P:Program
 ti:TypeId→Option TI
 cr:Nat→Option (List AV)
 BZ:FuncId→Tmp→Bool
 Pv:TypeId→Option aP
 lo:Nat:=0
 gho:FuncId→Tmp→List (Option Nat × Nat × TypeId):=fun _ _=>[]
 elg:TypeId→Option aP:=fun _=>none
 gx:Nat→Bool:=fun _=>false
 I7:∀ t i,ti t=some i→I6 P t=some i
 mixed:P.follows .mixedOrders=true
 pg:∀ g cs,cr g=some cs→aF cs=true
def bP (E:Env) (ae:bj):Operand→SV
 |.tmp t=>lk ae t
 |.const v=>match sO v with
  |some a=>.v a
  |none=>.none
 |.global g=>match E.cr g with
  |some cs=>.v (.ep cs)
  |none=>.none
 |.func f=>.v (.fn f [] [])
def St.put (s:St) (dst:Option Tmp) (x:SV):St:=match dst with
 |some d=>match aa2 d s.n with
  |true=>⟨.put d x :: s.ae,s.boxes,s.G,s.marks,s.ro,s.n⟩
  |false=>s
 |none=>s
def fM:AV:=.bq []
def ug (agg:Bool) (cs:List AV):Option AV:=
 if agg then some (.agg cs) else match cs with
  |[c]=>some c
  |_=>none
def nK (s:St):SV→Option (List AV × Nat)
 |.lp k off=>match dA s.boxes k with
  |some cs=>some (cs,off)
  |none=>none
 |.v (.ptr id off)=>match nth s.G id with
  |some (.row cs _)=>some (cs,off)
  |_=>none
 |.v (.ep cs)=>some (cs,0)
 |_=>none
def AT (n:Nat):SV→Option SV
 |.lp k off=>some (.lp k (off+n))
 |.v (.ptr id off)=>some (.v (.ptr id (off+n)))
 |.v (.ep cs)=>some (.v (.ep (fF n cs)))
 |.v (.gp id f i off sz t)=>some (.v (.gp id f i (off+n) sz t))
 |_=>none
def B0 (t:Bool):AV→AV→AV
 |.bool x,.bool y=>.bool (bif t then x else y)
 |.int k x,.int k' y=>if k=k' then .int k (bif t then x else y) else (bif t then .int k x else .int k' y)
 |a,b=>bif t then a else b
def HL (ag:Bool) (off sz:Nat) (cs:List AV):Option AV:=
 if ag then (match HK off sz cs with | some l=>ug true l | none=>none) else (match HK off 1 cs with | some l=>ug false l | none=>none)
mutual
def lA:EK→AV→AV→Option Bool
 |.bool,.bool a,.bool b=>some (a == b)
 |.int,.int k a,.int k' b=>if k=k' then some (a == b) else none
 |.str,.str a,.str b=>some (a == b)
 |.st fs,.agg xs,.agg ys=>uh fs xs ys
 |_,_,_=>none
def uh:Uf→List AV→List AV→Option Bool
 |.nil,_,_=>some true
 |.cons off sz ag k rest,xs,ys=>match HL ag off sz xs,HL ag off sz ys with
  |some a,some b=>match lA k a b,uh rest xs ys with
   |some t,some u=>some (t&&u)
   |_,_=>none
  |_,_=>none
end
def I8 (k:IntKind) (a b:Int):Int:=k.wrap (aaf k.bits a &&& aaf k.bits b).toNat
def orI (k:IntKind) (a b:Int):Int:=k.wrap (aaf k.bits a ||| aaf k.bits b).toNat
def I9 (k:IntKind) (a b:Int):Int:=k.wrap (aaf k.bits a ^^^ aaf k.bits b).toNat
def Dm (op:BinOp) (x y:AV):Option (Bool × AV):=
 match x,y with
 |.int k a,.int k' b=>
  match op with
  |.shl=>some (decide (0≤b),.int k (k.wrap (a * 2 ^ (min b.toNat k.bits))))
  |.shr=>some (decide (0≤b),.int k (a.fdiv (2 ^ (min b.toNat k.bits))))
  |_=>if k=k' then
    match op with
    |.add=>some (true,.int k (k.wrap (a+b)))
    |.sub=>some (true,.int k (k.wrap (a - b)))
    |.mul=>some (true,.int k (k.wrap (a * b)))
    |.quo=>some (!(decide (b=0)),.int k (k.wrap (a.tdiv b)))
    |.rem=>some (!(decide (b=0)),.int k (a.tmod b))
    |.and=>some (true,.int k (I8 k a b))
    |.or=>some (true,.int k (orI k a b))
    |.xor=>some (true,.int k (I9 k a b))
    |.eql=>some (true,.bool (a == b))
    |.neq=>some (true,.bool (a != b))
    |.lss=>some (true,.bool (a < b))
    |.leq=>some (true,.bool (a≤b))
    |.gtr=>some (true,.bool (a > b))
    |.geq=>some (true,.bool (a≥b))
    |_=>none
   else none
 |.str a,.str b=>
  match op with
  |.add=>some (decide (a.length+b.length≤9223372036854775807),.str (a++b))
  |.eql=>some (true,.bool (a == b))
  |.neq=>some (true,.bool (!(a == b)))
  |.lss=>some (true,.bool (aah a b))
  |.leq=>some (true,.bool (aah a b || a == b))
  |.gtr=>some (true,.bool (!(aah a b || a == b)))
  |.geq=>some (true,.bool (!(aah a b)))
  |_=>none
 |_,_=>none
end Go.Am
namespace Go.Am
open Go
def St.kill (s:St) (d:Nat):St:=⟨.kill d :: s.ae,s.boxes,s.G,s.marks,s.ro,s.n⟩
def AV.a8:AV→Bool
 |.bq _=>false
 |_=>true
def St.dU (s:St) (o:GO):St:=⟨s.ae,s.boxes,s.G++[o],s.marks,s.ro,s.n⟩
def St.cH (s:St) (G:List GO):St:=⟨s.ae,s.boxes,G,s.marks,s.ro,s.n⟩
def St.wj (s:St) (d:Nat) (cs:List AV):St:=⟨s.ae,(d,cs) :: s.boxes,s.G,s.marks,s.ro,s.n⟩
def fb (E:Env) (f:FuncId) (s:St) (dst:Option Tmp) (el:TypeId) (cs:List AV):Option (Bool × St):=
 match dst with
 |none=>none
 |some d=>
  if E.BZ f d then some (true,(s.dU (.row cs el)).put (some d) (.v (.ptr s.G.length 0)))
  else match aa2 d s.n with
   |true=>some (true,((s.kill d).wj d cs).put (some d) (.lp d 0))
   |false=>none
def nL (E:Env) (ae:bj):List Operand→Option (List AV)
 |[]=>some []
 |x :: l=>match bP E ae x,nL E ae l with
  |.v a,some r=>some (a :: r)
  |_,_=>none
def Pa (E:Env) (ae:bj):List (Nat × Operand)→Option (List (Nat × AV))
 |[]=>some []
 |(i,x) :: l=>match bP E ae x,Pa E ae l with
  |.v a,some r=>some ((i,a) :: r)
  |_,_=>none
def placeOf:TK→Nat→Option (Nat × Nat)
 |.st fs,j=>match nth fs j with
  |some (o,sz,_)=>some (o,sz)
  |none=>none
 |.arr _ esz _,j=>some (j * esz,esz)
 |_,_=>none
def vq (place:Nat→Option (Nat × Nat)) (cells:List AV):List (Nat × AV)→Option (List AV)
 |[]=>some cells
 |(i,v) :: rest=>match place i with
  |none=>none
  |some (off,sz)=>
   if v.a8&&aab v.cells.length sz&&aae (off+sz) cells.length then vq place (bh cells off v.cells) rest else none
def Dn (esz:Nat) (es:List AV):List (Nat × AV)→Option (List AV)
 |[]=>some es
 |(i,v) :: rest=>
  if v.a8&&aab v.cells.length esz&&aae (i+1) es.length&&v.closed then Dn esz (aI es i v) rest else none
def nN (E:Env) (s:St) (t:TypeId) (parts:List (Nat × Operand)):Option AV:=
 match E.ti t,Pa E s.ae parts with
 |some i,some ps=>match i.zero with
  |some z=>match vq (placeOf i.k) z.cells ps with
   |some cs=>if i.agg&&z.a8 then some (.agg cs) else none
   |none=>none
  |none=>none
 |_,_=>none
def AU:List (Nat × AV)→List (Nat × AV)
 |[]=>[]
 |(i,v) :: l=>(i,v.hY) :: AU l
def cp (E:Env) (s:St) (t:TypeId) (len:Nat) (parts:List (Nat × Operand)):Option AV:=
 match E.ti t,Pa E s.ae parts with
 |some i,some ps=>match i.k with
  |.sl _ esz _ _ (some z)=>
    if aab z.cells.length esz&&aae 1 esz&&aae (len * esz) 16777216&&z.a8&&z.closed then
     match Dn esz (aag len z) (AU ps) with
     |some es=>some (.list .full esz es)
     |none=>none
    else none
  |_=>none
 |_,_=>none
def sP (E:Env) (s:St) (t:TypeId) (p:SV):Option AV:=
 match E.ti t,nK s p with
 |some i,some (cs,off)=>match HK off i.size cs with
  |some l=>ug i.agg l
  |none=>none
 |_,_=>none
def jR (E:Env) (s:St) (t:TypeId) (p x:SV):Option St:=
 match E.ti t,x with
 |some i,.v v=>
  if v.a8&&aab v.cells.length i.size then
   match p with
   |.lp k off=>match dA s.boxes k with
    |some cs=>if aae (off+v.cells.length) cs.length then some (s.wj k (bh cs off v.cells)) else none
    |none=>none
   |.v (.ptr id off)=>match nth s.G id with
    |some (.row cs el)=>if aae (off+v.cells.length) cs.length then some (s.cH (aI s.G id (.row (bh cs off v.cells) el))) else none
    |_=>none
   |_=>none
  else none
 |_,_=>none
def ah (es:List AV) (n:Nat):AV:=match nth es n with
 |some e=>e
 |none=>fM
def lI:List GO→Nat→TypeId→Nat→Option Nat
 |[],_,_,_=>none
 |.bK _ sz e :: G,bV,e',i=>match lI G bV e' (i+1) with
  |some j=>some j
  |none=>bif aab sz bV&&aab e e' then some i else none
 |_ :: G,bV,e',i=>lI G bV e' (i+1)
def aP.fin (G:List GO):aP→aP
 |.bK e sz p=>match lI G sz e 0 with
  |some id=>.bK id sz p
  |none=>.bK e sz p
 |.agg ps=>.agg (Zu ps)
 |p=>p
where
 Zu:aM→aM
  |.nil=>.nil
  |.cons p ps=>.cons (match p with
   |.bK e sz q=>match lI G sz e 0 with
    |some id=>.bK id sz q
    |none=>.bK e sz q
   |p=>p) (Zu ps)
def Ug (E:Env) (G:List GO) (t:TypeId):Option aP:=match E.elg t with
 |some p=>some (p.fin G)
 |none=>E.Pv t
def xz (E:Env) (s:St) (id f i sz:Nat) (t:TypeId):Option (Bool × AV):=match nth s.G id with
 |some (.dZ es bV _)=>match Ug E s.G t with
  |some p=>if aab sz bV then some (decide (f=es.length)&&decide (i < es.length)&&p.fits (ah es i),p.enc (p.bJ (ah es i))) else none
  |none=>if aab sz bV then some (decide (f=es.length)&&decide (i < es.length),ah es i) else none
 |_=>none
def AW (E:Env) (s:St) (t:TypeId) (p:SV):Option (Bool × AV):=match p with
 |.v (.gp id f i off sz ty)=>match E.ti t,xz E s id f i sz ty with
  |some ti,some (c,v)=>match HK off ti.size v.cells with
   |some l=>match ug ti.agg l with
    |some r=>some (c,r)
    |none=>none
   |none=>none
  |_,_=>none
 |p=>match sP E s t p with
  |some v=>some (true,v)
  |none=>none
def jS (E:Env) (s:St) (t:TypeId) (p x:SV):Option (Bool × St):=match p with
 |.v (.gp id f i off sz ty)=>match E.ti t,x,nth s.G id with
  |some ti,.v x,some (.dZ es bV el)=>
   if x.a8&&aab x.cells.length ti.size&&aab sz bV then
    if aab off 0&&aab ti.size sz then some (decide (f=es.length)&&decide (i < es.length),s.cH (aI s.G id (.dZ (aI es i x) bV el)))
    else match xz E s id f i sz ty with
     |some (c,.agg cs)=>if aae (off+ti.size) cs.length&&aab cs.length sz then some (c,s.cH (aI s.G id (.dZ (aI es i (.agg (bh cs off x.cells))) bV el))) else none
     |_=>none
   else none
  |_,_,_=>none
 |p=>match jR E s t p x with
  |some s'=>some (true,s')
  |none=>none
def kz (E:Env) (t:TypeId) (x ix:SV):Option (Bool × SV):=
 match E.ti t,ix with
 |some i,.v (.int _ n)=>match i.k,x with
  |.sl _ esz _ _ _,.v (.list _ sz es)=>if aab sz esz || es.isEmpty then
    match E.Pv t with
    |some p=>some (decide (0≤n∧n < es.length)&&p.fits (ah es n.toNat),.v (.ep (p.enc (p.bJ (ah es n.toNat))).cells))
    |none=>some (decide (0≤n∧n < es.length),.v (.ep (ah es n.toNat).cells))
   else none
  |.sl _ esz _ _ _,.v (.j7 id off sz len _)=>if aab sz esz then some (decide (0≤n∧n < len),.v (.ptr id (off+n.toNat * sz))) else none
  |.sl _ esz _ _ _,.v (.eF id f off sz len)=>if aab sz esz then some (decide (0≤n∧n < len),.v (.gp id f (off+n.toNat) 0 sz t)) else none
  |.arr len esz _,.v (.ep cs)=>match E.Pv t with
   |some p=>if aab esz 1&&aae len cs.length then some (decide (0≤n∧n < len)&&p.fits (ah cs n.toNat),.v (.ep [p.enc (p.bJ (ah cs n.toNat))])) else none
   |none=>some (decide (0≤n∧n < len),.v (.ep (fF (n.toNat * esz) cs)))
  |.arr len esz _,p=>match AT (n.toNat * esz) p with
   |some q=>some (decide (0≤n∧n < len),q)
   |none=>none
  |_,_=>none
 |_,_=>none
def kA (E:Env) (t:TypeId) (x:SV) (j:Nat):Option SV:=
 match E.ti t with
 |some i=>match i.k with
  |.st fs=>match nth fs j with
   |some (o,sz,_)=>if aae 1 sz then AT o x else none
   |none=>none
  |_=>none
 |none=>none
def FC (E:Env) (t:TypeId) (x:SV) (j:Nat):Option AV:=
 match E.ti t,x with
 |some i,.v (.agg cs)=>match i.k with
  |.st fs=>match nth fs j with
   |some (o,sz,ag)=>if ag then (match HK o sz cs with | some l=>ug true l | none=>none) else (match HK o 1 cs with | some l=>ug false l | none=>none)
   |none=>none
  |_=>none
 |_,_=>none
def FD (E:Env) (t:TypeId) (x ix:SV):Option (Bool × AV):=
 match E.ti t,x,ix with
 |some i,.v (.str l),.v (.int _ n)=>match i.k with
  |.str=>some (decide (0≤n∧n < l.length),.int .u8 (l.getD n.toNat 0).toNat)
  |_=>none
 |some i,.v (.agg cs),.v (.int _ n)=>match i.k with
  |.arr len esz ag=>match (if ag then (match HK (n.toNat * esz) esz cs with | some l=>ug true l | none=>none) else (match HK (n.toNat * esz) 1 cs with | some l=>ug false l | none=>none)) with
   |some v=>some (decide (0≤n∧n < len),v)
   |none=>none
  |_=>none
 |_,_,_=>none
def B1 (y:Nat):SV→Option (Bool × Nat)
 |.v (.int _ n)=>some (decide (0≤n∧n≤y),n.toNat)
 |_=>none
def bC {α:Type} (lo hi:Nat) (l:List α):List α:=(l.take hi).drop lo
def nO (E:Env) (ae:bj):Option Operand→Option (Option SV)
 |none=>some none
 |some x=>some (some (bP E ae x))
def FE (len:Nat) (lo hi:Option SV):Option (Bool × Nat × Nat):=
 match (match hi with | none=>some (true,len) | some h=>B1 len h) with
 |none=>none
 |some (c1,h)=>match (match lo with | none=>some (true,0) | some l=>B1 h l) with
  |none=>none
  |some (c2,l)=>some (c1&&c2,l,h)
def Zv (agg:Bool) (l:List AV):AV:=match agg with
 |true=>.agg l
 |false=>eH l
def hZ (agg:Bool) (sz:Nat):Nat→List AV→List AV
 |0,_=>[]
 |n+1,cs=>Zv agg (cs.take sz) :: hZ agg sz n (cs.drop sz)
def FF (ag:Bool) (e:AV):Bool:=e.a8&&(ag || e.one)&&e.closed
def B2 (E:Env) (t:TypeId) (x:SV) (lo hi:Option SV) (mx:Option Operand):Option (Bool × AV):=
 match E.ti t,mx with
 |some i,none=>match i.k,x with
  |.str,.v (.str l)=>match FE l.length lo hi with
   |some (c,a,b)=>some (c,.str (bC a b l))
   |none=>none
  |.sl _ esz _ _ _,.v (.list k sz es)=>
   if aab sz esz || es.isEmpty then
    match FE es.length lo hi with
    |some (c,a,b)=>some (c,.list (match k with | .nil=>.nil | .full=>(match hi with | none=>.full | some _=>.ly) | _=>.ly) esz (bC a b es))
    |none=>none
   else none
  |.sl _ esz _ _ _,.v (.j7 id off sz len cap)=>
   if aab sz esz then
    match FE len lo hi with
    |some (c,a,b)=>some (c,.j7 id (bif aab cap a then off else off+a * sz) sz (b - a) (cap - a))
    |none=>none
   else none
  |.sl _ esz _ _ _,.v (.eF id f off sz len)=>
   if aab sz esz then
    match FE len lo hi with
    |some (c,a,b)=>some (c,.eF id f (off+a) sz (b - a))
    |none=>none
   else none
  |.arr len esz ag,.v (.ep cs)=>match lo,hi with
   |none,none=>if aae (len * esz) cs.length&&aae 1 esz&&(ag || aab esz 1)&&allFit (FF ag) (hZ ag esz len cs) then some (true,.list .full esz (hZ ag esz len cs)) else none
   |_,_=>none
  |_,_=>none
 |_,_=>none
def KX (G:List GO) (id n:Nat) (f sz:Nat) (e:TypeId):List GO:=aI G id (.tok (f+n) sz e)
def Ja (fs:List Nat) (j n:Nat):List Nat:=bif aab j fs.length then fs++[n] else aI fs j n
def Pw (fs:List Nat) (j n:Nat):Bool:=decide (nth fs j=some n) || (aab j fs.length&&aab n 0)
def gd (G:List GO) (elem esz bR:Nat) (x:AV) (ys:List AV):Option (Bool × AV × List GO):=
 match x,ys with
 |.list k sz es,[]=>match k with
  |.nil=>some (true,.list .nil sz es,G)
  |k=>some (true,.list k sz es,G)
 |.list k sz es,y :: ys=>
  match k with
  |.nil=>some (decide ((es.length+(y :: ys).length) * bR≤140737488355328),.list (.own G.length) esz (es++(y :: ys)),G++[.tok (es.length+(y :: ys).length) esz elem])
  |.full=>if aab sz esz then some (decide ((es.length+(y :: ys).length) * bR≤140737488355328),.list (.own G.length) esz (es++(y :: ys)),G++[.tok (es.length+(y :: ys).length) esz elem]) else none
  |.own id=>match nth G id with
   |some (.tok f bV e')=>if aab bV esz&&aab e' elem&&aab sz esz then
     some (decide (f=es.length)&&decide ((es.length+(y :: ys).length) * bR≤140737488355328),.list (.own id) esz (es++(y :: ys)),KX G id (y :: ys).length f esz elem) else none
   |_=>none
  |.bK id j=>match nth G id with
   |some (.bK fs bV e')=>if aab bV esz&&aab e' elem&&aab sz esz then
     some (Pw fs j es.length&&decide ((es.length+(y :: ys).length) * bR≤140737488355328),.list (.bK id j) esz (es++(y :: ys)),aI G id (.bK (Ja fs j (es.length+(y :: ys).length)) esz elem)) else none
   |_=>none
  |.ly=>none
 |.eF id f off sz len,[]=>some (true,.eF id f off sz len,G)
 |.eF id f off sz len,y :: ys=>match nth G id with
  |some (.dZ es bV e')=>if aab bV esz&&aab e' elem&&aab sz esz then
    some (decide (f=es.length)&&decide (off=0)&&decide (len=f)&&decide ((es.length+(y :: ys).length) * bR≤140737488355328),.eF id (es.length+(y :: ys).length) 0 esz (es.length+(y :: ys).length),aI G id (.dZ (es++(y :: ys)) esz elem)) else none
  |_=>none
 |_,_=>none
def jt (b:UInt8):AV:=.int .u8 b.toNat
def fN (es:List AV):List UInt8:=es.map fun a=>UInt8.ofNat a.lz.toNat
def xA (es:List AV):List UInt8:=es.flatMap fun a=>(Utf8.encode a.lz).data.toList
def Jb:AV→List AV→Option AV
 |x,[]=>some x
 |.int k x,.int k' y :: l=>if k=k' then Jb (.int k (if y > x then y else x)) l else none
 |_,_=>none
def FG:AV→List AV→Option AV
 |x,[]=>some x
 |.int k x,.int k' y :: l=>if k=k' then FG (.int k (if y < x then y else x)) l else none
 |.str x,.str y :: l=>FG (.str (bif aah x y || x == y then x else y)) l
 |_,_=>none
def aq:List AV→List AV
 |[]=>[]
 |e :: es=>e.cells++aq es
def sQ (s:St) (esz:Nat) (d x:AV):Option (Nat × List GO):=
 match d with
 |.j7 id off sz len _=>match nth s.G id with
  |some (.row cs el)=>
   if aab sz esz then
    match x with
    |.list _ bV es=>if aab bV esz || es.isEmpty then
      let n:=aai es.length len
      let l:=aq (es.take n)
      if aae (off+l.length) cs.length then some (n,aI s.G id (.row (bh cs off l) el)) else none
     else none
    |.str bs=>
      if aab esz 1&&aae (off+(bs.take (aai bs.length len)).length) cs.length then some (aai bs.length len,aI s.G id (.row (bh cs off ((bs.take (aai bs.length len)).map jt)) el)) else none
    |.j7 jP fO bV FH _=>match nth s.G jP with
     |some (.row cs' _)=>
      let n:=aai FH len
      match HK fO (n * esz) cs' with
      |some l=>if aab bV esz&&aae (off+l.length) cs.length then some (n,aI s.G id (.row (bh cs off l) el)) else none
      |none=>none
     |_=>none
    |_=>none
   else none
  |_=>none
 |.eF id f off sz len=>match nth s.G id,x with
  |some (.dZ es bV el),.list _ szx xs=>if aab sz esz&&aab bV sz&&(aab szx esz || xs.isEmpty)&&aae f es.length&&aae es.length f&&aae (off+aai xs.length len) es.length then
    some (aai xs.length len,aI s.G id (.dZ (bh es off (xs.take (aai xs.length len))) bV el)) else none
  |_,_=>none
 |_=>none
def bW (E:Env) (s:St) (dst:Option Tmp) (b:Builtin) (args:List AV) (tys:List TypeId):Option (Bool × St):=
 match b,args with
 |.len,[x]=>match tys with
  |t :: _=>match E.ti t with
   |some i=>match i.k,x with
    |.str,.str l=>some (true,s.put dst (.v (.int .i64 l.length)))
    |.sl ..,.list _ _ es=>some (true,s.put dst (.v (.int .i64 es.length)))
    |.sl ..,.j7 _ _ _ len _=>some (true,s.put dst (.v (.int .i64 len)))
    |.sl ..,.eF _ _ _ _ len=>some (true,s.put dst (.v (.int .i64 len)))
    |.arr n _ _,_=>some (true,s.put dst (.v (.int .i64 n)))
    |.map ..,.ky=>some (true,s.put dst (.v (.int .i64 0)))
    |.map ..,.map id=>match nth s.G id with
     |some (.map es)=>some (true,s.put dst (.v (.int .i64 es.length)))
     |_=>none
    |_,_=>none
   |none=>none
  |_=>none
 |.append,[x,.list _ sz ys]=>match tys with
  |[t,u]=>match E.ti t with
   |some i=>match i.k with
    |.sl elem esz _ bR (some z)=>
     if (aab sz esz || ys.isEmpty)&&aab t u&&aae 1 esz&&aae 1 bR&&aab z.cells.length esz&&z.a8 then
      match gd s.G elem esz bR x ys with
      |some (c,v,G')=>some (c,(s.cH G').put dst (.v v))
      |none=>none
     else none
    |_=>none
   |none=>none
  |_=>none
 |.append,[x,.str bs]=>match tys with
  |[t,u]=>match E.ti t,E.ti u with
   |some i,some j=>match i.k,j.k with
    |.sl elem esz _ bR (some z),.str=>
     if aab esz 1&&aae 1 bR&&aab z.cells.length esz&&z.a8 then
      match gd s.G elem esz bR x (bs.map jt) with
      |some (c,v,G')=>some (c,(s.cH G').put dst (.v v))
      |none=>none
     else none
    |_,_=>none
   |_,_=>none
  |_=>none
 |.copy,[d,x]=>match tys with
  |t :: _=>match E.ti t with
   |some i=>match i.k with
    |.sl _ esz _ _ _=>match sQ s esz d x with
     |some (n,G')=>some (true,(s.cH G').put dst (.v (.int .i64 n)))
     |none=>none
    |_=>none
   |none=>none
  |_=>none
 |.clear,[x]=>match dst,tys,x with
  |none,[t],.eF id f off sz len=>match E.ti t,nth s.G id with
   |some i,some (.dZ es bV el)=>match i.k with
    |.sl elem esz _ _ (some z)=>if aab sz esz&&aab bV sz&&aab el elem&&aab z.cells.length esz&&z.a8&&z.closed then
      some (decide (f=es.length)&&decide (off+len≤es.length),s.cH (aI s.G id (.dZ (bh es off (aag len z)) bV el))) else none
    |_=>none
   |_,_=>none
  |_,_,_=>none
 |.max,x :: l=>match Jb x l with
  |some v=>some (true,s.put dst (.v v))
  |none=>none
 |.min,x :: l=>match FG x l with
  |some v=>some (true,s.put dst (.v v))
  |none=>none
 |_,_=>none
def EK.plain:EK→Bool
 |.bool | .int | .str=>true
 |.st _=>true
 |_=>false
def EK.wide:EK→Bool
 |.st _=>true
 |_=>false
def gf:AV→Bool
 |.bool _=>true
 |.int _ _=>true
 |.str _=>true
 |_=>false
def ph:AV→AV→Bool
 |.bool a,.bool b=>a == b
 |.int k a,.int l b=>decide (k=l)&&a == b
 |.str a,.str b=>a == b
 |_,_=>false
def mJ:List AV→List AV→Bool
 |[],[]=>true
 |a :: l,b :: r=>ph a b&&mJ l r
 |_,_=>false
def lJ:AV→AV→Bool
 |.agg xs,.agg ys=>mJ xs ys
 |_,_=>false
def Fs (e:EK) (a b:AV):Option Bool:=match lA e a b with
 |some true=>bif e.wide&&!lJ a b then none else some true
 |r=>r
def j6 (e:EK) (k:AV):List (AV × AV)→Option (Option AV)
 |[]=>some none
 |(k',v) :: l=>match Fs e k k' with
  |some true=>some (some v)
  |some false=>j6 e k l
  |none=>none
def ui (e:EK) (k v:AV):List (AV × AV)→Option (List (AV × AV))
 |[]=>some [(k,v)]
 |(k',v') :: l=>match Fs e k k' with
  |some true=>some ((k,v) :: l)
  |some false=>match ui e k v l with
   |some r=>some ((k',v') :: r)
   |none=>none
  |none=>none
def jn:EK→AV→Bool
 |.bool,.bool _=>true
 |.int,.int _ _=>true
 |.str,.str _=>true
 |.st fs,.agg cs=>cs.all gf&&(uh fs cs cs).isSome
 |_,_=>false
def mapOf (s:St):SV→Option (List (AV × AV))
 |.v .ky=>some []
 |.v (.map id)=>match nth s.G id with
  |some (.map es)=>some es
  |_=>none
 |_=>none
def Vf (G:List GO) (id:Nat):List Nat:=match nth G id with
 |some (.bK fs _ _)=>fs
 |_=>[]
def Dp (E:Env) (G:List GO) (t:TypeId) (z:AV):AV:=match E.elg t,z with
 |some (.bK e sz _),.list .nil _ []=>match lI G sz e 0 with
  |some id=>.list (.bK id (Vf G id).length) sz []
  |none=>z
 |_,_=>z
def mK (E:Env) (s:St) (t:TypeId) (m k:SV):Option (AV × Bool):=match E.ti t,mapOf s m,k with
 |some i,some es,.v k=>match i.k with
  |.map kt _ (some z)=>match E.ti kt with
   |some j=>if j.ek.plain&&jn j.ek k then match j6 j.ek k es with
     |some (some v)=>some (v,true)
     |some none=>some (z,false)
     |none=>none
    else none
   |none=>none
  |_=>none
 |_,_,_=>none
def lK (E:Env) (s:St) (t:TypeId) (m k:SV):Option (AV × Bool):=match mK E s t m k with
 |some (v,false)=>some (Dp E s.G t v,false)
 |r=>r
def fc (E:Env) (s:St) (t:TypeId) (m k x:SV):Option St:=match E.ti t,m,k,x with
 |some i,.v (.map id),.v k,.v x=>match i.k,nth s.G id with
  |.map kt _ _,some (.map es)=>match E.ti kt with
   |some j=>if j.ek.plain&&jn j.ek k then match ui j.ek k x es with
     |some es'=>some (s.cH (aI s.G id (.map es')))
     |none=>none
    else none
   |none=>none
  |_,_=>none
 |_,_,_,_=>none
def bz (l:List UInt8) (pos:Nat):Nat × Nat:=
 bif aa2 (l.getD pos 0).toNat 128 then ((l.getD pos 0).toNat,1) else Utf8.decode ⟨⟨l⟩⟩ pos
def lL (s:St) (dst:Option Tmp) (x:SV):Option St:=match x with
 |.v (.ptr id 0)=>match nth s.G id with
  |some (.gy l pos)=>bif aa2 pos l.length then
    match bz l pos with
    |(c,n)=>some ((s.cH (aI s.G id (.gy l (pos+n)))).put dst (.v (.bq [.bool true,.int .i64 pos,.int .i32 c])))
   else some (s.put dst (.v (.bq [.bool false])))
  |_=>none
 |_=>none
def ee (es:List (AV × AV)) (i:Nat):AV × AV:=match nth es i with
 |some e=>e
 |none=>(fM,fM)
def Vg (E:Env) (kt:TypeId):Option aP:=match E.Pv kt with
 |some p=>some p
 |none=>match E.ti kt with
  |some i=>match i.k with
   |.int k=>some (.int k)
   |.str=>some .str
   |_=>none
  |none=>none
def sR (E:Env) (t:TypeId) (e:AV × AV):Bool × AV × AV:=match E.ti t with
 |some i=>match i.k with
  |.map kt _ _=>match E.Pv t,Vg E kt with
   |some pv,some pk=>(pk.fits e.1&&pv.fits e.2,pk.enc (pk.bJ e.1),pv.enc (pv.bJ e.2))
   |_,_=>(true,e.1,e.2)
  |_=>(true,e.1,e.2)
 |none=>(true,e.1,e.2)
def AX (E:Env) (s:St) (dst:Option Tmp) (x:SV):Option (Bool × St × List Nat × (Nat→Bool × St)):=match x with
 |.v (.ptr id 0)=>match nth s.G id with
  |some (.oQ rT n left _ t)=>match nth s.G rT with
   |some (.map es)=>some (decide (es.length=n),s.put dst (.v (.bq [.bool false])),left,
     fun i=>((sR E t (ee es i)).1,(s.cH (aI s.G id (.oQ rT n (left.erase i) (some i) t))).put dst (.v (.bq [.bool true,(sR E t (ee es i)).2.1,(sR E t (ee es i)).2.2]))))
   |_=>none
  |_=>none
 |_=>none
def uj (E:Env) (s:St) (o:Oper):Option (Bool × St × List Nat × (Nat→Bool × St)):=match o.op with
 |.next x false=>AX E s o.dst (bP E s.ae x)
 |_=>none
def eqO (E:Env) (op:BinOp) (t:TypeId) (a b:AV):Option Bool:=match op,E.ti t with
 |.eql,some i=>lA i.ek a b
 |.neq,some i=>match lA i.ek a b with
  |some r=>some (!r)
  |none=>none
 |_,_=>none
def j8 (E:Env) (s:St) (t:TypeId) (len:Nat) (parts:List (Nat × Operand)):Option (List AV):=
 match E.ti t,Pa E s.ae parts with
 |some i,some ps=>match i.k with
  |.sl _ esz _ _ (some z)=>
    if aab z.cells.length esz&&aae 1 esz&&aae (len * esz) 16777216&&z.a8 then
     vq (fun i=>some (i * esz,esz)) (aq (aag len z)) (AU ps)
    else none
  |_=>none
 |_,_=>none
def ju (E:Env) (f:FuncId) (s:St) (o:Oper):Option St:=match o.op with
 |.buildSlice t len parts=>match o.dst with
  |some d=>if E.BZ f d then match E.ti t with
    |some i=>match i.k,cp E s t len parts.toList with
     |.sl elem _ _ _ _,some (.list _ esz es)=>some ((s.dU (.row (aq es) elem)).put (some d) (.v (.j7 s.G.length 0 esz len len)))
     |.sl elem esz _ _ _,none=>match j8 E s t len parts.toList with
      |some cs=>some ((s.dU (.row cs elem)).put (some d) (.v (.j7 s.G.length 0 esz len len)))
      |none=>none
     |_,_=>none
    |none=>none
   else if E.BZ f (d+196608) then match E.ti t with
    |some i=>match i.k,cp E s t len parts.toList with
     |.sl elem _ _ _ _,some (.list _ esz es)=>if aae len 65536 then some ((s.dU (.dZ es esz elem)).put (some d) (.v (.eF s.G.length len 0 esz len))) else none
     |_,_=>none
    |none=>none
   else if E.BZ f (d+65536) then match E.ti t with
    |some i=>match i.k,cp E s t len parts.toList with
     |.sl elem _ _ _ _,some (.list _ esz es)=>if aae len 65536 then some ((s.dU (.tok len esz elem)).put (some d) (.v (.list (.own s.G.length) esz es))) else none
     |_,_=>none
    |none=>none
   else none
  |none=>none
 |_=>none
def AY (wk:Bool) (es:List AV):List AV:=match wk with
 |true=>es.map AV.hY
 |false=>es
def mL (wk:Bool):List AV→List GO→Bool × List AV × List GO
 |[],G=>(true,[],G)
 |.eF id f 0 sz len :: l,G=>match nth G id with
  |some (.dZ es bV _)=>match mL wk l (aI G id .dead) with
   |(c,r,G')=>(decide (f=es.length)&&decide (len=es.length)&&aab sz bV&&aF (AY wk es)&&c,.list .ly sz (AY wk es) :: r,G')
  |_=>match mL wk l G with
   |(_,r,G')=>(false,r,G')
 |a :: l,G=>match mL wk l G with
  |(c,r,G')=>(c,a :: r,G')
def qC (cut wk:Bool) (s:St) (t:Tmp):Option (Bool × St):=match lk s.ae t with
 |.v (.eF id f off sz len)=>match nth s.G id with
  |some (.dZ es bV _)=>if aab off 0&&aab sz bV then
    some (decide (f=es.length)&&(bif cut then decide (len≤es.length) else decide (len=es.length))&&aF (AY wk es),⟨.put t (.v (.list .ly sz (AY wk (bif cut then es.take len else es)))) :: s.ae,s.boxes,aI s.G id .dead,s.marks,s.ro,s.n⟩) else none
  |_=>none
 |.v (.ptr id 0)=>match nth s.G id with
  |some (.row cs _)=>some (aF cs,⟨.put t (.v (.ep cs)) :: s.ae,s.boxes,aI s.G id .dead,s.marks,s.ro,s.n⟩)
  |_=>none
 |.v (.agg cs)=>match mL wk cs s.G with
  |(c,cs',G')=>some (c,⟨.put t (.v (.agg cs')) :: s.ae,s.boxes,G',s.marks,s.ro,s.n⟩)
 |_=>none
def gT (cut wk:Bool):List Operand→St→Bool × St
 |[],s=>(true,s)
 |.tmp t :: l,s=>match qC cut wk s t with
  |some (c,s')=>match gT cut wk l s' with
   |(c',s2)=>(c&&c',s2)
  |none=>gT cut wk l s
 |_ :: l,s=>gT cut wk l s
def Jc (E:Env) (f:FuncId) (s:St) (o:Oper):Option (Bool × St):=match o.dst with
 |some d=>if E.BZ f (d+262144) then some (gT (E.BZ f (d+393216)) (E.BZ f (d+458752)) o.op.operands.toList s) else none
 |none=>none
def mM (E:Env) (s:St) (a b:TypeId) (x:SV):Option (Bool × AV):=
 match E.ti a,E.ti b,x with
 |some i,some j,.v x=>match j.k,x with
  |.int k,.int _ n=>some (true,.int k (k.wrap n))
  |.str,.list _ sz es=>match i.k with
   |.sl elem 1 _ _ _=>match E.ti elem with
    |some e=>match e.k with
     |.int .u8=>some ((aab sz 1 || es.isEmpty)&&allFit (aP.fits (.int .u8)) es,.str (fN es))
     |.int .i32=>some ((aab sz 1 || es.isEmpty)&&allFit (aP.fits (.int .i32)) es,.str (xA es))
     |_=>none
    |none=>none
   |_=>none
  |.str,.j7 id off 1 len _=>match i.k,nth s.G id with
   |.sl elem 1 _ _ _,some (.row cs _)=>match E.ti elem with
    |some e=>match e.k with
     |.int .u8=>some (aae (off+len) cs.length&&allFit (aP.fits (.int .u8)) (bC off (off+len) cs),.str (fN (bC off (off+len) cs)))
     |_=>none
    |none=>none
   |_,_=>none
  |_,_=>none
 |_,_,_=>none
def xB (e:EK) (k k':AV):Bool:=match Fs e k k' with
 |some b=>b
 |none=>false
def gz (e:EK) (k:AV):List (AV × AV)→Bool
 |[]=>true
 |(k',_) :: l=>(Fs e k k').isSome&&gz e k l
def kB (e:EK) (k:AV):List (AV × AV)→Option AV
 |[]=>none
 |(k',v) :: l=>bif xB e k k' then some v else kB e k l
def gH (e:EK) (k v:AV):List (AV × AV)→List (AV × AV)
 |[]=>[(k,v)]
 |(k',v') :: l=>bif xB e k k' then (k,v) :: l else (k',v') :: gH e k v l
def eP (e:EK) (k z:AV) (es:List (AV × AV)):AV:=(kB e k es).getD z
def iG (e:EK) (k:AV):List (AV × AV)→Nat
 |[]=>0
 |(k',_) :: l=>bif xB e k k' then 0 else iG e k l+1
def jT:List (AV × AV)→Nat→AV→List (AV × AV)
 |[],_,_=>[]
 |(k,_) :: l,0,x=>(k,x) :: l
 |e :: l,n+1,x=>e :: jT l n x
def uk (E:Env) (s:St) (x:SV):Option (Bool × AV):=match x with
 |.v (.ptr id 0)=>match nth s.G id with
  |some (.oQ rT n _ (some i) t)=>match nth s.G rT with
   |some (.map es)=>some (decide (es.length=n)&&decide (i < n)&&(sR E t (ee es i)).1,.bq [(sR E t (ee es i)).2.1,(sR E t (ee es i)).2.2])
   |_=>none
  |_=>none
 |_=>none
def gi (E:Env) (s:St) (t:TypeId) (m k:SV):Option (Bool × AV × St):=match E.ti t,m,k with
 |some i,.v (.map id),.v k=>match i.k,nth s.G id with
  |.map kt _ (some z),some (.map es)=>match E.ti kt with
   |some j=>if j.ek.plain&&jn j.ek k then
     some (gz j.ek k es,.bq [eP j.ek k z es,.int .i64 (iG j.ek k es:Nat)],s.cH (aI s.G id (.map (gH j.ek k (eP j.ek k z es) es)))) else none
   |none=>none
  |_,_=>none
 |_,_,_=>none
def eI (s:St) (m st x:SV):Option (Bool × St):=match m,st,x with
 |.v (.map id),.v (.int .i64 n),.v v=>match nth s.G id with
  |some (.map es)=>some (decide (0≤n)&&decide (n.toNat < es.length),s.cH (aI s.G id (.map (jT es n.toNat v))))
  |_=>none
 |_,_,_=>none
def iu (E:Env) (f:FuncId) (s:St) (o:Oper):Option (Bool × St):=none
def vr (E:Env) (f:FuncId) (s:St) (o:Oper):Option (Bool × St):=none
def adU (E:Env) (f:FuncId) (d:Option Tmp):Bool:=match d with
 |some d=>E.BZ f (d+196608)
 |none=>false
def an (E:Env) (f:FuncId) (s:St) (o:Oper):Option (Bool × St):=
 match o.op with
 |.move x=>match bP E s.ae x with
  |.v a=>some (true,s.put o.dst (.v a))
  |.lp k off=>some (true,s.put o.dst (.lp k off))
  |.none=>some (true,s.put o.dst .none)
 |.assign x=>match bP E s.ae x with
  |.v a=>some (true,s.put o.dst (.v a))
  |.lp k off=>some (true,s.put o.dst (.lp k off))
  |.none=>some (true,s.put o.dst .none)
 |.pick c a b=>match bP E s.ae c,bP E s.ae a,bP E s.ae b with
  |.v (.bool t),.v x,.v y=>some (true,s.put o.dst (.v (B0 t x y)))
  |_,_,_=>none
 |.alloc e=>match E.ti e with
  |some i=>match i.zero with
   |some z=>if z.a8 then fb E f s o.dst e z.cells else none
   |none=>none
  |none=>none
 |.box t x=>match bP E s.ae x with
  |.v v=>if v.a8 then fb E f s o.dst t v.cells else none
  |_=>none
 |.build t parts=>match nN E s t parts.toList with
  |some v=>some (true,s.put o.dst (.v v))
  |none=>none
 |.buildSlice t len parts=>match cp E s t len parts.toList with
  |some v=>some (true,s.put o.dst (.v v))
  |none=>none
 |.load t a=>match AW E s t (bP E s.ae a) with
  |some (c,v)=>some (c,s.put o.dst (.v v))
  |none=>none
 |.store t a x=>match o.dst,jS E s t (bP E s.ae a) (bP E s.ae x) with
  |none,some (c,s')=>some (c,s')
  |_,_=>none
 |.binOp op t x y _=>match bP E s.ae x,bP E s.ae y with
  |.v a,.v b=>match Dm op a b with
   |some (c,v)=>some (c,s.put o.dst (.v v))
   |none=>match eqO E op t a b with
    |some r=>some (true,s.put o.dst (.v (.bool r)))
    |none=>none
  |_,_=>none
 |.unOp op _ x=>match op,bP E s.ae x with
  |.not,.v (.bool b)=>some (true,s.put o.dst (.v (.bool (!b))))
  |.neg,.v (.int k n)=>some (true,s.put o.dst (.v (.int k (k.wrap (0 - n)))))
  |_,_=>none
 |.convert a b x=>match mM E s a b (bP E s.ae x) with
  |some (c,v)=>some (c,s.put o.dst (.v v))
  |none=>none
 |.nilCheck x=>match bP E s.ae x with
  |.v (.ptr id off)=>some (true,s.put o.dst (.v (.ptr id off)))
  |.lp k off=>some (true,s.put o.dst (.lp k off))
  |_=>none
 |.makeFunc (.func g) first captured=>match nL E s.ae first.toList,nL E s.ae captured.toList with
  |some x,some y=>some (true,s.put o.dst (.v (.fn g x y)))
  |_,_=>none
 |.fieldAddr t x j=>match kA E t (bP E s.ae x) j with
  |some p=>some (true,s.put o.dst p)
  |none=>none
 |.field t x j=>match FC E t (bP E s.ae x) j with
  |some v=>some (true,s.put o.dst (.v v))
  |none=>none
 |.indexAddr t x ix=>match kz E t (bP E s.ae x) (bP E s.ae ix) with
  |some (c,p)=>some (c,s.put o.dst p)
  |none=>none
 |.index t x ix=>match FD E t (bP E s.ae x) (bP E s.ae ix) with
  |some (c,v)=>some (c,s.put o.dst (.v v))
  |none=>none
 |.slice t x lo hi mx=>match nO E s.ae lo,nO E s.ae hi with
  |some l,some h=>match B2 E t (bP E s.ae x) l h mx with
   |some (c,v)=>some (c,s.put o.dst (.v v))
   |none=>none
  |_,_=>none
 |.extract x i=>match bP E s.ae x with
  |.v (.bq vs)=>match nth vs i with
   |some v=>some (true,s.put o.dst (.v v))
   |none=>none
  |_=>none
 |.makeSlice t l c=>match E.ti t,bP E s.ae l,bP E s.ae c with
  |some i,.v (.int _ n),.v (.int _ m)=>match i.k with
   |.sl elem esz _ bR (some z)=>
    if aab z.cells.length esz&&aae 1 esz&&z.a8 then
     if adU E f o.dst then (if z.closed then some (decide (0≤n∧n≤m∧m≤140737488355328∧m * bR≤140737488355328),
      (s.dU (.dZ (aag n.toNat z) esz elem)).put o.dst (.v (.eF s.G.length n.toNat 0 esz n.toNat))) else none)
     else some (decide (0≤n∧n≤m∧m≤140737488355328∧m * bR≤140737488355328),
      (s.dU (.row (aq (aag m.toNat z)) elem)).put o.dst (.v (.j7 s.G.length 0 esz n.toNat m.toNat)))
    else none
   |_=>none
  |_,_,_=>none
 |.lookup t m k ok=>match lK E s t (bP E s.ae m) (bP E s.ae k) with
  |some (v,b)=>some (true,s.put o.dst (.v (if ok then .bq [v,.bool b] else v)))
  |none=>none
 |.mapUpdate t m k x=>match o.dst,fc E s t (bP E s.ae m) (bP E s.ae k) (bP E s.ae x) with
  |none,some s'=>some (true,s')
  |_,_=>none
 |.insert t m k x=>match o.dst,fc E s t (bP E s.ae m) (bP E s.ae k) (bP E s.ae x) with
  |none,some s'=>some (true,s')
  |_,_=>none
 |.entry x=>match uk E s (bP E s.ae x) with
  |some (c,v)=>some (c,s.put o.dst (.v v))
  |none=>none
 |.mapEntry t m k=>match gi E s t (bP E s.ae m) (bP E s.ae k) with
  |some (c,v,s')=>some (c,s'.put o.dst (.v v))
  |none=>none
 |.entryStore _ m st x=>match o.dst,eI s (bP E s.ae m) (bP E s.ae st) (bP E s.ae x) with
  |none,some (c,s')=>some (c,s')
  |_,_=>none
 |.range t x=>match E.ti t,bP E s.ae x with
  |some i,.v (.str l)=>match i.k with
   |.str=>some (true,(s.dU (.gy l 0)).put o.dst (.v (.ptr s.G.length 0)))
   |_=>none
  |some i,.v (.map id)=>match i.k,nth s.G id with
   |.map _ _ _,some (.map es)=>some (true,(s.dU (.oQ id es.length (List.range es.length) none t)).put o.dst (.v (.ptr s.G.length 0)))
   |_,_=>none
  |_,_=>none
 |.next x true=>match lL s o.dst (bP E s.ae x) with
  |some s'=>some (true,s')
  |none=>none
 |.makeMap _ none=>some (true,(s.dU (.map [])).put o.dst (.v (.map s.G.length)))
 |.call { callee:=.builtin b,args,argTypes }=>match iu E f s o with
  |some r=>some r
  |none=>match nL E s.ae args.toList with
   |some l=>bW E s o.dst b l argTypes.toList
   |none=>none
 |_=>none
end Go.Am
namespace Go.Am
open Go
inductive TR where
 |bU
 |full (f:Nat)
 |tok (f b c:Nat)
inductive RO where
 |none
 |bU
 |ck (b:Nat)
 |tok (f b c:Nat)
 |bK (ts:List TR)
def RO.has:RO→Nat→Prop
 |.none,_=>False
 |.bU,_=>False
 |.ck b,x=>x=b
 |.tok _ b _,x=>x=b
 |.bK ts,x=>∃ j f c,nth ts j=some (.tok f x c)
def jv (sz:Nat) (es:List AV):Prop:=∀ e∈es,e.cells.length=sz∧e.a8=true∧e.closed=true
def dM (sz:Nat) (es:List AV):Prop:=∀ e∈es,e.cells.length=sz∧e.a8=true
theorem jv.g {sz:Nat} {es:List AV} (h:jv sz es):dM sz es:=fun e he=>⟨(h e he).1,(h e he).2.1⟩
structure ak where
 I:Nat→Nat→Prop
 obj:List RO
def Uh (b o len cap:Nat):RO→Prop
 |.none=>True
 |.bU=>False
 |.ck _=>False
 |.tok f b' c'=>len≤f∧(len=f→b=b'∧o=0∧cap=c')
 |.bK _=>False
def Px (b o len cap:Nat):TR→Prop
 |.bU=>False
 |.full f=>len≤f∧(len=f→cap=len)
 |.tok f b' c'=>len≤f∧(len=f→b=b'∧o=0∧cap=c')
def Zw (b o len cap j:Nat):RO→Prop
 |.none=>True
 |.bU=>False
 |.ck _=>False
 |.tok _ _ _=>False
 |.bK ts=>∃ t,nth ts j=some t∧Px b o len cap t
def xC:RO→Prop
 |.none=>True
 |.bU=>False
 |.ck _=>False
 |.tok _ _ _=>False
 |.bK _=>True
def nP:RO→Prop
 |.none=>True
 |.bU=>True
 |.ck _=>False
 |.tok f _ _=>1≤f
 |.bK _=>False
def Jd (b o f off sz cap:Nat):RO→Prop
 |.none=>True
 |.bU=>False
 |.ck _=>False
 |.tok f' b' c'=>f≤f'∧(f=f'→b=b'∧off+cap=c'∧(o=off * sz∨cap=0))
 |.bK _=>False
def KY (b o f i off sz:Nat):RO→Prop
 |.none=>True
 |.bU=>False
 |.ck _=>False
 |.tok f' b' _=>f≤f'∧(f=f'→b=b'∧o=i * sz+off)
 |.bK _=>False
def B3 (R:ak) (k:LK) (b o len cap:Nat):Prop:=match k with
 |.nil=>False
 |.full=>cap=len
 |.ly=>True
 |.own id=>∃ ro,nth R.obj id=some ro∧Uh b o len cap ro
 |.bK id j=>∃ ro,nth R.obj id=some ro∧Zw b o len cap j ro
mutual
inductive Rel (R:ak) (w:World):AV→Value→Prop
 |bool (b:Bool):Rel R w (.bool b) (.bool b)
 |int (k:IntKind) (n:Int):Rel R w (.int k n) (.int k n)
 |str (l:List UInt8):Rel R w (.str l) (.string ⟨⟨l⟩⟩)
 |agg {cs:List AV} {vs:List Value} (h:aN R w cs vs) (h1:∀ v∈vs,v.oneCell'=true):Rel R w (.agg cs) (.agg ⟨vs⟩)
 |bq {cs:List AV} {vs:List Value} (h:aN R w cs vs):Rel R w (.bq cs) (.tuple ⟨vs⟩)
 |fj:Rel R w .fj (.pointer none)
 |ptr {id off b:Nat} (h:nth R.obj id=some (.ck b)):Rel R w (.ptr id off) (.pointer (some ⟨b,off,none⟩))
 |ep {cs:List AV} {b o:Nat} (h:dV R w b o cs):Rel R w (.ep cs) (.pointer (some ⟨b,o,none⟩))
 |kC {sz:Nat}:Rel R w (.list .nil sz []) (.slice none 0 0)
 |jc {sz:Nat}:Rel R w (.list .ly sz []) (.slice none 0 0)
 |nQ {sz:Nat} {a:Addr}:Rel R w (.list .ly sz []) (.slice (some a) 0 0)
 |mN {id sz:Nat} {ro:RO} (h:nth R.obj id=some ro) (ho:nP ro):Rel R w (.list (.own id) sz []) (.slice none 0 0)
 |nR {id j sz:Nat} {ro:RO} (h:nth R.obj id=some ro) (ho:xC ro):Rel R w (.list (.bK id j) sz []) (.slice none 0 0)
 |list {k:LK} {sz:Nat} {es:List AV} {b o len cap:Nat} (h:gj R w b o sz es) (hl:len=es.length) (hc:len≤cap) (hk:B3 R k b o len cap):Rel R w (.list k sz es) (.slice (some ⟨b,o,none⟩) len cap)
 |j7 {id off sz len cap b:Nat} (h:nth R.obj id=some (.ck b)) (hc:len≤cap):Rel R w (.j7 id off sz len cap) (.slice (some ⟨b,off,none⟩) len cap)
 |iY {id sz:Nat} {ro:RO} (h:nth R.obj id=some ro) (ho:nP ro):Rel R w (.eF id 0 0 sz 0) (.slice none 0 0)
 |eF {id f off sz len cap b o:Nat} {ro:RO} (h:nth R.obj id=some ro) (ho:Jd b o f off sz cap ro) (hc:len≤cap):Rel R w (.eF id f off sz len) (.slice (some ⟨b,o,none⟩) len cap)
 |gp {id f i off sz b o:Nat} {t:TypeId} {ro:RO} (h:nth R.obj id=some ro) (ho:KY b o f i off sz ro):Rel R w (.gp id f i off sz t) (.pointer (some ⟨b,o,none⟩))
 |ky:Rel R w .ky (.map none)
 |map {id b:Nat} (h:nth R.obj id=some (.ck b)):Rel R w (.map id) (.map (some b))
 |cL:Rel R w .cL .nilFunc
 |fn {f:FuncId} {xs ys:List AV} {vs us:List Value} (h:aN R w xs vs) (h':aN R w ys us):Rel R w (.fn f xs ys) (.func (.func f) ⟨vs⟩ ⟨us⟩)
 |yield {id b:Nat} (h:nth R.obj id=some (.ck b)):Rel R w (.yield id) (.func (.yield b) #[] #[])
 |oV:Rel R w .oV .nilIface
 |iface {t:TypeId} {v:AV} {c:Value} (h:Rel R w v c):Rel R w (.iface t v) (.iface t c)
inductive aN (R:ak) (w:World):List AV→List Value→Prop
 |nil:aN R w [] []
 |cons {a:AV} {c:Value} {l:List AV} {cs:List Value} (h:Rel R w a c) (t:aN R w l cs):aN R w (a :: l) (c :: cs)
inductive gj (R:ak) (w:World):Nat→Nat→Nat→List AV→Prop
 |nil {b o sz:Nat}:gj R w b o sz []
 |cons {b o sz:Nat} {e:AV} {es:List AV} (hl:e.cells.length=sz) (ht:e.a8=true) (hk:e.closed=true) (h:dV R w b o e.cells) (t:gj R w b (o+sz) sz es):gj R w b o sz (e :: es)
inductive dV (R:ak) (w:World):Nat→Nat→List AV→Prop
 |nil {b o:Nat}:dV R w b o []
 |cons {b o:Nat} {a:AV} {c:Value} {l:List AV} (hc:w.cell? ⟨b,o,none⟩=some c) (h1:c.oneCell'=true) (hi:R.I b o) (h:Rel R w a c) (t:dV R w b (o+1) l):dV R w b o (a :: l)
end
def mq:TR→TR→Prop
 |.bU,.bU=>True
 |.bU,.full _=>False
 |.bU,.tok f _ _=>1≤f
 |.full _,.bU=>False
 |.full f,.full f'=>f'=f
 |.full f,.tok f' _ _=>f < f'
 |.tok _ _ _,.bU=>False
 |.tok _ _ _,.full _=>False
 |.tok f b c,.tok f' b' c'=>f≤f'∧(f'=f→b'=b∧c'=c)
theorem mq.refl (t:TR):mq t t:=by cases t <;> simp [mq]
theorem mq.trans {a b c:TR} (h:mq a b) (k:mq b c):mq a c:=by
 cases a <;> cases b <;> cases c <;> simp only [mq] at * <;> omega
def ul (ts YQ:List TR):Prop:=∀ j t,nth ts j=some t→∃ t',nth YQ j=some t'∧mq t t'
theorem ul.refl (ts:List TR):ul ts ts:=fun _ t h=>⟨t,h,mq.refl t⟩
theorem ul.trans {a b c:List TR} (h:ul a b) (k:ul b c):ul a c:=fun j t hj=>
 let ⟨_,h1,h2⟩:=h j t hj
 let ⟨t2,k1,k2⟩:=k j _ h1
 ⟨t2,k1,h2.trans k2⟩
def cJ:RO→RO→Prop
 |.none,r=>r=.none
 |.ck b,r=>r=.ck b
 |.bU,.none=>True
 |.bU,.bU=>True
 |.bU,.ck _=>False
 |.bU,.tok f _ _=>1≤f
 |.tok _ _ _,.none=>True
 |.tok _ _ _,.bU=>False
 |.tok _ _ _,.ck _=>False
 |.tok f b c,.tok f' b' c'=>f≤f'∧(f'=f→b'=b∧c'=c)
 |.bU,.bK _=>False
 |.tok _ _ _,.bK _=>False
 |.bK _,.none=>True
 |.bK _,.bU=>False
 |.bK _,.ck _=>False
 |.bK _,.tok _ _ _=>False
 |.bK ts,.bK YQ=>ul ts YQ
theorem cJ.refl (r:RO):cJ r r:=by cases r <;> simp [cJ,ul.refl]
theorem cJ.trans {a b c:RO} (h:cJ a b) (k:cJ b c):cJ a c:=by
 cases a with
 |none=>simp only [cJ] at h; subst h; exact k
 |ck x=>simp only [cJ] at h; subst h; exact k
 |bU=>
  cases b with
  |none=>simp only [cJ] at k; subst k; trivial
  |bU=>exact k
  |ck z=>exact h.elim
  |tok f' x' y'=>
   cases c with
   |none=>trivial
   |bU=>exact k.elim
   |ck z=>exact k.elim
   |bK _=>exact k.elim
   |tok f'' x'' y''=>simp only [cJ] at *; omega
  |bK _=>exact h.elim
 |tok f x y=>
  cases b with
  |none=>simp only [cJ] at k; subst k; trivial
  |bU=>exact h.elim
  |ck z=>exact h.elim
  |tok f' x' y'=>
   cases c with
   |none=>trivial
   |bU=>exact k.elim
   |ck z=>exact k.elim
   |tok f'' x'' y''=>
    simp only [cJ] at *;refine ⟨Nat.le_trans h.1 k.1,fun e=>?_⟩;obtain ⟨h1,h2⟩:=h; obtain ⟨k1,k2⟩:=k;have e1:f'=f:=by omega
    have e2:f''=f':=by omega
    exact ⟨(k2 e2).1.trans (h2 e1).1,(k2 e2).2.trans (h2 e1).2⟩
   |bK _=>exact k.elim
  |bK _=>exact h.elim
 |bK ts=>
  cases b with
  |none=>simp only [cJ] at k; subst k; trivial
  |bU=>exact h.elim
  |ck z=>exact h.elim
  |tok f' x' y'=>exact h.elim
  |bK YQ=>
   cases c with
   |none=>trivial
   |bU=>exact k.elim
   |ck z=>exact k.elim
   |tok f' x' y'=>exact k.elim
   |bK ts''=>exact ul.trans h k
def sS (r r':Loop):Prop:=r'.tmps=r.tmps∧r'.params=r.params∧r'.assign=r.assign∧r'.body=r.body∧r'.defers=r.defers
def gC (w w':World):Prop:=∀ (b:Nat) (r:Loop),w.heap[b]?=some (Obj.loop r)→∃ r',w'.heap[b]?=some (Obj.loop r')∧sS r r'
theorem gC.refl (w:World):gC w w:=fun _ r h=>⟨r,h,rfl,rfl,rfl,rfl,rfl⟩
theorem gC.trans {w w1 w2:World} (h:gC w w1) (k:gC w1 w2):gC w w2:=fun b r hb=>
 let ⟨_,h1,h2,h3,h4,h5,h6⟩:=h b r hb
 let ⟨r2,k1,k2,k3,k4,k5,k6⟩:=k b _ h1
 ⟨r2,k1,k2.trans h2,k3.trans h3,k4.trans h4,k5.trans h5,k6.trans h6⟩
theorem gC.old {w w':World} (h:∀ b,b < w.heap.size→w'.heap[b]?=w.heap[b]?):gC w w':=fun b r hb=>
 ⟨r,(h b (by
  rcases Nat.lt_or_ge b w.heap.size with cm|lM
  ·exact cm
  ·rw [Array.getElem?_eq_none lM] at hb; cases hb)).trans hb,rfl,rfl,rfl,rfl,rfl⟩
structure Ext (R:ak) (w:World) (R':ak) (w':World):Prop where
 I:∀ b o,R.I b o→R'.I b o
 cell:∀ b o,R.I b o→w'.cell? ⟨b,o,none⟩=w.cell? ⟨b,o,none⟩
 obj:∀ id ro,nth R.obj id=some ro→∃ mO,nth R'.obj id=some mO∧cJ ro mO
 lp:gC w w'
theorem Ext.refl (R:ak) (w:World):Ext R w R w:=⟨fun _ _ h=>h,fun _ _ _=>rfl,fun _ ro h=>⟨ro,h,cJ.refl ro⟩,gC.refl w⟩
theorem Ext.trans {R R' Py:ak} {w w' Ui:World} (h:Ext R w R' w') (k:Ext R' w' Py Ui):Ext R w Py Ui:=
 ⟨fun b o hi=>k.I b o (h.I b o hi),fun b o hi=>(k.cell b o (h.I b o hi)).trans (h.cell b o hi),fun id ro hr=>
  let ⟨_,h1,h2⟩:=h.obj id ro hr
  let ⟨r2,h3,h4⟩:=k.obj id _ h1
  ⟨r2,h3,h2.trans h4⟩,h.lp.trans k.lp⟩
theorem Ext.ck {R R':ak} {w w':World} (h:Ext R w R' w') {id b:Nat} (hb:nth R.obj id=some (.ck b)):nth R'.obj id=some (.ck b):=by
 obtain ⟨r,h1,h2⟩:=h.obj id _ hb;simp only [cJ] at h2;subst h2;exact h1
theorem B3.mono {R R':ak} {w w':World} (e:Ext R w R' w') {k:LK} {b o len cap:Nat} (h:B3 R k b o len cap):B3 R' k b o len cap:=by
 cases k with
 |nil=>exact h
 |full=>exact h
 |ly=>trivial
 |own id=>
  obtain ⟨ro,h1,h2⟩:=h;obtain ⟨mO,h3,h4⟩:=e.obj id ro h1;refine ⟨mO,h3,?_⟩;cases ro with
  |none=>simp only [cJ] at h4; subst h4; trivial
  |bU=>exact h2.elim
  |ck x=>exact h2.elim
  |tok f x y=>
   cases mO with
   |none=>trivial
   |bU=>exact h4.elim
   |ck z=>exact h4.elim
   |tok f' x' y'=>
    simp only [cJ,Uh] at *;refine ⟨by omega,fun e=>?_⟩;have e1:f'=f:=by omega
    have h5:=h2.2 (by omega);have h6:=h4.2 e1;exact ⟨h5.1.trans h6.1.symm,h5.2.1,h5.2.2.trans h6.2.symm⟩
   |bK _=>exact h4.elim
  |bK _=>exact h2.elim
 |bK id j=>
  obtain ⟨ro,h1,h2⟩:=h;obtain ⟨mO,h3,h4⟩:=e.obj id ro h1;refine ⟨mO,h3,?_⟩;cases ro with
  |none=>simp only [cJ] at h4; subst h4; trivial
  |bU=>exact h2.elim
  |ck x=>exact h2.elim
  |tok _ _ _=>exact h2.elim
  |bK ts=>
   cases mO with
   |none=>trivial
   |bU=>exact h4.elim
   |ck z=>exact h4.elim
   |tok _ _ _=>exact h4.elim
   |bK YQ=>
    obtain ⟨t,k1,k2⟩:=h2;obtain ⟨t',k3,k4⟩:=h4 j t k1;refine ⟨t',k3,?_⟩;cases t with
    |bU=>exact k2.elim
    |full f=>
     cases t' with
     |bU=>exact k4.elim
     |full f'=>simp only [mq,Px] at *; subst k4; exact k2
     |tok f' x' y'=>simp only [mq,Px] at *; exact ⟨by omega,fun e=>by omega⟩
    |tok f x y=>
     cases t' with
     |bU=>exact k4.elim
     |full f'=>exact k4.elim
     |tok f' x' y'=>
      simp only [mq,Px] at *;refine ⟨by omega,fun e=>?_⟩;have e1:f'=f:=by omega
      have h5:=k2.2 (by omega);have h6:=k4.2 e1;exact ⟨h5.1.trans h6.1.symm,h5.2.1,h5.2.2.trans h6.2.symm⟩
theorem nP.mono {ro mO:RO} (h:nP ro) (e:cJ ro mO):nP mO:=by
 cases ro with
 |none=>simp only [cJ] at e; subst e; trivial
 |bU=>cases mO <;> first | trivial | exact e.elim | exact e
 |ck _=>exact h.elim
 |tok f x y=>
  cases mO with
  |none=>trivial
  |bU=>exact e.elim
  |ck z=>exact e.elim
  |tok f' x' y'=>simp only [cJ,nP] at *; omega
  |bK _=>exact e.elim
 |bK _=>exact h.elim
theorem xC.mono {ro mO:RO} (h:xC ro) (e:cJ ro mO):xC mO:=by
 cases ro with
 |none=>simp only [cJ] at e; subst e; trivial
 |bU=>exact h.elim
 |ck _=>exact h.elim
 |tok _ _ _=>exact h.elim
 |bK ts=>
  cases mO with
  |none=>trivial
  |bU=>exact e.elim
  |ck z=>exact e.elim
  |tok _ _ _=>exact e.elim
  |bK YQ=>trivial
theorem Jd.mono {b o f off sz cap:Nat} {ro mO:RO} (h:Jd b o f off sz cap ro) (e:cJ ro mO):Jd b o f off sz cap mO:=by
 cases ro with
 |none=>simp only [cJ] at e; subst e; trivial
 |bU=>exact h.elim
 |ck _=>exact h.elim
 |tok f1 x y=>
  cases mO with
  |none=>trivial
  |bU=>exact e.elim
  |ck z=>exact e.elim
  |tok f' x' y'=>
   simp only [cJ,Jd] at *;refine ⟨by omega,fun k=>?_⟩;obtain ⟨e1,e2⟩:=e.2 (by omega);obtain ⟨h1,h2,h3⟩:=h.2 (by omega);exact ⟨h1.trans e1.symm,h2.trans e2.symm,h3⟩
  |bK _=>exact e.elim
 |bK _=>exact h.elim
theorem KY.mono {b o f i off sz:Nat} {ro mO:RO} (h:KY b o f i off sz ro) (e:cJ ro mO):KY b o f i off sz mO:=by
 cases ro with
 |none=>simp only [cJ] at e; subst e; trivial
 |bU=>exact h.elim
 |ck _=>exact h.elim
 |tok f1 x y=>
  cases mO with
  |none=>trivial
  |bU=>exact e.elim
  |ck z=>exact e.elim
  |tok f' x' y'=>
   simp only [cJ,KY] at *;refine ⟨by omega,fun k=>?_⟩;obtain ⟨e1,e2⟩:=e.2 (by omega);obtain ⟨h1,h2⟩:=h.2 (by omega);exact ⟨h1.trans e1.symm,h2⟩
  |bK _=>exact e.elim
 |bK _=>exact h.elim
mutual
theorem Rel.mono {R R':ak} {w w':World} (e:Ext R w R' w'):∀ {a:AV} {c:Value},Rel R w a c→Rel R' w' a c
 |_,_,.bool b=>.bool b
 |_,_,.int k n=>.int k n
 |_,_,.str l=>.str l
 |_,_,.agg h h1=>.agg (h.mono e) h1
 |_,_,.bq h=>.bq (h.mono e)
 |_,_,.fj=>.fj
 |_,_,.ptr h=>.ptr (e.ck h)
 |_,_,.ep h=>.ep (h.mono e)
 |_,_,.kC=>.kC
 |_,_,.jc=>.jc
 |_,_,.nQ=>.nQ
 |_,_,.mN h ho=>let ⟨_,h3,h4⟩:=e.obj _ _ h; .mN h3 (ho.mono h4)
 |_,_,.nR h ho=>let ⟨_,h3,h4⟩:=e.obj _ _ h; .nR h3 (ho.mono h4)
 |_,_,.list h hl hc hk=>.list (h.mono e) hl hc (hk.mono e)
 |_,_,.j7 h hc=>.j7 (e.ck h) hc
 |_,_,.iY h ho=>let ⟨_,h3,h4⟩:=e.obj _ _ h; .iY h3 (ho.mono h4)
 |_,_,.eF h ho hc=>let ⟨_,h3,h4⟩:=e.obj _ _ h; .eF h3 (ho.mono h4) hc
 |_,_,.gp h ho=>let ⟨_,h3,h4⟩:=e.obj _ _ h; .gp h3 (ho.mono h4)
 |_,_,.ky=>.ky
 |_,_,.map h=>.map (e.ck h)
 |_,_,.cL=>.cL
 |_,_,.fn h h'=>.fn (h.mono e) (h'.mono e)
 |_,_,.yield h=>.yield (e.ck h)
 |_,_,.oV=>.oV
 |_,_,.iface h=>.iface (h.mono e)
theorem aN.mono {R R':ak} {w w':World} (e:Ext R w R' w'):∀ {l:List AV} {cs:List Value},aN R w l cs→aN R' w' l cs
 |_,_,.nil=>.nil
 |_,_,.cons h t=>.cons (h.mono e) (t.mono e)
theorem gj.mono {R R':ak} {w w':World} (e:Ext R w R' w'):∀ {b o sz:Nat} {l:List AV},gj R w b o sz l→gj R' w' b o sz l
 |_,_,_,_,.nil=>.nil
 |_,_,_,_,.cons hl ht hk h t=>.cons hl ht hk (h.mono e) (t.mono e)
theorem dV.mono {R R':ak} {w w':World} (e:Ext R w R' w'):∀ {b o:Nat} {l:List AV},dV R w b o l→dV R' w' b o l
 |_,_,_,.nil=>.nil
 |_,_,_,.cons hc h1 hi h t=>.cons ((e.cell _ _ hi).trans hc) h1 (e.I _ _ hi) (h.mono e) (t.mono e)
end
end Go.Am
namespace Go.Am
open Go
section lists
variable {α:Type}
theorem bi (l:List α) (n:Nat):nth l n=l[n]?:=by
 induction l generalizing n with
 |nil=>simp [nth]
 |cons a l ih=>cases n <;> simp [nth,ih]
theorem gk (l:List α) (n:Nat) (x:α):aI l n x=l.set n x:=by
 induction l generalizing n with
 |nil=>simp [aI]
 |cons a l ih=>cases n <;> simp [aI,ih]
theorem ca {l:List α} {n:Nat} {x:α} (h:nth l n=some x):n < l.length:=by
 rw [bi] at h;exact (aaF.1 h).1
theorem aQ {l:List α} {n:Nat} {x y:α} (h:nth l n=some y):nth (aI l n x) n=some x:=by
 have:=ca h;rw [bi,gk,aa1 this]
theorem cq {l:List α} {n m:Nat} {x:α} (h:n≠m):nth (aI l n x) m=nth l m:=by
 rw [bi,gk,bi,List.getElem?_set_ne h]
theorem du {l:List α} {n m:Nat} {x y:α} (h:nth (aI l n x) m=some y):(n=m∧y=x∧m < l.length)∨(n≠m∧nth l m=some y):=by
 by_cases e:n=m
 ·subst e;have hl:=ca h;rw [gk,List.length_set] at hl;rw [bi,gk,aa1 hl] at h;exact .inl ⟨rfl,(aa7 h).symm,hl⟩
 ·rw [cq e] at h;exact .inr ⟨e,h⟩
@[simp] theorem iw (l:List α) (n:Nat) (x:α):(aI l n x).length=l.length:=by rw [gk,List.length_set]
theorem eQ (l:List α) (x:α):nth (l++[x]) l.length=some x:=by rw [bi]; simp
theorem dv {l:List α} {n:Nat} {y x:α} (h:nth l n=some y):nth (l++[x]) n=some y:=by
 have:=ca h;rw [bi] at *;rw [aaZ this];exact h
theorem ar {l:List α} {n:Nat} {y x:α} (h:nth (l++[x]) n=some y):nth l n=some y∨(n=l.length∧y=x):=by
 rw [bi] at *;by_cases e:n < l.length
 ·rw [aaZ e] at h; exact .inl h
 ·rw [List.getElem?_append_right (by omega)] at h;have hl:=(aaF.1 h).1;simp at hl;have:n - l.length=0:=by omega
  rw [this] at h;simp at h;exact .inr ⟨by omega,h.symm⟩
theorem jw:∀ {l:List α} {n:Nat} {x:α},nth l n=some x→aI l n x=l
 |[],_,_,h=>by cases h
 |a :: l,0,x,h=>by cases h; rfl
 |a :: l,n+1,x,h=>by
  show a :: aI l n x=a :: l;rw [jw (show nth l n=some x from h)]
end lists
def Vh (R:ak) (w:World) (Zx:bj→Array Value→Prop) (busy:Bool) (pending:Option Code) (ae:bj) (n:Nat) (params:List Tmp) (assign body:Code) (defers:Nat) (done:Bool) (b:Nat):Prop:=
 ∃ (r:Loop) (db:Nat),w.heap[b]?=some (.loop r)∧r.state=(if done then .done else if busy then .busy else .ready)∧r.pending=pending ∧
  Zx ae r.tmps∧r.tmps.size=n∧r.params=⟨params⟩∧r.assign=assign∧r.body=body∧r.defers=db∧nth R.obj defers=some (.ck db)
def rm (R:ak) (w:World) (β:Nat→Nat):SV→Value→Prop
 |.none,_=>True
 |.v a,c=>Rel R w a c
 |.lp k off,c=>c=.pointer (some ⟨β k,off,none⟩)
def pj (R:ak) (w:World) (β:Nat→Nat) (ae:bj) (tmps:Array Value):Prop:=
 ∀ i,lk ae i≠.none→∃ c,tmps[i]?=some c∧rm R w β (lk ae i) c
def HM:bj→Bool
 |[]=>true
 |.put _ (.lp _ _) :: _=>false
 |_ :: l=>HM l
def dB (R:ak) (w:World):List (AV × AV)→List MapEntry→Prop
 |[],[]=>True
 |(k,v) :: l,e :: es=>Rel R w k e.key∧Rel R w v e.val∧dB R w l es
 |_,_=>False
def AZ (R:ak) (w:World) (sz:Nat) (e:TypeId) (f:Nat):TR→Prop
 |.bU=>f=0
 |.full f'=>f'=f
 |.tok f' b c=>f'=f∧∃ cur,w.heap[b]?=some (.cells cur e (0,0))∧f≤c∧c≤maxLen∧cur.size=c * sz∧∀ o,f * sz≤o→¬ R.I b o
def Zy (ts:List TR):Prop:=∀ i j f b c f' c',nth ts i=some (.tok f b c)→nth ts j=some (.tok f' b c')→i=j
def xD (R:ak) (w:World) (sz:Nat) (e:TypeId) (fs:List Nat) (ts:List TR):Prop:=
 ts.length=fs.length∧Zy ts∧∀ j f t,nth fs j=some f→nth ts j=some t→AZ R w sz e f t
def jU (ax:Array MapEntry) (clock:Nat):Prop:=clock=ax.size∧∀ (i:Nat) (e:MapEntry),ax.toList[i]?=some e→e.born=i
def Zz (R:ak) (w:World) (rT n:Nat) (left:List Nat) (cur:Option Nat) (b:Nat):Prop:=
 ∃ bm seen c0,nth R.obj rT=some (.ck bm)∧w.heap[b]?=some (.mapIter (some bm) n seen c0)∧(∀ i,i < n→(i∈left↔seen.contains i=false))∧(∀ i∈left,i < n)∧left.Nodup∧n≤c0∧∀ i,cur=some i→seen.back?=some i∧c0=n
def gI (R:ak) (w:World):GO→RO→Prop
 |.dead,.none=>True
 |.dead,.bU=>True
 |.dead,.ck b=>b < w.heap.size
 |.dead,.tok _ b _=>b < w.heap.size
 |.dead,.bK ts=>∀ j f b c,nth ts j=some (.tok f b c)→b < w.heap.size
 |.bK fs sz e,.bK ts=>xD R w sz e fs ts
 |.oQ rT n left cur _,.ck b=>Zz R w rT n left cur b
 |.tok f _ _,.bU=>f=0
 |.row cs el,.ck b=>∃ vs,w.heap[b]?=some (.cells ⟨vs⟩ el (0,0))∧aN R w cs vs∧(∀ v∈vs,v.oneCell'=true)∧∀ o,¬ R.I b o
 |.tok f sz e,.tok f' b c=>f'=f∧∃ cur,w.heap[b]?=some (.cells cur e (0,0))∧f≤c∧c≤maxLen∧cur.size=c * sz∧∀ o,f * sz≤o→¬ R.I b o
 |.dZ es _ _,.bU=>es=[]
 |.dZ es sz e,.tok f b c=>f=es.length∧dM sz es∧∃ cur vs,w.heap[b]?=some (.cells cur e (0,0))∧f≤c∧c≤maxLen∧cur.size=c * sz∧(∀ o,¬ R.I b o)∧aN R w (aq es) vs∧(∀ v∈vs,v.oneCell'=true)∧cur.toList.take (f * sz)=vs
 |.map es,.ck b=>∃ ax clock,w.heap[b]?=some (.map ax clock)∧dB R w es ax.toList∧jU ax clock
 |.gy l pos,.ck b=>w.heap[b]?=some (.stringIter ⟨⟨l⟩⟩ pos)
 |.loop busy pending _ ae n params assign body defers done,.ck b=>Vh R w (pj R w (fun _=>0)) busy pending ae n params assign body defers done b∧HM ae=true
 |.defers o,.ck b=>w.heap[b]?=some (.deferred (if o then some [] else none))
 |_,_=>False
def jV (E:Env) (R:ak) (w:World) (g:Nat) (cs:List AV):Prop:=
 dV R w g 0 cs∧(E.gx g=true→R.I g cs.length∧w.cell? ⟨g,cs.length,none⟩=none)
theorem jV.mono {E:Env} {R R':ak} {w w':World} {g:Nat} {cs:List AV} (h:jV E R w g cs) (e:Ext R w R' w'):jV E R' w' g cs:=
 ⟨h.1.mono e,fun hx=>⟨e.I _ _ (h.2 hx).1,(e.cell _ _ (h.2 hx).1).trans (h.2 hx).2⟩⟩
structure dC (E:Env) (R:ak) (w:World) (G:List GO):Prop where
 len:R.obj.length=G.length
 obj:∀ id go ro,nth G id=some go→nth R.obj id=some ro→gI R w go ro
 inj:∀ i j ri rj b,nth R.obj i=some ri→nth R.obj j=some rj→ri.has b→rj.has b→i=j
 wf:∀ b o,R.I b o→b < w.heap.size
 cr:∀ g cs,E.cr g=some cs→jV E R w g cs
 lo:E.lo≤w.drawn
def Live (R:ak) (b:Nat):Prop:=∃ id ro,nth R.obj id=some ro∧ro.has b
structure Pz (R:ak) (w:World) (β:Nat→Nat) (boxes:cV):Prop where
 box:∀ k cs,dA boxes k=some cs→(∃ vs el,w.heap[β k]?=some (.cells ⟨vs⟩ el (0,0))∧aN R w cs vs∧(∀ v∈vs,v.oneCell'=true))∧(∀ o,¬ R.I (β k) o)∧¬ Live R (β k)
 inj:∀ k k' cs cs',dA boxes k=some cs→dA boxes k'=some cs'→β k=β k'→k=k'
def rn (R:ak):List Nat→List Deferred→Prop
 |[],[]=>True
 |id :: l,d :: ds=>(∃ b,nth R.obj id=some (.ck b)∧d={ target:=.collected b,args:=#[] })∧rn R l ds
 |_,_=>False
structure bt (E:Env) (R:ak) (w:World) (β:Nat→Nat) (s:St) (a:Act):Prop where
 g:dC E R w s.G
 b:Pz R w β s.boxes
 t:pj R w β s.ae a.tmps
 n:a.tmps.size=s.n
 d:rn R s.marks a.defers
def Own (R:ak) (β:Nat→Nat) (boxes:cV) (b:Nat):Prop:=
 Live R b∨∃ k cs,dA boxes k=some cs∧β k=b
structure Step (R:ak) (w:World) (β:Nat→Nat) (bx:cV) (R':ak) (w':World) (β':Nat→Nat) (KZ:cV):Prop where
 ext:Ext R w R' w'
 os:w'.os=w.os
 tape:w'.tape=w.tape
 output:w'.output=w.output
 size:w.heap.size≤w'.heap.size
 aY:∀ b,b < w.heap.size→¬ Own R β bx b→w'.heap[b]?=w.heap[b]?
 own:∀ b,b < w.heap.size→Own R' β' KZ b→Own R β bx b
 im:∀ b o,R'.I b o→b < w.heap.size→¬ Own R β bx b→R.I b o
theorem Step.refl (R:ak) (w:World) (β:Nat→Nat) (bx:cV):Step R w β bx R w β bx:=
 ⟨Ext.refl R w,rfl,rfl,rfl,Nat.le_refl _,fun _ _ _=>rfl,fun _ _ h=>h,fun _ _ h _ _=>h⟩
theorem Step.trans {R R1 R2:ak} {w w1 w2:World} {β β1 β2:Nat→Nat} {x x1 x2:cV}
  (h:Step R w β x R1 w1 β1 x1) (k:Step R1 w1 β1 x1 R2 w2 β2 x2):Step R w β x R2 w2 β2 x2 where
 ext:=h.ext.trans k.ext
 os:=k.os.trans h.os
 tape:=k.tape.trans h.tape
 output:=k.output.trans h.output
 size:=Nat.le_trans h.size k.size
 aY:=fun b hb hn=>(k.aY b (aao hb h.size) (fun ho=>hn (h.own b hb ho))).trans (h.aY b hb hn)
 own:=fun b hb ho=>h.own b hb (k.own b (aao hb h.size) ho)
 im:=fun b o hi hb hn=>h.im b o (k.im b o hi (aao hb h.size) (fun ho=>hn (h.own b hb ho))) hb hn
theorem rm.mono {R R':ak} {w w':World} {β:Nat→Nat} (e:Ext R w R' w') {x:SV} {c:Value} (h:rm R w β x c):rm R' w' β x c:=by
 cases x with
 |none=>trivial
 |v a=>exact Rel.mono e h
 |lp k off=>exact h
theorem sT (n:Nat):aab n n=true:=Nat.beq_refl n
theorem nS {n m:Nat} (h:n≠m):aab n m=false:=by
 cases hb:aab n m with
 |true=>exact absurd (Nat.eq_of_beq_eq_true hb) h
 |false=>rfl
theorem aA (l:bj) (d:Nat) (x:SV):lk (.put d x :: l) d=x:=by simp [lk]
theorem aS {l:bj} {d t:Nat} {x:SV} (h:d≠t):lk (.put d x :: l) t=lk l t:=by simp [lk,nS h]
theorem HN {l:bj} {d t:Nat}:(lk (.kill d :: l) t=lk l t∧∀ k off,lk l t=.lp k off→k≠d)∨lk (.kill d :: l) t=.none:=by
 simp only [lk];cases h:lk l t with
 |none=>exact .inr rfl
 |v a=>exact .inl ⟨rfl,fun _ _ e=>by cases e⟩
 |lp k off=>
  by_cases hk:k=d
  ·subst hk;exact .inr (by simp)
  ·exact .inl ⟨by simp [nS hk],fun k' fO e=>by cases e; exact hk⟩
theorem K0 (l:cV) (d:Nat) (cs:List AV):dA ((d,cs) :: l) d=some cs:=by simp [dA]
theorem eR {l:cV} {d k:Nat} {cs cs':List AV} (h:dA ((d,cs) :: l) k=some cs'):(d=k∧cs'=cs)∨(d≠k∧dA l k=some cs'):=by
 by_cases e:d=k
 ·subst e;rw [K0] at h;exact .inl ⟨rfl,(aa7 h).symm⟩
 ·simp only [dA,nS e,cond_false] at h;exact .inr ⟨e,h⟩
theorem PA {l:cV} (h:l.all (fun p=>aF p.2)=true) {k:Nat} {cs:List AV} (hk:dA l k=some cs):aF cs=true:=by
 induction l with
 |nil=>simp [dA] at hk
 |cons x l ih=>
  obtain ⟨d,c⟩:=x;simp only [List.all_cons,Bool.and_eq_true] at h;rcases eR hk with ⟨_,rfl⟩|⟨_,hk⟩
  ·exact h.1
  ·exact ih h.2 hk
theorem pj.put {R:ak} {w:World} {β:Nat→Nat} {ae:bj} {a:Act} (h:pj R w β ae a.tmps) {d:Tmp} {x:SV} {c:Value} (hd:d < a.tmps.size) (hx:rm R w β x c) :
  pj R w β (.put d x :: ae) (a.put (some d) c).tmps:=by
 intro i hi;by_cases e:d=i
 ·subst e;rw [aA];exact ⟨c,by simp [Act.put,hd],hx⟩
 ·rw [aS e] at hi ⊢;obtain ⟨c',h1,h2⟩:=h i hi;refine ⟨c',?_,h2⟩;simp only [Act.put];rw [Array.getElem?_setIfInBounds_ne e];exact h1
theorem bt.put {E:Env} {R:ak} {w:World} {β:Nat→Nat} {s:St} {a:Act} (h:bt E R w β s a) (dst:Option Tmp) {x:SV} {c:Value} (hx:rm R w β x c) :
  bt E R w β (s.put dst x) (a.put dst c):=by
 cases dst with
 |none=>exact h
 |some d=>
  simp only [St.put];cases hb:aa2 d s.n with
  |true=>
   have hd:d < a.tmps.size:=by rw [h.n]; exact Nat.le_of_ble_eq_true hb
   exact ⟨h.g,h.b,h.t.put hd hx,by simp [Act.put,h.n],h.d⟩
  |false=>
   have hd:¬ d < a.tmps.size:=by
    rw [h.n];intro cm;have:aa2 d s.n=true:=Nat.ble_eq_true_of_le cm;rw [this] at hb;cases hb
   have he:a.put (some d) c=a:=by
    simp only [Act.put];rw [Array.setIfInBounds_eq_of_size_le (Nat.not_lt.1 hd)]
   rw [he];exact h
theorem sU {R:ak} {w:World} {v:Value} {a:AV} (h:sN v=some a):Rel R w a v∧v.oneCell'=true:=by
 unfold sN at h;split at h <;> cases h
 ·exact ⟨.bool _,rfl⟩
 ·exact ⟨.int _ _,rfl⟩
 ·rename_i s;exact ⟨.str s.data.toList,rfl⟩
 ·exact ⟨.kC,rfl⟩
 ·exact ⟨.fj,rfl⟩
 ·exact ⟨.ky,rfl⟩
 ·exact ⟨.cL,rfl⟩
 ·exact ⟨.oV,rfl⟩
theorem nT {R:ak} {w:World}:∀ {vs:List Value} {l:List AV},mH vs=some l→aN R w l vs∧∀ v∈vs,v.oneCell'=true
 |[],l,h=>by simp [mH] at h; subst h; exact ⟨.nil,by simp⟩
 |v :: vs,l,h=>by
  unfold mH at h;split at h
  ·rename_i a r h1 h2;cases h;obtain ⟨k1,k2⟩:=sU (R:=R) (w:=w) h1;obtain ⟨k3,k4⟩:=nT (R:=R) (w:=w) h2;exact ⟨.cons k1 k3,by simp [k2]; exact k4⟩
  ·cases h
theorem vt {R:ak} {w:World} {v:Value} {a:AV} (h:sO v=some a):Rel R w a v:=by
 unfold sO at h;split at h
 ·rename_i cs;split at h
  ·rename_i l hl;cases h;obtain ⟨k1,k2⟩:=nT (R:=R) (w:=w) hl;exact .agg (vs:=cs.toList) k1 k2
  ·cases h
 ·rename_i cs;split at h
  ·rename_i l hl;cases h;obtain ⟨k1,_⟩:=nT (R:=R) (w:=w) hl;exact .bq (vs:=cs.toList) k1
  ·cases h
 ·exact (sU h).1
theorem aW {E:Env} {R:ak} {w:World} {β:Nat→Nat} {s:St} {a:Act} (h:bt E R w β s a) (x:Operand):rm R w β (bP E s.ae x) (a.eval x):=by
 cases x with
 |tmp t=>
  simp only [bP,Act.eval];by_cases hn:lk s.ae t=.none
  ·rw [hn]; trivial
  ·obtain ⟨c,h1,h2⟩:=h.t t hn;have:a.tmps.getD t undef=c:=by simp [Array.getD_eq_getD_getElem?,h1]
   rw [this];exact h2
 |const v=>
  simp only [bP,Act.eval];cases hc:sO v with
  |none=>trivial
  |some y=>exact vt hc
 |global g=>
  simp only [bP,Act.eval];cases hg:E.cr g with
  |none=>trivial
  |some cs=>exact Rel.ep (h.g.cr g cs hg).1
 |func f=>exact Rel.fn .nil .nil
end Go.Am
namespace Go.Am
open Go
section lists
variable {α:Type}
theorem xF (n:Nat) (l:List α):fF n l=l.drop n:=by
 induction n generalizing l with
 |zero=>simp [fF]
 |succ n ih=>cases l <;> simp [fF,ih]
theorem K1 {n:Nat} {l r:List α} (h:takeN n l=some r):r=l.take n∧r.length=n:=by
 induction n generalizing l r with
 |zero=>simp [takeN] at h; subst h; simp
 |succ n ih=>
  cases l with
  |nil=>simp [takeN] at h
  |cons a l=>
   unfold takeN at h;split at h
   ·rename_i r' hr;cases h;obtain ⟨h1,h2⟩:=ih hr;exact ⟨by simp [h1],by simp [h2]⟩
   ·cases h
theorem Vi {off n:Nat} {l r:List α} (h:HK off n l=some r):r=(l.drop off).take n∧r.length=n:=by
 unfold HK at h;rw [xF] at h;exact K1 h
theorem eT (l:List α) (off:Nat) (ys:List α) (h:off+ys.length≤l.length):bh l off ys=l.take off++ys++l.drop (off+ys.length):=by
 induction l generalizing off ys with
 |nil=>
  have hy:ys=[]:=List.eq_nil_of_length_eq_zero (by rw [List.length_nil] at h; omega);subst hy;simp [bh]
 |cons a l ih=>
  cases ys with
  |nil=>simp [bh]
  |cons y ys=>
   cases off with
   |zero=>
    simp only [bh];rw [ih 0 ys (by simp at h ⊢; omega)];simp
   |succ n=>
    simp only [bh];rw [ih n (y :: ys) (by simp at h ⊢; omega)];rw [show n+1+(y :: ys).length=(n+(y :: ys).length)+1 by omega];simp
theorem Aj (l:List α) (off:Nat) (ys:List α) (h:off+ys.length≤l.length):(bh l off ys).length=l.length:=by
 rw [eT l off ys h];simp;omega
end lists
section rel
variable {R:ak} {w:World}
theorem aN.length {l:List AV} {vs:List Value} (h:aN R w l vs):l.length=vs.length:=by
 induction l generalizing vs with
 |nil=>cases h; rfl
 |cons a l ih=>cases h with | cons h t=>simp [ih t]
theorem aN.get {l:List AV} {vs:List Value} (h:aN R w l vs) {i:Nat} {a:AV} (ha:l[i]?=some a):∃ c,vs[i]?=some c∧Rel R w a c:=by
 induction l generalizing vs i with
 |nil=>simp at ha
 |cons x l ih=>
  cases h with
  |cons h t=>
   cases i with
   |zero=>simp at ha; subst ha; exact ⟨_,by simp,h⟩
   |succ i=>simp at ha; obtain ⟨c,h1,h2⟩:=ih t ha; exact ⟨c,by simpa using h1,h2⟩
theorem aN.drop {l:List AV} {vs:List Value} (h:aN R w l vs) (n:Nat):aN R w (l.drop n) (vs.drop n):=by
 induction n generalizing l vs with
 |zero=>simpa using h
 |succ n ih=>cases h with
  |nil=>simpa using aN.nil
  |cons h t=>simpa using ih t
theorem aN.take {l:List AV} {vs:List Value} (h:aN R w l vs) (n:Nat):aN R w (l.take n) (vs.take n):=by
 induction n generalizing l vs with
 |zero=>simpa using aN.nil
 |succ n ih=>cases h with
  |nil=>simpa using aN.nil
  |cons h t=>simpa using aN.cons h (ih t)
theorem aN.append {l r:List AV} {vs us:List Value} (h:aN R w l vs) (k:aN R w r us):aN R w (l++r) (vs++us):=by
 induction l generalizing vs with
 |nil=>cases h; simpa using k
 |cons a l ih=>cases h with | cons h t=>exact .cons h (ih t)
theorem aN.one {a:AV} {c:Value} (h:Rel R w a c):aN R w [a] [c]:=.cons h .nil
theorem Rel.cells {a:AV} {c:Value} (h:Rel R w a c) (ht:a.a8=true):aN R w a.cells c.cells.toList∧∀ v∈c.cells.toList,v.oneCell'=true:=by
 cases h with
 |agg h h1=>exact ⟨h,h1⟩
 |bq h=>simp [AV.a8] at ht
 |bool=>exact ⟨.one (.bool _),by simp [aad,aac]⟩
 |int=>exact ⟨.one (.int _ _),by simp [aad,aac]⟩
 |str=>exact ⟨.one (.str _),by simp [aad,aac]⟩
 |fj=>exact ⟨.one .fj,by simp [aad,aac]⟩
 |ptr h=>exact ⟨.one (.ptr h),by simp [aad,aac]⟩
 |ep h=>exact ⟨.one (.ep h),by simp [aad,aac]⟩
 |kC=>exact ⟨.one .kC,by simp [aad,aac]⟩
 |jc=>exact ⟨.one .jc,by simp [aad,aac]⟩
 |nQ=>exact ⟨.one .nQ,by simp [aad,aac]⟩
 |mN h ho=>exact ⟨.one (.mN h ho),by simp [aad,aac]⟩
 |nR h ho=>exact ⟨.one (.nR h ho),by simp [aad,aac]⟩
 |list h hl hc hk=>exact ⟨.one (.list h hl hc hk),by simp [aad,aac]⟩
 |j7 h hc=>exact ⟨.one (.j7 h hc),by simp [aad,aac]⟩
 |iY h ho=>exact ⟨.one (.iY h ho),by simp [aad,aac]⟩
 |eF h ho hc=>exact ⟨.one (.eF h ho hc),by simp [aad,aac]⟩
 |gp h ho=>exact ⟨.one (.gp h ho),by simp [aad,aac]⟩
 |ky=>exact ⟨.one .ky,by simp [aad,aac]⟩
 |map h=>exact ⟨.one (.map h),by simp [aad,aac]⟩
 |cL=>exact ⟨.one .cL,by simp [aad,aac]⟩
 |fn h h'=>exact ⟨.one (.fn h h'),by simp [aad,aac]⟩
 |yield h=>exact ⟨.one (.yield h),by simp [aad,aac]⟩
 |oV=>exact ⟨.one .oV,by simp [aad,aac]⟩
 |iface h=>exact ⟨.one (.iface h),by simp [aad,aac]⟩
mutual
theorem Rel.hY:∀ {a:AV} {c:Value},Rel R w a c→Rel R w a.hY c
 |_,_,.bool b=>.bool b
 |_,_,.int k n=>.int k n
 |_,_,.str l=>.str l
 |_,_,.agg h h1=>.agg h.hY h1
 |_,_,.bq h=>.bq h.hY
 |_,_,.fj=>.fj
 |_,_,.ptr h=>.ptr h
 |_,_,.ep h=>.ep h
 |_,_,.kC=>.kC
 |_,_,.jc=>.jc
 |_,_,.nQ=>.nQ
 |_,_,.mN _ _=>.jc
 |_,_,.nR _ _=>.jc
 |_,_,@Rel.list _ _ .nil _ _ _ _ _ _ h hl hc hk=>.list h hl hc hk
 |_,_,@Rel.list _ _ .full _ _ _ _ _ _ h hl hc hk=>.list h hl hc hk
 |_,_,@Rel.list _ _ .ly _ _ _ _ _ _ h hl hc hk=>.list h hl hc hk
 |_,_,@Rel.list _ _ (.own _) _ _ _ _ _ _ h hl hc _=>.list h hl hc trivial
 |_,_,@Rel.list _ _ (.bK _ _) _ _ _ _ _ _ h hl hc _=>.list h hl hc trivial
 |_,_,.j7 h hc=>.j7 h hc
 |_,_,.iY h ho=>.iY h ho
 |_,_,.eF h ho hc=>.eF h ho hc
 |_,_,.gp h ho=>.gp h ho
 |_,_,.ky=>.ky
 |_,_,.map h=>.map h
 |_,_,.cL=>.cL
 |_,_,.fn h h'=>.fn h h'
 |_,_,.yield h=>.yield h
 |_,_,.oV=>.oV
 |_,_,.iface h=>.iface h
theorem aN.hY:∀ {l:List AV} {cs:List Value},aN R w l cs→aN R w (lH l) cs
 |_,_,.nil=>.nil
 |_,_,.cons h t=>.cons h.hY t.hY
end
theorem dV.get {b o:Nat} {l:List AV} (h:dV R w b o l):∃ vs,aN R w l vs∧(∀ v∈vs,v.oneCell'=true)∧(∀ j v,vs[j]?=some v→w.cell? ⟨b,o+j,none⟩=some v)∧∀ j,j < l.length→R.I b (o+j):=by
 induction l generalizing o with
 |nil=>exact ⟨[],.nil,by simp,by simp,by simp⟩
 |cons a l ih=>
  cases h with
  | @cons _ _ _ c _ hc h1 hi h t=>
   obtain ⟨vs,k1,k2,k3,k4⟩:=ih t;refine ⟨c :: vs,.cons h k1,?_,?_,?_⟩
   ·intro v hv;rcases List.mem_cons.1 hv with rfl|hv
    ·exact h1
    ·exact k2 v hv
   ·intro j v hv;cases j with
    |zero=>simp at hv; subst hv; exact hc
    |succ j=>simp at hv; have:=k3 j v hv; rwa [show o+1+j=o+(j+1) by omega] at this
   ·intro j hj;cases j with
    |zero=>exact hi
    |succ j=>have:=k4 j (by simp at hj; omega); rwa [show o+1+j=o+(j+1) by omega] at this
theorem dV.make {b o:Nat} {l:List AV} {vs:List Value} (h:aN R w l vs) (h1:∀ v∈vs,v.oneCell'=true) (hc:∀ j v,vs[j]?=some v→w.cell? ⟨b,o+j,none⟩=some v) (hi:∀ j,j < l.length→R.I b (o+j)):dV R w b o l:=by
 induction l generalizing vs o with
 |nil=>exact .nil
 |cons a l ih=>
  cases h with
  |cons h t=>
   refine .cons (hc 0 _ (by simp)) (h1 _ (by simp)) (hi 0 (by simp)) h (ih t (fun v hv=>h1 v (by simp [hv])) (fun j v hv=>?_) (fun j hj=>?_))
   ·have:=hc (j+1) v (by simpa using hv); rwa [show o+(j+1)=o+1+j by omega] at this
   ·have:=hi (j+1) (by simpa using hj); rwa [show o+(j+1)=o+1+j by omega] at this
theorem dV.drop {b o:Nat} {l:List AV} (h:dV R w b o l) (n:Nat):dV R w b (o+n) (l.drop n):=by
 induction n generalizing o l with
 |zero=>simpa using h
 |succ n ih=>cases h with
  |nil=>simpa using dV.nil
  |cons hc h1 hi h t=>have:=ih t; rw [show o+1+n=o+(n+1) by omega] at this; simpa using this
end rel
theorem cM (b o n:Nat):(⟨b,o,none⟩:Addr).add n=⟨b,o+n,none⟩:=by unfold Addr.add; split <;> simp_all
section aY
variable {E:Env} {R R':ak} {w w':World} {β β':Nat→Nat} {s:St} {a:Act}
theorem pj.mono (e:Ext R w R' w') {sl:bj} {tm:Array Value} (h:pj R w β sl tm):pj R' w' β sl tm:=
 fun i hi=>let ⟨c,h1,h2⟩:=h i hi; ⟨c,h1,h2.mono e⟩
theorem dB.mono (e:Ext R w R' w'):∀ {l:List (AV × AV)} {es:List MapEntry},dB R w l es→dB R' w' l es
 |[],[],_=>trivial
 |(_,_) :: _,_ :: _,h=>⟨h.1.mono e,h.2.1.mono e,dB.mono e h.2.2⟩
 |[],_ :: _,h=>h.elim
 |_ :: _,[],h=>h.elim
theorem pn {w w':World} {b:Nat} (h:b < w.heap.size) (e:w'.heap[b]?=w.heap[b]?):b < w'.heap.size:=by
 rw [Array.getElem?_eq_getElem h] at e;exact (aap.1 e).1
theorem gI.mono (e:Ext R w R' w') {go:GO} {ro:RO} (h:gI R w go ro) (hb:∀ b,ro.has b→w'.heap[b]?=w.heap[b]?) (hi:∀ b o,ro.has b→R'.I b o→R.I b o):gI R' w' go ro:=by
 cases ro with
 |none=>cases go <;> first | exact h | exact h.elim
 |bU=>cases go <;> first | exact h | exact h.elim
 |ck b=>
  have gJ:=hb b rfl;cases go with
  |dead=>exact pn h gJ
  |row cs el=>obtain ⟨vs,h1,h2,h3,h4⟩:=h; exact ⟨vs,gJ.trans h1,h2.mono e,h3,fun o ho=>h4 o (hi b o rfl ho)⟩
  |tok f sz el=>exact h.elim
  |bK _ _ _=>exact h.elim
  |oQ rT n left _=>obtain ⟨bm,seen,c0,h1,h2,h3⟩:=h; exact ⟨bm,seen,c0,e.ck h1,gJ.trans h2,h3⟩
  |dZ es sz el=>exact h.elim
  |map es=>obtain ⟨ax,clock,h1,h2,h3⟩:=h; exact ⟨ax,clock,gJ.trans h1,dB.mono e h2,h3⟩
  |gy l pos=>exact gJ.trans h
  |loop busy pending fn ae n params assign body defers done=>
   obtain ⟨⟨r,db,h1,h2,h3,h4,h5,h6,h7,h8,h9,h11⟩,h10⟩:=h;exact ⟨⟨r,db,gJ.trans h1,h2,h3,h4.mono e,h5,h6,h7,h8,h9,e.ck h11⟩,h10⟩
  |defers o=>exact gJ.trans h
 |tok f b c=>
  have gJ:=hb b rfl;cases go with
  |tok f' sz el=>
   obtain ⟨h0,cur,h1,h2,h3,h4,h5⟩:=h;exact ⟨h0,cur,gJ.trans h1,h2,h3,h4,fun o ho um=>h5 o ho (hi b o rfl um)⟩
  |dZ es sz el=>
   obtain ⟨h0,qD,cur,vs,h1,h2,h3,h4,h5,h6,h7,h8⟩:=h;exact ⟨h0,qD,cur,vs,gJ.trans h1,h2,h3,h4,fun o ho=>h5 o (hi b o rfl ho),h6.mono e,h7,h8⟩
  |dead=>exact pn h gJ
  |row cs=>exact h.elim
  |bK _ _ _=>exact h.elim
  |oQ _ _ _ _=>exact h.elim
  |map es=>exact h.elim
  |gy l pos=>exact h.elim
  |loop=>exact h.elim
  |defers o=>exact h.elim
 |bK ts=>
  cases go with
  |bK fs sz el=>
   obtain ⟨h1,h2,h3⟩:=h;refine ⟨h1,h2,fun j f t hf ht=>?_⟩;have h4:=h3 j f t hf ht;cases t with
   |bU=>exact h4
   |full f'=>exact h4
   |tok f' b c=>
    obtain ⟨h5,cur,k1,k2,k3,k4,k5⟩:=h4;have hh:RO.has (.bK ts) b:=⟨j,f',c,ht⟩;exact ⟨h5,cur,(hb b hh).trans k1,k2,k3,k4,fun o ho um=>k5 o ho (hi b o hh um)⟩
  |dead=>exact fun j f b c ht=>pn (h j f b c ht) (hb b ⟨j,f,c,ht⟩)
  |_=>exact h.elim
theorem Live.of {id b:Nat} {ro:RO} (h:nth R.obj id=some ro) (hb:ro.has b):Live R b:=⟨id,ro,h,hb⟩
theorem dC.aY {G:List GO} (h:dC E R w G) (e:Ext R w R' w') (ho:R'.obj=R.obj) (hb:∀ b,Live R b→w'.heap[b]?=w.heap[b]?) (hi:∀ b o,Live R b→R'.I b o→R.I b o) (wf:∀ b o,R'.I b o→b < w'.heap.size) (hd:E.lo≤w.drawn→E.lo≤w'.drawn:=by first | exact fun h=>h | exact fun h=>Nat.le_succ_of_le h):dC E R' w' G where
 lo:=hd h.lo
 len:=by rw [ho]; exact h.len
 obj:=fun id go ro hg hr=>by
  rw [ho] at hr;exact (h.obj id go ro hg hr).mono e (fun b YR=>hb b (.of hr YR)) (fun b o YR=>hi b o (.of hr YR))
 inj:=fun i j ri rj b h1 h2=>by rw [ho] at h1 h2; exact h.inj i j ri rj b h1 h2
 wf:=wf
 cr:=fun g cs hg=>(h.cr g cs hg).mono e
theorem Pz.aY {bx:cV} (h:Pz R w β bx) (e:Ext R w R' w') (hb:∀ k cs,dA bx k=some cs→w'.heap[β k]?=w.heap[β k]?) (hi:∀ k cs o,dA bx k=some cs→R'.I (β k) o→R.I (β k) o) (hl:∀ k cs,dA bx k=some cs→Live R' (β k)→Live R (β k)):Pz R' w' β bx where
 box:=fun k cs hk=>by
  obtain ⟨⟨vs,el,h1,h2,h3⟩,h4,h5⟩:=h.box k cs hk;exact ⟨⟨vs,el,(hb k cs hk).trans h1,h2.mono e,h3⟩,fun o ho=>h4 o (hi k cs o hk ho),fun Dc=>h5 (hl k cs hk Dc)⟩
 inj:=h.inj
theorem rn.mono (e:Ext R w R' w'):∀ {l:List Nat} {ds:List Deferred},rn R l ds→rn R' l ds
 |[],[],_=>trivial
 |_ :: _,_ :: _,h=>let ⟨⟨b,h1,h2⟩,h3⟩:=h; ⟨⟨b,e.ck h1,h2⟩,rn.mono e h3⟩
 |[],_ :: _,h=>h.elim
 |_ :: _,[],h=>h.elim
theorem bt.aY (h:bt E R w β s a) (e:Ext R w R' w') (ho:R'.obj=R.obj) (hb:∀ b,Own R β s.boxes b→w'.heap[b]?=w.heap[b]?) (hi:∀ b o,Own R β s.boxes b→R'.I b o→R.I b o) (wf:∀ b o,R'.I b o→b < w'.heap.size) (hd:E.lo≤w.drawn→E.lo≤w'.drawn:=by first | exact fun h=>h | exact fun h=>Nat.le_succ_of_le h):bt E R' w' β s a where
 g:=h.g.aY e ho (fun b hl=>hb b (.inl hl)) (fun b o hl=>hi b o (.inl hl)) wf hd
 b:=h.b.aY e (fun k cs hk=>hb _ (.inr ⟨k,cs,hk,rfl⟩)) (fun k cs o hk=>hi _ o (.inr ⟨k,cs,hk,rfl⟩)) (fun k cs _ hl=>by obtain ⟨id,ro,h1,h2⟩:=hl; rw [ho] at h1; exact ⟨id,ro,h1,h2⟩)
 t:=h.t.mono e
 n:=h.n
 d:=h.d.mono e
theorem bl {w:World} {b:Nat} {o:Obj} (h:w.heap[b]?=some o):b < w.heap.size:=(aap.1 h).1
theorem gI.lt {go:GO} {ro:RO} (h:gI R w go ro) {b:Nat} (hb:ro.has b):b < w.heap.size:=by
 cases ro with
 |none=>exact hb.elim
 |bU=>exact hb.elim
 |ck x=>
  have hb:b=x:=hb;subst hb;cases go with
  |dead=>exact h
  |row cs el=>obtain ⟨vs,h1,_⟩:=h; exact bl h1
  |tok f sz el=>exact h.elim
  |bK _ _ _=>exact h.elim
  |oQ rT n left _=>obtain ⟨bm,seen,c0,_,h2,_⟩:=h; exact bl h2
  |dZ es sz el=>exact h.elim
  |map es=>obtain ⟨ax,clock,h1,_⟩:=h; exact bl h1
  |gy l pos=>exact bl h
  |loop=>obtain ⟨⟨r,db,h1,_⟩,_⟩:=h; exact bl h1
  |defers o=>exact bl h
 |tok f x c=>
  have hb:b=x:=hb;subst hb;cases go with
  |tok f' sz el=>obtain ⟨_,cur,h1,_⟩:=h; exact bl h1
  |dZ es sz el=>obtain ⟨_,_,cur,vs,h1,_⟩:=h; exact bl h1
  |dead=>exact h
  |row cs=>exact h.elim
  |bK _ _ _=>exact h.elim
  |oQ _ _ _ _=>exact h.elim
  |map es=>exact h.elim
  |gy l pos=>exact h.elim
  |loop=>exact h.elim
  |defers o=>exact h.elim
 |bK ts=>
  obtain ⟨j,f,c,ht⟩:=hb;cases go with
  |bK fs sz el=>
   obtain ⟨h1,h2,h3⟩:=h;have cm:=ca ht;rw [h1] at cm;obtain ⟨f',hf⟩:∃ f',nth fs j=some f':=⟨fs[j],by rw [bi]; exact aa0 cm⟩;obtain ⟨_,cur,k1,_⟩:=h3 j f' _ hf ht;exact bl k1
  |dead=>exact h j f b c ht
  |_=>exact h.elim
theorem dC.cj {G:List GO} (h:dC E R w G) {b:Nat} (hl:Live R b):b < w.heap.size:=by
 obtain ⟨id,ro,h1,h2⟩:=hl;have cm:=ca h1;rw [h.len] at cm;obtain ⟨go,iH⟩:∃ go,nth G id=some go:=⟨G[id],by rw [bi]; exact aa0 cm⟩;exact (h.obj id go ro iH h1).lt h2
theorem bt.eC (h:bt E R w β s a) {b:Nat} (ho:Own R β s.boxes b):b < w.heap.size:=by
 rcases ho with hl|⟨k,cs,hk,rfl⟩
 ·exact h.g.cj hl
 ·obtain ⟨⟨vs,el,h1,_⟩,_⟩:=h.b.box k cs hk;exact bl h1
theorem cn {w w':World} {b:Nat} (h:w'.heap[b]?=w.heap[b]?) (o:Nat):w'.cell? ⟨b,o,none⟩=w.cell? ⟨b,o,none⟩:=by simp [World.cell?,h]
theorem uo (wf:∀ b o,R.I b o→b < w.heap.size) (x:Obj):Ext R w R (w.alloc x):=
 ⟨fun _ _ h=>h,fun b o h=>cn (heap_alloc_old w x b (wf b o h)) o,fun _ ro h=>⟨ro,h,cJ.refl ro⟩,.old fun b hb=>heap_alloc_old w x b hb⟩
theorem bt.alloc (h:bt E R w β s a) (x:Obj):bt E R (w.alloc x) β s a:=
 h.aY (uo h.g.wf x) rfl (fun b hb=>heap_alloc_old w x b (h.eC hb)) (fun _ _ _ hi=>hi) (fun b o hi=>by have:=h.g.wf b o hi; simp; omega)
end aY
end Go.Am
