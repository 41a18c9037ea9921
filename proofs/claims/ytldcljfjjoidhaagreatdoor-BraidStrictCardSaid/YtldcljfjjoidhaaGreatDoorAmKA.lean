/- The abstract machine: its values,its state,and what each operation does (definitions alone). -/
import Derived.CallsIn
import Derived.RangeFuncLeaves
import Derived.Laws.AppendOwn
import Derived.Laws.CopyRow
import Derived.Laws.Slices
set_option linter.all false
open Array renaming getElem?_eq_some_iff→aaX
open BitVec renaming ofInt→aaB
open Go.Op renaming bytesLess→aaH
open Go.Value renaming oneCell'→aab, cells→aac
open List renaming replicate→aaC, getElem?_eq_some_iff→aaY, getElem?_append_left→aaZ, getElem?_eq_getElem→aa3, getElem?_set_self→aa4
open Nat renaming beq→aaa, ble→aax, min→aaM, lt_of_lt_of_le→aaR, blt→aa5
open Option.some renaming inj→abu
namespace Go.Am
open Go
inductive LK where
 |nil | full | lq | own (id:Nat) | bB (id j:Nat)
inductive AV where
 |bool (b:Bool)
 |int (k:IntKind) (n:Int)
 |str (s:List UInt8)
 |agg (cs:List AV)
 |bk (vs:List AV)
 |fm
 |ptr (id off:Nat)
 |ep (cs:List AV)
 |list (k:LK) (sz:Nat) (es:List AV)
 |jZ (id off sz len cap:Nat)
 |eu (id f off sz len:Nat)
 |gp (id f i off sz:Nat) (t:TypeId)
 |kv
 |map (id:Nat)
 |cG
 |fn (f:FuncId) (first cap:List AV)
 |yield (id:Nat)
 |oI
 |iface (t:TypeId) (v:AV)
def LK.closed:LK→Bool
 |.own _=>false
 |.bB _ _=>false
 |_=>true
mutual
def AV.closed:AV→Bool
 |.agg cs=>aB cs
 |.bk cs=>aB cs
 |.ep cs=>aB cs
 |.list k _ _=>k.closed
 |.fn _ x y=>aB x&&aB y
 |.iface _ v=>v.closed
 |.ptr _ _=>false
 |.jZ _ _ _ _ _=>false
 |.eu _ _ _ _ _=>false
 |.gp _ _ _ _ _ _=>false
 |.map _=>false
 |.yield _=>false
 |_=>true
def aB:List AV→Bool
 |[]=>true
 |a :: l=>a.closed&&aB l
end
mutual
def AV.gY:AV→AV
 |.agg cs=>.agg (lB cs)
 |.bk cs=>.bk (lB cs)
 |.list (.own _) sz es=>.list .lq sz es
 |.list (.bB _ _) sz es=>.list .lq sz es
 |v=>v
def lB:List AV→List AV
 |[]=>[]
 |a :: l=>a.gY :: lB l
end
inductive SV where
 |none
 |v (a:AV)
 |lp (key off:Nat)
inductive Ent where
 |put (d:Nat) (x:SV)
 |kill (d:Nat)
abbrev bh:=List Ent
abbrev cO:=List (Nat × List AV)
def lk:bh→Nat→SV
 |[],_=>.none
 |.put d x :: l,t=>bif aaa d t then x else lk l t
 |.kill d :: l,t=>match lk l t with
  |.lp k off=>bif aaa k d then .none else .lp k off
  |x=>x
def dy:cO→Nat→Option (List AV)
 |[],_=>none
 |(d,cs) :: l,k=>bif aaa d k then some cs else dy l k
inductive GO where
 |dead
 |row (cs:List AV) (el:TypeId)
 |tok (f sz:Nat) (e:TypeId)
 |bB (fs:List Nat) (sz:Nat) (e:TypeId)
 |oE (rG n:Nat) (left:List Nat) (cur:Option Nat) (t:TypeId)
 |dV (es:List AV) (sz:Nat) (el:TypeId)
 |map (es:List (AV × AV))
 |gB (s:List UInt8) (pos:Nat)
 |loop (busy:Bool) (pending:Option Code) (fn:FuncId) (ae:bh) (n:Nat) (params:List Tmp) (assign body:Code) (defers:Nat) (done:Bool)
 |defers (open_:Bool)
structure St where
 ae:bh
 boxes:cO
 G:List GO
 marks:List Nat
 ro:Option Nat
 n:Nat
def nth {α:Type}:List α→Nat→Option α
 |[],_=>none
 |a :: _,0=>some a
 |_ :: l,n+1=>nth l n
def aF {α:Type}:List α→Nat→α→List α
 |[],_,_=>[]
 |_ :: l,0,x=>x :: l
 |a :: l,n+1,x=>a :: aF l n x
def takeN {α:Type}:Nat→List α→Option (List α)
 |0,_=>some []
 |_+1,[]=>none
 |n+1,a :: l=>match takeN n l with
  |some r=>some (a :: r)
  |none=>none
def fH {α:Type}:Nat→List α→List α
 |0,l=>l
 |_+1,[]=>[]
 |n+1,_ :: l=>fH n l
def Ht {α:Type} (off n:Nat) (l:List α):Option (List α):=takeN n (fH off l)
def bf {α:Type}:List α→Nat→List α→List α
 |l,_,[]=>l
 |[],_,_ :: _=>[]
 |_ :: l,0,y :: ys=>y :: bf l 0 ys
 |a :: l,n+1,y :: ys=>a :: bf l n (y :: ys)
def AV.cells:AV→List AV
 |.agg cs=>cs
 |v=>[v]
def AV.one:AV→Bool
 |.agg _=>false
 |.bk _=>false
 |_=>true
def sB:Value→Option AV
 |.bool b=>some (.bool b)
 |.int k n=>some (.int k n)
 |.string s=>some (.str s.data.toList)
 |.slice none 0 0=>some (.list .nil 0 [])
 |.pointer none=>some .fm
 |.map none=>some .kv
 |.nilFunc=>some .cG
 |.nilIface=>some .oI
 |_=>none
def mB:List Value→Option (List AV)
 |[]=>some []
 |v :: vs=>match sB v,mB vs with
  |some a,some l=>some (a :: l)
  |_,_=>none
def sC:Value→Option AV
 |.agg cs=>match mB cs.toList with
  |some l=>some (.agg l)
  |none=>none
 |.tuple cs=>match mB cs.toList with
  |some l=>some (.bk l)
  |none=>none
 |v=>sB v
inductive TK where
 |sc
 |int (k:IntKind)
 |str
 |st (fs:List (Nat × Nat × Bool))
 |arr (len esz:Nat) (acx:Bool)
 |sl (elem esz:Nat) (acx:Bool) (bL:Nat) (Yt:Option AV)
 |map (key elem:TypeId) (Yt:Option AV)
mutual
inductive EK where
 |no
 |bool
 |int
 |str
 |st (fs:Tz)
inductive Tz where
 |nil
 |cons (off sz:Nat) (ag:Bool) (k:EK) (rest:Tz)
end
structure TI where
 k:TK
 size:Nat
 agg:Bool
 zero:Option AV
 ek:EK
def jM:TypeDesc→Bool
 |.struct _=>true
 |.array _ _=>true
 |_=>false
def fieldsOf (P:Program):List Field→Option (List (Nat × Nat × Bool))
 |[]=>some []
 |f :: fs=>match P.info? f.type,P.underlying f.type,fieldsOf P fs with
  |some i,some u,some l=>some ((f.offset,i.size,jM u) :: l)
  |_,_,_=>none
def gf (i:TypeInfo):Option AV:=match i.zero with
 |some z=>sC z
 |none=>none
def qO (P:Program):TypeDesc→Option TK
 |.int k=>some (.int k)
 |.string=>some .str
 |.struct fs=>match fieldsOf P fs.toList with
  |some l=>some (.st l)
  |none=>none
 |.array n e=>match P.info? e,P.underlying e with
  |some i,some u=>some (.arr n i.size (jM u))
  |_,_=>none
 |.slice e=>match P.info? e,P.underlying e with
  |some i,some u=>some (.sl e i.size (jM u) i.bytes (gf i))
  |_,_=>none
 |.map k e=>match P.info? e with
  |some i=>some (.map k e (gf i))
  |none=>none
 |_=>some .sc
def Fh (P:Program) (ek:TypeId→EK):List Field→Option Tz
 |[]=>some .nil
 | f :: fs => if f.name == "_" then none else match P.info? f.type, P.underlying f.type, Fh P ek fs with
  |some i,some u,some l=>some (.cons f.offset i.size (jM u) (ek f.type) l)
  |_,_,_=>none
def xi (sz:Nat) (ag:Bool) (k:EK):Nat→Nat→Tz
 |0,_=>.nil
 |n+1,i=>.cons (i * sz) sz ag k (xi sz ag k n (i+1))
def qP (P:Program):Nat→TypeId→EK
 |0,_=>.no
 |n+1,t=>match P.underlying t with
  |some .bool=>.bool
  |some (.int _)=>.int
  |some .string=>.str
  |some (.struct fs)=>if P.stoodInHeld t then .no else match Fh P (qP P n) fs.toList with
   |some l=>.st l
   |none=>.no
  |some (.array m e)=>match P.info? e,P.underlying e with
   |some i,some u=>.st (xi i.size (jM u) (qP P n e) m 0)
   |_,_=>.no
  |_=>.no
def vb (P:Program) (t:TypeId):EK:=match qP P 6 t with
 |.st l=>if P.eqGuardType P.depth t then .no else .st l
 |k=>k
def IL (P:Program) (t:TypeId):Option TI:=
 match P.info? t,P.underlying t with
 |some i,some u=>match qO P u with
  |some k=>some { k:=k,size:=i.size,agg:=jM u,zero:=gf i,ek:=vb P t }
  |none=>none
 |_,_=>none
def KB:AV→AV→Bool
 |.bool a,.bool b=>a == b
 |.int k a,.int k' b=>(k == k')&&a == b
 |.str a,.str b=>a == b
 |.fm,.fm=>true
 |.ptr i o,.ptr i' o'=>aaa i i'&&aaa o o'
 |.kv,.kv=>true
 |.map i,.map i'=>aaa i i'
 |.cG,.cG=>true
 |.oI,.oI=>true
 |.jZ a b c d e,.jZ a' b' c' d' e'=>aaa a a'&&aaa b b'&&aaa c c'&&aaa d d'&&aaa e e'
 |.eu a b c d e,.eu a' b' c' d' e'=>aaa a a'&&aaa c c'&&aaa d d'&&(aaa b b'&&aaa e e')
 |.gp a b c d e t,.gp a' b' c' d' e' t'=>aaa a a'&&aaa b b'&&aaa c c'&&aaa d d'&&aaa e e'&&aaa t t'
 |_,_=>false
mutual
def dD:AV→AV→Bool
 |.fn f x y,.fn f' x' y'=>aaa f f'&&mC x x'&&mC y y'
 |.agg cs,.agg cs'=>mC cs cs'
 |.ep cs,.ep cs'=>mC cs cs'
 |.bk cs,.bk cs'=>mC cs cs'
 |.list .nil a es,.list .nil a' es'=>aaa a a'&&mC es es'
 |.list .full a es,.list .full a' es'=>aaa a a'&&mC es es'
 |.list .lq a es,.list .lq a' es'=>aaa a a'&&mC es es'
 |.list (.own i) a es,.list (.own i') a' es'=>aaa i i'&&aaa a a'&&mC es es'
 |.list (.bB i j) a es,.list (.bB i' j') a' es'=>aaa i i'&&aaa j j'&&aaa a a'&&mC es es'
 |a,b=>KB a b
def mC:List AV→List AV→Bool
 |[],[]=>true
 |a :: l,b :: r=>dD a b&&mC l r
 |_,_=>false
end
mutual
inductive aM
 |int (k:IntKind)
 |bool
 |str
 |agg (ps:aJ)
 |bk (ps:aJ)
 |list (sz:Nat) (p:aM)
 |own (id sz:Nat) (p:aM)
 |bB (id sz:Nat) (p:aM)
 |bN (v:AV)
 |two (u v:AV)
inductive aJ
 |nil
 |cons (p:aM) (ps:aJ)
end
abbrev aJ.ci (r:aJ):aJ:=.cons (.int .i64) r
def Yu (s:Bool) (α β:Type):Type:=match s with
 |true=>α
 |false=>α × β
def aJ.isNil:aJ→Bool
 |.nil=>true
 |.cons _ _=>false
mutual
def aM.T:aM→Type
 |.int _=>Int
 |.bool=>Bool
 |.str=>List UInt8
 |.agg ps=>ps.T
 |.bk ps=>ps.T
 |.list _ p=>List p.T
 |.own _ _ p=>List p.T
 |.bB _ _ p=>Nat × List p.T
 |.bN _=>Unit
 |.two _ _=>Bool
def aJ.T:aJ→Type
 |.nil=>Unit
 |.cons p ps=>Yu ps.isNil p.T ps.T
end
mutual
def aM.enc:(p:aM)→p.T→AV
 |.int k,(n:Int)=>.int k n
 |.bool,(b:Bool)=>.bool b
 |.str,(s:List UInt8)=>.str s
 |.agg ps,x=>.agg (ps.enc x)
 |.bk ps,x=>.bk (ps.enc x)
 |.list sz p,(xs:List p.T)=>.list .lq sz (xs.map p.enc)
 |.own id sz p,(xs:List p.T)=>.list (.own id) sz (xs.map p.enc)
 |.bB id sz p,(x:Nat × List p.T)=>.list (.bB id x.1) sz (x.2.map p.enc)
 |.bN v,_=>v
 |.two u v,(b:Bool)=>bif b then v else u
def aJ.enc:(ps:aJ)→ps.T→List AV
 |.nil,_=>[]
 |.cons p .nil,x=>[p.enc x]
 |.cons p (.cons q ps),x=>p.enc x.1 :: (aJ.cons q ps).enc x.2
end
def UA:IntKind→IntKind→Bool:=fun a b=>decide (a=b)
def AV.jM:AV→List AV
 |.agg cs=>cs
 |_=>[]
def AV.UB:AV→List AV
 |.bk cs=>cs
 |_=>[]
def AV.dW:AV→List AV
 |.list _ _ es=>es
 |_=>[]
def AV.acy:AV→Nat
 |.list (.bB _ j) _ _=>j
 |_=>0
def AV.lr:AV→Int
 |.int _ n=>n
 |_=>0
def AV.Yv:AV→Bool
 |.bool b=>b
 |_=>false
def AV.UC:AV→List UInt8
 |.str s=>s
 |_=>[]
def eB:List AV→AV
 |a :: _=>a
 |[]=>.fm
def KC:List AV→List AV
 |_ :: l=>l
 |[]=>[]
mutual
def aM.bA:(p:aM)→AV→p.T
 |.int _,v=>v.lr
 |.bool,v=>v.Yv
 |.str,v=>v.UC
 |.agg ps,v=>ps.bA v.jM
 |.bk ps,v=>ps.bA v.UB
 |.list _ p,v=>v.dW.map p.bA
 |.own _ _ p,v=>v.dW.map p.bA
 |.bB _ _ p,v=>(v.acy,v.dW.map p.bA)
 |.bN _,_=>()
 |.two _ v,a=>dD a v
def aJ.bA:(ps:aJ)→List AV→ps.T
 |.nil,_=>()
 |.cons p .nil,l=>p.bA (eB l)
 |.cons p (.cons q ps),l=>(p.bA (eB l),(aJ.cons q ps).bA (KC l))
end
def allFit (f:AV→Bool):List AV→Bool
 |[]=>true
 |a :: l=>f a&&allFit f l
mutual
def aM.fits:aM→AV→Bool
 |.int k,v=>match v with
  |.int k' _=>UA k k'
  |_=>false
 |.bool,v=>match v with
  |.bool _=>true
  |_=>false
 |.str,v=>match v with
  |.str _=>true
  |_=>false
 |.agg ps,v=>match v with
  |.agg cs=>ps.fits cs
  |_=>false
 |.bk ps,v=>match v with
  |.bk cs=>ps.fits cs
  |_=>false
 |.list sz p,v=>match v with
  |.list _ bR es=>(aaa sz bR || es.isEmpty)&&allFit p.fits es
  |_=>false
 |.own id sz p,v=>match v with
  |.list (.own jL) bR es=>(aaa id jL&&aaa sz bR)&&allFit p.fits es
  |_=>false
 |.bB id sz p,v=>match v with
  |.list (.bB jL _) bR es=>(aaa id jL&&aaa sz bR)&&allFit p.fits es
  |_=>false
 |.bN v,u=>dD u v
 |.two u v,a=>dD a u || dD a v
def aJ.fits:aJ→List AV→Bool
 |.nil,l=>l.isEmpty
 |.cons p ps,l=>match l with
  |a :: l=>p.fits a&&ps.fits l
  |[]=>false
end
def aM.dec (p:aM) (v:AV):Option p.T:=bif p.fits v then some (p.bA v) else none
def aJ.dec (ps:aJ) (l:List AV):Option ps.T:=bif ps.fits l then some (ps.bA l) else none
structure Env where
 P:Program
 ti:TypeId→Option TI
 ck:Nat→Option (List AV)
 BQ:FuncId→Tmp→Bool
 Pc:TypeId→Option aM
 lo:Nat:=0
 gho:FuncId→Tmp→List (Option Nat × Nat × TypeId):=fun _ _=>[]
 elg:TypeId→Option aM:=fun _=>none
 gx:Nat→Bool:=fun _=>false
 IM:∀ t i,ti t=some i→IL P t=some i
 mixed:P.follows .mixedOrders=true
 oS:∀ g cs,ck g=some cs→aB cs=true
def bJ (E:Env) (ae:bh):Operand→SV
 |.tmp t=>lk ae t
 |.const v=>match sC v with
  |some a=>.v a
  |none=>.none
 |.global g=>match E.ck g with
  |some cs=>.v (.ep cs)
  |none=>.none
 |.func f=>.v (.fn f [] [])
def St.put (s:St) (dst:Option Tmp) (x:SV):St:=match dst with
 |some d=>match aa5 d s.n with
  |true=>⟨.put d x :: s.ae,s.boxes,s.G,s.marks,s.ro,s.n⟩
  |false=>s
 |none=>s
def fO:AV:=.bk []
def tX (agg:Bool) (cs:List AV):Option AV:=
 if agg then some (.agg cs) else match cs with
  |[c]=>some c
  |_=>none
def nD (s:St):SV→Option (List AV × Nat)
 |.lp k off=>match dy s.boxes k with
  |some cs=>some (cs,off)
  |none=>none
 |.v (.ptr id off)=>match nth s.G id with
  |some (.row cs _)=>some (cs,off)
  |_=>none
 |.v (.ep cs)=>some (cs,0)
 |_=>none
def AP (n:Nat):SV→Option SV
 |.lp k off=>some (.lp k (off+n))
 |.v (.ptr id off)=>some (.v (.ptr id (off+n)))
 |.v (.ep cs)=>some (.v (.ep (fH n cs)))
 |.v (.gp id f i off sz t)=>some (.v (.gp id f i (off+n) sz t))
 |_=>none
def BR (t:Bool):AV→AV→AV
 |.bool x,.bool y=>.bool (bif t then x else y)
 |.int k x,.int k' y=>if k=k' then .int k (bif t then x else y) else (bif t then .int k x else .int k' y)
 |a,b=>bif t then a else b
def Hu (ag:Bool) (off sz:Nat) (cs:List AV):Option AV:=
 if ag then (match Ht off sz cs with | some l=>tX true l | none=>none) else (match Ht off 1 cs with | some l=>tX false l | none=>none)
mutual
def ls:EK→AV→AV→Option Bool
 |.bool,.bool a,.bool b=>some (a == b)
 |.int,.int k a,.int k' b=>if k=k' then some (a == b) else none
 |.str,.str a,.str b=>some (a == b)
 |.st fs,.agg xs,.agg ys=>tY fs xs ys
 |_,_,_=>none
def tY:Tz→List AV→List AV→Option Bool
 |.nil,_,_=>some true
 |.cons off sz ag k rest,xs,ys=>match Hu ag off sz xs,Hu ag off sz ys with
  |some a,some b=>match ls k a b,tY rest xs ys with
   |some t,some u=>some (t&&u)
   |_,_=>none
  |_,_=>none
end
def IN (k:IntKind) (a b:Int):Int:=k.wrap (aaB k.bits a &&& aaB k.bits b).toNat
def orI (k:IntKind) (a b:Int):Int:=k.wrap (aaB k.bits a ||| aaB k.bits b).toNat
def IP (k:IntKind) (a b:Int):Int:=k.wrap (aaB k.bits a ^^^ aaB k.bits b).toNat
def C8 (op:BinOp) (x y:AV):Option (Bool × AV):=
 match x,y with
 |.int k a,.int k' b=>
  match op with
  |.shl=>some (decide (0≤b),.int k (k.wrap (a * 2 ^ (min b.toNat k.bits))))
  |.shr=>some (decide (0≤b),.int k (a.fdiv (2 ^ (min b.toNat k.bits))))
  |_=>if k=k' then
    match op with
    |.add=>some (true,.int k (k.wrap (a+b)))
    |.sub=>some (true,.int k (k.wrap (a - b)))
    |.mul=>some (true,.int k (k.wrap (a * b)))
    |.quo=>some (!(decide (b=0)),.int k (k.wrap (a.tdiv b)))
    |.rem=>some (!(decide (b=0)),.int k (a.tmod b))
    |.and=>some (true,.int k (IN k a b))
    |.or=>some (true,.int k (orI k a b))
    |.xor=>some (true,.int k (IP k a b))
    |.eql=>some (true,.bool (a == b))
    |.neq=>some (true,.bool (a != b))
    |.lss=>some (true,.bool (a < b))
    |.leq=>some (true,.bool (a≤b))
    |.gtr=>some (true,.bool (a > b))
    |.geq=>some (true,.bool (a≥b))
    |_=>none
   else none
 |.str a,.str b=>
  match op with
  |.add=>some (decide (a.length+b.length≤9223372036854775807),.str (a++b))
  |.eql=>some (true,.bool (a == b))
  |.neq=>some (true,.bool (!(a == b)))
  |.lss=>some (true,.bool (aaH a b))
  |.leq=>some (true,.bool (aaH a b || a == b))
  |.gtr=>some (true,.bool (!(aaH a b || a == b)))
  |.geq=>some (true,.bool (!(aaH a b)))
  |_=>none
 |_,_=>none
end Go.Am
namespace Go.Am
open Go
def St.kill (s:St) (d:Nat):St:=⟨.kill d :: s.ae,s.boxes,s.G,s.marks,s.ro,s.n⟩
def AV.aY:AV→Bool
 |.bk _=>false
 |_=>true
def St.dQ (s:St) (o:GO):St:=⟨s.ae,s.boxes,s.G++[o],s.marks,s.ro,s.n⟩
def St.cD (s:St) (G:List GO):St:=⟨s.ae,s.boxes,G,s.marks,s.ro,s.n⟩
def St.vV (s:St) (d:Nat) (cs:List AV):St:=⟨s.ae,(d,cs) :: s.boxes,s.G,s.marks,s.ro,s.n⟩
def fb (E:Env) (f:FuncId) (s:St) (dst:Option Tmp) (el:TypeId) (cs:List AV):Option (Bool × St):=
 match dst with
 |none=>none
 |some d=>
  if E.BQ f d then some (true,(s.dQ (.row cs el)).put (some d) (.v (.ptr s.G.length 0)))
  else match aa5 d s.n with
   |true=>some (true,((s.kill d).vV d cs).put (some d) (.lp d 0))
   |false=>none
def nE (E:Env) (ae:bh):List Operand→Option (List AV)
 |[]=>some []
 |x :: l=>match bJ E ae x,nE E ae l with
  |.v a,some r=>some (a :: r)
  |_,_=>none
def OQ (E:Env) (ae:bh):List (Nat × Operand)→Option (List (Nat × AV))
 |[]=>some []
 |(i,x) :: l=>match bJ E ae x,OQ E ae l with
  |.v a,some r=>some ((i,a) :: r)
  |_,_=>none
def placeOf:TK→Nat→Option (Nat × Nat)
 |.st fs,j=>match nth fs j with
  |some (o,sz,_)=>some (o,sz)
  |none=>none
 |.arr _ esz _,j=>some (j * esz,esz)
 |_,_=>none
def vc (place:Nat→Option (Nat × Nat)) (cells:List AV):List (Nat × AV)→Option (List AV)
 |[]=>some cells
 |(i,v) :: rest=>match place i with
  |none=>none
  |some (off,sz)=>
   if v.aY&&aaa v.cells.length sz&&aax (off+sz) cells.length then vc place (bf cells off v.cells) rest else none
def C9 (esz:Nat) (es:List AV):List (Nat × AV)→Option (List AV)
 |[]=>some es
 |(i,v) :: rest=>
  if v.aY&&aaa v.cells.length esz&&aax (i+1) es.length&&v.closed then C9 esz (aF es i v) rest else none
def nF (E:Env) (s:St) (t:TypeId) (parts:List (Nat × Operand)):Option AV:=
 match E.ti t,OQ E s.ae parts with
 |some i,some ps=>match i.zero with
  |some z=>match vc (placeOf i.k) z.cells ps with
   |some cs=>if i.agg&&z.aY then some (.agg cs) else none
   |none=>none
  |none=>none
 |_,_=>none
def AQ:List (Nat × AV)→List (Nat × AV)
 |[]=>[]
 |(i,v) :: l=>(i,v.gY) :: AQ l
def cg (E:Env) (s:St) (t:TypeId) (len:Nat) (parts:List (Nat × Operand)):Option AV:=
 match E.ti t,OQ E s.ae parts with
 |some i,some ps=>match i.k with
  |.sl _ esz _ _ (some z)=>
    if aaa z.cells.length esz&&aax 1 esz&&aax (len * esz) 16777216&&z.aY&&z.closed then
     match C9 esz (aaC len z) (AQ ps) with
     |some es=>some (.list .full esz es)
     |none=>none
    else none
  |_=>none
 |_,_=>none
def sD (E:Env) (s:St) (t:TypeId) (p:SV):Option AV:=
 match E.ti t,nD s p with
 |some i,some (cs,off)=>match Ht off i.size cs with
  |some l=>tX i.agg l
  |none=>none
 |_,_=>none
def jN (E:Env) (s:St) (t:TypeId) (p x:SV):Option St:=
 match E.ti t,x with
 |some i,.v v=>
  if v.aY&&aaa v.cells.length i.size then
   match p with
   |.lp k off=>match dy s.boxes k with
    |some cs=>if aax (off+v.cells.length) cs.length then some (s.vV k (bf cs off v.cells)) else none
    |none=>none
   |.v (.ptr id off)=>match nth s.G id with
    |some (.row cs el)=>if aax (off+v.cells.length) cs.length then some (s.cD (aF s.G id (.row (bf cs off v.cells) el))) else none
    |_=>none
   |_=>none
  else none
 |_,_=>none
def ah (es:List AV) (n:Nat):AV:=match nth es n with
 |some e=>e
 |none=>fO
def lC:List GO→Nat→TypeId→Nat→Option Nat
 |[],_,_,_=>none
 |.bB _ sz e :: G,bR,e',i=>match lC G bR e' (i+1) with
  |some j=>some j
  |none=>bif aaa sz bR&&aaa e e' then some i else none
 |_ :: G,bR,e',i=>lC G bR e' (i+1)
def aM.fin (G:List GO):aM→aM
 |.bB e sz p=>match lC G sz e 0 with
  |some id=>.bB id sz p
  |none=>.bB e sz p
 |.agg ps=>.agg (Yw ps)
 |p=>p
where
 Yw:aJ→aJ
  |.nil=>.nil
  |.cons p ps=>.cons (match p with
   |.bB e sz q=>match lC G sz e 0 with
    |some id=>.bB id sz q
    |none=>.bB e sz q
   |p=>p) (Yw ps)
def TA (E:Env) (G:List GO) (t:TypeId):Option aM:=match E.elg t with
 |some p=>some (p.fin G)
 |none=>E.Pc t
def xj (E:Env) (s:St) (id f i sz:Nat) (t:TypeId):Option (Bool × AV):=match nth s.G id with
 |some (.dV es bR _)=>match TA E s.G t with
  |some p=>if aaa sz bR then some (decide (f=es.length)&&decide (i < es.length)&&p.fits (ah es i),p.enc (p.bA (ah es i))) else none
  |none=>if aaa sz bR then some (decide (f=es.length)&&decide (i < es.length),ah es i) else none
 |_=>none
def AR (E:Env) (s:St) (t:TypeId) (p:SV):Option (Bool × AV):=match p with
 |.v (.gp id f i off sz ty)=>match E.ti t,xj E s id f i sz ty with
  |some ti,some (c,v)=>match Ht off ti.size v.cells with
   |some l=>match tX ti.agg l with
    |some r=>some (c,r)
    |none=>none
   |none=>none
  |_,_=>none
 |p=>match sD E s t p with
  |some v=>some (true,v)
  |none=>none
def jO (E:Env) (s:St) (t:TypeId) (p x:SV):Option (Bool × St):=match p with
 |.v (.gp id f i off sz ty)=>match E.ti t,x,nth s.G id with
  |some ti,.v x,some (.dV es bR el)=>
   if x.aY&&aaa x.cells.length ti.size&&aaa sz bR then
    if aaa off 0&&aaa ti.size sz then some (decide (f=es.length)&&decide (i < es.length),s.cD (aF s.G id (.dV (aF es i x) bR el)))
    else match xj E s id f i sz ty with
     |some (c,.agg cs)=>if aax (off+ti.size) cs.length&&aaa cs.length sz then some (c,s.cD (aF s.G id (.dV (aF es i (.agg (bf cs off x.cells))) bR el))) else none
     |_=>none
   else none
  |_,_,_=>none
 |p=>match jN E s t p x with
  |some s'=>some (true,s')
  |none=>none
def kw (E:Env) (t:TypeId) (x ix:SV):Option (Bool × SV):=
 match E.ti t,ix with
 |some i,.v (.int _ n)=>match i.k,x with
  |.sl _ esz _ _ _,.v (.list _ sz es)=>if aaa sz esz || es.isEmpty then
    match E.Pc t with
    |some p=>some (decide (0≤n∧n < es.length)&&p.fits (ah es n.toNat),.v (.ep (p.enc (p.bA (ah es n.toNat))).cells))
    |none=>some (decide (0≤n∧n < es.length),.v (.ep (ah es n.toNat).cells))
   else none
  |.sl _ esz _ _ _,.v (.jZ id off sz len _)=>if aaa sz esz then some (decide (0≤n∧n < len),.v (.ptr id (off+n.toNat * sz))) else none
  |.sl _ esz _ _ _,.v (.eu id f off sz len)=>if aaa sz esz then some (decide (0≤n∧n < len),.v (.gp id f (off+n.toNat) 0 sz t)) else none
  |.arr len esz _,.v (.ep cs)=>match E.Pc t with
   |some p=>if aaa esz 1&&aax len cs.length then some (decide (0≤n∧n < len)&&p.fits (ah cs n.toNat),.v (.ep [p.enc (p.bA (ah cs n.toNat))])) else none
   |none=>some (decide (0≤n∧n < len),.v (.ep (fH (n.toNat * esz) cs)))
  |.arr len esz _,p=>match AP (n.toNat * esz) p with
   |some q=>some (decide (0≤n∧n < len),q)
   |none=>none
  |_,_=>none
 |_,_=>none
def kx (E:Env) (t:TypeId) (x:SV) (j:Nat):Option SV:=
 match E.ti t with
 |some i=>match i.k with
  |.st fs=>match nth fs j with
   |some (o,sz,_)=>if aax 1 sz then AP o x else none
   |none=>none
  |_=>none
 |none=>none
def Fi (E:Env) (t:TypeId) (x:SV) (j:Nat):Option AV:=
 match E.ti t,x with
 |some i,.v (.agg cs)=>match i.k with
  |.st fs=>match nth fs j with
   |some (o,sz,ag)=>if ag then (match Ht o sz cs with | some l=>tX true l | none=>none) else (match Ht o 1 cs with | some l=>tX false l | none=>none)
   |none=>none
  |_=>none
 |_,_=>none
def Fj (E:Env) (t:TypeId) (x ix:SV):Option (Bool × AV):=
 match E.ti t,x,ix with
 |some i,.v (.str l),.v (.int _ n)=>match i.k with
  |.str=>some (decide (0≤n∧n < l.length),.int .u8 (l.getD n.toNat 0).toNat)
  |_=>none
 |some i,.v (.agg cs),.v (.int _ n)=>match i.k with
  |.arr len esz ag=>match (if ag then (match Ht (n.toNat * esz) esz cs with | some l=>tX true l | none=>none) else (match Ht (n.toNat * esz) 1 cs with | some l=>tX false l | none=>none)) with
   |some v=>some (decide (0≤n∧n < len),v)
   |none=>none
  |_=>none
 |_,_,_=>none
def BS (y:Nat):SV→Option (Bool × Nat)
 |.v (.int _ n)=>some (decide (0≤n∧n≤y),n.toNat)
 |_=>none
def di {α:Type} (lo hi:Nat) (l:List α):List α:=(l.take hi).drop lo
def nG (E:Env) (ae:bh):Option Operand→Option (Option SV)
 |none=>some none
 |some x=>some (some (bJ E ae x))
def Fk (len:Nat) (lo hi:Option SV):Option (Bool × Nat × Nat):=
 match (match hi with | none=>some (true,len) | some h=>BS len h) with
 |none=>none
 |some (c1,h)=>match (match lo with | none=>some (true,0) | some l=>BS h l) with
  |none=>none
  |some (c2,l)=>some (c1&&c2,l,h)
def Yx (agg:Bool) (l:List AV):AV:=match agg with
 |true=>.agg l
 |false=>eB l
def gZ (agg:Bool) (sz:Nat):Nat→List AV→List AV
 |0,_=>[]
 |n+1,cs=>Yx agg (cs.take sz) :: gZ agg sz n (cs.drop sz)
def Fl (ag:Bool) (e:AV):Bool:=e.aY&&(ag || e.one)&&e.closed
def BT (E:Env) (t:TypeId) (x:SV) (lo hi:Option SV) (mx:Option Operand):Option (Bool × AV):=
 match E.ti t,mx with
 |some i,none=>match i.k,x with
  |.str,.v (.str l)=>match Fk l.length lo hi with
   |some (c,a,b)=>some (c,.str (di a b l))
   |none=>none
  |.sl _ esz _ _ _,.v (.list k sz es)=>
   if aaa sz esz || es.isEmpty then
    match Fk es.length lo hi with
    |some (c,a,b)=>some (c,.list (match k with | .nil=>.nil | .full=>(match hi with | none=>.full | some _=>.lq) | _=>.lq) esz (di a b es))
    |none=>none
   else none
  |.sl _ esz _ _ _,.v (.jZ id off sz len cap)=>
   if aaa sz esz then
    match Fk len lo hi with
    |some (c,a,b)=>some (c,.jZ id (bif aaa cap a then off else off+a * sz) sz (b - a) (cap - a))
    |none=>none
   else none
  |.sl _ esz _ _ _,.v (.eu id f off sz len)=>
   if aaa sz esz then
    match Fk len lo hi with
    |some (c,a,b)=>some (c,.eu id f (off+a) sz (b - a))
    |none=>none
   else none
  |.arr len esz ag,.v (.ep cs)=>match lo,hi with
   |none,none=>if aax (len * esz) cs.length&&aax 1 esz&&(ag || aaa esz 1)&&allFit (Fl ag) (gZ ag esz len cs) then some (true,.list .full esz (gZ ag esz len cs)) else none
   |_,_=>none
  |_,_=>none
 |_,_=>none
def KD (G:List GO) (id n:Nat) (f sz:Nat) (e:TypeId):List GO:=aF G id (.tok (f+n) sz e)
def IQ (fs:List Nat) (j n:Nat):List Nat:=bif aaa j fs.length then fs++[n] else aF fs j n
def Pd (fs:List Nat) (j n:Nat):Bool:=decide (nth fs j=some n) || (aaa j fs.length&&aaa n 0)
def gi (G:List GO) (elem esz bL:Nat) (x:AV) (ys:List AV):Option (Bool × AV × List GO):=
 match x,ys with
 |.list k sz es,[]=>match k with
  |.nil=>some (true,.list .nil sz es,G)
  |k=>some (true,.list k sz es,G)
 |.list k sz es,y :: ys=>
  match k with
  |.nil=>some (decide ((es.length+(y :: ys).length) * bL≤140737488355328),.list (.own G.length) esz (es++(y :: ys)),G++[.tok (es.length+(y :: ys).length) esz elem])
  |.full=>if aaa sz esz then some (decide ((es.length+(y :: ys).length) * bL≤140737488355328),.list (.own G.length) esz (es++(y :: ys)),G++[.tok (es.length+(y :: ys).length) esz elem]) else none
  |.own id=>match nth G id with
   |some (.tok f bR e')=>if aaa bR esz&&aaa e' elem&&aaa sz esz then
     some (decide (f=es.length)&&decide ((es.length+(y :: ys).length) * bL≤140737488355328),.list (.own id) esz (es++(y :: ys)),KD G id (y :: ys).length f esz elem) else none
   |_=>none
  |.bB id j=>match nth G id with
   |some (.bB fs bR e')=>if aaa bR esz&&aaa e' elem&&aaa sz esz then
     some (Pd fs j es.length&&decide ((es.length+(y :: ys).length) * bL≤140737488355328),.list (.bB id j) esz (es++(y :: ys)),aF G id (.bB (IQ fs j (es.length+(y :: ys).length)) esz elem)) else none
   |_=>none
  |.lq=>none
 |.eu id f off sz len,[]=>some (true,.eu id f off sz len,G)
 |.eu id f off sz len,y :: ys=>match nth G id with
  |some (.dV es bR e')=>if aaa bR esz&&aaa e' elem&&aaa sz esz then
    some (decide (f=es.length)&&decide (off=0)&&decide (len=f)&&decide ((es.length+(y :: ys).length) * bL≤140737488355328),.eu id (es.length+(y :: ys).length) 0 esz (es.length+(y :: ys).length),aF G id (.dV (es++(y :: ys)) esz elem)) else none
  |_=>none
 |_,_=>none
def jq (b:UInt8):AV:=.int .u8 b.toNat
def fP (es:List AV):List UInt8:=es.map fun a=>UInt8.ofNat a.lr.toNat
def xl (es:List AV):List UInt8:=es.flatMap fun a=>(Utf8.encode a.lr).data.toList
def IR:AV→List AV→Option AV
 |x,[]=>some x
 |.int k x,.int k' y :: l=>if k=k' then IR (.int k (if y > x then y else x)) l else none
 |_,_=>none
def Fm:AV→List AV→Option AV
 |x,[]=>some x
 |.int k x,.int k' y :: l=>if k=k' then Fm (.int k (if y < x then y else x)) l else none
 |.str x,.str y :: l=>Fm (.str (bif aaH x y || x == y then x else y)) l
 |_,_=>none
def aq:List AV→List AV
 |[]=>[]
 |e :: es=>e.cells++aq es
def sE (s:St) (esz:Nat) (d x:AV):Option (Nat × List GO):=
 match d with
 |.jZ id off sz len _=>match nth s.G id with
  |some (.row cs el)=>
   if aaa sz esz then
    match x with
    |.list _ bR es=>if aaa bR esz || es.isEmpty then
      let n:=aaM es.length len
      let l:=aq (es.take n)
      if aax (off+l.length) cs.length then some (n,aF s.G id (.row (bf cs off l) el)) else none
     else none
    |.str bs=>
      if aaa esz 1&&aax (off+(bs.take (aaM bs.length len)).length) cs.length then some (aaM bs.length len,aF s.G id (.row (bf cs off ((bs.take (aaM bs.length len)).map jq)) el)) else none
    |.jZ jL fQ bR Fo _=>match nth s.G jL with
     |some (.row cs' _)=>
      let n:=aaM Fo len
      match Ht fQ (n * esz) cs' with
      |some l=>if aaa bR esz&&aax (off+l.length) cs.length then some (n,aF s.G id (.row (bf cs off l) el)) else none
      |none=>none
     |_=>none
    |_=>none
   else none
  |_=>none
 |.eu id f off sz len=>match nth s.G id,x with
  |some (.dV es bR el),.list _ szx xs=>if aaa sz esz&&aaa bR sz&&(aaa szx esz || xs.isEmpty)&&aax f es.length&&aax es.length f&&aax (off+aaM xs.length len) es.length then
    some (aaM xs.length len,aF s.G id (.dV (bf es off (xs.take (aaM xs.length len))) bR el)) else none
  |_,_=>none
 |_=>none
def bT (E:Env) (s:St) (dst:Option Tmp) (b:Builtin) (args:List AV) (tys:List TypeId):Option (Bool × St):=
 match b,args with
 |.len,[x]=>match tys with
  |t :: _=>match E.ti t with
   |some i=>match i.k,x with
    |.str,.str l=>some (true,s.put dst (.v (.int .i64 l.length)))
    |.sl ..,.list _ _ es=>some (true,s.put dst (.v (.int .i64 es.length)))
    |.sl ..,.jZ _ _ _ len _=>some (true,s.put dst (.v (.int .i64 len)))
    |.sl ..,.eu _ _ _ _ len=>some (true,s.put dst (.v (.int .i64 len)))
    |.arr n _ _,_=>some (true,s.put dst (.v (.int .i64 n)))
    |.map ..,.kv=>some (true,s.put dst (.v (.int .i64 0)))
    |.map ..,.map id=>match nth s.G id with
     |some (.map es)=>some (true,s.put dst (.v (.int .i64 es.length)))
     |_=>none
    |_,_=>none
   |none=>none
  |_=>none
 |.append,[x,.list _ sz ys]=>match tys with
  |[t,u]=>match E.ti t with
   |some i=>match i.k with
    |.sl elem esz _ bL (some z)=>
     if (aaa sz esz || ys.isEmpty)&&aaa t u&&aax 1 esz&&aax 1 bL&&aaa z.cells.length esz&&z.aY then
      match gi s.G elem esz bL x ys with
      |some (c,v,G')=>some (c,(s.cD G').put dst (.v v))
      |none=>none
     else none
    |_=>none
   |none=>none
  |_=>none
 |.append,[x,.str bs]=>match tys with
  |[t,u]=>match E.ti t,E.ti u with
   |some i,some j=>match i.k,j.k with
    |.sl elem esz _ bL (some z),.str=>
     if aaa esz 1&&aax 1 bL&&aaa z.cells.length esz&&z.aY then
      match gi s.G elem esz bL x (bs.map jq) with
      |some (c,v,G')=>some (c,(s.cD G').put dst (.v v))
      |none=>none
     else none
    |_,_=>none
   |_,_=>none
  |_=>none
 |.copy,[d,x]=>match tys with
  |t :: _=>match E.ti t with
   |some i=>match i.k with
    |.sl _ esz _ _ _=>match sE s esz d x with
     |some (n,G')=>some (true,(s.cD G').put dst (.v (.int .i64 n)))
     |none=>none
    |_=>none
   |none=>none
  |_=>none
 |.clear,[x]=>match dst,tys,x with
  |none,[t],.eu id f off sz len=>match E.ti t,nth s.G id with
   |some i,some (.dV es bR el)=>match i.k with
    |.sl elem esz _ _ (some z)=>if aaa sz esz&&aaa bR sz&&aaa el elem&&aaa z.cells.length esz&&z.aY&&z.closed then
      some (decide (f=es.length)&&decide (off+len≤es.length),s.cD (aF s.G id (.dV (bf es off (aaC len z)) bR el))) else none
    |_=>none
   |_,_=>none
  |_,_,_=>none
 |.max,x :: l=>match IR x l with
  |some v=>some (true,s.put dst (.v v))
  |none=>none
 |.min,x :: l=>match Fm x l with
  |some v=>some (true,s.put dst (.v v))
  |none=>none
 |_,_=>none
def EK.plain:EK→Bool
 |.bool | .int | .str=>true
 |.st _=>true
 |_=>false
def EK.wide:EK→Bool
 |.st _=>true
 |_=>false
def gj:AV→Bool
 |.bool _=>true
 |.int _ _=>true
 |.str _=>true
 |_=>false
def oU:AV→AV→Bool
 |.bool a,.bool b=>a == b
 |.int k a,.int l b=>decide (k=l)&&a == b
 |.str a,.str b=>a == b
 |_,_=>false
def mD:List AV→List AV→Bool
 |[],[]=>true
 |a :: l,b :: r=>oU a b&&mD l r
 |_,_=>false
def lD:AV→AV→Bool
 |.agg xs,.agg ys=>mD xs ys
 |_,_=>false
def E7 (e:EK) (a b:AV):Option Bool:=match ls e a b with
 |some true=>bif e.wide&&!lD a b then none else some true
 |r=>r
def jY (e:EK) (k:AV):List (AV × AV)→Option (Option AV)
 |[]=>some none
 |(k',v) :: l=>match E7 e k k' with
  |some true=>some (some v)
  |some false=>jY e k l
  |none=>none
def tZ (e:EK) (k v:AV):List (AV × AV)→Option (List (AV × AV))
 |[]=>some [(k,v)]
 |(k',v') :: l=>match E7 e k k' with
  |some true=>some ((k,v) :: l)
  |some false=>match tZ e k v l with
   |some r=>some ((k',v') :: r)
   |none=>none
  |none=>none
def jl:EK→AV→Bool
 |.bool,.bool _=>true
 |.int,.int _ _=>true
 |.str,.str _=>true
 |.st fs,.agg cs=>cs.all gj&&(tY fs cs cs).isSome
 |_,_=>false
def mapOf (s:St):SV→Option (List (AV × AV))
 |.v .kv=>some []
 |.v (.map id)=>match nth s.G id with
  |some (.map es)=>some es
  |_=>none
 |_=>none
def UD (G:List GO) (id:Nat):List Nat:=match nth G id with
 |some (.bB fs _ _)=>fs
 |_=>[]
def Da (E:Env) (G:List GO) (t:TypeId) (z:AV):AV:=match E.elg t,z with
 |some (.bB e sz _),.list .nil _ []=>match lC G sz e 0 with
  |some id=>.list (.bB id (UD G id).length) sz []
  |none=>z
 |_,_=>z
def mE (E:Env) (s:St) (t:TypeId) (m k:SV):Option (AV × Bool):=match E.ti t,mapOf s m,k with
 |some i,some es,.v k=>match i.k with
  |.map kt _ (some z)=>match E.ti kt with
   |some j=>if j.ek.plain&&jl j.ek k then match jY j.ek k es with
     |some (some v)=>some (v,true)
     |some none=>some (z,false)
     |none=>none
    else none
   |none=>none
  |_=>none
 |_,_,_=>none
def lE (E:Env) (s:St) (t:TypeId) (m k:SV):Option (AV × Bool):=match mE E s t m k with
 |some (v,false)=>some (Da E s.G t v,false)
 |r=>r
def fc (E:Env) (s:St) (t:TypeId) (m k x:SV):Option St:=match E.ti t,m,k,x with
 |some i,.v (.map id),.v k,.v x=>match i.k,nth s.G id with
  |.map kt _ _,some (.map es)=>match E.ti kt with
   |some j=>if j.ek.plain&&jl j.ek k then match tZ j.ek k x es with
     |some es'=>some (s.cD (aF s.G id (.map es')))
     |none=>none
    else none
   |none=>none
  |_,_=>none
 |_,_,_,_=>none
def bp (l:List UInt8) (pos:Nat):Nat × Nat:=
 bif aa5 (l.getD pos 0).toNat 128 then ((l.getD pos 0).toNat,1) else Utf8.decode ⟨⟨l⟩⟩ pos
def lF (s:St) (dst:Option Tmp) (x:SV):Option St:=match x with
 |.v (.ptr id 0)=>match nth s.G id with
  |some (.gB l pos)=>bif aa5 pos l.length then
    match bp l pos with
    |(c,n)=>some ((s.cD (aF s.G id (.gB l (pos+n)))).put dst (.v (.bk [.bool true,.int .i64 pos,.int .i32 c])))
   else some (s.put dst (.v (.bk [.bool false])))
  |_=>none
 |_=>none
def dX (es:List (AV × AV)) (i:Nat):AV × AV:=match nth es i with
 |some e=>e
 |none=>(fO,fO)
def UE (E:Env) (kt:TypeId):Option aM:=match E.Pc kt with
 |some p=>some p
 |none=>match E.ti kt with
  |some i=>match i.k with
   |.int k=>some (.int k)
   |.str=>some .str
   |_=>none
  |none=>none
def sF (E:Env) (t:TypeId) (e:AV × AV):Bool × AV × AV:=match E.ti t with
 |some i=>match i.k with
  |.map kt _ _=>match E.Pc t,UE E kt with
   |some pv,some pk=>(pk.fits e.1&&pv.fits e.2,pk.enc (pk.bA e.1),pv.enc (pv.bA e.2))
   |_,_=>(true,e.1,e.2)
  |_=>(true,e.1,e.2)
 |none=>(true,e.1,e.2)
def AS (E:Env) (s:St) (dst:Option Tmp) (x:SV):Option (Bool × St × List Nat × (Nat→Bool × St)):=match x with
 |.v (.ptr id 0)=>match nth s.G id with
  |some (.oE rG n left _ t)=>match nth s.G rG with
   |some (.map es)=>some (decide (es.length=n),s.put dst (.v (.bk [.bool false])),left,
     fun i=>((sF E t (dX es i)).1,(s.cD (aF s.G id (.oE rG n (left.erase i) (some i) t))).put dst (.v (.bk [.bool true,(sF E t (dX es i)).2.1,(sF E t (dX es i)).2.2]))))
   |_=>none
  |_=>none
 |_=>none
def ua (E:Env) (s:St) (o:Oper):Option (Bool × St × List Nat × (Nat→Bool × St)):=match o.op with
 |.next x false=>AS E s o.dst (bJ E s.ae x)
 |_=>none
def eqO (E:Env) (op:BinOp) (t:TypeId) (a b:AV):Option Bool:=match op,E.ti t with
 |.eql,some i=>ls i.ek a b
 |.neq,some i=>match ls i.ek a b with
  |some r=>some (!r)
  |none=>none
 |_,_=>none
def j3 (E:Env) (s:St) (t:TypeId) (len:Nat) (parts:List (Nat × Operand)):Option (List AV):=
 match E.ti t,OQ E s.ae parts with
 |some i,some ps=>match i.k with
  |.sl _ esz _ _ (some z)=>
    if aaa z.cells.length esz&&aax 1 esz&&aax (len * esz) 16777216&&z.aY then
     vc (fun i=>some (i * esz,esz)) (aq (aaC len z)) (AQ ps)
    else none
  |_=>none
 |_,_=>none
def jr (E:Env) (f:FuncId) (s:St) (o:Oper):Option St:=match o.op with
 |.buildSlice t len parts=>match o.dst with
  |some d=>if E.BQ f d then match E.ti t with
    |some i=>match i.k,cg E s t len parts.toList with
     |.sl elem _ _ _ _,some (.list _ esz es)=>some ((s.dQ (.row (aq es) elem)).put (some d) (.v (.jZ s.G.length 0 esz len len)))
     |.sl elem esz _ _ _,none=>match j3 E s t len parts.toList with
      |some cs=>some ((s.dQ (.row cs elem)).put (some d) (.v (.jZ s.G.length 0 esz len len)))
      |none=>none
     |_,_=>none
    |none=>none
   else if E.BQ f (d+196608) then match E.ti t with
    |some i=>match i.k,cg E s t len parts.toList with
     |.sl elem _ _ _ _,some (.list _ esz es)=>if aax len 65536 then some ((s.dQ (.dV es esz elem)).put (some d) (.v (.eu s.G.length len 0 esz len))) else none
     |_,_=>none
    |none=>none
   else if E.BQ f (d+65536) then match E.ti t with
    |some i=>match i.k,cg E s t len parts.toList with
     |.sl elem _ _ _ _,some (.list _ esz es)=>if aax len 65536 then some ((s.dQ (.tok len esz elem)).put (some d) (.v (.list (.own s.G.length) esz es))) else none
     |_,_=>none
    |none=>none
   else none
  |none=>none
 |_=>none
def AT (wk:Bool) (es:List AV):List AV:=match wk with
 |true=>es.map AV.gY
 |false=>es
def mF (wk:Bool):List AV→List GO→Bool × List AV × List GO
 |[],G=>(true,[],G)
 |.eu id f 0 sz len :: l,G=>match nth G id with
  |some (.dV es bR _)=>match mF wk l (aF G id .dead) with
   |(c,r,G')=>(decide (f=es.length)&&decide (len=es.length)&&aaa sz bR&&aB (AT wk es)&&c,.list .lq sz (AT wk es) :: r,G')
  |_=>match mF wk l G with
   |(_,r,G')=>(false,r,G')
 |a :: l,G=>match mF wk l G with
  |(c,r,G')=>(c,a :: r,G')
def qi (cut wk:Bool) (s:St) (t:Tmp):Option (Bool × St):=match lk s.ae t with
 |.v (.eu id f off sz len)=>match nth s.G id with
  |some (.dV es bR _)=>if aaa off 0&&aaa sz bR then
    some (decide (f=es.length)&&(bif cut then decide (len≤es.length) else decide (len=es.length))&&aB (AT wk es),⟨.put t (.v (.list .lq sz (AT wk (bif cut then es.take len else es)))) :: s.ae,s.boxes,aF s.G id .dead,s.marks,s.ro,s.n⟩) else none
  |_=>none
 |.v (.ptr id 0)=>match nth s.G id with
  |some (.row cs _)=>some (aB cs,⟨.put t (.v (.ep cs)) :: s.ae,s.boxes,aF s.G id .dead,s.marks,s.ro,s.n⟩)
  |_=>none
 |.v (.agg cs)=>match mF wk cs s.G with
  |(c,cs',G')=>some (c,⟨.put t (.v (.agg cs')) :: s.ae,s.boxes,G',s.marks,s.ro,s.n⟩)
 |_=>none
def gR (cut wk:Bool):List Operand→St→Bool × St
 |[],s=>(true,s)
 |.tmp t :: l,s=>match qi cut wk s t with
  |some (c,s')=>match gR cut wk l s' with
   |(c',s2)=>(c&&c',s2)
  |none=>gR cut wk l s
 |_ :: l,s=>gR cut wk l s
def IS (E:Env) (f:FuncId) (s:St) (o:Oper):Option (Bool × St):=match o.dst with
 |some d=>if E.BQ f (d+262144) then some (gR (E.BQ f (d+393216)) (E.BQ f (d+458752)) o.op.operands.toList s) else none
 |none=>none
def mG (E:Env) (s:St) (a b:TypeId) (x:SV):Option (Bool × AV):=
 match E.ti a,E.ti b,x with
 |some i,some j,.v x=>match j.k,x with
  |.int k,.int _ n=>some (true,.int k (k.wrap n))
  |.str,.list _ sz es=>match i.k with
   |.sl elem 1 _ _ _=>match E.ti elem with
    |some e=>match e.k with
     |.int .u8=>some ((aaa sz 1 || es.isEmpty)&&allFit (aM.fits (.int .u8)) es,.str (fP es))
     |.int .i32=>some ((aaa sz 1 || es.isEmpty)&&allFit (aM.fits (.int .i32)) es,.str (xl es))
     |_=>none
    |none=>none
   |_=>none
  |.str,.jZ id off 1 len _=>match i.k,nth s.G id with
   |.sl elem 1 _ _ _,some (.row cs _)=>match E.ti elem with
    |some e=>match e.k with
     |.int .u8=>some (aax (off+len) cs.length&&allFit (aM.fits (.int .u8)) (di off (off+len) cs),.str (fP (di off (off+len) cs)))
     |_=>none
    |none=>none
   |_,_=>none
  |_,_=>none
 |_,_,_=>none
def xm (e:EK) (k k':AV):Bool:=match E7 e k k' with
 |some b=>b
 |none=>false
def gC (e:EK) (k:AV):List (AV × AV)→Bool
 |[]=>true
 |(k',_) :: l=>(E7 e k k').isSome&&gC e k l
def ky (e:EK) (k:AV):List (AV × AV)→Option AV
 |[]=>none
 |(k',v) :: l=>bif xm e k k' then some v else ky e k l
def gJ (e:EK) (k v:AV):List (AV × AV)→List (AV × AV)
 |[]=>[(k,v)]
 |(k',v') :: l=>bif xm e k k' then (k,v) :: l else (k',v') :: gJ e k v l
def eK (e:EK) (k z:AV) (es:List (AV × AV)):AV:=(ky e k es).getD z
def iC (e:EK) (k:AV):List (AV × AV)→Nat
 |[]=>0
 |(k',_) :: l=>bif xm e k k' then 0 else iC e k l+1
def jP:List (AV × AV)→Nat→AV→List (AV × AV)
 |[],_,_=>[]
 |(k,_) :: l,0,x=>(k,x) :: l
 |e :: l,n+1,x=>e :: jP l n x
def ub (E:Env) (s:St) (x:SV):Option (Bool × AV):=match x with
 |.v (.ptr id 0)=>match nth s.G id with
  |some (.oE rG n _ (some i) t)=>match nth s.G rG with
   |some (.map es)=>some (decide (es.length=n)&&decide (i < n)&&(sF E t (dX es i)).1,.bk [(sF E t (dX es i)).2.1,(sF E t (dX es i)).2.2])
   |_=>none
  |_=>none
 |_=>none
def gk (E:Env) (s:St) (t:TypeId) (m k:SV):Option (Bool × AV × St):=match E.ti t,m,k with
 |some i,.v (.map id),.v k=>match i.k,nth s.G id with
  |.map kt _ (some z),some (.map es)=>match E.ti kt with
   |some j=>if j.ek.plain&&jl j.ek k then
     some (gC j.ek k es,.bk [eK j.ek k z es,.int .i64 (iC j.ek k es:Nat)],s.cD (aF s.G id (.map (gJ j.ek k (eK j.ek k z es) es)))) else none
   |none=>none
  |_,_=>none
 |_,_,_=>none
def eC (s:St) (m st x:SV):Option (Bool × St):=match m,st,x with
 |.v (.map id),.v (.int .i64 n),.v v=>match nth s.G id with
  |some (.map es)=>some (decide (0≤n)&&decide (n.toNat < es.length),s.cD (aF s.G id (.map (jP es n.toNat v))))
  |_=>none
 |_,_,_=>none
def ij (E:Env) (f:FuncId) (s:St) (o:Oper):Option (Bool × St):=none
def vd (E:Env) (f:FuncId) (s:St) (o:Oper):Option (Bool × St):=none
def acD (E:Env) (f:FuncId) (d:Option Tmp):Bool:=match d with
 |some d=>E.BQ f (d+196608)
 |none=>false
def an (E:Env) (f:FuncId) (s:St) (o:Oper):Option (Bool × St):=
 match o.op with
 |.move x=>match bJ E s.ae x with
  |.v a=>some (true,s.put o.dst (.v a))
  |.lp k off=>some (true,s.put o.dst (.lp k off))
  |.none=>some (true,s.put o.dst .none)
 |.assign x=>match bJ E s.ae x with
  |.v a=>some (true,s.put o.dst (.v a))
  |.lp k off=>some (true,s.put o.dst (.lp k off))
  |.none=>some (true,s.put o.dst .none)
 |.pick c a b=>match bJ E s.ae c,bJ E s.ae a,bJ E s.ae b with
  |.v (.bool t),.v x,.v y=>some (true,s.put o.dst (.v (BR t x y)))
  |_,_,_=>none
 |.alloc e=>match E.ti e with
  |some i=>match i.zero with
   |some z=>if z.aY then fb E f s o.dst e z.cells else none
   |none=>none
  |none=>none
 |.box t x=>match bJ E s.ae x with
  |.v v=>if v.aY then fb E f s o.dst t v.cells else none
  |_=>none
 |.build t parts=>match nF E s t parts.toList with
  |some v=>some (true,s.put o.dst (.v v))
  |none=>none
 |.buildSlice t len parts=>match cg E s t len parts.toList with
  |some v=>some (true,s.put o.dst (.v v))
  |none=>none
 |.load t a=>match AR E s t (bJ E s.ae a) with
  |some (c,v)=>some (c,s.put o.dst (.v v))
  |none=>none
 |.store t a x=>match o.dst,jO E s t (bJ E s.ae a) (bJ E s.ae x) with
  |none,some (c,s')=>some (c,s')
  |_,_=>none
 |.binOp op t x y _=>match bJ E s.ae x,bJ E s.ae y with
  |.v a,.v b=>match C8 op a b with
   |some (c,v)=>some (c,s.put o.dst (.v v))
   |none=>match eqO E op t a b with
    |some r=>some (true,s.put o.dst (.v (.bool r)))
    |none=>none
  |_,_=>none
 |.unOp op _ x=>match op,bJ E s.ae x with
  |.not,.v (.bool b)=>some (true,s.put o.dst (.v (.bool (!b))))
  |.neg,.v (.int k n)=>some (true,s.put o.dst (.v (.int k (k.wrap (0 - n)))))
  |_,_=>none
 |.convert a b x=>match mG E s a b (bJ E s.ae x) with
  |some (c,v)=>some (c,s.put o.dst (.v v))
  |none=>none
 |.nilCheck x=>match bJ E s.ae x with
  |.v (.ptr id off)=>some (true,s.put o.dst (.v (.ptr id off)))
  |.lp k off=>some (true,s.put o.dst (.lp k off))
  |_=>none
 |.makeFunc (.func g) first captured=>match nE E s.ae first.toList,nE E s.ae captured.toList with
  |some x,some y=>some (true,s.put o.dst (.v (.fn g x y)))
  |_,_=>none
 |.fieldAddr t x j=>match kx E t (bJ E s.ae x) j with
  |some p=>some (true,s.put o.dst p)
  |none=>none
 |.field t x j=>match Fi E t (bJ E s.ae x) j with
  |some v=>some (true,s.put o.dst (.v v))
  |none=>none
 |.indexAddr t x ix=>match kw E t (bJ E s.ae x) (bJ E s.ae ix) with
  |some (c,p)=>some (c,s.put o.dst p)
  |none=>none
 |.index t x ix=>match Fj E t (bJ E s.ae x) (bJ E s.ae ix) with
  |some (c,v)=>some (c,s.put o.dst (.v v))
  |none=>none
 |.slice t x lo hi mx=>match nG E s.ae lo,nG E s.ae hi with
  |some l,some h=>match BT E t (bJ E s.ae x) l h mx with
   |some (c,v)=>some (c,s.put o.dst (.v v))
   |none=>none
  |_,_=>none
 |.extract x i=>match bJ E s.ae x with
  |.v (.bk vs)=>match nth vs i with
   |some v=>some (true,s.put o.dst (.v v))
   |none=>none
  |_=>none
 |.makeSlice t l c=>match E.ti t,bJ E s.ae l,bJ E s.ae c with
  |some i,.v (.int _ n),.v (.int _ m)=>match i.k with
   |.sl elem esz _ bL (some z)=>
    if aaa z.cells.length esz&&aax 1 esz&&z.aY then
     if acD E f o.dst then (if z.closed then some (decide (0≤n∧n≤m∧m≤140737488355328∧m * bL≤140737488355328),
      (s.dQ (.dV (aaC n.toNat z) esz elem)).put o.dst (.v (.eu s.G.length n.toNat 0 esz n.toNat))) else none)
     else some (decide (0≤n∧n≤m∧m≤140737488355328∧m * bL≤140737488355328),
      (s.dQ (.row (aq (aaC m.toNat z)) elem)).put o.dst (.v (.jZ s.G.length 0 esz n.toNat m.toNat)))
    else none
   |_=>none
  |_,_,_=>none
 |.lookup t m k ok=>match lE E s t (bJ E s.ae m) (bJ E s.ae k) with
  |some (v,b)=>some (true,s.put o.dst (.v (if ok then .bk [v,.bool b] else v)))
  |none=>none
 |.mapUpdate t m k x=>match o.dst,fc E s t (bJ E s.ae m) (bJ E s.ae k) (bJ E s.ae x) with
  |none,some s'=>some (true,s')
  |_,_=>none
 |.insert t m k x=>match o.dst,fc E s t (bJ E s.ae m) (bJ E s.ae k) (bJ E s.ae x) with
  |none,some s'=>some (true,s')
  |_,_=>none
 |.entry x=>match ub E s (bJ E s.ae x) with
  |some (c,v)=>some (c,s.put o.dst (.v v))
  |none=>none
 |.mapEntry t m k=>match gk E s t (bJ E s.ae m) (bJ E s.ae k) with
  |some (c,v,s')=>some (c,s'.put o.dst (.v v))
  |none=>none
 |.entryStore _ m st x=>match o.dst,eC s (bJ E s.ae m) (bJ E s.ae st) (bJ E s.ae x) with
  |none,some (c,s')=>some (c,s')
  |_,_=>none
 |.range t x=>match E.ti t,bJ E s.ae x with
  |some i,.v (.str l)=>match i.k with
   |.str=>some (true,(s.dQ (.gB l 0)).put o.dst (.v (.ptr s.G.length 0)))
   |_=>none
  |some i,.v (.map id)=>match i.k,nth s.G id with
   |.map _ _ _,some (.map es)=>some (true,(s.dQ (.oE id es.length (List.range es.length) none t)).put o.dst (.v (.ptr s.G.length 0)))
   |_,_=>none
  |_,_=>none
 |.next x true=>match lF s o.dst (bJ E s.ae x) with
  |some s'=>some (true,s')
  |none=>none
 |.makeMap _ none=>some (true,(s.dQ (.map [])).put o.dst (.v (.map s.G.length)))
 |.call { callee:=.builtin b,args,argTypes }=>match ij E f s o with
  |some r=>some r
  |none=>match nE E s.ae args.toList with
   |some l=>bT E s o.dst b l argTypes.toList
   |none=>none
 |_=>none
end Go.Am
namespace Go.Am
open Go
inductive TR where
 |bO
 |full (f:Nat)
 |tok (f b c:Nat)
inductive RO where
 |none
 |bO
 |ca (b:Nat)
 |tok (f b c:Nat)
 |bB (ts:List TR)
def RO.has:RO→Nat→Prop
 |.none,_=>False
 |.bO,_=>False
 |.ca b,x=>x=b
 |.tok _ b _,x=>x=b
 |.bB ts,x=>∃ j f c,nth ts j=some (.tok f x c)
def jt (sz:Nat) (es:List AV):Prop:=∀ e∈es,e.cells.length=sz∧e.aY=true∧e.closed=true
def dM (sz:Nat) (es:List AV):Prop:=∀ e∈es,e.cells.length=sz∧e.aY=true
theorem jt.g {sz:Nat} {es:List AV} (h:jt sz es):dM sz es:=fun e he=>⟨(h e he).1,(h e he).2.1⟩
structure ak where
 I:Nat→Nat→Prop
 obj:List RO
def TB (b o len cap:Nat):RO→Prop
 |.none=>True
 |.bO=>False
 |.ca _=>False
 |.tok f b' c'=>len≤f∧(len=f→b=b'∧o=0∧cap=c')
 |.bB _=>False
def Pe (b o len cap:Nat):TR→Prop
 |.bO=>False
 |.full f=>len≤f∧(len=f→cap=len)
 |.tok f b' c'=>len≤f∧(len=f→b=b'∧o=0∧cap=c')
def Yy (b o len cap j:Nat):RO→Prop
 |.none=>True
 |.bO=>False
 |.ca _=>False
 |.tok _ _ _=>False
 |.bB ts=>∃ t,nth ts j=some t∧Pe b o len cap t
def xn:RO→Prop
 |.none=>True
 |.bO=>False
 |.ca _=>False
 |.tok _ _ _=>False
 |.bB _=>True
def nH:RO→Prop
 |.none=>True
 |.bO=>True
 |.ca _=>False
 |.tok f _ _=>1≤f
 |.bB _=>False
def IT (b o f off sz cap:Nat):RO→Prop
 |.none=>True
 |.bO=>False
 |.ca _=>False
 |.tok f' b' c'=>f≤f'∧(f=f'→b=b'∧off+cap=c'∧(o=off * sz∨cap=0))
 |.bB _=>False
def KE (b o f i off sz:Nat):RO→Prop
 |.none=>True
 |.bO=>False
 |.ca _=>False
 |.tok f' b' _=>f≤f'∧(f=f'→b=b'∧o=i * sz+off)
 |.bB _=>False
def BU (R:ak) (k:LK) (b o len cap:Nat):Prop:=match k with
 |.nil=>False
 |.full=>cap=len
 |.lq=>True
 |.own id=>∃ ro,nth R.obj id=some ro∧TB b o len cap ro
 |.bB id j=>∃ ro,nth R.obj id=some ro∧Yy b o len cap j ro
mutual
inductive Rel (R:ak) (w:World):AV→Value→Prop
 |bool (b:Bool):Rel R w (.bool b) (.bool b)
 |int (k:IntKind) (n:Int):Rel R w (.int k n) (.int k n)
 |str (l:List UInt8):Rel R w (.str l) (.string ⟨⟨l⟩⟩)
 |agg {cs:List AV} {vs:List Value} (h:aK R w cs vs) (h1:∀ v∈vs,v.oneCell'=true):Rel R w (.agg cs) (.agg ⟨vs⟩)
 |bk {cs:List AV} {vs:List Value} (h:aK R w cs vs):Rel R w (.bk cs) (.tuple ⟨vs⟩)
 |fm:Rel R w .fm (.pointer none)
 |ptr {id off b:Nat} (h:nth R.obj id=some (.ca b)):Rel R w (.ptr id off) (.pointer (some ⟨b,off,none⟩))
 |ep {cs:List AV} {b o:Nat} (h:dR R w b o cs):Rel R w (.ep cs) (.pointer (some ⟨b,o,none⟩))
 |kz {sz:Nat}:Rel R w (.list .nil sz []) (.slice none 0 0)
 |ja {sz:Nat}:Rel R w (.list .lq sz []) (.slice none 0 0)
 |nI {sz:Nat} {a:Addr}:Rel R w (.list .lq sz []) (.slice (some a) 0 0)
 |mH {id sz:Nat} {ro:RO} (h:nth R.obj id=some ro) (ho:nH ro):Rel R w (.list (.own id) sz []) (.slice none 0 0)
 |nJ {id j sz:Nat} {ro:RO} (h:nth R.obj id=some ro) (ho:xn ro):Rel R w (.list (.bB id j) sz []) (.slice none 0 0)
 |list {k:LK} {sz:Nat} {es:List AV} {b o len cap:Nat} (h:gl R w b o sz es) (hl:len=es.length) (hc:len≤cap) (hk:BU R k b o len cap):Rel R w (.list k sz es) (.slice (some ⟨b,o,none⟩) len cap)
 |jZ {id off sz len cap b:Nat} (h:nth R.obj id=some (.ca b)) (hc:len≤cap):Rel R w (.jZ id off sz len cap) (.slice (some ⟨b,off,none⟩) len cap)
 |iV {id sz:Nat} {ro:RO} (h:nth R.obj id=some ro) (ho:nH ro):Rel R w (.eu id 0 0 sz 0) (.slice none 0 0)
 |eu {id f off sz len cap b o:Nat} {ro:RO} (h:nth R.obj id=some ro) (ho:IT b o f off sz cap ro) (hc:len≤cap):Rel R w (.eu id f off sz len) (.slice (some ⟨b,o,none⟩) len cap)
 |gp {id f i off sz b o:Nat} {t:TypeId} {ro:RO} (h:nth R.obj id=some ro) (ho:KE b o f i off sz ro):Rel R w (.gp id f i off sz t) (.pointer (some ⟨b,o,none⟩))
 |kv:Rel R w .kv (.map none)
 |map {id b:Nat} (h:nth R.obj id=some (.ca b)):Rel R w (.map id) (.map (some b))
 |cG:Rel R w .cG .nilFunc
 |fn {f:FuncId} {xs ys:List AV} {vs us:List Value} (h:aK R w xs vs) (h':aK R w ys us):Rel R w (.fn f xs ys) (.func (.func f) ⟨vs⟩ ⟨us⟩)
 |yield {id b:Nat} (h:nth R.obj id=some (.ca b)):Rel R w (.yield id) (.func (.yield b) #[] #[])
 |oI:Rel R w .oI .nilIface
 |iface {t:TypeId} {v:AV} {c:Value} (h:Rel R w v c):Rel R w (.iface t v) (.iface t c)
inductive aK (R:ak) (w:World):List AV→List Value→Prop
 |nil:aK R w [] []
 |cons {a:AV} {c:Value} {l:List AV} {cs:List Value} (h:Rel R w a c) (t:aK R w l cs):aK R w (a :: l) (c :: cs)
inductive gl (R:ak) (w:World):Nat→Nat→Nat→List AV→Prop
 |nil {b o sz:Nat}:gl R w b o sz []
 |cons {b o sz:Nat} {e:AV} {es:List AV} (hl:e.cells.length=sz) (ht:e.aY=true) (hk:e.closed=true) (h:dR R w b o e.cells) (t:gl R w b (o+sz) sz es):gl R w b o sz (e :: es)
inductive dR (R:ak) (w:World):Nat→Nat→List AV→Prop
 |nil {b o:Nat}:dR R w b o []
 |cons {b o:Nat} {a:AV} {c:Value} {l:List AV} (hc:w.cell? ⟨b,o,none⟩=some c) (h1:c.oneCell'=true) (hi:R.I b o) (h:Rel R w a c) (t:dR R w b (o+1) l):dR R w b o (a :: l)
end
def mf:TR→TR→Prop
 |.bO,.bO=>True
 |.bO,.full _=>False
 |.bO,.tok f _ _=>1≤f
 |.full _,.bO=>False
 |.full f,.full f'=>f'=f
 |.full f,.tok f' _ _=>f < f'
 |.tok _ _ _,.bO=>False
 |.tok _ _ _,.full _=>False
 |.tok f b c,.tok f' b' c'=>f≤f'∧(f'=f→b'=b∧c'=c)
theorem mf.refl (t:TR):mf t t:=by cases t <;> simp [mf]
theorem mf.trans {a b c:TR} (h:mf a b) (k:mf b c):mf a c:=by
 cases a <;> cases b <;> cases c <;> simp only [mf] at * <;> omega
def uc (ts XW:List TR):Prop:=∀ j t,nth ts j=some t→∃ t',nth XW j=some t'∧mf t t'
theorem uc.refl (ts:List TR):uc ts ts:=fun _ t h=>⟨t,h,mf.refl t⟩
theorem uc.trans {a b c:List TR} (h:uc a b) (k:uc b c):uc a c:=fun j t hj=>
 let ⟨_,h1,h2⟩:=h j t hj
 let ⟨t2,k1,k2⟩:=k j _ h1
 ⟨t2,k1,h2.trans k2⟩
def cF:RO→RO→Prop
 |.none,r=>r=.none
 |.ca b,r=>r=.ca b
 |.bO,.none=>True
 |.bO,.bO=>True
 |.bO,.ca _=>False
 |.bO,.tok f _ _=>1≤f
 |.tok _ _ _,.none=>True
 |.tok _ _ _,.bO=>False
 |.tok _ _ _,.ca _=>False
 |.tok f b c,.tok f' b' c'=>f≤f'∧(f'=f→b'=b∧c'=c)
 |.bO,.bB _=>False
 |.tok _ _ _,.bB _=>False
 |.bB _,.none=>True
 |.bB _,.bO=>False
 |.bB _,.ca _=>False
 |.bB _,.tok _ _ _=>False
 |.bB ts,.bB XW=>uc ts XW
theorem cF.refl (r:RO):cF r r:=by cases r <;> simp [cF,uc.refl]
theorem cF.trans {a b c:RO} (h:cF a b) (k:cF b c):cF a c:=by
 cases a with
 |none=>simp only [cF] at h; subst h; exact k
 |ca x=>simp only [cF] at h; subst h; exact k
 |bO=>
  cases b with
  |none=>simp only [cF] at k; subst k; trivial
  |bO=>exact k
  |ca z=>exact h.elim
  |tok f' x' y'=>
   cases c with
   |none=>trivial
   |bO=>exact k.elim
   |ca z=>exact k.elim
   |bB _=>exact k.elim
   |tok f'' x'' y''=>simp only [cF] at *; omega
  |bB _=>exact h.elim
 |tok f x y=>
  cases b with
  |none=>simp only [cF] at k; subst k; trivial
  |bO=>exact h.elim
  |ca z=>exact h.elim
  |tok f' x' y'=>
   cases c with
   |none=>trivial
   |bO=>exact k.elim
   |ca z=>exact k.elim
   |tok f'' x'' y''=>
    simp only [cF] at *;refine ⟨Nat.le_trans h.1 k.1,fun e=>?_⟩;obtain ⟨h1,h2⟩:=h; obtain ⟨k1,k2⟩:=k;have e1:f'=f:=by omega
    have e2:f''=f':=by omega
    exact ⟨(k2 e2).1.trans (h2 e1).1,(k2 e2).2.trans (h2 e1).2⟩
   |bB _=>exact k.elim
  |bB _=>exact h.elim
 |bB ts=>
  cases b with
  |none=>simp only [cF] at k; subst k; trivial
  |bO=>exact h.elim
  |ca z=>exact h.elim
  |tok f' x' y'=>exact h.elim
  |bB XW=>
   cases c with
   |none=>trivial
   |bO=>exact k.elim
   |ca z=>exact k.elim
   |tok f' x' y'=>exact k.elim
   |bB ts''=>exact uc.trans h k
def sG (r r':Loop):Prop:=r'.tmps=r.tmps∧r'.params=r.params∧r'.assign=r.assign∧r'.body=r.body∧r'.defers=r.defers
def gE (w w':World):Prop:=∀ (b:Nat) (r:Loop),w.heap[b]?=some (Obj.loop r)→∃ r',w'.heap[b]?=some (Obj.loop r')∧sG r r'
theorem gE.refl (w:World):gE w w:=fun _ r h=>⟨r,h,rfl,rfl,rfl,rfl,rfl⟩
theorem gE.trans {w w1 w2:World} (h:gE w w1) (k:gE w1 w2):gE w w2:=fun b r hb=>
 let ⟨_,h1,h2,h3,h4,h5,h6⟩:=h b r hb
 let ⟨r2,k1,k2,k3,k4,k5,k6⟩:=k b _ h1
 ⟨r2,k1,k2.trans h2,k3.trans h3,k4.trans h4,k5.trans h5,k6.trans h6⟩
theorem gE.old {w w':World} (h:∀ b,b < w.heap.size→w'.heap[b]?=w.heap[b]?):gE w w':=fun b r hb=>
 ⟨r,(h b (by
  rcases Nat.lt_or_ge b w.heap.size with bZ|mz
  ·exact bZ
  ·rw [Array.getElem?_eq_none mz] at hb; cases hb)).trans hb,rfl,rfl,rfl,rfl,rfl⟩
structure Ext (R:ak) (w:World) (R':ak) (w':World):Prop where
 I:∀ b o,R.I b o→R'.I b o
 cell:∀ b o,R.I b o→w'.cell? ⟨b,o,none⟩=w.cell? ⟨b,o,none⟩
 obj:∀ id ro,nth R.obj id=some ro→∃ mI,nth R'.obj id=some mI∧cF ro mI
 lp:gE w w'
theorem Ext.refl (R:ak) (w:World):Ext R w R w:=⟨fun _ _ h=>h,fun _ _ _=>rfl,fun _ ro h=>⟨ro,h,cF.refl ro⟩,gE.refl w⟩
theorem Ext.trans {R R' Pf:ak} {w w' TC:World} (h:Ext R w R' w') (k:Ext R' w' Pf TC):Ext R w Pf TC:=
 ⟨fun b o hi=>k.I b o (h.I b o hi),fun b o hi=>(k.cell b o (h.I b o hi)).trans (h.cell b o hi),fun id ro hr=>
  let ⟨_,h1,h2⟩:=h.obj id ro hr
  let ⟨r2,h3,h4⟩:=k.obj id _ h1
  ⟨r2,h3,h2.trans h4⟩,h.lp.trans k.lp⟩
theorem Ext.ca {R R':ak} {w w':World} (h:Ext R w R' w') {id b:Nat} (hb:nth R.obj id=some (.ca b)):nth R'.obj id=some (.ca b):=by
 obtain ⟨r,h1,h2⟩:=h.obj id _ hb;simp only [cF] at h2;subst h2;exact h1
theorem BU.mono {R R':ak} {w w':World} (e:Ext R w R' w') {k:LK} {b o len cap:Nat} (h:BU R k b o len cap):BU R' k b o len cap:=by
 cases k with
 |nil=>exact h
 |full=>exact h
 |lq=>trivial
 |own id=>
  obtain ⟨ro,h1,h2⟩:=h;obtain ⟨mI,h3,h4⟩:=e.obj id ro h1;refine ⟨mI,h3,?_⟩;cases ro with
  |none=>simp only [cF] at h4; subst h4; trivial
  |bO=>exact h2.elim
  |ca x=>exact h2.elim
  |tok f x y=>
   cases mI with
   |none=>trivial
   |bO=>exact h4.elim
   |ca z=>exact h4.elim
   |tok f' x' y'=>
    simp only [cF,TB] at *;refine ⟨by omega,fun e=>?_⟩;have e1:f'=f:=by omega
    have h5:=h2.2 (by omega);have h6:=h4.2 e1;exact ⟨h5.1.trans h6.1.symm,h5.2.1,h5.2.2.trans h6.2.symm⟩
   |bB _=>exact h4.elim
  |bB _=>exact h2.elim
 |bB id j=>
  obtain ⟨ro,h1,h2⟩:=h;obtain ⟨mI,h3,h4⟩:=e.obj id ro h1;refine ⟨mI,h3,?_⟩;cases ro with
  |none=>simp only [cF] at h4; subst h4; trivial
  |bO=>exact h2.elim
  |ca x=>exact h2.elim
  |tok _ _ _=>exact h2.elim
  |bB ts=>
   cases mI with
   |none=>trivial
   |bO=>exact h4.elim
   |ca z=>exact h4.elim
   |tok _ _ _=>exact h4.elim
   |bB XW=>
    obtain ⟨t,k1,k2⟩:=h2;obtain ⟨t',k3,k4⟩:=h4 j t k1;refine ⟨t',k3,?_⟩;cases t with
    |bO=>exact k2.elim
    |full f=>
     cases t' with
     |bO=>exact k4.elim
     |full f'=>simp only [mf,Pe] at *; subst k4; exact k2
     |tok f' x' y'=>simp only [mf,Pe] at *; exact ⟨by omega,fun e=>by omega⟩
    |tok f x y=>
     cases t' with
     |bO=>exact k4.elim
     |full f'=>exact k4.elim
     |tok f' x' y'=>
      simp only [mf,Pe] at *;refine ⟨by omega,fun e=>?_⟩;have e1:f'=f:=by omega
      have h5:=k2.2 (by omega);have h6:=k4.2 e1;exact ⟨h5.1.trans h6.1.symm,h5.2.1,h5.2.2.trans h6.2.symm⟩
theorem nH.mono {ro mI:RO} (h:nH ro) (e:cF ro mI):nH mI:=by
 cases ro with
 |none=>simp only [cF] at e; subst e; trivial
 |bO=>cases mI <;> first | trivial | exact e.elim | exact e
 |ca _=>exact h.elim
 |tok f x y=>
  cases mI with
  |none=>trivial
  |bO=>exact e.elim
  |ca z=>exact e.elim
  |tok f' x' y'=>simp only [cF,nH] at *; omega
  |bB _=>exact e.elim
 |bB _=>exact h.elim
theorem xn.mono {ro mI:RO} (h:xn ro) (e:cF ro mI):xn mI:=by
 cases ro with
 |none=>simp only [cF] at e; subst e; trivial
 |bO=>exact h.elim
 |ca _=>exact h.elim
 |tok _ _ _=>exact h.elim
 |bB ts=>
  cases mI with
  |none=>trivial
  |bO=>exact e.elim
  |ca z=>exact e.elim
  |tok _ _ _=>exact e.elim
  |bB XW=>trivial
theorem IT.mono {b o f off sz cap:Nat} {ro mI:RO} (h:IT b o f off sz cap ro) (e:cF ro mI):IT b o f off sz cap mI:=by
 cases ro with
 |none=>simp only [cF] at e; subst e; trivial
 |bO=>exact h.elim
 |ca _=>exact h.elim
 |tok f1 x y=>
  cases mI with
  |none=>trivial
  |bO=>exact e.elim
  |ca z=>exact e.elim
  |tok f' x' y'=>
   simp only [cF,IT] at *;refine ⟨by omega,fun k=>?_⟩;obtain ⟨e1,e2⟩:=e.2 (by omega);obtain ⟨h1,h2,h3⟩:=h.2 (by omega);exact ⟨h1.trans e1.symm,h2.trans e2.symm,h3⟩
  |bB _=>exact e.elim
 |bB _=>exact h.elim
theorem KE.mono {b o f i off sz:Nat} {ro mI:RO} (h:KE b o f i off sz ro) (e:cF ro mI):KE b o f i off sz mI:=by
 cases ro with
 |none=>simp only [cF] at e; subst e; trivial
 |bO=>exact h.elim
 |ca _=>exact h.elim
 |tok f1 x y=>
  cases mI with
  |none=>trivial
  |bO=>exact e.elim
  |ca z=>exact e.elim
  |tok f' x' y'=>
   simp only [cF,KE] at *;refine ⟨by omega,fun k=>?_⟩;obtain ⟨e1,e2⟩:=e.2 (by omega);obtain ⟨h1,h2⟩:=h.2 (by omega);exact ⟨h1.trans e1.symm,h2⟩
  |bB _=>exact e.elim
 |bB _=>exact h.elim
mutual
theorem Rel.mono {R R':ak} {w w':World} (e:Ext R w R' w'):∀ {a:AV} {c:Value},Rel R w a c→Rel R' w' a c
 |_,_,.bool b=>.bool b
 |_,_,.int k n=>.int k n
 |_,_,.str l=>.str l
 |_,_,.agg h h1=>.agg (h.mono e) h1
 |_,_,.bk h=>.bk (h.mono e)
 |_,_,.fm=>.fm
 |_,_,.ptr h=>.ptr (e.ca h)
 |_,_,.ep h=>.ep (h.mono e)
 |_,_,.kz=>.kz
 |_,_,.ja=>.ja
 |_,_,.nI=>.nI
 |_,_,.mH h ho=>let ⟨_,h3,h4⟩:=e.obj _ _ h; .mH h3 (ho.mono h4)
 |_,_,.nJ h ho=>let ⟨_,h3,h4⟩:=e.obj _ _ h; .nJ h3 (ho.mono h4)
 |_,_,.list h hl hc hk=>.list (h.mono e) hl hc (hk.mono e)
 |_,_,.jZ h hc=>.jZ (e.ca h) hc
 |_,_,.iV h ho=>let ⟨_,h3,h4⟩:=e.obj _ _ h; .iV h3 (ho.mono h4)
 |_,_,.eu h ho hc=>let ⟨_,h3,h4⟩:=e.obj _ _ h; .eu h3 (ho.mono h4) hc
 |_,_,.gp h ho=>let ⟨_,h3,h4⟩:=e.obj _ _ h; .gp h3 (ho.mono h4)
 |_,_,.kv=>.kv
 |_,_,.map h=>.map (e.ca h)
 |_,_,.cG=>.cG
 |_,_,.fn h h'=>.fn (h.mono e) (h'.mono e)
 |_,_,.yield h=>.yield (e.ca h)
 |_,_,.oI=>.oI
 |_,_,.iface h=>.iface (h.mono e)
theorem aK.mono {R R':ak} {w w':World} (e:Ext R w R' w'):∀ {l:List AV} {cs:List Value},aK R w l cs→aK R' w' l cs
 |_,_,.nil=>.nil
 |_,_,.cons h t=>.cons (h.mono e) (t.mono e)
theorem gl.mono {R R':ak} {w w':World} (e:Ext R w R' w'):∀ {b o sz:Nat} {l:List AV},gl R w b o sz l→gl R' w' b o sz l
 |_,_,_,_,.nil=>.nil
 |_,_,_,_,.cons hl ht hk h t=>.cons hl ht hk (h.mono e) (t.mono e)
theorem dR.mono {R R':ak} {w w':World} (e:Ext R w R' w'):∀ {b o:Nat} {l:List AV},dR R w b o l→dR R' w' b o l
 |_,_,_,.nil=>.nil
 |_,_,_,.cons hc h1 hi h t=>.cons ((e.cell _ _ hi).trans hc) h1 (e.I _ _ hi) (h.mono e) (t.mono e)
end
end Go.Am
namespace Go.Am
open Go
section lists
variable {α:Type}
theorem bg (l:List α) (n:Nat):nth l n=l[n]?:=by
 induction l generalizing n with
 |nil=>simp [nth]
 |cons a l ih=>cases n <;> simp [nth,ih]
theorem gn (l:List α) (n:Nat) (x:α):aF l n x=l.set n x:=by
 induction l generalizing n with
 |nil=>simp [aF]
 |cons a l ih=>cases n <;> simp [aF,ih]
theorem b7 {l:List α} {n:Nat} {x:α} (h:nth l n=some x):n < l.length:=by
 rw [bg] at h;exact (aaY.1 h).1
theorem aN {l:List α} {n:Nat} {x y:α} (h:nth l n=some y):nth (aF l n x) n=some x:=by
 have:=b7 h;rw [bg,gn,aa4 this]
theorem cj {l:List α} {n m:Nat} {x:α} (h:n≠m):nth (aF l n x) m=nth l m:=by
 rw [bg,gn,bg,List.getElem?_set_ne h]
theorem dp {l:List α} {n m:Nat} {x y:α} (h:nth (aF l n x) m=some y):(n=m∧y=x∧m < l.length)∨(n≠m∧nth l m=some y):=by
 by_cases e:n=m
 ·subst e;have hl:=b7 h;rw [gn,List.length_set] at hl;rw [bg,gn,aa4 hl] at h;exact .inl ⟨rfl,(abu h).symm,hl⟩
 ·rw [cj e] at h;exact .inr ⟨e,h⟩
@[simp] theorem ik (l:List α) (n:Nat) (x:α):(aF l n x).length=l.length:=by rw [gn,List.length_set]
theorem eM (l:List α) (x:α):nth (l++[x]) l.length=some x:=by rw [bg]; simp
theorem dq {l:List α} {n:Nat} {y x:α} (h:nth l n=some y):nth (l++[x]) n=some y:=by
 have:=b7 h;rw [bg] at *;rw [aaZ this];exact h
theorem ar {l:List α} {n:Nat} {y x:α} (h:nth (l++[x]) n=some y):nth l n=some y∨(n=l.length∧y=x):=by
 rw [bg] at *;by_cases e:n < l.length
 ·rw [aaZ e] at h; exact .inl h
 ·rw [List.getElem?_append_right (by omega)] at h;have hl:=(aaY.1 h).1;simp at hl;have:n - l.length=0:=by omega
  rw [this] at h;simp at h;exact .inr ⟨by omega,h.symm⟩
theorem ju:∀ {l:List α} {n:Nat} {x:α},nth l n=some x→aF l n x=l
 |[],_,_,h=>by cases h
 |a :: l,0,x,h=>by cases h; rfl
 |a :: l,n+1,x,h=>by
  show a :: aF l n x=a :: l;rw [ju (show nth l n=some x from h)]
end lists
def UF (R:ak) (w:World) (Yz:bh→Array Value→Prop) (busy:Bool) (pending:Option Code) (ae:bh) (n:Nat) (params:List Tmp) (assign body:Code) (defers:Nat) (done:Bool) (b:Nat):Prop:=
 ∃ (r:Loop) (db:Nat),w.heap[b]?=some (.loop r)∧r.state=(if done then .done else if busy then .busy else .ready)∧r.pending=pending ∧
  Yz ae r.tmps∧r.tmps.size=n∧r.params=⟨params⟩∧r.assign=assign∧r.body=body∧r.defers=db∧nth R.obj defers=some (.ca db)
def qQ (R:ak) (w:World) (β:Nat→Nat):SV→Value→Prop
 |.none,_=>True
 |.v a,c=>Rel R w a c
 |.lp k off,c=>c=.pointer (some ⟨β k,off,none⟩)
def oV (R:ak) (w:World) (β:Nat→Nat) (ae:bh) (tmps:Array Value):Prop:=
 ∀ i,lk ae i≠.none→∃ c,tmps[i]?=some c∧qQ R w β (lk ae i) c
def Hv:bh→Bool
 |[]=>true
 |.put _ (.lp _ _) :: _=>false
 |_ :: l=>Hv l
def dA (R:ak) (w:World):List (AV × AV)→List MapEntry→Prop
 |[],[]=>True
 |(k,v) :: l,e :: es=>Rel R w k e.key∧Rel R w v e.val∧dA R w l es
 |_,_=>False
def AU (R:ak) (w:World) (sz:Nat) (e:TypeId) (f:Nat):TR→Prop
 |.bO=>f=0
 |.full f'=>f'=f
 |.tok f' b c=>f'=f∧∃ cur,w.heap[b]?=some (.cells cur e (0,0))∧f≤c∧c≤maxLen∧cur.size=c * sz∧∀ o,f * sz≤o→¬ R.I b o
def YA (ts:List TR):Prop:=∀ i j f b c f' c',nth ts i=some (.tok f b c)→nth ts j=some (.tok f' b c')→i=j
def xo (R:ak) (w:World) (sz:Nat) (e:TypeId) (fs:List Nat) (ts:List TR):Prop:=
 ts.length=fs.length∧YA ts∧∀ j f t,nth fs j=some f→nth ts j=some t→AU R w sz e f t
def jQ (ax:Array MapEntry) (clock:Nat):Prop:=clock=ax.size∧∀ (i:Nat) (e:MapEntry),ax.toList[i]?=some e→e.born=i
def YB (R:ak) (w:World) (rG n:Nat) (left:List Nat) (cur:Option Nat) (b:Nat):Prop:=
 ∃ bm seen c0,nth R.obj rG=some (.ca bm)∧w.heap[b]?=some (.mapIter (some bm) n seen c0)∧(∀ i,i < n→(i∈left↔seen.contains i=false))∧(∀ i∈left,i < n)∧left.Nodup∧n≤c0∧∀ i,cur=some i→seen.back?=some i∧c0=n
def gK (R:ak) (w:World):GO→RO→Prop
 |.dead,.none=>True
 |.dead,.bO=>True
 |.dead,.ca b=>b < w.heap.size
 |.dead,.tok _ b _=>b < w.heap.size
 |.dead,.bB ts=>∀ j f b c,nth ts j=some (.tok f b c)→b < w.heap.size
 |.bB fs sz e,.bB ts=>xo R w sz e fs ts
 |.oE rG n left cur _,.ca b=>YB R w rG n left cur b
 |.tok f _ _,.bO=>f=0
 |.row cs el,.ca b=>∃ vs,w.heap[b]?=some (.cells ⟨vs⟩ el (0,0))∧aK R w cs vs∧(∀ v∈vs,v.oneCell'=true)∧∀ o,¬ R.I b o
 |.tok f sz e,.tok f' b c=>f'=f∧∃ cur,w.heap[b]?=some (.cells cur e (0,0))∧f≤c∧c≤maxLen∧cur.size=c * sz∧∀ o,f * sz≤o→¬ R.I b o
 |.dV es _ _,.bO=>es=[]
 |.dV es sz e,.tok f b c=>f=es.length∧dM sz es∧∃ cur vs,w.heap[b]?=some (.cells cur e (0,0))∧f≤c∧c≤maxLen∧cur.size=c * sz∧(∀ o,¬ R.I b o)∧aK R w (aq es) vs∧(∀ v∈vs,v.oneCell'=true)∧cur.toList.take (f * sz)=vs
 |.map es,.ca b=>∃ ax clock,w.heap[b]?=some (.map ax clock)∧dA R w es ax.toList∧jQ ax clock
 |.gB l pos,.ca b=>w.heap[b]?=some (.stringIter ⟨⟨l⟩⟩ pos)
 |.loop busy pending _ ae n params assign body defers done,.ca b=>UF R w (oV R w (fun _=>0)) busy pending ae n params assign body defers done b∧Hv ae=true
 |.defers o,.ca b=>w.heap[b]?=some (.deferred (if o then some [] else none))
 |_,_=>False
def jR (E:Env) (R:ak) (w:World) (g:Nat) (cs:List AV):Prop:=
 dR R w g 0 cs∧(E.gx g=true→R.I g cs.length∧w.cell? ⟨g,cs.length,none⟩=none)
theorem jR.mono {E:Env} {R R':ak} {w w':World} {g:Nat} {cs:List AV} (h:jR E R w g cs) (e:Ext R w R' w'):jR E R' w' g cs:=
 ⟨h.1.mono e,fun hx=>⟨e.I _ _ (h.2 hx).1,(e.cell _ _ (h.2 hx).1).trans (h.2 hx).2⟩⟩
structure dB (E:Env) (R:ak) (w:World) (G:List GO):Prop where
 len:R.obj.length=G.length
 obj:∀ id go ro,nth G id=some go→nth R.obj id=some ro→gK R w go ro
 inj:∀ i j ri rj b,nth R.obj i=some ri→nth R.obj j=some rj→ri.has b→rj.has b→i=j
 wf:∀ b o,R.I b o→b < w.heap.size
 ck:∀ g cs,E.ck g=some cs→jR E R w g cs
 lo:E.lo≤w.drawn
def Live (R:ak) (b:Nat):Prop:=∃ id ro,nth R.obj id=some ro∧ro.has b
structure Pg (R:ak) (w:World) (β:Nat→Nat) (boxes:cO):Prop where
 box:∀ k cs,dy boxes k=some cs→(∃ vs el,w.heap[β k]?=some (.cells ⟨vs⟩ el (0,0))∧aK R w cs vs∧(∀ v∈vs,v.oneCell'=true))∧(∀ o,¬ R.I (β k) o)∧¬ Live R (β k)
 inj:∀ k k' cs cs',dy boxes k=some cs→dy boxes k'=some cs'→β k=β k'→k=k'
def qR (R:ak):List Nat→List Deferred→Prop
 |[],[]=>True
 |id :: l,d :: ds=>(∃ b,nth R.obj id=some (.ca b)∧d={ target:=.collected b,args:=#[] })∧qR R l ds
 |_,_=>False
structure bl (E:Env) (R:ak) (w:World) (β:Nat→Nat) (s:St) (a:Act):Prop where
 g:dB E R w s.G
 b:Pg R w β s.boxes
 t:oV R w β s.ae a.tmps
 n:a.tmps.size=s.n
 d:qR R s.marks a.defers
def Own (R:ak) (β:Nat→Nat) (boxes:cO) (b:Nat):Prop:=
 Live R b∨∃ k cs,dy boxes k=some cs∧β k=b
structure Step (R:ak) (w:World) (β:Nat→Nat) (bx:cO) (R':ak) (w':World) (β':Nat→Nat) (KF:cO):Prop where
 ext:Ext R w R' w'
 os:w'.os=w.os
 tape:w'.tape=w.tape
 output:w'.output=w.output
 size:w.heap.size≤w'.heap.size
 aW:∀ b,b < w.heap.size→¬ Own R β bx b→w'.heap[b]?=w.heap[b]?
 own:∀ b,b < w.heap.size→Own R' β' KF b→Own R β bx b
 im:∀ b o,R'.I b o→b < w.heap.size→¬ Own R β bx b→R.I b o
theorem Step.refl (R:ak) (w:World) (β:Nat→Nat) (bx:cO):Step R w β bx R w β bx:=
 ⟨Ext.refl R w,rfl,rfl,rfl,Nat.le_refl _,fun _ _ _=>rfl,fun _ _ h=>h,fun _ _ h _ _=>h⟩
theorem Step.trans {R R1 R2:ak} {w w1 w2:World} {β β1 β2:Nat→Nat} {x x1 x2:cO}
  (h:Step R w β x R1 w1 β1 x1) (k:Step R1 w1 β1 x1 R2 w2 β2 x2):Step R w β x R2 w2 β2 x2 where
 ext:=h.ext.trans k.ext
 os:=k.os.trans h.os
 tape:=k.tape.trans h.tape
 output:=k.output.trans h.output
 size:=Nat.le_trans h.size k.size
 aW:=fun b hb hn=>(k.aW b (aaR hb h.size) (fun ho=>hn (h.own b hb ho))).trans (h.aW b hb hn)
 own:=fun b hb ho=>h.own b hb (k.own b (aaR hb h.size) ho)
 im:=fun b o hi hb hn=>h.im b o (k.im b o hi (aaR hb h.size) (fun ho=>hn (h.own b hb ho))) hb hn
theorem qQ.mono {R R':ak} {w w':World} {β:Nat→Nat} (e:Ext R w R' w') {x:SV} {c:Value} (h:qQ R w β x c):qQ R' w' β x c:=by
 cases x with
 |none=>trivial
 |v a=>exact Rel.mono e h
 |lp k off=>exact h
theorem sH (n:Nat):aaa n n=true:=Nat.beq_refl n
theorem nK {n m:Nat} (h:n≠m):aaa n m=false:=by
 cases hb:aaa n m with
 |true=>exact absurd (Nat.eq_of_beq_eq_true hb) h
 |false=>rfl
theorem ay (l:bh) (d:Nat) (x:SV):lk (.put d x :: l) d=x:=by simp [lk]
theorem aQ {l:bh} {d t:Nat} {x:SV} (h:d≠t):lk (.put d x :: l) t=lk l t:=by simp [lk,nK h]
theorem Hw {l:bh} {d t:Nat}:(lk (.kill d :: l) t=lk l t∧∀ k off,lk l t=.lp k off→k≠d)∨lk (.kill d :: l) t=.none:=by
 simp only [lk];cases h:lk l t with
 |none=>exact .inr rfl
 |v a=>exact .inl ⟨rfl,fun _ _ e=>by cases e⟩
 |lp k off=>
  by_cases hk:k=d
  ·subst hk;exact .inr (by simp)
  ·exact .inl ⟨by simp [nK hk],fun k' fQ e=>by cases e; exact hk⟩
theorem KG (l:cO) (d:Nat) (cs:List AV):dy ((d,cs) :: l) d=some cs:=by simp [dy]
theorem eN {l:cO} {d k:Nat} {cs cs':List AV} (h:dy ((d,cs) :: l) k=some cs'):(d=k∧cs'=cs)∨(d≠k∧dy l k=some cs'):=by
 by_cases e:d=k
 ·subst e;rw [KG] at h;exact .inl ⟨rfl,(abu h).symm⟩
 ·simp only [dy,nK e,cond_false] at h;exact .inr ⟨e,h⟩
theorem Ph {l:cO} (h:l.all (fun p=>aB p.2)=true) {k:Nat} {cs:List AV} (hk:dy l k=some cs):aB cs=true:=by
 induction l with
 |nil=>simp [dy] at hk
 |cons x l ih=>
  obtain ⟨d,c⟩:=x;simp only [List.all_cons,Bool.and_eq_true] at h;rcases eN hk with ⟨_,rfl⟩|⟨_,hk⟩
  ·exact h.1
  ·exact ih h.2 hk
theorem oV.put {R:ak} {w:World} {β:Nat→Nat} {ae:bh} {a:Act} (h:oV R w β ae a.tmps) {d:Tmp} {x:SV} {c:Value} (hd:d < a.tmps.size) (hx:qQ R w β x c) :
  oV R w β (.put d x :: ae) (a.put (some d) c).tmps:=by
 intro i hi;by_cases e:d=i
 ·subst e;rw [ay];exact ⟨c,by simp [Act.put,hd],hx⟩
 ·rw [aQ e] at hi ⊢;obtain ⟨c',h1,h2⟩:=h i hi;refine ⟨c',?_,h2⟩;simp only [Act.put];rw [Array.getElem?_setIfInBounds_ne e];exact h1
theorem bl.put {E:Env} {R:ak} {w:World} {β:Nat→Nat} {s:St} {a:Act} (h:bl E R w β s a) (dst:Option Tmp) {x:SV} {c:Value} (hx:qQ R w β x c) :
  bl E R w β (s.put dst x) (a.put dst c):=by
 cases dst with
 |none=>exact h
 |some d=>
  simp only [St.put];cases hb:aa5 d s.n with
  |true=>
   have hd:d < a.tmps.size:=by rw [h.n]; exact Nat.le_of_ble_eq_true hb
   exact ⟨h.g,h.b,h.t.put hd hx,by simp [Act.put,h.n],h.d⟩
  |false=>
   have hd:¬ d < a.tmps.size:=by
    rw [h.n];intro bZ;have:aa5 d s.n=true:=Nat.ble_eq_true_of_le bZ;rw [this] at hb;cases hb
   have he:a.put (some d) c=a:=by
    simp only [Act.put];rw [Array.setIfInBounds_eq_of_size_le (Nat.not_lt.1 hd)]
   rw [he];exact h
theorem sI {R:ak} {w:World} {v:Value} {a:AV} (h:sB v=some a):Rel R w a v∧v.oneCell'=true:=by
 unfold sB at h;split at h <;> cases h
 ·exact ⟨.bool _,rfl⟩
 ·exact ⟨.int _ _,rfl⟩
 ·rename_i s;exact ⟨.str s.data.toList,rfl⟩
 ·exact ⟨.kz,rfl⟩
 ·exact ⟨.fm,rfl⟩
 ·exact ⟨.kv,rfl⟩
 ·exact ⟨.cG,rfl⟩
 ·exact ⟨.oI,rfl⟩
theorem nL {R:ak} {w:World}:∀ {vs:List Value} {l:List AV},mB vs=some l→aK R w l vs∧∀ v∈vs,v.oneCell'=true
 |[],l,h=>by simp [mB] at h; subst h; exact ⟨.nil,by simp⟩
 |v :: vs,l,h=>by
  unfold mB at h;split at h
  ·rename_i a r h1 h2;cases h;obtain ⟨k1,k2⟩:=sI (R:=R) (w:=w) h1;obtain ⟨k3,k4⟩:=nL (R:=R) (w:=w) h2;exact ⟨.cons k1 k3,by simp [k2]; exact k4⟩
  ·cases h
theorem vf {R:ak} {w:World} {v:Value} {a:AV} (h:sC v=some a):Rel R w a v:=by
 unfold sC at h;split at h
 ·rename_i cs;split at h
  ·rename_i l hl;cases h;obtain ⟨k1,k2⟩:=nL (R:=R) (w:=w) hl;exact .agg (vs:=cs.toList) k1 k2
  ·cases h
 ·rename_i cs;split at h
  ·rename_i l hl;cases h;obtain ⟨k1,_⟩:=nL (R:=R) (w:=w) hl;exact .bk (vs:=cs.toList) k1
  ·cases h
 ·exact (sI h).1
theorem aT {E:Env} {R:ak} {w:World} {β:Nat→Nat} {s:St} {a:Act} (h:bl E R w β s a) (x:Operand):qQ R w β (bJ E s.ae x) (a.eval x):=by
 cases x with
 |tmp t=>
  simp only [bJ,Act.eval];by_cases hn:lk s.ae t=.none
  ·rw [hn]; trivial
  ·obtain ⟨c,h1,h2⟩:=h.t t hn;have:a.tmps.getD t undef=c:=by simp [Array.getD_eq_getD_getElem?,h1]
   rw [this];exact h2
 |const v=>
  simp only [bJ,Act.eval];cases hc:sC v with
  |none=>trivial
  |some y=>exact vf hc
 |global g=>
  simp only [bJ,Act.eval];cases hg:E.ck g with
  |none=>trivial
  |some cs=>exact Rel.ep (h.g.ck g cs hg).1
 |func f=>exact Rel.fn .nil .nil
end Go.Am
namespace Go.Am
open Go
section lists
variable {α:Type}
theorem xp (n:Nat) (l:List α):fH n l=l.drop n:=by
 induction n generalizing l with
 |zero=>simp [fH]
 |succ n ih=>cases l <;> simp [fH,ih]
theorem KH {n:Nat} {l r:List α} (h:takeN n l=some r):r=l.take n∧r.length=n:=by
 induction n generalizing l r with
 |zero=>simp [takeN] at h; subst h; simp
 |succ n ih=>
  cases l with
  |nil=>simp [takeN] at h
  |cons a l=>
   unfold takeN at h;split at h
   ·rename_i r' hr;cases h;obtain ⟨h1,h2⟩:=ih hr;exact ⟨by simp [h1],by simp [h2]⟩
   ·cases h
theorem UG {off n:Nat} {l r:List α} (h:Ht off n l=some r):r=(l.drop off).take n∧r.length=n:=by
 unfold Ht at h;rw [xp] at h;exact KH h
theorem eO (l:List α) (off:Nat) (ys:List α) (h:off+ys.length≤l.length):bf l off ys=l.take off++ys++l.drop (off+ys.length):=by
 induction l generalizing off ys with
 |nil=>
  have hy:ys=[]:=List.eq_nil_of_length_eq_zero (by rw [List.length_nil] at h; omega);subst hy;simp [bf]
 |cons a l ih=>
  cases ys with
  |nil=>simp [bf]
  |cons y ys=>
   cases off with
   |zero=>
    simp only [bf];rw [ih 0 ys (by simp at h ⊢; omega)];simp
   |succ n=>
    simp only [bf];rw [ih n (y :: ys) (by simp at h ⊢; omega)];rw [show n+1+(y :: ys).length=(n+(y :: ys).length)+1 by omega];simp
theorem Al (l:List α) (off:Nat) (ys:List α) (h:off+ys.length≤l.length):(bf l off ys).length=l.length:=by
 rw [eO l off ys h];simp;omega
end lists
section rel
variable {R:ak} {w:World}
theorem aK.length {l:List AV} {vs:List Value} (h:aK R w l vs):l.length=vs.length:=by
 induction l generalizing vs with
 |nil=>cases h; rfl
 |cons a l ih=>cases h with | cons h t=>simp [ih t]
theorem aK.get {l:List AV} {vs:List Value} (h:aK R w l vs) {i:Nat} {a:AV} (ha:l[i]?=some a):∃ c,vs[i]?=some c∧Rel R w a c:=by
 induction l generalizing vs i with
 |nil=>simp at ha
 |cons x l ih=>
  cases h with
  |cons h t=>
   cases i with
   |zero=>simp at ha; subst ha; exact ⟨_,by simp,h⟩
   |succ i=>simp at ha; obtain ⟨c,h1,h2⟩:=ih t ha; exact ⟨c,by simpa using h1,h2⟩
theorem aK.drop {l:List AV} {vs:List Value} (h:aK R w l vs) (n:Nat):aK R w (l.drop n) (vs.drop n):=by
 induction n generalizing l vs with
 |zero=>simpa using h
 |succ n ih=>cases h with
  |nil=>simpa using aK.nil
  |cons h t=>simpa using ih t
theorem aK.take {l:List AV} {vs:List Value} (h:aK R w l vs) (n:Nat):aK R w (l.take n) (vs.take n):=by
 induction n generalizing l vs with
 |zero=>simpa using aK.nil
 |succ n ih=>cases h with
  |nil=>simpa using aK.nil
  |cons h t=>simpa using aK.cons h (ih t)
theorem aK.append {l r:List AV} {vs us:List Value} (h:aK R w l vs) (k:aK R w r us):aK R w (l++r) (vs++us):=by
 induction l generalizing vs with
 |nil=>cases h; simpa using k
 |cons a l ih=>cases h with | cons h t=>exact .cons h (ih t)
theorem aK.one {a:AV} {c:Value} (h:Rel R w a c):aK R w [a] [c]:=.cons h .nil
theorem Rel.cells {a:AV} {c:Value} (h:Rel R w a c) (ht:a.aY=true):aK R w a.cells c.cells.toList∧∀ v∈c.cells.toList,v.oneCell'=true:=by
 cases h with
 |agg h h1=>exact ⟨h,h1⟩
 |bk h=>simp [AV.aY] at ht
 |bool=>exact ⟨.one (.bool _),by simp [aac,aab]⟩
 |int=>exact ⟨.one (.int _ _),by simp [aac,aab]⟩
 |str=>exact ⟨.one (.str _),by simp [aac,aab]⟩
 |fm=>exact ⟨.one .fm,by simp [aac,aab]⟩
 |ptr h=>exact ⟨.one (.ptr h),by simp [aac,aab]⟩
 |ep h=>exact ⟨.one (.ep h),by simp [aac,aab]⟩
 |kz=>exact ⟨.one .kz,by simp [aac,aab]⟩
 |ja=>exact ⟨.one .ja,by simp [aac,aab]⟩
 |nI=>exact ⟨.one .nI,by simp [aac,aab]⟩
 |mH h ho=>exact ⟨.one (.mH h ho),by simp [aac,aab]⟩
 |nJ h ho=>exact ⟨.one (.nJ h ho),by simp [aac,aab]⟩
 |list h hl hc hk=>exact ⟨.one (.list h hl hc hk),by simp [aac,aab]⟩
 |jZ h hc=>exact ⟨.one (.jZ h hc),by simp [aac,aab]⟩
 |iV h ho=>exact ⟨.one (.iV h ho),by simp [aac,aab]⟩
 |eu h ho hc=>exact ⟨.one (.eu h ho hc),by simp [aac,aab]⟩
 |gp h ho=>exact ⟨.one (.gp h ho),by simp [aac,aab]⟩
 |kv=>exact ⟨.one .kv,by simp [aac,aab]⟩
 |map h=>exact ⟨.one (.map h),by simp [aac,aab]⟩
 |cG=>exact ⟨.one .cG,by simp [aac,aab]⟩
 |fn h h'=>exact ⟨.one (.fn h h'),by simp [aac,aab]⟩
 |yield h=>exact ⟨.one (.yield h),by simp [aac,aab]⟩
 |oI=>exact ⟨.one .oI,by simp [aac,aab]⟩
 |iface h=>exact ⟨.one (.iface h),by simp [aac,aab]⟩
mutual
theorem Rel.gY:∀ {a:AV} {c:Value},Rel R w a c→Rel R w a.gY c
 |_,_,.bool b=>.bool b
 |_,_,.int k n=>.int k n
 |_,_,.str l=>.str l
 |_,_,.agg h h1=>.agg h.gY h1
 |_,_,.bk h=>.bk h.gY
 |_,_,.fm=>.fm
 |_,_,.ptr h=>.ptr h
 |_,_,.ep h=>.ep h
 |_,_,.kz=>.kz
 |_,_,.ja=>.ja
 |_,_,.nI=>.nI
 |_,_,.mH _ _=>.ja
 |_,_,.nJ _ _=>.ja
 |_,_,@Rel.list _ _ .nil _ _ _ _ _ _ h hl hc hk=>.list h hl hc hk
 |_,_,@Rel.list _ _ .full _ _ _ _ _ _ h hl hc hk=>.list h hl hc hk
 |_,_,@Rel.list _ _ .lq _ _ _ _ _ _ h hl hc hk=>.list h hl hc hk
 |_,_,@Rel.list _ _ (.own _) _ _ _ _ _ _ h hl hc _=>.list h hl hc trivial
 |_,_,@Rel.list _ _ (.bB _ _) _ _ _ _ _ _ h hl hc _=>.list h hl hc trivial
 |_,_,.jZ h hc=>.jZ h hc
 |_,_,.iV h ho=>.iV h ho
 |_,_,.eu h ho hc=>.eu h ho hc
 |_,_,.gp h ho=>.gp h ho
 |_,_,.kv=>.kv
 |_,_,.map h=>.map h
 |_,_,.cG=>.cG
 |_,_,.fn h h'=>.fn h h'
 |_,_,.yield h=>.yield h
 |_,_,.oI=>.oI
 |_,_,.iface h=>.iface h
theorem aK.gY:∀ {l:List AV} {cs:List Value},aK R w l cs→aK R w (lB l) cs
 |_,_,.nil=>.nil
 |_,_,.cons h t=>.cons h.gY t.gY
end
theorem dR.get {b o:Nat} {l:List AV} (h:dR R w b o l):∃ vs,aK R w l vs∧(∀ v∈vs,v.oneCell'=true)∧(∀ j v,vs[j]?=some v→w.cell? ⟨b,o+j,none⟩=some v)∧∀ j,j < l.length→R.I b (o+j):=by
 induction l generalizing o with
 |nil=>exact ⟨[],.nil,by simp,by simp,by simp⟩
 |cons a l ih=>
  cases h with
  | @cons _ _ _ c _ hc h1 hi h t=>
   obtain ⟨vs,k1,k2,k3,k4⟩:=ih t;refine ⟨c :: vs,.cons h k1,?_,?_,?_⟩
   ·intro v hv;rcases List.mem_cons.1 hv with rfl|hv
    ·exact h1
    ·exact k2 v hv
   ·intro j v hv;cases j with
    |zero=>simp at hv; subst hv; exact hc
    |succ j=>simp at hv; have:=k3 j v hv; rwa [show o+1+j=o+(j+1) by omega] at this
   ·intro j hj;cases j with
    |zero=>exact hi
    |succ j=>have:=k4 j (by simp at hj; omega); rwa [show o+1+j=o+(j+1) by omega] at this
theorem dR.make {b o:Nat} {l:List AV} {vs:List Value} (h:aK R w l vs) (h1:∀ v∈vs,v.oneCell'=true) (hc:∀ j v,vs[j]?=some v→w.cell? ⟨b,o+j,none⟩=some v) (hi:∀ j,j < l.length→R.I b (o+j)):dR R w b o l:=by
 induction l generalizing vs o with
 |nil=>exact .nil
 |cons a l ih=>
  cases h with
  |cons h t=>
   refine .cons (hc 0 _ (by simp)) (h1 _ (by simp)) (hi 0 (by simp)) h (ih t (fun v hv=>h1 v (by simp [hv])) (fun j v hv=>?_) (fun j hj=>?_))
   ·have:=hc (j+1) v (by simpa using hv); rwa [show o+(j+1)=o+1+j by omega] at this
   ·have:=hi (j+1) (by simpa using hj); rwa [show o+(j+1)=o+1+j by omega] at this
theorem dR.drop {b o:Nat} {l:List AV} (h:dR R w b o l) (n:Nat):dR R w b (o+n) (l.drop n):=by
 induction n generalizing o l with
 |zero=>simpa using h
 |succ n ih=>cases h with
  |nil=>simpa using dR.nil
  |cons hc h1 hi h t=>have:=ih t; rw [show o+1+n=o+(n+1) by omega] at this; simpa using this
end rel
theorem cH (b o n:Nat):(⟨b,o,none⟩:Addr).add n=⟨b,o+n,none⟩:=by unfold Addr.add; split <;> simp_all
section aW
variable {E:Env} {R R':ak} {w w':World} {β β':Nat→Nat} {s:St} {a:Act}
theorem oV.mono (e:Ext R w R' w') {sl:bh} {tm:Array Value} (h:oV R w β sl tm):oV R' w' β sl tm:=
 fun i hi=>let ⟨c,h1,h2⟩:=h i hi; ⟨c,h1,h2.mono e⟩
theorem dA.mono (e:Ext R w R' w'):∀ {l:List (AV × AV)} {es:List MapEntry},dA R w l es→dA R' w' l es
 |[],[],_=>trivial
 |(_,_) :: _,_ :: _,h=>⟨h.1.mono e,h.2.1.mono e,dA.mono e h.2.2⟩
 |[],_ :: _,h=>h.elim
 |_ :: _,[],h=>h.elim
theorem oW {w w':World} {b:Nat} (h:b < w.heap.size) (e:w'.heap[b]?=w.heap[b]?):b < w'.heap.size:=by
 rw [Array.getElem?_eq_getElem h] at e;exact (aaX.1 e).1
theorem gK.mono (e:Ext R w R' w') {go:GO} {ro:RO} (h:gK R w go ro) (hb:∀ b,ro.has b→w'.heap[b]?=w.heap[b]?) (hi:∀ b o,ro.has b→R'.I b o→R.I b o):gK R' w' go ro:=by
 cases ro with
 |none=>cases go <;> first | exact h | exact h.elim
 |bO=>cases go <;> first | exact h | exact h.elim
 |ca b=>
  have gL:=hb b rfl;cases go with
  |dead=>exact oW h gL
  |row cs el=>obtain ⟨vs,h1,h2,h3,h4⟩:=h; exact ⟨vs,gL.trans h1,h2.mono e,h3,fun o ho=>h4 o (hi b o rfl ho)⟩
  |tok f sz el=>exact h.elim
  |bB _ _ _=>exact h.elim
  |oE rG n left _=>obtain ⟨bm,seen,c0,h1,h2,h3⟩:=h; exact ⟨bm,seen,c0,e.ca h1,gL.trans h2,h3⟩
  |dV es sz el=>exact h.elim
  |map es=>obtain ⟨ax,clock,h1,h2,h3⟩:=h; exact ⟨ax,clock,gL.trans h1,dA.mono e h2,h3⟩
  |gB l pos=>exact gL.trans h
  |loop busy pending fn ae n params assign body defers done=>
   obtain ⟨⟨r,db,h1,h2,h3,h4,h5,h6,h7,h8,h9,h11⟩,h10⟩:=h;exact ⟨⟨r,db,gL.trans h1,h2,h3,h4.mono e,h5,h6,h7,h8,h9,e.ca h11⟩,h10⟩
  |defers o=>exact gL.trans h
 |tok f b c=>
  have gL:=hb b rfl;cases go with
  |tok f' sz el=>
   obtain ⟨h0,cur,h1,h2,h3,h4,h5⟩:=h;exact ⟨h0,cur,gL.trans h1,h2,h3,h4,fun o ho uf=>h5 o ho (hi b o rfl uf)⟩
  |dV es sz el=>
   obtain ⟨h0,qj,cur,vs,h1,h2,h3,h4,h5,h6,h7,h8⟩:=h;exact ⟨h0,qj,cur,vs,gL.trans h1,h2,h3,h4,fun o ho=>h5 o (hi b o rfl ho),h6.mono e,h7,h8⟩
  |dead=>exact oW h gL
  |row cs=>exact h.elim
  |bB _ _ _=>exact h.elim
  |oE _ _ _ _=>exact h.elim
  |map es=>exact h.elim
  |gB l pos=>exact h.elim
  |loop=>exact h.elim
  |defers o=>exact h.elim
 |bB ts=>
  cases go with
  |bB fs sz el=>
   obtain ⟨h1,h2,h3⟩:=h;refine ⟨h1,h2,fun j f t hf ht=>?_⟩;have h4:=h3 j f t hf ht;cases t with
   |bO=>exact h4
   |full f'=>exact h4
   |tok f' b c=>
    obtain ⟨h5,cur,k1,k2,k3,k4,k5⟩:=h4;have hh:RO.has (.bB ts) b:=⟨j,f',c,ht⟩;exact ⟨h5,cur,(hb b hh).trans k1,k2,k3,k4,fun o ho uf=>k5 o ho (hi b o hh uf)⟩
  |dead=>exact fun j f b c ht=>oW (h j f b c ht) (hb b ⟨j,f,c,ht⟩)
  |_=>exact h.elim
theorem Live.of {id b:Nat} {ro:RO} (h:nth R.obj id=some ro) (hb:ro.has b):Live R b:=⟨id,ro,h,hb⟩
theorem dB.aW {G:List GO} (h:dB E R w G) (e:Ext R w R' w') (ho:R'.obj=R.obj) (hb:∀ b,Live R b→w'.heap[b]?=w.heap[b]?) (hi:∀ b o,Live R b→R'.I b o→R.I b o) (wf:∀ b o,R'.I b o→b < w'.heap.size) (hd:E.lo≤w.drawn→E.lo≤w'.drawn:=by first | exact fun h=>h | exact fun h=>Nat.le_succ_of_le h):dB E R' w' G where
 lo:=hd h.lo
 len:=by rw [ho]; exact h.len
 obj:=fun id go ro hg hr=>by
  rw [ho] at hr;exact (h.obj id go ro hg hr).mono e (fun b XX=>hb b (.of hr XX)) (fun b o XX=>hi b o (.of hr XX))
 inj:=fun i j ri rj b h1 h2=>by rw [ho] at h1 h2; exact h.inj i j ri rj b h1 h2
 wf:=wf
 ck:=fun g cs hg=>(h.ck g cs hg).mono e
theorem Pg.aW {bx:cO} (h:Pg R w β bx) (e:Ext R w R' w') (hb:∀ k cs,dy bx k=some cs→w'.heap[β k]?=w.heap[β k]?) (hi:∀ k cs o,dy bx k=some cs→R'.I (β k) o→R.I (β k) o) (hl:∀ k cs,dy bx k=some cs→Live R' (β k)→Live R (β k)):Pg R' w' β bx where
 box:=fun k cs hk=>by
  obtain ⟨⟨vs,el,h1,h2,h3⟩,h4,h5⟩:=h.box k cs hk;exact ⟨⟨vs,el,(hb k cs hk).trans h1,h2.mono e,h3⟩,fun o ho=>h4 o (hi k cs o hk ho),fun C1=>h5 (hl k cs hk C1)⟩
 inj:=h.inj
theorem qR.mono (e:Ext R w R' w'):∀ {l:List Nat} {ds:List Deferred},qR R l ds→qR R' l ds
 |[],[],_=>trivial
 |_ :: _,_ :: _,h=>let ⟨⟨b,h1,h2⟩,h3⟩:=h; ⟨⟨b,e.ca h1,h2⟩,qR.mono e h3⟩
 |[],_ :: _,h=>h.elim
 |_ :: _,[],h=>h.elim
theorem bl.aW (h:bl E R w β s a) (e:Ext R w R' w') (ho:R'.obj=R.obj) (hb:∀ b,Own R β s.boxes b→w'.heap[b]?=w.heap[b]?) (hi:∀ b o,Own R β s.boxes b→R'.I b o→R.I b o) (wf:∀ b o,R'.I b o→b < w'.heap.size) (hd:E.lo≤w.drawn→E.lo≤w'.drawn:=by first | exact fun h=>h | exact fun h=>Nat.le_succ_of_le h):bl E R' w' β s a where
 g:=h.g.aW e ho (fun b hl=>hb b (.inl hl)) (fun b o hl=>hi b o (.inl hl)) wf hd
 b:=h.b.aW e (fun k cs hk=>hb _ (.inr ⟨k,cs,hk,rfl⟩)) (fun k cs o hk=>hi _ o (.inr ⟨k,cs,hk,rfl⟩)) (fun k cs _ hl=>by obtain ⟨id,ro,h1,h2⟩:=hl; rw [ho] at h1; exact ⟨id,ro,h1,h2⟩)
 t:=h.t.mono e
 n:=h.n
 d:=h.d.mono e
theorem bi {w:World} {b:Nat} {o:Obj} (h:w.heap[b]?=some o):b < w.heap.size:=(aaX.1 h).1
theorem gK.lt {go:GO} {ro:RO} (h:gK R w go ro) {b:Nat} (hb:ro.has b):b < w.heap.size:=by
 cases ro with
 |none=>exact hb.elim
 |bO=>exact hb.elim
 |ca x=>
  have hb:b=x:=hb;subst hb;cases go with
  |dead=>exact h
  |row cs el=>obtain ⟨vs,h1,_⟩:=h; exact bi h1
  |tok f sz el=>exact h.elim
  |bB _ _ _=>exact h.elim
  |oE rG n left _=>obtain ⟨bm,seen,c0,_,h2,_⟩:=h; exact bi h2
  |dV es sz el=>exact h.elim
  |map es=>obtain ⟨ax,clock,h1,_⟩:=h; exact bi h1
  |gB l pos=>exact bi h
  |loop=>obtain ⟨⟨r,db,h1,_⟩,_⟩:=h; exact bi h1
  |defers o=>exact bi h
 |tok f x c=>
  have hb:b=x:=hb;subst hb;cases go with
  |tok f' sz el=>obtain ⟨_,cur,h1,_⟩:=h; exact bi h1
  |dV es sz el=>obtain ⟨_,_,cur,vs,h1,_⟩:=h; exact bi h1
  |dead=>exact h
  |row cs=>exact h.elim
  |bB _ _ _=>exact h.elim
  |oE _ _ _ _=>exact h.elim
  |map es=>exact h.elim
  |gB l pos=>exact h.elim
  |loop=>exact h.elim
  |defers o=>exact h.elim
 |bB ts=>
  obtain ⟨j,f,c,ht⟩:=hb;cases go with
  |bB fs sz el=>
   obtain ⟨h1,h2,h3⟩:=h;have bZ:=b7 ht;rw [h1] at bZ;obtain ⟨f',hf⟩:∃ f',nth fs j=some f':=⟨fs[j],by rw [bg]; exact aa3 bZ⟩;obtain ⟨_,cur,k1,_⟩:=h3 j f' _ hf ht;exact bi k1
  |dead=>exact h j f b c ht
  |_=>exact h.elim
theorem dB.b9 {G:List GO} (h:dB E R w G) {b:Nat} (hl:Live R b):b < w.heap.size:=by
 obtain ⟨id,ro,h1,h2⟩:=hl;have bZ:=b7 h1;rw [h.len] at bZ;obtain ⟨go,iE⟩:∃ go,nth G id=some go:=⟨G[id],by rw [bg]; exact aa3 bZ⟩;exact (h.obj id go ro iE h1).lt h2
theorem bl.eh (h:bl E R w β s a) {b:Nat} (ho:Own R β s.boxes b):b < w.heap.size:=by
 rcases ho with hl|⟨k,cs,hk,rfl⟩
 ·exact h.g.b9 hl
 ·obtain ⟨⟨vs,el,h1,_⟩,_⟩:=h.b.box k cs hk;exact bi h1
theorem cb {w w':World} {b:Nat} (h:w'.heap[b]?=w.heap[b]?) (o:Nat):w'.cell? ⟨b,o,none⟩=w.cell? ⟨b,o,none⟩:=by simp [World.cell?,h]
theorem ug (wf:∀ b o,R.I b o→b < w.heap.size) (x:Obj):Ext R w R (w.alloc x):=
 ⟨fun _ _ h=>h,fun b o h=>cb (heap_alloc_old w x b (wf b o h)) o,fun _ ro h=>⟨ro,h,cF.refl ro⟩,.old fun b hb=>heap_alloc_old w x b hb⟩
theorem bl.alloc (h:bl E R w β s a) (x:Obj):bl E R (w.alloc x) β s a:=
 h.aW (ug h.g.wf x) rfl (fun b hb=>heap_alloc_old w x b (h.eh hb)) (fun _ _ _ hi=>hi) (fun b o hi=>by have:=h.g.wf b o hi; simp; omega)
end aW
end Go.Am
