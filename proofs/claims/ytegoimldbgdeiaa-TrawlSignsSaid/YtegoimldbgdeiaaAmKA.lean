/- The abstract machine: its values,its state,and what each operation does (definitions alone). -/
import Derived.CallsIn
import Derived.RangeFuncLeaves
import Derived.Laws.AppendOwn
set_option linter.all false
namespace Go.Am
open Go
inductive LK where
 |nil | full | ea | own (id:Nat) | bc (id j:Nat)
inductive AV where
 |bool (b:Bool)
 |int (k:IntKind) (n:Int)
 |str (s:List UInt8)
 |agg (cs:List AV)
 |bD (vs:List AV)
 |na
 |ptr (id off:Nat)
 |ep (cs:List AV)
 |list (k:LK) (sz:Nat) (es:List AV)
 |jB (id off sz len cap:Nat)
 |cZ (id f off sz len:Nat)
 |gp (id f i off sz:Nat) (t:TypeId)
 |kJ
 |map (id:Nat)
 |ee
 |fn (f:FuncId) (first cap:List AV)
 |yield (id:Nat)
 |rE
 |iface (t:TypeId) (v:AV)
def LK.closed:LK→Bool
 |.own _=>false
 |.bc _ _=>false
 |_=>true
mutual
def AV.closed:AV→Bool
 |.agg cs=>aF cs
 |.bD cs=>aF cs
 |.ep cs=>aF cs
 |.list k _ _=>k.closed
 |.fn _ x y=>aF x&&aF y
 |.iface _ v=>v.closed
 |.ptr _ _=>false
 |.jB _ _ _ _ _=>false
 |.cZ _ _ _ _ _=>false
 |.gp _ _ _ _ _ _=>false
 |.map _=>false
 |.yield _=>false
 |_=>true
def aF:List AV→Bool
 |[]=>true
 |a :: l=>a.closed&&aF l
end
mutual
def AV.iy:AV→AV
 |.agg cs=>.agg (mI cs)
 |.bD cs=>.bD (mI cs)
 |.list (.own _) sz es=>.list .ea sz es
 |.list (.bc _ _) sz es=>.list .ea sz es
 |v=>v
def mI:List AV→List AV
 |[]=>[]
 |a :: l=>a.iy :: mI l
end
inductive SV where
 |none
 |v (a:AV)
 |lp (key off:Nat)
inductive Ent where
 |put (d:Nat) (x:SV)
 |kill (d:Nat)
abbrev ba:=List Ent
abbrev cD:=List (Nat × List AV)
def lk:ba→Nat→SV
 |[],_=>.none
 |.put d x :: l,t=>bif Nat.beq d t then x else lk l t
 |.kill d :: l,t=>match lk l t with
  |.lp k off=>bif Nat.beq k d then .none else .lp k off
  |x=>x
def di:cD→Nat→Option (List AV)
 |[],_=>none
 |(d,cs) :: l,k=>bif Nat.beq d k then some cs else di l k
inductive GO where
 |dead
 |row (cs:List AV) (el:TypeId)
 |tok (f sz:Nat) (e:TypeId)
 |bc (fs:List Nat) (sz:Nat) (e:TypeId)
 |jh (rF n:Nat) (left:List Nat) (cur:Option Nat) (t:TypeId)
 |bo (es:List AV) (sz:Nat) (el:TypeId)
 |map (es:List (AV × AV))
 |ic (s:List UInt8) (pos:Nat)
 |loop (busy:Bool) (pending:Option Code) (fn:FuncId) (ae:ba) (n:Nat) (params:List Tmp) (assign body:Code) (defers:Nat) (done:Bool)
 |defers (open_:Bool)
structure St where
 ae:ba
 boxes:cD
 G:List GO
 marks:List Nat
 ro:Option Nat
 n:Nat
def nth {α:Type}:List α→Nat→Option α
 |[],_=>none
 |a :: _,0=>some a
 |_ :: l,n+1=>nth l n
def aq {α:Type}:List α→Nat→α→List α
 |[],_,_=>[]
 |_ :: l,0,x=>x :: l
 |a :: l,n+1,x=>a :: aq l n x
def takeN {α:Type}:Nat→List α→Option (List α)
 |0,_=>some []
 |_+1,[]=>none
 |n+1,a :: l=>match takeN n l with
  |some r=>some (a :: r)
  |none=>none
def gn {α:Type}:Nat→List α→List α
 |0,l=>l
 |_+1,[]=>[]
 |n+1,_ :: l=>gn n l
def Hq {α:Type} (off n:Nat) (l:List α):Option (List α):=takeN n (gn off l)
def b9 {α:Type}:List α→Nat→List α→List α
 |l,_,[]=>l
 |[],_,_ :: _=>[]
 |_ :: l,0,y :: ys=>y :: b9 l 0 ys
 |a :: l,n+1,y :: ys=>a :: b9 l n (y :: ys)
def AV.cells:AV→List AV
 |.agg cs=>cs
 |v=>[v]
def AV.one:AV→Bool
 |.agg _=>false
 |.bD _=>false
 |_=>true
def sQ:Value→Option AV
 |.bool b=>some (.bool b)
 |.int k n=>some (.int k n)
 |.string s=>some (.str s.data.toList)
 |.slice none 0 0=>some (.list .nil 0 [])
 |.pointer none=>some .na
 |.map none=>some .kJ
 |.nilFunc=>some .ee
 |.nilIface=>some .rE
 |_=>none
def nG:List Value→Option (List AV)
 |[]=>some []
 |v :: vs=>match sQ v,nG vs with
  |some a,some l=>some (a :: l)
  |_,_=>none
def sR:Value→Option AV
 |.agg cs=>match nG cs.toList with
  |some l=>some (.agg l)
  |none=>none
 |.tuple cs=>match nG cs.toList with
  |some l=>some (.bD l)
  |none=>none
 |v=>sQ v
inductive TK where
 |sc
 |int (k:IntKind)
 |str
 |st (fs:List (Nat × Nat × Bool))
 |arr (len esz:Nat) (aaf:Bool)
 |sl (elem esz:Nat) (aaf:Bool) (bh:Nat) (WJ:Option AV)
 |map (key elem:TypeId) (WJ:Option AV)
mutual
inductive EK where
 |no
 |bool
 |int
 |str
 |st (fs:Qu)
inductive Qu where
 |nil
 |cons (off sz:Nat) (ag:Bool) (k:EK) (rest:Qu)
end
structure TI where
 k:TK
 size:Nat
 agg:Bool
 zero:Option AV
 ek:EK
def kp:TypeDesc→Bool
 |.struct _=>true
 |.array _ _=>true
 |_=>false
def fieldsOf (P:Program):List Field→Option (List (Nat × Nat × Bool))
 |[]=>some []
 |f :: fs=>match P.info? f.type,P.underlying f.type,fieldsOf P fs with
  |some i,some u,some l=>some ((f.offset,i.size,kp u) :: l)
  |_,_,_=>none
def gV (i:TypeInfo):Option AV:=match i.zero with
 |some z=>sR z
 |none=>none
def rG (P:Program):TypeDesc→Option TK
 |.int k=>some (.int k)
 |.string=>some .str
 |.struct fs=>match fieldsOf P fs.toList with
  |some l=>some (.st l)
  |none=>none
 |.array n e=>match P.info? e,P.underlying e with
  |some i,some u=>some (.arr n i.size (kp u))
  |_,_=>none
 |.slice e=>match P.info? e,P.underlying e with
  |some i,some u=>some (.sl e i.size (kp u) i.bytes (gV i))
  |_,_=>none
 |.map k e=>match P.info? e with
  |some i=>some (.map k e (gV i))
  |none=>none
 |_=>some .sc
def Fj (P:Program) (ek:TypeId→EK):List Field→Option Qu
 |[]=>some .nil
 | f :: fs => if f.name == "_" then none else match P.info? f.type, P.underlying f.type, Fj P ek fs with
  |some i,some u,some l=>some (.cons f.offset i.size (kp u) (ek f.type) l)
  |_,_,_=>none
def xI (sz:Nat) (ag:Bool) (k:EK):Nat→Nat→Qu
 |0,_=>.nil
 |n+1,i=>.cons (i * sz) sz ag k (xI sz ag k n (i+1))
def rH (P:Program):Nat→TypeId→EK
 |0,_=>.no
 |n+1,t=>match P.underlying t with
  |some .bool=>.bool
  |some (.int _)=>.int
  |some .string=>.str
  |some (.struct fs)=>if P.stoodInHeld t then .no else match Fj P (rH P n) fs.toList with
   |some l=>.st l
   |none=>.no
  |some (.array m e)=>match P.info? e,P.underlying e with
   |some i,some u=>.st (xI i.size (kp u) (rH P n e) m 0)
   |_,_=>.no
  |_=>.no
def vC (P:Program) (t:TypeId):EK:=match rH P 6 t with
 |.st l=>if P.eqGuardType P.depth t then .no else .st l
 |k=>k
def IK (P:Program) (t:TypeId):Option TI:=
 match P.info? t,P.underlying t with
 |some i,some u=>match rG P u with
  |some k=>some { k:=k,size:=i.size,agg:=kp u,zero:=gV i,ek:=vC P t }
  |none=>none
 |_,_=>none
def sS:AV→AV→Bool
 |.bool a,.bool b=>a == b
 |.int k a,.int k' b=>(k == k')&&a == b
 |.str a,.str b=>a == b
 |.na,.na=>true
 |.ptr i o,.ptr i' o'=>Nat.beq i i'&&Nat.beq o o'
 |.kJ,.kJ=>true
 |.map i,.map i'=>Nat.beq i i'
 |.ee,.ee=>true
 |.rE,.rE=>true
 |.jB a b c d e,.jB a' b' c' d' e'=>Nat.beq a a'&&Nat.beq b b'&&Nat.beq c c'&&Nat.beq d d'&&Nat.beq e e'
 |.cZ a b c d e,.cZ a' b' c' d' e'=>Nat.beq a a'&&Nat.beq c c'&&Nat.beq d d'&&(Nat.beq b b'&&Nat.beq e e')
 |.gp a b c d e t,.gp a' b' c' d' e' t'=>Nat.beq a a'&&Nat.beq b b'&&Nat.beq c c'&&Nat.beq d d'&&Nat.beq e e'&&Nat.beq t t'
 |_,_=>false
mutual
def dv:AV→AV→Bool
 |.fn f x y,.fn f' x' y'=>Nat.beq f f'&&bk x x'&&bk y y'
 |.agg cs,.agg eP=>bk cs eP
 |.ep cs,.ep eP=>bk cs eP
 |.bD cs,.bD eP=>bk cs eP
 |.list .nil a es,.list .nil a' es'=>Nat.beq a a'&&bk es es'
 |.list .full a es,.list .full a' es'=>Nat.beq a a'&&bk es es'
 |.list .ea a es,.list .ea a' es'=>Nat.beq a a'&&bk es es'
 |.list (.own i) a es,.list (.own i') a' es'=>Nat.beq i i'&&Nat.beq a a'&&bk es es'
 |.list (.bc i j) a es,.list (.bc i' j') a' es'=>Nat.beq i i'&&Nat.beq j j'&&Nat.beq a a'&&bk es es'
 |a,b=>sS a b
def bk:List AV→List AV→Bool
 |[],[]=>true
 |a :: l,b :: r=>dv a b&&bk l r
 |_,_=>false
end
mutual
inductive aM
 |int (k:IntKind)
 |bool
 |str
 |agg (ps:aK)
 |bD (ps:aK)
 |list (sz:Nat) (p:aM)
 |own (id sz:Nat) (p:aM)
 |bc (id sz:Nat) (p:aM)
 |j6 (v:AV)
 |two (u v:AV)
inductive aK
 |nil
 |cons (p:aM) (ps:aK)
end
abbrev aK.ci (r:aK):aK:=.cons (.int .i64) r
def WK (s:Bool) (α β:Type):Type:=match s with
 |true=>α
 |false=>α × β
def aK.isNil:aK→Bool
 |.nil=>true
 |.cons _ _=>false
mutual
def aM.T:aM→Type
 |.int _=>Int
 |.bool=>Bool
 |.str=>List UInt8
 |.agg ps=>ps.T
 |.bD ps=>ps.T
 |.list _ p=>List p.T
 |.own _ _ p=>List p.T
 |.bc _ _ p=>Nat × List p.T
 |.j6 _=>Unit
 |.two _ _=>Bool
def aK.T:aK→Type
 |.nil=>Unit
 |.cons p ps=>WK ps.isNil p.T ps.T
end
mutual
def aM.enc:(p:aM)→p.T→AV
 |.int k,(n:Int)=>.int k n
 |.bool,(b:Bool)=>.bool b
 |.str,(s:List UInt8)=>.str s
 |.agg ps,x=>.agg (ps.enc x)
 |.bD ps,x=>.bD (ps.enc x)
 |.list sz p,(xs:List p.T)=>.list .ea sz (xs.map p.enc)
 |.own id sz p,(xs:List p.T)=>.list (.own id) sz (xs.map p.enc)
 |.bc id sz p,(x:Nat × List p.T)=>.list (.bc id x.1) sz (x.2.map p.enc)
 |.j6 v,_=>v
 |.two u v,(b:Bool)=>bif b then v else u
def aK.enc:(ps:aK)→ps.T→List AV
 |.nil,_=>[]
 |.cons p .nil,x=>[p.enc x]
 |.cons p (.cons q ps),x=>p.enc x.1 :: (aK.cons q ps).enc x.2
end
def RB:IntKind→IntKind→Bool:=fun a b=>decide (a=b)
def AV.kp:AV→List AV
 |.agg cs=>cs
 |_=>[]
def AV.RC:AV→List AV
 |.bD cs=>cs
 |_=>[]
def AV.eE:AV→List AV
 |.list _ _ es=>es
 |_=>[]
def AV.aag:AV→Nat
 |.list (.bc _ j) _ _=>j
 |_=>0
def AV.ox:AV→Int
 |.int _ n=>n
 |_=>0
def AV.WL:AV→Bool
 |.bool b=>b
 |_=>false
def AV.RD:AV→List UInt8
 |.str s=>s
 |_=>[]
def eQ:List AV→AV
 |a :: _=>a
 |[]=>.na
def KJ:List AV→List AV
 |_ :: l=>l
 |[]=>[]
mutual
def aM.bp:(p:aM)→AV→p.T
 |.int _,v=>v.ox
 |.bool,v=>v.WL
 |.str,v=>v.RD
 |.agg ps,v=>ps.bp v.kp
 |.bD ps,v=>ps.bp v.RC
 |.list _ p,v=>v.eE.map p.bp
 |.own _ _ p,v=>v.eE.map p.bp
 |.bc _ _ p,v=>(v.aag,v.eE.map p.bp)
 |.j6 _,_=>()
 |.two _ v,a=>dv a v
def aK.bp:(ps:aK)→List AV→ps.T
 |.nil,_=>()
 |.cons p .nil,l=>p.bp (eQ l)
 |.cons p (.cons q ps),l=>(p.bp (eQ l),(aK.cons q ps).bp (KJ l))
end
def allFit (f:AV→Bool):List AV→Bool
 |[]=>true
 |a :: l=>f a&&allFit f l
mutual
def aM.fits:aM→AV→Bool
 |.int k,v=>match v with
  |.int k' _=>RB k k'
  |_=>false
 |.bool,v=>match v with
  |.bool _=>true
  |_=>false
 |.str,v=>match v with
  |.str _=>true
  |_=>false
 |.agg ps,v=>match v with
  |.agg cs=>ps.fits cs
  |_=>false
 |.bD ps,v=>match v with
  |.bD cs=>ps.fits cs
  |_=>false
 |.list sz p,v=>match v with
  |.list _ bu es=>(Nat.beq sz bu || es.isEmpty)&&allFit p.fits es
  |_=>false
 |.own id sz p,v=>match v with
  |.list (.own j7) bu es=>(Nat.beq id j7&&Nat.beq sz bu)&&allFit p.fits es
  |_=>false
 |.bc id sz p,v=>match v with
  |.list (.bc j7 _) bu es=>(Nat.beq id j7&&Nat.beq sz bu)&&allFit p.fits es
  |_=>false
 |.j6 v,u=>dv u v
 |.two u v,a=>dv a u || dv a v
def aK.fits:aK→List AV→Bool
 |.nil,l=>l.isEmpty
 |.cons p ps,l=>match l with
  |a :: l=>p.fits a&&ps.fits l
  |[]=>false
end
def aM.dec (p:aM) (v:AV):Option p.T:=bif p.fits v then some (p.bp v) else none
def aK.dec (ps:aK) (l:List AV):Option ps.T:=bif ps.fits l then some (ps.bp l) else none
structure Env where
 P:Program
 ti:TypeId→Option TI
 dV:Nat→Option (List AV)
 xJ:FuncId→Tmp→Bool
 NV:TypeId→Option aM
 lo:Nat:=0
 gho:FuncId→Tmp→List (Option Nat × Nat × TypeId):=fun _ _=>[]
 Zr:TypeId→Option aM:=fun _=>none
 gx:Nat→Bool:=fun _=>false
 IL:∀ t i,ti t=some i→IK P t=some i
 mixed:P.follows .mixedOrders=true
 B8:∀ g cs,dV g=some cs→aF cs=true
def bw (E:Env) (ae:ba):Operand→SV
 |.tmp t=>lk ae t
 |.const v=>match sR v with
  |some a=>.v a
  |none=>.none
 |.global g=>match E.dV g with
  |some cs=>.v (.ep cs)
  |none=>.none
 |.func f=>.v (.fn f [] [])
def St.put (s:St) (dst:Option Tmp) (x:SV):St:=match dst with
 |some d=>match Nat.blt d s.n with
  |true=>⟨.put d x :: s.ae,s.boxes,s.G,s.marks,s.ro,s.n⟩
  |false=>s
 |none=>s
def gG:AV:=.bD []
def uM (agg:Bool) (cs:List AV):Option AV:=
 if agg then some (.agg cs) else match cs with
  |[c]=>some c
  |_=>none
def oz (s:St):SV→Option (List AV × Nat)
 |.lp k off=>match di s.boxes k with
  |some cs=>some (cs,off)
  |none=>none
 |.v (.ptr id off)=>match nth s.G id with
  |some (.row cs _)=>some (cs,off)
  |_=>none
 |.v (.ep cs)=>some (cs,0)
 |_=>none
def A4 (n:Nat):SV→Option SV
 |.lp k off=>some (.lp k (off+n))
 |.v (.ptr id off)=>some (.v (.ptr id (off+n)))
 |.v (.ep cs)=>some (.v (.ep (gn n cs)))
 |.v (.gp id f i off sz t)=>some (.v (.gp id f i (off+n) sz t))
 |_=>none
def B9 (t:Bool):AV→AV→AV
 |.bool x,.bool y=>.bool (bif t then x else y)
 |.int k x,.int k' y=>if k=k' then .int k (bif t then x else y) else (bif t then .int k x else .int k' y)
 |a,b=>bif t then a else b
def Hr (ag:Bool) (off sz:Nat) (cs:List AV):Option AV:=
 if ag then (match Hq off sz cs with | some l=>uM true l | none=>none) else (match Hq off 1 cs with | some l=>uM false l | none=>none)
mutual
def mB:EK→AV→AV→Option Bool
 |.bool,.bool a,.bool b=>some (a == b)
 |.int,.int k a,.int k' b=>if k=k' then some (a == b) else none
 |.str,.str a,.str b=>some (a == b)
 |.st fs,.agg xs,.agg ys=>uN fs xs ys
 |_,_,_=>none
def uN:Qu→List AV→List AV→Option Bool
 |.nil,_,_=>some true
 |.cons off sz ag k rest,xs,ys=>match Hr ag off sz xs,Hr ag off sz ys with
  |some a,some b=>match mB k a b,uN rest xs ys with
   |some t,some u=>some (t&&u)
   |_,_=>none
  |_,_=>none
end
def RE (k:IntKind) (a b:Int):Int:=k.wrap (BitVec.ofInt k.bits a &&& BitVec.ofInt k.bits b).toNat
def orI (k:IntKind) (a b:Int):Int:=k.wrap (BitVec.ofInt k.bits a ||| BitVec.ofInt k.bits b).toNat
def RG (k:IntKind) (a b:Int):Int:=k.wrap (BitVec.ofInt k.bits a ^^^ BitVec.ofInt k.bits b).toNat
def Dq (op:BinOp) (x y:AV):Option (Bool × AV):=
 match x,y with
 |.int k a,.int k' b=>
  match op with
  |.shl=>some (decide (0≤b),.int k (k.wrap (a * 2 ^ (min b.toNat k.bits))))
  |.shr=>some (decide (0≤b),.int k (a.fdiv (2 ^ (min b.toNat k.bits))))
  |_=>if k=k' then
    match op with
    |.add=>some (true,.int k (k.wrap (a+b)))
    |.sub=>some (true,.int k (k.wrap (a - b)))
    |.mul=>some (true,.int k (k.wrap (a * b)))
    |.quo=>some (!(decide (b=0)),.int k (k.wrap (a.tdiv b)))
    |.rem=>some (!(decide (b=0)),.int k (a.tmod b))
    |.and=>some (true,.int k (RE k a b))
    |.or=>some (true,.int k (orI k a b))
    |.xor=>some (true,.int k (RG k a b))
    |.eql=>some (true,.bool (a == b))
    |.neq=>some (true,.bool (a != b))
    |.lss=>some (true,.bool (a < b))
    |.leq=>some (true,.bool (a≤b))
    |.gtr=>some (true,.bool (a > b))
    |.geq=>some (true,.bool (a≥b))
    |_=>none
   else none
 |.str a,.str b=>
  match op with
  |.add=>some (decide (a.length+b.length≤9223372036854775807),.str (a++b))
  |.eql=>some (true,.bool (a == b))
  |.neq=>some (true,.bool (!(a == b)))
  |.lss=>some (true,.bool (Op.bytesLess a b))
  |.leq=>some (true,.bool (Op.bytesLess a b || a == b))
  |.gtr=>some (true,.bool (!(Op.bytesLess a b || a == b)))
  |.geq=>some (true,.bool (!(Op.bytesLess a b)))
  |_=>none
 |_,_=>none
end Go.Am
namespace Go.Am
open Go
def St.kill (s:St) (d:Nat):St:=⟨.kill d :: s.ae,s.boxes,s.G,s.marks,s.ro,s.n⟩
def AV.aS:AV→Bool
 |.bD _=>false
 |_=>true
def St.dW (s:St) (o:GO):St:=⟨s.ae,s.boxes,s.G++[o],s.marks,s.ro,s.n⟩
def St.bG (s:St) (G:List GO):St:=⟨s.ae,s.boxes,G,s.marks,s.ro,s.n⟩
def St.vD (s:St) (d:Nat) (cs:List AV):St:=⟨s.ae,(d,cs) :: s.boxes,s.G,s.marks,s.ro,s.n⟩
def fJ (E:Env) (f:FuncId) (s:St) (dst:Option Tmp) (el:TypeId) (cs:List AV):Option (Bool × St):=
 match dst with
 |none=>none
 |some d=>
  if E.xJ f d then some (true,(s.dW (.row cs el)).put (some d) (.v (.ptr s.G.length 0)))
  else match Nat.blt d s.n with
   |true=>some (true,((s.kill d).vD d cs).put (some d) (.lp d 0))
   |false=>none
def nf (E:Env) (ae:ba):List Operand→Option (List AV)
 |[]=>some []
 |x :: l=>match bw E ae x,nf E ae l with
  |.v a,some r=>some (a :: r)
  |_,_=>none
def Np (E:Env) (ae:ba):List (Nat × Operand)→Option (List (Nat × AV))
 |[]=>some []
 |(i,x) :: l=>match bw E ae x,Np E ae l with
  |.v a,some r=>some ((i,a) :: r)
  |_,_=>none
def placeOf:TK→Nat→Option (Nat × Nat)
 |.st fs,j=>match nth fs j with
  |some (o,sz,_)=>some (o,sz)
  |none=>none
 |.arr _ esz _,j=>some (j * esz,esz)
 |_,_=>none
def vE (place:Nat→Option (Nat × Nat)) (cells:List AV):List (Nat × AV)→Option (List AV)
 |[]=>some cells
 |(i,v) :: rest=>match place i with
  |none=>none
  |some (off,sz)=>
   if v.aS&&Nat.beq v.cells.length sz&&Nat.ble (off+sz) cells.length then vE place (b9 cells off v.cells) rest else none
def Dr (esz:Nat) (es:List AV):List (Nat × AV)→Option (List AV)
 |[]=>some es
 |(i,v) :: rest=>
  if v.aS&&Nat.beq v.cells.length esz&&Nat.ble (i+1) es.length&&v.closed then Dr esz (aq es i v) rest else none
def oA (E:Env) (s:St) (t:TypeId) (parts:List (Nat × Operand)):Option AV:=
 match E.ti t,Np E s.ae parts with
 |some i,some ps=>match i.zero with
  |some z=>match vE (placeOf i.k) z.cells ps with
   |some cs=>if i.agg&&z.aS then some (.agg cs) else none
   |none=>none
  |none=>none
 |_,_=>none
def A5:List (Nat × AV)→List (Nat × AV)
 |[]=>[]
 |(i,v) :: l=>(i,v.iy) :: A5 l
def bZ (E:Env) (s:St) (t:TypeId) (len:Nat) (parts:List (Nat × Operand)):Option AV:=
 match E.ti t,Np E s.ae parts with
 |some i,some ps=>match i.k with
  |.sl _ esz _ _ (some z)=>
    if Nat.beq z.cells.length esz&&Nat.ble 1 esz&&Nat.ble (len * esz) 16777216&&z.aS&&z.closed then
     match Dr esz (List.replicate len z) (A5 ps) with
     |some es=>some (.list .full esz es)
     |none=>none
    else none
  |_=>none
 |_,_=>none
def sT (E:Env) (s:St) (t:TypeId) (p:SV):Option AV:=
 match E.ti t,oz s p with
 |some i,some (cs,off)=>match Hq off i.size cs with
  |some l=>uM i.agg l
  |none=>none
 |_,_=>none
def ik (E:Env) (s:St) (t:TypeId) (p x:SV):Option St:=
 match E.ti t,x with
 |some i,.v v=>
  if v.aS&&Nat.beq v.cells.length i.size then
   match p with
   |.lp k off=>match di s.boxes k with
    |some cs=>if Nat.ble (off+v.cells.length) cs.length then some (s.vD k (b9 cs off v.cells)) else none
    |none=>none
   |.v (.ptr id off)=>match nth s.G id with
    |some (.row cs el)=>if Nat.ble (off+v.cells.length) cs.length then some (s.bG (aq s.G id (.row (b9 cs off v.cells) el))) else none
    |_=>none
   |_=>none
  else none
 |_,_=>none
def ab (es:List AV) (n:Nat):AV:=match nth es n with
 |some e=>e
 |none=>gG
def jV:List GO→Nat→TypeId→Nat→Option Nat
 |[],_,_,_=>none
 |.bc _ sz e :: G,bu,e',i=>match jV G bu e' (i+1) with
  |some j=>some j
  |none=>bif Nat.beq sz bu&&Nat.beq e e' then some i else none
 |_ :: G,bu,e',i=>jV G bu e' (i+1)
def aM.fin (G:List GO):aM→aM
 |.bc e sz p=>match jV G sz e 0 with
  |some id=>.bc id sz p
  |none=>.bc e sz p
 |.agg ps=>.agg (WM ps)
 |p=>p
where
 WM:aK→aK
  |.nil=>.nil
  |.cons p ps=>.cons (match p with
   |.bc e sz q=>match jV G sz e 0 with
    |some id=>.bc id sz q
    |none=>.bc e sz q
   |p=>p) (WM ps)
def Qv (E:Env) (G:List GO) (t:TypeId):Option aM:=match E.Zr t with
 |some p=>some (p.fin G)
 |none=>E.NV t
def xK (E:Env) (s:St) (id f i sz:Nat) (t:TypeId):Option (Bool × AV):=match nth s.G id with
 |some (.bo es bu _)=>match Qv E s.G t with
  |some p=>if Nat.beq sz bu then some (decide (f=es.length)&&decide (i < es.length)&&p.fits (ab es i),p.enc (p.bp (ab es i))) else none
  |none=>if Nat.beq sz bu then some (decide (f=es.length)&&decide (i < es.length),ab es i) else none
 |_=>none
def A6 (E:Env) (s:St) (t:TypeId) (p:SV):Option (Bool × AV):=match p with
 |.v (.gp id f i off sz ty)=>match E.ti t,xK E s id f i sz ty with
  |some ti,some (c,v)=>match Hq off ti.size v.cells with
   |some l=>match uM ti.agg l with
    |some r=>some (c,r)
    |none=>none
   |none=>none
  |_,_=>none
 |p=>match sT E s t p with
  |some v=>some (true,v)
  |none=>none
def gj (E:Env) (s:St) (t:TypeId) (p x:SV):Option (Bool × St):=match p with
 |.v (.gp id f i off sz ty)=>match E.ti t,x,nth s.G id with
  |some ti,.v x,some (.bo es bu el)=>
   if x.aS&&Nat.beq x.cells.length ti.size&&Nat.beq sz bu then
    if Nat.beq off 0&&Nat.beq ti.size sz then some (decide (f=es.length)&&decide (i < es.length),s.bG (aq s.G id (.bo (aq es i x) bu el)))
    else match xK E s id f i sz ty with
     |some (c,.agg cs)=>if Nat.ble (off+ti.size) cs.length&&Nat.beq cs.length sz then some (c,s.bG (aq s.G id (.bo (aq es i (.agg (b9 cs off x.cells))) bu el))) else none
     |_=>none
   else none
  |_,_,_=>none
 |p=>match ik E s t p x with
  |some s'=>some (true,s')
  |none=>none
def rZ (s:St) (p x:SV):Bool × SV × List GO:=match p,x with
 |.v (.gp _ _ _ 0 1 _),.v (.cZ id f 0 sz len)=>match nth s.G id with
  |some (.bo es bu _)=>(decide (f=es.length)&&decide (len=es.length)&&Nat.beq sz bu&&aF es,.v (.list .ea sz es),aq s.G id .dead)
  |_=>(true,x,s.G)
 |_,_=>(true,x,s.G)
def kq (E:Env) (s:St) (t:TypeId) (p x:SV):Option (Bool × St):=match gj E (s.bG (rZ s p x).2.2) t p (rZ s p x).2.1 with
 |some (c,s')=>some ((rZ s p x).1&&c,s')
 |none=>none
def lA (E:Env) (t:TypeId) (x ix:SV):Option (Bool × SV):=
 match E.ti t,ix with
 |some i,.v (.int _ n)=>match i.k,x with
  |.sl _ esz _ _ _,.v (.list _ sz es)=>if Nat.beq sz esz || es.isEmpty then
    match E.NV t with
    |some p=>some (decide (0≤n∧n < es.length)&&p.fits (ab es n.toNat),.v (.ep (p.enc (p.bp (ab es n.toNat))).cells))
    |none=>some (decide (0≤n∧n < es.length),.v (.ep (ab es n.toNat).cells))
   else none
  |.sl _ esz _ _ _,.v (.jB id off sz len _)=>if Nat.beq sz esz then some (decide (0≤n∧n < len),.v (.ptr id (off+n.toNat * sz))) else none
  |.sl _ esz _ _ _,.v (.cZ id f off sz len)=>if Nat.beq sz esz then some (decide (0≤n∧n < len),.v (.gp id f (off+n.toNat) 0 sz t)) else none
  |.arr len esz _,.v (.ep cs)=>match E.NV t with
   |some p=>if Nat.beq esz 1&&Nat.ble len cs.length then some (decide (0≤n∧n < len)&&p.fits (ab cs n.toNat),.v (.ep [p.enc (p.bp (ab cs n.toNat))])) else none
   |none=>some (decide (0≤n∧n < len),.v (.ep (gn (n.toNat * esz) cs)))
  |.arr len esz _,p=>match A4 (n.toNat * esz) p with
   |some q=>some (decide (0≤n∧n < len),q)
   |none=>none
  |_,_=>none
 |_,_=>none
def lB (E:Env) (t:TypeId) (x:SV) (j:Nat):Option SV:=
 match E.ti t with
 |some i=>match i.k with
  |.st fs=>match nth fs j with
   |some (o,sz,_)=>if Nat.ble 1 sz then A4 o x else none
   |none=>none
  |_=>none
 |none=>none
def Fk (E:Env) (t:TypeId) (x:SV) (j:Nat):Option AV:=
 match E.ti t,x with
 |some i,.v (.agg cs)=>match i.k with
  |.st fs=>match nth fs j with
   |some (o,sz,ag)=>if ag then (match Hq o sz cs with | some l=>uM true l | none=>none) else (match Hq o 1 cs with | some l=>uM false l | none=>none)
   |none=>none
  |_=>none
 |_,_=>none
def Fl (E:Env) (t:TypeId) (x ix:SV):Option (Bool × AV):=
 match E.ti t,x,ix with
 |some i,.v (.str l),.v (.int _ n)=>match i.k with
  |.str=>some (decide (0≤n∧n < l.length),.int .u8 (l.getD n.toNat 0).toNat)
  |_=>none
 |some i,.v (.agg cs),.v (.int _ n)=>match i.k with
  |.arr len esz ag=>match (if ag then (match Hq (n.toNat * esz) esz cs with | some l=>uM true l | none=>none) else (match Hq (n.toNat * esz) 1 cs with | some l=>uM false l | none=>none)) with
   |some v=>some (decide (0≤n∧n < len),v)
   |none=>none
  |_=>none
 |_,_,_=>none
def xL (y:Nat):SV→Option (Bool × Nat)
 |.v (.int _ n)=>some (decide (0≤n∧n≤y),n.toNat)
 |_=>none
def jC {α:Type} (lo hi:Nat) (l:List α):List α:=(l.take hi).drop lo
def mC (E:Env) (ae:ba):Option Operand→Option (Option SV)
 |none=>some none
 |some x=>some (some (bw E ae x))
def Ca (len:Nat) (lo hi:Option SV):Option (Bool × Nat × Nat):=
 match (match hi with | none=>some (true,len) | some h=>xL len h) with
 |none=>none
 |some (c1,h)=>match (match lo with | none=>some (true,0) | some l=>xL h l) with
  |none=>none
  |some (c2,l)=>some (c1&&c2,l,h)
def WN (agg:Bool) (l:List AV):AV:=match agg with
 |true=>.agg l
 |false=>eQ l
def iM (agg:Bool) (sz:Nat):Nat→List AV→List AV
 |0,_=>[]
 |n+1,cs=>WN agg (cs.take sz) :: iM agg sz n (cs.drop sz)
def Fm (ag:Bool) (e:AV):Bool:=e.aS&&(ag || e.one)&&e.closed
def Cb (E:Env) (t:TypeId) (x:SV) (lo hi:Option SV) (mx:Option Operand):Option (Bool × AV):=
 match E.ti t,mx with
 |some i,none=>match i.k,x with
  |.str,.v (.str l)=>match Ca l.length lo hi with
   |some (c,a,b)=>some (c,.str (jC a b l))
   |none=>none
  |.sl _ esz _ _ _,.v (.list k sz es)=>
   if Nat.beq sz esz || es.isEmpty then
    match Ca es.length lo hi with
    |some (c,a,b)=>some (c,.list (match k with | .nil=>.nil | .full=>(match hi with | none=>.full | some _=>.ea) | _=>.ea) esz (jC a b es))
    |none=>none
   else none
  |.sl _ esz _ _ _,.v (.jB id off sz len cap)=>
   if Nat.beq sz esz then
    match Ca len lo hi with
    |some (c,a,b)=>some (c,.jB id (bif Nat.beq cap a then off else off+a * sz) sz (b - a) (cap - a))
    |none=>none
   else none
  |.sl _ esz _ _ _,.v (.cZ id f off sz len)=>
   if Nat.beq sz esz then
    match Ca len lo hi with
    |some (c,a,b)=>some (c,.cZ id f (off+a) sz (b - a))
    |none=>none
   else none
  |.arr len esz ag,.v (.ep cs)=>match lo,hi with
   |none,none=>if Nat.ble (len * esz) cs.length&&Nat.ble 1 esz&&(ag || Nat.beq esz 1)&&allFit (Fm ag) (iM ag esz len cs) then some (true,.list .full esz (iM ag esz len cs)) else none
   |_,_=>none
  |_,_=>none
 |_,_=>none
def KK (G:List GO) (id n:Nat) (f sz:Nat) (e:TypeId):List GO:=aq G id (.tok (f+n) sz e)
def IM (fs:List Nat) (j n:Nat):List Nat:=bif Nat.beq j fs.length then fs++[n] else aq fs j n
def NW (fs:List Nat) (j n:Nat):Bool:=decide (nth fs j=some n) || (Nat.beq j fs.length&&Nat.beq n 0)
def fK (G:List GO) (elem esz bh:Nat) (x:AV) (ys:List AV):Option (Bool × AV × List GO):=
 match x,ys with
 |.list k sz es,[]=>match k with
  |.nil=>some (true,.list .nil sz es,G)
  |k=>some (true,.list k sz es,G)
 |.list k sz es,y :: ys=>
  match k with
  |.nil=>some (decide ((es.length+(y :: ys).length) * bh≤140737488355328),.list (.own G.length) esz (es++(y :: ys)),G++[.tok (es.length+(y :: ys).length) esz elem])
  |.full=>if Nat.beq sz esz then some (decide ((es.length+(y :: ys).length) * bh≤140737488355328),.list (.own G.length) esz (es++(y :: ys)),G++[.tok (es.length+(y :: ys).length) esz elem]) else none
  |.own id=>match nth G id with
   |some (.tok f bu e')=>if Nat.beq bu esz&&Nat.beq e' elem&&Nat.beq sz esz then
     some (decide (f=es.length)&&decide ((es.length+(y :: ys).length) * bh≤140737488355328),.list (.own id) esz (es++(y :: ys)),KK G id (y :: ys).length f esz elem) else none
   |_=>none
  |.bc id j=>match nth G id with
   |some (.bc fs bu e')=>if Nat.beq bu esz&&Nat.beq e' elem&&Nat.beq sz esz then
     some (NW fs j es.length&&decide ((es.length+(y :: ys).length) * bh≤140737488355328),.list (.bc id j) esz (es++(y :: ys)),aq G id (.bc (IM fs j (es.length+(y :: ys).length)) esz elem)) else none
   |_=>none
  |.ea=>none
 |.cZ id f off sz len,[]=>some (true,.cZ id f off sz len,G)
 |.cZ id f off sz len,y :: ys=>match nth G id with
  |some (.bo es bu e')=>if Nat.beq bu esz&&Nat.beq e' elem&&Nat.beq sz esz then
    some (decide (f=es.length)&&decide (off=0)&&decide (len=f)&&decide ((es.length+(y :: ys).length) * bh≤140737488355328),.cZ id (es.length+(y :: ys).length) 0 esz (es.length+(y :: ys).length),aq G id (.bo (es++(y :: ys)) esz elem)) else none
  |_=>none
 |_,_=>none
def sU (b:UInt8):AV:=.int .u8 b.toNat
def r7 (es:List AV):List UInt8:=es.map fun a=>UInt8.ofNat a.ox.toNat
def xM (es:List AV):List UInt8:=es.flatMap fun a=>(Utf8.encode a.ox).data.toList
def IN:AV→List AV→Option AV
 |x,[]=>some x
 |.int k x,.int k' y :: l=>if k=k' then IN (.int k (if y > x then y else x)) l else none
 |_,_=>none
def Fo:AV→List AV→Option AV
 |x,[]=>some x
 |.int k x,.int k' y :: l=>if k=k' then Fo (.int k (if y < x then y else x)) l else none
 |.str x,.str y :: l=>Fo (.str (bif Op.bytesLess x y || x == y then x else y)) l
 |_,_=>none
def aw:List AV→List AV
 |[]=>[]
 |e :: es=>e.cells++aw es
def sV (s:St) (esz:Nat) (d x:AV):Option (Nat × List GO):=
 match d with
 |.jB id off sz len _=>match nth s.G id with
  |some (.row cs el)=>
   if Nat.beq sz esz then
    match x with
    |.list _ bu es=>if Nat.beq bu esz || es.isEmpty then
      let n:=Nat.min es.length len
      let l:=aw (es.take n)
      if Nat.ble (off+l.length) cs.length then some (n,aq s.G id (.row (b9 cs off l) el)) else none
     else none
    |.str bs=>
      if Nat.beq esz 1&&Nat.ble (off+(bs.take (Nat.min bs.length len)).length) cs.length then some (Nat.min bs.length len,aq s.G id (.row (b9 cs off ((bs.take (Nat.min bs.length len)).map sU)) el)) else none
    |.jB j7 gk bu Fp _=>match nth s.G j7 with
     |some (.row eP _)=>
      let n:=Nat.min Fp len
      match Hq gk (n * esz) eP with
      |some l=>if Nat.beq bu esz&&Nat.ble (off+l.length) cs.length then some (n,aq s.G id (.row (b9 cs off l) el)) else none
      |none=>none
     |_=>none
    |_=>none
   else none
  |_=>none
 |.cZ id f off sz len=>match nth s.G id,x with
  |some (.bo es bu el),.list _ szx xs=>if Nat.beq sz esz&&Nat.beq bu sz&&(Nat.beq szx esz || xs.isEmpty)&&Nat.ble f es.length&&Nat.ble es.length f&&Nat.ble (off+Nat.min xs.length len) es.length then
    some (Nat.min xs.length len,aq s.G id (.bo (b9 es off (xs.take (Nat.min xs.length len))) bu el)) else none
  |_,_=>none
 |_=>none
def bQ (E:Env) (s:St) (dst:Option Tmp) (b:Builtin) (args:List AV) (tys:List TypeId):Option (Bool × St):=
 match b,args with
 |.len,[x]=>match tys with
  |t :: _=>match E.ti t with
   |some i=>match i.k,x with
    |.str,.str l=>some (true,s.put dst (.v (.int .i64 l.length)))
    |.sl ..,.list _ _ es=>some (true,s.put dst (.v (.int .i64 es.length)))
    |.sl ..,.jB _ _ _ len _=>some (true,s.put dst (.v (.int .i64 len)))
    |.sl ..,.cZ _ _ _ _ len=>some (true,s.put dst (.v (.int .i64 len)))
    |.arr n _ _,_=>some (true,s.put dst (.v (.int .i64 n)))
    |.map ..,.kJ=>some (true,s.put dst (.v (.int .i64 0)))
    |.map ..,.map id=>match nth s.G id with
     |some (.map es)=>some (true,s.put dst (.v (.int .i64 es.length)))
     |_=>none
    |_,_=>none
   |none=>none
  |_=>none
 |.append,[x,.list _ sz ys]=>match tys with
  |[t,u]=>match E.ti t with
   |some i=>match i.k with
    |.sl elem esz _ bh (some z)=>
     if (Nat.beq sz esz || ys.isEmpty)&&Nat.beq t u&&Nat.ble 1 esz&&Nat.ble 1 bh&&Nat.beq z.cells.length esz&&z.aS then
      match fK s.G elem esz bh x ys with
      |some (c,v,G')=>some (c,(s.bG G').put dst (.v v))
      |none=>none
     else none
    |_=>none
   |none=>none
  |_=>none
 |.append,[x,.str bs]=>match tys with
  |[t,u]=>match E.ti t,E.ti u with
   |some i,some j=>match i.k,j.k with
    |.sl elem esz _ bh (some z),.str=>
     if Nat.beq esz 1&&Nat.ble 1 bh&&Nat.beq z.cells.length esz&&z.aS then
      match fK s.G elem esz bh x (bs.map sU) with
      |some (c,v,G')=>some (c,(s.bG G').put dst (.v v))
      |none=>none
     else none
    |_,_=>none
   |_,_=>none
  |_=>none
 |.append,[x,.cZ id f 0 sz len]=>match nth s.G id,tys with
  |some (.bo ys bu _),[t,u]=>match E.ti t with
   |some i=>match i.k with
    |.sl elem esz _ bh (some z)=>
     if Nat.beq sz bu&&Nat.beq sz esz&&Nat.beq f ys.length&&Nat.beq len ys.length&&aF ys&&Nat.beq t u&&Nat.ble 1 esz&&Nat.ble 1 bh&&Nat.beq z.cells.length esz&&z.aS then
      match fK s.G elem esz bh x ys with
      |some (c,v,G')=>some (c,(s.bG G').put dst (.v v))
      |none=>none
     else none
    |_=>none
   |none=>none
  |_,_=>none
 |.copy,[d,x]=>match tys with
  |t :: _=>match E.ti t with
   |some i=>match i.k with
    |.sl _ esz _ _ _=>match sV s esz d x with
     |some (n,G')=>some (true,(s.bG G').put dst (.v (.int .i64 n)))
     |none=>none
    |_=>none
   |none=>none
  |_=>none
 |.clear,[x]=>match dst,tys,x with
  |none,[t],.cZ id f off sz len=>match E.ti t,nth s.G id with
   |some i,some (.bo es bu el)=>match i.k with
    |.sl elem esz _ _ (some z)=>if Nat.beq sz esz&&Nat.beq bu sz&&Nat.beq el elem&&Nat.beq z.cells.length esz&&z.aS&&z.closed then
      some (decide (f=es.length)&&decide (off+len≤es.length),s.bG (aq s.G id (.bo (b9 es off (List.replicate len z)) bu el))) else none
    |_=>none
   |_,_=>none
  |_,_,_=>none
 |.max,x :: l=>match IN x l with
  |some v=>some (true,s.put dst (.v v))
  |none=>none
 |.min,x :: l=>match Fo x l with
  |some v=>some (true,s.put dst (.v v))
  |none=>none
 |_,_=>none
def EK.plain:EK→Bool
 |.bool | .int | .str=>true
 |.st _=>true
 |_=>false
def EK.wide:EK→Bool
 |.st _=>true
 |_=>false
def xf:AV→Bool
 |.bool _=>true
 |.int _ _=>true
 |.str _=>true
 |_=>false
def sW:AV→AV→Bool
 |.bool a,.bool b=>a == b
 |.int k a,.int l b=>decide (k=l)&&a == b
 |.str a,.str b=>a == b
 |_,_=>false
def pM:List AV→List AV→Bool
 |[],[]=>true
 |a :: l,b :: r=>sW a b&&pM l r
 |_,_=>false
def oB:AV→AV→Bool
 |.agg xs,.agg ys=>pM xs ys
 |_,_=>false
def E3 (e:EK) (a b:AV):Option Bool:=match mB e a b with
 |some true=>bif e.wide&&!oB a b then none else some true
 |r=>r
def jz (e:EK) (k:AV):List (AV × AV)→Option (Option AV)
 |[]=>some none
 |(k',v) :: l=>match E3 e k k' with
  |some true=>some (some v)
  |some false=>jz e k l
  |none=>none
def uO (e:EK) (k v:AV):List (AV × AV)→Option (List (AV × AV))
 |[]=>some [(k,v)]
 |(k',v') :: l=>match E3 e k k' with
  |some true=>some ((k,v) :: l)
  |some false=>match uO e k v l with
   |some r=>some ((k',v') :: r)
   |none=>none
  |none=>none
def jj:EK→AV→Bool
 |.bool,.bool _=>true
 |.int,.int _ _=>true
 |.str,.str _=>true
 |.st fs,.agg cs=>cs.all xf&&(uN fs cs cs).isSome
 |_,_=>false
def mapOf (s:St):SV→Option (List (AV × AV))
 |.v .kJ=>some []
 |.v (.map id)=>match nth s.G id with
  |some (.map es)=>some es
  |_=>none
 |_=>none
def ng (G:List GO) (id:Nat):List Nat:=match nth G id with
 |some (.bc fs _ _)=>fs
 |_=>[]
def Ds (E:Env) (G:List GO) (t:TypeId) (z:AV):AV:=match E.Zr t,z with
 |some (.bc e sz _),.list .nil _ []=>match jV G sz e 0 with
  |some id=>.list (.bc id (ng G id).length) sz []
  |none=>z
 |_,_=>z
def j8 (E:Env) (s:St) (t:TypeId) (m k:SV):Option (AV × Bool):=match E.ti t,mapOf s m,k with
 |some i,some es,.v k=>match i.k with
  |.map kt _ (some z)=>match E.ti kt with
   |some j=>if j.ek.plain&&jj j.ek k then match jz j.ek k es with
     |some (some v)=>some (v,true)
     |some none=>some (z,false)
     |none=>none
    else none
   |none=>none
  |_=>none
 |_,_,_=>none
def mJ (E:Env) (s:St) (t:TypeId) (m k:SV):Option (AV × Bool):=match j8 E s t m k with
 |some (v,false)=>some (Ds E s.G t v,false)
 |r=>r
def fL (E:Env) (s:St) (t:TypeId) (m k x:SV):Option St:=match E.ti t,m,k,x with
 |some i,.v (.map id),.v k,.v x=>match i.k,nth s.G id with
  |.map kt _ _,some (.map es)=>match E.ti kt with
   |some j=>if j.ek.plain&&jj j.ek k then match uO j.ek k x es with
     |some es'=>some (s.bG (aq s.G id (.map es')))
     |none=>none
    else none
   |none=>none
  |_,_=>none
 |_,_,_,_=>none
def cq (l:List UInt8) (pos:Nat):Nat × Nat:=
 bif Nat.blt (l.getD pos 0).toNat 128 then ((l.getD pos 0).toNat,1) else Utf8.decode ⟨⟨l⟩⟩ pos
def mK (s:St) (dst:Option Tmp) (x:SV):Option St:=match x with
 |.v (.ptr id 0)=>match nth s.G id with
  |some (.ic l pos)=>bif Nat.blt pos l.length then
    match cq l pos with
    |(c,n)=>some ((s.bG (aq s.G id (.ic l (pos+n)))).put dst (.v (.bD [.bool true,.int .i64 pos,.int .i32 c])))
   else some (s.put dst (.v (.bD [.bool false])))
  |_=>none
 |_=>none
def bY (es:List (AV × AV)) (i:Nat):AV × AV:=match nth es i with
 |some e=>e
 |none=>(gG,gG)
def RH (E:Env) (kt:TypeId):Option aM:=match E.NV kt with
 |some p=>some p
 |none=>match E.ti kt with
  |some i=>match i.k with
   |.int k=>some (.int k)
   |.str=>some .str
   |_=>none
  |none=>none
def sX (E:Env) (t:TypeId) (e:AV × AV):Bool × AV × AV:=match E.ti t with
 |some i=>match i.k with
  |.map kt _ _=>match E.NV t,RH E kt with
   |some pv,some pk=>(pk.fits e.1&&pv.fits e.2,pk.enc (pk.bp e.1),pv.enc (pv.bp e.2))
   |_,_=>(true,e.1,e.2)
  |_=>(true,e.1,e.2)
 |none=>(true,e.1,e.2)
def A7 (E:Env) (s:St) (dst:Option Tmp) (x:SV):Option (Bool × St × List Nat × (Nat→Bool × St)):=match x with
 |.v (.ptr id 0)=>match nth s.G id with
  |some (.jh rF n left _ t)=>match nth s.G rF with
   |some (.map es)=>some (decide (es.length=n),s.put dst (.v (.bD [.bool false])),left,
     fun i=>((sX E t (bY es i)).1,(s.bG (aq s.G id (.jh rF n (left.erase i) (some i) t))).put dst (.v (.bD [.bool true,(sX E t (bY es i)).2.1,(sX E t (bY es i)).2.2]))))
   |_=>none
  |_=>none
 |_=>none
def uP (E:Env) (s:St) (o:Oper):Option (Bool × St × List Nat × (Nat→Bool × St)):=match o.op with
 |.next x false=>A7 E s o.dst (bw E s.ae x)
 |_=>none
def NX:AV→Option Bool
 |.list .nil _ _=>some true
 |.list .full _ _=>some false
 |.list _ _ (_ :: _)=>some false
 |.jB _ _ _ _ _=>some false
 |.cZ _ _ _ _ (_+1)=>some false
 |.na=>some true
 |.ptr _ _=>some false
 |.ep _=>some false
 |_=>none
def Fq:AV→Option Bool
 |.list .nil _ []=>some true
 |.na=>some false
 |_=>none
def RI (P:Program) (t:TypeId):Bool:=match P.underlying t with
 |some (.slice _)=>true
 |_=>false
def RJ (P:Program) (t:TypeId):Bool:=match P.underlying t with
 |some (.pointer _)=>true
 |_=>false
def Zs:AV→Bool
 |.list _ _ _=>true
 |.jB _ _ _ _ _=>true
 |.cZ _ _ _ _ _=>true
 |_=>false
def vF (P:Program) (t:TypeId) (a b:AV):Bool:=match Fq b with
 |some true=>Zs a&&RI P t
 |some false=>!Zs a&&RJ P t
 |none=>false
def RK (E:Env) (op:BinOp) (t:TypeId) (a b:AV):Option Bool:=match op,NX a with
 |.eql,some r=>bif vF E.P t a b then some r else none
 |.neq,some r=>bif vF E.P t a b then some (!r) else none
 |_,_=>none
def eqO (E:Env) (op:BinOp) (t:TypeId) (a b:AV):Option Bool:=match op,E.ti t with
 |.eql,some i=>mB i.ek a b
 |.neq,some i=>match mB i.ek a b with
  |some r=>some (!r)
  |none=>none
 |_,_=>none
def kK (E:Env) (s:St) (t:TypeId) (len:Nat) (parts:List (Nat × Operand)):Option (List AV):=
 match E.ti t,Np E s.ae parts with
 |some i,some ps=>match i.k with
  |.sl _ esz _ _ (some z)=>
    if Nat.beq z.cells.length esz&&Nat.ble 1 esz&&Nat.ble (len * esz) 16777216&&z.aS then
     vE (fun i=>some (i * esz,esz)) (aw (List.replicate len z)) (A5 ps)
    else none
  |_=>none
 |_,_=>none
def j9 (E:Env) (f:FuncId) (s:St) (o:Oper):Option St:=match o.op with
 |.buildSlice t len parts=>match o.dst with
  |some d=>if E.xJ f d then match E.ti t with
    |some i=>match i.k,bZ E s t len parts.toList with
     |.sl elem _ _ _ _,some (.list _ esz es)=>some ((s.dW (.row (aw es) elem)).put (some d) (.v (.jB s.G.length 0 esz len len)))
     |.sl elem esz _ _ _,none=>match kK E s t len parts.toList with
      |some cs=>some ((s.dW (.row cs elem)).put (some d) (.v (.jB s.G.length 0 esz len len)))
      |none=>none
     |_,_=>none
    |none=>none
   else if E.xJ f (d+196608) then match E.ti t with
    |some i=>match i.k,bZ E s t len parts.toList with
     |.sl elem _ _ _ _,some (.list _ esz es)=>if Nat.ble len 65536 then some ((s.dW (.bo es esz elem)).put (some d) (.v (.cZ s.G.length len 0 esz len))) else none
     |_,_=>none
    |none=>none
   else if E.xJ f (d+65536) then match E.ti t with
    |some i=>match i.k,bZ E s t len parts.toList with
     |.sl elem _ _ _ _,some (.list _ esz es)=>if Nat.ble len 65536 then some ((s.dW (.tok len esz elem)).put (some d) (.v (.list (.own s.G.length) esz es))) else none
     |_,_=>none
    |none=>none
   else none
  |none=>none
 |_=>none
def A8 (wk:Bool) (es:List AV):List AV:=match wk with
 |true=>es.map AV.iy
 |false=>es
def nH (wk:Bool):List AV→List GO→Bool × List AV × List GO
 |[],G=>(true,[],G)
 |.cZ id f 0 sz len :: l,G=>match nth G id with
  |some (.bo es bu _)=>match nH wk l (aq G id .dead) with
   |(c,r,G')=>(decide (f=es.length)&&decide (len=es.length)&&Nat.beq sz bu&&aF (A8 wk es)&&c,.list .ea sz (A8 wk es) :: r,G')
  |_=>match nH wk l G with
   |(_,r,G')=>(false,r,G')
 |a :: l,G=>match nH wk l G with
  |(c,r,G')=>(c,a :: r,G')
def oC (cut wk:Bool) (s:St) (t:Tmp):Option (Bool × St):=match lk s.ae t with
 |.v (.cZ id f off sz len)=>match nth s.G id with
  |some (.bo es bu _)=>if Nat.beq off 0&&Nat.beq sz bu then
    some (decide (f=es.length)&&(bif cut then decide (len≤es.length) else decide (len=es.length))&&aF (A8 wk es),⟨.put t (.v (.list .ea sz (A8 wk (bif cut then es.take len else es)))) :: s.ae,s.boxes,aq s.G id .dead,s.marks,s.ro,s.n⟩) else none
  |_=>none
 |.v (.ptr id 0)=>match nth s.G id with
  |some (.row cs _)=>some (aF cs,⟨.put t (.v (.ep cs)) :: s.ae,s.boxes,aq s.G id .dead,s.marks,s.ro,s.n⟩)
  |_=>none
 |.v (.agg cs)=>match nH wk cs s.G with
  |(c,eP,G')=>some (c,⟨.put t (.v (.agg eP)) :: s.ae,s.boxes,G',s.marks,s.ro,s.n⟩)
 |_=>none
def iH (cut wk:Bool):List Operand→St→Bool × St
 |[],s=>(true,s)
 |.tmp t :: l,s=>match oC cut wk s t with
  |some (c,s')=>match iH cut wk l s' with
   |(c',s2)=>(c&&c',s2)
  |none=>iH cut wk l s
 |_ :: l,s=>iH cut wk l s
def IP (E:Env) (f:FuncId) (s:St) (o:Oper):Option (Bool × St):=match o.dst with
 |some d=>if E.xJ f (d+262144) then some (iH (E.xJ f (d+393216)) (E.xJ f (d+458752)) o.op.operands.toList s) else none
 |none=>none
def nI (E:Env) (s:St) (a b:TypeId) (x:SV):Option (Bool × AV):=
 match E.ti a,E.ti b,x with
 |some i,some j,.v x=>match j.k,x with
  |.int k,.int _ n=>some (true,.int k (k.wrap n))
  |.str,.list _ sz es=>match i.k with
   |.sl elem 1 _ _ _=>match E.ti elem with
    |some e=>match e.k with
     |.int .u8=>some ((Nat.beq sz 1 || es.isEmpty)&&allFit (aM.fits (.int .u8)) es,.str (r7 es))
     |.int .i32=>some ((Nat.beq sz 1 || es.isEmpty)&&allFit (aM.fits (.int .i32)) es,.str (xM es))
     |_=>none
    |none=>none
   |_=>none
  |.str,.jB id off 1 len _=>match i.k,nth s.G id with
   |.sl elem 1 _ _ _,some (.row cs _)=>match E.ti elem with
    |some e=>match e.k with
     |.int .u8=>some (Nat.ble (off+len) cs.length&&allFit (aM.fits (.int .u8)) (jC off (off+len) cs),.str (r7 (jC off (off+len) cs)))
     |_=>none
    |none=>none
   |_,_=>none
  |_,_=>none
 |_,_,_=>none
def IQ (id sz:Nat):List AV→List Nat→Option (List AV × List Nat)
 |[],fs=>some ([],fs)
 |.list .nil _ [] :: l,fs=>match IQ id sz l (fs++[0]) with
  |some (r,Cc)=>some (.list (.bc id fs.length) sz [] :: r,Cc)
  |none=>none
 |.list .full bu es :: l,fs=>if Nat.beq sz bu then match IQ id sz l (fs++[es.length]) with
   |some (r,Cc)=>some (.list (.bc id fs.length) sz es :: r,Cc)
   |none=>none
  else none
 |_ :: _,_=>none
def Ak (e:EK) (k k':AV):Bool:=match E3 e k k' with
 |some b=>b
 |none=>false
def cK (e:EK) (k:AV):List (AV × AV)→Bool
 |[]=>true
 |(k',_) :: l=>(E3 e k k').isSome&&cK e k l
def e8 (e:EK) (k:AV):List (AV × AV)→Option AV
 |[]=>none
 |(k',v) :: l=>bif Ak e k k' then some v else e8 e k l
def cL (e:EK) (k v:AV):List (AV × AV)→List (AV × AV)
 |[]=>[(k,v)]
 |(k',v') :: l=>bif Ak e k k' then (k,v) :: l else (k',v') :: cL e k v l
def aP (e:EK) (k z:AV) (es:List (AV × AV)):AV:=(e8 e k es).getD z
def nh (e:EK) (k:AV):List (AV × AV)→Nat
 |[]=>0
 |(k',_) :: l=>bif Ak e k k' then 0 else nh e k l+1
def pN:List (AV × AV)→Nat→AV→List (AV × AV)
 |[],_,_=>[]
 |(k,_) :: l,0,x=>(k,x) :: l
 |e :: l,n+1,x=>e :: pN l n x
def uQ (E:Env) (s:St) (x:SV):Option (Bool × AV):=match x with
 |.v (.ptr id 0)=>match nth s.G id with
  |some (.jh rF n _ (some i) t)=>match nth s.G rF with
   |some (.map es)=>some (decide (es.length=n)&&decide (i < n)&&(sX E t (bY es i)).1,.bD [(sX E t (bY es i)).2.1,(sX E t (bY es i)).2.2])
   |_=>none
  |_=>none
 |_=>none
def gW (E:Env) (s:St) (t:TypeId) (m k:SV):Option (Bool × AV × St):=match E.ti t,m,k with
 |some i,.v (.map id),.v k=>match i.k,nth s.G id with
  |.map kt _ (some z),some (.map es)=>match E.ti kt with
   |some j=>if j.ek.plain&&jj j.ek k then
     some (cK j.ek k es,.bD [aP j.ek k z es,.int .i64 (nh j.ek k es:Nat)],s.bG (aq s.G id (.map (cL j.ek k (aP j.ek k z es) es)))) else none
   |none=>none
  |_,_=>none
 |_,_,_=>none
def eR (s:St) (m st x:SV):Option (Bool × St):=match m,st,x with
 |.v (.map id),.v (.int .i64 n),.v v=>match nth s.G id with
  |some (.map es)=>some (decide (0≤n)&&decide (n.toNat < es.length),s.bG (aq s.G id (.map (pN es n.toNat v))))
  |_=>none
 |_,_,_=>none
def iz (E:Env) (f:FuncId) (s:St) (o:Oper):Option (Bool × St):=match o.dst with
 |some d=>if E.xJ f (d+524288) then match o.op with
   |.call { callee:=.builtin .append,args,argTypes }=>match nf E s.ae args.toList,argTypes.toList with
    |some [.cZ id g off sz len,.list k szy (y :: ys)],[t,u]=>match E.ti t with
     |some i=>match i.k with
      |.sl elem esz _ bh (some z)=>match E.ti elem with
       |some j=>match j.k with
        |.sl e2 Hs _ _ _=>match jV s.G Hs e2 0 with
         |some mz=>match IQ mz Hs (y :: ys) (ng s.G mz),nth s.G id with
          |some (IR,Cc),some (.bo es bu e')=>
           if Nat.beq szy esz&&Nat.beq bu esz&&Nat.beq e' elem&&Nat.beq sz esz&&Nat.beq t u&&Nat.ble 1 esz&&Nat.ble 1 bh&&Nat.beq z.cells.length esz&&z.aS then
            some (decide (g=es.length)&&decide (off=0)&&decide (len=g)&&decide ((es.length+(y :: ys).length) * bh≤140737488355328),
             (s.bG (aq (aq s.G mz (.bc Cc Hs e2)) id (.bo (es++IR) esz elem))).put o.dst (.v (.cZ id (es.length+(y :: ys).length) 0 esz (es.length+(y :: ys).length))))
           else none
          |_,_=>none
         |none=>none
        |_=>none
       |none=>none
      |_=>none
     |none=>none
    |_,_=>none
   |_=>none
  else none
 |none=>none
def r8 (E:Env) (f:FuncId) (s:St) (o:Oper):Option (Bool × St):=match o.dst with
 |some d=>if E.xJ f (d+524288) then match o.op with
   |.lookup t m k ok=>match E.Zr t,E.ti t,bw E s.ae m,bw E s.ae k with
    |some (.bc e sz p),some i,.v (.map id),.v k=>match i.k,nth s.G id with
     |.map kt _ (some (.list .nil _ [])),some (.map es)=>match E.ti kt,jV s.G sz e 0 with
      |some j,some mz=>if j.ek.plain&&jj j.ek k then
        some (cK j.ek k es&&(aM.bc mz sz p).fits (aP j.ek k (.list (.bc mz (ng s.G mz).length) sz []) es),
         (s.bG (aq s.G mz (.bc (ng s.G mz++[0]) sz e))).put o.dst (.v (if ok then .bD [(aM.bc mz sz p).enc ((aM.bc mz sz p).bp (aP j.ek k (.list (.bc mz (ng s.G mz).length) sz []) es)),.bool (e8 j.ek k es).isSome]
          else (aM.bc mz sz p).enc ((aM.bc mz sz p).bp (aP j.ek k (.list (.bc mz (ng s.G mz).length) sz []) es)))))
       else none
      |_,_=>none
     |_,_=>none
    |_,_,_,_=>none
   |_=>none
  else none
 |none=>none
def Fs (E:Env) (f:FuncId) (s:St) (o:Oper):Option (Bool × St):=match o.op,o.dst with
 |.slice t x (some lo) none none,some d=>if E.xJ f (d+524288) then match E.ti t,bw E s.ae x,bw E s.ae lo with
   |some i,.v (.list (.own id) sz es),.v (.int _ n)=>match i.k,nth s.G id with
    |.sl _ esz _ _ _,some (.tok f0 bu e)=>
     if Nat.beq sz esz&&Nat.beq bu sz then
      some (decide (f0=es.length)&&(decide (0 < es.length)&&decide (0≤n∧n≤es.length)),(s.bG (aq s.G id .dead++[.tok (es.length - n.toNat) sz e])).put (some d) (.v (.list (.own s.G.length) sz (es.drop n.toNat))))
     else none
    |_,_=>none
   |_,_,_=>none
  else none
 |_,_=>none
def vG (E:Env) (f:FuncId) (s:St) (o:Oper):Option (Bool × St):=match Fs E f s o with
 |some r=>some r
 |none=>r8 E f s o
def aak (E:Env) (f:FuncId) (d:Option Tmp):Bool:=match d with
 |some d=>E.xJ f (d+196608)
 |none=>false
def qK:List GO→Nat→TypeId→Nat→Option Nat
 |[],_,_,_=>none
 |.bo es sz e :: G,bu,e',i=>match qK G bu e' (i+1) with
  |some j=>some j
  |none=>bif Nat.beq sz bu&&Nat.beq e e' then (match es with
   |[]=>some i
   |_=>none) else none
 |_ :: G,bu,e',i=>qK G bu e' (i+1)
def aal (E:Env) (f:FuncId) (d:Option Tmp):Bool:=match d with
 |some d=>E.xJ f (d+589824)
 |none=>false
def oD (s:St) (dst:Option Tmp) (elem esz bh:Nat) (z:AV) (n m:Int):Option (Bool × St):=match qK s.G esz elem 0 with
 |some id=>if z.closed then some (decide (1≤n∧n≤m∧m≤140737488355328∧m * bh≤140737488355328),(s.bG (aq s.G id (.bo (List.replicate n.toNat z) esz elem))).put dst (.v (.cZ id n.toNat 0 esz n.toNat))) else none
 |none=>none
def ak (E:Env) (f:FuncId) (s:St) (o:Oper):Option (Bool × St):=
 match o.op with
 |.move x=>match bw E s.ae x with
  |.v a=>some (true,s.put o.dst (.v a))
  |.lp k off=>some (true,s.put o.dst (.lp k off))
  |.none=>some (true,s.put o.dst .none)
 |.assign x=>match bw E s.ae x with
  |.v a=>some (true,s.put o.dst (.v a))
  |.lp k off=>some (true,s.put o.dst (.lp k off))
  |.none=>some (true,s.put o.dst .none)
 |.pick c a b=>match bw E s.ae c,bw E s.ae a,bw E s.ae b with
  |.v (.bool t),.v x,.v y=>some (true,s.put o.dst (.v (B9 t x y)))
  |_,_,_=>none
 |.alloc e=>match E.ti e with
  |some i=>match i.zero with
   |some z=>if z.aS then fJ E f s o.dst e z.cells else none
   |none=>none
  |none=>none
 |.box t x=>match bw E s.ae x with
  |.v v=>if v.aS then fJ E f s o.dst t v.cells else none
  |_=>none
 |.build t parts=>match oA E s t parts.toList with
  |some v=>some (true,s.put o.dst (.v v))
  |none=>none
 |.buildSlice t len parts=>match bZ E s t len parts.toList with
  |some v=>some (true,s.put o.dst (.v v))
  |none=>none
 |.load t a=>match A6 E s t (bw E s.ae a) with
  |some (c,v)=>some (c,s.put o.dst (.v v))
  |none=>none
 |.store t a x=>match o.dst,kq E s t (bw E s.ae a) (bw E s.ae x) with
  |none,some (c,s')=>some (c,s')
  |_,_=>none
 |.binOp op t x y _=>match bw E s.ae x,bw E s.ae y with
  |.v a,.v b=>match Dq op a b with
   |some (c,v)=>some (c,s.put o.dst (.v v))
   |none=>match eqO E op t a b with
    |some r=>some (true,s.put o.dst (.v (.bool r)))
    |none=>match RK E op t a b with
     |some r=>some (true,s.put o.dst (.v (.bool r)))
     |none=>none
  |_,_=>none
 |.unOp op _ x=>match op,bw E s.ae x with
  |.not,.v (.bool b)=>some (true,s.put o.dst (.v (.bool (!b))))
  |.neg,.v (.int k n)=>some (true,s.put o.dst (.v (.int k (k.wrap (0 - n)))))
  |_,_=>none
 |.convert a b x=>match nI E s a b (bw E s.ae x) with
  |some (c,v)=>some (c,s.put o.dst (.v v))
  |none=>none
 |.nilCheck x=>match bw E s.ae x with
  |.v (.ptr id off)=>some (true,s.put o.dst (.v (.ptr id off)))
  |.v (.ep cs)=>some (true,s.put o.dst (.v (.ep cs)))
  |.lp k off=>some (true,s.put o.dst (.lp k off))
  |_=>none
 |.makeFunc (.func g) first captured=>match nf E s.ae first.toList,nf E s.ae captured.toList with
  |some x,some y=>some (true,s.put o.dst (.v (.fn g x y)))
  |_,_=>none
 |.fieldAddr t x j=>match lB E t (bw E s.ae x) j with
  |some p=>some (true,s.put o.dst p)
  |none=>none
 |.field t x j=>match Fk E t (bw E s.ae x) j with
  |some v=>some (true,s.put o.dst (.v v))
  |none=>none
 |.indexAddr t x ix=>match lA E t (bw E s.ae x) (bw E s.ae ix) with
  |some (c,p)=>some (c,s.put o.dst p)
  |none=>none
 |.index t x ix=>match Fl E t (bw E s.ae x) (bw E s.ae ix) with
  |some (c,v)=>some (c,s.put o.dst (.v v))
  |none=>none
 |.slice t x lo hi mx=>match mC E s.ae lo,mC E s.ae hi with
  |some l,some h=>match Cb E t (bw E s.ae x) l h mx with
   |some (c,v)=>some (c,s.put o.dst (.v v))
   |none=>none
  |_,_=>none
 |.extract x i=>match bw E s.ae x with
  |.v (.bD vs)=>match nth vs i with
   |some v=>some (true,s.put o.dst (.v v))
   |none=>none
  |_=>none
 |.makeSlice t l c=>match E.ti t,bw E s.ae l,bw E s.ae c with
  |some i,.v (.int _ n),.v (.int _ m)=>match i.k with
   |.sl elem esz _ bh (some z)=>
    if Nat.beq z.cells.length esz&&Nat.ble 1 esz&&z.aS then
     if aal E f o.dst then oD s o.dst elem esz bh z n m
     else if aak E f o.dst then (if z.closed then some (decide (0≤n∧n≤m∧m≤140737488355328∧m * bh≤140737488355328),
      (s.dW (.bo (List.replicate n.toNat z) esz elem)).put o.dst (.v (.cZ s.G.length n.toNat 0 esz n.toNat))) else none)
     else some (decide (0≤n∧n≤m∧m≤140737488355328∧m * bh≤140737488355328),
      (s.dW (.row (aw (List.replicate m.toNat z)) elem)).put o.dst (.v (.jB s.G.length 0 esz n.toNat m.toNat)))
    else none
   |_=>none
  |_,_,_=>none
 |.lookup t m k ok=>match mJ E s t (bw E s.ae m) (bw E s.ae k) with
  |some (v,b)=>some (true,s.put o.dst (.v (if ok then .bD [v,.bool b] else v)))
  |none=>none
 |.mapUpdate t m k x=>match o.dst,fL E s t (bw E s.ae m) (bw E s.ae k) (bw E s.ae x) with
  |none,some s'=>some (true,s')
  |_,_=>none
 |.insert t m k x=>match o.dst,fL E s t (bw E s.ae m) (bw E s.ae k) (bw E s.ae x) with
  |none,some s'=>some (true,s')
  |_,_=>none
 |.entry x=>match uQ E s (bw E s.ae x) with
  |some (c,v)=>some (c,s.put o.dst (.v v))
  |none=>none
 |.mapEntry t m k=>match gW E s t (bw E s.ae m) (bw E s.ae k) with
  |some (c,v,s')=>some (c,s'.put o.dst (.v v))
  |none=>none
 |.entryStore _ m st x=>match o.dst,eR s (bw E s.ae m) (bw E s.ae st) (bw E s.ae x) with
  |none,some (c,s')=>some (c,s')
  |_,_=>none
 |.range t x=>match E.ti t,bw E s.ae x with
  |some i,.v (.str l)=>match i.k with
   |.str=>some (true,(s.dW (.ic l 0)).put o.dst (.v (.ptr s.G.length 0)))
   |_=>none
  |some i,.v (.map id)=>match i.k,nth s.G id with
   |.map _ _ _,some (.map es)=>some (true,(s.dW (.jh id es.length (List.range es.length) none t)).put o.dst (.v (.ptr s.G.length 0)))
   |_,_=>none
  |_,_=>none
 |.next x true=>match mK s o.dst (bw E s.ae x) with
  |some s'=>some (true,s')
  |none=>none
 |.makeMap _ none=>some (true,(s.dW (.map [])).put o.dst (.v (.map s.G.length)))
 |.call { callee:=.builtin b,args,argTypes }=>match iz E f s o with
  |some r=>some r
  |none=>match nf E s.ae args.toList with
   |some l=>bQ E s o.dst b l argTypes.toList
   |none=>none
 |_=>none
end Go.Am
namespace Go.Am
open Go
inductive TR where
 |bz
 |full (f:Nat)
 |tok (f b c:Nat)
inductive RO where
 |none
 |bz
 |bK (b:Nat)
 |tok (f b c k:Nat)
 |bc (ts:List TR)
def RO.has:RO→Nat→Prop
 |.none,_=>False
 |.bz,_=>False
 |.bK b,x=>x=b
 |.tok _ b _ _,x=>x=b
 |.bc ts,x=>∃ j f c,nth ts j=some (.tok f x c)
def jk (sz:Nat) (es:List AV):Prop:=∀ e∈es,e.cells.length=sz∧e.aS=true∧e.closed=true
def dw (sz:Nat) (es:List AV):Prop:=∀ e∈es,e.cells.length=sz∧e.aS=true
theorem jk.g {sz:Nat} {es:List AV} (h:jk sz es):dw sz es:=fun e he=>⟨(h e he).1,(h e he).2.1⟩
structure ai where
 I:Nat→Nat→Prop
 obj:List RO
def KL (b o len cap:Nat):RO→Prop
 |.none=>True
 |.bz=>False
 |.bK _=>False
 |.tok f b' c' k'=>len≤f∧(len=f→b=b'∧(o=k'∨cap=0)∧cap=c')
 |.bc _=>False
def NY (b o len cap:Nat):TR→Prop
 |.bz=>False
 |.full f=>len≤f∧(len=f→cap=len)
 |.tok f b' c'=>len≤f∧(len=f→b=b'∧o=0∧cap=c')
def WO (b o len cap j:Nat):RO→Prop
 |.none=>True
 |.bz=>False
 |.bK _=>False
 |.tok _ _ _ _=>False
 |.bc ts=>∃ t,nth ts j=some t∧NY b o len cap t
def uR:RO→Prop
 |.none=>True
 |.bz=>False
 |.bK _=>False
 |.tok _ _ _ _=>False
 |.bc _=>True
def ni:RO→Prop
 |.none=>True
 |.bz=>True
 |.bK _=>False
 |.tok f _ _ _=>1≤f
 |.bc _=>False
def IS (b o f off sz cap:Nat):RO→Prop
 |.none=>True
 |.bz=>False
 |.bK _=>False
 |.tok f' b' c' _=>f≤f'∧(f=f'→b=b'∧off+cap=c'∧(o=off * sz∨cap=0))
 |.bc _=>False
def KM (b o f i off sz:Nat):RO→Prop
 |.none=>True
 |.bz=>False
 |.bK _=>False
 |.tok f' b' _ _=>f≤f'∧(f=f'→b=b'∧o=i * sz+off)
 |.bc _=>False
def Cd (R:ai) (k:LK) (b o len cap:Nat):Prop:=match k with
 |.nil=>False
 |.full=>cap=len
 |.ea=>True
 |.own id=>∃ ro,nth R.obj id=some ro∧KL b o len cap ro
 |.bc id j=>∃ ro,nth R.obj id=some ro∧WO b o len cap j ro
mutual
inductive Rel (R:ai) (w:World):AV→Value→Prop
 |bool (b:Bool):Rel R w (.bool b) (.bool b)
 |int (k:IntKind) (n:Int):Rel R w (.int k n) (.int k n)
 |str (l:List UInt8):Rel R w (.str l) (.string ⟨⟨l⟩⟩)
 |agg {cs:List AV} {vs:List Value} (h:aL R w cs vs) (h1:∀ v∈vs,v.oneCell'=true):Rel R w (.agg cs) (.agg ⟨vs⟩)
 |bD {cs:List AV} {vs:List Value} (h:aL R w cs vs):Rel R w (.bD cs) (.tuple ⟨vs⟩)
 |na:Rel R w .na (.pointer none)
 |ptr {id off b:Nat} (h:nth R.obj id=some (.bK b)):Rel R w (.ptr id off) (.pointer (some ⟨b,off,none⟩))
 |ep {cs:List AV} {b o:Nat} (h:fg R w b o cs):Rel R w (.ep cs) (.pointer (some ⟨b,o,none⟩))
 |jD {sz:Nat}:Rel R w (.list .nil sz []) (.slice none 0 0)
 |jl {sz:Nat}:Rel R w (.list .ea sz []) (.slice none 0 0)
 |nj {sz:Nat} {a:Addr}:Rel R w (.list .ea sz []) (.slice (some a) 0 0)
 |kL {id sz:Nat} {ro:RO} (h:nth R.obj id=some ro) (ho:ni ro):Rel R w (.list (.own id) sz []) (.slice none 0 0)
 |mD {id j sz:Nat} {ro:RO} (h:nth R.obj id=some ro) (ho:uR ro):Rel R w (.list (.bc id j) sz []) (.slice none 0 0)
 |list {k:LK} {sz:Nat} {es:List AV} {b o len cap:Nat} (h:iA R w b o sz es) (hl:len=es.length) (hc:len≤cap) (hk:Cd R k b o len cap):Rel R w (.list k sz es) (.slice (some ⟨b,o,none⟩) len cap)
 |jB {id off sz len cap b:Nat} (h:nth R.obj id=some (.bK b)) (hc:len≤cap):Rel R w (.jB id off sz len cap) (.slice (some ⟨b,off,none⟩) len cap)
 |jE {id sz:Nat} {ro:RO} (h:nth R.obj id=some ro) (ho:ni ro):Rel R w (.cZ id 0 0 sz 0) (.slice none 0 0)
 |cZ {id f off sz len cap b o:Nat} {ro:RO} (h:nth R.obj id=some ro) (ho:IS b o f off sz cap ro) (hc:len≤cap):Rel R w (.cZ id f off sz len) (.slice (some ⟨b,o,none⟩) len cap)
 |gp {id f i off sz b o:Nat} {t:TypeId} {ro:RO} (h:nth R.obj id=some ro) (ho:KM b o f i off sz ro):Rel R w (.gp id f i off sz t) (.pointer (some ⟨b,o,none⟩))
 |kJ:Rel R w .kJ (.map none)
 |map {id b:Nat} (h:nth R.obj id=some (.bK b)):Rel R w (.map id) (.map (some b))
 |ee:Rel R w .ee .nilFunc
 |fn {f:FuncId} {xs ys:List AV} {vs us:List Value} (h:aL R w xs vs) (h':aL R w ys us):Rel R w (.fn f xs ys) (.func (.func f) ⟨vs⟩ ⟨us⟩)
 |yield {id b:Nat} (h:nth R.obj id=some (.bK b)):Rel R w (.yield id) (.func (.yield b) #[] #[])
 |rE:Rel R w .rE .nilIface
 |iface {t:TypeId} {v:AV} {c:Value} (h:Rel R w v c):Rel R w (.iface t v) (.iface t c)
inductive aL (R:ai) (w:World):List AV→List Value→Prop
 |nil:aL R w [] []
 |cons {a:AV} {c:Value} {l:List AV} {cs:List Value} (h:Rel R w a c) (t:aL R w l cs):aL R w (a :: l) (c :: cs)
inductive iA (R:ai) (w:World):Nat→Nat→Nat→List AV→Prop
 |nil {b o sz:Nat}:iA R w b o sz []
 |cons {b o sz:Nat} {e:AV} {es:List AV} (hl:e.cells.length=sz) (ht:e.aS=true) (hk:e.closed=true) (h:fg R w b o e.cells) (t:iA R w b (o+sz) sz es):iA R w b o sz (e :: es)
inductive fg (R:ai) (w:World):Nat→Nat→List AV→Prop
 |nil {b o:Nat}:fg R w b o []
 |cons {b o:Nat} {a:AV} {c:Value} {l:List AV} (hc:w.cell? ⟨b,o,none⟩=some c) (h1:c.oneCell'=true) (hi:R.I b o) (h:Rel R w a c) (t:fg R w b (o+1) l):fg R w b o (a :: l)
end
def np:TR→TR→Prop
 |.bz,.bz=>True
 |.bz,.full _=>False
 |.bz,.tok f _ _=>1≤f
 |.full _,.bz=>False
 |.full f,.full f'=>f'=f
 |.full f,.tok f' _ _=>f < f'
 |.tok _ _ _,.bz=>False
 |.tok _ _ _,.full _=>False
 |.tok f b c,.tok f' b' c'=>f≤f'∧(f'=f→b'=b∧c'=c)
theorem np.refl (t:TR):np t t:=by cases t <;> simp [np]
theorem np.trans {a b c:TR} (h:np a b) (k:np b c):np a c:=by
 cases a <;> cases b <;> cases c <;> simp only [np] at * <;> omega
def uS (ts V0:List TR):Prop:=∀ j t,nth ts j=some t→∃ t',nth V0 j=some t'∧np t t'
theorem uS.refl (ts:List TR):uS ts ts:=fun _ t h=>⟨t,h,np.refl t⟩
theorem uS.trans {a b c:List TR} (h:uS a b) (k:uS b c):uS a c:=fun j t hj=>
 let ⟨_,h1,h2⟩:=h j t hj
 let ⟨t2,k1,k2⟩:=k j _ h1
 ⟨t2,k1,h2.trans k2⟩
def cp:RO→RO→Prop
 |.none,r=>r=.none
 |.bK b,r=>r=.bK b
 |.bz,.none=>True
 |.bz,.bz=>True
 |.bz,.bK _=>False
 |.bz,.tok f _ _ _=>1≤f
 |.tok _ _ _ _,.none=>True
 |.tok _ _ _ _,.bz=>False
 |.tok _ _ _ _,.bK _=>False
 |.tok f b c k,.tok f' b' c' k'=>f≤f'∧(f'=f→b'=b∧c'=c∧k'=k)
 |.bz,.bc _=>False
 |.tok _ _ _ _,.bc _=>False
 |.bc _,.none=>True
 |.bc _,.bz=>False
 |.bc _,.bK _=>False
 |.bc _,.tok _ _ _ _=>False
 |.bc ts,.bc V0=>uS ts V0
theorem cp.refl (r:RO):cp r r:=by cases r <;> simp [cp,uS.refl]
theorem cp.trans {a b c:RO} (h:cp a b) (k:cp b c):cp a c:=by
 cases a with
 |none=>simp only [cp] at h; subst h; exact k
 |bK x=>simp only [cp] at h; subst h; exact k
 |bz=>
  cases b with
  |none=>simp only [cp] at k; subst k; trivial
  |bz=>exact k
  |bK z=>exact h.elim
  |tok f' x' y' z'=>
   cases c with
   |none=>trivial
   |bz=>exact k.elim
   |bK z=>exact k.elim
   |bc _=>exact k.elim
   |tok f'' x'' y'' z''=>simp only [cp] at *; omega
  |bc _=>exact h.elim
 |tok f x y z0=>
  cases b with
  |none=>simp only [cp] at k; subst k; trivial
  |bz=>exact h.elim
  |bK z=>exact h.elim
  |tok f' x' y' z'=>
   cases c with
   |none=>trivial
   |bz=>exact k.elim
   |bK z=>exact k.elim
   |tok f'' x'' y'' z''=>
    simp only [cp] at *;refine ⟨Nat.le_trans h.1 k.1,fun e=>?_⟩;obtain ⟨h1,h2⟩:=h; obtain ⟨k1,k2⟩:=k;have e1:f'=f:=by omega
    have e2:f''=f':=by omega
    exact ⟨(k2 e2).1.trans (h2 e1).1,(k2 e2).2.1.trans (h2 e1).2.1,(k2 e2).2.2.trans (h2 e1).2.2⟩
   |bc _=>exact k.elim
  |bc _=>exact h.elim
 |bc ts=>
  cases b with
  |none=>simp only [cp] at k; subst k; trivial
  |bz=>exact h.elim
  |bK z=>exact h.elim
  |tok f' x' y' z'=>exact h.elim
  |bc V0=>
   cases c with
   |none=>trivial
   |bz=>exact k.elim
   |bK z=>exact k.elim
   |tok f' x' y' z'=>exact k.elim
   |bc ts''=>exact uS.trans h k
def pO (r r':Loop):Prop:=r'.tmps=r.tmps∧r'.params=r.params∧r'.assign=r.assign∧r'.body=r.body∧r'.defers=r.defers
def fh (w w':World):Prop:=∀ (b:Nat) (r:Loop),w.heap[b]?=some (Obj.loop r)→∃ r',w'.heap[b]?=some (Obj.loop r')∧pO r r'
theorem fh.refl (w:World):fh w w:=fun _ r h=>⟨r,h,rfl,rfl,rfl,rfl,rfl⟩
theorem fh.trans {w w1 w2:World} (h:fh w w1) (k:fh w1 w2):fh w w2:=fun b r hb=>
 let ⟨_,h1,h2,h3,h4,h5,h6⟩:=h b r hb
 let ⟨r2,k1,k2,k3,k4,k5,k6⟩:=k b _ h1
 ⟨r2,k1,k2.trans h2,k3.trans h3,k4.trans h4,k5.trans h5,k6.trans h6⟩
theorem fh.old {w w':World} (h:∀ b,b < w.heap.size→w'.heap[b]?=w.heap[b]?):fh w w':=fun b r hb=>
 ⟨r,(h b (by
  rcases Nat.lt_or_ge b w.heap.size with bO|A9
  ·exact bO
  ·rw [Array.getElem?_eq_none A9] at hb; cases hb)).trans hb,rfl,rfl,rfl,rfl,rfl⟩
structure Ext (R:ai) (w:World) (R':ai) (w':World):Prop where
 I:∀ b o,R.I b o→R'.I b o
 cell:∀ b o,R.I b o→w'.cell? ⟨b,o,none⟩=w.cell? ⟨b,o,none⟩
 obj:∀ id ro,nth R.obj id=some ro→∃ nF,nth R'.obj id=some nF∧cp ro nF
 lp:fh w w'
theorem Ext.refl (R:ai) (w:World):Ext R w R w:=⟨fun _ _ h=>h,fun _ _ _=>rfl,fun _ ro h=>⟨ro,h,cp.refl ro⟩,fh.refl w⟩
theorem Ext.trans {R R' KN:ai} {w w' NZ:World} (h:Ext R w R' w') (k:Ext R' w' KN NZ):Ext R w KN NZ:=
 ⟨fun b o hi=>k.I b o (h.I b o hi),fun b o hi=>(k.cell b o (h.I b o hi)).trans (h.cell b o hi),fun id ro hr=>
  let ⟨_,h1,h2⟩:=h.obj id ro hr
  let ⟨r2,h3,h4⟩:=k.obj id _ h1
  ⟨r2,h3,h2.trans h4⟩,h.lp.trans k.lp⟩
theorem Ext.bK {R R':ai} {w w':World} (h:Ext R w R' w') {id b:Nat} (hb:nth R.obj id=some (.bK b)):nth R'.obj id=some (.bK b):=by
 obtain ⟨r,h1,h2⟩:=h.obj id _ hb;simp only [cp] at h2;subst h2;exact h1
theorem Cd.mono {R R':ai} {w w':World} (e:Ext R w R' w') {k:LK} {b o len cap:Nat} (h:Cd R k b o len cap):Cd R' k b o len cap:=by
 cases k with
 |nil=>exact h
 |full=>exact h
 |ea=>trivial
 |own id=>
  obtain ⟨ro,h1,h2⟩:=h;obtain ⟨nF,h3,h4⟩:=e.obj id ro h1;refine ⟨nF,h3,?_⟩;cases ro with
  |none=>simp only [cp] at h4; subst h4; trivial
  |bz=>exact h2.elim
  |bK x=>exact h2.elim
  |tok f x y z0=>
   cases nF with
   |none=>trivial
   |bz=>exact h4.elim
   |bK z=>exact h4.elim
   |tok f' x' y' z'=>
    simp only [cp,KL] at *;refine ⟨by omega,fun e=>?_⟩;have e1:f'=f:=by omega
    have h5:=h2.2 (by omega);have h6:=h4.2 e1;exact ⟨h5.1.trans h6.1.symm,h5.2.1.imp (fun q=>q.trans h6.2.2.symm) (fun q=>q),h5.2.2.trans h6.2.1.symm⟩
   |bc _=>exact h4.elim
  |bc _=>exact h2.elim
 |bc id j=>
  obtain ⟨ro,h1,h2⟩:=h;obtain ⟨nF,h3,h4⟩:=e.obj id ro h1;refine ⟨nF,h3,?_⟩;cases ro with
  |none=>simp only [cp] at h4; subst h4; trivial
  |bz=>exact h2.elim
  |bK x=>exact h2.elim
  |tok _ _ _ _=>exact h2.elim
  |bc ts=>
   cases nF with
   |none=>trivial
   |bz=>exact h4.elim
   |bK z=>exact h4.elim
   |tok _ _ _ _=>exact h4.elim
   |bc V0=>
    obtain ⟨t,k1,k2⟩:=h2;obtain ⟨t',k3,k4⟩:=h4 j t k1;refine ⟨t',k3,?_⟩;cases t with
    |bz=>exact k2.elim
    |full f=>
     cases t' with
     |bz=>exact k4.elim
     |full f'=>simp only [np,NY] at *; subst k4; exact k2
     |tok f' x' y'=>simp only [np,NY] at *; exact ⟨by omega,fun e=>by omega⟩
    |tok f x y=>
     cases t' with
     |bz=>exact k4.elim
     |full f'=>exact k4.elim
     |tok f' x' y'=>
      simp only [np,NY] at *;refine ⟨by omega,fun e=>?_⟩;have e1:f'=f:=by omega
      have h5:=k2.2 (by omega);have h6:=k4.2 e1;exact ⟨h5.1.trans h6.1.symm,h5.2.1,h5.2.2.trans h6.2.symm⟩
theorem ni.mono {ro nF:RO} (h:ni ro) (e:cp ro nF):ni nF:=by
 cases ro with
 |none=>simp only [cp] at e; subst e; trivial
 |bz=>cases nF <;> first | trivial | exact e.elim | exact e
 |bK _=>exact h.elim
 |tok f x y z0=>
  cases nF with
  |none=>trivial
  |bz=>exact e.elim
  |bK z=>exact e.elim
  |tok f' x' y' z'=>simp only [cp,ni] at *; omega
  |bc _=>exact e.elim
 |bc _=>exact h.elim
theorem uR.mono {ro nF:RO} (h:uR ro) (e:cp ro nF):uR nF:=by
 cases ro with
 |none=>simp only [cp] at e; subst e; trivial
 |bz=>exact h.elim
 |bK _=>exact h.elim
 |tok _ _ _ _=>exact h.elim
 |bc ts=>
  cases nF with
  |none=>trivial
  |bz=>exact e.elim
  |bK z=>exact e.elim
  |tok _ _ _ _=>exact e.elim
  |bc V0=>trivial
theorem IS.mono {b o f off sz cap:Nat} {ro nF:RO} (h:IS b o f off sz cap ro) (e:cp ro nF):IS b o f off sz cap nF:=by
 cases ro with
 |none=>simp only [cp] at e; subst e; trivial
 |bz=>exact h.elim
 |bK _=>exact h.elim
 |tok f1 x y z0=>
  cases nF with
  |none=>trivial
  |bz=>exact e.elim
  |bK z=>exact e.elim
  |tok f' x' y' z'=>
   simp only [cp,IS] at *;refine ⟨by omega,fun k=>?_⟩;obtain ⟨e1,e2,_⟩:=e.2 (by omega);obtain ⟨h1,h2,h3⟩:=h.2 (by omega);exact ⟨h1.trans e1.symm,h2.trans e2.symm,h3⟩
  |bc _=>exact e.elim
 |bc _=>exact h.elim
theorem KM.mono {b o f i off sz:Nat} {ro nF:RO} (h:KM b o f i off sz ro) (e:cp ro nF):KM b o f i off sz nF:=by
 cases ro with
 |none=>simp only [cp] at e; subst e; trivial
 |bz=>exact h.elim
 |bK _=>exact h.elim
 |tok f1 x y z0=>
  cases nF with
  |none=>trivial
  |bz=>exact e.elim
  |bK z=>exact e.elim
  |tok f' x' y' z'=>
   simp only [cp,KM] at *;refine ⟨by omega,fun k=>?_⟩;obtain ⟨e1,e2,_⟩:=e.2 (by omega);obtain ⟨h1,h2⟩:=h.2 (by omega);exact ⟨h1.trans e1.symm,h2⟩
  |bc _=>exact e.elim
 |bc _=>exact h.elim
mutual
theorem Rel.mono {R R':ai} {w w':World} (e:Ext R w R' w'):∀ {a:AV} {c:Value},Rel R w a c→Rel R' w' a c
 |_,_,.bool b=>.bool b
 |_,_,.int k n=>.int k n
 |_,_,.str l=>.str l
 |_,_,.agg h h1=>.agg (h.mono e) h1
 |_,_,.bD h=>.bD (h.mono e)
 |_,_,.na=>.na
 |_,_,.ptr h=>.ptr (e.bK h)
 |_,_,.ep h=>.ep (h.mono e)
 |_,_,.jD=>.jD
 |_,_,.jl=>.jl
 |_,_,.nj=>.nj
 |_,_,.kL h ho=>let ⟨_,h3,h4⟩:=e.obj _ _ h; .kL h3 (ho.mono h4)
 |_,_,.mD h ho=>let ⟨_,h3,h4⟩:=e.obj _ _ h; .mD h3 (ho.mono h4)
 |_,_,.list h hl hc hk=>.list (h.mono e) hl hc (hk.mono e)
 |_,_,.jB h hc=>.jB (e.bK h) hc
 |_,_,.jE h ho=>let ⟨_,h3,h4⟩:=e.obj _ _ h; .jE h3 (ho.mono h4)
 |_,_,.cZ h ho hc=>let ⟨_,h3,h4⟩:=e.obj _ _ h; .cZ h3 (ho.mono h4) hc
 |_,_,.gp h ho=>let ⟨_,h3,h4⟩:=e.obj _ _ h; .gp h3 (ho.mono h4)
 |_,_,.kJ=>.kJ
 |_,_,.map h=>.map (e.bK h)
 |_,_,.ee=>.ee
 |_,_,.fn h h'=>.fn (h.mono e) (h'.mono e)
 |_,_,.yield h=>.yield (e.bK h)
 |_,_,.rE=>.rE
 |_,_,.iface h=>.iface (h.mono e)
theorem aL.mono {R R':ai} {w w':World} (e:Ext R w R' w'):∀ {l:List AV} {cs:List Value},aL R w l cs→aL R' w' l cs
 |_,_,.nil=>.nil
 |_,_,.cons h t=>.cons (h.mono e) (t.mono e)
theorem iA.mono {R R':ai} {w w':World} (e:Ext R w R' w'):∀ {b o sz:Nat} {l:List AV},iA R w b o sz l→iA R' w' b o sz l
 |_,_,_,_,.nil=>.nil
 |_,_,_,_,.cons hl ht hk h t=>.cons hl ht hk (h.mono e) (t.mono e)
theorem fg.mono {R R':ai} {w w':World} (e:Ext R w R' w'):∀ {b o:Nat} {l:List AV},fg R w b o l→fg R' w' b o l
 |_,_,_,.nil=>.nil
 |_,_,_,.cons hc h1 hi h t=>.cons ((e.cell _ _ hi).trans hc) h1 (e.I _ _ hi) (h.mono e) (t.mono e)
end
end Go.Am
namespace Go.Am
open Go
section lists
variable {α:Type}
theorem aV (l:List α) (n:Nat):nth l n=l[n]?:=by
 induction l generalizing n with
 |nil=>simp [nth]
 |cons a l ih=>cases n <;> simp [nth,ih]
theorem dQ (l:List α) (n:Nat) (x:α):aq l n x=l.set n x:=by
 induction l generalizing n with
 |nil=>simp [aq]
 |cons a l ih=>cases n <;> simp [aq,ih]
theorem bi {l:List α} {n:Nat} {x:α} (h:nth l n=some x):n < l.length:=by
 rw [aV] at h;exact (List.getElem?_eq_some_iff.1 h).1
theorem ay {l:List α} {n:Nat} {x y:α} (h:nth l n=some y):nth (aq l n x) n=some x:=by
 have:=bi h;rw [aV,dQ,List.getElem?_set_self this]
theorem a8 {l:List α} {n m:Nat} {x:α} (h:n≠m):nth (aq l n x) m=nth l m:=by
 rw [aV,dQ,aV,List.getElem?_set_ne h]
theorem dZ {l:List α} {n m:Nat} {x y:α} (h:nth (aq l n x) m=some y):(n=m∧y=x∧m < l.length)∨(n≠m∧nth l m=some y):=by
 by_cases e:n=m
 ·subst e;have hl:=bi h;rw [dQ,List.length_set] at hl;rw [aV,dQ,List.getElem?_set_self hl] at h;exact .inl ⟨rfl,(Option.some.inj h).symm,hl⟩
 ·rw [a8 e] at h;exact .inr ⟨e,h⟩
@[simp] theorem iR (l:List α) (n:Nat) (x:α):(aq l n x).length=l.length:=by rw [dQ,List.length_set]
theorem cI (l:List α) (x:α):nth (l++[x]) l.length=some x:=by rw [aV]; simp
theorem bA {l:List α} {n:Nat} {y x:α} (h:nth l n=some y):nth (l++[x]) n=some y:=by
 have:=bi h;rw [aV] at *;rw [List.getElem?_append_left this];exact h
theorem aj {l:List α} {n:Nat} {y x:α} (h:nth (l++[x]) n=some y):nth l n=some y∨(n=l.length∧y=x):=by
 rw [aV] at *;by_cases e:n < l.length
 ·rw [List.getElem?_append_left e] at h; exact .inl h
 ·rw [List.getElem?_append_right (by omega)] at h;have hl:=(List.getElem?_eq_some_iff.1 h).1;simp at hl;have:n - l.length=0:=by omega
  rw [this] at h;simp at h;exact .inr ⟨by omega,h.symm⟩
theorem pP:∀ {l:List α} {n:Nat} {x:α},nth l n=some x→aq l n x=l
 |[],_,_,h=>by cases h
 |a :: l,0,x,h=>by cases h; rfl
 |a :: l,n+1,x,h=>by
  show a :: aq l n x=a :: l;rw [pP (show nth l n=some x from h)]
end lists
def RL (R:ai) (w:World) (WQ:ba→Array Value→Prop) (busy:Bool) (pending:Option Code) (ae:ba) (n:Nat) (params:List Tmp) (assign body:Code) (defers:Nat) (done:Bool) (b:Nat):Prop:=
 ∃ (r:Loop) (db:Nat),w.heap[b]?=some (.loop r)∧r.state=(if done then .done else if busy then .busy else .ready)∧r.pending=pending ∧
  WQ ae r.tmps∧r.tmps.size=n∧r.params=⟨params⟩∧r.assign=assign∧r.body=body∧r.defers=db∧nth R.obj defers=some (.bK db)
def pQ (R:ai) (w:World) (β:Nat→Nat):SV→Value→Prop
 |.none,_=>True
 |.v a,c=>Rel R w a c
 |.lp k off,c=>c=.pointer (some ⟨β k,off,none⟩)
def pR (R:ai) (w:World) (β:Nat→Nat) (ae:ba) (tmps:Array Value):Prop:=
 ∀ i,lk ae i≠.none→∃ c,tmps[i]?=some c∧pQ R w β (lk ae i) c
def Ht:ba→Bool
 |[]=>true
 |.put _ (.lp _ _) :: _=>false
 |_ :: l=>Ht l
def dO (R:ai) (w:World):List (AV × AV)→List MapEntry→Prop
 |[],[]=>True
 |(k,v) :: l,e :: es=>Rel R w k e.key∧Rel R w v e.val∧dO R w l es
 |_,_=>False
def Ba (R:ai) (w:World) (sz:Nat) (e:TypeId) (f:Nat):TR→Prop
 |.bz=>f=0
 |.full f'=>f'=f
 |.tok f' b c=>f'=f∧∃ cur,w.heap[b]?=some (.cells cur e (0,0))∧f≤c∧c≤maxLen∧cur.size=c * sz∧∀ o,f * sz≤o→¬ R.I b o
def WR (ts:List TR):Prop:=∀ i j f b c f' c',nth ts i=some (.tok f b c)→nth ts j=some (.tok f' b c')→i=j
def xN (R:ai) (w:World) (sz:Nat) (e:TypeId) (fs:List Nat) (ts:List TR):Prop:=
 ts.length=fs.length∧WR ts∧∀ j f t,nth fs j=some f→nth ts j=some t→Ba R w sz e f t
def kr (aD:Array MapEntry) (clock:Nat):Prop:=clock=aD.size∧∀ (i:Nat) (e:MapEntry),aD.toList[i]?=some e→e.born=i
def WS (R:ai) (w:World) (rF n:Nat) (left:List Nat) (cur:Option Nat) (b:Nat):Prop:=
 ∃ bm seen c0,nth R.obj rF=some (.bK bm)∧w.heap[b]?=some (.mapIter (some bm) n seen c0)∧(∀ i,i < n→(i∈left↔seen.contains i=false))∧(∀ i∈left,i < n)∧left.Nodup∧n≤c0∧∀ i,cur=some i→seen.back?=some i∧c0=n
def gX (R:ai) (w:World):GO→RO→Prop
 |.dead,.none=>True
 |.dead,.bz=>True
 |.dead,.bK b=>b < w.heap.size
 |.dead,.tok _ b _ _=>b < w.heap.size
 |.dead,.bc ts=>∀ j f b c,nth ts j=some (.tok f b c)→b < w.heap.size
 |.bc fs sz e,.bc ts=>xN R w sz e fs ts
 |.jh rF n left cur _,.bK b=>WS R w rF n left cur b
 |.tok f _ _,.bz=>f=0
 |.row cs el,.bK b=>∃ vs,w.heap[b]?=some (.cells ⟨vs⟩ el (0,0))∧aL R w cs vs∧(∀ v∈vs,v.oneCell'=true)∧∀ o,¬ R.I b o
 |.tok f sz e,.tok f' b c k=>f'=f∧∃ cur,w.heap[b]?=some (.cells cur e (0,0))∧f≤c∧c≤maxLen∧cur.size=k+c * sz∧∀ o,k+f * sz≤o→¬ R.I b o
 |.bo es _ _,.bz=>es=[]
 |.bo es sz e,.tok f b c k=>k=0∧f=es.length∧dw sz es∧∃ cur vs,w.heap[b]?=some (.cells cur e (0,0))∧f≤c∧c≤maxLen∧cur.size=c * sz∧(∀ o,¬ R.I b o)∧aL R w (aw es) vs∧(∀ v∈vs,v.oneCell'=true)∧cur.toList.take (f * sz)=vs
 |.map es,.bK b=>∃ aD clock,w.heap[b]?=some (.map aD clock)∧dO R w es aD.toList∧kr aD clock
 |.ic l pos,.bK b=>w.heap[b]?=some (.stringIter ⟨⟨l⟩⟩ pos)
 |.loop busy pending _ ae n params assign body defers done,.bK b=>RL R w (pR R w (fun _=>0)) busy pending ae n params assign body defers done b∧Ht ae=true
 |.defers o,.bK b=>w.heap[b]?=some (.deferred (if o then some [] else none))
 |_,_=>False
def nq (E:Env) (R:ai) (w:World) (g:Nat) (cs:List AV):Prop:=
 fg R w g 0 cs∧(E.gx g=true→R.I g cs.length∧w.cell? ⟨g,cs.length,none⟩=none)
theorem nq.mono {E:Env} {R R':ai} {w w':World} {g:Nat} {cs:List AV} (h:nq E R w g cs) (e:Ext R w R' w'):nq E R' w' g cs:=
 ⟨h.1.mono e,fun hx=>⟨e.I _ _ (h.2 hx).1,(e.cell _ _ (h.2 hx).1).trans (h.2 hx).2⟩⟩
structure fj (E:Env) (R:ai) (w:World) (G:List GO):Prop where
 len:R.obj.length=G.length
 obj:∀ id go ro,nth G id=some go→nth R.obj id=some ro→gX R w go ro
 inj:∀ i j ri rj b,nth R.obj i=some ri→nth R.obj j=some rj→ri.has b→rj.has b→i=j
 wf:∀ b o,R.I b o→b < w.heap.size
 dV:∀ g cs,E.dV g=some cs→nq E R w g cs
 lo:E.lo≤w.drawn
def Live (R:ai) (b:Nat):Prop:=∃ id ro,nth R.obj id=some ro∧ro.has b
structure N1 (R:ai) (w:World) (β:Nat→Nat) (boxes:cD):Prop where
 box:∀ k cs,di boxes k=some cs→(∃ vs el,w.heap[β k]?=some (.cells ⟨vs⟩ el (0,0))∧aL R w cs vs∧(∀ v∈vs,v.oneCell'=true))∧(∀ o,¬ R.I (β k) o)∧¬ Live R (β k)
 inj:∀ k k' cs eP,di boxes k=some cs→di boxes k'=some eP→β k=β k'→k=k'
def rI (R:ai):List Nat→List Deferred→Prop
 |[],[]=>True
 |id :: l,d :: ds=>(∃ b,nth R.obj id=some (.bK b)∧d={ target:=.collected b,args:=#[] })∧rI R l ds
 |_,_=>False
structure aX (E:Env) (R:ai) (w:World) (β:Nat→Nat) (s:St) (a:Act):Prop where
 g:fj E R w s.G
 b:N1 R w β s.boxes
 t:pR R w β s.ae a.tmps
 n:a.tmps.size=s.n
 d:rI R s.marks a.defers
def Own (R:ai) (β:Nat→Nat) (boxes:cD) (b:Nat):Prop:=
 Live R b∨∃ k cs,di boxes k=some cs∧β k=b
structure Step (R:ai) (w:World) (β:Nat→Nat) (bx:cD) (R':ai) (w':World) (β':Nat→Nat) (Hu:cD):Prop where
 ext:Ext R w R' w'
 os:w'.os=w.os
 tape:w'.tape=w.tape
 output:w'.output=w.output
 size:w.heap.size≤w'.heap.size
 aZ:∀ b,b < w.heap.size→¬ Own R β bx b→w'.heap[b]?=w.heap[b]?
 own:∀ b,b < w.heap.size→Own R' β' Hu b→Own R β bx b
 im:∀ b o,R'.I b o→b < w.heap.size→¬ Own R β bx b→R.I b o
theorem Step.refl (R:ai) (w:World) (β:Nat→Nat) (bx:cD):Step R w β bx R w β bx:=
 ⟨Ext.refl R w,rfl,rfl,rfl,Nat.le_refl _,fun _ _ _=>rfl,fun _ _ h=>h,fun _ _ h _ _=>h⟩
theorem Step.trans {R R1 R2:ai} {w w1 w2:World} {β β1 β2:Nat→Nat} {x x1 x2:cD}
  (h:Step R w β x R1 w1 β1 x1) (k:Step R1 w1 β1 x1 R2 w2 β2 x2):Step R w β x R2 w2 β2 x2 where
 ext:=h.ext.trans k.ext
 os:=k.os.trans h.os
 tape:=k.tape.trans h.tape
 output:=k.output.trans h.output
 size:=Nat.le_trans h.size k.size
 aZ:=fun b hb hn=>(k.aZ b (Nat.lt_of_lt_of_le hb h.size) (fun ho=>hn (h.own b hb ho))).trans (h.aZ b hb hn)
 own:=fun b hb ho=>h.own b hb (k.own b (Nat.lt_of_lt_of_le hb h.size) ho)
 im:=fun b o hi hb hn=>h.im b o (k.im b o hi (Nat.lt_of_lt_of_le hb h.size) (fun ho=>hn (h.own b hb ho))) hb hn
theorem pQ.mono {R R':ai} {w w':World} {β:Nat→Nat} (e:Ext R w R' w') {x:SV} {c:Value} (h:pQ R w β x c):pQ R' w' β x c:=by
 cases x with
 |none=>trivial
 |v a=>exact Rel.mono e h
 |lp k off=>exact h
theorem sY (n:Nat):Nat.beq n n=true:=Nat.beq_refl n
theorem oE {n m:Nat} (h:n≠m):Nat.beq n m=false:=by
 cases hb:Nat.beq n m with
 |true=>exact absurd (Nat.eq_of_beq_eq_true hb) h
 |false=>rfl
theorem aA (l:ba) (d:Nat) (x:SV):lk (.put d x :: l) d=x:=by simp [lk]
theorem aN {l:ba} {d t:Nat} {x:SV} (h:d≠t):lk (.put d x :: l) t=lk l t:=by simp [lk,oE h]
theorem Hv {l:ba} {d t:Nat}:(lk (.kill d :: l) t=lk l t∧∀ k off,lk l t=.lp k off→k≠d)∨lk (.kill d :: l) t=.none:=by
 simp only [lk];cases h:lk l t with
 |none=>exact .inr rfl
 |v a=>exact .inl ⟨rfl,fun _ _ e=>by cases e⟩
 |lp k off=>
  by_cases hk:k=d
  ·subst hk;exact .inr (by simp)
  ·exact .inl ⟨by simp [oE hk],fun k' gk e=>by cases e; exact hk⟩
theorem KO (l:cD) (d:Nat) (cs:List AV):di ((d,cs) :: l) d=some cs:=by simp [di]
theorem fk {l:cD} {d k:Nat} {cs eP:List AV} (h:di ((d,cs) :: l) k=some eP):(d=k∧eP=cs)∨(d≠k∧di l k=some eP):=by
 by_cases e:d=k
 ·subst e;rw [KO] at h;exact .inl ⟨rfl,(Option.some.inj h).symm⟩
 ·simp only [di,oE e,cond_false] at h;exact .inr ⟨e,h⟩
theorem N2 {l:cD} (h:l.all (fun p=>aF p.2)=true) {k:Nat} {cs:List AV} (hk:di l k=some cs):aF cs=true:=by
 induction l with
 |nil=>simp [di] at hk
 |cons x l ih=>
  obtain ⟨d,c⟩:=x;simp only [List.all_cons,Bool.and_eq_true] at h;rcases fk hk with ⟨_,rfl⟩|⟨_,hk⟩
  ·exact h.1
  ·exact ih h.2 hk
theorem pR.put {R:ai} {w:World} {β:Nat→Nat} {ae:ba} {a:Act} (h:pR R w β ae a.tmps) {d:Tmp} {x:SV} {c:Value} (hd:d < a.tmps.size) (hx:pQ R w β x c) :
  pR R w β (.put d x :: ae) (a.put (some d) c).tmps:=by
 intro i hi;by_cases e:d=i
 ·subst e;rw [aA];exact ⟨c,by simp [Act.put,hd],hx⟩
 ·rw [aN e] at hi ⊢;obtain ⟨c',h1,h2⟩:=h i hi;refine ⟨c',?_,h2⟩;simp only [Act.put];rw [Array.getElem?_setIfInBounds_ne e];exact h1
theorem aX.put {E:Env} {R:ai} {w:World} {β:Nat→Nat} {s:St} {a:Act} (h:aX E R w β s a) (dst:Option Tmp) {x:SV} {c:Value} (hx:pQ R w β x c) :
  aX E R w β (s.put dst x) (a.put dst c):=by
 cases dst with
 |none=>exact h
 |some d=>
  simp only [St.put];cases hb:Nat.blt d s.n with
  |true=>
   have hd:d < a.tmps.size:=by rw [h.n]; exact Nat.le_of_ble_eq_true hb
   exact ⟨h.g,h.b,h.t.put hd hx,by simp [Act.put,h.n],h.d⟩
  |false=>
   have hd:¬ d < a.tmps.size:=by
    rw [h.n];intro bO;have:Nat.blt d s.n=true:=Nat.ble_eq_true_of_le bO;rw [this] at hb;cases hb
   have he:a.put (some d) c=a:=by
    simp only [Act.put];rw [Array.setIfInBounds_eq_of_size_le (Nat.not_lt.1 hd)]
   rw [he];exact h
theorem sZ {R:ai} {w:World} {v:Value} {a:AV} (h:sQ v=some a):Rel R w a v∧v.oneCell'=true:=by
 unfold sQ at h;split at h <;> cases h
 ·exact ⟨.bool _,rfl⟩
 ·exact ⟨.int _ _,rfl⟩
 ·rename_i s;exact ⟨.str s.data.toList,rfl⟩
 ·exact ⟨.jD,rfl⟩
 ·exact ⟨.na,rfl⟩
 ·exact ⟨.kJ,rfl⟩
 ·exact ⟨.ee,rfl⟩
 ·exact ⟨.rE,rfl⟩
theorem oF {R:ai} {w:World}:∀ {vs:List Value} {l:List AV},nG vs=some l→aL R w l vs∧∀ v∈vs,v.oneCell'=true
 |[],l,h=>by simp [nG] at h; subst h; exact ⟨.nil,by simp⟩
 |v :: vs,l,h=>by
  unfold nG at h;split at h
  ·rename_i a r h1 h2;cases h;obtain ⟨k1,k2⟩:=sZ (R:=R) (w:=w) h1;obtain ⟨k3,k4⟩:=oF (R:=R) (w:=w) h2;exact ⟨.cons k1 k3,by simp [k2]; exact k4⟩
  ·cases h
theorem vH {R:ai} {w:World} {v:Value} {a:AV} (h:sR v=some a):Rel R w a v:=by
 unfold sR at h;split at h
 ·rename_i cs;split at h
  ·rename_i l hl;cases h;obtain ⟨k1,k2⟩:=oF (R:=R) (w:=w) hl;exact .agg (vs:=cs.toList) k1 k2
  ·cases h
 ·rename_i cs;split at h
  ·rename_i l hl;cases h;obtain ⟨k1,_⟩:=oF (R:=R) (w:=w) hl;exact .bD (vs:=cs.toList) k1
  ·cases h
 ·exact (sZ h).1
theorem aQ {E:Env} {R:ai} {w:World} {β:Nat→Nat} {s:St} {a:Act} (h:aX E R w β s a) (x:Operand):pQ R w β (bw E s.ae x) (a.eval x):=by
 cases x with
 |tmp t=>
  simp only [bw,Act.eval];by_cases hn:lk s.ae t=.none
  ·rw [hn]; trivial
  ·obtain ⟨c,h1,h2⟩:=h.t t hn;have:a.tmps.getD t undef=c:=by simp [Array.getD_eq_getD_getElem?,h1]
   rw [this];exact h2
 |const v=>
  simp only [bw,Act.eval];cases hc:sR v with
  |none=>trivial
  |some y=>exact vH hc
 |global g=>
  simp only [bw,Act.eval];cases hg:E.dV g with
  |none=>trivial
  |some cs=>exact Rel.ep (h.g.dV g cs hg).1
 |func f=>exact Rel.fn .nil .nil
end Go.Am
